/- Lemmas: ModT, ModU, ModV, ModW, ModX, ModZa, ModZb. -/
import Derived.Test.YtjdfihglehfelaaGreatDoorPf23
import Derived.Laws.EntriesVeiled
import Derived.WideMake
set_option maxRecDepth 100000
set_option maxHeartbeats 32000000
set_option linter.all false
namespace Go.Proofs.YtjdfihglehfelaaGreatDoor
open Go.Proofs.Tryz
open Go.RowKit Go.Maps Go.Shelf
def qG (g:af):ByteArray × Int:=bD (fun _ _ s=>xh g s) [] (aA g.F9)
theorem BS {ok:Nat->Prop}(g:af)(a:bN)(bc:Nat)(w:World)(kB:gY w bc g a)(hg:dN ok w g a)(hf:UQ g)(Li:Cu g)(Ud:∀ v∈g.F9,∀ s∈v.Gf,Ah s) :
  Calls prog 88 #[.pointer (some ⟨bc,0,none⟩)] w (gX (qG g) w):=by
 have hA:=ae w (.cells #[.pointer (some ⟨bc,0,none⟩)] 137);have hB:=b9 w (.cells #[.pointer (some ⟨bc,0,none⟩)] 137);have hA2:=ae (w.alloc (.cells #[.pointer (some ⟨bc,0,none⟩)] 137)) (.cells #[.func (.func 148) #[] #[.pointer (some ⟨w.heap.size,0,none⟩)]] 193);have HL:=aa (b9 (w.alloc (.cells #[.pointer (some ⟨bc,0,none⟩)] 137)) (.cells #[.func (.func 148) #[] #[.pointer (some ⟨w.heap.size,0,none⟩)]] 193));have HB:=aa ((hA2.block _ (aq hB)).trans hB);have HA:=aa (hA.trans (hA2.mono hA.size));clear hA hA2 hB;have I3:=aa (kB.below HA.o);have HG:=aa (hg.mv (Mv.of HA.o));have HF:=aa hf;have Qc:=aa Li;have Mx:=aa Ud;clear kB hg hf Li Ud;go_enter func88,ntmps88
 go_wp2_with fail
 generalize hW1:World.alloc (World.alloc w _) _=W1 at *;rw [cW] at HL;have hne:w.heap.size<w.heap.size+1:=Nat.lt_succ_self _;generalize hBl:w.heap.size+1=Bl at *;generalize Uc:w.heap.size=Bc at *;clear hW1;refine (wE (ok:=ok) (F:=fun _=>False) 150 [.pointer (some ⟨Bl,0,none⟩),.pointer (some ⟨Bc,0,none⟩)] (fun l W=>by go_simp) g a bc (fun _ _ s=>xh g s) (fun _ _=>True) W1 I3.o HG.o HF.o.sz (fun _ f=>f.elim) (fun _ _ _ _ _=>trivial) trivial ?_).mono ?_
 ·intro pre v s post hp W u1 u2 hm _ hv hs
  obtain ⟨m1,m2⟩:=jZ hp;have hb:=hm.none;refine (zb (ok:=ok) g a bc Bc Bl v s u1 u2 W (I3.o.below hb) ((hb.cell (p:=⟨Bc,0,none⟩) (aq HB.o)).trans (by simp [World.cell?,HB.o])) (cC (aq HB.o) hb.size) ((hb.cell (p:=⟨Bl,0,none⟩) (aq HL.o)).trans (by simp [World.cell?,HL.o])) (cC (aq HL.o) hb.size) (HG.o.mv (Mv.of hb)) HF.o.sz Qc.o HF.o.ext hv hs (Mx.o v m1 s m2)).mono ?_;rintro e W' ⟨rfl,hb'⟩;exact ⟨rfl,cR.of_below hb',fun _=>trivial⟩
 ·rintro e w2 ⟨rfl,hm,_⟩
  have HM:=aa hm;clear hm;have HR:Hid (qG g=_):=aa (qG.eq_1 g);go_wp2;go_ret2;subst Uc;exact ⟨by rw [HR.o];rfl,HA.o.trans (HM.o.none.mono HA.o.size)⟩
def uL (w:World)(b off:Nat)(l:List Bool):Prop:=∀ (i:Nat) (x:Bool),l[i]?=some x->w.cell? ⟨b,off+i,none⟩=some (.bool x)
theorem sJ (l:List Bool)(b off cap:Nat)(w:World)(h:uL w b off l)(hb:b<w.heap.size)(hl:l.length<=1000000) :
  Calls prog 195 #[.slice (some ⟨b,off,none⟩) l.length cap,.bool true] w fun e w'=>(∃ r:Int,e=.returned (.int .i64 r)/\decide (0<=r)=l.any id)/\Below w.heap.size w w':=by
 have HH:=aa h;clear h;go_enter func195,ntmps195;go_wp2
 go_loopw [8,5] (fun i _ wr=>∃ k:Nat,k<=l.length/\i=.int .i64 k/\Below w.heap.size w wr/\(l.take k).any id=false) (fun i _ _=>l.length - (intOf i).toNat)
 case atStart=>exact ⟨0,cg _,rfl,bj _ _,rfl⟩
 case round =>
  obtain ⟨k,hk,rfl,hB,hall⟩:=hrel;have cE:=aa hall;clear hall
  by_cases hlt:k<l.length
  ·obtain ⟨x,hx⟩:=aj l k hlt
   have q0:=(hB.cell (p:=⟨b,off+k,none⟩) hb).trans (HH.o k x hx);have I6:Hid ((l.take (k+1)).any id=x):=aa (by rw [take_snoc' l k x hx,rj,cE.o];simp);have AE:Hid (x=true->l.any id=true):=aa fun h=>List.any_eq_true.2 ⟨x,ct hx,h⟩;clear hx cE;cases x with
   | true =>
    have E3:=aa (AE.o rfl);go_wp2;go_ret;exact ⟨⟨k,rfl,by rw [E3.o];simp⟩,hB⟩
   | false =>
    have E3:=aa I6.o;go_wp2;go_roundw
    case rel=>exact ⟨k+1,by omega,by go_num,hB,E3.o⟩
    case measure=>simp [intOf];omega
  ·obtain rfl:k=l.length:=by omega
   rw [cI] at cE;go_wp2;go_ret;exact ⟨⟨-1,rfl,by rw [cE.o];rfl⟩,hB⟩
theorem oC (l:List Bool)(b off cap:Nat)(w:World)(h:uL w b off l)(hb:b<w.heap.size)(hl:l.length<=1000000) :
  Calls prog 153 #[.slice (some ⟨b,off,none⟩) l.length cap,.bool true] w fun e w'=>e=.returned (.bool (l.any id))/\Below w.heap.size w w':=by
 go_enter func153,ntmps153
 go_wp2_with fail
 refine (sJ l b off cap w h hb hl).mono ?_;rintro e w2 ⟨⟨r,rfl,hr2⟩,hb2⟩;have HR:=aa hr2;clear hr2;have HB:=aa hb2;clear hb2;go_wp2;go_ret;exact ⟨ah HR.o,HB.o⟩
section
open Go Go.Maps Go.MapKept Go.ChangeMaps
variable {P:Program}{k:TypeId}{w w':World}{b n:Nat}{f:Value->Option Value}
end
attribute [local go_sem] run_makeMap_plain
theorem zq (w:World) :
  Calls prog 82 #[] w fun e w'=>∃ b,e=.returned (.map (some b))/\bi prog 3 w' b 10 eH/\Below w.heap.size w w':=by
 go_enter func82,ntmps82;have h0:=bi.made prog 3 w;obtain ⟨w1,r1,h1,g1,z1⟩:=h0.store pF underlying138 (by decide) (lA (a:=1) underlying3 (by decide)) (.agg #[.int .i64 1,.int .i64 1,.bool false,.bool true,.int .i64 0,.bool false,.bool false,.bool false,.bool false,.bool false]);obtain ⟨w2,r2,h2,g2,z2⟩:=h1.store pF underlying138 (by decide) (lA (a:=2) underlying3 (by decide)) (.agg #[.int .i64 2,.int .i64 6,.bool false,.bool true,.int .i64 1,.bool false,.bool false,.bool false,.bool false,.bool false]);obtain ⟨w3,r3,h3,g3,z3⟩:=h2.store pF underlying138 (by decide) (lA (a:=3) underlying3 (by decide)) (.agg #[.int .i64 2,.int .i64 6,.bool true,.bool false,.int .i64 1024,.bool true,.bool false,.bool true,.bool false,.bool false]);obtain ⟨w4,r4,h4,g4,z4⟩:=h3.store pF underlying138 (by decide) (lA (a:=4) underlying3 (by decide)) (.agg #[.int .i64 3,.int .i64 6,.bool true,.bool false,.int .i64 1,.bool true,.bool false,.bool false,.bool false,.bool false]);obtain ⟨w5,r5,h5,g5,z5⟩:=h4.store pF underlying138 (by decide) (lA (a:=5) underlying3 (by decide)) (.agg #[.int .i64 2,.int .i64 2,.bool true,.bool false,.int .i64 64,.bool false,.bool false,.bool false,.bool false,.bool false]);obtain ⟨w6,r6,h6,g6,z6⟩:=h5.store pF underlying138 (by decide) (lA (a:=6) underlying3 (by decide)) (.agg #[.int .i64 0,.int .i64 0,.bool false,.bool false,.int .i64 0,.bool false,.bool true,.bool false,.bool false,.bool false]);obtain ⟨w7,r7,h7,g7,z7⟩:=h6.store pF underlying138 (by decide) (lA (a:=7) underlying3 (by decide)) (.agg #[.int .i64 3,.int .i64 3,.bool true,.bool false,.int .i64 64,.bool false,.bool false,.bool false,.bool true,.bool false]);obtain ⟨w8,r8,h8,g8,z8⟩:=h7.store pF underlying138 (by decide) (lA (a:=8) underlying3 (by decide)) (.agg #[.int .i64 2,.int .i64 2,.bool false,.bool true,.int .i64 0,.bool false,.bool false,.bool false,.bool false,.bool true]);obtain ⟨w9,r9,h9,g9,z9⟩:=h8.store pF underlying138 (by decide) (lA (a:=9) underlying3 (by decide)) (.agg #[.int .i64 0,.int .i64 0,.bool false,.bool true,.int .i64 0,.bool false,.bool false,.bool false,.bool false,.bool false]);obtain ⟨w10,r10,h10,g10,z10⟩:=h9.store pF underlying138 (by decide) (lA (a:=10) underlying3 (by decide)) (.agg #[.int .i64 0,.int .i64 0,.bool false,.bool true,.int .i64 0,.bool false,.bool false,.bool false,.bool false,.bool false]);have hB0:Below w.heap.size w (w.alloc (.map #[] 0)):=ae w _;go_wp2;go_ret;refine ⟨w.heap.size,rfl,h10.congr ?_,?_⟩
 ·intro key kl hk
  clear hk
  by_cases e10:key=.int .i64 10
  ·subst e10
   rw [upd_same];rfl
  rw [bP e10]
  by_cases e9:key=.int .i64 9
  ·subst e9
   rw [upd_same];rfl
  rw [bP e9]
  by_cases e8:key=.int .i64 8
  ·subst e8
   rw [upd_same];rfl
  rw [bP e8]
  by_cases e7:key=.int .i64 7
  ·subst e7
   rw [upd_same];rfl
  rw [bP e7]
  by_cases e6:key=.int .i64 6
  ·subst e6
   rw [upd_same];rfl
  rw [bP e6]
  by_cases e5:key=.int .i64 5
  ·subst e5
   rw [upd_same];rfl
  rw [bP e5]
  by_cases e4:key=.int .i64 4
  ·subst e4
   rw [upd_same];rfl
  rw [bP e4]
  by_cases e3:key=.int .i64 3
  ·subst e3
   rw [upd_same];rfl
  rw [bP e3]
  by_cases e2:key=.int .i64 2
  ·subst e2
   rw [upd_same];rfl
  rw [bP e2]
  by_cases e1:key=.int .i64 1
  ·subst e1
   rw [upd_same];rfl
  rw [bP e1];unfold eH;split
  ·rename_i q
   have f1:¬ q=1:=fun h=>e1 (by rw [h]);have f2:¬ q=2:=fun h=>e2 (by rw [h]);have f3:¬ q=3:=fun h=>e3 (by rw [h]);have f4:¬ q=4:=fun h=>e4 (by rw [h]);have f5:¬ q=5:=fun h=>e5 (by rw [h]);have f6:¬ q=6:=fun h=>e6 (by rw [h]);have f7:¬ q=7:=fun h=>e7 (by rw [h]);have f8:¬ q=8:=fun h=>e8 (by rw [h]);have f9:¬ q=9:=fun h=>e9 (by rw [h]);have f10:¬ q=10:=fun h=>e10 (by rw [h]);rw [shapeOf,bh f1,bh f2,bh f3,bh f4,bh f5,bh f6,bh f7,bh f8,bh f9,bh f10];rfl
  ·rfl
 ·have st:∀ W W':World,Below w.heap.size w W->W.grownBy W' (some w.heap.size)->Below w.heap.size w W':=fun W W' hb hg =>
   ⟨hg.os.trans hb.os,hg.tape.trans hb.tape,hg.output.trans hb.output,cA hb.size hg.size,fun k hk=>(hg.block k (cC hk hb.size) (by intro h;injection h with h;omega)).trans (hb.block k hk)⟩
  exact (st _ _ (st _ _ (st _ _ (st _ _ (st _ _ (st _ _ (st _ _ (st _ _ (st _ _ (st _ _ hB0 g1) g2) g3) g4) g5) g6) g7) g8) g9) g10)
end Go.Proofs.YtjdfihglehfelaaGreatDoor
namespace Go.Proofs.YtjdfihglehfelaaGreatDoor
open Go.Proofs.Tryz
open Go.RowKit Go.Maps Go.Shelf
def iJ (l:List ByteArray)(nm:ByteArray):Nat:=l.countP fun x=>decide (x=nm)
def cntF (l:List ByteArray):Value->Option Value
 | .string s=>if iJ l s=0 then none else some (.int .i64 (iJ l s))
 | _=>none
theorem Dy (l:List ByteArray)(s:ByteArray):(cntF l (.string s)).getD (.int .i64 0)=.int .i64 (iJ l s):=by
 show (if iJ l s=0 then none else some (Value.int .i64 (iJ l s))).getD (.int .i64 0)=_
 by_cases h:iJ l s=0
 ·rw [aw h,h]
  rfl
 ·rw [bh h]
  rfl
theorem sV (l:List ByteArray)(x nm:ByteArray):iJ (l++[x]) nm=iJ l nm+if x=nm then 1 else 0:=by
 unfold iJ;rw [List.countP_append]
 by_cases h:x=nm <;> simp [h]
theorem Bw (l:List ByteArray)(x:ByteArray)(key:Value):cntF (l++[x]) key=upd (cntF l) (.string x) (.int .i64 ((iJ l x:Int)+1)) key:=by
 by_cases h:key=.string x
 ·subst h
  rw [upd_same];simp [cntF,sV]
 ·rw [bP h]
  unfold cntF;split
  ·rename_i s
   have:¬ x=s:=fun e=>h (by rw [e]);rw [sV,bh this];rfl
  ·rfl
def EJ (g:af)(pool:Bool):List ByteArray:=(aA g.F9).flatMap fun p=>dD p.2 pool
def yt (g:af)(v:ay):Int:=if v.hidden then (if iJ (EJ g true) v.name=1 then 0 else 16) else (if iJ (EJ g false) v.name=0 then 0 else 16)
def rY (g:af):ByteArray × Int:=iM (yt g) g.F9
theorem oM:Keyed prog 9:=string_keyed underlying9
theorem gG (s:ByteArray)(h:s.size<=maxLen):keyOf prog 9 (.string s)=some (.string s.data.toList):=by
 simp [keyOf,underlying9,mapKey,h]
theorem Fx (w:World):(zeroValue 3).run prog w=.ok (.int .i64 0) w:=by kernel_rfl
def dA (l:List (ay × aB))(pool:Bool):List ByteArray:=l.flatMap fun p=>dD p.2 pool
theorem qW (l:List (ay × aB))(v:ay)(s:aB)(pool:Bool):dA (l++[(v,s)]) pool=dA l pool++dD s pool:=by simp [dA]
def gm (w:World)(b:Nat)(l:List ByteArray):Prop:=bi prog 9 w b l.length (cntF l)
theorem gm.look {w:World}{b:Nat}{l:List ByteArray}(h:gm w b l)(s:ByteArray)(hs:s.size<=maxLen):(Instr.lookup 200 (.map (some b)) (.string s) false).run prog w=.ok (.int .i64 (iJ l s)) w:=by
 have:=(bi.look h oM underlying200 (Fx w) (key:=.string s) (gG s hs)).1
 rwa [Dy] at this
theorem gm.store {w:World}{b:Nat}{l:List ByteArray}(h:gm w b l)(hl:l.length<=1000000)(s:ByteArray)(hs:s.size<=maxLen) :
  ∃ w',(Instr.mapUpdate 200 (.map (some b)) (.string s) (.int .i64 ((iJ l s:Int)+1))).run prog w=.ok () w'/\gm w' b (l++[s])/\w.grownBy w' (some b)/\w'.heap.size=w.heap.size:=by
 obtain ⟨w',r,m,g,z⟩:=bi.store h oM underlying200 (rr hl (by decide)) (key:=.string s) (gG s hs) (.int .i64 ((iJ l s:Int)+1));refine ⟨w',r,?_,g,z⟩;unfold gm;rw [cD];exact m.congr fun key kl _=>Bw l s key
def kK (W:World)(L:List (az × Nat))(M:List (ByteArray × Int × Int)):Prop:=∀ p∈L,W.heap[p.2]?=some (.cells ((bz M p.1).map Value.bool).toArray 4 (0,0))
structure uF (ok:Nat->Prop)(W:World)(L:List (az × Nat))(bm:Nat):Prop where
 map:bi prog 9 W bm L.length (vG L)
 nb:(L.map (·.2)).Nodup
 nn:(L.map (·.1.name)).Nodup
 lt:∀ p∈L,p.2<W.heap.size/\¬ ok p.2/\p.2≠bm
 de:∀ p∈L,0<=p.1.Gc/\p.1.Gc<=1000000
def Gm (L:List (az × Nat)):Nat->Prop:=fun b=>∃ p∈L,p.2=b
theorem ut {α β:Type}{f:α->β}{l:List α}(h:(l.map f).Nodup){x y:α}(hx:x∈l)(hy:y∈l)(e:f x=f y):x=y:=by
 induction l with
 | nil=>cases hx
 | cons a l ih =>
  rw [iu,List.nodup_cons] at h;rcases List.mem_cons.1 hx with hx2 | hx2 <;> rcases List.mem_cons.1 hy with hy2 | hy2
  ·rw [hx2,hy2]
  ·exact absurd (by rw [<- hx2,e];exact List.mem_map_of_mem hy2) h.1
  ·exact absurd (by rw [<- hy2,<- e];exact List.mem_map_of_mem hx2) h.1
  ·exact ih h.2 hx2 hy2
theorem kK.below {w w':World}{L:List (az × Nat)}{M:List (ByteArray × Int × Int)}(h:kK w L M)(hb:Below w.heap.size w w'):kK w' L M:=fun p hp=>(hb.block p.2 (aq (h p hp))).trans (h p hp)
theorem kK.bools {w:World}{L:List (az × Nat)}{M:List (ByteArray × Int × Int)}(h:kK w L M){d:az}{b:Nat}(hp:(d,b)∈L)(st n:Nat):uL w b st (((bz M d).drop st).take n):=fun i x hx=>by
 have hb:=h _ hp;dsimp only at hb;rw [xF] at hx;split at hx
 ·rw [pk] at hx
  simp only [World.cell?,hb];simpa using hx
 ·cases hx
theorem kK.zero {w:World}{L:List (az × Nat)}{M:List (ByteArray × Int × Int)}(h:kK w L M)(nm:ByteArray)(st:Int):kK w L (M++[(nm,st,0)]):=fun p hp=>by
 rw [vQ];exact h p hp
theorem kK.set {w:World}{L:List (az × Nat)}{M:List (ByteArray × Int × Int)}{d:az}{b:Nat}{st:Int}{j:Nat}(h:kK w L (M++[(d.name,st,(j:Int))]))(hb:(L.map (·.2)).Nodup)(hn:(L.map (·.1.name)).Nodup)(hp:(d,b)∈L)(h0:0<=st) :
  kK (w.setCell ⟨b,st.toNat+j,none⟩ (.bool true)) L (M++[(d.name,st,((j+1:Nat):Int))]):=fun p VM=>by
 by_cases e:p.2=b
 ·obtain rfl:p=(d,b):=ut hb VM hp e
  have:=block_setCell (i:=st.toNat+j) (.bool true) (h _ hp);rw [this,xT,<- List.map_set,xH M d st j h0]
 ·rw [bw _ _ _ _ e,h p VM]
  have hne:¬ d.name=p.1.name:=fun q=>e (by rw [ut hn VM hp q.symm]);rw [lQ M p.1 _ hne,lQ M p.1 _ hne]
theorem E8 (w:World):(zeroValue 195).run prog w=.ok (.slice none 0 0) w:=by kernel_rfl
def F4 (L:List (az × Nat))(M:List (ByteArray × Int × Int))(s:aB)(w:World)(e:Ending)(w':World):Prop :=
 e=.returned (.int .i64 (if nP (aX s) M s.Ga=true then 15 else 0))/\cR (Gm L) w w'/\(nP (aX s) M s.Ga=false->kK w' L (M++dC (aX s) s.Ga))
theorem sK {ok:Nat->Prop}(L:List (az × Nat))(M:List (ByteArray × Int × Int))(bm Bt:Nat)(v:ay)(s:aB)(u1 u2:List Value)(w:World)(DB:w.cell? ⟨Bt,0,none⟩=some (.map (some bm)))(Ue:Bt<w.heap.size)(hL:uF ok w L bm)(hLt:∀ p∈L,p.2≠Bt)(hT:kK w L M)
  (hv:aN ok w u1 v) (hs:bC ok w u2 s) (hf:wM s) (hx1:1<=aX s) (NM:∀ a∈s.Ga,a.vol=false->a.on.size<=maxLen/\∃ d,bH (L.map (·.1)) a.on=some d/\0<=a.start/\aX s<=d.Gc - a.start) :
  Calls prog 152 #[.agg u1.toArray,.agg u2.toArray,.pointer (some ⟨Bt,0,none⟩)] w (F4 L M s w):=by
 have MB:=aa hL;clear hL;have MR:=aa hLt;clear hLt;have HT:=aa hT;clear hT;have N8:=aa NM;clear NM;have VN:=aa DB;clear DB;obtain ⟨tv,sv,rfl,ew,fL⟩:=hv;obtain ⟨tp,tc,rfl,_,_⟩:=ew.cap;obtain ⟨sp,sc,rfl,_,_⟩:=fL.cap;obtain ⟨av,kp,rfl,gg,hst⟩:=hs;obtain ⟨ap,ac,rfl,_,_⟩:=gg.cap;obtain ⟨eN,eR,rfl,_,_⟩:=hst.cap;have ya:=aa gg;clear gg hst ew fL;have Jb:=hf.ar;have hl0:=hf.l0;have hl1:=hf.l1;clear hf;have qu:aX s<=32768:=by have:=(zV (k:=s.kind) (l:=s.length) (n:=s.Ga.length) (by omega)).2;unfold aX;omega
 have HXE:Hid (aX s=iB s.kind s.length s.Ga.length):=aa rfl;have hA1:=ae w (.cells #[.string v.name,.int .u64 v.id,.bool v.hidden,.bool v.ro,.slice tp v.tags.length tc,.slice sp v.Gf.length sc] 55);have hA2:=ae (w.alloc (.cells #[.string v.name,.int .u64 v.id,.bool v.hidden,.bool v.ro,.slice tp v.tags.length tc,.slice sp v.Gf.length sc] 55)) (.cells #[.int .i64 s.start,.int .i64 s.length,.int .i64 s.kind,.slice ap s.Ga.length ac,.int .i64 s.chunk,.slice eN s.stale.length eR,.string s.log,.string s.pool,.int .i64 s.device,.int .i64 s.mode,.int .i64 s.done] 79);have lj:=aa (b9 (w.alloc (.cells #[.string v.name,.int .u64 v.id,.bool v.hidden,.bool v.ro,.slice tp v.tags.length tc,.slice sp v.Gf.length sc] 55)) (.cells #[.int .i64 s.start,.int .i64 s.length,.int .i64 s.kind,.slice ap s.Ga.length ac,.int .i64 s.chunk,.slice eN s.stale.length eR,.string s.log,.string s.pool,.int .i64 s.device,.int .i64 s.mode,.int .i64 s.done] 79));have HB:=aa (hA1.trans (hA2.mono hA1.size));clear hA1 hA2;go_enter func152,ntmps152
 go_upto_region 1 with (fail)
 rw [cW] at lj;have aa7:w.heap.size<w.heap.size+1:=Nat.lt_succ_self _;generalize hW1:World.alloc (World.alloc w _) _=W1 at *;generalize JY:w.heap.size+1=Bs at *;clear hW1
 have sL:=cr lj.o
 have s3:=sL 3 _ rfl;clear sL;go_wp2;clear s3;have Nf:Hid (cR (Gm L) w W1):=aa (cR.of_below HB.o);have Rt:=aa (HT.o.below HB.o)
 go_loopw [13] (fun i wr=>∃ k:Nat,k<=s.Ga.length/\i=.int .i64 k/\cR (Gm L) w wr/\kK wr L (M++dC (aX s) (s.Ga.take k))/\nP (aX s) M s.Ga=nP (aX s) (M++dC (aX s) (s.Ga.take k)) (s.Ga.drop k)/\wr.heap[Bs]?=some (.cells #[.int .i64 s.start,.int .i64 s.length,.int .i64 s.kind,.slice ap s.Ga.length ac,.int .i64 s.chunk,.slice eN s.stale.length eR,.string s.log,.string s.pool,.int .i64 s.device,.int .i64 s.mode,.int .i64 s.done] 79 (0,0))) (fun i _=>s.Ga.length - (intOf i).toNat)
 case atStart=>exact ⟨0,cg _,rfl,Nf.o,by rw [iv];simpa [dC] using Rt.o,by rw [iv,cL];simp [dC],lj.o⟩
 case round =>
  clear Nf Rt lj HB;obtain ⟨k,hk,rfl,hm,ht,he,gO⟩:=hrel;have HM:=aa hm;clear hm;have HT:=aa ht;clear ht;have HE:=aa he;clear he;have lj:=aa gO;clear gO
  by_cases hlt:k<s.Ga.length
  ·obtain ⟨r,hr⟩:=aj s.Ga k hlt
   obtain ⟨b,off,us,rfl,gR,cX,ez,JJ,mB⟩:=ya.o.elem hr;obtain rfl:us=_:=JJ;have cT:wr.heap[b]?=w.heap[b]?:=HM.o.block b cX (fun ⟨p,hp,e⟩=>(MB.o.lt p hp).2.1 (e ▸ gR));obtain ⟨q0,q1,q2⟩:=Mn cT mB;have Mw:=aa (xC (aX s) s.Ga k r hr);have AG:=aa (HE.o.trans (Ee (aX s) (M++dC (aX s) (s.Ga.take k)) hr));have HIR:=aa (N8.o r (ct hr));clear hr ez mB cT;have hA:=ae wr (.cells #[.bool r.vol,.string r.on,.int .i64 r.start] 60);have yb:=aa (b9 wr (.cells #[.bool r.vol,.string r.on,.int .i64 r.start] 60));have DD:=aa (HM.o.trans (cR.of_below (F:=fun _=>False) hA) (fun _ f=>f.elim));have KL:=aa (HT.o.below hA);have VO:=aq lj.o;have Hi:=aa ((hA.block _ VO).trans lj.o);clear hA
   go_upto_region 4 with (fail)
   clear q0 q1 q2;generalize hW2:World.alloc wr _=W2 at *;generalize NU:wr.heap.size=Ba at *;clear hW2 HM HT lj HE;have a0:=cr yb.o 0 _ rfl
   cases pS:r.vol with
   | true =>
    rw [pS] at a0;have HV:=aa pS;clear pS;go_wp2;go_roundw
    case rel=>exact ⟨k+1,by omega,by go_num,DD.o,by rw [Mw.o,aw HV.o];exact KL.o,by rw [AG.o,aw HV.o,Mw.o,aw HV.o],Hi.o⟩
    case measure=>simp [intOf];omega
   | false =>
    rw [pS] at a0;obtain ⟨hsz,d,N4,hst0,hst1⟩:=HIR.o pS;have HV:=aa pS;clear pS;obtain ⟨bd,Uf,Pc,VP⟩:=Dv N4;have Yu:=MB.o.de _ Uf;have CD:=MB.o.lt _ Uf;dsimp only at Yu CD;clear N4;have K4:=aa Pc;clear Pc;have Nj:=aa Uf;clear Uf;have HFB:Hid (∀ p∈L,p.2<W2.heap.size):=aa fun p hp=>cC (MB.o.lt p hp).1 DD.o.size
    go_upto_region 5 with (fail)
    clear a0;obtain ⟨st,hst⟩:∃ st:Nat,r.start=st:=⟨r.start.toNat,by omega⟩;obtain ⟨n,hn⟩:∃ n:Nat,aX s=n:=⟨(aX s).toNat,by omega⟩;obtain ⟨E,hE⟩:∃ E:Nat,d.Gc=E:=⟨d.Gc.toNat,by omega⟩;rw [show d.Gc.toNat=E by omega] at VP;rw [hn,hE,hst] at hst1;rw [hn] at hx1 qu;rw [hE] at Yu;rw [hst] at hst0 yb;have Ru:=aa ((DD.o.cell (p:=⟨Bt,0,none⟩) Ue (fun ⟨p,hp,e⟩=>MR.o p hp e)).trans VN.o);have VQ:=cC Ue DD.o.size;have Qk:=aa (MB.o.map.block (DD.o.block _ MB.o.map.lt (fun ⟨p,hp,e⟩=>(MB.o.lt p hp).2.2 e)))
    have Jo:Hid (∀ w',bi prog 9 w' bm L.length (vG L)->(Instr.lookup 194 (.map (some bm)) (.string r.on) false).run prog w'=.ok (.slice (some ⟨bd,0,none⟩) E E) w'):=aa fun w' hm=>by
     have:=(bi.look hm oM underlying194 (E8 w') (key:=.string r.on) (gG r.on hsz)).1
     rwa [VP] at this
    have HST:=aa hst;clear hst;have HN:=aa hn;clear hn;have VR:=aa hE;clear hE;clear VP
    have hS:∀ w':World,Below W2.heap.size W2 w'->(w'.cell? ⟨Bt,0,none⟩=some (.map (some bm))/\w'.cell? ⟨Ba,1,none⟩=some (.string r.on)/\w'.cell? ⟨Ba,2,none⟩=some (.int .i64 (st:Int))/\(Instr.lookup 194 (.map (some bm)) (.string r.on) false).run prog w'=.ok (.slice (some ⟨bd,0,none⟩) E E) w'/\w'.cell? ⟨Bs,0,none⟩=some (.int .i64 s.start)/\w'.cell? ⟨Bs,1,none⟩=some (.int .i64 s.length)/\w'.cell? ⟨Bs,2,none⟩=some (.int .i64 s.kind)/\w'.cell? ⟨Bs,3,none⟩=some (.slice (some ⟨b,off,none⟩) s.Ga.length ac)/\w'.cell? ⟨Bs,4,none⟩=some (.int .i64 s.chunk)/\w'.cell? ⟨Bs,5,none⟩=some (.slice eN s.stale.length eR)/\w'.cell? ⟨Bs,6,none⟩=some (.string s.log)/\w'.cell? ⟨Bs,7,none⟩=some (.string s.pool)/\w'.cell? ⟨Bs,8,none⟩=some (.int .i64 s.device)/\w'.cell? ⟨Bs,9,none⟩=some (.int .i64 s.mode)/\w'.cell? ⟨Bs,10,none⟩=some (.int .i64 s.done)):=fun w' e=>by
     have h2:=(e.block Bs (aq Hi.o)).trans Hi.o;have h3:=(e.block Ba (aq yb.o)).trans yb.o;exact ⟨(e.cell (p:=⟨Bt,0,none⟩) VQ).trans Ru.o,cr h3 _ _ rfl,cr h3 _ _ rfl,Jo.o w' (Qk.o.block (e.block _ Qk.o.lt)),cr h2 _ _ rfl,cr h2 _ _ rfl,cr h2 _ _ rfl,cr h2 _ _ rfl,cr h2 _ _ rfl,cr h2 _ _ rfl,cr h2 _ _ rfl,cr h2 _ _ rfl,cr h2 _ _ rfl,cr h2 _ _ rfl,cr h2 _ _ rfl⟩
    have HS:=aa hS;clear hS;refine aL (fun w'=>w'.cell? ⟨Bt,0,none⟩=some (.map (some bm))/\w'.cell? ⟨Ba,1,none⟩=some (.string r.on)/\w'.cell? ⟨Ba,2,none⟩=some (.int .i64 (st:Int))/\(Instr.lookup 194 (.map (some bm)) (.string r.on) false).run prog w'=.ok (.slice (some ⟨bd,0,none⟩) E E) w'/\w'.cell? ⟨Bs,0,none⟩=some (.int .i64 s.start)/\w'.cell? ⟨Bs,1,none⟩=some (.int .i64 s.length)/\w'.cell? ⟨Bs,2,none⟩=some (.int .i64 s.kind)/\w'.cell? ⟨Bs,3,none⟩=some (.slice (some ⟨b,off,none⟩) s.Ga.length ac)/\w'.cell? ⟨Bs,4,none⟩=some (.int .i64 s.chunk)/\w'.cell? ⟨Bs,5,none⟩=some (.slice eN s.stale.length eR)/\w'.cell? ⟨Bs,6,none⟩=some (.string s.log)/\w'.cell? ⟨Bs,7,none⟩=some (.string s.pool)/\w'.cell? ⟨Bs,8,none⟩=some (.int .i64 s.device)/\w'.cell? ⟨Bs,9,none⟩=some (.int .i64 s.mode)/\w'.cell? ⟨Bs,10,none⟩=some (.int .i64 s.done)) 11 [] (by kernel_rfl) (HS.o _ (bj _ _).drew) (fun hHeld=>?_);refine fS 0 hHeld ?_;try simp only [ak];refine fS 1 hHeld ?_;try simp only [ak];refine fS 2 hHeld ?_;try simp only [ak];refine fS 3 hHeld ?_;try simp only [ak];refine fS 4 hHeld ?_;try simp only [ak];refine fS 5 hHeld ?_;try simp only [ak];refine fS 6 hHeld ?_;try simp only [ak];refine fS 7 hHeld ?_;try simp only [ak];refine fS 8 hHeld ?_;try simp only [ak];refine lR 9 fun K hK=>?_;go_simp;refine (ji _ _ _ _ _ _ _ _ _ _ _ _ _ _ _ _ (by omega) (by omega) (by omega)).mono ?_;rintro e w3 ⟨rfl,hb3⟩;rw [<- HXE.o,HN.o];have cJ:Hid (Below W2.heap.size W2 w3):=aa ⟨hb3.os,hb3.tape,hb3.output,hb3.size,hb3.block⟩;clear hb3;refine hK.o _ _ (HS.o _ cJ.o) ?_;clear hK K;refine lR 10 fun K hK=>?_;go_simp;refine hK.o _ _ (HS.o _ cJ.o) ?_;clear hK K hHeld;refine aP (by kernel_rfl) rfl ?_;simp only [cQ,cL]
    go_upto_region 6 with (fail)
    have hlen:(((bz (M++dC (aX s) (s.Ga.take k)) d).drop st).take n).length=n:=by rw [ey,List.length_drop,gP];have:=VR.o;omega
    have MX:=aa (KL.o.below cJ.o)
    have Rv:Hid ((((bz (M++dC (aX s) (s.Ga.take k)) d).drop st).take n).any id=tV (M++dC (aX s) (s.Ga.take k)) r.on r.start (aX s)):=aa (by
     have:=D5 (M++dC (aX s) (s.Ga.take k)) d r.start (aX s) (by rw [HST.o];omega) (by rw [HN.o];omega) (by rw [HST.o,HN.o,VR.o];omega);rw [HST.o,HN.o] at this;rw [HST.o,HN.o,<- K4.o]
     exact this)
    have LL:=aa (oC _ bd st (E - st) w3 (MX.o.bools Nj.o st n) (cC (HFB.o _ Nj.o) cJ.o.size) (by rw [hlen];omega));rw [hlen] at LL;clear hlen;rw [HV.o] at Mw AG;rw [bh (by simp)] at Mw AG;have Rp:=aa (DD.o.trans (cR.of_below (F:=fun _=>False) cJ.o) (fun _ f=>f.elim));have nB:=aa ((cJ.o.block Bs (aq Hi.o)).trans Hi.o);clear DD KL Hi HS yb Ru Qk Jo
    go_wp2_with fail
    refine LL.o.mono ?_;rintro e w4 ⟨rfl,hb4⟩;rw [Rv.o];have Q9:=aa (MX.o.below hb4);have Ql:=aa (Rp.o.trans (cR.of_below (F:=fun _=>False) hb4) (fun _ f=>f.elim));have I7:=aa ((hb4.block Bs (aq nB.o)).trans nB.o);clear LL Rv MX Rp nB hb4 cJ;cases hrun:tV (M++dC (aX s) (s.Ga.take k)) r.on r.start (aX s) with
    | true =>
     rw [hrun,aw rfl] at AG;have HX:=aa hrun;clear hrun;go_wp2;go_ret;exact ⟨by rw [AG.o];rfl,Ql.o,fun h=>by rw [AG.o] at h;cases h⟩
    | false =>
     rw [hrun,bh (by simp)] at AG;have HX:=aa hrun;clear hrun;have VT:Hid (M++dC (aX s) (s.Ga.take (k+1))=(M++dC (aX s) (s.Ga.take k))++[(d.name,(st:Int),(n:Int))]):=aa (by rw [Mw.o,<- cV,K4.o,HST.o,HN.o]);have VU:Hid (nP (aX s) M s.Ga=nP (aX s) (M++dC (aX s) (s.Ga.take (k+1))) (s.Ga.drop (k+1))):=aa (by rw [AG.o,Mw.o,cV]);clear Mw AG
     go_upto_region 9 with (fail)
     go_loopw [35,9] (fun i _ wi=>∃ j:Nat,j<=n/\i=.int .i64 j/\cR (Gm L) w wi/\kK wi L ((M++dC (aX s) (s.Ga.take k))++[(d.name,(st:Int),(j:Int))])/\wi.heap[Bs]?=some (.cells #[.int .i64 s.start,.int .i64 s.length,.int .i64 s.kind,.slice (some ⟨b,off,none⟩) s.Ga.length ac,.int .i64 s.chunk,.slice eN s.stale.length eR,.string s.log,.string s.pool,.int .i64 s.device,.int .i64 s.mode,.int .i64 s.done] 79 (0,0))) (fun i _ _=>n - (intOf i).toNat)
     case atStart=>exact ⟨0,cg _,rfl,Ql.o,Q9.o.zero _ _,I7.o⟩
     case round =>
      clear Ql Q9 I7;obtain ⟨j,hj,rfl,hm,ht,gO⟩:=hrel;have HM:=aa hm;clear hm;have HT:=aa ht;clear ht;have lj:=aa gO;clear gO
      by_cases hlt2:j<n
      ·have hb:=HT.o _ Nj.o
       have Kw:=aa (HT.o.set MB.o.nb MB.o.nn Nj.o (by omega));rw [Int.toNat_natCast] at Kw;have HMS:=aa (HM.o.setCell (p:=⟨bd,st+j,none⟩) (.inl ⟨_,Nj.o,rfl⟩) (.bool true));have hne:Bs≠bd:=by have:=(MB.o.lt _ Nj.o).1;dsimp only at this;omega
       have Kz:=aa ((bw wr ⟨bd,st+j,none⟩ (.bool true) Bs hne).trans lj.o)
       have c0:wr.cell? ⟨bd,st+j,none⟩=some (.bool (NK ((M++dC (aX s) (s.Ga.take k))++[(d.name,(st:Int),(j:Int))]) d.name (st+j))):=by
        dsimp only at hb;simp only [World.cell?,hb];have hg:=gU (M:=(M++dC (aX s) (s.Ga.take k))++[(d.name,(st:Int),(j:Int))]) (d:=d) (i:=st+j) (by have:=VR.o;omega);generalize bz _ d=bl at hg ⊢;simp [hg]
       have f0:wr.frozen? ⟨bd,st+j,none⟩=false:=by
        dsimp only at hb;simp [World.frozen?,hb]
       clear hb;generalize NK _ d.name (st+j)=x at *;go_wp2;go_roundw
       case rel=>exact ⟨j+1,by omega,by go_num,HMS.o,Kw.o,Kz.o⟩
       case measure=>simp [intOf];omega
      ·obtain rfl:j=n:=by omega
       rw [<- VT.o] at HT;go_wp2;go_roundw
       case rel=>exact ⟨k+1,by omega,by go_num,HM.o,HT.o,VU.o,lj.o⟩
       case measure=>simp [intOf];omega
  ·obtain rfl:k=s.Ga.length:=by omega
   rw [cI] at HT;have HR:Hid (nP (aX s) M s.Ga=false):=aa (by rw [HE.o,rB];rfl);go_wp2;go_ret;exact ⟨by rw [HR.o];rfl,HM.o,fun _=>HT.o⟩
theorem laidB:laidOutB prog=true:=by kernel_rfl
theorem DY:(199:TypeId)<prog.types.size:=of_decide_eq_true (by kernel_rfl)
theorem EW:prog.keyTypeAt 2 199=true:=by kernel_rfl
theorem Em:WideMaps.KeyLaw prog 199:=deep_law_laid laidB (m:=2) (by omega) DY EW (by rw [underlying199])
theorem EI:Keyed prog 199:=Keyed.of_law Em
theorem EZ:prog.keyType 199=true:=by
 obtain ⟨n,hn⟩:∃ n,prog.types.size=n+1:=⟨prog.types.size - 1,by have:0<prog.types.size:=of_decide_eq_true (by kernel_rfl);omega⟩;have hc:prog.cutTypes.any (·.2 == 199)=false:=by kernel_rfl
 have hs:prog.stoodInHeld 199=false:=by kernel_rfl
 unfold Program.keyType;rw [hn];simp [Program.keyTypeAt,underlying199,underlying9,underlying3,hc,hs]
theorem DX (p:ByteArray)(d:Int)(hp:p.size<=maxLen)(hd:(Lit.int .i64 d).wf=true):∃ kl,keyOf prog 199 (.agg #[.string p,.int .i64 d])=some kl:=by
 obtain ⟨n,hn⟩:∃ n,prog.types.size=n+1:=⟨prog.types.size - 1,by have:0<prog.types.size:=of_decide_eq_true (by kernel_rfl);omega⟩;have hf:(Value.agg #[.string p,.int .i64 d]).formed prog 199=true:=by simp [Value.formed,underlying199,show prog.cellsOf 199=2 by kernel_rfl]
 have e1:prog.cellsOf 9=1:=by kernel_rfl
 have e2:prog.cellsOf 3=1:=by kernel_rfl
 have e3:prog.cellsOf 199=2:=by kernel_rfl
 have hl:prog.keyLits (n+1+1) 199 [.string p,.int .i64 d]=some [.string p.data.toList,.int .i64 d]:=by
  simp [Program.keyLits,underlying199,underlying9,underlying3,e1,e2,e3,hp,hd]
 refine ⟨.string (keyBytes [.string p.data.toList,.int .i64 d]),?_⟩;unfold keyOf;rw [underlying199];simp only [];rw [EZ,hf,hn];simp only [Bool.and_self,ej];rw [show (Value.agg #[.string p,.int .i64 d]).cells.toList=[.string p,.int .i64 d] from rfl,hl];rfl
theorem wY (w:World):(zeroValue 4).run prog w=.ok (.bool false) w:=by kernel_rfl
open Classical in
noncomputable def iV (pre:List (ay × aB))(key:Value):Option Value:=if ∃ q∈pre,q.2.kind=6/\key=.agg #[.string q.2.pool,.int .i64 q.2.device] then some (.bool true) else none
def pY (pre:List (ay × aB))(s:aB):Bool:=pre.any fun p=>decide (p.2.kind=6)&&(decide (p.2.pool=s.pool)&&decide (p.2.device=s.device))
theorem AZ (pre:List (ay × aB))(s:aB):(iV pre (.agg #[.string s.pool,.int .i64 s.device])).getD (.bool false)=.bool (pY pre s):=by
 unfold iV
 by_cases h:pY pre s=true
 ·rw [h,aw]
  ·rfl
  ·obtain ⟨q,hq,e⟩:=List.any_eq_true.1 h
   simp only [eh,fk] at e;exact ⟨q,hq,e.1,by rw [e.2.1,e.2.2]⟩
 ·rw [bh]
  ·rw [Bool.eq_false_iff.2 h]
   rfl
  ·rintro ⟨q,hq,e,k⟩
   simp only [Value.agg.injEq,Array.mk.injEq,rp,Value.string.injEq,Value.int.injEq,and_true,true_and] at k;exact h (List.any_eq_true.2 ⟨q,hq,by simp [e,k.1,k.2]⟩)
theorem yU (pre:List (ay × aB))(v:ay)(s:aB)(h:s.kind=6)(key:Value):iV (pre++[(v,s)]) key=upd (iV pre) (.agg #[.string s.pool,.int .i64 s.device]) (.bool true) key:=by
 by_cases hk:key=.agg #[.string s.pool,.int .i64 s.device]
 ·subst hk
  rw [upd_same];unfold iV;rw [aw ⟨(v,s),by simp,h,rfl⟩]
 ·rw [bP hk]
  unfold iV
  congr 1
  refine propext ⟨?_,?_⟩
  ·rintro ⟨q,hq,e,k⟩
   rcases List.mem_append.1 hq with hq | hq
   ·exact ⟨q,hq,e,k⟩
   ·obtain rfl:=List.mem_singleton.1 hq
    exact absurd k hk
  ·rintro ⟨q,hq,e,k⟩
   exact ⟨q,ju _ hq,e,k⟩
theorem yN (pre:List (ay × aB))(v:ay)(s:aB)(h:¬ s.kind=6)(key:Value):iV (pre++[(v,s)]) key=iV pre key:=by
 unfold iV
 congr 1
 refine propext ⟨?_,?_⟩
 ·rintro ⟨q,hq,e,k⟩
  rcases List.mem_append.1 hq with hq | hq
  ·exact ⟨q,hq,e,k⟩
  ·obtain rfl:=List.mem_singleton.1 hq
   exact absurd e h
 ·rintro ⟨q,hq,e,k⟩
  exact ⟨q,ju _ hq,e,k⟩
def FU (bm:Nat)(pre:List (ay × aB))(v:ay)(s:aB)(w:World)(e:Ending)(w':World):Prop :=
 e=.returned (.int .i64 (BL pre v s))/\cR (fun b=>b=bm) w w'/\(BL pre v s=0->bi prog 199 w' bm (pre.length+1) (iV (pre++[(v,s)])))
theorem sO {ok:Nat->Prop}(pre:List (ay × aB))(bm Bt:Nat)(v:ay)(s:aB)(u1 u2:List Value)(w:World)(DB:w.cell? ⟨Bt,0,none⟩=some (.map (some bm)))(Ue:Bt<w.heap.size)(hM:bi prog 199 w bm pre.length (iV pre))(hl:pre.length<=1000000)
  (hv:aN ok w u1 v) (hs:bC ok w u2 s) (hp:s.pool.size<=maxLen) (hd:(Lit.int .i64 s.device).wf=true) :
  Calls prog 154 #[.agg u1.toArray,.agg u2.toArray,.pointer (some ⟨Bt,0,none⟩)] w (FU bm pre v s w):=by
 obtain ⟨tv,sv,rfl,ew,fL⟩:=hv;obtain ⟨tp,tc,rfl,_,_⟩:=ew.cap;obtain ⟨sp,sc,rfl,_,_⟩:=fL.cap;obtain ⟨av,kp,rfl,gg,hst⟩:=hs;obtain ⟨ap,ac,rfl,_,_⟩:=gg.cap;obtain ⟨eN,eR,rfl,_,_⟩:=hst.cap;clear gg hst ew fL;have hA1:=ae w (.cells #[.string v.name,.int .u64 v.id,.bool v.hidden,.bool v.ro,.slice tp v.tags.length tc,.slice sp v.Gf.length sc] 55);have hA2:=ae (w.alloc (.cells #[.string v.name,.int .u64 v.id,.bool v.hidden,.bool v.ro,.slice tp v.tags.length tc,.slice sp v.Gf.length sc] 55)) (.cells #[.int .i64 s.start,.int .i64 s.length,.int .i64 s.kind,.slice ap s.Ga.length ac,.int .i64 s.chunk,.slice eN s.stale.length eR,.string s.log,.string s.pool,.int .i64 s.device,.int .i64 s.mode,.int .i64 s.done] 79);have lj:=aa (b9 (w.alloc (.cells #[.string v.name,.int .u64 v.id,.bool v.hidden,.bool v.ro,.slice tp v.tags.length tc,.slice sp v.Gf.length sc] 55)) (.cells #[.int .i64 s.start,.int .i64 s.length,.int .i64 s.kind,.slice ap s.Ga.length ac,.int .i64 s.chunk,.slice eN s.stale.length eR,.string s.log,.string s.pool,.int .i64 s.device,.int .i64 s.mode,.int .i64 s.done] 79));have HB:=aa (hA1.trans (hA2.mono hA1.size));clear hA1 hA2;obtain ⟨kl,IQ⟩:=DX s.pool s.device hp hd;have HK:=aa IQ;clear IQ hp hd;have HM:=aa (hM.block (HB.o.block _ hM.lt));clear hM;have ht:=(HB.o.cell (p:=⟨Bt,0,none⟩) Ue).trans DB;have HE:Hid (BL pre v s=if s.kind=6 then (if pY pre s=true then 9 else 0) else 0):=aa rfl;clear DB;go_enter func154,ntmps154
 go_upto_region 1 with (fail)
 rw [cW] at lj;generalize hW1:World.alloc (World.alloc w _) _=W1 at *;generalize JY:w.heap.size+1=Bs at *;clear hW1;have hlk:=(bi.look HM.o EI underlying197 (wY W1) HK.o).1;rw [AZ] at hlk;obtain ⟨w',hst,hc',hg',hz'⟩:=bi.store HM.o EI underlying197 (rr hl (by decide)) HK.o (.bool true);have HC:=aa hc';clear hc';have VT:Hid (cR (fun b=>b=bm) w w'):=aa ((cR.of_below HB.o).trans (cR.grown hg') (fun i e=>.inl e));clear hg' hz'
 have sL:=cr lj.o
 have s2:=sL 2 _ rfl;have s7:=sL 7 _ rfl;have s8:=sL 8 _ rfl;clear sL
 by_cases hk:s.kind=6
 ·have hkb:(s.kind != 6)=false:=by simpa using hk
  rw [aw hk] at HE;have HK6:=aa hk;clear hk;cases hh:pY pre s with
  | true =>
   rw [hh] at hlk HE;have HH:=aa hh;clear hh;clear hst;go_wp2;go_ret;exact ⟨by rw [HE.o];rfl,cR.of_below HB.o,fun h=>by rw [HE.o] at h;cases h⟩
  | false =>
   rw [hh] at hlk HE;have HH:=aa hh;clear hh;go_wp2;go_ret;exact ⟨by rw [HE.o];rfl,VT.o,fun _=>HC.o.congr fun key _ _=>yU pre v s HK6.o key⟩
 ·have hkb:(s.kind != 6)=true:=by simpa using hk
  rw [bh hk] at HE;have HK6:=aa hk;clear hk;clear hlk hst;go_wp2;go_ret;exact ⟨by rw [HE.o];rfl,cR.of_below HB.o,fun _=>(HM.o.mono (Nat.le_succ _)).congr fun key _ _=>yN pre v s HK6.o key⟩
end Go.Proofs.YtjdfihglehfelaaGreatDoor
