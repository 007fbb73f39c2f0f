/- Lemmas: ModL, ModZ, NeeA, ModM, ModN. -/
import Derived.Test.YtaagglbgohjldaaGreatDoorQv16
set_option maxRecDepth 100000
set_option maxHeartbeats 32000000
set_option linter.all false
namespace Go.Proofs.YtaagglbgohjldaaGreatDoor
open Go.Proofs.Tryz
open Go.RowKit Go.Maps Go.Shelf
variable {k:Nat}{l:List ByteArray}{ext:Int}{s:aB}{d:az}{x:ByteArray}
def qV (ext:Int)(n:Nat):List aB->Int->Int
 | [],_=>0
 | s :: r,st=>if bJ ext s st=false then 2 else if 1<n/\(oO s.kind).several=false then 17 else qV ext n r (st+s.length)
def iM (f:ay->Int):List ay->ByteArray × Int
 | []=>(⟨#[]⟩,0)
 | v :: r=>if f v=0 then iM f r else (v.name,f v)
def DW (g:af)(v:ay):Int:=qV g.Gd v.Gf.length v.Gf 0
def iP (g:af):ByteArray × Int:=iM (DW g) g.F9
theorem drop_at {α:Type}{l:List α}{x:α}(h:l[k]?=some x):l.drop k=x :: l.drop (k+1):=by
 obtain ⟨hk,rfl⟩:=List.getElem?_eq_some_iff.1 h;exact tB hk
theorem tC {f:ay->Int}{l:List ay}{v:ay}(h:l[k]?=some v):iM f (l.drop k)=if f v=0 then iM f (l.drop (k+1)) else (v.name,f v):=by
 rw [drop_at h];rfl
theorem CP {n:Nat}{l:List aB}(h:l[k]?=some s)(st:Int):qV ext n (l.drop k) st=if bJ ext s st=false then 2 else if 1<n/\(oO s.kind).several=false then 17 else qV ext n (l.drop (k+1)) (st+s.length):=by
 rw [drop_at h];rfl
theorem BK {st:Int}(h:bJ ext s st=true):1<=s.length/\s.length<=32768:=by
 cases hs:shapeOf s.kind with
 | none=>rw [jT hs] at h;cases h
 | some x =>
  rw [jP hs] at h;simp only [eh,fk] at h;omega
theorem vw (x:eX)(w:World):(Instr.field 192 (.agg (Tak x)) 3).run prog w=.ok (.bool x.several) w:=by kernel_rfl
def Ct (g:af):Prop:=∀ v∈g.F9,∀ s∈v.Gf,(Lit.int .i64 s.kind).wf=true
theorem uR {ok:Nat->Prop}(g:af)(a:bN)(bc:Nat)(w:World)(kB:gY w bc g a)(hg:dN ok w g a)(hz:JT g)(hx:1<=g.Gd/\g.Gd<=1024)(TY:Ct g) :
  Calls prog 104 #[.pointer (some bc)] w (Aw (iP g) w):=by
 have jt:=kB.lt;have I3:=aa kB;obtain ⟨sm,hblk,hmap⟩:=kB;have nw:Hid (bX w bc sm g a):=aa hblk;have VF:Hid (w.cell? (Tac bc 9)=some (.map (some sm))):=aa (by simp [World.cell?,hblk]);have Qk:=aa hmap;clear hblk hmap;obtain ⟨g0,g1,g2,g3,g4,g5,g6,g7,g8⟩:=bX.cells nw.o;have HG:=aa hg.F9;have HZ:=aa hz;have HX:=aa hx;have HKW:=aa TY;have mb:=hz.vl;obtain ⟨vp,vc,sT,ao8,ap0⟩:=hg.F9.cap;clear hg hz hx TY;injection sT with e1 e2 e3;obtain ⟨ID,gtc,gdp,G3,G4,Ge,Hb,Hc⟩:=a;dsimp only at e1 e2 e3 g0 g1 g2 g3 g4 g5 g6 g7 g8;subst e1;subst e3;clear e2;go_enter func104,ntmps104;go_wp2;clear g0 g1 g2 g3 g4 g5 g6 g7 g8
 go_loopw [15] (fun i wr=>∃ k:Nat,k<=g.F9.length/\i=.int .i64 k/\Below w.heap.size w wr/\iP g=iM (DW g) (g.F9.drop k)) (fun i _=>g.F9.length - (intOf i).toNat)
 exact ⟨0,cg _,rfl,bj _ _,rfl⟩;obtain ⟨k,hk,rfl,hB,he⟩:=hrel;have HE:=aa he;clear he;by_cases hlt:k<g.F9.length
 ·obtain ⟨v,hv⟩:=aj g.F9 k hlt;rw [tC hv] at HE;obtain ⟨b,off,us,rfl,gR,cX,ez,eE,hcv⟩:=HG.o.elem hv;have Zr:=ct hv;have hvz:=HZ.o.vz v Zr;have GF:=hvz.Gf;have B6:=aa hvz.seg;have HKV:=aa (HKW.o v Zr);obtain ⟨tv,sv,rfl,ew,fL⟩:=eE;obtain ⟨tp,tc,rfl,_,_⟩:=ew.cap;obtain ⟨sp,sc,rfl,hsc1,hsc2⟩:=fL.cap;have cT:wr.heap[b]?=w.heap[b]?:=hB.block b cX;obtain ⟨q0,q1,q2,q3,q4,q5⟩:=NG cT hcv;have HV:=aa hv;clear hv;have Zv:=aa fL;clear hcv ez cT ew fL hvz Zr;have zv:=aa (b9 wr (.cells (Taf v tp tc sp sc) 68));have cU:=aa (hB.trans ((ae wr (.cells (Taf v tp tc sp sc) 68)).mono hB.size));have mA:=hB.size;go_wp2;clear q0 q1 q2 q3 q4 q5;generalize hW1:World.alloc wr _=W1 at *;generalize hBv:wr.heap.size=Bv at *;clear hW1 hBv hB;go_loopw [22,6] (fun i st wi=>∃ (j:Nat) (t:Int),j<=v.Gf.length/\i=.int .i64 j/\st=.int .i64 t/\0<=t/\t<=j*32768/\Below w.heap.size w wi/\DW g v=qV g.Gd v.Gf.length (v.Gf.drop j) t/\wi.heap[Bv]?=some (.cells (Taf v tp tc sp sc) 68 (0,0))) (fun i _ _=>v.Gf.length - (intOf i).toNat)
  exact ⟨0,0,cg _,rfl,rfl,TcC,TcC,cU.o,rfl,zv.o⟩;clear cU zv;obtain ⟨j,t,hj,rfl,rfl,ht0,ht1,hB,OQ,vA⟩:=hrel;have HSE:=aa OQ;clear OQ;have zv:=aa vA;clear vA;by_cases hlt2:j<v.Gf.length
  ·obtain ⟨s,hs⟩:=aj v.Gf j hlt2;rw [CP hs] at HSE;obtain ⟨b2,off2,us2,hsp,I0,C2,B5,C3,hcv2⟩:=Zv.o.elem hs;subst hsp;have HSV:=aa C3;have hsm:=ct hs;have hsz:=B6.o s hsm;have hsz1:=hsz.1;have hsz2:=hsz.2;have Yq:=aa (HKV.o s hsm);obtain ⟨av,Oz,rfl,py,hst⟩:=C3;obtain ⟨ap,ac,rfl,_,_⟩:=py.cap;obtain ⟨eN,eR,rfl,_,_⟩:=hst.cap;have AD:wr.heap[b2]?=w.heap[b2]?:=hB.block b2 C2;obtain ⟨q0,q1,q2,q3,q4,q5,q6,q7,q8,q9,q10⟩:=ak5 AD hcv2;clear hs hsm hsz hcv2 B5 AD py hst;have lj:=aa (b9 wr (.cells (Tae s ap ac eN eR) 114));have hA:=ae wr (.cells (Tae s ap ac eN eR) 114);have cm:=aa (hB.trans (hA.mono hB.size));have J0:=Zbk hA zv;clear hA;go_wp2_with fail;clear q0 q1 q2 q3 q4 q5 q6 q7 q8 q9 q10;generalize hW2:World.alloc wr _=W2 at *;generalize hBs:wr.heap.size=Bs at *;clear hW2 hBs;refine (ze (ok:=ok) g _ bc s t _ W2 (I3.o.below cm.o) (by have:=HX.o.1;omega) (by have:=HX.o.2;omega) (bC.moves.mv (Mv.of cm.o) HSV.o) hsz1 hsz2 Yq.o).mono ?_;rintro e w3 ⟨rfl,hb3⟩;have cJ:=Zbl cm hb3;have pZ:=Zbk hb3 J0;have nB:=Zbk hb3 lj;clear hb3;have n0:=cr pZ.o 0 _ rfl;have n5:=cr pZ.o 5 _ rfl;have s1:=cr nB.o 1 _ rfl;have s2:=cr nB.o 2 _ rfl;have c9:=(cJ.o.cell (p:=⟨bc,9,none⟩) jt).trans VF.o;cases hf:bJ g.Gd s t with
   | false =>
    have HR:Hid (iP g=(v.name,2)):=aa (by rw [HE.o,HSE.o,aw hf,bh TcF]);go_wp2;go_ret2;exact ⟨TcK,cJ.o⟩
   | true =>
    have ML:=BK hf;have aa5:=ML.1;have aa6:=ML.2;rw [hf,bh TcD] at HSE;clear hf ML;by_cases h1:1<v.Gf.length
    ·have hlk:∀ n,(Instr.lookup 153 (.map (some sm)) (.int .i64 s.kind) false).run prog (w3.drewN n)=.ok (jR (oO s.kind)) (w3.drewN n):=fun n=>by
      have hm:bi prog 3 (w3.drewN n) sm 10 eH:=Qk.o.block (cJ.o.block _ Qk.o.lt);have:=(hm.look pF underlying153 (uG _) (lA underlying3 Yq.o)).1;rwa [uA] at this
     generalize hxs:oO s.kind=x at *;have hlk':∀ n,(Instr.lookup 153 (.map (some sm)) (.int .i64 s.kind) false).run prog (w3.drewN n)=.ok (.agg (Tak x)) (w3.drewN n):=hlk;clear hlk hxs;have N4:=vw x;have hd1:decide ((1:Int)<(v.Gf.length:Int))=true:=by simp;omega
     go_upto_region 10 with (fail);go_quiet (fail);clear hlk' N4;cases hsv:x.several with
     | true =>
      rw [bh (fun h=>by rw [hsv] at h;cases h.2)] at HSE;go_wp2;go_roundw;exact ⟨j+1,t+s.length,TcC,TcG,rfl,TcC,by push_cast;omega,aT cJ.o _,HSE.o,pZ.o⟩;simp [intOf];omega
     | false =>
      rw [aw ⟨h1,hsv⟩] at HSE;have HR:Hid (iP g=(v.name,17)):=aa (by rw [HE.o,HSE.o,bh TcF]);go_wp2;go_ret2;exact ⟨TcK,aT cJ.o _⟩
    have hd1:decide ((1:Int)<(v.Gf.length:Int))=false:=by simp;omega
    rw [bh (fun h=>h1 h.1)] at HSE;go_upto_region 10 with (fail);go_quiet (fail);go_wp2;go_roundw
    exact ⟨j+1,t+s.length,TcC,TcG,rfl,TcC,by push_cast;omega,aT cJ.o _,HSE.o,pZ.o⟩;simp [intOf];omega
  obtain rfl:j=v.Gf.length:=by omega
  have HR:Hid (iP g=iM (DW g) (g.F9.drop (k+1))):=aa (by rw [HE.o,aw (by rw [HSE.o,rB];rfl)]);go_wp2;go_roundw;exact ⟨k+1,TcC,TcG,hB,HR.o⟩;simp [intOf];omega
 obtain rfl:k=g.F9.length:=by omega
 have HR:Hid (iP g=(⟨#[]⟩,0)):=aa TdK;go_wp2;go_ret2;exact ⟨TcK,hB⟩
theorem cR.grown {w w':World}{b:Nat}(g:w.grownBy w' (some b)):cR (fun k=>k=b) w w':=⟨g.os,g.tape,g.output,g.size,fun k hk hne=>g.block k hk (fun e=>hne (by injection e))⟩
def NK (M:List (ByteArray × Int × Int))(nm:ByteArray)(i:Nat):Bool:=M.any fun m=>decide (m.1=nm)&&(decide (m.2.1<=(i:Int))&&decide ((i:Int)<m.2.1+m.2.2))
def bz (M:List (ByteArray × Int × Int))(d:az):List Bool:=(List.range d.Gc.toNat).map (NK M d.name)
def tV (M:List (ByteArray × Int × Int))(nm:ByteArray)(st n:Int):Bool:=(List.range n.toNat).any fun j=>NK M nm (st.toNat+j)
def nP (n:Int):List (ByteArray × Int × Int)->List aR->Bool
 | _,[]=>false
 | M,a :: r=>if a.vol=true then nP n M r else if tV M a.on a.start n=true then true else nP n (M++[(a.on,a.start,n)]) r
def dC (n:Int)(l:List aR):List (ByteArray × Int × Int):=(l.filter fun a=>!a.vol).map fun a=>(a.on,a.start,n)
def aX (s:aB):Int:=iB s.kind s.length s.Ga.length
def lU (pre:List (ay × aB)):List (ByteArray × Int × Int):=pre.flatMap fun p=>dC (aX p.2) p.2.Ga
def CQ (pre:List (ay × aB))(_:ay)(s:aB):Int:=if nP (aX s) (lU pre) s.Ga=true then 15 else 0
def IW (pre:List (ay × aB))(_:ay)(s:aB):Int:=if s.kind=6 then (if pre.any (fun p=>decide (p.2.kind=6)&&(decide (p.2.pool=s.pool)&&decide (p.2.device=s.device)))=true then 9 else 0) else 0
def pE (g:af):ByteArray × Int:=if (bD CQ [] (aA g.F9)).2=0 then bD IW [] (aA g.F9) else bD CQ [] (aA g.F9)
theorem nO (M:List (ByteArray × Int × Int))(m:ByteArray × Int × Int)(nm:ByteArray)(i:Nat):NK (M++[m]) nm i=(NK M nm i||(decide (m.1=nm)&&(decide (m.2.1<=(i:Int))&&decide ((i:Int)<m.2.1+m.2.2)))):=by
 unfold NK;rw [rj];simp
theorem gP (M:List (ByteArray × Int × Int))(d:az):(bz M d).length=d.Gc.toNat:=by simp [bz]
theorem gU {M:List (ByteArray × Int × Int)}{i:Nat}(h:i<d.Gc.toNat):(bz M d)[i]?=some (NK M d.name i):=by simp [bz,h]
theorem lQ (M:List (ByteArray × Int × Int))(d:az)(m:ByteArray × Int × Int)(h:¬ m.1=d.name):bz (M++[m]) d=bz M d:=by
 unfold bz;refine List.map_congr_left fun i _=>?_;rw [nO];simp [h]
theorem vQ (M:List (ByteArray × Int × Int))(d:az)(nm:ByteArray)(st:Int):bz (M++[(nm,st,0)]) d=bz M d:=by
 unfold bz;refine List.map_congr_left fun i _=>?_;rw [nO]
 have:(decide (st<=(i:Int))&&decide ((i:Int)<st+0))=false:=by
  rw [<- Bool.decide_and];exact cN TcC
 simp only [this,Bool.and_false,Bool.or_false]
theorem xH (M:List (ByteArray × Int × Int))(d:az)(st:Int)(j:Nat)(h0:0<=st):(bz (M++[(d.name,st,(j:Int))]) d).set (st.toNat+j) true=bz (M++[(d.name,st,((j+1:Nat):Int))]) d:=by
 refine Bk fun i=>?_;rw [List.getElem?_set]
 by_cases hi:i<d.Gc.toNat
 ·rw [gU hi,gU hi,gP];rw [nO,nO];simp only [decide_true,Bool.true_and,<- Bool.decide_and];split
  ·rename_i e;subst e;rw [aw hi];have:decide (st<=((st.toNat+j:Nat):Int)/\((st.toNat+j:Nat):Int)<st+((j+1:Nat):Int))=true:=eA TcC;rw [this,Bool.or_true]
  rename_i e;congr 1
  have:(st<=(i:Int)/\(i:Int)<st+(j:Int))↔(st<=(i:Int)/\(i:Int)<st+((j+1:Nat):Int)):=by omega
  simp only [this]
 have h1:∀ M',(bz M' d)[i]?=none:=fun M'=>xj (by rw [gP];omega)
 rw [h1,h1,gP];split
 ·rename_i e;subst e;rw [bh hi]
 rfl
theorem D5 (M:List (ByteArray × Int × Int))(d:az)(st n:Int)(h0:0<=st)(hn:0<=n)(h:st+n<=d.Gc):(((bz M d).drop st.toNat).take n.toNat).any id=tV M d.name st n:=by
 have e:((bz M d).drop st.toNat).take n.toNat=(List.range n.toNat).map fun j=>NK M d.name (st.toNat+j):=by
  refine Bk fun i=>?_;rw [xF]
  by_cases hi:i<n.toNat
  ·rw [aw hi,pk,gU TcC];simp [hi]
  rw [bh hi];exact (xj (by rw [fW,List.length_range];omega)).symm
 rw [e];unfold tV;rw [List.any_map];rfl
theorem xC (n:Int)(l:List aR)(k:Nat)(a:aR)(h:l[k]?=some a):dC n (l.take (k+1))=if a.vol=true then dC n (l.take k) else dC n (l.take k)++[(a.on,a.start,n)]:=by
 rw [take_snoc' l k a h];unfold dC;cases hv:a.vol <;> simp [hv]
theorem Ee (n:Int)(M:List (ByteArray × Int × Int)){l:List aR}{a:aR}(h:l[k]?=some a):nP n M (l.drop k)=if a.vol=true then nP n M (l.drop (k+1)) else if tV M a.on a.start n=true then true else nP n (M++[(a.on,a.start,n)]) (l.drop (k+1)):=by
 rw [drop_at h];rfl
def vG (L:List (az × Nat)):Value->Option Value
 | .string s=>(L.find? fun p=>decide (p.1.name=s)).map fun p=>.slice (some ⟨p.2,0,none⟩) p.1.Gc.toNat p.1.Gc.toNat
 | _=>none
theorem Tdm {p:Prop}(h:p:=by rw [e]):p:=h
theorem Av (L:List (az × Nat))(d:az)(b:Nat)(h:∀ p∈L,¬ p.1.name=d.name)(key:Value):vG (L++[(d,b)]) key=upd (vG L) (.string d.name) (.slice (some b) d.Gc.toNat d.Gc.toNat) key:=by
 by_cases hk:key=.string d.name
 ·subst hk;rw [upd_same];show ((L++[(d,b)]).find? fun p=>decide (p.1.name=d.name)).map _=_;rw [tD,List.find?_eq_none.2 (fun p hp=>by simpa using h p hp)];simp
 rw [bP hk];unfold vG;split
 ·rename_i s;have:¬ d.name=s:=fun e=>hk Tdm;rw [tD];simp [this]
 rfl
theorem Dv {L:List (az × Nat)}{nm:ByteArray}(h:bH (L.map (·.1)) nm=some d):∃ b,(d,b)∈L/\d.name=nm/\vG L (.string nm)=some (.slice (some ⟨b,0,none⟩) d.Gc.toNat d.Gc.toNat):=by
 unfold bH at h;rw [List.find?_map] at h;obtain ⟨p,hp,rfl⟩:=Option.map_eq_some_iff.1 h;refine ⟨p.2,eV hp,by simpa using List.find?_some hp,?_⟩;have e:(fun p:az × Nat=>decide (p.1.name=nm))=((fun d:az=>decide (d.name=nm)) ∘ fun x:az × Nat=>x.1):=rfl;show (L.find? fun p=>decide (p.1.name=nm)).map _=_;rw [e,hp];rfl
def bI (l:List ByteArray)(x:ByteArray):Bool:=l.any fun y=>decide (y=x)
theorem ny :bI l x=true↔x∈l:=by
 unfold bI;rw [nh];exact ⟨fun ⟨y,hy,e⟩=>by rw [<- of_decide_eq_true e];exact hy,fun h=>⟨x,h,TcD⟩⟩
theorem lX :bI l x=false↔x ∉ l:=by
 rw [<- ny];exact Bool.eq_false_iff
theorem fU (l:List ByteArray)(x y:ByteArray):bI (l++[x]) y=(bI l y||decide (x=y)):=by
 unfold bI;rw [rj];simp
def rQ (s:aB):List ByteArray:=((s.Ga.filter (·.vol)).map (·.on))++(if s.log.toList.isEmpty then [] else [s.log])++(if s.pool.toList.isEmpty then [] else [s.pool])
def kY (v:ay):List ByteArray:=v.Gf.flatMap rQ
def dU (F9:List ay)(nm:ByteArray):Option (List ByteArray):=(aM F9 nm).map kY
inductive Reach (lk:ByteArray->Option (List ByteArray))(l0:List ByteArray):ByteArray->Prop
 | base {x:ByteArray}:x∈l0->(lk x).isSome=true->Reach lk l0 x
 | step {x y:ByteArray} {l:List ByteArray}:Reach lk l0 y->lk y=some l->x∈l->(lk x).isSome=true->Reach lk l0 x
structure nX (lk:ByteArray->Option (List ByteArray))(l0 met todo:List ByteArray):Prop where
 m:∀ x∈met,Reach lk l0 x
 t:∀ x∈todo,(lk x).isSome=true->Reach lk l0 x
 b:∀ x∈l0,(lk x).isSome=true->x∈met\/x∈todo
 c:∀ y∈met,∀ l,lk y=some l->∀ x∈l,(lk x).isSome=true->x∈met\/x∈todo
variable {lk:ByteArray->Option (List ByteArray)}{l0 met todo:List ByteArray}
variable {x:ByteArray}{α:Type}
theorem nX.start:nX lk l0 [] l0:=⟨fun _ h=>absurd h TcD,fun _ h hs=>Reach.base h hs,fun _ h _=>Or.inr h,fun _ h=>absurd h TcD⟩
theorem nX.done (h:nX lk l0 met [])(x:ByteArray):x∈met↔Reach lk l0 x:=by
 refine ⟨h.m x,fun r=>?_⟩;induction r with
 | base h1 h2=>exact (h.b _ h1 h2).elim id fun q=>by cases q
 | step _ h2 h3 h4 ih=>exact (h.c _ ih _ h2 _ h3 h4).elim id fun q=>by cases q
theorem nX.skip (h:nX lk l0 met (todo++[x]))(hx:(lk x).isSome=false\/x∈met):nX lk l0 met todo:=by
 have key:∀ y,(lk y).isSome=true->y∈met\/y∈todo++[x]->y∈met\/y∈todo:=fun y hs q=>by
  rcases q with q | q
  ·exact .inl q
  rcases List.mem_append.1 q with q | q
  ·exact .inr q
  obtain rfl:=List.mem_singleton.1 q;rcases hx with e | e
  ·rw [e] at hs;cases hs
  exact .inl e
 exact ⟨h.m,fun y hy=>h.t y (ju _ hy),fun y hy hs=>key y hs (h.b y hy hs),fun y hy l hl z hz hs=>key z hs (h.c y hy l hl z hz hs)⟩
theorem nX.more {l:List ByteArray}(h:nX lk l0 met (todo++[x]))(hx:lk x=some l):nX lk l0 (met++[x]) (todo++l):=by
 have hr:Reach lk l0 x:=h.t x TcD (by rw [hx];rfl);have key:∀ y,y∈met\/y∈todo++[x]->y∈met++[x]\/y∈todo++l:=fun y q=>by
  rcases q with q | q
  ·exact .inl (ju _ q)
  rcases List.mem_append.1 q with q | q
  ·exact .inr (ju _ q)
  exact .inl (P9 _ q)
 refine ⟨fun y hy=>?_,fun y hy hs=>?_,fun y hy hs=>key y (h.b y hy hs),fun y hy k hk z hz hs=>?_⟩
 ·rcases List.mem_append.1 hy with q | q
  ·exact h.m y q
  obtain rfl:=List.mem_singleton.1 q;exact hr
 ·rcases List.mem_append.1 hy with q | q
  ·exact h.t y (ju _ q) hs
  exact .step hr hx q hs
 rcases List.mem_append.1 hy with q | q
 ·exact key z (h.c y q k hk z hz hs)
 obtain rfl:=List.mem_singleton.1 q;rw [hx] at hk;injection hk with e;subst e;exact .inr (P9 _ hz)
def nK (names:List ByteArray)(U:Nat)(met todo:List ByteArray):Nat:=(names.filter fun n=>!bI met n).length*(U+1)+todo.length
theorem lw (names:List ByteArray)(U:Nat)(met todo:List ByteArray)(x:ByteArray):nK names U met todo<nK names U met (todo++[x]):=by
 unfold nK;rw [cD];simp
theorem kQ {p q:α->Bool}:∀ {l:List α} {x:α},(∀ y,q y=true->p y=true)->x∈l->p x=true->q x=false->(l.filter q).length<(l.filter p).length
 | [],_,_,hx,_,_=>by cases hx
 | a :: l,x,Qa,hx,hp,hq=>by
  have hle:(l.filter q).length<=(l.filter p).length:=by
   have e:l.filter q=(l.filter p).filter q:=by
    rw [List.filter_filter];refine A0 fun y _=>?_;cases h:q y <;> simp [h,Qa y]
   rw [e];exact tk ..
  by_cases e:x=a
  ·subst e;simp only [List.filter_cons,hp,hq,ej,pj,fY,cS];omega
  have hx':x∈l:=(List.mem_cons.1 hx).resolve_left e;have ih:=kQ Qa hx' hp hq;by_cases ha:q a=true
  ·simp only [List.filter_cons,ha,Qa a ha,ej,cS];omega
  simp only [List.filter_cons,ha,fY,pj];split
  ·rw [cS];omega
  omega
theorem Ap (names:List ByteArray)(U:Nat)(met todo l:List ByteArray)(x:ByteArray)(hx:x∈names)(hm:x ∉ met)(hl:l.length<=U):nK names U (met++[x]) (todo++l)<nK names U met (todo++[x]):=by
 unfold nK;have h:=kQ (p:=fun n=>!bI met n) (q:=fun n=>!bI (met++[x]) n) (l:=names) (x:=x) (fun y hy=>by rw [fU] at hy;cases h:bI met y <;> simp [h] at hy ⊢) hx (by rw [lX.2 hm];rfl) (by rw [fU];simp);generalize (names.filter fun n=>!bI met n).length=a at *;generalize (names.filter fun n=>!bI (met++[x]) n).length=b at *;have:(b+1)*(U+1)<=a*(U+1):=tA _ h;rw [Nat.succ_mul] at this;simp only [cD,A4];omega
def BG (names met:List ByteArray):Nat:=(names.filter fun n=>!bI met n).length
theorem Bn (names met:List ByteArray)(x:ByteArray)(hx:x∈names)(hm:x ∉ met):BG names (met++[x])<BG names met :=
 kQ (p:=fun n=>!bI met n) (q:=fun n=>!bI (met++[x]) n) (l:=names) (x:=x) (fun y hy=>by rw [fU] at hy;cases h:bI met y <;> simp [h] at hy ⊢) hx (by rw [lX.2 hm];rfl) (by rw [fU];simp)
theorem Ae (names met:List ByteArray):BG names met<=names.length:=tk ..
def oN (met:List ByteArray):Value->Option Value
 | .string s=>if bI met s=true then some (.bool true) else none
 | _=>none
theorem xk (met:List ByteArray)(s:ByteArray):(oN met (.string s)).getD (.bool false)=.bool (bI met s):=by
 show (if bI met s=true then some (Value.bool true) else none).getD (.bool false)=_;cases h:bI met s <;> simp
theorem uH (met:List ByteArray)(x:ByteArray)(key:Value):oN (met++[x]) key=upd (oN met) (.string x) (.bool true) key:=by
 by_cases h:key=.string x
 ·subst h;rw [upd_same];simp [oN,fU]
 rw [bP h];unfold oN;split
 ·rename_i s;have:¬ x=s:=fun e=>h Tdm;rw [fU];simp [this]
 rfl
def gD {α:Type}(nm:α->ByteArray)(p:ByteArray->Bool)(l:List α):List ByteArray:=l.foldl (fun out x=>if (p (nm x)&&!bI out (nm x))=true then out++[nm x] else out) []
theorem rJ (nm:α->ByteArray)(p:ByteArray->Bool){l:List α}{k:Nat}{x:α}(h:l[k]?=some x):gD nm p (l.take (k+1))=if (p (nm x)&&!bI (gD nm p (l.take k)) (nm x))=true then gD nm p (l.take k)++[nm x] else gD nm p (l.take k):=by
 rw [take_snoc' l k x h];unfold gD;rw [List.foldl_append];rfl
theorem lq (nm:α->ByteArray)(p:ByteArray->Bool)(l:List α):(gD nm p l).length<=l.length:=by
 have:∀ (l:List α) (o:List ByteArray),(l.foldl (fun out x=>if (p (nm x)&&!bI out (nm x))=true then out++[nm x] else out) o).length<=o.length+l.length:=by
  intro l;induction l with
  | nil=>intro o;simp
  | cons x l ih =>
   intro o;rw [cF,cS];refine cA (ih _) ?_;split
   ·rw [cD,A4];omega
   omega
 simpa [gD] using this l []
open Classical in
noncomputable def Fj (F9:List ay)(nm x:ByteArray):Bool:=decide (x=nm\/Reach (dU F9) ((dU F9 nm).getD []) x)
noncomputable def mR (F9:List ay)(nm:ByteArray):List ByteArray:=gD ay.name (Fj F9 nm) F9
def onS (d:ByteArray)(s:aB):Bool:=s.Ga.any fun a=>decide (a.on=d)&&!a.vol
def XZ (F9:List ay)(d x:ByteArray):Bool:=((aM F9 x).getD eY).Gf.any (onS d)
noncomputable def sP (g:af)(nm:ByteArray):List ByteArray:=gD az.name (fun d=>(mR g.F9 nm).any (XZ g.F9 d)) g.Gb
end Go.Proofs.YtaagglbgohjldaaGreatDoor
namespace Go.Proofs.YtaagglbgohjldaaGreatDoor
open Go.Proofs.Tryz
open Go.RowKit Go.Maps Go.Shelf
variable {ok:Nat->Prop}
def XY (a b:ByteArray):Bool:=Op.bytesLess a.toList b.toList
def kV (l:List ByteArray)(i:Nat):Bool:=mr (l.getD i ⟨#[]⟩)&&(decide (i=0)||XY (l.getD (i - 1) ⟨#[]⟩) (l.getD i ⟨#[]⟩))
def eP (l:List ByteArray):Int:=if 8<l.length then 4 else if (List.range l.length).all (kV l) then 0 else 2
theorem TbE {p:Prop}(h:p:=by
 ·go_wp2;go_ret;refine ⟨cz (Eq.symm ?_),hB⟩;rw [HT.o,aw];rw [eL];exact fun j hj=>cE.o j Tdq):p:=h
theorem TbI {p:Prop}(h:p:=by
 rw [aw h8] at HT;have hd:decide ((8:Int)<(l.length:Int))=true:=by simp;omega
 go_wp2;go_ret;exact ⟨cz HT.o.symm,bj _ _⟩):p:=h
theorem TeO {p:Prop}(h:p:=by rw [Mz.o,ht,XY,hc,cN (show ¬ k=0 by omega)];rfl):p:=h
theorem TeU {p:Prop}(h:p:=by rw [Mz.o,ht,eA (show k=0 by omega)];rfl):p:=h
theorem kZ (l:List ByteArray)(v:Value)(w:World)(hr:ck aF 1 ok w [v] l)(hl:l.length<=1000000)(hsz:∀ s∈l,s.size<=9223372036854775807) :
  Calls prog 137 #[v] w fun e w'=>e=.returned (.int .i64 (eP l))/\Below w.heap.size w w':=by
 obtain ⟨p,c,rfl,hc1,hc2⟩:=hr.cap;have HR:=aa hr;clear hr;have Zu:=aa hsz;clear hsz;have HT:Hid (eP l=_):=aa (eP.eq_1 l);go_enter func137,ntmps137
 by_cases h8:8<l.length
 ·exact TbI
 rw [bh h8] at HT;have hd:decide ((8:Int)<(l.length:Int))=false:=by simp;omega
 go_wp2;go_loopw [10,3,4] (fun i _ _ wr=>∃ k:Nat,k<=l.length/\i=.int .i64 k/\(∀ j,j<k->kV l j=true)/\Below w.heap.size w wr) (fun i _ _ _=>l.length - (intOf i).toNat)
 exact ⟨0,cg _,rfl,fun j hj=>by omega,bj _ _⟩;obtain ⟨k,hk,rfl,hall,hB⟩:=hrel;have cE:=aa hall;clear hall;by_cases hlt:k<l.length
 ·obtain ⟨s,hs⟩:=aj l k hlt;obtain ⟨b,off,us,rfl,_,cX,ez,eE,hcv⟩:=HR.o.elem hs;obtain rfl:us=_:=eE;have q0:=(hB.cell (p:=⟨b,off+k*1+0,none⟩) cX).trans (hcv 0 _ rfl);rw [fp,fg] at q0;have HG:Hid (l.getD k ⟨#[]⟩=s):=aa (by simp [hs]);have Ud:=Zu.o s (ct hs);clear hcv ez hs;have Mz:Hid (kV l k=_):=aa (kV.eq_1 l k);rw [HG.o] at Mz;have PZ:Hid (kV l k=false->eP l=2):=aa fun h=>by
   rw [HT.o,bh];intro hh;rw [eL] at hh;rw [hh k (List.mem_range.2 hlt)] at h;cases h
  have kh:Hid (kV l k=true->∀ j,j<k+1->kV l j=true):=aa fun h j hj=>by
   by_cases hjk:j=k
   ·exact hjk ▸ h
   exact cE.o j TcC
  go_wp2_with fail;refine (Af s _ Ud).mono ?_;rintro e w2 ⟨rfl,hb2⟩;have cm:=aa (hB.trans (hb2.mono hB.size));clear hb2;cases ht:mr s with
  | false =>
   have j9:Hid (kV l k=false):=aa (by rw [Mz.o,ht];rfl);go_wp2;go_ret;exact ⟨cz (PZ.o j9.o).symm,cm.o⟩
  | true =>
   by_cases hk0:k<1
   ·have j9:Hid (kV l k=true):=aa TeU;go_wp2;go_roundw;exact ⟨k+1,TcC,TcG,kh.o j9.o,cm.o⟩;simp [intOf];omega
   obtain ⟨r,hr'⟩:=aj l (k - 1) TcC;obtain ⟨b',off',us',e',_,ak8,TE,Tv,hcv'⟩:=HR.o.elem hr';obtain rfl:us'=_:=Tv;injection e' with e';injection e' with eb eo;subst eb;subst eo;have q1:=(cm.o.cell (p:=⟨b,off+(k - 1)*1+0,none⟩) cX).trans (hcv' 0 _ rfl);rw [fp,fg] at q1;have hgm:l.getD (k - 1) ⟨#[]⟩=r:=by simp [hr']
   rw [hgm] at Mz;clear hgm hcv' TE ak8 hr' q0;cases hc:Op.bytesLess r.toList s.toList with
   | true =>
    have j9:Hid (kV l k=true):=aa (by rw [Mz.o,ht,XY,hc];simp);go_wp2;go_roundw;exact ⟨k+1,TcC,TcG,kh.o j9.o,cm.o⟩;simp [intOf];omega
   | false =>
    have j9:Hid (kV l k=false):=aa TeO;go_wp2;go_ret;exact ⟨cz (PZ.o j9.o).symm,cm.o⟩
 exact TbE
def TI (l:List ByteArray):Prop:=l.length<=1000000/\∀ s∈l,s.size<=9223372036854775807
structure UT (g:af):Prop where
 name:g.name.size<=9223372036854775807
 tags:TI g.tags
 dl:g.Gb.length<=1000000
 vl:g.F9.length<=1000000
 hl:g.history.length<=1000000
 disk:∀ d∈g.Gb,d.name.size<=9223372036854775807/\TI d.tags
 vol:∀ v∈g.F9,v.name.size<=9223372036854775807/\TI v.tags
 hist:∀ h∈g.history,h.1.size<=9223372036854775807
def lL (h:ByteArray × Int × Int):Bool:=jo h.1&&decide (0<=h.2.2/\h.2.2<=1048575)
def lm (g:af):Prop:=0<=g.seq/\g.seq<=1048575/\1<=g.Gd/\g.Gd<=1024/\0<=g.next/\g.next<=1073741824
instance (g:af):Decidable (lm g):=by unfold lm;infer_instance
def iR (g:af):Prop:=g.Gb.length<=8/\g.F9.length<=32/\g.history.length<=32
instance (g:af):Decidable (iR g):=by unfold iR;infer_instance
def qX (g:af):Int :=
 if jo g.name=false then 10 else if ¬ lm g then 1 else if ¬ iR g then 4 else if eP g.tags≠0 then eP g.tags else if g.history.all lL then 0 else 2
def dZ (g:af):ByteArray × Int:=(⟨#[]⟩,qX g)
theorem Tdu {p:Prop}(h:p:=by rw [dZ,HE.o];rfl):p:=h
theorem CJ (g:af)(a:bN)(bc:Nat)(w:World)(kB:gY w bc g a)(hg:dN ok w g a)(hz:UT g)(hS:AW w) :
  Calls prog 101 #[.pointer (some bc)] w (Aw (dZ g) w):=by
 have jt:=kB.lt;obtain ⟨sm,hblk,hmap⟩:=kB;have nw:Hid (bX w bc sm g a):=aa hblk;clear hblk hmap;obtain ⟨g0,g1,g2,g3,g4,g5,g6,g7,g8⟩:=bX.cells nw.o;have HT:=aa hg.tags;have HH:=aa hg.hist;have HZ:=aa hz;have HS:=aa hS;have hhl:=hz.hl;have hnz:=hz.name;obtain ⟨vp,vc,sT,ao8,ap0⟩:=hg.hist.cap;injection sT with e1 e2 e3;obtain ⟨p6,c6,h6,h61,h62⟩:=hg.Gb.cap;obtain ⟨p7,c7,h7,h71,h72⟩:=hg.F9.cap;clear hg hz hS;obtain ⟨ID,gtc,gdp,G3,G4,Ge,Hb,Hc⟩:=a;dsimp only at e1 e2 e3 g0 g1 g2 g3 g4 g5 g6 g7 g8 h6 h7;subst e1;subst e3;clear e2 h6 h7 h61 h62 h71 h72;have HE:Hid (qX g=_):=aa (qX.eq_1 g);have CN:=aa (b9 w (.cells (Tam g ID gtc gdp G3 G4 Ge Hb Hc) 31));have hA:=ae w (.cells (Tam g ID gtc gdp G3 G4 Ge Hb Hc) 31);have cU:=aa hA;have HS1:=aa (HS.o.below hA);clear hA;go_enter func101,ntmps101
 go_wp2_with fail;clear g0 g1 g2 g3 g4 g5 g6 g7 g8;generalize hW1:World.alloc w _=W1 at *;have hBv:w.heap.size=w.heap.size:=rfl;generalize hB0:w.heap.size=B at CN;clear hW1 hBv;refine (fT g.name W1 hnz HS1.o).mono ?_;rintro e w2 ⟨rfl,hb2⟩;have cm:=Zbl cU hb2;have pH:=Zbk hb2 CN;clear hb2 cU CN;have n2:=cr pH.o 2 _ rfl;have n3:=cr pH.o 3 _ rfl;have n4:=cr pH.o 4 _ rfl;have n5:=cr pH.o 5 _ rfl;have n6:=cr pH.o 6 _ rfl;have n7:=cr pH.o 7 _ rfl;have n8:=cr pH.o 8 _ rfl
 cases XV:jo g.name with
 | false =>
  rw [aw XV] at HE;clear XV;go_wp2;go_ret2;exact ⟨Tdu,cm.o⟩
 | true =>
  rw [bh (by rw [XV];decide)] at HE;clear XV;by_cases hr:lm g
  ·rw [bh (fun h=>h hr)] at HE;obtain ⟨r1,r2,r3,r4,r5,r6⟩:=hr;by_cases hl:iR g
   ·rw [bh (fun h=>h hl)] at HE;obtain ⟨l1,l2,l3⟩:=hl;have d6:decide ((8:Int)<(g.Gb.length:Int))=false:=by simp;omega
    have d7:decide ((32:Int)<(g.F9.length:Int))=false:=by simp;omega
    have d8:decide ((32:Int)<(g.history.length:Int))=false:=by simp;omega
    go_wp2_with fail;refine (kZ (ok:=ok) g.tags _ w2 ((ck.moves aF.moves).mv (Mv.of cm.o) HT.o) HZ.o.tags.1 HZ.o.tags.2).mono ?_;rintro e w3 ⟨rfl,hb3⟩;have cJ:=Zbl cm hb3;have n8':w3.cell? (Tac B 8)=some (.slice Hb g.history.length Hc):=by simp [World.cell?,(hb3.block _ (aq pH.o)).trans pH.o]
    clear hb3 cm pH n2 n3 n4 n5 n6 n7 n8 d6 d7 d8 l1 l2 r1 r2 r3 r4 r5 r6;by_cases ht:eP g.tags=0
    ·have Nh:(eP g.tags != 0)=false:=by rw [ht];rfl
     rw [bh (fun h=>h ht)] at HE;clear ht;go_wp2_with fail;go_loopw [72,7] (fun i _ wr=>∃ k:Nat,k<=g.history.length/\i=.int .i64 k/\Below w.heap.size w wr/\(∀ j,j<k->lL (g.history.getD j (⟨#[]⟩,0,0))=true)) (fun i _ _=>g.history.length - (intOf i).toNat)
     exact ⟨0,cg _,rfl,cJ.o,fun j hj=>by omega⟩;clear cJ;obtain ⟨k,hk,rfl,hB,hall⟩:=hrel;have cE:=aa hall;clear hall;by_cases hlt:k<g.history.length
     ·obtain ⟨h,hh⟩:=aj g.history k hlt;obtain ⟨b,off,us,hbo,gR,cX,ez,eE,hcv⟩:=HH.o.elem hh;subst hbo;obtain rfl:us=_:=eE;obtain ⟨hn,hid,TD⟩:=h;have cT:wr.heap[b]?=w.heap[b]?:=hB.block b cX;obtain ⟨q0,q1,q2⟩:=Mn cT hcv;have aq3:=HZ.o.hist _ (ct hh);have HG:Hid (g.history.getD k (⟨#[]⟩,0,0)=(hn,hid,TD)):=aa (by simp [hh]);have PZ:Hid (lL (hn,hid,TD)=false->qX g=2):=aa fun hb=>by
       rw [HE.o,bh];intro Yr;rw [eL] at Yr;rw [Yr _ (ct hh)] at hb;cases hb
      have kh:Hid (lL (hn,hid,TD)=true->∀ j,j<k+1->lL (g.history.getD j (⟨#[]⟩,0,0))=true):=aa fun hb j hj=>by
       by_cases hjk:j=k
       ·subst hjk;rw [HG.o];exact hb
       exact cE.o j TcC
      have Mz:Hid (lL (hn,hid,TD)=_):=aa (lL.eq_1 (hn,hid,TD));clear hcv ez cT hh HG cE;have HS4:=aa ((HS.o.below hB).below (ae wr (.cells #[.string hn,.int .u64 hid,.int .i64 TD] 73)));have eI:=aa (hB.trans ((ae wr (.cells #[.string hn,.int .u64 hid,.int .i64 TD] 73)).mono hB.size));have VG:=aa (b9 wr (.cells #[.string hn,.int .u64 hid,.int .i64 TD] 73));go_wp2_with fail;clear q0 q1 q2;generalize hW4:World.alloc wr _=W4 at *;generalize hB4:wr.heap.size=Bh at *;clear hW4 hB4 hB;refine (fT hn W4 aq3 HS4.o).mono ?_;rintro e w5 ⟨rfl,hb5⟩;have eK:=Zbl eI hb5;have m2:w5.cell? (Tac Bh 2)=some (.int .i64 TD):=by simp [World.cell?,(hb5.block _ (aq VG.o)).trans VG.o]
      clear hb5 eI VG;cases ag4:jo hn with
      | false =>
       have j9:Hid (lL (hn,hid,TD)=false):=aa (by rw [Mz.o,ag4];rfl);clear ag4;go_wp2;go_ret2;exact ⟨by rw [dZ,PZ.o j9.o];rfl,eK.o⟩
      | true =>
       by_cases hr2:0<=TD/\TD<=1048575
       ·have j9:Hid (lL (hn,hid,TD)=true):=aa (by rw [Mz.o,ag4,eA hr2];rfl);obtain ⟨s1,s2⟩:=hr2;clear ag4;go_wp2;go_roundw;exact ⟨k+1,TcC,TcG,eK.o,kh.o j9.o⟩;simp [intOf];omega
       have j9:Hid (lL (hn,hid,TD)=false):=aa (by rw [Mz.o,ag4,cN hr2];rfl);have hr3:TD<0\/(0<=TD/\1048575<TD):=by omega
       clear ag4 hr2;rcases hr3 with s1 | ⟨s1,s2⟩
       all_goals
        go_wp2;go_ret2;exact ⟨by rw [dZ,PZ.o j9.o];rfl,eK.o⟩
     have HR:Hid (qX g=0):=aa (by
      rw [HE.o,aw];rw [eL];intro x hx;obtain ⟨i,hi,rfl⟩:=List.getElem_of_mem hx;have:=cE.o i TcC;simpa [hi] using this)
     go_wp2;go_ret2;exact ⟨by rw [dZ,HR.o];rfl,hB⟩
    have Nh:(eP g.tags != 0)=true:=by simpa using ht
    rw [aw ht] at HE;clear ht;go_wp2_with fail;go_ret2;exact ⟨Tdu,cJ.o⟩
   rw [aw hl] at HE;have hl':8<g.Gb.length\/(g.Gb.length<=8/\32<g.F9.length)\/(g.Gb.length<=8/\g.F9.length<=32/\32<g.history.length):=by unfold iR at hl;omega
   clear hl;rcases hl' with l1 | ⟨l1,l2⟩ | ⟨l1,l2,l3⟩
   ·have d6:decide ((8:Int)<(g.Gb.length:Int))=true:=by simp;omega
    go_wp2;go_ret2;exact ⟨Tdu,cm.o⟩
   ·have d6:decide ((8:Int)<(g.Gb.length:Int))=false:=by simp;omega
    have d7:decide ((32:Int)<(g.F9.length:Int))=true:=by simp;omega
    go_wp2;go_ret2;exact ⟨Tdu,cm.o⟩
   have d6:decide ((8:Int)<(g.Gb.length:Int))=false:=by simp;omega
   have d7:decide ((32:Int)<(g.F9.length:Int))=false:=by simp;omega
   have d8:decide ((32:Int)<(g.history.length:Int))=true:=by simp;omega
   go_wp2;go_ret2;exact ⟨Tdu,cm.o⟩
  rw [aw hr] at HE;have hr':g.seq<0\/(0<=g.seq/\1048575<g.seq)\/(0<=g.seq/\g.seq<=1048575/\g.Gd<1)\/(0<=g.seq/\g.seq<=1048575/\1<=g.Gd/\1024<g.Gd)\/(0<=g.seq/\g.seq<=1048575/\1<=g.Gd/\g.Gd<=1024/\g.next<0)\/(0<=g.seq/\g.seq<=1048575/\1<=g.Gd/\g.Gd<=1024/\0<=g.next/\1073741824<g.next):=by unfold lm at hr;omega
  clear hr;rcases hr' with r1 | ⟨r1,r2⟩ | ⟨r1,r2,r3⟩ | ⟨r1,r2,r3,r4⟩ | ⟨r1,r2,r3,r4,r5⟩ | ⟨r1,r2,r3,r4,r5,r6⟩
  all_goals
   go_wp2;go_ret2;exact ⟨Tdu,cm.o⟩
end Go.Proofs.YtaagglbgohjldaaGreatDoor
