/- Lemmas: ModZa, ModZb, ModZc. -/
import Derived.Test.YtaagglbgohjldaaGreatDoorQv19
set_option maxRecDepth 100000
set_option maxHeartbeats 32000000
set_option linter.all false
namespace Go.Proofs.YtaagglbgohjldaaGreatDoor
open Go.Proofs.Tryz
open Go.RowKit Go.Maps Go.Shelf
variable {w:World}{L:List (az × Nat)}{M:List (ByteArray × Int × Int)}{d:az}{b:Nat}
def kK (W:World)(L:List (az × Nat))(M:List (ByteArray × Int × Int)):Prop:=∀ p∈L,W.heap[p.2]?=some (.cells ((bz M p.1).map Value.bool).toArray 4 (0,0))
structure uF (ok:Nat->Prop)(W:World)(L:List (az × Nat))(bm:Nat):Prop where
 map:bi prog 9 W bm L.length (vG L)
 nb:(L.map (·.2)).Nodup
 nn:(L.map (·.1.name)).Nodup
 lt:∀ p∈L,p.2<W.heap.size/\¬ ok p.2/\p.2≠bm
 de:∀ p∈L,0<=p.1.Gc/\p.1.Gc<=1000000
def Gm (L:List (az × Nat)):Nat->Prop:=fun b=>∃ p∈L,p.2=b
theorem ut {α β:Type}{f:α->β}{l:List α}(h:(l.map f).Nodup){x y:α}(hx:x∈l)(hy:y∈l)(e:f x=f y):x=y:=by
 induction l with
 | nil=>cases hx
 | cons a l ih =>
  rw [iu,List.nodup_cons] at h;rcases List.mem_cons.1 hx with hx2 | hx2 <;> rcases List.mem_cons.1 hy with hy2 | hy2
  ·rw [hx2,hy2]
  ·exact absurd (by rw [<- hx2,e];exact List.mem_map_of_mem hy2) h.1
  ·exact absurd (by rw [<- hy2,<- e];exact List.mem_map_of_mem hx2) h.1
  exact ih h.2 hx2 hy2
theorem kK.below {w':World}(h:kK w L M)(hb:Below w.heap.size w w'):kK w' L M:=fun p hp=>(hb.block p.2 (aq (h p hp))).trans (h p hp)
theorem kK.bools (h:kK w L M)(hp:(d,b)∈L)(st n:Nat):Jd w b st (((bz M d).drop st).take n):=fun i x hx=>by
 have hb:=h _ hp;dsimp only at hb;rw [xF] at hx;split at hx
 ·rw [pk] at hx;simp only [World.cell?,hb];simpa using hx
 cases hx
theorem kK.zero (h:kK w L M)(nm:ByteArray)(st:Int):kK w L (M++[(nm,st,0)]):=fun p hp=>by
 rw [vQ];exact h p hp
theorem kK.set {st:Int}{j:Nat}(h:kK w L (M++[(d.name,st,(j:Int))]))(hb:(L.map (·.2)).Nodup)(hn:(L.map (·.1.name)).Nodup)(hp:(d,b)∈L)(h0:0<=st) :
  kK (w.setCell (b,st.toNat+j) (.bool true)) L (M++[(d.name,st,((j+1:Nat):Int))]):=fun p VM=>by
 by_cases e:p.2=b
 ·obtain rfl:p=(d,b):=ut hb VM hp e;have:=block_setCell (i:=st.toNat+j) (.bool true) (h _ hp);rw [this,xT,<- List.map_set,xH M d st j h0]
 rw [bw _ _ _ _ e,h p VM];have hne:¬ d.name=p.1.name:=fun q=>e (by rw [ut hn VM hp q.symm]);rw [lQ M p.1 _ hne,lQ M p.1 _ hne]
theorem E8 (w:World):(zeroValue 202).run prog w=.ok (.slice none 0 0) w:=by kernel_rfl
def F4 (L:List (az × Nat))(M:List (ByteArray × Int × Int))(s:aB)(w:World)(e:Ending)(w':World):Prop :=
 e=.returned (.int .i64 (if nP (aX s) M s.Ga=true then 15 else 0))/\cR (Gm L) w w'/\(nP (aX s) M s.Ga=false->kK w' L (M++dC (aX s) s.Ga))
theorem sK {ok:Nat->Prop}(L:List (az × Nat))(M:List (ByteArray × Int × Int))(bm Bt:Nat)(v:ay)(s:aB)(u1 u2:List Value)(w:World)(DB:w.cell? Bt=some (.map (some bm)))(Ue:Bt<w.heap.size)(hL:uF ok w L bm)(hLt:∀ p∈L,p.2≠Bt)(hT:kK w L M)
  (hv:aN ok w u1 v) (hs:bC ok w u2 s) (hf:wM s) (hx1:1<=aX s) (NM:∀ a∈s.Ga,a.vol=false->a.on.size<=maxLen/\∃ d,bH (L.map (·.1)) a.on=some d/\0<=a.start/\aX s<=d.Gc - a.start) :
  Calls prog 154 #[.agg u1.toArray,.agg u2.toArray,.pointer (some Bt)] w (F4 L M s w):=by
 have MB:=aa hL;clear hL;have MR:=aa hLt;clear hLt;have HT:=aa hT;clear hT;have N8:=aa NM;clear NM;have VN:=aa DB;clear DB;obtain ⟨tv,sv,rfl,ew,fL⟩:=hv;obtain ⟨tp,tc,rfl,_,_⟩:=ew.cap;obtain ⟨sp,sc,rfl,_,_⟩:=fL.cap;obtain ⟨av,Oz,rfl,py,hst⟩:=hs;obtain ⟨ap,ac,rfl,_,_⟩:=py.cap;obtain ⟨eN,eR,rfl,_,_⟩:=hst.cap;have ya:=aa py;clear py hst ew fL;have hal:=hf.ar;have hl0:=hf.l0;have hl1:=hf.l1;clear hf;have qu:aX s<=32768:=by have:=(zV (k:=s.kind) (l:=s.length) (n:=s.Ga.length) TcC).2;unfold aX;omega
 have HXE:Hid (aX s=iB s.kind s.length s.Ga.length):=aa rfl;have hA1:=ae w (.cells (Taf v tp tc sp sc) 68);have hA2:=ae (w.alloc (.cells (Taf v tp tc sp sc) 68)) (.cells (Tae s ap ac eN eR) 114);have lj:=aa (b9 (w.alloc (.cells (Taf v tp tc sp sc) 68)) (.cells (Tae s ap ac eN eR) 114));have HB:=aa (hA1.trans (hA2.mono hA1.size));clear hA1 hA2;go_enter func154,ntmps154
 go_upto_region 1 with (fail);rw [cW] at lj;have aa7:w.heap.size<w.heap.size+1:=Nat.lt_succ_self _;generalize hW1:World.alloc (World.alloc w _) _=W1 at *;generalize hBs:w.heap.size+1=Bs at *;clear hW1;have sL:=cr lj.o;have s3:=sL 3 _ rfl;clear sL;go_wp2;clear s3;have Nf:Hid (cR (Gm L) w W1):=aa (cR.of_below HB.o);have Rt:=aa (HT.o.below HB.o);go_loopw [13] (fun i wr=>∃ k:Nat,k<=s.Ga.length/\i=.int .i64 k/\cR (Gm L) w wr/\kK wr L (M++dC (aX s) (s.Ga.take k))/\nP (aX s) M s.Ga=nP (aX s) (M++dC (aX s) (s.Ga.take k)) (s.Ga.drop k)/\wr.heap[Bs]?=some (.cells (Tae s ap ac eN eR) 114 (0,0))) (fun i _=>s.Ga.length - (intOf i).toNat)
 exact ⟨0,cg _,rfl,Nf.o,by rw [iv];simpa [dC] using Rt.o,by rw [iv,cL];simp [dC],lj.o⟩;clear Nf Rt lj HB;obtain ⟨k,hk,rfl,hm,ht,he,gO⟩:=hrel;have HM:=aa hm;clear hm;have HT:=aa ht;clear ht;have HE:=aa he;clear he;have lj:=aa gO;clear gO;by_cases hlt:k<s.Ga.length
 ·obtain ⟨r,hr⟩:=aj s.Ga k hlt;obtain ⟨b,off,us,rfl,gR,cX,ez,hva,mB⟩:=ya.o.elem hr;obtain rfl:us=_:=hva;have cT:wr.heap[b]?=w.heap[b]?:=HM.o.block b cX (fun ⟨p,hp,e⟩=>(MB.o.lt p hp).2.1 (e ▸ gR));obtain ⟨q0,q1,q2⟩:=Mn cT mB;have Mw:=aa (xC (aX s) s.Ga k r hr);have AG:=aa (HE.o.trans (Ee (aX s) (M++dC (aX s) (s.Ga.take k)) hr));have HIR:=aa (N8.o r (ct hr));clear hr ez mB cT;have hA:=ae wr (.cells (Tau r) 53);have yb:=aa (b9 wr (.cells (Tau r) 53));have HM2:=aa (HM.o.trans (cR.of_below (F:=fun _=>False) hA) (fun _ f=>f.elim));have HT2:=aa (HT.o.below hA);have VO:=aq lj.o;have Hi:=aa ((hA.block _ VO).trans lj.o);clear hA;go_upto_region 4 with (fail);clear q0 q1 q2;generalize hW2:World.alloc wr _=W2 at *;generalize NU:wr.heap.size=Ba at *;clear hW2 HM HT lj HE;have a0:=cr yb.o 0 _ rfl
  cases pS:r.vol with
  | true =>
   rw [pS] at a0;have HV:=aa pS;clear pS;go_wp2;go_roundw;exact ⟨k+1,TcC,TcG,HM2.o,by rw [Mw.o,aw HV.o];exact HT2.o,by rw [AG.o,aw HV.o,Mw.o,aw HV.o],Hi.o⟩;simp [intOf];omega
  | false =>
   rw [pS] at a0;obtain ⟨hsz,d,N4,hst0,hst1⟩:=HIR.o pS;have HV:=aa pS;clear pS;obtain ⟨bd,Uf,Pc,htf⟩:=Dv N4;have Yu:=MB.o.de _ Uf;have CD:=MB.o.lt _ Uf;dsimp only at Yu CD;clear N4;have HDN:=aa Pc;clear Pc;have Nj:=aa Uf;clear Uf;have HFB:Hid (∀ p∈L,p.2<W2.heap.size):=aa fun p hp=>cC (MB.o.lt p hp).1 HM2.o.size
   go_upto_region 5 with (fail);clear a0;obtain ⟨st,hst⟩:∃ st:Nat,r.start=st:=⟨r.start.toNat,TcC⟩;obtain ⟨n,hn⟩:∃ n:Nat,aX s=n:=⟨(aX s).toNat,TcC⟩;obtain ⟨E,hE⟩:∃ E:Nat,d.Gc=E:=⟨d.Gc.toNat,TcC⟩;rw [show d.Gc.toNat=E by omega] at htf;rw [hn,hE,hst] at hst1;rw [hn] at hx1 qu;rw [hE] at Yu;rw [hst] at hst0 yb;have Ru:=aa ((HM2.o.cell (p:=Bt) Ue (fun ⟨p,hp,e⟩=>MR.o p hp e)).trans VN.o);have VQ:=cC Ue HM2.o.size;have Qk:=aa (MB.o.map.block (HM2.o.block _ MB.o.map.lt (fun ⟨p,hp,e⟩=>(MB.o.lt p hp).2.2 e)))
   have HLK:Hid (∀ w',bi prog 9 w' bm L.length (vG L)->(Instr.lookup 201 (.map (some bm)) (.string r.on) false).run prog w'=.ok (.slice (some bd) E E) w'):=aa fun w' hm=>by
    have:=(bi.look hm oM underlying201 (E8 w') (key:=.string r.on) (gG r.on hsz)).1;rwa [htf] at this
   have HST:=aa hst;clear hst;have HN:=aa hn;clear hn;have VR:=aa hE;clear hE;clear htf;have hS:∀ w':World,Below W2.heap.size W2 w'->(w'.cell? Bt=some (.map (some bm))/\w'.cell? (Tac Ba 1)=some (.string r.on)/\w'.cell? (Tac Ba 2)=some (.int .i64 (st:Int))/\(Instr.lookup 201 (.map (some bm)) (.string r.on) false).run prog w'=.ok (.slice (some bd) E E) w'/\w'.cell? Bs=some (.int .i64 s.start)/\w'.cell? (Tac Bs 1)=some (.int .i64 s.length)/\w'.cell? (Tac Bs 2)=some (.int .i64 s.kind)/\w'.cell? (Tac Bs 3)=some (.slice (some (b,off)) s.Ga.length ac)/\w'.cell? (Tac Bs 4)=some (.int .i64 s.chunk)/\w'.cell? (Tac Bs 5)=some (.slice eN s.stale.length eR)/\w'.cell? (Tac Bs 6)=some (.string s.log)/\w'.cell? (Tac Bs 7)=some (.string s.pool)/\w'.cell? (Tac Bs 8)=some (.int .i64 s.device)/\w'.cell? (Tac Bs 9)=some (.int .i64 s.mode)/\w'.cell? (Tac Bs 10)=some (.int .i64 s.done)):=fun w' e=>by
    have h2:=(e.block Bs (aq Hi.o)).trans Hi.o;have h3:=(e.block Ba (aq yb.o)).trans yb.o;exact ⟨(e.cell (p:=Bt) VQ).trans Ru.o,cr h3 _ _ rfl,cr h3 _ _ rfl,HLK.o w' (Qk.o.block (e.block _ Qk.o.lt)),cr h2 _ _ rfl,cr h2 _ _ rfl,cr h2 _ _ rfl,cr h2 _ _ rfl,cr h2 _ _ rfl,cr h2 _ _ rfl,cr h2 _ _ rfl,cr h2 _ _ rfl,cr h2 _ _ rfl,cr h2 _ _ rfl,cr h2 _ _ rfl⟩
   have HS:=aa hS;clear hS;refine aL (fun w'=>w'.cell? Bt=some (.map (some bm))/\w'.cell? (Tac Ba 1)=some (.string r.on)/\w'.cell? (Tac Ba 2)=some (.int .i64 (st:Int))/\(Instr.lookup 201 (.map (some bm)) (.string r.on) false).run prog w'=.ok (.slice (some bd) E E) w'/\w'.cell? Bs=some (.int .i64 s.start)/\w'.cell? (Tac Bs 1)=some (.int .i64 s.length)/\w'.cell? (Tac Bs 2)=some (.int .i64 s.kind)/\w'.cell? (Tac Bs 3)=some (.slice (some (b,off)) s.Ga.length ac)/\w'.cell? (Tac Bs 4)=some (.int .i64 s.chunk)/\w'.cell? (Tac Bs 5)=some (.slice eN s.stale.length eR)/\w'.cell? (Tac Bs 6)=some (.string s.log)/\w'.cell? (Tac Bs 7)=some (.string s.pool)/\w'.cell? (Tac Bs 8)=some (.int .i64 s.device)/\w'.cell? (Tac Bs 9)=some (.int .i64 s.mode)/\w'.cell? (Tac Bs 10)=some (.int .i64 s.done)) 11 [] TcE (HS.o _ (bj _ _).drew) (fun hHeld=>?_);refine fS 0 hHeld ?_;refine fS 1 hHeld ?_;refine fS 2 hHeld ?_;refine fS 3 hHeld ?_;refine fS 4 hHeld ?_;refine fS 5 hHeld ?_;refine fS 6 hHeld ?_;refine fS 7 hHeld ?_;refine fS 8 hHeld ?_;refine lR 9 fun K hK=>?_;go_simp;refine (ji _ _ _ _ _ _ _ _ _ _ _ _ _ _ _ _ TcC TcC TcC).mono ?_;rintro e w3 ⟨rfl,hb3⟩;rw [<- HXE.o,HN.o];have cJ:Hid (Below W2.heap.size W2 w3):=aa ⟨hb3.os,hb3.tape,hb3.output,hb3.size,hb3.block⟩;clear hb3;refine hK.o _ _ (HS.o _ cJ.o) ?_;clear hK K;refine lR 10 fun K hK=>?_;go_simp;refine hK.o _ _ (HS.o _ cJ.o) ?_;clear hK K hHeld;refine aP TcE rfl ?_;simp only [cQ,cL]
   go_upto_region 6 with (fail);have hlen:(((bz (M++dC (aX s) (s.Ga.take k)) d).drop st).take n).length=n:=by rw [ey,List.length_drop,gP];have:=VR.o;omega
   have MX:=aa (HT2.o.below cJ.o);have Rv:Hid ((((bz (M++dC (aX s) (s.Ga.take k)) d).drop st).take n).any id=tV (M++dC (aX s) (s.Ga.take k)) r.on r.start (aX s)):=aa (by
    have:=D5 (M++dC (aX s) (s.Ga.take k)) d r.start (aX s) (by rw [HST.o];omega) (by rw [HN.o];omega) (by rw [HST.o,HN.o,VR.o];omega);rw [HST.o,HN.o] at this;rw [HST.o,HN.o,<- HDN.o];exact this)
   have LL:=aa (oC _ bd st (E - st) w3 (MX.o.bools Nj.o st n) (cC (HFB.o _ Nj.o) cJ.o.size) (by rw [hlen];omega));rw [hlen] at LL;clear hlen;rw [HV.o] at Mw AG;rw [bh TcD] at Mw AG;have Rp:=aa (HM2.o.trans (cR.of_below (F:=fun _=>False) cJ.o) (fun _ f=>f.elim));have nB:=aa ((cJ.o.block Bs (aq Hi.o)).trans Hi.o);clear HM2 HT2 Hi HS yb Ru Qk HLK;go_wp2_with fail;refine LL.o.mono ?_;rintro e w4 ⟨rfl,hb4⟩;rw [Rv.o];have Q9:=aa (MX.o.below hb4);have Ql:=aa (Rp.o.trans (cR.of_below (F:=fun _=>False) hb4) (fun _ f=>f.elim));have Tx:=aa ((hb4.block Bs (aq nB.o)).trans nB.o);clear LL Rv MX Rp nB hb4 cJ;cases hrun:tV (M++dC (aX s) (s.Ga.take k)) r.on r.start (aX s) with
   | true =>
    rw [hrun,aw rfl] at AG;have HX:=aa hrun;clear hrun;go_wp2;go_ret;exact ⟨by rw [AG.o];rfl,Ql.o,fun h=>by rw [AG.o] at h;cases h⟩
   | false =>
    rw [hrun,bh TcD] at AG;have HX:=aa hrun;clear hrun;have VT:Hid (M++dC (aX s) (s.Ga.take (k+1))=(M++dC (aX s) (s.Ga.take k))++[(d.name,(st:Int),(n:Int))]):=aa (by rw [Mw.o,<- cV,HDN.o,HST.o,HN.o]);have VU:Hid (nP (aX s) M s.Ga=nP (aX s) (M++dC (aX s) (s.Ga.take (k+1))) (s.Ga.drop (k+1))):=aa (by rw [AG.o,Mw.o,cV]);clear Mw AG;go_upto_region 9 with (fail);go_loopw [35,9] (fun i _ wi=>∃ j:Nat,j<=n/\i=.int .i64 j/\cR (Gm L) w wi/\kK wi L ((M++dC (aX s) (s.Ga.take k))++[(d.name,(st:Int),(j:Int))])/\wi.heap[Bs]?=some (.cells (Tae s (some ⟨b,off,none⟩) ac eN eR) 114 (0,0))) (fun i _ _=>n - (intOf i).toNat)
    exact ⟨0,cg _,rfl,Ql.o,Q9.o.zero _ _,Tx.o⟩;clear Ql Q9 Tx;obtain ⟨j,hj,rfl,hm,ht,gO⟩:=hrel;have HM:=aa hm;clear hm;have HT:=aa ht;clear ht;have lj:=aa gO;clear gO;by_cases hlt2:j<n
    ·have hb:=HT.o _ Nj.o;have as4:=aa (HT.o.set MB.o.nb MB.o.nn Nj.o TcC);rw [Int.toNat_natCast] at as4;have HMS:=aa (HM.o.setCell (p:=⟨bd,st+j,none⟩) (.inl ⟨_,Nj.o,rfl⟩) (.bool true));have hne:Bs≠bd:=by have:=(MB.o.lt _ Nj.o).1;dsimp only at this;omega
     have fl:=aa ((bw wr ⟨bd,st+j,none⟩ (.bool true) Bs hne).trans lj.o);have c0:wr.cell? (bd,st+j)=some (.bool (NK ((M++dC (aX s) (s.Ga.take k))++[(d.name,(st:Int),(j:Int))]) d.name (st+j))):=by
      dsimp only at hb;simp only [World.cell?,hb];have hg:=gU (M:=(M++dC (aX s) (s.Ga.take k))++[(d.name,(st:Int),(j:Int))]) (d:=d) (i:=st+j) (by have:=VR.o;omega);generalize bz _ d=bl at hg ⊢;simp [hg]
     have f0:wr.frozen? (bd,st+j)=false:=by
      dsimp only at hb;simp [World.frozen?,hb]
     clear hb;generalize NK _ d.name (st+j)=x at *;go_wp2;go_roundw;exact ⟨j+1,TcC,TcG,HMS.o,as4.o,fl.o⟩;simp [intOf];omega
    obtain rfl:j=n:=by omega
    rw [<- VT.o] at HT;go_wp2;go_roundw;exact ⟨k+1,TcC,TcG,HM.o,HT.o,VU.o,lj.o⟩;simp [intOf];omega
 obtain rfl:k=s.Ga.length:=by omega
 rw [cI] at HT;have HR:Hid (nP (aX s) M s.Ga=false):=aa TdK;go_wp2;go_ret;exact ⟨TcK,HM.o,fun _=>HT.o⟩
theorem laidB:laidOutB prog=true:=by kernel_rfl
theorem DY:(206:TypeId)<prog.types.size:=of_decide_eq_true TcE
theorem EW:prog.keyTypeAt 2 206=true:=by kernel_rfl
theorem Em:WideMaps.KeyLaw prog 206:=deep_law_laid laidB (m:=2) TcC DY EW (by rw [underlying206])
theorem EI:Keyed prog 206:=Keyed.of_law Em
theorem TeF {p:Prop}(h:p:=by have:0<prog.types.size:=of_decide_eq_true (by kernel_rfl);omega):p:=h
theorem EZ:prog.keyType 206=true:=by
 obtain ⟨n,hn⟩:∃ n,prog.types.size=n+1:=⟨prog.types.size - 1,TeF⟩;have hc:prog.cutTypes.any (·.2 == 206)=false:=by kernel_rfl
 have hs:prog.stoodInHeld 206=false:=by kernel_rfl
 unfold Program.keyType;rw [hn];simp [Program.keyTypeAt,underlying206,underlying9,underlying3,hc,hs]
theorem DX (p:ByteArray)(d:Int)(hp:p.size<=maxLen)(hd:(Lit.int .i64 d).wf=true):∃ kl,keyOf prog 206 (.agg #[.string p,.int .i64 d])=some kl:=by
 obtain ⟨n,hn⟩:∃ n,prog.types.size=n+1:=⟨prog.types.size - 1,TeF⟩;have hf:(Value.agg #[.string p,.int .i64 d]).formed prog 206=true:=by simp [Value.formed,underlying206,show prog.cellsOf 206=2 by kernel_rfl]
 have e1:prog.cellsOf 9=1:=by kernel_rfl
 have e2:prog.cellsOf 3=1:=by kernel_rfl
 have e3:prog.cellsOf 206=2:=by kernel_rfl
 have hl:prog.keyLits (n+1+1) 206 [.string p,.int .i64 d]=some [.string p.data.toList,.int .i64 d]:=by
  simp [Program.keyLits,underlying206,underlying9,underlying3,e1,e2,e3,hp,hd]
 refine ⟨.string (keyBytes [.string p.data.toList,.int .i64 d]),?_⟩;unfold keyOf;rw [underlying206];simp only [];rw [EZ,hf,hn];simp only [Bool.and_self,ej];rw [show (Value.agg #[.string p,.int .i64 d]).cells.toList=[.string p,.int .i64 d] from rfl,hl];rfl
theorem wY (w:World):(zeroValue 4).run prog w=.ok (.bool false) w:=by kernel_rfl
variable {ok:Nat->Prop}{B bm Bt:Nat}{w w':World}{L:List (az × Nat)}{d:az}
open Classical in
noncomputable def iV (pre:List (ay × aB))(key:Value):Option Value:=if ∃ q∈pre,q.2.kind=6/\key=.agg #[.string q.2.pool,.int .i64 q.2.device] then some (.bool true) else none
def pY (pre:List (ay × aB))(s:aB):Bool:=pre.any fun p=>decide (p.2.kind=6)&&(decide (p.2.pool=s.pool)&&decide (p.2.device=s.device))
theorem AZ (pre:List (ay × aB))(s:aB):(iV pre (.agg #[.string s.pool,.int .i64 s.device])).getD (.bool false)=.bool (pY pre s):=by
 unfold iV;by_cases h:pY pre s=true
 ·rw [h,aw]
  ·rfl
  obtain ⟨q,hq,e⟩:=List.any_eq_true.1 h;simp only [eh,fk] at e;exact ⟨q,hq,e.1,by rw [e.2.1,e.2.2]⟩
 rw [bh]
 ·rw [Bool.eq_false_iff.2 h];rfl
 rintro ⟨q,hq,e,k⟩;simp only [Value.agg.injEq,Array.mk.injEq,rp,Value.string.injEq,Value.int.injEq,and_true,true_and] at k;exact h (List.any_eq_true.2 ⟨q,hq,by simp [e,k.1,k.2]⟩)
theorem yU (pre:List (ay × aB))(v:ay)(s:aB)(h:s.kind=6)(key:Value):iV (pre++[(v,s)]) key=upd (iV pre) (.agg #[.string s.pool,.int .i64 s.device]) (.bool true) key:=by
 by_cases hk:key=.agg #[.string s.pool,.int .i64 s.device]
 ·subst hk;rw [upd_same];unfold iV;rw [aw ⟨(v,s),TcD,h,rfl⟩]
 rw [bP hk];unfold iV;congr 1
 refine propext ⟨?_,?_⟩
 ·rintro ⟨q,hq,e,k⟩;rcases List.mem_append.1 hq with hq | hq
  ·exact ⟨q,hq,e,k⟩
  obtain rfl:=List.mem_singleton.1 hq;exact absurd k hk
 rintro ⟨q,hq,e,k⟩;exact ⟨q,ju _ hq,e,k⟩
theorem yN (pre:List (ay × aB))(v:ay)(s:aB)(h:¬ s.kind=6)(key:Value):iV (pre++[(v,s)]) key=iV pre key:=by
 unfold iV;congr 1
 refine propext ⟨?_,?_⟩
 ·rintro ⟨q,hq,e,k⟩;rcases List.mem_append.1 hq with hq | hq
  ·exact ⟨q,hq,e,k⟩
  obtain rfl:=List.mem_singleton.1 hq;exact absurd e h
 rintro ⟨q,hq,e,k⟩;exact ⟨q,ju _ hq,e,k⟩
def FU (bm:Nat)(pre:List (ay × aB))(v:ay)(s:aB)(w:World)(e:Ending)(w':World):Prop :=
 e=.returned (.int .i64 (IW pre v s))/\cR (fun b=>b=bm) w w'/\(IW pre v s=0->bi prog 206 w' bm (pre.length+1) (iV (pre++[(v,s)])))
theorem sO (pre:List (ay × aB))(bm Bt:Nat)(v:ay)(s:aB)(u1 u2:List Value)(w:World)(DB:w.cell? Bt=some (.map (some bm)))(Ue:Bt<w.heap.size)(hM:bi prog 206 w bm pre.length (iV pre))(hl:pre.length<=1000000)
  (hv:aN ok w u1 v) (hs:bC ok w u2 s) (hp:s.pool.size<=maxLen) (hd:(Lit.int .i64 s.device).wf=true) :
  Calls prog 156 #[.agg u1.toArray,.agg u2.toArray,.pointer (some Bt)] w (FU bm pre v s w):=by
 obtain ⟨tv,sv,rfl,ew,fL⟩:=hv;obtain ⟨tp,tc,rfl,_,_⟩:=ew.cap;obtain ⟨sp,sc,rfl,_,_⟩:=fL.cap;obtain ⟨av,Oz,rfl,py,hst⟩:=hs;obtain ⟨ap,ac,rfl,_,_⟩:=py.cap;obtain ⟨eN,eR,rfl,_,_⟩:=hst.cap;clear py hst ew fL;have hA1:=ae w (.cells (Taf v tp tc sp sc) 68);have hA2:=ae (w.alloc (.cells (Taf v tp tc sp sc) 68)) (.cells (Tae s ap ac eN eR) 114);have lj:=aa (b9 (w.alloc (.cells (Taf v tp tc sp sc) 68)) (.cells (Tae s ap ac eN eR) 114));have HB:=aa (hA1.trans (hA2.mono hA1.size));clear hA1 hA2;obtain ⟨kl,hkl⟩:=DX s.pool s.device hp hd;have HK:=aa hkl;clear hkl hp hd;have HM:=aa (hM.block (HB.o.block _ hM.lt));clear hM;have ht:=(HB.o.cell (p:=Bt) Ue).trans DB;have HE:Hid (IW pre v s=if s.kind=6 then (if pY pre s=true then 9 else 0) else 0):=aa rfl;clear DB;go_enter func156,ntmps156
 go_upto_region 1 with (fail);rw [cW] at lj;generalize hW1:World.alloc (World.alloc w _) _=W1 at *;generalize hBs:w.heap.size+1=Bs at *;clear hW1;have hlk:=(bi.look HM.o EI underlying204 (wY W1) HK.o).1;rw [AZ] at hlk;obtain ⟨w',hst,hc',hg',hz'⟩:=bi.store HM.o EI underlying204 (rr hl TcF) HK.o (.bool true);have HC:=aa hc';clear hc';have VT:Hid (cR (fun b=>b=bm) w w'):=aa ((cR.of_below HB.o).trans (cR.grown hg') (fun i e=>.inl e));clear hg' hz';have sL:=cr lj.o;have s2:=sL 2 _ rfl;have s7:=sL 7 _ rfl;have s8:=sL 8 _ rfl;clear sL;by_cases hk:s.kind=6
 ·have hkb:(s.kind != 6)=false:=by simpa using hk
  rw [aw hk] at HE;have HK6:=aa hk;clear hk;cases hh:pY pre s with
  | true =>
   rw [hh] at hlk HE;have HH:=aa hh;clear hh;clear hst;go_wp2;go_ret;exact ⟨TcU,cR.of_below HB.o,fun h=>by rw [HE.o] at h;cases h⟩
  | false =>
   rw [hh] at hlk HE;have HH:=aa hh;clear hh;go_wp2;go_ret;exact ⟨TcU,VT.o,fun _=>HC.o.congr fun key _ _=>yU pre v s HK6.o key⟩
 have hkb:(s.kind != 6)=true:=by simpa using hk
 rw [bh hk] at HE;have HK6:=aa hk;clear hk;clear hlk hst;go_wp2;go_ret;exact ⟨TcU,cR.of_below HB.o,fun _=>(HM.o.mono (Nat.le_succ _)).congr fun key _ _=>yN pre v s HK6.o key⟩
theorem DI:(prog.info? 4).map (fun i=>(i.zero,i.size,i.bytes))=some (some (.bool false),1,1):=by kernel_rfl
theorem xR (d:az):(bz [] d).map Value.bool=List.replicate d.Gc.toNat (.bool false):=by
 refine Bk fun i=>?_;simp only [rI,List.getElem?_replicate]
 by_cases h:i<d.Gc.toNat
 ·rw [gU h,aw h];rfl
 rw [bh h,xj (by rw [gP];omega)];rfl
theorem AJ (d:az)(E:Nat)(hE:d.Gc.toNat=E)(h:E<=1000000)(w:World) :
  (Instr.makeSlice 202 (.int .i64 (E:Int)) (.int .i64 (E:Int))).run prog w=.ok (.slice (some w.heap.size) E E) (w.alloc (.cells ((bz [] d).map Value.bool).toArray 4)):=by
 obtain ⟨i0,hi,hz0,hz1,hz2⟩:=cy DI;have:=run_makeSlice w 202 4 i0 _ underlying202 hi hz0 .i64 .i64 (E:Int) (E:Int) TcC TcC (by rw [hz1];simp;omega) (by rw [hz2];omega) TcC;rw [hz1] at this;simp only [Int.toNat_natCast,fp] at this;have e:madeCells (Value.bool false).cells E=(List.replicate E (Value.bool false)).toArray:=by
  unfold madeCells;refine Array.ext TcD fun i h1 h2=>?_;simp [Value.cells,Nat.mod_one]
 rw [this,xR,hE,e]
structure NJ (B:Nat)(w:World)(bm Bt:Nat)(L:List (az × Nat)):Prop where
 m:uF (fun b=>b<B) w L bm
 t:kK w L []
 c:w.cell? Bt=some (.map (some bm))
 n:∀ p∈L,p.2≠Bt
 bt:Bt<w.heap.size
theorem NJ.below (h:NJ B w bm Bt L)(hb:Below w.heap.size w w'):NJ B w' bm Bt L :=
 ⟨⟨h.m.map.block (hb.block _ h.m.map.lt),h.m.nb,h.m.nn,fun p hp=>⟨cC (h.m.lt p hp).1 hb.size,(h.m.lt p hp).2⟩,h.m.de⟩,h.t.below hb,(hb.cell (p:=Bt) h.bt).trans h.c,h.n,cC h.bt hb.size⟩
theorem NJ.snoc {W:World}{E:Nat}(h:NJ B w bm Bt L)(hb:Below w.heap.size w W)(hB:B<=W.heap.size)(hd:0<=d.Gc/\d.Gc<=1000000)(hE:d.Gc.toNat=E)(hn:∀ p∈L,¬ p.1.name=d.name)
  (hm:bi prog 9 w' bm (L.length+1) (upd (vG L) (.string d.name) (.slice (some W.heap.size) E E))) (hg:(W.alloc (.cells ((bz [] d).map Value.bool).toArray 4)).grownBy w' (some bm)) (hz:w'.heap.size=(W.alloc (.cells ((bz [] d).map Value.bool).toArray 4)).heap.size):NJ B w' bm Bt (L++[(d,W.heap.size)]):=by
 have hA:=ae W (.cells ((bz [] d).map Value.bool).toArray 4);have h1:=(h.below hb).below hA;have Hv:=h.m.map.lt;have hbW:=cC Hv hb.size;have mA:=hb.size;have MC:=h.bt;have hzW:(W.alloc (.cells ((bz [] d).map Value.bool).toArray 4)).heap.size=W.heap.size+1:=by simp
 have gh:=b9 W (.cells ((bz [] d).map Value.bool).toArray 4);have hmap:(L++[(d,W.heap.size)]).map (·.2)=L.map (·.2)++[W.heap.size]:=by simp
 have hmap2:(L++[(d,W.heap.size)]).map (·.1.name)=L.map (·.1.name)++[d.name]:=by simp
 generalize hW1:World.alloc W _=W1 at *;have hlt:∀ p∈L++[(d,W.heap.size)],p.2<w'.heap.size/\¬ p.2<B/\p.2≠bm:=fun p hp=>by
  rcases List.mem_append.1 hp with hp | hp
  ·obtain ⟨a,b,c⟩:=h1.m.lt p hp;exact ⟨TcC,b,c⟩
  obtain rfl:=List.mem_singleton.1 hp;exact ⟨by show W.heap.size<_;omega,by show ¬ W.heap.size<B;omega,by show W.heap.size≠bm;omega⟩
 have sy:∀ b,b<W1.heap.size->b≠bm->w'.heap[b]?=W1.heap[b]?:=fun b hb hne=>oJ hg hb hne;have VV:=h1.bt
 have Rw:Bt≠bm:=by
  rintro rfl;exact absurd h.c (by
   obtain ⟨D,⟨es,clock,e,_⟩,_⟩:=h.m.map;simp [World.cell?,e])
 refine ⟨⟨?_,?_,?_,hlt,?_⟩,?_,?_,?_,TcC⟩
 ·rw [cD];refine hm.congr fun key _ _=>?_;rw [Av L d _ hn key,hE]
 ·rw [hmap,List.nodup_append];refine ⟨h.m.nb,TcD,fun a ha b hb=>?_⟩;obtain ⟨p,hp,rfl⟩:=List.mem_map.1 ha;obtain rfl:=List.mem_singleton.1 hb;have:=(h.m.lt p hp).1;omega
 ·rw [hmap2,List.nodup_append];refine ⟨h.m.nn,TcD,fun a ha b hb=>?_⟩;obtain ⟨p,hp,rfl⟩:=List.mem_map.1 ha;obtain rfl:=List.mem_singleton.1 hb;exact hn p hp
 ·intro p hp;rcases List.mem_append.1 hp with hp | hp
  ·exact h.m.de p hp
  obtain rfl:=List.mem_singleton.1 hp;exact hd
 ·intro p hp;rcases List.mem_append.1 hp with hp | hp
  ·have:=h1.m.lt p hp;exact (sy _ this.1 this.2.2).trans (h1.t p hp)
  obtain rfl:=List.mem_singleton.1 hp;exact (sy _ (by show W.heap.size<_;omega) (by show W.heap.size≠bm;omega)).trans gh
 ·exact (cd (a:=Bt) (sy Bt VV Rw)).trans h1.c
 intro p hp;rcases List.mem_append.1 hp with hp | hp
 ·exact h.n p hp
 obtain rfl:=List.mem_singleton.1 hp;show W.heap.size≠Bt;omega
theorem uF.mod (h:uF ok w L bm)(hm:cR (Gm L) w w'):uF ok w' L bm :=
 ⟨h.map.block (hm.block _ h.map.lt fun ⟨p,hp,e⟩=>(h.lt p hp).2.2 e),h.nb,h.nn,fun p hp=>⟨cC (h.lt p hp).1 hm.size,(h.lt p hp).2⟩,h.de⟩
theorem wm (pre:List (ay × aB))(v:ay)(s:aB):lU (pre++[(v,s)])=lU pre++dC (aX s) s.Ga:=by simp [lU]
theorem zn {Gb:List az}(h:(Gb.map (·.name)).Nodup){k:Nat}(hd:Gb[k]?=some d)(hL:L.map (·.1)=Gb.take k):∀ p∈L,¬ p.1.name=d.name:=fun p hp e=>by
 have h1:p.1∈Gb.take k:=by rw [<- hL];exact List.mem_map_of_mem hp
 obtain ⟨i,hi,Yv⟩:=List.mem_iff_getElem.1 h1;rw [ey] at hi;rw [List.getElem_take] at Yv;obtain ⟨hk,hdk⟩:=List.getElem?_eq_some_iff.1 hd;have Ua:=List.pairwise_iff_getElem.1 h i k (by rw [fW];omega) (by rw [fW];omega) TcC;rw [List.getElem_map,List.getElem_map,Yv,hdk] at Ua;exact Ua e
theorem Cs (key:Value):vG [] key=none:=by
 unfold vG;split <;> rfl
structure FL (g:af):Prop where
 nd:(g.Gb.map (·.name)).Nodup
 ns:∀ d∈g.Gb,d.name.size<=maxLen
 dl:g.Gb.length<=1000000
 sg:∀ v∈g.F9,∀ s∈v.Gf,wM s/\1<=aX s/\(∀ a∈s.Ga,a.vol=false->a.on.size<=maxLen/\∃ d,bH g.Gb a.on=some d/\0<=a.start/\aX s<=d.Gc - a.start)/\s.pool.size<=maxLen/\(Lit.int .i64 s.device).wf=true
 pl:(aA g.F9).length<=1000000
attribute [local go_sem] run_makeMap_plain
theorem vM (g:af)(a:bN)(bc:Nat)(w:World)(kB:gY w bc g a)(hg:dN ok w g a)(hf:UQ g)(ho:FL g) :
  Calls prog 107 #[.pointer (some bc)] w (Aw (pE g) w):=by
 have jt:=kB.lt;have I3:=aa kB;obtain ⟨sm,hblk,_⟩:=kB;have nw:Hid (bX w bc sm g a):=aa hblk;clear hblk;have Yw:=aa hg;have HG:=aa hg.Gb;have HF:=aa hf;have HO:=aa ho;have CD:=ho.dl;obtain ⟨vp,vc,sT,ao8,ap0⟩:=hg.Gb.cap;clear hg hf ho;injection sT with e1 e2 e3;obtain ⟨ID,gtc,gdp,G3,G4,Ge,Hb,Hc⟩:=a;dsimp only at e1 e2 e3;subst e1;subst e3;clear e2;have hA1:=ae w (.map #[] 0);have hA2:=ae (w.alloc (.map #[] 0)) (.cells #[.map (some w.heap.size)] 201);have hm1:=bi.made prog 9 w;have hN2:=b9 (w.alloc (.map #[] 0)) (.cells #[.map (some w.heap.size)] 201);rw [cW] at hN2;have Nk:=aa hN2;clear hN2;have HM2:=aa (hm1.block (hA2.block _ hm1.lt));have cm:=aa (hA1.trans (hA2.mono hA1.size));clear hA1 hA2 hm1;obtain ⟨-,-,-,-,-,-,g6,-,-⟩:=bX.cells (sm:=sm) ((cm.o.block bc jt).trans nw.o);go_enter func107,ntmps107
 go_upto_region 3 with (fail);generalize hW1:World.alloc (World.alloc w _) _=W1 at *;clear hW1 g6;have AG:=aa (show NJ w.heap.size W1 w.heap.size (w.heap.size+1) [] from ⟨⟨HM2.o.congr (fun key _ _=>Cs key),TcD,TcD,fun p hp=>absurd hp TcD,fun p hp=>absurd hp TcD⟩,fun p hp=>absurd hp TcD,cr Nk.o _ _ rfl,fun p hp=>absurd hp TcD,aq Nk.o⟩);clear HM2 Nk;go_loopw [17] (fun i wr=>∃ k:Nat,k<=g.Gb.length/\i=.int .i64 k/\Below w.heap.size w wr/\∃ L:List (az × Nat),L.map (·.1)=g.Gb.take k/\NJ w.heap.size wr w.heap.size (w.heap.size+1) L) (fun i _=>g.Gb.length - (intOf i).toNat)
 exact ⟨0,cg _,rfl,cm.o,[],TcD,AG.o⟩;clear cm AG;obtain ⟨k,hk,rfl,hB,L,hL,Rx⟩:=hrel;have HB:=aa hB;clear hB;have HL:=aa hL;clear hL;have AG:=aa Rx;clear Rx;by_cases hlt:k<g.Gb.length
 ·obtain ⟨d,hd⟩:=aj g.Gb k hlt;obtain ⟨b,off,us,rfl,gR,cX,ez,eE,hcv⟩:=HG.o.elem hd;obtain ⟨tv,rfl,ew⟩:=eE;obtain ⟨tp,tc,rfl,_,_⟩:=ew.cap;have cT:wr.heap[b]?=w.heap[b]?:=HB.o.block b cX;obtain ⟨q0,q1,q2,q3,q4,q5,q6⟩:=OD cT hcv;have Ni:=ct hd;have vu:=HF.o.de d Ni;have hns:=HO.o.ns d Ni;have Qm:=aa (zn HO.o.nd hd HL.o);have HSN:Hid (∀ b:Nat,(L++[(d,b)]).map (·.1)=g.Gb.take (k+1)):=aa (fun b=>by rw [gl,HL.o,take_snoc' g.Gb k d hd];rfl);clear hd hcv ez cT ew Ni;have kj:=aa vu;clear vu;have hA:=ae wr (.cells (Tah d tp tc) 51);have sX:=aa (b9 wr (.cells (Tah d tp tc) 51));have cJ:=Zbl HB hA;have Pd:=aa (AG.o.below hA);have hz3:(wr.alloc (.cells (Tah d tp tc) 51)).heap.size=wr.heap.size+1:=by simp
  clear hA;go_upto_region 5 with (fail);clear q0 q1 q2 q3 q4 q5 q6;generalize hW2:World.alloc wr _=W2 at *;generalize hBd:wr.heap.size=Bd at *;clear hW2 HB AG hBd;obtain ⟨E,hE⟩:∃ E:Nat,d.Gc=E:=⟨d.Gc.toNat,by have:=kj.o;omega⟩;have Yx:d.Gc.toNat=E:=by omega
  have hEb:E<=1000000:=by have:=kj.o;omega
  have hS:∀ w':World,Below W2.heap.size W2 w'->(w'.cell? (Tac (w.heap.size+1) 0)=some (.map (some w.heap.size))/\w'.cell? Bd=some (.string d.name)/\w'.cell? (Tac Bd 3)=some (.int .i64 (E:Int))):=fun w' e=>by
   have h2:=(e.block Bd (aq sX.o)).trans sX.o;rw [hE] at h2;exact ⟨(Pd.o.below e).c,cr h2 _ _ rfl,cr h2 _ _ rfl⟩
  have HS:=aa hS;clear hS hE;have qT:=aa Yx;clear Yx;have Lp:=aa hz3;clear hz3;refine aL (fun w'=>w'.cell? (Tac (w.heap.size+1) 0)=some (.map (some w.heap.size))/\w'.cell? Bd=some (.string d.name)/\w'.cell? (Tac Bd 3)=some (.int .i64 (E:Int))) 6 [] TcE (HS.o _ (bj _ _).drew) (fun hHeld=>?_);refine fS 0 hHeld ?_;refine fS 1 hHeld ?_;refine fS 2 hHeld ?_;refine fS 3 hHeld ?_;refine fS 4 hHeld ?_;refine lR 5 fun K hK=>?_;have hmk:=AJ d E qT.o hEb W2.drew;go_simp;clear hmk;have hA4:=ae W2.drew (.cells ((bz [] d).map Value.bool).toArray 4);refine hK.o _ _ (HS.o _ ((bj W2.heap.size W2).drew.trans (hA4.mono TcD))) ?_;clear hK K hHeld;refine aP TcE rfl ?_;simp only [cQ,cL];have hb4:Below W2.heap.size W2 (W2.drew.alloc (.cells ((bz [] d).map Value.bool).toArray 4)):=(bj W2.heap.size W2).drew.trans (hA4.mono TcD)
  have hLl:L.length<=1000000:=by
   have:=fj List.length HL.o;rw [fW,ey] at this;omega
  obtain ⟨w',hst,hm',hg',hz'⟩:=bi.store ((Pd.o.below hb4).m.map) oM underlying201 (rr hLl TcF) (gG d.name hns) (.slice (some W2.heap.size) E E);have VW:=aa (NJ.snoc Pd.o (W:=W2.drew) (bj W2.heap.size W2).drew cJ.o.size kj.o qT.o Qm.o hm' hg' hz');have Mt:Hid (Below w.heap.size w w'):=aa ((cJ.o.trans (hb4.mono cJ.o.size)).trans ((cR.grown hg').below (B:=w.heap.size) (cA cJ.o.size hb4.size) (fun q e=>by omega)));replace hst:(Instr.mapUpdate 201 (.map (some w.heap.size)) (.string d.name) (.slice (some W2.heap.size) E E)).run prog (W2.alloc (.cells ((bz [] d).map Value.bool).toArray 4)).drew=.ok () w':=hst;clear hm' hg' hz' hb4 hA4;go_wp2;go_roundw;exact ⟨k+1,TcC,TcG,Mt.o,_,HSN.o _,VW.o⟩;simp [intOf];omega
 obtain rfl:k=g.Gb.length:=by omega
 rw [cI] at HL;have hlt3:w.heap.size+1<wr.heap.size:=AG.o.bt;have HE1:∃ r,r=bD CQ [] (aA g.F9):=⟨_,rfl⟩;obtain ⟨⟨p1,x1⟩,hr1⟩:=HE1;have HR1:=aa hr1;clear hr1
 go_wp2_with fail;refine (wE (ok:=fun b=>ok b/\b<w.heap.size) (F:=Gm L) 154 [.pointer (some (Tac (w.heap.size+1) 0))] (fun l W=>by go_simp) g _ bc CQ (fun pre W=>kK W L (lU pre)) wr (I3.o.below HB.o) (Yw.o.mv ⟨HB.o.size,fun b hb ho=>⟨⟨ho,hb⟩,HB.o.block b hb⟩⟩) HF.o.sz ?_ (fun _ _ _ h hb=>h.below hb) AG.o.t ?_).mono ?_
 ·rintro b ⟨p,hp,rfl⟩;have:=AG.o.m.lt p hp;exact ⟨this.1,fun q=>this.2.1 q.2⟩
 ·intro pre v s post hp W u1 u2 hm hi hv hs;obtain ⟨m1,m2⟩:=jZ hp;obtain ⟨f1,f2,f3,f4,f5⟩:=HO.o.sg v m1 s m2;have N9:=AG.o.m;refine (sK (ok:=fun b=>ok b/\b<w.heap.size) L (lU pre) w.heap.size (w.heap.size+1) v s u1 u2 W ((hm.cell (p:=⟨w.heap.size+1,0,none⟩) AG.o.bt (fun ⟨p,hp,e⟩=>AG.o.n p hp e)).trans AG.o.c) (cC AG.o.bt hm.size)
   ((⟨N9.map,N9.nb,N9.nn,fun p hp=>⟨(N9.lt p hp).1,fun q=>(N9.lt p hp).2.1 q.2,(N9.lt p hp).2.2⟩,N9.de⟩:uF (fun b=>ok b/\b<w.heap.size) wr L w.heap.size).mod hm) AG.o.n hi hv hs f1 f2 (by rw [HL.o];exact f3)).mono ?_
  rintro e W' ⟨rfl,h2,h3⟩;refine ⟨rfl,h2,fun h0=>?_⟩;show kK W' L (lU (pre++[(v,s)]));rw [wm];refine h3 ?_;unfold CQ at h0;split at h0
  ·cases h0
  exact Bool.eq_false_iff.2 ‹_›
 rintro e w3 ⟨he,hm3,-⟩;rw [<- HR1.o] at he;subst he;have cJ:Hid (Below w.heap.size w w3):=aa (HB.o.trans (hm3.below HB.o.size (fun b ⟨p,hp,e⟩=>by have:=(AG.o.m.lt p hp).2.1;omega)));have hlt4:wr.heap.size<=w3.heap.size:=hm3.size;clear hm3 AG HL HB;by_cases hx:x1=0
 ·have qu:(x1 != 0)=false:=by simpa using hx
  have HR:Hid (pE g=bD IW [] (aA g.F9)):=aa (by unfold pE;rw [<- HR1.o,aw hx]);have HX:=aa hx;clear hx;have hA1:=ae w3 (.map #[] 0);have hA2:=ae (w3.alloc (.map #[] 0)) (.cells #[.map (some w3.heap.size)] 204);have hm1:=bi.made prog 206 w3;have hN2:=b9 (w3.alloc (.map #[] 0)) (.cells #[.map (some w3.heap.size)] 204);rw [cW] at hN2;have Nk:=aa hN2;clear hN2;have HM2:=aa (hm1.block (hA2.block _ hm1.lt));have cm:=aa (hA1.trans (hA2.mono hA1.size));clear hA1 hA2 hm1;go_wp2_with fail;generalize hW4:World.alloc (World.alloc w3 _) _=W4 at *;clear hW4;have eI:=Zbl cJ cm.o;have MC:=aq Nk.o;have mA:=cJ.o.size;refine (wE (ok:=fun b=>ok b/\b<w.heap.size) (F:=fun b=>b=w3.heap.size) 156 [.pointer (some (Tac (w3.heap.size+1) 0))] (fun l W=>by go_simp) g _ bc IW (fun pre W=>bi prog 206 W w3.heap.size pre.length (iV pre)) W4 (I3.o.below eI.o) (Yw.o.mv ⟨eI.o.size,fun b hb ho=>⟨⟨ho,hb⟩,eI.o.block b hb⟩⟩) HF.o.sz ?_ (fun _ _ _ h hb=>h.block (hb.block _ h.lt)) ?_ ?_).mono ?_
  ·rintro b rfl;exact ⟨HM2.o.lt,fun q=>by have:=q.2;omega⟩
  ·refine HM2.o.congr fun key _ _=>?_
   unfold iV;rw [bh TcD]
  ·intro pre v s post hp W u1 u2 hm hi hv hs;obtain ⟨m1,m2⟩:=jZ hp;obtain ⟨f1,f2,f3,f4,f5⟩:=HO.o.sg v m1 s m2;have hpl:pre.length<=1000000:=by
    have:=HO.o.pl;rw [hp,cD] at this;omega
   refine (sO (ok:=fun b=>ok b/\b<w.heap.size) pre w3.heap.size (w3.heap.size+1) v s u1 u2 W ((hm.cell (p:=⟨w3.heap.size+1,0,none⟩) MC (by show ¬ w3.heap.size+1=_;omega)).trans (by simp [World.cell?,Nk.o])) (cC MC hm.size) hi hpl hv hs f4 f5).mono ?_;rintro e W' ⟨rfl,h2,h3⟩;refine ⟨rfl,h2,fun h0=>?_⟩;show bi prog 206 W' w3.heap.size (pre++[(v,s)]).length (iV (pre++[(v,s)]));rw [cD];exact h3 h0
  rintro e w5 ⟨he,hm5,-⟩;rw [<- HR.o] at he;subst he;have eK:Hid (Below w.heap.size w w5):=aa (eI.o.trans (hm5.below eI.o.size (fun b e=>by omega)));clear hm5;go_wp2;go_ret2;exact ⟨rfl,eK.o⟩
 have qu:(x1 != 0)=true:=by simpa using hx
 have HR:Hid (pE g=(p1,x1)):=aa (by unfold pE;rw [<- HR1.o,bh hx]);have HX:=aa hx;clear hx;go_wp2;go_ret2;exact ⟨TcK,cJ.o⟩
end Go.Proofs.YtaagglbgohjldaaGreatDoor
