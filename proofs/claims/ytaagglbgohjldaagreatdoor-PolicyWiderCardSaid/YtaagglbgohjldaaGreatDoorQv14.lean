/- Lemmas: ModF, ModG. -/
import Derived.Test.YtaagglbgohjldaaGreatDoorQv13
import Derived.Test.YtaagglbgohjldaaGreatDoorQv06
set_option maxRecDepth 100000
set_option maxHeartbeats 32000000
set_option linter.all false
namespace Go.Proofs.YtaagglbgohjldaaGreatDoor
open Go.Proofs.Tryz
open Go.RowKit Go.Maps Go.Shelf
variable {w:World}{ok:Nat->Prop}
def jw (g:af)(s:aB):Bool:=s.Ga.all (fun r=>r.vol||(bH g.Gb r.on).isSome)&&(dD s true).all (fun nm=>(aM g.F9 nm).isSome)
theorem oL (s:aB)(pool:Bool)(h:s.Ga.length<=1000000):(dD s pool).length<=1000002:=by
 unfold dD;have:=tk (·.vol) s.Ga;rw [cD,cD,fW];cases s.log.toList.isEmpty <;> cases (pool&&s.kind == 6) <;> simp <;> omega
def bX (w:World)(bc sm:Nat)(g:af)(a:bN):Prop:=w.heap[bc]?=some (.cells #[.string g.name,.int .u64 g.id,.int .i64 g.seq,.int .i64 g.Gd,.int .i64 g.next,.slice a.tp g.tags.length a.tc,.slice a.dp g.Gb.length a.dc,.slice a.vp g.F9.length a.vc,.slice a.hp g.history.length a.hc,.map (some sm)] 156 (0,0))
theorem bX.cells {bc sm:Nat}{g:af}{a:bN}(h:bX w bc sm g a):w.cell? bc=some (.string g.name)/\w.cell? (Tac bc 1)=some (.int .u64 g.id)/\w.cell? (Tac bc 2)=some (.int .i64 g.seq)/\w.cell? (Tac bc 3)=some (.int .i64 g.Gd)/\w.cell? (Tac bc 4)=some (.int .i64 g.next) /\
  w.cell? (Tac bc 5)=some (.slice a.tp g.tags.length a.tc)/\w.cell? (Tac bc 6)=some (.slice a.dp g.Gb.length a.dc)/\w.cell? (Tac bc 7)=some (.slice a.vp g.F9.length a.vc)/\w.cell? (Tac bc 8)=some (.slice a.hp g.history.length a.hc):=by
 have h:w.heap[bc]?=_:=h;exact ⟨cr h _ _ rfl,cr h _ _ rfl,cr h _ _ rfl,cr h _ _ rfl,cr h _ _ rfl,cr h _ _ rfl,cr h _ _ rfl,cr h _ _ rfl,cr h _ _ rfl⟩
theorem Tc8 {p:Prop}(h:p:=by first | rfl | trivial):p:=h
theorem vC (g:af)(a:bN)(bc:Nat)(s:aB)(u:List Value)(w:World)(kB:gY w bc g a)(hg:dN ok w g a)(hz:JT g)(hv:bC ok w u s)(ha:s.Ga.length<=1000000) :
  Calls prog 146 #[.pointer (some bc),.agg u.toArray] w fun e w'=>e=.returned (.bool (jw g s))/\Below w.heap.size w w':=by
 have jt:=kB.lt;have HV:=aa hv;obtain ⟨av,Oz,rfl,py,hst⟩:=hv;obtain ⟨ap,ac,rfl,aq0,aq1⟩:=py.cap;obtain ⟨eN,eR,rfl,hsc1,hsc2⟩:=hst.cap;have ya:=aa py;clear py hst;obtain ⟨sm,hblk,TZ⟩:=kB;have nw:Hid (bX w bc sm g a):=aa hblk;clear hblk TZ;have HG:=aa hg;clear hg;have HZ:=aa hz;clear hz;have cU:=aa (ae w (.cells (Tae s ap ac eN eR) 114));have HF:Hid (jw g s=_):=aa (jw.eq_1 g s);go_enter func146,ntmps146;go_wp2
 go_loopw [16] (fun i wr=>∃ k:Nat,k<=s.Ga.length/\i=.int .i64 k/\(∀ j r,j<k->s.Ga[j]?=some r->(r.vol||(bH g.Gb r.on).isSome)=true)/\Below w.heap.size w wr/\wr.heap[w.heap.size]?=some (.cells (Tae s ap ac eN eR) 114 (0,0))) (fun i _=>s.Ga.length - (intOf i).toNat)
 exact ⟨0,cg _,rfl,fun j r hj=>by omega,cU.o,b9 w _⟩;obtain ⟨k,hk,rfl,hall,hB,PX⟩:=hrel;have cE:=aa hall;clear hall;have Fc:=aa PX;clear PX;by_cases hlt:k<s.Ga.length
 ·obtain ⟨r,hr⟩:=aj s.Ga k hlt;obtain ⟨b,off,us,rfl,_,cX,ez,eE,hcv⟩:=ya.o.elem hr;obtain rfl:us=_:=eE;have cT:wr.heap[b]?=w.heap[b]?:=hB.block b cX;obtain ⟨q0,q1,q2⟩:=Mn cT hcv;have HR:=aa hr;clear hr;clear hcv ez cT;go_upto_region 4 with (fail);clear q0 q1 q2;have ox:=aa (b9 wr (.cells (Tau r) 53));have eK:=aa (hB.trans ((ae wr (.cells (Tau r) 53)).mono hB.size));have O2:=aa ((cj wr (.cells (Tau r) 53) _ (aq Fc.o)).trans Fc.o);have mA:=hB.size;generalize hW5:World.alloc wr _=W5 at *;generalize hBs:wr.heap.size=Bs at *;clear hW5;refine sM (ok:=ok) _ W5 g a bc sm Bs r.on ((eK.o.block bc jt).trans nw.o) (by simp [World.cell?,ox.o]) (aq ox.o) (HG.o.mv (Mv.of eK.o)) HZ.o _ _ rfl rfl (aa ?_) (fun _ _ _ _ _ h=>h);intro tp tc b7 W7 hb7 hbz _ _;have wk:=Zbl eK hb7;have Rk:=Zbk hb7 O2;have as5:=(hb7.block _ (aq ox.o)).trans ox.o;have v0:=cr as5 0 _ rfl;clear hb7 hbz as5 ox eK O2;have PZ:Hid ((r.vol||(bH g.Gb r.on).isSome)=false->jw g s=false):=aa fun h=>by
   rw [HF.o,Bool.and_eq_false_iff];refine .inl ?_;rw [lr];exact ⟨r,ct HR.o,TcZ⟩
  have kh:Hid ((r.vol||(bH g.Gb r.on).isSome)=true->∀ j y,j<k+1->s.Ga[j]?=some y->(y.vol||(bH g.Gb y.on).isSome)=true):=aa fun h j y hj hy=>by
   by_cases hjk:j=k
   ·subst hjk;rw [HR.o] at hy;cases hy
    exact h
   exact cE.o j y TcC hy
  generalize N4:(bH g.Gb r.on).isSome=fd at *;generalize Na:r.vol=rv at *;clear N4 Na;cases rv with
  | true =>
   go_wp2;go_roundw;exact ⟨k+1,TcC,TcG,kh.o Tc8,wk.o,Rk.o⟩;simp [intOf];omega
  | false =>
   cases fd with
   | true =>
    go_wp2;go_roundw;exact ⟨k+1,TcC,TcG,kh.o Tc8,wk.o,Rk.o⟩;simp [intOf];omega
   | false =>
    go_wp2;go_ret;exact ⟨ah (PZ.o Tc8).symm,wk.o⟩
 have Ub:Hid (s.Ga.all (fun r=>r.vol||(bH g.Gb r.on).isSome)=true):=aa (by
  rw [eL];intro r hr;obtain ⟨j,hj⟩:=fc hr;exact cE.o j r Tdo hj)
 rw [Ub.o,Bool.true_and] at HF;have yL:=cr Fc.o;obtain ⟨y0,y1,y2,y3,y4,y5,y6,y7,y8,y9,y10⟩:=IC yL;have Vx:=aa hB;go_wp2_with fail;clear y0 y1 y2 y3 y4 y5 y6 y7 y8 y9 y10 yL;refine (kN (ok:=ok) s true _ _ (bC.moves.mv (Mv.of Vx.o) HV.o) ha).mono ?_;rintro e w3 ⟨uv,rfl,how,hb3⟩;have kf:=how.rd (ok:=fun _=>True) (fun _ _=>trivial);obtain ⟨up,uc,rfl,O3,O4⟩:=kf.cap;have B2:=aa kf;clear kf how;have cJ:=Zbl Vx hb3;clear hb3;have ez:(dD s true).length<=1000002:=oL s true ha;generalize hL:dD s true=L at *;clear hL;go_wp2;go_loopw [41] (fun i wr=>∃ k:Nat,k<=L.length/\i=.int .i64 k/\(∀ j x,j<k->L[j]?=some x->(aM g.F9 x).isSome=true)/\Below w3.heap.size w3 wr) (fun i _=>L.length - (intOf i).toNat)
 exact ⟨0,cg _,rfl,fun j r hj=>by omega,bj _ _⟩;obtain ⟨k,hk,rfl,hall,hB⟩:=hrel;have sR:=aa hall;clear hall;by_cases hlt:k<L.length
 ·obtain ⟨x,hx⟩:=aj L k hlt;obtain ⟨b,off,us,rfl,_,cX,TE,eE,hcv⟩:=B2.o.elem hx;obtain rfl:us=_:=eE;have q0:=(hB.cell (p:=⟨b,off+k*1+0,none⟩) cX).trans (hcv 0 _ rfl);rw [fp,fg] at q0;have HX:=aa hx;clear hx;have fy:=Zbl cJ hB;obtain ⟨g0,g1,g2,g3,g4,g5,g6,g7,g8⟩:=bX.cells (sm:=sm) ((fy.o.block bc jt).trans nw.o);clear hcv TE;go_wp2_with fail;clear g0 g1 g2 g3 g4 g5 g6 g7 g8;refine (fA (ok:=ok) g a x _ (HG.o.mv (Mv.of fy.o)).F9 HZ.o.vl HZ.o.vz).mono ?_;rintro e w5 ⟨u5,rfl,⟨t5,s5,rfl,ht5,hs5⟩,hb5⟩;obtain ⟨tp5,tc5,rfl,_,_⟩:=ht5.cap;obtain ⟨sp5,sc5,rfl,_,_⟩:=hs5.cap;clear ht5 hs5;have hB5:Below w3.heap.size w3 w5:=hB.trans (hb5.mono hB.size);have eK:=aa hB5;have PZ:Hid ((aM g.F9 x).isSome=false->jw g s=false):=aa fun h=>by
   rw [HF.o,lr];exact ⟨x,ct HX.o,TcZ⟩
  have kh:Hid ((aM g.F9 x).isSome=true->∀ j y,j<k+1->L[j]?=some y->(aM g.F9 y).isSome=true):=aa fun h j y hj hy=>by
   by_cases hjk:j=k
   ·subst hjk;rw [HX.o] at hy;cases hy
    exact h
   exact sR.o j y TcC hy
  generalize N4:(aM g.F9 x).isSome=fd at *;generalize (aM g.F9 x).getD eY=vx at *;clear N4 hb5;cases fd with
  | true =>
   go_wp2;go_roundw;exact ⟨k+1,TcC,TcG,kh.o Tc8,eK.o.alloc eK.o.size _⟩;simp [intOf];omega
  | false =>
   go_wp2;go_ret;exact ⟨ah (PZ.o Tc8).symm,(cJ.o.trans (eK.o.mono cJ.o.size)).alloc (by have:=cJ.o.size;have:=eK.o.size;omega) _⟩
 have fy:=Zbl cJ hB;go_wp2;go_ret;refine ⟨ah (Eq.symm ?_),fy.o⟩;rw [HF.o,eL];intro x hx;obtain ⟨j,hj⟩:=fc hx;exact sR.o j x Tdo hj
def dM (vn:ByteArray)(vd:List UInt8)(on:ByteArray):Bool:=pV on ⟨(iK vn.data.toList vd).1.toArray⟩ (iK vn.data.toList vd).2
structure VS (ok:Nat->Prop)(w:World)(bv bs:Nat)(v:ay)(s:aB):Prop where
 bx:∃ u,w.heap[bv]?=some (.cells u.toArray 68 (0,0))/\aN ok w u v
 sx:∃ u,w.heap[bs]?=some (.cells u.toArray 114 (0,0))/\bC ok w u s
theorem qC (Vy:Bool)(v:ay)(s:aB)(k:Nat)(n:Int)(r:aR)(bv bs:Nat)(w:World)(h:VS ok w bv bs v s)(hr:s.Ga[k]?=some r)(hS:AW w)(Ok:v.name.size<=1000000000) :
  Calls prog 181 #[.int .i64 k,if Vy then .func (.func 183) #[] #[] else .func (.func 184) #[] #[],.int .i64 n,.pointer (some bv),.pointer (some bs)] w fun e w'=>e=.returned (.bool (dM v.name (if Vy then bq n else dH n) r.on))/\Below w.heap.size w w':=by
 obtain ⟨⟨u1,hb1,hv1⟩,⟨u2,hb2,hv2⟩⟩:=h;obtain ⟨tv,sv,rfl,_,_⟩:=hv1;obtain ⟨av,Oz,rfl,py,_⟩:=hv2;obtain ⟨ap,ac,rfl,aq0,aq1⟩:=py.cap;have c0:=cr hb1 0 _ rfl;have gO:=aq hb2;have hkl:k<s.Ga.length:=(List.getElem?_eq_some_iff.1 hr).1;obtain ⟨b,off,us,rfl,_,cX,ez,eE,hcv⟩:=py.elem hr;obtain rfl:us=_:=eE;have hq:=hcv 1 _ rfl;have HQ:=aa hq;have cm:=aa hb2;have HS:=aa hS;have hn2:v.name.data.toList.length<=1000000000:=by simpa using Ok
 clear hb1 hb2 py hr hcv ez hS;cases Vy with
 | true =>
  have HC:=aa (Ea v.name.data.toList n w hn2 HS.o);rw [<- bytes_eta] at HC;simp only [ej];go_enter func181,ntmps181
  go_wp2_with fail;refine HC.o.mono ?_;rintro e w1 ⟨rfl,hb1⟩;have cU:=aa hb1;have h3:w1.cell? (Tac bs 3)=some (.slice (some (b,off)) s.Ga.length ac):=(hb1.cell (p:=⟨bs,3,none⟩) gO).trans (by simp [World.cell?,cm.o]);have q1:=(hb1.cell (p:=⟨b,off+k*3+1,none⟩) cX).trans HQ.o;clear hb1;go_wp2_with fail;refine (mJ _ _ _ _).mono ?_;rintro e w2 ⟨rfl,rfl⟩;go_wp2;go_ret;exact ⟨rfl,cU.o⟩
 | false =>
  have HC:=aa (wC v.name.data.toList n w hn2 HS.o);rw [<- bytes_eta] at HC;simp only [pj,fY];go_enter func181,ntmps181
  go_wp2_with fail;refine HC.o.mono ?_;rintro e w1 ⟨rfl,hb1⟩;have cU:=aa hb1;have h3:w1.cell? (Tac bs 3)=some (.slice (some (b,off)) s.Ga.length ac):=(hb1.cell (p:=⟨bs,3,none⟩) gO).trans (by simp [World.cell?,cm.o]);have q1:=(hb1.cell (p:=⟨b,off+k*3+1,none⟩) cX).trans HQ.o;clear hb1;go_wp2_with fail;refine (mJ _ _ _ _).mono ?_;rintro e w2 ⟨rfl,rfl⟩;go_wp2;go_ret;exact ⟨rfl,cU.o⟩
theorem rR (v:ay)(s:aB)(k:Nat)(n:Int)(r:aR)(bv bs:Nat)(w:World)(h:VS ok w bv bs v s)(hr:s.Ga[k]?=some r)(hS:AW w)(Ok:v.name.size<=1000000000) :
  Calls prog 181 #[.int .i64 k,.func (.func 183) #[] #[],.int .i64 n,.pointer (some bv),.pointer (some bs)] w fun e w'=>e=.returned (.bool (dM v.name (bq n) r.on))/\Below w.heap.size w w' :=
 qC true v s k n r bv bs w h hr hS Ok
theorem kg (v:ay)(s:aB)(k:Nat)(n:Int)(r:aR)(bv bs:Nat)(w:World)(h:VS ok w bv bs v s)(hr:s.Ga[k]?=some r)(hS:AW w)(Ok:v.name.size<=1000000000) :
  Calls prog 181 #[.int .i64 k,.func (.func 184) #[] #[],.int .i64 n,.pointer (some bv),.pointer (some bs)] w fun e w'=>e=.returned (.bool (dM v.name (dH n) r.on))/\Below w.heap.size w w' :=
 qC false v s k n r bv bs w h hr hS Ok
def vU (v:ay)(s:aB):Bool:=(List.range s.Ga.length).all fun k=>dM v.name (bq k) ((s.Ga.map (·.on)).getD k ⟨#[]⟩)
def jS (v:ay)(s:aB):Bool :=
 if s.kind=3\/s.kind=4 then vU v s&&(s.log.toList.isEmpty||dM v.name (dH 1) s.log)
 else if s.kind=5 then dM v.name (dH 3) ((s.Ga.map (·.on)).getD 0 ⟨#[]⟩)&&dM v.name (dH 2) ((s.Ga.map (·.on)).getD 1 ⟨#[]⟩)
 else if s.kind=7 then dM v.name (bq 0) ((s.Ga.map (·.on)).getD 0 ⟨#[]⟩)&&dM v.name (dH 2) ((s.Ga.map (·.on)).getD 1 ⟨#[]⟩)&&dM v.name (dH 3) ((s.Ga.map (·.on)).getD 2 ⟨#[]⟩)
 else true
theorem uD {l:List aR}{k:Nat}{r:aR}(h:l[k]?=some r):(l.map (·.on)).getD k ⟨#[]⟩=r.on:=by simp [h]
theorem VS.below {w':World}{bv bs:Nat}{v:ay}{s:aB}(h:VS ok w bv bs v s)(hb:Below w.heap.size w w'):VS ok w' bv bs v s:=by
 obtain ⟨⟨u1,hb1,hv1⟩,⟨u2,hb2,hv2⟩⟩:=h;exact ⟨⟨u1,(hb.block _ (aq hb1)).trans hb1,aN.moves.mv (Mv.of hb) hv1⟩,⟨u2,(hb.block _ (aq hb2)).trans hb2,bC.moves.mv (Mv.of hb) hv2⟩⟩
theorem TbQ {p:Prop}(h:p:=by
 have:=b9 (w.alloc (.cells (Taf v tp tc sp sc) 68)) (.cells (Tae s ap ac eN eR) 114);rw [cW] at this;exact this):p:=h
theorem TdP {p:Prop}(h:p:=by rw [HF.o];simp):p:=h
theorem Tc6 {p:Prop}(h:p:=by rw [h];rfl):p:=h
theorem Bo (v:ay)(s:aB)(u1 u2:List Value)(w:World)(hv:aN ok w u1 v)(hs:bC ok w u2 s)(ha:s.Ga.length<=1000000)(hS:AW w)(Ok:v.name.size<=1000000000)(h5:s.kind=5->2<=s.Ga.length)(h7:s.kind=7->3<=s.Ga.length) :
  Calls prog 147 #[.agg u1.toArray,.agg u2.toArray] w fun e w'=>e=.returned (.bool (jS v s))/\Below w.heap.size w w':=by
 have My:=aa hv;have HSV:=aa hs;obtain ⟨tv,sv,rfl,ew,fL⟩:=hv;obtain ⟨tp,tc,rfl,_,_⟩:=ew.cap;obtain ⟨sp,sc,rfl,_,_⟩:=fL.cap;obtain ⟨av,Oz,rfl,py,hst⟩:=hs;obtain ⟨ap,ac,rfl,aq0,aq1⟩:=py.cap;obtain ⟨eN,eR,rfl,hsc1,hsc2⟩:=hst.cap;clear ew fL py hst;have Nb:=aa hS;clear hS;have H5:=aa h5;clear h5;have H7:=aa h7;clear h7;have hb2:=(ae w (.cells (Taf v tp tc sp sc) 68)).trans ((ae (w.alloc (.cells (Taf v tp tc sp sc) 68)) (.cells (Tae s ap ac eN eR) 114)).mono (ae w _).size);have Yo:VS ok ((w.alloc (.cells (Taf v tp tc sp sc) 68)).alloc (.cells (Tae s ap ac eN eR) 114)) w.heap.size (w.heap.size+1) v s:=by
  refine ⟨⟨_,(cj _ _ _ TcD).trans (b9 w _),aN.moves.mv (Mv.of hb2) My.o⟩,⟨_,?_,bC.moves.mv (Mv.of hb2) HSV.o⟩⟩;exact TbQ
 have cm:=aa hb2;clear hb2;have XU:=aa Yo;clear Yo;have HF:Hid (jS v s=_):=aa (jS.eq_1 v s);have s0:∀ wr:World,wr.heap[w.heap.size+1]?=((w.alloc (.cells (Taf v tp tc sp sc) 68)).alloc (.cells (Tae s ap ac eN eR) 114)).heap[w.heap.size+1]?->wr.heap[w.heap.size]?=((w.alloc (.cells (Taf v tp tc sp sc) 68)).alloc (.cells (Tae s ap ac eN eR) 114)).heap[w.heap.size]?->wr.cell? (Tac (w.heap.size+1) 2)=some (.int .i64 s.kind)/\wr.cell? (Tac (w.heap.size+1) 6)=some (.string s.log)/\wr.cell? w.heap.size=some (.string v.name):=fun wr h1 h0=>by
  have e1:wr.heap[w.heap.size+1]?=some (.cells (Tae s ap ac eN eR) 114 (0,0)):=by
   rw [h1];exact TbQ
  have e0:wr.heap[w.heap.size]?=some (.cells (Taf v tp tc sp sc) 68 (0,0)):=h0.trans ((cj _ _ _ TcD).trans (b9 w _));exact ⟨cr e1 _ _ rfl,cr e1 _ _ rfl,cr e0 _ _ rfl⟩
 have HS0:=aa s0;clear s0;by_cases k34:s.kind=3\/s.kind=4
 ·rw [aw k34] at HF;have hk:(s.kind == 3)=true\/((s.kind == 3)=false/\(s.kind == 4)=true):=by
   rcases k34 with h | h
   ·exact .inl Tc5
   exact .inr ⟨Tc6,Tc5⟩
  clear k34;rcases hk with k3 | ⟨k3,k4⟩
  all_goals
   go_enter func147,ntmps147;have s3:((w.alloc (.cells (Taf v tp tc sp sc) 68)).alloc (.cells (Tae s ap ac eN eR) 114)).cell? (Tac (w.heap.size+1) 3)=some (.slice ap s.Ga.length ac):=aD TcD rfl;go_wp2;generalize hW2:World.alloc (World.alloc w _) _=W2 at *;clear hW2 s3
   go_loopw [18] (fun i wr=>∃ k:Nat,k<=s.Ga.length/\i=.int .i64 k/\(∀ j,j<k->dM v.name (bq j) ((s.Ga.map (·.on)).getD j ⟨#[]⟩)=true)/\VS ok wr w.heap.size (w.heap.size+1) v s/\Below w.heap.size w wr/\wr.heap[w.heap.size+1]?=W2.heap[w.heap.size+1]?/\wr.heap[w.heap.size]?=W2.heap[w.heap.size]?/\w.heap.size+1<wr.heap.size) (fun i _=>s.Ga.length - (intOf i).toNat)
   exact ⟨0,cg _,rfl,fun j hj=>by omega,XU.o,cm.o,rfl,rfl,by obtain ⟨⟨_,_,_⟩,⟨_,h,_⟩⟩:=XU.o;exact aq h⟩;obtain ⟨k,hk,rfl,hall,eE,hB,hw1,hw0,mA⟩:=hrel;have cE:=aa hall;clear hall;have ao7:=aa eE;clear eE;have HW1:=aa hw1;clear hw1;have HW0:=aa hw0;clear hw0;by_cases hlt:k<s.Ga.length
   ·obtain ⟨r,hr⟩:=aj s.Ga k hlt;have Vz:=aa (uD hr);have HR:=aa hr;clear hr;go_wp2_with fail;refine (rR (ok:=ok) v s k k r _ _ _ ao7.o HR.o (Nb.o.below hB) Ok).mono ?_;rintro e w3 ⟨rfl,hb3⟩;have cJ:=aa (hB.trans (hb3.mono hB.size));have Rl:=aa (ao7.o.below hb3);have HW31:=aa ((hb3.block _ mA).trans HW1.o);have HW30:=aa ((hb3.block _ TcC).trans HW0.o);have Lp:Hid (w.heap.size+1<w3.heap.size):=aa (cC mA hb3.size);clear hb3;have PZ:Hid (dM v.name (bq k) r.on=false->jS v s=false):=aa fun h=>by
     have:vU v s=false:=by
      unfold vU;rw [lr];exact ⟨k,List.mem_range.2 hlt,by rw [Vz.o,h];simp⟩
     rw [HF.o,this];rfl
    have kh:Hid (dM v.name (bq k) r.on=true->∀ j,j<k+1->dM v.name (bq j) ((s.Ga.map (·.on)).getD j ⟨#[]⟩)=true):=aa fun h j hj=>by
     by_cases hjk:j=k
     ·subst hjk;rw [Vz.o];exact h
     exact cE.o j TcC
    generalize hqq:dM v.name (bq k) r.on=qq at *;clear hqq;cases qq with
    | true =>
     go_wp2;go_roundw;exact ⟨k+1,TcC,TcG,kh.o Tc8,Rl.o,cJ.o,HW31.o,HW30.o,Lp.o⟩;simp [intOf];omega
    | false =>
     go_wp2;go_ret;exact ⟨ah (PZ.o Tc8).symm,cJ.o⟩
   have HL:Hid (vU v s=true):=aa (by
    unfold vU;rw [eL];exact fun j hj=>cE.o j Tdq)
   obtain ⟨_,l6,n0⟩:=HS0.o wr HW1.o HW0.o;cases hle:s.log.toList.isEmpty with
   | true =>
    have HR:Hid (jS v s=true):=aa (by rw [HF.o,HL.o,hle];simp);go_wp2;go_ret;exact ⟨ah HR.o.symm,hB⟩
   | false =>
    have HR:Hid (jS v s=dM v.name (dH 1) s.log):=aa (by rw [HF.o,HL.o,hle];simp);have HC:=aa (fun W hW=>wC v.name.data.toList 1 W (by simpa using Ok) (Nb.o.below hW));rw [<- bytes_eta] at HC;go_wp2_with fail;refine (HC.o _ hB).mono ?_;rintro e w3 ⟨rfl,hb3⟩;have cJ:=aa (hB.trans (hb3.mono hB.size));have l6':=(hb3.cell (p:=⟨w.heap.size+1,6,none⟩) mA).trans l6;clear hb3 l6;go_wp2_with fail;refine (mJ _ _ _ _).mono ?_;rintro e w4 ⟨rfl,rfl⟩;go_wp2;go_ret;exact ⟨ah TcK,cJ.o⟩
 rw [bh k34] at HF;have k3:(s.kind == 3)=false:=by simp;omega
 have k4:(s.kind == 4)=false:=by simp;omega
 by_cases k5:s.kind=5
 ·rw [aw k5] at HF;have hl:=H5.o k5;have LH:(s.kind == 5)=true:=by simpa using k5
  obtain ⟨r0,hr0⟩:=aj s.Ga 0 TcC;obtain ⟨r1,hr1⟩:=aj s.Ga 1 TcC;rw [uD hr0,uD hr1] at HF;clear k5 k34;go_enter func147,ntmps147
  go_wp2_with fail;generalize hW2:World.alloc (World.alloc w _) _=W2 at *;clear hW2;refine (kg (ok:=ok) v s 0 3 r0 _ _ _ XU.o hr0 (Nb.o.below cm.o) Ok).mono ?_;rintro e w3 ⟨rfl,hb3⟩;have ao7:=aa (XU.o.below hb3);have cJ:=Zbl cm hb3;clear hb3;generalize hq0:dM v.name (dH 3) r0.on=q0 at *;clear hq0;cases q0 with
  | false =>
   go_wp2;go_ret;exact ⟨ah TdP,cJ.o⟩
  | true =>
   go_wp2_with fail;refine (kg (ok:=ok) v s 1 2 r1 _ _ _ ao7.o hr1 (Nb.o.below cJ.o) Ok).mono ?_;rintro e w4 ⟨rfl,hb4⟩;have O5:=aa (ao7.o.below hb4);have eI:=Zbl cJ hb4;clear hb4;generalize hq1:dM v.name (dH 2) r1.on=q1 at *;clear hq1;go_wp2;go_ret;exact ⟨ah TdP,eI.o⟩
 rw [bh k5] at HF;have LH:(s.kind == 5)=false:=by simpa using k5
 by_cases k7:s.kind=7
 ·rw [aw k7] at HF;have hl:=H7.o k7;have k7b:(s.kind == 7)=true:=by simpa using k7
  obtain ⟨r0,hr0⟩:=aj s.Ga 0 TcC;obtain ⟨r1,hr1⟩:=aj s.Ga 1 TcC;obtain ⟨r2,hr2⟩:=aj s.Ga 2 TcC;rw [uD hr0,uD hr1,uD hr2] at HF;clear k7 k34 k5;go_enter func147,ntmps147
  go_wp2_with fail;generalize hW2:World.alloc (World.alloc w _) _=W2 at *;clear hW2;refine (rR (ok:=ok) v s 0 0 r0 _ _ _ XU.o hr0 (Nb.o.below cm.o) Ok).mono ?_;rintro e w3 ⟨rfl,hb3⟩;have ao7:=aa (XU.o.below hb3);have cJ:=Zbl cm hb3;clear hb3;generalize hq0:dM v.name (bq 0) r0.on=q0 at *;clear hq0;cases q0 with
  | false =>
   go_wp2;go_ret;exact ⟨ah TdP,cJ.o⟩
  | true =>
   go_wp2_with fail;refine (kg (ok:=ok) v s 1 2 r1 _ _ _ ao7.o hr1 (Nb.o.below cJ.o) Ok).mono ?_;rintro e w4 ⟨rfl,hb4⟩;have O5:=aa (ao7.o.below hb4);have eI:=Zbl cJ hb4;clear hb4;generalize hq1:dM v.name (dH 2) r1.on=q1 at *;clear hq1;cases q1 with
   | false =>
    go_wp2;go_ret;exact ⟨ah TdP,eI.o⟩
   | true =>
    go_wp2_with fail;refine (kg (ok:=ok) v s 2 3 r2 _ _ _ O5.o hr2 (Nb.o.below eI.o) Ok).mono ?_;rintro e w5 ⟨rfl,hb5⟩;have Rl:=aa (O5.o.below hb5);have eK:=Zbl eI hb5;clear hb5;generalize hq2:dM v.name (dH 3) r2.on=q2 at *;clear hq2;go_wp2;go_ret;exact ⟨ah TdP,eK.o⟩
 rw [bh k7] at HF;have k7b:(s.kind == 7)=false:=by simpa using k7
 clear k7 k34 k5;go_enter func147,ntmps147;go_wp2;go_ret;exact ⟨ah (by rw [HF.o]),cm.o⟩
end Go.Proofs.YtaagglbgohjldaaGreatDoor
