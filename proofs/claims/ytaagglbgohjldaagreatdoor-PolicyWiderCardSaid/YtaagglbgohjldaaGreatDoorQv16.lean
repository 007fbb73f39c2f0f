/- Lemmas: ModI, ModJ, ModK. -/
import Derived.Test.YtaagglbgohjldaaGreatDoorQv14
import Derived.Test.YtaagglbgohjldaaGreatDoorQv15
set_option maxRecDepth 100000
set_option maxHeartbeats 32000000
set_option linter.all false
namespace Go.Proofs.YtaagglbgohjldaaGreatDoor
open Go.Proofs.Tryz
open Go.RowKit Go.Maps Go.Shelf
variable {ok F:Nat->Prop}{w w':World}
structure wM (s:aB):Prop where
 l0:1<=s.length
 l1:s.length<=32768
 ar:s.Ga.length<=6
 p5:s.kind=5->2<=s.Ga.length
 p7:s.kind=7->3<=s.Ga.length
def fI (g:af)(s:aB)(r:aR):Bool:=r.vol||(decide (0<=r.start)&&decide (r.start<=((bH g.Gb r.on).getD gT).Gc)&&decide (iB s.kind s.length s.Ga.length<=((bH g.Gb r.on).getD gT).Gc - r.start))
def dh (g:af)(nm:ByteArray):Bool:=eZ ((aM g.F9 nm).getD eY) == 6||eZ ((aM g.F9 nm).getD eY) == 5
def mM (g:af)(v:ay)(s:aB):Int :=
 if jw g s=false then 12 else if s.Ga.all (fI g s)=false then 1 else if jS v s=false then 10 else if s.kind=6/\¬ eZ ((aM g.F9 s.pool).getD eY)=5 then 17
 else if (dD s false).any (dh g)=true then 17 else 0
theorem zV {k l:Int}{n:Nat}(h0:0<=l):0<=iB k l n/\iB k l n<=l:=by
 unfold iB;split
 ·exact ⟨lz h0 TcC,mS _ h0⟩
 omega
theorem Da {Gb:List az}{nm:ByteArray}(h:∀ d∈Gb,0<=d.Gc/\d.Gc<=1000000):0<=((bH Gb nm).getD gT).Gc/\((bH Gb nm).getD gT).Gc<=1000000:=by
 cases hf:bH Gb nm with
 | none=>simp [gT]
 | some d=>exact h d (eV hf)
theorem pK (g:af)(a:bN)(bc Bc:Nat)(v:ay)(s:aB)(u1 u2:List Value)(w:World)(kB:gY w bc g a)(hcc:w.cell? Bc=some (.pointer (some bc)))(Hh:Bc<w.heap.size)(hg:dN ok w g a)(hz:JT g)(vu:∀ d∈g.Gb,0<=d.Gc/\d.Gc<=1000000)
  (hv:aN ok w u1 v) (hs:bC ok w u2 s) (hf:wM s) (eE:qD v) (hS:AW w) (Ok:v.name.size<=1000000000) :
  Calls prog 145 #[.agg u1.toArray,.agg u2.toArray,.pointer (some Bc)] w fun e w'=>e=.returned (.int .i64 (mM g v s))/\Below w.heap.size w w':=by
 have jt:=kB.lt;have My:=aa hv;have HSV:=aa hs;obtain ⟨tv,sv,rfl,ew,fL⟩:=hv;obtain ⟨tp,tc,rfl,_,_⟩:=ew.cap;obtain ⟨sp,sc,rfl,_,_⟩:=fL.cap;obtain ⟨av,Oz,rfl,py,hst⟩:=hs;obtain ⟨ap,ac,rfl,aq0,aq1⟩:=py.cap;obtain ⟨eN,eR,rfl,hsc1,hsc2⟩:=hst.cap;have ya:=aa py;clear ew fL py hst;have I3:=aa kB;obtain ⟨sm,hblk,_⟩:=kB;have nw:Hid (bX w bc sm g a):=aa hblk;clear hblk;have HG:=aa hg;clear hg;have HZ:=aa hz;clear hz;have kj:=aa vu;clear vu;have Nb:=aa hS;clear hS;have O6:=aa hf;have hl0:=hf.l0;have hl1:=hf.l1;have LB:=hf.ar;clear hf;have HCC:=aa hcc;clear hcc;have hb2:=(ae w (.cells (Taf v tp tc sp sc) 68)).trans ((ae (w.alloc (.cells (Taf v tp tc sp sc) 68)) (.cells (Tae s ap ac eN eR) 114)).mono (ae w _).size);have h0:((w.alloc (.cells (Taf v tp tc sp sc) 68)).alloc (.cells (Tae s ap ac eN eR) 114)).heap[w.heap.size]?=some (.cells (Taf v tp tc sp sc) 68 (0,0)):=(cj _ _ _ TcD).trans (b9 w _);have h1:((w.alloc (.cells (Taf v tp tc sp sc) 68)).alloc (.cells (Tae s ap ac eN eR) 114)).heap[w.heap.size+1]?=some (.cells (Tae s ap ac eN eR) 114 (0,0)):=by
  exact TbQ
 have cm:=aa hb2;clear hb2;have H0:=aa h0;clear h0;have H1:=aa h1;clear h1;have c0:=(cm.o.cell (p:=Bc) Hh).trans HCC.o;have HF:Hid (mM g v s=_):=aa (mM.eq_1 g v s);go_enter func145,ntmps145
 go_wp2_with fail;generalize hW2:World.alloc (World.alloc w _) _=W2 at *;clear hW2 c0;refine (vC (ok:=ok) g a bc s _ _ (I3.o.below cm.o) (HG.o.mv (Mv.of cm.o)) HZ.o (bC.moves.mv (Mv.of cm.o) HSV.o) TcC).mono ?_;rintro e w3 ⟨rfl,hb3⟩;have cJ:=Zbl cm hb3;have H03:=Zbk hb3 H0;have H13:=Zbk hb3 H1;clear hb3 H0 H1;generalize hex:jw g s=ex at *;clear hex;have LI:∀ wr:World,wr.heap[w.heap.size+1]?=some (.cells (Tae s ap ac eN eR) 114 (0,0))->∀ (j:Nat) (z:Value),[.int .i64 s.start,.int .i64 s.length,.int .i64 s.kind,.slice ap s.Ga.length ac,.int .i64 s.chunk,.slice eN s.stale.length eR,.string s.log,.string s.pool,.int .i64 s.device,.int .i64 s.mode,.int .i64 s.done][j]?=some z->wr.cell? ⟨w.heap.size+1,j,none⟩=some z:=fun wr h j z hz=>by
  exact Tcm
 have Rm:∀ wr:World,wr.heap[w.heap.size]?=some (.cells (Taf v tp tc sp sc) 68 (0,0))->∀ (j:Nat) (z:Value),[.string v.name,.int .u64 v.id,.bool v.hidden,.bool v.ro,.slice tp v.tags.length tc,.slice sp v.Gf.length sc][j]?=some z->wr.cell? ⟨w.heap.size,j,none⟩=some z:=fun wr h j z hz=>by
  exact Tcm
 have SL:=aa LI;clear LI;have VL:=aa Rm;clear Rm;cases ex with
 | false =>
  have HR:Hid (mM g v s=12):=aa (by rw [HF.o,aw rfl]);go_wp2;go_ret;exact ⟨cz HR.o.symm,cJ.o⟩
 | true =>
  rw [bh TcD] at HF;have s3:=SL.o w3 H13.o 3 _ rfl;go_wp2;clear s3;go_loopw [23] (fun i wr=>∃ k:Nat,k<=s.Ga.length/\i=.int .i64 k/\(∀ j r,j<k->s.Ga[j]?=some r->fI g s r=true)/\Below w.heap.size w wr/\wr.heap[w.heap.size]?=some (.cells (Taf v tp tc sp sc) 68 (0,0))/\wr.heap[w.heap.size+1]?=some (.cells (Tae s ap ac eN eR) 114 (0,0))) (fun i _=>s.Ga.length - (intOf i).toNat)
  exact ⟨0,cg _,rfl,fun j r hj=>by omega,cJ.o,H03.o,H13.o⟩;clear H03 H13 cJ;obtain ⟨k,hk,rfl,hall,hB,hx0,hx1⟩:=hrel;have cE:=aa hall;clear hall;have H03:=aa hx0;clear hx0;have H13:=aa hx1;clear hx1;by_cases hlt:k<s.Ga.length
  ·obtain ⟨r,hr⟩:=aj s.Ga k hlt;obtain ⟨b,off,us,rfl,_,cX,ez,Tv,hcv⟩:=ya.o.elem hr;obtain rfl:us=_:=Tv;have cT:wr.heap[b]?=w.heap[b]?:=hB.block b cX;obtain ⟨q0,q1,q2⟩:=Mn cT hcv;have HR:=aa hr;clear hr;clear hcv ez cT;go_upto_region 6 with (fail);clear q0 q1 q2;have ox:=aa (b9 wr (.cells (Tau r) 53));have eK:=aa (hB.trans ((ae wr (.cells (Tau r) 53)).mono hB.size));have H05:=aa ((cj wr (.cells (Tau r) 53) _ (aq H03.o)).trans H03.o);have H15:=aa ((cj wr (.cells (Tau r) 53) _ (aq H13.o)).trans H13.o);have mA:=hB.size;generalize hW5:World.alloc wr _=W5 at *;generalize hBs:wr.heap.size=Bs at *;clear hW5;refine pI (ok:=ok) _ W5 g a bc sm Bs r.on Bc (cC Hh eK.o.size) ((eK.o.cell (p:=Bc) Hh).trans HCC.o) ((eK.o.block bc jt).trans nw.o) (by simp [World.cell?,ox.o]) (aq ox.o) (HG.o.mv (Mv.of eK.o)) HZ.o _ _ rfl rfl (aa ?_) (fun _ _ _ _ _ h=>h);intro tp8 tc8 b8 W7 hb7 hb8 hblk8 _;have wk:=Zbl eK hb7;have H07:=Zbk hb7 H05;have H17:=Zbk hb7 H15;have as5:=(hb7.block _ (aq ox.o)).trans ox.o;have v0:=cr as5 0 _ rfl;have v2:=cr as5 2 _ rfl;have d3:=cr hblk8 3 _ rfl;have hdb:=Da (nm:=r.on) kj.o;clear hb7 hb8 hblk8 as5 ox eK H05 H15;have PZ:Hid (fI g s r=false->mM g v s=1):=aa fun h=>by
    rw [HF.o,aw];rw [lr];exact ⟨r,ct HR.o,TcZ⟩
   have kh:Hid (fI g s r=true->∀ j y,j<k+1->s.Ga[j]?=some y->fI g s y=true):=aa fun h j y hj hy=>by
    by_cases hjk:j=k
    ·subst hjk;rw [HR.o] at hy;cases hy
     exact h
    exact cE.o j y TcC hy
   have Rn:Hid (fI g s r=_):=aa (fI.eq_1 g s r);generalize (bH g.Gb r.on).getD gT=d at *;generalize (bH g.Gb r.on).isSome=dis at *;have hl7:=aq H17.o;cases Na:r.vol with
   | true =>
    rw [Na] at v0;have j9:Hid (fI g s r=true):=aa (by rw [Rn.o,Na];rfl);go_upto_region 7 with (fail);go_quiet (fail);go_wp2;go_roundw
    exact ⟨k+1,TcC,TcG,kh.o j9.o,aT wk.o _,H07.o,H17.o⟩;simp [intOf];omega
   | false =>
    rw [Na] at v0;by_cases c0:0<=r.start
    ·by_cases c1:r.start<=d.Gc
     ·have y:=SL.o W7 H17.o;obtain ⟨s0,s1,s2,s3,s4,s5,s6,s7,s8,s9,s10⟩:=IC y;have q0:decide (r.start<0)=false:=by simp;omega
      have q1:decide (d.Gc<r.start)=false:=by simp;omega
      have hw1:IntKind.i64.wrap (d.Gc - r.start)=d.Gc - r.start:=dy _ TcC;clear y;go_upto_region 7 with (fail);have ev0:=aG (cP W7 _ v0) v0;have ev2:=aG (cP W7 _ v2) v2;have ed3:=aG (cP W7 _ d3) d3;have es0:=aG (cP W7 _ s0) s0;have es1:=aG (cP W7 _ s1) s1;have es2:=aG (cP W7 _ s2) s2;have es3:=aG (cP W7 _ s3) s3;have es4:=aG (cP W7 _ s4) s4;have es5:=aG (cP W7 _ s5) s5;have es6:=aG (cP W7 _ s6) s6;have es7:=aG (cP W7 _ s7) s7;have es8:=aG (cP W7 _ s8) s8;have es9:=aG (cP W7 _ s9) s9;have es10:=aG (cP W7 _ s10) s10;have hen:=zV (k:=s.kind) (l:=s.length) (n:=s.Ga.length) TcC;have HEB:Hid (Below w.heap.size w W7):=wk;(refine aU TcE TcE ?_;(repeat (go_big_quiet_step ((go_at_call 118;exact iH (ji _ _ _ _ _ _ _ _ _ _ _ _ _ _ _ _ TcC TcC TcC)))));(with_reducible refine fR ?_);intro wq ia;have kq:=dY ia;clear ia)
      have fy:=Zbl wk kq;have H0W:=Zbk kq H07;have O7:=Zbk kq H17;clear kq ev0 ev2 ed3 es0 es1 es2 es3 es4 es5 es6 es7 es8 es9 es10;by_cases c2:iB s.kind s.length s.Ga.length<=d.Gc - r.start
      ·have j9:Hid (fI g s r=true):=aa (by rw [Rn.o,Na,eA c0,eA c1,eA c2];rfl);have q2:decide (d.Gc - r.start<iB s.kind s.length s.Ga.length)=false:=by simp;omega
       go_wp2;go_roundw;exact ⟨k+1,TcC,TcG,kh.o j9.o,fy.o,H0W.o,O7.o⟩;simp [intOf];omega
      have j9:Hid (fI g s r=false):=aa (by rw [Rn.o,Na,cN c2];simp);have q2:decide (d.Gc - r.start<iB s.kind s.length s.Ga.length)=true:=by simp;omega
      go_wp2;go_ret;exact ⟨cz (PZ.o j9.o).symm,fy.o⟩
     have j9:Hid (fI g s r=false):=aa (by rw [Rn.o,Na,cN c1];simp);have q0:decide (r.start<0)=false:=by simp;omega
     have q1:decide (d.Gc<r.start)=true:=by simp;omega
     go_upto_region 7 with (fail);go_quiet (fail);go_wp2;go_ret;exact ⟨cz (PZ.o j9.o).symm,aT wk.o _⟩
    have j9:Hid (fI g s r=false):=aa (by rw [Rn.o,Na,cN c0];simp);have q0:decide (r.start<0)=true:=by simp;omega
    go_upto_region 7 with (fail);go_quiet (fail);go_wp2;go_ret;exact ⟨cz (PZ.o j9.o).symm,aT wk.o _⟩
  have QY:Hid (¬ s.Ga.all (fI g s)=false):=aa (by
   rw [Bool.not_eq_false,eL];intro r hr;obtain ⟨j,hj⟩:=fc hr;exact cE.o j r Tdo hj)
  rw [bh QY.o] at HF;clear QY cE;have y:=SL.o wr H13.o;obtain ⟨s0,s1,s2,s3,s4,s5,s6,s7,s8,s9,s10⟩:=IC y;have y':=VL.o wr H03.o;obtain ⟨v0,v1,v2,v3,v4,v5⟩:=sv6 y';have HBR:=aa hB;go_wp2_with fail;clear s0 s1 s2 s3 s4 s5 s6 s7 s8 s9 s10 y v0 v1 v2 v3 v4 v5 y';refine (Bo (ok:=ok) v s _ _ _ (aN.moves.mv (Mv.of HBR.o) My.o) (bC.moves.mv (Mv.of HBR.o) HSV.o) TcC (Nb.o.below HBR.o) Ok O6.o.p5 O6.o.p7).mono ?_;rintro e w4 ⟨rfl,hb4⟩;have eI:=Zbl HBR hb4;have H04:=Zbk hb4 H03;have H14:=Zbk hb4 H13;clear hb4 H03 H13 HBR hB;generalize pD:jS v s=nb at *;clear pD;cases nb with
  | false =>
   rw [aw rfl] at HF;go_wp2;go_ret;exact ⟨cz HF.o.symm,eI.o⟩
  | true =>
   rw [bh TcD] at HF;have s2:=SL.o w4 H14.o 2 _ rfl;by_cases hk6:s.kind=6
   ·have VA:(s.kind == 6)=true:=by simpa using hk6
    have HK6:=aa hk6;clear hk6;go_upto_region 13 with (fail);clear s2;refine oG (ok:=ok) _ w4 g a bc sm _ s.pool Bc (cC Hh eI.o.size) ((eI.o.cell (p:=Bc) Hh).trans HCC.o) ((eI.o.block bc jt).trans nw.o) (SL.o w4 H14.o 7 _ rfl) (aq H14.o) (HG.o.mv (Mv.of eI.o)) HZ.o _ _ rfl rfl (aa ?_) (fun _ _ _ _ _ h=>h);intro tp8 tc8 sp8 sc8 b8 W7 hb7 hb8 hblk8 hv7;have wk:=Zbl eI hb7;have H07:=Zbk hb7 H04;have H17:=Zbk hb7 H14;have HV7:=aa hv7;have mb:((aM g.F9 s.pool).getD eY).Gf.length<=1000000:=by
     cases hf:aM g.F9 s.pool with
     | none=>exact cg _
     | some y=>exact (HZ.o.vz y (eV hf)).Gf
    generalize (aM g.F9 s.pool).isSome=fd at *;generalize (aM g.F9 s.pool).getD eY=vx at *;have bL:=cr hblk8;obtain ⟨n0,n1,n2,n3,n4,n5⟩:=sv6 bL;clear bL hb7 hb8 hblk8 hv7 H04 H14 eI;go_wp2_with fail;refine (kU vx _ _ HV7.o TcC).mono ?_;rintro e w5 ⟨rfl,hb5⟩;have eK:=Zbl wk hb5;have H05:=Zbk hb5 H07;have H15:=Zbk hb5 H17;clear hb5 H07 H17 wk n0 n1 n2 n3 n4 n5;by_cases k5:eZ vx=5
    ·have LH:(eZ vx != 5)=false:=by simpa using k5
     rw [bh (fun h=>h.2 k5)] at HF;have HK5:=aa k5;clear k5;have y:=SL.o w5 H15.o;obtain ⟨s0,s1,s2,s3,s4,s5,s6,s7,s8,s9,s10⟩:=IC y;go_wp2_with fail;clear s0 s1 s2 s3 s4 s5 s6 s7 s8 s9 s10 y;refine (kN (ok:=ok) s false _ _ (bC.moves.mv (Mv.of eK.o) HSV.o) TcC).mono ?_;rintro e w6 ⟨uv,rfl,how,hb6⟩;have kf:=how.rd (ok:=fun _=>True) (fun _ _=>trivial);obtain ⟨up,uc,rfl,O3,O4⟩:=kf.cap;have B2:=aa kf;clear kf how;have Tq:=Zbl eK hb6;clear hb6;have ez:(dD s false).length<=1000002:=oL s false TcC;generalize hL:dD s false=L at *;clear hL;go_wp2;go_loopw [86] (fun i wr=>∃ k:Nat,k<=L.length/\i=.int .i64 k/\(∀ j x,j<k->L[j]?=some x->dh g x=false)/\Below w6.heap.size w6 wr) (fun i _=>L.length - (intOf i).toNat)
     exact ⟨0,cg _,rfl,fun j r hj=>by omega,bj _ _⟩;obtain ⟨k,hk,rfl,hall,hB⟩:=hrel;have sR:=aa hall;clear hall;by_cases hlt:k<L.length
     ·obtain ⟨x,hx⟩:=aj L k hlt;obtain ⟨b,off,us,rfl,_,cX,TE,Tv,hcv⟩:=B2.o.elem hx;obtain rfl:us=_:=Tv;have q0:=(hB.cell (p:=⟨b,off+k*1+0,none⟩) cX).trans (hcv 0 _ rfl);rw [fp,fg] at q0;have HX:=aa hx;clear hx;have fy:=Zbl Tq hB;obtain ⟨g0,g1,g2,g3,g4,g5,g6,g7,g8⟩:=bX.cells (sm:=sm) ((fy.o.block bc jt).trans nw.o);have cc:=(fy.o.cell (p:=Bc) Hh).trans HCC.o;clear hcv TE;go_wp2_with fail;clear g0 g1 g2 g3 g4 g5 g6 g7 g8 cc;refine (fA (ok:=ok) g a x _ (HG.o.mv (Mv.of fy.o)).F9 HZ.o.vl HZ.o.vz).mono ?_;rintro e w8 ⟨u8,rfl,hv8,hb8⟩;have O8:=aa hv8;obtain ⟨t8,s8,rfl,ht8,hs8⟩:=hv8;obtain ⟨tp8,tc8,rfl,_,_⟩:=ht8.cap;obtain ⟨sp8,sc8,rfl,_,_⟩:=hs8.cap;clear ht8 hs8;have hB8:Below w6.heap.size w6 w8:=hB.trans (hb8.mono hB.size);have Ix:=aa hB8;have PZ:Hid (dh g x=true->mM g v s=17):=aa fun h=>by
       rw [HF.o,aw];rw [nh];exact ⟨x,ct HX.o,h⟩
      have kh:Hid (dh g x=false->∀ j y,j<k+1->L[j]?=some y->dh g y=false):=aa fun h j y hj hy=>by
       by_cases hjk:j=k
       ·subst hjk;rw [HX.o] at hy;cases hy
        exact h
       exact sR.o j y TcC hy
      have F2:Hid (dh g x=_):=aa (dh.eq_1 g x);have mb:((aM g.F9 x).getD eY).Gf.length<=1000000:=by
       cases hf:aM g.F9 x with
       | none=>exact cg _
       | some y=>exact (HZ.o.vz y (eV hf)).Gf
      generalize (aM g.F9 x).isSome=fd at *;generalize (aM g.F9 x).getD eY=vx at *;have hA:=ae w8 (.cells (Taf vx tp8 tc8 sp8 sc8) 68);have ld:=aa (b9 w8 (.cells (Taf vx tp8 tc8 sp8 sc8) 68));have Nc:=aa (aN.moves.mv (Mv.of hA) O8.o);have pL:=aa (hB8.trans (hA.mono hB8.size));have VB:=aa (aq (b9 w8 (.cells (Taf vx tp8 tc8 sp8 sc8) 68)));clear hA hb8 hB8;go_wp2_with fail;generalize DA:World.alloc w8 _=WA at *;clear DA;refine (kU vx _ _ Nc.o TcC).mono ?_;rintro e w9 ⟨rfl,hb9⟩;have J1:=Zbl pL hb9;have VC:=aa (aN.moves.mv (Mv.of hb9) Nc.o);have LJ:=(hb9.block _ VB.o).trans ld.o;have bL:=cr LJ;obtain ⟨n0,n1,n2,n3,n4,n5⟩:=sv6 bL;clear bL LJ hb9;by_cases k6:eZ vx=6
      ·have O9:(eZ vx == 6)=true:=by simpa using k6
       have j9:Hid (dh g x=true):=aa (by rw [F2.o,O9];rfl);go_wp2;go_ret;exact ⟨cz (PZ.o j9.o).symm,Tq.o.trans (J1.o.mono Tq.o.size)⟩
      have O9:(eZ vx == 6)=false:=by simpa using k6
      go_wp2_with fail;refine (kU vx _ _ VC.o TcC).mono ?_;rintro e w10 ⟨rfl,hb10⟩;have Ax:=Zbl J1 hb10;clear hb10;by_cases k5:eZ vx=5
      ·have LH:(eZ vx == 5)=true:=by simpa using k5
       have j9:Hid (dh g x=true):=aa (by rw [F2.o,LH];simp);go_wp2;go_ret;exact ⟨cz (PZ.o j9.o).symm,Tq.o.trans (Ax.o.mono Tq.o.size)⟩
      have LH:(eZ vx == 5)=false:=by simpa using k5
      have j9:Hid (dh g x=false):=aa (by rw [F2.o,O9,LH];rfl);go_wp2;go_roundw;exact ⟨k+1,TcC,TcG,kh.o j9.o,Ax.o⟩;simp [intOf];omega
     have fy:=Zbl Tq hB;have HR:Hid (mM g v s=0):=aa (by
      rw [HF.o,bh];intro h;rw [nh] at h;obtain ⟨x,hx,hb⟩:=h;obtain ⟨j,hj⟩:=fc hx;rw [sR.o j x Tdo hj] at hb
      cases hb)
     go_wp2;go_ret;exact ⟨cz HR.o.symm,fy.o⟩
    have LH:(eZ vx != 5)=true:=by simpa using k5
    rw [aw ⟨HK6.o,k5⟩] at HF;go_wp2;go_ret;exact ⟨cz HF.o.symm,eK.o⟩
   have VA:(s.kind == 6)=false:=by simpa using hk6
   rw [bh (fun h=>hk6 h.1)] at HF;clear hk6;have y:=SL.o w4 H14.o;obtain ⟨s0,s1,s2,s3,s4,s5,s6,s7,s8,s9,s10⟩:=IC y;go_wp2_with fail;clear s0 s1 s2 s3 s4 s5 s6 s7 s8 s9 s10 y;refine (kN (ok:=ok) s false _ _ (bC.moves.mv (Mv.of eI.o) HSV.o) TcC).mono ?_;rintro e w6 ⟨uv,rfl,how,hb6⟩;have kf:=how.rd (ok:=fun _=>True) (fun _ _=>trivial);obtain ⟨up,uc,rfl,O3,O4⟩:=kf.cap;have B2:=aa kf;clear kf how;have Tq:=Zbl eI hb6;clear hb6;have ez:(dD s false).length<=1000002:=oL s false TcC;generalize hL:dD s false=L at *;clear hL;go_wp2;go_loopw [86] (fun i wr=>∃ k:Nat,k<=L.length/\i=.int .i64 k/\(∀ j x,j<k->L[j]?=some x->dh g x=false)/\Below w6.heap.size w6 wr) (fun i _=>L.length - (intOf i).toNat)
   exact ⟨0,cg _,rfl,fun j r hj=>by omega,bj _ _⟩;obtain ⟨k,hk,rfl,hall,hB⟩:=hrel;have sR:=aa hall;clear hall;by_cases hlt:k<L.length
   ·obtain ⟨x,hx⟩:=aj L k hlt;obtain ⟨b,off,us,rfl,_,cX,TE,Tv,hcv⟩:=B2.o.elem hx;obtain rfl:us=_:=Tv;have q0:=(hB.cell (p:=⟨b,off+k*1+0,none⟩) cX).trans (hcv 0 _ rfl);rw [fp,fg] at q0;have HX:=aa hx;clear hx;have fy:=Zbl Tq hB;obtain ⟨g0,g1,g2,g3,g4,g5,g6,g7,g8⟩:=bX.cells (sm:=sm) ((fy.o.block bc jt).trans nw.o);have cc:=(fy.o.cell (p:=Bc) Hh).trans HCC.o;clear hcv TE;go_wp2_with fail;clear g0 g1 g2 g3 g4 g5 g6 g7 g8 cc;refine (fA (ok:=ok) g a x _ (HG.o.mv (Mv.of fy.o)).F9 HZ.o.vl HZ.o.vz).mono ?_;rintro e w8 ⟨u8,rfl,hv8,hb8⟩;have O8:=aa hv8;obtain ⟨t8,s8,rfl,ht8,hs8⟩:=hv8;obtain ⟨tp8,tc8,rfl,_,_⟩:=ht8.cap;obtain ⟨sp8,sc8,rfl,_,_⟩:=hs8.cap;clear ht8 hs8;have hB8:Below w6.heap.size w6 w8:=hB.trans (hb8.mono hB.size);have Ix:=aa hB8;have PZ:Hid (dh g x=true->mM g v s=17):=aa fun h=>by
     rw [HF.o,aw];rw [nh];exact ⟨x,ct HX.o,h⟩
    have kh:Hid (dh g x=false->∀ j y,j<k+1->L[j]?=some y->dh g y=false):=aa fun h j y hj hy=>by
     by_cases hjk:j=k
     ·subst hjk;rw [HX.o] at hy;cases hy
      exact h
     exact sR.o j y TcC hy
    have F2:Hid (dh g x=_):=aa (dh.eq_1 g x);have mb:((aM g.F9 x).getD eY).Gf.length<=1000000:=by
     cases hf:aM g.F9 x with
     | none=>exact cg _
     | some y=>exact (HZ.o.vz y (eV hf)).Gf
    generalize (aM g.F9 x).isSome=fd at *;generalize (aM g.F9 x).getD eY=vx at *;have hA:=ae w8 (.cells (Taf vx tp8 tc8 sp8 sc8) 68);have ld:=aa (b9 w8 (.cells (Taf vx tp8 tc8 sp8 sc8) 68));have Nc:=aa (aN.moves.mv (Mv.of hA) O8.o);have pL:=aa (hB8.trans (hA.mono hB8.size));have VB:=aa (aq (b9 w8 (.cells (Taf vx tp8 tc8 sp8 sc8) 68)));clear hA hb8 hB8;go_wp2_with fail;generalize DA:World.alloc w8 _=WA at *;clear DA;refine (kU vx _ _ Nc.o TcC).mono ?_;rintro e w9 ⟨rfl,hb9⟩;have J1:=Zbl pL hb9;have VC:=aa (aN.moves.mv (Mv.of hb9) Nc.o);have LJ:=(hb9.block _ VB.o).trans ld.o;have bL:=cr LJ;obtain ⟨n0,n1,n2,n3,n4,n5⟩:=sv6 bL;clear bL LJ hb9;by_cases k6:eZ vx=6
    ·have O9:(eZ vx == 6)=true:=by simpa using k6
     have j9:Hid (dh g x=true):=aa (by rw [F2.o,O9];rfl);go_wp2;go_ret;exact ⟨cz (PZ.o j9.o).symm,Tq.o.trans (J1.o.mono Tq.o.size)⟩
    have O9:(eZ vx == 6)=false:=by simpa using k6
    go_wp2_with fail;refine (kU vx _ _ VC.o TcC).mono ?_;rintro e w10 ⟨rfl,hb10⟩;have Ax:=Zbl J1 hb10;clear hb10;by_cases k5:eZ vx=5
    ·have LH:(eZ vx == 5)=true:=by simpa using k5
     have j9:Hid (dh g x=true):=aa (by rw [F2.o,LH];simp);go_wp2;go_ret;exact ⟨cz (PZ.o j9.o).symm,Tq.o.trans (Ax.o.mono Tq.o.size)⟩
    have LH:(eZ vx == 5)=false:=by simpa using k5
    have j9:Hid (dh g x=false):=aa (by rw [F2.o,O9,LH];rfl);go_wp2;go_roundw;exact ⟨k+1,TcC,TcG,kh.o j9.o,Ax.o⟩;simp [intOf];omega
   have fy:=Zbl Tq hB;have HR:Hid (mM g v s=0):=aa (by
    rw [HF.o,bh];intro h;rw [nh] at h;obtain ⟨x,hx,hb⟩:=h;obtain ⟨j,hj⟩:=fc hx;rw [sR.o j x Tdo hj] at hb
    cases hb)
   go_wp2;go_ret;exact ⟨cz HR.o.symm,fy.o⟩
def aA (F9:List ay):List (ay × aB):=F9.flatMap fun v=>v.Gf.map fun s=>(v,s)
def bD (E:List (ay × aB)->ay->aB->Int):List (ay × aB)->List (ay × aB)->ByteArray × Int
 | _,[]=>(⟨#[]⟩,0)
 | pre,(v,s) :: r=>if E pre v s=0 then bD E (pre++[(v,s)]) r else (v.name,E pre v s)
theorem xB (F9:List ay)(k:Nat)(v:ay)(h:F9[k]?=some v):aA (F9.take (k+1))=aA (F9.take k)++v.Gf.map (fun s=>(v,s)):=by
 rw [take_snoc' F9 k v h];simp [aA]
theorem vI (F9:List ay)(k:Nat)(v:ay)(h:F9[k]?=some v)(j:Nat)(s:aB)(hs:v.Gf[j]?=some s) :
  aA F9=(aA (F9.take k)++(v.Gf.take j).map (fun s=>(v,s)))++(v,s) :: ((v.Gf.drop (j+1)).map (fun s=>(v,s))++aA (F9.drop (k+1))):=by
 obtain ⟨hk,hv⟩:=List.getElem?_eq_some_iff.1 h;obtain ⟨hj,hs'⟩:=List.getElem?_eq_some_iff.1 hs;conv=>lhs;rw [<- rk k F9,tB hk,hv]
 have e:v.Gf=v.Gf.take j++s :: v.Gf.drop (j+1):=by
  conv=>lhs;rw [<- rk j v.Gf,tB hj,hs']
 unfold aA;rw [xt,lB];conv=>lhs;rw [e]
 simp
def zY (ok F:Nat->Prop)(Qj:FuncId)(Nd:List Value)(F9:List ay)(E:List (ay × aB)->ay->aB->Int)(I:List (ay × aB)->World->Prop)(w:World):Prop :=
 ∀ (pre:List (ay × aB)) (v:ay) (s:aB) (post:List (ay × aB)),aA F9=pre++(v,s) :: post->∀ (W:World) (u1 u2:List Value),cR F w W->I pre W->aN ok W u1 v->bC ok W u2 s ->
  Calls prog Qj (Value.agg u1.toArray :: Value.agg u2.toArray :: Nd).toArray W fun e W'=>e=.returned (.int .i64 (E pre v s))/\cR F W W'/\(E pre v s=0->I (pre++[(v,s)]) W')
def Aa (F:Nat->Prop)(F9:List ay)(E:List (ay × aB)->ay->aB->Int)(I:List (ay × aB)->World->Prop)(w:World)(e:Ending)(w':World):Prop :=
 e=.returned (.tuple #[.string (bD E [] (aA F9)).1,.int .i64 (bD E [] (aA F9)).2])/\cR F w w'/\((bD E [] (aA F9)).2=0->I (aA F9) w')
theorem Mv.mod (hm:cR F w w')(hF:∀ k,F k->¬ ok k):Mv ok ok w w':=⟨hm.size,fun b hb ho=>⟨ho,hm.block b hb (fun f=>hF b f ho)⟩⟩
def fV (F9:List ay)(k j:Nat)(v:ay):List (ay × aB):=(v.Gf.drop j).map (fun s=>(v,s))++aA (F9.drop (k+1))
def bW (F9:List ay)(k j:Nat)(v:ay):List (ay × aB):=aA (F9.take k)++(v.Gf.take j).map (fun s=>(v,s))
theorem jK (F9:List ay)(k:Nat)(v:ay)(h:F9[k]?=some v):aA (F9.drop k)=fV F9 k 0 v:=by
 obtain ⟨hk,hv⟩:=List.getElem?_eq_some_iff.1 h;unfold fV aA;rw [tB hk,hv,lB,cL]
theorem ku (F9:List ay)(k j:Nat)(v:ay)(s:aB)(hs:v.Gf[j]?=some s):fV F9 k j v=(v,s) :: fV F9 k (j+1) v:=by
 obtain ⟨hj,hs'⟩:=List.getElem?_eq_some_iff.1 hs;unfold fV;rw [tB hj,hs'];rfl
theorem lh (F9:List ay)(k:Nat)(v:ay):fV F9 k v.Gf.length v=aA (F9.drop (k+1)):=by
 unfold fV;rw [rB];rfl
theorem eQ (F9:List ay)(k:Nat)(v:ay):bW F9 k 0 v=aA (F9.take k):=by simp [bW]
theorem fG (F9:List ay)(k j:Nat)(v:ay)(s:aB)(hs:v.Gf[j]?=some s):bW F9 k (j+1) v=bW F9 k j v++[(v,s)]:=by
 unfold bW;rw [take_snoc' v.Gf j s hs];simp
theorem fJ (F9:List ay)(k:Nat)(v:ay)(h:F9[k]?=some v):bW F9 k v.Gf.length v=aA (F9.take (k+1)):=by
 unfold bW;rw [cI,xB F9 k v h]
theorem jB (F9:List ay)(k j:Nat)(v:ay)(s:aB)(h:F9[k]?=some v)(hs:v.Gf[j]?=some s):aA F9=bW F9 k j v++(v,s) :: fV F9 k (j+1) v:=vI F9 k v h j s hs
theorem TdK {p:Prop}(h:p:=by rw [HE.o,rB];rfl):p:=h
theorem wE (Qj:FuncId)(Nd:List Value)(hfn:∀ (l:Array Value) (W:World),Sem.run prog (callFunc Qj l) W=.ok (.enter Qj l) W)(g:af)(a:bN)(bc:Nat)(E:List (ay × aB)->ay->aB->Int)(I:List (ay × aB)->World->Prop)(w:World)(kB:gY w bc g a)(hg:dN ok w g a)(hz:JT g)
  (hF:∀ k,F k->k<w.heap.size/\¬ ok k) (hI:∀ pre W W',I pre W->Below W.heap.size W W'->I pre W') (h0:I [] w) (hC:zY ok F Qj Nd g.F9 E I w) :
  Calls prog 144 #[.pointer (some bc),.func (.func Qj) #[] Nd.toArray] w (Aa F g.F9 E I w):=by
 have jt:=kB.lt;have HFN:=aa hfn;clear hfn;obtain ⟨sm,hblk,_⟩:=kB;have nw:Hid (bX w bc sm g a):=aa hblk;clear hblk;obtain ⟨g0,g1,g2,g3,g4,g5,g6,g7,g8⟩:=bX.cells nw.o;have HG:=aa hg.F9;have HZ:=aa hz;have mb:=hz.vl;obtain ⟨vp,vc,sT,ao8,ap0⟩:=hg.F9.cap;have Ro:=aa hF;clear hF;have Yp:=aa hI;clear hI;have HCC:=aa hC;clear hC;have H0:=aa h0;clear h0 hg hz;injection sT with e1 e2 e3;obtain ⟨ID,gtc,gdp,G3,G4,Ge,Hb,Hc⟩:=a;dsimp only at e1 e2 e3 g0 g1 g2 g3 g4 g5 g6 g7 g8;subst e1;subst e3;clear e2;go_enter func144,ntmps144;go_wp2;clear g0 g1 g2 g3 g4 g5 g6 g7 g8
 go_loopw [17] (fun i wr=>∃ k:Nat,k<=g.F9.length/\i=.int .i64 k/\cR F w wr/\I (aA (g.F9.take k)) wr/\bD E [] (aA g.F9)=bD E (aA (g.F9.take k)) (aA (g.F9.drop k))) (fun i _=>g.F9.length - (intOf i).toNat)
 exact ⟨0,cg _,rfl,cR.refl _ _,H0.o,rfl⟩;clear H0;obtain ⟨k,hk,rfl,hm,hi,he⟩:=hrel;have HM:=aa hm;clear hm;have HI:=aa hi;clear hi;have HE:=aa he;clear he;by_cases hlt:k<g.F9.length
 ·obtain ⟨v,hv⟩:=aj g.F9 k hlt;obtain ⟨b,off,us,rfl,gR,cX,ez,eE,hcv⟩:=HG.o.elem hv;have My:=aa eE;have hvz:=HZ.o.vz v (ct hv);have GF:=hvz.Gf;obtain ⟨tv,sv,rfl,ew,fL⟩:=eE;obtain ⟨tp,tc,rfl,_,_⟩:=ew.cap;obtain ⟨sp,sc,rfl,hsc1,hsc2⟩:=fL.cap;have cT:wr.heap[b]?=w.heap[b]?:=HM.o.block b cX (fun f=>(Ro.o b f).2 gR);obtain ⟨q0,q1,q2,q3,q4,q5⟩:=NG cT hcv;have HV:=aa hv;clear hv;have Zv:=aa fL;clear hcv ez cT ew fL hvz;have zv:=aa (b9 wr (.cells (Taf v tp tc sp sc) 68));have hA:=ae wr (.cells (Taf v tp tc sp sc) 68);have Nf:=aa (HM.o.trans (cR.of_below (F:=fun _=>False) hA) (fun _ f=>f.elim));have Qh:=aa (Yp.o _ _ _ HI.o hA);have mA:=HM.o.size;have VD:=aa (aq zv.o);clear hA;go_wp2;clear q0 q1 q2 q3 q4 q5;generalize hW1:World.alloc wr _=W1 at *;generalize hBv:wr.heap.size=Bv at *;clear hW1 hBv HI HM;go_loopw [24] (fun i wi=>∃ j:Nat,j<=v.Gf.length/\i=.int .i64 j/\cR F w wi/\I (bW g.F9 k j v) wi/\bD E [] (aA g.F9)=bD E (bW g.F9 k j v) (fV g.F9 k j v)/\wi.heap[Bv]?=some (.cells (Taf v tp tc sp sc) 68 (0,0))) (fun i _=>v.Gf.length - (intOf i).toNat)
  exact ⟨0,cg _,rfl,Nf.o,by rw [eQ];exact Qh.o,by rw [HE.o,jK g.F9 k v HV.o,eQ],zv.o⟩;clear Nf Qh HE zv VD;obtain ⟨j,hj,rfl,hm,hi,he,vA⟩:=hrel;have HM:=aa hm;clear hm;have HI:=aa hi;clear hi;have HE:=aa he;clear he;have zv:=aa vA;clear vA;by_cases hlt2:j<v.Gf.length
  ·obtain ⟨s,hs⟩:=aj v.Gf j hlt2;obtain ⟨b2,off2,us2,hsp,I0,C2,B5,C3,hcv2⟩:=Zv.o.elem hs;subst hsp;have HSV:=aa C3;obtain ⟨av,Oz,rfl,py,hst⟩:=C3;obtain ⟨ap,ac,rfl,_,_⟩:=py.cap;obtain ⟨eN,eR,rfl,_,_⟩:=hst.cap;have AD:wr.heap[b2]?=w.heap[b2]?:=HM.o.block b2 C2 (fun f=>(Ro.o b2 f).2 I0);obtain ⟨q0,q1,q2,q3,q4,q5,q6,q7,q8,q9,q10⟩:=ak5 AD hcv2;have HS:=aa hs;clear hs;have vL:=cr zv.o;obtain ⟨v0,v1,v2,v3,v4,v5⟩:=sv6 vL;have hA:=ae wr (.cells (Tae s ap ac eN eR) 114);have HM2:=aa (HM.o.trans (cR.of_below (F:=fun _=>False) hA) (fun _ f=>f.elim));have Qi:=aa (Yp.o _ _ _ HI.o hA);have hBz:=aq zv.o;have cm:=aa ((hA.block _ hBz).trans zv.o);clear hcv2 B5 AD py hst vL hA;go_wp2_with fail;clear q0 q1 q2 q3 q4 q5 q6 q7 q8 q9 q10 v0 v1 v2 v3 v4 v5;generalize hW2:World.alloc wr _=W2 at *;clear hW2;have N5:=HCC.o (bW g.F9 k j v) v s (fV g.F9 k (j+1) v) (jB g.F9 k j v s HV.o HS.o) W2 _ _ HM2.o Qi.o (aN.moves.mv (Mv.mod HM2.o (fun b f=>(Ro.o b f).2)) My.o) (bC.moves.mv (Mv.mod HM2.o (fun b f=>(Ro.o b f).2)) HSV.o);rw [HFN.o];refine N5.mono ?_;clear N5;rintro e w3 ⟨rfl,hm3,hi3⟩;have N2:=aa hi3;clear hi3;have Rp:=aa (HM2.o.trans hm3 (fun k f=>.inl f));have cJ:Hid (w3.heap[Bv]?=_):=aa ((hm3.block _ (aq cm.o) (fun f=>by have:=(Ro.o Bv f).1;omega)).trans cm.o);have Ng:Hid (bD E [] (aA g.F9)=if E (bW g.F9 k j v) v s=0 then bD E (bW g.F9 k (j+1) v) (fV g.F9 k (j+1) v) else (v.name,E (bW g.F9 k j v) v s)):=aa (by
    rw [HE.o,ku g.F9 k j v s HS.o,fG g.F9 k j v s HS.o];rfl)
   have VE:Hid (E (bW g.F9 k j v) v s=0->I (bW g.F9 k (j+1) v) w3):=aa (fun h=>by rw [fG g.F9 k j v s HS.o];exact N2.o h);have n0:=cr cJ.o 0 _ rfl;clear hm3 N2 HM2 Qi cm HI HE;generalize E (bW g.F9 k j v) v s=x at *;by_cases hx:x=0
   ·have qu:(x != 0)=false:=by simpa using hx
    have HX:=aa hx;clear hx;go_wp2;go_roundw;exact ⟨j+1,TcC,TcG,Rp.o,VE.o HX.o,by rw [Ng.o,aw HX.o],cJ.o⟩;simp [intOf];omega
   have qu:(x != 0)=true:=by simpa using hx
   have HX:=aa hx;clear hx;go_wp2;go_ret2;exact ⟨by rw [Ng.o,bh HX.o];rfl,Rp.o,fun h=>absurd (by rw [Ng.o,bh HX.o] at h;exact h) HX.o⟩
  obtain rfl:j=v.Gf.length:=by omega
  have Ng:Hid (bD E [] (aA g.F9)=bD E (aA (g.F9.take (k+1))) (aA (g.F9.drop (k+1)))):=aa (by rw [HE.o,fJ g.F9 k v HV.o,lh]);have N2:Hid (I (aA (g.F9.take (k+1))) wr):=aa (by rw [<- fJ g.F9 k v HV.o];exact HI.o);clear HI HE;go_wp2;go_roundw;exact ⟨k+1,TcC,TcG,HM.o,N2.o,Ng.o⟩;simp [intOf];omega
 obtain rfl:k=g.F9.length:=by omega
 have HR:Hid (bD E [] (aA g.F9)=(⟨#[]⟩,0)):=aa TdK;have HIF:Hid (I (aA g.F9) wr):=aa (by have:=HI.o;rwa [cI] at this);go_wp2;go_ret2;exact ⟨TcK,HM.o,fun _=>HIF.o⟩
theorem jZ {F9:List ay}{pre post:List (ay × aB)}{v:ay}{s:aB}(h:aA F9=pre++(v,s) :: post):v∈F9/\s∈v.Gf:=by
 have:(v,s)∈aA F9:=by rw [h];simp
 obtain ⟨v',hv,hs⟩:=List.mem_flatMap.1 this;obtain ⟨s',hs',e⟩:=List.mem_map.1 hs;injection e with e1 e2;subst e1;subst e2;exact ⟨hv,hs'⟩
theorem cR.none (h:cR (fun _=>False) w w'):Below w.heap.size w w':=h.below (bk _) (fun _ f=>f.elim)
structure UQ (g:af):Prop where
 sz:JT g
 de:∀ d∈g.Gb,0<=d.Gc/\d.Gc<=1000000
 ext:1<=g.Gd/\g.Gd<=1024
 vn:∀ v∈g.F9,v.name.size<=1000000000
 sf:∀ v∈g.F9,∀ s∈v.Gf,wM s
def mY (g:af):ByteArray × Int:=bD (fun _ v s=>mM g v s) [] (aA g.F9)
def Aw (r:ByteArray × Int)(w:World)(e:Ending)(w':World):Prop:=e=.returned (.tuple #[.string r.1,.int .i64 r.2])/\Below w.heap.size w w'
theorem Tb9 {p:Prop}(h:p:=by
 go_wp2;go_ret2;subst Uc;exact ⟨TcK,HA.o.trans (HM.o.none.mono HA.o.size)⟩):p:=h
theorem rM (g:af)(a:bN)(bc:Nat)(w:World)(kB:gY w bc g a)(hg:dN ok w g a)(hf:UQ g)(hS:AW w) :
  Calls prog 105 #[.pointer (some bc)] w (Aw (mY g) w):=by
 have hA:=ae w (.cells #[.pointer (some bc)] 152);have HB:=aa (b9 w (.cells #[.pointer (some bc)] 152));have HA:=aa hA;clear hA;have I3:=aa (kB.below HA.o);have HG:=aa (hg.mv (Mv.of HA.o));have HS:=aa (hS.below HA.o);have HF:=aa hf;clear kB hg hS hf;go_enter func105,ntmps105
 go_wp2_with fail;generalize hW1:World.alloc w _=W1 at *;generalize Uc:w.heap.size=Bc at *;clear hW1;refine (wE (ok:=ok) (F:=fun _=>False) 145 [.pointer (some Bc)] (fun l W=>by go_simp) g a bc (fun _ v s=>mM g v s) (fun _ _=>True) W1 I3.o HG.o HF.o.sz (fun _ f=>f.elim) (fun _ _ _ _ _=>trivial) trivial ?_).mono ?_
 ·intro pre v s post hp W u1 u2 hm _ hv hs;obtain ⟨m1,m2⟩:=jZ hp;have hb:=hm.none;refine (pK (ok:=ok) g a bc Bc v s u1 u2 W (I3.o.below hb) ((hb.cell (p:=Bc) (aq HB.o)).trans (by simp [World.cell?,HB.o])) (cC (aq HB.o) hb.size) (HG.o.mv (Mv.of hb)) HF.o.sz HF.o.de hv hs (HF.o.sf v m1 s m2) (HF.o.sz.vz v m1) (HS.o.below hb) (HF.o.vn v m1)).mono ?_;rintro e W' ⟨rfl,hb'⟩;exact ⟨rfl,cR.of_below hb',fun _=>trivial⟩
 rintro e w2 ⟨rfl,hm,_⟩;have HM:=aa hm;clear hm;have HR:Hid (mY g=_):=aa (mY.eq_1 g);exact Tb9
end Go.Proofs.YtaagglbgohjldaaGreatDoor
