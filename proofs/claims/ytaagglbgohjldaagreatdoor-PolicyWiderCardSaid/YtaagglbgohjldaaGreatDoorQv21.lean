/- Lemmas: ModY, ModZd. -/
import Derived.Test.YtaagglbgohjldaaGreatDoorQv20
set_option maxRecDepth 100000
set_option maxHeartbeats 32000000
set_option linter.all false
namespace Go.Proofs.YtaagglbgohjldaaGreatDoor
open Go.Proofs.Tryz
open Go.RowKit Go.Maps Go.Shelf
variable {w:World}{b:Nat}{l:List ByteArray}
theorem gm.nil (h:bi prog 9 w b 0 (fun _=>none)):gm w b []:=h.congr fun key _ _=>by
 unfold cntF;split
 ·simp [iJ]
 rfl
theorem gm.block {w':World}(h:gm w b l)(hb:w'.heap[b]?=w.heap[b]?):gm w' b l:=bi.block h hb
theorem gm.lt (h:gm w b l):b<w.heap.size:=bi.lt h
theorem Ag (l:List ByteArray)(s:ByteArray):iJ l s<=l.length:=List.countP_le_length
theorem wu {F9:List ay}{pre post:List (ay × aB)}{v:ay}{s:aB}(h:aA F9=pre++(v,s) :: post)(pool:Bool):(dA pre pool).length+(dD s pool).length<=(dA (aA F9) pool).length:=by
 rw [h];simp [dA]
attribute [local go_sem] run_makeMap_plain
theorem Ta3 {p:Prop}(h:p:=by
 have hlk:=gm.look Hj.o x hxs;obtain ⟨w',hst,hc',hg',hz'⟩:=gm.store Hj.o hll x hxs;have HC':=aa hc';clear hc';have HX:=aa (take_snoc' L m x hx);have Pg:=aa (xd.o.trans (cR.grown hg') (fun i e=>.inl e));clear Ry Pf hx hg' hz';generalize iJ _ x=c at *;go_wp2;go_roundw;exact ⟨m+1,TcC,TcG,Pg.o,by rw [HX.o,<- cV];exact HC'.o⟩;simp [intOf];omega):p:=h
theorem DC {ok:Nat->Prop}(g:af)(a:bN)(bc:Nat)(w:World)(kB:gY w bc g a)(hg:dN ok w g a)(hz:JT g)(hU:∀ pool,(dA (aA g.F9) pool).length<=1000000)
  (hN:∀ v∈g.F9,∀ s∈v.Gf,∀ pool,∀ x∈dD s pool,x.size<=maxLen) (hV:∀ v∈g.F9,v.name.size<=maxLen) :
  Calls prog 108 #[.pointer (some bc)] w (Aw (rY g) w):=by
 have jt:=kB.lt;obtain ⟨sm,hblk,_⟩:=kB;have nw:Hid (bX w bc sm g a):=aa hblk;clear hblk;have HG:=aa hg.F9;have HZ:=aa hz;have HU:=aa hU;clear hU;have HN:=aa hN;clear hN;have VX:=aa hV;clear hV;have mb:=hz.vl;obtain ⟨vp,vc,sT,ao8,ap0⟩:=hg.F9.cap;clear hg hz;injection sT with e1 e2 e3;obtain ⟨ID,gtc,gdp,G3,G4,Ge,Hb,Hc⟩:=a;dsimp only at e1 e2 e3;subst e1;subst e3;clear e2;have hA1:=ae w (.map #[] 0);have hA2:=ae (w.alloc (.map #[] 0)) (.map #[] 0);have hm1:=bi.made prog 9 w;have hm2:=bi.made prog 9 (w.alloc (.map #[] 0));rw [cW] at hm2;have HP:=aa (gm.nil (hm1.block (hA2.block _ hm1.lt)));have HA:=aa (gm.nil hm2);have HB:=aa (hA1.trans (hA2.mono hA1.size));clear hA1 hA2 hm1 hm2;obtain ⟨-,-,-,-,-,-,-,g7,-⟩:=bX.cells (sm:=sm) ((HB.o.block bc jt).trans nw.o);go_enter func108,ntmps108
 go_upto_region 3 with (fail);generalize hW1:World.alloc (World.alloc w _) _=W1 at *;clear hW1 g7;go_loopw [24] (fun i wr=>∃ k:Nat,k<=g.F9.length/\i=.int .i64 k/\Below w.heap.size w wr/\gm wr w.heap.size (dA (aA (g.F9.take k)) false)/\gm wr (w.heap.size+1) (dA (aA (g.F9.take k)) true)) (fun i _=>g.F9.length - (intOf i).toNat)
 exact ⟨0,cg _,rfl,HB.o,HP.o,HA.o⟩;clear HB HP HA;obtain ⟨k,hk,rfl,hB,hp,ha⟩:=hrel;have HP:=aa hp;clear hp;have HA:=aa ha;clear ha;by_cases hlt:k<g.F9.length
 ·obtain ⟨v,hv⟩:=aj g.F9 k hlt;obtain ⟨b,off,us,rfl,gR,cX,ez,eE,hcv⟩:=HG.o.elem hv;have Zr:=ct hv;have hvz:=HZ.o.vz v Zr;have GF:=hvz.Gf;have Zu:=aa hvz.seg;have HNV:=aa (HN.o v Zr);obtain ⟨tv,sv,rfl,ew,fL⟩:=eE;obtain ⟨tp,tc,rfl,_,_⟩:=ew.cap;obtain ⟨sp,sc,rfl,hsc1,hsc2⟩:=fL.cap;have cT:wr.heap[b]?=w.heap[b]?:=hB.block b cX;obtain ⟨q0,q1,q2,q3,q4,q5⟩:=NG cT hcv;have HV:=aa hv;clear hv;have Zv:=aa fL;clear hcv ez cT ew fL hvz Zr;have hA:=ae wr (.cells (Taf v tp tc sp sc) 68);have cU:=aa (hB.trans (hA.mono hB.size));have NY:=aa (HP.o.block (hA.block _ HP.o.lt));have Ub:=aa (HA.o.block (hA.block _ HA.o.lt));clear hA;go_upto_region 6 with (fail);clear q0 q1 q2 q3 q4 q5;generalize hW1:World.alloc wr _=W1 at *;generalize hBv:wr.heap.size=Bv at *;clear hW1 hBv hB HP HA;go_loopw [31] (fun i wi=>∃ j:Nat,j<=v.Gf.length/\i=.int .i64 j/\Below w.heap.size w wi/\gm wi w.heap.size (dA (bW g.F9 k j v) false)/\gm wi (w.heap.size+1) (dA (bW g.F9 k j v) true)) (fun i _=>v.Gf.length - (intOf i).toNat)
  exact ⟨0,cg _,rfl,cU.o,by rw [eQ];exact NY.o,by rw [eQ];exact Ub.o⟩;clear cU NY Ub;obtain ⟨j,hj,rfl,hB,hp,ha⟩:=hrel;have HP:=aa hp;clear hp;have HA:=aa ha;clear ha;by_cases hlt2:j<v.Gf.length
  ·obtain ⟨s,hs⟩:=aj v.Gf j hlt2;obtain ⟨b2,off2,us2,hsp,I0,C2,B5,C3,hcv2⟩:=Zv.o.elem hs;subst hsp;have HSV:=aa C3;have hsm:=ct hs;have hsz1:=(Zu.o s hsm).1;have Yy:=aa (HNV.o s hsm);have Ug:=aa (jB g.F9 k j v s HV.o hs);have sY:=aa (fG g.F9 k j v s hs);obtain ⟨av,Oz,rfl,py,hst⟩:=C3;obtain ⟨ap,ac,rfl,_,_⟩:=py.cap;obtain ⟨eN,eR,rfl,_,_⟩:=hst.cap;have AD:wr.heap[b2]?=w.heap[b2]?:=hB.block b2 C2;obtain ⟨q0,q1,q2,q3,q4,q5,q6,q7,q8,q9,q10⟩:=ak5 AD hcv2;clear hs hsm hcv2 B5 AD py hst;have lj:=aa (b9 wr (.cells (Tae s ap ac eN eR) 114));have hA:=ae wr (.cells (Tae s ap ac eN eR) 114);have cm:=aa (hB.trans (hA.mono hB.size));have Pe:=HP.o.lt;have hAl:=HA.o.lt;have MU:=aa (HP.o.block (hA.block _ Pe));have HA2:=aa (HA.o.block (hA.block _ hAl));clear hA;go_wp2_with fail;clear q0 q1 q2 q3 q4 q5 q6 q7 q8 q9 q10;generalize hW2:World.alloc wr _=W2 at *;generalize hBs:wr.heap.size=Bs at *;clear hW2 hBs hB HP HA;refine (kN (ok:=ok) s false _ W2 (bC.moves.mv (Mv.of cm.o) HSV.o) hsz1).mono ?_;rintro e w3 ⟨uv,rfl,how,hb3⟩;have VY:Bs<W2.heap.size:=aq lj.o;have kf:=how.rd (ok:=fun q=>W2.heap.size<=q) (fun q e=>(fh how q e).1);obtain ⟨up,uc,rfl,O3,O4⟩:=kf.cap;have B2:=aa kf;clear kf how;have cJ:=Zbl cm hb3;have Uh:=aa (MU.o.block (hb3.block _ MU.o.lt));have OT:=aa (HA2.o.block (hb3.block _ HA2.o.lt));have nB:=aa ((hb3.block _ VY).trans lj.o);clear hb3 cm MU HA2 lj;have HLN:=aa (Yy.o false);have hle:=wu Ug.o false;have hle1:=HU.o false;generalize hL:dD s false=L at *;go_wp2_with fail;go_loopw [38] (fun i wi=>∃ m:Nat,m<=L.length/\i=.int .i64 m/\cR (fun q=>q=w.heap.size) w3 wi/\gm wi (w.heap.size) (dA (bW g.F9 k j v) false++L.take m)) (fun i _=>L.length - (intOf i).toNat)
   exact ⟨0,cg _,rfl,cR.refl _ _,by rw [iv,eM];exact Uh.o⟩;obtain ⟨m,hm,rfl,oY,LM⟩:=hrel;have xd:=aa oY;clear oY;have Hj:=aa LM;clear LM;by_cases hlt3:m<L.length
   ·obtain ⟨x,hx⟩:=aj L m hlt3;obtain ⟨bu,ou,uu,rfl,hou,VZ,Pf,V0,Ry⟩:=B2.o.elem hx;obtain rfl:uu=_:=V0;have q0:=(xd.o.cell (p:=⟨bu,ou+m*1+0,none⟩) VZ (by show ¬ bu=_;omega)).trans (Ry 0 _ rfl);rw [fp,fg] at q0;have hxs:=HLN.o x (ct hx);have hll:(dA (bW g.F9 k j v) false++L.take m).length<=1000000:=by rw [cD,ey];omega
    have hcl:=Ag (dA (bW g.F9 k j v) false++L.take m) x;exact Ta3
   obtain rfl:m=L.length:=by omega
   rw [cI] at Hj;have HW:=aa (cJ.o.trans ((xd.o.below (B:=w.heap.size) (by have:=cJ.o.size;omega) (fun q e=>by omega))));have HA4:=aa (OT.o.block (xd.o.block _ OT.o.lt TcC));have V1:=aq nB.o;have Tx:=aa ((xd.o.block _ V1 TcC).trans nB.o);have V2:Hid (dA (bW g.F9 k (j+1) v) false=dA (bW g.F9 k j v) false++L):=aa (by rw [sY.o,qW,hL]);have V3:=aa Hj.o;clear xd Hj B2 HLN hle hle1 cJ Uh OT nB hlt3 hm hL;generalize dA (bW g.F9 k j v) false++L=LF at *;have sL:=cr Tx.o;obtain ⟨s0,s1,s2,s3,s4,s5,s6,s7,s8,s9,s10⟩:=IC sL;clear sL;go_wp2_with fail;clear s0 s1 s2 s3 s4 s5 s6 s7 s8 s9 s10;refine (kN (ok:=ok) s true _ wr (bC.moves.mv (Mv.of HW.o) HSV.o) hsz1).mono ?_;rintro e w5 ⟨uv,rfl,how,hb5⟩;have Ph:=HW.o.size;have kf:=how.rd (ok:=fun q=>wr.heap.size<=q) (fun q e=>(fh how q e).1);obtain ⟨up',uc',rfl,Yz,YA⟩:=kf.cap;have B2:=aa kf;clear kf how;have aa8:=HA4.o.lt;have eK:=Zbl HW hb5;have YB:=aa (V3.o.block (hb5.block _ V3.o.lt));have HA5:=aa (HA4.o.block (hb5.block _ HA4.o.lt));clear hb5 HW V3 HA4 Tx;have HLN:=aa (Yy.o true);have hle:=wu Ug.o true;have hle1:=HU.o true;generalize hL:dD s true=L at *;go_wp2_with fail;go_loopw [50] (fun i wi=>∃ m:Nat,m<=L.length/\i=.int .i64 m/\cR (fun q=>q=w.heap.size+1) w5 wi/\gm wi (w.heap.size+1) (dA (bW g.F9 k j v) true++L.take m)) (fun i _=>L.length - (intOf i).toNat)
   exact ⟨0,cg _,rfl,cR.refl _ _,by rw [iv,eM];exact HA5.o⟩;obtain ⟨m,hm,rfl,oY,LM⟩:=hrel;have xd:=aa oY;clear oY;have Hj:=aa LM;clear LM;by_cases hlt3:m<L.length
   ·obtain ⟨x,hx⟩:=aj L m hlt3;obtain ⟨bu,ou,uu,rfl,hou,VZ,Pf,V0,Ry⟩:=B2.o.elem hx;obtain rfl:uu=_:=V0;have q0:=(xd.o.cell (p:=⟨bu,ou+m*1+0,none⟩) VZ (by show ¬ bu=_;omega)).trans (Ry 0 _ rfl);rw [fp,fg] at q0;have hxs:=HLN.o x (ct hx);have hll:(dA (bW g.F9 k j v) true++L.take m).length<=1000000:=by rw [cD,ey];omega
    have hcl:=Ag (dA (bW g.F9 k j v) true++L.take m) x;exact Ta3
   obtain rfl:m=L.length:=by omega
   rw [cI] at Hj;have Tq:=aa (eK.o.trans ((xd.o.below (B:=w.heap.size) (by have:=eK.o.size;omega) (fun q e=>by omega))));have V4:=aa (YB.o.block (xd.o.block _ YB.o.lt TcC));have V5:Hid (dA (bW g.F9 k (j+1) v) true=dA (bW g.F9 k j v) true++L):=aa (by rw [sY.o,qW,hL]);have HA6:=aa Hj.o;go_wp2;go_roundw;exact ⟨j+1,TcC,TcG,Tq.o,by rw [V2.o];exact V4.o,by rw [V5.o];exact HA6.o⟩;simp [intOf];omega
  obtain rfl:j=v.Gf.length:=by omega
  have Uh:Hid (gm wr w.heap.size (dA (aA (g.F9.take (k+1))) false)):=aa (by rw [<- fJ g.F9 k v HV.o];exact HP.o);have OT:Hid (gm wr (w.heap.size+1) (dA (aA (g.F9.take (k+1))) true)):=aa (by rw [<- fJ g.F9 k v HV.o];exact HA.o);have cJ:=aa hB;clear HP HA hB;go_wp2;go_roundw;exact ⟨k+1,TcC,TcG,cJ.o,Uh.o,OT.o⟩;simp [intOf];omega
 obtain rfl:k=g.F9.length:=by omega
 rw [cI] at HP HA;have Pj:=aa hB;clear hB;obtain ⟨-,-,-,-,-,-,-,g7,-⟩:=bX.cells (sm:=sm) ((Pj.o.block bc jt).trans nw.o);have V6:Hid (rY g=iM (yt g) g.F9):=aa rfl;go_wp2;clear g7;go_loopw [67] (fun i wi=>∃ m:Nat,m<=g.F9.length/\i=.int .i64 m/\Below wr.heap.size wr wi/\rY g=iM (yt g) (g.F9.drop m)) (fun i _=>g.F9.length - (intOf i).toNat)
 exact ⟨0,cg _,rfl,bj _ _,V6.o⟩;obtain ⟨m,hm,rfl,hb,hr⟩:=hrel;have Fc:=aa hb;clear hb;have V7:=aa hr;clear hr;by_cases hlt4:m<g.F9.length
 ·obtain ⟨v,hv⟩:=aj g.F9 m hlt4;obtain ⟨b,off,us,rfl,gR,cX,ez,eE,hcv⟩:=HG.o.elem hv;have Mr:=aa (VX.o v (ct hv));obtain ⟨tv,sv,rfl,ew,fL⟩:=eE;obtain ⟨tp,tc,rfl,_,_⟩:=ew.cap;obtain ⟨sp,sc,rfl,hsc1,hsc2⟩:=fL.cap;have cT:wr.heap[b]?=w.heap[b]?:=(Fc.o.block b (cC cX Pj.o.size)).trans (Pj.o.block b cX);obtain ⟨q0,q1,q2,q3,q4,q5⟩:=NG cT hcv;have HF:=aa (V7.o.trans (tC hv));clear hv hcv ez cT ew fL V7;have hA:=ae wr (.cells (Taf v tp tc sp sc) 68);have zv:=aa (b9 wr (.cells (Taf v tp tc sp sc) 68));have eI:=Zbl Fc hA;clear hA;go_upto_region 23 with (fail);clear q0 q1 q2 q3 q4 q5;generalize hW1:World.alloc wr _=W1 at *;generalize hBv:wr.heap.size=Bv at *;clear hW1 hBv Fc;have V8:=gm.look (HA.o.block (eI.o.block _ HA.o.lt)) v.name Mr.o;have Ui:=gm.look (HP.o.block (eI.o.block _ HP.o.lt)) v.name Mr.o;have HUE:Hid (yt g v=if v.hidden then (if iJ (dA (aA g.F9) true) v.name=1 then 0 else 16) else (if iJ (dA (aA g.F9) false) v.name=0 then 0 else 16)):=aa rfl;have n0:=cr zv.o 0 _ rfl;have n2:=cr zv.o 2 _ rfl;generalize iJ (dA (aA g.F9) true) v.name=c1 at *;generalize iJ (dA (aA g.F9) false) v.name=c2 at *;have Uj:=Zbl Pj eI.o;by_cases Nl:yt g v=0
  ·have HX:=aa Nl;clear Nl;rw [aw HX.o] at HF;cases hh:v.hidden with
   | true =>
    rw [hh] at n2 HUE;have h1:c1=1:=by
     have:=HUE.o.symm.trans HX.o;simp only [ej] at this;split at this
     ·assumption
     cases this
    have hx1:((c1:Int) != 1)=false:=by rw [h1];rfl
    have H1:=aa h1;clear h1;have HH:=aa hh;clear hh;clear HUE Ui;go_wp2;go_roundw;exact ⟨m+1,TcC,TcG,eI.o,HF.o⟩;simp [intOf];omega
   | false =>
    rw [hh] at n2 HUE;have h1:c2=0:=by
     have:=HUE.o.symm.trans HX.o;simp only [pj,fY] at this;split at this
     ·assumption
     cases this
    have hx1:decide (0<c2)=false:=by rw [h1];rfl
    have H1:=aa h1;clear h1;have HH:=aa hh;clear hh;clear HUE V8;go_wp2;go_roundw;exact ⟨m+1,TcC,TcG,eI.o,HF.o⟩;simp [intOf];omega
  have HX:=aa Nl;clear Nl;rw [bh HX.o] at HF;cases hh:v.hidden with
  | true =>
   rw [hh] at n2 HUE;have h1:¬ c1=1:=fun e=>HX.o (by rw [HUE.o,aw rfl,aw e]);have hx1:((c1:Int) != 1)=true:=by simp;omega
   have h16:yt g v=16:=by rw [HUE.o,aw rfl,bh h1]
   rw [h16] at HF;have H1:=aa h1;clear h1;have H16:=aa h16;clear h16;have HH:=aa hh;clear hh;clear HUE Ui;go_wp2;go_ret2;exact ⟨TdQ,Uj.o⟩
  | false =>
   rw [hh] at n2 HUE;have h1:¬ c2=0:=fun e=>HX.o (by rw [HUE.o,bh TcD,aw e]);have hx1:decide (0<c2)=true:=by simp;omega
   have h16:yt g v=16:=by rw [HUE.o,bh TcD,bh h1]
   rw [h16] at HF;have H1:=aa h1;clear h1;have H16:=aa h16;clear h16;have HH:=aa hh;clear hh;clear HUE V8;go_wp2;go_ret2;exact ⟨TdQ,Uj.o⟩
 obtain rfl:m=g.F9.length:=by omega
 have HF:Hid (rY g=(⟨#[]⟩,0)):=aa (by rw [V7.o,rB];rfl);have Uj:=Zbl Pj Fc.o;go_wp2;go_ret2;exact ⟨TdQ,Uj.o⟩
end Go.Proofs.YtaagglbgohjldaaGreatDoor
namespace Go.Proofs.YtaagglbgohjldaaGreatDoor
open Go.Proofs.Tryz
open Go.RowKit Go.Maps Go.Shelf
theorem sS {f:ay->Int}:∀ {l:List ay},(iM f l).2=0->∀ v∈l,f v=0
 | [],_,v,hv=>by cases hv
 | x :: l,h,v,hv=>by
  unfold iM at h;split at h
  ·rename_i hx;rcases List.mem_cons.1 hv with rfl | hv
   ·exact hx
   exact sS h v hv
  rename_i hx;exact absurd h hx
theorem ll {α:Type}{nm:α->ByteArray}{f:Nat->α->Int}:∀ {l:List α} {i:Nat},(gZ nm f i l).2=0->∀ (j:Nat) (x:α),l[j]?=some x->f (i+j) x=0
 | [],_,_,j,x,hx=>by cases hx
 | y :: l,i,h,j,x,hx=>by
  unfold gZ at h;split at h
  ·rename_i hy
   match j,hx with
   | 0,hx =>
    obtain rfl:y=x:=by simpa using hx
    exact hy
   | j+1,hx =>
    have:=ll h j x TdL;rwa [show i+1+j=i+(j+1) by omega] at this
  rename_i hy;exact absurd h hy
theorem Hd {E:List (ay × aB)->ay->aB->Int}:∀ {l pre:List (ay × aB)},(bD E pre l).2=0->∀ (a b:List (ay × aB)) (v:ay) (s:aB),l=a++(v,s) :: b->E (pre++a) v s=0
 | [],_,_,a,b,v,s,e=>by simp at e
 | (v0,s0) :: l,pre,h,a,b,v,s,e=>by
  unfold bD at h;split at h
  ·rename_i h0
   match a,e with
   | [],e =>
    simp only [List.nil_append,rp,Prod.mk.injEq] at e;obtain ⟨⟨rfl,rfl⟩,_⟩:=e;rw [eM];exact h0
   | x :: a,e =>
    simp only [List.cons_append,rp] at e;obtain ⟨rfl,e⟩:=e;have:=Hd h a b v s e;rwa [cV] at this
  rename_i h0;exact absurd h h0
structure NL (g:af):Prop where
 tx:UT g
 sz:JT g
 kw:Ct g
 st:∀ v∈g.F9,∀ s∈v.Gf,s.log.size<=9223372036854775807/\s.pool.size<=9223372036854775807/\(∀ a∈s.Ga,a.on.size<=9223372036854775807)/\(Lit.int .i64 s.device).wf=true
variable {g:af}
variable {s:aB}{v:ay}{ext:Int}
theorem iT (h:(dZ g).2=0):lm g/\iR g:=by
 have h':qX g=0:=h;unfold qX at h';split at h'
 ·cases h'
 split at h'
 ·cases h'
 rename_i h1;split at h'
 ·cases h'
 rename_i h2;exact ⟨Decidable.not_not.1 h1,Decidable.not_not.1 h2⟩
theorem nG (h:(dw g).2=0):(g.Gb.map (·.name)).Nodup/\∀ d∈g.Gb,jQ g d/\jo d.name=true:=by
 have hE:∀ (j:Nat) (d:az),g.Gb[j]?=some d->pg g j d=0:=fun j d hd=>by
  have:=ll (i:=0) h j d hd;rwa [eJ] at this
 have hS:∀ (j:Nat) (d:az),g.Gb[j]?=some d->(g.Gb.take j).any (dG d)=false/\jQ g d/\jo d.name=true:=fun j d hd=>by
  have:=hE j d hd;unfold pg at this;split at this
  ·cases this
  rename_i h0;split at this
  ·cases this
  rename_i h1;split at this
  ·cases this
  rename_i h2;exact ⟨Bool.eq_false_iff.2 h1,Decidable.not_not.1 h2,Tdy⟩
 constructor
 ·rw [List.nodup_iff_pairwise_ne,List.pairwise_iff_getElem];intro i j hi hj OG e;rw [fW] at hi hj;rw [List.getElem_map,List.getElem_map] at e;have h1:=(hS j g.Gb[j] (lO hj)).1;rw [List.any_eq_false] at h1;refine h1 g.Gb[i] (List.mem_iff_getElem.2 ⟨i,by rw [ey];omega,by rw [List.getElem_take]⟩) ?_;simp [dG,e]
 intro d hd;obtain ⟨j,hj⟩:=fc hd;exact (hS j d hj).2
theorem oo {s:ByteArray}(h:jo s=true):s.size<=24:=by
 unfold jo at h;simp only [eh,fk] at h;exact h.1.2
theorem za (h:nE v=true):v.name.size<=40:=by
 unfold nE at h;split at h
 ·unfold zH at h;simp only [eh,fk] at h;exact h.1.2
 have:=oo h;omega
theorem nH (h:(dJ g).2=0):∀ v∈g.F9,nE v=true/\v.name.size<=40/\1<=v.Gf.length/\v.Gf.length<=64:=fun v hv=>by
 obtain ⟨j,hj⟩:=fc hv;have:=ll (i:=0) h j v hj;rw [eJ] at this;unfold yH at this;split at this
 ·cases this
 rename_i h0;split at this
 ·cases this
 split at this
 ·cases this
 rename_i h2;have h0':nE v=true:=by simpa using h0
 exact ⟨h0',za h0',Decidable.not_not.1 h2⟩
theorem xz {n:Nat}:∀ {l:List aB} {st:Int},qV ext n l st=0->∀ s∈l,∃ st',bJ ext s st'=true
 | [],_,_,s,hs=>by cases hs
 | x :: l,st,h,s,hs=>by
  unfold qV at h;split at h
  ·cases h
  rename_i h0;split at h
  ·cases h
  rcases List.mem_cons.1 hs with rfl | hs
  ·exact ⟨st,Tdy⟩
  exact xz h s hs
theorem qP (h:(iP g).2=0):∀ v∈g.F9,∀ s∈v.Gf,∃ st,bJ g.Gd s st=true:=fun v hv s hs=>xz (sS h v hv) s hs
theorem CK {k:Int}{x:eX}(h:shapeOf k=some x):0<=x.least/\x.greatest<=6/\(k=2->x.least=2)/\(k=3->x.chunk=1024)/\(k=4->x.least=3)/\(k=5->x.least=2)/\(k=7->x.least=3):=by
 have hk:k=1\/k=2\/k=3\/k=4\/k=5\/k=6\/k=7\/k=8\/k=9\/k=10:=by
  refine Decidable.byContradiction fun q=>?_;simp only [not_or] at q;obtain ⟨q1,q2,q3,q4,q5,q6,q7,q8,q9,q10⟩:=q;unfold shapeOf at h;rw [bh q1,bh q2,bh q3,bh q4,bh q5,bh q6,bh q7,bh q8,bh q9,bh q10] at h;cases h
 rcases hk with rfl | rfl | rfl | rfl | rfl | rfl | rfl | rfl | rfl | rfl <;> cases h <;> decide
theorem vT {st:Int}(h:bJ ext s st=true):Ah s/\1<=aX s/\(s.kind=2->2<=s.Ga.length):=by
 cases hs:shapeOf s.kind with
 | none=>rw [jT hs] at h;cases h
 | some x =>
  have hx:=CK hs;rw [jP hs] at h;simp only [eh,fk] at h;obtain ⟨⟨⟨⟨⟨⟨⟨⟨⟨⟨⟨⟨⟨⟨-,h1⟩,h2⟩,h3⟩,h4⟩,-⟩,h6⟩,-⟩,-⟩,-⟩,-⟩,-⟩,-⟩,h13⟩,-⟩:=h;obtain ⟨x1,x2,x3,x4,x5,x6,x7⟩:=hx;have hk2:s.kind=2->2<=s.Ga.length:=fun e=>by have:=x3 e;omega
  refine ⟨⟨⟨h1,h2,TcC,fun e=>by have:=x6 e;omega,fun e=>by have:=x7 e;omega⟩,fun e=>?_,fun e=>by have:=x5 e;omega⟩,?_,hk2⟩
  ·have hc:=x4 e;unfold fq at h6;rw [hc] at h6;simpa using h6
  unfold aX iB;split
  ·rename_i he;have h13':s.length % (s.Ga.length:Int)=0:=by
    cases hq:(s.kind == 2) with
    | true=>rw [hq] at h13;simpa using h13
    | false=>simp [he.1] at hq
   have h2a:=hk2 he.1;have:0<s.length / (s.Ga.length:Int):=by
    refine Decidable.byContradiction fun q=>?_;have e0:=Int.emod_add_mul_ediv s.length s.Ga.length;have:(s.Ga.length:Int)*(s.length / (s.Ga.length:Int))<=0:=Int.mul_nonpos_of_nonneg_of_nonpos TcC TcC;omega
   omega
  omega
theorem zm (hi:NL g)(h1:(dZ g).2=0)(h2:(dw g).2=0)(h3:(dJ g).2=0)(h4:(iP g).2=0):UQ g:=by
 obtain ⟨r1,r2⟩:=iT h1;exact ⟨hi.sz,fun d hd=>by have:=((nG h2).2 d hd).1;unfold jQ at this;omega,⟨r1.2.2.1,r1.2.2.2.1⟩,fun v hv=>by have:=(nH h3 v hv).2.1;omega,fun v hv s hs=>by
  obtain ⟨st,h⟩:=qP h4 v hv s hs;exact (vT h).1.fm⟩
theorem mZ (h4:(iP g).2=0):∀ v∈g.F9,∀ s∈v.Gf,Ah s:=fun v hv s hs=>by
 obtain ⟨st,h⟩:=qP h4 v hv s hs;exact (vT h).1
theorem zW:∀ (l:List aB) (n:Int),(∀ s∈l,s.length<=32768)->0<=n->l.foldl (fun n s=>fF n s.length) n<=n+32768*(l.length:Int)
 | [],n,_,_=>by simp
 | s :: l,n,h,h0=>by
  have h1:=lT n s.length h0;have h2:fF n s.length<=n+32768:=by
   have:=h s (cG ..);unfold fF;omega
  have:=zW l (fF n s.length) (fun x hx=>h x (kn _ hx)) h1.1;rw [cF,cS];omega
theorem Cg (h3:(dJ g).2=0)(h4:(iP g).2=0):Cu g:=fun nm=>by
 unfold dO;cases hf:aM g.F9 nm with
 | none=>exact ⟨TcF,TcF⟩
 | some v =>
  have hv:=eV hf;have h1:=uZ v.Gf 0 TcC TcC;have h2:=zW v.Gf 0 (fun s hs=>(mZ h4 v hv s hs).fm.l1) TcC;have h5:=(nH h3 v hv).2.2.2;show 0<=C8 v/\C8 v<=10000000;unfold C8;omega
theorem qo (hl:iR g)(h3:(dJ g).2=0):(aA g.F9).length<=2048:=by
 have:∀ l:List ay,(∀ v∈l,v.Gf.length<=64)->(aA l).length<=64*l.length:=by
  intro l;induction l with
  | nil=>intro _;simp [aA]
  | cons v l ih =>
   intro h;have h1:=ih fun x hx=>h x (kn _ hx);have h2:=h v (cG ..);unfold aA at h1 ⊢;rw [lB,cD,fW,cS];omega
 have h1:=this g.F9 fun v hv=>(nH h3 v hv).2.2.2;have:=hl.2.1;omega
theorem zZ (h:mM g v s=0):jw g s=true/\s.Ga.all (fI g s)=true/\jS v s=true/\(s.kind=6->eZ ((aM g.F9 s.pool).getD eY)=5)/\(dD s false).any (dh g)=false:=by
 unfold mM at h;split at h
 ·cases h
 rename_i h1;split at h
 ·cases h
 rename_i h2;split at h
 ·cases h
 rename_i h3;split at h
 ·cases h
 rename_i h4;split at h
 ·cases h
 rename_i h5;exact ⟨TdN,by simpa using h2,Tdc,fun e=>Decidable.byContradiction fun q=>h4 ⟨e,q⟩,Bool.eq_false_iff.2 h5⟩
theorem Dh (h:(mY g).2=0):∀ v∈g.F9,∀ s∈v.Gf,mM g v s=0:=fun v hv s hs=>by
 have:(v,s)∈aA g.F9:=List.mem_flatMap.2 ⟨v,hv,List.mem_map.2 ⟨s,hs,rfl⟩⟩;obtain ⟨a,b,e⟩:=List.append_of_mem this;exact Hd h a b v s e
theorem Er (hi:NL g)(h1:(dZ g).2=0)(h2:(dw g).2=0)(h3:(dJ g).2=0)(h4:(iP g).2=0)(h5:(mY g).2=0):FL g:=by
 obtain ⟨r1,r2⟩:=iT h1;refine ⟨(nG h2).1,fun d hd=>?_,hi.sz.dl,fun v hv s hs=>?_,by have:=qo r2 h3;omega⟩
 ·have:=oo ((nG h2).2 d hd).2;unfold maxLen;omega
 obtain ⟨st,h⟩:=qP h4 v hv s hs;obtain ⟨f1,f2,f3⟩:=vT h;obtain ⟨q1,q2,q3,q4,q5⟩:=zZ (Dh h5 v hv s hs);obtain ⟨m1,m2,m3,m4⟩:=hi.st v hv s hs;refine ⟨f1.fm,f2,fun a ha pS=>⟨by unfold maxLen;exact m3 a ha,?_⟩,by unfold maxLen;exact m2,m4⟩;unfold jw at q1;rw [eh,eL,eL] at q1;have e1:=q1.1 a ha;rw [pS,nj] at e1;obtain ⟨d,hd⟩:=Option.isSome_iff_exists.1 e1;have e2:=List.all_eq_true.1 q2 a ha;unfold fI at e2;rw [pS,nj,hd] at e2;simp only [eh,fk,Option.getD_some] at e2;exact ⟨d,hd,e2.1.1,e2.2⟩
theorem yB (hi:NL g):∀ v∈g.F9,∀ s∈v.Gf,∀ pool,∀ x∈dD s pool,x.size<=maxLen:=fun v hv s hs pool x hx=>by
 obtain ⟨m1,m2,m3,m4⟩:=hi.st v hv s hs;unfold maxLen;unfold dD at hx;rcases List.mem_append.1 hx with hx | hx
 ·rcases List.mem_append.1 hx with hx | hx
  ·obtain ⟨a,ha,rfl⟩:=List.mem_map.1 hx;exact m3 a ((List.mem_filter.1 ha).1)
  split at hx
  ·cases hx
  obtain rfl:=List.mem_singleton.1 hx;exact m1
 split at hx
 ·obtain rfl:=List.mem_singleton.1 hx;exact m2
 cases hx
theorem Ao (hl:iR g)(h3:(dJ g).2=0)(h4:(iP g).2=0)(pool:Bool):(dA (aA g.F9) pool).length<=1000000:=by
 have:∀ l:List (ay × aB),(∀ p∈l,p.2.Ga.length<=6)->(dA l pool).length<=8*l.length:=by
  intro l;induction l with
  | nil=>intro _;simp [dA]
  | cons p l ih =>
   intro h;have h1:=ih fun x hx=>h x (kn _ hx);have h2:=h p (cG ..)
   have h3:(dD p.2 pool).length<=p.2.Ga.length+2:=by
    unfold dD;rw [cD,cD,fW];have:=tk (fun a:aR=>a.vol) p.2.Ga;split <;> split <;> simp <;> omega
   unfold dA at h1 ⊢;rw [lB,cD,cS];omega
 have h1:=this (aA g.F9) fun p hp=>by
  obtain ⟨v,hv,hp⟩:=List.mem_flatMap.1 hp;obtain ⟨s,hs,rfl⟩:=List.mem_map.1 hp;exact (mZ h4 v hv s hs).fm.ar
 have h2:=qo hl h3;omega
def oW:List (ByteArray × Int)->ByteArray × Int
 | []=>(⟨#[]⟩,0)
 | r :: l=>if r.2=0 then oW l else r
def mchk (g:af):ByteArray × Int:=oW [dZ g,dw g,dJ g,iP g,mY g,qG g,pE g,rY g]
end Go.Proofs.YtaagglbgohjldaaGreatDoor
