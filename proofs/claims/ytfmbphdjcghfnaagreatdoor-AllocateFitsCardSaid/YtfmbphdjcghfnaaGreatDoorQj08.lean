/- Lemmas: MoY, MoZ, MoC, PolAc, PolF, SpN, MkU, PolH, PlfA, RgO, RgU, RgQ, RgS. -/
import Derived.Test.YtfmbphdjcghfnaaGreatDoorQj07
set_option maxRecDepth 100000
set_option maxHeartbeats 32000000
set_option linter.all false
open List renaming length→Wq,nil_append→GO,getElem?_eq_some_iff→AT,mem_flatMap→BY
open Go.World renaming alloc→AI,cell?→AN,frozen?→BT,setCell→AF
open Go.Value renaming bool→Ft,int→Bm,string→By
open Go.Region renaming wanted→Cd,ready→BE
open Go.IntKind renaming i64→Sj,u64→U8
open Go.Value renaming slice→FG,pointer→SL,agg→Tk,tuple→Vj
open Go.Obj renaming cells→Sx
open Go.Ending renaming returned→S6
open Option renaming some→Vv,none→VX
open Bool renaming false→VN,true→VR
open Decidable renaming decide→V7
namespace Go.Proofs.YtfmbphdjcghfnaaGreatDoor
variable{gt:Prop}
open Go.Proofs.Tryz
open Go.RowKit Go.Maps Go.Shelf
section
attribute [local go_sem] run_makeMap_plain
def Tbf(h:gt:=by
 have hlk:=gm.look Hj.o x hxs;obtain⟨w',hst,hc',hg',hz'⟩:=gm.store Hj.o hll x hxs;have HC':=aa hc';clear hc';have HX:=aa (take_snoc' L m x hx);have HM':=aa (xd.o.trans (cR.grown hg') (fun i e=>.inl e));clear Ry aJ1 hx hg' hz';generalize iJ _ x=c at *;go_wp2;go_roundw;exact⟨m+1,WQ,Zf,HM'.o,by rw[HX.o,<- cV];exact HC'.o⟩;exact Ti):=h
theorem OM{ok:LN}(g:af)(a:iX)(bc:Nat)(w:H7)(kB:gY w bc g a)(hg:dN ok w g a)(hz:JT g)(hU:∀pool,(dA (aA g.F9) pool).length<=1000000)
  (hN:∀v∈g.F9,∀s∈v.Gf,∀pool,∀x∈dD s pool,x.size<=maxLen) (hV:∀v∈g.F9,v.name.size<=maxLen) (am:∀v∈g.F9,yt g v=0):Calls prog 40 #[SL (Vv bc)] w (OkM w):=by
 replace am:=aa am;have jt:=kB.lt;obtain⟨sm,ga,_⟩:=kB;have nw:Hid (bX w bc sm g a):=aa ga;clear ga;have HG:=aa hg.F9;have HZ:=aa hz;replace hU:=aa hU;replace hN:=aa hN;replace hV:=aa hV;have mb:=hz.vl;obtain⟨vp,vc,sT,aU,aV⟩:=hg.F9.cap;clear hg hz;injection sT with e1 e2 e3;obtain⟨ID,aW,aX,G3,G4,Ge,Hb,Hc⟩:=a;dsimp only at e1 e2 e3;subst e1;subst e3;clear e2;have hA1:=ae w (.map #[] 0);have hA2:=ae (w.alloc (.map #[] 0)) (.map #[] 0);have ao:=bi.made prog 9 w;have au:=bi.made prog 9 (w.alloc (.map #[] 0));rw[cW]at au;have HP:=aa (gm.nil (ao.block (hA2.block _ ao.lt)));have HA:=aa (gm.nil au);have HB:=aa (hA1.trans (hA2.mono hA1.size));clear hA1 hA2 ao au;obtain⟨-,-,-,-,-,-,-,g7,-⟩:=bX.cells (sm:=sm) ((HB.o.block bc jt).trans nw.o);go_enter func40,ntmps40
 go_upto_region 3 with(fail);generalize RE:AI (AI w _) _=W1 at *;clear RE g7;go_loopw[24] (fun i wr=>∃k:Nat,k<=Wq g.F9/\i=Bm Sj k/\Below w.1.size w wr/\gm wr w.1.size (dA (aA (g.F9.take k)) VN)/\gm wr (w.1.size+1) (dA (aA (g.F9.take k)) VR)) (fun i _=>Wq g.F9-(intOf i).toNat)
 exact⟨0,cg _,rfl,HB.o,HP.o,HA.o⟩;clear HB HP HA;obtain⟨k,hk,rfl,hB,hp,ha⟩:=hrel;have HP:=aa hp;clear hp;have HA:=aa ha;clear ha;by_cases hlt:k<Wq g.F9
 ·obtain⟨v,hv⟩:=aj g.F9 k hlt;obtain⟨b,off,us,rfl,gR,cX,ez,eE,a8⟩:=HG.o.elem hv;have Zr:=ct hv;have aw:=HZ.o.vz v Zr;have GF:=aw.Gf;have Zu:=aa aw.seg;have aI:=aa (hN.o v Zr);obtain⟨tv,sv,rfl,ew,gA⟩:=eE;obtain⟨tp,tc,rfl,_,_⟩:=ew.cap;obtain⟨sp,sc,rfl,ay,az⟩:=gA.cap;have cT:wr.1[b]?=w.1[b]?:=hB.block b cX;obtain⟨q0,q1,q2,q3,q4,q5⟩:=sw6 cT a8;replace hv:=aa hv;replace gA:=aa gA;clear a8 ez cT ew aw Zr;have hA:=ae wr (Sx (ZM v tp tc sp sc) 46);have cU:=aa (hB.trans (hA.mono hB.size));have aF:=aa (HP.o.block (hA.block _ HP.o.lt));have Ub:=aa (HA.o.block (hA.block _ HA.o.lt));clear hA;go_upto_region 6 with(fail);clear q0 q1 q2 q3 q4 q5;generalize RE:AI wr _=W1 at *;generalize aB:wr.1.size=Bv at *;clear RE aB hB HP HA;go_loopw[31] (fun i wi=>∃j:Nat,j<=Wq v.Gf/\i=Bm Sj j/\Below w.1.size w wi/\gm wi w.1.size (dA (bW g.F9 k j v) VN)/\gm wi (w.1.size+1) (dA (bW g.F9 k j v) VR)) (fun i _=>Wq v.Gf-(intOf i).toNat)
  exact⟨0,cg _,rfl,cU.o,by rw[eQ];exact aF.o,by rw[eQ];exact Ub.o⟩;clear cU aF Ub;obtain⟨j,hj,rfl,hB,hp,ha⟩:=hrel;have HP:=aa hp;clear hp;have HA:=aa ha;clear ha;by_cases hlt2:j<Wq v.Gf
  ·obtain⟨s,hs⟩:=aj v.Gf j hlt2;obtain⟨b2,off2,aY,yp,I0,C2,B5,C3,a9⟩:=gA.o.elem hs;subst yp;have aG:=aa C3;have aC:=ct hs;have ab:=(Zu.o s aC).1;have Yy:=aa (aI.o s aC);have Ug:=aa (jB g.F9 k j v s hv.o hs);have sY:=aa (fG g.F9 k j v s hs);obtain⟨av,Rn,rfl,o0,hst⟩:=C3;obtain⟨ap,ac,rfl,_,_⟩:=o0.cap;obtain⟨eN,eR,rfl,_,_⟩:=hst.cap;have AD:wr.1[b2]?=w.1[b2]?:=hB.block b2 C2;obtain⟨q0,q1,q2,q3,q4,q5,q6,q7,q8,q9,aJ⟩:=ak5 AD a9;clear hs aC a9 B5 AD o0 hst;have lj:=aa (b9 wr (Sx (ZN s ap ac eN eR) 55));have hA:=ae wr (Sx (ZN s ap ac eN eR) 55);have cm:=aa (hB.trans (hA.mono hB.size));have aK:=HP.o.lt;have aL:=HA.o.lt;have aD:=aa (HP.o.block (hA.block _ aK));have HA2:=aa (HA.o.block (hA.block _ aL));clear hA;go_wp2_with fail;clear q0 q1 q2 q3 q4 q5 q6 q7 q8 q9 aJ;generalize aM:AI wr _=W2 at *;generalize aN:wr.1.size=Bs at *;clear aM aN hB HP HA;refine(kN (ok:=ok) s VN W2 (bC.moves.mv (Mv.of cm.o) aG.o) ab).mono ?_;rintro e w3 ⟨uv,rfl,a7,hb3⟩;have VY:Bs<W2.1.size:=aq lj.o;have kf:=a7.rd (ok:=fun q=>W2.1.size<=q) (fun q e=>(fh a7 q e).1);obtain⟨up,uc,rfl,aZ,b8⟩:=kf.cap;have B2:=aa kf;clear kf a7;have cJ:=YS cm hb3;have Uh:=aa (aD.o.block (hb3.block _ aD.o.lt));have ag:=aa (HA2.o.block (hb3.block _ HA2.o.lt));have nB:=aa ((hb3.block _ VY).trans lj.o);clear hb3 cm aD HA2 lj;have HLN:=aa (Yy.o VN);have hle:=wu Ug.o VN;have ah:=hU.o VN;generalize hL:dD s VN=L at *;go_wp2_with fail;go_loopw[38] (fun i wi=>∃m:Nat,m<=L.length/\i=Bm Sj m/\cR (fun q=>q=w.1.size) w3 wi/\gm wi (w.1.size) (dA (bW g.F9 k j v) VN++L.take m)) (fun i _=>L.length-(intOf i).toNat)
   exact⟨0,cg _,rfl,cR.refl _ _,by rw[iv,eM];exact Uh.o⟩;obtain⟨m,hm,rfl,oY,ai⟩:=hrel;have xd:=aa oY;clear oY;have Hj:=aa ai;clear ai;by_cases hlt3:m<L.length
   ·obtain⟨x,hx⟩:=aj L m hlt3;obtain⟨bu,ou,uu,rfl,aO,VZ,aJ1,V0,Ry⟩:=B2.o.elem hx;obtain rfl:uu=_:=V0;have q0:=(xd.o.cell (p:=⟨bu,ou+m*1+0,VX⟩) VZ (by show ¬bu=_;omega)).trans (Ry 0 _ lX);rw[fp,fg]at q0;have hxs:=HLN.o x (ct hx);have hll:(dA (bW g.F9 k j v) VN++L.take m).length<=1000000:=by rw[cD,ey];omega
    have aP:=Ag (dA (bW g.F9 k j v) VN++L.take m) x;exact Tbf
   obtain rfl:m=L.length:=by omega
   rw[cI]at Hj;have HW:=aa (cJ.o.trans ((xd.o.below (B:=w.1.size) (by have:=cJ.o.size;omega) (fun q e=>by omega))));have ak:=aa (ag.o.block (xd.o.block _ ag.o.lt WQ));have V1:=aq nB.o;have Tx:=aa ((xd.o.block _ V1 WQ).trans nB.o);have V2:Hid (dA (bW g.F9 k (j+1) v) VN=dA (bW g.F9 k j v) VN++L):=aa (by rw[sY.o,qW,hL]);have aE:=aa Hj.o;clear xd Hj B2 HLN hle ah cJ Uh ag nB hlt3 hm hL;generalize dA (bW g.F9 k j v) VN++L=LF at *;have s0:=IC (cr Tx.o);go_wp2_with fail;clear s0;refine(kN (ok:=ok) s VR wr (bC.moves.mv (Mv.of HW.o) aG.o) ab).mono ?_;rintro e w5 ⟨uv,rfl,a7,hb5⟩;have ba:=HW.o.size;have kf:=a7.rd (ok:=fun q=>wr.1.size<=q) (fun q e=>(fh a7 q e).1);obtain⟨bd,be,rfl,Yz,YA⟩:=kf.cap;have B2:=aa kf;clear kf a7;have bf:=ak.o.lt;have eK:=YS HW hb5;have YB:=aa (aE.o.block (hb5.block _ aE.o.lt));have aR:=aa (ak.o.block (hb5.block _ ak.o.lt));clear hb5 HW aE ak Tx;have HLN:=aa (Yy.o VR);have hle:=wu Ug.o VR;have ah:=hU.o VR;generalize hL:dD s VR=L at *;go_wp2_with fail;go_loopw[50] (fun i wi=>∃m:Nat,m<=L.length/\i=Bm Sj m/\cR (fun q=>q=w.1.size+1) w5 wi/\gm wi (w.1.size+1) (dA (bW g.F9 k j v) VR++L.take m)) (fun i _=>L.length-(intOf i).toNat)
   exact⟨0,cg _,rfl,cR.refl _ _,by rw[iv,eM];exact aR.o⟩;obtain⟨m,hm,rfl,oY,ai⟩:=hrel;have xd:=aa oY;clear oY;have Hj:=aa ai;clear ai;by_cases hlt3:m<L.length
   ·obtain⟨x,hx⟩:=aj L m hlt3;obtain⟨bu,ou,uu,rfl,aO,VZ,aJ1,V0,Ry⟩:=B2.o.elem hx;obtain rfl:uu=_:=V0;have q0:=(xd.o.cell (p:=⟨bu,ou+m*1+0,VX⟩) VZ (by show ¬bu=_;omega)).trans (Ry 0 _ lX);rw[fp,fg]at q0;have hxs:=HLN.o x (ct hx);have hll:(dA (bW g.F9 k j v) VR++L.take m).length<=1000000:=by rw[cD,ey];omega
    have aP:=Ag (dA (bW g.F9 k j v) VR++L.take m) x;exact Tbf
   obtain rfl:m=L.length:=by omega
   rw[cI]at Hj;have Tq:=aa (eK.o.trans ((xd.o.below (B:=w.1.size) (by have:=eK.o.size;omega) (fun q e=>by omega))));have V4:=aa (YB.o.block (xd.o.block _ YB.o.lt WQ));have V5:Hid (dA (bW g.F9 k (j+1) v) VR=dA (bW g.F9 k j v) VR++L):=aa (by rw[sY.o,qW,hL]);have aS:=aa Hj.o;go_wp2;go_roundw;exact⟨j+1,WQ,Zf,Tq.o,by rw[V2.o];exact V4.o,by rw[V5.o];exact aS.o⟩;exact Ti
  obtain rfl:j=Wq v.Gf:=by omega
  have Uh:Hid (gm wr w.1.size (dA (aA (g.F9.take (k+1))) VN)):=aa (by rw[<- fJ g.F9 k v hv.o];exact HP.o);have ag:Hid (gm wr (w.1.size+1) (dA (aA (g.F9.take (k+1))) VR)):=aa (by rw[<- fJ g.F9 k v hv.o];exact HA.o);have cJ:=aa hB;clear HP HA hB;go_wp2;go_roundw;exact⟨k+1,WQ,Zf,cJ.o,Uh.o,ag.o⟩;exact Ti
 obtain rfl:k=Wq g.F9:=by omega
 rw[cI]at HP HA;replace hB:=aa hB;obtain⟨-,-,-,-,-,-,-,g7,-⟩:=bX.cells (sm:=sm) ((hB.o.block bc jt).trans nw.o);go_wp2;clear g7;go_loopw[67] (fun i wi=>∃m:Nat,m<=Wq g.F9/\i=Bm Sj m/\Below wr.1.size wr wi) (fun i _=>Wq g.F9-(intOf i).toNat)
 exact⟨0,cg _,rfl,bj _ _⟩;obtain⟨m,hm,rfl,hb⟩:=hrel;replace hb:=aa hb;by_cases hlt4:m<Wq g.F9
 ·obtain⟨v,hv⟩:=aj g.F9 m hlt4;obtain⟨b,off,us,rfl,gR,cX,ez,eE,a8⟩:=HG.o.elem hv;have XP:=aa (hV.o v (ct hv));obtain⟨tv,sv,rfl,ew,gA⟩:=eE;obtain⟨tp,tc,rfl,_,_⟩:=ew.cap;obtain⟨sp,sc,rfl,ay,az⟩:=gA.cap;have cT:wr.1[b]?=w.1[b]?:=(hb.o.block b (cC cX hB.o.size)).trans (hB.o.block b cX);obtain⟨q0,q1,q2,q3,q4,q5⟩:=sw6 cT a8;have aH:=aa (am.o v (ct hv));clear hv a8 ez cT ew gA;have hA:=ae wr (Sx (ZM v tp tc sp sc) 46);have zv:=aa (b9 wr (Sx (ZM v tp tc sp sc) 46));have eI:=YS hb hA;clear hA;go_upto_region 23 with(fail);clear q0 q1 q2 q3 q4 q5;generalize RE:AI wr _=W1 at *;generalize aB:wr.1.size=Bv at *;clear RE aB hb;have V8:=gm.look (HA.o.block (eI.o.block _ HA.o.lt)) v.name XP.o;have Ui:=gm.look (HP.o.block (eI.o.block _ HP.o.lt)) v.name XP.o;have a5:(if v.hidden then(if iJ (dA (aA g.F9) VR) v.name=1 then 0 else 16) else(if iJ (dA (aA g.F9) VN) v.name=0 then 0 else 16))=(0:Int):=aH.o;clear aH;have n0:=cr zv.o 0 _ lX;have n2:=cr zv.o 2 _ lX;generalize iJ (dA (aA g.F9) VR) v.name=c1 at *;generalize iJ (dA (aA g.F9) VN) v.name=c2 at *;cases hh:v.hidden with
  |true =>
   rw[hh]at n2 a5;have h1:c1=1:=by
    simp only[ej]at a5;split at a5
    ·assumption
    cases a5
   have aT:((c1:Int) != 1)=VN:=by rw[h1];rfl
   clear h1 hh a5 Ui;go_wp2;go_roundw;exact⟨m+1,WQ,Zf,eI.o⟩;exact Ti
  |false =>
   rw[hh]at n2 a5;have h1:c2=0:=by
    simp only[pj,fY]at a5;split at a5
    ·assumption
    cases a5
   have aT:V7 (0<c2)=VN:=by rw[h1];rfl
   clear h1 hh a5 V8;go_wp2;go_roundw;exact⟨m+1,WQ,Zf,eI.o⟩;exact Ti
 obtain rfl:m=Wq g.F9:=by omega
 have Uj:=YS hB hb.o;go_wp2;go_ret2;exact⟨rfl,Uj.o⟩
end
section
theorem Me{ok:LN}(L:wy (az × Nat))(M:wy (H6 × H5))(bm Bt:Nat)(v:ay)(s:aB)(u1 u2:RH)(w:H7)(DB:w.cell? Bt=Vv (.map (Vv bm)))(Ue:Bt<w.1.size)(hL:uF ok w L bm)(hLt:∀p∈L,p.2≠Bt)(hT:kK w L M)
  (hv:aN ok w u1 v) (hs:bC ok w u2 s) (hf:wM s) (aA:1<=aX s) (af:∀a∈s.Ga,a.vol=VN->a.on.size<=maxLen/\∃d,bH (L.map (·.1)) a.on=Vv d/\0<=a.start/\aX s<=d.Gc-a.start) (Rx:nP (aX s) M s.Ga=VN):Calls prog 82 #[Tk u1.toArray,Tk u2.toArray,SL (Vv Bt)] w fun e w'=>e=S6 (Bm Sj 0)/\cR (Gm L) w w'/\kK w' L (M++dC (aX s) s.Ga):=by
 replace Rx:=aa Rx;replace hL:=aa hL;replace hLt:=aa hLt;have HT:=aa hT;clear hT;replace af:=aa af;replace DB:=aa DB;obtain⟨tv,sv,rfl,ew,gA⟩:=hv;obtain⟨tp,tc,rfl,_,_⟩:=ew.cap;obtain⟨sp,sc,rfl,_,_⟩:=gA.cap;obtain⟨av,Rn,rfl,o0,hst⟩:=hs;obtain⟨ap,ac,rfl,_,_⟩:=o0.cap;obtain⟨eN,eR,rfl,_,_⟩:=hst.cap;replace o0:=aa o0;clear hst ew gA;have hal:=hf.ar;have hl0:=hf.l0;have hl1:=hf.l1;clear hf;have qu:aX s<=32768:=by have:=(zV (k:=s.kind) (l:=s.length) (n:=Wq s.Ga) WQ).2;unfold aX;omega
 have aC:Hid (aX s=iB s.kind s.length (Wq s.Ga)):=aa lX;have hA1:=ae w (Sx (ZM v tp tc sp sc) 46);have hA2:=ae (w.alloc (Sx (ZM v tp tc sp sc) 46)) (Sx (ZN s ap ac eN eR) 55);have lj:=aa (b9 (w.alloc (Sx (ZM v tp tc sp sc) 46)) (Sx (ZN s ap ac eN eR) 55));have HB:=aa (hA1.trans (hA2.mono hA1.size));clear hA1 hA2;go_enter func82,ntmps82
 go_upto_region 1 with(fail);rw[cW]at lj;have aI:w.1.size<w.1.size+1:=Nat.lt_succ_self _;generalize RE:AI (AI w _) _=W1 at *;generalize aJ:w.1.size+1=Bs at *;clear RE;have sL:=cr lj.o;have s3:=sL 3 _ lX;clear sL;go_wp2;clear s3;have am:Hid (cR (Gm L) w W1):=aa (cR.of_below HB.o);have Rt:=aa (HT.o.below HB.o);go_loopw[13] (fun i wr=>∃k:Nat,k<=Wq s.Ga/\i=Bm Sj k/\cR (Gm L) w wr/\kK wr L (M++dC (aX s) (s.Ga.take k))/\nP (aX s) (M++dC (aX s) (s.Ga.take k)) (s.Ga.drop k)=VN/\wr.1[Bs]?=Vv (Sx (ZN s ap ac eN eR) 55 (0,0))) (fun i _=>Wq s.Ga-(intOf i).toNat)
 exact⟨0,cg _,rfl,am.o,by rw[iv];simpa[dC]using Rt.o,by rw[iv,cL];simpa[dC]using Rx.o,lj.o⟩;clear am Rt lj HB;obtain⟨k,hk,rfl,hm,ht,he,gO⟩:=hrel;have HM:=aa hm;clear hm;have HT:=aa ht;clear ht;replace he:=aa he;have lj:=aa gO;clear gO;by_cases hlt:k<Wq s.Ga
 ·obtain⟨r,hr⟩:=aj s.Ga k hlt;obtain⟨b,off,us,rfl,gR,cX,ez,aD,mB⟩:=o0.o.elem hr;obtain rfl:us=_:=aD;have cT:wr.1[b]?=w.1[b]?:=HM.o.block b cX (fun⟨p,hp,e⟩=>(hL.o.lt p hp).2.1 (e ▸ gR));have q0:=Mn cT mB;have a7:=aa (xC (aX s) s.Ga k r hr);have AG:=aa ((Ee (aX s) (M++dC (aX s) (s.Ga.take k)) hr).symm.trans he.o);have aE:=aa (af.o r (ct hr));clear hr ez mB cT;have hA:=ae wr (Sx (Taw r) 53);have yb:=aa (b9 wr (Sx (Taw r) 53));have a8:=aa (HM.o.trans (cR.of_below (F:=fun _=>False) hA) (fun _ f=>f.elim));have HT2:=aa (HT.o.below hA);have VO:=aq lj.o;have Hi:=aa ((hA.block _ VO).trans lj.o);clear hA;go_upto_region 4 with(fail);clear q0;generalize aF:AI wr _=W2 at *;generalize aK:wr.1.size=Ba at *;clear aF HM HT lj he;have a0:=cr yb.o 0 _ lX
  cases pS:r.vol with
  |true =>
   rw[pS]at a0;have HV:=aa pS;clear pS;go_wp2;go_roundw;exact⟨k+1,WQ,Zf,a8.o,by rw[a7.o,aw HV.o];exact HT2.o,by have:=AG.o;rw[aw HV.o]at this;rw[a7.o,aw HV.o];exact this,Hi.o⟩;exact Ti
  |false =>
   rw[pS]at a0;obtain⟨zc,d,N4,ag,ah⟩:=aE.o pS;have HV:=aa pS;clear pS;obtain⟨bd,Uf,Pc,ai⟩:=Dv N4;have Yu:=hL.o.de _ Uf;have CD:=hL.o.lt _ Uf;dsimp only at Yu CD;clear N4;replace Pc:=aa Pc;replace Uf:=aa Uf;have aG:Hid (∀p∈L,p.2<W2.1.size):=aa fun p hp=>cC (hL.o.lt p hp).1 a8.o.size
   go_upto_region 5 with(fail);clear a0;obtain⟨st,hst⟩:∃st:Nat,r.start=st:=⟨r.start.toNat,WQ⟩;obtain⟨n,hn⟩:∃n:Nat,aX s=n:=⟨(aX s).toNat,WQ⟩;obtain⟨E,hE⟩:∃E:Nat,d.Gc=E:=⟨d.Gc.toNat,WQ⟩;rw[show d.Gc.toNat=E by omega]at ai;rw[hn,hE,hst]at ah;rw[hn]at aA qu;rw[hE]at Yu;rw[hst]at ag yb;have Ru:=aa ((a8.o.cell (p:=Bt) Ue (fun⟨p,hp,e⟩=>hLt.o p hp e)).trans DB.o);have VQ:=cC Ue a8.o.size;have Qk:=aa (hL.o.map.block (a8.o.block _ hL.o.map.lt (fun⟨p,hp,e⟩=>(hL.o.lt p hp).2.2 e)))
   have ao:Hid (∀w',bi prog 9 w' bm L.length (vG L)->(Instr.lookup 142 (.map (Vv bm)) (By r.on) VN).run prog w'=.ok (FG (Vv bd) E E) w'):=aa fun w' hm=>by
    have:=(bi.look hm oM underlying142 (E8 w') (key:=By r.on) (gG r.on zc)).1;rwa[ai]at this
   replace hst:=aa hst;replace hn:=aa hn;replace hE:=aa hE;clear ai;have hS:∀w':H7,Below W2.1.size W2 w'->(w'.cell? Bt=Vv (.map (Vv bm))/\w'.cell? (XM Ba 1)=Vv (By r.on)/\w'.cell? (XM Ba 2)=Vv (Bm Sj (st:Int))/\(Instr.lookup 142 (.map (Vv bm)) (By r.on) VN).run prog w'=.ok (FG (Vv bd) E E) w'/\w'.cell? Bs=Vv (Bm Sj s.start)/\w'.cell? (XM Bs 1)=Vv (Bm Sj s.length)/\w'.cell? (XM Bs 2)=Vv (Bm Sj s.kind)/\w'.cell? (XM Bs 3)=Vv (FG (Vv (b,off)) (Wq s.Ga) ac)/\w'.cell? (XM Bs 4)=Vv (Bm Sj s.chunk)/\w'.cell? (XM Bs 5)=Vv (FG eN (Wq s.stale) eR)/\w'.cell? (XM Bs 6)=Vv (By s.log)/\w'.cell? (XM Bs 7)=Vv (By s.pool)/\w'.cell? (XM Bs 8)=Vv (Bm Sj s.device)/\w'.cell? (XM Bs 9)=Vv (Bm Sj s.mode)/\w'.cell? (XM Bs 10)=Vv (Bm Sj s.done)):=fun w' e=>by
    have h2:=(e.block Bs (aq Hi.o)).trans Hi.o;have h3:=(e.block Ba (aq yb.o)).trans yb.o;exact⟨(e.cell (p:=Bt) VQ).trans Ru.o,cr h3 _ _ lX,cr h3 _ _ lX,ao.o w' (Qk.o.block (e.block _ Qk.o.lt)),cr h2 _ _ lX,cr h2 _ _ lX,cr h2 _ _ lX,cr h2 _ _ lX,cr h2 _ _ lX,cr h2 _ _ lX,cr h2 _ _ lX,cr h2 _ _ lX,cr h2 _ _ lX,cr h2 _ _ lX,cr h2 _ _ lX⟩
   replace hS:=aa hS;refine gW (fun w'=>w'.cell? Bt=Vv (.map (Vv bm))/\w'.cell? (XM Ba 1)=Vv (By r.on)/\w'.cell? (XM Ba 2)=Vv (Bm Sj (st:Int))/\(Instr.lookup 142 (.map (Vv bm)) (By r.on) VN).run prog w'=.ok (FG (Vv bd) E E) w'/\w'.cell? Bs=Vv (Bm Sj s.start)/\w'.cell? (XM Bs 1)=Vv (Bm Sj s.length)/\w'.cell? (XM Bs 2)=Vv (Bm Sj s.kind)/\w'.cell? (XM Bs 3)=Vv (FG (Vv (b,off)) (Wq s.Ga) ac)/\w'.cell? (XM Bs 4)=Vv (Bm Sj s.chunk)/\w'.cell? (XM Bs 5)=Vv (FG eN (Wq s.stale) eR)/\w'.cell? (XM Bs 6)=Vv (By s.log)/\w'.cell? (XM Bs 7)=Vv (By s.pool)/\w'.cell? (XM Bs 8)=Vv (Bm Sj s.device)/\w'.cell? (XM Bs 9)=Vv (Bm Sj s.mode)/\w'.cell? (XM Bs 10)=Vv (Bm Sj s.done)) 11 [] Yp (hS.o _ (bj _ _).drew) (fun a5=>?_);refine fS 0 a5 ?_;refine fS 1 a5 ?_;refine fS 2 a5 ?_;refine fS 3 a5 ?_;refine fS 4 a5 ?_;refine fS 5 a5 ?_;refine fS 6 a5 ?_;refine fS 7 a5 ?_;refine fS 8 a5 ?_;refine lR 9 fun K hK=>?_;go_simp;refine(ji _ _ _ _ _ _ _ _ _ _ _ _ _ _ _ _ WQ WQ WQ).mono ?_;rintro e w3 ⟨rfl,hb3⟩;rw[<- aC.o,hn.o];have cJ:Hid (Below W2.1.size W2 w3):=aa ⟨hb3.os,hb3.tape,hb3.output,hb3.size,hb3.block⟩;clear hb3;refine hK.o _ _ (hS.o _ cJ.o) ?_;clear hK K;refine lR 10 fun K hK=>?_;go_simp;refine hK.o _ _ (hS.o _ cJ.o) ?_;clear hK K a5;refine aP Yp lX ?_;simp only[cQ,cL]
   go_upto_region 6 with(fail);have On:(((bz (M++dC (aX s) (s.Ga.take k)) d).drop st).take n).length=n:=by rw[ey,List.length_drop,gP];have:=hE.o;omega
   have ak:=aa (HT2.o.below cJ.o);have Rv:Hid ((((bz (M++dC (aX s) (s.Ga.take k)) d).drop st).take n).any id=tV (M++dC (aX s) (s.Ga.take k)) r.on r.start (aX s)):=aa (by
    have:=D5 (M++dC (aX s) (s.Ga.take k)) d r.start (aX s) (by rw[hst.o];omega) (by rw[hn.o];omega) (by rw[hst.o,hn.o,hE.o];omega);rw[hst.o,hn.o]at this;rw[hst.o,hn.o,<- Pc.o];exact this)
   have LL:=aa (oC bd st (E-st) w3 (ak.o.bools Uf.o st n) (cC (aG.o _ Uf.o) cJ.o.size) (by rw[On];omega));rw[On]at LL;clear On;rw[HV.o]at a7 AG;rw[bh XN]at a7 AG;have Rp:=aa (a8.o.trans (cR.of_below (F:=fun _=>False) cJ.o) (fun _ f=>f.elim));have nB:=aa ((cJ.o.block Bs (aq Hi.o)).trans Hi.o);clear a8 HT2 Hi hS yb Ru Qk ao;go_wp2_with fail;refine LL.o.mono ?_;rintro e w4 ⟨rfl,ab⟩;rw[Rv.o];have Q9:=aa (ak.o.below ab);have Ql:=aa (Rp.o.trans (cR.of_below (F:=fun _=>False) ab) (fun _ f=>f.elim));have Tx:=aa ((ab.block Bs (aq nB.o)).trans nB.o);clear LL Rv ak Rp nB ab cJ;have a9:tV (M++dC (aX s) (s.Ga.take k)) r.on r.start (aX s)=VN:=by
    have:=AG.o;cases hq:tV (M++dC (aX s) (s.Ga.take k)) r.on r.start (aX s)with
    |false=>rfl
    |true=>rw[hq,aw lX]at this;cases this
   rw[a9,bh XN]at AG;rw[a9];clear a9;have VT:Hid (M++dC (aX s) (s.Ga.take (k+1))=(M++dC (aX s) (s.Ga.take k))++[(d.name,(st:Int),(n:Int))]):=aa (by rw[a7.o,<- cV,Pc.o,hst.o,hn.o]);have VU:Hid (nP (aX s) (M++dC (aX s) (s.Ga.take (k+1))) (s.Ga.drop (k+1))=VN):=aa (by rw[a7.o,<- cV];exact AG.o);clear a7 AG;go_upto_region 9 with(fail);go_loopw[35,9] (fun i _ wi=>∃j:Nat,j<=n/\i=Bm Sj j/\cR (Gm L) w wi/\kK wi L ((M++dC (aX s) (s.Ga.take k))++[(d.name,(st:Int),(j:Int))])/\wi.1[Bs]?=Vv (Sx (ZN s (Vv ⟨b,off,VX⟩) ac eN eR) 55 (0,0))) (fun i _ _=>n-(intOf i).toNat)
   exact⟨0,cg _,rfl,Ql.o,Q9.o.zero _ _,Tx.o⟩;clear Ql Q9 Tx;obtain⟨j,hj,rfl,hm,ht,gO⟩:=hrel;have HM:=aa hm;clear hm;have HT:=aa ht;clear ht;have lj:=aa gO;clear gO;by_cases hlt2:j<n
   ·have hb:=HT.o _ Uf.o;have au:=aa (HT.o.set hL.o.nb hL.o.nn Uf.o WQ);rw[Int.toNat_natCast]at au;have aH:=aa (HM.o.setCell (p:=⟨bd,st+j,VX⟩) (.inl ⟨_,Uf.o,rfl⟩) (Ft VR));have hne:Bs≠bd:=by have:=(hL.o.lt _ Uf.o).1;dsimp only at this;omega
    have fl:=aa ((bw wr ⟨bd,st+j,VX⟩ (Ft VR) Bs hne).trans lj.o);have c0:wr.cell? (bd,st+j)=Vv (Ft (tkB ((M++dC (aX s) (s.Ga.take k))++[(d.name,(st:Int),(j:Int))]) d.name (st+j))):=by
     dsimp only at hb;simp only[AN,hb];have hg:=gU (M:=(M++dC (aX s) (s.Ga.take k))++[(d.name,(st:Int),(j:Int))]) (d:=d) (i:=st+j) (by have:=hE.o;omega);generalize bz _ d=bl at hg ⊢;simp[hg]
    have f0:wr.frozen? (bd,st+j)=VN:=by
     dsimp only at hb;simp[BT,hb]
    clear hb;generalize tkB _ d.name (st+j)=x at *;go_wp2;go_roundw;exact⟨j+1,WQ,Zf,aH.o,au.o,fl.o⟩;exact Ti
   obtain rfl:j=n:=by omega
   rw[<- VT.o]at HT;go_wp2;go_roundw;exact⟨k+1,WQ,Zf,HM.o,HT.o,VU.o,lj.o⟩;exact Ti
 obtain rfl:k=Wq s.Ga:=by omega
 rw[cI]at HT;go_wp2;go_ret;exact⟨rfl,HM.o,HT.o⟩
def Ma{ok:LN}(pre:wy (ay × aB))(bm Bt:Nat)(v:ay)(s:aB)(u1 u2:RH)(w:H7)(DB:w.cell? Bt=Vv (.map (Vv bm)))(Ue:Bt<w.1.size)(hM:bi prog 147 w bm pre.length (iV pre))(hl:pre.length<=1000000)
  (hv:aN ok w u1 v) (hs:bC ok w u2 s) (hp:s.pool.size<=maxLen) (hd:(Lit.int Sj s.device).wf=VR) (he:s.kind=6->pY pre s=VN):Calls prog 84 #[Tk u1.toArray,Tk u2.toArray,SL (Vv Bt)] w fun e w'=>e=S6 (.int Sj 0)/\cR (fun b=>b=bm) w w'/\bi prog 147 w' bm (pre.length+1) (iV (pre++[(v,s)])):=by
 replace he:=aa he;obtain⟨tv,sv,rfl,ew,gA⟩:=hv;obtain⟨tp,tc,rfl,_,_⟩:=ew.cap;obtain⟨sp,sc,rfl,_,_⟩:=gA.cap;obtain⟨av,Rn,rfl,o0,hst⟩:=hs;obtain⟨ap,ac,rfl,_,_⟩:=o0.cap;obtain⟨eN,eR,rfl,_,_⟩:=hst.cap;clear o0 hst ew gA;have hA1:=ae w (Sx (ZM v tp tc sp sc) 46);have hA2:=ae (w.alloc (Sx (ZM v tp tc sp sc) 46)) (Sx (ZN s ap ac eN eR) 55);have lj:=aa (b9 (w.alloc (Sx (ZM v tp tc sp sc) 46)) (Sx (ZN s ap ac eN eR) 55));have HB:=aa (hA1.trans (hA2.mono hA1.size));clear hA1 hA2;obtain⟨kl,a5⟩:=DX s.pool s.device hp hd;replace a5:=aa a5;clear hp hd;have HM:=aa (hM.block (HB.o.block _ hM.lt));clear hM;have ht:=(HB.o.cell (p:=Bt) Ue).trans DB;clear DB;go_enter func84,ntmps84
 go_upto_region 1 with(fail);rw[cW]at lj;generalize RE:AI (AI w _) _=W1 at *;generalize ag:w.1.size+1=Bs at *;clear RE;have a7:=(bi.look HM.o EI underlying145 (wY W1) a5.o).1;rw[AZ]at a7;obtain⟨w',hst,a8,ab,af⟩:=bi.store HM.o EI underlying145 (rr hl YR) a5.o (.bool VR);replace a8:=aa a8;have VT:Hid (cR (fun b=>b=bm) w w'):=aa ((cR.of_below HB.o).trans (cR.grown ab) (fun i e=>.inl e));clear ab af;have sL:=cr lj.o;have s2:=sL 2 _ lX;have s7:=sL 7 _ lX;have s8:=sL 8 _ lX;clear sL;by_cases hk:s.kind=6
 ·have hkb:(s.kind != 6)=VN:=by simpa using hk
  rw[he.o hk]at a7;have a9:=aa hk;clear hk;go_wp2;go_ret;exact⟨rfl,VT.o,a8.o.congr fun key _ _=>yU pre v s a9.o key⟩
 have hkb:(s.kind != 6)=VR:=by simpa using hk
 have a9:=aa hk;clear hk;clear a7 hst;go_wp2;go_ret;exact⟨rfl,cR.of_below HB.o,(HM.o.mono (Nat.le_succ _)).congr fun key _ _=>yN pre v s a9.o key⟩
attribute [local go_sem] run_makeMap_plain
def LZ{ok:LN}(g:af)(a:iX)(bc:Nat)(w:H7)(kB:gY w bc g a)(hg:dN ok w g a)(hf:UQ g)(ho:FL g)(he:(pE g).2=0):Calls prog 39 #[SL (Vv bc)] w (OkM w):=by
 have hr1:(bD CQ [] (aA g.F9)).2=0:=by
  unfold pE at he;split at he
  ·assumption
  exact he
 have hr2:(bD IW [] (aA g.F9)).2=0:=by
  unfold pE at he;rwa[aw hr1]at he
 have HR1:=aa (fun a b v s e=>Hd hr1 a b v s e);have E3:=aa (fun a b v s e=>Hd hr2 a b v s e);clear hr1 hr2 he;have jt:=kB.lt;have I3:=aa kB;obtain⟨sm,ga,_⟩:=kB;have nw:Hid (bX w bc sm g a):=aa ga;clear ga;have Yw:=aa hg;have HG:=aa hg.Gb;have HF:=aa hf;have HO:=aa ho;have CD:=ho.dl;obtain⟨vp,vc,sT,aL,aM⟩:=hg.Gb.cap;clear hg hf ho;injection sT with e1 e2 e3;obtain⟨ID,aN,aO,G3,G4,Ge,Hb,Hc⟩:=a;dsimp only at e1 e2 e3;subst e1;subst e3;clear e2;have hA1:=ae w (.map #[] 0);have hA2:=ae (w.alloc (.map #[] 0)) (Sx #[.map (Vv w.1.size)] 142);have a7:=bi.made prog 9 w;have sC:=b9 (w.alloc (.map #[] 0)) (Sx #[.map (Vv w.1.size)] 142);rw[cW]at sC;have a9:=aa sC;clear sC;have ab:=aa (a7.block (hA2.block _ a7.lt));have cm:=aa (hA1.trans (hA2.mono hA1.size));clear hA1 hA2 a7;obtain⟨-,-,-,-,-,-,g6,-,-⟩:=bX.cells (sm:=sm) ((cm.o.block bc jt).trans nw.o);go_enter func39,ntmps39
 go_upto_region 3 with(fail);generalize RE:AI (AI w _) _=W1 at *;clear RE g6;have AG:=aa (show OvL w.1.size W1 w.1.size (w.1.size+1) [] from⟨⟨ab.o.congr (fun key _ _=>Cs key),XN,XN,fun p hp=>absurd hp XN,fun p hp=>absurd hp XN⟩,fun p hp=>absurd hp XN,cr a9.o _ _ lX,fun p hp=>absurd hp XN,aq a9.o⟩);clear ab a9;go_loopw[17] (fun i wr=>∃k:Nat,k<=Wq g.Gb/\i=Bm Sj k/\Below w.1.size w wr/\∃L:wy (az × Nat),L.map (·.1)=g.Gb.take k/\OvL w.1.size wr w.1.size (w.1.size+1) L) (fun i _=>Wq g.Gb-(intOf i).toNat)
 exact⟨0,cg _,rfl,cm.o,[],XN,AG.o⟩;clear cm AG;obtain⟨k,hk,rfl,hB,L,hL,Rx⟩:=hrel;replace hB:=aa hB;replace hL:=aa hL;have AG:=aa Rx;clear Rx;by_cases hlt:k<Wq g.Gb
 ·obtain⟨d,hd⟩:=aj g.Gb k hlt;obtain⟨b,off,us,rfl,gR,cX,ez,eE,au⟩:=HG.o.elem hd;obtain⟨tv,rfl,ew⟩:=eE;obtain⟨tp,tc,rfl,_,_⟩:=ew.cap;have cT:wr.1[b]?=w.1[b]?:=hB.o.block b cX;have q0:=sw7 cT au;have ah:=ct hd;have vu:=HF.o.de d ah;have aD:=HO.o.ns d ah;have Qm:=aa (zn HO.o.nd hd hL.o);have TK:Hid (∀b:Nat,(L++[(d,b)]).map (·.1)=g.Gb.take (k+1)):=aa (fun b=>by rw[gl,hL.o,take_snoc' g.Gb k d hd];rfl);clear hd au ez cT ew ah;replace vu:=aa vu;have hA:=ae wr (Sx (u0 d tp tc) 69);have sX:=aa (b9 wr (Sx (u0 d tp tc) 69));have cJ:=YS hB hA;have ai:=aa (AG.o.below hA);have av:(wr.alloc (Sx (u0 d tp tc) 69)).1.size=wr.1.size+1:=by simp
  clear hA;go_upto_region 5 with(fail);clear q0;generalize aE:AI wr _=W2 at *;generalize aF:wr.1.size=Bd at *;clear aE hB AG aF;obtain⟨E,hE⟩:∃E:Nat,d.Gc=E:=⟨d.Gc.toNat,by have:=vu.o;omega⟩;have Yx:d.Gc.toNat=E:=by omega
  have aG:E<=1000000:=by have:=vu.o;omega
  have hS:∀w':H7,Below W2.1.size W2 w'->(w'.cell? (XM (w.1.size+1) 0)=Vv (.map (Vv w.1.size))/\w'.cell? Bd=Vv (By d.name)/\w'.cell? (XM Bd 3)=Vv (Bm Sj (E:Int))):=fun w' e=>by
   have h2:=(e.block Bd (aq sX.o)).trans sX.o;rw[hE]at h2;exact⟨(ai.o.below e).c,cr h2 _ _ lX,cr h2 _ _ lX⟩
  replace hS:=aa hS;clear hE;replace Yx:=aa Yx;replace av:=aa av;refine gW (fun w'=>w'.cell? (XM (w.1.size+1) 0)=Vv (.map (Vv w.1.size))/\w'.cell? Bd=Vv (By d.name)/\w'.cell? (XM Bd 3)=Vv (Bm Sj (E:Int))) 6 [] Yp (hS.o _ (bj _ _).drew) (fun a5=>?_);refine fS 0 a5 ?_;refine fS 1 a5 ?_;refine fS 2 a5 ?_;refine fS 3 a5 ?_;refine fS 4 a5 ?_;refine lR 5 fun K hK=>?_;have aH:=AJ d E Yx.o aG W2.drew;go_simp;clear aH;have ak:=ae W2.drew (Sx ((bz [] d).map Ft).toArray 4);refine hK.o _ _ (hS.o _ ((bj W2.1.size W2).drew.trans (ak.mono XN))) ?_;clear hK K a5;refine aP Yp lX ?_;simp only[cQ,cL];have ag:Below W2.1.size W2 (W2.drew.alloc (Sx ((bz [] d).map Ft).toArray 4)):=(bj W2.1.size W2).drew.trans (ak.mono XN)
  have aI:L.length<=1000000:=by
   have:=fj List.length hL.o;rw[fW,ey]at this;omega
  obtain⟨w',hst,hm',am,ay⟩:=bi.store ((ai.o.below ag).m.map) oM underlying142 (rr aI YR) (gG d.name aD) (FG (Vv W2.1.size) E E);have VW:=aa (OvL.snoc ai.o (W:=W2.drew) (bj W2.1.size W2).drew cJ.o.size vu.o Yx.o Qm.o hm' am ay);have TJ:Hid (Below w.1.size w w'):=aa ((cJ.o.trans (ag.mono cJ.o.size)).trans ((cR.grown am).below (B:=w.1.size) (cA cJ.o.size ag.size) (fun q e=>by omega)));replace hst:(Instr.mapUpdate 142 (.map (Vv w.1.size)) (By d.name) (FG (Vv W2.1.size) E E)).run prog (W2.alloc (Sx ((bz [] d).map Ft).toArray 4)).drew=.ok () w':=hst;clear hm' am ay ag ak;go_wp2;go_roundw;exact⟨k+1,WQ,Zf,TJ.o,_,TK.o _,VW.o⟩;exact Ti
 obtain rfl:k=Wq g.Gb:=by omega
 rw[cI]at hL;have hlt3:w.1.size+1<wr.1.size:=AG.o.bt;go_wp2_with fail;refine(Jc (ok:=fun b=>ok b/\b<w.1.size) (F:=Gm L) 82 [SL (Vv (XM (w.1.size+1) 0))] (fun l W=>by go_simp) g _ bc (fun pre W=>kK W L (lU pre)) wr (I3.o.below hB.o) (Yw.o.mv ⟨hB.o.size,fun b hb ho=>⟨⟨ho,hb⟩,hB.o.block b hb⟩⟩) HF.o.sz ?_ (fun _ _ _ h hb=>h.below hb) AG.o.t ?_).mono ?_
 ·rintro b ⟨p,hp,rfl⟩;have:=AG.o.m.lt p hp;exact⟨this.1,fun q=>this.2.1 q.2⟩
 ·intro pre v s post hp W u1 u2 hm hi hv hs;obtain⟨m1,m2⟩:=jZ hp;obtain⟨f1,f2,f3,f4,f5⟩:=HO.o.sg v m1 s m2;have a8:=AG.o.m;refine(Me (ok:=fun b=>ok b/\b<w.1.size) L (lU pre) w.1.size (w.1.size+1) v s u1 u2 W ((hm.cell (p:=⟨w.1.size+1,0,VX⟩) AG.o.bt (fun⟨p,hp,e⟩=>AG.o.n p hp e)).trans AG.o.c) (cC AG.o.bt hm.size)
   ((⟨a8.map,a8.nb,a8.nn,fun p hp=>⟨(a8.lt p hp).1,fun q=>(a8.lt p hp).2.1 q.2,(a8.lt p hp).2.2⟩,a8.de⟩:uF (fun b=>ok b/\b<w.1.size) wr L w.1.size).mod hm) AG.o.n hi hv hs f1 f2 (by rw[hL.o];exact f3) (by
    have:=HR1.o pre post v s hp;rw[GO]at this;unfold CQ at this;split at this
    ·cases this
    exact Bool.eq_false_iff.2 ‹_›)).mono ?_
  rintro e W' ⟨rfl,h2,h3⟩;refine⟨rfl,h2,?_⟩;show kK W' L (lU (pre++[(v,s)]));rw[wm];exact h3
 rintro e w3 ⟨rfl,ao,-⟩;have cJ:Hid (Below w.1.size w w3):=aa (hB.o.trans (ao.below hB.o.size (fun b ⟨p,hp,e⟩=>by have:=(AG.o.m.lt p hp).2.1;omega)));have hlt4:wr.1.size<=w3.1.size:=ao.size;clear ao AG hL hB;have hA1:=ae w3 (.map #[] 0);have hA2:=ae (w3.alloc (.map #[] 0)) (Sx #[.map (Vv w3.1.size)] 145);have a7:=bi.made prog 147 w3;have sC:=b9 (w3.alloc (.map #[] 0)) (Sx #[.map (Vv w3.1.size)] 145);rw[cW]at sC;have a9:=aa sC;clear sC;have ab:=aa (a7.block (hA2.block _ a7.lt));have cm:=aa (hA1.trans (hA2.mono hA1.size));clear hA1 hA2 a7;go_wp2_with fail;generalize aJ:AI (AI w3 _) _=W4 at *;clear aJ;have eI:=YS cJ cm.o;have aB:=aq a9.o;have mA:=cJ.o.size;refine(Jc (ok:=fun b=>ok b/\b<w.1.size) (F:=fun b=>b=w3.1.size) 84 [SL (Vv (XM (w3.1.size+1) 0))] (fun l W=>by go_simp) g _ bc (fun pre W=>bi prog 147 W w3.1.size pre.length (iV pre)) W4 (I3.o.below eI.o) (Yw.o.mv ⟨eI.o.size,fun b hb ho=>⟨⟨ho,hb⟩,eI.o.block b hb⟩⟩) HF.o.sz ?_ (fun _ _ _ h hb=>h.block (hb.block _ h.lt)) ?_ ?_).mono ?_
 ·rintro b rfl;exact⟨ab.o.lt,fun q=>by have:=q.2;omega⟩
 ·refine ab.o.congr fun key _ _=>?_
  unfold iV;rw[bh XN]
 ·intro pre v s post hp W u1 u2 hm hi hv hs;obtain⟨m1,m2⟩:=jZ hp;obtain⟨f1,f2,f3,f4,f5⟩:=HO.o.sg v m1 s m2;have aK:pre.length<=1000000:=by
   have:=HO.o.pl;rw[hp,cD]at this;omega
  refine(Ma (ok:=fun b=>ok b/\b<w.1.size) pre w3.1.size (w3.1.size+1) v s u1 u2 W ((hm.cell (p:=⟨w3.1.size+1,0,VX⟩) aB (by show ¬w3.1.size+1=_;omega)).trans (by simp[AN,a9.o])) (cC aB hm.size) hi aK hv hs f4 f5 (fun hk=>by
   have:=E3.o pre post v s hp;rw[GO]at this;unfold IW at this;rw[aw hk]at this;unfold pY;split at this
   ·cases this
   exact Bool.eq_false_iff.2 ‹_›)).mono ?_
  rintro e W' ⟨rfl,h2,h3⟩;refine⟨rfl,h2,?_⟩;show bi prog 147 W' w3.1.size (pre++[(v,s)]).length (iV (pre++[(v,s)]));rw[cD];exact h3
 rintro e w5 ⟨rfl,aC,-⟩;have eK:Hid (Below w.1.size w w5):=aa (eI.o.trans (aC.below eI.o.size (fun b e=>by omega)));clear aC;go_wp2;go_ret2;exact⟨rfl,eK.o⟩
end
variable{s y:RU}{l:QN}{Q:N2}{Sf TO W0 ZD c0 c10 c4 c7 c8:zY}{a:Act}{o:Oper}
section
variable {g:af}{v:ay}{s:aB}{r:aY}{d:az}{x:RU}
structure GOk(g:af):Prop where
 gi:GIn g
 mk0:(mchk g).2=0
def Ov(h4:(iP g).2=0)(hv:v∈g.F9)(hs:s∈v.Gf)(h6:s.kind=6):dD s VN=[]:=by
 obtain⟨k,hk⟩:=fc hs;obtain⟨x,hx,-,-,⟨-,h2⟩,-,-,hl,-⟩:=DD (Kv h4 hv hk).1;rw[h6]at hx;injection hx with hx;subst hx;have ha:s.Ga=[]:=fX (by dsimp only at h2;omega);have a5:s.log.toList.isEmpty=VR:=by simpa using hl
 unfold dD;rw[ha,a5];rfl
def Tbx(h:gt:=by
 have:(v,s)∈aA g.F9:=List.mem_flatMap.2 ⟨v,hv,List.mem_map.2 ⟨s,hs,rfl⟩⟩;obtain⟨a,b,e⟩:=List.append_of_mem this;have:=Hd h6 a b v s e;unfold xh at this;split at this
 ·assumption
 cases this):=h
def Pf(h6:(qG g).2=0)(hv:v∈g.F9)(hs:s∈v.Gf):CX g s=VR:=by
 exact Tbx
def Mk{ok:LN}(g:af)(a:iX)(w:H7)(hg:dN ok w g a)(hi:GIn g)(hS:AW w)(hm:(mchk g).2=0):Calls prog 11 #[Tk (Zg g a)] w (OkM w):=by
 obtain⟨h1,h2,h3,h4,h5,h6,h7,h8⟩:=Dg hm;have HR:=aa (⟨h1,h2,h3,h4,h5,h6,h7,h8⟩:_/\_/\_/\_/\_/\_/\_/\_);clear h1 h2 h3 h4 h5 h6 h7 h8 hm;replace hg:=aa hg;replace hi:=aa hi;have MD:=aa hS;clear hS;have cU:=aa (ae w (Sx (Zg g a) 31));have CN:=aa (b9 w (Sx (Zg g a) 31));go_enter func11,ntmps11
 go_upto_region 1 with(fail);generalize RE:AI w _=W1 at *;generalize ai:w.1.size=Bg at *;clear RE;have hS:∀w':H7,Below W1.1.size W1 w'->(ON w' Bg g a):=fun w' e=>by
  have h2:=(e.block Bg (aq CN.o)).trans CN.o;exact⟨cr h2 _ _ lX,cr h2 _ _ lX,cr h2 _ _ lX,cr h2 _ _ lX,cr h2 _ _ lX,cr h2 _ _ lX,cr h2 _ _ lX,cr h2 _ _ lX,cr h2 _ _ lX⟩
 replace hS:=aa hS;refine gW (fun w'=>ON w' Bg g a) 2 [] Yp (hS.o _ (bj W1.1.size W1).drew) (fun a7=>?_);refine fS 0 a7 ?_;refine lR 1 fun K hK=>?_;go_simp;refine(zq _).mono ?_;rintro e w2 ⟨sm,rfl,a5,hb2⟩;have cm:Hid (Below W1.1.size W1 w2):=aa ⟨hb2.os,hb2.tape,hb2.output,hb2.size,hb2.block⟩;replace a5:=aa a5;clear hb2;refine hK.o _ _ (hS.o _ cm.o) ?_;clear hK K a7 hS;refine aP Yp lX ?_;simp only[cQ,cL];have hA:=ae w2 (Sx #[g.name,Bm U8 g.id,Bm Sj g.seq,Bm Sj g.Gd,Bm Sj g.next,FG a.tp (Wq g.tags) a.tc,FG a.dp (Wq g.Gb) a.dc,FG a.vp (Wq g.F9) a.vc,FG a.hp (Wq g.history) a.hc,.map (Vv sm)] 99);have hN:=b9 w2 (Sx #[g.name,Bm U8 g.id,Bm Sj g.seq,Bm Sj g.Gd,Bm Sj g.next,FG a.tp (Wq g.tags) a.tc,FG a.dp (Wq g.Gb) a.dc,FG a.vp (Wq g.F9) a.vc,FG a.hp (Wq g.history) a.hc,.map (Vv sm)] 99);have I3:Hid (gY (w2.alloc (Sx #[g.name,Bm U8 g.id,Bm Sj g.seq,Bm Sj g.Gd,Bm Sj g.next,FG a.tp (Wq g.tags) a.tc,FG a.dp (Wq g.Gb) a.dc,FG a.vp (Wq g.F9) a.vc,FG a.hp (Wq g.history) a.hc,.map (Vv sm)] 99)) w2.1.size g a):=aa ⟨sm,hN,a5.o.block (hA.block _ a5.o.lt)⟩;have cJ:Hid (Below Bg w _):=aa ((cU.o.trans (cm.o.mono (by have:=cU.o.size;omega))).trans (hA.mono (by have:=cU.o.size;have:=cm.o.size;omega)));have Hh:=aq hN;clear hA hN a5
 go_upto_region 2 with(fail);generalize aj:AI w2 _=W3 at *;generalize am:w2.1.size=bc at *;clear aj;have a8:=aa (ae W3 (Sx #[.func (.func 33) #[SL (Vv bc)] #[],.func (.func 34) #[SL (Vv bc)] #[],.func (.func 35) #[SL (Vv bc)] #[],.func (.func 36) #[SL (Vv bc)] #[],.func (.func 37) #[SL (Vv bc)] #[],.func (.func 38) #[SL (Vv bc)] #[],.func (.func 39) #[SL (Vv bc)] #[],.func (.func 40) #[SL (Vv bc)] #[]] 100));have ab:=aa (b9 W3 (Sx #[.func (.func 33) #[SL (Vv bc)] #[],.func (.func 34) #[SL (Vv bc)] #[],.func (.func 35) #[SL (Vv bc)] #[],.func (.func 36) #[SL (Vv bc)] #[],.func (.func 37) #[SL (Vv bc)] #[],.func (.func 38) #[SL (Vv bc)] #[],.func (.func 39) #[SL (Vv bc)] #[],.func (.func 40) #[SL (Vv bc)] #[]] 100));go_upto_region 4 with(fail);generalize ak:AI W3 _=W4 at *;generalize Rz:W3.1.size=Br at *;clear ak;have eI:=aa (cJ.o.trans (a8.o.mono (by have:=cJ.o.size;omega)));have V9:Hid (gY W4 bc g a):=aa (I3.o.below ⟨a8.o.os,a8.o.tape,a8.o.output,a8.o.size,fun k hk=>a8.o.block k WQ⟩);clear a8 I3 cJ cm cU CN;go_loopw[33] (fun i wr=>∃k:Nat,k<=8/\i=Bm Sj k/\Below W4.1.size W4 wr) (fun i _=>8-(intOf i).toNat)
 exact⟨0,WQ,rfl,bj _ _⟩;obtain⟨k,hk,rfl,hb⟩:=hrel;replace hb:=aa hb;have fy:Hid (Below w.1.size w wr):=aa (by rw[ai];exact eI.o.trans (hb.o.mono (by have:=eI.o.size;omega)));have th:=V9.o.below hb.o;have QY:=hg.o.mv (Mv.of fy.o);have a9:=MD.o.below fy.o;have hN:=(hb.o.block Br (aq ab.o)).trans ab.o;by_cases hlt:k<8
 ·have ag:k=0\/k=1\/k=2\/k=3\/k=4\/k=5\/k=6\/k=7:=by omega
  obtain⟨h1,h2,h3,h4,h5,h6,h7,h8⟩:=HR.o;have q:∃Qj,wr.cell? (Br,k)=Vv (.func (.func Qj) #[SL (Vv bc)] #[])/\(∀(l:Array zY) (W:H7),Sem.run prog (callFunc Qj l) W=.ok (.enter Qj l) W)/\Calls prog Qj #[SL (Vv bc)] wr (OkM wr):=by
   have hx:=(iT h1).1;have zc:=mZ h4;rcases ag with rfl|rfl|rfl|rfl|rfl|rfl|rfl|rfl
   ·exact⟨_,cr hN _ _ lX,fun l W=>by go_simp,Oo (ok:=ok) g a bc wr th QY hi.o.tx a9 h1⟩
   ·exact⟨_,cr hN _ _ lX,fun l W=>by go_simp,NI (ok:=ok) g a bc wr th QY hi.o.tx ⟨hx.2.2.1,hx.2.2.2.1⟩ a9 fun k d hd=>by have:=ll (i:=0) h2 k d hd;rwa[eJ]at this⟩
   ·exact⟨_,cr hN _ _ lX,fun l W=>by go_simp,Mj (ok:=ok) g a bc wr th QY hi.o.tx a9 fun k v hv=>by have:=ll (i:=0) h3 k v hv;rwa[eJ]at this⟩
   ·exact⟨_,cr hN _ _ lX,fun l W=>by go_simp,ME (ok:=ok) g a bc wr th QY hi.o.sz ⟨hx.2.2.1,hx.2.2.2.1⟩ hi.o.kw (fun v hv k s hs=>Kv h4 hv hs) fun v hv s hs=>(zc v hv s hs).fm⟩
   ·exact⟨_,cr hN _ _ lX,fun l W=>by go_simp,LB (ok:=ok) g a bc wr th QY (zm hi.o h1 h2 h3 h4) a9 (Dh h5) fun v hv s hs=>Ov h4 hv hs⟩
   ·exact⟨_,cr hN _ _ lX,fun l W=>by go_simp,Oj (ok:=ok) g a bc wr th QY (zm hi.o h1 h2 h3 h4) (Cg h3 h4) zc fun v hv s hs=>Pf h6 hv hs⟩
   ·exact⟨_,cr hN _ _ lX,fun l W=>by go_simp,LZ (ok:=ok) g a bc wr th QY (zm hi.o h1 h2 h3 h4) (Er hi.o h1 h2 h3 h4 h5) h7⟩
   exact⟨_,cr hN _ _ lX,fun l W=>by go_simp,OM (ok:=ok) g a bc wr th QY hi.o.sz (Ao (iT h1).2 h3 h4) (yB hi.o) (fun v hv=>by have:=(nH h3 v hv).2.1;unfold maxLen;omega) fun v hv=>sS h8 v hv⟩
  obtain⟨Qj,q0,ah,hc⟩:=q;have HFN:=aa ah;replace hc:=aa hc;clear h1 h2 h3 h4 h5 h6 h7 h8 ag ah hN th QY a9;go_wp2_with fail;rw[HFN.o];refine hc.o.mono ?_;rintro e w5 ⟨rfl,hb5⟩;have eK:=YS hb hb5;clear hc hb5 fy hb q0;exact Tck
 obtain rfl:k=8:=by omega
 clear hN th QY a9;go_wp2;go_ret2;exact⟨rfl,fy.o⟩
def TdS(h:gt:=by rw[HT.o,HQ.o];rfl):=h
def TeB(h:gt:=by simp[eu,Sz]):=h
def Tey(h:gt:=by rw[HNB.o];rfl):=h
def TdR(h:gt:=by rw[HPE.o,HRE.o];rfl):=h
def Td9(h:gt:=by rw[yi.o];simp):=h
theorem yQ{ok:LN}(g:af)(a:iX)(r:aY)(w:H7)(hg:dN ok w g a)(hi:GOk g)(hr:dK r)(hS:AW w):Calls prog 86 #[Tk (Zg g a),Tk (Tam r)] w (FY (kP g r) w):=by
 replace hg:=aa hg;replace hi:=aa hi;replace hS:=aa hS;obtain⟨hl,hs,he,hp,ht,hn,hq⟩:=hr;have hA1:=ae w (Sx (Zg g a) 31);have hA2:=ae (w.alloc (Sx (Zg g a) 31)) (Sx (Tam r) 34);have US:=b9 w (Sx (Zg g a) 31);have sC:=b9 (w.alloc (Sx (Zg g a) 31)) (Sx (Tam r) 34);rw[cW]at sC;have Fm:Hid (jF ((w.alloc (Sx (Zg g a) 31)).alloc (Sx (Tam r) 34)) w.1.size (w.1.size+1) g a r):=aa ⟨(hA2.block _ (aq US)).trans US,sC⟩;have cU:=aa (hA1.trans (hA2.mono hA1.size));clear hA1 hA2 US sC;go_enter func86,ntmps86
 go_upto_region 1 with(fail);generalize RE:AI (AI w _) _=W1 at *;generalize am:w.1.size=Bg at *;generalize Rz:Bg+1=Br at *;clear RE;have Tm:Hid (Below w.1.size w W1):=aa (by rw[am];exact cU.o);clear cU;have g0:=xr Fm.o.gc;go_wp2_with fail;clear g0;refine(Mk (ok:=ok) g a W1 (hg.o.mv (Mv.of Tm.o)) hi.o.gi (hS.o.below Tm.o) hi.o.mk0).mono ?_;rintro e w2 ⟨rfl,hb2⟩;have cm:=YS Tm hb2;have ah:=aa (Fm.o.below hb2);clear hb2 Tm Fm;have HPE:Hid (kP g r=yZ g r):=aa (aw hi.o.mk0);go_upto_region 4 with(fail);have g0:=xr ah.o.gc;have rL:=ah.o.rc;have r5:=rL 5 _ lX;clear rL;have HCV:=aa (fA (ok:=fun b=>ok b/\b<w.1.size) g a r.near w2 ((ck.moves aN.moves).mv ⟨cm.o.size,fun b hb ho=>⟨⟨ho,hb⟩,cm.o.block b hb⟩⟩ (dN.F9 hg.o)) hi.o.gi.sz.vl hi.o.gi.sz.vz);go_wp2_with fail;clear g0 r5;refine HCV.o.mono ?_;clear HCV;rintro e w3 ⟨u,rfl,sA,hb3⟩;have cJ:=YS cm hb3;have C6:=aa (ah.o.below hb3);have HNB:Hid (xM g r=if r.near.toList.isEmpty then !clB r else(aM g.F9 r.near).isSome):=aa lX;generalize (aM g.F9 r.near).isSome=YW at *;obtain⟨tv,sv,rfl,ew,gA⟩:=sA;obtain⟨tp,tc,rfl,_,_⟩:=ew.cap;obtain⟨sp,sc,rfl,ao,au⟩:=gA.cap;clear ew gA hb3 cm ah;generalize (aM g.F9 r.near).getD eY=v at *;have hA:=ae w3 (Sx (ZM v tp tc sp sc) 46);have eI:=YS cJ hA;have Sy:=aa (C6.o.below hA);clear hA cJ C6;go_upto_region 5 with(fail);generalize av:AI w3 _=W4 at *;clear av;obtain⟨r0,r1,r2,r3,r4,r5,r6⟩:=se Sy.o.rc;go_cut[9] (fun v wc=>v=Ft (clB r)/\wc=W4)
 case first =>
  cases h2:(r.Gg==2)with
  |true =>
   go_wp2;go_meet;exact⟨by simp[clB,h2],rfl⟩
  |false =>
   cases h3:(r.Gg==3)with
   |true =>
    go_wp2;go_meet;exact⟨by simp[clB,h3],rfl⟩
   |false =>
    go_wp2;go_meet;exact⟨by simp[clB,h2,h3],rfl⟩
 case rest =>
  obtain⟨rfl,rfl⟩:=hcut;generalize clB r=c at *;have HW:=aa uT;have HRE:Hid (yZ g r=if Dr r=VN then 1 else if Ek r.Gg 5=VN then 17 else if xM g r=VN then 12 else if(eu r.tag&&eu r.sep)=VN then 2 else 0):=aa lX;go_upto_region 7 with(fail);go_cut[34] (fun v wx=>v=Ft (!Dr r)/\wx=wc)
  case first =>
   have a7:=uT r.Gi 6 wc;have a8:=uT r.Gh 6 wc;have a9:=uT r.Gc 4096 wc;have yi:Hid (Dr r=(Ek r.Gi 6&&Ek r.Gh 6&&V7 (r.Gi*r.Gh<=6)&&Ek r.Gc 4096)):=aa lX;cases h1:Ek r.Gi 6 with
   |false =>
    rw[h1]at a7 yi;have H1:=aa h1;clear h1;go_wp2_with(first|((with_reducible refine a7.mono ?_);rintro e w5 ⟨rfl,rfl⟩)|((with_reducible refine a8.mono ?_);rintro e w5 ⟨rfl,rfl⟩)|((with_reducible refine a9.mono ?_);rintro e w5 ⟨rfl,rfl⟩))
    go_meet;exact⟨Td9,rfl⟩
   |true =>
    have ay:1<=r.Gi/\r.Gi<=6:=by simpa[Ek]using h1
    rw[h1]at a7 yi;have H1:=aa h1;clear h1;cases h2:Ek r.Gh 6 with
    |false =>
     rw[h2]at a8 yi;have H2:=aa h2;clear h2;go_wp2_with(first|((with_reducible refine a7.mono ?_);rintro e w5 ⟨rfl,rfl⟩)|((with_reducible refine a8.mono ?_);rintro e w5 ⟨rfl,rfl⟩)|((with_reducible refine a9.mono ?_);rintro e w5 ⟨rfl,rfl⟩))
     go_meet;exact⟨Td9,rfl⟩
    |true =>
     have hb2:1<=r.Gh/\r.Gh<=6:=by simpa[Ek]using h2
     rw[h2]at a8 yi;have H2:=aa h2;clear h2;have ai:0<=r.Gi*r.Gh:=oA WQ WQ;have aj:r.Gi*r.Gh<=6*6:=tW ay.2 hb2.2 WQ WQ;have aA:IntKind.i64.wrap (r.Gi*r.Gh)=r.Gi*r.Gh:=dy _ WQ;replace ai:=aa ai;replace aj:=aa aj;by_cases h3:r.Gi*r.Gh<=6
     ·have hp:V7 (6<r.Gi*r.Gh)=VN:=cN WQ;rw[eA h3]at yi;have H3:=aa h3;clear h3;cases h4:Ek r.Gc 4096 with
      |false =>
       rw[h4]at a9 yi;have H4:=aa h4;clear h4;go_wp2_with(first|((with_reducible refine a7.mono ?_);rintro e w5 ⟨rfl,rfl⟩)|((with_reducible refine a8.mono ?_);rintro e w5 ⟨rfl,rfl⟩)|((with_reducible refine a9.mono ?_);rintro e w5 ⟨rfl,rfl⟩))
       go_meet;exact⟨Td9,rfl⟩
      |true =>
       rw[h4]at a9 yi;have H4:=aa h4;clear h4;go_wp2_with(first|((with_reducible refine a7.mono ?_);rintro e w5 ⟨rfl,rfl⟩)|((with_reducible refine a8.mono ?_);rintro e w5 ⟨rfl,rfl⟩)|((with_reducible refine a9.mono ?_);rintro e w5 ⟨rfl,rfl⟩))
       go_meet;exact⟨Td9,rfl⟩
     have hp:V7 (6<r.Gi*r.Gh)=VR:=eA WQ;rw[cN h3]at yi;have H3:=aa h3;clear h3;go_wp2_with(first|((with_reducible refine a7.mono ?_);rintro e w5 ⟨rfl,rfl⟩)|((with_reducible refine a8.mono ?_);rintro e w5 ⟨rfl,rfl⟩)|((with_reducible refine a9.mono ?_);rintro e w5 ⟨rfl,rfl⟩))
     go_meet;exact⟨Td9,rfl⟩
  case rest =>
   obtain⟨rfl,rfl⟩:=hcut;have eK:=aa eI.o;cases sB:Dr r with
   |false =>
    rw[sB,aw lX]at HRE;go_wp2;go_ret;exact⟨TdR,eI.o⟩
   |true =>
    rw[sB,bh XN]at HRE;have yi:=aa sB;clear sB;by_cases hp1:1<=r.Gg
    ·by_cases hp5:r.Gg<=5
     ·have a5:Ek r.Gg 5=VR:=by simp[Ek,hp1,hp5]
      rw[a5,bh XN]at HRE;have ak:=aa a5;clear a5;have ab:V7 (r.Gg<1)=VN:=cN WQ;have az:V7 (5<r.Gg)=VN:=cN WQ;go_upto_region 11 with(fail);go_cut[71] (fun v wx=>v=Ft (!xM g r)/\wx=wc)
      case first =>
       cases hne:r.near.toList.isEmpty with
       |true =>
        rw[hne,aw lX]at HNB;cases c with
        |true =>
         go_wp2;go_meet;exact⟨Tey,rfl⟩
        |false =>
         go_wp2;go_meet;exact⟨Tey,rfl⟩
       |false =>
        rw[hne,bh XN]at HNB;cases YW with
        |true =>
         go_wp2;go_meet;exact⟨Tey,rfl⟩
        |false =>
         go_wp2;go_meet;exact⟨Tey,rfl⟩
      case rest =>
       obtain⟨rfl,rfl⟩:=hcut;cases sy:xM g r with
       |false =>
        rw[sy,aw lX]at HRE;have HN:=aa sy;clear sy;go_wp2;go_ret;exact⟨TdR,eI.o⟩
       |true =>
        rw[sy,bh XN]at HRE;have HN:=aa sy;clear sy;go_upto_region 13 with(fail);go_cut[87] (fun v wx=>v=Ft (!(eu r.tag&&eu r.sep))/\Below wc.1.size wc wx)
        case first =>
         have ag:=ry r.tag wc ht;cases PE:r.tag.toList.isEmpty with
         |true =>
          have HT:Hid (eu r.tag=VR):=aa (by simp[eu,PE]);have ab:=ry r.sep wc hq;cases Sz:r.sep.toList.isEmpty with
          |true =>
           have HQ:Hid (eu r.sep=VR):=aa TeB;go_wp2;go_meet;exact⟨TdS,bj _ _⟩
          |false =>
           have HQ:Hid (eu r.sep=mr r.sep):=aa TeB;cases htb:mr r.sep with
           |true =>
            rw[htb]at ab HQ;have WM:=aa htb;clear htb;go_wp2_with((with_reducible refine ab.mono ?_);rintro e w5 ⟨rfl,hb5⟩)
            go_meet;exact⟨TdS,hb5⟩
           |false =>
            rw[htb]at ab HQ;have WM:=aa htb;clear htb;go_wp2_with((with_reducible refine ab.mono ?_);rintro e w5 ⟨rfl,hb5⟩)
            go_meet;exact⟨TdS,hb5⟩
         |false =>
          have HT:Hid (eu r.tag=mr r.tag):=aa (by simp[eu,PE]);cases htb:mr r.tag with
          |false =>
           rw[htb]at ag HT;have WM:=aa htb;clear htb;go_wp2_with((with_reducible refine ag.mono ?_);rintro e w5 ⟨rfl,hb5⟩)
           go_meet;exact⟨by rw[HT.o];rfl,hb5⟩
          |true =>
           rw[htb]at ag HT;have WM:=aa htb;clear htb;go_wp2_with fail;refine ag.mono ?_;rintro e w5 ⟨rfl,hb5⟩;have eK:=aa hb5;have rL:=(Sy.o.below hb5).rc;clear r0 r1 r2 r3 r4 r5 r6 hb5;have r6:=rL 6 _ lX;clear rL;have Lz:=aa (ry r.sep w5 hq);clear ag;cases Sz:r.sep.toList.isEmpty with
           |true =>
            have HQ:Hid (eu r.sep=VR):=aa TeB;go_wp2;go_meet;exact⟨TdS,eK.o⟩
           |false =>
            have HQ:Hid (eu r.sep=mr r.sep):=aa TeB;cases htb:mr r.sep with
            |true =>
             rw[htb]at Lz HQ;have WN:=aa htb;clear htb;go_wp2_with fail;refine Lz.o.mono ?_;rintro e w6 ⟨rfl,sh⟩;have Tq:=YS eK sh;clear sh r6;go_wp2;go_meet;exact⟨TdS,Tq.o⟩
            |false =>
             rw[htb]at Lz HQ;have WN:=aa htb;clear htb;go_wp2_with fail;refine Lz.o.mono ?_;rintro e w6 ⟨rfl,sh⟩;have Tq:=YS eK sh;clear sh r6;go_wp2;go_meet;exact⟨TdS,Tq.o⟩
        case rest =>
         obtain⟨rfl,PX⟩:=hcut;have B3:=YS eI PX;clear PX;cases gw:(eu r.tag&&eu r.sep)with
         |true =>
          rw[gw,bh XN]at HRE;have j9:=aa gw;clear gw;go_wp2;go_ret;exact⟨TdR,B3.o⟩
         |false =>
          rw[gw,aw lX]at HRE;have j9:=aa gw;clear gw;go_wp2;go_ret;exact⟨TdR,B3.o⟩
     have a5:Ek r.Gg 5=VN:=by simp[Ek,hp5]
     rw[a5,aw lX]at HRE;have ak:=aa a5;clear a5;have ab:V7 (r.Gg<1)=VN:=cN WQ;have az:V7 (5<r.Gg)=VR:=eA WQ;go_wp2;go_ret;exact⟨TdR,eI.o⟩
    have a5:Ek r.Gg 5=VN:=by simp[Ek,hp1]
    rw[a5,aw lX]at HRE;have ak:=aa a5;clear a5;have ab:V7 (r.Gg<1)=VR:=eA WQ;go_wp2;go_ret;exact⟨TdR,eI.o⟩
def tK(g:af)(r:aY)(xs:wy RU):Prop:=∀(i:Nat) (d:az) (x:RU),g.Gb[i]?=Vv d->xs[i]?=Vv x->iE x (kI g r d)/\x.length<=300000/\dI x=VR
def Dk(g:af)(r:aY)(w:H7)(e:Ending)(w':H7):Prop:=Below w.1.size w w' /\
 ((¬kP g r=0/\e=S6 (Vj #[FG VX 0 0,Bm Sj (kP g r)])) \/
  (kP g r=0/\∃v xs,e=S6 (Vj #[v,Bm Sj 0])/\fH w' w.1.size v xs/\xs.length=Wq g.Gb/\tK g r xs))
def tK.snoc{xs:wy RU}(h:tK g r xs)(hd:g.Gb[xs.length]?=Vv d)(h1:iE x (kI g r d))(h2:x.length<=300000)(h3:dI x=VR):tK g r (xs++[x]):=by
 intro i d' y hd' hy;by_cases hi:i<xs.length
 ·rw[Fo hi]at hy;exact h i d' y hd' hy
 have hl:=(AT.1 hy).1;rw[cD,A4]at hl;obtain rfl:i=xs.length:=by omega
 rw[hd]at hd';obtain rfl:=gj hd';obtain rfl:x=y:=by simpa using hy
 exact⟨h1,h2,h3⟩
def zo(h:nD g r d=VN):iE [] (kI g r d):=⟨yP,fun n=>⟨fun q=>absurd q (jd n),fun q=>by rw[q.1]at h;cases h⟩⟩
def tq(h:nD g r d=VR)(hn:uM r=VN)(hx:iE x (xy g d)):iE x (kI g r d):=hx.congr fun n=>by
 unfold kI;rw[h,hn];simp
def yE(h:nD g r d=VR)(hn:uM r=VR)(hx:iE x (xy g d))(hy:iE y (Mem (mQ (jE g r.near) d.name x))):iE y (kI g r d):=hy.congr fun n=>by
 unfold kI;rw[h,hn,aw lX];refine⟨fun q=>⟨rfl,x,hx,q⟩,fun⟨_,z,hz,q⟩=>?_⟩;rwa[hx.eq hz fun _=>Iff.rfl]
def tQ(h:∀d∈g.Gb,Wq d.tags<=8)(l:QN):(kR g l).length<=l.length*8:=lY _ _ _ fun nm _=>by
 cases hf:bH g.Gb nm with
 |none=>simp[gT]
 |some d=>exact h d (eV hf)
def yO(g:af){k:Nat}{x:H6}(h:l[k]?=Vv x):kR g (l.take (k+1))=kR g (l.take k)++((bH g.Gb x).getD gT).tags:=by
 rw[take_snoc' l k x h];simp[kR]
def AA(g:af)(r:aY):(gF g r).length<=Wq g.Gb:=by
 unfold gF;split
 ·simp
 exact lq _ _ _
def E9.st(h:E9 g):∀v∈g.F9,∀s∈v.Gf,fP s->∀a∈s.Ga,0<=a.start/\a.start<=1000000:=fun v hv s hs ho a ha=>by
 have:=h.ps (aJ v.name s a) (BY.2 ⟨v,hv,BY.2 ⟨s,hs,Te8⟩⟩);simp only[aJ]at this;omega
def Tes(h:gt:=by have:=DG.o.vl;omega):=h
def Tet(h:gt:=by rw[vh];exact HD.o):=h
theorem jk{ok:LN}(g:af)(a:iX)(r:aY)(w:H7)(hg:dN ok w g a)(hi:GOk g)(hr:dK r)(hS:AW w):Calls prog 46 #[Tk (Zg g a),Tk (Tam r)] w (Dk g r w):=by
 replace hg:=aa hg;replace hi:=aa hi;replace hS:=aa hS;replace hr:=aa hr;have hA1:=ae w (Sx (Zg g a) 31);have hA2:=ae (w.alloc (Sx (Zg g a) 31)) (Sx (Tam r) 34);have US:=b9 w (Sx (Zg g a) 31);have sC:=b9 (w.alloc (Sx (Zg g a) 31)) (Sx (Tam r) 34);rw[cW]at sC;have Fm:Hid (jF ((w.alloc (Sx (Zg g a) 31)).alloc (Sx (Tam r) 34)) w.1.size (w.1.size+1) g a r):=aa ⟨(hA2.block _ (aq US)).trans US,sC⟩;have cU:=aa (hA1.trans (hA2.mono hA1.size));clear hA1 hA2 US sC;go_enter func46,ntmps46
 go_upto_region 1 with(fail);generalize RE:AI (AI w _) _=W1 at *;generalize Rz:w.1.size+1=Br at *;generalize ad2:w.1.size=Bg at *;have Tm:Hid (Below w.1.size w W1):=aa Ter;clear RE cU;have gL:=Fm.o.gc;obtain⟨g0,g1,g2,g3,g4,g5,g6,g7,g8⟩:=xr gL;have rL:=Fm.o.rc;obtain⟨r0,r1,r2,r3,r4,r5,r6⟩:=se rL;clear gL rL;have SB:=aa (yQ (ok:=ok) g a r W1 (hg.o.mv (Mv.of Tm.o)) hi.o hr.o (hS.o.below Tm.o));go_wp2_with fail;clear g0 g1 g2 g3 g4 g5 g6 g7 g8 r0 r1 r2 r3 r4 r5 r6;refine SB.o.mono ?_;clear SB;rintro e w2 ⟨rfl,hb2⟩;have cm:=YS Tm hb2;have aQ:=aa (Fm.o.below hb2);clear hb2 Tm Fm;by_cases hp:kP g r=0
 ·have qu:(kP g r != 0)=VN:=by simpa using hp
  have HP:=aa hp;clear hp;have DG:=aa (Fb hi.o.gi (D6 HP.o).1);have SC:=hr.o.n;obtain⟨r0,r1,r2,r3,r4,r5,r6⟩:=se aQ.o.rc;have hA:=ae w2 (Sx #[Bm Sj r.Gi,Bm Sj r.Gh,Bm Sj r.Gc,Bm Sj r.Gg,r.tag,r.near,r.sep,FG VX 0 0,FG VX 0 0] 151);have Qv:=aa (b9 w2 (Sx #[Bm Sj r.Gi,Bm Sj r.Gh,Bm Sj r.Gc,Bm Sj r.Gg,r.tag,r.near,r.sep,FG VX 0 0,FG VX 0 0] 151));have cJ:=YS cm hA;have C6:=aa (aQ.o.below hA);clear hA aQ;go_upto_region 5 with(fail);clear r0 r1 r2 r3 r4 r5 r6 qu;generalize b8:AI w2 _=W3 at *;generalize Y0:w2.1.size=Bj at *;clear b8;have bp:w.1.size<=Bj:=by rw[<- Y0];exact cm.o.size
  clear Y0 cm;have r5:=C6.o.rc 5 _ lX;have SD:=aq Qv.o;have az:Bg≠Bj:=fun e=>by have:=C6.o.g;rw[e,Qv.o]at this;injection this with this;injection this with _ this _;cases this
  have aA:Br≠Bj:=fun e=>by have:=C6.o.r;rw[e,Qv.o]at this;injection this with this;injection this with _ this _;cases this
  have au:Hid (gF g r=if r.near.toList.isEmpty then [] else sP g r.near):=aa lX;have bs:(gF g r).length<=8:=cA (AA g r) DG.o.dl;go_upto_if 28 with(fail)
  go_cut[7] (fun v wc=>v=SL (Vv Bj)/\∃(np:IH) (nc:Nat),wc.1[Bj]?=Vv (Sx #[Bm Sj r.Gi,Bm Sj r.Gh,Bm Sj r.Gc,Bm Sj r.Gg,r.tag,r.near,r.sep,FG np (gF g r).length nc,FG VX 0 0] 151 (0,0))/\ck aF 1 (fun b=>b≠Bj) wc [FG np (gF g r).length nc] (gF g r)/\cR (fun b=>b=Bj) W3 wc)
  case first =>
   cases hne:r.near.toList.isEmpty with
   |true =>
    rw[hne,aw lX]at au;go_wp2;go_meet;exact⟨rfl,VX,0,by rw[au.o];exact Qv.o,by rw[au.o];exact ck.nil,cR.refl _ _⟩
   |false =>
    rw[hne,bh XN]at au;obtain⟨g0,g1,g2,g3,g4,g5,g6,g7,g8⟩:=xr C6.o.gc;have Y1:=aa (Cf (ok:=ok) g a r.near W3 ((hg.o.mv (Mv.of cJ.o)).F9) ((hg.o.mv (Mv.of cJ.o)).Gb) DG.o.nd (by unfold maxLen;exact SC));go_wp2_with fail;clear g0 g1 g2 g3 g4 g5 g6 g7 g8;refine Y1.o.mono ?_;clear Y1;rintro e w4 ⟨nv,rfl,aR,aK⟩;have kf:ck aF 1 (fun b=>b≠Bj) w4 [nv] (sP g r.near):=aR.rd fun b e=>by
     have:=(fh aR b e).1;show b≠Bj;omega
    have SE:=(aK.block Bj SD).trans Qv.o;obtain⟨np,nc,rfl,bu,bz⟩:=kf.cap;replace kf:=aa kf;clear aR;replace aK:=aa aK;replace SE:=aa SE;have jf:w4.frozen? (XM Bj 7)=VN:=by simp[BT,SE.o]
    have j7:=cr SE.o 7 _ lX;go_wp2;go_meet;have gO:=block_setCell (i:=7) (FG np (sP g r.near).length nc) SE.o;refine⟨rfl,np,nc,by rw[au.o];exact gO,by rw[au.o];exact(ck.moves aF.moves).mv ⟨Tdi,fun b hb ho=>⟨ho,bw _ _ _ _ ho⟩⟩ kf.o,cR.setCell (F:=fun b=>b=Bj) (p:=⟨Bj,7,VX⟩) (cR.of_below aK.o) (.inl lX) _⟩
  case rest =>
   obtain⟨rfl,np,nc,SF,Y2,Gk⟩:=hcut;have Y3:Hid (Below w.1.size w wc):=aa (cJ.o.trans (Gk.below cJ.o.size (fun b e=>by omega)));have av:Hid (jF wc Bg Br g a r):=aa ⟨(Gk.block _ (aq C6.o.g) az).trans C6.o.g,(Gk.block _ (aq C6.o.r) aA).trans C6.o.r⟩;have Uu:=aa SF;clear SF;replace Y2:=aa Y2;have bC:=aq Uu.o;clear Gk cJ Qv C6 r5 SD au;generalize zr:gF g r=nl at *;replace zr:=aa zr;have j7:=cr Uu.o 7 _ lX;go_upto_region 8 with(fail);clear j7;have bD:=av.o.g;have WR:=Y3.o.size;go_loopw[37] (fun i wr=>∃k:Nat,k<=nl.length/\i=Bm Sj k/\cR (fun b=>b=Bj) wc wr/\∃jv,dF wr wc.1.size jv (kR g (nl.take k))/\wr.1[Bj]?=Vv (Sx #[Bm Sj r.Gi,Bm Sj r.Gh,Bm Sj r.Gc,Bm Sj r.Gg,r.tag,r.near,r.sep,FG np nl.length nc,jv] 151 (0,0))) (fun i _=>nl.length-(intOf i).toNat)
   exact⟨0,cg _,rfl,cR.refl _ _,FG VX 0 0,dF.nil _ _,Uu.o⟩;obtain⟨k,hk,rfl,Gk,jv,ag,SF⟩:=hrel;replace Gk:=aa Gk;have HOW:=aa ag;clear ag;replace SF:=aa SF;have aL:Hid (Below w.1.size w wr):=aa (Y3.o.trans (Gk.o.below WR (fun b e=>by omega)));have PJ:Hid (jF wr Bg Br g a r):=aa ⟨(Gk.o.block _ (aq av.o.g) az).trans av.o.g,(Gk.o.block _ (aq av.o.r) aA).trans av.o.r⟩;have ba:=Gk.o.size;by_cases hlt:k<nl.length
   ·obtain⟨x,hx⟩:=aj nl k hlt;obtain⟨b,off,us,rfl,gR,cX,ez,eE,aB⟩:=Y2.o.elem hx;obtain rfl:us=_:=eE;have q0:=(Gk.o.cell (p:=⟨b,off+k*1+0,VX⟩) cX gR).trans (aB 0 _ lX);rw[fp,fg]at q0;have HTS:=aa (yO g hx);have nt:=tQ DG.o.dt (nl.take k);rw[ey]at nt;clear hx aB ez;obtain⟨g0,g1,g2,g3,g4,g5,g6,g7,g8⟩:=xr PJ.o.gc;have Y4:=aa (nZ (ok:=fun b=>ok b/\b<w.1.size) g a x wr ((hg.o.mv (ok':=fun b=>ok b/\b<w.1.size) ⟨aL.o.size,fun b hb ho=>⟨⟨ho,hb⟩,aL.o.block b hb⟩⟩).Gb) (by have:=DG.o.dl;omega) (fun d hd=>by have:=DG.o.dt d hd;omega));go_wp2_with fail;clear g0 g1 g2 g3 g4 g5 g6 g7 g8 q0;refine Y4.o.mono ?_;clear Y4;rintro e w5 ⟨u,rfl,Qw,hb5⟩;have bd:((bH g.Gb x).getD gT).tags.length<=8:=by
     cases hf:bH g.Gb x with
     |none=>simp[gT]
     |some d=>exact DG.o.dt d (eV hf)
    generalize (bH g.Gb x).isSome=isd at *;generalize hd:(bH g.Gb x).getD gT=d at *;clear hd;obtain⟨tv,rfl,ew⟩:=Qw;obtain⟨tp,tc,rfl,_,_⟩:=ew.cap;have hA:=ae w5 (Sx (u0 d tp tc) 69);have sX:=aa (b9 w5 (Sx (u0 d tp tc) 69));have sh:=hb5.trans (hA.mono hb5.size);have Hx:Hid (ck aF 1 (fun _=>True) (w5.alloc (Sx (u0 d tp tc) 69)) [FG tp (Wq d.tags) tc] d.tags):=aa ((ck.moves aF.moves).mv ⟨hA.size,fun b hb _=>⟨trivial,hA.block b hb⟩⟩ ew);have Tq:=aa sh;have aC:=aa (HOW.o.below sh);have Nx:=aa ((sh.block Bj (aq SF.o)).trans SF.o);clear hA hb5 sh ew HOW SF;go_upto_region 11 with(fail);generalize be:AI w5 _=W6 at *;generalize bf:w5.1.size=Bd at *;clear be;have d6:=cr sX.o 6 _ lX;have j8:=cr Nx.o 8 _ lX;have bg:=Tq.o.size;go_wp2_with(at_builtin;refine mW (ok:=fun _=>True) lX lX wc.1.size jv (kR g (nl.take k)) d.tags lX ?c1 tp tc lX ?c2 ?c3 ?c4 ?_)
    all_goals first|(case c1=>exact aC.o)|(case c2=>exact Hx.o)|(case c3=>omega)|(case c4=>omega)|skip
    intro v' w7 Of rn aV;have SG:=(aV.block Bj (aq Nx.o) (fun e=>aC.o.ne Nx.o YR e.symm)).trans Nx.o;replace SG:=aa SG;obtain⟨pw,cw,rfl,_,_⟩:=(Of.rd (ok:=fun _=>True) (fun _ _=>trivial)).cap;replace Of:=aa Of;have Qx:Hid (cR (fun b=>b=Bj) wc w7):=aa (Gk.o.trans (cR.of_below (F:=fun _=>False) Tq.o) (fun _ f=>f.elim) |>.trans (G:=fun b=>wc.1.size<=b) ⟨rn.os,rn.tape,rn.output,rn.size,fun b hb hn=>rn.block b WQ⟩ (fun b e=>.inr e));have jf:w7.frozen? (XM Bj 8)=VN:=by simp[BT,SG.o]
    have bE:w7.cell? (XM Bj 8)=Vv jv:=by simp[AN,SG.o]
    clear rn aV d6 j8;go_wp2;go_roundw
    case rel =>
     refine⟨k+1,WQ,Zf,Qx.o.setCell (.inl lX) _,_,?_,block_setCell (i:=8) _ SG.o⟩;rw[HTS.o];have h7:=Of.o.blk (w':=w7.setCell (XM Bj 8) (FG pw ((kR g (nl.take k)).length+Wq d.tags) cw)) fun b e=>bw w7 ⟨Bj,8,VX⟩ _ b (fun q=>Of.o.ne SG.o YR (e.trans (fj Vv q)));rw[cD]at h7;exact h7
    simp[intOf];omega
   obtain rfl:k=nl.length:=by omega
   rw[cI]at HOW;have nt:=tQ DG.o.dt nl;obtain⟨jp,jc,rfl,_,_⟩:=(HOW.o.rd (ok:=fun _=>True) (fun _ _=>trivial)).cap;have Y5:=aa (HOW.o.rd (ok:=fun _=>True) (fun _ _=>trivial));have SH:Hid (ck aF 1 (fun _=>True) wr [FG np nl.length nc] nl):=aa ((ck.moves aF.moves).mv ⟨Gk.o.size,fun b hb ho=>⟨trivial,Gk.o.block b hb ho⟩⟩ Y2.o);generalize vt:kR g nl=jl at *;replace vt:=aa vt;clear HOW Gk Y2 Uu av;have Y6:Hid (qd (wr.alloc (Sx #[.func (.func 88) #[] #[],.func (.func 89) #[] #[],.func (.func 90) #[] #[],.func (.func 91) #[] #[]] 152)) wr.1.size):=aa (b9 wr _);have hA:=ae wr (Sx #[.func (.func 88) #[] #[],.func (.func 89) #[] #[],.func (.func 90) #[] #[],.func (.func 91) #[] #[]] 152);have Ix:=YS aL hA;have L1:=aa (PJ.o.below hA);have SI:=aa ((hA.block Bj (aq SF.o)).trans SF.o);have WS:=aa (gI aF.moves Y5.o hA);have WT:=aa (gI aF.moves SH.o hA);clear hA aL PJ SF Y5 SH;go_upto_region 15 with(fail);generalize bi:AI wr _=W8 at *;generalize Uc:wr.1.size=Bc at *;clear bi;have g6:=L1.o.gc 6 _ lX;go_upto_region 16 with(fail);clear g6;have Wt:Hid (ck aO 7 (fun b=>b<w.1.size) W8 [FG a.dp (Wq g.Gb) a.dc] g.Gb):=aa ((hg.o.mv (ok':=fun b=>b<w.1.size) ⟨Ix.o.size,fun b hb _=>⟨hb,Ix.o.block b hb⟩⟩).Gb);have Q5:Hid (dN (fun b=>b<w.1.size) W8 g a):=aa (hg.o.mv (ok':=fun b=>b<w.1.size) ⟨Ix.o.size,fun b hb _=>⟨hb,Ix.o.block b hb⟩⟩);have CD:=DG.o.dl;have aE:=Ix.o.size;generalize Wu:a.dp=dpx at *;generalize Wv:a.dc=dcx at *;clear Wu Wv;go_loopw[13,58] (fun ov i wr=>∃m:Nat,m<=Wq g.Gb/\i=Bm Sj m/\Below W8.1.size W8 wr/\∃xs,fH wr W8.1.size ov xs/\xs.length=m/\tK g r xs) (fun _ i _=>Wq g.Gb-(intOf i).toNat)
   exact⟨0,cg _,rfl,bj _ _,[],fH.nil _ _,rfl,fun i d x _ h=>by cases h⟩;obtain⟨m,hm,rfl,hB,xs,ag,vh,Uv⟩:=hrel;replace hB:=aa hB;have HOW:=aa ag;clear ag;replace Uv:=aa Uv;have ba:=hB.o.size;by_cases hlt:m<Wq g.Gb
   ·obtain⟨d,hd⟩:=aj g.Gb m hlt;obtain⟨b,off,us,yp,gR,cX,ez,eE,aB⟩:=Wt.o.elem hd;obtain⟨tv,rfl,ew⟩:=eE;obtain⟨tp,tc,rfl,_,_⟩:=ew.cap;have cT:wr.1[b]?=W8.1[b]?:=hB.o.block b cX;have bd:=DG.o.dt d (ct hd);have kj:=aa (DG.o.de d (ct hd));have WU:=aa (DG.o.df m d hd);have HD:=aa hd;clear hd;subst yp;obtain⟨q0,q1,q2,q3,q4,q5,q6⟩:=sw7 cT aB;clear aB ez cT;have hA:=ae wr (Sx (u0 d tp tc) 69);have sX:=aa (b9 wr (Sx (u0 d tp tc) 69));have ao:=hB.o.trans (hA.mono hB.o.size);have J1:=aa ao;have aG:=aa (HOW.o.below hA);have Hx:Hid (ck aF 1 (fun _=>True) (wr.alloc (Sx (u0 d tp tc) 69)) [FG tp (Wq d.tags) tc] d.tags):=aa ((ck.moves aF.moves).mv ⟨ao.size,fun b hb _=>⟨trivial,ao.block b hb⟩⟩ ew);have Y7:Hid (kF (wr.alloc (Sx (u0 d tp tc) 69)) Bj wr.1.size r np jp nc jc nl jl d tp tc):=aa ⟨⟨(ao.block Bj (aq SI.o)).trans SI.o,sX.o⟩,gI aF.moves WT.o ao,gI aF.moves WS.o ao,Hx.o⟩;have aW:=aa (oD Y7.o ((ao.block Bc (aq Y6.o)).trans Y6.o) WQ WQ WQ);have Kp:Hid (nD g r d=iD nl jl r d):=aa (by unfold nD;rw[zr.o,vt.o]);clear hA ao ew Hx Y7 HOW hB;go_upto_region 18 with(fail);clear q0 q1 q2 q3 q4 q5 q6;generalize bk:AI wr _=W9 at *;generalize bf:wr.1.size=Bd at *;clear bk;go_wp2_with fail;refine aW.o.mono ?_;clear aW;rintro e aN ⟨rfl,am⟩;have Ax:=YS J1 am;have ah:=aa (aG.o.below am);have aS:=Zl am sX;have ai:=Ax.o.size;clear am J1 aG sX;cases Uw:iD nl jl r d with
    |false =>
     have HPN:=aa (zo (Kp.o.trans Uw));clear Uw;go_wp2_with(at_builtin;refine iA lX lX W8.1.size xs (FG VX 0 0) [] lX ?c1 ?c2 aN.1.size 1 lX ?c3 ?c4 ?c5 ?_)
     all_goals first|(case c1=>exact ah.o.below (ae _ _))|(case c2=>exact bM.nil _ _)|(case c3=>exact aD lX rfl)|(case c4=>omega)|(case c5=>simp;omega)|skip
     intro v' aP Of a7 _;have C7:=aa ((Ax.o.alloc ai _).trans a7);have a8:=aa Of;clear Of a7;go_wp2;go_roundw;exact⟨m+1,WQ,Zf,C7.o,_,a8.o,by simp[vh],Uv.o.snoc Tet HPN.o XN lX⟩;exact Ti
    |true =>
     have Qo:=aa (Kp.o.trans Uw);clear Uw;have L3:Hid (jF aN Bg Br g a r):=aa ⟨(Ax.o.block _ (aq L1.o.g)).trans L1.o.g,(Ax.o.block _ (aq L1.o.r)).trans L1.o.r⟩;obtain⟨g0,g1,g2,g3,g4,g5,g6,g7,g8⟩:=xr L3.o.gc;have d0:=cr aS.o 0 _ lX;have ak:dN (fun b=>b<w.1.size) aN g a:=Q5.o.mv ⟨Ax.o.size,fun b hb ho=>⟨ho,Ax.o.block b hb⟩⟩;have SJ:=aa (Di (ok:=fun b=>b<w.1.size) g.name g.id g.seq g.Gd g.next a.tp a.dp a.vp a.hp (Wq g.tags) a.tc a.dc a.vc (Wq g.history) a.hc g.Gb g.F9 d.name aN ak.Gb WQ (fun D hD=>by have:=DG.o.dt D hD;omega) (fun D hD=>by have:=DG.o.de D hD;omega) ak.F9 Tes DG.o.tm (fun p hp=>by have:=DG.o.ps p hp;omega) (by have:=DG.o.pn;omega));clear ak;go_wp2_with fail;clear g0 g1 g2 g3 g4 g5 g6 g7 g8 d0;refine SJ.o.mono ?_;clear SJ;intro e aP hf;unfold zR at hf;rw[WU.o]at hf;obtain⟨fv,x,rfl,SK,aX,SM,hfl,a7⟩:=hf;have CM:=aa (SK.mono (B':=W8.1.size) ai);clear SK;have HFN:Hid (iE x (xy g d)):=aa aX;clear aX;replace SM:=aa SM;have bl:=DG.o.pn;have PK:x.length<=30000:=by omega
     clear hfl bl;have C7:=aa (Ax.o.trans (a7.mono ai));have a8:=aa (ah.o.below a7);have aZ:=aa (L3.o.below a7);have SN:=Zl a7 aS;have ab:=C7.o.size;clear a7 Ax ah L3 aS;go_upto_region 23 with(fail);obtain⟨r0,r1,r2,r3,r4,r5,r6⟩:=se aZ.o.rc;have HIN:Hid (uM r=(r.Gg==1&&!r.near.toList.isEmpty)):=aa lX;have key:(r.Gg==1)=VN\/((r.Gg==1)=VR/\r.near.toList.isEmpty=VR)\/((r.Gg==1)=VR/\r.near.toList.isEmpty=VN):=by
      cases (r.Gg==1)<;>cases r.near.toList.isEmpty<;>simp
     rcases key with h1|⟨h1,h2⟩|⟨h1,h2⟩
     ·rw[h1]at HIN;have aH:=aa (tq Qo.o HIN.o HFN.o);obtain⟨pf,nf,cf,rfl⟩:=CM.o.slice;go_wp2_with(at_builtin;refine iA lX lX W8.1.size xs (FG pf nf cf) x lX ?c1 ?c2 aP.1.size 1 lX ?c3 ?c4 ?c5 ?_)
      all_goals first|(case c1=>exact a8.o.below (ae _ _))|(case c2=>exact CM.o.below (ae _ _))|(case c3=>exact aD lX rfl)|(case c4=>omega)|(case c5=>simp;omega)|skip
      intro v' aT Of a5 _;have ay:=aa ((C7.o.alloc ab _).trans a5);have a9:=aa Of;clear Of a5;go_wp2;go_roundw;exact⟨m+1,WQ,Zf,ay.o,_,a9.o,by simp[vh],Uv.o.snoc Tet aH.o WQ SM.o⟩;exact Ti
     ·rw[h1,h2]at HIN;have aH:=aa (tq Qo.o HIN.o HFN.o);obtain⟨pf,nf,cf,rfl⟩:=CM.o.slice;go_wp2_with(at_builtin;refine iA lX lX W8.1.size xs (FG pf nf cf) x lX ?e1 ?e2 aP.1.size 1 lX ?e3 ?e4 ?e5 ?_)
      all_goals first|(case e1=>exact a8.o.below (ae _ _))|(case e2=>exact CM.o.below (ae _ _))|(case e3=>exact aD lX rfl)|(case e4=>omega)|(case e5=>simp;omega)|skip
      intro v' aT Of a5 _;have ay:=aa ((C7.o.alloc ab _).trans a5);have a9:=aa Of;clear Of a5;go_wp2;go_roundw;exact⟨m+1,WQ,Zf,ay.o,_,a9.o,by simp[vh],Uv.o.snoc Tet aH.o WQ SM.o⟩;exact Ti
     rw[h1,h2]at HIN;obtain⟨g0,g1,g2,g3,g4,g5,g6,g7,g8⟩:=xr aZ.o.gc;have d0:=cr SN.o 0 _ lX;have qu:∀p∈x,0<=p.1/\1<=p.2/\p.1+p.2<=1073741824:=fun p hp=>by
      have c:=HFN.o.1.1 p hp;have c1:=((HFN.o.2 p.1).1 ⟨p,hp,WQ,WQ⟩).1;have c2:=((HFN.o.2 (p.1+p.2-1)).1 ⟨p,hp,WQ,WQ⟩).1;have:=kj.o;omega
     have PH:Hid ((jE g r.near).length<=10):=aa (by
      refine cA (Bu (m:=6) ?_) WQ;cases hf:aM g.F9 r.near with
      |none=>intro s hs;simp[eY]at hs
      |some v=>exact fun s hs=>DG.o.a6 v (eV hf) s hs)
     have TM:=aa (yI (ok:=fun b=>b<w.1.size) g a r.near d.name x fv aP ((Q5.o.mv (ok':=fun b=>b<w.1.size) ⟨C7.o.size,fun b hb ho=>⟨ho,C7.o.block b hb⟩⟩).F9) DG.o.nd.us.sz DG.o.tm DG.o.st CM.o.rd qu PK PH.o);clear qu;go_wp2_with fail;clear g0 g1 g2 g3 g4 g5 g6 g7 g8 d0 r0 r1 r2 r3 r4 r5 r6;refine TM.o.mono ?_;clear TM;rintro e aT ⟨yv,y,rfl,SP,aU,hyl,a5⟩;have Y8:=aa (SP.mono (B':=W8.1.size) ab);clear SP;have aH:=aa (yE Qo.o HIN.o HFN.o aU);have bm:Hid (dI y=VR):=aa (jC aU (xS fun p hp=>by
      have c:=HFN.o.1.1 p hp;have c1:=((HFN.o.2 p.1).1 ⟨p,hp,WQ,WQ⟩).1;have c2:=((HFN.o.2 (p.1+p.2-1)).1 ⟨p,hp,WQ,WQ⟩).1;have:=kj.o;omega))
     have ay:=aa (C7.o.trans (a5.mono ab));have a9:=aa (a8.o.below a5);have aI:=ay.o.size;clear a5 aU;obtain⟨pf,nf,cf,rfl⟩:=Y8.o.slice;go_wp2_with(at_builtin;refine iA lX lX W8.1.size xs (FG pf nf cf) y lX ?f1 ?f2 aT.1.size 1 lX ?f3 ?f4 ?f5 ?_)
     all_goals first|(case f1=>exact a9.o.below (ae _ _))|(case f2=>exact Y8.o.below (ae _ _))|(case f3=>exact aD lX rfl)|(case f4=>omega)|(case f5=>simp;omega)|skip
     intro v' bF Of aJ _;have WX:=aa ((ay.o.alloc aI _).trans aJ);replace Of:=aa Of;clear aJ;go_wp2;go_roundw;exact⟨m+1,WQ,Zf,WX.o,_,Of.o,by simp[vh],Uv.o.snoc Tet aH.o WQ bm.o⟩;exact Ti
   obtain rfl:m=Wq g.Gb:=by omega
   have B3:=aa (Ix.o.trans (hB.o.mono aE));go_wp2;go_ret2;exact⟨B3.o,.inr ⟨HP.o,_,xs,rfl,HOW.o.mono aE,vh,Uv.o⟩⟩
 have qu:(kP g r != 0)=VR:=by simpa using hp
 have HP:=aa hp;clear hp;go_wp2;go_ret2;exact⟨cm.o,.inl ⟨HP.o,rfl⟩⟩
attribute [local go_sem] Oper.semAt_some
def MH:Code->Option Code
 |.rangeFunc g ps a b=>Vv (.rangeFunc g ps a b)
 |.seq a b=>match MH a with
  |some c=>Vv c
  |none=>MH b
 |.block _ c=>MH c
 |.loop c=>MH c
 |.scope c=>MH c
 |.cond _ a b=>match MH a with
  |some c=>Vv c
  |none=>MH b
 |_=>VX
end
section
open Go.RowKit Go.Shelf
attribute [local go_sem] Oper.semAt_some
end
section
open Go.RowKit
variable {w0 w w':H7}{bs Bg Bq:Nat}{g:af}{a:iX}{r:aY}{n:Int}{s:H6}
def mO(r:aY):zY:=Tk (Tam r)
structure sj(r:aY):Prop where
 i:dK r
 x:r.Gc<=12\/4096<=r.Gc
def F7(bs:Nat)(w:H7)(e:Ending)(w':H7):Prop:=∃r:aY,e=S6 (mO r)/\sj r/\Src w' bs/\cR (fun b=>b=bs) w w'
def TaP :Tab #[Bm Sj 0,Bm Sj 0,Bm Sj 0,Bm Sj 0,By ⟨#[]⟩,By ⟨#[]⟩,By ⟨#[]⟩]:=⟨⟩
structure kD(w0:H7)(bs Bg Bq:Nat)(g:af)(a:iX)(r:aY)(w:H7):Prop where
 src:Src w bs
 md:cR (fun b=>b=bs) w0 w
 gb:w.heap[Bg]?=Vv (Sx (Zg g a) 31 (0,0))
 rb:w.heap[Bg+1]?=Vv (Sx TaP 34 (0,0))
 qb:w.heap[Bq]?=Vv (Sx (Tam r) 34 (0,0))
 rq:sj r
def kD.call(h:kD w0 bs Bg Bq g a r w)(hs:Src w' bs)(hm:cR (fun i=>i=bs) w w')(hg:Bg≠bs)(hr:Bg+1≠bs)(hq:Bq≠bs):kD w0 bs Bg Bq g a r w' :=
 ⟨hs,h.md.trans hm (fun _ e=>.inl e),(hm.block _ (aq h.gb) hg).trans h.gb,(hm.block _ (aq h.rb) hr).trans h.rb,(hm.block _ (aq h.qb) hq).trans h.qb,h.rq⟩
def kD.below(h:kD w0 bs Bg Bq g a r w)(hb:Below w.1.size w w'):kD w0 bs Bg Bq g a r w' :=
 ⟨h.src.keep fun i hi=>hb.block i (rr hi h.src.lt),h.md.trans (cR.of_below (F:=fun _=>False) hb) (fun _ f=>f.elim),(hb.block _ (aq h.gb)).trans h.gb,(hb.block _ (aq h.rb)).trans h.rb,(hb.block _ (aq h.qb)).trans h.qb,h.rq⟩
def kD.set(h:kD w0 bs Bg Bq g a r w)(r':aY)(j:Nat)(v:zY)(hv:(#[Bm Sj r.Gi,Bm Sj r.Gh,Bm Sj r.Gc,Bm Sj r.Gg,By r.tag,By r.near,By r.sep]:Array zY).setIfInBounds j v=#[Bm Sj r'.Gi,Bm Sj r'.Gh,Bm Sj r'.Gc,Bm Sj r'.Gg,By r'.tag,By r'.near,By r'.sep])(hr:sj r')(hg:Bg≠Bq)(a5:Bg+1≠Bq)(hq:bs<Bq)(h0:w0.1.size<=Bq) :
  kD w0 bs Bg Bq g a r' (w.setCell (Bq,j) v) :=
 ⟨h.src.keep fun i hi=>bw _ _ _ _ (by show i≠Bq;omega),h.md.setCell (.inr h0) _,(bw _ _ _ _ hg).trans h.gb,(bw _ _ _ _ a5).trans h.rb,(block_setCell v h.qb).trans (by rw[hv]),hr⟩
def kD.qc(h:kD w0 bs Bg Bq g a r w)(i:Nat)(z:zY)(hz:[Bm Sj r.Gi,Bm Sj r.Gh,Bm Sj r.Gc,Bm Sj r.Gg,By r.tag,By r.near,By r.sep][i]?=Vv z):w.cell? (Bq,i)=Vv z:=by
 simp only[AN,h.qb];simpa using hz
def kD.qf(h:kD w0 bs Bg Bq g a r w)(i:Nat):w.frozen? (Bq,i)=VN:=by simp[BT,h.qb]
def sj.setL(h:sj r)(hn:-9223372036854775808<=n/\n<=9223372036854775807):sj { r with Gi:=n }:=⟨⟨hn,h.i.s,h.i.e,h.i.p,h.i.t,h.i.n,h.i.q⟩,h.x⟩
def sj.setS(h:sj r)(hn:-9223372036854775808<=n/\n<=9223372036854775807):sj { r with Gh:=n }:=⟨⟨h.i.l,hn,h.i.e,h.i.p,h.i.t,h.i.n,h.i.q⟩,h.x⟩
def sj.setE(h:sj r)(hn:-1<=n/\n<=4097/\(n<=12\/4096<=n)):sj { r with Gc:=n }:=⟨⟨h.i.l,h.i.s,⟨by show(-9223372036854775808:Int)<=n;omega,by show n<=9223372036854775807;omega⟩,h.i.p,h.i.t,h.i.n,h.i.q⟩,hn.2.2⟩
def sj.setP(h:sj r)(hn:-9223372036854775808<=n/\n<=9223372036854775807):sj { r with Gg:=n }:=⟨⟨h.i.l,h.i.s,h.i.e,hn,h.i.t,h.i.n,h.i.q⟩,h.x⟩
def sj.setT(h:sj r)(hn:s.size<=9223372036854775807):sj { r with tag:=s }:=⟨⟨h.i.l,h.i.s,h.i.e,h.i.p,hn,h.i.n,h.i.q⟩,h.x⟩
def sj.setN(h:sj r)(hn:s.size<=9223372036854775807):sj { r with near:=s }:=⟨⟨h.i.l,h.i.s,h.i.e,h.i.p,h.i.t,hn,h.i.q⟩,h.x⟩
def sj.setQ(h:sj r)(hn:s.size<=9223372036854775807):sj { r with sep:=s }:=⟨⟨h.i.l,h.i.s,h.i.e,h.i.p,h.i.t,h.i.n,hn⟩,h.x⟩
def lV(w:H7)(l:PI)(t:TypeId):ig (w.alloc (Sx (l.map (Bm Sj)).toArray t)) w.1.size 0 l:=fun i n hn=>by
 rw[eJ];exact aD lX (by simp[hn])
def uW(w:H7)(l:QN)(t:TypeId)(ok:LN)(gw:ok w.1.size)(hl:l.length<=1000):ck aF 1 ok (w.alloc (Sx (l.map By).toArray t)) [FG (Vv w.1.size) l.length l.length] l :=
 ⟨_,l.length,rfl,bk _,WQ,fun _=>⟨w.1.size,0,rfl,XN,gw,fun i x hx=>⟨[By x],rfl,rfl,fun j z hz=>by
  match j,hz with
  |0,hz =>
   obtain rfl:By x=z:=by simpa using hz
   exact aD lX (by simp[hx])⟩⟩⟩
def qj:QN:=[⟨#[102,97,115,116]⟩,⟨#[115,105,116,101,61,49]⟩,⟨#[99,111,108,100]⟩,⟨#[122,122]⟩]
def qF:QN:=[⟨#[115,105,116,101,61]⟩,⟨#[102]⟩,⟨#[115]⟩]
def A9:∀s∈qj,s.size<=9223372036854775807:=fun s hs=>by
 simp only[qj,dr,cY,dg]at hs;rcases hs with rfl|rfl|rfl|rfl<;>decide
def AO:∀s∈qF,s.size<=9223372036854775807:=fun s hs=>by
 simp only[qF,dr,cY,dg]at hs;rcases hs with rfl|rfl|rfl<;>decide
def TaS(x0:Int)(x1:Int)(x2:Int)(x3:Int):Tab #[Bm Sj x0,Bm Sj x1,Bm Sj x2,Bm Sj x3,By ⟨#[]⟩,By ⟨#[]⟩,By ⟨#[]⟩]:=⟨⟩
def Tbn(h:gt:=by
 ·have hk:∀(V:H7) (o:Nat) (z:zY),cR (fun b=>b=bs) w V->cR (fun b=>b=bs) w (V.setCell ⟨Bg+1,o,VX⟩ z):=fun V o z q=>q.setCell (p:=⟨Bg+1,o,VX⟩) (.inr (by show w.1.size<=Bg+1;omega)) z
  exact hk _ _ _ (hk _ _ _ (hk _ _ _ (hk _ _ _ (hk _ _ _ (hk _ _ _ (hk _ _ _ HS6.o.md))))))):=h
def Tbr(h:gt:=by
 have hk:∀(V:H7) (o:Nat) (z:zY),Src V bs->Src (V.setCell ⟨Bg+1,o,VX⟩ z) bs:=fun V o z q=>q.keep fun i hi=>bw _ _ _ _ (by show i≠Bg+1;omega)
 exact hk _ _ _ (hk _ _ _ (hk _ _ _ (hk _ _ _ (hk _ _ _ (hk _ _ _ (hk _ _ _ HS6.o.src))))))):=h
def TdO(h:gt:=by simp[mO,results,Tryz.results6,go_sem,b0,b1,b2,b3,b4,b5,b6]):=h
def TeI(h:gt:=by show ByteArray.size ⟨#[]⟩<=_;decide):=h
theorem wX(g:af)(a:iX)(bs:Nat)(w:H7)(hr:ck aN 6 (fun b=>b≠bs) w [FG a.vp (Wq g.F9) a.vc] g.F9)(mb:Wq g.F9<=1000)(hvn:∀v∈g.F9,v.name.size<=9223372036854775807)(h:Src w bs):Calls prog 6 #[SL (Vv bs),Tk (Zg g a)] w (F7 bs w):=by
 replace hr:=aa hr;replace hvn:=aa hvn;have gO:=h.lt;have hA1:=ae w (Sx (Zg g a) 31);have hA2:=ae (w.alloc (Sx (Zg g a) 31)) (Sx TaP 34);have US:=b9 w (Sx (Zg g a) 31);have sC:=b9 (w.alloc (Sx (Zg g a) 31)) (Sx TaP 34);rw[cW]at sC;have rB:=aa ((hA2.block _ (aq US)).trans US);have yi:=aa sC;have aB:=hA1.trans (hA2.mono hA1.size);have Ta:Hid (cR (fun b=>b=bs) w _):=aa (cR.of_below aB);have am:=aa (h.keep fun i hi=>aB.block i WQ);clear hA1 hA2 US sC aB;go_enter func6,ntmps6
 go_upto_region 1 with(fail);generalize aX:AI (AI w _) _=W2 at *;generalize b8:w.1.size=Bg at *;clear aX;go_wp2_with fail;refine(bO bs 1 3 W2 WQ WQ WQ am.o).mono ?_;rintro e w3 ⟨n1,rfl,XG,XH,hs3,aL⟩;go_wp2_with fail;have aM:=aa (lV w3 [1,1,2] 3);have hA3:=ae w3 (Sx ([1,1,2].map (Bm Sj)).toArray 3);have aA:Src w3 bs:=hs3;refine(jD bs w3.1.size 3 [1,1,2] YR YR YR YR XN (by have:=aA.lt;omega) aM.o (aA.keep fun i hi=>hA3.block i (rr hi aA.lt))).mono ?_;rintro e w4 ⟨n2,rfl,hn2,aO,aP⟩;have aD:=(aL.trans (cR.of_below (F:=fun _=>False) hA3) (fun _ f=>f.elim)).trans aP (fun _ e=>.inl e);clear aM hA3 aL aP hs3 aA;go_wp2_with fail;refine(bO bs 1 12 w4 WQ WQ WQ aO).mono ?_;rintro e w5 ⟨n3,rfl,XI,XJ,aQ,aR⟩;go_wp2_with fail;refine(bO bs 1 5 w5 WQ WQ WQ aQ).mono ?_;rintro e w6 ⟨n4,rfl,XK,XL,aF,aS⟩;have ah:=(aD.trans aR (fun _ e=>.inl e)).trans aS (fun _ e=>.inl e);have aG:1<=n2/\n2<=2:=by
  simp only[dr,cY,dg]at hn2;omega
 clear aD aR aS aO aQ hn2;have aE:=ae w6 (Sx (TaS n1 n2 n3 n4) 34);have aT:=b9 w6 (Sx (TaS n1 n2 n3 n4) 34);have ye:Bg<W2.1.size:=aq rB.o;have ag:Bg+1<W2.1.size:=aq yi.o;have aH:Hid (kD w bs Bg w6.1.size g a ⟨n1,n2,n3,n4,⟨#[]⟩,⟨#[]⟩,⟨#[]⟩⟩ (w6.alloc (Sx (TaS n1 n2 n3 n4) 34))):=aa
  ⟨(show Src w6 bs from aF).keep fun i hi=>aE.block i (rr hi (show Src w6 bs from aF).lt),(Ta.o.trans ah (fun _ e=>.inl e)).trans (cR.of_below (F:=fun _=>False) aE) (fun _ f=>f.elim),
   (aE.block _ (cC ye ah.size)).trans ((ah.block _ ye WQ).trans rB.o),(aE.block _ (cC ag ah.size)).trans ((ah.block _ ag WQ).trans yi.o),aT,
   ⟨⟨Tdf,Tdf,Tdf,Tdf,TeI,TeI,TeI⟩,.inl Tdf⟩⟩
 have ba:Bg+1<w6.1.size:=cC ag ah.size;clear aE aT aF ah rB yi Ta am;go_upto_region 2 with(fail);generalize aY:AI w6 _=W7 at *;generalize PF:w6.1.size=Bq at *;clear aY PF XG XH aG XI XJ XK XL ye ag;have av:Bg≠Bq:=by omega
 have aw:Bg+1≠Bq:=by omega
 have ay:bs<Bq:=by omega
 have az:w.1.size<=Bq:=by omega
 have ye:Bg≠bs:=by omega
 have ag:Bg+1≠bs:=by omega
 have ao:Bq≠bs:=by omega
 go_wp2_with fail;refine(bY bs 2 W7 WQ WQ aH.o.src).mono ?_;rintro e w8 ⟨n,rfl,_,_,ab,a9⟩;have a5:=aa (aH.o.call ab a9 ye ag ao);clear ab a9 aH;go_upto_if 18 with(fail)
 go_cut[5] (fun v wc=>v=SL (Vv Bq)/\∃r,kD w bs Bg Bq g a r wc)
 case first =>
  have qL:=a5.o.qc;obtain⟨q0,q1,q2,q3,q4,q5,q6⟩:=se qL;have qf:=a5.o.qf;clear qL;by_cases hn:n=0
  ·subst hn;go_wp2;go_meet;exact⟨rfl,_,((a5.o.set ⟨1,n2,n3,n4,⟨#[]⟩,⟨#[]⟩,⟨#[]⟩⟩ 0 (Bm Sj 1) lX (a5.o.rq.setL WQ) av aw ay az).set ⟨1,1,n3,n4,⟨#[]⟩,⟨#[]⟩,⟨#[]⟩⟩ 1 (Bm Sj 1) lX ((a5.o.rq.setL WQ).setS WQ) av aw ay az)⟩
  go_wp2;go_meet;exact⟨rfl,_,a5.o⟩
 case rest =>
  obtain⟨rfl,r1,hst⟩:=hcut;have HS:=aa hst;clear hst a5;go_upto_region 4 with(fail);go_cut[39] (fun v wx=>∃c:Bool,v=Ft c/\(c=VR->0<Wq g.F9)/\kD w bs Bg Bq g a r1 wx)
  case first =>
   have g7:=cr HS.o.gb 7 _ lX;by_cases h0:0<Wq g.F9
   ·go_wp2_with fail;refine(bY bs 2 wc WQ WQ HS.o.src).mono ?_;rintro e w8 ⟨n,rfl,_,_,ab,a9⟩;have a5:=aa (HS.o.call ab a9 ye ag ao);clear ab a9 g7;have q3:=a5.o.qc 3 _ lX;by_cases hn:n=0
    ·subst hn;go_wp2;go_meet;exact⟨_,rfl,fun _=>h0,a5.o⟩
    have sy:(n==0)=VN:=by simpa using hn
    cases h2:(r1.Gg==2)with
    |true =>
     go_wp2;go_meet;exact⟨_,rfl,fun _=>h0,a5.o⟩
    |false =>
     go_wp2;go_meet;exact⟨_,rfl,fun _=>h0,a5.o⟩
   go_wp2;go_meet;exact⟨VN,rfl,fun h=>(by cases h),HS.o⟩
  case rest =>
   obtain⟨c,rfl,hc0,hst⟩:=hcut;have am:=aa hst;clear hst HS;go_upto_if 39 with(fail)
   go_cut[5] (fun v wx=>v=SL (Vv Bq)/\∃r,kD w bs Bg Bq g a r wx)
   case first =>
    cases c with
    |false =>
     go_wp2;go_meet;exact⟨rfl,_,am.o⟩
    |true =>
     have hv0:=hc0 lX;go_upto_region 5 with(fail);have UL:Hid (∀w':H7,w'.1[Bg]?=wc.1[Bg]?->w'.cell? (XM Bg 7)=Vv (FG a.vp (Wq g.F9) a.vc)):=aa fun w' e=>by
      have:=e.trans am.o.gb;simp[AN,this]
     refine gW (fun w'=>w'.cell? (XM Bg 7)=Vv (FG a.vp (Wq g.F9) a.vc)) 7 [] Yp (UL.o _ lX) (fun a8=>?_);refine fS 0 a8 ?_;refine fS 1 a8 ?_;refine fS 2 a8 ?_;refine fS 3 a8 ?_;refine fS 4 a8 ?_;refine fS 5 a8 ?_;refine lR 6 fun K hK=>?_;go_simp;refine(bY bs (Wq g.F9:Int) wc.drew WQ WQ (am.o.src.keep fun _ _=>rfl)).mono ?_;rintro e w8 ⟨n,rfl,hn1,hn2,ab,a9⟩;have aC:cR (fun i=>i=bs) wc w8:=⟨a9.os,a9.tape,a9.output,a9.size,a9.block⟩;have a5:=aa (am.o.call ab aC ye ag ao);have Zo:=aa aC;refine hK.o _ _ (UL.o _ ((a5.o.gb).trans am.o.gb.symm)) ?_;clear hK K a8 ab a9 aC;obtain⟨k,rfl⟩:=D4 hn1;obtain⟨v,hv⟩:=aj g.F9 k WQ;have aU:ck aN 6 (fun b=>b≠bs) w8 [FG a.vp (Wq g.F9) a.vc] g.F9:=(ck.moves aN.moves).mv ⟨(am.o.md.trans Zo.o (fun _ e=>.inl e)).size,fun b hb ho=>⟨ho,(am.o.md.trans Zo.o (fun _ e=>.inl e)).block b hb ho⟩⟩ hr.o;obtain⟨b,off,us,yp,gR,cX,ez,eE,aV⟩:=aU.elem hv;obtain⟨tv,sv,rfl,_,_⟩:=eE;have v0:=aV 0 _ lX;rw[fg]at v0;have aZ:=hvn.o v (ct hv);have bd:k<Wq g.F9:=by omega
     rw[yp];have qL:=a5.o.qc;have q5:=qL 5 _ lX;have qf:=a5.o.qf;clear qL hv aV ez aU;have TK:=aa (a5.o.set { r1 with near:=v.name } 5 (By v.name) lX (a5.o.rq.setN aZ) av aw ay az);have g7:=UL.o w8 ((a5.o.gb).trans am.o.gb.symm);have aW:=UL.o (w8.setCell (XM Bq 5) (By v.name)) ((TK.o.gb).trans am.o.gb.symm);rw[yp]at g7 aW;refine lR 7 fun K hK=>?_;go_simp;refine hK.o _ _ g7 ?_;clear hK K;refine lR 8 fun K hK=>?_;go_simp;refine hK.o _ _ g7 ?_;clear hK K;refine lR 9 fun K hK=>?_;go_simp;refine hK.o _ _ g7 ?_;clear hK K;refine lR 10 fun K hK=>?_;go_simp;refine hK.o _ _ g7 ?_;clear hK K;refine lR 11 fun K hK=>?_;go_simp;refine hK.o _ _ aW ?_;clear hK K;refine⟨Yp,?_⟩;rw[<- yp];clear yp;go_wp2;go_meet;exact⟨rfl,_,TK.o⟩
   case rest =>
    obtain⟨rfl,r2,hst⟩:=hcut;have aI:=aa hst;clear hst am hc0;go_wp2_with fail;refine(bY bs 4 _ WQ WQ aI.o.src).mono ?_;rintro e w8 ⟨n,rfl,_,_,ab,a9⟩;have a5:=aa (aI.o.call ab a9 ye ag ao);clear ab a9;go_upto_if 53 with(fail)
    go_cut[5] (fun v wx=>v=SL (Vv Bq)/\∃r,kD w bs Bg Bq g a r wx)
    case first =>
     by_cases hn:n=0
     ·subst hn;have hA:=ae w8 (Sx (qj.map By).toArray 9);have au:=aa (a5.o.below hA);have hne:w8.1.size≠bs:=by have:=a5.o.src.lt;omega
      have HW:=aa (qH bs 4 (Vv ⟨w8.1.size,0,VX⟩) qj YR YR (uW w8 qj 9 (fun k=>k≠bs) hne YR) au.o.src);clear hA;go_wp2_with fail;refine HW.o.mono ?_;rintro e w9 ⟨s,rfl,aJ,ai,ak⟩;have a7:=aa (au.o.call ai ak ye ag ao);clear ai ak;have q4:=a7.o.qc 4 _ lX;have qf:=a7.o.qf;have zc:=A9 s aJ;go_wp2;go_meet;exact⟨rfl,_,a7.o.set { r2 with tag:=s } 4 (By s) lX (a7.o.rq.setT zc) av aw ay az⟩
     go_wp2;go_meet;exact⟨rfl,_,a5.o⟩
    case rest =>
     obtain⟨rfl,r3,hst⟩:=hcut;have aK:=aa hst;clear hst aI a5;go_wp2_with fail;refine(bY bs 3 _ WQ WQ aK.o.src).mono ?_;rintro e w8 ⟨n,rfl,_,_,ab,a9⟩;have a5:=aa (aK.o.call ab a9 ye ag ao);clear ab a9;go_upto_if 60 with(fail)
     go_cut[5] (fun v wx=>v=SL (Vv Bq)/\∃r,kD w bs Bg Bq g a r wx)
     case first =>
      by_cases hn:n=0
      ·subst hn;have hA:=ae w8 (Sx (qF.map By).toArray 9);have au:=aa (a5.o.below hA);have hne:w8.1.size≠bs:=by have:=a5.o.src.lt;omega
       have HW:=aa (qH bs 3 (Vv ⟨w8.1.size,0,VX⟩) qF YR YR (uW w8 qF 9 (fun k=>k≠bs) hne YR) au.o.src);clear hA;go_wp2_with fail;refine HW.o.mono ?_;rintro e w9 ⟨s,rfl,aJ,ai,ak⟩;have a7:=aa (au.o.call ai ak ye ag ao);clear ai ak;have q6:=a7.o.qc 6 _ lX;have qf:=a7.o.qf;have zc:=AO s aJ;go_wp2;go_meet;exact⟨rfl,_,a7.o.set { r3 with sep:=s } 6 (By s) lX (a7.o.rq.setQ zc) av aw ay az⟩
      go_wp2;go_meet;exact⟨rfl,_,a5.o⟩
     case rest =>
      obtain⟨rfl,r4,hst⟩:=hcut;replace hst:=aa hst;clear aK a5;go_wp2_with fail;refine(bY bs 20 _ WQ WQ hst.o.src).mono ?_;rintro e w8 ⟨n,rfl,_,_,ab,a9⟩;have a5:=aa (hst.o.call ab a9 ye ag ao);clear ab a9;have qf:=a5.o.qf;obtain⟨q0,q1,q2,q3,q4,q5,q6⟩:=se a5.o.qc;by_cases h0:n=0
      ·subst h0;have HC:=aa (lV w8 [0,-1,6,7,1099511627776] 3);have hA:=ae w8 (Sx ([0,-1,6,7,1099511627776].map (Bm Sj)).toArray 3);have au:=aa (a5.o.below hA);have hne:w8.1.size≠bs:=by have:=a5.o.src.lt;omega
       have Tb:=aa (jD bs w8.1.size 5 [0,-1,6,7,1099511627776] YR YR YR YR XN hne HC.o au.o.src);clear hA HC qf q0 q1 q2 q3 q4 q5 q6;go_wp2_with fail;refine Tb.o.mono ?_;rintro e w9 ⟨n,rfl,pD,ai,ak⟩;have a7:=aa (au.o.call ai ak ye ag ao);clear ai ak;have q0:=a7.o.qc 0 _ lX;have qf:=a7.o.qf;have sy:-9223372036854775808<=n/\n<=9223372036854775807:=by
        simp only[dr,cY,dg]at pD;omega
       go_upto_region 21 with(fail);have HS6:=aa (a7.o.set { r4 with Gi:=n } 0 (Bm Sj n) lX (a7.o.rq.setL sy) av aw ay az);generalize AF _ _ _=wc at *;obtain⟨q0,q1,q2,q3,q4,q5,q6⟩:=se HS6.o.qc;have sB:=HS6.o.rb;have bL:=cr sB;obtain⟨b0,b1,b2,b3,b4,b5,b6⟩:=se bL;have bf:=sr sB;clear bL sB;go_wp2;refine eC (v:=mO ({ r4 with Gi:=n })) TdO lX ⟨_,rfl,HS6.o.rq,?_,?_⟩
       ·exact Tbr
       exact Tbn
      by_cases h1:n=1
      ·subst h1;have HC:=aa (lV w8 [0,-1,4096,4097] 3);have hA:=ae w8 (Sx ([0,-1,4096,4097].map (Bm Sj)).toArray 3);have au:=aa (a5.o.below hA);have hne:w8.1.size≠bs:=by have:=a5.o.src.lt;omega
       have Tb:=aa (jD bs w8.1.size 4 [0,-1,4096,4097] YR YR YR YR XN hne HC.o au.o.src);clear hA HC qf q0 q1 q2 q3 q4 q5 q6 h0;go_wp2_with fail;refine Tb.o.mono ?_;rintro e w9 ⟨n,rfl,pD,ai,ak⟩;have a7:=aa (au.o.call ai ak ye ag ao);clear ai ak;have q2:=a7.o.qc 2 _ lX;have qf:=a7.o.qf;have sy:-1<=n/\n<=4097/\(n<=12\/4096<=n):=by
        simp only[dr,cY,dg]at pD;omega
       go_upto_region 21 with(fail);have HS6:=aa (a7.o.set { r4 with Gc:=n } 2 (Bm Sj n) lX (a7.o.rq.setE sy) av aw ay az);generalize AF _ _ _=wc at *;obtain⟨q0,q1,q2,q3,q4,q5,q6⟩:=se HS6.o.qc;have sB:=HS6.o.rb;have bL:=cr sB;obtain⟨b0,b1,b2,b3,b4,b5,b6⟩:=se bL;have bf:=sr sB;clear bL sB;go_wp2;refine eC (v:=mO ({ r4 with Gc:=n })) TdO lX ⟨_,rfl,HS6.o.rq,?_,?_⟩
       ·exact Tbr
       exact Tbn
      by_cases h2:n=2
      ·subst h2;have Tb:=aa (bO bs 0 6 w8 WQ WQ WQ a5.o.src);clear qf q0 q1 q2 q3 q4 q5 q6 h0 h1;go_wp2_with fail;refine Tb.o.mono ?_;rintro e w9 ⟨n,rfl,be,bg,ai,ak⟩;have a7:=aa (a5.o.call ai ak ye ag ao);clear ai ak;have q3:=a7.o.qc 3 _ lX;have qf:=a7.o.qf;go_upto_region 21 with(fail);have HS6:=aa (a7.o.set { r4 with Gg:=n } 3 (Bm Sj n) lX (a7.o.rq.setP WQ) av aw ay az);generalize AF _ _ _=wc at *;obtain⟨q0,q1,q2,q3,q4,q5,q6⟩:=se HS6.o.qc;have sB:=HS6.o.rb;have bL:=cr sB;obtain⟨b0,b1,b2,b3,b4,b5,b6⟩:=se bL;have bf:=sr sB;clear bL sB;go_wp2;refine eC (v:=mO ({ r4 with Gg:=n })) TdO lX ⟨_,rfl,HS6.o.rq,?_,?_⟩
       ·exact Tbr
       exact Tbn
      by_cases h3:n=3
      ·subst h3;clear h0 h1 h2;go_upto_region 21 with(fail);have HS6:=aa (a5.o.set { r4 with near:=⟨#[122,122]⟩ } 5 (By ⟨#[122,122]⟩) lX (a5.o.rq.setN YR) av aw ay az);generalize AF _ _ _=wc at *;obtain⟨q0,q1,q2,q3,q4,q5,q6⟩:=se HS6.o.qc;have sB:=HS6.o.rb;have bL:=cr sB;obtain⟨b0,b1,b2,b3,b4,b5,b6⟩:=se bL;have bf:=sr sB;clear bL sB;go_wp2;refine eC (v:=mO ({ r4 with near:=⟨#[122,122]⟩ })) TdO lX ⟨_,rfl,HS6.o.rq,?_,?_⟩
       ·exact Tbr
       exact Tbn
      by_cases h4:n=4
      ·subst h4;clear h0 h1 h2 h3;go_upto_region 21 with(fail);have HS6:=aa (a5.o.set { r4 with sep:=⟨#[45]⟩ } 6 (By ⟨#[45]⟩) lX (a5.o.rq.setQ YR) av aw ay az);generalize AF _ _ _=wc at *;obtain⟨q0,q1,q2,q3,q4,q5,q6⟩:=se HS6.o.qc;have sB:=HS6.o.rb;have bL:=cr sB;obtain⟨b0,b1,b2,b3,b4,b5,b6⟩:=se bL;have bf:=sr sB;clear bL sB;go_wp2;refine eC (v:=mO ({ r4 with sep:=⟨#[45]⟩ })) TdO lX ⟨_,rfl,HS6.o.rq,?_,?_⟩
       ·exact Tbr
       exact Tbn
      go_upto_region 21 with(fail);have HS6:=a5;generalize w8=wc at *;clear q0 q1 q2 q3 q4 q5 q6;obtain⟨q0,q1,q2,q3,q4,q5,q6⟩:=se HS6.o.qc;have sB:=HS6.o.rb;have bL:=cr sB;obtain⟨b0,b1,b2,b3,b4,b5,b6⟩:=se bL;have bf:=sr sB;clear bL sB;go_wp2;refine eC (v:=mO r4) TdO lX ⟨_,rfl,HS6.o.rq,?_,?_⟩
      ·exact Tbr
      exact Tbn
open Go.Maps Go.Shelf
variable {w0 w w':H7}{e:Ending}{g:af}{r:aY}{bs Bg Bq i fuel j m:Nat}{a:iX}{P:Program}{md:Region.Mode}{ops:Array Oper}{Q:N2}{S:H7->Prop}{N:Nat->Bool}{listed:Array Bool}{x:ay}{vs:wy ay}{c2 c3 c5 c6 c9 ZS ao RK RW Rr SO Se St Wg Wr To UP aE ab eS da dj dq fs gE ff fb fa mT me ph qe qk mu mw mx nF pr o4 oE oR oS pe qt qv rl rm sE sa sd yk zd zp pL pN pP qa qn qp qq qr qs qS r7 r8 r9 ra re rg rs rt rv rx si sl sn sx sR t0 t3 t4 t5 t6 t7 t8 t9 td tg tj tn lE lP gn iS im ka kc ke pt ta tb te tf ti tr tt tw vf vj vm we wg wv yW ad am an ax aL b7 b8 ba be bn bo bp bq br bv bx bN bV ca cb cc ce ch ci cl ob oc oe oj ol op oq ot oy oz p4 p5 p6 p7 cn co cp cu cv cy cB d5 d7 d8 db ds du e6 e8 e9 ea eb ec ed ee ef eg ei el em en eo er et f6 f7 f8 f9 fd fi fn fr fL g9 gd gk gp gs gv gx hG hH hI hJ hO hP hX hY hZ i5 i6 i7 i8 i9 ib ie ii ij ik io ip it j0 j1 j2 j3 j4 j5 j6 jj jn js jL k5 k6 k7 k8 p8 pa pb pd pi pm pu pv py pA k9 kb kh kp ks kv kx l3 l4 l5 l6 l7 l8 l9 la lc ld lf lg li ln lp lr lx m0 m3 m4 m5 m6 m7 m8 m9 mc mf mj mp ms mt my mz mL n5 n6 n7 n8 n9 na nq nr nu nL o3 o5:zY}
def uX.open2(a5:Below w0.1.size w0 w)(hlt:w0.1.size<w.1.size)(h:uX w0.1.size w e w') :
  ∃(g:af) (a:iX),e=S6 (Tk (Zg g a))/\dN (fun b=>b≠w0.1.size) w' g a/\sU g/\Src w' w0.1.size/\Below w0.1.size w0 w'/\w0.1.size<w'.1.size:=by
 obtain⟨g,t,d,v,h,rfl,⟨t',d',v',h',e',h1,h2,h3,h4⟩,hB,hs,hst,hz,hk⟩:=h;injection e' with _ e';injection e' with _ e';injection e' with _ e';injection e' with _ e';injection e' with _ e';injection e' with e1 e';injection e' with e2 e';injection e' with e3 e';injection e' with e4 _;subst e1;subst e2;subst e3;subst e4;obtain⟨tp,tc,rfl,_⟩:=h1.cap;obtain⟨dp,dc,rfl,_⟩:=h2.cap;obtain⟨vp,vc,rfl,_⟩:=h3.cap;obtain⟨hp,hc,rfl,_⟩:=h4.cap;have hm:Mv (fun b=>w.1.size<=b) (fun b=>b≠w0.1.size) w' w':=⟨bk _,fun b _ hb=>⟨by show b≠_;omega,rfl⟩⟩;refine⟨g,⟨tp,tc,dp,dc,vp,vc,hp,hc⟩,rfl,⟨(ck.moves aF.moves).mv hm h1,(ck.moves aO.moves).mv hm h2,(ck.moves aN.moves).mv hm h3,(ck.moves lF.moves).mv hm h4⟩,hB,hs,⟨hst.os.trans a5.os,hst.tape.trans a5.tape,hst.output.trans a5.output,cA a5.size hz,fun k q=>?_⟩,WQ⟩;have:=a5.size;exact(hk k WQ WQ).trans (a5.block k q)
def Dk.form(h:Dk g r w e w') :
  ∃v xs,e=S6 (Vj #[v,Bm Sj (kP g r)])/\fH w' w.1.size v xs/\tK g r xs/\(xs.length=if kP g r=0 then Wq g.Gb else 0)/\Below w.1.size w w':=by
 obtain⟨hb,⟨hp,rfl⟩|⟨hp,v,xs,rfl,ho,hl,hx⟩⟩:=h
 ·exact⟨_,[],rfl,fH.nil _ _,fun i d x _ hx=>(by cases hx),by rw[bh hp];rfl,hb⟩
 exact⟨v,xs,by rw[hp],ho,hx,by rw[aw hp];exact hl,hb⟩
def dN.keep(h:dN (fun b=>b≠bs/\b<Bg) w g a)(hm:cR (fun b=>b=bs) w w'):dN (fun b=>b≠bs/\b<Bg) w' g a :=
 h.mv ⟨hm.size,fun b hb ho=>⟨ho,hm.block b hb ho.1⟩⟩
def dN.lt(h:dN (fun b=>b≠bs) w g a):dN (fun b=>b≠bs/\b<w.1.size) w g a:=h.mv ⟨bk _,fun _ hb ho=>⟨⟨ho,hb⟩,rfl⟩⟩
def cR.bl(h:Below w.1.size w w'):cR (fun b=>b=bs) w w':=cR.of_below h
structure iw(w0:H7)(Bg Bq:Nat)(g:af)(a:iX)(r:aY)(w:H7):Prop where
 src:Src w w0.heap.size
 bl:Below w0.heap.size w0 w
 gr:dN (fun b=>b≠w0.heap.size/\b<Bg) w g a
 gb:w.heap[Bg]?=Vv (Sx (Zg g a) 31 (0,0))
 qb:w.heap[Bq]?=Vv (Sx (Tam r) 34 (0,0))
 rq:dK r
 sf:AW w
def iw.below(h:iw w0 Bg Bq g a r w)(hb:Below w.1.size w w'):iw w0 Bg Bq g a r w' :=
 ⟨h.src.keep fun i hi=>hb.block i (rr hi h.src.lt),h.bl.trans (hb.mono h.bl.size),h.gr.keep (cR.bl hb),(hb.block _ (aq h.gb)).trans h.gb,(hb.block _ (aq h.qb)).trans h.qb,h.rq,h.sf.below hb⟩
def iw.gc(h:iw w0 Bg Bq g a r w)(i:Nat)(z:zY)(hz:[By g.name,Bm U8 g.id,Bm Sj g.seq,Bm Sj g.Gd,Bm Sj g.next,FG a.tp (Wq g.tags) a.tc,FG a.dp (Wq g.Gb) a.dc,FG a.vp (Wq g.F9) a.vc,FG a.hp (Wq g.history) a.hc][i]?=Vv z):w.cell? (Bg,i)=Vv z:=by
 simp only[AN,h.gb];simpa using hz
def iw.qc(h:iw w0 Bg Bq g a r w)(i:Nat)(z:zY)(hz:[Bm Sj r.Gi,Bm Sj r.Gh,Bm Sj r.Gc,Bm Sj r.Gg,By r.tag,By r.near,By r.sep][i]?=Vv z):w.cell? (Bq,i)=Vv z:=by
 simp only[AN,h.qb];simpa using hz
def iw.qf(h:iw w0 Bg Bq g a r w)(i:Nat):w.frozen? (Bq,i)=VN:=by simp[BT,h.qb]
def iw.set(h:iw w0 Bg Bq g a r w)(r':aY)(j:Nat)(v:zY)(hv:(#[Bm Sj r.Gi,Bm Sj r.Gh,Bm Sj r.Gc,Bm Sj r.Gg,By r.tag,By r.near,By r.sep]:Array zY).setIfInBounds j v=#[Bm Sj r'.Gi,Bm Sj r'.Gh,Bm Sj r'.Gc,Bm Sj r'.Gg,By r'.tag,By r'.near,By r'.sep])(hr:dK r')(hg:Bg<Bq)(hq:w0.1.size<Bq):iw w0 Bg Bq g a r' (w.setCell (Bq,j) v) :=
 ⟨h.src.keep fun i hi=>bw _ _ _ _ (by show i≠Bq;omega),h.bl.setCell (p:=⟨Bq,j,VX⟩) (by show w0.1.size<=Bq;omega) v,h.gr.mv ⟨Tdi,fun b hb ho=>⟨ho,bw _ _ _ _ (by show b≠Bq;omega)⟩⟩,(bw _ _ _ _ (by show Bg≠Bq;omega)).trans h.gb,(block_setCell v h.qb).trans (by rw[hv]),hr,
  ⟨by simpa[AF]using h.sf.1,fun i l hl=>by
   rw[cd (w:=w) (bw w ⟨Bq,j,VX⟩ v 0 (by show 0≠Bq;omega))];exact h.sf.2 i l hl⟩⟩
def Gr{a:Act}(hi:ops[i]?=Vv o)(hw:Cd o (yielded ops a.tmps)=VR)(hr:BE md ops listed=[i])
  (h:∀K:Act->H7->Prop,Hid (∀a' w',S w'->bG P md ops Q S N fuel (listed.setIfInBounds i VR) a' w'->K a' w')->o.wp P a w K Q):bG P md ops Q S N (fuel+1) listed a w:=by
 refine⟨fun h0=>TdI,fun j hj=>?_⟩;rw[hr]at hj;obtain rfl:j=i:=by simpa using hj
 exact Tcu
def OV{x:RU}{A:Int->Prop}(hx:iE x A)(h:∀n,¬A n):x=[] :=
 hx.eq (y:=[]) (T:=fun _=>False) ⟨yP,fun n=>⟨fun q=>(jd n q).elim,fun q=>q.elim⟩⟩ fun n=>by
  rw[iff_false];exact h n
def JA{o':Oper}{a:Act}(hi:ops[i]?=Vv o)(hw:Cd o (yielded ops a.tmps)=VR)(hj:ops[j]?=Vv o')(a5:Cd o' (yielded ops a.tmps)=VR)(hr:BE md ops listed=[i,j])
  (h1:∀K:Act->H7->Prop,Hid (∀a' w',S w'->bG P md ops Q S N fuel (listed.setIfInBounds i VR) a' w'->K a' w')->o.wp P a w K Q)
  (h2:∀K:Act->H7->Prop,Hid (∀a' w',S w'->bG P md ops Q S N fuel (listed.setIfInBounds j VR) a' w'->K a' w')->o'.wp P a w K Q):bG P md ops Q S N (fuel+1) listed a w:=by
 refine⟨fun h0=>TdI,fun k hk=>?_⟩;rw[hr]at hk;simp only[dr,cY,dg]at hk;rcases hk with rfl|rfl
 ·exact Tcs
 unfold wpOp;simp only[hj,a5,ej];exact .inl (h2 _ (aa fun a' w' q1 q2=>⟨fun _=>q1,q2⟩))
def Ie(w:H7)(s n:Int):xo (w.alloc (Sx #[s,n] 49)) (FG (Vv w.1.size) 1 1) [(s,n)]:=by
 have hN:=b9 w (Sx #[s,n] 49);refine⟨_,1,rfl,bk _,WQ,fun _=>⟨w.1.size,0,rfl,XN,fun i p hp=>?_⟩⟩;cases i with
 |zero =>
  have hp:(s,n)=p:=by simpa using hp
  subst hp;exact⟨mi (l:=[Bm Sj s,Bm Sj n]) hN 0 _ lX,mi (l:=[Bm Sj s,Bm Sj n]) hN 1 _ lX⟩
 |succ i=>simp at hp
def KF{s1 n1 s2 n2:Int}{s:RU}(hs:iE s (fun n=>GN 2 (kO [(s1,n1)] n) (kO [(s2,n2)] n)=VR))(hd:s2+n2<=s1):s=[] :=
 hs.eq (y:=[]) (T:=fun _=>False) ⟨yP,fun n=>⟨fun q=>(jd n q).elim,fun q=>q.elim⟩⟩ fun n=>by
  have e:GN 2 (kO [(s1,n1)] n) (kO [(s2,n2)] n)=(kO [(s1,n1)] n&&kO [(s2,n2)] n):=rfl;rw[e,eh,iff_false];rintro⟨h1,h2⟩;simp only[kO,List.any_cons,List.any_nil,Bool.or_false,eh,fk]at h1 h2;omega
noncomputable def La(n:Nat):Code:=((Tryz.f108.body.bind (kX n)).getD .skip)
def Ta9(h:gt:=by
 refine hK.o _ _ (HS.o _ hb3) ?_;clear hK K PX;have hsz3:=hb3.size;generalize hW3:World.alloc W2 _=W3 at *;clear hW3;have HCC:=aa (HC.o W3 _ _ hb3 hr1 hr2);refine Gr (i:=24) lX rfl Yp (fun K hK=>?_);go_simp;refine HCC.o.mono ?_;rintro e w4 ⟨p,c,rfl,hb4⟩;have hb5:Below w.1.size w w4:=hb3.trans (hb4.mono hsz3);refine hK.o _ _ (HS.o _ hb5) ?_;clear hK K;have hHeld:=HS.o _ hb5;refine cH hQ 25 hHeld ?_;refine cH hQ 26 hHeld ?_;refine cH hQ 27 hHeld ?_;refine aP Yp lX ?_;simp only[cQ,km,cL];clear hHeld hr1 hr2 hb2 hb3;unfold wpList;exact HK.o w4 _ _ _ _ _ _ _ _ _ _ _ _ _ _ _ _ _ _ _ _ _ _ _ _ _ _ _ hb5):=h
def Je{c1 c2 c3 c9 ZS ao RK RW Rr SO Se St Wg Wr To UP aE ab eS da dj dq fs gE ff fb fa mT me ph qe qk mu mw mx nF pr o4 oE oR oS pe:zY}(w:H7)(b off i k nn cap:Nat)(dn:H6)(s1 n1 s2 n2:Int)(hi:i<nn)(hk:k<nn)(hb:b<w.1.size)
  (hc:(w.cell? (b,off+i*4+1)=Vv (By dn)/\w.cell? (b,off+i*4+2)=Vv (Bm Sj s1)/\w.cell? (b,off+i*4+3)=Vv (Bm Sj n1)/\w.cell? (b,off+k*4+1)=Vv (By dn)/\w.cell? (b,off+k*4+2)=Vv (Bm Sj s2)/\w.cell? (b,off+k*4+3)=Vv (Bm Sj n2)))
  (Fl:∀(W:H7) (v1 v2:zY),Below w.1.size w W->xo W v1 [(s1,n1)]->xo W v2 [(s2,n2)]->Calls prog 59 #[v1,v2,Bm Sj 2] W fun e w'=>∃p c,e=S6 (FG p 0 c)/\Below W.1.size W w')
  (HK:Hid (∀(W':H7) (u20 u21 u22 u23 u24 u25 u26 u27 u28 u29 a8 u31 u32 u33 u34 u35 u36 u37 u38 u39 u40 u41 u42 u43 u44 u45 u46:zY),Below w.1.size w W'->Q .normal ⟨#[c0,c1,c2,c3,FG (Vv (b,off)) nn cap,Bm Sj (i:Int),Bm Sj (k:Int),c7,c8,c9,c10,ZS,ao,Sf,TO,RK,RW,Rr,SO,Se,u20,u21,u22,u23,u24,u25,u26,u27,u28,u29,a8,u31,u32,u33,u34,u35,u36,u37,u38,u39,u40,u41,u42,u43,u44,u45,u46,Ft VN,o4,oE,oR,oS,pe],[]⟩ W'))
  (hQ:∀c (a:Act) (d:Tmp) (v:zY) w,Q (.panic c) (a.put (Vv d) v) w->Q (.panic c) a w) :
  (La 8).wp prog Q ⟨#[c0,c1,c2,c3,FG (Vv (b,off)) nn cap,Bm Sj (i:Int),Bm Sj (k:Int),c7,c8,c9,c10,ZS,ao,Sf,TO,RK,RW,Rr,SO,Se,St,W0,ZD,Wg,Wr,To,UP,aE,ab,eS,da,dj,dq,fs,gE,ff,fb,fa,mT,me,ph,qe,qk,mu,mw,mx,nF,pr,o4,oE,oR,oS,pe],[]⟩ w:=by
 conv=>arg 2;whnf
 have hS:∀w':H7,Below w.1.size w w'->(w'.cell? (b,off+i*4+1)=Vv (By dn)/\w'.cell? (b,off+i*4+2)=Vv (Bm Sj s1)/\w'.cell? (b,off+i*4+3)=Vv (Bm Sj n1)/\w'.cell? (b,off+k*4+1)=Vv (By dn)/\w'.cell? (b,off+k*4+2)=Vv (Bm Sj s2)/\w'.cell? (b,off+k*4+3)=Vv (Bm Sj n2)):=fun w' e=>by
  obtain⟨h1,h2,h3,h4,h5,h6⟩:=hc;exact⟨(Sc e hb).trans h1,(Sc e hb).trans h2,(Sc e hb).trans h3,(Sc e hb).trans h4,(Sc e hb).trans h5,(Sc e hb).trans h6⟩
 have HS:=aa hS;clear hS;have HC:=aa Fl;clear Fl hc;refine gW (fun w'=>w'.cell? (b,off+i*4+1)=Vv (By dn)/\w'.cell? (b,off+i*4+2)=Vv (Bm Sj s1)/\w'.cell? (b,off+i*4+3)=Vv (Bm Sj n1)/\w'.cell? (b,off+k*4+1)=Vv (By dn)/\w'.cell? (b,off+k*4+2)=Vv (Bm Sj s2)/\w'.cell? (b,off+k*4+3)=Vv (Bm Sj n2)) 28 [] Yp (HS.o _ (bj _ _).drew) (fun hHeld=>?_);refine cH hQ 0 hHeld ?_;refine cH hQ 1 hHeld ?_;refine cH hQ 2 hHeld ?_;refine cH hQ 3 hHeld ?_;refine cH hQ 4 hHeld ?_;refine cH hQ 5 hHeld ?_;refine cH hQ 6 hHeld ?_;refine cH hQ 7 hHeld ?_;refine cH hQ 8 hHeld ?_;refine cH hQ 9 hHeld ?_;refine cH hQ 10 hHeld ?_;refine cH hQ 11 hHeld ?_;refine cH hQ 12 hHeld ?_;refine cH hQ 13 hHeld ?_;refine cH hQ 14 hHeld ?_;refine cH hQ 15 hHeld ?_;refine cH hQ 16 hHeld ?_;refine cH hQ 18 hHeld ?_;refine cH hQ 19 hHeld ?_;refine cH hQ 20 hHeld ?_;refine cH hQ 21 hHeld ?_;refine cH hQ 22 hHeld ?_;refine JA (i:=17) (j:=23) lX rfl rfl rfl Yp (fun K hK=>?_) (fun K hK=>?_)
 ·go_simp;have hb2:Below w.1.size w (w.alloc (Sx #[s1,n1] 49)).drew:=(ae w _).drew;have hr1:=(Ie w s1 n1).below (bj _ _).drew;refine hK.o _ _ (HS.o _ hb2) ?_;clear hK K hHeld;have a5:=hb2.size;generalize a7:World.drew _=W2 at *;clear a7;refine Gr (i:=23) lX rfl Yp (fun K hK=>?_);go_simp;have PX:=ae W2 (Sx #[s2,n2] 49);have hb3:Below w.1.size w (W2.alloc (Sx #[s2,n2] 49)):=hb2.trans (PX.mono a5);have hr2:=Ie W2 s2 n2;replace hr1:=hr1.below PX;exact Ta9
 go_simp;have hb2:Below w.1.size w (w.alloc (Sx #[s2,n2] 49)).drew:=(ae w _).drew;have hr2:=(Ie w s2 n2).below (bj _ _).drew;refine hK.o _ _ (HS.o _ hb2) ?_;clear hK K hHeld;have a5:=hb2.size;generalize a7:World.drew _=W2 at *;clear a7;refine Gr (i:=17) lX rfl Yp (fun K hK=>?_);go_simp;have PX:=ae W2 (Sx #[s1,n1] 49);have hb3:Below w.1.size w (W2.alloc (Sx #[s1,n1] 49)):=hb2.trans (PX.mono a5);have hr1:=Ie W2 s1 n1;replace hr2:=hr2.below PX;exact Ta9
def JD{ok:LN}(g:af)(a:iX)(w:H7)(hg:ck aN 6 ok w [FG a.vp (Wq g.F9) a.vc] g.F9)(mb:Wq g.F9<=1000)(ht:qx g.F9)(ak:(pieces g.F9).length<=100000)
  (a8:∀(i k:Nat) (p q:gy),k<i->(pieces g.F9)[i]?=Vv p->(pieces g.F9)[k]?=Vv q->p.disk=q.disk->q.start+q.len<=p.start) (CH:∀p∈pieces g.F9,(0<=p.start/\p.start<=1000000)/\1<=p.len/\p.len<=1000000):Calls prog 108 #[Tk (Zg g a)] w fun e w'=>e=S6 (Vj #[By ⟨#[]⟩,VN])/\Below w.1.size w w':=by
 replace a8:=aa a8;replace CH:=aa CH;replace ht:=aa ht;have hA1:=ae w (Sx (Zg g a) 31);have US:=b9 w (Sx (Zg g a) 31);have am:=aa ((ck.moves aN.moves).mv (Mv.of hA1) hg);replace hA1:=aa hA1;clear hg;go_enter func108,ntmps108
 go_upto_region 1 with(fail);generalize AI w _=W1 at *;generalize hE:w.1.size=Bg at US ⊢;have g0:=xr (mi US);clear US hE;go_wp2_with fail;clear g0;refine(Hg g.name g.id g.seq g.Gd g.next a.tp a.dp a.vp a.hp (Wq g.tags) a.tc (Wq g.Gb) a.dc a.vc (Wq g.history) a.hc g.F9 W1 am.o mb ht.o ak).mono ?_;rintro e w2 ⟨v,rfl,ho,hb2⟩;have HO:Hid (ck Gt 4 (fun _=>True) w2 [v] (pieces g.F9)):=aa (bF.rd Gt.moves ho YR (fun _ _ h=>h.elim) (fun _ _=>trivial));have cm:=YS hA1 hb2;clear hb2 ho;generalize ao:pieces g.F9=L at *;clear ao;obtain⟨pp,pc,rfl,_,_⟩:=HO.o.cap;go_wp2;go_loopw[5] (fun i wr=>∃j:Nat,j<=L.length/\i=Bm Sj j/\Below w2.1.size w2 wr) (fun i _=>L.length-(intOf i).toNat)
 exact⟨0,cg _,rfl,bj _ _⟩;obtain⟨i,hi,rfl,hB⟩:=hrel;replace hB:=aa hB;by_cases hlt:i<L.length
 ·obtain⟨p,hp⟩:=aj L i hlt;have HP:=aa hp;obtain⟨b,off,us,rfl,_,cX,_,eE,ah⟩:=HO.o.elem hp;obtain rfl:us=_:=eE;have a9:=aa ah;have aq:=aa (CH.o p (ct hp));clear ah hp;go_wp2;go_loopw[6] (fun z wi=>∃j:Nat,j<=i/\z=Bm Sj j/\Below w2.1.size w2 wi) (fun z _=>i-(intOf z).toNat)
  exact⟨0,cg _,rfl,hB.o⟩;obtain⟨k,hk,rfl,a7⟩:=hrel;replace a7:=aa a7;by_cases hlt2:k<i
  ·obtain⟨q,hq⟩:=aj L k WQ;obtain⟨b2,off2,au,yp,_,C2,_,C3,a5⟩:=HO.o.elem hq;obtain rfl:au=_:=C3;simp only[Option.some.injEq,Addr.mk.injEq,and_true]at yp;obtain⟨rfl,rfl⟩:=yp;have av:=aa (CH.o q (ct hq));have ab:=aa (a8.o i k p q hlt2 HP.o hq);have cT:=a7.o.block b cX;have hbl:=cC cX a7.o.size;have aw:k<L.length:=by omega
   have p1:=(cd (a:=⟨b,off+i*4+1,VX⟩) cT).trans (a9.o 1 _ lX);have p2:=(cd (a:=⟨b,off+i*4+2,VX⟩) cT).trans (a9.o 2 _ lX);have p3:=(cd (a:=⟨b,off+i*4+3,VX⟩) cT).trans (a9.o 3 _ lX);have q1:=ai cT (a5 1 _ lX);have q2:=ai cT (a5 2 _ lX);have q3:=ai cT (a5 3 _ lX);clear a5 hq cT;by_cases hd:p.disk=q.disk
   ·have ay:=ab.o hd;rw[<- hd]at q1;obtain⟨⟨i1,i2⟩,i3,i4⟩:=aq.o;obtain⟨⟨k1,k2⟩,k3,k4⟩:=av.o;clear hd ab;go_upto_region 8 with(fail);refine Je wr b off i k L.length pc p.disk p.start p.len q.start q.len hlt aw hbl ⟨p1,p2,p3,q1,q2,q3⟩ (fun W v1 v2 ag hr1 hr2=>?_) (aa ?_) (fun _ _ _ _ _ h=>h)
    ·refine(Gn [(p.start,p.len)] [(q.start,q.len)] 2 (.inr (.inr lX)) v1 v2 W hr1 hr2 TeW TeW XN XN).mono ?_;rintro e az ⟨v,s,rfl,hos,hs,_,_,hb2⟩;obtain rfl:=KF hs ay;obtain⟨p,c,rfl,_⟩:=hos.rd;exact⟨p,c,rfl,hb2⟩
    intro W' u20 u21 u22 u23 u24 u25 u26 u27 u28 u29 aA u31 u32 u33 u34 u35 u36 u37 u38 u39 u40 u41 u42 u43 u44 u45 u46 ag;have cJ:=YS a7 ag;clear ag p1 p2 p3 q1 q2 q3;go_wp2;go_roundw;exact⟨k+1,WQ,Zf,cJ.o⟩;exact Ti
   have hne:=jI hd;have Tp:Hid (∀n,Below w2.1.size w2 (wr.drewN n)):=aa fun n=>aT a7.o n;clear hd ab
   go_upto_region 8 with(fail);go_quiet (fail);clear p1 p2 p3 q1 q2 q3 hne;exact Tci
  go_wp2;go_roundw;exact⟨i+1,WQ,Zf,a7.o⟩;exact Ti
 have TF:=YS cm hB.o;go_wp2;go_ret2;exact⟨rfl,TF.o⟩
def Ec{ok:LN}(v:ay){u:RH}(w:H7)(hv:aN ok w u v)(hz:qD v)(hl:(kY v).length<=1000000):Calls prog 155 #[Tk u.toArray] w (Dx w.1.size w (kY v)):=by
 obtain⟨tv,sv,rfl,ew,gA⟩:=hv;obtain⟨tp,tc,rfl,_,_⟩:=ew.cap;obtain⟨sp,sc,rfl,az,aA⟩:=gA.cap;replace gA:=aa gA;clear ew;have GF:=hz.Gf;replace hz:=aa hz;have aB:(je v.Gf).length<=1000000:=hl;clear hl;have HUV:Hid (kY v=je v.Gf):=aa lX;have HB:=aa (ae w (Sx (ZM v tp tc sp sc) 46));have Wx:=aa (b9 w (Sx (ZM v tp tc sp sc) 46));go_enter func155,ntmps155
 go_upto_region 3 with(fail);generalize RE:AI w _=W1 at *;generalize aC:w.1.size=Bv at Wx ⊢;clear RE aC;go_loopw[3,4] (fun l i wr=>∃k:Nat,k<=Wq v.Gf/\i=Bm Sj k/\dF wr w.1.size l (je (v.Gf.take k))/\wr.1[Bv]?=Vv (Sx (ZM v tp tc sp sc) 46 (0,0))/\Below w.1.size w wr) (fun _ i _=>Wq v.Gf-(intOf i).toNat)
 exact⟨0,cg _,rfl,dF.nil _ _,Wx.o,HB.o⟩;clear HB Wx;obtain⟨k,hk,rfl,a5,XV,hB⟩:=hrel;have Wx:=aa XV;have x5:=mi XV 5 _ lX;clear XV;have HOW:=aa a5;clear a5;have HB:=aa hB;clear hB;have mA:=HB.o.size;have aI:(je (v.Gf.take k)).length<=1000000:=cA BX aB;by_cases hlt:k<Wq v.Gf
 ·obtain⟨s,hs⟩:=aj v.Gf k hlt;obtain⟨b,off,us,rfl,gR,cX,ez,eE,ak⟩:=gA.o.elem hs;have am:=ct hs;have hal:=(hz.o.seg s am).1;obtain⟨av,Rn,rfl,o0,hst⟩:=eE;obtain⟨ap,ac,rfl,_,_⟩:=o0.cap;obtain⟨eN,eR,rfl,_,_⟩:=hst.cap;replace o0:=aa o0;clear hst;have cT:wr.1[b]?=w.1[b]?:=HB.o.block b cX;obtain⟨q0,q1,q2,q3,q4,q5,q6,q7,q8,q9,aE⟩:=ak5 cT ak;have TK:=aa (yT hs);clear hs am ak ez cT;have lj:=aa (b9 wr (Sx (ZN s ap ac eN eR) 55));have hA:=ae wr (Sx (ZN s ap ac eN eR) 55);have cm:=aa (HB.o.trans (hA.mono mA));have HOW2:=aa (HOW.o.below hA);have ao:=Zl hA Wx;clear hA;go_upto_region 6 with(fail);clear x5 Wx q0 q1 q2 q3 q4 q5 q6 q7 q8 q9 aE;generalize aF:AI wr _=W2 at *;generalize aJ:wr.1.size=Bs at *;clear aF HB HOW;go_upto_region 7 with(fail);go_loopw[3,6] (fun l i wi=>∃j:Nat,j<=Wq s.Ga/\i=Bm Sj j/\dF wi w.1.size l (je (v.Gf.take k)++vP (s.Ga.take j))/\wi.1[Bs]?=Vv (Sx (ZN s ap ac eN eR) 55 (0,0))/\wi.1[Bv]?=Vv (Sx (ZM v tp tc (Vv ⟨b,off,VX⟩) sc) 46 (0,0))/\Below w.1.size w wi) (fun _ i _=>Wq s.Ga-(intOf i).toNat)
  exact⟨0,cg _,rfl,by rw[iv];simpa[vP]using HOW2.o,lj.o,ao.o,cm.o⟩;clear lj cm HOW2 ao;obtain⟨j,hj,rfl,a5,gO,XV,hB⟩:=hrel;have Wx:=aa XV;clear XV;have s3:=mi gO 3 _ lX;have HOW:=aa a5;clear a5;have HB:=aa hB;clear hB;have lj:=aa gO;clear gO;have ag:=HB.o.size;have mb:=Df (s.Ga.take j);rw[ey]at mb;by_cases hlt2:j<Wq s.Ga
  ·obtain⟨x,hx⟩:=aj s.Ga j hlt2;obtain⟨b2,off2,aG,yp,I0,C2,B5,C3,af⟩:=o0.o.elem hx;subst yp;obtain rfl:aG=_:=C3;have AD:wr.1[b2]?=w.1[b2]?:=HB.o.block b2 C2;obtain⟨q0,q1,q2⟩:=Mn AD af;have XU:=aa (BA hx);clear af B5 hx AD;have ah:=aq lj.o;have TJ:Hid (∀n,Below w.1.size w (wr.drewN n)):=aa fun n=>aT HB.o n;cases I2:x.vol with
   |false =>
    rw[I2]at q0 XU;rw[bh XN,eM]at XU;have HV:=aa I2;clear I2;go_wp2;go_roundw;exact⟨j+1,WQ,Zf,by rw[XU.o];exact HOW.o,lj.o,Wx.o,HB.o⟩;exact Ti
   |true =>
    rw[I2]at q0 XU;rw[aw lX]at XU;have HV:=aa I2;clear I2;go_wp2_with(at_builtin;refine dz lX _ _ lX w.1.size _ (je (v.Gf.take k)++vP (s.Ga.take j)) x.on lX ?c1 wr.1.size 1 lX ?c2 ?c3 ?c4 ?_)
    case c1=>exact HOW.o.alloc _
    case c2=>exact aD lX rfl
    case c3=>rw[cD];omega
    case c4=>simp;omega
    intro v' w1 Of a9 a8;have hA:=ae wr (Sx #[x.on] 9);have ml:=(hA.block _ ah).trans lj.o;have Tw:=(hA.block _ (aq Wx.o)).trans Wx.o;have eI:=aa ((HB.o.trans (hA.mono ag)).trans a9);have Tx:=aa ((a8.block Bs (aq ml) (fun e=>(HOW.o.below hA).ne ml YR e.symm)).trans ml);have ab:=aa ((a8.block Bv (aq Tw) (fun e=>(HOW.o.below hA).ne Tw YR e.symm)).trans Tw);have HOW4:=aa Of;clear hA ml Tw a9 a8 Of s3 q0 q1 q2;go_wp2;go_roundw;exact⟨j+1,WQ,Zf,by rw[XU.o];exact HOW4.o,Tx.o,ab.o,eI.o⟩;exact Ti
  obtain rfl:j=Wq s.Ga:=by omega
  rw[cI]at HOW mb;generalize ai:je (v.Gf.take k)++vP s.Ga=AL at *;have Wb:AL.length<=3000000:=by rw[<- ai,cD];omega
  have Hk:Hid (je (v.Gf.take (k+1))=AL++(if s.log.toList.isEmpty then [] else [s.log])++(if s.pool.toList.isEmpty then [] else [s.pool])):=aa (by rw[TK.o,<- ai];rfl);clear ai mb TK;have s6:=cr lj.o 6 _ lX;have s7:=cr lj.o 7 _ lX;have ah:=aq lj.o;cases Fi:s.log.toList.isEmpty with
  |true =>
   rw[Fi,aw lX,eM]at Hk;cases PY:s.pool.toList.isEmpty with
   |true =>
    rw[PY,aw lX,eM]at Hk;go_wp2;go_roundw;exact⟨k+1,WQ,Zf,by rw[Hk.o];exact HOW.o,Wx.o,HB.o⟩;exact Ti
   |false =>
    rw[PY,bh XN]at Hk;go_wp2_with(at_builtin;refine dz lX _ _ lX w.1.size _ AL s.pool lX ?d1 wr.1.size 1 lX ?d2 ?d3 ?d4 ?_)
    case d1=>exact HOW.o.alloc _
    case d2=>exact aD lX rfl
    case d3=>omega
    case d4=>simp;omega
    intro v' w1 Of a9 a8;have hA:=ae wr (Sx #[s.pool] 9);have Tw:=(hA.block _ (aq Wx.o)).trans Wx.o;have ab:=aa ((a8.block Bv (aq Tw) (fun e=>(HOW.o.below hA).ne Tw YR e.symm)).trans Tw);clear hA Tw;have eI:=aa ((HB.o.alloc ag _).trans a9);have HOW4:=aa Of;clear a9 a8 Of;go_wp2;go_roundw;exact⟨k+1,WQ,Zf,Ten,ab.o,eI.o⟩;exact Ti
  |false =>
   rw[Fi,bh XN]at Hk;go_wp2_with(at_builtin;refine dz lX _ _ lX w.1.size _ AL s.log lX ?e1 wr.1.size 1 lX ?e2 ?e3 ?e4 ?_)
   case e1=>exact HOW.o.alloc _
   case e2=>exact aD lX rfl
   case e3=>omega
   case e4=>simp;omega
   intro v' w1 Of a9 a8;have hA:=ae wr (Sx #[s.log] 9);have ml:=(hA.block _ ah).trans lj.o;have Tw:=(hA.block _ (aq Wx.o)).trans Wx.o;have ab:=aa ((a8.block Bv (aq Tw) (fun e=>(HOW.o.below hA).ne Tw YR e.symm)).trans Tw);have eI:=aa ((HB.o.trans (hA.mono ag)).trans a9);have Tx:=aa ((a8.block Bs (aq ml) (fun e=>(HOW.o.below hA).ne ml YR e.symm)).trans ml);have HOW4:=aa Of;have Wc:=eI.o.size;clear hA ml Tw a9 a8 Of s6 s7;have s7:=cr Tx.o 7 _ lX
   cases PY:s.pool.toList.isEmpty with
   |true =>
    rw[PY,aw lX,eM]at Hk;go_wp2;go_roundw;exact⟨k+1,WQ,Zf,Ten,ab.o,eI.o⟩;exact Ti
   |false =>
    rw[PY,bh XN]at Hk;go_wp2_with(at_builtin;refine dz lX _ _ lX w.1.size _ (AL++[s.log]) s.pool lX ?f1 w1.1.size 1 lX ?f2 ?f3 ?f4 ?_)
    case f1=>exact HOW4.o.alloc _
    case f2=>exact aD lX rfl
    case f3=>simp;omega
    case f4=>simp;omega
    intro v2 w2 a7 hb2 au;have hA:=ae w1 (Sx #[s.pool] 9);have Tw:=(hA.block _ (aq ab.o)).trans ab.o;have aH:=aa ((au.block Bv (aq Tw) (fun e=>(HOW4.o.below hA).ne Tw YR e.symm)).trans Tw);clear hA Tw;have eK:=aa ((eI.o.alloc Wc _).trans hb2);replace a7:=aa a7;clear hb2 au;go_wp2;go_roundw;exact⟨k+1,WQ,Zf,by rw[Hk.o,cV];exact a7.o,aH.o,eK.o⟩;exact Ti
 exact Tb5
def JJ(h:vs[i]?=Vv x)(nm:H6):iJ (Ci (vs.take (i+1))) nm=iJ (Ci (vs.take i)) nm+iJ (kY x) nm:=by
 unfold Ci iJ;rw[gq h,List.countP_append]
def JV(h:vs[i]?=Vv x)(nm:H6):yx nm (vs.take (i+1))=yx nm (vs.take i)+DN nm x.Gf:=by
 unfold yx;rw[take_snoc' vs i x h,gl,List.sum_append];simp
def Ka{y:H6}(h:l[j]?=Vv y)(nm:H6):iJ (l.take (j+1)) nm=iJ (l.take j) nm+if y=nm then 1 else 0:=by
 rw[take_snoc' l j y h,sV]
def JI{l:wy aB}{y:aB}(h:l[j]?=Vv y)(nm:H6):DN nm (l.take (j+1))=DN nm (l.take j)+if y.pool=nm then 1 else 0:=by
 rw[take_snoc' l j y h];unfold DN;rw[List.countP_append,List.countP_singleton];simp
def Jq(nm:H6)(l:wy aB):DN nm l<=l.length:=List.countP_le_length
def Ky(h:∀v∈vs,(kY v).length<=m)(nm:H6)(i:Nat):iJ (Ci (vs.take i)) nm<=vs.length*m:=by
 refine cA (Ag _ nm) ?_;have:=lY kY m (vs.take i) fun v hv=>h v (tR hv);refine cA this ?_;rw[ey];exact tA _ (Nat.min_le_right _ _)
def JB(nm:H6):∀ {vs:wy ay},(∀v∈vs,Wq v.Gf<=m)->yx nm vs<=vs.length*m
 |[],_=>by simp[yx]
 |v :: vs,h=>by
  have ih:=JB nm (vs:=vs) fun x hx=>h x (kn _ hx);have h1:=Jq nm v.Gf;have h2:=h v cG;unfold yx at ih ⊢;rw[iu,List.sum_cons,cS,Nat.succ_mul];omega
def Ku(nm:H6)(h:∀v∈vs,Wq v.Gf<=m)(i:Nat):yx nm (vs.take i)<=vs.length*m:=by
 refine cA (JB nm fun v hv=>h v (tR hv)) ?_;rw[ey];exact tA _ (Nat.min_le_right _ _)
def Tb6(h:gt:=by
 go_wp2;go_roundw;exact⟨j+1,WQ,Zf,by rw[HF.o],Tp.o _⟩;exact Ti):=h
def Tb2(h:gt:=by
 go_wp2;go_roundw;exact⟨j+1,WQ,Zf,by rw[HF.o];go_num,Tp.o _⟩;exact Ti):=h
def Kr{ok:LN}(g:af)(a:iX)(k:Nat)(v:ay)(w:H7)(hg:ck aN 6 ok w [FG a.vp (Wq g.F9) a.vc] g.F9)(mb:Wq g.F9<=1000)(ak:∀v∈g.F9,qD v)(ez:∀v∈g.F9,(kY v).length<=100000)(hd:g.F9[k]?=Vv v)
  (aD:v.hidden=VR->iJ (Ci g.F9) v.name=1) (aE:v.hidden=VN->iJ (Ci g.F9) v.name=yx v.name g.F9/\(yx v.name g.F9=0\/eZ v=5)):Calls prog 110 #[Tk (Zg g a),Bm Sj k] w fun e w'=>e=S6 (Ft VR)/\Below w.1.size w w':=by
 have aK:=aa aD;have aL:=aa aE;have HG:=aa hg;have am:=aa ak;have aM:=aa ez;have nw:Hid (∀i,iJ (Ci (g.F9.take i)) v.name<=100000000):=aa fun i=>cA (Ky ez v.name i) (tA 100000 mb);have Kp:Hid (∀i,yx v.name (g.F9.take i)<=1000000000):=aa fun i=>cA (Ku v.name (fun v hv=>(ak v hv).Gf) i) (tA 1000000 mb);clear aD aE hg ak ez;have bf:=(AT.1 hd).1
 have XO:Wq v.Gf<=1000000000:=by
  have:=(am.o v (ct hd)).Gf;omega
 obtain⟨b,off,us,yp,gR,cX,ez,eE,aG⟩:=HG.o.elem hd;have My:=aa eE;obtain⟨tv,sv,rfl,ew,gA⟩:=eE;obtain⟨tp,tc,rfl,_,_⟩:=ew.cap;obtain⟨sp,sc,rfl,_,_⟩:=gA.cap;replace yp:=aa yp;have hA1:=ae w (Sx (Zg g a) 31);have CN:=aa (b9 w (Sx (Zg g a) 31));have cT:=hA1.block b cX;go_enter func110,ntmps110
 go_upto_region 1 with(fail);generalize AI w _=W1 at *;generalize ad2:w.1.size=Bg at CN ⊢;clear ad2;have a5:Below w.1.size w W1:=hA1;obtain⟨q0,q1,q2,q3,q4,q5⟩:=sw6 cT aG;have gX:=mi CN.o 7 _ lX;rw[yp.o]at gX;have hA2:=ae W1 (Sx (ZM v tp tc sp sc) 46);have sX:=aa (b9 W1 (Sx (ZM v tp tc sp sc) 46));have pH:=Zl hA2 CN;have cm:=aa (a5.trans (hA2.mono a5.size));clear aG ez cT hd hA1 a5 hA2 ew gA CN yp;go_upto_region 2 with(fail);clear q0 q1 q2 q3 q4 q5 gX;generalize AI W1 _=W2 at *;generalize W1.1.size=Bd at *;go_wp2;go_loopw[6,7,8] (fun n p i wr=>∃j:Nat,j<=Wq g.F9/\i=Bm Sj j/\n=Bm Sj (iJ (Ci (g.F9.take j)) v.name:Int)/\p=Bm Sj (yx v.name (g.F9.take j):Int)/\Below W2.1.size W2 wr) (fun _ _ i _=>Wq g.F9-(intOf i).toNat)
 exact⟨0,cg _,rfl,rfl,rfl,bj _ _⟩;obtain⟨i,hi,rfl,rfl,rfl,hB⟩:=hrel;replace hB:=aa hB;have fy:=YS cm hB.o;have aH:=Zl hB.o pH;have ao:=Zl hB.o sX;by_cases hlt:i<Wq g.F9
 ·obtain⟨x,hx⟩:=aj g.F9 i hlt;have ai:=ct hx;have hxs:=(am.o x ai).Gf;have bg:=aM.o x ai;have aO:=aa (am.o x ai);have aP:=aa (JJ hx v.name);have aQ:=aa (JV hx v.name);have bi:=nw.o i;have hpb:=Kp.o i;obtain⟨b3,off3,bk,a9,_,PV,_,Tr,a7⟩:=HG.o.elem hx;have XR:=aa (aN.moves.mv (Mv.of fy.o) Tr);obtain⟨Ym,sv3,rfl,Fk,au⟩:=Tr;obtain⟨bl,bm,rfl,_,_⟩:=Fk.cap;obtain⟨bp,bs,rfl,_,_⟩:=au.cap;have Zv:=aa au;have aR:=aa a7;have aI:=aa a9;have g7:=mi aH.o 7 _ lX;rw[aI.o]at g7;have Tl:=fy.o.block b3 PV;obtain⟨q0,q1,q2,q3,q4,q5⟩:=sw6 Tl a7;clear a7 hx Tl Fk au a9 ai;generalize aS:iJ (Ci (g.F9.take i)) v.name=N0 at *;generalize aU:yx v.name (g.F9.take i)=P0 at *;clear aS aU;go_wp2_with fail;clear q0 q1 q2 q3 q4 q5 g7;refine(Ec x wr XR.o aO.o WQ).mono ?_;rintro e w5 ⟨vl,rfl,ho,hb5⟩;have HO:Hid (ck aF 1 (fun _=>True) w5 [vl] (kY x)):=aa (ho.rd fun _ _=>trivial);have eK:=YS hB hb5;have VH:=Zl hb5 ao;clear ho hb5;obtain⟨pl,pc,rfl,_,_⟩:=HO.o.cap;generalize aV:kY x=U at *;clear aV;go_wp2;go_loopw[6,10] (fun n z wi=>∃j:Nat,j<=U.length/\z=Bm Sj j/\n=Bm Sj ((N0+iJ (U.take j) v.name:Nat):Int)/\Below w5.1.size w5 wi) (fun _ z _=>U.length-(intOf z).toNat)
  exact⟨0,cg _,rfl,rfl,bj _ _⟩;obtain⟨j,hj,rfl,rfl,a8⟩:=hrel;replace a8:=aa a8;by_cases hlt2:j<U.length
  ·obtain⟨y,hy⟩:=aj U j hlt2;obtain⟨b4,av,aW,rfl,_,aX,_,aY,ab⟩:=HO.o.elem hy;obtain rfl:aW=_:=aY;have y0:=(Sc a8.o aX).trans (ab 0 _ lX);rw[fp,fg]at y0;have TK:=aa (Ka hy v.name);have ag:=Ag (U.take j) v.name;rw[ey]at ag;have d0:=mi ((a8.o.block _ (aq VH.o)).trans VH.o) 0 _ lX;have Tp:Hid (∀n,Below w5.1.size w5 (wr.drewN n)):=aa fun n=>aT a8.o n;generalize hM:N0+iJ (U.take j) v.name=M at *;have aZ:M<=200000000:=by omega
   have HM:=aa hM;clear ab hy ag hM;by_cases hn:y=v.name
   ·have HF:Hid (N0+iJ (U.take (j+1)) v.name=M+1):=aa (by rw[TK.o,aw hn,<- Nat.add_assoc,HM.o]);rw[hn]at y0;clear hn;go_upto_region 10 with(fail);go_quiet (fail);clear y0 d0;exact Tb2
   have HF:Hid (N0+iJ (U.take (j+1)) v.name=M):=aa (by rw[TK.o,bh hn,fg,HM.o]);have hne:=jI hn;clear hn;go_upto_region 10 with(fail);go_quiet (fail);clear y0 d0 hne;exact Tb6
  obtain rfl:j=U.length:=by omega
  rw[cI];rw[<- Nat.add_comm (iJ U v.name)];have Tq:=YS eK a8.o;have az:Hid (iJ U v.name+N0=iJ (Ci (g.F9.take (i+1))) v.name):=aa (by rw[aP.o,Nat.add_comm]);generalize iJ U v.name+N0=N1 at *;go_wp2;go_loopw[7,11] (fun p z wj=>∃j:Nat,j<=Wq x.Gf/\z=Bm Sj j/\p=Bm Sj ((P0+DN v.name (x.Gf.take j):Nat):Int)/\Below W2.1.size W2 wj) (fun _ z _=>Wq x.Gf-(intOf z).toNat)
  exact⟨0,cg _,rfl,rfl,Tq.o⟩;obtain⟨j,hj,rfl,rfl,Y0⟩:=hrel;replace Y0:=aa Y0;have aJ:=YS cm Y0.o;have g7:=mi ((Y0.o.block _ (aq pH.o)).trans pH.o) 7 _ lX;rw[aI.o]at g7;have q5:=(cd (a:=⟨b3,off3+i*6+5,VX⟩) (aJ.o.block b3 PV)).trans (aR.o 5 _ lX);by_cases hlt3:j<Wq x.Gf
  ·obtain⟨y,hy⟩:=aj x.Gf j hlt3;obtain⟨b5,aA,bu,rfl,_,b8,_,ba,ah⟩:=Zv.o.elem hy;obtain⟨bw,bz,rfl,bd,aB⟩:=ba;have y7:=(cd (a:=⟨b5,aA+j*11+7,VX⟩) (aJ.o.block b5 b8)).trans (ah 7 _ lX);have TK:=aa (JI hy v.name);have ag:=Jq v.name (x.Gf.take j);rw[ey]at ag;have d0:=mi ((Y0.o.block _ (aq sX.o)).trans sX.o) 0 _ lX;have Tp:Hid (∀n,Below W2.1.size W2 (wr.drewN n)):=aa fun n=>aT Y0.o n;generalize hM:P0+DN v.name (x.Gf.take j)=M at *;have aZ:M<=2000000000:=by omega
   have HM:=aa hM;clear ah hy ag hM bd aB;by_cases hn:y.pool=v.name
   ·have HF:Hid (P0+DN v.name (x.Gf.take (j+1))=M+1):=aa (by rw[TK.o,aw hn,<- Nat.add_assoc,HM.o]);rw[hn]at y7;clear hn;go_upto_region 15 with(fail);go_quiet (fail);clear y7 d0 g7 q5;exact Tb2
   have HF:Hid (P0+DN v.name (x.Gf.take (j+1))=M):=aa (by rw[TK.o,bh hn,fg,HM.o]);have hne:=jI hn;clear hn;go_upto_region 15 with(fail);go_quiet (fail);clear y7 d0 g7 q5 hne;exact Tb6
  obtain rfl:j=Wq x.Gf:=by omega
  have aC:Hid (P0+DN v.name (x.Gf.take (Wq x.Gf))=yx v.name (g.F9.take (i+1))):=aa (by rw[aQ.o,cI]);rw[aC.o];go_wp2;go_roundw;exact⟨i+1,WQ,Zf,by rw[az.o],rfl,Y0.o⟩;exact Ti
 obtain rfl:i=Wq g.F9:=by omega
 have g7:=mi aH.o 7 _ lX;have dL:=mi ao.o;have d2:=dL 2 _ lX;rw[cI];cases hh:v.hidden with
 |true =>
  rw[aK.o hh];rw[hh]at d2;clear dL;go_wp2;go_ret;exact⟨rfl,fy.o⟩
 |false =>
  obtain⟨e1,e2⟩:=aL.o hh;rw[e1];rw[hh]at d2 My;generalize yx v.name g.F9=P at *;have z0:=I6 ao.o;have be:=aa fun q:fo=>aN.moves.mv (Mv.of (fy.o.trans ((dQ wr q).mono fy.o.size))) My.o;replace e2:=aa e2;clear dL e1
  go_upto_region 19 with(fail);clear g7 d2;by_cases hp:P=0
  ·have ep:((P:Int)==0)=VR:=beq_iff_eq.2 WQ;have e0:((P:Int)==(P:Int))=VR:=by simp
   clear hp;(refine wp_region_quiet_lit ?_;(repeat(go_big_quiet_step ((fail))));(with_reducible refine fR ?_);intro wq ia;have kq:=dY ia;clear ia)
   have TF:=YS fy kq;clear kq z0 ep e0;go_wp2;go_ret;exact⟨rfl,TF.o⟩
  have hk5:=e2.o.resolve_left hp;have ek:(eZ v==5)=VR:=by rw[hk5];rfl
  have ep:((P:Int)==0)=VN:=beq_eq_false_iff_ne.2 WQ;have e0:((P:Int)==(P:Int))=VR:=by simp
  clear hk5 hp;(refine wp_region_quiet_lit ?_;(repeat(go_big_quiet_step ((go_at_call 109;exact iH (pq (be.o _) XO)))));(with_reducible refine fR ?_);intro wq ia;have kq:=dY ia;clear ia)
  have TF:=YS fy kq;clear kq z0 ek ep e0;go_wp2;go_ret;exact⟨rfl,TF.o⟩
theorem Jo(w:H7)(Bg:Nat)(b off i nv vc:Nat)(v:ay)(tp:IH)(tc:Nat)(b3 off3 j sc:Nat)(s:aB)(ap eN:IH)(ac eR:Nat)
  (az:w.cell? (XM Bg 7)=Vv (FG (Vv (b,off)) nv vc)/\w.cell? (b,off+i*6)=Vv (By v.name)/\w.cell? (b,off+i*6+1)=Vv (Bm U8 v.id)/\w.cell? (b,off+i*6+2)=Vv (Ft v.hidden)/\w.cell? (b,off+i*6+3)=Vv (Ft v.ro)/\w.cell? (b,off+i*6+4)=Vv (FG tp (Wq v.tags) tc)/\w.cell? (b,off+i*6+5)=Vv (FG (Vv (b3,off3)) (Wq v.Gf) sc)/\w.cell? (b3,off3+j*11)=Vv (Bm Sj s.start)/\w.cell? (b3,off3+j*11+1)=Vv (Bm Sj s.length)/\w.cell? (b3,off3+j*11+2)=Vv (Bm Sj s.kind)/\w.cell? (b3,off3+j*11+3)=Vv (FG ap (Wq s.Ga) ac)/\w.cell? (b3,off3+j*11+4)=Vv (Bm Sj s.chunk)/\w.cell? (b3,off3+j*11+5)=Vv (FG eN (Wq s.stale) eR)/\w.cell? (b3,off3+j*11+6)=Vv (By s.log)/\w.cell? (b3,off3+j*11+7)=Vv (By s.pool)/\w.cell? (b3,off3+j*11+8)=Vv (Bm Sj s.device)/\w.cell? (b3,off3+j*11+9)=Vv (Bm Sj s.mode)/\w.cell? (b3,off3+j*11+10)=Vv (Bm Sj s.done)) (hlt:∀q,q∈[Bg,b,b3]->q<w.1.size) (hi:i<nv) (hj:j<Wq v.Gf)
  (HK:Hid (∀(b1 b2:Nat) (W':H7) (u149 u150 u151 u152 u153 u154 u155 u156 u157 u158 u159 u160 u161 u162:zY),Below w.1.size w W'->W'.1[b1]?=Vv (Sx (ZM v tp tc (Vv ⟨b3,off3,VX⟩) sc) 46 (0,0))->W'.1[b2]?=Vv (Sx (ZN s ap ac eN eR) 55 (0,0))->Q .normal ⟨#[c0,SL (Vv Bg),c2,c3,c4,c5,c6,c7,c8,c9,c10,ZS,ao,Bm Sj (i:Int),Bm Sj (j:Int),SL (Vv b1),SL (Vv b2),Rr,SO,Se,St,W0,ZD,Wg,Wr,To,UP,aE,ab,eS,da,dj,dq,fs,gE,ff,fb,fa,mT,me,ph,qe,qk,mu,mw,mx,nF,pr,o4,oE,oR,oS,pe,qt,qv,rl,rm,sE,sa,sd,yk,zd,zp,pL,pN,pP,qa,qn,qp,qq,qr,qs,qS,r7,r8,r9,ra,re,rg,rs,rt,rv,rx,si,sl,sn,sx,sR,t0,t3,t4,t5,t6,t7,t8,t9,td,tg,tj,tn,lE,lP,gn,iS,im,ka,kc,ke,pt,ta,tb,te,tf,ti,tr,tt,tw,vf,vj,vm,we,wg,wv,yW,ad,am,an,ax,aL,b7,b8,ba,be,bn,bo,bp,bq,br,bv,bx,bN,bV,ca,cb,cc,ce,ch,ci,cl,u149,u150,u151,u152,u153,u154,u155,u156,u157,u158,u159,u160,u161,u162,cn,co,cp,cu,cv,cy,cB,d5,d7,d8,db,ds,du,e6,e8,e9,ea,eb,ec,ed,ee,ef,eg,ei,el,em,en,eo,er,et,f6,f7,f8,f9,fd,fi,fn,fr,fL,g9,gd,gk,gp,gs,gv,gx,hG,hH,hI,hJ,hO,hP,hX,hY,hZ,i5,i6,i7,i8,i9,ib,ie,ii,ij,ik,io,ip,it,j0,j1,j2,j3,j4,j5,j6,jj,jn,js,jL,k5,k6,k7,k8,p8,pa,pb,pd,pi,pm,pu,pv,py,pA,k9,kb,kh,kp,ks,kv,kx,l3,l4,l5,l6,l7,l8,l9,la,lc,ld,lf,lg,li,ln,lp,lr,lx,m0,m3,m4,m5,m6,m7,m8,m9,mc,mf,mj,mp,ms,mt,my,mz,mL,n5,n6,n7,n8,n9,na,nq,nr,nu,nL,o3,o5],[]⟩ W'))
  (hQ:∀c (a:Act) (d:Tmp) (v:zY) w,Q (.panic c) (a.put (Vv d) v) w->Q (.panic c) a w) :
  (Ai Tryz.f51 35).wp prog Q ⟨#[c0,SL (Vv Bg),c2,c3,c4,c5,c6,c7,c8,c9,c10,ZS,ao,Bm Sj (i:Int),Bm Sj (j:Int),RK,RW,Rr,SO,Se,St,W0,ZD,Wg,Wr,To,UP,aE,ab,eS,da,dj,dq,fs,gE,ff,fb,fa,mT,me,ph,qe,qk,mu,mw,mx,nF,pr,o4,oE,oR,oS,pe,qt,qv,rl,rm,sE,sa,sd,yk,zd,zp,pL,pN,pP,qa,qn,qp,qq,qr,qs,qS,r7,r8,r9,ra,re,rg,rs,rt,rv,rx,si,sl,sn,sx,sR,t0,t3,t4,t5,t6,t7,t8,t9,td,tg,tj,tn,lE,lP,gn,iS,im,ka,kc,ke,pt,ta,tb,te,tf,ti,tr,tt,tw,vf,vj,vm,we,wg,wv,yW,ad,am,an,ax,aL,b7,b8,ba,be,bn,bo,bp,bq,br,bv,bx,bN,bV,ca,cb,cc,ce,ch,ci,cl,ob,oc,oe,oj,ol,op,oq,ot,oy,oz,p4,p5,p6,p7,cn,co,cp,cu,cv,cy,cB,d5,d7,d8,db,ds,du,e6,e8,e9,ea,eb,ec,ed,ee,ef,eg,ei,el,em,en,eo,er,et,f6,f7,f8,f9,fd,fi,fn,fr,fL,g9,gd,gk,gp,gs,gv,gx,hG,hH,hI,hJ,hO,hP,hX,hY,hZ,i5,i6,i7,i8,i9,ib,ie,ii,ij,ik,io,ip,it,j0,j1,j2,j3,j4,j5,j6,jj,jn,js,jL,k5,k6,k7,k8,p8,pa,pb,pd,pi,pm,pu,pv,py,pA,k9,kb,kh,kp,ks,kv,kx,l3,l4,l5,l6,l7,l8,l9,la,lc,ld,lf,lg,li,ln,lp,lr,lx,m0,m3,m4,m5,m6,m7,m8,m9,mc,mf,mj,mp,ms,mt,my,mz,mL,n5,n6,n7,n8,n9,na,nq,nr,nu,nL,o3,o5],[]⟩ w:=by
 conv=>arg 2;whnf
 have hS:∀w':H7,Below w.1.size w w'->(w'.cell? (XM Bg 7)=Vv (FG (Vv (b,off)) nv vc)/\w'.cell? (b,off+i*6)=Vv (By v.name)/\w'.cell? (b,off+i*6+1)=Vv (Bm U8 v.id)/\w'.cell? (b,off+i*6+2)=Vv (Ft v.hidden)/\w'.cell? (b,off+i*6+3)=Vv (Ft v.ro)/\w'.cell? (b,off+i*6+4)=Vv (FG tp (Wq v.tags) tc)/\w'.cell? (b,off+i*6+5)=Vv (FG (Vv (b3,off3)) (Wq v.Gf) sc)/\w'.cell? (b3,off3+j*11)=Vv (Bm Sj s.start)/\w'.cell? (b3,off3+j*11+1)=Vv (Bm Sj s.length)/\w'.cell? (b3,off3+j*11+2)=Vv (Bm Sj s.kind)/\w'.cell? (b3,off3+j*11+3)=Vv (FG ap (Wq s.Ga) ac)/\w'.cell? (b3,off3+j*11+4)=Vv (Bm Sj s.chunk)/\w'.cell? (b3,off3+j*11+5)=Vv (FG eN (Wq s.stale) eR)/\w'.cell? (b3,off3+j*11+6)=Vv (By s.log)/\w'.cell? (b3,off3+j*11+7)=Vv (By s.pool)/\w'.cell? (b3,off3+j*11+8)=Vv (Bm Sj s.device)/\w'.cell? (b3,off3+j*11+9)=Vv (Bm Sj s.mode)/\w'.cell? (b3,off3+j*11+10)=Vv (Bm Sj s.done)):=fun w' e=>by
  obtain⟨h0,h1,h2,h3,h4,h5,h6,h7,h8,h9,aA,aC,aD,aF,aG,aH,aI,aJ⟩:=az;exact⟨(Sc e (hlt _ XN)).trans h0,(Sc e (hlt _ XN)).trans h1,(Sc e (hlt _ XN)).trans h2,(Sc e (hlt _ XN)).trans h3,(Sc e (hlt _ XN)).trans h4,(Sc e (hlt _ XN)).trans h5,(Sc e (hlt _ XN)).trans h6,(Sc e (hlt _ XN)).trans h7,(Sc e (hlt _ XN)).trans h8,(Sc e (hlt _ XN)).trans h9,(Sc e (hlt _ XN)).trans aA,(Sc e (hlt _ XN)).trans aC,(Sc e (hlt _ XN)).trans aD,(Sc e (hlt _ XN)).trans aF,(Sc e (hlt _ XN)).trans aG,(Sc e (hlt _ XN)).trans aH,(Sc e (hlt _ XN)).trans aI,(Sc e (hlt _ XN)).trans aJ⟩
 replace hS:=aa hS;clear az hlt;refine gW (fun w'=>w'.cell? (XM Bg 7)=Vv (FG (Vv (b,off)) nv vc)/\w'.cell? (b,off+i*6)=Vv (By v.name)/\w'.cell? (b,off+i*6+1)=Vv (Bm U8 v.id)/\w'.cell? (b,off+i*6+2)=Vv (Ft v.hidden)/\w'.cell? (b,off+i*6+3)=Vv (Ft v.ro)/\w'.cell? (b,off+i*6+4)=Vv (FG tp (Wq v.tags) tc)/\w'.cell? (b,off+i*6+5)=Vv (FG (Vv (b3,off3)) (Wq v.Gf) sc)/\w'.cell? (b3,off3+j*11)=Vv (Bm Sj s.start)/\w'.cell? (b3,off3+j*11+1)=Vv (Bm Sj s.length)/\w'.cell? (b3,off3+j*11+2)=Vv (Bm Sj s.kind)/\w'.cell? (b3,off3+j*11+3)=Vv (FG ap (Wq s.Ga) ac)/\w'.cell? (b3,off3+j*11+4)=Vv (Bm Sj s.chunk)/\w'.cell? (b3,off3+j*11+5)=Vv (FG eN (Wq s.stale) eR)/\w'.cell? (b3,off3+j*11+6)=Vv (By s.log)/\w'.cell? (b3,off3+j*11+7)=Vv (By s.pool)/\w'.cell? (b3,off3+j*11+8)=Vv (Bm Sj s.device)/\w'.cell? (b3,off3+j*11+9)=Vv (Bm Sj s.mode)/\w'.cell? (b3,off3+j*11+10)=Vv (Bm Sj s.done)) 18 [] Yp (hS.o _ (bj _ _).drew) (fun a5=>?_);refine cH hQ 0 a5 ?_;refine cH hQ 1 a5 ?_;refine cH hQ 2 a5 ?_;refine cH hQ 3 a5 ?_;refine cH hQ 4 a5 ?_;refine cH hQ 5 a5 ?_;refine cH hQ 6 a5 ?_;refine cH hQ 7 a5 ?_;refine cH hQ 8 a5 ?_;refine cH hQ 9 a5 ?_;refine cH hQ 10 a5 ?_;refine cH hQ 11 a5 ?_;refine cH hQ 12 a5 ?_;refine cH hQ 13 a5 ?_;refine mh (i:=14) (j:=15) lX rfl rfl rfl Yp (fun K hK=>?_) (fun K hK=>?_)
 ·go_simp;have hb2:Below w.1.size w (w.alloc (Sx Tak 46)).drew:=(ae w _).drew;have Ts:=b9 w (Sx Tak 46);have Ts:(w.alloc (Sx Tak 46)).drew.1[w.1.size]?=Vv (Sx Tak 46 (0,0)):=Ts;refine hK.o _ _ (hS.o _ hb2) ?_;clear hK K a5;generalize aj:World.drew _=W2 at *;have af:w.1.size<=w.1.size:=bk _;generalize G2:w.1.size=bA at Ts af ⊢;have hA:w.1.size<=bA:=Nat.le_of_eq G2;clear aj af G2;refine lR 15 fun K hK=>?_;go_simp;have hB:w.1.size<=W2.1.size:=hb2.size;have PX:=ae W2 (Sx Tav 55);have hb3:=hb2.trans (PX.mono hB);have hne:bA≠W2.1.size:=Nat.ne_of_lt (aq Ts);replace Ts:=(PX.block _ (aq Ts)).trans Ts;have a9:=b9 W2 (Sx Tav 55);refine hK.o _ _ (hS.o _ hb3) ?_;clear hK K hb2 PX;generalize ak:AI W2 _=W3 at *;generalize au:W2.1.size=bB at *;clear ak au;obtain⟨zf,z0,z1,z2,z3,z4,z5⟩:=BO Ts;obtain⟨sb,sk,so⟩:=zQ Ts (By v.name) (Bm U8 v.id) (Ft v.hidden) (Ft v.ro) (FG tp (Wq v.tags) tc) (FG (Vv (b3,off3)) (Wq v.Gf) sc) lX;have eI:=aa (sb _ _ hA hb3);have a7:=aa sk;have ag:=aa ((so bB hne.symm).trans a9);clear sb sk so Ts a9 hb3;refine lR 16 fun K hK=>?_;go_simp;refine hK.o _ _ (hS.o _ eI.o) ?_;clear hK K zf z0 z1 z2 z3 z4 z5;have hn2:=ag.o;have a8:=a7.o;have ah:=eI.o;clear ag a7 eI;generalize av:AF _ _ _=W4 at *;clear av;obtain⟨zf,z0,z1,z2,z3,z4,z5,z6,z7,z8,z9,z10⟩:=J5 hn2;obtain⟨sb,sk,so⟩:=JE hn2 (Bm Sj s.start) (Bm Sj s.length) (Bm Sj s.kind) (FG ap (Wq s.Ga) ac) (Bm Sj s.chunk) (FG eN (Wq s.stale) eR) (By s.log) (By s.pool) (Bm Sj s.device) (Bm Sj s.mode) (Bm Sj s.done) lX;have eK:=aa (sb _ _ hB ah);have ai:=aa sk;have a7:=aa ((so bA hne).trans a8);clear sb sk so hn2 ah a8;refine lR 17 fun K hK=>?_;go_simp;refine hK.o _ _ (hS.o _ eK.o) ?_;clear hK K zf z0 z1 z2 z3 z4 z5 z6 z7 z8 z9 z10;refine aP Yp lX ?_;simp only[cQ,km,cL];have hb5:=eK.o;have a8:=a7.o;have hk2:=ai.o;clear eK a7 ai;generalize aw:AF _ _ _=W5 at *;clear aw;unfold wpList;exact HK.o bA bB W5 _ _ _ _ _ _ _ _ _ _ _ _ _ _ hb5 a8 hk2
 go_simp;have hb2:Below w.1.size w (w.alloc (Sx Tav 55)).drew:=(ae w _).drew;have Ts:=b9 w (Sx Tav 55);have Ts:(w.alloc (Sx Tav 55)).drew.1[w.1.size]?=Vv (Sx Tav 55 (0,0)):=Ts;refine hK.o _ _ (hS.o _ hb2) ?_;clear hK K a5;generalize aj:World.drew _=W2 at *;have af:w.1.size<=w.1.size:=bk _;generalize G2:w.1.size=bA at Ts af ⊢;have hA:w.1.size<=bA:=Nat.le_of_eq G2;clear aj af G2;refine lR 14 fun K hK=>?_;go_simp;have hB:w.1.size<=W2.1.size:=hb2.size;have PX:=ae W2 (Sx Tak 46);have hb3:=hb2.trans (PX.mono hB);have hne:bA≠W2.1.size:=Nat.ne_of_lt (aq Ts);replace Ts:=(PX.block _ (aq Ts)).trans Ts;have a9:=b9 W2 (Sx Tak 46);refine hK.o _ _ (hS.o _ hb3) ?_;clear hK K hb2 PX;generalize ak:AI W2 _=W3 at *;generalize au:W2.1.size=bB at *;clear ak au;obtain⟨zf,z0,z1,z2,z3,z4,z5⟩:=BO a9;obtain⟨sb,sk,so⟩:=zQ a9 (By v.name) (Bm U8 v.id) (Ft v.hidden) (Ft v.ro) (FG tp (Wq v.tags) tc) (FG (Vv (b3,off3)) (Wq v.Gf) sc) lX;have eI:=aa (sb _ _ hB hb3);have a7:=aa sk;have ag:=aa ((so bA hne).trans Ts);clear sb sk so Ts a9 hb3;refine lR 16 fun K hK=>?_;go_simp;refine hK.o _ _ (hS.o _ eI.o) ?_;clear hK K zf z0 z1 z2 z3 z4 z5;have hn2:=ag.o;have a8:=a7.o;have ah:=eI.o;clear ag a7 eI;generalize av:AF _ _ _=W4 at *;clear av;obtain⟨zf,z0,z1,z2,z3,z4,z5,z6,z7,z8,z9,z10⟩:=J5 hn2;obtain⟨sb,sk,so⟩:=JE hn2 (Bm Sj s.start) (Bm Sj s.length) (Bm Sj s.kind) (FG ap (Wq s.Ga) ac) (Bm Sj s.chunk) (FG eN (Wq s.stale) eR) (By s.log) (By s.pool) (Bm Sj s.device) (Bm Sj s.mode) (Bm Sj s.done) lX;have eK:=aa (sb _ _ hA ah);have ai:=aa sk;have a7:=aa ((so bB hne.symm).trans a8);clear sb sk so hn2 ah a8;refine lR 17 fun K hK=>?_;go_simp;refine hK.o _ _ (hS.o _ eK.o) ?_;clear hK K zf z0 z1 z2 z3 z4 z5 z6 z7 z8 z9 z10;refine aP Yp lX ?_;simp only[cQ,km,cL];have hb5:=eK.o;have a8:=a7.o;have hk2:=ai.o;clear eK a7 ai;generalize aw:AF _ _ _=W5 at *;clear aw;unfold wpList;exact HK.o bB bA W5 _ _ _ _ _ _ _ _ _ _ _ _ _ _ hb5 a8 hk2
theorem Ju(w:H7)(Bg:Nat)(b off i nv vc:Nat)(v:ay)(tp:IH)(tc:Nat)(sp:IH)(sc j:Nat)(x:ay)(a9 af:IH)(ag ah:Nat)
  (aD:w.cell? (XM Bg 7)=Vv (FG (Vv (b,off)) nv vc)/\w.cell? (b,off+i*6)=Vv (By v.name)/\w.cell? (b,off+i*6+1)=Vv (Bm U8 v.id)/\w.cell? (b,off+i*6+2)=Vv (Ft v.hidden)/\w.cell? (b,off+i*6+3)=Vv (Ft v.ro)/\w.cell? (b,off+i*6+4)=Vv (FG tp (Wq v.tags) tc)/\w.cell? (b,off+i*6+5)=Vv (FG sp (Wq v.Gf) sc)/\w.cell? (b,off+j*6)=Vv (By x.name)/\w.cell? (b,off+j*6+1)=Vv (Bm U8 x.id)/\w.cell? (b,off+j*6+2)=Vv (Ft x.hidden)/\w.cell? (b,off+j*6+3)=Vv (Ft x.ro)/\w.cell? (b,off+j*6+4)=Vv (FG a9 (Wq x.tags) ag)/\w.cell? (b,off+j*6+5)=Vv (FG af (Wq x.Gf) ah)) (hlt:∀q,q∈[Bg,b]->q<w.1.size) (hi:i<nv) (hj:j<nv)
  (HK:Hid (∀(b1 b2:Nat) (W':H7) (u246 u247 u248 u249 u250 u251 u252 u253 u254 u255:zY),Below w.1.size w W'->W'.1[b1]?=Vv (Sx (ZM v tp tc sp sc) 46 (0,0))->W'.1[b2]?=Vv (Sx (ZM x a9 ag af ah) 46 (0,0))->Q .normal ⟨#[c0,SL (Vv Bg),c2,c3,c4,c5,c6,c7,c8,c9,c10,ZS,ao,Sf,TO,RK,RW,Rr,SO,Se,St,Bm Sj (i:Int),Bm Sj (j:Int),SL (Vv b1),SL (Vv b2),To,UP,aE,ab,eS,da,dj,dq,fs,gE,ff,fb,fa,mT,me,ph,qe,qk,mu,mw,mx,nF,pr,o4,oE,oR,oS,pe,qt,qv,rl,rm,sE,sa,sd,yk,zd,zp,pL,pN,pP,qa,qn,qp,qq,qr,qs,qS,r7,r8,r9,ra,re,rg,rs,rt,rv,rx,si,sl,sn,sx,sR,t0,t3,t4,t5,t6,t7,t8,t9,td,tg,tj,tn,lE,lP,gn,iS,im,ka,kc,ke,pt,ta,tb,te,tf,ti,tr,tt,tw,vf,vj,vm,we,wg,wv,yW,ad,am,an,ax,aL,b7,b8,ba,be,bn,bo,bp,bq,br,bv,bx,bN,bV,ca,cb,cc,ce,ch,ci,cl,ob,oc,oe,oj,ol,op,oq,ot,oy,oz,p4,p5,p6,p7,cn,co,cp,cu,cv,cy,cB,d5,d7,d8,db,ds,du,e6,e8,e9,ea,eb,ec,ed,ee,ef,eg,ei,el,em,en,eo,er,et,f6,f7,f8,f9,fd,fi,fn,fr,fL,g9,gd,gk,gp,gs,gv,gx,hG,hH,hI,hJ,hO,hP,hX,hY,hZ,i5,i6,i7,i8,i9,ib,ie,ii,ij,ik,io,ip,it,j0,j1,j2,j3,j4,j5,j6,jj,jn,js,jL,k5,k6,k7,k8,u246,u247,u248,u249,u250,u251,u252,u253,u254,u255,k9,kb,kh,kp,ks,kv,kx,l3,l4,l5,l6,l7,l8,l9,la,lc,ld,lf,lg,li,ln,lp,lr,lx,m0,m3,m4,m5,m6,m7,m8,m9,mc,mf,mj,mp,ms,mt,my,mz,mL,n5,n6,n7,n8,n9,na,nq,nr,nu,nL,o3,o5],[]⟩ W'))
  (hQ:∀c (a:Act) (d:Tmp) (v:zY) w,Q (.panic c) (a.put (Vv d) v) w->Q (.panic c) a w) :
  (Ai Tryz.f51 61).wp prog Q ⟨#[c0,SL (Vv Bg),c2,c3,c4,c5,c6,c7,c8,c9,c10,ZS,ao,Sf,TO,RK,RW,Rr,SO,Se,St,Bm Sj (i:Int),Bm Sj (j:Int),Wg,Wr,To,UP,aE,ab,eS,da,dj,dq,fs,gE,ff,fb,fa,mT,me,ph,qe,qk,mu,mw,mx,nF,pr,o4,oE,oR,oS,pe,qt,qv,rl,rm,sE,sa,sd,yk,zd,zp,pL,pN,pP,qa,qn,qp,qq,qr,qs,qS,r7,r8,r9,ra,re,rg,rs,rt,rv,rx,si,sl,sn,sx,sR,t0,t3,t4,t5,t6,t7,t8,t9,td,tg,tj,tn,lE,lP,gn,iS,im,ka,kc,ke,pt,ta,tb,te,tf,ti,tr,tt,tw,vf,vj,vm,we,wg,wv,yW,ad,am,an,ax,aL,b7,b8,ba,be,bn,bo,bp,bq,br,bv,bx,bN,bV,ca,cb,cc,ce,ch,ci,cl,ob,oc,oe,oj,ol,op,oq,ot,oy,oz,p4,p5,p6,p7,cn,co,cp,cu,cv,cy,cB,d5,d7,d8,db,ds,du,e6,e8,e9,ea,eb,ec,ed,ee,ef,eg,ei,el,em,en,eo,er,et,f6,f7,f8,f9,fd,fi,fn,fr,fL,g9,gd,gk,gp,gs,gv,gx,hG,hH,hI,hJ,hO,hP,hX,hY,hZ,i5,i6,i7,i8,i9,ib,ie,ii,ij,ik,io,ip,it,j0,j1,j2,j3,j4,j5,j6,jj,jn,js,jL,k5,k6,k7,k8,p8,pa,pb,pd,pi,pm,pu,pv,py,pA,k9,kb,kh,kp,ks,kv,kx,l3,l4,l5,l6,l7,l8,l9,la,lc,ld,lf,lg,li,ln,lp,lr,lx,m0,m3,m4,m5,m6,m7,m8,m9,mc,mf,mj,mp,ms,mt,my,mz,mL,n5,n6,n7,n8,n9,na,nq,nr,nu,nL,o3,o5],[]⟩ w:=by
 conv=>arg 2;whnf
 have hS:∀w':H7,Below w.1.size w w'->(w'.cell? (XM Bg 7)=Vv (FG (Vv (b,off)) nv vc)/\w'.cell? (b,off+i*6)=Vv (By v.name)/\w'.cell? (b,off+i*6+1)=Vv (Bm U8 v.id)/\w'.cell? (b,off+i*6+2)=Vv (Ft v.hidden)/\w'.cell? (b,off+i*6+3)=Vv (Ft v.ro)/\w'.cell? (b,off+i*6+4)=Vv (FG tp (Wq v.tags) tc)/\w'.cell? (b,off+i*6+5)=Vv (FG sp (Wq v.Gf) sc)/\w'.cell? (b,off+j*6)=Vv (By x.name)/\w'.cell? (b,off+j*6+1)=Vv (Bm U8 x.id)/\w'.cell? (b,off+j*6+2)=Vv (Ft x.hidden)/\w'.cell? (b,off+j*6+3)=Vv (Ft x.ro)/\w'.cell? (b,off+j*6+4)=Vv (FG a9 (Wq x.tags) ag)/\w'.cell? (b,off+j*6+5)=Vv (FG af (Wq x.Gf) ah)):=fun w' e=>by
  obtain⟨h0,h1,h2,h3,h4,h5,h6,h7,h8,h9,aF,aG,aH⟩:=aD;exact⟨(Sc e (hlt _ XN)).trans h0,(Sc e (hlt _ XN)).trans h1,(Sc e (hlt _ XN)).trans h2,(Sc e (hlt _ XN)).trans h3,(Sc e (hlt _ XN)).trans h4,(Sc e (hlt _ XN)).trans h5,(Sc e (hlt _ XN)).trans h6,(Sc e (hlt _ XN)).trans h7,(Sc e (hlt _ XN)).trans h8,(Sc e (hlt _ XN)).trans h9,(Sc e (hlt _ XN)).trans aF,(Sc e (hlt _ XN)).trans aG,(Sc e (hlt _ XN)).trans aH⟩
 replace hS:=aa hS;clear aD hlt;refine gW (fun w'=>w'.cell? (XM Bg 7)=Vv (FG (Vv (b,off)) nv vc)/\w'.cell? (b,off+i*6)=Vv (By v.name)/\w'.cell? (b,off+i*6+1)=Vv (Bm U8 v.id)/\w'.cell? (b,off+i*6+2)=Vv (Ft v.hidden)/\w'.cell? (b,off+i*6+3)=Vv (Ft v.ro)/\w'.cell? (b,off+i*6+4)=Vv (FG tp (Wq v.tags) tc)/\w'.cell? (b,off+i*6+5)=Vv (FG sp (Wq v.Gf) sc)/\w'.cell? (b,off+j*6)=Vv (By x.name)/\w'.cell? (b,off+j*6+1)=Vv (Bm U8 x.id)/\w'.cell? (b,off+j*6+2)=Vv (Ft x.hidden)/\w'.cell? (b,off+j*6+3)=Vv (Ft x.ro)/\w'.cell? (b,off+j*6+4)=Vv (FG a9 (Wq x.tags) ag)/\w'.cell? (b,off+j*6+5)=Vv (FG af (Wq x.Gf) ah)) 14 [] Yp (hS.o _ (bj _ _).drew) (fun a5=>?_);refine cH hQ 0 a5 ?_;refine cH hQ 1 a5 ?_;refine cH hQ 2 a5 ?_;refine cH hQ 3 a5 ?_;refine cH hQ 4 a5 ?_;refine cH hQ 5 a5 ?_;refine cH hQ 6 a5 ?_;refine cH hQ 7 a5 ?_;refine cH hQ 8 a5 ?_;refine cH hQ 9 a5 ?_;refine mh (i:=10) (j:=11) lX rfl rfl rfl Yp (fun K hK=>?_) (fun K hK=>?_)
 ·go_simp;have hb2:Below w.1.size w (w.alloc (Sx Tak 46)).drew:=(ae w _).drew;have Ts:=b9 w (Sx Tak 46);have Ts:(w.alloc (Sx Tak 46)).drew.1[w.1.size]?=Vv (Sx Tak 46 (0,0)):=Ts;refine hK.o _ _ (hS.o _ hb2) ?_;clear hK K a5;generalize aw:World.drew _=W2 at *;have aj:w.1.size<=w.1.size:=bk _;generalize G2:w.1.size=bA at Ts aj ⊢;have hA:w.1.size<=bA:=Nat.le_of_eq G2;clear aw aj G2;refine lR 11 fun K hK=>?_;go_simp;have hB:w.1.size<=W2.1.size:=hb2.size;have PX:=ae W2 (Sx Tak 46);have hb3:=hb2.trans (PX.mono hB);have hne:bA≠W2.1.size:=Nat.ne_of_lt (aq Ts);replace Ts:=(PX.block _ (aq Ts)).trans Ts;have ai:=b9 W2 (Sx Tak 46);refine hK.o _ _ (hS.o _ hb3) ?_;clear hK K hb2 PX;generalize az:AI W2 _=W3 at *;generalize aA:W2.1.size=bB at *;clear az aA;have zf:=BO Ts;obtain⟨sb,sk,so⟩:=zQ Ts (By v.name) (Bm U8 v.id) (Ft v.hidden) (Ft v.ro) (FG tp (Wq v.tags) tc) (FG sp (Wq v.Gf) sc) lX;have eI:=aa (sb _ _ hA hb3);have a7:=aa sk;have ak:=aa ((so bB hne.symm).trans ai);clear sb sk so Ts ai hb3;refine lR 12 fun K hK=>?_;go_simp;refine hK.o _ _ (hS.o _ eI.o) ?_;clear hK K zf;have hn2:=ak.o;have a8:=a7.o;have au:=eI.o;clear ak a7 eI;generalize aB:AF _ _ _=W4 at *;clear aB;have zf:=BO hn2;obtain⟨sb,sk,so⟩:=zQ hn2 (By x.name) (Bm U8 x.id) (Ft x.hidden) (Ft x.ro) (FG a9 (Wq x.tags) ag) (FG af (Wq x.Gf) ah) lX;have eK:=aa (sb _ _ hB au);have av:=aa sk;have a7:=aa ((so bA hne).trans a8);clear sb sk so hn2 au a8;refine lR 13 fun K hK=>?_;go_simp;refine hK.o _ _ (hS.o _ eK.o) ?_;clear hK K zf;refine aP Yp lX ?_;simp only[cQ,km,cL];have hb5:=eK.o;have a8:=a7.o;have hk2:=av.o;clear eK a7 av;generalize aC:AF _ _ _=W5 at *;clear aC;unfold wpList;exact HK.o bA bB W5 _ _ _ _ _ _ _ _ _ _ hb5 a8 hk2
 go_simp;have hb2:Below w.1.size w (w.alloc (Sx Tak 46)).drew:=(ae w _).drew;have Ts:=b9 w (Sx Tak 46);have Ts:(w.alloc (Sx Tak 46)).drew.1[w.1.size]?=Vv (Sx Tak 46 (0,0)):=Ts;refine hK.o _ _ (hS.o _ hb2) ?_;clear hK K a5;generalize aw:World.drew _=W2 at *;have aj:w.1.size<=w.1.size:=bk _;generalize G2:w.1.size=bA at Ts aj ⊢;have hA:w.1.size<=bA:=Nat.le_of_eq G2;clear aw aj G2;refine lR 10 fun K hK=>?_;go_simp;have hB:w.1.size<=W2.1.size:=hb2.size;have PX:=ae W2 (Sx Tak 46);have hb3:=hb2.trans (PX.mono hB);have hne:bA≠W2.1.size:=Nat.ne_of_lt (aq Ts);replace Ts:=(PX.block _ (aq Ts)).trans Ts;have ai:=b9 W2 (Sx Tak 46);refine hK.o _ _ (hS.o _ hb3) ?_;clear hK K hb2 PX;generalize az:AI W2 _=W3 at *;generalize aA:W2.1.size=bB at *;clear az aA;have zf:=BO ai;obtain⟨sb,sk,so⟩:=zQ ai (By v.name) (Bm U8 v.id) (Ft v.hidden) (Ft v.ro) (FG tp (Wq v.tags) tc) (FG sp (Wq v.Gf) sc) lX;have eI:=aa (sb _ _ hB hb3);have a7:=aa sk;have ak:=aa ((so bA hne).trans Ts);clear sb sk so Ts ai hb3;refine lR 12 fun K hK=>?_;go_simp;refine hK.o _ _ (hS.o _ eI.o) ?_;clear hK K zf;have hn2:=ak.o;have a8:=a7.o;have au:=eI.o;clear ak a7 eI;generalize aB:AF _ _ _=W4 at *;clear aB;have zf:=BO hn2;obtain⟨sb,sk,so⟩:=zQ hn2 (By x.name) (Bm U8 x.id) (Ft x.hidden) (Ft x.ro) (FG a9 (Wq x.tags) ag) (FG af (Wq x.Gf) ah) lX;have eK:=aa (sb _ _ hA au);have av:=aa sk;have a7:=aa ((so bB hne.symm).trans a8);clear sb sk so hn2 au a8;refine lR 13 fun K hK=>?_;go_simp;refine hK.o _ _ (hS.o _ eK.o) ?_;clear hK K zf;refine aP Yp lX ?_;simp only[cQ,km,cL];have hb5:=eK.o;have a8:=a7.o;have hk2:=av.o;clear eK a7 av;generalize aC:AF _ _ _=W5 at *;clear aC;unfold wpList;exact HK.o bB bA W5 _ _ _ _ _ _ _ _ _ _ hb5 a8 hk2
end
end Go.Proofs.YtfmbphdjcghfnaaGreatDoor
