/- Lemmas: NdD, RpE, RpF, RwA, RpA, RwB. -/
import Derived.Test.YtillcmhjhajimaaGreatDoorQj25
import Derived.Test.YtillcmhjhajimaaGreatDoorQj24
set_option maxRecDepth 100000
set_option maxHeartbeats 32000000
set_option linter.all false
namespace Go.Proofs.YtillcmhjhajimaaGreatDoor
open Go.Proofs.Tryz
open Go.RowKit Go.Maps Go.Shelf
variable {α:Type}{w:World}{x:List (Int × Int)}{g:af}{r:aY}{i:Nat}{d:az}{nm:ByteArray}{e:ByteArray × Int}
theorem ku(p:α->Bool){l:List α}{k:Nat}{x:α}(h:l[k]?=some x):(l.take (k+1)).any p=((l.take k).any p||p x):=by
 rw[take_snoc' l k x h];simp
theorem dF.one{B b:Nat}{x:ByteArray}(hb:w.heap[b]?=some (.cells #[.string x] 9 (0,0)))(hB:B<=b):dF w B (.slice (some b) 1 1) [x] :=
 ⟨rfl,.inr ⟨b,1,_,rfl,hB,hb,bk _,TcW,rfl,rfl⟩⟩
def onA(dn:ByteArray)(a:aR):Bool:=decide (a.on=dn)&&!a.vol
theorem Ha{ok:Nat->Prop}(g:af)(a:bN)(nm:ByteArray)(w:World)(hr:dN ok w g a)(hz:rT g)(mb:g.F9.length<=100) :
  Calls prog 65 #[.agg (Tad g a),.string nm] w (Dx w.heap.size w (sP g nm)):=by
 have HG:=aa hr;clear hr;have HZ:=aa hz;clear hz;have cU:=aa (ae w (.cells (Tad g a) 32));have Mj:=aa (b9 w (.cells (Tad g a) 32));go_enter func65,ntmps65
 go_upto_region 1 with(fail);generalize World.alloc w _=W1 at *;generalize Ms:w.heap.size=Bg at Mj ⊢;clear Ms;have HA:=aa (ae W1 (.cells #[.string nm] 9));have HL1:=aa (b9 W1 (.cells #[.string nm] 9));have ae4:=Zbk HA.o Mj;have cm:=Zbl cU HA.o;have HG2:=aa (HG.o.mv (Mv.of cm.o));have gL:=mi ae4.o;obtain⟨g0,g1,g2,g3,g4,g5,g6,g7,g8⟩:=xr gL;clear gL;go_wp2_with fail;clear g0 g1 g2 g3 g4 g5 g6 g7 g8;refine(F4 (ok:=ok) g a nm _ HG2.o HZ.o.us mb).mono ?_;rintro e w3 ⟨bv,l,rfl,XG,ZC,hb3⟩;have HFI:=aa ZC;clear ZC;have hpl:=lq ay.name (bI l) g.F9;have HPE:Hid (gD az.name (fun d=>([nm]++gD ay.name (bI l) g.F9).any (XZ g.F9 d)) g.Gb=sP g nm):=aa (LM HFI.o);generalize gD ay.name (bI l) g.F9=P at *;have TW:=aq HL1.o;have HO1:Hid (dF w3 W1.heap.size (.slice (some W1.heap.size) 1 1) [nm]):=aa (dF.one ((hb3.block _ TW).trans HL1.o) (bk _));have aE5:=Zbk hb3 ae4;have cJ:=Zbl cm hb3;have kf:=XG.rd (ok:=fun _=>True) (fun _ _=>trivial);obtain⟨bp,bc,rfl,_,_⟩:=kf.cap;have B2:=aa kf;have hw13:W1.heap.size<=w3.heap.size:=cA HA.o.size hb3.size;have hbg1:=aq Mj.o;clear kf XG hb3 HFI;go_wp2_with(at_builtin;refine mW (ok:=fun _=>True) rfl _ _ rfl W1.heap.size _ [nm] P rfl ?c1 bp bc rfl ?c2 ?c3 ?c4 ?_)
 case c1=>exact HO1.o
 case c2=>exact B2.o
 case c3=>simp;omega
 case c4=>exact hw13
 intro lv w5 how5 hb5 _;have HLL:Hid (([nm]++P).length<=101):=aa TcS;replace how5:dF w5 W1.heap.size lv ([nm]++P):=how5;generalize hL:[nm]++P=L at *;have eK:=aa (cJ.o.trans (hb5.mono cU.o.size));have as1:=aa ((hb5.block _ hbg1).trans aE5.o);have HG5:Hid (dN (fun b=>b<w.heap.size) w5 g a):=aa (HG.o.mv ⟨eK.o.size,fun b hb _=>⟨hb,eK.o.block b hb⟩⟩);have hlr:=how5.rd (ok:=fun b=>b<w5.heap.size) (fun b e=>(fh how5 b e).2);obtain⟨lp,lc,rfl,_,_⟩:=hlr.cap;have HLR:=aa hlr;have CD:=HZ.o.dl;have hsz5:=eK.o.size;have hbg5:=aq as1.o;clear hlr how5 hb5 HO1 B2 cJ aE5 HL1 HA ae4 cm HG2 Mj cU HG hL TW hw13 hbg1;go_upto_region 4 with(fail);go_loopw[6,7] (fun o i wr=>∃m:Nat,m<=g.Gb.length/\i=.int .i64 m/\dF wr w5.heap.size o (gD az.name (fun d=>L.any (XZ g.F9 d)) (g.Gb.take m))/\Below w5.heap.size w5 wr) (fun _ i _=>g.Gb.length-(intOf i).toNat)
 exact⟨0,cg _,rfl,dF.nil _ _,bj _ _⟩;obtain⟨m,hm,rfl,hown,hB⟩:=hrel;have HOW:=aa hown;clear hown;have HB:=aa hB;clear hB;generalize wr=Wd at *;have aG8:=HB.o.size;have g6:Wd.cell? (Tac Bg 6)=some (.slice a.dp g.Gb.length a.dc):=mi ((HB.o.block _ hbg5).trans as1.o) 6 _ rfl;by_cases hlt:m<g.Gb.length
 ·obtain⟨d,hd⟩:=aj g.Gb m hlt;obtain⟨bd,aG9,usd,aH0,aq2,ao9,aI6,aI7,aH1⟩:=HG5.o.Gb.elem hd;obtain⟨tvd,rfl,_⟩:=aI7;have HD0:Hid (∀W,Below w5.heap.size w5 W->W.cell? (bd,aG9+m*7)=some (.string d.name)/\W.cell? (Tac Bg 6)=some (.slice (some (bd,aG9)) g.Gb.length a.dc)):=aa fun W hW=>⟨by
   rw[<- aH1 0 _ rfl,fg];simp only[World.cell?,hW.block bd ao9],by rw[<- aH0];exact mi ((hW.block _ hbg5).trans as1.o) 6 _ rfl⟩
  have sY:=aa (rJ az.name (fun d=>L.any (XZ g.F9 d)) hd);clear aH1 aI6 hd aH0;generalize Pc:d.name=dn at *;go_upto_region 8 with(fail);clear g6;go_loopw[8,9] (fun s i wi=>∃n:Nat,n<=L.length/\i=.int .i64 n/\s=.bool ((L.take n).any (XZ g.F9 dn))/\Below Wd.heap.size Wd wi) (fun _ i _=>L.length-(intOf i).toNat)
  exact⟨0,cg _,rfl,rfl,bj _ _⟩;obtain⟨n,hn,rfl,rfl,hBi⟩:=hrel;have Pp:=aa hBi;clear hBi;generalize wr=Wi at *;have as2:=Pp.o.size;have Tq:=aa (HB.o.trans (Pp.o.mono aG8));by_cases aH2:n<L.length
  ·obtain⟨y,hy⟩:=aj L n aH2;obtain⟨b,off,us,rfl,gR,cX,ez,eE,hcv⟩:=HLR.o.elem hy;obtain rfl:us=_:=eE;have q0:Wi.cell? (b,off+n)=some (.string y):=by
    rw[<- hcv 0 _ rfl,fp,fg];simp only[World.cell?,Tq.o.block b cX]
   have G1:=aa (ku (XZ g.F9 dn) hy);have AG:Hid (XZ g.F9 dn y=((aM g.F9 y).getD eY).Gf.any (onS dn)):=aa rfl;generalize (L.take n).any (XZ g.F9 dn)=b0 at *;clear hy hcv ez;go_upto_region 10 with(fail);refine DC (ok:=fun b=>b<w.heap.size) _ Wi g a Bg b off n L.length lc y ((Tq.o.block _ hbg5).trans as1.o) aH2 (cC cX Tq.o.size) q0 (HG5.o.mv ⟨Tq.o.size,fun b hb ho=>⟨ho,Tq.o.block b TcN⟩⟩) TcN _ _ rfl rfl (aa ?_) (fun _ _ _ _ _ h=>h);intro xtp xtc xsp xsc kk Bx W7 u34 u35 u36 u37 u38 u39 u40 u41 u42 _ hb7 PX qu I2;have HS:=aa (Dt HZ.o.us.sz y);generalize (aM g.F9 y).getD eY=x at *;have ux:=aa (Pp.o.trans (hb7.mono as2));obtain⟨xtv,xsv,e,-,fL⟩:=I2;have fL:b6 bC 11 (fun k=>k<w.heap.size/\k<Wi.heap.size) W7 [.slice xsp x.Gf.length xsc] x.Gf:=by
    injection e with _ e;injection e with _ e;injection e with _ e;injection e with _ e;injection e with _ e;injection e with e _;rw[e];exact fL
   have Zv:=aa fL;clear fL;have Qp:=aa qu;clear qu;have vh:=aq Qp.o;clear q0 hb7 e;go_upto_region 12 with(fail);go_loopw[8,12] (fun s i wk=>∃k:Nat,k<=x.Gf.length/\i=.int .i64 k/\s=.bool (b0||(x.Gf.take k).any (onS dn))/\Below W7.heap.size W7 wk) (fun _ i _=>x.Gf.length-(intOf i).toNat)
   exact⟨0,cg _,rfl,TcO,bj _ _⟩;obtain⟨k,hk,rfl,rfl,hBk⟩:=hrel;have F2:=aa hBk;clear hBk;generalize wr=Wk at *;have aF3:=F2.o.size;have x5:Wk.cell? (Tac Bx 5)=some (.slice xsp x.Gf.length xsc):=mi ((F2.o.block _ vh).trans Qp.o) 5 _ rfl;have GF:=HS.o.Gf;by_cases aF4:k<x.Gf.length
   ·obtain⟨s,hs⟩:=aj x.Gf k aF4;obtain⟨b3,off3,us3,rfl,B7,PV,pT,Tr,hcv3⟩:=Zv.o.elem hs;obtain⟨av,Oz,rfl,mC,hst⟩:=Tr;obtain⟨ap,ac,rfl,_,_⟩:=mC.cap;have ya:=aa mC;clear mC hst;have HQ3:Hid (∀W,Below W7.heap.size W7 W->W.cell? (b3,off3+k*11+3)=some (.slice ap s.Ga.length ac)/\W.cell? (Tac Bx 5)=some (.slice (some (b3,off3)) x.Gf.length xsc)):=aa fun W hW=>⟨by
     rw[<- hcv3 3 _ rfl];simp only[World.cell?,hW.block b3 PV],mi ((hW.block _ vh).trans Qp.o) 5 _ rfl⟩
    have Q1:=(HS.o.seg s (ct hs)).1;have RG:=aa (ku (onS dn) hs);have Mx:Hid (onS dn s=s.Ga.any (onA dn)):=aa rfl;generalize (x.Gf.take k).any (onS dn)=b1 at *;generalize hb01:(b0||b1)=b2 at *;clear hs hcv3 pT;go_upto_region 15 with(fail);clear x5;go_loopw[8,13] (fun s' i wj=>∃j:Nat,j<=s.Ga.length/\i=.int .i64 j/\s'=.bool (b2||(s.Ga.take j).any (onA dn))/\Below Wk.heap.size Wk wj) (fun _ i _=>s.Ga.length-(intOf i).toNat)
    exact⟨0,cg _,rfl,TcO,bj _ _⟩;obtain⟨j,hj,rfl,rfl,Y0⟩:=hrel;have Uu:=aa Y0;clear Y0;generalize wr=Wj at *;have aF5:=Uu.o.size;have Ix:=aa (F2.o.trans (Uu.o.mono aF3));obtain⟨q3,x5⟩:=HQ3.o _ Ix.o;by_cases aI8:j<s.Ga.length
    ·obtain⟨r,hr⟩:=aj s.Ga j aI8;obtain⟨b4,off4,us4,rfl,aK2,aC0,aI9,aC1,hcv4⟩:=ya.o.elem hr;obtain rfl:us4=_:=aC1;have aH3:Wj.heap[b4]?=W7.heap[b4]?:=Ix.o.block b4 aC0;obtain⟨q0,q1,q2⟩:=Mn aH3 hcv4;have HSJ:=aa (ku (onA dn) hr);have HOA:Hid (onA dn r=(decide (r.on=dn)&&!r.vol)):=aa rfl;generalize (s.Ga.take j).any (onA dn)=b4' at *;have hA:=ae Wj (.cells (Tau r) 83);have yb:=aa (b9 Wj (.cells (Tau r) 83));have J1:=aa (Uu.o.trans (hA.mono aF5));have HBD:=aa (HB.o.trans ((ux.o.trans ((F2.o.trans (J1.o.mono aF3)).mono ux.o.size)).mono aG8));have he:(r.on.toList==dn.toList)=decide (r.on=dn):=by
      by_cases h:r.on=dn
      ·simp[h]
      rw[jI h];simp[h]
     have HRS:Hid ((b2||(s.Ga.take (j+1)).any (onA dn))=((b2||b4')||(decide (r.on=dn)&&!r.vol))):=aa (by rw[HSJ.o,HOA.o,Bool.or_assoc]);clear HSJ HOA hA hr hcv4 aI9 aH3;generalize (b2||b4')=bb at *;go_upto_region 18 with(fail);generalize World.alloc Wj _=W9 at *;obtain⟨d0,g6⟩:=HD0.o _ HBD.o;have aL:=mi yb.o;have a0:=aL 0 _ rfl;have a1:=aL 1 _ rfl;clear aL yb q0 q1 q2 q3 x5;generalize decide (r.on=dn)=bq at *;generalize r.vol=bv at *
     cases bb<;>cases bv<;>cases bq<;>(
      go_quiet (fail);go_wp2;go_roundw
      exact⟨j+1,TcN,TcR,by rw[HRS.o];rfl,aT J1.o _⟩;simp[intOf];omega)
    obtain rfl:j=s.Ga.length:=by omega
    rw[cI];have TF:=aa Ix.o;go_wp2;go_roundw;exact⟨k+1,TcN,TcR,by rw[RG.o,Mx.o,<- hb01,Bool.or_assoc],TF.o⟩;simp[intOf];omega
   obtain rfl:k=x.Gf.length:=by omega
   rw[cI];have TF:=Zbl ux F2.o;go_wp2;go_roundw;exact⟨n+1,TcN,TcR,by rw[G1.o,AG.o],TF.o⟩;simp[intOf];omega
  obtain rfl:n=L.length:=by omega
  rw[cI];obtain⟨d0,g6⟩:=HD0.o _ Tq.o;have HOW6:=aa (HOW.o.below Pp.o);have hpl2:=lq az.name (fun d=>L.any (XZ g.F9 d)) (g.Gb.take m);rw[ey]at hpl2;generalize Ps:gD az.name (fun d=>L.any (XZ g.F9 d)) (g.Gb.take m)=pl at *;clear Ps;have Qo:Hid (gD az.name (fun d=>L.any (XZ g.F9 d)) (g.Gb.take (m+1))=if(L.any (XZ g.F9 dn)&&!bI pl dn)=true then pl++[dn] else pl):=aa sY.o;obtain⟨op,oc,e,_,_⟩:=(HOW6.o.rd (ok:=fun _=>True) (fun _ _=>trivial)).cap;subst e;have HWI:=aa (jb (ok:=fun _=>True) pl _ dn Wi (HOW6.o.rd (fun _ _=>trivial)) TcN);have hsz6:=Tq.o.size;clear sY HOW;cases hb:L.any (XZ g.F9 dn)with
  |false =>
   rw[hb,Bool.false_and,bh TcO]at Qo;clear hb HWI;go_wp2;go_roundw;exact⟨m+1,TcN,TcR,by rw[Qo.o];exact HOW6.o,Tq.o⟩;simp[intOf];omega
  |true =>
   rw[hb,Bool.true_and]at Qo;clear hb;cases hc:bI pl dn with
   |true =>
    rw[hc,bh TcO]at Qo;rw[hc]at HWI;clear hc;go_wp2_with(fail)
    refine HWI.o.mono ?_;rintro e w9 ⟨rfl,rfl⟩;clear HWI d0 g6;go_wp2;go_roundw;exact⟨m+1,TcN,TcR,by rw[Qo.o];exact HOW6.o,Tq.o⟩;simp[intOf];omega
   |false =>
    rw[hc,aw TcO]at Qo;rw[hc]at HWI;clear hc;go_wp2_with(fail)
    refine HWI.o.mono ?_;rintro e w9 ⟨rfl,rfl⟩;clear HWI;go_wp2_with(at_builtin;refine dz rfl _ _ rfl w5.heap.size _ pl dn rfl ?c1 Wi.heap.size 1 rfl ?c2 ?c3 ?c4 ?_)
    case c1=>exact HOW6.o.alloc _
    case c2=>exact aD rfl rfl
    case c3=>omega
    case c4=>simp;omega
    intro v' w9 hown1 hb1 _;have J1:=aa ((Tq.o.alloc hsz6 _).trans hb1);have HOW9:=aa hown1;clear hb1 hown1;go_wp2;go_roundw;exact⟨m+1,TcN,TcR,by rw[Qo.o];exact HOW9.o,J1.o⟩;simp[intOf];omega
 obtain rfl:m=g.Gb.length:=by omega
 rw[cI]at HOW;have TF:=aa (eK.o.trans (HB.o.mono hsz5));have HOZ:=aa (HOW.o.mono (B':=w.heap.size) hsz5);rw[HPE.o]at HOZ;go_wp2;go_ret;exact⟨_,rfl,HOZ.o,TF.o⟩
theorem LU(a b:List ByteArray):a.any (bI b)=b.any (bI a):=by
 rw[mN,nh,nh];constructor
 ·rintro⟨x,h1,h2⟩;exact⟨x,ny.1 h2,ny.2 h1⟩
 rintro⟨x,h1,h2⟩;exact⟨x,ny.1 h2,ny.2 h1⟩
theorem uz{ok:Nat->Prop}(g:af)(a:bN)(r:aY)(d:az)(tp:Option Addr)(tc:Nat)(w:World)(ht:b6 aF 1 ok w [.slice tp d.tags.length tc] d.tags)(nt:d.tags.length<=1000000)(hg:dN ok w g a)(Oi:E9 g)(hne:r.Gg=2\/r.Gg=3->r.near.toList.isEmpty=false) :
  Calls prog 40 #[.agg (Tad g a),.agg (Taj r),.agg (Tah d tp tc)] w (iI (nD g r d) w):=by
 have Kp:Hid (nD g r d=((!d.closed&&!d.missing)&&((r.tag.toList.isEmpty||bI d.tags r.tag)&&(nN (gF g r) r.Gg d&&vE (gF g r) (kR g (gF g r)) r.Gg d)))):=aa rfl;have DG:=aa Oi;clear Oi;have HNE:=aa hne;clear hne;have hA1:=ae w (.cells (Tad g a) 32);have hN1:=b9 w (.cells (Tad g a) 32);have hA2:=ae (w.alloc (.cells (Tad g a) 32)) (.cells (Taj r) 24);have hN2:=b9 (w.alloc (.cells (Tad g a) 32)) (.cells (Taj r) 24);have hA3:=ae ((w.alloc (.cells (Tad g a) 32)).alloc (.cells (Taj r) 24)) (.cells (Tah d tp tc) 39);have HBD:=aa (b9 ((w.alloc (.cells (Tad g a) 32)).alloc (.cells (Taj r) 24)) (.cells (Tah d tp tc) 39));have o0:=aa ((hA3.block _ (aq hN2)).trans hN2);have Mk:=aa ((hA3.block _ (cC (aq hN1) hA2.size)).trans ((hA2.block _ (aq hN1)).trans hN1));have hb12:=hA1.trans (hA2.mono hA1.size);have HB:=aa (hb12.trans (hA3.mono hb12.size));rw[cW]at o0;rw[cW,cW]at HBD;have HT:=aa ((b6.moves aF.moves).mv (Mv.of HB.o) ht);have MI:=aa (hg.mv (Mv.of HB.o));clear hA1 hA2 hA3 hN1 hN2 hb12 ht hg;go_enter func40,ntmps40
 go_upto_region 1 with(fail);generalize World.alloc (World.alloc (World.alloc w _) _) _=W1 at *;generalize Yx:w.heap.size+1+1=Bd at HBD ⊢;generalize hE1:w.heap.size+1=Bq at o0 ⊢;generalize hE0:w.heap.size=Bg at Mk ⊢;clear hE0 hE1 Yx;have qL:=mi o0.o;have q3:=qL 3 _ rfl;have q4:=qL 4 _ rfl;have q5:=qL 5 _ rfl;have dL:=mi HBD.o;have d4:=dL 4 _ rfl;have d5:=dL 5 _ rfl;have d6:=dL 6 _ rfl;clear qL dL;have HC:=aa (lh d.tags _ r.tag W1 HT.o nt);cases hc:d.closed with
 |true =>
  rw[hc]at d4 Kp;go_wp2;go_ret;exact⟨by rw[Kp.o];rfl,HB.o⟩
 |false =>
  rw[hc]at d4 Kp;cases hm:d.missing with
  |true =>
   rw[hm]at d5 Kp;go_wp2;go_ret;exact⟨by rw[Kp.o];rfl,HB.o⟩
  |false =>
   rw[hm]at d5 Kp;rcases(show(r.tag.toList.isEmpty=false/\bI d.tags r.tag=false)\/r.tag.toList.isEmpty=true\/(r.tag.toList.isEmpty=false/\bI d.tags r.tag=true) by cases r.tag.toList.isEmpty<;>cases bI d.tags r.tag<;>simp)with⟨PE,hh⟩|PE
   ·rw[PE,hh]at Kp;rw[hh]at HC;clear hh;go_wp2_with(refine HC.o.mono ?_;rintro e w5 ⟨rfl,rfl⟩)
    go_ret;exact⟨by rw[Kp.o];rfl,HB.o⟩
   have aE6:Hid (nD g r d=(nN (gF g r) r.Gg d&&vE (gF g r) (kR g (gF g r)) r.Gg d)):=aa (by rw[Kp.o];rcases PE with h|⟨h,h'⟩<;>simp[*]);clear Kp;rcases(show(r.Gg≠2/\r.Gg≠3)\/(r.Gg=2\/r.Gg=3) by omega)with⟨h2,h3⟩|h23
   ·have HR:Hid (nD g r d=true):=aa (by rw[aE6.o];unfold nN vE;simp[h2,h3]);have n2:(r.Gg != 2)=true:=by simpa using h2
    have n3:(r.Gg != 3)=true:=by simpa using h3
    clear h2 h3 aE6;rcases PE with PE|⟨PE,hh⟩<;>(
     try rw[hh]at HC
     try clear hh
     go_wp2_with(refine HC.o.mono ?_;rintro e w5 ⟨rfl,rfl⟩)
     go_ret;exact⟨Tc1,HB.o⟩)
   have T8:=HNE.o h23;have Ns:Hid (gF g r=sP g r.near):=aa (by unfold gF;rw[bh (by rw[T8];simp)]);have Y1:=aa (Ha (ok:=ok) g a r.near W1 MI.o DG.o.nd Td6);rw[<- Ns.o]at Y1;have ac7:(gF g r).length<=8:=cA (AA g r) DG.o.dl;have CD:=DG.o.dl;have gL:=mi Mk.o;obtain⟨g0,g1,g2,g3,g4,g5,g6,g7,g8⟩:=xr gL;clear gL;have n23:((r.Gg != 2)=false/\(r.Gg==3)=false)\/((r.Gg != 2)=true/\(r.Gg != 3)=false/\(r.Gg==3)=true):=by
    rcases h23 with h|h
    ·rw[h];exact .inl ⟨rfl,rfl⟩
    rw[h];exact .inr ⟨rfl,rfl,rfl⟩
   have aJ0:=aa h23;have Ng:Hid (nD g r d=true\/bI (gF g r) d.name=false):=aa (by
    rw[aE6.o];unfold nN vE
    cases bI (gF g r) d.name<;>simp)
   have HE4:Hid (bI (gF g r) d.name=false->nD g r d=((r.Gg==3)&&(kR g (gF g r)).any (bI d.tags))):=aa fun h=>by
    rw[aE6.o];unfold nN vE;rw[h,LU];rcases aJ0.o with e|e<;>rw[e]<;>simp
   clear T8 h23 aE6 Ns HNE;have Yy:Hid (∀(k:Nat) (y:ByteArray),(gF g r)[k]?=some y->kR g ((gF g r).take (k+1))=kR g ((gF g r).take k)++((bH g.Gb y).getD gT).tags):=aa fun k y h=>yO g h;have HNT:Hid ((gF g r).take (gF g r).length=gF g r):=aa (cI);generalize gF g r=nl at *
   have Up:Hid (∀y:ByteArray,((bH g.Gb y).getD gT).tags.length<=8):=aa fun y=>by
    cases hf:bH g.Gb y with
    |none=>simp[gT]
    |some D=>exact DG.o.dt D (eV hf)
   rcases PE with PE|⟨PE,hh⟩<;>(
    try rw[hh]at HC
    try clear hh
    have fl:=aa HB.o;rcases n23 with⟨n2,n3⟩|⟨n2,n2',n3⟩<;>(
     go_wp2_with(refine HC.o.mono ?_;rintro e w5 ⟨rfl,rfl⟩)
     clear g0 g1 g2 g3 g4 g5 g6 g7 g8 q3 q4 q5 d4 d5 d6 PE n2
     try clear n2'
     refine Y1.o.mono ?_;clear Y1 HC;rintro e w5 ⟨nv,rfl,hno,hb5⟩;have eK:=Zbl fl hb5;have aH4:=Zbk hb5 Mk;have aH5:=Zbk hb5 o0;have aF6:=Zbk hb5 HBD;have HT5:Hid (b6 aF 1 (fun b=>b<W1.heap.size) w5 [.slice tp d.tags.length tc] d.tags):=aa ((b6.moves aF.moves).mv ⟨hb5.size,fun b hb _=>⟨hb,hb5.block b hb⟩⟩ HT.o);have HG5:Hid (dN (fun b=>b<W1.heap.size) w5 g a):=aa (MI.o.mv ⟨hb5.size,fun b hb _=>⟨hb,hb5.block b hb⟩⟩);have Y2:=hno.rd (ok:=fun b=>b<w5.heap.size) (fun b e=>(fh hno b e).2);obtain⟨np,nc,rfl,_,_⟩:=Y2.cap;have WO:=aa Y2;have HH1:=aa (lh nl _ d.name w5 Y2 TcN);have hw15:=hb5.size;have d0:=mi aF6.o 0 _ rfl;clear Y2 hno hb5 Mk o0 HBD HT MI HB;cases hh1:bI nl d.name with
     |true =>
      rw[hh1]at HH1 Ng;have HR:=aa (Ng.o.resolve_right TcO);go_wp2_with(refine HH1.o.mono ?_;rintro e w6 ⟨rfl,rfl⟩)
      go_ret;exact⟨Tc1,eK.o⟩
     |false =>
      rw[hh1]at HH1;have HR:=aa (HE4.o hh1);rw[n3]at HR;clear hh1 Ng HE4;go_upto_region 9 with(refine HH1.o.mono ?_;rintro e w6 ⟨rfl,rfl⟩)
      clear HH1 d0;go_loopw[8] (fun i wr=>∃n:Nat,n<=nl.length/\i=.int .i64 n/\(kR g (nl.take n)).any (bI d.tags)=false/\Below w5.heap.size w5 wr) (fun i _=>nl.length-(intOf i).toNat)
      exact⟨0,cg _,rfl,rfl,bj _ _⟩;obtain⟨n,hn,rfl,hno,hBi⟩:=hrel;have Ty:=aa hno;clear hno;have Pp:=aa hBi;clear hBi;generalize wr=Wi at *;have as2:=Pp.o.size;have q3:Wi.cell? (Tac Bq 3)=some (.int .i64 r.Gg):=mi ((Pp.o.block _ (aq aH5.o)).trans aH5.o) 3 _ rfl;have TF:=Zbl eK Pp.o;by_cases hlt:n<nl.length
      ·first
       |(
        (have:(r.Gg==3)=false:=n3)
        rw[Bool.false_and]at HR;go_wp2;go_ret;exact⟨Tc1,TF.o⟩)
       |(
        rw[Bool.true_and]at HR;obtain⟨y,hy⟩:=aj nl n hlt;have G1:=aa (Yy.o n y hy);obtain⟨b,off,us,rfl,gR,cX,ez,eE,hcv⟩:=WO.o.elem hy;obtain rfl:us=_:=eE;have q0:Wi.cell? (b,off+n)=some (.string y):=by
         rw[<- hcv 0 _ rfl,fp,fg];simp only[World.cell?,Pp.o.block b cX]
        have HMY:Hid (∀z,z∈((bH g.Gb y).getD gT).tags->z∈kR g nl):=aa fun z hz=>List.mem_flatMap.2 ⟨y,ct hy,hz⟩;have hx8:=Up.o y;clear hy hcv ez
        go_upto_region 11 with(fail);clear q3;refine uW (ok:=fun b=>b<W1.heap.size) _ Wi g a Bg b off n nl.length nc y ((Pp.o.block _ (aq aH4.o)).trans aH4.o) hlt (cC cX as2) q0 (HG5.o.mv ⟨as2,fun b hb ho=>⟨ho,Pp.o.block b TcN⟩⟩) TcN _ _ rfl rfl (aa ?_) (fun _ _ _ _ _ h=>h);intro xtp xtc kk Bx W7 u58 u59 u60 u61 u62 u63 u64 u65 u66 _ hb7 PX qu I2;generalize (bH g.Gb y).getD gT=x at *;have ux:=aa (Pp.o.trans (hb7.mono as2));obtain⟨xtv,e,Nu⟩:=I2;have Nu:b6 aF 1 (fun k=>k<W1.heap.size/\k<Wi.heap.size) W7 [.slice xtp x.tags.length xtc] x.tags:=by
         simp only[rp,and_true,true_and]at e;rw[e];exact Nu
        have HXT:=aa Nu;clear Nu;have Qp:=aa qu;clear qu;have vh:=aq Qp.o;have HD7:=Zbk ux.o aF6;have aJ1:=aq HD7.o;clear q0 hb7 e;go_upto_region 13 with(fail);go_loopw[11] (fun i wk=>∃k:Nat,k<=x.tags.length/\i=.int .i64 k/\(x.tags.take k).any (bI d.tags)=false/\Below W7.heap.size W7 wk) (fun i _=>x.tags.length-(intOf i).toNat)
        exact⟨0,cg _,rfl,rfl,bj _ _⟩;obtain⟨k,hk,rfl,hno,hBk⟩:=hrel;have HNK:=aa hno;clear hno;have F2:=aa hBk;clear hBk;generalize wr=Wk at *;have aF3:=F2.o.size;have x6:Wk.cell? (Tac Bx 6)=some (.slice xtp x.tags.length xtc):=mi ((F2.o.block _ vh).trans Qp.o) 6 _ rfl;have d6:Wk.cell? (Tac Bd 6)=some (.slice tp d.tags.length tc):=mi ((F2.o.block _ aJ1).trans HD7.o) 6 _ rfl;have Ix:=Zbl ux F2.o;by_cases aF4:k<x.tags.length
        ·obtain⟨z,hz⟩:=aj x.tags k aF4;obtain⟨b3,off3,us3,rfl,B7,PV,pT,Tr,hcv3⟩:=HXT.o.elem hz;obtain rfl:us3=_:=Tr;have q0:Wk.cell? (b3,off3+k)=some (.string z):=by
          rw[<- hcv3 0 _ rfl,fp,fg];simp only[World.cell?,F2.o.block b3 PV]
         have Zu:=aa (ku (bI d.tags) hz);have HZM:=aa (HMY.o z (ct hz));have HHZ:Hid (∀n,Calls prog 64 #[.slice tp d.tags.length tc,.string z] (Wk.drewN n) fun e w'=>e=.returned (.bool (bI d.tags z))/\w'=Wk.drewN n):=aa fun n=>(lh (ok:=fun _=>True) d.tags _ z (Wk.drewN n) ((b6.moves aF.moves).mv ⟨by show w5.heap.size<=Wk.heap.size;exact Ix.o.size,fun b hb _=>⟨trivial,Ix.o.block b hb⟩⟩ HT5.o) nt).mono fun _ _ h=>⟨h.1,h.2.symm⟩;clear hz hcv3 pT;have Tt:(k:Int)<(x.tags.length:Int):=by omega
         cases hh:bI d.tags z with
         |true =>
          rw[hh]at HHZ;have E3:Hid (nD g r d=true):=aa (by rw[HR.o];exact List.any_eq_true.2 ⟨z,HZM.o,hh⟩);clear hh;go_upto_region 15 with(fail);go_quiet ((refine po (HHZ.o _)));have HBY:Hid (∀n,Below w.heap.size w (Wk.drewN n)):=aa fun n=>aT (eK.o.trans (Ix.o.mono eK.o.size)) n;clear q0 x6 d6;go_wp2;go_ret;exact⟨by rw[E3.o];rfl,HBY.o _⟩
         |false =>
          rw[hh]at HHZ Zu;rw[HNK.o]at Zu;clear hh;go_upto_region 15 with(fail);go_quiet ((refine po (HHZ.o _)));clear q0 x6 d6;go_wp2;go_roundw
          exact⟨k+1,TcN,TcR,Zu.o,aT F2.o _⟩;simp[intOf];omega
        obtain rfl:k=x.tags.length:=by omega
        rw[cI]at HNK;have HSM:Hid ((kR g (nl.take (n+1))).any (bI d.tags)=false):=aa (by rw[G1.o,rj,Ty.o,HNK.o];rfl);go_wp2;go_roundw;exact⟨n+1,TcN,TcR,HSM.o,Ix.o⟩;simp[intOf];omega)
      obtain rfl:n=nl.length:=by omega
      rw[HNT.o]at Ty;rw[Ty.o]at HR;go_wp2;go_ret;exact⟨by rw[HR.o];first|rfl|simp,TF.o⟩))
def Iq(g:af)(r:aY)(w:World)(e:Ending)(w':World):Prop:=Below w.heap.size w w' /\
 ((¬yZ g r=0/\e=.returned (.tuple #[.slice none 0 0,.int .i64 (yZ g r)])) \/
  (yZ g r=0/\∃v ys,e=.returned (.tuple #[v,.int .i64 0])/\fH w' w.heap.size v ys/\ys.length=g.Gb.length/\RPX g r ys))
theorem Me(h:yZ g r=0)(hp:r.Gg=2\/r.Gg=3):r.near.toList.isEmpty=false:=by
 unfold yZ at h;split at h
 ·cases h
 split at h
 ·cases h
 split at h
 ·cases h
 rename_i hn;unfold xM OC at hn;cases he:r.near.toList.isEmpty with
 |false=>rfl
 |true =>
  rw[he]at hn;rcases hp with hp|hp<;>simp[hp]at hn
theorem TeN{p:Prop}(h:p:=by rw[G1.o];exact HOJ.o.below (aT (bj _ _) _)):p:=h
theorem Teh{p:Prop}(h:p:=by have:=Zq.o x MH.o Ux.o;rw[N8.o]at this;exact this):p:=h
theorem Td9{p:Prop}(h:p:=by rw[Nz];exact HD.o):p:=h
theorem pK{ok:Nat->Prop}(g:af)(a:bN)(r:aY)(w:World)(hg:dN ok w g a)(hc:K5 g)(hr:dK r)(hpl:∀p∈pieces g.F9,0<=p.len/\p.len<=1000000) :
  Calls prog 18 #[.agg (Tad g a),.agg (Taj r)] w (Iq g r w):=by
 have HG:=aa hg;clear hg;have HC:=aa hc;have DG:=aa hc.pf;have SA:=aa hr;clear hr;have RL:=aa hpl;clear hpl;clear hc;have hA1:=ae w (.cells (Tad g a) 32);have hA2:=ae (w.alloc (.cells (Tad g a) 32)) (.cells (Taj r) 24);have hN1:=b9 w (.cells (Tad g a) 32);have hN2:=b9 (w.alloc (.cells (Tad g a) 32)) (.cells (Taj r) 24);rw[cW]at hN2;have Fm:Hid (jF ((w.alloc (.cells (Tad g a) 32)).alloc (.cells (Taj r) 24)) w.heap.size (w.heap.size+1) g a r):=aa ⟨(hA2.block _ (aq hN1)).trans hN1,hN2⟩;have cU:=aa (hA1.trans (hA2.mono hA1.size));clear hA1 hA2 hN1 hN2;go_enter func18,ntmps18
 go_upto_region 1 with(fail);generalize hW1:World.alloc (World.alloc w _) _=W1 at *;generalize Rz:w.heap.size+1=Br at *;generalize C1:w.heap.size=Bg at *;have Tm:Hid (Below w.heap.size w W1):=aa Tdy;clear hW1 cU;have gL:=Fm.o.gc;obtain⟨g0,g1,g2,g3,g4,g5,g6,g7,g8⟩:=xr gL;have rL:=Fm.o.rc;obtain⟨r0,r1,r2,r3,r4,r5,r6⟩:=se rL;clear gL rL;have SB:=Jt (ok:=ok) g a r W1 (HG.o.mv (Mv.of Tm.o)) HC.o SA.o;replace SB:=aa SB;go_wp2_with fail;clear g0 g1 g2 g3 g4 g5 g6 g7 g8 r0 r1 r2 r3 r4 r5 r6;refine SB.o.mono ?_;clear SB;rintro e w2 ⟨rfl,hb2⟩;by_cases hq:¬yZ g r=0
 ·have qu:(yZ g r != 0)=true:=bne_iff_ne.2 hq;have TF:=Zbl Tm hb2;have HQ:=aa hq;clear hq;go_wp2;go_ret2;exact⟨TF.o,.inl ⟨HQ.o,rfl⟩⟩
 replace hq:=Decidable.not_not.1 hq;rw[hq];have HNE:=aa (Me hq);have HQ:=aa hq;clear hq;have cm:=Zbl Tm hb2;have aq6:=aa (Fm.o.below hb2);clear hb2 Tm Fm;have gL:=aq6.o.gc;obtain⟨g0,g1,g2,g3,g4,g5,g6,g7,g8⟩:=xr gL;have r5:=aq6.o.rc 5 _ rfl;clear gL;have Sv:=aa (Lj (ok:=ok) g a r.near w2 ((HG.o.mv (Mv.of cm.o)).F9) Td6 DG.o.tm DG.o.st);go_wp2_with fail;clear g0 g1 g2 g3 g4 g5 g6 g7 g8 r5;refine Sv.o.mono ?_;clear Sv;rintro e w3 ⟨ev,rfl,how,hb3⟩;have PH:Hid ((jE g r.near).length<=10):=aa (by
  refine cA (Bu (m:=6) ?_) TcN;cases hf:aM g.F9 r.near with
  |none=>intro s hs;simp[eY]at hs
  |some v=>exact fun s hs=>DG.o.a6 v (eV hf) s hs)
 have kf:b6 aQ 3 (fun _=>True) w3 [ev] ((jE g r.near).map fun x=>⟨false,x.1,x.2⟩):=bF.rd aQ.moves how TcQ (fun _ _ _=>trivial) (fun _ _=>trivial);clear how;have cJ:=Zbl cm hb3;have C6:=aa (aq6.o.below hb3);clear hb3 cm aq6;generalize hE:jE g r.near=E at *;have VR:=aa hE;clear hE;obtain⟨ep,ec,rfl,WH,ac6⟩:=kf.cap;have B2:=aa kf;clear kf;rw[fW]at WH ⊢;have Vh:=PH.o;have g6:=C6.o.gc 6 _ rfl;go_upto_region 7 with(fail);clear g6;have Wt:Hid (b6 aO 7 (fun b=>b<w.heap.size) w3 [.slice a.dp g.Gb.length a.dc] g.Gb):=aa ((HG.o.mv (ok':=fun b=>b<w.heap.size) ⟨cJ.o.size,fun b hb _=>⟨hb,cJ.o.block b hb⟩⟩).Gb);have rB:Hid (dN (fun b=>b<w.heap.size) w3 g a):=aa (HG.o.mv (ok':=fun b=>b<w.heap.size) ⟨cJ.o.size,fun b hb _=>⟨hb,cJ.o.block b hb⟩⟩);have CD:=DG.o.dl;have hsz3:=cJ.o.size;go_loopw[8,9] (fun ov i wr=>∃m:Nat,m<=g.Gb.length/\i=.int .i64 m/\Below w3.heap.size w3 wr/\∃ys,fH wr w3.heap.size ov ys/\ys.length=m/\RPX g r ys) (fun _ i _=>g.Gb.length-(intOf i).toNat)
 exact⟨0,cg _,rfl,bj _ _,[],fH.nil _ _,rfl,fun i d x _ h=>by cases h⟩;obtain⟨m,hm,rfl,hB,ys,hown,Nz,Uv⟩:=hrel;have HB:=aa hB;clear hB;have HOW:=aa hown;clear hown;have NZ:=aa Uv;clear Uv;have ay0:=HB.o.size;have PJ:=aa (C6.o.below HB.o);have g6:=PJ.o.gc 6 _ rfl;by_cases hlt:m<g.Gb.length
 ·obtain⟨d,hd⟩:=aj g.Gb m hlt;obtain⟨b,off,us,hsp,gR,cX,ez,eE,hcv⟩:=Wt.o.elem hd;obtain⟨tv,rfl,ew⟩:=eE;obtain⟨tp,tc,rfl,_,_⟩:=ew.cap;have cT:wr.heap[b]?=w3.heap[b]?:=HB.o.block b cX;have hdt:=DG.o.dt d (ct hd);have kj:=aa (DG.o.de d (ct hd));have WU:=aa (DG.o.df m d hd);have HD:=aa hd;clear hd;rw[hsp]at g6;clear hsp;obtain⟨q0,q1,q2,q3,q4,q5,q6⟩:=OD cT hcv;clear hcv ez cT;have hA:=ae wr (.cells (Tah d tp tc) 39);have sX:=aa (b9 wr (.cells (Tah d tp tc) 39));have hb9:=HB.o.trans (hA.mono HB.o.size);have J1:=aa hb9;have HOW9:=aa (HOW.o.below hA);have aE9:=aa (PJ.o.below hA);have Hx:Hid (b6 aF 1 (fun _=>True) (wr.alloc (.cells (Tah d tp tc) 39)) [.slice tp d.tags.length tc] d.tags):=aa ((b6.moves aF.moves).mv ⟨hb9.size,fun b hb _=>⟨trivial,hb9.block b hb⟩⟩ ew);clear hA hb9 ew HOW HB PJ;go_upto_region 10 with(fail);clear q0 q1 q2 q3 q4 q5 q6 g6;generalize hW9:World.alloc wr _=W9 at *;generalize hBd:wr.heap.size=Bd at *;clear hW9;have gL:=aE9.o.gc;obtain⟨g0,g1,g2,g3,g4,g5,g6,g7,g8⟩:=xr gL;have rL:=aE9.o.rc;obtain⟨r0,r1,r2,r3,r4,r5,r6⟩:=se rL;have dL:=mi sX.o;obtain⟨d0,d1,d2,d3,d4,d5,d6⟩:=se dL;clear gL rL dL;have HPM:=aa (uz (ok:=fun _=>True) g a r d tp tc W9 Hx.o TcN (rB.o.mv ⟨J1.o.size,fun b hb _=>⟨trivial,J1.o.block b hb⟩⟩) DG.o HNE.o);go_wp2_with fail;clear g0 g1 g2 g3 g4 g5 g6 g7 g8 r0 r1 r2 r3 r4 r5 r6 d0 d1 d2 d3 d4 d5 d6;refine HPM.o.mono ?_;clear HPM Hx;rintro e w10 ⟨rfl,hb10⟩;have Ax:=Zbl J1 hb10;have HOW10:=aa (HOW9.o.below hb10);have ap6:=Zbk hb10 sX;have L3:=aa (aE9.o.below hb10);have hsz10:=Ax.o.size;clear hb10 J1 HOW9 sX aE9;have gL:=L3.o.gc;have hgr10:dN (fun b=>b<w.heap.size) w10 g a:=rB.o.mv ⟨Ax.o.size,fun b hb ho=>⟨ho,Ax.o.block b hb⟩⟩;have SJ:=aa (Lg (ok:=fun b=>b<w.heap.size) g a d.name w10 hgr10.Gb TcN (fun D hD=>by have:=DG.o.de D hD;omega) hgr10.F9 Td6 DG.o.tm (fun p hp=>by have:=DG.o.ps p hp;omega) RL.o (by have:=DG.o.pn;omega));clear hgr10;cases Uw:nD g r d with
  |false =>
   have Zq:Hid (tC g r d []):=aa (by unfold tC;rw[Uw,bh TcO]);clear Uw gL;go_wp2_with(at_builtin;refine iA rfl _ _ rfl w3.heap.size _ ys (.slice none 0 0) [] rfl ?c1 ?c2 w10.heap.size 1 rfl ?c3 ?c4 ?c5 ?_)
   all_goals first|(case c1=>exact HOW10.o.below (ae _ _))|(case c2=>exact bM.nil _ _)|(case c3=>exact aD rfl rfl)|(case c4=>omega)|(case c5=>simp;omega)|skip
   intro v' w11 hown1 hb11 _;have C7:=aa ((Ax.o.alloc hsz10 _).trans hb11);have HOW11:=aa hown1;clear hown1 hb11;go_wp2;go_roundw;exact⟨m+1,TcN,TcR,C7.o,_,HOW11.o,by simp[Nz],NZ.o.snoc Td9 Zq.o TcO⟩;simp[intOf];omega
  |true =>
   have Zq:Hid (∀x,iE x (xy g d)->dI x=true->tC g r d (if uM r=true then x.flatMap (nrL E d.name) else x)):=aa fun x h1 h2=>by unfold tC;rw[Uw,aw rfl,VR.o];exact⟨x,h1,h2,rfl⟩
   clear Uw;obtain⟨g0,g1,g2,g3,g4,g5,g6,g7,g8⟩:=xr gL;clear gL;have d0:=cr ap6.o 0 _ rfl;go_wp2_with fail;clear g0 g1 g2 g3 g4 g5 g6 g7 g8 d0;refine SJ.o.mono ?_;clear SJ;rintro e w11 hr7;unfold iX at hr7;rw[WU.o]at hr7;obtain⟨fv,x,rfl,SK,hfn,SM,ML,hb11⟩:=hr7;have MH:Hid (iE x (xy g d)):=aa hfn;clear hfn;have aa6:x.length<=4097:=by
    have h1:=wQ x MH.o.1.1;have h2:=(MH.o.sum_bd kj.o.1 (fun n q=>q.1)).2;have:=kj.o.2;omega
   have CM:=aa (SK.mono (B':=w3.heap.size) hsz10);clear SK;have Ux:=aa SM;clear SM;have C7:=aa (Ax.o.trans (hb11.mono hsz10));have HOW11:=aa (HOW10.o.below hb11);have Om:=aa (L3.o.below hb11);have SN:=Zbk hb11 ap6;have hsz11:=C7.o.size;clear hb11 Ax HOW10 L3 ap6 ML;go_upto_region 13 with(fail);have r3:=Om.o.rc 3 _ rfl;have r5:=Om.o.rc 5 _ rfl;have N8:Hid (uM r=(r.Gg==1&&!r.near.toList.isEmpty)):=aa rfl;have key:(r.Gg==1)=false\/((r.Gg==1)=true/\r.near.toList.isEmpty=true)\/((r.Gg==1)=true/\r.near.toList.isEmpty=false):=by
    cases (r.Gg==1)<;>cases r.near.toList.isEmpty<;>simp
   have HPU:Hid ((r.Gg != 1)=!(r.Gg==1)):=aa rfl;rcases key with h1|⟨h1,h2⟩|⟨h1,h2⟩
   ·rw[h1]at N8 HPU;have hpu:(r.Gg != 1)=true:=HPU.o;have Oe:Hid (tC g r d x):=aa Teh;obtain⟨pf,nf,cf,rfl⟩:=CM.o.slice;go_wp2_with(at_builtin;refine iA rfl _ _ rfl w3.heap.size _ ys (.slice pf nf cf) x rfl ?c1 ?c2 w11.heap.size 1 rfl ?c3 ?c4 ?c5 ?_)
    all_goals first|(case c1=>exact HOW11.o.below (ae _ _))|(case c2=>exact CM.o.below (ae _ _))|(case c3=>exact aD rfl rfl)|(case c4=>omega)|(case c5=>simp;omega)|skip
    intro v' w12 hown1 hb12 _;have at5:=aa ((C7.o.alloc hsz11 _).trans hb12);have HOW12:=aa hown1;clear hown1 hb12;go_wp2;go_roundw;exact⟨m+1,TcN,TcR,at5.o,_,HOW12.o,by simp[Nz],NZ.o.snoc Td9 Oe.o TcN⟩;simp[intOf];omega
   ·rw[h1,h2]at N8;rw[h1]at HPU;have hpu:(r.Gg != 1)=false:=HPU.o;have Oe:Hid (tC g r d x):=aa Teh;obtain⟨pf,nf,cf,rfl⟩:=CM.o.slice;go_wp2_with(at_builtin;refine iA rfl _ _ rfl w3.heap.size _ ys (.slice pf nf cf) x rfl ?e1 ?e2 w11.heap.size 1 rfl ?e3 ?e4 ?e5 ?_)
    all_goals first|(case e1=>exact HOW11.o.below (ae _ _))|(case e2=>exact CM.o.below (ae _ _))|(case e3=>exact aD rfl rfl)|(case e4=>omega)|(case e5=>simp;omega)|skip
    intro v' w12 hown1 hb12 _;have at5:=aa ((C7.o.alloc hsz11 _).trans hb12);have HOW12:=aa hown1;clear hown1 hb12;go_wp2;go_roundw;exact⟨m+1,TcN,TcR,at5.o,_,HOW12.o,by simp[Nz],NZ.o.snoc Td9 Oe.o TcN⟩;simp[intOf];omega
   rw[h1,h2]at N8;rw[h1]at HPU;have hpu:(r.Gg != 1)=false:=HPU.o;have Oe:Hid (tC g r d (x.flatMap (nrL E d.name))):=aa Teh;clear Zq N8 HPU;have HX:=aa CM.o.rd;obtain⟨p3,c3,rfl,ac4,ac5,hx3⟩:=CM.o.rd;have Ul:=aa hx3;clear hx3 HX;go_upto_region 17 with(fail);clear r3 r5 h1 h2 hpu;go_loopw[13,14] (fun lv i wi=>∃k:Nat,k<=x.length/\i=.int .i64 k/\bM wi w11.heap.size lv ((x.take k).flatMap (nrL E d.name))/\Below w11.heap.size w11 wi) (fun _ i _=>x.length-(intOf i).toNat)
   exact⟨0,cg _,rfl,bM.nil _ _,bj _ _⟩;obtain⟨k,hk,rfl,aE7,hBi⟩:=hrel;have HOL:=aa aE7;clear aE7;have Pp:=aa hBi;clear hBi;have as2:=Pp.o.size;have Rn:=lY (nrL E d.name) 10 (x.take k) fun f _=>by have:=JS E d.name f;omega
   have DB:(x.take k).length<=4097:=by rw[ey];omega
   by_cases hlt2:k<x.length
   ·obtain⟨f,hf⟩:=aj x k hlt2;obtain⟨b4,off4,hp3,hb4,hc4⟩:=Ul.o TcN;subst hp3;have YC:=aa (Ma (nrL E d.name) hf);have HCF:=aa (fun(wj:World) (hj:Below w11.heap.size w11 wj)=>hc4.below hj hb4 k f hf);clear hc4 hf;generalize hL0:(x.take k).flatMap (nrL E d.name)=L0 at *;clear hL0;go_upto_region 20 with(fail);go_loopw[13,15] (fun lv i wj=>∃j:Nat,j<=E.length/\i=.int .i64 j/\bM wj w11.heap.size lv (L0++nrL (E.take j) d.name f)/\Below w11.heap.size w11 wj) (fun _ i _=>E.length-(intOf i).toNat)
    exact⟨0,cg _,rfl,by rw[iv,show nrL [] d.name f=[] from rfl,eM];exact HOL.o,Pp.o⟩;clear HOL Pp as2;obtain⟨j,hj,rfl,aE8,Y0⟩:=hrel;have HOJ:=aa aE8;clear aE8;have Uu:=aa Y0;clear Y0;have aF5:=Uu.o.size;have zr:=JS (E.take j) d.name f;rw[ey]at zr;by_cases hlt3:j<E.length
    ·obtain⟨e,he⟩:=aj E j hlt3;obtain⟨b5,off5,us5,rfl,aK3,aC2,aJ2,aC3,hcv5⟩:=B2.o.elem (k:=j) (x:=(⟨false,e.1,e.2⟩:aR)) (by rw[rI,he];rfl);obtain rfl:us5=_:=aC3;have aH6:wr.heap[b5]?=w3.heap[b5]?:=(Uu.o.block b5 TcN).trans (C7.o.block b5 aC2);obtain⟨q0,q1,q2⟩:=Mn aH6 hcv5;dsimp only at q1 q2;have G1:=aa (LX d.name f he);clear he hcv5 aJ2 aH6 q0;have hcf:=HCF.o _ Uu.o;obtain⟨f0,f1⟩:=hcf;have d0:wr.cell? Bd=some (.string d.name):=by
      have:=(Uu.o.block Bd (aq SN.o)).trans SN.o;simp[World.cell?,this]
     by_cases hen:e.1=d.name
     ·have hb1:(e.1.toList==d.name.toList)=true:=by rw[hen];simp
      by_cases hes:e.2=f.1
      ·have hb2:(e.2==f.1)=true:=by rw[hes];simp
       rw[aw ⟨hen,hes⟩]at G1;clear hen hes;go_upto_region 22 with(fail);go_quiet (fail);have kq:∀n,Below wr.heap.size wr (wr.drewN n):=fun n=>aT (bj _ _) n;generalize hW22:World.drewN wr _=W22;have hb22:Below wr.heap.size wr W22:=by rw[<- hW22];exact kq _
       have aJ3:=aa (HOJ.o.below hb22);have aF7:=aa (Uu.o.trans (hb22.mono aF5));clear hb1 hb2 q1 q2 d0 kq hW22 hb22 f0 f1;have aG3:=aF7.o.size;obtain⟨f0,f1⟩:=HCF.o _ aF7.o;go_wp2_with(at_builtin;refine jg rfl _ _ rfl w11.heap.size _ (L0++nrL (E.take j) d.name f) f rfl ?c1 W22.heap.size 1 rfl ?c2 ?c3 ?c4 ?c5 ?_)
       all_goals first|(case c1=>exact aJ3.o.below (ae _ _))|(case c2=>exact aD rfl rfl)|(case c3=>exact aD rfl rfl)|(case c4=>rw[cD];omega)|(case c5=>simp;omega)|skip
       intro v' w6 hown1 hb1' _;have hA:=ae W22 (.cells #[.int .i64 f.1,.int .i64 f.2] 93);have Tq:=aa ((aF7.o.trans (hA.mono aG3)).trans hb1');have HOW6:=aa hown1;clear hA hb1' hown1 f0 f1;go_wp2;go_roundw;exact⟨j+1,TcN,TcR,by rw[G1.o];first|exact HOW6.o|(rw[<- cV];exact HOW6.o),Tq.o⟩;simp[intOf];omega
      have hb2:(e.2==f.1)=false:=beq_eq_false_iff_ne.2 hes;rw[bh (fun c=>hes c.2),eM]at G1;clear hen hes;go_upto_region 22 with(fail);go_quiet (fail);clear hb1 hb2 q1 q2 d0;go_wp2;go_roundw
      exact⟨j+1,TcN,TcR,TeN,aT Uu.o _⟩;simp[intOf];omega
     have hb1:=jI hen;rw[bh (fun c=>hen c.1),eM]at G1;clear hen;go_upto_region 22 with(fail);go_quiet (fail);clear hb1 q1 q2 d0;go_wp2;go_roundw
     exact⟨j+1,TcN,TcR,TeN,aT Uu.o _⟩;simp[intOf];omega
    obtain rfl:j=E.length:=by omega
    rw[cI]at HOJ;go_wp2;go_roundw;exact⟨k+1,TcN,TcR,by rw[YC.o];exact HOJ.o,Uu.o⟩;simp[intOf];omega
   obtain rfl:k=x.length:=by omega
   rw[cI]at HOL Rn;obtain⟨pl,nl,cl,rfl⟩:=HOL.o.slice;have at5:=aa (C7.o.trans (Pp.o.mono hsz11));have HOW12:=aa (HOW11.o.below Pp.o);have aJ4:=aa (HOL.o.mono (B':=w3.heap.size) hsz11);have hsz12:=at5.o.size;go_wp2_with(at_builtin;refine iA rfl _ _ rfl w3.heap.size _ ys (.slice pl nl cl) (x.flatMap (nrL E d.name)) rfl ?c1 ?c2 wr.heap.size 1 rfl ?c3 ?c4 ?c5 ?_)
   all_goals first|(case c1=>exact HOW12.o.below (ae _ _))|(case c2=>exact aJ4.o.below (ae _ _))|(case c3=>exact aD rfl rfl)|(case c4=>omega)|(case c5=>simp;omega)|skip
   intro v' w13 hown1 hb13 _;have WX:=aa ((at5.o.alloc hsz12 _).trans hb13);have HOW13:=aa hown1;clear hown1 hb13;go_wp2;go_roundw;exact⟨m+1,TcN,TcR,WX.o,_,HOW13.o,by simp[Nz],NZ.o.snoc Td9 Oe.o TcN⟩;simp[intOf];omega
 obtain rfl:m=g.Gb.length:=by omega
 have TF:=aa (cJ.o.trans (HB.o.mono hsz3));have HOZ:=aa (HOW.o.mono hsz3);clear HB HOW;go_wp2;go_ret2;exact⟨TF.o,.inr ⟨HQ.o,_,ys,rfl,HOZ.o,Nz,NZ.o⟩⟩
theorem Lf(hc:K5 g)(hd:g.Gb[i]?=some d)(he:e∈jE g nm)(hn:e.1=d.name):Mem (fM d.name d.Gc (pieces g.F9)) (e.2-1):=by
 unfold jE at he;cases hf:aM g.F9 nm with
 |none =>
  rw[hf]at he;simp[eY,oZ]at he
 |some v =>
  have hv:=eV hf;rw[hf,Option.getD_some]at he;unfold oZ at he;split at he
  ·rename_i s hs;have hsm:=mem_of_getLast? hs;split at he
   ·rename_i hk;obtain⟨a,ha,rfl⟩:=List.mem_map.1 he;obtain⟨k,hks⟩:=fc hsm;obtain⟨x,-,-,⟨hl,-⟩,-,-,-,-,-,-,-,-,-,hm,-⟩:=DD (hc.sg v hv k s hks).1;have hon:fP s:=by unfold fP;omega
    have hna:=(hc.pf.tm v hv).2 s hsm;have B4:=hna.2.2 hon a ha;have hre:=hc.re v hv s hsm;have hai:fI g s a=true:=by
     unfold mM at hre;split at hre
     ·cases hre
     split at hre
     ·cases hre
     rename_i hall;have hall:s.Ga.all (fI g s)=true:=by simpa using hall
     exact List.all_eq_true.1 hall a ha
    have N4:bH g.Gb a.on=some d:=by
     rw[show a.on=d.name from hn];exact hc.pf.df i d hd
    unfold fI at hai;rw[B4,N4,nj,eh,eh,fk,fk,fk,Option.getD_some]at hai;have hex:1<=iB s.kind s.length s.Ga.length:=by
     unfold iB;split
     ·rename_i hk2;have h0:=hm hk2.1;have hq:=Int.mul_ediv_add_emod s.length s.Ga.length;rw[h0,Int.add_zero]at hq;refine Decidable.byContradiction fun hlt=>?_;have h1:s.length/(s.Ga.length:Int)<=0:=by omega
      have h2:(s.Ga.length:Int)*(s.length/(s.Ga.length:Int))<=0:=Int.mul_nonpos_of_nonneg_of_nonpos TcN h1;omega
     exact hl
    refine⟨_,vC.2 ⟨aJ v.name s a,List.mem_flatMap.2 ⟨v,hv,List.mem_flatMap.2 ⟨s,hsm,by unfold aK;rw[aw hon];exact List.mem_map.2 ⟨a,ha,rfl⟩⟩⟩,⟨hn,hai.1.1,?_,?_⟩,rfl⟩,?_,?_⟩
    ·simp only[aJ];omega
    ·simp only[aJ];omega
    ·simp only[aJ];omega
    simp only[aJ];omega
   simp at he
  simp at he
theorem GY(hc:K5 g)(hd:g.Gb[i]?=some d)(he:e∈jE g nm)(hn:e.1=d.name)(hx:iE x (xy g d)){r:Int × Int}(hr:r∈x)(h1:r.1<=e.2)(h2:e.2<r.1+r.2):r.1=e.2:=by
 refine Decidable.byContradiction fun hne=>?_;have hf:=(hx.2 (e.2-1)).1 ⟨r,hr,TcN,TcN⟩;exact hf.2 (Lf hc hd he hn)
theorem A7{f:Int × Int}:∀ {E:List (ByteArray × Int)},E.Pairwise (fun p q=>p.1=nm->q.1=nm->p.2<q.2)->nrL E nm f=if(E.any fun e=>decide (e.1=nm)&&decide (e.2=f.1))=true then [f] else []
 |[],_=>rfl
 |e :: E,h=>by
  obtain⟨h1,h2⟩:=List.pairwise_cons.1 h;have ih:=A7 h2 (f:=f);rw[show nrL (e :: E) nm f=(if e.1=nm/\e.2=f.1 then [f] else [])++nrL E nm f from by simp[nrL],List.any_cons];by_cases hc:e.1=nm/\e.2=f.1
  ·rw[aw hc,aw (by simp[hc.1,hc.2])];have:nrL E nm f=[]:=by
    rw[ih,bh];intro ha;obtain⟨q,hq,hp⟩:=List.any_eq_true.1 ha;rw[eh,fk,fk]at hp;have:=h1 q hq hc.1 hp.1;omega
   rw[this];rfl
  rw[bh hc,List.nil_append,ih];have:(decide (e.1=nm)&&decide (e.2=f.1))=false:=by
   rw[<- Bool.not_eq_true,eh,fk,fk];exact hc
  rw[this,nj]
theorem lV{F:α->List α}{p:α->Bool}:∀ {l:List α},(∀f∈l,F f=if p f=true then [f] else [])->l.flatMap F=l.filter p
 |[],_=>rfl
 |f :: l,h=>by
  rw[lB,h f cG,lV fun q hq=>h q (kn _ hq),List.filter_cons];split<;>rfl
theorem IJ(hc:K5 g)(nm dn:ByteArray):(jE g nm).Pairwise (fun p q=>p.1=dn->q.1=dn->p.2<q.2):=by
 have hrow:(pieces g.F9).Pairwise (fun q p=>p.disk=q.disk->q.start+q.len<=p.start):=by
  rw[List.pairwise_iff_getElem];intro i j hi hj OG;exact hc.row j i _ _ OG (lO hj) (lO hi)
 unfold jE;cases hf:aM g.F9 nm with
 |none=>simp[eY,oZ]
 |some v =>
  have hv:=eV hf;rw[Option.getD_some];unfold oZ;split
  ·rename_i s hs;have hsm:=mem_of_getLast? hs;split
   ·rename_i hk;obtain⟨k,hks⟩:=fc hsm;obtain⟨x,-,-,⟨hl,-⟩,-,-,-,-,-,-,-,-,-,hm,-⟩:=DD (hc.sg v hv k s hks).1;have hon:fP s:=by unfold fP;omega
    have h1:(aK v.name s).Pairwise (fun q p=>p.disk=q.disk->q.start+q.len<=p.start):=by
     have h2:=(List.pairwise_flatMap.1 hrow).1 v hv;exact(List.pairwise_flatMap.1 h2).1 s hsm
    unfold aK at h1;rw[aw hon,List.pairwise_map]at h1;unfold qN;rw[List.pairwise_map];refine h1.imp_of_mem fun {a b} ha _ h2 h3 h4=>?_;have h5:=h2 (by show b.on=a.on;rw[show a.on=dn from h3,show b.on=dn from h4])
    have hex:1<=iB s.kind s.length s.Ga.length:=by
     have aK4:0<s.Ga.length:=List.length_pos_of_mem ha;unfold iB;split
     ·rename_i hk2;have h0:=hm hk2.1;have hq:=Int.mul_ediv_add_emod s.length s.Ga.length;rw[h0,Int.add_zero]at hq;refine Decidable.byContradiction fun hlt=>?_;have h1:s.length/(s.Ga.length:Int)<=0:=by omega
      have h2:(s.Ga.length:Int)*(s.length/(s.Ga.length:Int))<=0:=Int.mul_nonpos_of_nonneg_of_nonpos TcN h1;omega
     exact hl
    have h6:a.start+iB s.kind s.length s.Ga.length<=b.start:=h5;show a.start+iB s.kind s.length s.Ga.length<b.start+iB s.kind s.length s.Ga.length;omega
   exact List.Pairwise.nil
  exact List.Pairwise.nil
theorem LY{y:List (Int × Int)}(hc:K5 g)(hd:g.Gb[i]?=some d)(hx:iE x (kI g r d))(hy:tC g r d y):y=x:=by
 unfold tC at hy;split at hy
 ·rename_i hb;obtain⟨z,hz,-,rfl⟩:=hy;cases hn:uM r with
  |false =>
   rw[bh TcO];exact(hz.eq (tq hb hn hz) fun n=>by unfold kI;rw[hb,hn];simp).trans (hx.eq (tq hb hn hz) fun _=>Iff.rfl).symm
  |true =>
   rw[aw rfl];have hq:iE (z.filter fun f=>(jE g r.near).any fun e=>decide (e.1=d.name)&&decide (e.2=f.1)) (kI g r d):=by
    refine yE hb hn hz ⟨⟨fun q hq=>hz.1.1 q (List.mem_filter.1 hq).1,hz.1.2.filter _⟩,fun n=>⟨fun⟨f,hf,h1,h2⟩=>?_,fun⟨q,hq,h1,h2⟩=>?_⟩⟩
    ·obtain⟨Yi,hfe⟩:=List.mem_filter.1 hf;obtain⟨e,he,hee⟩:=List.any_eq_true.1 hfe;rw[eh,fk,fk]at hee;have hf1:=hz.1.1 f Yi;refine⟨(e.2,f.1+f.2-e.2),List.mem_flatMap.2 ⟨e,he,List.mem_filterMap.2 ⟨f,Yi,aw ⟨hee.1,TcN,TcN⟩⟩⟩,?_,?_⟩
     ·show e.2<=n;omega
     show n<e.2+(f.1+f.2-e.2);omega
    obtain⟨e,he,hen,h3,f,hf,h4,h5,h6⟩:=Dl hq;have:=GY hc hd he hen hz hf h4 h5;exact⟨f,List.mem_filter.2 ⟨hf,List.any_eq_true.2 ⟨e,he,by simp[hen,this]⟩⟩,TcN,TcN⟩
   rw[hx.eq hq fun _=>Iff.rfl];exact lV fun f _=>A7 (IJ hc r.near d.name)
 rename_i hb;rw[hy,L9 hx fun n h=>hb h.1]
theorem rq{ok:Nat->Prop}(g:af)(a:bN)(r:aY)(k:Int)(w:World)(hr:b6 aO 7 ok w [.slice a.dp g.Gb.length a.dc] g.Gb)(CD:g.Gb.length<=1000000)(nt:∀d∈g.Gb,d.tags.length<=1000000/\d.name.size<=1000000)(hk:-9223372036854775808<=k/\k<=9223372036854775807) :
  Calls prog 21 #[.agg (Tad g a),.agg (Taj r),.int .i64 k] w (FZ (jU g r k) w):=by
 have HG:=aa hr;clear hr;have Oj:=aa nt;clear nt;have hA1:=ae w (.cells (Tad g a) 32);have hA2:=ae (w.alloc (.cells (Tad g a) 32)) (.cells (Taj r) 24);have hN1:=b9 w (.cells (Tad g a) 32);have hN2:=b9 (w.alloc (.cells (Tad g a) 32)) (.cells (Taj r) 24);rw[cW]at hN2;have Fm:Hid (jF ((w.alloc (.cells (Tad g a) 32)).alloc (.cells (Taj r) 24)) w.heap.size (w.heap.size+1) g a r):=aa ⟨(hA2.block _ (aq hN1)).trans hN1,hN2⟩;have cU:=aa (hA1.trans (hA2.mono hA1.size));clear hA1 hA2 hN1 hN2;go_enter func21,ntmps21
 go_upto_region 1 with(fail);generalize hW1:World.alloc (World.alloc w _) _=W1 at *;generalize Rz:w.heap.size+1=Br at *;generalize C1:w.heap.size=Bg at *;have Tm:Hid (Below w.heap.size w W1):=aa Tdy;clear hW1 cU;have g6:=Fm.o.gc 6 _ rfl;by_cases h0:k<0
 ·exact TbP
 obtain⟨j,rfl⟩:=D4 (by omega:0<=k);by_cases hlt:j<g.Gb.length
 ·obtain⟨d,hd⟩:=aj g.Gb j hlt;have HR:Hid (jU g r j=nU r.sep d):=aa TeO;have WY:=Oj.o d (ct hd);obtain⟨b,off,us,hsp,gR,cX,ez,eE,hcv⟩:=HG.o.elem hd;obtain⟨tv,rfl,ew⟩:=eE;obtain⟨tp,tc,rfl,_,_⟩:=ew.cap;rw[hsp]at g6;have cT:=Tm.o.block b cX;obtain⟨q0,q1,q2,q3,q4,q5,q6⟩:=OD cT hcv;clear hcv ez cT hd hsp;have hA:=ae W1 (.cells (Tah d tp tc) 39);have sX:=aa (b9 W1 (.cells (Tah d tp tc) 39));have cm:=Zbl Tm hA;have ZG:=aa ((Fm.o.below hA).rc 6 _ rfl);have Zq:=aa (aq (Fm.o.below hA).r);have Hx:=aa ((b6.moves aF.moves).mv (ok':=fun b=>ok b) ⟨cm.o.size,fun b hb ho=>⟨ho,cm.o.block b hb⟩⟩ ew);clear hA ew;go_upto_region 4 with(fail);clear q0 q1 q2 q3 q4 q5 q6 g6;generalize hW2:World.alloc W1 _=W2 at *;generalize hBd:W1.heap.size=Bd at *;clear hW2;have aJ5:=aq sX.o;have aJ6:=Zq.o;have ad2:=WY.1;have hnz:=WY.2;clear WY;go_wp2;go_loopw[8] (fun i wr=>∃m:Nat,m<=d.tags.length/\i=.int .i64 m/\(d.tags.take m).find? (mq r.sep)=none/\Below W2.heap.size W2 wr) (fun i _=>d.tags.length-(intOf i).toNat)
  exact⟨0,cg _,rfl,rfl,bj _ _⟩;obtain⟨m,hm,rfl,hfn,hB⟩:=hrel;have MH:=aa hfn;clear hfn;have dL:=mi ((hB.block _ aJ5).trans sX.o);have d0:=dL 0 _ rfl;have d6:=dL 6 _ rfl;have r6:=(hB.cell (p:=⟨Br,6,none⟩) aJ6).trans ZG.o;have fy:=Zbl cm hB;have Fc:=aa hB;clear dL;by_cases hlt2:m<d.tags.length
  ·obtain⟨t,ht⟩:=aj d.tags m hlt2;obtain⟨b3,off3,us3,hsp3,B7,PV,pT,Tr,hcv3⟩:=Hx.o.elem ht;obtain rfl:us3=_:=Tr;subst hsp3;have q0:=(hB.cell (p:=⟨b3,off3+m*1+0,none⟩) PV).trans (hcv3 0 _ rfl);rw[fp,fg]at q0;have HF1:Hid (mq r.sep t=true->nU r.sep d=t):=aa fun hb=>by
    exact TbR
   have HF2:Hid (mq r.sep t=false->(d.tags.take (m+1)).find? (mq r.sep)=none):=aa fun hb=>by
    rw[take_snoc' d.tags m t ht,tD,MH.o];simp[hb]
   have nw:Hid (mq r.sep t=(!r.sep.toList.isEmpty&&Lib.hasPrefix t.data.toList r.sep.data.toList)):=aa rfl;have aw9:=aa (Lib.hasPrefix_raw t r.sep);have aJ7:Hid (r.sep.toList.isEmpty=true->nU r.sep d=d.name++⟨#[32]⟩):=aa fun h=>by
    unfold nU;rw[List.find?_eq_none.2 fun x hx=>by simp[mq,h]]
   clear ht hcv3 pT hB;cases OQ:r.sep.toList.isEmpty with
   |true =>
    have E3:=aa (aJ7.o OQ);have ad3:¬(9223372036854775807<d.name.size+1):=by omega
    go_wp2;go_ret;exact⟨TdN,fy.o⟩
   |false =>
    rw[OQ]at nw;have o0:Hid (∀n,Below Bg w (wr.drewN n)):=aa fun n=>by rw[<- C1];exact aT fy.o n
    have HBY:Hid (∀n,Below W2.heap.size W2 (wr.drewN n)):=aa fun n=>aT Fc.o n
    by_cases hle:r.sep.size<=t.size
    ·have hg:decide ((t.size:Int) ≥ (r.sep.size:Int))=true:=eA TcN
     cases Uz:Lib.hasPrefix t.data.toList r.sep.data.toList with
     |true =>
      rw[Uz]at nw;have Yh:((t.extract 0 r.sep.size).toList==r.sep.toList)=true:=by
       have:=aw9.o;rwa[Uz,eA hle,Bool.true_and]at this
      have E3:=aa (HF1.o nw.o);clear Uz aw9;go_upto_region 8 with(fail);go_quiet (fail);clear Yh hg;go_wp2;go_ret;exact⟨TdN,by rw[C1];exact o0.o _⟩
     |false =>
      rw[Uz]at nw;have Yh:((t.extract 0 r.sep.size).toList==r.sep.toList)=false:=by
       have:=aw9.o;rwa[Uz,eA hle,Bool.true_and]at this
      have E3:=aa (HF2.o nw.o);clear Uz aw9;go_upto_region 8 with(fail);go_quiet (fail);clear Yh hg;go_wp2;go_roundw
      exact⟨m+1,TcN,TcR,E3.o,HBY.o _⟩;simp[intOf];omega
    have hg:decide ((t.size:Int) ≥ (r.sep.size:Int))=false:=cN TcN;have E3:=aa (HF2.o (by rw[nw.o,<- aw9.o,cN hle];rfl));clear aw9;go_upto_region 8 with(fail);go_quiet (fail);clear hg;go_wp2;go_roundw
    exact⟨m+1,TcN,TcR,E3.o,HBY.o _⟩;simp[intOf];omega
  obtain rfl:m=d.tags.length:=by omega
  rw[cI]at MH;have E3:Hid (nU r.sep d=d.name++⟨#[32]⟩):=aa (by unfold nU;rw[MH.o]);have ad3:¬(9223372036854775807<d.name.size+1):=by omega
  clear hB;go_wp2;go_ret;exact⟨TdN,fy.o⟩
 exact Tbw
theorem Iq.form{w':World}{e:Ending}(h:Iq g r w e w') :
  ∃v ys,e=.returned (.tuple #[v,.int .i64 (yZ g r)])/\fH w' w.heap.size v ys/\RPX g r ys/\(ys.length=if yZ g r=0 then g.Gb.length else 0)/\Below w.heap.size w w':=by
 obtain⟨hb,⟨hp,rfl⟩|⟨hp,v,ys,rfl,ho,hl,hx⟩⟩:=h
 ·exact⟨_,[],rfl,fH.nil _ _,fun i d y _ hy=>(by cases hy),by rw[bh hp];rfl,hb⟩
 exact⟨v,ys,by rw[hp],ho,hx,by rw[aw hp];exact hl,hb⟩
theorem Lr{xs ys:List (List (Int × Int))}(hc:K5 g)(hx:tK g r xs)(hy:RPX g r ys)(hl:xs.length=ys.length)(hd:xs.length<=g.Gb.length):ys=xs:=by
 refine Bk fun i=>?_
 by_cases hi:i<xs.length
 ·obtain⟨x,h1⟩:=aj xs i hi;obtain⟨y,h2⟩:=aj ys i TcN;obtain⟨d,h3⟩:=aj g.Gb i TcN;rw[h1,h2,LY hc h3 (hx i d x h3 h1).1 (hy i d y h3 h2).1]
 rw[xj TcN,xj TcN]
theorem kD{ok:Nat->Prop}(g:af)(a:bN)(r:aY)(k:Int)(w:World)(hg:dN ok w g a)(hgi:GOk g)(hc:K5 g)(hr:dK r)(hpl:∀p∈pieces g.F9,0<=p.len/\p.len<=1000000)(nt:∀d∈g.Gb,d.tags.length<=1000000/\d.name.size<=1000000)(hk:-9223372036854775808<=k/\k<=9223372036854775807)(hS:AW w) :
  Calls prog 7 #[.agg (Tad g a),.agg (Taj r),.int .i64 k] w fun e w'=>e=.returned (.bool true)/\Below w.heap.size w w':=by
 have XT:=aa hgi;have HC:=aa hc;have SA:=aa hr;clear hr;have RL:=aa hpl;clear hpl;have Oj:=aa nt;clear nt;have Nj:Hid (g.Gb.length<=8):=aa hc.pf.dl;have HPE:Hid (kP g r=yZ g r):=aa (by unfold kP;rw[aw hgi.2]);clear hgi hc;have hA1:=ae w (.cells (Tad g a) 32);have hA2:=ae (w.alloc (.cells (Tad g a) 32)) (.cells (Taj r) 24);have hN1:=b9 w (.cells (Tad g a) 32);have hN2:=b9 (w.alloc (.cells (Tad g a) 32)) (.cells (Taj r) 24);rw[cW]at hN2;have Fm:Hid (jF ((w.alloc (.cells (Tad g a) 32)).alloc (.cells (Taj r) 24)) w.heap.size (w.heap.size+1) g a r):=aa ⟨(hA2.block _ (aq hN1)).trans hN1,hN2⟩;have cU:=aa (hA1.trans (hA2.mono hA1.size));have HG1:=aa (hg.mv (Mv.of cU.o));have HS1:=aa (hS.below cU.o);clear hA1 hA2 hN1 hN2 hg hS;go_enter func7,ntmps7
 go_upto_region 1 with(fail);generalize World.alloc (World.alloc w _) _=W1 at *;generalize hE1:w.heap.size+1=Br at Fm ⊢;generalize hE0:w.heap.size=Bg at Fm ⊢;clear hE0 hE1;have gL:=Fm.o.gc;obtain⟨g0,g1,g2,g3,g4,g5,g6,g7,g8⟩:=xr gL;have rL:=Fm.o.rc;obtain⟨r0,r1,r2,r3,r4,r5,r6⟩:=se rL;clear gL rL;have HP:=aa (jk g a r W1 HG1.o XT.o SA.o HS1.o);go_wp2_with fail;clear g0 g1 g2 g3 g4 g5 g6 g7 g8 r0 r1 r2 r3 r4 r5 r6;refine HP.o.mono ?_;clear HP;intro e w2 hp2;obtain⟨xv,xs,rfl,OA,Zs,vh,hb2⟩:=hp2.form;clear hp2;rw[HPE.o]at vh ⊢;have PW:=aa OA;clear OA;have HXP:=aa Zs;clear Zs;have NA:=aa vh;clear vh;have cm:=Zbl cU hb2;have aq6:=aa (Fm.o.below hb2);have HG2:=aa (HG1.o.mv (Mv.of hb2));have HS2:=aa (HS1.o.below hb2);clear hb2 cU Fm HG1 HS1;have gL:=aq6.o.gc;obtain⟨g0,g1,g2,g3,g4,g5,g6,g7,g8⟩:=xr gL;have rL:=aq6.o.rc;obtain⟨r0,r1,r2,r3,r4,r5,r6⟩:=se rL;clear gL rL;have HP:=aa (pK g a r w2 HG2.o HC.o SA.o RL.o);go_wp2_with fail;clear g0 g1 g2 g3 g4 g5 g6 g7 g8 r0 r1 r2 r3 r4 r5 r6;refine HP.o.mono ?_;clear HP;intro e w3 hp3;obtain⟨yv,ys,rfl,SP,hyp,Nz,hb3⟩:=hp3.form;clear hp3;have hxd:xs.length<=g.Gb.length:=by rw[NA.o];split<;>omega
 obtain rfl:=Lr HC.o HXP.o hyp (NA.o.trans Nz.symm) hxd;have cJ:=Zbl cm hb3;have C6:=aa (aq6.o.below hb3);have HG3:=aa (HG2.o.mv (Mv.of hb3));have HS3:=aa (HS2.o.below hb3);have aF8:=aa (PW.o.below hb3);have aF9:=aa SP;clear hb3 cm aq6 HG2 HS2 PW SP hyp Nz HXP NA;have H1:Hid (∀q:fo,Calls prog 19 #[.agg (Tad g a),.agg (Taj r)] (ext w3 q) fun e w'=>e=.returned (.int .i64 (yZ g r))/\Below (ext w3 q).heap.size (ext w3 q) w'):=aa fun q=>by
  have:=yQ g a r (ext w3 q) (HG3.o.mv (Mv.of (dQ w3 q))) XT.o SA.o (HS3.o.below (dQ w3 q));rw[HPE.o]at this;exact this
 have H2:Hid (∀q:fo,Calls prog 20 #[.agg (Tad g a),.agg (Taj r)] (ext w3 q) fun e w'=>e=.returned (.int .i64 (yZ g r))/\Below (ext w3 q).heap.size (ext w3 q) w'):=aa fun q =>
  Jt g a r (ext w3 q) (HG3.o.mv (Mv.of (dQ w3 q))) HC.o SA.o
 have H3:Hid (∀q:fo,Calls prog 9 #[.agg (Tad g a),.agg (Taj r),.int .i64 k] (ext w3 q) fun e w'=>e=.returned (.string (jU g r k))/\Below (ext w3 q).heap.size (ext w3 q) w'):=aa fun q =>
  ug g a r k (ext w3 q) (HG3.o.mv (Mv.of (dQ w3 q))).Gb (by have:=Nj.o;omega) Oj.o hk
 have H4:Hid (∀q:fo,Calls prog 21 #[.agg (Tad g a),.agg (Taj r),.int .i64 k] (ext w3 q) fun e w'=>e=.returned (.string (jU g r k))/\Below (ext w3 q).heap.size (ext w3 q) w'):=aa fun q =>
  rq g a r k (ext w3 q) (HG3.o.mv (Mv.of (dQ w3 q))).Gb (by have:=Nj.o;omega) Oj.o hk
 generalize jU g r k=ck at *;generalize hE:yZ g r=E at *;clear hE;obtain⟨px,cx,rfl,_,_⟩:=aF8.o.cap;obtain⟨py,cy,rfl,_,_⟩:=aF9.o.cap;have enn:(E != E)=false:=by simp
 have lnn:((ys.length:Int) != (ys.length:Int))=false:=by simp
 have cnn:(ck.toList != ck.toList)=false:=by simp
 have gL:∀(i:Nat) (z:Value),[.string g.name,.int .u64 g.id,.int .i64 g.seq,.int .i64 g.Gd,.int .i64 g.next,.slice a.tp g.tags.length a.tc,.slice a.dp g.Gb.length a.dc,.slice a.vp g.F9.length a.vc,.slice a.hp g.history.length a.hc][i]?=some z->∀q:fo,(ext w3 q).cell? ⟨Bg,i,none⟩=some z:=fun i z hz=>aG (aq C6.o.g) (C6.o.gc i z hz);obtain⟨g0,g1,g2,g3,g4,g5,g6,g7,g8⟩:=xr gL;have rL:∀(i:Nat) (z:Value),[.int .i64 r.Gi,.int .i64 r.Gh,.int .i64 r.Gc,.int .i64 r.Gg,.string r.tag,.string r.near,.string r.sep][i]?=some z->∀q:fo,(ext w3 q).cell? ⟨Br,i,none⟩=some z:=fun i z hz=>aG (aq C6.o.r) (C6.o.rc i z hz);obtain⟨r0,r1,r2,r3,r4,r5,r6⟩:=se rL;clear gL rL
 go_upto_region 3 with(fail);(refine aU TcP TcP ?_;(repeat(go_big_quiet_step ((first|(go_at_call 19;exact iH (H1.o _))|(go_at_call 20;exact iH (H2.o _))|(go_at_call 9;exact iH (H3.o _))|(go_at_call 21;exact iH (H4.o _))))));(with_reducible refine fR ?_);intro wq ia;have kq:=dY ia;clear ia)
 clear g0 g1 g2 g3 g4 g5 g6 g7 g8 r0 r1 r2 r3 r4 r5 r6 H1 H2 H3 H4;have o0:=Zbl cJ kq;have aJ8:=aa (C6.o.below kq);have HGQ:=aa (HG3.o.mv (Mv.of kq));have HXQ:=aa (aF8.o.below kq);have HYQ:=aa (aF9.o.below kq);clear kq cJ C6 HG3 HS3 aF8 aF9 cnn enn;go_upto_region 6 with(fail);generalize hW5:wq=W5 at *;clear lnn hW5;go_loopw[11] (fun i wr=>∃m:Nat,m<=ys.length/\i=.int .i64 m/\Below W5.heap.size W5 wr) (fun i _=>ys.length-(intOf i).toNat)
 exact⟨0,cg _,rfl,bj _ _⟩;obtain⟨m,hm,rfl,hB⟩:=hrel;have HB:=aa hB;clear hB;have ay0:=HB.o.size;have TF:=Zbl o0 HB.o;by_cases hlt:m<ys.length
 ·obtain⟨x,hx⟩:=aj ys m hlt;obtain⟨b0,u0,hp0,_,hb0,hu0,ho0⟩:=HXQ.o.at hx;obtain⟨b1,u1,hp1,_,hb1,hu1,ho1⟩:=HYQ.o.at hx;subst hp0;subst hp1;have PJ:=aa (aJ8.o.below HB.o);have aH7:=aa (HGQ.o.mv (Mv.of HB.o));have HX:=aa (ho0.below HB.o).rd;have HY:=aa (ho1.below HB.o).rd;have e0:=aG (show b0<wr.heap.size by omega) ((HB.o.cell (p:=⟨b0,m,none⟩) hb0).trans hu0);have e1:=aG (show b1<wr.heap.size by omega) ((HB.o.cell (p:=⟨b1,m,none⟩) hb1).trans hu1);have hkm:(m:Int)<(ys.length:Int):=by omega
  have CD:=Nj.o;have H5:Hid (∀q:fo,Calls prog 22 #[u0,u1] (ext wr q) fun e w'=>e=.returned (.bool true)/\Below (ext wr q).heap.size (ext wr q) w'):=aa fun q=>by
   have:=LD x x u0 u1 (ext wr q) (HX.o.below (dQ wr q)) (HY.o.below (dQ wr q));rwa[LV]at this
  have H3:Hid (∀q:fo,Calls prog 9 #[.agg (Tad g a),.agg (Taj r),.int .i64 (m:Int)] (ext wr q) fun e w'=>e=.returned (.string (jU g r m))/\Below (ext wr q).heap.size (ext wr q) w'):=aa fun q =>
   ug g a r m (ext wr q) (aH7.o.mv (Mv.of (dQ wr q))).Gb TcN Oj.o TcN
  have H4:Hid (∀q:fo,Calls prog 21 #[.agg (Tad g a),.agg (Taj r),.int .i64 (m:Int)] (ext wr q) fun e w'=>e=.returned (.string (jU g r m))/\Below (ext wr q).heap.size (ext wr q) w'):=aa fun q =>
   rq g a r m (ext wr q) (aH7.o.mv (Mv.of (dQ wr q))).Gb TcN Oj.o TcN
  generalize jU g r m=ck at *;have cnn:(ck.toList != ck.toList)=false:=by simp
  have gL:∀(i:Nat) (z:Value),[.string g.name,.int .u64 g.id,.int .i64 g.seq,.int .i64 g.Gd,.int .i64 g.next,.slice a.tp g.tags.length a.tc,.slice a.dp g.Gb.length a.dc,.slice a.vp g.F9.length a.vc,.slice a.hp g.history.length a.hc][i]?=some z->∀q:fo,(ext wr q).cell? ⟨Bg,i,none⟩=some z:=fun i z hz=>aG (aq PJ.o.g) (PJ.o.gc i z hz);obtain⟨g0,g1,g2,g3,g4,g5,g6,g7,g8⟩:=xr gL;have rL:∀(i:Nat) (z:Value),[.int .i64 r.Gi,.int .i64 r.Gh,.int .i64 r.Gc,.int .i64 r.Gg,.string r.tag,.string r.near,.string r.sep][i]?=some z->∀q:fo,(ext wr q).cell? ⟨Br,i,none⟩=some z:=fun i z hz=>aG (aq PJ.o.r) (PJ.o.rc i z hz);obtain⟨r0,r1,r2,r3,r4,r5,r6⟩:=se rL;clear gL rL hu0 hu1 ho0 ho1 hx
  go_upto_region 8 with(fail);(refine aU TcP TcP ?_;(repeat(go_big_quiet_step ((first|(go_at_call 22;exact iH (H5.o _))|(go_at_call 9;exact iH (H3.o _))|(go_at_call 21;exact iH (H4.o _))))));(with_reducible refine fR ?_);intro wq ia;have kq:=dY ia;clear ia)
  have Mt:=aa (HB.o.trans (kq.mono ay0));clear g0 g1 g2 g3 g4 g5 g6 g7 g8 r0 r1 r2 r3 r4 r5 r6 H3 H4 H5 cnn e0 e1 kq;go_wp2;go_roundw;exact⟨m+1,TcN,TcR,Mt.o⟩;simp[intOf];omega
 obtain rfl:m=ys.length:=by omega
 go_wp2;go_ret;exact⟨rfl,TF.o⟩
end Go.Proofs.YtillcmhjhajimaaGreatDoor
