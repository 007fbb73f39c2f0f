/- Lemmas: FtC, LaidS. -/
import Derived.Test.YtfmbphdjcghfnaaGreatDoorQj10
import Derived.LaidMore
import Derived.Stop.Joined
set_option maxRecDepth 100000
set_option maxHeartbeats 32000000
set_option linter.all false
open List renaming length→Wq,getElem?_eq_some_iff→AT
open Go.World renaming alloc→AI,setCell→AF,cell?→AN
open Go.Value renaming int→Bm,slice→FG,string→By,pointer→SL,bool→Ft,agg→Tk,tuple→Vj
open Go.IntKind renaming i64→Sj,u64→U8
open Go.Obj renaming cells→Sx
open Go.Ending renaming returned→S6
open Option renaming some→Vv,none→VX
open Bool renaming false→VN,true→VR
open Decidable renaming decide→V7
namespace Go.Proofs.YtfmbphdjcghfnaaGreatDoor
variable{gt:Prop}
open Go.Proofs.Tryz
open Go.RowKit Go.Maps Go.Shelf
variable {r:aY}{Bq k:Nat}{g:af}{e left:Int}{L:wy (Nat × H5)}{w8 wr:H7}{sv:zY}{ss:wy aB}
def EC(r:aY):aY:=⟨1,1,r.Gc,r.Gg,r.tag,r.near,r.sep⟩
def O0(h:dK r):dK (EC r):=⟨(show(-9223372036854775808:Int)<=1/\(1:Int)<=9223372036854775807 by omega),(show(-9223372036854775808:Int)<=1/\(1:Int)<=9223372036854775807 by omega),h.e,h.p,h.t,h.n,h.q⟩
def iw.one{w0 w:H7}{Bg:Nat}{a:iX}(h:iw w0 Bg Bq g a r w)(hg:Bg<Bq)(hq:w0.1.size<Bq):iw w0 Bg Bq g a (EC r) ((w.setCell Bq (Bm Sj 1)).setCell (XM Bq 1) (Bm Sj 1)):=by
 have h1:dK ⟨1,r.Gh,r.Gc,r.Gg,r.tag,r.near,r.sep⟩:=⟨(show(-9223372036854775808:Int)<=1/\(1:Int)<=9223372036854775807 by omega),h.rq.s,h.rq.e,h.rq.p,h.rq.t,h.rq.n,h.rq.q⟩;exact(h.set ⟨1,r.Gh,r.Gc,r.Gg,r.tag,r.near,r.sep⟩ 0 (Bm Sj 1) lX h1 hg hq).set (EC r) 1 (Bm Sj 1) lX (O0 h.rq) hg hq
def Pe{xs ys:wy RU}(hc:K5 g)(hx:tK g r xs)(vh:xs.length=Wq g.Gb)(hy:RPX g r ys)(hyl:ys.length=Wq g.Gb):ys=xs:=by
 refine Bk fun i=>?_
 by_cases hi:i<Wq g.Gb
 ·obtain⟨d,hd⟩:=aj g.Gb i hi;obtain⟨x,h1⟩:=aj xs i WQ;obtain⟨y,h2⟩:=aj ys i WQ;rw[h1,h2,OB hc hd (hx i d x hd h1).1 (hy i d y hd h2).1]
 rw[xj WQ,xj WQ]
structure Lm(g:af)(e:Int)(L:wy (Nat × H5))(Bq:Nat)(w8:H7)(k:Nat)(left:Int)(sv:zY)(ss:wy aB)(wr:H7):Prop where
 fits:Fits left (L.drop k)
 eq:ss++wE g e left (L.drop k)=wE g e e L
 le:left<=e
 bl:Below w8.heap.size w8 wr
 vb:wr.heap[w8.heap.size]?=Vv (Sx (TaL sv) 46 (0,0))
 own:bF bC 11 55 (w8.heap.size+1) (fun q=>Bq<q/\q<w8.heap.size) wr sv ss
def Lm.len(h:Lm g e L Bq w8 k left sv ss wr):ss.length<=L.length:=by
 have:=fj List.length h.eq;rw[cD,wW,wW]at this;omega
variable{W w4:H7}
def Lm.next{a5:zY}{y:Nat × H5}(h:Lm g e L Bq w8 k left sv ss wr)(hy:L[k]?=Vv y)
  (hb:Below w8.1.size wr w4) (hv:w4.1[w8.1.size]?=Vv (Sx (TaL a5) 46 (0,0)))
  (ho:bF bC 11 55 (w8.1.size+1) (fun q=>Bq<q/\q<w8.1.size) w4 a5 (ss++[aV (e-left) (min left y.2.2) 1 [arN g y] 0])):Lm g e L Bq w8 (k+1) (left-min left y.2.2) a5 (ss++[aV (e-left) (min left y.2.2) 1 [arN g y] 0]) w4:=by
 have h1:=h.fits;have h2:=h.eq;have h3:=h.le;rw[drop_at hy]at h1 h2;have h4:=h1.1;have h5:=h1.2.1;refine⟨h1.2.2,?_,WQ,h.bl.trans hb,hv,ho⟩;rw[<- h2,cV];rfl
def Tbw(h:gt:=by
 have HAW:=aa (xY HS6.o.sf);have B3:=aa HS6.o.bl;go_wp2_with fail;refine HAW.o.mono ?_;rintro e w11 ⟨rfl,hb11⟩;have C7:=YS B3 hb11;clear hb11;go_wp2;go_ret;exact⟨rfl,C7.o⟩):=h
theorem Et(l:PI)(v:zY)(w:H7)(hr:Hs w v l)(hl:∀x∈l,-9223372036854775808<=x/\x<=9223372036854775807)(hS:AW w):Calls prog 3 #[v] w fun e w'=>e=S6 (Ft VR)/\Below w.1.size w w':=by
 replace hr:=aa hr;replace hS:=aa hS;go_enter func3,ntmps3
 go_wp2_with fail;refine(ED l v w hr.o hl).mono ?_;rintro e w1 ⟨rfl,hs1,R0,av⟩;go_wp2_with fail;refine(Ca w.1.size w1 hs1).mono ?_;intro e w2 hG;obtain⟨g,a,rfl,ai,a7,hs2,hb2,RC⟩:=hG.open2 av R0;have Tt:=aa (hS.o.below hb2);clear hs1 R0 av hG;have XT:=aa (⟨a7.gin,a7.mchk⟩:GOk g);have I3:=aa a7.ckIn;have bh:Hid ((mchk g).2=0):=aa a7.mchk;have ak:Hid (Wq g.Gb<=4/\Wq g.F9<=44):=aa ⟨a7.tame.dl,a7.tame.vl⟩;have RL:Hid (∀p∈pieces g.F9,0<=p.len/\p.len<=1000000):=aa (MB a7.tame.tame);replace a7:=aa a7;have bA:=ae w2 (Sx (Zg g a) 31);have rB:=aa (b9 w2 (Sx (Zg g a) 31));have Q5:=aa (ai.lt.keep (cR.bl bA));have Zv:=aa (hs2.keep (w':=w2.alloc (Sx (Zg g a) 31)) fun i hi=>bA.block i WQ);have cJ:=aa (hb2.trans (bA.mono hb2.size));have Tu:=aa (Tt.o.below bA);clear ai hs2 hb2 bA Tt;go_upto_region 3 with(fail);generalize bi:AI w2 _=W3 at *;generalize bj:w2.1.size=Bg at *;clear bi bj;obtain⟨g0,g1,g2,g3,g4,g5,g6,g7,g8⟩:=xr (cr rB.o);have CD:=ak.o.1;have mb:=ak.o.2;have SA:=aa (wX g a w.1.size W3 ((ck.moves aN.moves).mv ⟨bk _,fun b _ hb=>⟨hb.1,rfl⟩⟩ Q5.o.F9) WQ (fun v hv=>(XT.o.gi.tx.vol v hv).1) Zv.o);go_wp2_with fail;clear g0 g1 g2 g3 g4 g5 g6 g7 g8;refine SA.o.mono ?_;rintro e w4 ⟨r,rfl,⟨aK,Yj⟩,aC,a8⟩;replace Yj:=aa Yj;clear SA;have bJ:=hS.o.1;have hA:=ae w4 (Sx (Tam r) 34);have hN:=b9 w4 (Sx (Tam r) 34);have ye:Bg≠w.1.size:=by omega
 have a5:Hid (iw w Bg w4.1.size g a r (w4.alloc (Sx (Tam r) 34))):=aa
  ⟨aC.keep fun i hi=>hA.block i (rr hi aC.lt),(cJ.o.trans (a8.below cJ.o.size (fun k e=>by omega))).trans (hA.mono (cA cJ.o.size a8.size)),(Q5.o.keep a8).keep (cR.bl hA),
   (hA.block _ (cC (aq rB.o) a8.size)).trans ((a8.block _ (aq rB.o) ye).trans rB.o),hN,aK,(Tu.o.mod a8 WQ).below hA⟩
 have aD:=a8.size;have kq:Bg<w4.1.size:=cC (aq rB.o) a8.size;clear hA hN aK aC a8 rB Q5 Zv cJ Tu;unfold mO;go_upto_region 4 with(fail);generalize bm:AI w4 _=W5 at *;generalize PF:w4.1.size=Bq at *;clear bm PF;have bp:w.1.size<Bq:=by
  have:=a5.o.src.lt;have:=aD;omega
 have qL:=a5.o.qc;have q0:=qL 0 _ lX;have q1:=qL 1 _ lX;have qf:=a5.o.qf;clear qL;go_upto_region 5 with(fail);have ab:=aa (a5.o.one kq bp);clear q0 q1 qf a5;generalize AF (AF W5 _ _) _ _=W9 at *;have gL:=ab.o.gc;obtain⟨g0,g1,g2,g3,g4,g5,g6,g7,g8⟩:=xr gL;have qL:=ab.o.qc;obtain⟨q0,q1,q2,q3,q4,q5,q6⟩:=se qL;clear gL qL;have Ub:=aa (BS g a (EC r) W9 ab.o.gr XT.o ab.o.rq ab.o.sf lX);go_wp2_with fail;clear g0 g1 g2 g3 g4 g5 g6 g7 g8 q0 q1 q2 q3 q4 q5 q6;refine Ub.o.mono ?_;clear Ub;rintro e w6 ⟨v1,xs,rfl,sh,Uv,vh,-,V8⟩;have HS6:=aa (ab.o.below sh);have bK:=aq HS6.o.qb;have bs:=aq ab.o.qb;have bL:=sh.size;clear sh ab;by_cases he:Eb g (EC r) xs=0
 ·have hp:kP g (EC r)=0:=by
   unfold Eb at he;split at he
   ·assumption
   exact he
  rw[aw hp]at vh;have af:=A7.of hp;have hq:yZ g (EC r)=0:=by
   unfold kP at hp;rwa[aw bh.o]at hp
  have hal:(uR g (EC r) xs).2=VR:=by
   unfold Eb at he;rw[aw hp]at he;split at he
   ·assumption
   cases he
  have aE:=V8 he;rw[OX]at aE;have aG:Hid (mq w6 W9.1.size v1 [(xO (EC r) xs).map (arN g)]):=aa aE;have HF:=aa (OY a7.o af Uv vh Yj.o hal);have Xi:=aa (⟨Uv,vh⟩:_/\_);have XE:=aa af;have HQ:=aa hq;rw[he];clear he hp Uv vh V8 af hq hal aE;obtain⟨pv,cv,rfl,_,_⟩:=aG.o.cap;by_cases Zr:Wq g.F9<32
  ·have Qw:V7 ((Wq g.F9:Int) ≥ 32)=VN:=cN WQ;have gL:=HS6.o.gc;obtain⟨g0,g1,g2,g3,g4,g5,g6,g7,g8⟩:=xr gL;have qL:=HS6.o.qc;obtain⟨q0,q1,q2,q3,q4,q5,q6⟩:=se qL;clear gL qL;have aL:=aa (Lr g a (EC r) w6 HS6.o.gr I3.o HS6.o.rq RL.o);go_wp2_with fail;clear g0 g1 g2 g3 g4 g5 g6 g7 g8 q0 q1 q2 q3 q4 q5 q6 Qw;refine aL.o.mono ?_;clear aL;rintro e w8 ⟨ay,bu⟩;obtain⟨bw,_⟩|⟨_,yv,ys,rfl,SP,hyl,aM⟩:=bu
   ·exact absurd HQ.o bw
   obtain rfl:=Pe I3.o Xi.o.1 Xi.o.2 aM hyl;have aP:=aa (HS6.o.below ay);have bz:=aa (Xi.o.2);have ak:=aa (show (Wq g.Gb)<=8 by have:=ak.o.1;omega);have aR:=aa (aG.o.below ay);have Y8:=aa SP;obtain⟨py,cy,rfl,_,_⟩:=SP.cap;have aS:=ay.size;clear ay SP hyl aM aG HS6 Xi HQ;have bV:=ae w8 (Sx #[By ⟨#[110,101,119]⟩,Bm U8 9223372036854775808,VN,VN,FG VX 0 0,FG VX 0 0] 46);have Wx:=aa (b9 w8 (Sx #[By ⟨#[110,101,119]⟩,Bm U8 9223372036854775808,VN,VN,FG VX 0 0,FG VX 0 0] 46));go_upto_region 12 with(fail);have aT:=aa (aP.o.below bV);have Qe:=aa bV;generalize bD:AI w8 _=WV at *;clear bD bV;have q2:=aT.o.qc 2 _ lX;go_wp2;clear q2;have YC:Hid (Lm g r.Gc (xO (EC r) ys) Bq w8 0 r.Gc (FG VX 0 0) [] WV):=aa ⟨HF.o.fits,rfl,Int.le_refl _,Qe.o,Wx.o,[],gS _ _ _ 11,rfl⟩;generalize hL:xO (EC r) ys=L at *;have DG:Hid (L.length<=12/\(∀y∈L,∃d x,vM g ys y d x)/\(∀(i j:Nat) (D E:az),g.Gb[i]?=Vv D->g.Gb[j]?=Vv E->D.name=E.name->i=j)/\GOk (FU g (lh (wE g r.Gc r.Gc L)))):=aa ⟨hL ▸ HF.o.len,hL ▸ HF.o.on,HF.o.inj,hL ▸ HF.o.ok Zr⟩;clear hL HF aT Qe Wx;obtain⟨b1,u1,rfl,_,av,aU,aH⟩:=aR.o.at (k:=0) (x:=L.map (arN g)) lX;have hr1:=aH.rd (ok':=fun q=>Bq<q/\q<w8.1.size) aQ.moves YR (fun _ _ f=>f.elim) fun b q=>by
    obtain⟨cs,ho,_⟩:=aH;have:=ho.lt b q;exact⟨cC bs this.1,this.2⟩
   obtain⟨p2,c2,rfl,bE,bF⟩:=hr1.cap;have bG:=aa aU;have HR1:=aa hr1;have TW:(L.map (arN g)).length=L.length:=fW ..;replace TW:=aa TW;clear aU aH hr1 aR;have HRE:=aa (show 1<=r.Gc/\r.Gc<=4096 from XE.o.e);go_loopw[11,12] (fun lv i wr=>∃(k:Nat) (left:Int) (sv:zY) (ss:wy aB),k<=L.length/\lv=Bm Sj left/\i=Bm Sj k/\Lm g r.Gc L Bq w8 k left sv ss wr) (fun _ i _=>L.length-(intOf i).toNat)
   exact⟨0,r.Gc,_,_,cg _,rfl,rfl,YC.o⟩;clear YC;obtain⟨k,left,sv,ss,hk,rfl,rfl,hS⟩:=hrel;have a5:=aa hS;have Zv:=aa (aP.o.below hS.bl);have q1:=(hS.bl.cell (p:=b1) av).trans bG.o;clear hS;by_cases hlt:k<L.length
   ·obtain⟨y,hy⟩:=aj L k hlt;obtain⟨d,x,af⟩:=DG.o.2.1 y (ct hy);have aI:=a5.o.fits;rw[drop_at hy]at aI;have bM:=aI.1;have bO:=a5.o.le;have Vh:=HR1.o.elem (k:=k) (x:=arN g y) (by rw[rI,hy];rfl);obtain⟨b2,o2,us,rfl,bH,hb2,_,eE,am⟩:=Vh;obtain rfl:us=_:=eE;rw[af.nm]at am;have aV:k<(L.map (arN g)).length:=by rw[TW.o];exact hlt
    have ag:=aa a5.o.bl;have aS:=ag.o.size;have e0:=(Sc ag.o hb2).trans (am 0 _ lX);have e1:=(Sc ag.o hb2).trans (am 1 _ lX);have e2:=(Sc ag.o hb2).trans (am 2 _ lX);rw[fg]at e0;have ai:=Zv.o.gr.Gb;have hgb:=Zv.o.gb;have SP:=Y8.o.below ag.o;have ao:b1<wr.1.size:=by omega
    have a9:b2<wr.1.size:=by omega
    have HE:=aa (⟨e0,e1,e2,q1,ai,hgb,SP⟩:_/\_/\_/\_/\_/\_/\_);have aJ:=aa af;have HY:=aa hy;have bP:=HRE.o;clear e0 e1 e2 ai hgb SP af hy aI am;go_upto_region 16 with(fail);clear q1;refine Nu wr g a ys Bg b1 b2 o2 c2 k y d x left HE.o.2.2.2.2.2.1 aV ao HE.o.2.2.2.1 a9 HE.o.1 HE.o.2.1 HE.o.2.2.1 HE.o.2.2.2.2.1 HE.o.2.2.2.2.2.2 bz.o ak.o aJ.o DG.o.2.2.1 WQ (aa ?_) (fun _ _ _ _ _ h=>h);intro u61 u62 u63 u64 u65 u66 u67 u68 u69 u70 u71 u72 u73 Bx W3 aW hbz PX;have fy:=aa aW;have Fc:=aa PX;have mb:=aq a5.o.vb;clear aW PX;go_upto_region 17 with(fail);refine NN (ok0:=fun q=>Bq<q/\q<w8.1.size) W3 Bq b1 b2 o2 c2 k w8.1.size Bx left r.Gc (min left y.2.2) sv ss (arN g y) ((fy.o.block _ mb).trans a5.o.vb) Fc.o (fun q h=>h.2) WQ (by have:=fy.o.size;have:=aq Zv.o.qb;omega) ((Sc fy.o (aq Zv.o.qb)).trans (Zv.o.qc 2 _ lX)) (by have:=fy.o.size;omega) ((fy.o.cell (p:=b1) ao).trans HE.o.2.2.2.1) aV ⟨bE,bF⟩ WQ (by have:=a5.o.len;have:=DG.o.1;omega) ?_ ?_ (aa ?_) (fun _ _ _ _ _ h=>h)
    ·have bQ:=fy.o.size;refine OQ WQ WQ bH ?_ ?_ ?_
     all_goals rw[aJ.o.nm]
     ·exact(Sc fy.o a9).trans HE.o.1
     ·exact(Sc fy.o a9).trans HE.o.2.1
     exact(Sc fy.o a9).trans HE.o.2.2.1
    ·exact a5.o.own.stay bC.moves fy.o
    intro u74 u75 u76 u77 u78 u79 u80 u81 u82 u83 u84 u85 u86 u87 u88 u89 u90 u91 u92 bR W4 aX aY b8 ba;have z1:=aZ ba 1 _ lX;have hw:IntKind.i64.wrap (left-min left y.2.2)=left-min left y.2.2:=dy _ (by have:=aJ.o.b;omega);have HN:=aa (a5.o.next HY.o ((fy.o.mono WQ).trans b8) aX aY);clear aX aY b8 ba;go_wp2;go_roundw;exact⟨k+1,_,_,_,hlt,rfl,Zf,HN.o⟩;exact Ti
   obtain rfl:k=L.length:=by omega
   have hk2:¬L.length<(L.map (arN g)).length:=by rw[TW.o];omega
   have h0:=a5.o.fits;have h1:=a5.o.eq;rw[List.drop_length]at h0 h1;obtain rfl:left=0:=h0;obtain rfl:ss=wE g r.Gc r.Gc L:=by rw[<- h1];exact(eM _).symm
   clear h1;go_upto_region 19 with(fail);clear q1 hk2;have ag:=aa a5.o.bl;have aS:=ag.o.size;obtain⟨cs,ho,hf⟩:=a5.o.own;obtain⟨pn,cn,rfl⟩:∃pn cn,sv=FG pn (wE g r.Gc r.Gc L).length cn:=by
    have hr:=a5.o.own.rd (ok':=fun _=>True) bC.moves YR (fun _ _ _=>trivial) fun _ _=>trivial;obtain⟨pn,cn,rfl,_⟩:=hr.cap;exact⟨pn,cn,rfl⟩
   have B6:=aa (a5.o.own.rd (ok':=fun q=>q<wr.1.size/\q≠Bg) bC.moves YR (fun q _ h=>⟨WQ,WQ⟩) fun q e=>⟨(ho.lt q e).2,by have:=(ho.lt q e).1;omega⟩);clear ho hf;have HVL:=aa ((ck.moves aN.moves).mv (⟨bk _,fun q h1 h2=>⟨⟨h1,by have:=h2.2;omega⟩,rfl⟩⟩:Mv _ (fun q=>q<wr.1.size/\q≠Bg) wr wr) Zv.o.gr.F9);refine NY wr g a Bg w8.1.size (wE g r.Gc r.Gc L) Zv.o.gb a5.o.vb HVL.o B6.o WQ (aa ?_) (fun _ _ _ _ _ h=>h);intro u97 u98 u99 u100 u101 u102 u103 vp vc W7 au bd rn;have bI:=rn.size;have Vk:=aa (Zv.o.bl.trans (rn.mono WQ));have be:Hid (AW W7):=aa ⟨cC Zv.o.sf.1 rn.size,fun i l hl=>by
    rw[cd (w:=wr) (rn.block 0 WQ)];exact Zv.o.sf.2 i l hl⟩
   have aA:Mv (fun b=>b≠w.1.size/\b<Bg) (fun _=>True) wr W7:=⟨rn.size,fun b _ ho=>⟨trivial,rn.block b ho.2⟩⟩;have bf:Calls prog 11 #[Tk #[g.name,Bm U8 g.id,Bm Sj g.seq,Bm Sj g.Gd,Bm Sj g.next,FG a.tp (Wq g.tags) a.tc,FG a.dp (Wq g.Gb) a.dc,FG vp (g.F9++[lh (wE g r.Gc r.Gc L)]).length vc,FG a.hp (Wq g.history) a.hc]] W7 (OkM W7):=(Mk (ok:=fun _=>True) (FU g (lh (wE g r.Gc r.Gc L))) { a with vp:=vp,vc:=vc } W7 ⟨(ck.moves aF.moves).mv aA Zv.o.gr.tags,(ck.moves aO.moves).mv aA Zv.o.gr.Gb,bd,(ck.moves lF.moves).mv aA Zv.o.gr.hist⟩ DG.o.2.2.2.gi be.o DG.o.2.2.2.mk0)
   clear bd;generalize (g.F9++[lh (wE g r.Gc r.Gc L)]).length=nv at *;have bg:=aa bf;obtain⟨g0,g1,g2,g3,g4,g5,g6,g7,g8⟩:=xr (aZ au);clear au rn aA bf;go_wp2_with fail;clear g0 g1 g2 g3 g4 g5 g6 g7 g8;refine bg.o.mono ?_;clear bg;rintro e bS ⟨rfl,ah⟩;have Ax:=YS Vk ah;have HAW:=aa (xY (be.o.below ah));clear ah;go_wp2_with fail;refine HAW.o.mono ?_;rintro e w11 ⟨rfl,hb11⟩;have C7:=YS Ax hb11;clear hb11;go_wp2;go_ret;exact⟨rfl,C7.o⟩
  have Qw:V7 ((Wq g.F9:Int) ≥ 32)=VR:=eA WQ;have g7:=HS6.o.gc 7 _ lX;exact Tbw
 have bT:(Eb g (EC r) xs != 0)=VR:=by simpa using he
 clear he Uv vh;exact Tbw
open Go.ChangeShapes Go.WideShapes Go.ChangeAt Go.WideMaps Go.WideElems
def nC{H: Type} : wy (String × DataW H) := [("volumegroup/names.suffixes", Rows.laid_volumegroup_names_suffixes)]
def BU : prog.globalNamed "volumegroup/names.suffixes" = Vv 0 := by kernel_rfl
def BB:(prog.globals[0]?).map (·.type)=Vv 204:=by kernel_rfl
def Cj(os:Os){args:Array zY}:laidMetH prog nC ((World.doorLaid prog 400 os).forCall (fun _ _=>0) ⟨#[],args,[]⟩).memory :=
 laidMetH_of_parts3 (fuel:=8) (laidMet_of_run' 8 Yp Yp) Yp Yp
def vW(h:laidMetH prog nC W):AW W:=by
 rw[MakeChecks.laidMetH_plain _ _ _ Yp]at h;obtain⟨ps,⟨g0,t0,a8,f0,p0,q0,a5,a9,hv0,aa,_,_⟩,_,_⟩:=h;obtain rfl:=gj (BU.symm.trans a5);obtain rfl:=gj (BB.symm.trans a9);obtain⟨xs,m1,rfl,a7,On,hn,Vh⟩:=DataW.trod_array underlying204 aa;have c1:prog.cellsOf 9=1:=by kernel_rfl
 have c5:prog.cellsOf 204=5:=by kernel_rfl
 simp only[Prod.mk.injEq,DataW.agg.injEq]at a7;rw[c5]at On;have hx2:=a7.1;unfold Rows.laid_volumegroup_names_suffixes at hx2;injection hx2 with hx2;obtain⟨l⟩:=a8;have hl:l.length=5:=by simpa using On
 have key:∀(i:Nat) (s:wy UInt8),([] :: nV)[i]?=Vv s->l[i]?=Vv (By ⟨s.toArray⟩):=fun i s hs=>by
  have hi:i<5:=by
   have:=(AT.1 hs).1;simpa[nV]using this
  have he:=Vh i hi;obtain⟨x,hx⟩:=aj xs i WQ;rw[hx,c1]at he;obtain⟨t,e1,e2,_⟩:=DataW.trod_string underlying9 he;have QF:(xs.map (·.1))[i]?=Vv x.1:=by rw[rI,hx];rfl
  rw[<- hx2,e2]at QF;have h1:l[i]?=Vv (By t):=by
   have:=fj (fun z:RH=>z[0]?) e1;simpa[xF,pk]using this
  have h2:t.data.toList=s:=by
   rcases(show i=0\/i=1\/i=2\/i=3\/i=4 by omega)with rfl|rfl|rfl|rfl|rfl <;>
    (have e3:=gj hs;subst e3;simpa[Rows.laid_volumegroup_names_suffixes]using QF.symm)
  rw[h1,bytes_eta t,h2]
 have hlt:0<W.1.size:=by
  have:=World.var?_cell a5 hv0 0;have h0:=key 0 [] lX;have hc:W.cell? (XM 0 0)=Vv (By ⟨#[]⟩):=by simpa[h0]using this
  exact Nat.pos_of_ne_zero fun e=>by simp[AN,xp (by omega:W.1.size<=0)]at hc
 refine⟨hlt,fun i s hs=>?_⟩;have:=World.var?_cell a5 hv0 i;rw[this];simpa using key i s hs
end Go.Proofs.YtfmbphdjcghfnaaGreatDoor
