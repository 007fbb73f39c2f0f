/- vO. -/
import Derived.Test.YtfmbphdjcghfnaaGreatDoorQj03
set_option maxRecDepth 100000
set_option maxHeartbeats 32000000
set_option linter.all false
open List renaming length→Wq,range→FF,replicate→DE,mem_append→AS,getElem?_eq_some_iff→AT,singleton_inj→IF
open Go.Value renaming string→By,slice→FG,int→Bm
open Go.World renaming cell?→AN,frozen?→BT,setCell→AF,alloc→AI
open Go.IntKind renaming i64→Sj,u64→U8
open Go.Obj renaming cells→Sx
open Go.Value renaming pointer→SL,bool→Ft,agg→Tk,tuple→Vj
open Go.Ending renaming returned→S6
open Option renaming some→Vv,none→VX
open Bool renaming false→VN,true→VR
open Decidable renaming decide→V7
open Go renaming undef→uu
namespace Go.Proofs.YtfmbphdjcghfnaaGreatDoor
variable{gt:Prop}
open Go.Proofs.Tryz
open Go.RowKit
variable {α:Type}{sz B k:Nat}{t:TypeId}{w w':H7}{v:zY}{lengths:PI}
variable{RK RW Rr SO Se Sf St TO To UP W0 Wg Wr ZD ZS a5 a7 a8 a9 aE aL ab ag am ao av b0 b1 b2 b3 b4 b5 b8 bL bV ba be bf bl bm bp bu c0 c1 c10 c2 c5 c6 c7 c8 c9 ca cc ce cf ci cl cn co cp da dj dq eS fa fb ff fs ft fx gE gn iS im ka kc ke lE lP mT me mu mw mx nF o4 oE oR oS pe ph pr pt qe qk qt qv rl rm sE sa sd ta tb te tf ti tr tt tw v' vf vj vm vv we wg wv yW yk zd zp:zY}{F X ok':LN}{names:QN}{on s:H6}{Q:N2}{Ll Ln Lx M b cap j vb vc:Nat}{kind n:Int}{Ga:wy aR}{tl vs:wy ay}{xs:zY->Array zY}
variable {w a:H7}{B:Nat}{v:zY}{l:PI}
theorem vO(bs bb:Nat)(nv vv:zY)(g:af)(next:PI){w:H7}(h:eW X w bs bb nv vv g next)(hk:BOk g next)(name:H6)(a7:name.size<=100)(kind:Int)(AK:kind=3\/kind=4\/kind=5\/kind=7)(aj:1<=g.Gd)(ak:g.Gd<=16)(mb:Wq g.F9<=40)(bm:g.next<=1000):Calls prog 19 #[SL (Vv bb),By name,Bm Sj kind] w (fun e w'=>e=S6 (Vj #[])/\FD X bs bb nv vv g next name kind w w'):=by
 have k0:=hk.n0;have k1:=hk.n1;have c0:=h.c0;have c4:=h.c4;have cX:=h.Gj;have gO:=h.lt;have sy:¬bb=bs:=by omega
 go_enter func19,ntmps19;go_wp2;refine gW (fun w'=>w'.cell? bb=Vv (SL (Vv bs))/\w'.cell? (XM bb 4)=Vv (Bm Sj g.Gd)) 10 [0,1,2,3,5,6,7] Yp ⟨c0,c4⟩ (fun a5=>?_);refine fz 0 ?_;refine fz 1 ?_;refine fz 2 ?_;refine fz 3 ?_;refine fz 5 ?_;refine fz 6 ?_;refine fz 7 ?_;refine fS 4 a5 ?_;refine fS 8 a5 ?_;refine lR 9 fun K hK=>?_;go_simp;refine(bO bs 1 3 _ WQ WQ WQ (h.below ((bj _ _).drew)).src).mono ?_;rintro e w1 ⟨n,rfl,hn1,hn2,hs1,aC⟩;refine hK.o _ _ ⟨(aC.cell (p:=bb) cX sy).trans c0,(aC.cell (p:=⟨bb,4,VX⟩) cX sy).trans c4⟩ ?_;clear hK K;refine aP Yp lX ?_;simp only[cQ,cL];have P1:aH X bs bb nv vv w w1 nv vv g next:=((aH.refl h).drewN 1).read hs1 aC;clear aC hs1 a5 c0 c4
 go_upto_block 0 with(fail)
 generalize hW:AI (AI (AI w1 _) _) _=W;have T0:vq X bs bb nv vv g next w (w1.1.size+1+1+1) w1.1.size (w1.1.size+1) (w1.1.size+1+1) (FG VX 0 0) (FG VX 0 0) (FG VX 0 0) (FG VX 0 0) [] [] [] [] n kind 1 es 0 W:=by
  have hb:Below w1.1.size w1 W:=by
   rw[<- hW];exact(((bj _ _).alloc (bk _) _).alloc XN _).alloc ZY _
  have hz:W.1.size=w1.1.size+1+1+1:=by rw[<- hW];simp
  refine⟨⟨?_,?_,?_,⟨[],gS _ _ _ 1,rfl⟩,⟨[],gS _ _ _ 1,rfl⟩,⟨[],gS _ _ _ 3,rfl⟩,(fun _ e=>by cases e),(fun _ e=>by cases e),(fun _ e=>by cases e),WQ,WQ,WQ⟩,P1.fresh hb (fun k hk=>?_),ck.nil,WQ,P1.mod.size⟩
  ·rw[<- hW,cj _ _ _ XN];have:=b9 (w1.alloc (Sx #[Bm Sj 0,n,kind,FG VX 0 0,Bm Sj 1,FG VX 0 0,By es,By es,Bm Sj 0,Bm Sj 0,Bm Sj 0] 55)) (Sx #[FG VX 0 0] 26);rw[cW]at this;exact this
  ·rw[<- hW];have:=b9 ((w1.alloc (Sx #[Bm Sj 0,n,kind,FG VX 0 0,Bm Sj 1,FG VX 0 0,By es,By es,Bm Sj 0,Bm Sj 0,Bm Sj 0] 55)).alloc (Sx #[FG VX 0 0] 26)) (Sx #[FG VX 0 0] 22);rw[cW,cW]at this;exact this
  ·rw[<- hW,cj _ _ _ ZY,cj _ _ _ XN,b9];rfl
  rcases hk with q|rfl|rfl|rfl|q|q|q
  ·exact .inl q
  ·exact .inr ⟨WQ,WQ⟩
  ·exact .inr ⟨WQ,WQ⟩
  ·exact .inr ⟨WQ,WQ⟩
  ·cases q
  ·cases q
  cases q
 clear hW;have TP:w.1.size<=w1.1.size:=P1.mod.size;generalize hL:w1.1.size=L at *;replace hL:=aa hL;go_cut[12] (fun _ wc=>EM X bs bb nv vv g next w L n name kind wc)
 case first =>
  rcases AK with rfl|rfl|rfl|rfl
  ·exact xW X bs bb nv vv g next w name a7 aj ak n hn1 hn2 L W T0 _ _ _ TdF TdF
  ·exact wU X bs bb nv vv g next w name a7 aj ak n hn1 hn2 L W T0 _ _ _ TdF TdF
  ·exact AV X bs bb nv vv g next w name a7 aj ak n hn1 hn2 L W T0 _ _ _ TdF TdF
  exact yF X bs bb nv vv g next w name a7 aj ak n hn1 hn2 L W T0 _ _ _ TdF TdF
 case rest =>
  obtain⟨ft,fx,av,Rn,names,lengths,x,hR,T⟩:=hcut;have HR:=aa hR;obtain⟨r1,r2,r3⟩:=hR.ok aj ak hn1 hn2;clear hR;have HR1:=aa r1;clear r1;replace r3:=aa r3;have q1:=cr T.loc.bn 0 _ lX;have q2:=cr T.loc.bl 0 _ lX;go_wp2_with fail;refine(zi (Yc X L (L+1) (L+1+1) ft fx av) bs bb nv vv g next T.post.bld hk ft fx names lengths (T.loc.on.rd aF.moves YR (fun _ _ f=>f.elim) (fun b e=>.inr (.inr (.inr (.inr (.inl e)))))) (T.loc.ol.rd cO.moves YR (fun _ _ f=>f.elim) (fun b e=>.inr (.inr (.inr (.inr (.inr (.inl e))))))) (by rw[HR1.o];exact bk _) r2 (by rw[<- HR1.o];exact r2) r3.o mb bm).mono ?_;rintro e w2 (⟨ps,vl,next',pA,rfl,hH,hT,Q⟩|⟨j,nv',pA,rfl,hj,Q⟩)
  ·have P2:=T.post.trans Q;have PX:=(Q.loc T.post.bld (.inr (.inl lX))).trans T.loc.bx;have aM:bF aQ 3 53 (L+1+1+1) (fun _=>False) w2 av x.Ga:=T.loc.oa.Gl aQ.moves Q.mod.size (fun k e=>Q.loc T.post.bld (.inr (.inr (.inr (.inr (.inr (.inr e)))))));have hst:ck cO 1 (ZQ (Yc X L (L+1) (L+1+1) ft fx av) bb nv pA) w2 [Rn] x.stale:=(ck.moves cO.moves).mv ⟨Q.mod.size,fun b hb ho=>⟨⟨ho.1,ho.2.1,fun e=>(Q.vfr b e).elim ho.2.2.1 WQ,ho.2.2.2⟩,Q.loc' T.post.bld ho hb⟩⟩ T.rs;have c8:=P2.bld.c8;have c0:=P2.bld.c0;have qL:∀(j:Nat) (z:zY),[Bm Sj 0,Bm Sj x.length,Bm Sj kind,av,Bm Sj x.chunk,Rn,By x.log,By es,Bm Sj 0,Bm Sj x.mode,Bm Sj 0][j]?=Vv z->w2.cell? ⟨L,j,VX⟩=Vv z:=fun j z hz=>by
    simp only[AN,PX];simpa[QA]using hz
   obtain⟨y0,y1,y2,y3,y4,y5,y6,y7,y8,y9,aO⟩:=IC qL;replace PX:=aa PX;have am:vl.length=names.length:=hH.len;replace am:=aa am;clear qL q1 q2;go_wp2;refine gW (fun w'=>w'.cell? (XM bb 8)=Vv pA/\w'.cell? bb=Vv (SL (Vv bs))/\w'.cell? L=Vv (Bm Sj 0)/\w'.cell? (XM L 1)=Vv (Bm Sj x.length)/\w'.cell? (XM L 2)=Vv (Bm Sj kind)/\w'.cell? (XM L 3)=Vv av/\w'.cell? (XM L 4)=Vv (Bm Sj x.chunk)/\w'.cell? (XM L 5)=Vv Rn/\w'.cell? (XM L 6)=Vv (By x.log)/\w'.cell? (XM L 7)=Vv (By es)/\w'.cell? (XM L 8)=Vv (Bm Sj 0)/\w'.cell? (XM L 9)=Vv (Bm Sj x.mode)/\w'.cell? (XM L 10)=Vv (Bm Sj 0)) 24 [0,1,2,3,4,6,7,9,10,11,15,16,17] Yp (by simp[c8,c0,y0,y1,y2,y3,y4,y5,y6,y7,y8,y9,aO]) (fun a5=>?_);refine fz 0 ?_;refine fz 1 ?_;refine fz 2 ?_;refine fz 3 ?_;refine fz 4 ?_;refine fz 6 ?_;refine fz 7 ?_;refine fz 9 ?_;refine fz 10 ?_;refine fz 11 ?_;refine fz 15 ?_;refine fz 16 ?_;refine fz 17 ?_;refine fS 5 a5 ?_;refine fS 12 a5 ?_;refine fS 18 a5 ?_;refine fS 20 a5 ?_;clear c8 c0 y0 y1 y2 y3 y4 y5 y6 y7 y8 y9 aO;generalize aR:oX g.id (g.next+names.length+1)=mz;have Mp:=aa aR;clear aR;have a9:CS (Yc X L (L+1) (L+1+1) ft fx av) bs bb nv vv nv pA w w2.drew { g with next:=g.next+names.length,F9:=g.F9++vl } next' w2.drew:=⟨P2.drewN 1,bk _,fun _ _=>rfl,fun _ _ _=>rfl⟩
   have S4:bF aQ 3 53 (L+1+1+1) (fun _=>False) w2.drew av x.Ga:=aM.Gl aQ.moves (bk _) (fun _ _=>rfl);have S5:ck cO 1 (ZQ (Yc X L (L+1) (L+1+1) ft fx av) bb nv pA) w2.drew [Rn] x.stale:=(ck.moves cO.moves).mv ⟨bk _,fun b _ ho=>⟨ho,rfl⟩⟩ hst;have Xn:Hid (w2.drew.1[L]?=Vv (Sx #[Bm Sj 0,Bm Sj x.length,kind,av,Bm Sj x.chunk,Rn,By x.log,By es,Bm Sj 0,Bm Sj x.mode,Bm Sj 0] 55 (0,0))):=PX.o;generalize aE:w2.drew=wd at *;clear aE;have pB:=a9.post.bld;simp only[aS];refine fE (idx:=[(8,209),(13,214),(14,215),(19,220),(21,222),(22,223),(23,224)])
    (fun i=>[i]) (fun i vs w'=>match i with
     |8=>vs 8=Bm U8 mz
     |13=>∃v:Int,vs 13=Bm Sj v
     |14=>∃ro:Bool,vs 14=Ft ro
     |19=>∃tp tc tl,vs 19=FG tp (List.length tl) tc/\ck aF 1 (fun k=>wd.1.size<=k) w' [FG tp tl.length tc] tl/\List.Sublist tl iQ
     |21=>∃b,vs 21=FG (Vv ⟨b,0,VX⟩) 1 1/\dS wd.1.size 55 [Bm Sj 0,Bm Sj x.length,Bm Sj kind,av,Bm Sj x.chunk,Rn,By x.log,By es,Bm Sj 0,Bm Sj x.mode,Bm Sj 0] b w'
     |22=>∃b ro tp tc tl,vs 22=Tk #[name,Bm U8 mz,VN,Ft ro,FG tp tl.length tc,FG (Vv ⟨b,0,VX⟩) 1 1]/\ck aF 1 (fun k=>wd.1.size<=k) w' [FG tp tl.length tc] tl/\List.Sublist tl iQ/\dS wd.1.size 55 [Bm Sj 0,Bm Sj x.length,Bm Sj kind,av,Bm Sj x.chunk,Rn,By x.log,By es,Bm Sj 0,Bm Sj x.mode,Bm Sj 0] b w'
     |23=>∃c b ro tp tc tl,vs 23=FG (Vv ⟨c,0,VX⟩) 1 1/\dS wd.1.size 46 [By name,Bm U8 mz,Ft VN,Ft ro,FG tp tl.length tc,FG (Vv ⟨b,0,VX⟩) 1 1] c w'/\ck aF 1 (fun k=>wd.1.size<=k) w' [FG tp tl.length tc] tl/\List.Sublist tl iQ/\dS wd.1.size 55 [Bm Sj 0,Bm Sj x.length,Bm Sj kind,av,Bm Sj x.chunk,Rn,By x.log,By es,Bm Sj 0,Bm Sj x.mode,Bm Sj 0] b w'
     |_=>True)
    (fun d w'=>CS (Yc X L (L+1) (L+1+1) ft fx av) bs bb nv vv nv pA w wd { g with next:=if d 8=VR then g.next+names.length+1 else g.next+names.length,F9:=g.F9++vl } next' w') (fun _=>rS wd.1.size) Yp lX ?cs ?st (fun _ _ _ _ h=>h) ?c0 ?ob ?fin
   case c0=>exact a9
   case cs =>
    intro d w' hC;have e:=(hC.same L (.inr (.inl lX))).trans Xn.o;refine⟨hC.post.bld.c8,hC.post.bld.c0,?_⟩;simp[AN,e]
   case st =>
    intro p hp q _ _ vs us w1 w2 ha hF he;have C4:Mv (fun k=>wd.1.size<=k) (fun k=>wd.1.size<=k) w1 w2:=⟨he.1,fun b hb ho=>⟨ho,he.2 b ho hb⟩⟩;simp only[dr,cY,dg]at hp;rcases hp with rfl|rfl|rfl|rfl|rfl|rfl|rfl
    ·exact(ha 8 (cG ..)).trans hF
    ·obtain⟨v,e⟩:=hF;exact⟨v,(ha 13 (cG ..)).trans e⟩
    ·obtain⟨v,e⟩:=hF;exact⟨v,(ha 14 (cG ..)).trans e⟩
    ·obtain⟨tp,tc,tl,e,h1,h2⟩:=hF;exact⟨tp,tc,tl,(ha 19 (cG ..)).trans e,(ck.moves aF.moves).mv C4 h1,h2⟩
    ·obtain⟨b,e,hb⟩:=hF;exact⟨b,(ha 21 (cG ..)).trans e,hb.ev he⟩
    ·obtain⟨b,ro,tp,tc,tl,e,h1,h2,hb⟩:=hF;exact⟨b,ro,tp,tc,tl,(ha 22 (cG ..)).trans e,(ck.moves aF.moves).mv C4 h1,h2,hb.ev he⟩
    obtain⟨c,b,ro,tp,tc,tl,e,hc,h1,h2,hb⟩:=hF;exact⟨c,b,ro,tp,tc,tl,(ha 23 (cG ..)).trans e,hc.ev he,(ck.moves aF.moves).mv C4 h1,h2,hb.ev he⟩
   case ob =>
     refine kA.cons (deps:=[]) lX rfl Yp (fun vs d w' h0 hC hF K hK=>?_) ?_
     ·clear hF;simp only at h0;simp only[h0,pj,fY]at hC;simp only[over,cq,Act.put];go_simp;refine(vS (Yc X L (L+1) (L+1+1) ft fx av) bs bb nv pA _ next' w' hC.post.bld ZY ZY).mono ?_;rintro e w3 ⟨rfl,q⟩;refine hK.o (Bm U8 (oX g.id (g.next+names.length+1))) w3 ?_ (CS.ev pB q) ((aw lX).trans (fj (Bm U8) Mp.o)) _ ?_
      ·simp only[h0,nj,BEq.rfl,ej];exact hC.step q
      simp only[over,cq,aS]
     refine kA.cons (deps:=[]) lX rfl Yp (fun vs d w' h0 hC hF K hK=>?_) ?_
     ·clear hF;simp only[over,cq,Act.put];go_simp;refine(bY bs 6 w' WQ WQ hC.post.bld.src).mono ?_;rintro e w3 ⟨v,rfl,_,_,hs,hm⟩;have q:=hC.post.bld.readPost hs hm;refine hK.o (Bm Sj v) w3 ?_ (CS.ev pB q) ⟨v,aw lX⟩ _ ?_
      ·simp only[show(d 8||(8:Nat)==13)=d 8 from by simp];exact hC.step q
      simp only[over,cq,aS]
     refine kA.cons (deps:=[(13,214)]) lX rfl Yp (fun vs d w' h0 hC hF K hK=>?_) ?_
     ·have f:=(hF (13,214) XN).2;clear hF;simp only[over,cq,cF,aS]at f ⊢;obtain⟨v,e⟩:=f;rw[e];go_simp;refine hK.o (Ft (v==0)) _ ?_ (rS.refl _ _) ⟨_,aw lX⟩ _ ?_
      ·simp only[show(d 8||(8:Nat)==14)=d 8 from by simp];exact hC
      simp only[over,cq,cF,aS,e]
     refine kA.cons (deps:=[]) lX rfl Yp (fun vs d w' h0 hC hF K hK=>?_) ?_
     ·clear hF;simp only[over,cq,Act.put];go_simp;refine(qY bs w' hC.post.bld.src).mono ?_;rintro e w3 ⟨v,tl,rfl,u9,kf,hs,hm⟩;have q:=hC.post.bld.readPost hs hm;obtain⟨tp,tc,rfl,_⟩:=kf.form;refine hK.o (FG tp tl.length tc) w3 ?_ (CS.ev pB q) ⟨tp,tc,tl,aw lX,(ck.moves aF.moves).mv ⟨bk _,fun b _ ho=>⟨cA hC.size ho,rfl⟩⟩ kf,u9⟩ _ ?_
      ·simp only[show(d 8||(8:Nat)==19)=d 8 from by simp];exact hC.step q
      simp only[over,cq,aS]
     refine kA.cons (deps:=[]) lX rfl Yp (fun vs d w' h0 hC hF K hK=>?_) ?_
     ·clear hF;simp only[over,cq,Act.put];go_simp;refine hK.o (FG (Vv w'.1.size) 1 1) _ ?_ (rS.alloc _ _ _) ⟨_,aw lX,dS.new hC.size⟩ _ ?_
      ·simp only[show(d 8||(8:Nat)==21)=d 8 from by simp];exact hC.alloc _
      simp only[over,cq,aS]
     refine kA.cons (deps:=[(8,209),(14,215),(19,220),(21,222)]) lX rfl Yp (fun vs d w' h0 hC hF K hK=>?_) ?_
     ·have f8:=(hF (8,209) XN).2;have ag:=(hF (14,215) XN).2;have ao:=(hF (19,220) XN).2;have aT:=(hF (21,222) XN).2;clear hF;simp only[over,cq,cF,aS]at f8 ag ao aT ⊢;obtain⟨ro,aU⟩:=ag;obtain⟨tp,tc,tl,aq,t1,t2⟩:=ao;obtain⟨b,aV,hb⟩:=aT;rw[f8,aU,aq,aV];go_simp;refine hK.o (Tk #[name,Bm U8 mz,VN,Ft ro,FG tp tl.length tc,FG (Vv b) 1 1]) _ ?_ (rS.refl _ _) ⟨b,ro,tp,tc,tl,aw lX,t1,t2,hb⟩ _ ?_
      ·simp only[show(d 8||(8:Nat)==22)=d 8 from by simp];exact hC
      simp only[over,cq,cF,aS,f8,aU,aq,aV]
     refine kA.cons (deps:=[(22,223)]) lX rfl Yp (fun vs d w' h0 hC hF K hK=>?_) trivial;have f:=(hF (22,223) XN).2;clear hF;simp only[over,cq,cF,aS]at f ⊢;obtain⟨b,ro,tp,tc,tl,e,t1,t2,hb⟩:=f;rw[e];go_simp;refine hK.o (FG (Vv w'.1.size) 1 1) _ ?_ (rS.alloc _ _ _) ⟨_,b,ro,tp,tc,tl,aw lX,dS.new hC.size,(ck.moves aF.moves).mv ⟨XN,fun b hb ho=>⟨ho,cj _ _ _ hb⟩⟩ t1,t2,hb.ev (rS.alloc _ _ _)⟩ _ ?_
     ·simp only[show(d 8||(8:Nat)==23)=d 8 from by simp];exact hC.alloc _
     simp only[over,cq,cF,aS,e]
   case fin =>
    intro vs d w' hC hF;have au:=(hF (23,224) XN).2;have aG:=(hF (8,209) XN).1;clear hF;simp only[over,cq,cF,aS,cQ,cL]at au aG ⊢;obtain⟨c,b,ro,tp,tc,tl,az,hc,t1,t2,hb⟩:=au;rw[az];simp only[aG,ej]at hC;generalize vs 8=z8;generalize vs 13=z13;generalize vs 14=z14;generalize vs 19=z19;generalize vs 21=z21;generalize vs 22=z22;clear aG az;have P':aH X bs bb nv vv w w' nv pA { g with next:=g.next+names.length+1,F9:=g.F9++vl } next':=hC.post.fewer fun k hk=>.inl hk
    have TS:eW X wd bs bb nv pA { g with next:=g.next+names.length,F9:=g.F9++vl } next':=pB.fewer fun k hk=>.inl hk
    have hbl:=P'.bld.Gj;have RA:ck aQ 3 (ZQ X bb nv pA) w' [av] x.Ga:=by
     have ha:bF aQ 3 53 (L+1+1+1) (fun _=>False) w' av x.Ga:=S4.Gl aQ.moves hC.size (fun b e=>hC.same b (.inr (.inr (.inr (.inr (.inr (.inr e)))))));refine ha.rd aQ.moves YR (fun _ _ f=>f.elim) (fun b e=>?_);have hy:(Yc X L (L+1) (L+1+1) ft fx av) b:=.inr (.inr (.inr (.inr (.inr (.inr e)))));refine⟨(pB.xlt b hy).1,fun q=>pB.xn b q hy,fun q=>pB.xv b q hy,fun hx=>?_⟩;have:=(ha.ge e).1;have:=(h.xlt b hx).2;omega
    have RS:ck cO 1 (ZQ X bb nv pA) w' [Rn] x.stale:=(ck.moves cO.moves).mv ⟨hC.size,fun b hb ho=>⟨⟨ho.1,ho.2.1,ho.2.2.1,fun q=>ho.2.2.2 (.inl q)⟩,hC.oks b hb ho⟩⟩ S5;have RT:ck aF 1 (ZQ X bb nv pA) w' [FG tp tl.length tc] tl:=(ck.moves aF.moves).mv ⟨bk _,fun b _ ho=>⟨TS.okNew ho,rfl⟩⟩ t1;have Yh:(⟨0,x.length,kind,x.Ga,x.chunk,x.stale,x.log,es,0,x.mode,0⟩:aB)=x:=by
     have:=HR.o;cases this<;>rfl
    have RV:aN (ZQ X bb nv pA) w' [By name,Bm U8 mz,Ft VN,Ft ro,FG tp tl.length tc,FG (Vv b) 1 1] ⟨name,mz,VN,ro,tl,[x]⟩:=by
     refine⟨_,_,rfl,RT,ck.one hb.2 (TS.okNew hb.1) lX ?_⟩;rw[<- Yh];exact⟨_,_,rfl,RA,RS⟩
    have kf:=P'.bld.ready RV w' (bj _ _);obtain⟨i0,hi,du,R0,RC⟩:=gg zT;refine dX aN.moves underlying28 hi du R0 RC lX YR YR lX ZR (bb+1) (fun b=>ZQ X bb nv pA b/\b<w'.1.size) pA (g.F9++vl) ⟨name,mz,VN,ro,tl,[x]⟩ ZR kf.1 c 1 [By name,Bm U8 mz,Ft VN,Ft ro,FG tp tl.length tc,FG (Vv ⟨b,0,VX⟩) 1 1] ZR ZR kf.2 Tdj (fun j y hy=>?_) (by rw[cD,am.o];omega) WQ H8 (fun gb cap w3 hp=>?_)
    ·simp only[AN,hc.2];simpa using hy
    obtain⟨ab,hx2⟩:=P'.bld.pushKeeps (bj _ _) hp;have y8:=(cd (w:=w') (w':=w3) (a:=⟨bb,8,VX⟩) ab).trans P'.bld.c8;have yf:=(rh (w:=w') (w':=w3) (a:=⟨bb,8,VX⟩) ab).trans (P'.bld.bfr 8);have R5:=P'.push (bj _ _) hp (bk _);clear hp ab hx2 kf RV RA RS RT hC hc hb hi du R0 RC a5 S5 S4 hst aM a9 pB;simp only[aS];have aW:(g.F9++vl).length<=48:=by rw[cD,am.o];omega
    simp only at R5;generalize hM:(g.F9++vl).length=M at *;replace hM:=aa hM;have dk:=hT.ok hk.dk;by_cases hk5:kind=5
    ·
      subst hk5;have c0:=R5.bld.c0;go_wp2_with fail;refine(bY bs 3 _ WQ WQ R5.bld.src).mono ?_;rintro e w4 ⟨kv,rfl,Xo,Xp,aX,aY⟩;have R6:=R5.read aX aY;clear aY aX c0 R5;obtain⟨kk,rfl⟩:∃u:Nat,kv=u:=⟨kv.toNat,WQ⟩;have R7:aH X bs bb nv vv w w4 nv (FG (Vv gb) (M+1) cap) { g with next:=g.next+names.length+1+((([]:wy ay).length:Nat):Int),F9:=g.F9++vl++[⟨name,mz,VN,ro,tl,[x]⟩]++[] } next':=by simpa using R6
      clear R6;have HH:=aa hH;clear hH;have HT2:=aa t2;clear t2;have HG:=aa (show(g.F9++vl++[(⟨name,mz,VN,ro,tl,[x]⟩:ay)]).length<=49 by simp only[cD,cS,ux];have:=am.o;omega);generalize a8:g.F9++vl++[(⟨name,mz,VN,ro,tl,[x]⟩:ay)]=base at *;have aG3:=aa a8;clear a8;go_upto_block 5 with(fail)
      go_wp2;go_loopw[15] (fun i wr=>∃(j:Nat) (DM:wy ay) (aZ:zY),j<=kk/\i=Bm Sj j/\iO g.id name kk (g.next+names.length+1+1) j DM/\DM.length+j=kk/\aH X bs bb nv vv w wr nv aZ { g with next:=g.next+names.length+1+((DM.length:Nat):Int),F9:=base++DM } next') (fun i _=>(intOf i).toNat)
      exact⟨kk,[],_,bk _,rfl,.nil _,XN,R7⟩;obtain⟨j,DM,aZ,hj,rfl,hth,On,R⟩:=hrel;have Xq:=aa hth;clear hth;have aI:=aa On;have bu:DM.length<=2:=by omega
      clear On;obtain⟨ah,ai,rfl,u1,u2,u3⟩:=R.bld.vForm;replace u3:=aa u3;have c8:=R.bld.c8;have c0:=R.bld.c0;have bw:(base++DM).length<=60:=by rw[cD];have:=HG.o;omega
      simp only at c8 u1 R;generalize aA:(base++DM).length=M2 at *;replace aA:=aa aA;by_cases hgo:0<j/\M2<32
      ·obtain⟨g1,g2⟩:=hgo;have hd1:V7 ((0:Int)<(j:Int))=VR:=by simp;omega
       have hd2:V7 ((M2:Int)<32)=VR:=by simp;omega
       have z1:(0:Int)<=(j:Int):=by omega
       have z2:(j:Int)<3:=by omega
       have bz:¬(9223372036854775807<name.size+1):=by omega
       go_wp2;refine gW (fun w'=>w'.cell? (XM bb 8)=Vv (FG ah M2 ai)/\w'.cell? bb=Vv (SL (Vv bs))) 26 [0,1,2,3,4,6,7,9,13,15,16,17,20,21] Yp ⟨c8,c0⟩ (fun a5=>?_);refine fz 0 ?_;refine fz 1 ?_;refine fz 2 ?_;refine fz 3 ?_;refine fz 4 ?_;refine fz 6 ?_;refine fz 7 ?_;refine fz 9 ?_;refine fz 13 ?_;refine fz 15 ?_;refine fz 16 ?_;refine fz 17 ?_;refine fz 20 ?_;refine fz 21 ?_;refine fS 5 a5 ?_;refine fS 18 a5 ?_;clear c8 c0 Mp;generalize aD:oX g.id (g.next+names.length+1+(DM.length:Int)+1)=Hp;replace aD:=aa aD;have a9:CS X bs bb nv vv nv (FG ah M2 ai) w wr.drew { g with next:=g.next+names.length+1+((DM.length:Nat):Int),F9:=base++DM } next' wr.drew:=⟨R.drewN 1,bk _,fun _ _=>rfl,fun _ _ _=>rfl⟩
       generalize aE:wr.drew=wd at *;clear aE;have pB:=a9.post.bld;simp only[aS];refine fE (idx:=[(8,257),(10,259),(11,260),(12,261),(14,263),(19,268),(22,271),(23,272),(24,273),(25,274)])
        (fun i=>[i]) (fun i vs w'=>match i with
         |8=>∃b,vs 8=FG (Vv ⟨b,0,VX⟩) 3 3/\dS wd.1.size 9 [By ⟨#[48]⟩,By ⟨#[49]⟩,By ⟨#[50]⟩] b w'
         |10=>∃b,vs 10=SL (Vv ⟨b,j,VX⟩)/\dS wd.1.size 9 [By ⟨#[48]⟩,By ⟨#[49]⟩,By ⟨#[50]⟩] b w'
         |11=>vs 11=By (digit j)
         |12=>vs 12=By ((name++tT)++digit j)
         |14=>vs 14=Bm U8 Hp
         |19=>∃len:Int,vs 19=Bm Sj len/\1<=len/\len<=4
         |22=>∃len:Int,vs 22=Tk #[Bm Sj 0,len,Bm Sj 6,FG VX 0 0,Bm Sj 0,FG VX 0 0,By es,name,(j:Int),Bm Sj 0,Bm Sj 0]/\1<=len/\len<=4
         |23=>∃(len:Int) (b:Nat),vs 23=FG (Vv b) 1 1/\dS wd.1.size 55 [Bm Sj 0,Bm Sj len,Bm Sj 6,FG VX 0 0,Bm Sj 0,FG VX 0 0,By es,By name,Bm Sj (j:Int),Bm Sj 0,Bm Sj 0] b w'/\1<=len/\len<=4
         |24=>∃(len:Int) (b:Nat),vs 24=Tk (TaR ((name++tT)++digit j) Hp (Vv ⟨b,0,VX⟩))/\dS wd.1.size 55 [Bm Sj 0,Bm Sj len,Bm Sj 6,FG VX 0 0,Bm Sj 0,FG VX 0 0,By es,By name,Bm Sj (j:Int),Bm Sj 0,Bm Sj 0] b w'/\1<=len/\len<=4
         |25=>∃(c:Nat) (len:Int) (b:Nat),vs 25=FG (Vv c) 1 1/\dS wd.1.size 46 [By ((name++tT)++digit j),Bm U8 Hp,Ft VN,Ft VN,FG VX 0 0,FG (Vv b) 1 1] c w'/\dS wd.1.size 55 [Bm Sj 0,Bm Sj len,Bm Sj 6,FG VX 0 0,Bm Sj 0,FG VX 0 0,By es,By name,Bm Sj (j:Int),Bm Sj 0,Bm Sj 0] b w'/\1<=len/\len<=4
         |_=>True)
        (fun d w'=>CS X bs bb nv vv nv (FG ah M2 ai) w wd { g with next:=if d 14=VR then g.next+names.length+1+((DM.length:Nat):Int)+1 else g.next+names.length+1+((DM.length:Nat):Int),F9:=base++DM } next' w') (fun _=>rS wd.1.size) Yp lX ?cs2 ?st2 (fun _ _ _ _ h=>h) ?c02 ?ob2 ?fin2
       case c02=>exact a9
       case cs2=>exact fun d w' hC=>⟨hC.post.bld.c8,hC.post.bld.c0⟩
       case st2 =>
        intro p hp q _ _ vs us w1 w2 ha hF he;simp only[dr,cY,dg]at hp;rcases hp with rfl|rfl|rfl|rfl|rfl|rfl|rfl|rfl|rfl|rfl
        ·obtain⟨b,e,hb⟩:=hF;exact⟨b,(ha 8 (cG ..)).trans e,hb.ev he⟩
        ·obtain⟨b,e,hb⟩:=hF;exact⟨b,(ha 10 (cG ..)).trans e,hb.ev he⟩
        ·exact(ha 11 (cG ..)).trans hF
        ·exact(ha 12 (cG ..)).trans hF
        ·exact(ha 14 (cG ..)).trans hF
        ·obtain⟨len,e,l1,l2⟩:=hF;exact⟨len,(ha 19 (cG ..)).trans e,l1,l2⟩
        ·obtain⟨len,e,l1,l2⟩:=hF;exact⟨len,(ha 22 (cG ..)).trans e,l1,l2⟩
        ·obtain⟨len,b,e,hb,l1,l2⟩:=hF;exact⟨len,b,(ha 23 (cG ..)).trans e,hb.ev he,l1,l2⟩
        ·obtain⟨len,b,e,hb,l1,l2⟩:=hF;exact⟨len,b,(ha 24 (cG ..)).trans e,hb.ev he,l1,l2⟩
        obtain⟨c,len,b,e,hc,hb,l1,l2⟩:=hF;exact⟨c,len,b,(ha 25 (cG ..)).trans e,hc.ev he,hb.ev he,l1,l2⟩
       case ob2 =>
         refine kA.cons (deps:=[]) lX rfl Yp (fun vs d w' h0 hC hF K hK=>?_) ?_
         ·clear hF;simp only[over,cq,Act.put];go_simp;refine hK.o (FG (Vv w'.1.size) 3 3) _ ?_ (rS.alloc _ _ _) ⟨_,aw lX,dS.new hC.size⟩ _ ?_
          ·simp only[show(d 14||(14:Nat)==8)=d 14 from by simp];exact hC.alloc _
          simp only[over,cq,aS]
         refine kA.cons (deps:=[(8,257)]) lX rfl Yp (fun vs d w' h0 hC hF K hK=>?_) ?_
         ·have f8:=(hF (8,257) XN).2;clear hF;simp only[over,cq,cF,aS]at f8 ⊢;obtain⟨b,e8,hb⟩:=f8;rw[e8];go_simp;refine hK.o (SL (Vv (b,j))) _ ?_ (rS.refl _ _) ⟨b,aw lX,hb⟩ _ ?_
          ·simp only[show(d 14||(14:Nat)==10)=d 14 from by simp];exact hC
          simp only[over,cq,cF,aS,e8]
         refine kA.cons (deps:=[(10,259)]) lX rfl Yp (fun vs d w' h0 hC hF K hK=>?_) ?_
         ·have b8:=(hF (10,259) XN).2;clear hF;simp only[over,cq,cF,aS]at b8 ⊢;obtain⟨b,e10,hb⟩:=b8;rw[e10];have ba:w'.cell? (b,j)=Vv (By (digit j)):=by
           simp only[AN,hb.2];rcases(show j=1\/j=2 by omega)with rfl|rfl<;>rfl
          go_simp;refine hK.o (By (digit j)) _ ?_ (rS.refl _ _) (aw lX) _ ?_
          ·simp only[show(d 14||(14:Nat)==11)=d 14 from by simp];exact hC
          simp only[over,cq,cF,aS,e10]
         refine kA.cons (deps:=[(11,260)]) lX rfl Yp (fun vs d w' h0 hC hF K hK=>?_) ?_
         ·have aJ:=(hF (11,260) XN).2;clear hF;simp only[over,cq,cF,aS]at aJ ⊢;rw[aJ];have QH:(digit j).size=1:=rfl;have bC:¬(9223372036854775807<name.size+1+1):=by omega
          go_simp;refine hK.o (By ((name++tT)++digit j)) _ ?_ (rS.refl _ _) (aw lX) _ ?_
          ·simp only[show(d 14||(14:Nat)==12)=d 14 from by simp];exact hC
          simp only[over,cq,cF,aS,aJ,tT]
         refine kA.cons (deps:=[]) lX rfl Yp (fun vs d w' h0 hC hF K hK=>?_) ?_
         ·clear hF;simp only[over,cq,Act.put];simp only at h0;simp only[h0,pj,fY]at hC;go_simp;refine(vS X bs bb nv _ _ next' w' hC.post.bld ZY ZY).mono ?_;rintro e w5 ⟨rfl,q⟩;refine hK.o (Bm U8 (oX g.id (g.next+names.length+1+(DM.length:Int)+1))) w5 ?_ (CS.ev pB q) ((aw lX).trans (fj (Bm U8) aD.o)) _ ?_
          ·simp only[h0,nj,BEq.rfl,ej];exact hC.step q
          simp only[over,cq,aS]
         refine kA.cons (deps:=[]) lX rfl Yp (fun vs d w' h0 hC hF K hK=>?_) ?_
         ·clear hF;simp only[over,cq,Act.put];go_simp;refine(bO bs 1 4 w' WQ WQ WQ hC.post.bld.src).mono ?_;rintro e w5 ⟨len,rfl,l1,l2,hs,hm⟩;have q:=hC.post.bld.readPost hs hm;refine hK.o (Bm Sj len) w5 ?_ (CS.ev pB q) ⟨len,aw lX,l1,l2⟩ _ ?_
          ·simp only[show(d 14||(14:Nat)==19)=d 14 from by simp];exact hC.step q
          simp only[over,cq,aS]
         refine kA.cons (deps:=[(19,268)]) lX rfl Yp (fun vs d w' h0 hC hF K hK=>?_) ?_
         ·have ao:=(hF (19,268) XN).2;clear hF;simp only[over,cq,cF,aS]at ao ⊢;obtain⟨len,aq,l1,l2⟩:=ao;rw[aq];go_simp;refine hK.o (Tk #[Bm Sj 0,len,Bm Sj 6,FG VX 0 0,Bm Sj 0,FG VX 0 0,By es,name,(j:Int),Bm Sj 0,Bm Sj 0]) _ ?_ (rS.refl _ _) ⟨len,aw lX,l1,l2⟩ _ ?_
          ·simp only[show(d 14||(14:Nat)==22)=d 14 from by simp];exact hC
          simp only[over,cq,cF,aS,aq,es]
         refine kA.cons (deps:=[(22,271)]) lX rfl Yp (fun vs d w' h0 hC hF K hK=>?_) ?_
         ·have bd:=(hF (22,271) XN).2;clear hF;simp only[over,cq,cF,aS]at bd ⊢;obtain⟨len,be,l1,l2⟩:=bd;rw[be];go_simp;refine hK.o (FG (Vv w'.1.size) 1 1) _ ?_ (rS.alloc _ _ _) ⟨len,_,aw lX,dS.new hC.size,l1,l2⟩ _ ?_
          ·simp only[show(d 14||(14:Nat)==23)=d 14 from by simp];exact hC.alloc _
          simp only[over,cq,cF,aS,be]
         refine kA.cons (deps:=[(12,261),(14,263),(23,272)]) lX rfl Yp (fun vs d w' h0 hC hF K hK=>?_) ?_
         ·have aK:=(hF (12,261) XN).2;have ag:=(hF (14,263) XN).2;have au:=(hF (23,272) XN).2;clear hF;simp only[over,cq,cF,aS]at aK ag au ⊢;obtain⟨len,b,az,hb,l1,l2⟩:=au;rw[aK,ag,az];go_simp;refine hK.o (Tk (TaR ((name++tT)++digit j) Hp (Vv ⟨b,0,VX⟩))) _ ?_ (rS.refl _ _) ⟨len,b,aw lX,hb,l1,l2⟩ _ ?_
          ·simp only[show(d 14||(14:Nat)==24)=d 14 from by simp];exact hC
          simp only[over,cq,cF,aS,aK,ag,az]
         refine kA.cons (deps:=[(24,273)]) lX rfl Yp (fun vs d w' h0 hC hF K hK=>?_) trivial;have bf:=(hF (24,273) XN).2;clear hF;simp only[over,cq,cF,aS]at bf ⊢;obtain⟨len,b,bg,hb,l1,l2⟩:=bf;rw[bg];go_simp;refine hK.o (FG (Vv w'.1.size) 1 1) _ ?_ (rS.alloc _ _ _) ⟨_,len,b,aw lX,dS.new hC.size,hb.ev (rS.alloc _ _ _),l1,l2⟩ _ ?_
         ·simp only[show(d 14||(14:Nat)==25)=d 14 from by simp];exact hC.alloc _
         simp only[over,cq,cF,aS,bg]
       case fin2 =>
        intro vs d w' hC hF;have bh:=(hF (25,274) XN).2;have ae:=(hF (14,263) XN).1;clear hF;simp only[over,cq,cF,aS,cQ,cL]at bh ae ⊢;obtain⟨c,len,b,bi,hc,hb,l1,l2⟩:=bh;rw[bi];simp only[ae,ej]at hC;generalize vs 8=z8;generalize vs 10=z10;generalize vs 11=z11;generalize vs 12=z12;generalize vs 14=z14;generalize vs 19=z19;generalize vs 22=z22;generalize vs 23=z23;generalize vs 24=z24;clear ae bi;have P':=hC.post;have hbl:=P'.bld.Gj;have RV:aN (ZQ X bb nv (FG ah M2 ai)) w' [By ((name++tT)++digit j),Bm U8 Hp,Ft VN,Ft VN,FG VX 0 0,FG (Vv b) 1 1] (jY name Hp len j) :=
         ⟨_,_,rfl,ck.nil,ck.one hb.2 (pB.okNew hb.1) lX ⟨_,_,rfl,ck.nil,ck.nil⟩⟩
        have kf:=P'.bld.ready RV w' (bj _ _);obtain⟨i0,hi,du,R0,RC⟩:=gg zT;refine dX aN.moves underlying28 hi du R0 RC lX YR YR lX ZR (bb+1) (fun b=>ZQ X bb nv (FG ah M2 ai) b/\b<w'.1.size) (FG ah M2 ai) (base++DM) (jY name Hp len j) ZR kf.1 c 1 [By ((name++tT)++digit j),Bm U8 Hp,Ft VN,Ft VN,FG VX 0 0,FG (Vv ⟨b,0,VX⟩) 1 1] ZR ZR kf.2 Tdj (fun jj y hy=>?_) (by rw[aA.o];omega) WQ H8 (fun bp aL w5 hp=>?_)
        ·simp only[AN,hc.2];simpa using hy
        obtain⟨ab,hx2⟩:=P'.bld.pushKeeps (bj _ _) hp;have y8:=(cd (w:=w') (w':=w5) (a:=⟨bb,8,VX⟩) ab).trans P'.bld.c8;have yf:=(rh (w:=w') (w':=w5) (a:=⟨bb,8,VX⟩) ab).trans (P'.bld.bfr 8);have R8:=P'.push (bj _ _) hp (bk _);clear hp ab hx2 kf RV hC hc hb hi du R0 RC a5 a9 pB P';simp only[aS];go_wp2;go_roundw
        case rel =>
         refine⟨j-1,DM++[jY name Hp len j],FG (Vv bp) (M2+1) aL,WQ,by rw[show((j-1:Nat):Int)=(j:Int)-1 by omega],?_,by have:=aI.o;simp;omega,?_⟩
         ·have Xr:=Xq.o;obtain⟨i,rfl⟩:∃i,j=i+1:=⟨j-1,WQ⟩;have:=iO.snoc (len:=len) Xr ⟨l1,l2⟩;rw[show g.next+(names.length:Int)+1+1+(DM.length:Int)=g.next+names.length+1+(DM.length:Int)+1 by omega,aD.o]at this;exact this
         rw[show g.next+(names.length:Int)+1+(((DM++[jY name Hp len j]).length:Nat):Int)=g.next+names.length+1+(DM.length:Int)+1 by simp;omega,<- cV];have R9:=R8;simp only[aA.o]at R9;have hq:base.length+DM.length=M2:=by rw[<- cD];exact aA.o
         rw[hq];exact R9
        simp[intOf];omega
      by_cases g1:0<j
      ·have hd1:V7 ((0:Int)<(j:Int))=VR:=by simp;omega
       have hd2:V7 ((M2:Int)<32)=VN:=by simp;omega
       exact Tbs
      have hd1:V7 ((0:Int)<(j:Int))=VN:=by simp;omega
      exact Tbs
    have hkb:(kind==5)=VN:=by simpa using hk5
    go_wp2;go_end0
    have hv:=Mp.o;subst hv;refine⟨rfl,.inr ⟨n,names,lengths,x,ps,vl,ro,tl,0,0,[],next',FG (Vv gb) (M+1) cap,hn1,hn2,HR.o,?_,hT,t2,WQ,fun _=>⟨rfl,rfl⟩,.nil _,?_⟩⟩
    ·have:=hH;rw[HR1.o,cI]at this;exact this
    simpa using R5
  go_wp2;refine eC (results_none lX _ _ _) lX ⟨rfl,.inl ⟨j,nv',pA,WQ,(T.post.trans Q).fewer (fun k hk=>.inl hk)⟩⟩
end Go.Proofs.YtfmbphdjcghfnaaGreatDoor
