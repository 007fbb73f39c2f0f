/- Lemmas: MkP, MkSd, MkSa, MkSb, MkSc, MkS, SpG, Nam, NamB, NamC, Mpv, Chk. -/
import Derived.Test.YtaagglbgohjldaaGreatDoorQj03
set_option maxRecDepth 100000
set_option maxHeartbeats 32000000
set_option linter.all false
open List renaming getElem?_eq_some_iff→AT,singleton_inj→IF,replicate→DE,mem_append→AS,mem_singleton→AM,mem_map→As,mem_flatMap→BY,pairwise_cons→IN,isSuffixOf_iff_suffix→No,range→FF
open Array renaming getElem?_eq_some_iff→DS
open Go.World renaming alloc→AI,cell?→AN,setCell→AF,frozen?→BT
open Go.Value renaming int→Bm,oneCell'→GS,string→Cd
open Go.Lib renaming hasSuffix→DH
namespace Go.Proofs.YtaagglbgohjldaaGreatDoor
open Go.Proofs.Tryz
open Go.RowKit
variable {w a b:World}{B:Nat}{v:Value}{l:List Int}
def Tbn{p:Prop}(h:p:=by
 go_wp2;go_end0
 have hv:=Mp.o;subst hv;have hb:=Ot.o;subst hb;refine⟨rfl,.inr ⟨n,names,lengths,x,ps,vl,ro,tl,kk,j,DM,next',_,hn1,hn2,HR.o,?_,hT,HT2.o,Tc1,fun q=>absurd rfl q,Xq.o,R⟩⟩;have:=HH.o;rw[XO.o,cI]at this;exact this):p:=h
def Tdx{p:Prop}(h:p:=by assumption):p:=h
theorem vO(X:Nat->Prop)(bs bb:Nat)(nv vv:Value)(g:af)(next:List Int)(w:World)(h:eW X w bs bb nv vv g next)(hk:BOk g next)(name:ByteArray)(hname:name.size<=100)(kind:Int)(AK:kind=3\/kind=4\/kind=5\/kind=7)(he1:1<=g.Gd)(he2:g.Gd<=16)(mb:g.F9.length<=40)(hnx:g.next<=1000) :
  Calls prog 22 #[.pointer (some bb),.string name,.int .i64 kind] w (fun e w'=>e=.returned (.tuple #[])/\FD X bs bb nv vv g next name kind w w'):=by
 have k0:=hk.n0;have k1:=hk.n1;have c0:=h.c0;have c4:=h.c4;have cX:=h.Gj;have gO:=h.lt;have sy:¬bb=bs:=by omega
 go_enter func22,ntmps22;go_wp2;refine aL (fun w'=>w'.cell? bb=some (.pointer (some bs))/\w'.cell? (Tac bb 4)=some (.int .i64 g.Gd)) 10 [0,1,2,3,5,6,7] Tc3 ⟨c0,c4⟩ (fun hHeld=>?_);refine fz 0 ?_;refine fz 1 ?_;refine fz 2 ?_;refine fz 3 ?_;refine fz 5 ?_;refine fz 6 ?_;refine fz 7 ?_;refine fS 4 hHeld ?_;refine fS 8 hHeld ?_;refine lR 9 fun K hK=>?_;go_simp;refine(bO bs 1 3 _ Tc1 Tc1 Tc1 (h.below ((bj _ _).drew)).src).mono ?_;rintro e w1 ⟨n,rfl,hn1,hn2,hs1,hm1⟩;refine hK.o _ _ ⟨(hm1.cell (p:=bb) cX sy).trans c0,(hm1.cell (p:=⟨bb,4,none⟩) cX sy).trans c4⟩ ?_;clear hK K;refine aP Tc3 rfl ?_;simp only[cQ,cL];have P1:aH X bs bb nv vv w w1 nv vv g next:=((aH.refl h).drewN 1).read hs1 hm1;clear hm1 hs1 hHeld c0 c4
 go_upto_block 0 with(fail)
 generalize hW:World.alloc (World.alloc (World.alloc w1 _) _) _=W;have T0:vq X bs bb nv vv g next w (w1.heap.size+1+1+1) w1.heap.size (w1.heap.size+1) (w1.heap.size+1+1) (.slice none 0 0) (.slice none 0 0) (.slice none 0 0) (.slice none 0 0) [] [] [] [] n kind 1 es 0 W:=by
  have hb:Below w1.heap.size w1 W:=by
   rw[<- hW];exact(((bj _ _).alloc (bk _) _).alloc Tc2 _).alloc Tc6 _
  have hz:W.heap.size=w1.heap.size+1+1+1:=by rw[<- hW];simp
  refine⟨⟨?_,?_,?_,⟨[],gS _ _ _ 1,rfl⟩,⟨[],gS _ _ _ 1,rfl⟩,⟨[],gS _ _ _ 3,rfl⟩,(fun _ e=>by cases e),(fun _ e=>by cases e),(fun _ e=>by cases e),Tc1,Tc1,Tc1⟩,P1.fresh hb (fun k hk=>?_),ck.nil,Tc1,P1.mod.size⟩
  ·rw[<- hW,cj _ _ _ Tc2];have:=b9 (w1.alloc (.cells #[.int .i64 0,.int .i64 n,.int .i64 kind,.slice none 0 0,.int .i64 1,.slice none 0 0,.string es,.string es,.int .i64 0,.int .i64 0,.int .i64 0] 114)) (.cells #[.slice none 0 0] 26);rw[cW]at this;exact this
  ·rw[<- hW];have:=b9 ((w1.alloc (.cells #[.int .i64 0,.int .i64 n,.int .i64 kind,.slice none 0 0,.int .i64 1,.slice none 0 0,.string es,.string es,.int .i64 0,.int .i64 0,.int .i64 0] 114)).alloc (.cells #[.slice none 0 0] 26)) (.cells #[.slice none 0 0] 22);rw[cW,cW]at this;exact this
  ·rw[<- hW,cj _ _ _ Tc6,cj _ _ _ Tc2,b9];rfl
  rcases hk with q|rfl|rfl|rfl|q|q|q
  ·exact .inl q
  ·exact .inr ⟨Tc1,Tc1⟩
  ·exact .inr ⟨Tc1,Tc1⟩
  ·exact .inr ⟨Tc1,Tc1⟩
  ·cases q
  ·cases q
  cases q
 clear hW;have TP:w.heap.size<=w1.heap.size:=P1.mod.size;generalize hL:w1.heap.size=L at *;have HL:=aa hL;clear hL;go_cut[12] (fun _ wc=>EM X bs bb nv vv g next w L n name kind wc)
 case first =>
  rcases AK with rfl|rfl|rfl|rfl
  ·exact xW X bs bb nv vv g next w name hname he1 he2 n hn1 hn2 L W T0 _ _ _ Tdx Tdx
  ·exact wU X bs bb nv vv g next w name hname he1 he2 n hn1 hn2 L W T0 _ _ _ Tdx Tdx
  ·exact AV X bs bb nv vv g next w name hname he1 he2 n hn1 hn2 L W T0 _ _ _ Tdx Tdx
  exact yF X bs bb nv vv g next w name hname he1 he2 n hn1 hn2 L W T0 _ _ _ Tdx Tdx
 case rest =>
  obtain⟨ft,fx,av,Oz,names,lengths,x,hR,T⟩:=hcut;have HR:=aa hR;obtain⟨r1,r2,r3⟩:=hR.ok he1 he2 hn1 hn2;clear hR;have XO:=aa r1;clear r1;have HR3:=aa r3;clear r3;have q1:=cr T.loc.bn 0 _ rfl;have q2:=cr T.loc.bl 0 _ rfl;go_wp2_with fail;refine(zi (Yc X L (L+1) (L+1+1) ft fx av) bs bb nv vv g next _ T.post.bld hk ft fx names lengths (T.loc.on.rd aF.moves Tc4 (fun _ _ f=>f.elim) (fun b e=>.inr (.inr (.inr (.inr (.inl e)))))) (T.loc.ol.rd cO.moves Tc4 (fun _ _ f=>f.elim) (fun b e=>.inr (.inr (.inr (.inr (.inr (.inl e))))))) (by rw[XO.o];exact bk _) r2 (by rw[<- XO.o];exact r2) HR3.o mb hnx).mono ?_;rintro e w2 (⟨ps,vl,next',pA,rfl,hH,hT,Q⟩|⟨j,nv',pA,rfl,hj,Q⟩)
  ·have P2:=T.post.trans Q;have PX:=(Q.loc T.post.bld (.inr (.inl rfl))).trans T.loc.bx;have hoa:bF aQ 3 53 (L+1+1+1) (fun _=>False) w2 av x.Ga:=T.loc.oa.Gl aQ.moves Q.mod.size (fun k e=>Q.loc T.post.bld (.inr (.inr (.inr (.inr (.inr (.inr e)))))));have hst:ck cO 1 (okB (Yc X L (L+1) (L+1+1) ft fx av) bb nv pA) w2 [Oz] x.stale:=(ck.moves cO.moves).mv ⟨Q.mod.size,fun b hb ho=>⟨⟨ho.1,ho.2.1,fun e=>(Q.vfr b e).elim ho.2.2.1 Tc1,ho.2.2.2⟩,Q.loc' T.post.bld ho hb⟩⟩ T.rs;have c8:=P2.bld.c8;have c0:=P2.bld.c0;have qL:∀(j:Nat) (z:Value),[.int .i64 0,.int .i64 x.length,.int .i64 kind,av,.int .i64 x.chunk,Oz,.string x.log,.string es,.int .i64 0,.int .i64 x.mode,.int .i64 0][j]?=some z->w2.cell? ⟨L,j,none⟩=some z:=fun j z hz=>by
    simp only[World.cell?,PX];simpa[QA]using hz
   obtain⟨y0,y1,y2,y3,y4,y5,y6,y7,y8,y9,y10⟩:=IC qL;have Fc:=aa PX;clear PX;have ay6:vl.length=names.length:=hH.len;have HVL:=aa ay6;clear ay6;clear qL q1 q2;go_wp2;refine aL (fun w'=>w'.cell? (Tac bb 8)=some pA/\w'.cell? bb=some (.pointer (some bs))/\w'.cell? L=some (.int .i64 0)/\w'.cell? (Tac L 1)=some (.int .i64 x.length)/\w'.cell? (Tac L 2)=some (.int .i64 kind)/\w'.cell? (Tac L 3)=some av/\w'.cell? (Tac L 4)=some (.int .i64 x.chunk)/\w'.cell? (Tac L 5)=some Oz/\w'.cell? (Tac L 6)=some (.string x.log)/\w'.cell? (Tac L 7)=some (.string es)/\w'.cell? (Tac L 8)=some (.int .i64 0)/\w'.cell? (Tac L 9)=some (.int .i64 x.mode)/\w'.cell? (Tac L 10)=some (.int .i64 0)) 24 [0,1,2,3,4,6,7,9,10,11,15,16,17] Tc3 (by simp[c8,c0,y0,y1,y2,y3,y4,y5,y6,y7,y8,y9,y10]) (fun hHeld=>?_);refine fz 0 ?_;refine fz 1 ?_;refine fz 2 ?_;refine fz 3 ?_;refine fz 4 ?_;refine fz 6 ?_;refine fz 7 ?_;refine fz 9 ?_;refine fz 10 ?_;refine fz 11 ?_;refine fz 15 ?_;refine fz 16 ?_;refine fz 17 ?_;refine fS 5 hHeld ?_;refine fS 12 hHeld ?_;refine fS 18 hHeld ?_;refine fS 20 hHeld ?_;clear c8 c0 y0 y1 y2 y3 y4 y5 y6 y7 y8 y9 y10;generalize aD0:oX g.id (g.next+names.length+1)=mz;have Mp:=aa aD0;clear aD0;have HC0:CS (Yc X L (L+1) (L+1+1) ft fx av) bs bb nv vv nv pA w w2.drew { g with next:=g.next+names.length,F9:=g.F9++vl } next' w2.drew:=⟨P2.drewN 1,bk _,fun _ _=>rfl,fun _ _ _=>rfl⟩
   have S4:bF aQ 3 53 (L+1+1+1) (fun _=>False) w2.drew av x.Ga:=hoa.Gl aQ.moves (bk _) (fun _ _=>rfl);have S5:ck cO 1 (okB (Yc X L (L+1) (L+1+1) ft fx av) bb nv pA) w2.drew [Oz] x.stale:=(ck.moves cO.moves).mv ⟨bk _,fun b _ ho=>⟨ho,rfl⟩⟩ hst;have Xn:Hid (w2.drew.heap[L]?=some (.cells #[.int .i64 0,.int .i64 x.length,.int .i64 kind,av,.int .i64 x.chunk,Oz,.string x.log,.string es,.int .i64 0,.int .i64 x.mode,.int .i64 0] 114 (0,0))):=Fc.o;generalize hwr:w2.drew=wd at *;clear hwr;have pB:=HC0.post.bld;refine fE (idx:=[(8,209),(13,214),(14,215),(19,220),(21,222),(22,223),(23,224)])
    (fun i=>[i]) (fun i vs w'=>match i with
     |8=>vs 8=.int .u64 mz
     |13=>∃v:Int,vs 13=.int .i64 v
     |14=>∃ro:Bool,vs 14=.bool ro
     |19=>∃tp tc tl,vs 19=.slice tp (List.length tl) tc/\ck aF 1 (fun k=>wd.heap.size<=k) w' [.slice tp tl.length tc] tl/\List.Sublist tl iQ
     |21=>∃b,vs 21=.slice (some ⟨b,0,none⟩) 1 1/\dS wd.heap.size 114 [.int .i64 0,.int .i64 x.length,.int .i64 kind,av,.int .i64 x.chunk,Oz,.string x.log,.string es,.int .i64 0,.int .i64 x.mode,.int .i64 0] b w'
     |22=>∃b ro tp tc tl,vs 22=.agg #[.string name,.int .u64 mz,.bool false,.bool ro,.slice tp tl.length tc,.slice (some ⟨b,0,none⟩) 1 1]/\ck aF 1 (fun k=>wd.heap.size<=k) w' [.slice tp tl.length tc] tl/\List.Sublist tl iQ/\dS wd.heap.size 114 [.int .i64 0,.int .i64 x.length,.int .i64 kind,av,.int .i64 x.chunk,Oz,.string x.log,.string es,.int .i64 0,.int .i64 x.mode,.int .i64 0] b w'
     |23=>∃c b ro tp tc tl,vs 23=.slice (some ⟨c,0,none⟩) 1 1/\dS wd.heap.size 68 [.string name,.int .u64 mz,.bool false,.bool ro,.slice tp tl.length tc,.slice (some ⟨b,0,none⟩) 1 1] c w'/\ck aF 1 (fun k=>wd.heap.size<=k) w' [.slice tp tl.length tc] tl/\List.Sublist tl iQ/\dS wd.heap.size 114 [.int .i64 0,.int .i64 x.length,.int .i64 kind,av,.int .i64 x.chunk,Oz,.string x.log,.string es,.int .i64 0,.int .i64 x.mode,.int .i64 0] b w'
     |_=>True)
    (fun d w'=>CS (Yc X L (L+1) (L+1+1) ft fx av) bs bb nv vv nv pA w wd { g with next:=if d 8=true then g.next+names.length+1 else g.next+names.length,F9:=g.F9++vl } next' w') (fun _=>rS wd.heap.size) Tc3 rfl ?cs ?st (fun _ _ _ _ h=>h) ?c0 ?ob ?fin
   case c0=>exact HC0
   case cs =>
    intro d w' hC;have e:=(hC.same L (.inr (.inl rfl))).trans Xn.o;refine⟨hC.post.bld.c8,hC.post.bld.c0,?_⟩;simp[World.cell?,e]
   case st =>
    intro p hp q _ _ vs us w1 w2 ha hF he;have C4:Mv (fun k=>wd.heap.size<=k) (fun k=>wd.heap.size<=k) w1 w2:=⟨he.1,fun b hb ho=>⟨ho,he.2 b ho hb⟩⟩;simp only[dr,cY,dg]at hp;rcases hp with rfl|rfl|rfl|rfl|rfl|rfl|rfl
    ·exact(ha 8 (cG ..)).trans hF
    ·obtain⟨v,e⟩:=hF;exact⟨v,(ha 13 (cG ..)).trans e⟩
    ·obtain⟨v,e⟩:=hF;exact⟨v,(ha 14 (cG ..)).trans e⟩
    ·obtain⟨tp,tc,tl,e,h1,h2⟩:=hF;exact⟨tp,tc,tl,(ha 19 (cG ..)).trans e,(ck.moves aF.moves).mv C4 h1,h2⟩
    ·obtain⟨b,e,hb⟩:=hF;exact⟨b,(ha 21 (cG ..)).trans e,hb.ev he⟩
    ·obtain⟨b,ro,tp,tc,tl,e,h1,h2,hb⟩:=hF;exact⟨b,ro,tp,tc,tl,(ha 22 (cG ..)).trans e,(ck.moves aF.moves).mv C4 h1,h2,hb.ev he⟩
    obtain⟨c,b,ro,tp,tc,tl,e,hc,h1,h2,hb⟩:=hF;exact⟨c,b,ro,tp,tc,tl,(ha 23 (cG ..)).trans e,hc.ev he,(ck.moves aF.moves).mv C4 h1,h2,hb.ev he⟩
   case ob =>
     refine kA.cons (deps:=[]) rfl rfl Tc3 (fun vs d w' h0 hC hF K hK=>?_) ?_
     ·clear hF;simp only at h0;simp only[h0,pj,fY]at hC;simp only[over,cq,Act.put];go_simp;refine(vS (Yc X L (L+1) (L+1+1) ft fx av) bs bb nv pA _ next' w' hC.post.bld Tc6 Tc6).mono ?_;rintro e w3 ⟨rfl,q⟩;refine hK.o (.int .u64 (oX g.id (g.next+names.length+1))) w3 ?_ (CS.ev pB q) ((aw rfl).trans (fj (Value.int .u64) Mp.o)) _ ?_
      ·simp only[h0,nj,BEq.rfl,ej];exact hC.step q
      simp only[over,cq,aS]
     refine kA.cons (deps:=[]) rfl rfl Tc3 (fun vs d w' h0 hC hF K hK=>?_) ?_
     ·clear hF;simp only[over,cq,Act.put];go_simp;refine(bY bs 6 w' Tc1 Tc1 hC.post.bld.src).mono ?_;rintro e w3 ⟨v,rfl,_,_,hs,hm⟩;have q:=hC.post.bld.readPost hs hm;refine hK.o (.int .i64 v) w3 ?_ (CS.ev pB q) ⟨v,aw rfl⟩ _ ?_
      ·simp only[show(d 8||(8:Nat)==13)=d 8 from by simp];exact hC.step q
      simp only[over,cq,aS]
     refine kA.cons (deps:=[(13,214)]) rfl rfl Tc3 (fun vs d w' h0 hC hF K hK=>?_) ?_
     ·have f:=(hF (13,214) Tc2).2;clear hF;simp only[over,cq,cF,aS]at f ⊢;obtain⟨v,e⟩:=f;rw[e];go_simp;refine hK.o (.bool (v==0)) _ ?_ (rS.refl _ _) ⟨_,aw rfl⟩ _ ?_
      ·simp only[show(d 8||(8:Nat)==14)=d 8 from by simp];exact hC
      simp only[over,cq,cF,aS,e]
     refine kA.cons (deps:=[]) rfl rfl Tc3 (fun vs d w' h0 hC hF K hK=>?_) ?_
     ·clear hF;simp only[over,cq,Act.put];go_simp;refine(qY bs w' hC.post.bld.src).mono ?_;rintro e w3 ⟨v,tl,rfl,u9,kf,hs,hm⟩;have q:=hC.post.bld.readPost hs hm;obtain⟨tp,tc,rfl,_⟩:=kf.form;refine hK.o (.slice tp tl.length tc) w3 ?_ (CS.ev pB q) ⟨tp,tc,tl,aw rfl,(ck.moves aF.moves).mv ⟨bk _,fun b _ ho=>⟨cA hC.size ho,rfl⟩⟩ kf,u9⟩ _ ?_
      ·simp only[show(d 8||(8:Nat)==19)=d 8 from by simp];exact hC.step q
      simp only[over,cq,aS]
     refine kA.cons (deps:=[]) rfl rfl Tc3 (fun vs d w' h0 hC hF K hK=>?_) ?_
     ·clear hF;simp only[over,cq,Act.put];go_simp;refine hK.o (.slice (some w'.heap.size) 1 1) _ ?_ (rS.alloc _ _ _) ⟨_,aw rfl,dS.new hC.size⟩ _ ?_
      ·simp only[show(d 8||(8:Nat)==21)=d 8 from by simp];exact hC.alloc _
      simp only[over,cq,aS]
     refine kA.cons (deps:=[(8,209),(14,215),(19,220),(21,222)]) rfl rfl Tc3 (fun vs d w' h0 hC hF K hK=>?_) ?_
     ·have f8:=(hF (8,209) Tc2).2;have f14:=(hF (14,215) Tc2).2;have f19:=(hF (19,220) Tc2).2;have f21:=(hF (21,222) Tc2).2;clear hF;simp only[over,cq,cF,aS]at f8 f14 f19 f21 ⊢;obtain⟨ro,e14⟩:=f14;obtain⟨tp,tc,tl,e19,t1,t2⟩:=f19;obtain⟨b,e21,hb⟩:=f21;rw[f8,e14,e19,e21];go_simp;refine hK.o (.agg #[.string name,.int .u64 mz,.bool false,.bool ro,.slice tp tl.length tc,.slice (some b) 1 1]) _ ?_ (rS.refl _ _) ⟨b,ro,tp,tc,tl,aw rfl,t1,t2,hb⟩ _ ?_
      ·simp only[show(d 8||(8:Nat)==22)=d 8 from by simp];exact hC
      simp only[over,cq,cF,aS,f8,e14,e19,e21]
     refine kA.cons (deps:=[(22,223)]) rfl rfl Tc3 (fun vs d w' h0 hC hF K hK=>?_) trivial;have f:=(hF (22,223) Tc2).2;clear hF;simp only[over,cq,cF,aS]at f ⊢;obtain⟨b,ro,tp,tc,tl,e,t1,t2,hb⟩:=f;rw[e];go_simp;refine hK.o (.slice (some w'.heap.size) 1 1) _ ?_ (rS.alloc _ _ _) ⟨_,b,ro,tp,tc,tl,aw rfl,dS.new hC.size,(ck.moves aF.moves).mv ⟨Tc2,fun b hb ho=>⟨ho,cj _ _ _ hb⟩⟩ t1,t2,hb.ev (rS.alloc _ _ _)⟩ _ ?_
     ·simp only[show(d 8||(8:Nat)==23)=d 8 from by simp];exact hC.alloc _
     simp only[over,cq,cF,aS,e]
   case fin =>
    intro vs d w' hC hF;have f23:=(hF (23,224) Tc2).2;have hd8:=(hF (8,209) Tc2).1;clear hF;simp only[over,cq,cF,aS,cQ,cL]at f23 hd8 ⊢;obtain⟨c,b,ro,tp,tc,tl,e23,hc,t1,t2,hb⟩:=f23;rw[e23];simp only[hd8,ej]at hC;generalize vs 8=z8;generalize vs 13=z13;generalize vs 14=z14;generalize vs 19=z19;generalize vs 21=z21;generalize vs 22=z22;clear hd8 e23;have P':aH X bs bb nv vv w w' nv pA { g with next:=g.next+names.length+1,F9:=g.F9++vl } next':=hC.post.fewer fun k hk=>.inl hk
    have TS:eW X wd bs bb nv pA { g with next:=g.next+names.length,F9:=g.F9++vl } next':=pB.fewer fun k hk=>.inl hk
    have hbl:=P'.bld.Gj;have RA:ck aQ 3 (okB X bb nv pA) w' [av] x.Ga:=by
     have ha:bF aQ 3 53 (L+1+1+1) (fun _=>False) w' av x.Ga:=S4.Gl aQ.moves hC.size (fun b e=>hC.same b (.inr (.inr (.inr (.inr (.inr (.inr e)))))));refine ha.rd aQ.moves Tc4 (fun _ _ f=>f.elim) (fun b e=>?_);have hy:(Yc X L (L+1) (L+1+1) ft fx av) b:=.inr (.inr (.inr (.inr (.inr (.inr e)))));refine⟨(pB.xlt b hy).1,fun q=>pB.xn b q hy,fun q=>pB.xv b q hy,fun hx=>?_⟩;have:=(ha.ge e).1;have:=(h.xlt b hx).2;omega
    have RS:ck cO 1 (okB X bb nv pA) w' [Oz] x.stale:=(ck.moves cO.moves).mv ⟨hC.size,fun b hb ho=>⟨⟨ho.1,ho.2.1,ho.2.2.1,fun q=>ho.2.2.2 (.inl q)⟩,hC.oks b hb ho⟩⟩ S5;have RT:ck aF 1 (okB X bb nv pA) w' [.slice tp tl.length tc] tl:=(ck.moves aF.moves).mv ⟨bk _,fun b _ ho=>⟨TS.okNew ho,rfl⟩⟩ t1;have Yh:(⟨0,x.length,kind,x.Ga,x.chunk,x.stale,x.log,es,0,x.mode,0⟩:aB)=x:=by
     have:=HR.o;cases this<;>rfl
    have RV:aN (okB X bb nv pA) w' [.string name,.int .u64 mz,.bool false,.bool ro,.slice tp tl.length tc,.slice (some b) 1 1] ⟨name,mz,false,ro,tl,[x]⟩:=by
     refine⟨_,_,rfl,RT,ck.one hb.2 (TS.okNew hb.1) rfl ?_⟩;rw[<- Yh];exact⟨_,_,rfl,RA,RS⟩
    have kf:=P'.bld.ready RV w' (bj _ _);obtain⟨i0,hi,hz0,hz1,hz2⟩:=gg zT;refine dX aN.moves underlying28 hi hz0 hz1 hz2 rfl Tc4 Tc4 rfl _ _ Tc7 (bb+1) (fun b=>okB X bb nv pA b/\b<w'.heap.size) pA (g.F9++vl) ⟨name,mz,false,ro,tl,[x]⟩ Tc7 kf.1 c 1 [.string name,.int .u64 mz,.bool false,.bool ro,.slice tp tl.length tc,.slice (some ⟨b,0,none⟩) 1 1] Tc7 Tc7 kf.2 Tdc (fun j y hy=>?_) (by rw[cD,HVL.o];omega) Tc1 H8 (fun gb cap w3 hp=>?_)
    ·simp only[World.cell?,hc.2];simpa using hy
    obtain⟨hx1,hx2⟩:=P'.bld.pushKeeps (bj _ _) hp;have y8:=(cd (w:=w') (w':=w3) (a:=⟨bb,8,none⟩) hx1).trans P'.bld.c8;have yf:=(rh (w:=w') (w':=w3) (a:=⟨bb,8,none⟩) hx1).trans (P'.bld.bfr 8);have R5:=P'.push (bj _ _) hp (bk _);clear hp hx1 hx2 kf RV RA RS RT hC hc hb hi hz0 hz1 hz2 hHeld S5 S4 hst hoa HC0 pB;simp only[aS];have hlen5:(g.F9++vl).length<=48:=by rw[cD,HVL.o];omega
    simp only at R5;generalize hM:(g.F9++vl).length=M at *;have HM:=aa hM;clear hM;have dk:=hT.ok hk.dk;by_cases hk5:kind=5
    ·
      subst hk5;have c0:=R5.bld.c0;go_wp2_with fail;refine(bY bs 3 _ Tc1 Tc1 R5.bld.src).mono ?_;rintro e w4 ⟨kv,rfl,Xo,Xp,hs4,hm4⟩;have R6:=R5.read hs4 hm4;clear hm4 hs4 c0 R5;obtain⟨kk,rfl⟩:∃u:Nat,kv=u:=⟨kv.toNat,Tc1⟩;have R7:aH X bs bb nv vv w w4 nv (.slice (some gb) (M+1) cap) { g with next:=g.next+names.length+1+((([]:List ay).length:Nat):Int),F9:=g.F9++vl++[⟨name,mz,false,ro,tl,[x]⟩]++[] } next':=by simpa using R6
      clear R6;have HH:=aa hH;clear hH;have HT2:=aa t2;clear t2;have HG:=aa (show(g.F9++vl++[(⟨name,mz,false,ro,tl,[x]⟩:ay)]).length<=49 by simp only[cD,cS,Ox];have:=HVL.o;omega);generalize hbase:g.F9++vl++[(⟨name,mz,false,ro,tl,[x]⟩:ay)]=base at *;have Ot:=aa hbase;clear hbase;go_upto_block 5 with(fail)
      go_wp2;go_loopw[15] (fun i wr=>∃(j:Nat) (DM:List ay) (OJ:Value),j<=kk/\i=.int .i64 j/\iO g.id name kk (g.next+names.length+1+1) j DM/\DM.length+j=kk/\aH X bs bb nv vv w wr nv OJ { g with next:=g.next+names.length+1+((DM.length:Nat):Int),F9:=base++DM } next') (fun i _=>(intOf i).toNat)
      exact⟨kk,[],_,bk _,rfl,.nil _,Tc2,R7⟩;obtain⟨j,DM,OJ,hj,rfl,hth,hlen,R⟩:=hrel;have Xq:=aa hth;clear hth;have HLEN:=aa hlen;have hlb:DM.length<=2:=by omega
      clear hlen;obtain⟨vp2,vc2,rfl,u1,u2,u3⟩:=R.bld.vForm;have HU3:=aa u3;clear u3;have c8:=R.bld.c8;have c0:=R.bld.c0;have hMM:(base++DM).length<=60:=by rw[cD];have:=HG.o;omega
      simp only at c8 u1 R;generalize hM2:(base++DM).length=M2 at *;have HM2:=aa hM2;clear hM2;by_cases hgo:0<j/\M2<32
      ·obtain⟨g1,g2⟩:=hgo;have hd1:decide ((0:Int)<(j:Int))=true:=by simp;omega
       have hd2:decide ((M2:Int)<32)=true:=by simp;omega
       have z1:(0:Int)<=(j:Int):=by omega
       have z2:(j:Int)<3:=by omega
       have ad9:¬(9223372036854775807<name.size+1):=by omega
       go_wp2;refine aL (fun w'=>w'.cell? (Tac bb 8)=some (.slice vp2 M2 vc2)/\w'.cell? bb=some (.pointer (some bs))) 26 [0,1,2,3,4,6,7,9,13,15,16,17,20,21] Tc3 ⟨c8,c0⟩ (fun hHeld=>?_);refine fz 0 ?_;refine fz 1 ?_;refine fz 2 ?_;refine fz 3 ?_;refine fz 4 ?_;refine fz 6 ?_;refine fz 7 ?_;refine fz 9 ?_;refine fz 13 ?_;refine fz 15 ?_;refine fz 16 ?_;refine fz 17 ?_;refine fz 20 ?_;refine fz 21 ?_;refine fS 5 hHeld ?_;refine fS 18 hHeld ?_;clear c8 c0 Mp;generalize Ou:oX g.id (g.next+names.length+1+(DM.length:Int)+1)=Hp;have S6:=aa Ou;clear Ou;have HC0:CS X bs bb nv vv nv (.slice vp2 M2 vc2) w wr.drew { g with next:=g.next+names.length+1+((DM.length:Nat):Int),F9:=base++DM } next' wr.drew:=⟨R.drewN 1,bk _,fun _ _=>rfl,fun _ _ _=>rfl⟩
       generalize hwr:wr.drew=wd at *;clear hwr;have pB:=HC0.post.bld;refine fE (idx:=[(8,257),(10,259),(11,260),(12,261),(14,263),(19,268),(22,271),(23,272),(24,273),(25,274)])
        (fun i=>[i]) (fun i vs w'=>match i with
         |8=>∃b,vs 8=.slice (some ⟨b,0,none⟩) 3 3/\dS wd.heap.size 9 [.string ⟨#[48]⟩,.string ⟨#[49]⟩,.string ⟨#[50]⟩] b w'
         |10=>∃b,vs 10=.pointer (some ⟨b,j,none⟩)/\dS wd.heap.size 9 [.string ⟨#[48]⟩,.string ⟨#[49]⟩,.string ⟨#[50]⟩] b w'
         |11=>vs 11=.string (digit j)
         |12=>vs 12=.string ((name++tT)++digit j)
         |14=>vs 14=.int .u64 Hp
         |19=>∃len:Int,vs 19=.int .i64 len/\1<=len/\len<=4
         |22=>∃len:Int,vs 22=.agg #[.int .i64 0,.int .i64 len,.int .i64 6,.slice none 0 0,.int .i64 0,.slice none 0 0,.string es,.string name,.int .i64 (j:Int),.int .i64 0,.int .i64 0]/\1<=len/\len<=4
         |23=>∃(len:Int) (b:Nat),vs 23=.slice (some b) 1 1/\dS wd.heap.size 114 [.int .i64 0,.int .i64 len,.int .i64 6,.slice none 0 0,.int .i64 0,.slice none 0 0,.string es,.string name,.int .i64 (j:Int),.int .i64 0,.int .i64 0] b w'/\1<=len/\len<=4
         |24=>∃(len:Int) (b:Nat),vs 24=.agg (TaO ((name++tT)++digit j) Hp (some ⟨b,0,none⟩))/\dS wd.heap.size 114 [.int .i64 0,.int .i64 len,.int .i64 6,.slice none 0 0,.int .i64 0,.slice none 0 0,.string es,.string name,.int .i64 (j:Int),.int .i64 0,.int .i64 0] b w'/\1<=len/\len<=4
         |25=>∃(c:Nat) (len:Int) (b:Nat),vs 25=.slice (some c) 1 1/\dS wd.heap.size 68 [.string ((name++tT)++digit j),.int .u64 Hp,.bool false,.bool false,.slice none 0 0,.slice (some b) 1 1] c w'/\dS wd.heap.size 114 [.int .i64 0,.int .i64 len,.int .i64 6,.slice none 0 0,.int .i64 0,.slice none 0 0,.string es,.string name,.int .i64 (j:Int),.int .i64 0,.int .i64 0] b w'/\1<=len/\len<=4
         |_=>True)
        (fun d w'=>CS X bs bb nv vv nv (.slice vp2 M2 vc2) w wd { g with next:=if d 14=true then g.next+names.length+1+((DM.length:Nat):Int)+1 else g.next+names.length+1+((DM.length:Nat):Int),F9:=base++DM } next' w') (fun _=>rS wd.heap.size) Tc3 rfl ?cs2 ?st2 (fun _ _ _ _ h=>h) ?c02 ?ob2 ?fin2
       case c02=>exact HC0
       case cs2=>exact fun d w' hC=>⟨hC.post.bld.c8,hC.post.bld.c0⟩
       case st2 =>
        intro p hp q _ _ vs us w1 w2 ha hF he;simp only[dr,cY,dg]at hp;rcases hp with rfl|rfl|rfl|rfl|rfl|rfl|rfl|rfl|rfl|rfl
        ·obtain⟨b,e,hb⟩:=hF;exact⟨b,(ha 8 (cG ..)).trans e,hb.ev he⟩
        ·obtain⟨b,e,hb⟩:=hF;exact⟨b,(ha 10 (cG ..)).trans e,hb.ev he⟩
        ·exact(ha 11 (cG ..)).trans hF
        ·exact(ha 12 (cG ..)).trans hF
        ·exact(ha 14 (cG ..)).trans hF
        ·obtain⟨len,e,l1,l2⟩:=hF;exact⟨len,(ha 19 (cG ..)).trans e,l1,l2⟩
        ·obtain⟨len,e,l1,l2⟩:=hF;exact⟨len,(ha 22 (cG ..)).trans e,l1,l2⟩
        ·obtain⟨len,b,e,hb,l1,l2⟩:=hF;exact⟨len,b,(ha 23 (cG ..)).trans e,hb.ev he,l1,l2⟩
        ·obtain⟨len,b,e,hb,l1,l2⟩:=hF;exact⟨len,b,(ha 24 (cG ..)).trans e,hb.ev he,l1,l2⟩
        obtain⟨c,len,b,e,hc,hb,l1,l2⟩:=hF;exact⟨c,len,b,(ha 25 (cG ..)).trans e,hc.ev he,hb.ev he,l1,l2⟩
       case ob2 =>
         refine kA.cons (deps:=[]) rfl rfl Tc3 (fun vs d w' h0 hC hF K hK=>?_) ?_
         ·clear hF;simp only[over,cq,Act.put];go_simp;refine hK.o (.slice (some w'.heap.size) 3 3) _ ?_ (rS.alloc _ _ _) ⟨_,aw rfl,dS.new hC.size⟩ _ ?_
          ·simp only[show(d 14||(14:Nat)==8)=d 14 from by simp];exact hC.alloc _
          simp only[over,cq,aS]
         refine kA.cons (deps:=[(8,257)]) rfl rfl Tc3 (fun vs d w' h0 hC hF K hK=>?_) ?_
         ·have f8:=(hF (8,257) Tc2).2;clear hF;simp only[over,cq,cF,aS]at f8 ⊢;obtain⟨b,e8,hb⟩:=f8;rw[e8];go_simp;refine hK.o (.pointer (some (b,j))) _ ?_ (rS.refl _ _) ⟨b,aw rfl,hb⟩ _ ?_
          ·simp only[show(d 14||(14:Nat)==10)=d 14 from by simp];exact hC
          simp only[over,cq,cF,aS,e8]
         refine kA.cons (deps:=[(10,259)]) rfl rfl Tc3 (fun vs d w' h0 hC hF K hK=>?_) ?_
         ·have f10:=(hF (10,259) Tc2).2;clear hF;simp only[over,cq,cF,aS]at f10 ⊢;obtain⟨b,e10,hb⟩:=f10;rw[e10];have hcell:w'.cell? (b,j)=some (.string (digit j)):=by
           simp only[World.cell?,hb.2];rcases(show j=1\/j=2 by omega)with rfl|rfl<;>rfl
          go_simp;refine hK.o (.string (digit j)) _ ?_ (rS.refl _ _) (aw rfl) _ ?_
          ·simp only[show(d 14||(14:Nat)==11)=d 14 from by simp];exact hC
          simp only[over,cq,cF,aS,e10]
         refine kA.cons (deps:=[(11,260)]) rfl rfl Tc3 (fun vs d w' h0 hC hF K hK=>?_) ?_
         ·have f11:=(hF (11,260) Tc2).2;clear hF;simp only[over,cq,cF,aS]at f11 ⊢;rw[f11];have QH:(digit j).size=1:=rfl;have hcc:¬(9223372036854775807<name.size+1+1):=by omega
          go_simp;refine hK.o (.string ((name++tT)++digit j)) _ ?_ (rS.refl _ _) (aw rfl) _ ?_
          ·simp only[show(d 14||(14:Nat)==12)=d 14 from by simp];exact hC
          simp only[over,cq,cF,aS,f11,tT]
         refine kA.cons (deps:=[]) rfl rfl Tc3 (fun vs d w' h0 hC hF K hK=>?_) ?_
         ·clear hF;simp only[over,cq,Act.put];simp only at h0;simp only[h0,pj,fY]at hC;go_simp;refine(vS X bs bb nv _ _ next' w' hC.post.bld Tc6 Tc6).mono ?_;rintro e w5 ⟨rfl,q⟩;refine hK.o (.int .u64 (oX g.id (g.next+names.length+1+(DM.length:Int)+1))) w5 ?_ (CS.ev pB q) ((aw rfl).trans (fj (Value.int .u64) S6.o)) _ ?_
          ·simp only[h0,nj,BEq.rfl,ej];exact hC.step q
          simp only[over,cq,aS]
         refine kA.cons (deps:=[]) rfl rfl Tc3 (fun vs d w' h0 hC hF K hK=>?_) ?_
         ·clear hF;simp only[over,cq,Act.put];go_simp;refine(bO bs 1 4 w' Tc1 Tc1 Tc1 hC.post.bld.src).mono ?_;rintro e w5 ⟨len,rfl,l1,l2,hs,hm⟩;have q:=hC.post.bld.readPost hs hm;refine hK.o (.int .i64 len) w5 ?_ (CS.ev pB q) ⟨len,aw rfl,l1,l2⟩ _ ?_
          ·simp only[show(d 14||(14:Nat)==19)=d 14 from by simp];exact hC.step q
          simp only[over,cq,aS]
         refine kA.cons (deps:=[(19,268)]) rfl rfl Tc3 (fun vs d w' h0 hC hF K hK=>?_) ?_
         ·have f19:=(hF (19,268) Tc2).2;clear hF;simp only[over,cq,cF,aS]at f19 ⊢;obtain⟨len,e19,l1,l2⟩:=f19;rw[e19];go_simp;refine hK.o (.agg #[.int .i64 0,.int .i64 len,.int .i64 6,.slice none 0 0,.int .i64 0,.slice none 0 0,.string es,.string name,.int .i64 (j:Int),.int .i64 0,.int .i64 0]) _ ?_ (rS.refl _ _) ⟨len,aw rfl,l1,l2⟩ _ ?_
          ·simp only[show(d 14||(14:Nat)==22)=d 14 from by simp];exact hC
          simp only[over,cq,cF,aS,e19,es]
         refine kA.cons (deps:=[(22,271)]) rfl rfl Tc3 (fun vs d w' h0 hC hF K hK=>?_) ?_
         ·have f22:=(hF (22,271) Tc2).2;clear hF;simp only[over,cq,cF,aS]at f22 ⊢;obtain⟨len,e22,l1,l2⟩:=f22;rw[e22];go_simp;refine hK.o (.slice (some w'.heap.size) 1 1) _ ?_ (rS.alloc _ _ _) ⟨len,_,aw rfl,dS.new hC.size,l1,l2⟩ _ ?_
          ·simp only[show(d 14||(14:Nat)==23)=d 14 from by simp];exact hC.alloc _
          simp only[over,cq,cF,aS,e22]
         refine kA.cons (deps:=[(12,261),(14,263),(23,272)]) rfl rfl Tc3 (fun vs d w' h0 hC hF K hK=>?_) ?_
         ·have f12:=(hF (12,261) Tc2).2;have f14:=(hF (14,263) Tc2).2;have f23:=(hF (23,272) Tc2).2;clear hF;simp only[over,cq,cF,aS]at f12 f14 f23 ⊢;obtain⟨len,b,e23,hb,l1,l2⟩:=f23;rw[f12,f14,e23];go_simp;refine hK.o (.agg (TaO ((name++tT)++digit j) Hp (some ⟨b,0,none⟩))) _ ?_ (rS.refl _ _) ⟨len,b,aw rfl,hb,l1,l2⟩ _ ?_
          ·simp only[show(d 14||(14:Nat)==24)=d 14 from by simp];exact hC
          simp only[over,cq,cF,aS,f12,f14,e23]
         refine kA.cons (deps:=[(24,273)]) rfl rfl Tc3 (fun vs d w' h0 hC hF K hK=>?_) trivial;have f24:=(hF (24,273) Tc2).2;clear hF;simp only[over,cq,cF,aS]at f24 ⊢;obtain⟨len,b,e24,hb,l1,l2⟩:=f24;rw[e24];go_simp;refine hK.o (.slice (some w'.heap.size) 1 1) _ ?_ (rS.alloc _ _ _) ⟨_,len,b,aw rfl,dS.new hC.size,hb.ev (rS.alloc _ _ _),l1,l2⟩ _ ?_
         ·simp only[show(d 14||(14:Nat)==25)=d 14 from by simp];exact hC.alloc _
         simp only[over,cq,cF,aS,e24]
       case fin2 =>
        intro vs d w' hC hF;have f25:=(hF (25,274) Tc2).2;have hd14:=(hF (14,263) Tc2).1;clear hF;simp only[over,cq,cF,aS,cQ,cL]at f25 hd14 ⊢;obtain⟨c,len,b,e25,hc,hb,l1,l2⟩:=f25;rw[e25];simp only[hd14,ej]at hC;generalize vs 8=z8;generalize vs 10=z10;generalize vs 11=z11;generalize vs 12=z12;generalize vs 14=z14;generalize vs 19=z19;generalize vs 22=z22;generalize vs 23=z23;generalize vs 24=z24;clear hd14 e25;have P':=hC.post;have hbl:=P'.bld.Gj;have RV:aN (okB X bb nv (.slice vp2 M2 vc2)) w' [.string ((name++tT)++digit j),.int .u64 Hp,.bool false,.bool false,.slice none 0 0,.slice (some b) 1 1] (jY name Hp len j) :=
         ⟨_,_,rfl,ck.nil,ck.one hb.2 (pB.okNew hb.1) rfl ⟨_,_,rfl,ck.nil,ck.nil⟩⟩
        have kf:=P'.bld.ready RV w' (bj _ _);obtain⟨i0,hi,hz0,hz1,hz2⟩:=gg zT;refine dX aN.moves underlying28 hi hz0 hz1 hz2 rfl Tc4 Tc4 rfl _ _ Tc7 (bb+1) (fun b=>okB X bb nv (.slice vp2 M2 vc2) b/\b<w'.heap.size) (.slice vp2 M2 vc2) (base++DM) (jY name Hp len j) Tc7 kf.1 c 1 [.string ((name++tT)++digit j),.int .u64 Hp,.bool false,.bool false,.slice none 0 0,.slice (some ⟨b,0,none⟩) 1 1] Tc7 Tc7 kf.2 Tdc (fun jj y hy=>?_) (by rw[HM2.o];omega) Tc1 H8 (fun gb2 cap2 w5 hp=>?_)
        ·simp only[World.cell?,hc.2];simpa using hy
        obtain⟨hx1,hx2⟩:=P'.bld.pushKeeps (bj _ _) hp;have y8:=(cd (w:=w') (w':=w5) (a:=⟨bb,8,none⟩) hx1).trans P'.bld.c8;have yf:=(rh (w:=w') (w':=w5) (a:=⟨bb,8,none⟩) hx1).trans (P'.bld.bfr 8);have R8:=P'.push (bj _ _) hp (bk _);clear hp hx1 hx2 kf RV hC hc hb hi hz0 hz1 hz2 hHeld HC0 pB P';simp only[aS];go_wp2;go_roundw
        case rel =>
         refine⟨j-1,DM++[jY name Hp len j],.slice (some gb2) (M2+1) cap2,Tc1,by rw[show((j-1:Nat):Int)=(j:Int)-1 by omega],?_,by have:=HLEN.o;simp;omega,?_⟩
         ·have Xr:=Xq.o;obtain⟨i,rfl⟩:∃i,j=i+1:=⟨j-1,Tc1⟩;have:=iO.snoc (len:=len) Xr ⟨l1,l2⟩;rw[show g.next+(names.length:Int)+1+1+(DM.length:Int)=g.next+names.length+1+(DM.length:Int)+1 by omega,S6.o]at this;exact this
         rw[show g.next+(names.length:Int)+1+(((DM++[jY name Hp len j]).length:Nat):Int)=g.next+names.length+1+(DM.length:Int)+1 by simp;omega,<- cV];have R9:=R8;simp only[HM2.o]at R9;have hq:base.length+DM.length=M2:=by rw[<- cD];exact HM2.o
         rw[hq];exact R9
        simp[intOf];omega
      by_cases g1:0<j
      ·have hd1:decide ((0:Int)<(j:Int))=true:=by simp;omega
       have hd2:decide ((M2:Int)<32)=false:=by simp;omega
       exact Tbn
      have hd1:decide ((0:Int)<(j:Int))=false:=by simp;omega
      exact Tbn
    have hkb:(kind==5)=false:=by simpa using hk5
    go_wp2;go_end0
    have hv:=Mp.o;subst hv;refine⟨rfl,.inr ⟨n,names,lengths,x,ps,vl,ro,tl,0,0,[],next',.slice (some gb) (M+1) cap,hn1,hn2,HR.o,?_,hT,t2,Tc1,fun _=>⟨rfl,rfl⟩,.nil _,?_⟩⟩
    ·have:=hH;rw[XO.o,cI]at this;exact this
    simpa using R5
  go_wp2;refine eC (results_none rfl _ _ _) rfl ⟨rfl,.inl ⟨j,nv',pA,Tc1,(T.post.trans Q).fewer (fun k hk=>.inl hk)⟩⟩
def tH{ok:Nat->Prop}:∀(l:List Int) (cs:List Value),Flat cO 1 ok w cs l->cs=l.map (Bm .i64)
 |[],_,h=>h
 |x :: l,_,⟨u,r,e,h1,h2,h3,h4⟩=>by
  have:=tH l r h4;rw[e,this,show u=[.int .i64 x] from h2];rfl
def rU{ok:Nat->Prop}:∀l:List Int,Flat cO 1 ok w (l.map (Bm .i64)) l
 |[]=>rfl
 |x :: l=>⟨[.int .i64 x],l.map (Bm .i64),rfl,rfl,rfl,Tdc,rU l⟩
def eG.ownS(h:eG w B v l)(ok:Nat->Prop):bF cO 1 3 B ok w v l:=⟨_,h,rU l⟩
def bF.ownI{ok:Nat->Prop}(h:bF cO 1 3 B ok w v l):eG w B v l:=by
 obtain⟨cs,h1,h2⟩:=h;rw[tH l cs h2]at h1;exact h1
structure Str(w0 w:World):Prop where
 os:w.os=w0.os
 tape:w.tape=w0.tape
 output:w.output=w0.output
def Str.refl(w:World):Str w w:=⟨rfl,rfl,rfl⟩
def Str.trans{c:World}(h:Str a b)(k:Str b c):Str a c:=⟨k.os.trans h.os,k.tape.trans h.tape,k.output.trans h.output⟩
def cR.str{F:Nat->Prop}(h:cR F a b):Str a b:=⟨h.os,h.tape,h.output⟩
def ow(h:Below B a b):Str a b:=⟨h.os,h.tape,h.output⟩
def nQ{row:Option Nat}(h:a.grownBy b row):Str a b:=⟨h.os,h.tape,h.output⟩
def pvT:ByteArray:=⟨#[112,118]⟩
def vgT:ByteArray:=⟨#[118,103]⟩
def BQ:ByteArray:=⟨#[111,108,100]⟩
structure rH(k:Nat)(D:az):Prop where
 name:D.name=pvT++digit k
 id:D.id=k+1
 first:8<=D.first/\D.first<=16
 ext:D.Gc∈([0,4,12,30,60]:List Int)
 tags:List.Sublist D.tags iQ
def okD(bb:Nat)(dv nv:Value):Nat->Prop:=fun b=>bb<b/\dv.ownBlock≠some b/\nv.ownBlock≠some b
structure vy(bs bb:Nat)(id seq ext:Int)(tags:List ByteArray)(w0:World)(tv dv nv:Value)(Gb:List az)(next:List Int)(w:World):Prop where
 src:Src w bs
 lt:bs<bb
 blk:w.heap[bb]?=some (.cells #[.pointer (some bs),.string vgT,.int .u64 id,.int .i64 seq,.int .i64 ext,.int .i64 0,tv,dv,.slice none 0 0,.slice none 0 0,nv] 60 (0,0))
 rt:ck aF 1 (okD bb dv nv) w [tv] tags
 ownD:bF aO 7 51 (bb+1) (okD bb dv nv) w dv Gb
 ownN:eG w (bb+1) nv next
 ne:∀k,dv.ownBlock=some k->nv.ownBlock≠some k
 old:∀k,k<bb->k≠bs->w.heap[k]?=w0.heap[k]?
 str:Str w0 w
section
variable {bs bb:Nat}{id seq ext:Int}{tags:List ByteArray}{w0 w w' w2:World}{tv dv nv:Value}{Gb:List az}{next:List Int}
variable {k gb:Nat}{u:List Value}
theorem vy.Gj(h:vy bs bb id seq ext tags w0 tv dv nv Gb next w):bb<w.1.size:=aq h.blk
theorem vy.dLt(h:vy bs bb id seq ext tags w0 tv dv nv Gb next w)(e:dv.ownBlock=some k):bb<k/\k<w.1.size:=by
 have:=h.ownD.ge0 e;omega
theorem vy.nLt(h:vy bs bb id seq ext tags w0 tv dv nv Gb next w)(e:nv.ownBlock=some k):bb<k/\k<w.1.size:=by
 have:=h.ownN.lt k e;omega
theorem vy.okNew(h:vy bs bb id seq ext tags w0 tv dv nv Gb next w)(hk:w.1.size<=k):okD bb dv nv k:=⟨by have:=h.Gj;omega,fun e=>by have:=h.dLt e;omega,fun e=>by have:=h.nLt e;omega⟩
def TeL{p:Prop}(h:p:=by have:=(mb k e).1;omega):p:=h
theorem vy.keep(h:vy bs bb id seq ext tags w0 tv dv nv Gb next w)(hst:Str w w')(hs:Src w' bs)(hz:w.1.size<=w'.1.size)(hk:∀k,k<w.1.size->k≠bs->w'.1[k]?=w.1[k]?):vy bs bb id seq ext tags w0 tv dv nv Gb next w':=by
 have hl:=h.lt;have hb:=h.Gj;have hm:Mv (okD bb dv nv) (okD bb dv nv) w w':=⟨hz,fun b hb ho=>⟨ho,hk b hb TdB⟩⟩;refine⟨hs,hl,(hk bb hb Tc1).trans h.blk,(ck.moves aF.moves).mv hm h.rt,?_,aC h.ownN fun k e=>hk k (h.nLt e).2 (by have:=(h.nLt e).1;omega),h.ne,fun k h1 h2=>(hk k Tc1 h2).trans (h.old k h1 h2),h.str.trans hst⟩;have mb:=fun k e=>h.dLt (k:=k) e;obtain⟨cs,ho,hf⟩:=h.ownD;exact⟨cs,aC ho fun k e=>hk k (mb k e).2 TeL,Flat.moves aO.moves hm _ _ hf⟩
theorem vy.read(h:vy bs bb id seq ext tags w0 tv dv nv Gb next w)(hs:Src w' bs)(hm:cR (fun i=>i=bs) w w'):vy bs bb id seq ext tags w0 tv dv nv Gb next w':=h.keep hm.str hs hm.size fun k hk hn=>hm.block k hk hn
theorem vy.below(h:vy bs bb id seq ext tags w0 tv dv nv Gb next w)(hb:Below w.1.size w w'):vy bs bb id seq ext tags w0 tv dv nv Gb next w' :=
 h.keep (ow hb) (h.src.keep fun i hi=>hb.block i TeF) hb.size fun k hk _=>hb.block k hk
def TeC{p:Prop}(h:p:=by injection e with e;exact e.symm):p:=h
theorem vy.pushD{D:az}{cap:Nat}(h:vy bs bb id seq ext tags w0 tv dv nv Gb next w)
  (hp:jN aO 7 51 (bb+1) (fun b=>okD bb dv nv b/\b<w.1.size) w dv Gb D u gb cap w2) :
  vy bs bb id seq ext tags w0 tv (.slice (some gb) (Gb.length+1) cap) nv (Gb++[D]) next (w2.setCell (Tac bb 7) (.slice (some gb) (Gb.length+1) cap))/\w2.1[bb]?=w.1[bb]?:=by
 have hl:=h.lt;have hb:=h.Gj;have hz:=hp.grown.size;have kw:∀k,k<w.1.size->dv.ownBlock≠some k->w2.1[k]?=w.1[k]?:=fun k h1 h2=>hp.grown.block k h1 fun e=>h2 e.symm;have pC:w2.1[bb]?=w.1[bb]?:=kw bb hb fun e=>by have:=h.dLt e;omega
 have kk:∀k,k≠bb->(w2.setCell (Tac bb 7) (.slice (some gb) (Gb.length+1) cap)).1[k]?=w2.1[k]?:=fun k e=>bw _ _ _ _ e;have a5:(w2.setCell (Tac bb 7) (.slice (some gb) (Gb.length+1) cap)).1.size=w2.1.size:=by simp[AF]
 have hg:=hp.own.ge0 (k:=gb) rfl;have OH:∀b,okD bb dv nv b->b<w.1.size->b≠gb:=fun b h1 h2 e=>by
  subst e;rcases hp.at' with q|q
  ·exact h1.2.1 q
  omega
 have gw:∀b,okD bb dv nv b->b<w.1.size->okD bb (.slice (some gb) (Gb.length+1) cap) nv b:=fun b h1 h2=>⟨h1.1,fun e=>OH b h1 h2 TeC,h1.2.2⟩
 have old:∀k,k<bb->(w2.setCell (Tac bb 7) (.slice (some gb) (Gb.length+1) cap)).1[k]?=w.1[k]?:=fun k hk=>(kk k Tc1).trans (kw k Tc1 fun e=>by have:=h.dLt e;omega);refine⟨⟨h.src.keep fun i hi=>old i Tc1,hl,?_,?_,?_,?_,?_,fun k h1 h2=>(old k h1).trans (h.old k h1 h2),(h.str.trans (nQ hp.grown)).trans ⟨rfl,rfl,rfl⟩⟩,pC⟩
 ·exact block_setCell (i:=7) _ (pC.trans h.blk)
 ·exact(ck.moves aF.moves).mv ⟨Tc1,fun b h1 h2=>⟨gw b h2 h1,(kk b (by have:=h2.1;omega)).trans (kw b h1 h2.2.1)⟩⟩ h.rt
 ·obtain⟨cs,ho,hf⟩:=hp.own;exact⟨cs,aC ho fun k e=>kk k TeG,Flat.moves aO.moves ⟨Tc1,fun b _ h2=>⟨gw b h2.1 h2.2,kk b (by have:=h2.1.1;omega)⟩⟩ _ _ hf⟩
 ·exact aC h.ownN fun k e=>(kk k (by have:=(h.nLt e).1;omega)).trans (kw k (h.nLt e).2 fun e'=>h.ne k e' e)
 intro k e e';obtain rfl:gb=k:=by injection e
 rcases hp.at' with q|q
 ·exact h.ne gb q e'
 have:=(h.nLt e').2;omega
theorem vy.pushN{x:Int}{cap:Nat}(h:vy bs bb id seq ext tags w0 tv dv nv Gb next w)
  (hp:jN cO 1 3 (bb+1) (fun _=>False) w nv next x u gb cap w2) :
  vy bs bb id seq ext tags w0 tv dv (.slice (some gb) (next.length+1) cap) Gb (next++[x]) (w2.setCell (Tac bb 10) (.slice (some gb) (next.length+1) cap))/\w2.1[bb]?=w.1[bb]?:=by
 have hl:=h.lt;have hb:=h.Gj;have hz:=hp.grown.size;have kw:∀k,k<w.1.size->nv.ownBlock≠some k->w2.1[k]?=w.1[k]?:=fun k h1 h2=>hp.grown.block k h1 fun e=>h2 e.symm;have pC:w2.1[bb]?=w.1[bb]?:=kw bb hb fun e=>by have:=h.nLt e;omega
 have kk:∀k,k≠bb->(w2.setCell (Tac bb 10) (.slice (some gb) (next.length+1) cap)).1[k]?=w2.1[k]?:=fun k e=>bw _ _ _ _ e;have a5:(w2.setCell (Tac bb 10) (.slice (some gb) (next.length+1) cap)).1.size=w2.1.size:=by simp[AF]
 have hg:=hp.own.ge0 (k:=gb) rfl;have OH:∀b,nv.ownBlock≠some b->b<w.1.size->b≠gb:=fun b h1 h2 e=>by
  subst e;rcases hp.at' with q|q
  ·exact h1 q
  omega
 have gw:∀b,okD bb dv nv b->b<w.1.size->okD bb dv (.slice (some gb) (next.length+1) cap) b:=fun b h1 h2=>⟨h1.1,h1.2.1,fun e=>OH b h1.2.2 h2 TeC⟩
 have old:∀k,k<bb->(w2.setCell (Tac bb 10) (.slice (some gb) (next.length+1) cap)).1[k]?=w.1[k]?:=fun k hk=>(kk k Tc1).trans (kw k Tc1 fun e=>by have:=h.nLt e;omega);have hm:Mv (okD bb dv nv) (okD bb dv (.slice (some gb) (next.length+1) cap)) w (w2.setCell (Tac bb 10) (.slice (some gb) (next.length+1) cap)):=⟨Tc1,fun b h1 h2=>⟨gw b h2 h1,(kk b (by have:=h2.1;omega)).trans (kw b h1 h2.2.2)⟩⟩;refine⟨⟨h.src.keep fun i hi=>old i Tc1,hl,?_,(ck.moves aF.moves).mv hm h.rt,?_,?_,?_,fun k h1 h2=>(old k h1).trans (h.old k h1 h2),(h.str.trans (nQ hp.grown)).trans ⟨rfl,rfl,rfl⟩⟩,pC⟩
 ·exact block_setCell (i:=10) _ (pC.trans h.blk)
 ·have mb:=fun k e=>h.dLt (k:=k) e
  obtain⟨cs,ho,hf⟩:=h.ownD;exact⟨cs,aC ho fun k e=>(kk k TeL).trans (kw k (mb k e).2 (h.ne k e)),Flat.moves aO.moves hm _ _ hf⟩
 ·have ho:=hp.own.ownI;exact aC ho fun k e=>kk k (by have:=fh ho k e;omega)
 intro k e e';obtain rfl:gb=k:=by injection e'
 rcases hp.at' with q|q
 ·exact h.ne gb e q
 have:=(h.dLt e).2;omega
end
variable {bs bb:Nat}{id seq:Int}{tags:List ByteArray}{w0 w:World}{tv dv nv:Value}{Gb:List az}{g:af}
noncomputable def nA(n:Nat):Code:=((Tryz.f6.body.bind (kX n)).getD .skip)
def Dp:(prog.info? 51).map (fun i=>(i.zero,i.size,i.bytes))=some (some (.agg Tam),7,72):=by kernel_rfl
def Tai(x0:az)(x1:Option Addr)(x2:Nat):Tab #[.string x0.name,.int .u64 x0.id,.int .i64 x0.first,.int .i64 x0.Gc,.bool x0.closed,.bool x0.missing,.slice x1 x0.tags.length x2]:=⟨⟩
def Tel{p:Prop}(h:p:=by show ¬k=bs;omega):p:=h
def Tbh{p:Prop}(h:p:=by
 clear hF h0;simp only[over,cq,Act.put];go_simp;refine(bY bs 8 w' Tc1 Tc1 hC.1).mono ?_;rintro e w3 ⟨v,rfl,hv1,hv2,hs,hm⟩;refine hK1.o (.int .i64 v) w3 ⟨hs,hC.2.trans hm fun _ h=>.inl h⟩ ⟨hm.size,fun k h1 h2=>hm.block k h2 Tel⟩ (⟨v,aw rfl⟩) _ ?_;simp only[over,cq,aS]):p:=h
def TeM{p:Prop}(h:p:=by have:=hC.2.size;omega):p:=h
theorem yY{M:Nat}{ext:Int}{next:List Int}(D0:vy bs bb id seq ext tags w0 tv dv nv Gb next w)(hM:Gb.length=M)(dK:M<=3)
  (c1 c2 c5 c7 c8 c9 c10 TO W0 St Rr RE RK SO Se Sf To Wg aE Wr ZD UP US ab ao fa dj dq eS fs gE ff fi fb gn iS mx qS qe nF o4 oE oR qk oS pe ph pr pt qv rl rm rn sd sh ta zd zp dh di dm ds dw dx dz dA dB dC dD dE dF dG bN bO bP bQ bR bS bT bU bV bW bX bZ c4 c6 ca cc cd ce cf cg ci cl cn co ke lE im ka lP mT mc me te tf ti tr tt tw u0 vf vj vm we wg wv yW a7 a8 yp a9 aa af ag ah ai aj ak am au av ay aA aB aC aD aG aH aI aJ aK aM aN aP aQ aR aT aU aV aW aX aY aZ b8 b9 ba bd be bf bg bh bi bl bm bp bq bu bw bz bC bD bE bG bH bI bJ bK:Value) (K:Act->World->Prop) (Q:Exit->Act->World->Prop) (cp:∀c (a:Act) (t t':Array Value) w,Q (.panic c) { a with tmps:=t } w->Q (.panic c) { a with tmps:=t' } w)
  (HK:Hid (∀(Xs:Value) (D:az) (w':World) (u41 u42 u43 u44 u45 u46 u47 u48 u49 u50 u51 u52 u53 u54 u55 u56 u57 u58 u59 u60 u61 u62 u63 u64 u65 u66 u67 u68 u69 u70 u71 u72 u73 u74 u75:Value),rH M D->vy bs bb id seq ext tags w0 tv Xs nv (Gb++[D]) next w'->K ⟨#[.pointer (some bs),c1,c2,.pointer (some bb),.int .i64 8,c5,.int .i64 (M:Int),c7,c8,c9,c10,TO,W0,St,Rr,RE,RK,SO,Se,Sf,To,Wg,aE,Wr,ZD,UP,US,ab,ao,fa,dj,dq,eS,fs,gE,ff,fi,fb,gn,iS,mx,u41,u42,u43,u44,u45,u46,u47,u48,u49,u50,u51,u52,u53,u54,u55,u56,u57,u58,u59,u60,u61,u62,u63,u64,u65,u66,u67,u68,u69,u70,u71,u72,u73,u74,u75,bN,bO,bP,bQ,bR,bS,bT,bU,bV,bW,bX,bZ,c4,c6,ca,cc,cd,ce,cf,cg,ci,cl,cn,co,ke,lE,im,ka,lP,mT,mc,me,te,tf,ti,tr,tt,tw,u0,vf,vj,vm,we,wg,wv,yW,a7,a8,yp,a9,aa,af,ag,ah,ai,aj,ak,am,au,av,ay,aA,aB,aC,aD,aG,aH,aI,aJ,aK,aM,aN,aP,aQ,aR,aT,aU,aV,aW,aX,aY,aZ,b8,b9,ba,bd,be,bf,bg,bh,bi,bl,bm,bp,bq,bu,bw,bz,bC,bD,bE,bG,bH,bI,bJ,bK],[]⟩ w')) :
  Code.wp prog (nA 8) (Exit.then K Q) ⟨#[.pointer (some bs),c1,c2,.pointer (some bb),.int .i64 8,c5,.int .i64 (M:Int),c7,c8,c9,c10,TO,W0,St,Rr,RE,RK,SO,Se,Sf,To,Wg,aE,Wr,ZD,UP,US,ab,ao,fa,dj,dq,eS,fs,gE,ff,fi,fb,gn,iS,mx,qS,qe,nF,o4,oE,oR,qk,oS,pe,ph,pr,pt,qv,rl,rm,rn,sd,sh,ta,zd,zp,dh,di,dm,ds,dw,dx,dz,dA,dB,dC,dD,dE,dF,dG,bN,bO,bP,bQ,bR,bS,bT,bU,bV,bW,bX,bZ,c4,c6,ca,cc,cd,ce,cf,cg,ci,cl,cn,co,ke,lE,im,ka,lP,mT,mc,me,te,tf,ti,tr,tt,tw,u0,vf,vj,vm,we,wg,wv,yW,a7,a8,yp,a9,aa,af,ag,ah,ai,aj,ak,am,au,av,ay,aA,aB,aC,aD,aG,aH,aI,aJ,aK,aM,aN,aP,aQ,aR,aT,aU,aV,aW,aX,aY,aZ,b8,b9,ba,bd,be,bf,bg,bh,bi,bl,bm,bp,bq,bu,bw,bz,bC,bD,bE,bG,bH,bI,bJ,bK],[]⟩ w:=by
 have hQ:∀c (a:Act) (d:Tmp) (v:Value) w,Q (.panic c) (a.put (some d) v) w->Q (.panic c) a w:=fun c a d v w h=>cp c a _ _ w h;conv=>arg 2;whnf
 have hlt:=D0.lt;have cX:=D0.Gj;have dH:IntKind.i64.wrap ((M:Int)+1)=(M:Int)+1:=dy _ Tc1;have dI:IntKind.u64.wrap ((M:Int)+1)=(M:Int)+1:=IntWalk.u64_in _ Tc1;obtain⟨dp,ir,Xt,hd1,hd2⟩:∃p c,dv=.slice p M c/\M<=c/\c<=9223372036854775807:=by
  obtain⟨p,c,e,h1,h2,_⟩:=D0.ownD.rd aO.moves Tc4 (ok':=fun _=>True) (fun _ _ _=>trivial) (fun _ _=>trivial);rw[hM]at e h1;exact⟨p,c,by injection e,h1,h2⟩
 subst Xt;have z1:(0:Int)<=(M:Int):=by omega
 have z2:(M:Int)<4:=by omega
 have bL:=cr D0.blk 7 _ rfl;refine aL (fun w'=>w'.cell? (Tac bb 7)=some (.slice dp M ir)) 31 [0,1,2,3,4,7,11,12,13,14,15,18,21,24,27] Tc3 bL (fun a5=>?_);refine gC hQ 0 ?_;refine gC hQ 1 ?_;refine gC hQ 2 ?_;refine gC hQ 3 ?_;refine gC hQ 4 ?_;refine gC hQ 7 ?_;refine gC hQ 11 ?_;refine gC hQ 12 ?_;refine gC hQ 13 ?_;refine gC hQ 14 ?_;refine gC hQ 15 ?_;refine gC hQ 18 ?_;refine gC hQ 21 ?_;refine gC hQ 24 ?_;refine gC hQ 27 ?_;refine cH hQ 5 a5 ?_;have D1:=D0.below ((bj _ _).drew);have mA:w.drew.1.size=w.1.size:=rfl;have Xu:w.drew.cell? (Tac bb 7)=some (.slice dp M ir):=bL;generalize dJ:w.drew=wd at *;clear dJ bL a5 dH dI D0;have pB:=D1.Gj;refine fE (idx:=[(6,47),(8,49),(9,50),(10,51),(16,57),(17,58),(19,60),(20,61),(22,63),(23,64),(25,66),(26,67),(28,69),(29,70),(30,71)]) (fun i=>[i])
  (fun i vs w'=>match i with
   |6=>∃b,vs 6=.slice (some ⟨b,0,none⟩) 4 4/\dS wd.1.size 9 [.string ⟨#[48]⟩,.string ⟨#[49]⟩,.string ⟨#[50]⟩,.string ⟨#[51]⟩] b w'
   |8=>∃b,vs 8=.pointer (some ⟨b,M,none⟩)/\dS wd.1.size 9 [.string ⟨#[48]⟩,.string ⟨#[49]⟩,.string ⟨#[50]⟩,.string ⟨#[51]⟩] b w'
   |9=>vs 9=.string (digit M)
   |10=>vs 10=.string (pvT++digit M)
   |16=>∃v:Int,0<=v/\v<=8/\vs 16=.int .i64 v
   |17=>∃v:Int,8<=v/\v<=16/\vs 17=.int .i64 v
   |19=>∃b,vs 19=.slice (some ⟨b,0,none⟩) 5 5/\dS wd.1.size 3 [.int .i64 0,.int .i64 4,.int .i64 12,.int .i64 30,.int .i64 60] b w'
   |20=>∃v:Int,v∈([0,4,12,30,60]:List Int)/\vs 20=.int .i64 v
   |22=>∃v:Int,vs 22=.int .i64 v
   |23=>∃c:Bool,vs 23=.bool c
   |25=>∃v:Int,vs 25=.int .i64 v
   |26=>∃c:Bool,vs 26=.bool c
   |28=>∃tp tc tl,vs 28=.slice tp (List.length tl) tc/\ck aF 1 (fun k=>wd.1.size<=k) w' [.slice tp tl.length tc] tl/\List.Sublist tl iQ
   |29=>∃D tp tc,rH M D/\vs 29=.agg (Tai D tp tc)/\ck aF 1 (fun k=>wd.1.size<=k) w' [.slice tp D.tags.length tc] D.tags
   |30=>∃D tp tc b,rH M D/\vs 30=.slice (some ⟨b,0,none⟩) 1 1/\dS wd.1.size 51 [.string D.name,.int .u64 D.id,.int .i64 D.first,.int .i64 D.Gc,.bool D.closed,.bool D.missing,.slice tp D.tags.length tc] b w'/\ck aF 1 (fun k=>wd.1.size<=k) w' [.slice tp D.tags.length tc] D.tags
   |_=>True)
  (fun _ w'=>Src w' bs/\cR (fun k=>k=bs) wd w') (fun _=>rS wd.1.size) Tc3 rfl ?cs ?st (fun c t t' w h=>cp c ⟨t,[]⟩ t t' w h) ?c0 ?ob ?fin
 case c0=>exact⟨D1.src,cR.refl _ _⟩
 case cs=>exact fun d w' hC=>(hC.2.cell (p:=⟨bb,7,none⟩) pB (by show ¬bb=bs;omega)).trans Xu
 case st =>
  intro p hp q _ _ vs us w1 w2 ha hF he;have C4:Mv (fun k=>wd.1.size<=k) (fun k=>wd.1.size<=k) w1 w2:=⟨he.1,fun b hb ho=>⟨ho,he.2 b ho hb⟩⟩;simp only[dr,cY,dg]at hp;rcases hp with rfl|rfl|rfl|rfl|rfl|rfl|rfl|rfl|rfl|rfl|rfl|rfl|rfl|rfl|rfl
  ·obtain⟨b,e,hb⟩:=hF;exact⟨b,(ha 6 (cG ..)).trans e,hb.ev he⟩
  ·obtain⟨b,e,hb⟩:=hF;exact⟨b,(ha 8 (cG ..)).trans e,hb.ev he⟩
  ·exact(ha 9 (cG ..)).trans hF
  ·exact(ha 10 (cG ..)).trans hF
  ·obtain⟨v,h1,h2,e⟩:=hF;exact⟨v,h1,h2,(ha 16 (cG ..)).trans e⟩
  ·obtain⟨v,h1,h2,e⟩:=hF;exact⟨v,h1,h2,(ha 17 (cG ..)).trans e⟩
  ·obtain⟨b,e,hb⟩:=hF;exact⟨b,(ha 19 (cG ..)).trans e,hb.ev he⟩
  ·obtain⟨v,h1,e⟩:=hF;exact⟨v,h1,(ha 20 (cG ..)).trans e⟩
  ·obtain⟨v,e⟩:=hF;exact⟨v,(ha 22 (cG ..)).trans e⟩
  ·obtain⟨v,e⟩:=hF;exact⟨v,(ha 23 (cG ..)).trans e⟩
  ·obtain⟨v,e⟩:=hF;exact⟨v,(ha 25 (cG ..)).trans e⟩
  ·obtain⟨v,e⟩:=hF;exact⟨v,(ha 26 (cG ..)).trans e⟩
  ·obtain⟨tp,tc,tl,e,h1,h2⟩:=hF;exact⟨tp,tc,tl,(ha 28 (cG ..)).trans e,(ck.moves aF.moves).mv C4 h1,h2⟩
  ·obtain⟨D,tp,tc,hd,e,h1⟩:=hF;exact⟨D,tp,tc,hd,(ha 29 (cG ..)).trans e,(ck.moves aF.moves).mv C4 h1⟩
  obtain⟨D,tp,tc,b,hd,e,hb,h1⟩:=hF;exact⟨D,tp,tc,b,hd,(ha 30 (cG ..)).trans e,hb.ev he,(ck.moves aF.moves).mv C4 h1⟩
 case ob =>
  refine kA.cons (deps:=[]) rfl rfl Tc3 (fun vs d w' h0 hC hF K1 hK1=>?_) ?_
  ·clear hF h0;simp only[over,cq,Act.put];go_simp;refine hK1.o (.slice (some w'.1.size) 4 4) _ ⟨hC.1.keep fun k hk=>cj _ _ _ TeM,hC.2.trans (G:=fun _=>False) (cR.of_below (ae _ _)) (fun _ f=>f.elim)⟩ (rS.alloc _ _ _) ⟨_,aw rfl,dS.new hC.2.size⟩ _ ?_;simp only[over,cq,aS]
  refine kA.cons (deps:=[(6,47)]) rfl rfl Tc3 (fun vs d w' h0 hC hF K1 hK1=>?_) ?_
  ·have f6:=(hF (6,47) Tc2).2;clear hF h0;simp only[over,cq,cF,aS]at f6 ⊢;obtain⟨b,e6,hb⟩:=f6;rw[e6];go_simp;refine hK1.o (.pointer (some (b,M))) _ hC (rS.refl _ _) (⟨b,aw rfl,hb⟩) _ ?_;simp only[over,cq,cF,aS,e6]
  refine kA.cons (deps:=[(8,49)]) rfl rfl Tc3 (fun vs d w' h0 hC hF K1 hK1=>?_) ?_
  ·have f8:=(hF (8,49) Tc2).2;clear hF h0;simp only[over,cq,cF,aS]at f8 ⊢;obtain⟨b,e8,hb⟩:=f8;rw[e8];have ct:w'.cell? (b,M)=some (.string (digit M)):=by
    simp only[AN,hb.2];rcases(show M=0\/M=1\/M=2\/M=3 by omega)with rfl|rfl|rfl|rfl<;>rfl
   go_simp;refine hK1.o (.string (digit M)) _ hC (rS.refl _ _) (aw rfl) _ ?_;simp only[over,cq,cF,aS,e8]
  refine kA.cons (deps:=[(9,50)]) rfl rfl Tc3 (fun vs d w' h0 hC hF K1 hK1=>?_) ?_
  ·have f9:=(hF (9,50) Tc2).2;clear hF h0;simp only[over,cq,cF,aS]at f9 ⊢;rw[f9];have QH:(digit M).size=1:=rfl;go_simp;refine hK1.o (.string (pvT++digit M)) _ hC (rS.refl _ _) (aw rfl) _ ?_;simp only[over,cq,cF,aS,f9,pvT]
  refine kA.cons (deps:=[]) rfl rfl Tc3 (fun vs d w' h0 hC hF K1 hK1=>?_) ?_
  ·clear hF h0;simp only[over,cq,Act.put];go_simp;refine(bY bs 9 w' Tc1 Tc1 hC.1).mono ?_;rintro e w3 ⟨v,rfl,hv1,hv2,hs,hm⟩;refine hK1.o (.int .i64 v) w3 ⟨hs,hC.2.trans hm fun _ h=>.inl h⟩ ⟨hm.size,fun k h1 h2=>hm.block k h2 Tel⟩ (⟨v,hv1,Tc1,aw rfl⟩) _ ?_;simp only[over,cq,aS]
  refine kA.cons (deps:=[(16,57)]) rfl rfl Tc3 (fun vs d w' h0 hC hF K1 hK1=>?_) ?_
  ·have cu:=(hF (16,57) Tc2).2;clear hF h0;simp only[over,cq,cF,aS]at cu ⊢;obtain⟨v,h1,h2,cv⟩:=cu;rw[cv];have dL:IntKind.i64.wrap (8+v)=8+v:=dy _ Tc1;go_simp;refine hK1.o (.int .i64 (8+v)) _ hC (rS.refl _ _) (⟨8+v,Tc1,Tc1,aw rfl⟩) _ ?_;simp only[over,cq,cF,aS,cv]
  refine kA.cons (deps:=[]) rfl rfl Tc3 (fun vs d w' h0 hC hF K1 hK1=>?_) ?_
  ·clear hF h0;simp only[over,cq,Act.put];go_simp;refine hK1.o (.slice (some w'.1.size) 5 5) _ ⟨hC.1.keep fun k hk=>cj _ _ _ TeM,hC.2.trans (G:=fun _=>False) (cR.of_below (ae _ _)) (fun _ f=>f.elim)⟩ (rS.alloc _ _ _) ⟨_,aw rfl,dS.new hC.2.size⟩ _ ?_;simp only[over,cq,aS]
  refine kA.cons (deps:=[(19,60)]) rfl rfl Tc3 (fun vs d w' h0 hC hF K1 hK1=>?_) ?_
  ·have cw:=(hF (19,60) Tc2).2;clear hF h0;simp only[over,cq,cF,aS]at cw ⊢;obtain⟨b,cx,hb⟩:=cw;rw[cx];go_simp;refine(jD bs b 5 [0,4,12,30,60] w' Tc2 Tc2 Tc2 Tc1 (aq hb.2) (by have:=hb.1;omega) (fun i v hv=>by simp only[AN,hb.2];match i,hv with|0,hv=>simpa using hv|1,hv=>simpa using hv|2,hv=>simpa using hv|3,hv=>simpa using hv|4,hv=>simpa using hv) hC.1).mono ?_;rintro e w3 ⟨v,rfl,hv,hs,hm⟩;refine hK1.o (.int .i64 v) w3 ⟨hs,hC.2.trans hm fun _ h=>.inl h⟩ ⟨hm.size,fun k h1 h2=>hm.block k h2 Tel⟩ ⟨v,hv,aw rfl⟩ _ ?_;simp only[over,cq,cF,aS,cx]
  refine kA.cons (deps:=[]) rfl rfl Tc3 (fun vs d w' h0 hC hF K1 hK1=>?_) ?_
  ·exact Tbh
  refine kA.cons (deps:=[(22,63)]) rfl rfl Tc3 (fun vs d w' h0 hC hF K1 hK1=>?_) ?_
  ·have cy:=(hF (22,63) Tc2).2;clear hF h0;simp only[over,cq,cF,aS]at cy ⊢;obtain⟨v,cz⟩:=cy;rw[cz];go_simp;refine hK1.o (.bool (v==0)) _ hC (rS.refl _ _) (⟨_,aw rfl⟩) _ ?_;simp only[over,cq,cF,aS,cz]
  refine kA.cons (deps:=[]) rfl rfl Tc3 (fun vs d w' h0 hC hF K1 hK1=>?_) ?_
  ·exact Tbh
  refine kA.cons (deps:=[(25,66)]) rfl rfl Tc3 (fun vs d w' h0 hC hF K1 hK1=>?_) ?_
  ·have cB:=(hF (25,66) Tc2).2;clear hF h0;simp only[over,cq,cF,aS]at cB ⊢;obtain⟨v,cC⟩:=cB;rw[cC];go_simp;refine hK1.o (.bool (v==0)) _ hC (rS.refl _ _) (⟨_,aw rfl⟩) _ ?_;simp only[over,cq,cF,aS,cC]
  refine kA.cons (deps:=[]) rfl rfl Tc3 (fun vs d w' h0 hC hF K1 hK1=>?_) ?_
  ·clear hF h0;simp only[over,cq,Act.put];go_simp;refine(qY bs w' hC.1).mono ?_;rintro e w3 ⟨v,tl,rfl,u9,kf,hs,hm⟩;have Xv:=kf;obtain⟨tp,tc,hv,_⟩:=Xv;obtain rfl:v=.slice tp tl.length tc:=by injection hv
   refine hK1.o (.slice tp tl.length tc) w3 ⟨hs,hC.2.trans hm fun _ h=>.inl h⟩ ⟨hm.size,fun k h1 h2=>hm.block k h2 Tel⟩ ⟨tp,tc,tl,aw rfl,(ck.moves aF.moves).mv ⟨bk _,fun k _ h=>⟨cA hC.2.size h,rfl⟩⟩ kf,u9⟩ _ ?_;simp only[over,cq,aS]
  refine kA.cons (deps:=[(10,51),(17,58),(20,61),(23,64),(26,67),(28,69)]) rfl rfl Tc3 (fun vs d w' h0 hC hF K1 hK1=>?_) ?_
  ·have bM:=(hF (10,51) Tc2).2;have cD:=(hF (17,58) Tc2).2;have cI:=(hF (20,61) Tc2).2;have cK:=(hF (23,64) Tc2).2;have cM:=(hF (26,67) Tc2).2;have cN:=(hF (28,69) Tc2).2;clear hF h0;simp only[over,cq,cF,aS]at bM cD cI cK cM cN ⊢;obtain⟨cO,p1,p2,cP⟩:=cD;obtain⟨cS,p3,cT⟩:=cI;obtain⟨cV,cW⟩:=cK;obtain⟨cZ,d0⟩:=cM;obtain⟨tp,tc,tl,d8,t1,t2⟩:=cN;rw[bM,cP,cT,cW,d0,d8];go_simp;refine hK1.o (.agg #[.string (pvT++digit M),.int .u64 ((M:Int)+1),.int .i64 cO,.int .i64 cS,.bool cV,.bool cZ,.slice tp tl.length tc]) _ hC (rS.refl _ _) ⟨⟨pvT++digit M,(M:Int)+1,cO,cS,cV,cZ,tl⟩,tp,tc,⟨rfl,rfl,⟨p1,p2⟩,p3,t2⟩,aw rfl,t1⟩ _ ?_;simp only[over,cq,cF,aS,bM,cP,cT,cW,d0,d8]
  refine kA.cons (deps:=[(29,70)]) rfl rfl Tc3 (fun vs d w' h0 hC hF K1 hK1=>?_) trivial;have d9:=(hF (29,70) Tc2).2;clear hF h0;simp only[over,cq,cF,aS]at d9 ⊢;obtain⟨D,tp,tc,hd,da,t1⟩:=d9;rw[da];go_simp;refine hK1.o (.slice (some w'.1.size) 1 1) _ ⟨hC.1.keep fun k hk=>cj _ _ _ TeM,hC.2.trans (G:=fun _=>False) (cR.of_below (ae _ _)) (fun _ f=>f.elim)⟩ (rS.alloc _ _ _) ⟨D,tp,tc,w'.1.size,hd,aw rfl,dS.new hC.2.size,(ck.moves aF.moves).mv ⟨Tc2,fun k hk h=>⟨h,cj _ _ _ hk⟩⟩ t1⟩ _ ?_;simp only[over,cq,cF,aS,da]
 case fin =>
  intro vs d w' hC hF;have db:=(hF (30,71) Tc2).2;clear hF;simp only[over,cq,cF,aS,cQ,cL]at db ⊢;obtain⟨D,tp,tc,b,hD,dc,hb,t1⟩:=db;rw[dc];generalize vs 6=z6;generalize vs 8=z8;generalize vs 9=z9;generalize vs 10=z10;generalize vs 16=z16;generalize vs 17=z17;generalize vs 19=z19;generalize vs 20=z20;generalize vs 22=z22;generalize vs 23=z23;generalize vs 25=z25;generalize vs 26=z26;generalize vs 28=z28;generalize vs 29=z29;clear dc;have D2:=D1.read hC.1 hC.2;have hb2:=D2.Gj;have RC:=hC.2.size;have RV:aO (fun b=>okD bb (.slice dp M ir) nv b/\b<w'.1.size) w' [.string D.name,.int .u64 D.id,.int .i64 D.first,.int .i64 D.Gc,.bool D.closed,.bool D.missing,.slice tp D.tags.length tc] D:=⟨_,rfl,(ck.moves aF.moves).mv ⟨bk _,fun k hk h=>⟨⟨D1.okNew h,hk⟩,rfl⟩⟩ t1⟩
  have HO:bF aO 7 51 (bb+1) (fun b=>okD bb (.slice dp M ir) nv b/\b<w'.1.size) w' (.slice dp M ir) Gb:=by
   obtain⟨cs,ho,hf⟩:=D2.ownD;exact⟨cs,ho,Flat.moves aO.moves ⟨bk _,fun k hk h=>⟨⟨h,hk⟩,rfl⟩⟩ _ _ hf⟩
  obtain⟨i0,hi,du,On,dd⟩:=gg Dp;refine dX aO.moves underlying27 hi du On dd rfl Tc4 Tc4 rfl _ _ Tc7 (bb+1) (fun b=>okD bb (.slice dp M ir) nv b/\b<w'.1.size) (.slice dp M ir) Gb D Tc7 HO b 1 [.string D.name,.int .u64 D.id,.int .i64 D.first,.int .i64 D.Gc,.bool D.closed,.bool D.missing,.slice tp D.tags.length tc] Tc7 Tc7 RV Tdc (fun j y hy=>?_) Tc1 Tc1 (fun k e ho=>ho.1.2.1 e) (fun gb cap w3 hp=>?_)
  ·exact TcF
  obtain⟨D3,hx⟩:=D2.pushD hp;have y7:w3.cell? (Tac bb 7)=some (.slice dp M ir):=by simp[AN,hx,D2.blk]
  have yf:w3.frozen? (Tac bb 7)=false:=by simp[BT,hx,D2.blk]
  clear hp hx RV HO hi du On dd t1 hb Xu;simp only[aS];simp only[hM]at D3;go_wp2;exact HK.o _ D _ _ _ _ _ _ _ _ _ _ _ _ _ _ _ _ _ _ _ _ _ _ _ _ _ _ _ _ _ _ _ _ _ _ _ _ hD D3
theorem yj{ext:Int}{next:List Int}(D0:vy bs bb id seq ext tags w0 tv dv nv Gb next w)(hn:next.length<=100)
  {c0 c1 c2 c4 c5 c6 c7 c8 c9 c10 TO W0 St Rr RE RK SO Se Sf To Wg aE Wr ZD UP US ab ao fa dj dq eS fs gE ff fi fb gn iS mx qS qe nF o4 oE oR qk oS pe ph pr pt qv rl rm rn sd sh ta zd zp bC bD bE bF bG bH bI bJ bK bL bM bN bO bP cg ci cj ck cl cn co cp cq bQ bR bS bT bU bV bW bX bY bZ ca cc cd ce cf ke lE im ka lP mT mc me te tf ti tr tt tw u0 vf vj vm we wg wv yW a5 a7 yp a8 a9 af ag ah ai aj ak am aq au av aw ay az aA aB aC aF aG aH aI aJ aK aL aM aN aO aP aQ aR aS aT aU aV aW aX aY aZ b8 b9 ba bd be bf bg bh bi bj bk bl bm bp bq bu bw bz:Value} (Q:Exit->Act->World->Prop)
  (HK:Hid (∀(nv':Value) (w':World) (u76 u77 u78 u79 u80 u81 u82 u83 u84:Value),vy bs bb id seq ext tags w0 tv dv nv' Gb (next++[0]) w'->Q .normal ⟨#[c0,c1,c2,.pointer (some bb),c4,c5,c6,c7,c8,c9,c10,TO,W0,St,Rr,RE,RK,SO,Se,Sf,To,Wg,aE,Wr,ZD,UP,US,ab,ao,fa,dj,dq,eS,fs,gE,ff,fi,fb,gn,iS,mx,qS,qe,nF,o4,oE,oR,qk,oS,pe,ph,pr,pt,qv,rl,rm,rn,sd,sh,ta,zd,zp,bC,bD,bE,bF,bG,bH,bI,bJ,bK,bL,bM,bN,bO,bP,u76,u77,u78,u79,u80,u81,u82,u83,u84,bQ,bR,bS,bT,bU,bV,bW,bX,bY,bZ,ca,cc,cd,ce,cf,ke,lE,im,ka,lP,mT,mc,me,te,tf,ti,tr,tt,tw,u0,vf,vj,vm,we,wg,wv,yW,a5,a7,yp,a8,a9,af,ag,ah,ai,aj,ak,am,aq,au,av,aw,ay,az,aA,aB,aC,aF,aG,aH,aI,aJ,aK,aL,aM,aN,aO,aP,aQ,aR,aS,aT,aU,aV,aW,aX,aY,aZ,b8,b9,ba,bd,be,bf,bg,bh,bi,bj,bk,bl,bm,bp,bq,bu,bw,bz],[]⟩ w')) :
  Code.wp prog (nA 9) Q ⟨#[c0,c1,c2,.pointer (some bb),c4,c5,c6,c7,c8,c9,c10,TO,W0,St,Rr,RE,RK,SO,Se,Sf,To,Wg,aE,Wr,ZD,UP,US,ab,ao,fa,dj,dq,eS,fs,gE,ff,fi,fb,gn,iS,mx,qS,qe,nF,o4,oE,oR,qk,oS,pe,ph,pr,pt,qv,rl,rm,rn,sd,sh,ta,zd,zp,bC,bD,bE,bF,bG,bH,bI,bJ,bK,bL,bM,bN,bO,bP,cg,ci,cj,ck,cl,cn,co,cp,cq,bQ,bR,bS,bT,bU,bV,bW,bX,bY,bZ,ca,cc,cd,ce,cf,ke,lE,im,ka,lP,mT,mc,me,te,tf,ti,tr,tt,tw,u0,vf,vj,vm,we,wg,wv,yW,a5,a7,yp,a8,a9,af,ag,ah,ai,aj,ak,am,aq,au,av,aw,ay,az,aA,aB,aC,aF,aG,aH,aI,aJ,aK,aL,aM,aN,aO,aP,aQ,aR,aS,aT,aU,aV,aW,aX,aY,aZ,b8,b9,ba,bd,be,bf,bg,bh,bi,bj,bk,bl,bm,bp,bq,bu,bw,bz],[]⟩ w:=by
 conv=>arg 2;whnf
 have hlt:=D0.lt;have cX:=D0.Gj;have hc:=cr D0.blk 10 _ rfl;have D1:=D0.below (ae w (.cells #[.int .i64 0] 3));have OS:bb<(w.alloc (.cells #[.int .i64 0] 3)).1.size:=D1.Gj;obtain⟨i0,hi,du,On,RC⟩:=gg tZ;replace hi:=aa hi;replace du:=aa du;replace On:=aa On;replace RC:=aa RC;replace D1:=aa D1;go_wp2_with(at_builtin;refine dX cO.moves underlying22 hi.o du.o On.o RC.o rfl Tc4 Tc4 rfl _ _ rfl (bb+1) (fun _=>False) nv next 0 rfl ?d1 w.1.size 1 [.int .i64 0] rfl rfl ?d2 ?d3 ?d4 ?d5 ?d6 ?d7 ?_)
 case d1=>exact D1.o.ownN.ownS _
 case d2=>exact rfl
 case d3=>simp[GS]
 all_goals first|(case d4=>(intro j y hy;exact aD rfl Tdl))|(case d5=>omega)|(case d6=>omega)|(case d7=>exact fun _ _ f=>f)|skip
 intro gb cap w3 hp;obtain⟨D3,hx⟩:=D1.o.pushN hp;have y7:w3.cell? (Tac bb 10)=some nv:=by simp[AN,hx,D1.o.blk]
 have yf:w3.frozen? (Tac bb 10)=false:=by simp[BT,hx,D1.o.blk]
 clear hp hx hc;go_wp2;exact HK.o _ _ _ _ _ _ _ _ _ _ _ D3
def Tds{p:Prop}(h:p:=by cases e):p:=h
theorem vy.bld{ext:Int}{next:List Int}(h:vy bs bb id seq ext tags w0 tv dv nv Gb next w) :
  eW (fun _=>False) w bs bb nv (.slice none 0 0) ⟨vgT,id,seq,ext,0,tags,Gb,[],[]⟩ next:=by
 have gw:∀b,okD bb dv nv b->okB (fun _=>False) bb nv (.slice none 0 0) b:=fun b q=>⟨q.1,q.2.2,fun e=>Tds,fun f=>f⟩
 refine⟨h.src,h.lt,⟨tv,dv,.slice none 0 0,h.blk,(ck.moves aF.moves).mv ⟨bk _,fun b _ q=>⟨gw b q,rfl⟩⟩ h.rt,h.ownD.rd aO.moves Tc4 (fun b _ q=>gw b q) (fun b e=>⟨(h.dLt e).1,h.ne b e,fun e=>Tds,fun f=>f⟩),rfl,rfl⟩,h.ownN,⟨[],gS _ _ _ 6,rfl⟩,fun k _ e=>Tds,fun _ f=>f.elim,fun _ _ f=>f,fun _ _ f=>f⟩
def Flat.last{α:Type}{V:jx α}{sz:Nat}{ok:Nat->Prop}{x:α}:∀(l:List α) (cs:List Value),Flat V sz ok w cs (l++[x])->∃c u,cs=c++u/\Flat V sz ok w c l/\u.length=sz/\V ok w u x
 |[],_,⟨u,r,e,h1,h2,_,h4⟩=>⟨[],u,by simp only[Flat]at h4;rw[e,h4];simp,rfl,h1,h2⟩
 |y :: l,_,⟨u,r,e,h1,h2,h3,h4⟩=>by
  obtain⟨c,u',e',k1,k2,k3⟩:=Flat.last l r h4;exact⟨u++c,u',by rw[e,e',cV],⟨u,c,rfl,h1,h2,h3,k1⟩,k2,k3⟩
def F5(c:List Value)(a0 a1 a2 a3 a4 a5 b0 b1 b2 b3 b4 b5:Value)(n:Nat)(hn:c.length=n) :
  ((((((c++[a0,a1,a2,a3,a4,a5]).set n b0).set (n+1) b1).set (n+2) b2).set (n+3) b3).set (n+4) b4).set (n+5) b5=c++[b0,b1,b2,b3,b4,b5]:=by
 subst hn;simp[List.set_append_right]
def fO(w:World)(b o:Nat)(b0 b1 b2 b3 b4 b5:Value):World:=(((((w.setCell (b,o) b0).setCell (b,o+1) b1).setCell (b,o+2) b2).setCell (b,o+3) b3).setCell (b,o+4) b4).setCell (b,o+5) b5
def IV(w:World)(b o:Nat)(b0 b1 b2 b3 b4 b5:Value)(k:Nat)(h:k≠b):(fO w b o b0 b1 b2 b3 b4 b5).1[k]?=w.1[k]?:=by
 unfold fO;rw[bw _ _ _ _ h,bw _ _ _ _ h,bw _ _ _ _ h,bw _ _ _ _ h,bw _ _ _ _ h,bw _ _ _ _ h]
def sD(w:World)(b o:Nat)(b0 b1 b2 b3 b4 b5:Value):(fO w b o b0 b1 b2 b3 b4 b5).1.size=w.1.size:=by simp[fO,AF]
def TeJ{p:Prop}(h:p:=by simp[fO,World.setCell]):p:=h
def aH.setLast{X:Nat->Prop}{rK rN:Value}{next:List Int}{vs:List ay}{v V:ay}{vb vc:Nat}{b0 b1 b2 b3 b4 b5:Value}
  (p:aH X bs bb rK rN w0 w nv (.slice (some vb) (vs.length+1) vc) g next) (hg:g.F9=vs++[v]) (hV:aN (okB X bb nv (.slice (some vb) (vs.length+1) vc)) w [b0,b1,b2,b3,b4,b5] V) (h1:∀z∈[b0,b1,b2,b3,b4,b5],z.oneCell'=true) :
  aH X bs bb rK rN w0 (fO w vb (vs.length*6) b0 b1 b2 b3 b4 b5) nv (.slice (some vb) (vs.length+1) vc) { g with F9:=vs++[V] } next:=by
 have h:=p.bld;have XV:=h.vLt (k:=vb) rfl;have hl:=h.lt;have kk:=fun k e=>IV w vb (vs.length*6) b0 b1 b2 b3 b4 b5 k e;have hz:=sD w vb (vs.length*6) b0 b1 b2 b3 b4 b5;have hm:Mv (okB X bb nv (.slice (some vb) (vs.length+1) vc)) (okB X bb nv (.slice (some vb) (vs.length+1) vc)) w (fO w vb (vs.length*6) b0 b1 b2 b3 b4 b5):=⟨Tc1,fun b _ ho=>⟨ho,kk b (fun e=>ho.2.2.1 (by rw[e];rfl))⟩⟩
 refine⟨⟨h.src.keep fun i hi=>kk i Tc1,hl,?_,aC h.ownN fun k e=>kk k (fun q=>h.ne k e (by rw[q];rfl)),?_,h.ne,fun k hx=>⟨(h.xlt k hx).1,by rw[hz];exact(h.xlt k hx).2⟩,h.xn,h.xv⟩,?_,p.nfr,p.vfr⟩
 ·obtain⟨tv,dv,hv,e,h1,h2,h3⟩:=h.blk;exact⟨tv,dv,hv,(kk bb Tc1).trans e,(ck.moves aF.moves).mv hm h1,(ck.moves aO.moves).mv hm h2,h3⟩
 ·obtain⟨cs,ho,hf⟩:=h.ownV;rw[hg]at ho hf;obtain⟨c,u,rfl,hc,hu,_⟩:=Flat.last vs cs hf;have a8:=Flat.length _ _ hc;obtain⟨a0,a1,a2,a3,a4,a5,rfl⟩:∃a0 a1 a2 a3 a4 a5,u=[a0,a1,a2,a3,a4,a5]:=by
   match u,hu with
   |[a,b,c,d,e,f],_=>exact⟨a,b,c,d,e,f,rfl⟩
  have hle:(vs++[v]).length=vs.length+1:=by simp
  have a7:(vs++[V]).length=vs.length+1:=by simp
  rw[hle]at ho;have s:=(((((((ho.stored (vs.length*6) b0).1.stored (vs.length*6+1) b1).1.stored (vs.length*6+2) b2).1.stored (vs.length*6+3) b3).1.stored (vs.length*6+4) b4).1.stored (vs.length*6+5) b5)).1;rw[F5 c _ _ _ _ _ _ _ _ _ _ _ _ _ a8]at s;refine⟨c++[b0,b1,b2,b3,b4,b5],by rw[a7];unfold fO;exact s,Flat.append (Flat.one rfl (aN.moves.mv hm hV) h1) _ _ (Flat.moves aN.moves hm _ _ hc)⟩
 refine p.mod.trans (G:=fun k=>k=vb) ⟨TeJ,TeJ,TeJ,Tc1,fun k _ e=>kk k e⟩ (fun k e=>?_);subst e;rcases p.vfr k rfl with q|q
 ·exact .inl (.inr (.inr (.inr q)))
 exact .inr q
def okH(bb:Nat)(hv:Value):Nat->Prop:=fun b=>bb<b/\hv.ownBlock≠some b
structure HSt(bs bb:Nat)(w0:World)(g:af)(tv dv vv nv hv:Value)(hist:List (ByteArray × Int × Int))(w:World):Prop where
 lt:bs<bb
 src:Src w bs
 blk:w.heap[bb]?=some (.cells (TaL (some ⟨bs,0,none⟩) g tv dv vv hv nv) 60 (0,0))
 rt:ck aF 1 (okH bb hv) w [tv] g.tags
 rd:ck aO 7 (okH bb hv) w [dv] g.Gb
 rv:ck aN 6 (okH bb hv) w [vv] g.F9
 own:bF lF 3 73 (bb+1) (okH bb hv) w hv hist
 old:∀k,k<bb->k≠bs->w.heap[k]?=w0.heap[k]?
 str:Str w0 w
def eW.hst{vv:Value}{next:List Int}(h:eW (fun _=>False) w bs bb nv vv g next)(old:∀k,k<bb->k≠bs->w.1[k]?=w0.1[k]?)(str:Str w0 w):∃tv dv,HSt bs bb w0 g tv dv vv nv (.slice none 0 0) [] w:=by
 obtain⟨tv,dv,hv,e,h1,h2,rfl,_⟩:=h.blk;have hm:Mv (okB (fun _=>False) bb nv vv) (okH bb (.slice none 0 0)) w w:=⟨bk _,fun b _ q=>⟨⟨q.1,fun e=>Tds⟩,rfl⟩⟩
 exact⟨tv,dv,h.lt,h.src,e,(ck.moves aF.moves).mv hm h1,(ck.moves aO.moves).mv hm h2,h.ownV.rd aN.moves Tc4 (fun b _ q=>⟨q.1,fun e=>Tds⟩) (fun b e=>⟨(h.vLt e).1,fun e=>Tds⟩),⟨[],gS _ _ _ 3,rfl⟩,old,str⟩
section
variable {bs bb:Nat}{w0 w w' w2:World}{g:af}{tv dv vv nv hv:Value}{hist:List (ByteArray × Int × Int)}
def HSt.Gj(h:HSt bs bb w0 g tv dv vv nv hv hist w):bb<w.1.size:=aq h.blk
def HSt.hLt(h:HSt bs bb w0 g tv dv vv nv hv hist w){k:Nat}(e:hv.ownBlock=some k):bb<k/\k<w.1.size:=by
 have:=h.own.ge0 e;omega
def HSt.keep(h:HSt bs bb w0 g tv dv vv nv hv hist w)(hst:Str w w')(hs:Src w' bs)(hz:w.1.size<=w'.1.size)(hk:∀k,k<w.1.size->k≠bs->w'.1[k]?=w.1[k]?):HSt bs bb w0 g tv dv vv nv hv hist w':=by
 have hl:=h.lt;have hb:=h.Gj;have hm:Mv (okH bb hv) (okH bb hv) w w':=⟨hz,fun b hb ho=>⟨ho,hk b hb TdB⟩⟩;refine⟨hl,hs,(hk bb hb Tc1).trans h.blk,(ck.moves aF.moves).mv hm h.rt,(ck.moves aO.moves).mv hm h.rd,(ck.moves aN.moves).mv hm h.rv,?_,fun k h1 h2=>(hk k Tc1 h2).trans (h.old k h1 h2),h.str.trans hst⟩;have mb:=fun k e=>h.hLt (k:=k) e;obtain⟨cs,ho,hf⟩:=h.own;exact⟨cs,aC ho fun k e=>hk k (mb k e).2 TeL,Flat.moves lF.moves hm _ _ hf⟩
def HSt.read(h:HSt bs bb w0 g tv dv vv nv hv hist w)(hs:Src w' bs)(hm:cR (fun i=>i=bs) w w'):HSt bs bb w0 g tv dv vv nv hv hist w':=h.keep hm.str hs hm.size fun k hk hn=>hm.block k hk hn
def HSt.below(h:HSt bs bb w0 g tv dv vv nv hv hist w)(hb:Below w.1.size w w'):HSt bs bb w0 g tv dv vv nv hv hist w' :=
 h.keep (ow hb) (h.src.keep fun i hi=>hb.block i TeF) hb.size fun k hk _=>hb.block k hk
def HSt.push{x:ByteArray × Int × Int}{u:List Value}{gb cap:Nat}(h:HSt bs bb w0 g tv dv vv nv hv hist w)
  (hp:jN lF 3 73 (bb+1) (fun _=>False) w hv hist x u gb cap w2) :
  HSt bs bb w0 g tv dv vv nv (.slice (some gb) (hist.length+1) cap) (hist++[x]) (w2.setCell (Tac bb 9) (.slice (some gb) (hist.length+1) cap))/\w2.1[bb]?=w.1[bb]?:=by
 have hl:=h.lt;have hb:=h.Gj;have hz:=hp.grown.size;have kw:∀k,k<w.1.size->hv.ownBlock≠some k->w2.1[k]?=w.1[k]?:=fun k h1 h2=>hp.grown.block k h1 fun e=>h2 e.symm;have pC:w2.1[bb]?=w.1[bb]?:=kw bb hb fun e=>by have:=h.hLt e;omega
 have kk:∀k,k≠bb->(w2.setCell (Tac bb 9) (.slice (some gb) (hist.length+1) cap)).1[k]?=w2.1[k]?:=fun k e=>bw _ _ _ _ e;have a5:(w2.setCell (Tac bb 9) (.slice (some gb) (hist.length+1) cap)).1.size=w2.1.size:=by simp[AF]
 have OH:∀b,okH bb hv b->b<w.1.size->b≠gb:=fun b h1 h2 e=>by
  subst e;rcases hp.at' with q|q
  ·exact h1.2 q
  omega
 have old:∀k,k<bb->(w2.setCell (Tac bb 9) (.slice (some gb) (hist.length+1) cap)).1[k]?=w.1[k]?:=fun k hk=>(kk k Tc1).trans (kw k Tc1 fun e=>by have:=h.hLt e;omega);have hm:Mv (okH bb hv) (okH bb (.slice (some gb) (hist.length+1) cap)) w (w2.setCell (Tac bb 9) (.slice (some gb) (hist.length+1) cap)):=⟨Tc1,fun b h1 h2=>⟨⟨h2.1,fun e=>OH b h2 h1 TeC⟩,(kk b (by have:=h2.1;omega)).trans (kw b h1 h2.2)⟩⟩
 refine⟨⟨hl,h.src.keep fun i hi=>old i Tc1,?_,(ck.moves aF.moves).mv hm h.rt,(ck.moves aO.moves).mv hm h.rd,(ck.moves aN.moves).mv hm h.rv,?_,fun k h1 h2=>(old k h1).trans (h.old k h1 h2),(h.str.trans (nQ hp.grown)).trans ⟨rfl,rfl,rfl⟩⟩,pC⟩
 ·exact block_setCell (i:=9) _ (pC.trans h.blk)
 obtain⟨cs,ho,hf⟩:=hp.own;exact⟨cs,aC ho fun k e=>kk k TeG,Flat.moves lF.moves ⟨Tc1,fun b _ f=>f.elim⟩ _ _ hf⟩
end
variable {c i k bs bb b:Nat}{g0 g g':af}{n0 next':List Int}{name:ByteArray}{w:World}{nv:Value}
def letter(i:Nat):ByteArray:=⟨#[(97+i).toUInt8]⟩
inductive iy (name:ByteArray)(g:af)(next:List Int):af->List Int->Prop
 |linF:iy name g next { g with next:=g.next+1 } next
 |lin {n s:Int} {on:ByteArray} {next1 next':List Int} {Gf:List aB} {ps:List (ByteArray × Int × Int)} (hn:1<=n/\n<=4) (h1:fZ g.Gb next [(on,s,n)] next1) (hm:fB [dE n on s] Gf) (hl:Gf.length<=3) (h2:fZ g.Gb next1 ps next') (hs:List.Sublist ((Gf.drop 1).flatMap iG) ps) :
   iy name g next { g with next:=g.next+1,F9:=g.F9++[⟨name,oX g.id (g.next+1),false,false,[],Gf⟩] } next'
 |strF {ps:List (ByteArray × Int × Int)} {next':List Int} (h:fZ g.Gb next ps next'):iy name g next g next'
 |str {k n:Int} {al:List aR} {next':List Int} (hk:2<=k/\k<=3) (hn:1<=n/\n<=2) (hl:(al.length:Int)=k) (ha:∀a∈al,a.vol=false) (h:fZ g.Gb next (UO n al) next') :
   iy name g next { g with next:=g.next+1,F9:=g.F9++[rA name (oX g.id (g.next+1)) k n al] } next'
 |compF {j:Nat} (h:j<=8):iy name g next { g with next:=g.next+j } next
 |comp {kind n:Int} {names:List ByteArray} {lengths:List Int} {x:aB} {ps:List (ByteArray × Int × Int)} {vl tl:List ay} {ro:Bool} {tags:List ByteArray} {k j:Nat} {next':List Int} (AK:kind=3\/kind=4\/kind=5\/kind=7) (hn:1<=n/\n<=3) (hR:iU g.Gd n name kind names lengths x)
   (hH:lD g.id g.next names lengths ps vl) (hT:fZ g.Gb next ps next') (ht:List.Sublist tags iQ) (hk:k<=2) (hk5:kind≠5->k=j/\k=0) (hth:iO g.id name k (g.next+names.length+1+1) j tl) :
   iy name g next { g with next:=g.next+names.length+1+tl.length,F9:=g.F9++vl++[⟨name,oX g.id (g.next+names.length+1),false,ro,tags,[x]⟩]++tl } next'
inductive bZ (c:Nat)(g0:af)(n0:List Int):Nat->af->List Int->Prop
 |nil:bZ c g0 n0 c g0 n0
 |step {i:Nat} {g g':af} {next next':List Int} (h:bZ c g0 n0 (i+1) g next) (hs:iy (letter (i+1)) g next g' next'):bZ c g0 n0 i g' next'
def bZ.next{next:List Int}(hi:0<i)(h:bZ c g0 n0 i g next)(hs:iy (letter i) g next g' next'):bZ c g0 n0 (i-1) g' next':=by
 obtain⟨j,rfl⟩:∃j,i=j+1:=⟨i-1,Tc1⟩;exact .step h hs
theorem iO.len{id:Int}{c:Int}{j:Nat}{tl:List ay}(h:iO id name k c j tl):tl.length+j=k:=by
 induction h with
 |nil=>simp
 |snoc _ _ ih=>simp;omega
structure Fh(g:af)(next:List Int)(g':af)(next':List Int):Prop where
 same:g'.name=g.name/\g'.id=g.id/\g'.seq=g.seq/\g'.Gd=g.Gd/\g'.tags=g.tags/\g'.Gb=g.Gb/\g'.history=g.history
 F9:g'.F9.length<=g.F9.length+11
 nx1:g.next<=g'.next
 nx2:g'.next<=g.next+11
 dk:DOk g.Gb next->DOk g.Gb next'
def Tc8{p:Prop}(h:p:=by dsimp only;omega):p:=h
def iy.bd{next:List Int}(h:iy name g next g' next')(he:1<=g.Gd/\g.Gd<=16):Fh g next g' next':=by
 cases h with
 |linF=>exact⟨⟨rfl,rfl,rfl,rfl,rfl,rfl,rfl⟩,Tc2,Tc8,Tc8,fun q=>q⟩
 |lin hn h1 hm hl h2 hs=>exact⟨⟨rfl,rfl,rfl,rfl,rfl,rfl,rfl⟩,Tc2,Tc8,Tc8,fun q=>h2.ok (h1.ok q)⟩
 |strF h=>exact⟨⟨rfl,rfl,rfl,rfl,rfl,rfl,rfl⟩,Tc1,Tc1,Tc1,fun q=>h.ok q⟩
 |str hk hn hl ha h=>exact⟨⟨rfl,rfl,rfl,rfl,rfl,rfl,rfl⟩,Tc2,Tc8,Tc8,fun q=>h.ok q⟩
 |compF h=>exact⟨⟨rfl,rfl,rfl,rfl,rfl,rfl,rfl⟩,Tc2,Tc8,Tc8,fun q=>q⟩
 |comp AK hn hR hH hT ht hk hk5 hth =>
  have h1:=hR.ok he.1 he.2 hn.1 hn.2;have h2:=hH.len;have h3:=hth.len;exact⟨⟨rfl,rfl,rfl,rfl,rfl,rfl,rfl⟩,Tc6,Tc8,Tc8,fun q=>hT.ok q⟩
structure Zy(c i:Nat)(g0:af)(g:af)(next:List Int):Prop where
 same:g.name=g0.name/\g.id=g0.id/\g.seq=g0.seq/\g.Gd=g0.Gd/\g.tags=g0.tags/\g.Gb=g0.Gb/\g.history=g0.history
 le:i<=c
 F9:g.F9.length<=11*(c-i)
 nx1:0<=g.next
 nx2:g.next<=11*((c:Int)-i)
 dk:DOk g0.Gb next
def bZ.bd(h0:g0.F9=[]/\g0.next=0)(he:1<=g0.Gd/\g0.Gd<=16)(hd:DOk g0.Gb n0){next:List Int}(h:bZ c g0 n0 i g next):Zy c i g0 g next:=by
 induction h with
 |nil=>exact⟨⟨rfl,rfl,rfl,rfl,rfl,rfl,rfl⟩,bk _,by simp[h0.1],Tc1,Tc1,hd⟩
 |@step i g g' next next' h hs ih =>
  obtain⟨e1,e2,e3,e4,e5,e6,e7⟩:=ih.same;have b:=hs.bd (by rw[e4];exact he);obtain⟨q1,q2,q3,q4,q5,q6,q7⟩:=b.same;have h1:=ih.le;have h2:=ih.F9;have h3:=ih.nx1;have h4:=ih.nx2;have h5:=b.F9;have h6:=b.nx1;have h7:=b.nx2;exact⟨⟨q1.trans e1,q2.trans e2,q3.trans e3,q4.trans e4,q5.trans e5,q6.trans e6,q7.trans e7⟩,Tc1,Tc1,Tc1,Tc1,e6 ▸ b.dk (e6.symm ▸ ih.dk)⟩
def tY{ok ok':Nat->Prop}:∀(l:List (ByteArray × Int × Int)) (cs:List Value),Flat lF 3 ok w cs l->Flat lF 3 ok' w cs l
 |[],_,h=>h
 |_ :: l,_,⟨u,r,e,h1,h2,h3,h4⟩=>⟨u,r,e,h1,h2,h3,tY l r h4⟩
def Ef:(prog.info? 73).map (fun i=>(i.zero,i.size,i.bytes))=some (some (.agg #[.string ⟨#[]⟩,.int .u64 0,.int .i64 0]),3,32):=by kernel_rfl
def wG{w0:World}{tv dv vv hv:Value}{hist:List (ByteArray × Int × Int)}(D0:HSt bs bb w0 g tv dv vv nv hv hist w)(hn:hist.length<=100)(hi2:i<=2)
  {c0 c1 c2 c4 c5 c6 c7 c8 c9 c10 W0 St Rr RE RK SO Se Sf To Wg aE Wr ZD UP US ab ao fa dj dq eS fs gE ff fi fb gn iS mx qS qe nF o4 oE oR qk oS pe ph pr pt qv rl rm rn sd sh ta zd zp bC bD bE bF bG bH bI bJ bK bL bM bN bO bP bQ bR bS bT bU bV bW bX bY bZ ca cc cd ce cf cg ci cj ck cl cn co cp cq ke lE im ka lP mT mc me te tf ti tr tt tw u0 vf vj vm we wg wv yW a5 a7 yp a8 a9 af ag ah ai aj ak am aq au av aw ay az aA aB aC aF aG aH aI aJ aK aL aM aN aO aP aQ aR aS aT aU aV aW aX aY bd be bf bg bh bi bj bk bl bm bp bq bu bw bz aZ b8 b9 ba:Value} (Q:Exit->Act->World->Prop)
  (HK:Hid (∀(ct:Value) (w':World) (u163 u164 u165 u166 u167 u168 u169 u170 u171 u172 u173 u174 u175 u176 u177:Value),HSt bs bb w0 g tv dv vv nv ct (hist++[(BQ,(i:Int),(i:Int))]) w'->Q .normal ⟨#[c0,c1,c2,.pointer (some bb),c4,c5,c6,c7,c8,c9,c10,.int .i64 (i:Int),W0,St,Rr,RE,RK,SO,Se,Sf,To,Wg,aE,Wr,ZD,UP,US,ab,ao,fa,dj,dq,eS,fs,gE,ff,fi,fb,gn,iS,mx,qS,qe,nF,o4,oE,oR,qk,oS,pe,ph,pr,pt,qv,rl,rm,rn,sd,sh,ta,zd,zp,bC,bD,bE,bF,bG,bH,bI,bJ,bK,bL,bM,bN,bO,bP,bQ,bR,bS,bT,bU,bV,bW,bX,bY,bZ,ca,cc,cd,ce,cf,cg,ci,cj,ck,cl,cn,co,cp,cq,ke,lE,im,ka,lP,mT,mc,me,te,tf,ti,tr,tt,tw,u0,vf,vj,vm,we,wg,wv,yW,a5,a7,yp,a8,a9,af,ag,ah,ai,aj,ak,am,aq,au,av,aw,ay,az,aA,aB,aC,aF,aG,aH,aI,aJ,aK,aL,aM,aN,aO,aP,aQ,aR,aS,aT,aU,aV,aW,aX,aY,u163,u164,u165,u166,u167,u168,u169,u170,u171,u172,u173,u174,u175,u176,u177,aZ,b8,b9,ba],[]⟩ w')) :
  Code.wp prog (nA 25) Q ⟨#[c0,c1,c2,.pointer (some bb),c4,c5,c6,c7,c8,c9,c10,.int .i64 (i:Int),W0,St,Rr,RE,RK,SO,Se,Sf,To,Wg,aE,Wr,ZD,UP,US,ab,ao,fa,dj,dq,eS,fs,gE,ff,fi,fb,gn,iS,mx,qS,qe,nF,o4,oE,oR,qk,oS,pe,ph,pr,pt,qv,rl,rm,rn,sd,sh,ta,zd,zp,bC,bD,bE,bF,bG,bH,bI,bJ,bK,bL,bM,bN,bO,bP,bQ,bR,bS,bT,bU,bV,bW,bX,bY,bZ,ca,cc,cd,ce,cf,cg,ci,cj,ck,cl,cn,co,cp,cq,ke,lE,im,ka,lP,mT,mc,me,te,tf,ti,tr,tt,tw,u0,vf,vj,vm,we,wg,wv,yW,a5,a7,yp,a8,a9,af,ag,ah,ai,aj,ak,am,aq,au,av,aw,ay,az,aA,aB,aC,aF,aG,aH,aI,aJ,aK,aL,aM,aN,aO,aP,aQ,aR,aS,aT,aU,aV,aW,aX,aY,bd,be,bf,bg,bh,bi,bj,bk,bl,bm,bp,bq,bu,bw,bz,aZ,b8,b9,ba],[]⟩ w:=by
 conv=>arg 2;whnf
 have hlt:=D0.lt;have cX:=D0.Gj;have hc:=cr D0.blk 9 _ rfl;have cu:IntKind.u64.wrap (i:Int)=(i:Int):=IntWalk.u64_in _ Tc1;have D1:=D0.below (ae w (.cells #[.string ⟨#[111,108,100]⟩,.int .u64 (i:Int),(i:Int)] 73));have OS:bb<(w.alloc (.cells #[.string ⟨#[111,108,100]⟩,.int .u64 (i:Int),(i:Int)] 73)).1.size:=D1.Gj;obtain⟨i0,hi,du,On,RC⟩:=gg Ef;replace hi:=aa hi;replace du:=aa du;replace On:=aa On;replace RC:=aa RC;replace D1:=aa D1;go_wp2_with(at_builtin;refine dX lF.moves underlying29 hi.o du.o On.o RC.o rfl Tc4 Tc4 rfl _ _ rfl (bb+1) (fun _=>False) hv hist (BQ,(i:Int),(i:Int)) rfl ?d1 w.1.size 1 [.string ⟨#[111,108,100]⟩,.int .u64 (i:Int),.int .i64 (i:Int)] rfl rfl ?d2 ?d3 ?d4 ?d5 ?d6 ?d7 ?_)
 case d1 =>
  obtain⟨cs,ho,hf⟩:=D1.o.own;exact⟨cs,ho,tY _ _ hf⟩
 case d2=>exact rfl
 case d3=>simp[GS]
 all_goals first|(case d4=>(intro j y hy;exact aD rfl Tdl))|(case d5=>omega)|(case d6=>omega)|(case d7=>exact fun _ _ f=>f)|skip
 intro gb cap w3 hp;obtain⟨D3,hx⟩:=D1.o.push hp;have y7:w3.cell? (Tac bb 9)=some hv:=by simp[AN,hx,D1.o.blk]
 have yf:w3.frozen? (Tac bb 9)=false:=by simp[BT,hx,D1.o.blk]
 clear hp hx hc;go_wp2;exact HK.o _ _ _ _ _ _ _ _ _ _ _ _ _ _ _ _ _ D3
def TdY{p:Prop}(h:p:=by simp only[dE];omega):p:=h
def wN{X:Nat->Prop}{vb vc sb M:Nat}{next:List Int}{vs:List ay}{on:ByteArray}{mz n s:Int}(h:eW X w bs bb nv (.slice (some vb) (M+1) vc) g next)(hk:BOk g next)(hM:vs.length=M)(hg:g.F9=vs++[eD name mz false n on s])(hn:1<=n/\n<=4)(hT:w.cell? (vb,M*6+5)=some (.slice (some sb) 1 1))
  (c0 c1 c2 c4 c5 c6 c7 c8 c9 c10 TO W0 St Rr RE RK SO Se Sf To Wg aE Wr ZD UP US ab ao fa dj dq eS fs gE ff fi fb gn iS mx qS qe nF o4 oE oR qk oS pe ph pr pt qv rl rm rn sd sh ta zd zp bM bN bO bP bQ bR bS bT bU bV bW bX bY bZ ca cc cd ce cf cg ci cj ck cn co cp cq cr ct cu cv cw cx cy cz cA cB cC ke lE im ka lP mT mc me te tf ti tr tt tw u0 vf vj vm we wg wv yW aW aX yp aY aZ b8 b9 ba bd be bf bg bh bi bl bm bp bq bu bw bz bD bE bF bG bH bI bJ bK a8 a9 ae af ag ah ai ak am aq au av aw az aA aC aD aF aG aI aJ aK aM aN aO aQ aR aS aT aU aV:Value) (Q:Exit->Act->World->Prop) (hQ:∀c (a:Act) (d:Tmp) (v:Value) w,Q (.panic c) (a.put (some d) v) w->Q (.panic c) a w)
  (HK:Hid (∀(Gf:List aB) (ps:List (ByteArray × Int × Int)) (next':List Int) (w':World) (u122 u123 u124 u125 u126 u127 u128 u129 u130 u131 u132 u133 u134 u135 u136 u137 u138 u139 u140 u141 u142 u143 u144 u145 u146 u147 u148 u149 u150:Value),fB (eD name mz false n on s).Gf Gf->Gf.length<=3->fZ g.Gb next ps next'->List.Sublist ((Gf.drop 1).flatMap iG) ps->aH X bs bb nv (.slice (some vb) (M+1) vc) w w' nv (.slice (some vb) (M+1) vc) { g with F9:=vs++[⟨name,mz,false,false,[],Gf⟩] } next'->Q .normal ⟨#[c0,c1,c2,.pointer (some bb),c4,c5,c6,c7,c8,c9,c10,TO,W0,St,Rr,RE,RK,SO,Se,Sf,To,Wg,aE,Wr,ZD,UP,US,ab,ao,fa,dj,dq,eS,fs,gE,ff,fi,fb,gn,iS,mx,qS,qe,nF,o4,oE,oR,qk,oS,pe,ph,pr,pt,qv,rl,rm,rn,sd,sh,ta,zd,zp,bM,bN,bO,bP,bQ,bR,bS,bT,bU,bV,bW,bX,bY,bZ,ca,cc,cd,ce,cf,cg,ci,cj,ck,cn,co,cp,cq,cr,ct,cu,cv,cw,cx,cy,cz,cA,cB,cC,ke,lE,im,ka,lP,mT,mc,me,te,tf,ti,tr,tt,tw,u0,vf,vj,vm,we,wg,wv,yW,u122,u123,u124,u125,u126,u127,u128,u129,u130,u131,u132,u133,u134,u135,u136,u137,u138,u139,u140,u141,u142,u143,u144,u145,u146,u147,u148,u149,u150,a8,a9,ae,af,ag,ah,ai,ak,am,aq,au,av,aw,az,aA,aC,aD,aF,aG,aI,aJ,aK,aM,aN,aO,aQ,aR,aS,aT,aU,aV],[]⟩ w')) :
  Code.wp prog (nA 19) Q ⟨#[c0,c1,c2,.pointer (some bb),c4,c5,c6,c7,c8,c9,c10,TO,W0,St,Rr,RE,RK,SO,Se,Sf,To,Wg,aE,Wr,ZD,UP,US,ab,ao,fa,dj,dq,eS,fs,gE,ff,fi,fb,gn,iS,mx,qS,qe,nF,o4,oE,oR,qk,oS,pe,ph,pr,pt,qv,rl,rm,rn,sd,sh,ta,zd,zp,bM,bN,bO,bP,bQ,bR,bS,bT,bU,bV,bW,bX,bY,bZ,ca,cc,cd,ce,cf,cg,ci,cj,ck,cn,co,cp,cq,cr,ct,cu,cv,cw,cx,cy,cz,cA,cB,cC,ke,lE,im,ka,lP,mT,mc,me,te,tf,ti,tr,tt,tw,u0,vf,vj,vm,we,wg,wv,yW,aW,aX,yp,aY,aZ,b8,b9,ba,bd,be,bf,bg,bh,bi,bl,bm,bp,bq,bu,bw,bz,bD,bE,bF,bG,bH,bI,bJ,bK,a8,a9,ae,af,ag,ah,ai,ak,am,aq,au,av,aw,az,aA,aC,aD,aF,aG,aI,aJ,aK,aM,aN,aO,aQ,aR,aS,aT,aU,aV],[]⟩ w:=by
 conv=>arg 2;whnf
 have hlt:=h.lt;have cX:=h.Gj;have mb:=hk.vl;have cP:M<=99:=by rw[hg,cD,hM]at mb;simp at mb;omega
 clear mb;have cI:=h.c8;have hle:(vs++[eD name mz false n on s]).length=M+1:=by simp[hM]
 obtain⟨cl,ho,hf⟩:=h.ownV;rw[hg]at ho hf;rw[hle]at ho;have ij:M+1<=vc/\vc<=9223372036854775807:=by
  rcases ho.2 with⟨e,_⟩|⟨g0,c0,cR,e,_,_,h1,h2,_⟩
  ·cases e
  injection e with _ _ e3;subst e3;exact⟨h1,by unfold maxLen at h2;omega⟩
 have Q6:=ij.1;have cS:=ij.2;clear ij;obtain⟨c,u,rfl,hc,hu,hv⟩:=Flat.last vs cl hf;have bL:=Flat.length _ _ hc;rw[hM]at bL;obtain⟨tv,sv,rfl,ht,hs⟩:=hv;obtain⟨tp,tc,cF,ht2,cK,_⟩:=ht;obtain rfl:tv=.slice tp 0 tc:=by injection cF
 have cG:∀(j:Nat) (z:Value),[.string name,.int .u64 mz,.bool false,.bool false,.slice tp 0 tc,sv][j]?=some z->w.cell? ⟨vb,M*6+j,none⟩=some z:=fun j z hz=>by
  have hj:j<6:=(AT.1 hz).1;rw[ho.cellAt (M*6+j) Tc1,Cp Tc1,bL,Nat.add_sub_cancel_left];exact hz
 obtain⟨q0,q1,q2,q3,q4,q5⟩:=sv6 cG;obtain rfl:sv=.slice (some sb) 1 1:=by rw[hT]at q5;injection q5 with q5;exact q5.symm
 have HT:Hid (iL bC 11 (okB X bb nv (.slice (some vb) (M+1) vc)) w (.slice (some sb) 1 1) [dE n on s]):=by
  obtain⟨p,c,e,_,_,h3⟩:=hs;obtain⟨b,o,rfl,hb,gR,ON⟩:=h3 (by simp[eD]);obtain⟨rfl,rfl⟩:sb=b/\0=o:=by
   injection e with e;injection e with e;injection e with e;injection e with e1 e2;exact⟨e1,e2⟩
  obtain⟨u,hu,hv,hc⟩:=ON 0 _ rfl;refine aa ⟨sb,u,rfl,hb,gR,Flat.one hu hv ?_,fun j y hy=>by simpa using hc j y hy,Tc2⟩;obtain⟨a,st,rfl,⟨_,_,ea,_⟩,⟨_,_,cM,_⟩⟩:=hv;obtain rfl:=IF.1 ea;obtain rfl:=IF.1 cM;simp[GS]
 clear cG hT hs cF hu hc hf ho bL;refine aL (fun w'=>w'.cell? (Tac bb 8)=some (.slice (some vb) (M+1) vc)) 28 [0,1,2,3,5,6,7,8,12,13,14,15,16,18,19,20,21] Tc3 cI (fun a5=>?_);have cT:IntKind.i64.wrap (M:Int)=(M:Int):=dy _ Tc1;have z1:(0:Int)<=(M:Int):=by omega
 have z2:(M:Int)<(M:Int)+1:=by omega
 refine gC hQ 0 ?_;refine gC hQ 1 ?_;refine gC hQ 2 ?_;refine gC hQ 3 ?_;refine gC hQ 5 ?_;refine gC hQ 6 ?_;refine gC hQ 7 ?_;refine gC hQ 8 ?_;refine gC hQ 12 ?_;refine gC hQ 13 ?_;refine gC hQ 14 ?_;refine gC hQ 15 ?_;refine gC hQ 16 ?_;refine gC hQ 18 ?_;refine gC hQ 19 ?_;refine gC hQ 20 ?_;refine gC hQ 21 ?_;refine cH hQ 4 a5 ?_;refine cH hQ 9 a5 ?_;refine cH hQ 17 a5 ?_;refine cH hQ 22 a5 ?_;refine cH hQ 10 a5 ?_;refine cH hQ 11 a5 ?_;refine cH hQ 23 a5 ?_;refine cH hQ 24 a5 ?_;refine cH hQ 25 a5 ?_;have h1:=h.below ((bj _ _).drew);have cN:w.drew.1=w.1:=rfl;have d0:w.drew.cell? (vb,M*6)=_:=q0;have d1:w.drew.cell? (vb,M*6+1)=_:=q1;have d2:w.drew.cell? (vb,M*6+2)=_:=q2;have d3:w.drew.cell? (vb,M*6+3)=_:=q3;have d4:w.drew.cell? (vb,M*6+4)=_:=q4;have d5:w.drew.cell? (vb,M*6+5)=_:=q5;refine lR 26 fun K1 hK1=>?_;go_simp;refine hK1.o _ _ a5 ?_;clear hK1 K1 q0 q1 q2 q3 q4 q5 d0 d1 d2 d3 d4 d5;refine lR 27 fun K1 hK1=>?_;go_simp;have Rt:Hid (iL bC 11 (okB X bb nv (.slice (some vb) (M+1) vc)) w.drew (.slice (some sb) 1 1) [dE n on s]):=aa (HT.o.moves bC.moves ⟨bk _,fun _ _ q=>⟨q,rfl⟩⟩);generalize cO:w.drew=wd at *;refine(CE X bs bb sb 0 tc tp nv _ g next wd h1 hk name mz false false (dE n on s) TdY Rt.o).mono ?_;rintro e w6 ⟨sv,Gf,ps,next',rfl,Xw,GF,DB,u9,P6,kf⟩;refine hK1.o _ _ P6.bld.c8 ?_;clear hK1 K1 a5 HT Rt;refine aP Tc3 rfl ?_;simp only[cQ,cL];have B2:=aa kf;obtain⟨sp,sc,hsv,_⟩:=kf;obtain rfl:sv=.slice sp Gf.length sc:=by injection hsv
 clear hsv;obtain⟨cl,ho,hf⟩:=P6.bld.ownV;rw[hg]at ho;rw[hle]at ho;have hll:=ho.1;have a7:∀j,j<6->∃z,w6.cell? ⟨vb,M*6+j,none⟩=some z:=fun j hj=>by
  rw[ho.cellAt (M*6+j) Tc1];exact aj cl (M*6+j) (by rw[hll];omega)
 have Yi:=ho.frozenAt;obtain⟨z0,y0⟩:=a7 0 Tc1;obtain⟨cV,y1⟩:=a7 1 Tc1;obtain⟨cW,y2⟩:=a7 2 Tc1;obtain⟨z3,y3⟩:=a7 3 Tc1;obtain⟨z4,y4⟩:=a7 4 Tc1;obtain⟨z5,y5⟩:=a7 5 Tc1;replace y0:w6.cell? (vb,M*6)=some z0:=y0;clear a7 ho hf hll;have P0:aH X bs bb nv (.slice (some vb) (M+1) vc) w wd nv (.slice (some vb) (M+1) vc) g next:=by rw[<- cO];exact(aH.refl h).drewN 1
 have HP:=aa (P0.trans P6);clear P0 P6 h1;go_wp2;subst hM;exact HK.o Gf ps next' _ _ _ _ _ _ _ _ _ _ _ _ _ _ _ _ _ _ _ _ _ _ _ _ _ _ _ _ _ _ Xw GF DB u9 (HP.o.setLast hg ⟨_,_,rfl,⟨tp,tc,rfl,ht2,cK,fun q=>absurd q Tc2⟩,B2.o⟩ Tdc)
structure sU(g:af):Prop where
 ex:∃(c:Nat) (g0 g1:af) (next:List Int),c<=4/\g0.name=vgT/\(0<=g0.id/\g0.id<=999)/\(0<=g0.seq/\g0.seq<=49)/\g0.Gd∈([1,2,4,8,16]:List Int)/\g0.next=0/\List.Sublist g0.tags iQ/\g0.F9=[]/\g0.history=[] /\
  (1<=g0.Gb.length/\g0.Gb.length<=4)/\(∀(k:Nat) (D:az),g0.Gb[k]?=some D->rH k D)/\bZ c g0 (DE g0.Gb.length 0) 0 g1 next/\g={ g1 with history:=g.history }/\g.history.length<=2/\∀x∈g.history,∃i:Nat,1<=i/\i<=2/\x=(BQ,(i:Int),(i:Int))
def uX(bs:Nat)(w:World)(e:Ending)(w':World):Prop :=
 ∃(g:af) (t d v h:Value),e=.returned (.agg #[g.name,.int .u64 g.id,.int .i64 g.seq,.int .i64 g.Gd,.int .i64 g.next,t,d,v,h]) /\
  EU (fun b=>w.1.size<=b) w' [.string g.name,.int .u64 g.id,.int .i64 g.seq,.int .i64 g.Gd,.int .i64 g.next,t,d,v,h] g/\sU g/\Src w' bs/\Str w w'/\w.1.size<=w'.1.size/\∀k,k<w.1.size->k≠bs->w'.1[k]?=w.1[k]?
def setN(w:World)(b o:Nat):List Value->World
 |[]=>w
 |v :: l=>setN (w.setCell (b,o) v) b (o+1) l
def nY(h:k≠b):∀(l:List Value) (w:World) (o:Nat),(setN w b o l).1[k]?=w.1[k]?
 |[],_,_=>rfl
 |v :: l,w,o=>(nY h l _ _).trans (bw w ⟨b,o,none⟩ v k h)
def og(b:Nat):∀(l:List Value) (w:World) (o:Nat),(setN w b o l).1.size=w.1.size
 |[],_,_=>rfl
 |v :: l,w,o=>(og b l _ _).trans Tdd
def ql(b:Nat):∀(l:List Value) (w:World) (o:Nat),Str w (setN w b o l)
 |[],w,_=>Str.refl w
 |v :: l,w,o=>Str.trans (b:=w.setCell (b,o) v) ⟨rfl,rfl,rfl⟩ (ql b l _ _)
def Ff(cs:Array Value)(o:Nat):List Value->Array Value
 |[]=>cs
 |v :: l=>Ff (cs.setIfInBounds o v) (o+1) l
def wO{t:TypeId}:∀(l:List Value) (w:World) (o:Nat) (cs:Array Value),w.1[b]?=some (.cells cs t (0,0))->(setN w b o l).1[b]?=some (.cells (Ff cs o l) t (0,0))
 |[],_,_,_,h=>h
 |v :: l,_w,o,_cs,h=>wO l _ _ _ (block_setCell (i:=o) v h)
def TaD(x0:Option Addr):Tab #[.pointer x0,.string ⟨#[]⟩,.int .u64 0,.int .i64 0,.int .i64 0,.int .i64 0,.slice none 0 0,.slice none 0 0,.slice none 0 0,.slice none 0 0,.slice none 0 0]:=⟨⟩
structure pJ(bs R:Nat)(w0 W:World):Prop where
 src:Src W bs
 lt:bs<R
 blk:W.heap[R+1]?=some (.cells (TaD (some ⟨bs,0,none⟩)) 60 (0,0))
 old:∀k,k<R+1->k≠bs->W.heap[k]?=w0.heap[k]?
 str:Str w0 W
section
variable {bs R:Nat}{w0 W W':World}
def pJ.keep(h:pJ bs R w0 W)(hst:Str W W')(hs:Src W' bs)(hk:∀k,k<W.1.size->k≠bs->W'.1[k]?=W.1[k]?):pJ bs R w0 W':=by
 have hl:=h.lt;have hb:=aq h.blk;exact⟨hs,hl,(hk _ hb Tc1).trans h.blk,fun k h1 h2=>(hk k Tc1 h2).trans (h.old k h1 h2),h.str.trans hst⟩
def pJ.read(h:pJ bs R w0 W)(hs:Src W' bs)(hm:cR (fun i=>i=bs) W W'):pJ bs R w0 W':=h.keep hm.str hs fun k h1 h2=>hm.block k h1 h2
def pJ.below(h:pJ bs R w0 W)(hb:Below W.1.size W W'):pJ bs R w0 W':=h.keep (ow hb) (h.src.keep fun i hi=>hb.block i (by have:=h.lt;have:=aq h.blk;omega)) fun k h1 _=>hb.block k h1
theorem pJ.dst{id seq ext:Int}{tags:List ByteArray}{tv:Value}(h:pJ bs R w0 W)(ht:ck aF 1 (fun k=>R+1<k) W [tv] tags) :
  vy bs (R+1) id seq ext tags w0 tv (.slice none 0 0) (.slice none 0 0) [] [] (setN W (R+1) 1 [(.string vgT),(.int .u64 id),(.int .i64 seq),(.int .i64 ext),(.int .i64 0),tv,(.slice none 0 0),(.slice none 0 0),(.slice none 0 0)]):=by
 have hl:=h.lt;have kk:=fun k e=>nY (b:=R+1) (k:=k) e [(.string vgT),(.int .u64 id),(.int .i64 seq),(.int .i64 ext),(.int .i64 0),tv,(.slice none 0 0),(.slice none 0 0),(.slice none 0 0)] W 1;have hz:=og (R+1) [(.string vgT),(.int .u64 id),(.int .i64 seq),(.int .i64 ext),(.int .i64 0),tv,(.slice none 0 0),(.slice none 0 0),(.slice none 0 0)] W 1;have hst:=ql (R+1) [(.string vgT),(.int .u64 id),(.int .i64 seq),(.int .i64 ext),(.int .i64 0),tv,(.slice none 0 0),(.slice none 0 0),(.slice none 0 0)] W 1;have hb:=wO [(.string vgT),(.int .u64 id),(.int .i64 seq),(.int .i64 ext),(.int .i64 0),tv,(.slice none 0 0),(.slice none 0 0),(.slice none 0 0)] W 1 _ h.blk;simp only[Ff,xT,List.set_cons_zero,List.set_cons_succ,Nat.reduceAdd]at hb;generalize setN W (R+1) 1 [(.string vgT),(.int .u64 id),(.int .i64 seq),(.int .i64 ext),(.int .i64 0),tv,(.slice none 0 0),(.slice none 0 0),(.slice none 0 0)]=V at *;exact⟨h.src.keep fun i hi=>kk i Tc1,Tc1,hb,(ck.moves aF.moves).mv ⟨Tc1,fun b _ q=>⟨⟨q,fun e=>Tds,fun e=>Tds⟩,kk b Tc1⟩⟩ ht,⟨[],gS _ _ _ 7,rfl⟩,eG.nil _ _,fun k e=>Tds,fun k h1 h2=>(kk k Tc1).trans (h.old k h1 h2),h.str.trans hst⟩
end
variable {l l':List aB}{id c:Int}{ns:List ByteArray}{ls next' n0:List Int}{ps:List (ByteArray × Int × Int)}{vl tl:List ay}{name:ByteArray}{k j i:Nat}{g g' g0:af}
def UR{p:Prop}(h:p):p:=h
def TaC :Tab #[.string ⟨#[97]⟩,.string ⟨#[98]⟩,.string ⟨#[99]⟩,.string ⟨#[100]⟩,.string ⟨#[101]⟩]:=⟨⟩
def Tar :Tab #[.string ⟨#[]⟩,.int .u64 0,.int .i64 0,.int .i64 0,.int .i64 0,.slice none 0 0,.slice none 0 0,.slice none 0 0,.slice none 0 0]:=⟨⟩
theorem Ca(bs:Nat)(w:World)(h:Src w bs):Calls prog 6 #[.pointer (some bs)] w (uX bs w):=by
 have gO:=h.lt;go_enter func6,ntmps6
 have P1:pJ bs w.1.size (w.alloc (.cells Tar 31)) ((w.alloc (.cells Tar 31)).alloc (.cells (TaD (some ⟨bs,0,none⟩)) 60)):=by
  have hz:(w.alloc (.cells Tar 31)).1.size=w.1.size+1:=by simp
  refine⟨h.keep fun i hi=>?_,gO,?_,fun k h1 _=>cj _ _ _ Tc1,⟨rfl,rfl,rfl⟩⟩
  ·rw[cj _ _ _ Tc1,cj _ _ _ Tc1]
  have:=b9 (w.alloc (.cells Tar 31)) (.cells (TaD (some ⟨bs,0,none⟩)) 60);rw[hz]at this;exact this
 have ay:=aa (b9 w (.cells Tar 31));go_wp2_with fail;refine(bY bs 1000 _ Tc1 Tc1 P1.src).mono ?_;rintro e w2 ⟨id,rfl,Xx,aY,hs,hm⟩;have P2:=P1.read hs hm;clear hs hm P1;have aA:IntKind.u64.wrap id=id:=IntWalk.u64_in _ Tc1;have aB:Hid (Str w (w.alloc (.cells Tar 31))):=aa ⟨rfl,rfl,rfl⟩;have Xy:Hid (∀k,k<w.1.size->(w.alloc (.cells Tar 31)).1[k]?=w.1[k]?):=aa fun k hk=>cj _ _ _ hk;generalize hR:w.1.size=R at *;generalize aC:w.alloc _=w0 at *;clear aC
 go_wp2_with fail;refine(bY bs 50 _ Tc1 Tc1 P2.src).mono ?_;rintro e w3 ⟨seq,rfl,Xz,aZ,hs,hm⟩;have P3:=P2.read hs hm;clear hs hm P2;have P4:=P3.below (ae w3 (.cells #[.int .i64 1,.int .i64 2,.int .i64 4,.int .i64 8,.int .i64 16] 3));have UF:Hid (ig (w3.alloc (.cells #[.int .i64 1,.int .i64 2,.int .i64 4,.int .i64 8,.int .i64 16] 3)) w3.1.size 0 [1,2,4,8,16]):=aa (mo w3 _ [1,2,4,8,16]);have hb3:=aq P3.blk;go_wp2_with fail;refine(jD bs w3.1.size 5 [1,2,4,8,16] _ Tc2 Tc2 Tc2 Tc1 Tc2 Tc1 UF.o P4.src).mono ?_;rintro e w5 ⟨ext,rfl,ag,hs,hm⟩;have P5:=P4.read hs hm;clear hs hm P3 P4 UF hb3;go_wp2_with fail;refine(qY bs _ P5.src).mono ?_;rintro e w6 ⟨tv,tags,rfl,v9,ew,hs,hm⟩;have XA:=ew;obtain⟨tp,tc,Qd,_⟩:=XA;obtain rfl:tv=.slice tp tags.length tc:=by injection Qd
 clear Qd;have P6:=P5.read hs hm;have hb5:=aq P5.blk;have D1:=P6.dst (id:=id) (seq:=seq) (ext:=ext) (tags:=tags) (tv:=.slice tp tags.length tc) ((ck.moves aF.moves).mv ⟨bk _,fun b _ q=>⟨by have:w5.1.size<=b:=q;omega,rfl⟩⟩ ew);have qL:=cr P6.blk;have y1:=qL 1 _ rfl;have y2:=qL 2 _ rfl;have y3:=qL 3 _ rfl;have y4:=qL 4 _ rfl;have y5:=qL 5 _ rfl;have y6:=qL 6 _ rfl;have y7:=qL 7 _ rfl;have y8:=qL 8 _ rfl;have y9:=qL 9 _ rfl;have yf:=sr P6.blk;clear qL hs hm P5 ew;have ak:=aa D1;clear D1;replace P6:=aa P6;replace v9:=aa v9;replace ag:=aa ag;go_wp2_with fail;have D1:vy bs (R+1) id seq ext tags w0 (.slice tp tags.length tc) (.slice none 0 0) (.slice none 0 0) [] [] (AF (AF (AF (AF (AF (AF (AF (AF (AF w6 ⟨R+1,1,none⟩ (.string ⟨#[118,103]⟩)) ⟨R+1,2,none⟩ (.int .u64 id)) ⟨R+1,3,none⟩ (.int .i64 seq)) ⟨R+1,4,none⟩ (.int .i64 ext)) ⟨R+1,5,none⟩ (.int .i64 0)) ⟨R+1,6,none⟩ (.slice tp tags.length tc)) ⟨R+1,7,none⟩ (.slice none 0 0)) ⟨R+1,8,none⟩ (.slice none 0 0)) ⟨R+1,9,none⟩ (.slice none 0 0)):=ak.o;generalize aD:(AF (AF (AF (AF (AF (AF (AF (AF (AF w6 ⟨R+1,1,none⟩ (.string ⟨#[118,103]⟩)) ⟨R+1,2,none⟩ (.int .u64 id)) ⟨R+1,3,none⟩ (.int .i64 seq)) ⟨R+1,4,none⟩ (.int .i64 ext)) ⟨R+1,5,none⟩ (.int .i64 0)) ⟨R+1,6,none⟩ (.slice tp tags.length tc)) ⟨R+1,7,none⟩ (.slice none 0 0)) ⟨R+1,8,none⟩ (.slice none 0 0)) ⟨R+1,9,none⟩ (.slice none 0 0))=W7 at *;clear aD ak P6 y1 y2 y3 y4 y5 y6 y7 y8 y9 yf hb5 aA;refine(bO bs 1 4 _ Tc1 Tc1 Tc1 D1.src).mono ?_;rintro e w8 ⟨Zh,rfl,b8,ba,hs,hm⟩;have D2:=D1.read hs hm;clear hs hm D1;obtain⟨nd,rfl⟩:∃u:Nat,Zh=u:=⟨Zh.toNat,Tc1⟩;have bb:=D2.Gj;go_wp2
 go_loopw[5] (fun i wr=>∃(c:Nat) (dv nv:Value) (Gb:List az),c+Gb.length=nd/\i=.int .i64 c/\(∀(k:Nat) (D:az),Gb[k]?=some D->rH k D)/\vy bs (R+1) id seq ext tags w0 (.slice tp tags.length tc) dv nv Gb (DE Gb.length 0) wr) (fun i _=>(intOf i).toNat)
 exact⟨nd,_,_,[],Tc2,rfl,(fun k D hD=>by simp at hD),D2⟩;obtain⟨c,dv,nv,Gb,Xu,rfl,hdk,D⟩:=hrel;replace hdk:=aa hdk;by_cases hc0:c=0
 ·subst hc0;have aE:decide ((0:Int)<((0:Nat):Int))=false:=by simp
  have CD:Gb.length=nd:=by omega
  have a9:eW (fun k=>k=wr.1.size) (wr.alloc (.cells TaC 9)) bs (R+1) nv (.slice none 0 0) ⟨vgT,id,seq,ext,0,tags,Gb,[],[]⟩ (DE Gb.length 0):=D.bld.fresh (ae _ _) (fun k hk=>.inr ⟨Tc1,Tc6⟩);have a5:∀k,k<R+1->k≠bs->(wr.alloc (.cells TaC 9)).1[k]?=w0.1[k]?:=fun k h1 h2=>(cj _ _ _ (by have:=D.Gj;omega)).trans (D.old k h1 h2);have HNB:=aa (b9 wr (.cells TaC 9));replace a5:=aa a5;have Ov:Str w0 (wr.alloc (.cells TaC 9)):=D.str.trans ⟨rfl,rfl,rfl⟩;replace Ov:=aa Ov;have hlt2:=D.lt;clear D
  go_wp2_with fail;generalize aG:wr.alloc _=wA at *;generalize aI:wr.1.size=NB at *;clear aG aI;refine(bY bs 5 _ Tc1 Tc1 a9.src).mono ?_;rintro e am ⟨cv,rfl,aJ,aK,hs,hm⟩;obtain⟨c0,rfl⟩:∃u:Nat,cv=u:=⟨cv.toNat,Tc1⟩;have ao:aH (fun k=>k=NB) bs (R+1) nv (.slice none 0 0) wA am nv (.slice none 0 0) ⟨vgT,id,seq,ext,0,tags,Gb,[],[]⟩ (DE Gb.length 0):=a9.readPost hs hm;clear hs hm
  have aL:1<=ext/\ext<=16:=by
   have:=ag.o;simp only[dr,cY,dg]at this;omega
  generalize ab:(⟨vgT,id,seq,ext,0,tags,Gb,[],[]⟩:af)=g0 at *;have a7:g0.Gb=Gb/\g0.Gd=ext/\g0.F9=[]/\g0.next=0:=by rw[<- ab];exact⟨rfl,rfl,rfl,rfl⟩
  have XB:=aa ab;clear ab;have au:DOk g0.Gb (DE Gb.length 0):=by
   rw[a7.1];refine⟨Tc2,Tc1,Tc1,fun D hD=>?_,fun d m hm=>?_⟩
   ·obtain⟨k,hk⟩:=fc hD;have:=(hdk.o k D hk).ext;simp only[dr,cY,dg]at this;omega
   have:=ct hm;rw[tM]at this;omega
  have HBD:Hid (∀(i:Nat) (g:af) (next:List Int),bZ c0 g0 (DE Gb.length 0) i g next->Zy c0 i g0 g next):=aa fun i g next q=>bZ.bd ⟨a7.2.2.1,a7.2.2.2⟩ (by rw[a7.2.1];exact aL) au q;replace a7:=aa a7;clear au
  go_wp2;go_loopw[8] (fun i wr=>∃(c:Nat) (nv' pA:Value) (g:af) (next:List Int),i=.int .i64 c/\bZ c0 g0 (DE Gb.length 0) c g next/\aH (fun k=>k=NB) bs (R+1) nv (.slice none 0 0) wA wr nv' pA g next) (fun i _=>(intOf i).toNat)
  exact⟨c0,_,_,_,_,rfl,.nil,ao⟩;obtain⟨c,nv',pA,g,next,rfl,ye,P⟩:=hrel;have bd:=HBD.o c g next ye;obtain⟨s1,s2,s3,gx,s5,gd,s7⟩:=bd.same;clear s1 s2 s3 s5 s7;have b1:=bd.le;have b2:=bd.F9;have b3:=bd.nx1;have b4:=bd.nx2;have S7:DOk g.Gb next:=by rw[gd];exact bd.dk
  have hk:BOk g next:=⟨S7,b3,Tc1,Tc1⟩;have K2:g.Gb.length=nd:=by rw[gd,a7.o.1];exact CD
  have TU:g.Gd=ext:=by rw[gx];exact a7.o.2.1
  clear bd gx gd;replace ye:=aa ye;have XC:wr.1[NB]?=some (.cells TaC 9 (0,0)):=(P.loc a9 rfl).trans HNB.o;by_cases hc0:c=0
  ·subst hc0;have hd1:decide ((0:Int)<((0:Nat):Int))=false:=by simp
   obtain⟨aM,aP,H⟩:=(P.bld.fewer (Y:=fun _=>False) (fun _ f=>f.elim)).hst (w0:=w0) (fun k h1 h2=>(P.mod.block k (by have:=a9.Gj;omega) (fun q=>by rcases q with q|q|q|q;exact h2 q;omega;have:=(a9.nLt q).1;omega;cases q)).trans (a5.o k h1 h2)) (Ov.o.trans P.mod.str);clear XC P ao K2 TU;go_wp2_with fail;refine(bY bs 3 _ Tc1 Tc1 H.src).mono ?_;rintro e be ⟨ON,rfl,bf,Zj,hs,hm⟩;obtain⟨hc,rfl⟩:∃u:Nat,ON=u:=⟨ON.toNat,Tc1⟩;have H2:=H.read hs hm;clear hs hm H;go_wp2
   go_loopw[11] (fun i wr=>∃(c:Nat) (hv:Value) (hist:List (ByteArray × Int × Int)),c+hist.length=hc/\i=.int .i64 c/\(∀x∈hist,∃i:Nat,1<=i/\i<=2/\x=(BQ,(i:Int),(i:Int)))/\HSt bs (R+1) w0 g aM aP pA nv' hv hist wr) (fun i _=>(intOf i).toNat)
   exact⟨hc,_,[],Tc2,rfl,(fun x hx=>by cases hx),H2⟩;obtain⟨c,hv,hist,bg,rfl,Zk,H⟩:=hrel;replace Zk:=aa Zk;by_cases hc0:c=0
   ·subst hc0;have aQ:decide ((0:Int)<((0:Nat):Int))=false:=by simp
    obtain⟨p1,a1,f1,_⟩:=UR H.rt;obtain rfl:=IF.1 f1;obtain⟨p2,a2,f2,_⟩:=UR H.rd;obtain rfl:=IF.1 f2;obtain⟨p3,a3,f3,_⟩:=UR H.rv;obtain rfl:=IF.1 f3;have ah:ck lF 3 (fun b=>R+1<b) wr [hv] hist:=H.own.rd lF.moves Tc4 (fun b _ q=>q.1) (fun b e=>(H.hLt e).1);obtain⟨p4,a4,f4,_⟩:=UR ah;obtain rfl:=IF.1 f4;clear f1 f2 f3 f4;have qL:=cr H.blk;have y1:=qL 1 _ rfl;have y2:=qL 2 _ rfl;have y3:=qL 3 _ rfl;have y4:=qL 4 _ rfl;have y5:=qL 5 _ rfl;have y6:=qL 6 _ rfl;have y7:=qL 7 _ rfl;have y8:=qL 8 _ rfl;have y9:=qL 9 _ rfl;have hlt3:=H.lt;have XD:wr.1[R]?=_:=(H.old R Tc1 Tc1).trans ay.o;have rL:=cr XD;obtain⟨r0,r1,r2,r3,r4,r5,r6,r7,r8⟩:=xr rL;have rf:=sr XD;clear qL rL XD;have HH:=aa H;clear H;replace ah:=aa ah;go_wp2;refine eC (v:=.agg #[g.name,.int .u64 g.id,.int .i64 g.seq,.int .i64 g.Gd,.int .i64 g.next,.slice p1 g.tags.length a1,.slice p2 g.Gb.length a2,.slice p3 g.F9.length a3,.slice p4 hist.length a4]) (by simp[results,Tryz.results6,go_sem,r0,r1,r2,r3,r4,r5,r6,r7,r8]) rfl ?_;have kk:=fun k (e:k≠R)=>nY (b:=R) (k:=k) e [.string g.name,.int .u64 g.id,.int .i64 g.seq,.int .i64 g.Gd,.int .i64 g.next,.slice p1 g.tags.length a1,.slice p2 g.Gb.length a2,.slice p3 g.F9.length a3,.slice p4 hist.length a4] wr 0;have hst:=ql R [.string g.name,.int .u64 g.id,.int .i64 g.seq,.int .i64 g.Gd,.int .i64 g.next,.slice p1 g.tags.length a1,.slice p2 g.Gb.length a2,.slice p3 g.F9.length a3,.slice p4 hist.length a4] wr 0;have hz:=og R [.string g.name,.int .u64 g.id,.int .i64 g.seq,.int .i64 g.Gd,.int .i64 g.next,.slice p1 g.tags.length a1,.slice p2 g.Gb.length a2,.slice p3 g.F9.length a3,.slice p4 hist.length a4] wr 0;show uX bs w _ (setN wr R 0 [.string g.name,.int .u64 g.id,.int .i64 g.seq,.int .i64 g.Gd,.int .i64 g.next,.slice p1 g.tags.length a1,.slice p2 g.Gb.length a2,.slice p3 g.F9.length a3,.slice p4 hist.length a4]);generalize setN wr R 0 [.string g.name,.int .u64 g.id,.int .i64 g.seq,.int .i64 g.Gd,.int .i64 g.next,.slice p1 g.tags.length a1,.slice p2 g.Gb.length a2,.slice p3 g.F9.length a3,.slice p4 hist.length a4]=V at *;have H:=HH.o;have hbl:=H.Gj;have hm:Mv (okH (R+1) (.slice p4 hist.length a4)) (fun b=>w.1.size<=b) wr V:=⟨Tc1,fun b _ q=>⟨by have:=q.1;omega,kk b (by have:=q.1;omega)⟩⟩;have hm':Mv (fun b=>R+1<b) (fun b=>w.1.size<=b) wr V:=⟨Tc1,fun b _ q=>⟨Tc1,kk b Tc1⟩⟩;have ab:=XB.o;subst ab;refine⟨{ g with history:=hist },_,_,_,_,rfl,⟨_,_,_,_,rfl,(ck.moves aF.moves).mv hm H.rt,(ck.moves aO.moves).mv hm H.rd,(ck.moves aN.moves).mv hm H.rv,(ck.moves lF.moves).mv hm' ah.o⟩,⟨c0,_,g,next,Tc1,rfl,⟨Xx,Tc8⟩,⟨Xz,Tc8⟩,ag.o,rfl,v9.o,rfl,rfl,⟨Tc8,Tc8⟩,hdk.o,ye.o,rfl,Tc8,Zk.o⟩,H.src.keep fun i hi=>kk i Tc1,(aB.o.trans H.str).trans hst,Tc1,fun k h1 h2=>?_⟩
    rw[kk k Tc1,H.old k Tc1 h2];exact Xy.o k Tc1
   have aQ:decide ((0:Int)<(c:Int))=true:=by simp;omega
   go_upto_region 25 with(fail);refine wG H Tc1 Tc1 _ (aa ?_);intro aR bh u163 u164 u165 u166 u167 u168 u169 u170 u171 u172 u173 u174 u175 u176 u177 H3;clear H;replace H3:=aa H3;go_wp2;go_roundw
   case rel =>
    refine⟨c-1,aR,hist++[(BQ,(c:Int),(c:Int))],Tc6,Tdg,fun x hx=>?_,H3.o⟩;rcases AS.1 hx with q|q
    ·exact Zk.o x q
    exact⟨c,Tc1,Tc1,by simpa using q⟩
   simp[intOf];omega
  have hd1:decide ((0:Int)<(c:Int))=true:=by simp;omega
  have z1:(0:Int)<=(c:Int):=by omega
  have z2:(c:Int)<5:=by omega
  have aS:wr.cell? (NB,c)=some (.string (letter c)):=by
   simp only[AN,XC];rcases(show c=1\/c=2\/c=3\/c=4 by omega)with rfl|rfl|rfl|rfl<;>rfl
  clear XC;go_wp2_with fail;refine(bY bs 8 _ Tc1 Tc1 P.bld.src).mono ?_;rintro e ai ⟨kv,rfl,Xo,Xp,hs,hm⟩;obtain⟨k,rfl⟩:∃u:Nat,kv=u:=⟨kv.toNat,Tc1⟩;have P2:=P.read hs hm;clear hs hm P aS
  by_cases hk3:k<3
  ·have hd2:decide ((k:Int)<3)=true:=by simp;omega
   obtain⟨dp,ir,c7,l1,l2⟩:=P2.bld.c7;rw[K2]at c7 l1;go_wp2_with fail;refine(bY bs (nd:Int) _ Tc1 Tc1 P2.bld.src).mono ?_;rintro e av ⟨Zm,rfl,aT,aU,hs,hm⟩;obtain⟨dd,rfl⟩:∃u:Nat,Zm=u:=⟨Zm.toNat,Tc1⟩;have P3:=P2.read hs hm;clear hs hm P2 c7
   go_wp2_with fail;refine(bO bs 1 4 _ Tc1 Tc1 Tc1 P3.bld.src).mono ?_;rintro e bi ⟨n,rfl,hn1,hn2,hs,hm⟩;have P4:=P3.read hs hm;clear hs hm P3;go_wp2_with fail;refine(qw _ bs (R+1) nv' pA g next _ P4.bld hk (letter c) false dd n Tc1 hn1 Tc1).mono ?_;rintro e bj (⟨rfl,Q⟩|⟨on,s,next1,Ds,DB,rfl,Q,hT⟩)
   ·have Q2:=P4.trans Q;clear P4 Q;go_wp2;go_roundw;exact⟨c-1,_,_,_,_,Tdg,ye.o.next Tc1 (.linF),Q2⟩;simp[intOf];omega
   have Q2:=P4.trans Q;clear P4;obtain⟨vb,vc,sb,rfl,a8⟩:=hT;have aV:BOk { g with next:=g.next+1,F9:=g.F9++[eD (letter c) (oX g.id (g.next+1)) false n on s] } next1:=⟨DB.ok S7,Tc8,Tc8,Tc6⟩
   replace DB:=aa DB;go_upto_region 19 with(fail);refine wN Q.bld aV rfl rfl ⟨hn1,hn2⟩ a8 _ _ _ _ _ _ _ _ _ _ _ _ _ _ _ _ _ _ _ _ _ _ _ _ _ _ _ _ _ _ _ _ _ _ _ _ _ _ _ _ _ _ _ _ _ _ _ _ _ _ _ _ _ _ _ _ _ _ _ _ _ _ _ _ _ _ _ _ _ _ _ _ _ _ _ _ _ _ _ _ _ _ _ _ _ _ _ _ _ _ _ _ _ _ _ _ _ _ _ _ _ _ _ _ _ _ _ _ _ _ _ _ _ _ _ _ _ _ _ _ _ _ _ _ _ _ _ _ _ _ _ _ _ _ _ _ _ _ _ _ _ _ _ _ _ _ _ _ _ _ _ _ _ _ _ _ _ _ _ _ _ _ _ _ _ _ _ _ _ _ _ _ _ _ _ _ _ _ _ _ _ _ (fun _ _ _ _ _ h=>h) (aa ?_);intro Gf ps aw bl u122 u123 u124 u125 u126 u127 u128 u129 u130 u131 u132 u133 u134 u135 u136 u137 u138 u139 u140 u141 u142 u143 u144 u145 u146 u147 u148 u149 u150 Xw GF XF v9 Q3;have Q4:=Q2.trans Q3;clear Q Q2 Q3 a8;go_wp2;go_roundw;exact⟨c-1,_,_,_,_,Tdg,ye.o.next Tc1 (.lin ⟨hn1,hn2⟩ DB.o Xw GF XF v9),Q4⟩;simp[intOf];omega
  have hd2:decide ((k:Int)<3)=false:=by simp;omega
  by_cases hk33:k=3
  ·subst hk33;go_wp2_with fail;refine(vX _ bs (R+1) nv' pA g next _ P2.bld hk (letter c)).mono ?_;rintro e av ⟨rfl,Q⟩;have HQ:=aa Q;clear Q;go_wp2;go_roundw
   case rel =>
    rcases HQ.o with⟨ps,next1,DB,Q⟩|⟨k,n,al,next1,Ds,q1,q2,q3,q4,q5,q6,DB,Q⟩
    ·exact⟨c-1,_,_,_,_,Tdg,ye.o.next Tc1 (.strF DB),P2.trans Q⟩
    exact⟨c-1,_,_,_,_,Tdg,ye.o.next Tc1 (.str ⟨q1,q2⟩ ⟨q3,q4⟩ q5 q6 DB),P2.trans Q⟩
   simp[intOf];omega
  have bm:((k:Int)==3)=false:=by simp;omega
  obtain⟨j,rfl⟩:∃j:Nat,k=j+4:=⟨k-4,Tc1⟩
  obtain⟨kind,UK,AK⟩:∃kind:Int,([3,4,5,7]:List Int)[j]?=some kind/\(kind=3\/kind=4\/kind=5\/kind=7):=by
   rcases(show j=0\/j=1\/j=2\/j=3 by omega)with rfl|rfl|rfl|rfl
   ·exact⟨3,rfl,Tc1⟩
   ·exact⟨4,rfl,Tc1⟩
   ·exact⟨5,rfl,Tc1⟩
   exact⟨7,rfl,Tc1⟩
  have QO:(ai.alloc (.cells #[.int .i64 3,.int .i64 4,.int .i64 5,.int .i64 7] 3)).cell? (ai.1.size,j)=some (.int .i64 kind):=by have q:=mo ai 3 [3,4,5,7] j kind UK;simpa using q
  replace UK:=aa UK;have e4:((j+4:Nat):Int)-4=(j:Int):=by omega
  have z3:(0:Int)<=(j:Int):=by omega
  have z4:(j:Int)<4:=by omega
  have P3:=P2.after (ae ai (.cells #[.int .i64 3,.int .i64 4,.int .i64 5,.int .i64 7] 3));clear P2;go_wp2_with fail;refine(vO _ bs (R+1) nv' pA g next _ P3.bld hk (letter c) (by show(1:Nat)<=100;omega) kind AK Tc1 Tc1 Tc1 Tc1).mono ?_;rintro e av ⟨rfl,Q⟩;have HQ:=aa Q;clear Q QO;go_wp2;go_roundw
  case rel =>
   rcases HQ.o with⟨j1,GC,Ds,q1,Q⟩|⟨n,names,lengths,x,ps,vl,ro,bp,k1,j1,tl,next1,Ds,q1,q2,q3,q4,q5,q6,q7,q8,q9,Q⟩
   ·exact⟨c-1,_,_,_,_,Tdg,ye.o.next Tc1 (.compF q1),P3.trans Q⟩
   exact⟨c-1,_,_,_,_,Tdg,ye.o.next Tc1 (.comp AK ⟨q1,q2⟩ q3 q4 q5 q6 q7 q8 q9),P3.trans Q⟩
  simp[intOf];omega
 have aE:decide ((0:Int)<(c:Int))=true:=by simp;omega
 obtain⟨dp,ir,Xt,hd1,hd2⟩:∃p q,dv=.slice p Gb.length q/\Gb.length<=q/\q<=9223372036854775807:=by
  obtain⟨p,q,e,h1,h2,_⟩:=D.ownD.rd aO.moves Tc4 (ok':=fun _=>True) (fun _ _ _=>trivial) (fun _ _=>trivial);exact⟨p,q,by injection e,h1,h2⟩
 subst Xt;have aW:=cr D.blk 7 _ rfl;generalize hM:Gb.length=M at *;go_upto_region 8 with(fail);clear aW;refine yY D hM Tc1 _ _ _ _ _ _ _ _ _ _ _ _ _ _ _ _ _ _ _ _ _ _ _ _ _ _ _ _ _ _ _ _ _ _ _ _ _ _ _ _ _ _ _ _ _ _ _ _ _ _ _ _ _ _ _ _ _ _ _ _ _ _ _ _ _ _ _ _ _ _ _ _ _ _ _ _ _ _ _ _ _ _ _ _ _ _ _ _ _ _ _ _ _ _ _ _ _ _ _ _ _ _ _ _ _ _ _ _ _ _ _ _ _ _ _ _ _ _ _ _ _ _ _ _ _ _ _ _ _ _ _ _ _ _ _ _ _ _ _ _ _ _ _ _ _ _ _ _ _ _ _ _ _ _ _ _ _ _ _ _ _ _ _ _ _ _ _ _ _ _ _ _ _ _ _ _ _ _ _ _ (fun _ _ _ _ _ h=>h) (aa ?_);intro Xs D' w9 u41 u42 u43 u44 u45 u46 u47 u48 u49 u50 u51 u52 u53 u54 u55 u56 u57 u58 u59 u60 u61 u62 u63 u64 u65 u66 u67 u68 u69 u70 u71 u72 u73 u74 u75 aX D9;clear D;go_upto_region 9 with(fail);refine yj D9 Tc6 _ (aa ?_);intro nv' am u76 u77 u78 u79 u80 u81 u82 u83 u84 aj;clear D9;replace aj:=aa aj;go_wp2;go_roundw
 case rel =>
  have hle:(Gb++[D']).length=M+1:=by simp[hM]
  refine⟨c-1,Xs,nv',Gb++[D'],Tc1,Tdg,fun k E hE=>?_,?_⟩
  ·by_cases hk:k<M
   ·rw[Fo Tc1]at hE;exact hdk.o k E hE
   have hk2:k=M:=by have:=(AT.1 hE).1;omega
   subst hk2;rw[<- hM,List.getElem?_concat_length]at hE;injection hE with hE;rw[<- hE];exact aX
  rw[hle,List.replicate_succ'];exact aj.o
 simp[intOf];omega
def xe(s:aB):Prop:=(0<=s.length/\s.length<=1000000)/\s.Ga.length<=1000/\(fP s->∀a∈s.Ga,a.vol=false)
def uC(v:ay):Prop:=v.Gf.length<=1000/\∀s∈v.Gf,xe s
def TdS{p:Prop}(h:p:=by simp[dE]):p:=h
def uE(n:Int)(on:ByteArray)(s:Int)(h:0<=n/\n<=1000):xe (dE n on s):=⟨TdY,TdS,fun _ a ha=>by
 obtain rfl:a=⟨false,on,s⟩:=by simpa[dE]using ha
 rfl⟩
theorem BJ(name:ByteArray)(id:Int)(hd:Bool)(n:Int)(on:ByteArray)(s:Int)(h:0<=n/\n<=1000):uC (eD name id hd n on s):=⟨by simp[eD],fun x hx=>by
 obtain rfl:x=dE n on s:=by simpa[eD]using hx
 exact uE n on s h⟩
def Tdm{p:Prop}(h:p:=by simp[aV]):p:=h
def fB.ok(h:fB l l')(hl:∀s∈l,xe s):∀s∈l',xe s:=by
 induction h with
 |nil=>exact hl
 |void _ hn hk ih =>
  intro s hs;rcases AS.1 hs with q|q
  ·exact ih s q
  obtain rfl:=AM.1 q;exact⟨Tdt,Tdm,fun _ a ha=>by simp[aV]at ha⟩
 |lin _ hn ih =>
  intro s hs;rcases AS.1 hs with q|q
  ·exact ih s q
  obtain rfl:=AM.1 q;refine⟨Tdt,Tdm,fun _ a ha=>?_⟩;simp only[aV,dr,cY,dg]at ha;rw[ha]
 |move _ hn _ ih =>
  intro s hs;rcases AS.1 hs with q|q
  ·exact ih s q
  obtain rfl:=AM.1 q;refine⟨Tdt,Tdm,fun _ a ha=>?_⟩;simp only[aV,dr,cY,dg]at ha;rcases ha with rfl|rfl<;>rfl
theorem lD.ok(h:lD id c ns ls ps vl)(hl:∀l∈ls,1<=l/\l<=1000):∀v∈vl,uC v:=by
 induction h with
 |nil=>intro v hv;cases hv
 |snoc h ih =>
  intro v hv;rcases AS.1 hv with q|q
  ·exact ih (fun l a5=>hl l (ju _ a5)) v q
  obtain rfl:=AM.1 q;have:=hl _ (P9 _ (AM.2 rfl));exact BJ _ _ _ _ _ _ Tc1
theorem iO.ok(h:iO id name k c j tl):∀v∈tl,uC v:=by
 induction h with
 |nil=>intro v hv;cases hv
 |snoc h hl ih =>
  intro v hv;rcases AS.1 hv with q|q
  ·exact ih v q
  obtain rfl:=AM.1 q;refine⟨by simp[jY],fun s hs=>?_⟩;obtain rfl:=AM.1 hs;exact⟨Tc8,Tc2,fun _ a ha=>by simp at ha⟩
def iU.seg{e n:Int}{kind:Int}{names:List ByteArray}{lengths:List Int}{x:aB}(h:iU e n name kind names lengths x)(hn:1<=n/\n<=3):xe x:=by
 have nd:∀k:Int,k=3\/k=4\/k=5\/k=7->¬(k=1\/k=2\/k=8):=fun k h=>by omega
 cases h with
 |mirror k hk c hc st hst=>exact⟨Tc8,Tdu,fun q=>absurd q (nd 3 Tc1)⟩
 |mirrorLog k hk c hc st hst=>exact⟨Tc8,Tdu,fun q=>absurd q (nd 3 Tc1)⟩
 |parity k hk c hc =>
  refine⟨?_,Tdu,fun q=>absurd q (nd 4 Tc1)⟩;dsimp only;rcases(show n=1\/n=2\/n=3 by omega)with rfl|rfl|rfl<;>omega
 |pool l c hl hc=>exact⟨Tc8,by simp[gB],fun q=>absurd q (nd 5 Tc1)⟩
 |cache l m c hl hm hc=>exact⟨Tc8,by simp[gB],fun q=>absurd q (nd 7 Tc1)⟩
def Tef{p:Prop}(h:p:=by simp only[ic];omega):p:=h
def iy.ok{next:List Int}(h:iy name g next g' next')(he:1<=g.Gd/\g.Gd<=16)(hv:∀v∈g.F9,uC v):∀v∈g'.F9,uC v:=by
 cases h with
 |linF=>exact hv
 |lin hn h1 hm hl h2 hs =>
  intro v a5;rcases AS.1 a5 with q|q
  ·exact hv v q
  obtain rfl:=AM.1 q;exact⟨Tc8,hm.ok fun s hs=>by obtain rfl:=AM.1 hs;exact uE _ _ _ Tc1⟩
 |strF h=>exact hv
 |@str k n al next' hk hn hl ha h =>
  intro v a5;rcases AS.1 a5 with q|q
  ·exact hv v q
  obtain rfl:=AM.1 q;refine⟨by simp[rA],fun s hs=>?_⟩;obtain rfl:=AM.1 hs;refine⟨?_,Tef,fun _ a h=>ha a (by simpa[ic]using h)⟩;simp only[ic];rcases(show n=1\/n=2 by omega)with rfl|rfl<;>omega
 |compF h=>exact hv
 |comp AK hn hR hH hT ht hk hk5 hth =>
  intro v a5;have hl:=(hR.ok he.1 he.2 hn.1 hn.2).2.2;rcases AS.1 a5 with q|q
  ·rcases AS.1 q with q|q
   ·rcases AS.1 q with q|q
    ·exact hv v q
    exact hH.ok hl v q
   obtain rfl:=AM.1 q;exact⟨Tc2,fun s hs=>by obtain rfl:=AM.1 hs;exact hR.seg hn⟩
  exact hth.ok v q
def bZ.ok{c:Nat}(h0:g0.F9=[]/\g0.next=0)(he:1<=g0.Gd/\g0.Gd<=16)(hd:DOk g0.Gb n0){next:List Int}(h:bZ c g0 n0 i g next):∀v∈g.F9,uC v:=by
 induction h with
 |nil=>rw[h0.1];intro v hv;cases hv
 |@step i g g' next next' h hs ih=>exact hs.ok (by rw[(bZ.bd h0 he hd h).same.2.2.2.1];exact he) ih
def fZ.bd{Gb:List az}{a b:List Int}(h:fZ Gb a ps b)(k:DOk Gb a):∀q∈ps,0<=q.2.1/\q.2.1<=1000:=by
 induction h with
 |nil=>intro q hq;cases hq
 |snoc h hd hm h1 h2 h3 ih =>
  intro q hq;rcases AS.1 hq with q1|q1
  ·exact ih q q1
  obtain rfl:=AM.1 q1;have:=(h.ok k).nx _ _ hm;have:=(h.ok k).ext _ (ct hd);dsimp only;omega
def fB.tail(h:fB l l'):∃r,l'=l++r/\∀x∈r,x.kind≠2/\x.Ga.length<=2:=by
 induction h with
 |nil=>exact⟨[],Tc2,fun x hx=>by cases hx⟩
 |@void l' n kind _ hn hk ih =>
  obtain⟨r,e,h⟩:=ih;refine⟨r++[aV (bg l') n kind [] 0],by rw[e,cV],fun x hx=>?_⟩;rcases AS.1 hx with q|q
  ·exact h x q
  obtain rfl:=AM.1 q;exact⟨Tdt,Tdm⟩
 |@lin l' n s on _ hn ih =>
  obtain⟨r,e,h⟩:=ih;refine⟨r++[aV (bg l') n 1 [⟨false,on,s⟩] 0],by rw[e,cV],fun x hx=>?_⟩;rcases AS.1 hx with q|q
  ·exact h x q
  obtain rfl:=AM.1 q;exact⟨Tdm,Tdm⟩
 |@move l' n s s' dn on on' _ hn hd ih =>
  obtain⟨r,e,h⟩:=ih;refine⟨r++[aV (bg l') n 8 [⟨false,on,s⟩,⟨false,on',s'⟩] dn],by rw[e,cV],fun x hx=>?_⟩;rcases AS.1 hx with q|q
  ·exact h x q
  obtain rfl:=AM.1 q;exact⟨Tdm,Tdm⟩
def zg(v:ay):Prop:=(∀p∈aW v,0<=p.start/\p.start<=1000)/\(aW v).length<=12
def jq(name:ByteArray)(s:aB):(aK name s).length<=s.Ga.length:=by
 unfold aK;split<;>simp
def gK{s:aB}{p:gy}(h:p∈aK name s):fP s/\∃a∈s.Ga,p=aJ name s a:=by
 unfold aK at h;split at h
 ·rename_i ho;obtain⟨a,ha,rfl⟩:=As.1 h;exact⟨ho,a,ha,rfl⟩
 cases h
def gV{α β:Type}(f:α->List β)(m:Nat):∀l:List α,(∀x∈l,(f x).length<=m)->(l.flatMap f).length<=l.length*m
 |[],_=>by simp
 |x :: l,h=>by
  have h1:=h x (cG ..);have h2:=gV f m l fun y hy=>h y (kn _ hy);rw[lB,cD,cS,Oy];omega
def Td3{p:Prop}(h:p:=by rw[e];simp):p:=h
def um{v:ay}(h:∀s∈v.Gf,¬fP s):zg v:=by
 have e:aW v=[]:=List.eq_nil_iff_forall_not_mem.2 fun p hp=>by
  obtain⟨s,hs,hp⟩:=BY.1 hp;exact h s hs (gK hp).1
 exact⟨(by rw[e];intro p hp;cases hp),Td3⟩
theorem DU(name:ByteArray)(id:Int)(hd:Bool)(n:Int)(on:ByteArray)(s:Int)(h:0<=s/\s<=1000):zg (eD name id hd n on s):=by
 refine⟨fun p hp=>?_,?_⟩
 ·obtain⟨x,hx,hp⟩:=BY.1 hp;obtain rfl:=AM.1 hx;obtain⟨_,a,ha,rfl⟩:=gK hp;obtain rfl:=AM.1 ha;exact h
 have:=gV (aK name) 1 [dE n on s] fun x hx=>by obtain rfl:=AM.1 hx;exact jq _ _
 exact cA this Tc2
theorem lD.pc(h:lD id c ns ls ps vl)(hl:∀q∈ps,0<=q.2.1/\q.2.1<=1000):∀v∈vl,zg v:=by
 induction h with
 |nil=>intro v hv;cases hv
 |snoc h ih =>
  intro v hv;rcases AS.1 hv with q|q
  ·exact ih (fun l a5=>hl l (ju _ a5)) v q
  obtain rfl:=AM.1 q;exact DU _ _ _ _ _ _ (hl _ (P9 _ (AM.2 rfl)))
theorem iO.pc(h:iO id name k c j tl):∀v∈tl,zg v:=by
 induction h with
 |nil=>intro v hv;cases hv
 |snoc h hl ih =>
  intro v hv;rcases AS.1 hv with q|q
  ·exact ih v q
  obtain rfl:=AM.1 q;refine um fun s hs=>?_;obtain rfl:=AM.1 hs;rintro(q|q|q)<;>simp at q
def iy.pc{next:List Int}(h:iy name g next g' next')(hk:DOk g.Gb next)(hv:∀v∈g.F9,zg v):∀v∈g'.F9,zg v:=by
 cases h with
 |linF=>exact hv
 |@lin n s on next1 next' Gf ps hn h1 hm hl h2 hs =>
  intro v a5;rcases AS.1 a5 with q|q
  ·exact hv v q
  obtain rfl:=AM.1 q;obtain⟨r,e,hr⟩:=hm.tail;subst e;have b1:=h1.bd hk _ (AM.2 rfl);have b2:=h2.bd (h1.ok hk);simp only[cD,cS,Ox]at hl;refine⟨fun p hp=>?_,?_⟩
  ·obtain⟨x,hx,hp⟩:=BY.1 hp;obtain⟨ho,a,ha,rfl⟩:=gK hp;rcases AS.1 hx with hx|hx
   ·obtain rfl:=AM.1 hx;obtain rfl:=AM.1 ha;exact b1
   have hk2:=(hr x hx).1;have OU:x.kind=1\/x.kind=8:=by
    rcases ho with q|q|q
    ·exact .inl q
    ·exact absurd q hk2
    exact .inr q
   refine b2 (a.on,a.start,x.length) (hs.subset ?_);refine BY.2 ⟨x,hx,?_⟩;unfold iG;rw[aw OU];exact As.2 ⟨a,ha,rfl⟩
  have:=gV (aK name) 2 ([dE n on s]++r) fun x hx=>by
   refine cA (jq _ _) ?_;rcases AS.1 hx with hx|hx
   ·obtain rfl:=AM.1 hx;simp[dE]
   exact(hr x hx).2
  refine cA this ?_;simp only[cD,cS,Ox];omega
 |strF h=>exact hv
 |@str k n al next' hk' hn hl ha h =>
  intro v a5;rcases AS.1 a5 with q|q
  ·exact hv v q
  obtain rfl:=AM.1 q;have b:=h.bd hk;refine⟨fun p hp=>?_,?_⟩
  ·obtain⟨x,hx,hp⟩:=BY.1 hp;obtain rfl:=AM.1 hx;obtain⟨_,a,a7,rfl⟩:=gK hp;exact b (a.on,a.start,n) (As.2 ⟨a,by simpa[ic]using a7,rfl⟩)
  have:=gV (aK name) 3 [ic k n al] fun x hx=>by
   obtain rfl:=AM.1 hx;refine cA (jq _ _) ?_;simp only[ic];omega
  exact cA this Tc2
 |compF h=>exact hv
 |comp AK hn hR hH hT ht hk' hk5 hth =>
  intro v a5;rcases AS.1 a5 with q|q
  ·rcases AS.1 q with q|q
   ·rcases AS.1 q with q|q
    ·exact hv v q
    exact hH.pc (hT.bd hk) v q
   obtain rfl:=AM.1 q;refine um fun s hs=>?_;obtain rfl:=AM.1 hs;cases hR<;>(rintro(q|q|q)<;>simp at q)
  exact hth.pc v q
def bZ.pc{c:Nat}(h0:g0.F9=[]/\g0.next=0)(he:1<=g0.Gd/\g0.Gd<=16)(hd:DOk g0.Gb n0){next:List Int}(h:bZ c g0 n0 i g next):∀v∈g.F9,zg v:=by
 induction h with
 |nil=>rw[h0.1];intro v hv;cases hv
 |@step i g g' next next' h hs ih =>
  have b:=bZ.bd h0 he hd h;exact hs.pc (by rw[b.same.2.2.2.2.2.1];exact b.dk) ih
structure Fv(g:af):Prop where
 dl:g.Gb.length<=4
 dtags:∀D∈g.Gb,D.tags.length<=1000
 dext:∀D∈g.Gb,0<=D.Gc/\D.Gc<=60
 dfind:∀(i:Nat) (D:az),g.Gb[i]?=some D->bH g.Gb D.name=some D
 vl:g.F9.length<=44
 tame:qx g.F9
 ps:∀p∈pieces g.F9,0<=p.start/\p.start<=1000
 pn:(pieces g.F9).length<=1000
def Fq(hi:i<=3)(hj:j<=3)(h:pvT++digit i=pvT++digit j):i=j:=by
 have h2:=fj (fun b:ByteArray=>b.data.toList) h;rcases(show i=0\/i=1\/i=2\/i=3 by omega)with rfl|rfl|rfl|rfl<;>rcases(show j=0\/j=1\/j=2\/j=3 by omega)with rfl|rfl|rfl|rfl<;>first|rfl|(exfalso;revert h2;decide)
def TcB{p:Prop}(h:p:=by
 obtain⟨k,hk⟩:=fc hD;have:=(hdk k D hk).ext;simp only[dr,cY,dg]at this;omega):p:=h
def sU.tame(h:sU g):Fv g:=by
 obtain⟨c,g0,g1,next,hc,_,_,_,a9,a5,_,hv0,_,CD,hdk,ye,hg,_,_⟩:=h.ex;have a7:1<=g0.Gd/\g0.Gd<=16:=by
  simp only[dr,cY,dg]at a9;omega
 have vu:∀D∈g0.Gb,0<=D.Gc/\D.Gc<=60:=fun D hD=>by
  exact TcB
 have a8:DOk g0.Gb (DE g0.Gb.length 0):=⟨Tc2,Tc1,Tc1,fun D hD=>by have:=vu D hD;omega,fun d m hm=>by
  have:=ct hm;rw[tM]at this;omega⟩
 have b:=bZ.bd ⟨hv0,a5⟩ a7 a8 ye;have ok:=bZ.ok ⟨hv0,a5⟩ a7 a8 ye;have pc:=bZ.pc ⟨hv0,a5⟩ a7 a8 ye;have ed:g.Gb=g0.Gb:=by rw[hg];exact b.same.2.2.2.2.2.1
 have ev:g.F9=g1.F9:=by rw[hg]
 have mb:=b.F9;have S8:g1.F9.length<=44:=by omega
 refine⟨by rw[ed];omega,fun D hD=>?_,fun D hD=>vu D (ed ▸ hD),fun i D hD=>?_,by rw[ev];exact S8,by rw[ev];exact ok,fun p hp=>?_,?_⟩
 ·rw[ed]at hD;obtain⟨k,hk⟩:=fc hD;have:=(hdk k D hk).tags.length_le;have e:iQ.length=4:=rfl;omega
 ·rw[ed]at hD ⊢;have hi:=(AT.1 hD).1;refine pR (k:=i) (fun j E hj hE e=>?_) hD rfl;rw[(hdk j E hE).name,(hdk i D hD).name]at e;have:=Fq Tc1 Tc1 e;omega
 ·rw[ev]at hp;obtain⟨v,hv,hp⟩:=BY.1 hp;exact(pc v hv).1 p hp
 rw[ev];have:=gV aW 12 g1.F9 fun v hv=>(pc v hv).2;unfold pieces;omega
def Mg:∀(x:List (Int × Int)) (lo hi:Int),lo<=hi->(∀p∈x,1<=p.2)->x.Pairwise (fun p q=>p.1+p.2<q.1)->(∀p∈x,lo<=p.1/\p.1+p.2<=hi)->0<=Aw x/\Aw x<=hi-lo
 |[],lo,hi,h,_,_,_=>by simp[Aw];omega
 |p :: l,lo,hi,h,h1,h2,h3=>by
  have b:=h3 p (cG ..);have c:=h1 p (cG ..);rw[IN]at h2;have:=Mg l (p.1+p.2) hi Tc1 (fun q hq=>h1 q (kn _ hq)) h2.2 (fun q hq=>⟨by have:=h2.1 q hq;omega,(h3 q (kn _ hq)).2⟩);simp only[Aw,iu,List.sum_cons]at this ⊢;omega
def iE.sum_bd{x:List (Int × Int)}{S:Int->Prop}{ext:Int}(h:iE x S)(he:0<=ext)(hS:∀n,S n->0<=n/\n<ext):0<=Aw x/\Aw x<=ext:=by
 have:=Mg x 0 ext he h.1.1 h.1.2 fun p hp=>by
  have c:=h.1.1 p hp;have h1:=hS _ ((h.2 p.1).1 ⟨p,hp,Tc1,Tc1⟩);have h2:=hS _ ((h.2 (p.1+p.2-1)).1 ⟨p,hp,Tc1,Tc1⟩);omega
 omega
def UU(a k:Int):Int:=bits BinOp.or IntKind.u64 a (IntKind.u64.wrap (2 ^ k.toNat))
def wD(s:Int × Int)(c:Int):Int × Int:=if c<64 then(UU s.1 (c%64),s.2) else(s.1,UU s.2 (c%64))
def gz(w:World)(b:Nat)(s:Int × Int):Prop:=w.1[b]?=some (.cells #[.int .u64 s.1,.int .u64 s.2] 160 (0,0))
def pQ(c:Int)(s:Int × Int)(b:Nat)(w:World)(h0:0<=c)(h1:c<128)(hb:gz w b s) :
  Calls prog 159 #[.int .u8 c,.pointer (some b)] w fun e w'=>e=.returned (.tuple #[])/\gz w' b (wD s c)/\cR (fun i=>i=b) w w':=by
 have c0:w.cell? b=some (.int .u64 s.1):=by simp[AN,show w.1[b]?=_ from hb]
 have f0:w.frozen? b=false:=by simp[BT,show w.1[b]?=_ from hb]
 have c1:w.cell? (Tac b 1)=some (.int .u64 s.2):=by simp[AN,show w.1[b]?=_ from hb]
 have f1:w.frozen? (Tac b 1)=false:=by simp[BT,show w.1[b]?=_ from hb]
 replace hb:=aa hb;by_cases hc:c<64
 ·have hq:c/64=0:=by omega
  go_enter func159,ntmps159;go_wp2
  go_end0
  refine⟨rfl,?_,(cR.refl (fun i=>i=b) w).setCell (p:=b) (.inl rfl) _⟩;have:=block_setCell (i:=0) (.int .u64 (UU s.1 (c%64))) hb.o;unfold gz wD;rw[aw hc];exact this
 have hq:c/64=1:=by omega
 go_enter func159,ntmps159;go_wp2
 go_end0
 refine⟨rfl,?_,(cR.refl (fun i=>i=b) w).setCell (p:=⟨b,1,none⟩) (.inl rfl) _⟩;have:=block_setCell (i:=1) (.int .u64 (UU s.2 (c%64))) hb.o;unfold gz wD;rw[bh Tc1];exact this
def mK:Nat->Int × Int
 |0=>(0,0)
 |k+1=>wD (wD (mK k) (97+k)) (65+k)
def BI(s:Int × Int):Nat->Int × Int
 |0=>s
 |k+1=>wD (BI s k) (48+k)
def xE(s:Int × Int)(l:List UInt8):Int × Int:=l.foldl (fun s c=>wD s c.toNat) s
def setS(l:List UInt8):Int × Int:=xE (BI (mK 26) 10) l
def gz.lt{w:World}{b:Nat}{s:Int × Int}(h:gz w b s):b<w.1.size:=aq h
def yD(s:Int × Int)(l:List UInt8)(k:Nat)(c:UInt8)(h:l[k]?=some c):xE s (l.take (k+1))=wD (xE s (l.take k)) c.toNat:=by
 rw[take_snoc' l k c h,xE,List.foldl_append];rfl
def Tem{p:Prop}(h:p:=by intro i hi;omega):p:=h
def qy(s:ByteArray)(w:World)(hl:∀c∈s.data.toList,c.toNat<128)(hn:s.size<=100) :
  Calls prog 110 #[.string s] w fun e w'=>e=.returned (.agg #[.int .u64 (setS s.data.toList).1,.int .u64 (setS s.data.toList).2])/\Below w.1.size w w':=by
 replace hl:=aa hl;go_enter func110,ntmps110;go_wp2
 go_loopw[5] (fun c wr=>∃k:Nat,k<=26/\c=.int .u8 (97+k)/\gz wr (w.1.size+1) (mK k)/\gz wr w.1.size (0,0)/\Below w.1.size w wr) (fun c _=>123-(intOf c).toNat)
 case atStart =>
  refine⟨0,Tc1,rfl,?_,?_,((bj _ _).alloc (bk _) _).alloc Tc2 _⟩
  ·have:=b9 (w.alloc (.cells #[.int .u64 0,.int .u64 0] 160)) (.cells #[.int .u64 0,.int .u64 0] 160);rw[cW]at this;exact this
  exact(cj _ _ _ Tc2).trans (b9 w _)
 obtain⟨k,hk,rfl,hs,hr,hB⟩:=hrel;have HR:=aa hr;clear hr;have HS:=aa hs;clear hs;by_cases hlt:k<26
 ·go_wp2_with fail;refine(pQ (97+(k:Int)) (mK k) _ _ Tc1 Tc1 HS.o).mono ?_;rintro e w1 ⟨rfl,hs1,a5⟩;have XO:Hid (gz w1 w.1.size (0,0)):=aa ((a5.block _ HR.o.lt Tc1).trans HR.o);have a8:=aa hs1;clear hs1;have a7:Below w.1.size w w1:=hB.trans (a5.below hB.size Tem);clear hB a5;go_wp2_with fail;refine(pQ (97+(k:Int)-97+65) _ _ _ Tc1 Tc1 a8.o).mono ?_;rintro e w2 ⟨rfl,hs2,ae⟩;have E3:Hid (gz w2 w.1.size (0,0)):=aa ((ae.block _ XO.o.lt Tc1).trans XO.o);replace hs2:=aa hs2;have af:Below w.1.size w w2:=a7.trans (ae.below a7.size Tem);clear a7 ae;go_wp2;go_roundw
  case rel =>
   refine⟨k+1,Tc1,Tc5,?_,E3.o,af⟩;have:=hs2.o;rw[show(97+(k:Int)-97+65)=65+k from by omega]at this;exact this
  simp[intOf];omega
 have a9:Hid (gz wr (w.1.size+1) (mK 26)):=aa (by have:=HS.o;rwa[show k=26 from by omega]at this);clear HS;have HS:=a9;go_wp2;go_loopw[6] (fun c wr=>∃k:Nat,k<=10/\c=.int .u8 (48+k)/\gz wr (w.1.size+1) (BI (mK 26) k)/\gz wr w.1.size (0,0)/\Below w.1.size w wr) (fun c _=>58-(intOf c).toNat)
 exact⟨0,Tc1,rfl,HS.o,HR.o,hB⟩;clear HR HS hB a9;have ag:=hk;clear hk;rename_i hlt26;obtain⟨k,hk,rfl,hs,hr,hB⟩:=hrel;have HR:=aa hr;clear hr;have HS:=aa hs;clear hs;by_cases hlt:k<10
 ·go_wp2_with fail;refine(pQ (48+(k:Int)) _ _ _ Tc1 Tc1 HS.o).mono ?_;rintro e w1 ⟨rfl,hs1,a5⟩;have XO:Hid (gz w1 w.1.size (0,0)):=aa ((a5.block _ HR.o.lt Tc1).trans HR.o);have a8:=aa hs1;clear hs1;have a7:Below w.1.size w w1:=hB.trans (a5.below hB.size Tem);clear hB a5;go_wp2;go_roundw;exact⟨k+1,Tc1,Tc5,a8.o,XO.o,a7⟩;simp[intOf];omega
 have ab:Hid (gz wr (w.1.size+1) (BI (mK 26) 10)):=aa (by have:=HS.o;rwa[show k=10 from by omega]at this);clear HS;have HS:=ab;go_wp2;go_loopw[30,7] (fun i _ wr=>∃k:Nat,k<=s.size/\i=.int .i64 k/\gz wr (w.1.size+1) (xE (BI (mK 26) 10) (s.data.toList.take k))/\gz wr w.1.size (0,0)/\Below w.1.size w wr) (fun i _ _=>s.size-(intOf i).toNat)
 exact⟨0,cg _,rfl,HS.o,HR.o,hB⟩;clear HR HS hB ab;have ah:=hk;clear hk;rename_i hlt10;obtain⟨k,hk,rfl,hs,hr,hB⟩:=hrel;have HR:=aa hr;clear hr;have HS:=aa hs;clear hs;by_cases hlt:k<s.size
 ·have hc:s.data.toList[k]?=some s[k]:=by
   rw[lO Teo];rfl
  have ai:=hl.o _ (ct hc);have HM:=aa (yD (BI (mK 26) 10) _ k _ hc);clear hc;go_wp2_with fail;refine(pQ _ _ _ _ Tc1 Tc1 HS.o).mono ?_;rintro e w1 ⟨rfl,hs1,a5⟩;have XO:Hid (gz w1 w.1.size (0,0)):=aa ((a5.block _ HR.o.lt Tc1).trans HR.o);have a8:=aa hs1;clear hs1;have a7:Below w.1.size w w1:=hB.trans (a5.below hB.size Tem);clear hB a5;go_wp2;go_roundw;exact⟨k+1,Tc1,Tc5,by rw[HM.o];exact a8.o,XO.o,a7⟩;simp[intOf];omega
 obtain rfl:k=s.size:=by omega
 have hm:gz wr (w.1.size+1) (setS s.data.toList):=by
  have:=HS.o;rwa[jz Tc2]at this
 have m0:wr.cell? (Tac (w.1.size+1) 0)=some (.int .u64 (setS s.data.toList).1):=by simp[AN,show wr.1[w.1.size+1]?=_ from hm]
 have m1:wr.cell? (Tac (w.1.size+1) 1)=some (.int .u64 (setS s.data.toList).2):=by simp[AN,show wr.1[w.1.size+1]?=_ from hm]
 have f0:wr.frozen? w.1.size=false:=by simp[BT,show wr.1[w.1.size]?=_ from HR.o]
 have f1:wr.frozen? (Tac w.1.size 1)=false:=by simp[BT,show wr.1[w.1.size]?=_ from HR.o]
 have r0:wr.cell? w.1.size=some (.int .u64 0):=by simp[AN,show wr.1[w.1.size]?=_ from HR.o]
 have r1:wr.cell? (Tac w.1.size 1)=some (.int .u64 0):=by simp[AN,show wr.1[w.1.size]?=_ from HR.o]
 clear hm;go_wp2;refine eC (v:=.agg #[.int .u64 (setS s.data.toList).1,.int .u64 (setS s.data.toList).2]) (by simp[results,Tryz.results110,go_sem,r0,r1,m0,m1]) rfl ⟨rfl,(hB.setCell (p:=w.1.size) (bk _) _).setCell (p:=⟨w.1.size,1,none⟩) (bk _) _⟩
def Ei(s:Int × Int)(c:Nat):Bool:=if c<64 then !(bits BinOp.and IntKind.u64 (s.1/2 ^ (c%64)) 1==0) else !(bits BinOp.and IntKind.u64 (s.2/2 ^ (c%64)) 1==0)
def kT(s:Int × Int)(c:UInt8):Bool:=decide (c.toNat<128)&&Ei s c.toNat
def wS(t:Int × Int)(s:ByteArray):Bool:=s.data.toList.all (kT t)
def Tev{p:Prop}(h:p:=by simpa using(List.getElem?_eq_some_iff.1 hj).1):p:=h
theorem zP(t:Int × Int)(s:ByteArray)(w:World)(hn:s.size<=9223372036854775807) :
  Calls prog 111 #[.agg #[.int .u64 t.1,.int .u64 t.2],.string s] w fun e w'=>e=.returned (.bool (wS t s))/\Below w.1.size w w':=by
 have hb:=ae w (.cells #[.int .u64 t.1,.int .u64 t.2] 160);have HB:=aa hb;clear hb;have t0:(w.alloc (.cells #[.int .u64 t.1,.int .u64 t.2] 160)).cell? w.1.size=some (.int .u64 t.1):=aD rfl rfl;have t1:(w.alloc (.cells #[.int .u64 t.1,.int .u64 t.2] 160)).cell? (Tac w.1.size 1)=some (.int .u64 t.2):=aD rfl rfl;go_enter func111,ntmps111;go_wp2;generalize hW:AI w _=W at *;replace hW:=aa hW
 go_loop[9,5,6] (fun i _ _=>∃k:Nat,k<=s.size/\i=.int .i64 k/\(∀j,j<k->∀c,s.data.toList[j]?=some c->kT t c=true)) (fun i _ _=>s.size-(intOf i).toNat)
 exact⟨0,cg _,rfl,fun j hj=>by omega⟩;obtain⟨k,hk,rfl,hall⟩:=hrel;replace hall:=aa hall;by_cases hlt:k<s.size
 ·have hc:s.data.toList[k]?=some s[k]:=by
   rw[lO Teo];rfl
  replace hc:=aa hc;have HU:Hid (∀b:Bool,kT t s[k]=b->∀j,j<k+1->∀c,s.data.toList[j]?=some c->kT t c=b\/kT t c=true):=aa fun b hb j hj c QO=>by
   by_cases hjk:j=k
   ·subst hjk;rw[hc.o]at QO;cases QO
    exact .inl hb
   exact .inr (hall.o j Tc1 c QO)
  have HF:Hid (kT t s[k]=false->wS t s=false):=aa fun hf=>by
   rw[wS,ad2];exact⟨_,ct hc.o,by simp[hf]⟩
  have HI:Hid (kT t s[k]=(decide (s[k].toNat<128)&&Ei t s[k].toNat)):=aa rfl;clear hc;go_upto_region 5 with(fail);generalize a7:kT t s[k]=ib at *;generalize a8:s[k].toNat=c at *;replace a7:=aa a7;replace a8:=aa a8;by_cases h128:(c:Int)<128
  ·by_cases h64:(c:Int)<64
   ·skip;have hq:(c:Int)/64=0:=by omega
    have a5:ib=!(bits BinOp.and IntKind.u64 (t.1/2 ^ (c%64)) 1==0):=by
     rw[HI.o];simp[Ei,show c<128 by omega,show c<64 by omega]
    have nw:=aa a5;clear a5;cases aE2:(bits BinOp.and IntKind.u64 (t.1/2 ^ (c%64)) 1==0)with
    |true =>
     go_wp2;go_ret;refine⟨ah (HF.o ?_).symm,HB.o⟩;rw[nw.o,aE2];rfl
    |false =>
     go_wp2;go_round
     case rel =>
      refine⟨k+1,Tc1,Tc5,fun j hj c hc=>(HU.o _ rfl j hj c hc).elim (fun h=>?_) id⟩;rw[h,nw.o,aE2];rfl
     simp[intOf];omega
   skip;have hq:(c:Int)/64=1:=by omega
   have a5:ib=!(bits BinOp.and IntKind.u64 (t.2/2 ^ (c%64)) 1==0):=by
    rw[HI.o];simp[Ei,show c<128 by omega,show ¬c<64 by omega]
   have nw:=aa a5;clear a5;cases aE2:(bits BinOp.and IntKind.u64 (t.2/2 ^ (c%64)) 1==0)with
   |true =>
    go_wp2;go_ret;refine⟨ah (HF.o ?_).symm,HB.o⟩;rw[nw.o,aE2];rfl
   |false =>
    go_wp2;go_round
    case rel =>
     refine⟨k+1,Tc1,Tc5,fun j hj c hc=>(HU.o _ rfl j hj c hc).elim (fun h=>?_) id⟩;rw[h,nw.o,aE2];rfl
    simp[intOf];omega
  go_wp2;go_ret;refine⟨ah (HF.o ?_).symm,HB.o⟩;rw[HI.o];simp[show ¬c<128 by omega]
 obtain rfl:k=s.size:=by omega
 go_wp2;go_ret;refine⟨ah (Eq.symm ?_),HB.o⟩;rw[wS,eL];intro c hc;obtain⟨j,hj⟩:=fc hc;exact hall.o j Tev c hj
open Go.Shelf
variable {s:ByteArray}{w w':World}{l x:List UInt8}
def vF:Int × Int:=setS [95,46,43,45]
def zB:Int × Int:=setS [95,46,43,45,47,61,58]
def lI(s:ByteArray):UInt8:=s.data.toList.headD 0
def qA(s:ByteArray):Bool:=decide (0<s.size)&&decide (s.size<=40)&&!((lI s).toNat==45)&&!((lI s).toNat==46)&&wS vF s
def mr(s:ByteArray):Bool:=decide (0<s.size)&&decide (s.size<=24)&&!((lI s).toNat==45)&&wS zB s
def Tca{p:Prop}(h:p:=by
 obtain⟨⟨l⟩⟩:=s
 cases l with
 |nil=>exact absurd h (by simp[ByteArray.size])
 |cons a l=>rfl):p:=h
def wH(s:ByteArray)(h:0<s.size):s[0]=lI s:=by
 exact Tca
def oI(h:¬0<s.size):s=⟨#[]⟩:=by
 obtain⟨⟨l⟩⟩:=s;cases l with
 |nil=>rfl
 |cons a l=>exact absurd (by simp[ByteArray.size]) h
def lS(h:0<s.size):s.toList.isEmpty=false:=by
 rw[A6];exact Tca
def TbO{p:Prop}(h:p:=by
 rintro e w2 ⟨rfl,hb2⟩;have cm:=Zbl cU hb2;clear hb2;go_wp2;go_ret;exact⟨ah (by rw[HN.o];rfl),cm.o⟩):p:=h
def Tcm{p:Prop}(h:p:=by
 have h1:(s[0].toNat:Int)=45:=by assumption
 go_ret;exact⟨ah (by rw[HN.o,h1];rfl),bj _ _⟩):p:=h
def Du(s:ByteArray)(w:World)(hs:s.size<=9223372036854775807) :
  Calls prog 174 #[.string s] w fun e w'=>e=.returned (.bool (qA s))/\Below w.1.size w w':=by
 have a7:=aa (fun w=>qy ⟨#[95,46,43,45]⟩ w Tc4 Tc4);by_cases h0:0<s.size
 ·have he:=lS h0;have HH:=aa (wH s h0);by_cases h40:s.size<=40
  ·have HN:Hid (qA s=(!((s[0].toNat:Int)==45)&&!((s[0].toNat:Int)==46)&&wS vF s)):=aa (by
    rw[HH.o];simp[qA,h0,h40,Bool.and_assoc];rw[show(((lI s).toNat:Int)==45)=((lI s).toNat==45) from by rw[mN];simp;omega,show(((lI s).toNat:Int)==46)=((lI s).toNat==46) from by rw[mN];simp;omega])
   go_enter func174,ntmps174
   go_wp2_with fail
   ·exact Tcm
   ·have h1:(s[0].toNat:Int)=46:=by assumption
    go_ret;exact⟨ah (by rw[HN.o,h1];rfl),bj _ _⟩
   refine(a7.o _).mono ?_;rintro e w1 ⟨rfl,a5⟩;have cU:=aa a5;clear a5;go_wp2_with fail;refine(zP vF s _ hs).mono ?_;exact TbO
  have HN:Hid (qA s=false):=aa (by simp[qA,h40]);go_enter func174,ntmps174;go_wp2;go_ret;exact⟨ah HN.o.symm,bj _ _⟩
 obtain rfl:=oI h0;go_enter func174,ntmps174;go_wp2;go_ret;exact⟨rfl,bj _ _⟩
def Af(s:ByteArray)(w:World)(hs:s.size<=9223372036854775807) :
  Calls prog 60 #[.string s] w fun e w'=>e=.returned (.bool (mr s))/\Below w.1.size w w':=by
 have a7:=aa (fun w=>qy ⟨#[95,46,43,45,47,61,58]⟩ w Tc4 Tc4);by_cases h0:0<s.size
 ·have he:=lS h0;have HH:=aa (wH s h0);by_cases h40:s.size<=24
  ·have HN:Hid (mr s=(!((s[0].toNat:Int)==45)&&wS zB s)):=aa (by
    rw[HH.o];simp[mr,h0,h40,Bool.and_assoc];rw[show(((lI s).toNat:Int)==45)=((lI s).toNat==45) from by rw[mN];simp;omega])
   go_enter func60,ntmps60
   go_wp2_with fail
   ·exact Tcm
   refine(a7.o _).mono ?_;rintro e w1 ⟨rfl,a5⟩;have cU:=aa a5;clear a5;go_wp2_with fail;refine(zP zB s _ hs).mono ?_;exact TbO
  have HN:Hid (mr s=false):=aa (by simp[mr,h40]);go_enter func60,ntmps60;go_wp2;go_ret;exact⟨ah HN.o.symm,bj _ _⟩
 obtain rfl:=oI h0;go_enter func60,ntmps60;go_wp2;go_ret;exact⟨rfl,bj _ _⟩
def nV:List (List UInt8):=[[95,108,111,103],[95,100,97,116,97],[95,109,101,116,97],[95,115,112,97,114,101]]
def xg:List UInt8:=[95,108,101,103]
def jr(l:List UInt8):Option (List UInt8) :=
 match nV.find? (fun p=>DH l p)with
 |some p=>some (l.take (l.length-p.length))
 |none=>if 0<l.length/\48<=(l.getLastD 0).toNat/\(l.getLastD 0).toNat<=55/\DH l.dropLast xg=true then some (l.dropLast.take (l.dropLast.length-4)) else none
def AW(w:World):Prop:=0<w.1.size/\∀(i:Nat) (l:List UInt8),([] :: nV)[i]?=some l->w.cell? (0,i)=some (.string ⟨l.toArray⟩)
def AW.below(h:AW w)(hb:Below w.1.size w w'):AW w':=⟨cC h.1 hb.size,fun i l hl=>(hb.cell (p:=⟨0,i,none⟩) h.1).trans (h.2 i l hl)⟩
def AW.mod{F:Nat->Prop}(h:AW w)(hb:cR F w w')(hF:¬F 0):AW w':=⟨cC h.1 hb.size,fun i l hl=>(hb.cell (p:=⟨0,i,none⟩) h.1 hF).trans (h.2 i l hl)⟩
def Ep(s:ByteArray)(w:World)(e:Ending)(w':World):Prop:=∃r:List UInt8,e=.returned (.tuple #[.string ⟨r.toArray⟩,.bool (jr s.data.toList).isSome])/\(∀x,jr s.data.toList=some x->r=x)/\w=w'
def Es(s:ByteArray)(h:0<s.size):s[s.size-1]'Tc1=s.data.toList.getLastD 0:=by
 obtain⟨⟨l⟩⟩:=s;show l[l.length-1]'(by show l.length-1<l.length;have:0<l.length:=h;omega)=_;rw[List.getLastD_eq_getLast?,List.getLast?_eq_getElem?,lO];rfl
def TbJ{p:Prop}(h:p:=by
 go_ret2;have hn:=HNo.o (by rw[<- HL.o];omega);refine(show Ep s w _ w from⟨s.data.toList,by rw[hn];rfl,(fun x hx=>by rw[hn]at hx;cases hx),rfl⟩)):p:=h
def Ac(s:ByteArray)(w:World)(hs:s.size<=9223372036854775807)(hS:AW w) :
  Calls prog 173 #[.string s] w (Ep s w):=by
 replace hS:=aa hS;go_enter func173,ntmps173;go_wp2
 go_loop[11] (fun i=>∃k:Nat,k<=4/\i=.int .i64 k/\(∀j p,j<k->nV[j]?=some p->DH s.data.toList p=false)) (fun i=>4-(intOf i).toNat)
 exact⟨0,cg _,rfl,fun j p hj=>by omega⟩;obtain⟨k,hk,rfl,hno⟩:=hrel;replace hno:=aa hno;by_cases hlt:k<4
 ·obtain⟨p,hp⟩:=aj nV k hlt;have hc:w.cell? (0,1+k)=some (.string ⟨p.toArray⟩):=hS.o.2 (1+k) p (by rw[Nat.add_comm,List.getElem?_cons_succ];exact hp);replace hp:=aa hp;go_wp2_with fail;refine(Any.strings_CutSuffix Tryz.lays104 s ⟨p.toArray⟩ _ hs).mono ?_;rintro e w' ⟨rfl,rfl⟩;cases hsf:DH s.data.toList (⟨p.toArray⟩:ByteArray).data.toList with
  |true =>
   go_wp2;go_ret2;have hf:jr s.data.toList=some (s.data.toList.take (s.data.toList.length-p.length)):=by
    have:nV.find? (fun p=>DH s.data.toList p)=some p:=by
     rw[List.find?_eq_some_iff_getElem];obtain⟨hk4,ZU⟩:=AT.1 hp.o;refine⟨hsf,k,hk4,ZU,fun j hj=>?_⟩;rw[hno.o j _ hj (lO Tc1)];rfl
    simp only[jr,this]
   refine⟨s.data.toList.take (s.data.toList.length-p.length),?_,fun x hx=>?_,rfl⟩
   ·rw[hf];have:Lib.trimSuffix s.data.toList p=s.data.toList.take (s.data.toList.length-p.length):=by
     unfold Lib.trimSuffix;rw[aw hsf]
    rw[<- this];rfl
   rw[hf]at hx;exact gj hx
  |false =>
   go_wp2;go_round
   case rel =>
    refine⟨k+1,Tc1,Tc5,fun j q hj hq=>?_⟩;by_cases hjk:j=k
    ·subst hjk;rw[hp.o]at hq;cases hq
     exact hsf
    exact hno.o j q Tc1 hq
   simp[intOf];omega
 obtain rfl:k=4:=by omega
 have HN:Hid (nV.find? (fun p=>DH s.data.toList p)=none):=aa (by
  rw[List.find?_eq_none];intro p hp;obtain⟨j,hj⟩:=fc hp;rw[hno.o j p (AT.1 hj).1 hj];simp)
 by_cases h0:0<s.size
 ·have HL:=aa (Es s h0);have a7:∀(_:¬(48<=(s.data.toList.getLastD 0).toNat/\(s.data.toList.getLastD 0).toNat<=55)),jr s.data.toList=none:=fun h=>by
   simp only[jr,HN.o];rw[bh (fun q=>h ⟨q.2.1,q.2.2.1⟩)]
  have HNo:=aa a7;clear a7;go_wp2_with fail
  ·have hq:(((s[s.size-1].toNat:Int))<48)\/55<(s[s.size-1].toNat:Int):=by
    have:((s.size:Int)-1<0\/(s[s.size-1].toNat:Int)<48)\/55<(s[s.size-1].toNat:Int):=by assumption
    omega
   exact TbJ
  ·have hq:((0:Int)<=(s.size:Int)-1/\48<=(s[s.size-1].toNat:Int))/\(s[s.size-1].toNat:Int)<=55:=by assumption
   have a5:48<=(s.data.toList.getLastD 0).toNat/\(s.data.toList.getLastD 0).toNat<=55:=by rw[<- HL.o];omega
   clear hq;replace a5:=aa a5;refine(Any.strings_CutSuffix Tryz.lays104 _ _ _ Tc6).mono ?_;rintro e w' ⟨rfl,rfl⟩;go_wp2;go_ret2;cases hsf:DH s.data.toList.dropLast xg with
   |true =>
    have hf:jr s.data.toList=some (s.data.toList.dropLast.take (s.data.toList.dropLast.length-4)):=by
     simp only[jr,HN.o];rw[aw ⟨TdO,a5.o.1,a5.o.2,hsf⟩]
    refine⟨s.data.toList.dropLast.take (s.data.toList.dropLast.length-4),?_,fun x hx=>?_,rfl⟩
    ·rw[hf];have:Lib.trimSuffix s.data.toList.dropLast xg=s.data.toList.dropLast.take (s.data.toList.dropLast.length-4):=by
      unfold Lib.trimSuffix;rw[aw hsf];rfl
     rw[<- this];show Ending.returned (.tuple #[_,.bool (DH _ xg)])=_;rw[hsf];rfl
    rw[hf]at hx;exact gj hx
   |false =>
    have hf:jr s.data.toList=none:=by
     simp only[jr,HN.o];rw[bh (fun q=>by rw[hsf]at q;exact absurd q.2.2.2 Tc2)]
    refine⟨Lib.trimSuffix s.data.toList.dropLast xg,?_,(fun x hx=>by rw[hf]at hx;cases hx),rfl⟩;rw[hf];show Ending.returned (.tuple #[_,.bool (DH _ xg)])=_;rw[hsf];rfl
  have hq:(s[s.size-1].toNat:Int)<48:=by assumption
  exact TbJ
 obtain rfl:=oI h0;go_wp2;go_ret2;exact(show Ep ⟨#[]⟩ w _ w from⟨[],rfl,(fun x hx=>by cases hx),rfl⟩)
def jo(s:ByteArray):Bool:=qA s&&decide (s.size<=24)&&!(jr s.data.toList).isSome
def Tbc{p:Prop}(h:p:=by
 cases hn:qA s with
 |false =>
  go_wp2;go_ret;exact⟨ah (by simp[jo,hn]),cU.o⟩
 |true =>
  by_cases h24:s.size<=24
  ·cases hc:(jr s.data.toList).isSome with
   |false =>
    go_wp2;go_ret;exact⟨ah (by simp[jo,hn,h24,hc]),cU.o⟩
   |true =>
    go_wp2;go_ret;exact⟨ah (by simp[jo,hn,h24,hc]),cU.o⟩
  go_wp2;go_ret;exact⟨ah (by simp[jo,hn,h24]),cU.o⟩):p:=h
def fT(s:ByteArray)(w:World)(hs:s.size<=9223372036854775807)(hS:AW w) :
  Calls prog 136 #[.string s] w fun e w'=>e=.returned (.bool (jo s))/\Below w.1.size w w':=by
 replace hS:=aa hS;go_enter func136,ntmps136
 go_wp2_with fail;refine(Ac s _ hs hS.o).mono ?_;rintro e w' ⟨r,rfl,_,rfl⟩;go_wp2_with fail;refine(Du s _ hs).mono ?_;rintro e w1 ⟨rfl,a5⟩;have cU:=aa a5;clear a5;exact Tbc
def pU(h:jr l=some x):x.length<l.length:=by
 unfold jr at h;cases hf:nV.find? (fun p=>DH l p)with
 |some p =>
  rw[hf]at h;obtain rfl:=gj h;have hp:=eV hf;have hs:=List.find?_some hf;have h1:p.length<=l.length:=(No.1 hs).length_le;have h2:0<p.length:=by
   simp only[nV,dr,cY,dg]at hp;rcases hp with rfl|rfl|rfl|rfl<;>simp
  rw[ey];omega
 |none =>
  rw[hf]at h;by_cases c:0<l.length/\48<=(l.getLastD 0).toNat/\(l.getLastD 0).toNat<=55/\DH l.dropLast xg=true
  ·simp only[aw c]at h;obtain rfl:=gj h;rw[ey,List.length_dropLast];omega
  simp only[bh c]at h
  cases h
def lK:Nat->List UInt8->List UInt8 × Nat
 |0,l=>(l,0)
 |f+1,l=>match jr l with
  |none=>(l,0)
  |some x=>((lK f x).1,(lK f x).2+1)
def gu(l:List UInt8):List UInt8 × Nat:=lK l.length l
def mG:∀(f:Nat) (l:List UInt8),l.length<=f->lK f l=lK l.length l
 |0,l,h=>by rw[show l.length=0 by omega]
 |f+1,l,h=>by
  cases hl:l.length with
  |zero =>
   have:l=[]:=fX hl;subst this;rfl
  |succ n =>
   unfold lK;cases hc:jr l with
   |none=>rfl
   |some x =>
    have:=pU hc;simp only[];rw[mG f x Tc1,mG n x Tc1]
def yc(h:jr l=none):gu l=(l,0):=by
 unfold gu;cases hl:l.length with
 |zero=>rfl
 |succ n=>simp only[lK,h]
def zI(h:jr l=some x):gu l=((gu x).1,(gu x).2+1):=by
 have hx:=pU h;unfold gu;cases hl:l.length with
 |zero=>omega
 |succ n =>
  simp only[lK,h];rw[mG n x Tc1]
def Cy(l:List UInt8)(w:World)(hs:l.length<=9223372036854775807)(hS:AW w) :
  Calls prog 177 #[.string ⟨l.toArray⟩] w fun e w'=>e=.returned (.tuple #[.string ⟨(gu l).1.toArray⟩,.int .i64 (gu l).2])/\w=w':=by
 replace hS:=aa hS;go_enter func177,ntmps177;go_wp2
 go_loop[0,4] (fun s n=>∃(r:List UInt8) (k:Nat),s=.string ⟨r.toArray⟩/\n=.int .i64 k/\r.length+k<=l.length/\(gu l).1=(gu r).1/\(gu l).2=(gu r).2+k) (fun s _=>match s with|.string x=>x.size|_=>0)
 exact⟨l,0,rfl,rfl,Tc1,rfl,rfl⟩;obtain⟨r,k,rfl,rfl,a5,h1,h2⟩:=hrel;replace h1:=aa h1;replace h2:=aa h2;go_wp2_with fail;refine(Ac ⟨r.toArray⟩ _ (by show r.length<=_;omega) hS.o).mono ?_;rintro e w' ⟨x,rfl,hx,rfl⟩;replace hx:=aa hx;cases hc:jr (⟨r.toArray⟩:ByteArray).data.toList with
 |none =>
  go_wp2;go_ret2;have:=yc (l:=r) hc;exact⟨by rw[h1.o,h2.o,this];simp,rfl⟩
 |some y =>
  obtain rfl:=hx.o y hc;have hlt:=pU (l:=r) hc;have HC:=aa (show jr r=some x from hc);go_wp2;go_round
  case rel =>
   have:=zI HC.o;exact⟨x,k+1,rfl,Tc5,Tc1,by rw[h1.o,this],by rw[h2.o,this];omega⟩
  simp[ByteArray.size];omega
def zH(s:ByteArray):Bool:=decide (0<(gu s.data.toList).2)&&decide (s.size<=40)&&jo ⟨(gu s.data.toList).1.toArray⟩
def bytes_eta(s:ByteArray):s=⟨s.data.toList.toArray⟩:=by
 obtain⟨⟨l⟩⟩:=s;rfl
def uB:∀(f:Nat) (l:List UInt8),(lK f l).1.length<=l.length
 |0,l=>bk _
 |f+1,l=>by
  unfold lK;cases hc:jr l with
  |none=>exact bk _
  |some x=>exact cA (uB f x) (Nat.le_of_lt (pU hc))
def Td0{p:Prop}(h:p:=by simpa using hs):p:=h
def qO(s:ByteArray)(w:World)(hs:s.size<=9223372036854775807)(hS:AW w) :
  Calls prog 142 #[.string s] w fun e w'=>e=.returned (.bool (zH s))/\Below w.1.size w w':=by
 replace hS:=aa hS;have Of:(gu s.data.toList).1.length<=9223372036854775807:=cA (uB _ _) Td0;have pL:=aa (Cy s.data.toList w Td0 hS.o);rw[<- bytes_eta]at pL;go_enter func142,ntmps142
 go_wp2_with fail;refine pL.o.mono ?_;clear pL;rintro e w' ⟨rfl,rfl⟩;have HH:Hid (zH s=(decide (0<(gu s.data.toList).2)&&decide (s.size<=40)&&jo ⟨(gu s.data.toList).1.toArray⟩)):=aa rfl;generalize hb:(gu s.data.toList).1=b at *;generalize hk:(gu s.data.toList).2=k at *;clear hb hk;by_cases h0:0<k
 ·by_cases h40:s.size<=40
  ·go_wp2_with fail;refine(fT ⟨b.toArray⟩ _ Of hS.o).mono ?_;rintro e w1 ⟨rfl,a5⟩;replace a5:=aa a5;go_wp2;go_ret;exact⟨ah (by rw[HH.o];simp[h0,h40]),a5.o⟩
  go_wp2;go_ret;exact⟨ah (by rw[HH.o];simp[h40]),bj _ _⟩
 go_wp2;go_ret;exact⟨ah (by rw[HH.o];simp[h0]),bj _ _⟩
def sQ(a b:List UInt8):(⟨a.toArray⟩:ByteArray)++(⟨b.toArray⟩:ByteArray)=⟨(a++b).toArray⟩:=by
 apply ByteArray.ext;simp
def iK(l vd:List UInt8):List UInt8 × Int :=
 if jo ⟨l.toArray⟩=false/\zH ⟨l.toArray⟩=false then([],10) else if vd=[] then([],1) else if 40<l.length+vd.length then([],4) else(l++vd,0)
def TeR{p:Prop}(h:p:=by rw[HX.o];exact fj (fun b=>Ending.returned (.tuple #[.string b,.int .i64 0])) (sQ l vd)):p:=h
def Tdv{p:Prop}(h:p:=by rw[HX.o];rfl):p:=h
def Tdf{p:Prop}(h:p:=by rw[HR.o];rfl):p:=h
def dR(l vd:List UInt8)(w:World)(hs:l.length<=1000000000)(hs2:vd.length<=100)(hS:AW w) :
  Calls prog 192 #[.string ⟨l.toArray⟩,.string ⟨vd.toArray⟩] w fun e w'=>e=.returned (.tuple #[.string ⟨(iK l vd).1.toArray⟩,.int .i64 (iK l vd).2])/\Below w.1.size w w':=by
 replace hS:=aa hS;have hz:(⟨l.toArray⟩:ByteArray).size=l.length:=rfl;have RC:(⟨vd.toArray⟩:ByteArray).size=vd.length:=rfl;have HW:=aa (iK.eq_1 l vd);go_enter func192,ntmps192
 go_wp2_with fail;refine(fT ⟨l.toArray⟩ _ Tc1 hS.o).mono ?_;rintro e w1 ⟨rfl,a5⟩;have a7:=aa (hS.o.below a5);replace a5:=aa a5;have rest:∀w2:World,Below w.1.size w w2->(jo ⟨l.toArray⟩=true\/zH ⟨l.toArray⟩=true)->iK l vd=if vd=[] then([],1) else if 40<l.length+vd.length then([],4) else(l++vd,0):=fun w2 _ h=>by
  rw[HW.o,bh];rintro⟨a,b⟩;rcases h with h|h
  ·rw[a]at h;cases h
  rw[b]at h;cases h
 cases hv:jo ⟨l.toArray⟩with
 |true =>
  have HR:=aa (rest w (bj _ _) (.inl hv));clear rest HW;by_cases ao2:vd=[]
  ·subst ao2;go_wp2;go_ret2;exact⟨Tdf,a5.o⟩
  have OQ:vd.isEmpty=false:=by simpa using ao2
  by_cases h40:40<l.length+vd.length
  ·have HX:Hid (iK l vd=([],4)):=aa (by rw[HR.o,bh ao2,aw h40]);go_wp2;go_ret2;exact⟨Tdv,a5.o⟩
  have HX:Hid (iK l vd=(l++vd,0)):=aa (by rw[HR.o,bh ao2,bh h40]);go_wp2;go_ret2;exact⟨TeR,a5.o⟩
 |false =>
  go_wp2_with fail;refine(qO ⟨l.toArray⟩ _ Tc1 a7.o).mono ?_;rintro e w2 ⟨rfl,hb2⟩;have cm:=Zbl a5 hb2;clear hb2;cases hh:zH ⟨l.toArray⟩with
  |true =>
   have HR:=aa (rest w (bj _ _) (.inr hh));clear rest HW;by_cases ao2:vd=[]
   ·subst ao2;go_wp2;go_ret2;exact⟨Tdf,cm.o⟩
   have OQ:vd.isEmpty=false:=by simpa using ao2
   by_cases h40:40<l.length+vd.length
   ·have HX:Hid (iK l vd=([],4)):=aa (by rw[HR.o,bh ao2,aw h40]);go_wp2;go_ret2;exact⟨Tdv,cm.o⟩
   have HX:Hid (iK l vd=(l++vd,0)):=aa (by rw[HR.o,bh ao2,bh h40]);go_wp2;go_ret2;exact⟨TeR,cm.o⟩
  |false =>
   have HX:Hid (iK l vd=([],10)):=aa (by rw[HW.o,aw ⟨hv,hh⟩]);clear rest HW;go_wp2;go_ret2;exact⟨Tdv,cm.o⟩
def bq(k:Int):List UInt8:=if 0<=k/\k<=7 then xg++[UInt8.ofNat (48+k.toNat)] else []
def dH(k:Int):List UInt8:=if 1<=k/\k<=4 then nV.getD (k.toNat-1) [] else []
def TcW{p:Prop}(h:p:=by
 rintro e w1 ⟨rfl,hb1⟩;have cU:=aa hb1;clear hb1;go_wp2;go_ret2;exact⟨rfl,cU.o⟩):p:=h
def TbK{p:Prop}(h:p:=by
 go_wp2_with fail;refine(dR l [] _ hs Tc2 HS.o).mono ?_;exact TcW):p:=h
def Tcz{p:Prop}(h:p:=by
 exact TcW):p:=h
def wC(l:List UInt8)(k:Int)(w:World)(hs:l.length<=1000000000)(hS:AW w) :
  Calls prog 184 #[.string ⟨l.toArray⟩,.int .i64 k] w fun e w'=>e=.returned (.tuple #[.string ⟨(iK l (dH k)).1.toArray⟩,.int .i64 (iK l (dH k)).2])/\Below w.1.size w w':=by
 have HS:=aa hS;clear hS;by_cases h1:1<=k/\k<=4
 ·obtain⟨i,hi⟩:∃i:Nat,k=((i+1:Nat):Int):=⟨k.toNat-1,Tc1⟩
  subst hi;obtain⟨p,hp⟩:=aj nV i (by show i<4;omega);have hc:w.cell? (0,i+1)=some (.string ⟨p.toArray⟩):=HS.o.2 (i+1) p (by rw[List.getElem?_cons_succ];exact hp);have CH:dH ((i+1:Nat):Int)=p:=by
   unfold dH;rw[aw h1];simp[hp]
  rw[CH];have a5:p.length<=100:=by
   have:=ct hp;simp only[nV,dr,cY,dg]at this;rcases this with rfl|rfl|rfl|rfl<;>simp
  clear CH hp;have a7:i<4:=by omega
  go_enter func184,ntmps184
  go_wp2_with fail;refine(dR l p _ hs a5 HS.o).mono ?_;exact Tcz
 have CH:dH k=[]:=by unfold dH;rw[bh h1]
 rw[CH];clear CH;go_enter func184,ntmps184
 by_cases h2:0<=k-1
 ·have h3:¬k<=4:=by omega
  have h4:1<=k:=by omega
  exact TbK
 have h4:¬1<=k:=by omega
 exact TbK
def Ea(l:List UInt8)(k:Int)(w:World)(hs:l.length<=1000000000)(hS:AW w) :
  Calls prog 183 #[.string ⟨l.toArray⟩,.int .i64 k] w fun e w'=>e=.returned (.tuple #[.string ⟨(iK l (bq k)).1.toArray⟩,.int .i64 (iK l (bq k)).2])/\Below w.1.size w w':=by
 have HS:=aa hS;clear hS;by_cases h1:0<=k/\k<=7
 ·have h2:k=0\/k=1\/k=2\/k=3\/k=4\/k=5\/k=6\/k=7:=by omega
  go_enter func183,ntmps183;clear h1;rcases h2 with rfl|rfl|rfl|rfl|rfl|rfl|rfl|rfl
  ·have E:(⟨#[95,108,101,103]⟩:ByteArray)++Utf8.encode 48=⟨(bq 0).toArray⟩:=by kernel_rfl
   have hl:(bq 0).length<=100:=by decide
   go_wp2_with fail;refine(dR l (bq 0) _ hs hl HS.o).mono ?_;exact Tcz
  ·have E:(⟨#[95,108,101,103]⟩:ByteArray)++Utf8.encode 49=⟨(bq 1).toArray⟩:=by kernel_rfl
   have hl:(bq 1).length<=100:=by decide
   go_wp2_with fail;refine(dR l (bq 1) _ hs hl HS.o).mono ?_;exact Tcz
  ·have E:(⟨#[95,108,101,103]⟩:ByteArray)++Utf8.encode 50=⟨(bq 2).toArray⟩:=by kernel_rfl
   have hl:(bq 2).length<=100:=by decide
   go_wp2_with fail;refine(dR l (bq 2) _ hs hl HS.o).mono ?_;exact Tcz
  ·have E:(⟨#[95,108,101,103]⟩:ByteArray)++Utf8.encode 51=⟨(bq 3).toArray⟩:=by kernel_rfl
   have hl:(bq 3).length<=100:=by decide
   go_wp2_with fail;refine(dR l (bq 3) _ hs hl HS.o).mono ?_;exact Tcz
  ·have E:(⟨#[95,108,101,103]⟩:ByteArray)++Utf8.encode 52=⟨(bq 4).toArray⟩:=by kernel_rfl
   have hl:(bq 4).length<=100:=by decide
   go_wp2_with fail;refine(dR l (bq 4) _ hs hl HS.o).mono ?_;exact Tcz
  ·have E:(⟨#[95,108,101,103]⟩:ByteArray)++Utf8.encode 53=⟨(bq 5).toArray⟩:=by kernel_rfl
   have hl:(bq 5).length<=100:=by decide
   go_wp2_with fail;refine(dR l (bq 5) _ hs hl HS.o).mono ?_;exact Tcz
  ·have E:(⟨#[95,108,101,103]⟩:ByteArray)++Utf8.encode 54=⟨(bq 6).toArray⟩:=by kernel_rfl
   have hl:(bq 6).length<=100:=by decide
   go_wp2_with fail;refine(dR l (bq 6) _ hs hl HS.o).mono ?_;exact Tcz
  have E:(⟨#[95,108,101,103]⟩:ByteArray)++Utf8.encode 55=⟨(bq 7).toArray⟩:=by kernel_rfl
  have hl:(bq 7).length<=100:=by decide
  go_wp2_with fail;refine(dR l (bq 7) _ hs hl HS.o).mono ?_;exact Tcz
 have CH:bq k=[]:=by unfold bq;rw[bh h1]
 rw[CH];clear CH;go_enter func183,ntmps183
 by_cases h2:0<=k
 ·have h3:¬k<=7:=by omega
  exact TbK
 exact TbK
open Go Go.Maps Go.MapKept Go.ChangeMaps
def FJ(v:Value):Option (DataW Value × List MemPlace):=some (.held v,[])
def zK:Option Value->DataW Value
 |some v=>.held v
 |none=>.nil
def oQ{o:Option Value}{v:Value}(h:zK o=.held v):o=some v:=by
 cases o with
 |none=>cases h
 |some u=>cases h;rfl
def oP{o:Option Value}(h:zK o=.nil):o=none:=by
 cases o with
 |none=>rfl
 |some u=>cases h
def bi(P:Program)(k:TypeId)(w:World)(b n:Nat)(f:Value->Option Value):Prop :=
 ∃D:DataW Value,w.ownsMap P k FJ b n D/\∀key kl,keyOf P k key=some kl->D.atKey kl .nil=zK (f key)
open Classical in
noncomputable def upd(f:Value->Option Value)(key v:Value):Value->Option Value:=fun x=>if x=key then some v else f x
def upd_same(f:Value->Option Value)(key v:Value):upd f key v key=some v:=by simp[upd]
def bP{f:Value->Option Value}{key v x:Value}(h:x≠key):upd f key v x=f x:=by simp[upd,h]
variable {P:Program}{k:TypeId}{w w':World}{b n:Nat}{f:Value->Option Value}
variable {g:Nat}{t e:TypeId}{key:Value}{kl:Lit}
def bi.made(P:Program)(k:TypeId)(w:World):bi P k (w.alloc (.map #[] 0)) w.1.size 0 (fun _=>none) :=
 ⟨.map [],World.ownsMap_made w P k FJ,fun _ _ _=>rfl⟩
def bi.lt(h:bi P k w b n f):b<w.1.size:=by
 obtain⟨D,h,_⟩:=h;exact h.lt
def bi.mono{m:Nat}(h:bi P k w b n f)(hm:n<=m):bi P k w b m f:=by
 obtain⟨D,h,hf⟩:=h;exact⟨D,h.mono hm,hf⟩
def bi.block(h:bi P k w b n f)(hb:w'.1[b]?=w.1[b]?):bi P k w' b n f:=by
 obtain⟨D,⟨es,a5,h1,h2⟩,hf⟩:=h;exact⟨D,⟨es,a5,hb.trans h1,h2⟩,hf⟩
def bi.congr{g:Value->Option Value}(h:bi P k w b n f)(hg:∀key kl,keyOf P k key=some kl->g key=f key):bi P k w b n g:=by
 obtain⟨D,h,hf⟩:=h;exact⟨D,h,fun key kl hk=>by rw[hg key kl hk];exact hf key kl hk⟩
def bi.ne(h:bi P k w b n f){cs:Array Value}{z:Nat × Nat}(hg:w.1[g]?=some (.cells cs t z)):b≠g:=by
 obtain⟨D,⟨es,a5,h1,_⟩,_⟩:=h;rintro rfl;rw[h1]at hg;cases hg
def bi.look(h:bi P k w b n f)(K:Keyed P k)(ht:P.underlying t=some (.map k e)){z:Value}(hz:(zeroValue e).run P w=.ok z w)(a8:keyOf P k key=some kl) :
  (Instr.lookup t (.map (some b)) key false).run P w=.ok ((f key).getD z) w/\(Instr.lookup t (.map (some b)) key true).run P w=.ok (.tuple #[(f key).getD z,.bool (f key).isSome]) w:=by
 obtain⟨D,⟨es,aa,hb,F,_,rfl⟩,hf⟩:=h;have a7:=hf key kl a8;constructor
 ·rcases Maps.fit_look false K ht hz hb F a8 with⟨a5,_,hat⟩|⟨e0,y,_,_,a5,a9,hat,_⟩
  ·rw[hat]at a7;rw[oP a7.symm];exact a5
  rw[hat]at a7
  cases a9
  rw[oQ a7.symm];exact a5
 rcases Maps.fit_look true K ht hz hb F a8 with⟨a5,_,hat⟩|⟨e0,y,_,_,a5,a9,hat,_⟩
 ·rw[hat]at a7;rw[oP a7.symm];exact a5
 rw[hat]at a7
 cases a9
 rw[oQ a7.symm];exact a5
def bi.store(h:bi P k w b n f)(K:Keyed P k)(ht:P.underlying t=some (.map k e))(hn:n<maxLen)(a5:keyOf P k key=some kl)(v:Value) :
  ∃w',(Instr.mapUpdate t (.map (some b)) key v).run P w=.ok () w'/\bi P k w' b (n+1) (upd f key v)/\w.grownBy w' (some b)/\w'.1.size=w.1.size:=by
 obtain⟨D,h,hf⟩:=h;have hm:=h.isMap;obtain⟨w',a7,h1,h2⟩:=h.store (d:=.held v) (ps:=[]) K ht hn a5 rfl;refine⟨w',a7,⟨_,h1,fun x kx hx=>?_⟩,h2.grown,?_⟩
 ·by_cases hxk:x=key
  ·subst hxk;rw[a5]at hx;cases hx
   rw[upd_same,Maps.atKey_put_same hm (K.key a5)];rfl
  rw[bP hxk,Maps.atKey_put_other (fun e=>hxk (K.inj hx (by rw[e];exact a5))),hf x kx hx]
 obtain⟨es,c,a8,c',_,rfl⟩:=h2;simp[setBlock]
def oJ{row:Nat}(h:w.grownBy w' (some row))(hg:g<w.1.size)(hne:g≠row):w'.1[g]?=w.1[g]?:=h.block g hg (fun e=>hne (by injection e))
end Go.Proofs.YtaagglbgohjldaaGreatDoor
namespace Go.Proofs.YtaagglbgohjldaaGreatDoor
open Go.Proofs.Tryz
open Go.RowKit Go.Maps
variable {w w':World}{B:Nat}{v:Value}{l:List ByteArray}
structure eX where
 least:Int
 greatest:Int
 F9:Bool
 several:Bool
 chunk:Int
 stale:Bool
 pool:Bool
 log:Bool
 mode:Bool
 done:Bool
def shapeOf(k:Int):Option eX :=
 if k=1 then some ⟨1,1,false,true,0,false,false,false,false,false⟩
 else if k=2 then some ⟨2,6,false,true,1,false,false,false,false,false⟩
 else if k=3 then some ⟨2,6,true,false,1024,true,false,true,false,false⟩
 else if k=4 then some ⟨3,6,true,false,1,true,false,false,false,false⟩
 else if k=5 then some ⟨2,2,true,false,64,false,false,false,false,false⟩
 else if k=6 then some ⟨0,0,false,false,0,false,true,false,false,false⟩
 else if k=7 then some ⟨3,3,true,false,64,false,false,false,true,false⟩
 else if k=8 then some ⟨2,2,false,true,0,false,false,false,false,true⟩
 else if k=9 then some ⟨0,0,false,true,0,false,false,false,false,false⟩
 else if k=10 then some ⟨0,0,false,true,0,false,false,false,false,false⟩
 else none
def yu:eX:=⟨0,0,false,false,0,false,false,false,false,false⟩
def Tan(x0:eX):Tab #[.int .i64 x0.least,.int .i64 x0.greatest,.bool x0.F9,.bool x0.several,.int .i64 x0.chunk,.bool x0.stale,.bool x0.pool,.bool x0.log,.bool x0.mode,.bool x0.done]:=⟨⟩
def jR(x:eX):Value:=.agg (Tan x)
def eH:Value->Option Value
 |.int .i64 k=>(shapeOf k).map jR
 |_=>none
def eZ(v:ay):Int:=match v.Gf with
 |[s]=>s.kind
 |_=>0
def fF(n l:Int):Int:=min (n+min (max l 0) 1073741824) 1073741824
def C8(v:ay):Int:=v.Gf.foldl (fun n s=>fF n s.length) 0
def fq(ext ch:Int)(x:eX):Bool :=
 if x.chunk=0 then ch==0 else if x.chunk=1 then decide (1<=ch)&&ext%ch==0 else decide (1<=ch)&&decide (ch<=x.chunk)
def bR(st:Bool)(e:Int)(l:List Int)(i:Nat):Bool:=st&&decide (0<=l.getD i 0)&&decide (l.getD i 0<e)&&(decide (i=0)||decide (l.getD (i-1) 0<l.getD i 0))
def dP(s:aB)(x:eX):Bool:=(FF s.stale.length).all (bR x.stale (s.Ga.length+if s.log.toList.isEmpty then 0 else 1) s.stale)
def bE(n lo hi:Int)(used:Bool):Bool:=if used then decide (lo<=n)&&decide (n<=hi) else n==0
def bT(x:eX)(a:aR):Bool:=a.vol==x.F9&&(!a.vol||a.start==0)
def bJ(ext:Int)(s:aB)(start:Int):Bool:=match shapeOf s.kind with
 |none=>false
 |some x=>s.start==start&&decide (1<=s.length)&&decide (s.length<=32768)&&decide (x.least<=s.Ga.length)&&decide (s.Ga.length<=x.greatest)&&s.Ga.all (bT x) &&
   fq ext s.chunk x&&(x.log||s.log.toList.isEmpty)&&(x.pool||s.pool.toList.isEmpty)&&dP s x&&bE s.device 1 65535 x.pool&&bE s.mode 1 2 x.mode&&bE s.done 0 s.length x.done &&
   !(s.kind==2&&!(s.length%s.Ga.length==0))&&!(s.kind==4&&!(s.length%(s.Ga.length-1)==0))
def dD(s:aB)(pool:Bool):List ByteArray:=((s.Ga.filter (·.vol)).map (·.on))++(if s.log.toList.isEmpty then [] else [s.log])++(if pool&&s.kind==6 then [s.pool] else [])
def dF(w:World)(B:Nat)(v:Value)(l:List ByteArray):Prop:=w.ownsRow B 9 1 v l.length (l.map Cd)
def dF.nil(w:World)(B:Nat):dF w B (.slice none 0 0) []:=gS w B _ 1
def dF.blk(h:dF w B v l)(hk:∀k,v.ownBlock=some k->w'.1[k]?=w.1[k]?):dF w' B v l:=aC h hk
def dF.below(h:dF w B v l)(hb:Below w.1.size w w'):dF w' B v l:=h.blk fun k e=>hb.block k (fh h k e).2
def dF.rd{ok:Nat->Prop}(h:dF w B v l)(gw:∀b,v.ownBlock=some b->ok b):ck aF 1 ok w [v] l:=by
 obtain⟨h1,h2⟩:=h;rcases h2 with⟨rfl,hn⟩|⟨g,cap,a5,rfl,hb,hg,vr,hcm,a7,ht⟩
 ·exact TcC
 refine⟨some ⟨g,0,none⟩,cap,rfl,vr,Tdj,fun _=>⟨g,0,rfl,(DS.1 hg).1,gw g rfl,fun i x hx=>⟨[.string x],rfl,rfl,fun j z hz=>?_⟩⟩⟩;have a8:i<l.length:=(AT.1 hx).1;have hc:(l.map Cd)[i]?=some (Cd x):=by simp[hx]
 match j,hz with
 |0,hz =>
  obtain rfl:Cd x=z:=by simpa using hz
  rw[<- ht,ri Tc1]at hc;rw[cell_of_row w g (0+i*1+0) a5 _ (0,0) hg];simpa using hc
def dF.mono{B':Nat}(h:dF w B v l)(hB:B'<=B):dF w B' v l:=by
 exact TbM
def dz{a7:Array Oper}{rest:List Oper}{o:Oper}{a:Act}{Q:Exit->Act->World->Prop}(a8:o.guard=none)(s x:Operand)
  (ho:o.op=.call { callee:=.builtin .append,args:=#[s,x],argTypes:=#[26,26] })
  (B:Nat) (v:Value) (l:List ByteArray) (p:ByteArray) (hs:a.eval s=v) (a5:dF w B v l) (g c:Nat) (hx:a.eval x=.slice (some g) 1 c)
  (hc:w.cell? g=some (.string p)) (hl:l.length<=100000000) (hB:B<=w.1.size)
  (h:∀v' w',dF w' B v' (l++[p])->Below B w w'->w.grownBy w' v.ownBlock->wpList prog a7 Q rest (a.put o.dst v') w'):wpList prog a7 Q (o :: rest) a w:=by
 obtain⟨i0,hi,du,On,RC⟩:=gg zY;refine tE w a8 s x 26 ho B 9 i0 _ 1 16 underlying26 hi du On RC rfl Tc4 v l.length (l.map Cd) hs a5 ⟨g,0,none⟩ 1 c [.string p] hx rfl (fun j u hu=>?_) Tdc Tda Tc1 hB (fun v' w' a9 hg _=>?_)
 ·rw[iz,eJ]
  match j,hu with
  |0,hu =>
   obtain rfl:Cd p=u:=by simpa using hu
   exact hc
 refine h v' w' ?_ ((bj B w).grown hg hB (fun k hk=>(fh a5 k hk).1)) hg;unfold dF;rw[gl,cD];exact a9
end Go.Proofs.YtaagglbgohjldaaGreatDoor
