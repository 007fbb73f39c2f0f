/- Lemmas: MkPa, MkPb, MkP, MkSd. -/
import Derived.Test.YtillcmhjhajimaaGreatDoorQj07
set_option maxRecDepth 100000
set_option maxHeartbeats 32000000
set_option linter.all false
namespace Go.Proofs.YtillcmhjhajimaaGreatDoor
open Go.Proofs.Tryz
open Go.RowKit
variable {w a b:World}{B:Nat}{v:Value}{l:List Int}
theorem Tbt{p:Prop}(h:p:=by
 go_wp2;go_roundw
 case rel =>
  refine⟨j+1,aD7,aD8,SY,TcN,TcR,?_⟩;rw[lN,sW,List.replicate_succ'];exact T5
 simp[intOf];omega):p:=h
theorem Tdg{p:Prop}(h:p:=by simp[gB,aI];omega):p:=h
theorem xW:JR 3:=by
 intro X bs bb nv vv g next w name hname he1 he2 n hn1 hn2 L W T0 J K' Q0 HJ hK;conv=>arg 2;whnf
 go_upto_block 1 with(fail)
 go_wp2;go_loopw[12] (fun i wr=>∃(j:Nat) (ft fx av:Value),j<=3/\i=.int .i64 j/\vq X bs bb nv vv g next w (L+1+1+1) L (L+1) (L+1+1) ft fx av (.slice none 0 0) (aI name j) (List.replicate j n) (gB (aI name j)) [] n 3 1 es 0 wr) (fun i _=>3-(intOf i).toNat)
 exact⟨0,_,_,_,TcN,rfl,T0⟩;obtain⟨j,ft,fx,av,hj,rfl,T1⟩:=hrel;have c0:=T1.post.bld.c0;go_wp2_with fail;refine(bY bs 2 _ TcN TcN T1.post.bld.src).mono ?_;rintro e w2 ⟨v,rfl,hv1,hv2,hs2,hm2⟩;have T2:=T1.read hs2 hm2;clear hm2 hs2 c0 T1;by_cases hlt:(j:Int)<2+v
 ·have z1:(0:Int)<=(j:Int):=by omega
  have z2:(j:Int)<3:=by omega
  have hdj:decide ((j:Int)<2+v)=true:=by simpa using hlt
  have hcell:(w2.alloc (.cells #[.string ⟨#[48]⟩,.string ⟨#[49]⟩,.string ⟨#[50]⟩] 9)).cell? (w2.heap.size,j)=some (.string (digit j)):=by
   refine aD rfl ?_;rcases(show j=0\/j=1\/j=2 by omega)with rfl|rfl|rfl<;>rfl
  have QH:(digit j).size=1:=rfl;have T3:=T2.below (ae w2 (.cells #[.string ⟨#[48]⟩,.string ⟨#[49]⟩,.string ⟨#[50]⟩] 9));go_wp2_with fail;refine(jM _ _ _ _ _ _ _ _ _ _ _ _ _ _ _ _ _ _ _ _ _ _ (fun _=>rfl) T3.loc T3.hB _ _ Tdz TcS Tdg).mono ?_;rintro e w3 ⟨rfl,aD7,aD8,SY,A1⟩;have T5:=T3.add A1;clear A1 hcell;exact Tbt
 have hdj:decide ((j:Int)<2+v)=false:=by simpa using hlt
 have hj2:2<=j:=by omega
 have c0:=T2.post.bld.c0;go_wp2_with fail;refine(bO bs 1 4 _ TcN TcN TcN T2.post.bld.src).mono ?_;rintro e w3 ⟨c,rfl,hc1,hc2,hs3,hm3⟩;have T3:=T2.read hs3 hm3;clear hm3 hs3 c0 T2;obtain⟨x4,f4⟩:=T3.cx 4 rfl;have T4:vq X bs bb nv vv g next w (L+1+1+1) L (L+1) (L+1+1) ft fx av (.slice none 0 0) (aI name j) (List.replicate j n) (gB (aI name j)) [] n 3 c es 0 (w3.setCell (Tac L 4) (.int .i64 c)):=T3.put 4 _ (fun _=>rfl);have c0:=T4.post.bld.c0;go_wp2_with fail;refine(bY bs 2 _ TcN TcN T4.post.bld.src).mono ?_;rintro e w4 ⟨v4,rfl,hv41,hv42,hs4,hm4⟩;have T5:=T4.read hs4 hm4;clear hm4 hs4 c0 x4 f4 T3 T4;by_cases hv40:v4=0
 ·subst hv40;have T6:vq X bs bb nv vv g next w (L+1+1+1) L (L+1) (L+1+1) ft fx av (.slice none 0 0) (aI name j) (List.replicate j n) (gB (aI name j)) [] n 3 c (name++qm) 0 (w4.setCell (Tac L 6) (.string (name++qm))):=T5.put 6 _ (fun _=>rfl);obtain⟨x6,f6⟩:=T5.cx 6 rfl;have hc1':¬(9223372036854775807<name.size+4):=by omega
  go_wp2;have OX:name++(⟨#[95,108,111,103]⟩:ByteArray)=name++qm:=rfl;rw[OX];generalize WE:World.setCell w4 _ _=WW at *;clear WE x6 f6 T5;have q1:=cr T6.loc.bn 0 _ rfl;have q2:=cr T6.loc.bl 0 _ rfl;have q3:=(T6.cx 6 rfl).1;have be:0<=n*g.Gd/\n*g.Gd<=48:=by rcases(show n=1\/n=2\/n=3 by omega)with rfl|rfl|rfl<;>omega
  have be1:=be.1;have be2:=be.2;have hne0:¬g.Gd=0:=by omega
  have hne1:(g.Gd==0)=false:=by simpa using hne0
  have hq1:0<=(1+(n*g.Gd+63)/64)/g.Gd:=lz TcN TcN;have hq2:(1+(n*g.Gd+63)/64)/g.Gd<=100:=Int.le_trans (mS _ TcN) TcN;have hw1:IntKind.i64.wrap (n*g.Gd)=n*g.Gd:=dy _ TcN;have hw2:IntKind.i64.wrap (n*g.Gd+63)=n*g.Gd+63:=dy _ TcN;have hw3:(n*g.Gd+63).tdiv 64=(n*g.Gd+63)/64:=CC TcN;have hw4:IntKind.i64.wrap ((n*g.Gd+63)/64)=(n*g.Gd+63)/64:=dy _ TcN;have hw5:IntKind.i64.wrap (1+(n*g.Gd+63)/64)=1+(n*g.Gd+63)/64:=dy _ TcN;have hw6:(1+(n*g.Gd+63)/64).tdiv g.Gd=(1+(n*g.Gd+63)/64)/g.Gd:=CC TcN;have hw7:IntKind.i64.wrap ((1+(n*g.Gd+63)/64)/g.Gd)=(1+(n*g.Gd+63)/64)/g.Gd:=dy _ TcN;have hw8:IntKind.i64.wrap (1+(1+(n*g.Gd+63)/64)/g.Gd)=1+(1+(n*g.Gd+63)/64)/g.Gd:=dy _ TcN;refine aZ (fun w'=>w'.cell? (Tac (L+1) 0)=some ft/\w'.cell? (Tac (L+1+1) 0)=some fx/\w'.cell? (Tac L 6)=some (.string (name++qm))) 17 [1,6,7,8,9,10,11,12,13,14] TcP ⟨q1,q2,q3⟩ (fun hHeld=>?_);refine fz 1 ?_;refine fz 6 ?_;refine fz 7 ?_;refine fz 8 ?_;refine fz 9 ?_;refine fz 10 ?_;refine fz 11 ?_;refine fz 12 ?_;refine fz 13 ?_;refine fz 14 ?_;refine fS 0 hHeld ?_;refine fS 2 hHeld ?_;refine fS 5 hHeld ?_;clear hw1 hw2 hw3 hw4 hw5 hw6 hw7 hw8;have TT:=T6.below ((bj _ _).drew);generalize hwd:WW.drew=wd at *;clear hwd q1 q2 q3 T6;have hd:=TT.loc;obtain⟨i1,hi1,hz10,hz11,hz12⟩:=gg o5;obtain⟨i2,hi2,hz20,hz21,hz22⟩:=gg tZ;have AH:∀k,k<(L+1+1+1)->¬(ft.ownBlock=some k\/fx.ownBlock=some k):=fun k hk q=>q.elim (fun e=>by have:=(hd.on.ge e).1;omega) (fun e=>by have:=(hd.ol.ge e).1;omega)
  refine fE (idx:=[(3,71),(4,72),(15,83),(16,84)]) (fun i=>[i])
   (fun i vs w'=>match i with
    |3=>∃b,vs 3=.slice (some ⟨b,0,none⟩) 1 1/\dS wd.heap.size 9 [.string (name++qm)] b w'
    |4=>∃gb cap,vs 4=.slice (some ⟨gb,0,none⟩) ((aI name j).length+1) cap/\bF aF 1 9 (L+1+1+1) (fun _=>False) w' (.slice (some ⟨gb,0,none⟩) ((aI name j).length+1) cap) (aI name j++[name++qm])/\(ft.ownBlock=some gb\/wd.heap.size<=gb)
    |15=>∃b,vs 15=.slice (some ⟨b,0,none⟩) 1 1/\dS wd.heap.size 3 [.int .i64 (1+(1+(n*g.Gd+63)/64)/g.Gd)] b w'
    |16=>∃gb cap,vs 16=.slice (some ⟨gb,0,none⟩) ((List.replicate j n).length+1) cap/\bF cO 1 3 (L+1+1+1) (fun _=>False) w' (.slice (some ⟨gb,0,none⟩) ((List.replicate j n).length+1) cap) (List.replicate j n++[1+(1+(n*g.Gd+63)/64)/g.Gd])/\(fx.ownBlock=some gb\/wd.heap.size<=gb)
    |_=>True)
   (fun d w'=>(d 4=false->bF aF 1 9 (L+1+1+1) (fun _=>False) w' ft (aI name j))/\(d 16=false->bF cO 1 3 (L+1+1+1) (fun _=>False) w' fx (List.replicate j n))/\cR (fun k=>ft.ownBlock=some k\/fx.ownBlock=some k) wd w')
   (fun i w1 w2=>w1.heap.size<=w2.heap.size/\∀k,k<w1.heap.size->(i=4->ft.ownBlock≠some k)->(i=16->fx.ownBlock≠some k)->w2.heap[k]?=w1.heap[k]?) TcP rfl ?cs ?st (fun _ _ _ _ h=>h) ?c0 ?ob ?fin
  case c0=>exact⟨fun _=>hd.on,fun _=>hd.ol,cR.refl _ _⟩
  case st =>
   intro p hp q _ hne vs us w1 w2 ha hF he;simp only[dr,cY,dg]at hp;rcases hp with rfl|rfl|rfl|rfl
   ·obtain⟨b,e,hb⟩:=hF;exact⟨b,(ha 3 (cG ..)).trans e,hb.1,(he.2 b (aq hb.2) (fun _ e=>by have:=(hd.on.ge e).2;have:=hb.1;omega) (fun _ e=>by have:=(hd.ol.ge e).2;have:=hb.1;omega)).trans hb.2⟩
   ·obtain⟨gb,cap,e,ho,hat⟩:=hF;refine⟨gb,cap,(ha 4 (cG ..)).trans e,ho.Gl aF.moves he.1 (fun k ek=>he.2 k (ho.ge ek).2 (fun q3=>absurd q3 hne) (fun _ e7=>?_)),hat⟩;exact TbV
   ·obtain⟨b,e,hb⟩:=hF;exact⟨b,(ha 15 (cG ..)).trans e,hb.1,(he.2 b (aq hb.2) (fun _ e=>by have:=(hd.on.ge e).2;have:=hb.1;omega) (fun _ e=>by have:=(hd.ol.ge e).2;have:=hb.1;omega)).trans hb.2⟩
   obtain⟨gb,cap,e,ho,hat⟩:=hF;refine⟨gb,cap,(ha 16 (cG ..)).trans e,ho.Gl cO.moves he.1 (fun k ek=>he.2 k (ho.ge ek).2 (fun _ e3=>?_) (fun q7=>absurd q7 hne)),hat⟩;exact TbW
  case ob =>
   refine kA.cons (deps:=[]) rfl rfl TcP (fun vs d w' h0 hC hF K hK=>?_) ?_
   ·clear hF;simp only[over,cq,Act.put];go_simp;refine hK.o (.slice (some w'.heap.size) 1 1) _ ?_ ⟨TcO,fun k hk _ _=>cj _ _ _ hk⟩ ⟨_,aw rfl,dS.new hC.2.2.size⟩ _ ?_
    ·simp only[show(d 4||(4:Nat)==3)=d 4 from by simp,show(d 16||(16:Nat)==3)=d 16 from by simp];exact Tbg
    simp only[over,cq,aS]
   refine kA.cons (deps:=[(3,71)]) rfl rfl TcP (fun vs d w' h0 hC hF K hK=>?_) ?_
   ·have f:=(hF (3,71) TcO).2;clear hF;simp only[over,cq,cF,aS]at f ⊢;obtain⟨b,e2,hb⟩:=f;rw[e2];simp only at h0;have hz:=hC.2.2.size;refine mU aF.moves underlying27 hi1 hz10 hz11 hz12 rfl TcQ TcQ rfl _ _ TcT (L+1+1+1) (fun _=>False) ft (aI name j) (name++qm) TcT (hC.1 h0) b 1 [.string (name++qm)] TcT TcT rfl Tc0 (fun j y hy=>?_) Tdz (cA TT.hB hz) (fun _ _ f=>f) (fun gb cap w3 hp=>?_)
    ·exact Tco
    refine hK.o (.slice (some gb) (((aI name j)).length+1) cap) w3 ?_ ⟨hp.grown.size,fun k hk qa qb=>hp.grown.block k hk fun e=>qa rfl e.symm⟩ ⟨gb,cap,aw rfl,hp.own,hp.at'.imp id (fun q=>by omega)⟩ _ ?_
    ·simp only[show(d 16||(16:Nat)==4)=d 16 from by simp];exact Tbe
    simp only[over,cq,cF,aS,e2]
   refine kA.cons (deps:=[]) rfl rfl TcP (fun vs d w' h0 hC hF K hK=>?_) ?_
   ·clear hF;simp only[over,cq,Act.put];go_simp;refine hK.o (.slice (some w'.heap.size) 1 1) _ ?_ ⟨TcO,fun k hk _ _=>cj _ _ _ hk⟩ ⟨_,aw rfl,dS.new hC.2.2.size⟩ _ ?_
    ·simp only[show(d 4||(4:Nat)==15)=d 4 from by simp,show(d 16||(16:Nat)==15)=d 16 from by simp];exact Tbg
    simp only[over,cq,aS]
   refine kA.cons (deps:=[(15,83)]) rfl rfl TcP (fun vs d w' h0 hC hF K hK=>?_) trivial;have f:=(hF (15,83) TcO).2;clear hF;simp only[over,cq,cF,aS]at f ⊢;obtain⟨b,e2,hb⟩:=f;rw[e2];simp only at h0;have hz:=hC.2.2.size;refine mU cO.moves underlying22 hi2 hz20 hz21 hz22 rfl TcQ TcQ rfl _ _ TcT (L+1+1+1) (fun _=>False) fx (List.replicate j n) (1+(1+(n*g.Gd+63)/64)/g.Gd) TcT (hC.2.1 h0) b 1 [.int .i64 (1+(1+(n*g.Gd+63)/64)/g.Gd)] TcT TcT rfl Tc0 (fun j y hy=>?_) (by simp[];omega) (cA TT.hB hz) (fun _ _ f=>f) (fun gb cap w3 hp=>?_)
   ·exact Tco
   refine hK.o (.slice (some gb) (((List.replicate j n)).length+1) cap) w3 ?_ ⟨hp.grown.size,fun k hk qa qb=>hp.grown.block k hk fun e=>qb rfl e.symm⟩ ⟨gb,cap,aw rfl,hp.own,hp.at'.imp id (fun q=>by omega)⟩ _ ?_
   ·simp only[show(d 4||(4:Nat)==16)=d 4 from by simp];exact Tbf
   simp only[over,cq,cF,aS,e2]
  case cs =>
   intro d w' hC;have hm:=hC.2.2;refine⟨?_,?_,?_⟩
   ·rw[hm.cell (p:=⟨L+1,0,none⟩) (aq hd.bn) (AH (L+1) TcN)];simp[World.cell?,hd.bn]
   ·rw[hm.cell (p:=⟨L+1+1,0,none⟩) (aq hd.bl) (AH (L+1+1) TcN)];simp[World.cell?,hd.bl]
   rw[hm.cell (p:=⟨L,6,none⟩) (aq hd.bx) (AH L TcN)];exact(TT.cx 6 rfl).1
  case fin =>
   intro vs d w' hC hF;have f3:=(hF (4,72) TcO).2;have f7:=(hF (16,84) TcO).2;clear hF;simp only[over,cq,cF,aS,cQ,cL]at f3 f7 ⊢;obtain⟨g1,p1,e3,o1,t1⟩:=f3;obtain⟨g2,p2,e7,o2,t2⟩:=f7;rw[e3,e7];generalize vs 3=u3;generalize vs 15=u15;obtain⟨T7,y1,y2,y3,y4⟩:=TT.push2 hC.2.2 o1 t1 o2 t2;simp only[List.length_replicate]at T7;clear hC e3 e7 o1 o2 t1 t2 hd AH TT hi1 hi2 hz10 hz11 hz12 hz20 hz21 hz22 hHeld;have c0:=T7.post.bld.c0;go_wp2_with fail;refine(bY bs 3 _ TcN TcN T7.post.bld.src).mono ?_;rintro e wA ⟨v3,rfl,hv31,hv32,SZ,S0⟩;have TA:=T7.read SZ S0;clear S0 SZ c0;by_cases hv30:v3=0
   ·subst hv30;obtain⟨ap,ac,B4⟩:∃ap ac,av=.slice ap j ac:=by
     obtain⟨p,c,e,_⟩:=TA.loc.oa.form;refine⟨p,c,?_⟩;rw[e];simp[gB,aI]
    subst B4;have cb0:=TA.post.bld.c0;have ca:=(TA.cx 3 rfl).1;have G2:=TA.post.bld.Gj;have UA:=(TA.post.bld.xlt L (.inr (.inl rfl))).2;have K0:=(TA.post.bld.xlt L (.inr (.inl rfl))).1;go_wp2;refine aZ (fun w'=>w'.cell? bb=some (.pointer (some bs))/\w'.cell? (Tac L 3)=some (.slice ap j ac)) 9 [0,1,2,4] TcP ⟨cb0,ca⟩ (fun hHeld=>?_);refine fz 0 ?_;refine fz 1 ?_;refine fz 2 ?_;refine fz 4 ?_;refine fS 3 hHeld ?_;refine fS 5 hHeld ?_;refine fS 6 hHeld ?_;refine lR 7 fun K hK=>?_;go_simp;refine(bY bs (j:Int) _ TcN TcN (TA.below ((bj _ _).drew)).post.bld.src).mono ?_;rintro e wB ⟨vi,rfl,PR,Xk,S1,S3⟩;have TB:=(TA.below ((bj _ _).drew)).read S1 S3;refine hK.o _ _ ⟨TB.post.bld.c0,(TB.cx 3 rfl).1⟩ ?_;clear hK K S1 S3 cb0 ca hHeld TA;refine lR 8 fun K hK=>?_;go_simp;have TC:=TB.below (ae wB (.cells #[.int .i64 vi] 3));refine hK.o _ _ ⟨TC.post.bld.c0,(TC.cx 3 rfl).1⟩ ?_;clear hK K;refine aP TcP rfl ?_;simp only[cQ,cL];obtain⟨x5,f5⟩:=TC.cx 5 rfl;go_wp2;have hJ:=HJ;unfold kG at hJ;go_meet;refine⟨_,_,_,_,_,_,_,.mirrorLog j ⟨hj2,hj⟩ c ⟨hc1,hc2⟩ [vi] (.inr ⟨vi,PR,TcN,rfl⟩),TC.stale (b9 wB _) (by have:=TB.post.bld.Gj;omega) (fun q=>by have:=(TB.post.bld.xlt _ q).2;omega) (fun q=>by have:=(TB.post.bld.nLt q).2;omega) (fun q=>by have:=(TB.post.bld.vLt q).2;omega)⟩
   have XV:(v3==0)=false:=by simpa using hv30
   go_wp2;have hJ:=HJ;unfold kG at hJ;go_meet;exact⟨_,_,_,_,_,_,_,.mirrorLog j ⟨hj2,hj⟩ c ⟨hc1,hc2⟩ [] (.inl rfl),TA⟩
 have ad6:(v4==0)=false:=by simpa using hv40
 have c0:=T5.post.bld.c0;go_wp2_with fail;refine(bY bs 3 _ TcN TcN T5.post.bld.src).mono ?_;rintro e wA ⟨v3,rfl,hv31,hv32,SZ,S0⟩;have TA:=T5.read SZ S0;clear S0 SZ c0;by_cases hv30:v3=0
 ·subst hv30;obtain⟨ap,ac,B4⟩:∃ap ac,av=.slice ap j ac:=by
   obtain⟨p,c,e,_⟩:=TA.loc.oa.form;refine⟨p,c,?_⟩;rw[e];simp[gB,aI]
  subst B4;have cb0:=TA.post.bld.c0;have ca:=(TA.cx 3 rfl).1;have G2:=TA.post.bld.Gj;have UA:=(TA.post.bld.xlt L (.inr (.inl rfl))).2;have K0:=(TA.post.bld.xlt L (.inr (.inl rfl))).1;go_wp2;refine aZ (fun w'=>w'.cell? bb=some (.pointer (some bs))/\w'.cell? (Tac L 3)=some (.slice ap j ac)) 9 [0,1,2,4] TcP ⟨cb0,ca⟩ (fun hHeld=>?_);refine fz 0 ?_;refine fz 1 ?_;refine fz 2 ?_;refine fz 4 ?_;refine fS 3 hHeld ?_;refine fS 5 hHeld ?_;refine fS 6 hHeld ?_;refine lR 7 fun K hK=>?_;go_simp;refine(bY bs (j:Int) _ TcN TcN (TA.below ((bj _ _).drew)).post.bld.src).mono ?_;rintro e wB ⟨vi,rfl,PR,Xk,S1,S3⟩;have TB:=(TA.below ((bj _ _).drew)).read S1 S3;refine hK.o _ _ ⟨TB.post.bld.c0,(TB.cx 3 rfl).1⟩ ?_;clear hK K S1 S3 cb0 ca hHeld TA;refine lR 8 fun K hK=>?_;go_simp;have TC:=TB.below (ae wB (.cells #[.int .i64 vi] 3));refine hK.o _ _ ⟨TC.post.bld.c0,(TC.cx 3 rfl).1⟩ ?_;clear hK K;refine aP TcP rfl ?_;simp only[cQ,cL];obtain⟨x5,f5⟩:=TC.cx 5 rfl;go_wp2;have hJ:=HJ;unfold kG at hJ;go_meet;refine⟨_,_,_,_,_,_,_,.mirror j ⟨hj2,hj⟩ c ⟨hc1,hc2⟩ [vi] (.inr ⟨vi,PR,TcN,rfl⟩),TC.stale (b9 wB _) (by have:=TB.post.bld.Gj;omega) (fun q=>by have:=(TB.post.bld.xlt _ q).2;omega) (fun q=>by have:=(TB.post.bld.nLt q).2;omega) (fun q=>by have:=(TB.post.bld.vLt q).2;omega)⟩
 have XV:(v3==0)=false:=by simpa using hv30
 go_wp2;have hJ:=HJ;unfold kG at hJ;go_meet;exact⟨_,_,_,_,_,_,_,.mirror j ⟨hj2,hj⟩ c ⟨hc1,hc2⟩ [] (.inl rfl),TA⟩
theorem wU:JR 4:=by
 intro X bs bb nv vv g next w name hname he1 he2 n hn1 hn2 L W T0 J K' Q0 HJ hK;conv=>arg 2;whnf
 have c0:=T0.post.bld.c0;go_wp2_with fail;refine(bY bs 2 _ TcN TcN T0.post.bld.src).mono ?_;rintro e w2 ⟨kv,rfl,hk1,hk2,hs2,hm2⟩;have T1:=T0.read hs2 hm2;clear hm2 hs2 c0;obtain⟨kk,OU⟩:∃u:Nat,kv+3=(u:Int):=⟨(kv+3).toNat,TcN⟩;obtain rfl:kv=(kk:Int)-3:=by omega
 have hk3:3<=kk:=by omega
 have hk4:kk<=4:=by omega
 clear OU;have e1:3+((kk:Int)-3)=kk:=by omega
 have b1:0<=n*((kk:Int)-1)/\n*((kk:Int)-1)<=9:=by rcases(show n=1\/n=2\/n=3 by omega)with rfl|rfl|rfl<;>omega
 have b2:=b1.1;have b3:=b1.2;have q1:0<=(15+g.Gd)/g.Gd:=lz TcN TcN;have q2:(15+g.Gd)/g.Gd<=31:=Int.le_trans (mS _ TcN) TcN;obtain⟨x1,f1⟩:=T1.cx 1 rfl;go_upto_block 3 with(fail)
 have T2:vq X bs bb nv vv g next w (L+1+1+1) L (L+1) (L+1+1) (.slice none 0 0) (.slice none 0 0) (.slice none 0 0) (.slice none 0 0) [] [] [] [] (n*((kk:Int)-1)) 4 1 es 0 (w2.setCell (Tac L 1) (.int .i64 (n*((kk:Int)-1)))):=T1.put 1 _ (fun _=>rfl);generalize hW2:World.setCell w2 _ _=W2 at *;clear hW2 x1 f1 b1 T1;go_wp2;go_loopw[14] (fun i wr=>∃(j:Nat) (ft fx av:Value),j<=kk/\i=.int .i64 j/\vq X bs bb nv vv g next w (L+1+1+1) L (L+1) (L+1+1) ft fx av (.slice none 0 0) (aI name j) (List.replicate j (n+(15+g.Gd)/g.Gd)) (gB (aI name j)) [] (n*((kk:Int)-1)) 4 1 es 0 wr) (fun i _=>kk-(intOf i).toNat)
 exact⟨0,_,_,_,TcN,rfl,T2⟩;obtain⟨j,ft,fx,av,hj,rfl,T3⟩:=hrel;by_cases hlt:j<kk
 ·have z1:(0:Int)<=(j:Int):=by omega
  have z2:(j:Int)<4:=by omega
  have hcell:(wr.alloc (.cells #[.string ⟨#[48]⟩,.string ⟨#[49]⟩,.string ⟨#[50]⟩,.string ⟨#[51]⟩] 9)).cell? (wr.heap.size,j)=some (.string (digit j)):=by
   refine aD rfl ?_;rcases(show j=0\/j=1\/j=2\/j=3 by omega)with rfl|rfl|rfl|rfl<;>rfl
  have QH:(digit j).size=1:=rfl;have hc1:¬(9223372036854775807<name.size+4):=by omega
  have hne0:¬g.Gd=0:=by omega
  have hne1:(g.Gd==0)=false:=by simpa using hne0
  have hw1:IntKind.i64.wrap (15+g.Gd)=15+g.Gd:=dy _ TcN;have hw2:(15+g.Gd).tdiv g.Gd=(15+g.Gd)/g.Gd:=CC TcN;have hw3:IntKind.i64.wrap ((15+g.Gd)/g.Gd)=(15+g.Gd)/g.Gd:=dy _ TcN;have hw4:IntKind.i64.wrap (n+(15+g.Gd)/g.Gd)=n+(15+g.Gd)/g.Gd:=dy _ TcN;have hc2:¬(9223372036854775807<name.size+4+1):=by omega
  go_wp2;refine aZ (fun _=>True) 14 [] TcP trivial (fun hHeld=>?_);refine fS 0 hHeld ?_;refine fS 1 hHeld ?_;refine fS 2 hHeld ?_;refine fS 4 hHeld ?_;refine fS 8 hHeld ?_;refine fS 9 hHeld ?_;refine fS 10 hHeld ?_;refine fS 11 hHeld ?_;refine fS 12 hHeld ?_;refine fS 13 hHeld ?_;(refine lR 3 fun K hK=>?_;go_simp;refine hK.o _ _ trivial ?_;clear hK K);(refine lR 5 fun K hK=>?_;go_simp;refine hK.o _ _ trivial ?_;clear hK K);(refine lR 6 fun K hK=>?_;go_simp;refine hK.o _ _ trivial ?_;clear hK K);(refine lR 7 fun K hK=>?_;go_simp;refine hK.o _ _ trivial ?_;clear hK K)
  refine aP TcP rfl ?_;simp only[cQ,cL];clear hw1 hw2 hw3 hw4 hcell;have T4:=(T3.below (ae wr (.cells #[.string ⟨#[48]⟩,.string ⟨#[49]⟩,.string ⟨#[50]⟩,.string ⟨#[51]⟩] 9))).below ((bj _ _).drew);go_wp2_with fail;refine(jM _ _ _ _ _ _ _ _ _ _ _ _ _ _ _ _ _ _ _ _ _ _ (fun _=>rfl) T4.loc T4.hB _ _ Tdz TcS Tdg).mono ?_;rintro e w3 ⟨rfl,aD7,aD8,SY,A1⟩;have T5:=T4.add A1;clear A1;exact Tbt
 obtain rfl:j=kk:=by omega
 have c0:=T3.post.bld.c0;go_wp2_with fail;refine(bY bs 2 _ TcN TcN T3.post.bld.src).mono ?_;rintro e w3 ⟨v3,rfl,hv1,hv2,hs3,hm3⟩;have T4:=T3.read hs3 hm3;clear hm3 hs3 c0;by_cases hv0:v3=0
 ·subst hv0;obtain⟨x4,f4⟩:=T4.cx 4 rfl;go_wp2;have hJ:=HJ;unfold kG at hJ;go_meet;exact⟨_,_,_,_,_,_,_,.parity j ⟨hk3,hk4⟩ g.Gd (.inr rfl),T4.put 4 _ (fun _=>rfl)⟩
 have XV:(v3==0)=false:=by simpa using hv0
 go_wp2;have hJ:=HJ;unfold kG at hJ;go_meet;exact⟨_,_,_,_,_,_,_,.parity j ⟨hk3,hk4⟩ 1 (.inl rfl),T4⟩
theorem AV:JR 5:=by
 intro X bs bb nv vv g next w name hname he1 he2 n hn1 hn2 L W T0 J K' Q0 HJ hK;conv=>arg 2;whnf
 have c0:=T0.post.bld.c0;go_wp2_with fail;refine(bO bs 1 3 _ TcN TcN TcN T0.post.bld.src).mono ?_;rintro e w2 ⟨l,rfl,hl1,hl2,hs2,hm2⟩;have T1:=T0.read hs2 hm2;clear hm2 hs2 c0;go_wp2_with fail;refine(jM _ _ _ _ _ _ _ _ _ _ _ _ _ _ _ _ _ _ _ _ _ _ (fun _=>rfl) T1.loc T1.hB _ _ TcO TcO TcO).mono ?_;rintro e w3 ⟨rfl,aD7,aD8,SY,A1⟩;have T2:=T1.add A1;clear A1;go_wp2_with fail;refine(jM _ _ _ _ _ _ _ _ _ _ _ _ _ _ _ _ _ _ _ _ _ _ (fun _=>rfl) T2.loc T2.hB _ _ TcO TcO TcO).mono ?_;rintro e w4 ⟨rfl,Xl,Xm,av2,A2⟩;have T3:=T2.add A2;clear A2;have c0:=T3.post.bld.c0;go_wp2_with fail;refine(bO bs 1 8 _ TcN TcN TcN T3.post.bld.src).mono ?_;rintro e w5 ⟨c,rfl,hc1,hc2,hs5,hm5⟩;have T4:=T3.read hs5 hm5;clear hm5 hs5 c0;obtain⟨x4,f4⟩:=T4.cx 4 rfl;go_wp2;have hJ:=HJ;unfold kG at hJ;go_meet;exact⟨_,_,_,_,_,_,_,.pool l c ⟨hl1,hl2⟩ ⟨hc1,hc2⟩,T4.put 4 _ (fun _=>rfl)⟩
theorem yF:JR 7:=by
 intro X bs bb nv vv g next w name hname he1 he2 n hn1 hn2 L W T0 J K' Q0 HJ hK;conv=>arg 2;whnf
 go_wp2_with fail;refine(jM _ _ _ _ _ _ _ _ _ _ _ _ _ _ _ _ _ _ _ _ _ _ (fun _=>rfl) T0.loc T0.hB _ _ TcO TcO TcO).mono ?_;rintro e w3 ⟨rfl,aD7,aD8,SY,A1⟩;have T1:=T0.add A1;clear A1;have c0:=T1.post.bld.c0;go_wp2_with fail;refine(bO bs 1 2 _ TcN TcN TcN T1.post.bld.src).mono ?_;rintro e w2 ⟨l,rfl,hl1,hl2,hs2,hm2⟩;have T2:=T1.read hs2 hm2;clear hm2 hs2 c0;go_wp2_with fail;refine(jM _ _ _ _ _ _ _ _ _ _ _ _ _ _ _ _ _ _ _ _ _ _ (fun _=>rfl) T2.loc T2.hB _ _ TcO TcO TcO).mono ?_;rintro e w4 ⟨rfl,Xl,Xm,av2,A2⟩;have T3:=T2.add A2;clear A2;go_wp2_with fail;refine(jM _ _ _ _ _ _ _ _ _ _ _ _ _ _ _ _ _ _ _ _ _ _ (fun _=>rfl) T3.loc T3.hB _ _ TcO TcO TcO).mono ?_;rintro e w5 ⟨rfl,ad7,ad8,av3,A3⟩;have T4:=T3.add A3;clear A3;have c0:=T4.post.bld.c0;have hb4:=T4.post.bld.Gj;go_wp2;refine aZ (fun w'=>w'.cell? bb=some (.pointer (some bs))) 11 [0,1,2,5,6,7] TcP c0 (fun hHeld=>?_);refine fz 0 ?_;refine fz 1 ?_;refine fz 2 ?_;refine fz 5 ?_;refine fz 6 ?_;refine fz 7 ?_;refine fS 3 hHeld ?_;refine fS 8 hHeld ?_;refine lR 4 fun K hK=>?_;go_simp;refine(bO bs 1 2 _ TcN TcN TcN (T4.below ((bj _ _).drew)).post.bld.src).mono ?_;rintro e w6 ⟨m,rfl,hm1,hm2,hs6,hm6⟩;have T5:=(T4.below ((bj _ _).drew)).read hs6 hm6;refine hK.o _ _ T5.post.bld.c0 ?_;clear hK K hs6 hm6 hHeld;have hHeld:=T5.post.bld.c0;refine fS 10 hHeld ?_;refine lR 9 fun K hK=>?_;go_simp;refine(bO bs 1 4 _ TcN TcN TcN T5.post.bld.src).mono ?_;rintro e w7 ⟨c,rfl,hc1,hc2,hs7,hm7⟩;have T6:=T5.read hs7 hm7;refine hK.o _ _ T6.post.bld.c0 ?_;clear hK K hs7 hm7 c0 hHeld;refine aP TcP rfl ?_;simp only[cQ,cL];obtain⟨x4,f4⟩:=T6.cx 4 rfl;obtain⟨x9,f9⟩:=T6.cx 9 rfl;go_wp2;have hJ:=HJ;unfold kG at hJ;go_meet;exact⟨_,_,_,_,_,_,_,.cache l m c ⟨hl1,hl2⟩ ⟨hm1,hm2⟩ ⟨hc1,hc2⟩,(T6.put 9 _ (fun _=>rfl)).put 4 _ (fun _=>rfl)⟩
theorem Tba{p:Prop}(h:p:=by
 go_wp2;go_end0
 have hv:=Mp.o;subst hv;have hb:=Ot.o;subst hb;refine⟨rfl,.inr ⟨n,names,lengths,x,ps,vl,ro,tl,kk,j,DM,next',_,hn1,hn2,HR.o,?_,hT,HT2.o,TcN,fun q=>absurd rfl q,Xq.o,R⟩⟩;have:=HH.o;rw[HR1.o,cI]at this;exact this):p:=h
theorem Tdk{p:Prop}(h:p:=by assumption):p:=h
theorem vO(X:Nat->Prop)(bs bb:Nat)(nv vv:Value)(g:af)(next:List Int)(w:World)(h:eW X w bs bb nv vv g next)(hk:BOk g next)(name:ByteArray)(hname:name.size<=100)(kind:Int)(AK:kind=3\/kind=4\/kind=5\/kind=7)(he1:1<=g.Gd)(he2:g.Gd<=16)(mb:g.F9.length<=40)(hnx:g.next<=1000) :
  Calls prog 17 #[.pointer (some bb),.string name,.int .i64 kind] w (fun e w'=>e=.returned (.tuple #[])/\FD X bs bb nv vv g next name kind w w'):=by
 have k0:=hk.n0;have k1:=hk.n1;have c0:=h.c0;have c4:=h.c4;have cX:=h.Gj;have gO:=h.lt;have sy:¬bb=bs:=by omega
 go_enter func17,ntmps17;go_wp2;refine aZ (fun w'=>w'.cell? bb=some (.pointer (some bs))/\w'.cell? (Tac bb 4)=some (.int .i64 g.Gd)) 10 [0,1,2,3,5,6,7] TcP ⟨c0,c4⟩ (fun hHeld=>?_);refine fz 0 ?_;refine fz 1 ?_;refine fz 2 ?_;refine fz 3 ?_;refine fz 5 ?_;refine fz 6 ?_;refine fz 7 ?_;refine fS 4 hHeld ?_;refine fS 8 hHeld ?_;refine lR 9 fun K hK=>?_;go_simp;refine(bO bs 1 3 _ TcN TcN TcN (h.below ((bj _ _).drew)).src).mono ?_;rintro e w1 ⟨n,rfl,hn1,hn2,hs1,hm1⟩;refine hK.o _ _ ⟨(hm1.cell (p:=bb) cX sy).trans c0,(hm1.cell (p:=⟨bb,4,none⟩) cX sy).trans c4⟩ ?_;clear hK K;refine aP TcP rfl ?_;simp only[cQ,cL];have P1:aH X bs bb nv vv w w1 nv vv g next:=((aH.refl h).drewN 1).read hs1 hm1;clear hm1 hs1 hHeld c0 c4
 go_upto_block 0 with(fail)
 generalize hW:World.alloc (World.alloc (World.alloc w1 _) _) _=W;have T0:vq X bs bb nv vv g next w (w1.heap.size+1+1+1) w1.heap.size (w1.heap.size+1) (w1.heap.size+1+1) (.slice none 0 0) (.slice none 0 0) (.slice none 0 0) (.slice none 0 0) [] [] [] [] n kind 1 es 0 W:=by
  have hb:Below w1.heap.size w1 W:=by
   rw[<- hW];exact(((bj _ _).alloc (bk _) _).alloc TcO _).alloc TcS _
  have hz:W.heap.size=w1.heap.size+1+1+1:=by rw[<- hW];simp
  refine⟨⟨?_,?_,?_,⟨[],gS _ _ _ 1,rfl⟩,⟨[],gS _ _ _ 1,rfl⟩,⟨[],gS _ _ _ 3,rfl⟩,(fun _ e=>by cases e),(fun _ e=>by cases e),(fun _ e=>by cases e),TcN,TcN,TcN⟩,P1.fresh hb (fun k hk=>?_),b6.nil,TcN,P1.mod.size⟩
  ·rw[<- hW,cj _ _ _ TcO];have:=b9 (w1.alloc (.cells #[.int .i64 0,.int .i64 n,.int .i64 kind,.slice none 0 0,.int .i64 1,.slice none 0 0,.string es,.string es,.int .i64 0,.int .i64 0,.int .i64 0] 88)) (.cells #[.slice none 0 0] 27);rw[cW]at this;exact this
  ·rw[<- hW];have:=b9 ((w1.alloc (.cells #[.int .i64 0,.int .i64 n,.int .i64 kind,.slice none 0 0,.int .i64 1,.slice none 0 0,.string es,.string es,.int .i64 0,.int .i64 0,.int .i64 0] 88)).alloc (.cells #[.slice none 0 0] 27)) (.cells #[.slice none 0 0] 22);rw[cW,cW]at this;exact this
  ·rw[<- hW,cj _ _ _ TcS,cj _ _ _ TcO,b9];rfl
  rcases hk with q|rfl|rfl|rfl|q|q|q
  ·exact .inl q
  ·exact .inr ⟨TcN,TcN⟩
  ·exact .inr ⟨TcN,TcN⟩
  ·exact .inr ⟨TcN,TcN⟩
  ·cases q
  ·cases q
  cases q
 clear hW;have TP:w.heap.size<=w1.heap.size:=P1.mod.size;generalize hL:w1.heap.size=L at *;have HL:=aa hL;clear hL;go_cut[12] (fun _ wc=>EM X bs bb nv vv g next w L n name kind wc)
 case first =>
  rcases AK with rfl|rfl|rfl|rfl
  ·exact xW X bs bb nv vv g next w name hname he1 he2 n hn1 hn2 L W T0 _ _ _ Tdk Tdk
  ·exact wU X bs bb nv vv g next w name hname he1 he2 n hn1 hn2 L W T0 _ _ _ Tdk Tdk
  ·exact AV X bs bb nv vv g next w name hname he1 he2 n hn1 hn2 L W T0 _ _ _ Tdk Tdk
  exact yF X bs bb nv vv g next w name hname he1 he2 n hn1 hn2 L W T0 _ _ _ Tdk Tdk
 case rest =>
  obtain⟨ft,fx,av,Oz,names,lengths,x,hR,T⟩:=hcut;have HR:=aa hR;obtain⟨r1,r2,r3⟩:=hR.ok he1 he2 hn1 hn2;clear hR;have HR1:=aa r1;clear r1;have HR3:=aa r3;clear r3;have q1:=cr T.loc.bn 0 _ rfl;have q2:=cr T.loc.bl 0 _ rfl;go_wp2_with fail;refine(zi (Yc X L (L+1) (L+1+1) ft fx av) bs bb nv vv g next _ T.post.bld hk ft fx names lengths (T.loc.on.rd aF.moves TcQ (fun _ _ f=>f.elim) (fun b e=>.inr (.inr (.inr (.inr (.inl e)))))) (T.loc.ol.rd cO.moves TcQ (fun _ _ f=>f.elim) (fun b e=>.inr (.inr (.inr (.inr (.inr (.inl e))))))) (by rw[HR1.o];exact bk _) r2 (by rw[<- HR1.o];exact r2) HR3.o mb hnx).mono ?_;rintro e w2 (⟨ps,vl,next',pA,rfl,hH,hT,Q⟩|⟨j,nv',pA,rfl,hj,Q⟩)
  ·have P2:=T.post.trans Q;have PX:=(Q.loc T.post.bld (.inr (.inl rfl))).trans T.loc.bx;have Od:bF aQ 3 83 (L+1+1+1) (fun _=>False) w2 av x.Ga:=T.loc.oa.Gl aQ.moves Q.mod.size (fun k e=>Q.loc T.post.bld (.inr (.inr (.inr (.inr (.inr (.inr e)))))));have hst:b6 cO 1 (okB (Yc X L (L+1) (L+1+1) ft fx av) bb nv pA) w2 [Oz] x.stale:=(b6.moves cO.moves).mv ⟨Q.mod.size,fun b hb ho=>⟨⟨ho.1,ho.2.1,fun e=>(Q.vfr b e).elim ho.2.2.1 TcN,ho.2.2.2⟩,Q.loc' T.post.bld ho hb⟩⟩ T.rs;have c8:=P2.bld.c8;have c0:=P2.bld.c0;have qL:∀(j:Nat) (z:Value),[.int .i64 0,.int .i64 x.length,.int .i64 kind,av,.int .i64 x.chunk,Oz,.string x.log,.string es,.int .i64 0,.int .i64 x.mode,.int .i64 0][j]?=some z->w2.cell? ⟨L,j,none⟩=some z:=fun j z hz=>by
    simp only[World.cell?,PX];simpa[QA]using hz
   obtain⟨y0,y1,y2,y3,y4,y5,y6,y7,y8,y9,y10⟩:=IC qL;have Fc:=aa PX;clear PX;have aw1:vl.length=names.length:=hH.len;have Oc:=aa aw1;clear aw1;clear qL q1 q2;go_wp2;refine aZ (fun w'=>w'.cell? (Tac bb 8)=some pA/\w'.cell? bb=some (.pointer (some bs))/\w'.cell? L=some (.int .i64 0)/\w'.cell? (Tac L 1)=some (.int .i64 x.length)/\w'.cell? (Tac L 2)=some (.int .i64 kind)/\w'.cell? (Tac L 3)=some av/\w'.cell? (Tac L 4)=some (.int .i64 x.chunk)/\w'.cell? (Tac L 5)=some Oz/\w'.cell? (Tac L 6)=some (.string x.log)/\w'.cell? (Tac L 7)=some (.string es)/\w'.cell? (Tac L 8)=some (.int .i64 0)/\w'.cell? (Tac L 9)=some (.int .i64 x.mode)/\w'.cell? (Tac L 10)=some (.int .i64 0)) 24 [0,1,2,3,4,6,7,9,10,11,15,16,17] TcP (by simp[c8,c0,y0,y1,y2,y3,y4,y5,y6,y7,y8,y9,y10]) (fun hHeld=>?_);refine fz 0 ?_;refine fz 1 ?_;refine fz 2 ?_;refine fz 3 ?_;refine fz 4 ?_;refine fz 6 ?_;refine fz 7 ?_;refine fz 9 ?_;refine fz 10 ?_;refine fz 11 ?_;refine fz 15 ?_;refine fz 16 ?_;refine fz 17 ?_;refine fS 5 hHeld ?_;refine fS 12 hHeld ?_;refine fS 18 hHeld ?_;refine fS 20 hHeld ?_;clear c8 c0 y0 y1 y2 y3 y4 y5 y6 y7 y8 y9 y10;generalize ay7:oX g.id (g.next+names.length+1)=mz;have Mp:=aa ay7;clear ay7;have HC0:CS (Yc X L (L+1) (L+1+1) ft fx av) bs bb nv vv nv pA w w2.drew { g with next:=g.next+names.length,F9:=g.F9++vl } next' w2.drew:=⟨P2.drewN 1,bk _,fun _ _=>rfl,fun _ _ _=>rfl⟩
   have S4:bF aQ 3 83 (L+1+1+1) (fun _=>False) w2.drew av x.Ga:=Od.Gl aQ.moves (bk _) (fun _ _=>rfl);have S5:b6 cO 1 (okB (Yc X L (L+1) (L+1+1) ft fx av) bb nv pA) w2.drew [Oz] x.stale:=(b6.moves cO.moves).mv ⟨bk _,fun b _ ho=>⟨ho,rfl⟩⟩ hst;have Xn:Hid (w2.drew.heap[L]?=some (.cells #[.int .i64 0,.int .i64 x.length,.int .i64 kind,av,.int .i64 x.chunk,Oz,.string x.log,.string es,.int .i64 0,.int .i64 x.mode,.int .i64 0] 88 (0,0))):=Fc.o;generalize hwr:w2.drew=wd at *;clear hwr;have pB:=HC0.post.bld;refine fE (idx:=[(8,209),(13,214),(14,215),(19,220),(21,222),(22,223),(23,224)])
    (fun i=>[i]) (fun i vs w'=>match i with
     |8=>vs 8=.int .u64 mz
     |13=>∃v:Int,vs 13=.int .i64 v
     |14=>∃ro:Bool,vs 14=.bool ro
     |19=>∃tp tc tl,vs 19=.slice tp (List.length tl) tc/\b6 aF 1 (fun k=>wd.heap.size<=k) w' [.slice tp tl.length tc] tl/\List.Sublist tl iQ
     |21=>∃b,vs 21=.slice (some ⟨b,0,none⟩) 1 1/\dS wd.heap.size 88 [.int .i64 0,.int .i64 x.length,.int .i64 kind,av,.int .i64 x.chunk,Oz,.string x.log,.string es,.int .i64 0,.int .i64 x.mode,.int .i64 0] b w'
     |22=>∃b ro tp tc tl,vs 22=.agg #[.string name,.int .u64 mz,.bool false,.bool ro,.slice tp tl.length tc,.slice (some ⟨b,0,none⟩) 1 1]/\b6 aF 1 (fun k=>wd.heap.size<=k) w' [.slice tp tl.length tc] tl/\List.Sublist tl iQ/\dS wd.heap.size 88 [.int .i64 0,.int .i64 x.length,.int .i64 kind,av,.int .i64 x.chunk,Oz,.string x.log,.string es,.int .i64 0,.int .i64 x.mode,.int .i64 0] b w'
     |23=>∃c b ro tp tc tl,vs 23=.slice (some ⟨c,0,none⟩) 1 1/\dS wd.heap.size 57 [.string name,.int .u64 mz,.bool false,.bool ro,.slice tp tl.length tc,.slice (some ⟨b,0,none⟩) 1 1] c w'/\b6 aF 1 (fun k=>wd.heap.size<=k) w' [.slice tp tl.length tc] tl/\List.Sublist tl iQ/\dS wd.heap.size 88 [.int .i64 0,.int .i64 x.length,.int .i64 kind,av,.int .i64 x.chunk,Oz,.string x.log,.string es,.int .i64 0,.int .i64 x.mode,.int .i64 0] b w'
     |_=>True)
    (fun d w'=>CS (Yc X L (L+1) (L+1+1) ft fx av) bs bb nv vv nv pA w wd { g with next:=if d 8=true then g.next+names.length+1 else g.next+names.length,F9:=g.F9++vl } next' w') (fun _=>rS wd.heap.size) TcP rfl ?cs ?st (fun _ _ _ _ h=>h) ?c0 ?ob ?fin
   case c0=>exact HC0
   case cs =>
    intro d w' hC;have e:=(hC.same L (.inr (.inl rfl))).trans Xn.o;refine⟨hC.post.bld.c8,hC.post.bld.c0,?_⟩;simp[World.cell?,e]
   case st =>
    intro p hp q _ _ vs us w1 w2 ha hF he;have C4:Mv (fun k=>wd.heap.size<=k) (fun k=>wd.heap.size<=k) w1 w2:=⟨he.1,fun b hb ho=>⟨ho,he.2 b ho hb⟩⟩;simp only[dr,cY,dg]at hp;rcases hp with rfl|rfl|rfl|rfl|rfl|rfl|rfl
    ·exact(ha 8 (cG ..)).trans hF
    ·obtain⟨v,e⟩:=hF;exact⟨v,(ha 13 (cG ..)).trans e⟩
    ·obtain⟨v,e⟩:=hF;exact⟨v,(ha 14 (cG ..)).trans e⟩
    ·obtain⟨tp,tc,tl,e,h1,h2⟩:=hF;exact⟨tp,tc,tl,(ha 19 (cG ..)).trans e,(b6.moves aF.moves).mv C4 h1,h2⟩
    ·obtain⟨b,e,hb⟩:=hF;exact⟨b,(ha 21 (cG ..)).trans e,hb.ev he⟩
    ·obtain⟨b,ro,tp,tc,tl,e,h1,h2,hb⟩:=hF;exact⟨b,ro,tp,tc,tl,(ha 22 (cG ..)).trans e,(b6.moves aF.moves).mv C4 h1,h2,hb.ev he⟩
    obtain⟨c,b,ro,tp,tc,tl,e,hc,h1,h2,hb⟩:=hF;exact⟨c,b,ro,tp,tc,tl,(ha 23 (cG ..)).trans e,hc.ev he,(b6.moves aF.moves).mv C4 h1,h2,hb.ev he⟩
   case ob =>
     refine kA.cons (deps:=[]) rfl rfl TcP (fun vs d w' h0 hC hF K hK=>?_) ?_
     ·clear hF;simp only at h0;simp only[h0,pj,fY]at hC;simp only[over,cq,Act.put];go_simp;refine(vS (Yc X L (L+1) (L+1+1) ft fx av) bs bb nv pA _ next' w' hC.post.bld TcS TcS).mono ?_;rintro e w3 ⟨rfl,q⟩;refine hK.o (.int .u64 (oX g.id (g.next+names.length+1))) w3 ?_ (CS.ev pB q) ((aw rfl).trans (fj (Value.int .u64) Mp.o)) _ ?_
      ·simp only[h0,nj,BEq.rfl,ej];exact hC.step q
      simp only[over,cq,aS]
     refine kA.cons (deps:=[]) rfl rfl TcP (fun vs d w' h0 hC hF K hK=>?_) ?_
     ·clear hF;simp only[over,cq,Act.put];go_simp;refine(bY bs 6 w' TcN TcN hC.post.bld.src).mono ?_;rintro e w3 ⟨v,rfl,_,_,hs,hm⟩;have q:=hC.post.bld.readPost hs hm;refine hK.o (.int .i64 v) w3 ?_ (CS.ev pB q) ⟨v,aw rfl⟩ _ ?_
      ·simp only[show(d 8||(8:Nat)==13)=d 8 from by simp];exact hC.step q
      simp only[over,cq,aS]
     refine kA.cons (deps:=[(13,214)]) rfl rfl TcP (fun vs d w' h0 hC hF K hK=>?_) ?_
     ·have f:=(hF (13,214) TcO).2;clear hF;simp only[over,cq,cF,aS]at f ⊢;obtain⟨v,e⟩:=f;rw[e];go_simp;refine hK.o (.bool (v==0)) _ ?_ (rS.refl _ _) ⟨_,aw rfl⟩ _ ?_
      ·simp only[show(d 8||(8:Nat)==14)=d 8 from by simp];exact hC
      simp only[over,cq,cF,aS,e]
     refine kA.cons (deps:=[]) rfl rfl TcP (fun vs d w' h0 hC hF K hK=>?_) ?_
     ·clear hF;simp only[over,cq,Act.put];go_simp;refine(qY bs w' hC.post.bld.src).mono ?_;rintro e w3 ⟨v,tl,rfl,u9,kf,hs,hm⟩;have q:=hC.post.bld.readPost hs hm;obtain⟨tp,tc,rfl,_⟩:=kf.form;refine hK.o (.slice tp tl.length tc) w3 ?_ (CS.ev pB q) ⟨tp,tc,tl,aw rfl,(b6.moves aF.moves).mv ⟨bk _,fun b _ ho=>⟨cA hC.size ho,rfl⟩⟩ kf,u9⟩ _ ?_
      ·simp only[show(d 8||(8:Nat)==19)=d 8 from by simp];exact hC.step q
      simp only[over,cq,aS]
     refine kA.cons (deps:=[]) rfl rfl TcP (fun vs d w' h0 hC hF K hK=>?_) ?_
     ·clear hF;simp only[over,cq,Act.put];go_simp;refine hK.o (.slice (some w'.heap.size) 1 1) _ ?_ (rS.alloc _ _ _) ⟨_,aw rfl,dS.new hC.size⟩ _ ?_
      ·simp only[show(d 8||(8:Nat)==21)=d 8 from by simp];exact hC.alloc _
      simp only[over,cq,aS]
     refine kA.cons (deps:=[(8,209),(14,215),(19,220),(21,222)]) rfl rfl TcP (fun vs d w' h0 hC hF K hK=>?_) ?_
     ·have f8:=(hF (8,209) TcO).2;have f14:=(hF (14,215) TcO).2;have f19:=(hF (19,220) TcO).2;have f21:=(hF (21,222) TcO).2;clear hF;simp only[over,cq,cF,aS]at f8 f14 f19 f21 ⊢;obtain⟨ro,e14⟩:=f14;obtain⟨tp,tc,tl,e19,t1,t2⟩:=f19;obtain⟨b,e21,hb⟩:=f21;rw[f8,e14,e19,e21];go_simp;refine hK.o (.agg #[.string name,.int .u64 mz,.bool false,.bool ro,.slice tp tl.length tc,.slice (some b) 1 1]) _ ?_ (rS.refl _ _) ⟨b,ro,tp,tc,tl,aw rfl,t1,t2,hb⟩ _ ?_
      ·simp only[show(d 8||(8:Nat)==22)=d 8 from by simp];exact hC
      simp only[over,cq,cF,aS,f8,e14,e19,e21]
     refine kA.cons (deps:=[(22,223)]) rfl rfl TcP (fun vs d w' h0 hC hF K hK=>?_) trivial;have f:=(hF (22,223) TcO).2;clear hF;simp only[over,cq,cF,aS]at f ⊢;obtain⟨b,ro,tp,tc,tl,e,t1,t2,hb⟩:=f;rw[e];go_simp;refine hK.o (.slice (some w'.heap.size) 1 1) _ ?_ (rS.alloc _ _ _) ⟨_,b,ro,tp,tc,tl,aw rfl,dS.new hC.size,(b6.moves aF.moves).mv ⟨TcO,fun b hb ho=>⟨ho,cj _ _ _ hb⟩⟩ t1,t2,hb.ev (rS.alloc _ _ _)⟩ _ ?_
     ·simp only[show(d 8||(8:Nat)==23)=d 8 from by simp];exact hC.alloc _
     simp only[over,cq,cF,aS,e]
   case fin =>
    intro vs d w' hC hF;have f23:=(hF (23,224) TcO).2;have hd8:=(hF (8,209) TcO).1;clear hF;simp only[over,cq,cF,aS,cQ,cL]at f23 hd8 ⊢;obtain⟨c,b,ro,tp,tc,tl,e23,hc,t1,t2,hb⟩:=f23;rw[e23];simp only[hd8,ej]at hC;generalize vs 8=z8;generalize vs 13=z13;generalize vs 14=z14;generalize vs 19=z19;generalize vs 21=z21;generalize vs 22=z22;clear hd8 e23;have P':aH X bs bb nv vv w w' nv pA { g with next:=g.next+names.length+1,F9:=g.F9++vl } next':=hC.post.fewer fun k hk=>.inl hk
    have TS:eW X wd bs bb nv pA { g with next:=g.next+names.length,F9:=g.F9++vl } next':=pB.fewer fun k hk=>.inl hk
    have hbl:=P'.bld.Gj;have RA:b6 aQ 3 (okB X bb nv pA) w' [av] x.Ga:=by
     have ha:bF aQ 3 83 (L+1+1+1) (fun _=>False) w' av x.Ga:=S4.Gl aQ.moves hC.size (fun b e=>hC.same b (.inr (.inr (.inr (.inr (.inr (.inr e)))))));refine ha.rd aQ.moves TcQ (fun _ _ f=>f.elim) (fun b e=>?_);have hy:(Yc X L (L+1) (L+1+1) ft fx av) b:=.inr (.inr (.inr (.inr (.inr (.inr e)))));refine⟨(pB.xlt b hy).1,fun q=>pB.xn b q hy,fun q=>pB.xv b q hy,fun hx=>?_⟩;have:=(ha.ge e).1;have:=(h.xlt b hx).2;omega
    have RS:b6 cO 1 (okB X bb nv pA) w' [Oz] x.stale:=(b6.moves cO.moves).mv ⟨hC.size,fun b hb ho=>⟨⟨ho.1,ho.2.1,ho.2.2.1,fun q=>ho.2.2.2 (.inl q)⟩,hC.oks b hb ho⟩⟩ S5;have RT:b6 aF 1 (okB X bb nv pA) w' [.slice tp tl.length tc] tl:=(b6.moves aF.moves).mv ⟨bk _,fun b _ ho=>⟨TS.okNew ho,rfl⟩⟩ t1;have Yh:(⟨0,x.length,kind,x.Ga,x.chunk,x.stale,x.log,es,0,x.mode,0⟩:aB)=x:=by
     have:=HR.o;cases this<;>rfl
    have RV:aN (okB X bb nv pA) w' [.string name,.int .u64 mz,.bool false,.bool ro,.slice tp tl.length tc,.slice (some b) 1 1] ⟨name,mz,false,ro,tl,[x]⟩:=by
     refine⟨_,_,rfl,RT,b6.one hb.2 (TS.okNew hb.1) rfl ?_⟩;rw[<- Yh];exact⟨_,_,rfl,RA,RS⟩
    have kf:=P'.bld.ready RV w' (bj _ _);obtain⟨i0,hi,hz0,hz1,hz2⟩:=gg zT;refine dX aN.moves underlying29 hi hz0 hz1 hz2 rfl TcQ TcQ rfl _ _ TcT (bb+1) (fun b=>okB X bb nv pA b/\b<w'.heap.size) pA (g.F9++vl) ⟨name,mz,false,ro,tl,[x]⟩ TcT kf.1 c 1 [.string name,.int .u64 mz,.bool false,.bool ro,.slice tp tl.length tc,.slice (some ⟨b,0,none⟩) 1 1] TcT TcT kf.2 Tc0 (fun j y hy=>?_) (by rw[cD,Oc.o];omega) TcN H8 (fun gb cap w3 hp=>?_)
    ·simp only[World.cell?,hc.2];simpa using hy
    obtain⟨hx1,hx2⟩:=P'.bld.pushKeeps (bj _ _) hp;have y8:=(cd (w:=w') (w':=w3) (a:=⟨bb,8,none⟩) hx1).trans P'.bld.c8;have yf:=(rh (w:=w') (w':=w3) (a:=⟨bb,8,none⟩) hx1).trans (P'.bld.bfr 8);have R5:=P'.push (bj _ _) hp (bk _);clear hp hx1 hx2 kf RV RA RS RT hC hc hb hi hz0 hz1 hz2 hHeld S5 S4 hst Od HC0 pB;simp only[aS];have hlen5:(g.F9++vl).length<=48:=by rw[cD,Oc.o];omega
    simp only at R5;generalize hM:(g.F9++vl).length=M at *;have HM:=aa hM;clear hM;have dk:=hT.ok hk.dk;by_cases hk5:kind=5
    ·
      subst hk5;have c0:=R5.bld.c0;go_wp2_with fail;refine(bY bs 3 _ TcN TcN R5.bld.src).mono ?_;rintro e w4 ⟨kv,rfl,Xo,Xp,hs4,hm4⟩;have R6:=R5.read hs4 hm4;clear hm4 hs4 c0 R5;obtain⟨kk,rfl⟩:∃u:Nat,kv=u:=⟨kv.toNat,TcN⟩;have R7:aH X bs bb nv vv w w4 nv (.slice (some gb) (M+1) cap) { g with next:=g.next+names.length+1+((([]:List ay).length:Nat):Int),F9:=g.F9++vl++[⟨name,mz,false,ro,tl,[x]⟩]++[] } next':=by simpa using R6
      clear R6;have HH:=aa hH;clear hH;have HT2:=aa t2;clear t2;have HG:=aa (show(g.F9++vl++[(⟨name,mz,false,ro,tl,[x]⟩:ay)]).length<=49 by simp only[cD,cS,Ox];have:=Oc.o;omega);generalize hbase:g.F9++vl++[(⟨name,mz,false,ro,tl,[x]⟩:ay)]=base at *;have Ot:=aa hbase;clear hbase;go_upto_block 5 with(fail)
      go_wp2;go_loopw[15] (fun i wr=>∃(j:Nat) (DM:List ay) (OJ:Value),j<=kk/\i=.int .i64 j/\iO g.id name kk (g.next+names.length+1+1) j DM/\DM.length+j=kk/\aH X bs bb nv vv w wr nv OJ { g with next:=g.next+names.length+1+((DM.length:Nat):Int),F9:=base++DM } next') (fun i _=>(intOf i).toNat)
      exact⟨kk,[],_,bk _,rfl,.nil _,TcO,R7⟩;obtain⟨j,DM,OJ,hj,rfl,hth,hlen,R⟩:=hrel;have Xq:=aa hth;clear hth;have HLEN:=aa hlen;have hlb:DM.length<=2:=by omega
      clear hlen;obtain⟨NS,vc2,rfl,u1,u2,u3⟩:=R.bld.vForm;have HU3:=aa u3;clear u3;have c8:=R.bld.c8;have c0:=R.bld.c0;have hMM:(base++DM).length<=60:=by rw[cD];have:=HG.o;omega
      simp only at c8 u1 R;generalize hM2:(base++DM).length=M2 at *;have QY:=aa hM2;clear hM2;by_cases hgo:0<j/\M2<32
      ·obtain⟨g1,g2⟩:=hgo;have hd1:decide ((0:Int)<(j:Int))=true:=by simp;omega
       have hd2:decide ((M2:Int)<32)=true:=by simp;omega
       have z1:(0:Int)<=(j:Int):=by omega
       have z2:(j:Int)<3:=by omega
       have ad9:¬(9223372036854775807<name.size+1):=by omega
       go_wp2;refine aZ (fun w'=>w'.cell? (Tac bb 8)=some (.slice NS M2 vc2)/\w'.cell? bb=some (.pointer (some bs))) 26 [0,1,2,3,4,6,7,9,13,15,16,17,20,21] TcP ⟨c8,c0⟩ (fun hHeld=>?_);refine fz 0 ?_;refine fz 1 ?_;refine fz 2 ?_;refine fz 3 ?_;refine fz 4 ?_;refine fz 6 ?_;refine fz 7 ?_;refine fz 9 ?_;refine fz 13 ?_;refine fz 15 ?_;refine fz 16 ?_;refine fz 17 ?_;refine fz 20 ?_;refine fz 21 ?_;refine fS 5 hHeld ?_;refine fS 18 hHeld ?_;clear c8 c0 Mp;generalize Ou:oX g.id (g.next+names.length+1+(DM.length:Int)+1)=Hp;have S6:=aa Ou;clear Ou;have HC0:CS X bs bb nv vv nv (.slice NS M2 vc2) w wr.drew { g with next:=g.next+names.length+1+((DM.length:Nat):Int),F9:=base++DM } next' wr.drew:=⟨R.drewN 1,bk _,fun _ _=>rfl,fun _ _ _=>rfl⟩
       generalize hwr:wr.drew=wd at *;clear hwr;have pB:=HC0.post.bld;refine fE (idx:=[(8,257),(10,259),(11,260),(12,261),(14,263),(19,268),(22,271),(23,272),(24,273),(25,274)])
        (fun i=>[i]) (fun i vs w'=>match i with
         |8=>∃b,vs 8=.slice (some ⟨b,0,none⟩) 3 3/\dS wd.heap.size 9 [.string ⟨#[48]⟩,.string ⟨#[49]⟩,.string ⟨#[50]⟩] b w'
         |10=>∃b,vs 10=.pointer (some ⟨b,j,none⟩)/\dS wd.heap.size 9 [.string ⟨#[48]⟩,.string ⟨#[49]⟩,.string ⟨#[50]⟩] b w'
         |11=>vs 11=.string (digit j)
         |12=>vs 12=.string ((name++tT)++digit j)
         |14=>vs 14=.int .u64 Hp
         |19=>∃len:Int,vs 19=.int .i64 len/\1<=len/\len<=4
         |22=>∃len:Int,vs 22=.agg #[.int .i64 0,.int .i64 len,.int .i64 6,.slice none 0 0,.int .i64 0,.slice none 0 0,.string es,.string name,.int .i64 (j:Int),.int .i64 0,.int .i64 0]/\1<=len/\len<=4
         |23=>∃(len:Int) (b:Nat),vs 23=.slice (some b) 1 1/\dS wd.heap.size 88 [.int .i64 0,.int .i64 len,.int .i64 6,.slice none 0 0,.int .i64 0,.slice none 0 0,.string es,.string name,.int .i64 (j:Int),.int .i64 0,.int .i64 0] b w'/\1<=len/\len<=4
         |24=>∃(len:Int) (b:Nat),vs 24=.agg (TaH ((name++tT)++digit j) Hp (some ⟨b,0,none⟩))/\dS wd.heap.size 88 [.int .i64 0,.int .i64 len,.int .i64 6,.slice none 0 0,.int .i64 0,.slice none 0 0,.string es,.string name,.int .i64 (j:Int),.int .i64 0,.int .i64 0] b w'/\1<=len/\len<=4
         |25=>∃(c:Nat) (len:Int) (b:Nat),vs 25=.slice (some c) 1 1/\dS wd.heap.size 57 [.string ((name++tT)++digit j),.int .u64 Hp,.bool false,.bool false,.slice none 0 0,.slice (some b) 1 1] c w'/\dS wd.heap.size 88 [.int .i64 0,.int .i64 len,.int .i64 6,.slice none 0 0,.int .i64 0,.slice none 0 0,.string es,.string name,.int .i64 (j:Int),.int .i64 0,.int .i64 0] b w'/\1<=len/\len<=4
         |_=>True)
        (fun d w'=>CS X bs bb nv vv nv (.slice NS M2 vc2) w wd { g with next:=if d 14=true then g.next+names.length+1+((DM.length:Nat):Int)+1 else g.next+names.length+1+((DM.length:Nat):Int),F9:=base++DM } next' w') (fun _=>rS wd.heap.size) TcP rfl ?cs2 ?st2 (fun _ _ _ _ h=>h) ?c02 ?ob2 ?fin2
       case c02=>exact HC0
       case cs2=>exact fun d w' hC=>⟨hC.post.bld.c8,hC.post.bld.c0⟩
       case st2 =>
        intro p hp q _ _ vs us w1 w2 ha hF he;simp only[dr,cY,dg]at hp;rcases hp with rfl|rfl|rfl|rfl|rfl|rfl|rfl|rfl|rfl|rfl
        ·obtain⟨b,e,hb⟩:=hF;exact⟨b,(ha 8 (cG ..)).trans e,hb.ev he⟩
        ·obtain⟨b,e,hb⟩:=hF;exact⟨b,(ha 10 (cG ..)).trans e,hb.ev he⟩
        ·exact(ha 11 (cG ..)).trans hF
        ·exact(ha 12 (cG ..)).trans hF
        ·exact(ha 14 (cG ..)).trans hF
        ·obtain⟨len,e,l1,l2⟩:=hF;exact⟨len,(ha 19 (cG ..)).trans e,l1,l2⟩
        ·obtain⟨len,e,l1,l2⟩:=hF;exact⟨len,(ha 22 (cG ..)).trans e,l1,l2⟩
        ·obtain⟨len,b,e,hb,l1,l2⟩:=hF;exact⟨len,b,(ha 23 (cG ..)).trans e,hb.ev he,l1,l2⟩
        ·obtain⟨len,b,e,hb,l1,l2⟩:=hF;exact⟨len,b,(ha 24 (cG ..)).trans e,hb.ev he,l1,l2⟩
        obtain⟨c,len,b,e,hc,hb,l1,l2⟩:=hF;exact⟨c,len,b,(ha 25 (cG ..)).trans e,hc.ev he,hb.ev he,l1,l2⟩
       case ob2 =>
         refine kA.cons (deps:=[]) rfl rfl TcP (fun vs d w' h0 hC hF K hK=>?_) ?_
         ·clear hF;simp only[over,cq,Act.put];go_simp;refine hK.o (.slice (some w'.heap.size) 3 3) _ ?_ (rS.alloc _ _ _) ⟨_,aw rfl,dS.new hC.size⟩ _ ?_
          ·simp only[show(d 14||(14:Nat)==8)=d 14 from by simp];exact hC.alloc _
          simp only[over,cq,aS]
         refine kA.cons (deps:=[(8,257)]) rfl rfl TcP (fun vs d w' h0 hC hF K hK=>?_) ?_
         ·have f8:=(hF (8,257) TcO).2;clear hF;simp only[over,cq,cF,aS]at f8 ⊢;obtain⟨b,e8,hb⟩:=f8;rw[e8];go_simp;refine hK.o (.pointer (some (b,j))) _ ?_ (rS.refl _ _) ⟨b,aw rfl,hb⟩ _ ?_
          ·simp only[show(d 14||(14:Nat)==10)=d 14 from by simp];exact hC
          simp only[over,cq,cF,aS,e8]
         refine kA.cons (deps:=[(10,259)]) rfl rfl TcP (fun vs d w' h0 hC hF K hK=>?_) ?_
         ·have f10:=(hF (10,259) TcO).2;clear hF;simp only[over,cq,cF,aS]at f10 ⊢;obtain⟨b,e10,hb⟩:=f10;rw[e10];have hcell:w'.cell? (b,j)=some (.string (digit j)):=by
           simp only[World.cell?,hb.2];rcases(show j=1\/j=2 by omega)with rfl|rfl<;>rfl
          go_simp;refine hK.o (.string (digit j)) _ ?_ (rS.refl _ _) (aw rfl) _ ?_
          ·simp only[show(d 14||(14:Nat)==11)=d 14 from by simp];exact hC
          simp only[over,cq,cF,aS,e10]
         refine kA.cons (deps:=[(11,260)]) rfl rfl TcP (fun vs d w' h0 hC hF K hK=>?_) ?_
         ·have f11:=(hF (11,260) TcO).2;clear hF;simp only[over,cq,cF,aS]at f11 ⊢;rw[f11];have QH:(digit j).size=1:=rfl;have hcc:¬(9223372036854775807<name.size+1+1):=by omega
          go_simp;refine hK.o (.string ((name++tT)++digit j)) _ ?_ (rS.refl _ _) (aw rfl) _ ?_
          ·simp only[show(d 14||(14:Nat)==12)=d 14 from by simp];exact hC
          simp only[over,cq,cF,aS,f11,tT]
         refine kA.cons (deps:=[]) rfl rfl TcP (fun vs d w' h0 hC hF K hK=>?_) ?_
         ·clear hF;simp only[over,cq,Act.put];simp only at h0;simp only[h0,pj,fY]at hC;go_simp;refine(vS X bs bb nv _ _ next' w' hC.post.bld TcS TcS).mono ?_;rintro e w5 ⟨rfl,q⟩;refine hK.o (.int .u64 (oX g.id (g.next+names.length+1+(DM.length:Int)+1))) w5 ?_ (CS.ev pB q) ((aw rfl).trans (fj (Value.int .u64) S6.o)) _ ?_
          ·simp only[h0,nj,BEq.rfl,ej];exact hC.step q
          simp only[over,cq,aS]
         refine kA.cons (deps:=[]) rfl rfl TcP (fun vs d w' h0 hC hF K hK=>?_) ?_
         ·clear hF;simp only[over,cq,Act.put];go_simp;refine(bO bs 1 4 w' TcN TcN TcN hC.post.bld.src).mono ?_;rintro e w5 ⟨len,rfl,l1,l2,hs,hm⟩;have q:=hC.post.bld.readPost hs hm;refine hK.o (.int .i64 len) w5 ?_ (CS.ev pB q) ⟨len,aw rfl,l1,l2⟩ _ ?_
          ·simp only[show(d 14||(14:Nat)==19)=d 14 from by simp];exact hC.step q
          simp only[over,cq,aS]
         refine kA.cons (deps:=[(19,268)]) rfl rfl TcP (fun vs d w' h0 hC hF K hK=>?_) ?_
         ·have f19:=(hF (19,268) TcO).2;clear hF;simp only[over,cq,cF,aS]at f19 ⊢;obtain⟨len,e19,l1,l2⟩:=f19;rw[e19];go_simp;refine hK.o (.agg #[.int .i64 0,.int .i64 len,.int .i64 6,.slice none 0 0,.int .i64 0,.slice none 0 0,.string es,.string name,.int .i64 (j:Int),.int .i64 0,.int .i64 0]) _ ?_ (rS.refl _ _) ⟨len,aw rfl,l1,l2⟩ _ ?_
          ·simp only[show(d 14||(14:Nat)==22)=d 14 from by simp];exact hC
          simp only[over,cq,cF,aS,e19,es]
         refine kA.cons (deps:=[(22,271)]) rfl rfl TcP (fun vs d w' h0 hC hF K hK=>?_) ?_
         ·have f22:=(hF (22,271) TcO).2;clear hF;simp only[over,cq,cF,aS]at f22 ⊢;obtain⟨len,e22,l1,l2⟩:=f22;rw[e22];go_simp;refine hK.o (.slice (some w'.heap.size) 1 1) _ ?_ (rS.alloc _ _ _) ⟨len,_,aw rfl,dS.new hC.size,l1,l2⟩ _ ?_
          ·simp only[show(d 14||(14:Nat)==23)=d 14 from by simp];exact hC.alloc _
          simp only[over,cq,cF,aS,e22]
         refine kA.cons (deps:=[(12,261),(14,263),(23,272)]) rfl rfl TcP (fun vs d w' h0 hC hF K hK=>?_) ?_
         ·have f12:=(hF (12,261) TcO).2;have f14:=(hF (14,263) TcO).2;have f23:=(hF (23,272) TcO).2;clear hF;simp only[over,cq,cF,aS]at f12 f14 f23 ⊢;obtain⟨len,b,e23,hb,l1,l2⟩:=f23;rw[f12,f14,e23];go_simp;refine hK.o (.agg (TaH ((name++tT)++digit j) Hp (some ⟨b,0,none⟩))) _ ?_ (rS.refl _ _) ⟨len,b,aw rfl,hb,l1,l2⟩ _ ?_
          ·simp only[show(d 14||(14:Nat)==24)=d 14 from by simp];exact hC
          simp only[over,cq,cF,aS,f12,f14,e23]
         refine kA.cons (deps:=[(24,273)]) rfl rfl TcP (fun vs d w' h0 hC hF K hK=>?_) trivial;have f24:=(hF (24,273) TcO).2;clear hF;simp only[over,cq,cF,aS]at f24 ⊢;obtain⟨len,b,e24,hb,l1,l2⟩:=f24;rw[e24];go_simp;refine hK.o (.slice (some w'.heap.size) 1 1) _ ?_ (rS.alloc _ _ _) ⟨_,len,b,aw rfl,dS.new hC.size,hb.ev (rS.alloc _ _ _),l1,l2⟩ _ ?_
         ·simp only[show(d 14||(14:Nat)==25)=d 14 from by simp];exact hC.alloc _
         simp only[over,cq,cF,aS,e24]
       case fin2 =>
        intro vs d w' hC hF;have f25:=(hF (25,274) TcO).2;have hd14:=(hF (14,263) TcO).1;clear hF;simp only[over,cq,cF,aS,cQ,cL]at f25 hd14 ⊢;obtain⟨c,len,b,e25,hc,hb,l1,l2⟩:=f25;rw[e25];simp only[hd14,ej]at hC;generalize vs 8=z8;generalize vs 10=z10;generalize vs 11=z11;generalize vs 12=z12;generalize vs 14=z14;generalize vs 19=z19;generalize vs 22=z22;generalize vs 23=z23;generalize vs 24=z24;clear hd14 e25;have P':=hC.post;have hbl:=P'.bld.Gj;have RV:aN (okB X bb nv (.slice NS M2 vc2)) w' [.string ((name++tT)++digit j),.int .u64 Hp,.bool false,.bool false,.slice none 0 0,.slice (some b) 1 1] (jY name Hp len j) :=
         ⟨_,_,rfl,b6.nil,b6.one hb.2 (pB.okNew hb.1) rfl ⟨_,_,rfl,b6.nil,b6.nil⟩⟩
        have kf:=P'.bld.ready RV w' (bj _ _);obtain⟨i0,hi,hz0,hz1,hz2⟩:=gg zT;refine dX aN.moves underlying29 hi hz0 hz1 hz2 rfl TcQ TcQ rfl _ _ TcT (bb+1) (fun b=>okB X bb nv (.slice NS M2 vc2) b/\b<w'.heap.size) (.slice NS M2 vc2) (base++DM) (jY name Hp len j) TcT kf.1 c 1 [.string ((name++tT)++digit j),.int .u64 Hp,.bool false,.bool false,.slice none 0 0,.slice (some ⟨b,0,none⟩) 1 1] TcT TcT kf.2 Tc0 (fun jj y hy=>?_) (by rw[QY.o];omega) TcN H8 (fun gb2 cap2 w5 hp=>?_)
        ·simp only[World.cell?,hc.2];simpa using hy
        obtain⟨hx1,hx2⟩:=P'.bld.pushKeeps (bj _ _) hp;have y8:=(cd (w:=w') (w':=w5) (a:=⟨bb,8,none⟩) hx1).trans P'.bld.c8;have yf:=(rh (w:=w') (w':=w5) (a:=⟨bb,8,none⟩) hx1).trans (P'.bld.bfr 8);have R8:=P'.push (bj _ _) hp (bk _);clear hp hx1 hx2 kf RV hC hc hb hi hz0 hz1 hz2 hHeld HC0 pB P';simp only[aS];go_wp2;go_roundw
        case rel =>
         refine⟨j-1,DM++[jY name Hp len j],.slice (some gb2) (M2+1) cap2,TcN,by rw[show((j-1:Nat):Int)=(j:Int)-1 by omega],?_,by have:=HLEN.o;simp;omega,?_⟩
         ·have Xr:=Xq.o;obtain⟨i,rfl⟩:∃i,j=i+1:=⟨j-1,TcN⟩;have:=iO.snoc (len:=len) Xr ⟨l1,l2⟩;rw[show g.next+(names.length:Int)+1+1+(DM.length:Int)=g.next+names.length+1+(DM.length:Int)+1 by omega,S6.o]at this;exact this
         rw[show g.next+(names.length:Int)+1+(((DM++[jY name Hp len j]).length:Nat):Int)=g.next+names.length+1+(DM.length:Int)+1 by simp;omega,<- cV];have R9:=R8;simp only[QY.o]at R9;have hq:base.length+DM.length=M2:=by rw[<- cD];exact QY.o
         rw[hq];exact R9
        simp[intOf];omega
      by_cases g1:0<j
      ·have hd1:decide ((0:Int)<(j:Int))=true:=by simp;omega
       have hd2:decide ((M2:Int)<32)=false:=by simp;omega
       exact Tba
      have hd1:decide ((0:Int)<(j:Int))=false:=by simp;omega
      exact Tba
    have hkb:(kind==5)=false:=by simpa using hk5
    go_wp2;go_end0
    have hv:=Mp.o;subst hv;refine⟨rfl,.inr ⟨n,names,lengths,x,ps,vl,ro,tl,0,0,[],next',.slice (some gb) (M+1) cap,hn1,hn2,HR.o,?_,hT,t2,TcN,fun _=>⟨rfl,rfl⟩,.nil _,?_⟩⟩
    ·have:=hH;rw[HR1.o,cI]at this;exact this
    simpa using R5
  go_wp2;refine eC (results_none rfl _ _ _) rfl ⟨rfl,.inl ⟨j,nv',pA,TcN,(T.post.trans Q).fewer (fun k hk=>.inl hk)⟩⟩
theorem tH{ok:Nat->Prop}:∀(l:List Int) (cs:List Value),Flat cO 1 ok w cs l->cs=l.map (Value.int .i64)
 |[],_,h=>h
 |x :: l,_,⟨u,r,e,h1,h2,h3,h4⟩=>by
  have:=tH l r h4;rw[e,this,show u=[.int .i64 x] from h2];rfl
theorem rU{ok:Nat->Prop}:∀l:List Int,Flat cO 1 ok w (l.map (Value.int .i64)) l
 |[]=>rfl
 |x :: l=>⟨[.int .i64 x],l.map (Value.int .i64),rfl,rfl,rfl,Tc0,rU l⟩
theorem eG.ownS(h:eG w B v l)(ok:Nat->Prop):bF cO 1 3 B ok w v l:=⟨_,h,rU l⟩
theorem bF.ownI{ok:Nat->Prop}(h:bF cO 1 3 B ok w v l):eG w B v l:=by
 obtain⟨cs,h1,h2⟩:=h;rw[tH l cs h2]at h1;exact h1
structure Str(w0 w:World):Prop where
 os:w.os=w0.os
 tape:w.tape=w0.tape
 output:w.output=w0.output
theorem Str.refl(w:World):Str w w:=⟨rfl,rfl,rfl⟩
theorem Str.trans{c:World}(h:Str a b)(k:Str b c):Str a c:=⟨k.os.trans h.os,k.tape.trans h.tape,k.output.trans h.output⟩
theorem cR.str{F:Nat->Prop}(h:cR F a b):Str a b:=⟨h.os,h.tape,h.output⟩
theorem ow(h:Below B a b):Str a b:=⟨h.os,h.tape,h.output⟩
theorem nQ{row:Option Nat}(h:a.grownBy b row):Str a b:=⟨h.os,h.tape,h.output⟩
def NI:ByteArray:=⟨#[112,118]⟩
def vgT:ByteArray:=⟨#[118,103]⟩
def BQ:ByteArray:=⟨#[111,108,100]⟩
structure rH(k:Nat)(D:az):Prop where
 name:D.name=NI++digit k
 id:D.id=k+1
 first:8<=D.first/\D.first<=16
 ext:D.Gc∈([0,4,12,30,60]:List Int)
 tags:List.Sublist D.tags iQ
def okD(bb:Nat)(dv nv:Value):Nat->Prop:=fun b=>bb<b/\dv.ownBlock≠some b/\nv.ownBlock≠some b
structure vy(bs bb:Nat)(id seq ext:Int)(tags:List ByteArray)(w0:World)(tv dv nv:Value)(Gb:List az)(next:List Int)(w:World):Prop where
 src:Src w bs
 lt:bs<bb
 blk:w.heap[bb]?=some (.cells #[.pointer (some bs),.string vgT,.int .u64 id,.int .i64 seq,.int .i64 ext,.int .i64 0,tv,dv,.slice none 0 0,.slice none 0 0,nv] 49 (0,0))
 rt:b6 aF 1 (okD bb dv nv) w [tv] tags
 ownD:bF aO 7 39 (bb+1) (okD bb dv nv) w dv Gb
 ownN:eG w (bb+1) nv next
 ne:∀k,dv.ownBlock=some k->nv.ownBlock≠some k
 old:∀k,k<bb->k≠bs->w.heap[k]?=w0.heap[k]?
 str:Str w0 w
section
variable {bs bb:Nat}{id seq ext:Int}{tags:List ByteArray}{w0 w w' w2:World}{tv dv nv:Value}{Gb:List az}{next:List Int}
variable {k gb:Nat}{u:List Value}
theorem vy.Gj(h:vy bs bb id seq ext tags w0 tv dv nv Gb next w):bb<w.heap.size:=aq h.blk
theorem vy.dLt(h:vy bs bb id seq ext tags w0 tv dv nv Gb next w)(e:dv.ownBlock=some k):bb<k/\k<w.heap.size:=by
 have:=h.ownD.ge0 e;omega
theorem vy.nLt(h:vy bs bb id seq ext tags w0 tv dv nv Gb next w)(e:nv.ownBlock=some k):bb<k/\k<w.heap.size:=by
 have:=h.ownN.lt k e;omega
theorem vy.okNew(h:vy bs bb id seq ext tags w0 tv dv nv Gb next w)(hk:w.heap.size<=k):okD bb dv nv k:=⟨by have:=h.Gj;omega,fun e=>by have:=h.dLt e;omega,fun e=>by have:=h.nLt e;omega⟩
theorem Tex{p:Prop}(h:p:=by have:=(mb k e).1;omega):p:=h
theorem vy.keep(h:vy bs bb id seq ext tags w0 tv dv nv Gb next w)(hst:Str w w')(hs:Src w' bs)(hz:w.heap.size<=w'.heap.size)(hk:∀k,k<w.heap.size->k≠bs->w'.heap[k]?=w.heap[k]?):vy bs bb id seq ext tags w0 tv dv nv Gb next w':=by
 have hl:=h.lt;have hb:=h.Gj;have hm:Mv (okD bb dv nv) (okD bb dv nv) w w':=⟨hz,fun b hb ho=>⟨ho,hk b hb Tdo⟩⟩;refine⟨hs,hl,(hk bb hb TcN).trans h.blk,(b6.moves aF.moves).mv hm h.rt,?_,aC h.ownN fun k e=>hk k (h.nLt e).2 (by have:=(h.nLt e).1;omega),h.ne,fun k h1 h2=>(hk k TcN h2).trans (h.old k h1 h2),h.str.trans hst⟩;have mb:=fun k e=>h.dLt (k:=k) e;obtain⟨cs,ho,hf⟩:=h.ownD;exact⟨cs,aC ho fun k e=>hk k (mb k e).2 Tex,Flat.moves aO.moves hm _ _ hf⟩
theorem vy.read(h:vy bs bb id seq ext tags w0 tv dv nv Gb next w)(hs:Src w' bs)(hm:cR (fun i=>i=bs) w w'):vy bs bb id seq ext tags w0 tv dv nv Gb next w':=h.keep hm.str hs hm.size fun k hk hn=>hm.block k hk hn
theorem vy.below(h:vy bs bb id seq ext tags w0 tv dv nv Gb next w)(hb:Below w.heap.size w w'):vy bs bb id seq ext tags w0 tv dv nv Gb next w' :=
 h.keep (ow hb) (h.src.keep fun i hi=>hb.block i Teq) hb.size fun k hk _=>hb.block k hk
theorem Ten{p:Prop}(h:p:=by injection e with e;exact e.symm):p:=h
theorem vy.pushD{D:az}{cap:Nat}(h:vy bs bb id seq ext tags w0 tv dv nv Gb next w)
  (hp:jN aO 7 39 (bb+1) (fun b=>okD bb dv nv b/\b<w.heap.size) w dv Gb D u gb cap w2) :
  vy bs bb id seq ext tags w0 tv (.slice (some gb) (Gb.length+1) cap) nv (Gb++[D]) next (w2.setCell (Tac bb 7) (.slice (some gb) (Gb.length+1) cap))/\w2.heap[bb]?=w.heap[bb]?:=by
 have hl:=h.lt;have hb:=h.Gj;have hz:=hp.grown.size;have kw:∀k,k<w.heap.size->dv.ownBlock≠some k->w2.heap[k]?=w.heap[k]?:=fun k h1 h2=>hp.grown.block k h1 fun e=>h2 e.symm;have pC:w2.heap[bb]?=w.heap[bb]?:=kw bb hb fun e=>by have:=h.dLt e;omega
 have kk:∀k,k≠bb->(w2.setCell (Tac bb 7) (.slice (some gb) (Gb.length+1) cap)).heap[k]?=w2.heap[k]?:=fun k e=>bw _ _ _ _ e;have hzz:(w2.setCell (Tac bb 7) (.slice (some gb) (Gb.length+1) cap)).heap.size=w2.heap.size:=by simp[World.setCell]
 have hg:=hp.own.ge0 (k:=gb) rfl;have OH:∀b,okD bb dv nv b->b<w.heap.size->b≠gb:=fun b h1 h2 e=>by
  subst e;rcases hp.at' with q|q
  ·exact h1.2.1 q
  omega
 have gw:∀b,okD bb dv nv b->b<w.heap.size->okD bb (.slice (some gb) (Gb.length+1) cap) nv b:=fun b h1 h2=>⟨h1.1,fun e=>OH b h1 h2 Ten,h1.2.2⟩
 have old:∀k,k<bb->(w2.setCell (Tac bb 7) (.slice (some gb) (Gb.length+1) cap)).heap[k]?=w.heap[k]?:=fun k hk=>(kk k TcN).trans (kw k TcN fun e=>by have:=h.dLt e;omega);refine⟨⟨h.src.keep fun i hi=>old i TcN,hl,?_,?_,?_,?_,?_,fun k h1 h2=>(old k h1).trans (h.old k h1 h2),(h.str.trans (nQ hp.grown)).trans ⟨rfl,rfl,rfl⟩⟩,pC⟩
 ·exact block_setCell (i:=7) _ (pC.trans h.blk)
 ·exact(b6.moves aF.moves).mv ⟨TcN,fun b h1 h2=>⟨gw b h2 h1,(kk b (by have:=h2.1;omega)).trans (kw b h1 h2.2.1)⟩⟩ h.rt
 ·obtain⟨cs,ho,hf⟩:=hp.own;exact⟨cs,aC ho fun k e=>kk k Ter,Flat.moves aO.moves ⟨TcN,fun b _ h2=>⟨gw b h2.1 h2.2,kk b (by have:=h2.1.1;omega)⟩⟩ _ _ hf⟩
 ·exact aC h.ownN fun k e=>(kk k (by have:=(h.nLt e).1;omega)).trans (kw k (h.nLt e).2 fun e'=>h.ne k e' e)
 intro k e e';obtain rfl:gb=k:=by injection e
 rcases hp.at' with q|q
 ·exact h.ne gb q e'
 have:=(h.nLt e').2;omega
theorem vy.pushN{x:Int}{cap:Nat}(h:vy bs bb id seq ext tags w0 tv dv nv Gb next w)
  (hp:jN cO 1 3 (bb+1) (fun _=>False) w nv next x u gb cap w2) :
  vy bs bb id seq ext tags w0 tv dv (.slice (some gb) (next.length+1) cap) Gb (next++[x]) (w2.setCell (Tac bb 10) (.slice (some gb) (next.length+1) cap))/\w2.heap[bb]?=w.heap[bb]?:=by
 have hl:=h.lt;have hb:=h.Gj;have hz:=hp.grown.size;have kw:∀k,k<w.heap.size->nv.ownBlock≠some k->w2.heap[k]?=w.heap[k]?:=fun k h1 h2=>hp.grown.block k h1 fun e=>h2 e.symm;have pC:w2.heap[bb]?=w.heap[bb]?:=kw bb hb fun e=>by have:=h.nLt e;omega
 have kk:∀k,k≠bb->(w2.setCell (Tac bb 10) (.slice (some gb) (next.length+1) cap)).heap[k]?=w2.heap[k]?:=fun k e=>bw _ _ _ _ e;have hzz:(w2.setCell (Tac bb 10) (.slice (some gb) (next.length+1) cap)).heap.size=w2.heap.size:=by simp[World.setCell]
 have hg:=hp.own.ge0 (k:=gb) rfl;have OH:∀b,nv.ownBlock≠some b->b<w.heap.size->b≠gb:=fun b h1 h2 e=>by
  subst e;rcases hp.at' with q|q
  ·exact h1 q
  omega
 have gw:∀b,okD bb dv nv b->b<w.heap.size->okD bb dv (.slice (some gb) (next.length+1) cap) b:=fun b h1 h2=>⟨h1.1,h1.2.1,fun e=>OH b h1.2.2 h2 Ten⟩
 have old:∀k,k<bb->(w2.setCell (Tac bb 10) (.slice (some gb) (next.length+1) cap)).heap[k]?=w.heap[k]?:=fun k hk=>(kk k TcN).trans (kw k TcN fun e=>by have:=h.nLt e;omega);have hm:Mv (okD bb dv nv) (okD bb dv (.slice (some gb) (next.length+1) cap)) w (w2.setCell (Tac bb 10) (.slice (some gb) (next.length+1) cap)):=⟨TcN,fun b h1 h2=>⟨gw b h2 h1,(kk b (by have:=h2.1;omega)).trans (kw b h1 h2.2.2)⟩⟩;refine⟨⟨h.src.keep fun i hi=>old i TcN,hl,?_,(b6.moves aF.moves).mv hm h.rt,?_,?_,?_,fun k h1 h2=>(old k h1).trans (h.old k h1 h2),(h.str.trans (nQ hp.grown)).trans ⟨rfl,rfl,rfl⟩⟩,pC⟩
 ·exact block_setCell (i:=10) _ (pC.trans h.blk)
 ·have mb:=fun k e=>h.dLt (k:=k) e
  obtain⟨cs,ho,hf⟩:=h.ownD;exact⟨cs,aC ho fun k e=>(kk k Tex).trans (kw k (mb k e).2 (h.ne k e)),Flat.moves aO.moves hm _ _ hf⟩
 ·have ho:=hp.own.ownI;exact aC ho fun k e=>kk k (by have:=fh ho k e;omega)
 intro k e e';obtain rfl:gb=k:=by injection e'
 rcases hp.at' with q|q
 ·exact h.ne gb e q
 have:=(h.dLt e).2;omega
end
end Go.Proofs.YtillcmhjhajimaaGreatDoor
