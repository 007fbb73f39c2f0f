/- Lemmas: MkPa, MkPb. -/
import Derived.Test.YtjdfihglehfelaaGreatDoorQm30
set_option maxRecDepth 100000
set_option maxHeartbeats 32000000
set_option linter.all false
namespace Go.Proofs.YtjdfihglehfelaaGreatDoor
open Go.Proofs.Tryz
open Go.RowKit
theorem Tbr {p:Prop}(h:p:=by
 go_wp2
 go_roundw
 case rel =>
  refine ⟨j+1,Mc,Me,SY,Tcd,Tch,?_⟩;rw [lN,sW,List.replicate_succ'];exact T5
 case measure=>simp [intOf];omega):p:=h
theorem TcE {p:Prop}(h:p:=by simp [gB,aI];omega):p:=h
theorem xW (X:Nat->Prop)(bs bb:Nat)(nv vv:Value)(g:af)(next:List Int)(w:World)(name:ByteArray)(hname:name.size<=100)(he1:1<=g.Gd)(he2:g.Gd<=16)(n:Int)(hn1:1<=n)(hn2:n<=3)(L:Nat)(W:World)
  (T0:vq X bs bb nv vv g next w (L+1+1+1) L (L+1) (L+1+1) (.slice none 0 0) (.slice none 0 0) (.slice none 0 0) (.slice none 0 0) [] [] [] [] n 3 1 es 0 W)
  (J K':Act->World->Prop) (Q0:Ending->World->Prop)
  (HJ:kG X bs bb nv vv g next w L n name 3 J)
  (hK:∀ (a':Act) (w':World),Met J a' w'->K' a' w') :
  Code.wp prog u6 (Exit.then K' (bodyPost prog Tryz.f46 Q0)) ⟨#[.pointer (some bb),.string name,.int .i64 3,undef,undef,undef,.int .i64 g.Gd,.int .i64 n,.pointer (some L),.pointer (some (Tab (L+1) 0)),.pointer (some (Tab (L+1+1) 0)),.func (.func 93) #[] #[.pointer (some (Tab (L+1) 0)),.pointer (some (Tab (L+1+1) 0)),.pointer (some L)],undef,undef,undef,undef,.pointer (some bb),.pointer (some bb),.pointer (some (Tab bb 1)),.pointer (some (Tab bb 4)),.int .i64 g.Gd,.pointer (some bb),.pointer (some bb),.pointer (some bb),.pointer (some bs),.int .i64 n,.int .i64 n,.int .i64 3,.agg #[.int .i64 0,.int .i64 n,.int .i64 3,.slice none 0 0,.int .i64 1,.slice none 0 0,.string ⟨#[]⟩,.string ⟨#[]⟩,.int .i64 0,.int .i64 0,.int .i64 0],.func (.func 93) #[] #[.pointer (some (Tab (L+1) 0)),.pointer (some (Tab (L+1+1) 0)),.pointer (some L)],.int .i64 3,undef,undef,undef,undef,undef,undef,undef,undef,undef,undef,undef,undef,undef,undef,undef,undef,undef,undef,undef,undef,undef,undef,undef,undef,undef,undef,undef,undef,undef,undef,undef,undef,undef,undef,undef,undef,undef,undef,undef,undef,undef,undef,undef,undef,undef,undef,undef,undef,undef,undef,undef,undef,undef,undef,undef,undef,undef,undef,undef,undef,undef,undef,undef,undef,undef,undef,undef,undef,undef,undef,undef,undef,undef,undef,undef,undef,undef,undef,undef,undef,undef,undef,undef,undef,undef,undef,undef,undef,undef,undef,undef,undef,undef,undef,undef,undef,undef,undef,undef,undef,undef,undef,undef,undef,undef,undef,undef,undef,undef,undef,undef,undef,undef,undef,undef,undef,undef,undef,undef,undef,undef,undef,undef,undef,undef,undef,undef,undef,undef,undef,undef,undef,undef,undef,undef,undef,undef,undef,undef,undef,undef,undef,undef,undef,undef,undef,undef,undef,undef,undef,undef,undef,undef,undef,undef,undef,undef,undef,undef,undef,undef,undef,undef,undef,undef,undef,undef,undef,undef,undef,undef,undef,undef,undef,undef,undef,undef,undef,undef,undef,undef,undef,undef,undef,undef,undef,undef,undef,undef,undef,undef,undef,undef,undef,undef,undef,undef,undef,undef,undef,undef,undef,undef,undef,undef,undef,undef,undef,undef,undef,undef,undef,undef,undef,undef,undef,undef,undef,undef,undef,undef,undef,undef,undef,undef,undef,undef,undef,undef,undef,undef,undef,undef,undef,undef,undef,undef,undef,undef,undef,undef,undef,undef,undef,undef,undef,undef,undef],[]⟩ W:=by
 conv=>arg 2;whnf
 go_upto_block 1 with (fail)
 go_wp2
 go_loopw [12] (fun i wr=>∃ (j:Nat) (ft fx av:Value),j<=3/\i=.int .i64 j/\vq X bs bb nv vv g next w (L+1+1+1) L (L+1) (L+1+1) ft fx av (.slice none 0 0) (aI name j) (List.replicate j n) (gB (aI name j)) [] n 3 1 es 0 wr) (fun i _=>3 - (intOf i).toNat)
 case atStart=>exact ⟨0,_,_,_,Tcd,rfl,T0⟩
 case round =>
  obtain ⟨j,ft,fx,av,hj,rfl,T1⟩:=hrel;have c0:=T1.post.bld.c0
  go_wp2_with fail
  refine (bY bs 2 _ Tcd Tcd T1.post.bld.src).mono ?_;rintro e w2 ⟨v,rfl,hv1,hv2,hs2,hm2⟩;have T2:=T1.read hs2 hm2;clear hm2 hs2 c0 T1
  by_cases hlt:(j:Int)<2+v
  ·have z1:(0:Int)<=(j:Int):=by omega
   have z2:(j:Int)<3:=by omega
   have hdj:decide ((j:Int)<2+v)=true:=by simpa using hlt
   have hcell:(w2.alloc (.cells #[.string ⟨#[48]⟩,.string ⟨#[49]⟩,.string ⟨#[50]⟩] 9)).cell? (w2.heap.size,j)=some (.string (digit j)):=by
    refine aD rfl ?_;rcases (show j=0\/j=1\/j=2 by omega) with rfl | rfl | rfl <;> rfl
   have QH:(digit j).size=1:=rfl;have T3:=T2.below (ae w2 (.cells #[.string ⟨#[48]⟩,.string ⟨#[49]⟩,.string ⟨#[50]⟩] 9))
   go_wp2_with fail
   refine (jM _ _ _ _ _ _ _ _ _ _ _ _ _ _ _ _ _ _ _ _ _ _ (fun _=>rfl) T3.loc T3.hB _ _ TcT Tcj TcE).mono ?_;rintro e w3 ⟨rfl,Mc,Me,SY,A1⟩;have T5:=T3.add A1;clear A1 hcell;exact Tbr
  ·have hdj:decide ((j:Int)<2+v)=false:=by simpa using hlt
   have hj2:2<=j:=by omega
   have c0:=T2.post.bld.c0
   go_wp2_with fail
   refine (bO bs 1 4 _ Tcd Tcd Tcd T2.post.bld.src).mono ?_;rintro e w3 ⟨c,rfl,hc1,hc2,hs3,hm3⟩;have T3:=T2.read hs3 hm3;clear hm3 hs3 c0 T2;obtain ⟨x4,f4⟩:=T3.cx 4 rfl;have T4:vq X bs bb nv vv g next w (L+1+1+1) L (L+1) (L+1+1) ft fx av (.slice none 0 0) (aI name j) (List.replicate j n) (gB (aI name j)) [] n 3 c es 0 (w3.setCell (Tab L 4) (.int .i64 c)):=T3.put 4 _ (fun _=>rfl);have c0:=T4.post.bld.c0
   go_wp2_with fail
   refine (bY bs 2 _ Tcd Tcd T4.post.bld.src).mono ?_;rintro e w4 ⟨v4,rfl,hv41,hv42,hs4,hm4⟩;have T5:=T4.read hs4 hm4;clear hm4 hs4 c0 x4 f4 T3 T4
   by_cases hv40:v4=0
   ·subst hv40
    have T6:vq X bs bb nv vv g next w (L+1+1+1) L (L+1) (L+1+1) ft fx av (.slice none 0 0) (aI name j) (List.replicate j n) (gB (aI name j)) [] n 3 c (name++qm) 0 (w4.setCell (Tab L 6) (.string (name++qm))):=T5.put 6 _ (fun _=>rfl);obtain ⟨x6,f6⟩:=T5.cx 6 rfl;have hc1':¬ (9223372036854775807<name.size+4):=by omega
    go_wp2;have OX:name++(⟨#[95,108,111,103]⟩:ByteArray)=name++qm:=rfl;rw [OX];generalize WE:World.setCell w4 _ _=WW at *;clear WE x6 f6 T5;have q1:=cr T6.loc.bn 0 _ rfl;have q2:=cr T6.loc.bl 0 _ rfl
    have q3:=(T6.cx 6 rfl).1;have be:0<=n*g.Gd/\n*g.Gd<=48:=by rcases (show n=1\/n=2\/n=3 by omega) with rfl | rfl | rfl <;> omega
    have be1:=be.1;have be2:=be.2;have hne0:¬ g.Gd=0:=by omega
    have hne1:(g.Gd == 0)=false:=by simpa using hne0
    have hq1:0<=(1+(n*g.Gd+63) / 64) / g.Gd:=lz Tcd Tcd;have hq2:(1+(n*g.Gd+63) / 64) / g.Gd<=100:=Int.le_trans (mS _ Tcd) Tcd;have hw1:IntKind.i64.wrap (n*g.Gd)=n*g.Gd:=dy _ Tcd;have hw2:IntKind.i64.wrap (n*g.Gd+63)=n*g.Gd+63:=dy _ Tcd;have hw3:(n*g.Gd+63).tdiv 64=(n*g.Gd+63) / 64:=CC Tcd;have hw4:IntKind.i64.wrap ((n*g.Gd+63) / 64)=(n*g.Gd+63) / 64:=dy _ Tcd;have hw5:IntKind.i64.wrap (1+(n*g.Gd+63) / 64)=1+(n*g.Gd+63) / 64:=dy _ Tcd;have hw6:(1+(n*g.Gd+63) / 64).tdiv g.Gd=(1+(n*g.Gd+63) / 64) / g.Gd:=CC Tcd;have hw7:IntKind.i64.wrap ((1+(n*g.Gd+63) / 64) / g.Gd)=(1+(n*g.Gd+63) / 64) / g.Gd:=dy _ Tcd;have hw8:IntKind.i64.wrap (1+(1+(n*g.Gd+63) / 64) / g.Gd)=1+(1+(n*g.Gd+63) / 64) / g.Gd:=dy _ Tcd;refine aL (fun w'=>w'.cell? (Tab (L+1) 0)=some ft/\w'.cell? (Tab (L+1+1) 0)=some fx/\w'.cell? (Tab L 6)=some (.string (name++qm))) 17 [1,6,7,8,9,10,11,12,13,14] Tcf ⟨q1,q2,q3⟩ (fun hHeld=>?_);refine fz 1 ?_;try simp only [ak];refine fz 6 ?_;try simp only [ak];refine fz 7 ?_;try simp only [ak];refine fz 8 ?_;try simp only [ak];refine fz 9 ?_;try simp only [ak];refine fz 10 ?_;try simp only [ak];refine fz 11 ?_;try simp only [ak];refine fz 12 ?_;try simp only [ak];refine fz 13 ?_;try simp only [ak];refine fz 14 ?_;try simp only [ak];refine fS 0 hHeld ?_;try simp only [ak];refine fS 2 hHeld ?_;try simp only [ak];refine fS 5 hHeld ?_;try simp only [ak];clear hw1 hw2 hw3 hw4 hw5 hw6 hw7 hw8;have TT:=T6.below ((bj _ _).drew);generalize hwd:WW.drew=wd at *;clear hwd q1 q2 q3 T6;have hd:=TT.loc;obtain ⟨i1,hi1,hz10,hz11,hz12⟩:=ei o5;obtain ⟨i2,hi2,hz20,hz21,hz22⟩:=ei tZ;have AH:∀ k,k<(L+1+1+1)->¬ (ft.ownBlock=some k\/fx.ownBlock=some k):=fun k hk q=>q.elim (fun e=>by have:=(hd.on.ge e).1;omega) (fun e=>by have:=(hd.ol.ge e).1;omega)
    refine fE (idx:=[(3,71),(4,72),(15,83),(16,84)]) (fun i=>[i])
     (fun i vs w'=>match i with
      | 3=>∃ b,vs 3=.slice (some ⟨b,0,none⟩) 1 1/\dS wd.heap.size 9 [.string (name++qm)] b w'
      | 4=>∃ gb cap,vs 4=.slice (some ⟨gb,0,none⟩) ((aI name j).length+1) cap/\bF aF 1 9 (L+1+1+1) (fun _=>False) w' (.slice (some ⟨gb,0,none⟩) ((aI name j).length+1) cap) (aI name j++[name++qm])/\(ft.ownBlock=some gb\/wd.heap.size<=gb)
      | 15=>∃ b,vs 15=.slice (some ⟨b,0,none⟩) 1 1/\dS wd.heap.size 3 [.int .i64 (1+(1+(n*g.Gd+63) / 64) / g.Gd)] b w'
      | 16=>∃ gb cap,vs 16=.slice (some ⟨gb,0,none⟩) ((List.replicate j n).length+1) cap/\bF cO 1 3 (L+1+1+1) (fun _=>False) w' (.slice (some ⟨gb,0,none⟩) ((List.replicate j n).length+1) cap) (List.replicate j n++[1+(1+(n*g.Gd+63) / 64) / g.Gd])/\(fx.ownBlock=some gb\/wd.heap.size<=gb)
      | _=>True)
     (fun d w'=>(d 4=false->bF aF 1 9 (L+1+1+1) (fun _=>False) w' ft (aI name j))/\(d 16=false->bF cO 1 3 (L+1+1+1) (fun _=>False) w' fx (List.replicate j n))/\cR (fun k=>ft.ownBlock=some k\/fx.ownBlock=some k) wd w')
     (fun i w1 w2=>w1.heap.size<=w2.heap.size/\∀ k,k<w1.heap.size->(i=4->ft.ownBlock≠some k)->(i=16->fx.ownBlock≠some k)->w2.heap[k]?=w1.heap[k]?) Tcf rfl ?cs ?st (fun _ _ _ _ h=>h) ?c0 ?ob ?fin
    case c0=>exact ⟨fun _=>hd.on,fun _=>hd.ol,cR.refl _ _⟩
    case st =>
     intro p hp q _ hne vs us w1 w2 ha hF he;simp only [dr,cY,dg] at hp;rcases hp with rfl | rfl | rfl | rfl
     ·obtain ⟨b,e,hb⟩:=hF
      exact ⟨b,(ha 3 (cG ..)).trans e,hb.1,(he.2 b (aq hb.2) (fun _ e=>by have:=(hd.on.ge e).2;have:=hb.1;omega) (fun _ e=>by have:=(hd.ol.ge e).2;have:=hb.1;omega)).trans hb.2⟩
     ·obtain ⟨gb,cap,e,ho,hat⟩:=hF
      refine ⟨gb,cap,(ha 4 (cG ..)).trans e,ho.Gl aF.moves he.1 (fun k ek=>he.2 k (ho.ge ek).2 (fun q3=>absurd q3 hne) (fun _ e7=>?_)),hat⟩;exact TbH
     ·obtain ⟨b,e,hb⟩:=hF
      exact ⟨b,(ha 15 (cG ..)).trans e,hb.1,(he.2 b (aq hb.2) (fun _ e=>by have:=(hd.on.ge e).2;have:=hb.1;omega) (fun _ e=>by have:=(hd.ol.ge e).2;have:=hb.1;omega)).trans hb.2⟩
     ·obtain ⟨gb,cap,e,ho,hat⟩:=hF
      refine ⟨gb,cap,(ha 16 (cG ..)).trans e,ho.Gl cO.moves he.1 (fun k ek=>he.2 k (ho.ge ek).2 (fun _ e3=>?_) (fun q7=>absurd q7 hne)),hat⟩;exact TbI
    case ob =>
     refine kA.cons (deps:=[]) rfl rfl Tcf (fun vs d w' h0 hC hF K hK=>?_) ?_
     ·clear hF
      simp only [over,cq,Act.put];go_simp;refine hK.o (.slice (some w'.heap.size) 1 1) _ ?_ ⟨Tce,fun k hk _ _=>cj _ _ _ hk⟩ ⟨_,aw rfl,dS.new hC.2.2.size⟩ _ ?_
      ·simp only [show (d 4||(4:Nat) == 3)=d 4 from by simp,show (d 16||(16:Nat) == 3)=d 16 from by simp]
       exact Tbk
      ·simp only [over,cq,aS]
     refine kA.cons (deps:=[(3,71)]) rfl rfl Tcf (fun vs d w' h0 hC hF K hK=>?_) ?_
     ·have f:=(hF (3,71) Tce).2
      clear hF;simp only [over,cq,cF,aS] at f ⊢;obtain ⟨b,e2,hb⟩:=f;rw [e2];simp only at h0;have hz:=hC.2.2.size;refine mU aF.moves underlying26 hi1 hz10 hz11 hz12 rfl Tcg Tcg rfl _ _ Tci (L+1+1+1) (fun _=>False) ft (aI name j) (name++qm) Tci (hC.1 h0) b 1 [.string (name++qm)] Tci Tci rfl Tco (fun j y hy=>?_) TcT (cA TT.hB hz) (fun _ _ f=>f) (fun gb cap w3 hp=>?_)
      ·exact TbZ
      ·refine hK.o (.slice (some gb) (((aI name j)).length+1) cap) w3 ?_ ⟨hp.grown.size,fun k hk qa qb=>hp.grown.block k hk fun e=>qa rfl e.symm⟩ ⟨gb,cap,aw rfl,hp.own,hp.at'.imp id (fun q=>by omega)⟩ _ ?_
       ·simp only [show (d 16||(16:Nat) == 4)=d 16 from by simp]
        exact Tbi
       ·simp only [over,cq,cF,aS,e2]
     refine kA.cons (deps:=[]) rfl rfl Tcf (fun vs d w' h0 hC hF K hK=>?_) ?_
     ·clear hF
      simp only [over,cq,Act.put];go_simp;refine hK.o (.slice (some w'.heap.size) 1 1) _ ?_ ⟨Tce,fun k hk _ _=>cj _ _ _ hk⟩ ⟨_,aw rfl,dS.new hC.2.2.size⟩ _ ?_
      ·simp only [show (d 4||(4:Nat) == 15)=d 4 from by simp,show (d 16||(16:Nat) == 15)=d 16 from by simp]
       exact Tbk
      ·simp only [over,cq,aS]
     refine kA.cons (deps:=[(15,83)]) rfl rfl Tcf (fun vs d w' h0 hC hF K hK=>?_) trivial
     ·have f:=(hF (15,83) Tce).2
      clear hF;simp only [over,cq,cF,aS] at f ⊢;obtain ⟨b,e2,hb⟩:=f;rw [e2];simp only at h0;have hz:=hC.2.2.size;refine mU cO.moves underlying22 hi2 hz20 hz21 hz22 rfl Tcg Tcg rfl _ _ Tci (L+1+1+1) (fun _=>False) fx (List.replicate j n) (1+(1+(n*g.Gd+63) / 64) / g.Gd) Tci (hC.2.1 h0) b 1 [.int .i64 (1+(1+(n*g.Gd+63) / 64) / g.Gd)] Tci Tci rfl Tco (fun j y hy=>?_) (by simp [];omega) (cA TT.hB hz) (fun _ _ f=>f) (fun gb cap w3 hp=>?_)
      ·exact TbZ
      ·refine hK.o (.slice (some gb) (((List.replicate j n)).length+1) cap) w3 ?_ ⟨hp.grown.size,fun k hk qa qb=>hp.grown.block k hk fun e=>qb rfl e.symm⟩ ⟨gb,cap,aw rfl,hp.own,hp.at'.imp id (fun q=>by omega)⟩ _ ?_
       ·simp only [show (d 4||(4:Nat) == 16)=d 4 from by simp]
        exact Tbj
       ·simp only [over,cq,cF,aS,e2]
    case cs =>
     intro d w' hC;have hm:=hC.2.2;refine ⟨?_,?_,?_⟩
     ·rw [hm.cell (p:=⟨L+1,0,none⟩) (aq hd.bn) (AH (L+1) Tcd)]
      simp [World.cell?,hd.bn]
     ·rw [hm.cell (p:=⟨L+1+1,0,none⟩) (aq hd.bl) (AH (L+1+1) Tcd)]
      simp [World.cell?,hd.bl]
     ·rw [hm.cell (p:=⟨L,6,none⟩) (aq hd.bx) (AH L Tcd)]
      exact (TT.cx 6 rfl).1
    case fin =>
     intro vs d w' hC hF;have f3:=(hF (4,72) Tce).2;have f7:=(hF (16,84) Tce).2;clear hF;simp only [over,cq,cF,aS,cQ,cL] at f3 f7 ⊢;obtain ⟨g1,p1,e3,o1,t1⟩:=f3;obtain ⟨g2,p2,e7,o2,t2⟩:=f7;rw [e3,e7];generalize vs 3=u3;generalize vs 15=u15;obtain ⟨T7,y1,y2,y3,y4⟩:=TT.push2 hC.2.2 o1 t1 o2 t2;simp only [List.length_replicate] at T7;clear hC e3 e7 o1 o2 t1 t2 hd AH TT hi1 hi2 hz10 hz11 hz12 hz20 hz21 hz22 hHeld;have c0:=T7.post.bld.c0
     go_wp2_with fail
     refine (bY bs 3 _ Tcd Tcd T7.post.bld.src).mono ?_;rintro e wA ⟨v3,rfl,hv31,hv32,SZ,S0⟩;have TA:=T7.read SZ S0;clear S0 SZ c0
     by_cases hv30:v3=0
     ·subst hv30
      obtain ⟨ap,ac,B4⟩:∃ ap ac,av=.slice ap j ac:=by
       obtain ⟨p,c,e,_⟩:=TA.loc.oa.form;refine ⟨p,c,?_⟩;rw [e];simp [gB,aI]
      subst B4;have cb0:=TA.post.bld.c0;have ca:=(TA.cx 3 rfl).1;have G2:=TA.post.bld.Gj;have UA:=(TA.post.bld.xlt L (.inr (.inl rfl))).2;have Zx:=(TA.post.bld.xlt L (.inr (.inl rfl))).1;go_wp2;refine aL (fun w'=>w'.cell? bb=some (.pointer (some bs))/\w'.cell? (Tab L 3)=some (.slice ap j ac)) 9 [0,1,2,4] Tcf ⟨cb0,ca⟩ (fun hHeld=>?_);refine fz 0 ?_;try simp only [ak];refine fz 1 ?_;try simp only [ak];refine fz 2 ?_;try simp only [ak];refine fz 4 ?_;try simp only [ak];refine fS 3 hHeld ?_;try simp only [ak];refine fS 5 hHeld ?_;try simp only [ak];refine fS 6 hHeld ?_;try simp only [ak];refine lR 7 fun K hK=>?_;go_simp;refine (bY bs (j:Int) _ Tcd Tcd (TA.below ((bj _ _).drew)).post.bld.src).mono ?_;rintro e wB ⟨vi,rfl,PR,Xk,S1,S3⟩;have TB:=(TA.below ((bj _ _).drew)).read S1 S3;refine hK.o _ _ ⟨TB.post.bld.c0,(TB.cx 3 rfl).1⟩ ?_;clear hK K S1 S3 cb0 ca hHeld TA;refine lR 8 fun K hK=>?_;go_simp;have TC:=TB.below (ae wB (.cells #[.int .i64 vi] 3));refine hK.o _ _ ⟨TC.post.bld.c0,(TC.cx 3 rfl).1⟩ ?_;clear hK K;refine aP Tcf rfl ?_;simp only [cQ,cL];obtain ⟨x5,f5⟩:=TC.cx 5 rfl;go_wp2;have hJ:=HJ;unfold kG at hJ;go_meet;refine ⟨_,_,_,_,_,_,_,.mirrorLog j ⟨hj2,hj⟩ c ⟨hc1,hc2⟩ [vi] (.inr ⟨vi,PR,Tcd,rfl⟩),TC.stale (b9 wB _) (by have:=TB.post.bld.Gj;omega) (fun q=>by have:=(TB.post.bld.xlt _ q).2;omega) (fun q=>by have:=(TB.post.bld.nLt q).2;omega) (fun q=>by have:=(TB.post.bld.vLt q).2;omega)⟩
     ·have tR:(v3 == 0)=false:=by simpa using hv30
      go_wp2;have hJ:=HJ;unfold kG at hJ;go_meet;exact ⟨_,_,_,_,_,_,_,.mirrorLog j ⟨hj2,hj⟩ c ⟨hc1,hc2⟩ [] (.inl rfl),TA⟩
   ·have ad6:(v4 == 0)=false:=by simpa using hv40
    have c0:=T5.post.bld.c0
    go_wp2_with fail
    refine (bY bs 3 _ Tcd Tcd T5.post.bld.src).mono ?_;rintro e wA ⟨v3,rfl,hv31,hv32,SZ,S0⟩;have TA:=T5.read SZ S0;clear S0 SZ c0
    by_cases hv30:v3=0
    ·subst hv30
     obtain ⟨ap,ac,B4⟩:∃ ap ac,av=.slice ap j ac:=by
      obtain ⟨p,c,e,_⟩:=TA.loc.oa.form;refine ⟨p,c,?_⟩;rw [e];simp [gB,aI]
     subst B4;have cb0:=TA.post.bld.c0;have ca:=(TA.cx 3 rfl).1;have G2:=TA.post.bld.Gj;have UA:=(TA.post.bld.xlt L (.inr (.inl rfl))).2;have Zx:=(TA.post.bld.xlt L (.inr (.inl rfl))).1;go_wp2;refine aL (fun w'=>w'.cell? bb=some (.pointer (some bs))/\w'.cell? (Tab L 3)=some (.slice ap j ac)) 9 [0,1,2,4] Tcf ⟨cb0,ca⟩ (fun hHeld=>?_);refine fz 0 ?_;try simp only [ak];refine fz 1 ?_;try simp only [ak];refine fz 2 ?_;try simp only [ak];refine fz 4 ?_;try simp only [ak];refine fS 3 hHeld ?_;try simp only [ak];refine fS 5 hHeld ?_;try simp only [ak];refine fS 6 hHeld ?_;try simp only [ak];refine lR 7 fun K hK=>?_;go_simp;refine (bY bs (j:Int) _ Tcd Tcd (TA.below ((bj _ _).drew)).post.bld.src).mono ?_;rintro e wB ⟨vi,rfl,PR,Xk,S1,S3⟩;have TB:=(TA.below ((bj _ _).drew)).read S1 S3;refine hK.o _ _ ⟨TB.post.bld.c0,(TB.cx 3 rfl).1⟩ ?_;clear hK K S1 S3 cb0 ca hHeld TA;refine lR 8 fun K hK=>?_;go_simp;have TC:=TB.below (ae wB (.cells #[.int .i64 vi] 3));refine hK.o _ _ ⟨TC.post.bld.c0,(TC.cx 3 rfl).1⟩ ?_;clear hK K;refine aP Tcf rfl ?_;simp only [cQ,cL];obtain ⟨x5,f5⟩:=TC.cx 5 rfl;go_wp2;have hJ:=HJ;unfold kG at hJ;go_meet;refine ⟨_,_,_,_,_,_,_,.mirror j ⟨hj2,hj⟩ c ⟨hc1,hc2⟩ [vi] (.inr ⟨vi,PR,Tcd,rfl⟩),TC.stale (b9 wB _) (by have:=TB.post.bld.Gj;omega) (fun q=>by have:=(TB.post.bld.xlt _ q).2;omega) (fun q=>by have:=(TB.post.bld.nLt q).2;omega) (fun q=>by have:=(TB.post.bld.vLt q).2;omega)⟩
    ·have tR:(v3 == 0)=false:=by simpa using hv30
     go_wp2;have hJ:=HJ;unfold kG at hJ;go_meet;exact ⟨_,_,_,_,_,_,_,.mirror j ⟨hj2,hj⟩ c ⟨hc1,hc2⟩ [] (.inl rfl),TA⟩
theorem wU (X:Nat->Prop)(bs bb:Nat)(nv vv:Value)(g:af)(next:List Int)(w:World)(name:ByteArray)(hname:name.size<=100)(he1:1<=g.Gd)(he2:g.Gd<=16)(n:Int)(hn1:1<=n)(hn2:n<=3)(L:Nat)(W:World)
  (T0:vq X bs bb nv vv g next w (L+1+1+1) L (L+1) (L+1+1) (.slice none 0 0) (.slice none 0 0) (.slice none 0 0) (.slice none 0 0) [] [] [] [] n 4 1 es 0 W)
  (J K':Act->World->Prop) (Q0:Ending->World->Prop)
  (HJ:kG X bs bb nv vv g next w L n name 4 J)
  (hK:∀ (a':Act) (w':World),Met J a' w'->K' a' w') :
  Code.wp prog u6 (Exit.then K' (bodyPost prog Tryz.f46 Q0)) ⟨#[.pointer (some bb),.string name,.int .i64 4,undef,undef,undef,.int .i64 g.Gd,.int .i64 n,.pointer (some L),.pointer (some (Tab (L+1) 0)),.pointer (some (Tab (L+1+1) 0)),.func (.func 93) #[] #[.pointer (some (Tab (L+1) 0)),.pointer (some (Tab (L+1+1) 0)),.pointer (some L)],undef,undef,undef,undef,.pointer (some bb),.pointer (some bb),.pointer (some (Tab bb 1)),.pointer (some (Tab bb 4)),.int .i64 g.Gd,.pointer (some bb),.pointer (some bb),.pointer (some bb),.pointer (some bs),.int .i64 n,.int .i64 n,.int .i64 4,.agg #[.int .i64 0,.int .i64 n,.int .i64 4,.slice none 0 0,.int .i64 1,.slice none 0 0,.string ⟨#[]⟩,.string ⟨#[]⟩,.int .i64 0,.int .i64 0,.int .i64 0],.func (.func 93) #[] #[.pointer (some (Tab (L+1) 0)),.pointer (some (Tab (L+1+1) 0)),.pointer (some L)],.int .i64 4,undef,undef,undef,undef,undef,undef,undef,undef,undef,undef,undef,undef,undef,undef,undef,undef,undef,undef,undef,undef,undef,undef,undef,undef,undef,undef,undef,undef,undef,undef,undef,undef,undef,undef,undef,undef,undef,undef,undef,undef,undef,undef,undef,undef,undef,undef,undef,undef,undef,undef,undef,undef,undef,undef,undef,undef,undef,undef,undef,undef,undef,undef,undef,undef,undef,undef,undef,undef,undef,undef,undef,undef,undef,undef,undef,undef,undef,undef,undef,undef,undef,undef,undef,undef,undef,undef,undef,undef,undef,undef,undef,undef,undef,undef,undef,undef,undef,undef,undef,undef,undef,undef,undef,undef,undef,undef,undef,undef,undef,undef,undef,undef,undef,undef,undef,undef,undef,undef,undef,undef,undef,undef,undef,undef,undef,undef,undef,undef,undef,undef,undef,undef,undef,undef,undef,undef,undef,undef,undef,undef,undef,undef,undef,undef,undef,undef,undef,undef,undef,undef,undef,undef,undef,undef,undef,undef,undef,undef,undef,undef,undef,undef,undef,undef,undef,undef,undef,undef,undef,undef,undef,undef,undef,undef,undef,undef,undef,undef,undef,undef,undef,undef,undef,undef,undef,undef,undef,undef,undef,undef,undef,undef,undef,undef,undef,undef,undef,undef,undef,undef,undef,undef,undef,undef,undef,undef,undef,undef,undef,undef,undef,undef,undef,undef,undef,undef,undef,undef,undef,undef,undef,undef,undef,undef,undef,undef,undef,undef,undef,undef,undef,undef,undef,undef,undef,undef,undef,undef,undef,undef,undef,undef,undef,undef,undef,undef,undef,undef],[]⟩ W:=by
 conv=>arg 2;whnf
 have c0:=T0.post.bld.c0
 go_wp2_with fail
 refine (bY bs 2 _ Tcd Tcd T0.post.bld.src).mono ?_;rintro e w2 ⟨kv,rfl,hk1,hk2,hs2,hm2⟩;have T1:=T0.read hs2 hm2;clear hm2 hs2 c0;obtain ⟨kk,OU⟩:∃ u:Nat,kv+3=(u:Int):=⟨(kv+3).toNat,Tcd⟩;obtain rfl:kv=(kk:Int) - 3:=by omega
 have hk3:3<=kk:=by omega
 have hk4:kk<=4:=by omega
 clear OU;have e1:3+((kk:Int) - 3)=kk:=by omega
 have b1:0<=n*((kk:Int) - 1)/\n*((kk:Int) - 1)<=9:=by rcases (show n=1\/n=2\/n=3 by omega) with rfl | rfl | rfl <;> omega
 have b2:=b1.1;have b3:=b1.2;have q1:0<=(15+g.Gd) / g.Gd:=lz Tcd Tcd;have q2:(15+g.Gd) / g.Gd<=31:=Int.le_trans (mS _ Tcd) Tcd;obtain ⟨x1,f1⟩:=T1.cx 1 rfl
 go_upto_block 3 with (fail)
 have T2:vq X bs bb nv vv g next w (L+1+1+1) L (L+1) (L+1+1) (.slice none 0 0) (.slice none 0 0) (.slice none 0 0) (.slice none 0 0) [] [] [] [] (n*((kk:Int) - 1)) 4 1 es 0 (w2.setCell (Tab L 1) (.int .i64 (n*((kk:Int) - 1)))):=T1.put 1 _ (fun _=>rfl);generalize hW2:World.setCell w2 _ _=W2 at *;clear hW2 x1 f1 b1 T1;go_wp2
 go_loopw [14] (fun i wr=>∃ (j:Nat) (ft fx av:Value),j<=kk/\i=.int .i64 j/\vq X bs bb nv vv g next w (L+1+1+1) L (L+1) (L+1+1) ft fx av (.slice none 0 0) (aI name j) (List.replicate j (n+(15+g.Gd) / g.Gd)) (gB (aI name j)) [] (n*((kk:Int) - 1)) 4 1 es 0 wr) (fun i _=>kk - (intOf i).toNat)
 case atStart=>exact ⟨0,_,_,_,Tcd,rfl,T2⟩
 case round =>
  obtain ⟨j,ft,fx,av,hj,rfl,T3⟩:=hrel
  by_cases hlt:j<kk
  ·have z1:(0:Int)<=(j:Int):=by omega
   have z2:(j:Int)<4:=by omega
   have hcell:(wr.alloc (.cells #[.string ⟨#[48]⟩,.string ⟨#[49]⟩,.string ⟨#[50]⟩,.string ⟨#[51]⟩] 9)).cell? (wr.heap.size,j)=some (.string (digit j)):=by
    refine aD rfl ?_;rcases (show j=0\/j=1\/j=2\/j=3 by omega) with rfl | rfl | rfl | rfl <;> rfl
   have QH:(digit j).size=1:=rfl;have hc1:¬ (9223372036854775807<name.size+4):=by omega
   have hne0:¬ g.Gd=0:=by omega
   have hne1:(g.Gd == 0)=false:=by simpa using hne0
   have hw1:IntKind.i64.wrap (15+g.Gd)=15+g.Gd:=dy _ Tcd;have hw2:(15+g.Gd).tdiv g.Gd=(15+g.Gd) / g.Gd:=CC Tcd;have hw3:IntKind.i64.wrap ((15+g.Gd) / g.Gd)=(15+g.Gd) / g.Gd:=dy _ Tcd;have hw4:IntKind.i64.wrap (n+(15+g.Gd) / g.Gd)=n+(15+g.Gd) / g.Gd:=dy _ Tcd;have hc2:¬ (9223372036854775807<name.size+4+1):=by omega
   go_wp2;refine aL (fun _=>True) 14 [] Tcf trivial (fun hHeld=>?_);refine fS 0 hHeld ?_;try simp only [ak];refine fS 1 hHeld ?_;try simp only [ak];refine fS 2 hHeld ?_;try simp only [ak];refine fS 4 hHeld ?_;try simp only [ak];refine fS 8 hHeld ?_;try simp only [ak];refine fS 9 hHeld ?_;try simp only [ak];refine fS 10 hHeld ?_;try simp only [ak];refine fS 11 hHeld ?_;try simp only [ak];refine fS 12 hHeld ?_;try simp only [ak];refine fS 13 hHeld ?_;try simp only [ak]
   (refine lR 3 fun K hK=>?_;go_simp;refine hK.o _ _ trivial ?_;clear hK K);(refine lR 5 fun K hK=>?_;go_simp;refine hK.o _ _ trivial ?_;clear hK K);(refine lR 6 fun K hK=>?_;go_simp;refine hK.o _ _ trivial ?_;clear hK K);(refine lR 7 fun K hK=>?_;go_simp;refine hK.o _ _ trivial ?_;clear hK K)
   refine aP Tcf rfl ?_;simp only [cQ,cL];clear hw1 hw2 hw3 hw4 hcell;have T4:=(T3.below (ae wr (.cells #[.string ⟨#[48]⟩,.string ⟨#[49]⟩,.string ⟨#[50]⟩,.string ⟨#[51]⟩] 9))).below ((bj _ _).drew)
   go_wp2_with fail
   refine (jM _ _ _ _ _ _ _ _ _ _ _ _ _ _ _ _ _ _ _ _ _ _ (fun _=>rfl) T4.loc T4.hB _ _ TcT Tcj TcE).mono ?_;rintro e w3 ⟨rfl,Mc,Me,SY,A1⟩;have T5:=T4.add A1;clear A1;exact Tbr
  ·obtain rfl:j=kk:=by omega
   have c0:=T3.post.bld.c0
   go_wp2_with fail
   refine (bY bs 2 _ Tcd Tcd T3.post.bld.src).mono ?_;rintro e w3 ⟨v3,rfl,hv1,hv2,hs3,hm3⟩;have T4:=T3.read hs3 hm3;clear hm3 hs3 c0
   by_cases hv0:v3=0
   ·subst hv0
    obtain ⟨x4,f4⟩:=T4.cx 4 rfl;go_wp2;have hJ:=HJ;unfold kG at hJ;go_meet;exact ⟨_,_,_,_,_,_,_,.parity j ⟨hk3,hk4⟩ g.Gd (.inr rfl),T4.put 4 _ (fun _=>rfl)⟩
   ·have tR:(v3 == 0)=false:=by simpa using hv0
    go_wp2;have hJ:=HJ;unfold kG at hJ;go_meet;exact ⟨_,_,_,_,_,_,_,.parity j ⟨hk3,hk4⟩ 1 (.inl rfl),T4⟩
theorem AV (X:Nat->Prop)(bs bb:Nat)(nv vv:Value)(g:af)(next:List Int)(w:World)(name:ByteArray)(hname:name.size<=100)(_he1:1<=g.Gd)(_he2:g.Gd<=16)(n:Int)(_hn1:1<=n)(_hn2:n<=3)(L:Nat)(W:World)
  (T0:vq X bs bb nv vv g next w (L+1+1+1) L (L+1) (L+1+1) (.slice none 0 0) (.slice none 0 0) (.slice none 0 0) (.slice none 0 0) [] [] [] [] n 5 1 es 0 W)
  (J K':Act->World->Prop) (Q0:Ending->World->Prop)
  (HJ:kG X bs bb nv vv g next w L n name 5 J)
  (hK:∀ (a':Act) (w':World),Met J a' w'->K' a' w') :
  Code.wp prog u6 (Exit.then K' (bodyPost prog Tryz.f46 Q0)) ⟨#[.pointer (some bb),.string name,.int .i64 5,undef,undef,undef,.int .i64 g.Gd,.int .i64 n,.pointer (some L),.pointer (some (Tab (L+1) 0)),.pointer (some (Tab (L+1+1) 0)),.func (.func 93) #[] #[.pointer (some (Tab (L+1) 0)),.pointer (some (Tab (L+1+1) 0)),.pointer (some L)],undef,undef,undef,undef,.pointer (some bb),.pointer (some bb),.pointer (some (Tab bb 1)),.pointer (some (Tab bb 4)),.int .i64 g.Gd,.pointer (some bb),.pointer (some bb),.pointer (some bb),.pointer (some bs),.int .i64 n,.int .i64 n,.int .i64 5,.agg #[.int .i64 0,.int .i64 n,.int .i64 5,.slice none 0 0,.int .i64 1,.slice none 0 0,.string ⟨#[]⟩,.string ⟨#[]⟩,.int .i64 0,.int .i64 0,.int .i64 0],.func (.func 93) #[] #[.pointer (some (Tab (L+1) 0)),.pointer (some (Tab (L+1+1) 0)),.pointer (some L)],.int .i64 5,undef,undef,undef,undef,undef,undef,undef,undef,undef,undef,undef,undef,undef,undef,undef,undef,undef,undef,undef,undef,undef,undef,undef,undef,undef,undef,undef,undef,undef,undef,undef,undef,undef,undef,undef,undef,undef,undef,undef,undef,undef,undef,undef,undef,undef,undef,undef,undef,undef,undef,undef,undef,undef,undef,undef,undef,undef,undef,undef,undef,undef,undef,undef,undef,undef,undef,undef,undef,undef,undef,undef,undef,undef,undef,undef,undef,undef,undef,undef,undef,undef,undef,undef,undef,undef,undef,undef,undef,undef,undef,undef,undef,undef,undef,undef,undef,undef,undef,undef,undef,undef,undef,undef,undef,undef,undef,undef,undef,undef,undef,undef,undef,undef,undef,undef,undef,undef,undef,undef,undef,undef,undef,undef,undef,undef,undef,undef,undef,undef,undef,undef,undef,undef,undef,undef,undef,undef,undef,undef,undef,undef,undef,undef,undef,undef,undef,undef,undef,undef,undef,undef,undef,undef,undef,undef,undef,undef,undef,undef,undef,undef,undef,undef,undef,undef,undef,undef,undef,undef,undef,undef,undef,undef,undef,undef,undef,undef,undef,undef,undef,undef,undef,undef,undef,undef,undef,undef,undef,undef,undef,undef,undef,undef,undef,undef,undef,undef,undef,undef,undef,undef,undef,undef,undef,undef,undef,undef,undef,undef,undef,undef,undef,undef,undef,undef,undef,undef,undef,undef,undef,undef,undef,undef,undef,undef,undef,undef,undef,undef,undef,undef,undef,undef,undef,undef,undef,undef,undef,undef,undef,undef,undef,undef,undef,undef,undef,undef,undef],[]⟩ W:=by
 conv=>arg 2;whnf
 have c0:=T0.post.bld.c0
 go_wp2_with fail
 refine (bO bs 1 3 _ Tcd Tcd Tcd T0.post.bld.src).mono ?_;rintro e w2 ⟨l,rfl,hl1,hl2,hs2,hm2⟩;have T1:=T0.read hs2 hm2;clear hm2 hs2 c0
 go_wp2_with fail
 refine (jM _ _ _ _ _ _ _ _ _ _ _ _ _ _ _ _ _ _ _ _ _ _ (fun _=>rfl) T1.loc T1.hB _ _ Tce Tce Tce).mono ?_;rintro e w3 ⟨rfl,Mc,Me,SY,A1⟩;have T2:=T1.add A1;clear A1
 go_wp2_with fail
 refine (jM _ _ _ _ _ _ _ _ _ _ _ _ _ _ _ _ _ _ _ _ _ _ (fun _=>rfl) T2.loc T2.hB _ _ Tce Tce Tce).mono ?_;rintro e w4 ⟨rfl,Xl,Xm,av2,A2⟩;have T3:=T2.add A2;clear A2;have c0:=T3.post.bld.c0
 go_wp2_with fail
 refine (bO bs 1 8 _ Tcd Tcd Tcd T3.post.bld.src).mono ?_;rintro e w5 ⟨c,rfl,hc1,hc2,hs5,hm5⟩;have T4:=T3.read hs5 hm5;clear hm5 hs5 c0;obtain ⟨x4,f4⟩:=T4.cx 4 rfl;go_wp2;have hJ:=HJ;unfold kG at hJ;go_meet;exact ⟨_,_,_,_,_,_,_,.pool l c ⟨hl1,hl2⟩ ⟨hc1,hc2⟩,T4.put 4 _ (fun _=>rfl)⟩
theorem yF (X:Nat->Prop)(bs bb:Nat)(nv vv:Value)(g:af)(next:List Int)(w:World)(name:ByteArray)(hname:name.size<=100)(_he1:1<=g.Gd)(_he2:g.Gd<=16)(n:Int)(_hn1:1<=n)(_hn2:n<=3)(L:Nat)(W:World)
  (T0:vq X bs bb nv vv g next w (L+1+1+1) L (L+1) (L+1+1) (.slice none 0 0) (.slice none 0 0) (.slice none 0 0) (.slice none 0 0) [] [] [] [] n 7 1 es 0 W)
  (J K':Act->World->Prop) (Q0:Ending->World->Prop)
  (HJ:kG X bs bb nv vv g next w L n name 7 J)
  (hK:∀ (a':Act) (w':World),Met J a' w'->K' a' w') :
  Code.wp prog u6 (Exit.then K' (bodyPost prog Tryz.f46 Q0)) ⟨#[.pointer (some bb),.string name,.int .i64 7,undef,undef,undef,.int .i64 g.Gd,.int .i64 n,.pointer (some L),.pointer (some (Tab (L+1) 0)),.pointer (some (Tab (L+1+1) 0)),.func (.func 93) #[] #[.pointer (some (Tab (L+1) 0)),.pointer (some (Tab (L+1+1) 0)),.pointer (some L)],undef,undef,undef,undef,.pointer (some bb),.pointer (some bb),.pointer (some (Tab bb 1)),.pointer (some (Tab bb 4)),.int .i64 g.Gd,.pointer (some bb),.pointer (some bb),.pointer (some bb),.pointer (some bs),.int .i64 n,.int .i64 n,.int .i64 7,.agg #[.int .i64 0,.int .i64 n,.int .i64 7,.slice none 0 0,.int .i64 1,.slice none 0 0,.string ⟨#[]⟩,.string ⟨#[]⟩,.int .i64 0,.int .i64 0,.int .i64 0],.func (.func 93) #[] #[.pointer (some (Tab (L+1) 0)),.pointer (some (Tab (L+1+1) 0)),.pointer (some L)],.int .i64 7,undef,undef,undef,undef,undef,undef,undef,undef,undef,undef,undef,undef,undef,undef,undef,undef,undef,undef,undef,undef,undef,undef,undef,undef,undef,undef,undef,undef,undef,undef,undef,undef,undef,undef,undef,undef,undef,undef,undef,undef,undef,undef,undef,undef,undef,undef,undef,undef,undef,undef,undef,undef,undef,undef,undef,undef,undef,undef,undef,undef,undef,undef,undef,undef,undef,undef,undef,undef,undef,undef,undef,undef,undef,undef,undef,undef,undef,undef,undef,undef,undef,undef,undef,undef,undef,undef,undef,undef,undef,undef,undef,undef,undef,undef,undef,undef,undef,undef,undef,undef,undef,undef,undef,undef,undef,undef,undef,undef,undef,undef,undef,undef,undef,undef,undef,undef,undef,undef,undef,undef,undef,undef,undef,undef,undef,undef,undef,undef,undef,undef,undef,undef,undef,undef,undef,undef,undef,undef,undef,undef,undef,undef,undef,undef,undef,undef,undef,undef,undef,undef,undef,undef,undef,undef,undef,undef,undef,undef,undef,undef,undef,undef,undef,undef,undef,undef,undef,undef,undef,undef,undef,undef,undef,undef,undef,undef,undef,undef,undef,undef,undef,undef,undef,undef,undef,undef,undef,undef,undef,undef,undef,undef,undef,undef,undef,undef,undef,undef,undef,undef,undef,undef,undef,undef,undef,undef,undef,undef,undef,undef,undef,undef,undef,undef,undef,undef,undef,undef,undef,undef,undef,undef,undef,undef,undef,undef,undef,undef,undef,undef,undef,undef,undef,undef,undef,undef,undef,undef,undef,undef,undef,undef,undef,undef,undef,undef,undef,undef],[]⟩ W:=by
 conv=>arg 2;whnf
 go_wp2_with fail
 refine (jM _ _ _ _ _ _ _ _ _ _ _ _ _ _ _ _ _ _ _ _ _ _ (fun _=>rfl) T0.loc T0.hB _ _ Tce Tce Tce).mono ?_;rintro e w3 ⟨rfl,Mc,Me,SY,A1⟩;have T1:=T0.add A1;clear A1;have c0:=T1.post.bld.c0
 go_wp2_with fail
 refine (bO bs 1 2 _ Tcd Tcd Tcd T1.post.bld.src).mono ?_;rintro e w2 ⟨l,rfl,hl1,hl2,hs2,hm2⟩;have T2:=T1.read hs2 hm2;clear hm2 hs2 c0
 go_wp2_with fail
 refine (jM _ _ _ _ _ _ _ _ _ _ _ _ _ _ _ _ _ _ _ _ _ _ (fun _=>rfl) T2.loc T2.hB _ _ Tce Tce Tce).mono ?_;rintro e w4 ⟨rfl,Xl,Xm,av2,A2⟩;have T3:=T2.add A2;clear A2
 go_wp2_with fail
 refine (jM _ _ _ _ _ _ _ _ _ _ _ _ _ _ _ _ _ _ _ _ _ _ (fun _=>rfl) T3.loc T3.hB _ _ Tce Tce Tce).mono ?_;rintro e w5 ⟨rfl,ad7,ad8,av3,A3⟩;have T4:=T3.add A3;clear A3;have c0:=T4.post.bld.c0;have hb4:=T4.post.bld.Gj;go_wp2;refine aL (fun w'=>w'.cell? bb=some (.pointer (some bs))) 11 [0,1,2,5,6,7] Tcf c0 (fun hHeld=>?_);refine fz 0 ?_;try simp only [ak];refine fz 1 ?_;try simp only [ak];refine fz 2 ?_;try simp only [ak];refine fz 5 ?_;try simp only [ak];refine fz 6 ?_;try simp only [ak];refine fz 7 ?_;try simp only [ak];refine fS 3 hHeld ?_;try simp only [ak];refine fS 8 hHeld ?_;try simp only [ak];refine lR 4 fun K hK=>?_;go_simp;refine (bO bs 1 2 _ Tcd Tcd Tcd (T4.below ((bj _ _).drew)).post.bld.src).mono ?_;rintro e w6 ⟨m,rfl,hm1,hm2,hs6,hm6⟩;have T5:=(T4.below ((bj _ _).drew)).read hs6 hm6;refine hK.o _ _ T5.post.bld.c0 ?_;clear hK K hs6 hm6 hHeld;have hHeld:=T5.post.bld.c0;refine fS 10 hHeld ?_;try simp only [ak];refine lR 9 fun K hK=>?_;go_simp;refine (bO bs 1 4 _ Tcd Tcd Tcd T5.post.bld.src).mono ?_;rintro e w7 ⟨c,rfl,hc1,hc2,hs7,hm7⟩;have T6:=T5.read hs7 hm7;refine hK.o _ _ T6.post.bld.c0 ?_;clear hK K hs7 hm7 c0 hHeld;refine aP Tcf rfl ?_;simp only [cQ,cL];obtain ⟨x4,f4⟩:=T6.cx 4 rfl;obtain ⟨x9,f9⟩:=T6.cx 9 rfl;go_wp2;have hJ:=HJ;unfold kG at hJ;go_meet;exact ⟨_,_,_,_,_,_,_,.cache l m c ⟨hl1,hl2⟩ ⟨hm1,hm2⟩ ⟨hc1,hc2⟩,(T6.put 9 _ (fun _=>rfl)).put 4 _ (fun _=>rfl)⟩
end Go.Proofs.YtjdfihglehfelaaGreatDoor
