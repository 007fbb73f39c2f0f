/- Lemmas: MkSa, MkSb. -/
import Derived.Test.YtaagglbgohjldaaGreatDoorQv34
import Derived.Test.YtaagglbgohjldaaGreatDoorQv11
set_option maxRecDepth 100000
set_option maxHeartbeats 32000000
set_option linter.all false
namespace Go.Proofs.YtaagglbgohjldaaGreatDoor
open Go.Proofs.Tryz
open Go.RowKit
variable {bs bb:Nat}{id seq ext:Int}{tags:List ByteArray}{w0 w:World}{tv dv nv:Value}{Gb:List az}{g:af}
noncomputable def nA (n:Nat):Code:=((Tryz.f6.body.bind (kX n)).getD .skip)
theorem Dp:(prog.info? 51).map (fun i=>(i.zero,i.size,i.bytes))=some (some (.agg Taj),7,72):=by kernel_rfl
theorem Td7 {p:Prop}(h:p:=by show ¬ k=bs;omega):p:=h
theorem Ta9 {p:Prop}(h:p:=by
 clear hF h0;simp only [over,cq,Act.put];go_simp;refine (bY bs 8 w' TcC TcC hC.1).mono ?_;rintro e w3 ⟨v,rfl,hv1,hv2,hs,hm⟩;refine hK1.o (.int .i64 v) w3 ⟨hs,hC.2.trans hm fun _ h=>.inl h⟩ ⟨hm.size,fun k h1 h2=>hm.block k h2 Td7⟩ (⟨v,aw rfl⟩) _ ?_;simp only [over,cq,aS]):p:=h
theorem Tex {p:Prop}(h:p:=by have:=hC.2.size;omega):p:=h
theorem yY {M:Nat}{next:List Int}(D0:vy bs bb id seq ext tags w0 tv dv nv Gb next w)(hM:Gb.length=M)(hM3:M<=3)
  (c1 c2 c5 c7 c8 c9 c10 c11 c12 c13 c14 c15 c16 c17 c18 c19 c20 c21 c22 c23 c24 c25 c26 c27 c28 c29 c30 c31 c32 c33 c34 c35 c36 c37 c38 c39 c40 c41 c42 c43 c44 c45 c46 c47 c48 c49 c50 c51 c52 c53 c54 c55 c56 c57 c58 c59 c60 c61 c62 c63 c64 c65 c66 c67 c68 c69 c70 c71 c72 c73 c74 c75 c76 c77 c78 c79 c80 c81 c82 c83 c84 c85 c86 c87 c88 c89 c90 c91 c92 c93 c94 c95 c96 c97 c98 c99 c100 c101 c102 c103 c104 c105 c106 c107 c108 c109 c110 c111 c112 c113 c114 c115 c116 c117 c118 c119 c120 c121 c122 c123 c124 c125 c126 c127 c128 c129 c130 c131 c132 c133 c134 c135 c136 c137 c138 c139 c140 c141 c142 c143 c144 c145 c146 c147 c148 c149 c150 c151 c152 c153 c154 c155 c156 c157 c158 c159 c160 c161 c162 c163 c164 c165 c166 c167 c168 c169 c170 c171 c172 c173 c174 c175 c176 c177 c178 c179 c180 c181:Value) (K:Act->World->Prop) (Q:Exit->Act->World->Prop) (hQ':∀ c (a:Act) (t t':Array Value) w,Q (.panic c) { a with tmps:=t } w->Q (.panic c) { a with tmps:=t' } w)
  (HK:Hid (∀ (Xs:Value) (D:az) (w':World) (u41 u42 u43 u44 u45 u46 u47 u48 u49 u50 u51 u52 u53 u54 u55 u56 u57 u58 u59 u60 u61 u62 u63 u64 u65 u66 u67 u68 u69 u70 u71 u72 u73 u74 u75:Value),rH M D->vy bs bb id seq ext tags w0 tv Xs nv (Gb++[D]) next w'->K ⟨#[.pointer (some bs),c1,c2,.pointer (some bb),.int .i64 8,c5,.int .i64 (M:Int),c7,c8,c9,c10,c11,c12,c13,c14,c15,c16,c17,c18,c19,c20,c21,c22,c23,c24,c25,c26,c27,c28,c29,c30,c31,c32,c33,c34,c35,c36,c37,c38,c39,c40,u41,u42,u43,u44,u45,u46,u47,u48,u49,u50,u51,u52,u53,u54,u55,u56,u57,u58,u59,u60,u61,u62,u63,u64,u65,u66,u67,u68,u69,u70,u71,u72,u73,u74,u75,c76,c77,c78,c79,c80,c81,c82,c83,c84,c85,c86,c87,c88,c89,c90,c91,c92,c93,c94,c95,c96,c97,c98,c99,c100,c101,c102,c103,c104,c105,c106,c107,c108,c109,c110,c111,c112,c113,c114,c115,c116,c117,c118,c119,c120,c121,c122,c123,c124,c125,c126,c127,c128,c129,c130,c131,c132,c133,c134,c135,c136,c137,c138,c139,c140,c141,c142,c143,c144,c145,c146,c147,c148,c149,c150,c151,c152,c153,c154,c155,c156,c157,c158,c159,c160,c161,c162,c163,c164,c165,c166,c167,c168,c169,c170,c171,c172,c173,c174,c175,c176,c177,c178,c179,c180,c181],[]⟩ w')) :
  Code.wp prog (nA 8) (Exit.then K Q) ⟨#[.pointer (some bs),c1,c2,.pointer (some bb),.int .i64 8,c5,.int .i64 (M:Int),c7,c8,c9,c10,c11,c12,c13,c14,c15,c16,c17,c18,c19,c20,c21,c22,c23,c24,c25,c26,c27,c28,c29,c30,c31,c32,c33,c34,c35,c36,c37,c38,c39,c40,c41,c42,c43,c44,c45,c46,c47,c48,c49,c50,c51,c52,c53,c54,c55,c56,c57,c58,c59,c60,c61,c62,c63,c64,c65,c66,c67,c68,c69,c70,c71,c72,c73,c74,c75,c76,c77,c78,c79,c80,c81,c82,c83,c84,c85,c86,c87,c88,c89,c90,c91,c92,c93,c94,c95,c96,c97,c98,c99,c100,c101,c102,c103,c104,c105,c106,c107,c108,c109,c110,c111,c112,c113,c114,c115,c116,c117,c118,c119,c120,c121,c122,c123,c124,c125,c126,c127,c128,c129,c130,c131,c132,c133,c134,c135,c136,c137,c138,c139,c140,c141,c142,c143,c144,c145,c146,c147,c148,c149,c150,c151,c152,c153,c154,c155,c156,c157,c158,c159,c160,c161,c162,c163,c164,c165,c166,c167,c168,c169,c170,c171,c172,c173,c174,c175,c176,c177,c178,c179,c180,c181],[]⟩ w:=by
 have hQ:∀ c (a:Act) (d:Tmp) (v:Value) w,Q (.panic c) (a.put (some d) v) w->Q (.panic c) a w:=fun c a d v w h=>hQ' c a _ _ w h;conv=>arg 2;whnf
 have hlt:=D0.lt;have cX:=D0.Gj;have hw1:IntKind.i64.wrap ((M:Int)+1)=(M:Int)+1:=dy _ TcC;have hw2:IntKind.u64.wrap ((M:Int)+1)=(M:Int)+1:=IntWalk.u64_in _ TcC;obtain ⟨dp,ir,Xt,hd1,hd2⟩:∃ p c,dv=.slice p M c/\M<=c/\c<=9223372036854775807:=by
  obtain ⟨p,c,e,h1,h2,_⟩:=D0.ownD.rd aO.moves TcF (ok':=fun _=>True) (fun _ _ _=>trivial) (fun _ _=>trivial);rw [hM] at e h1;exact ⟨p,c,by injection e,h1,h2⟩
 subst Xt;have z1:(0:Int)<=(M:Int):=by omega
 have z2:(M:Int)<4:=by omega
 have hc7:=cr D0.blk 7 _ rfl;refine aL (fun w'=>w'.cell? (Tac bb 7)=some (.slice dp M ir)) 31 [0,1,2,3,4,7,11,12,13,14,15,18,21,24,27] TcE hc7 (fun hHeld=>?_);refine gC hQ 0 ?_;refine gC hQ 1 ?_;refine gC hQ 2 ?_;refine gC hQ 3 ?_;refine gC hQ 4 ?_;refine gC hQ 7 ?_;refine gC hQ 11 ?_;refine gC hQ 12 ?_;refine gC hQ 13 ?_;refine gC hQ 14 ?_;refine gC hQ 15 ?_;refine gC hQ 18 ?_;refine gC hQ 21 ?_;refine gC hQ 24 ?_;refine gC hQ 27 ?_;refine cH hQ 5 hHeld ?_;have D1:=D0.below ((bj _ _).drew);have mA:w.drew.heap.size=w.heap.size:=rfl;have Xu:w.drew.cell? (Tac bb 7)=some (.slice dp M ir):=hc7;generalize hwd:w.drew=wd at *;clear hwd hc7 hHeld hw1 hw2 D0;have pB:=D1.Gj;refine fE (idx:=[(6,47),(8,49),(9,50),(10,51),(16,57),(17,58),(19,60),(20,61),(22,63),(23,64),(25,66),(26,67),(28,69),(29,70),(30,71)]) (fun i=>[i])
  (fun i vs w'=>match i with
   | 6=>∃ b,vs 6=.slice (some ⟨b,0,none⟩) 4 4/\dS wd.heap.size 9 [.string ⟨#[48]⟩,.string ⟨#[49]⟩,.string ⟨#[50]⟩,.string ⟨#[51]⟩] b w'
   | 8=>∃ b,vs 8=.pointer (some ⟨b,M,none⟩)/\dS wd.heap.size 9 [.string ⟨#[48]⟩,.string ⟨#[49]⟩,.string ⟨#[50]⟩,.string ⟨#[51]⟩] b w'
   | 9=>vs 9=.string (digit M)
   | 10=>vs 10=.string (NI++digit M)
   | 16=>∃ v:Int,0<=v/\v<=8/\vs 16=.int .i64 v
   | 17=>∃ v:Int,8<=v/\v<=16/\vs 17=.int .i64 v
   | 19=>∃ b,vs 19=.slice (some ⟨b,0,none⟩) 5 5/\dS wd.heap.size 3 [.int .i64 0,.int .i64 4,.int .i64 12,.int .i64 30,.int .i64 60] b w'
   | 20=>∃ v:Int,v∈([0,4,12,30,60]:List Int)/\vs 20=.int .i64 v
   | 22=>∃ v:Int,vs 22=.int .i64 v
   | 23=>∃ c:Bool,vs 23=.bool c
   | 25=>∃ v:Int,vs 25=.int .i64 v
   | 26=>∃ c:Bool,vs 26=.bool c
   | 28=>∃ tp tc tl,vs 28=.slice tp (List.length tl) tc/\ck aF 1 (fun k=>wd.heap.size<=k) w' [.slice tp tl.length tc] tl/\List.Sublist tl iQ
   | 29=>∃ D tp tc,rH M D/\vs 29=.agg (Tah D tp tc)/\ck aF 1 (fun k=>wd.heap.size<=k) w' [.slice tp D.tags.length tc] D.tags
   | 30=>∃ D tp tc b,rH M D/\vs 30=.slice (some ⟨b,0,none⟩) 1 1/\dS wd.heap.size 51 [.string D.name,.int .u64 D.id,.int .i64 D.first,.int .i64 D.Gc,.bool D.closed,.bool D.missing,.slice tp D.tags.length tc] b w'/\ck aF 1 (fun k=>wd.heap.size<=k) w' [.slice tp D.tags.length tc] D.tags
   | _=>True)
  (fun _ w'=>Src w' bs/\cR (fun k=>k=bs) wd w') (fun _=>rS wd.heap.size) TcE rfl ?cs ?st (fun c t t' w h=>hQ' c ⟨t,[]⟩ t t' w h) ?c0 ?ob ?fin
 case c0=>exact ⟨D1.src,cR.refl _ _⟩
 case cs=>exact fun d w' hC=>(hC.2.cell (p:=⟨bb,7,none⟩) pB (by show ¬ bb=bs;omega)).trans Xu
 case st =>
  intro p hp q _ _ vs us w1 w2 ha hF he;have C4:Mv (fun k=>wd.heap.size<=k) (fun k=>wd.heap.size<=k) w1 w2:=⟨he.1,fun b hb ho=>⟨ho,he.2 b ho hb⟩⟩;simp only [dr,cY,dg] at hp;rcases hp with rfl | rfl | rfl | rfl | rfl | rfl | rfl | rfl | rfl | rfl | rfl | rfl | rfl | rfl | rfl
  ·obtain ⟨b,e,hb⟩:=hF;exact ⟨b,(ha 6 (cG ..)).trans e,hb.ev he⟩
  ·obtain ⟨b,e,hb⟩:=hF;exact ⟨b,(ha 8 (cG ..)).trans e,hb.ev he⟩
  ·exact (ha 9 (cG ..)).trans hF
  ·exact (ha 10 (cG ..)).trans hF
  ·obtain ⟨v,h1,h2,e⟩:=hF;exact ⟨v,h1,h2,(ha 16 (cG ..)).trans e⟩
  ·obtain ⟨v,h1,h2,e⟩:=hF;exact ⟨v,h1,h2,(ha 17 (cG ..)).trans e⟩
  ·obtain ⟨b,e,hb⟩:=hF;exact ⟨b,(ha 19 (cG ..)).trans e,hb.ev he⟩
  ·obtain ⟨v,h1,e⟩:=hF;exact ⟨v,h1,(ha 20 (cG ..)).trans e⟩
  ·obtain ⟨v,e⟩:=hF;exact ⟨v,(ha 22 (cG ..)).trans e⟩
  ·obtain ⟨v,e⟩:=hF;exact ⟨v,(ha 23 (cG ..)).trans e⟩
  ·obtain ⟨v,e⟩:=hF;exact ⟨v,(ha 25 (cG ..)).trans e⟩
  ·obtain ⟨v,e⟩:=hF;exact ⟨v,(ha 26 (cG ..)).trans e⟩
  ·obtain ⟨tp,tc,tl,e,h1,h2⟩:=hF;exact ⟨tp,tc,tl,(ha 28 (cG ..)).trans e,(ck.moves aF.moves).mv C4 h1,h2⟩
  ·obtain ⟨D,tp,tc,hd,e,h1⟩:=hF;exact ⟨D,tp,tc,hd,(ha 29 (cG ..)).trans e,(ck.moves aF.moves).mv C4 h1⟩
  obtain ⟨D,tp,tc,b,hd,e,hb,h1⟩:=hF;exact ⟨D,tp,tc,b,hd,(ha 30 (cG ..)).trans e,hb.ev he,(ck.moves aF.moves).mv C4 h1⟩
 case ob =>
  refine kA.cons (deps:=[]) rfl rfl TcE (fun vs d w' h0 hC hF K1 hK1=>?_) ?_
  ·clear hF h0;simp only [over,cq,Act.put];go_simp;refine hK1.o (.slice (some w'.heap.size) 4 4) _ ⟨hC.1.keep fun k hk=>cj _ _ _ Tex,hC.2.trans (G:=fun _=>False) (cR.of_below (ae _ _)) (fun _ f=>f.elim)⟩ (rS.alloc _ _ _) ⟨_,aw rfl,dS.new hC.2.size⟩ _ ?_;simp only [over,cq,aS]
  refine kA.cons (deps:=[(6,47)]) rfl rfl TcE (fun vs d w' h0 hC hF K1 hK1=>?_) ?_
  ·have f6:=(hF (6,47) TcD).2;clear hF h0;simp only [over,cq,cF,aS] at f6 ⊢;obtain ⟨b,e6,hb⟩:=f6;rw [e6];go_simp;refine hK1.o (.pointer (some (b,M))) _ hC (rS.refl _ _) (⟨b,aw rfl,hb⟩) _ ?_;simp only [over,cq,cF,aS,e6]
  refine kA.cons (deps:=[(8,49)]) rfl rfl TcE (fun vs d w' h0 hC hF K1 hK1=>?_) ?_
  ·have f8:=(hF (8,49) TcD).2;clear hF h0;simp only [over,cq,cF,aS] at f8 ⊢;obtain ⟨b,e8,hb⟩:=f8;rw [e8];have hcell:w'.cell? (b,M)=some (.string (digit M)):=by
    simp only [World.cell?,hb.2];rcases (show M=0\/M=1\/M=2\/M=3 by omega) with rfl | rfl | rfl | rfl <;> rfl
   go_simp;refine hK1.o (.string (digit M)) _ hC (rS.refl _ _) (aw rfl) _ ?_;simp only [over,cq,cF,aS,e8]
  refine kA.cons (deps:=[(9,50)]) rfl rfl TcE (fun vs d w' h0 hC hF K1 hK1=>?_) ?_
  ·have f9:=(hF (9,50) TcD).2;clear hF h0;simp only [over,cq,cF,aS] at f9 ⊢;rw [f9];have QH:(digit M).size=1:=rfl;go_simp;refine hK1.o (.string (NI++digit M)) _ hC (rS.refl _ _) (aw rfl) _ ?_;simp only [over,cq,cF,aS,f9,NI]
  refine kA.cons (deps:=[]) rfl rfl TcE (fun vs d w' h0 hC hF K1 hK1=>?_) ?_
  ·clear hF h0;simp only [over,cq,Act.put];go_simp;refine (bY bs 9 w' TcC TcC hC.1).mono ?_;rintro e w3 ⟨v,rfl,hv1,hv2,hs,hm⟩;refine hK1.o (.int .i64 v) w3 ⟨hs,hC.2.trans hm fun _ h=>.inl h⟩ ⟨hm.size,fun k h1 h2=>hm.block k h2 Td7⟩ (⟨v,hv1,TcC,aw rfl⟩) _ ?_;simp only [over,cq,aS]
  refine kA.cons (deps:=[(16,57)]) rfl rfl TcE (fun vs d w' h0 hC hF K1 hK1=>?_) ?_
  ·have f16:=(hF (16,57) TcD).2;clear hF h0;simp only [over,cq,cF,aS] at f16 ⊢;obtain ⟨v,h1,h2,e16⟩:=f16;rw [e16];have hw3:IntKind.i64.wrap (8+v)=8+v:=dy _ TcC;go_simp;refine hK1.o (.int .i64 (8+v)) _ hC (rS.refl _ _) (⟨8+v,TcC,TcC,aw rfl⟩) _ ?_;simp only [over,cq,cF,aS,e16]
  refine kA.cons (deps:=[]) rfl rfl TcE (fun vs d w' h0 hC hF K1 hK1=>?_) ?_
  ·clear hF h0;simp only [over,cq,Act.put];go_simp;refine hK1.o (.slice (some w'.heap.size) 5 5) _ ⟨hC.1.keep fun k hk=>cj _ _ _ Tex,hC.2.trans (G:=fun _=>False) (cR.of_below (ae _ _)) (fun _ f=>f.elim)⟩ (rS.alloc _ _ _) ⟨_,aw rfl,dS.new hC.2.size⟩ _ ?_;simp only [over,cq,aS]
  refine kA.cons (deps:=[(19,60)]) rfl rfl TcE (fun vs d w' h0 hC hF K1 hK1=>?_) ?_
  ·have f19:=(hF (19,60) TcD).2;clear hF h0;simp only [over,cq,cF,aS] at f19 ⊢;obtain ⟨b,e19,hb⟩:=f19;rw [e19];go_simp;refine (jD bs b 5 [0,4,12,30,60] w' TcD TcD TcD TcC (aq hb.2) (by have:=hb.1;omega) (fun i v hv=>by simp only [World.cell?,hb.2];match i,hv with | 0,hv=>simpa using hv | 1,hv=>simpa using hv | 2,hv=>simpa using hv | 3,hv=>simpa using hv | 4,hv=>simpa using hv) hC.1).mono ?_;rintro e w3 ⟨v,rfl,hv,hs,hm⟩;refine hK1.o (.int .i64 v) w3 ⟨hs,hC.2.trans hm fun _ h=>.inl h⟩ ⟨hm.size,fun k h1 h2=>hm.block k h2 Td7⟩ ⟨v,hv,aw rfl⟩ _ ?_;simp only [over,cq,cF,aS,e19]
  refine kA.cons (deps:=[]) rfl rfl TcE (fun vs d w' h0 hC hF K1 hK1=>?_) ?_
  ·exact Ta9
  refine kA.cons (deps:=[(22,63)]) rfl rfl TcE (fun vs d w' h0 hC hF K1 hK1=>?_) ?_
  ·have f22:=(hF (22,63) TcD).2;clear hF h0;simp only [over,cq,cF,aS] at f22 ⊢;obtain ⟨v,e22⟩:=f22;rw [e22];go_simp;refine hK1.o (.bool (v == 0)) _ hC (rS.refl _ _) (⟨_,aw rfl⟩) _ ?_;simp only [over,cq,cF,aS,e22]
  refine kA.cons (deps:=[]) rfl rfl TcE (fun vs d w' h0 hC hF K1 hK1=>?_) ?_
  ·exact Ta9
  refine kA.cons (deps:=[(25,66)]) rfl rfl TcE (fun vs d w' h0 hC hF K1 hK1=>?_) ?_
  ·have f25:=(hF (25,66) TcD).2;clear hF h0;simp only [over,cq,cF,aS] at f25 ⊢;obtain ⟨v,e25⟩:=f25;rw [e25];go_simp;refine hK1.o (.bool (v == 0)) _ hC (rS.refl _ _) (⟨_,aw rfl⟩) _ ?_;simp only [over,cq,cF,aS,e25]
  refine kA.cons (deps:=[]) rfl rfl TcE (fun vs d w' h0 hC hF K1 hK1=>?_) ?_
  ·clear hF h0;simp only [over,cq,Act.put];go_simp;refine (qY bs w' hC.1).mono ?_;rintro e w3 ⟨v,tl,rfl,u9,kf,hs,hm⟩;have Xv:=kf;obtain ⟨tp,tc,hv,_⟩:=Xv;obtain rfl:v=.slice tp tl.length tc:=by injection hv
   refine hK1.o (.slice tp tl.length tc) w3 ⟨hs,hC.2.trans hm fun _ h=>.inl h⟩ ⟨hm.size,fun k h1 h2=>hm.block k h2 Td7⟩ ⟨tp,tc,tl,aw rfl,(ck.moves aF.moves).mv ⟨bk _,fun k _ h=>⟨cA hC.2.size h,rfl⟩⟩ kf,u9⟩ _ ?_;simp only [over,cq,aS]
  refine kA.cons (deps:=[(10,51),(17,58),(20,61),(23,64),(26,67),(28,69)]) rfl rfl TcE (fun vs d w' h0 hC hF K1 hK1=>?_) ?_
  ·have f10:=(hF (10,51) TcD).2;have f17:=(hF (17,58) TcD).2;have f20:=(hF (20,61) TcD).2;have f23:=(hF (23,64) TcD).2;have f26:=(hF (26,67) TcD).2;have f28:=(hF (28,69) TcD).2;clear hF h0;simp only [over,cq,cF,aS] at f10 f17 f20 f23 f26 f28 ⊢;obtain ⟨v17,p1,p2,e17⟩:=f17;obtain ⟨v20,p3,e20⟩:=f20;obtain ⟨b23,e23⟩:=f23;obtain ⟨b26,e26⟩:=f26;obtain ⟨tp,tc,tl,e28,t1,t2⟩:=f28;rw [f10,e17,e20,e23,e26,e28];go_simp;refine hK1.o (.agg #[.string (NI++digit M),.int .u64 ((M:Int)+1),.int .i64 v17,.int .i64 v20,.bool b23,.bool b26,.slice tp tl.length tc]) _ hC (rS.refl _ _) ⟨⟨NI++digit M,(M:Int)+1,v17,v20,b23,b26,tl⟩,tp,tc,⟨rfl,rfl,⟨p1,p2⟩,p3,t2⟩,aw rfl,t1⟩ _ ?_;simp only [over,cq,cF,aS,f10,e17,e20,e23,e26,e28]
  refine kA.cons (deps:=[(29,70)]) rfl rfl TcE (fun vs d w' h0 hC hF K1 hK1=>?_) trivial;have f29:=(hF (29,70) TcD).2;clear hF h0;simp only [over,cq,cF,aS] at f29 ⊢;obtain ⟨D,tp,tc,hd,e29,t1⟩:=f29;rw [e29];go_simp;refine hK1.o (.slice (some w'.heap.size) 1 1) _ ⟨hC.1.keep fun k hk=>cj _ _ _ Tex,hC.2.trans (G:=fun _=>False) (cR.of_below (ae _ _)) (fun _ f=>f.elim)⟩ (rS.alloc _ _ _) ⟨D,tp,tc,w'.heap.size,hd,aw rfl,dS.new hC.2.size,(ck.moves aF.moves).mv ⟨TcD,fun k hk h=>⟨h,cj _ _ _ hk⟩⟩ t1⟩ _ ?_;simp only [over,cq,cF,aS,e29]
 case fin =>
  intro vs d w' hC hF;have f30:=(hF (30,71) TcD).2;clear hF;simp only [over,cq,cF,aS,cQ,cL] at f30 ⊢;obtain ⟨D,tp,tc,b,hD,e30,hb,t1⟩:=f30;rw [e30];generalize vs 6=z6;generalize vs 8=z8;generalize vs 9=z9;generalize vs 10=z10;generalize vs 16=z16;generalize vs 17=z17;generalize vs 19=z19;generalize vs 20=z20;generalize vs 22=z22;generalize vs 23=z23;generalize vs 25=z25;generalize vs 26=z26;generalize vs 28=z28;generalize vs 29=z29;clear e30;have D2:=D1.read hC.1 hC.2;have hb2:=D2.Gj;have hz2:=hC.2.size;have RV:aO (fun b=>okD bb (.slice dp M ir) nv b/\b<w'.heap.size) w' [.string D.name,.int .u64 D.id,.int .i64 D.first,.int .i64 D.Gc,.bool D.closed,.bool D.missing,.slice tp D.tags.length tc] D:=⟨_,rfl,(ck.moves aF.moves).mv ⟨bk _,fun k hk h=>⟨⟨D1.okNew h,hk⟩,rfl⟩⟩ t1⟩
  have HO:bF aO 7 51 (bb+1) (fun b=>okD bb (.slice dp M ir) nv b/\b<w'.heap.size) w' (.slice dp M ir) Gb:=by
   obtain ⟨cs,ho,hf⟩:=D2.ownD;exact ⟨cs,ho,Flat.moves aO.moves ⟨bk _,fun k hk h=>⟨⟨h,hk⟩,rfl⟩⟩ _ _ hf⟩
  obtain ⟨i0,hi,hz0,hz1,hz3⟩:=cy Dp;refine dX aO.moves underlying27 hi hz0 hz1 hz3 rfl TcF TcF rfl _ _ TcI (bb+1) (fun b=>okD bb (.slice dp M ir) nv b/\b<w'.heap.size) (.slice dp M ir) Gb D TcI HO b 1 [.string D.name,.int .u64 D.id,.int .i64 D.first,.int .i64 D.Gc,.bool D.closed,.bool D.missing,.slice tp D.tags.length tc] TcI TcI RV TcQ (fun j y hy=>?_) TcC TcC (fun k e ho=>ho.1.2.1 e) (fun gb cap w3 hp=>?_)
  ·exact Tck
  obtain ⟨D3,hx⟩:=D2.pushD hp;have y7:w3.cell? (Tac bb 7)=some (.slice dp M ir):=by simp [World.cell?,hx,D2.blk]
  have yf:w3.frozen? (Tac bb 7)=false:=by simp [World.frozen?,hx,D2.blk]
  clear hp hx RV HO hi hz0 hz1 hz3 t1 hb Xu;simp only [aS];simp only [hM] at D3;go_wp2;exact HK.o _ D _ _ _ _ _ _ _ _ _ _ _ _ _ _ _ _ _ _ _ _ _ _ _ _ _ _ _ _ _ _ _ _ _ _ _ _ hD D3
theorem yj {next:List Int}(D0:vy bs bb id seq ext tags w0 tv dv nv Gb next w)(hn:next.length<=100)
  {c0 c1 c2 c4 c5 c6 c7 c8 c9 c10 c11 c12 c13 c14 c15 c16 c17 c18 c19 c20 c21 c22 c23 c24 c25 c26 c27 c28 c29 c30 c31 c32 c33 c34 c35 c36 c37 c38 c39 c40 c41 c42 c43 c44 c45 c46 c47 c48 c49 c50 c51 c52 c53 c54 c55 c56 c57 c58 c59 c60 c61 c62 c63 c64 c65 c66 c67 c68 c69 c70 c71 c72 c73 c74 c75 c76 c77 c78 c79 c80 c81 c82 c83 c84 c85 c86 c87 c88 c89 c90 c91 c92 c93 c94 c95 c96 c97 c98 c99 c100 c101 c102 c103 c104 c105 c106 c107 c108 c109 c110 c111 c112 c113 c114 c115 c116 c117 c118 c119 c120 c121 c122 c123 c124 c125 c126 c127 c128 c129 c130 c131 c132 c133 c134 c135 c136 c137 c138 c139 c140 c141 c142 c143 c144 c145 c146 c147 c148 c149 c150 c151 c152 c153 c154 c155 c156 c157 c158 c159 c160 c161 c162 c163 c164 c165 c166 c167 c168 c169 c170 c171 c172 c173 c174 c175 c176 c177 c178 c179 c180 c181:Value} (Q:Exit->Act->World->Prop)
  (HK:Hid (∀ (nv':Value) (w':World) (u76 u77 u78 u79 u80 u81 u82 u83 u84:Value),vy bs bb id seq ext tags w0 tv dv nv' Gb (next++[0]) w'->Q .normal ⟨#[c0,c1,c2,.pointer (some bb),c4,c5,c6,c7,c8,c9,c10,c11,c12,c13,c14,c15,c16,c17,c18,c19,c20,c21,c22,c23,c24,c25,c26,c27,c28,c29,c30,c31,c32,c33,c34,c35,c36,c37,c38,c39,c40,c41,c42,c43,c44,c45,c46,c47,c48,c49,c50,c51,c52,c53,c54,c55,c56,c57,c58,c59,c60,c61,c62,c63,c64,c65,c66,c67,c68,c69,c70,c71,c72,c73,c74,c75,u76,u77,u78,u79,u80,u81,u82,u83,u84,c85,c86,c87,c88,c89,c90,c91,c92,c93,c94,c95,c96,c97,c98,c99,c100,c101,c102,c103,c104,c105,c106,c107,c108,c109,c110,c111,c112,c113,c114,c115,c116,c117,c118,c119,c120,c121,c122,c123,c124,c125,c126,c127,c128,c129,c130,c131,c132,c133,c134,c135,c136,c137,c138,c139,c140,c141,c142,c143,c144,c145,c146,c147,c148,c149,c150,c151,c152,c153,c154,c155,c156,c157,c158,c159,c160,c161,c162,c163,c164,c165,c166,c167,c168,c169,c170,c171,c172,c173,c174,c175,c176,c177,c178,c179,c180,c181],[]⟩ w')) :
  Code.wp prog (nA 9) Q ⟨#[c0,c1,c2,.pointer (some bb),c4,c5,c6,c7,c8,c9,c10,c11,c12,c13,c14,c15,c16,c17,c18,c19,c20,c21,c22,c23,c24,c25,c26,c27,c28,c29,c30,c31,c32,c33,c34,c35,c36,c37,c38,c39,c40,c41,c42,c43,c44,c45,c46,c47,c48,c49,c50,c51,c52,c53,c54,c55,c56,c57,c58,c59,c60,c61,c62,c63,c64,c65,c66,c67,c68,c69,c70,c71,c72,c73,c74,c75,c76,c77,c78,c79,c80,c81,c82,c83,c84,c85,c86,c87,c88,c89,c90,c91,c92,c93,c94,c95,c96,c97,c98,c99,c100,c101,c102,c103,c104,c105,c106,c107,c108,c109,c110,c111,c112,c113,c114,c115,c116,c117,c118,c119,c120,c121,c122,c123,c124,c125,c126,c127,c128,c129,c130,c131,c132,c133,c134,c135,c136,c137,c138,c139,c140,c141,c142,c143,c144,c145,c146,c147,c148,c149,c150,c151,c152,c153,c154,c155,c156,c157,c158,c159,c160,c161,c162,c163,c164,c165,c166,c167,c168,c169,c170,c171,c172,c173,c174,c175,c176,c177,c178,c179,c180,c181],[]⟩ w:=by
 conv=>arg 2;whnf
 have hlt:=D0.lt;have cX:=D0.Gj;have hc:=cr D0.blk 10 _ rfl;have D1:=D0.below (ae w (.cells #[.int .i64 0] 3));have OS:bb<(w.alloc (.cells #[.int .i64 0] 3)).heap.size:=D1.Gj;obtain ⟨i0,hi,hz0,hz1,hz2⟩:=cy tZ;have HI:=aa hi;clear hi;have H0:=aa hz0;clear hz0;have H1:=aa hz1;clear hz1;have H2:=aa hz2;clear hz2;have HD1:=aa D1;clear D1;go_wp2_with (at_builtin;refine dX cO.moves underlying22 HI.o H0.o H1.o H2.o rfl TcF TcF rfl _ _ rfl (bb+1) (fun _=>False) nv next 0 rfl ?d1 w.heap.size 1 [.int .i64 0] rfl rfl ?d2 ?d3 ?d4 ?d5 ?d6 ?d7 ?_)
 case d1=>exact HD1.o.ownN.ownS _
 case d2=>exact rfl
 case d3=>simp [Value.oneCell']
 all_goals first | (case d4=>(intro j y hy;exact aD rfl TcX)) | (case d5=>omega) | (case d6=>omega) | (case d7=>exact fun _ _ f=>f) | skip
 intro gb cap w3 hp;obtain ⟨D3,hx⟩:=HD1.o.pushN hp;have y7:w3.cell? (Tac bb 10)=some nv:=by simp [World.cell?,hx,HD1.o.blk]
 have yf:w3.frozen? (Tac bb 10)=false:=by simp [World.frozen?,hx,HD1.o.blk]
 clear hp hx hc;go_wp2;exact HK.o _ _ _ _ _ _ _ _ _ _ _ D3
theorem Tc7 {p:Prop}(h:p:=by cases e):p:=h
theorem vy.bld {next:List Int}(h:vy bs bb id seq ext tags w0 tv dv nv Gb next w) :
  eW (fun _=>False) w bs bb nv (.slice none 0 0) ⟨vgT,id,seq,ext,0,tags,Gb,[],[]⟩ next:=by
 have gw:∀ b,okD bb dv nv b->okB (fun _=>False) bb nv (.slice none 0 0) b:=fun b q=>⟨q.1,q.2.2,fun e=>Tc7,fun f=>f⟩
 refine ⟨h.src,h.lt,⟨tv,dv,.slice none 0 0,h.blk,(ck.moves aF.moves).mv ⟨bk _,fun b _ q=>⟨gw b q,rfl⟩⟩ h.rt,h.ownD.rd aO.moves TcF (fun b _ q=>gw b q) (fun b e=>⟨(h.dLt e).1,h.ne b e,fun e=>Tc7,fun f=>f⟩),rfl,rfl⟩,h.ownN,⟨[],gS _ _ _ 6,rfl⟩,fun k _ e=>Tc7,fun _ f=>f.elim,fun _ _ f=>f,fun _ _ f=>f⟩
theorem Flat.last {α:Type}{V:jx α}{sz:Nat}{ok:Nat->Prop}{x:α}:∀ (l:List α) (cs:List Value),Flat V sz ok w cs (l++[x])->∃ c u,cs=c++u/\Flat V sz ok w c l/\u.length=sz/\V ok w u x
 | [],_,⟨u,r,e,h1,h2,_,h4⟩=>⟨[],u,by simp only [Flat] at h4;rw [e,h4];simp,rfl,h1,h2⟩
 | y :: l,_,⟨u,r,e,h1,h2,h3,h4⟩=>by
  obtain ⟨c,u',e',k1,k2,k3⟩:=Flat.last l r h4;exact ⟨u++c,u',by rw [e,e',cV],⟨u,c,rfl,h1,h2,h3,k1⟩,k2,k3⟩
theorem F5 (c:List Value)(a0 a1 a2 a3 a4 a5 b0 b1 b2 b3 b4 b5:Value)(n:Nat)(hn:c.length=n) :
  ((((((c++[a0,a1,a2,a3,a4,a5]).set n b0).set (n+1) b1).set (n+2) b2).set (n+3) b3).set (n+4) b4).set (n+5) b5=c++[b0,b1,b2,b3,b4,b5]:=by
 subst hn;simp [List.set_append_right]
def fO (w:World)(b o:Nat)(b0 b1 b2 b3 b4 b5:Value):World:=(((((w.setCell (b,o) b0).setCell (b,o+1) b1).setCell (b,o+2) b2).setCell (b,o+3) b3).setCell (b,o+4) b4).setCell (b,o+5) b5
theorem IV (w:World)(b o:Nat)(b0 b1 b2 b3 b4 b5:Value)(k:Nat)(h:k≠b):(fO w b o b0 b1 b2 b3 b4 b5).heap[k]?=w.heap[k]?:=by
 unfold fO;rw [bw _ _ _ _ h,bw _ _ _ _ h,bw _ _ _ _ h,bw _ _ _ _ h,bw _ _ _ _ h,bw _ _ _ _ h]
theorem sD (w:World)(b o:Nat)(b0 b1 b2 b3 b4 b5:Value):(fO w b o b0 b1 b2 b3 b4 b5).heap.size=w.heap.size:=by simp [fO,World.setCell]
theorem Teu {p:Prop}(h:p:=by simp [fO,World.setCell]):p:=h
theorem aH.setLast {X:Nat->Prop}{rK rN:Value}{next:List Int}{vs:List ay}{v V:ay}{vb vc:Nat}{b0 b1 b2 b3 b4 b5:Value}
  (p:aH X bs bb rK rN w0 w nv (.slice (some vb) (vs.length+1) vc) g next) (hg:g.F9=vs++[v]) (hV:aN (okB X bb nv (.slice (some vb) (vs.length+1) vc)) w [b0,b1,b2,b3,b4,b5] V) (h1:∀ z∈[b0,b1,b2,b3,b4,b5],z.oneCell'=true) :
  aH X bs bb rK rN w0 (fO w vb (vs.length*6) b0 b1 b2 b3 b4 b5) nv (.slice (some vb) (vs.length+1) vc) { g with F9:=vs++[V] } next:=by
 have h:=p.bld;have XV:=h.vLt (k:=vb) rfl;have hl:=h.lt;have kk:=fun k e=>IV w vb (vs.length*6) b0 b1 b2 b3 b4 b5 k e;have hz:=sD w vb (vs.length*6) b0 b1 b2 b3 b4 b5;have hm:Mv (okB X bb nv (.slice (some vb) (vs.length+1) vc)) (okB X bb nv (.slice (some vb) (vs.length+1) vc)) w (fO w vb (vs.length*6) b0 b1 b2 b3 b4 b5):=⟨TcC,fun b _ ho=>⟨ho,kk b (fun e=>ho.2.2.1 (by rw [e];rfl))⟩⟩
 refine ⟨⟨h.src.keep fun i hi=>kk i TcC,hl,?_,aC h.ownN fun k e=>kk k (fun q=>h.ne k e (by rw [q];rfl)),?_,h.ne,fun k hx=>⟨(h.xlt k hx).1,by rw [hz];exact (h.xlt k hx).2⟩,h.xn,h.xv⟩,?_,p.nfr,p.vfr⟩
 ·obtain ⟨tv,dv,hv,e,h1,h2,h3⟩:=h.blk;exact ⟨tv,dv,hv,(kk bb TcC).trans e,(ck.moves aF.moves).mv hm h1,(ck.moves aO.moves).mv hm h2,h3⟩
 ·obtain ⟨cs,ho,hf⟩:=h.ownV;rw [hg] at ho hf;obtain ⟨c,u,rfl,hc,hu,_⟩:=Flat.last vs cs hf;have hcl:=Flat.length _ _ hc;obtain ⟨a0,a1,a2,a3,a4,a5,rfl⟩:∃ a0 a1 a2 a3 a4 a5,u=[a0,a1,a2,a3,a4,a5]:=by
   match u,hu with
   | [a,b,c,d,e,f],_=>exact ⟨a,b,c,d,e,f,rfl⟩
  have hle:(vs++[v]).length=vs.length+1:=by simp
  have hle':(vs++[V]).length=vs.length+1:=by simp
  rw [hle] at ho;have s:=(((((((ho.stored (vs.length*6) b0).1.stored (vs.length*6+1) b1).1.stored (vs.length*6+2) b2).1.stored (vs.length*6+3) b3).1.stored (vs.length*6+4) b4).1.stored (vs.length*6+5) b5)).1;rw [F5 c _ _ _ _ _ _ _ _ _ _ _ _ _ hcl] at s;refine ⟨c++[b0,b1,b2,b3,b4,b5],by rw [hle'];unfold fO;exact s,Flat.append (Flat.one rfl (aN.moves.mv hm hV) h1) _ _ (Flat.moves aN.moves hm _ _ hc)⟩
 refine p.mod.trans (G:=fun k=>k=vb) ⟨Teu,Teu,Teu,TcC,fun k _ e=>kk k e⟩ (fun k e=>?_);subst e;rcases p.vfr k rfl with q | q
 ·exact .inl (.inr (.inr (.inr q)))
 exact .inr q
def Mm (bb:Nat)(hv:Value):Nat->Prop:=fun b=>bb<b/\hv.ownBlock≠some b
structure HSt (bs bb:Nat)(w0:World)(g:af)(tv dv vv nv hv:Value)(hist:List (ByteArray × Int × Int))(w:World):Prop where
 lt:bs<bb
 src:Src w bs
 blk:w.heap[bb]?=some (.cells (TaJ (some ⟨bs,0,none⟩) g tv dv vv hv nv) 60 (0,0))
 rt:ck aF 1 (Mm bb hv) w [tv] g.tags
 rd:ck aO 7 (Mm bb hv) w [dv] g.Gb
 rv:ck aN 6 (Mm bb hv) w [vv] g.F9
 own:bF lF 3 73 (bb+1) (Mm bb hv) w hv hist
 old:∀ k,k<bb->k≠bs->w.heap[k]?=w0.heap[k]?
 str:Str w0 w
theorem eW.hst {vv:Value}{next:List Int}(h:eW (fun _=>False) w bs bb nv vv g next)(old:∀ k,k<bb->k≠bs->w.heap[k]?=w0.heap[k]?)(str:Str w0 w):∃ tv dv,HSt bs bb w0 g tv dv vv nv (.slice none 0 0) [] w:=by
 obtain ⟨tv,dv,hv,e,h1,h2,rfl,_⟩:=h.blk;have hm:Mv (okB (fun _=>False) bb nv vv) (Mm bb (.slice none 0 0)) w w:=⟨bk _,fun b _ q=>⟨⟨q.1,fun e=>Tc7⟩,rfl⟩⟩
 exact ⟨tv,dv,h.lt,h.src,e,(ck.moves aF.moves).mv hm h1,(ck.moves aO.moves).mv hm h2,h.ownV.rd aN.moves TcF (fun b _ q=>⟨q.1,fun e=>Tc7⟩) (fun b e=>⟨(h.vLt e).1,fun e=>Tc7⟩),⟨[],gS _ _ _ 3,rfl⟩,old,str⟩
section
variable {bs bb:Nat}{w0 w w' w2:World}{g:af}{tv dv vv nv hv:Value}{hist:List (ByteArray × Int × Int)}
theorem HSt.Gj (h:HSt bs bb w0 g tv dv vv nv hv hist w):bb<w.heap.size:=aq h.blk
theorem HSt.hLt (h:HSt bs bb w0 g tv dv vv nv hv hist w){k:Nat}(e:hv.ownBlock=some k):bb<k/\k<w.heap.size:=by
 have:=h.own.ge0 e;omega
theorem HSt.keep (h:HSt bs bb w0 g tv dv vv nv hv hist w)(hst:Str w w')(hs:Src w' bs)(hz:w.heap.size<=w'.heap.size)(hk:∀ k,k<w.heap.size->k≠bs->w'.heap[k]?=w.heap[k]?):HSt bs bb w0 g tv dv vv nv hv hist w':=by
 have hl:=h.lt;have hb:=h.Gj;have hm:Mv (Mm bb hv) (Mm bb hv) w w':=⟨hz,fun b hb ho=>⟨ho,hk b hb Tdj⟩⟩;refine ⟨hl,hs,(hk bb hb TcC).trans h.blk,(ck.moves aF.moves).mv hm h.rt,(ck.moves aO.moves).mv hm h.rd,(ck.moves aN.moves).mv hm h.rv,?_,fun k h1 h2=>(hk k TcC h2).trans (h.old k h1 h2),h.str.trans hst⟩;have mb:=fun k e=>h.hLt (k:=k) e;obtain ⟨cs,ho,hf⟩:=h.own;exact ⟨cs,aC ho fun k e=>hk k (mb k e).2 Tew,Flat.moves lF.moves hm _ _ hf⟩
theorem HSt.read (h:HSt bs bb w0 g tv dv vv nv hv hist w)(hs:Src w' bs)(hm:cR (fun i=>i=bs) w w'):HSt bs bb w0 g tv dv vv nv hv hist w':=h.keep hm.str hs hm.size fun k hk hn=>hm.block k hk hn
theorem HSt.below (h:HSt bs bb w0 g tv dv vv nv hv hist w)(hb:Below w.heap.size w w'):HSt bs bb w0 g tv dv vv nv hv hist w' :=
 h.keep (ow hb) (h.src.keep fun i hi=>hb.block i Tep) hb.size fun k hk _=>hb.block k hk
theorem HSt.push {x:ByteArray × Int × Int}{u:List Value}{gb cap:Nat}(h:HSt bs bb w0 g tv dv vv nv hv hist w)
  (hp:jN lF 3 73 (bb+1) (fun _=>False) w hv hist x u gb cap w2) :
  HSt bs bb w0 g tv dv vv nv (.slice (some gb) (hist.length+1) cap) (hist++[x]) (w2.setCell (Tac bb 9) (.slice (some gb) (hist.length+1) cap))/\w2.heap[bb]?=w.heap[bb]?:=by
 have hl:=h.lt;have hb:=h.Gj;have hz:=hp.grown.size;have kw:∀ k,k<w.heap.size->hv.ownBlock≠some k->w2.heap[k]?=w.heap[k]?:=fun k h1 h2=>hp.grown.block k h1 fun e=>h2 e.symm;have pC:w2.heap[bb]?=w.heap[bb]?:=kw bb hb fun e=>by have:=h.hLt e;omega
 have kk:∀ k,k≠bb->(w2.setCell (Tac bb 9) (.slice (some gb) (hist.length+1) cap)).heap[k]?=w2.heap[k]?:=fun k e=>bw _ _ _ _ e;have hzz:(w2.setCell (Tac bb 9) (.slice (some gb) (hist.length+1) cap)).heap.size=w2.heap.size:=by simp [World.setCell]
 have OH:∀ b,Mm bb hv b->b<w.heap.size->b≠gb:=fun b h1 h2 e=>by
  subst e;rcases hp.at' with q | q
  ·exact h1.2 q
  omega
 have old:∀ k,k<bb->(w2.setCell (Tac bb 9) (.slice (some gb) (hist.length+1) cap)).heap[k]?=w.heap[k]?:=fun k hk=>(kk k TcC).trans (kw k TcC fun e=>by have:=h.hLt e;omega);have hm:Mv (Mm bb hv) (Mm bb (.slice (some gb) (hist.length+1) cap)) w (w2.setCell (Tac bb 9) (.slice (some gb) (hist.length+1) cap)):=⟨TcC,fun b h1 h2=>⟨⟨h2.1,fun e=>OH b h2 h1 Tel⟩,(kk b (by have:=h2.1;omega)).trans (kw b h1 h2.2)⟩⟩
 refine ⟨⟨hl,h.src.keep fun i hi=>old i TcC,?_,(ck.moves aF.moves).mv hm h.rt,(ck.moves aO.moves).mv hm h.rd,(ck.moves aN.moves).mv hm h.rv,?_,fun k h1 h2=>(old k h1).trans (h.old k h1 h2),(h.str.trans (nQ hp.grown)).trans ⟨rfl,rfl,rfl⟩⟩,pC⟩
 ·exact block_setCell (i:=9) _ (pC.trans h.blk)
 obtain ⟨cs,ho,hf⟩:=hp.own;exact ⟨cs,aC ho fun k e=>kk k Teq,Flat.moves lF.moves ⟨TcC,fun b _ f=>f.elim⟩ _ _ hf⟩
end
variable {c i:Nat}{g0 g g':af}{n0 next':List Int}{name:ByteArray}{w:World}
def letter (i:Nat):ByteArray:=⟨#[(97+i).toUInt8]⟩
inductive iy (name:ByteArray)(g:af)(next:List Int):af->List Int->Prop
 | linF:iy name g next { g with next:=g.next+1 } next
 | lin {n s:Int} {on:ByteArray} {next1 next':List Int} {Gf:List aB} {ps:List (ByteArray × Int × Int)} (hn:1<=n/\n<=4) (h1:fZ g.Gb next [(on,s,n)] next1) (hm:fB [dE n on s] Gf) (hl:Gf.length<=3) (h2:fZ g.Gb next1 ps next') (hs:List.Sublist ((Gf.drop 1).flatMap iG) ps) :
   iy name g next { g with next:=g.next+1,F9:=g.F9++[⟨name,oX g.id (g.next+1),false,false,[],Gf⟩] } next'
 | strF {ps:List (ByteArray × Int × Int)} {next':List Int} (h:fZ g.Gb next ps next'):iy name g next g next'
 | str {k n:Int} {al:List aR} {next':List Int} (hk:2<=k/\k<=3) (hn:1<=n/\n<=2) (hl:(al.length:Int)=k) (ha:∀ a∈al,a.vol=false) (h:fZ g.Gb next (UO n al) next') :
   iy name g next { g with next:=g.next+1,F9:=g.F9++[mf name (oX g.id (g.next+1)) k n al] } next'
 | compF {j:Nat} (h:j<=8):iy name g next { g with next:=g.next+j } next
 | comp {kind n:Int} {names:List ByteArray} {lengths:List Int} {x:aB} {ps:List (ByteArray × Int × Int)} {vl tl:List ay} {ro:Bool} {tags:List ByteArray} {k j:Nat} {next':List Int} (AK:kind=3\/kind=4\/kind=5\/kind=7) (hn:1<=n/\n<=3) (hR:ik g.Gd n name kind names lengths x)
   (hH:lD g.id g.next names lengths ps vl) (hT:fZ g.Gb next ps next') (ht:List.Sublist tags iQ) (hk:k<=2) (hk5:kind≠5->k=j/\k=0) (Mf:iO g.id name k (g.next+names.length+1+1) j tl) :
   iy name g next { g with next:=g.next+names.length+1+tl.length,F9:=g.F9++vl++[⟨name,oX g.id (g.next+names.length+1),false,ro,tags,[x]⟩]++tl } next'
inductive bZ (c:Nat)(g0:af)(n0:List Int):Nat->af->List Int->Prop
 | nil:bZ c g0 n0 c g0 n0
 | step {i:Nat} {g g':af} {next next':List Int} (h:bZ c g0 n0 (i+1) g next) (hs:iy (letter (i+1)) g next g' next'):bZ c g0 n0 i g' next'
theorem bZ.next {next:List Int}(hi:0<i)(h:bZ c g0 n0 i g next)(hs:iy (letter i) g next g' next'):bZ c g0 n0 (i - 1) g' next':=by
 obtain ⟨j,rfl⟩:∃ j,i=j+1:=⟨i - 1,TcC⟩;exact .step h hs
theorem iO.len {id:Int}{k:Nat}{c:Int}{j:Nat}{tl:List ay}(h:iO id name k c j tl):tl.length+j=k:=by
 induction h with
 | nil=>simp
 | snoc _ _ ih=>simp;omega
structure Fh (g:af)(next:List Int)(g':af)(next':List Int):Prop where
 same:g'.name=g.name/\g'.id=g.id/\g'.seq=g.seq/\g'.Gd=g.Gd/\g'.tags=g.tags/\g'.Gb=g.Gb/\g'.history=g.history
 F9:g'.F9.length<=g.F9.length+11
 nx1:g.next<=g'.next
 nx2:g'.next<=g.next+11
 dk:DOk g.Gb next->DOk g.Gb next'
theorem TcJ {p:Prop}(h:p:=by dsimp only;omega):p:=h
theorem iy.bd {next:List Int}(h:iy name g next g' next')(he:1<=g.Gd/\g.Gd<=16):Fh g next g' next':=by
 cases h with
 | linF=>exact ⟨⟨rfl,rfl,rfl,rfl,rfl,rfl,rfl⟩,TcD,TcJ,TcJ,fun q=>q⟩
 | lin hn h1 hm hl h2 hs=>exact ⟨⟨rfl,rfl,rfl,rfl,rfl,rfl,rfl⟩,TcD,TcJ,TcJ,fun q=>h2.ok (h1.ok q)⟩
 | strF h=>exact ⟨⟨rfl,rfl,rfl,rfl,rfl,rfl,rfl⟩,TcC,TcC,TcC,fun q=>h.ok q⟩
 | str hk hn hl ha h=>exact ⟨⟨rfl,rfl,rfl,rfl,rfl,rfl,rfl⟩,TcD,TcJ,TcJ,fun q=>h.ok q⟩
 | compF h=>exact ⟨⟨rfl,rfl,rfl,rfl,rfl,rfl,rfl⟩,TcD,TcJ,TcJ,fun q=>q⟩
 | comp AK hn hR hH hT ht hk hk5 Mf =>
  have h1:=hR.ok he.1 he.2 hn.1 hn.2;have h2:=hH.len;have h3:=Mf.len;exact ⟨⟨rfl,rfl,rfl,rfl,rfl,rfl,rfl⟩,TcH,TcJ,TcJ,fun q=>hT.ok q⟩
structure Zy (c i:Nat)(g0:af)(g:af)(next:List Int):Prop where
 same:g.name=g0.name/\g.id=g0.id/\g.seq=g0.seq/\g.Gd=g0.Gd/\g.tags=g0.tags/\g.Gb=g0.Gb/\g.history=g0.history
 le:i<=c
 F9:g.F9.length<=11*(c - i)
 nx1:0<=g.next
 nx2:g.next<=11*((c:Int) - i)
 dk:DOk g0.Gb next
theorem bZ.bd (h0:g0.F9=[]/\g0.next=0)(he:1<=g0.Gd/\g0.Gd<=16)(hd:DOk g0.Gb n0){next:List Int}(h:bZ c g0 n0 i g next):Zy c i g0 g next:=by
 induction h with
 | nil=>exact ⟨⟨rfl,rfl,rfl,rfl,rfl,rfl,rfl⟩,bk _,by simp [h0.1],TcC,TcC,hd⟩
 | @step i g g' next next' h hs ih =>
  obtain ⟨e1,e2,e3,e4,e5,e6,e7⟩:=ih.same;have b:=hs.bd (by rw [e4];exact he);obtain ⟨q1,q2,q3,q4,q5,q6,q7⟩:=b.same;have h1:=ih.le;have h2:=ih.F9;have h3:=ih.nx1;have h4:=ih.nx2;have h5:=b.F9;have h6:=b.nx1;have h7:=b.nx2;exact ⟨⟨q1.trans e1,q2.trans e2,q3.trans e3,q4.trans e4,q5.trans e5,q6.trans e6,q7.trans e7⟩,TcC,TcC,TcC,TcC,e6 ▸ b.dk (e6.symm ▸ ih.dk)⟩
theorem tY {ok ok':Nat->Prop}:∀ (l:List (ByteArray × Int × Int)) (cs:List Value),Flat lF 3 ok w cs l->Flat lF 3 ok' w cs l
 | [],_,h=>h
 | _ :: l,_,⟨u,r,e,h1,h2,h3,h4⟩=>⟨u,r,e,h1,h2,h3,tY l r h4⟩
theorem Ef:(prog.info? 73).map (fun i=>(i.zero,i.size,i.bytes))=some (some (.agg #[.string ⟨#[]⟩,.int .u64 0,.int .i64 0]),3,32):=by kernel_rfl
theorem wG {bs bb:Nat}{w0:World}{tv dv vv nv hv:Value}{hist:List (ByteArray × Int × Int)}(D0:HSt bs bb w0 g tv dv vv nv hv hist w)(hn:hist.length<=100)(hi2:i<=2)
  {c0 c1 c2 c4 c5 c6 c7 c8 c9 c10 c12 c13 c14 c15 c16 c17 c18 c19 c20 c21 c22 c23 c24 c25 c26 c27 c28 c29 c30 c31 c32 c33 c34 c35 c36 c37 c38 c39 c40 c41 c42 c43 c44 c45 c46 c47 c48 c49 c50 c51 c52 c53 c54 c55 c56 c57 c58 c59 c60 c61 c62 c63 c64 c65 c66 c67 c68 c69 c70 c71 c72 c73 c74 c75 c76 c77 c78 c79 c80 c81 c82 c83 c84 c85 c86 c87 c88 c89 c90 c91 c92 c93 c94 c95 c96 c97 c98 c99 c100 c101 c102 c103 c104 c105 c106 c107 c108 c109 c110 c111 c112 c113 c114 c115 c116 c117 c118 c119 c120 c121 c122 c123 c124 c125 c126 c127 c128 c129 c130 c131 c132 c133 c134 c135 c136 c137 c138 c139 c140 c141 c142 c143 c144 c145 c146 c147 c148 c149 c150 c151 c152 c153 c154 c155 c156 c157 c158 c159 c160 c161 c162 c163 c164 c165 c166 c167 c168 c169 c170 c171 c172 c173 c174 c175 c176 c177 c178 c179 c180 c181:Value} (Q:Exit->Act->World->Prop)
  (HK:Hid (∀ (hv':Value) (w':World) (u163 u164 u165 u166 u167 u168 u169 u170 u171 u172 u173 u174 u175 u176 u177:Value),HSt bs bb w0 g tv dv vv nv hv' (hist++[(BQ,(i:Int),(i:Int))]) w'->Q .normal ⟨#[c0,c1,c2,.pointer (some bb),c4,c5,c6,c7,c8,c9,c10,.int .i64 (i:Int),c12,c13,c14,c15,c16,c17,c18,c19,c20,c21,c22,c23,c24,c25,c26,c27,c28,c29,c30,c31,c32,c33,c34,c35,c36,c37,c38,c39,c40,c41,c42,c43,c44,c45,c46,c47,c48,c49,c50,c51,c52,c53,c54,c55,c56,c57,c58,c59,c60,c61,c62,c63,c64,c65,c66,c67,c68,c69,c70,c71,c72,c73,c74,c75,c76,c77,c78,c79,c80,c81,c82,c83,c84,c85,c86,c87,c88,c89,c90,c91,c92,c93,c94,c95,c96,c97,c98,c99,c100,c101,c102,c103,c104,c105,c106,c107,c108,c109,c110,c111,c112,c113,c114,c115,c116,c117,c118,c119,c120,c121,c122,c123,c124,c125,c126,c127,c128,c129,c130,c131,c132,c133,c134,c135,c136,c137,c138,c139,c140,c141,c142,c143,c144,c145,c146,c147,c148,c149,c150,c151,c152,c153,c154,c155,c156,c157,c158,c159,c160,c161,c162,u163,u164,u165,u166,u167,u168,u169,u170,u171,u172,u173,u174,u175,u176,u177,c178,c179,c180,c181],[]⟩ w')) :
  Code.wp prog (nA 25) Q ⟨#[c0,c1,c2,.pointer (some bb),c4,c5,c6,c7,c8,c9,c10,.int .i64 (i:Int),c12,c13,c14,c15,c16,c17,c18,c19,c20,c21,c22,c23,c24,c25,c26,c27,c28,c29,c30,c31,c32,c33,c34,c35,c36,c37,c38,c39,c40,c41,c42,c43,c44,c45,c46,c47,c48,c49,c50,c51,c52,c53,c54,c55,c56,c57,c58,c59,c60,c61,c62,c63,c64,c65,c66,c67,c68,c69,c70,c71,c72,c73,c74,c75,c76,c77,c78,c79,c80,c81,c82,c83,c84,c85,c86,c87,c88,c89,c90,c91,c92,c93,c94,c95,c96,c97,c98,c99,c100,c101,c102,c103,c104,c105,c106,c107,c108,c109,c110,c111,c112,c113,c114,c115,c116,c117,c118,c119,c120,c121,c122,c123,c124,c125,c126,c127,c128,c129,c130,c131,c132,c133,c134,c135,c136,c137,c138,c139,c140,c141,c142,c143,c144,c145,c146,c147,c148,c149,c150,c151,c152,c153,c154,c155,c156,c157,c158,c159,c160,c161,c162,c163,c164,c165,c166,c167,c168,c169,c170,c171,c172,c173,c174,c175,c176,c177,c178,c179,c180,c181],[]⟩ w:=by
 conv=>arg 2;whnf
 have hlt:=D0.lt;have cX:=D0.Gj;have hc:=cr D0.blk 9 _ rfl;have hw2:IntKind.u64.wrap (i:Int)=(i:Int):=IntWalk.u64_in _ TcC;have D1:=D0.below (ae w (.cells #[.string ⟨#[111,108,100]⟩,.int .u64 (i:Int),.int .i64 (i:Int)] 73));have OS:bb<(w.alloc (.cells #[.string ⟨#[111,108,100]⟩,.int .u64 (i:Int),.int .i64 (i:Int)] 73)).heap.size:=D1.Gj;obtain ⟨i0,hi,hz0,hz1,hz2⟩:=cy Ef;have HI:=aa hi;clear hi;have H0:=aa hz0;clear hz0;have H1:=aa hz1;clear hz1;have H2:=aa hz2;clear hz2;have HD1:=aa D1;clear D1;go_wp2_with (at_builtin;refine dX lF.moves underlying29 HI.o H0.o H1.o H2.o rfl TcF TcF rfl _ _ rfl (bb+1) (fun _=>False) hv hist (BQ,(i:Int),(i:Int)) rfl ?d1 w.heap.size 1 [.string ⟨#[111,108,100]⟩,.int .u64 (i:Int),.int .i64 (i:Int)] rfl rfl ?d2 ?d3 ?d4 ?d5 ?d6 ?d7 ?_)
 case d1 =>
  obtain ⟨cs,ho,hf⟩:=HD1.o.own;exact ⟨cs,ho,tY _ _ hf⟩
 case d2=>exact rfl
 case d3=>simp [Value.oneCell']
 all_goals first | (case d4=>(intro j y hy;exact aD rfl TcX)) | (case d5=>omega) | (case d6=>omega) | (case d7=>exact fun _ _ f=>f) | skip
 intro gb cap w3 hp;obtain ⟨D3,hx⟩:=HD1.o.push hp;have y7:w3.cell? (Tac bb 9)=some hv:=by simp [World.cell?,hx,HD1.o.blk]
 have yf:w3.frozen? (Tac bb 9)=false:=by simp [World.frozen?,hx,HD1.o.blk]
 clear hp hx hc;go_wp2;exact HK.o _ _ _ _ _ _ _ _ _ _ _ _ _ _ _ _ _ D3
end Go.Proofs.YtaagglbgohjldaaGreatDoor
