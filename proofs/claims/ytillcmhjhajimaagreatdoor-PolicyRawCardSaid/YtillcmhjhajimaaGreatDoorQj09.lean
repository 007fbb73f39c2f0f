/- Lemmas: MkSa, MkSb, MkSc, MkS. -/
import Derived.Test.YtillcmhjhajimaaGreatDoorQj08
set_option maxRecDepth 100000
set_option maxHeartbeats 32000000
set_option linter.all false
namespace Go.Proofs.YtillcmhjhajimaaGreatDoor
open Go.Proofs.Tryz
open Go.RowKit
variable {bs bb:Nat}{id seq:Int}{tags:List ByteArray}{w0 w:World}{tv dv nv:Value}{Gb:List az}{g:af}
noncomputable def nA(n:Nat):Code:=((Tryz.f6.body.bind (kX n)).getD .skip)
theorem Dp:(prog.info? 39).map (fun i=>(i.zero,i.size,i.bytes))=some (some (.agg Tak),7,72):=by kernel_rfl
def Tah(x0:az)(x1:Option Addr)(x2:Nat):Tab #[.string x0.name,.int .u64 x0.id,.int .i64 x0.first,.int .i64 x0.Gc,.bool x0.closed,.bool x0.missing,.slice x1 x0.tags.length x2]:=⟨⟩
theorem Tea{p:Prop}(h:p:=by show ¬k=bs;omega):p:=h
theorem Ta6{p:Prop}(h:p:=by
 clear hF h0;simp only[over,cq,Act.put];go_simp;refine(bY bs 8 w' TcN TcN hC.1).mono ?_;rintro e w3 ⟨v,rfl,hv1,hv2,hs,hm⟩;refine hK1.o (.int .i64 v) w3 ⟨hs,hC.2.trans hm fun _ h=>.inl h⟩ ⟨hm.size,fun k h1 h2=>hm.block k h2 Tea⟩ (⟨v,aw rfl⟩) _ ?_;simp only[over,cq,aS]):p:=h
theorem Tey{p:Prop}(h:p:=by have:=hC.2.size;omega):p:=h
theorem yY{M:Nat}{ext:Int}{next:List Int}(D0:vy bs bb id seq ext tags w0 tv dv nv Gb next w)(hM:Gb.length=M)(hM3:M<=3)
  (c1 c2 c5 c7 c8 c9 c10 c11 c12 c13 c14 c15 c16 c17 c18 c19 c20 c21 c22 c23 c24 c25 c26 c27 c28 c29 c30 c31 c32 c33 c34 c35 c36 c37 c38 c39 c40 c41 c42 c43 c44 c45 c46 c47 c48 c49 c50 c51 c52 c53 c54 c55 c56 c57 c58 c59 c60 c61 c62 c63 c64 c65 c66 c67 c68 c69 c70 c71 c72 c73 c74 c75 c76 c77 c78 c79 c80 c81 c82 c83 c84 c85 c86 c87 c88 c89 c90 c91 c92 c93 c94 c95 c96 c97 c98 c99 c100 c101 c102 c103 c104 c105 c106 c107 c108 c109 c110 c111 c112 c113 c114 c115 c116 c117 c118 c119 c120 c121 c122 c123 c124 c125 c126 c127 c128 c129 c130 c131 c132 c133 c134 c135 c136 c137 c138 c139 c140 c141 c142 c143 c144 c145 c146 c147 c148 c149 c150 c151 c152 c153 c154 c155 c156 c157 c158 c159 c160 c161 c162 c163 c164 c165 c166 c167 c168 c169 c170 c171 c172 c173 c174 c175 c176 c177 c178 c179 c180 c181:Value) (K:Act->World->Prop) (Q:Exit->Act->World->Prop) (hQ':∀c (a:Act) (t t':Array Value) w,Q (.panic c) { a with tmps:=t } w->Q (.panic c) { a with tmps:=t' } w)
  (HK:Hid (∀(Xs:Value) (D:az) (w':World) (u41 u42 u43 u44 u45 u46 u47 u48 u49 u50 u51 u52 u53 u54 u55 u56 u57 u58 u59 u60 u61 u62 u63 u64 u65 u66 u67 u68 u69 u70 u71 u72 u73 u74 u75:Value),rH M D->vy bs bb id seq ext tags w0 tv Xs nv (Gb++[D]) next w'->K ⟨#[.pointer (some bs),c1,c2,.pointer (some bb),.int .i64 8,c5,.int .i64 (M:Int),c7,c8,c9,c10,c11,c12,c13,c14,c15,c16,c17,c18,c19,c20,c21,c22,c23,c24,c25,c26,c27,c28,c29,c30,c31,c32,c33,c34,c35,c36,c37,c38,c39,c40,u41,u42,u43,u44,u45,u46,u47,u48,u49,u50,u51,u52,u53,u54,u55,u56,u57,u58,u59,u60,u61,u62,u63,u64,u65,u66,u67,u68,u69,u70,u71,u72,u73,u74,u75,c76,c77,c78,c79,c80,c81,c82,c83,c84,c85,c86,c87,c88,c89,c90,c91,c92,c93,c94,c95,c96,c97,c98,c99,c100,c101,c102,c103,c104,c105,c106,c107,c108,c109,c110,c111,c112,c113,c114,c115,c116,c117,c118,c119,c120,c121,c122,c123,c124,c125,c126,c127,c128,c129,c130,c131,c132,c133,c134,c135,c136,c137,c138,c139,c140,c141,c142,c143,c144,c145,c146,c147,c148,c149,c150,c151,c152,c153,c154,c155,c156,c157,c158,c159,c160,c161,c162,c163,c164,c165,c166,c167,c168,c169,c170,c171,c172,c173,c174,c175,c176,c177,c178,c179,c180,c181],[]⟩ w')) :
  Code.wp prog (nA 8) (Exit.then K Q) ⟨#[.pointer (some bs),c1,c2,.pointer (some bb),.int .i64 8,c5,.int .i64 (M:Int),c7,c8,c9,c10,c11,c12,c13,c14,c15,c16,c17,c18,c19,c20,c21,c22,c23,c24,c25,c26,c27,c28,c29,c30,c31,c32,c33,c34,c35,c36,c37,c38,c39,c40,c41,c42,c43,c44,c45,c46,c47,c48,c49,c50,c51,c52,c53,c54,c55,c56,c57,c58,c59,c60,c61,c62,c63,c64,c65,c66,c67,c68,c69,c70,c71,c72,c73,c74,c75,c76,c77,c78,c79,c80,c81,c82,c83,c84,c85,c86,c87,c88,c89,c90,c91,c92,c93,c94,c95,c96,c97,c98,c99,c100,c101,c102,c103,c104,c105,c106,c107,c108,c109,c110,c111,c112,c113,c114,c115,c116,c117,c118,c119,c120,c121,c122,c123,c124,c125,c126,c127,c128,c129,c130,c131,c132,c133,c134,c135,c136,c137,c138,c139,c140,c141,c142,c143,c144,c145,c146,c147,c148,c149,c150,c151,c152,c153,c154,c155,c156,c157,c158,c159,c160,c161,c162,c163,c164,c165,c166,c167,c168,c169,c170,c171,c172,c173,c174,c175,c176,c177,c178,c179,c180,c181],[]⟩ w:=by
 have hQ:∀c (a:Act) (d:Tmp) (v:Value) w,Q (.panic c) (a.put (some d) v) w->Q (.panic c) a w:=fun c a d v w h=>hQ' c a _ _ w h;conv=>arg 2;whnf
 have hlt:=D0.lt;have cX:=D0.Gj;have hw1:IntKind.i64.wrap ((M:Int)+1)=(M:Int)+1:=dy _ TcN;have hw2:IntKind.u64.wrap ((M:Int)+1)=(M:Int)+1:=IntWalk.u64_in _ TcN;obtain⟨dp,ir,Xt,hd1,hd2⟩:∃p c,dv=.slice p M c/\M<=c/\c<=9223372036854775807:=by
  obtain⟨p,c,e,h1,h2,_⟩:=D0.ownD.rd aO.moves TcQ (ok':=fun _=>True) (fun _ _ _=>trivial) (fun _ _=>trivial);rw[hM]at e h1;exact⟨p,c,by injection e,h1,h2⟩
 subst Xt;have z1:(0:Int)<=(M:Int):=by omega
 have z2:(M:Int)<4:=by omega
 have hc7:=cr D0.blk 7 _ rfl;refine aZ (fun w'=>w'.cell? (Tac bb 7)=some (.slice dp M ir)) 31 [0,1,2,3,4,7,11,12,13,14,15,18,21,24,27] TcP hc7 (fun hHeld=>?_);refine gC hQ 0 ?_;refine gC hQ 1 ?_;refine gC hQ 2 ?_;refine gC hQ 3 ?_;refine gC hQ 4 ?_;refine gC hQ 7 ?_;refine gC hQ 11 ?_;refine gC hQ 12 ?_;refine gC hQ 13 ?_;refine gC hQ 14 ?_;refine gC hQ 15 ?_;refine gC hQ 18 ?_;refine gC hQ 21 ?_;refine gC hQ 24 ?_;refine gC hQ 27 ?_;refine cH hQ 5 hHeld ?_;have D1:=D0.below ((bj _ _).drew);have mA:w.drew.heap.size=w.heap.size:=rfl;have Xu:w.drew.cell? (Tac bb 7)=some (.slice dp M ir):=hc7;generalize hwd:w.drew=wd at *;clear hwd hc7 hHeld hw1 hw2 D0;have pB:=D1.Gj;refine fE (idx:=[(6,47),(8,49),(9,50),(10,51),(16,57),(17,58),(19,60),(20,61),(22,63),(23,64),(25,66),(26,67),(28,69),(29,70),(30,71)]) (fun i=>[i])
  (fun i vs w'=>match i with
   |6=>∃b,vs 6=.slice (some ⟨b,0,none⟩) 4 4/\dS wd.heap.size 9 [.string ⟨#[48]⟩,.string ⟨#[49]⟩,.string ⟨#[50]⟩,.string ⟨#[51]⟩] b w'
   |8=>∃b,vs 8=.pointer (some ⟨b,M,none⟩)/\dS wd.heap.size 9 [.string ⟨#[48]⟩,.string ⟨#[49]⟩,.string ⟨#[50]⟩,.string ⟨#[51]⟩] b w'
   |9=>vs 9=.string (digit M)
   |10=>vs 10=.string (NI++digit M)
   |16=>∃v:Int,0<=v/\v<=8/\vs 16=.int .i64 v
   |17=>∃v:Int,8<=v/\v<=16/\vs 17=.int .i64 v
   |19=>∃b,vs 19=.slice (some ⟨b,0,none⟩) 5 5/\dS wd.heap.size 3 [.int .i64 0,.int .i64 4,.int .i64 12,.int .i64 30,.int .i64 60] b w'
   |20=>∃v:Int,v∈([0,4,12,30,60]:List Int)/\vs 20=.int .i64 v
   |22=>∃v:Int,vs 22=.int .i64 v
   |23=>∃c:Bool,vs 23=.bool c
   |25=>∃v:Int,vs 25=.int .i64 v
   |26=>∃c:Bool,vs 26=.bool c
   |28=>∃tp tc tl,vs 28=.slice tp (List.length tl) tc/\b6 aF 1 (fun k=>wd.heap.size<=k) w' [.slice tp tl.length tc] tl/\List.Sublist tl iQ
   |29=>∃D tp tc,rH M D/\vs 29=.agg (Tah D tp tc)/\b6 aF 1 (fun k=>wd.heap.size<=k) w' [.slice tp D.tags.length tc] D.tags
   |30=>∃D tp tc b,rH M D/\vs 30=.slice (some ⟨b,0,none⟩) 1 1/\dS wd.heap.size 39 [.string D.name,.int .u64 D.id,.int .i64 D.first,.int .i64 D.Gc,.bool D.closed,.bool D.missing,.slice tp D.tags.length tc] b w'/\b6 aF 1 (fun k=>wd.heap.size<=k) w' [.slice tp D.tags.length tc] D.tags
   |_=>True)
  (fun _ w'=>Src w' bs/\cR (fun k=>k=bs) wd w') (fun _=>rS wd.heap.size) TcP rfl ?cs ?st (fun c t t' w h=>hQ' c ⟨t,[]⟩ t t' w h) ?c0 ?ob ?fin
 case c0=>exact⟨D1.src,cR.refl _ _⟩
 case cs=>exact fun d w' hC=>(hC.2.cell (p:=⟨bb,7,none⟩) pB (by show ¬bb=bs;omega)).trans Xu
 case st =>
  intro p hp q _ _ vs us w1 w2 ha hF he;have C4:Mv (fun k=>wd.heap.size<=k) (fun k=>wd.heap.size<=k) w1 w2:=⟨he.1,fun b hb ho=>⟨ho,he.2 b ho hb⟩⟩;simp only[dr,cY,dg]at hp;rcases hp with rfl|rfl|rfl|rfl|rfl|rfl|rfl|rfl|rfl|rfl|rfl|rfl|rfl|rfl|rfl
  ·obtain⟨b,e,hb⟩:=hF;exact⟨b,(ha 6 (cG ..)).trans e,hb.ev he⟩
  ·obtain⟨b,e,hb⟩:=hF;exact⟨b,(ha 8 (cG ..)).trans e,hb.ev he⟩
  ·exact(ha 9 (cG ..)).trans hF
  ·exact(ha 10 (cG ..)).trans hF
  ·obtain⟨v,h1,h2,e⟩:=hF;exact⟨v,h1,h2,(ha 16 (cG ..)).trans e⟩
  ·obtain⟨v,h1,h2,e⟩:=hF;exact⟨v,h1,h2,(ha 17 (cG ..)).trans e⟩
  ·obtain⟨b,e,hb⟩:=hF;exact⟨b,(ha 19 (cG ..)).trans e,hb.ev he⟩
  ·obtain⟨v,h1,e⟩:=hF;exact⟨v,h1,(ha 20 (cG ..)).trans e⟩
  ·obtain⟨v,e⟩:=hF;exact⟨v,(ha 22 (cG ..)).trans e⟩
  ·obtain⟨v,e⟩:=hF;exact⟨v,(ha 23 (cG ..)).trans e⟩
  ·obtain⟨v,e⟩:=hF;exact⟨v,(ha 25 (cG ..)).trans e⟩
  ·obtain⟨v,e⟩:=hF;exact⟨v,(ha 26 (cG ..)).trans e⟩
  ·obtain⟨tp,tc,tl,e,h1,h2⟩:=hF;exact⟨tp,tc,tl,(ha 28 (cG ..)).trans e,(b6.moves aF.moves).mv C4 h1,h2⟩
  ·obtain⟨D,tp,tc,hd,e,h1⟩:=hF;exact⟨D,tp,tc,hd,(ha 29 (cG ..)).trans e,(b6.moves aF.moves).mv C4 h1⟩
  obtain⟨D,tp,tc,b,hd,e,hb,h1⟩:=hF;exact⟨D,tp,tc,b,hd,(ha 30 (cG ..)).trans e,hb.ev he,(b6.moves aF.moves).mv C4 h1⟩
 case ob =>
  refine kA.cons (deps:=[]) rfl rfl TcP (fun vs d w' h0 hC hF K1 hK1=>?_) ?_
  ·clear hF h0;simp only[over,cq,Act.put];go_simp;refine hK1.o (.slice (some w'.heap.size) 4 4) _ ⟨hC.1.keep fun k hk=>cj _ _ _ Tey,hC.2.trans (G:=fun _=>False) (cR.of_below (ae _ _)) (fun _ f=>f.elim)⟩ (rS.alloc _ _ _) ⟨_,aw rfl,dS.new hC.2.size⟩ _ ?_;simp only[over,cq,aS]
  refine kA.cons (deps:=[(6,47)]) rfl rfl TcP (fun vs d w' h0 hC hF K1 hK1=>?_) ?_
  ·have f6:=(hF (6,47) TcO).2;clear hF h0;simp only[over,cq,cF,aS]at f6 ⊢;obtain⟨b,e6,hb⟩:=f6;rw[e6];go_simp;refine hK1.o (.pointer (some (b,M))) _ hC (rS.refl _ _) (⟨b,aw rfl,hb⟩) _ ?_;simp only[over,cq,cF,aS,e6]
  refine kA.cons (deps:=[(8,49)]) rfl rfl TcP (fun vs d w' h0 hC hF K1 hK1=>?_) ?_
  ·have f8:=(hF (8,49) TcO).2;clear hF h0;simp only[over,cq,cF,aS]at f8 ⊢;obtain⟨b,e8,hb⟩:=f8;rw[e8];have hcell:w'.cell? (b,M)=some (.string (digit M)):=by
    simp only[World.cell?,hb.2];rcases(show M=0\/M=1\/M=2\/M=3 by omega)with rfl|rfl|rfl|rfl<;>rfl
   go_simp;refine hK1.o (.string (digit M)) _ hC (rS.refl _ _) (aw rfl) _ ?_;simp only[over,cq,cF,aS,e8]
  refine kA.cons (deps:=[(9,50)]) rfl rfl TcP (fun vs d w' h0 hC hF K1 hK1=>?_) ?_
  ·have f9:=(hF (9,50) TcO).2;clear hF h0;simp only[over,cq,cF,aS]at f9 ⊢;rw[f9];have QH:(digit M).size=1:=rfl;go_simp;refine hK1.o (.string (NI++digit M)) _ hC (rS.refl _ _) (aw rfl) _ ?_;simp only[over,cq,cF,aS,f9,NI]
  refine kA.cons (deps:=[]) rfl rfl TcP (fun vs d w' h0 hC hF K1 hK1=>?_) ?_
  ·clear hF h0;simp only[over,cq,Act.put];go_simp;refine(bY bs 9 w' TcN TcN hC.1).mono ?_;rintro e w3 ⟨v,rfl,hv1,hv2,hs,hm⟩;refine hK1.o (.int .i64 v) w3 ⟨hs,hC.2.trans hm fun _ h=>.inl h⟩ ⟨hm.size,fun k h1 h2=>hm.block k h2 Tea⟩ (⟨v,hv1,TcN,aw rfl⟩) _ ?_;simp only[over,cq,aS]
  refine kA.cons (deps:=[(16,57)]) rfl rfl TcP (fun vs d w' h0 hC hF K1 hK1=>?_) ?_
  ·have f16:=(hF (16,57) TcO).2;clear hF h0;simp only[over,cq,cF,aS]at f16 ⊢;obtain⟨v,h1,h2,e16⟩:=f16;rw[e16];have hw3:IntKind.i64.wrap (8+v)=8+v:=dy _ TcN;go_simp;refine hK1.o (.int .i64 (8+v)) _ hC (rS.refl _ _) (⟨8+v,TcN,TcN,aw rfl⟩) _ ?_;simp only[over,cq,cF,aS,e16]
  refine kA.cons (deps:=[]) rfl rfl TcP (fun vs d w' h0 hC hF K1 hK1=>?_) ?_
  ·clear hF h0;simp only[over,cq,Act.put];go_simp;refine hK1.o (.slice (some w'.heap.size) 5 5) _ ⟨hC.1.keep fun k hk=>cj _ _ _ Tey,hC.2.trans (G:=fun _=>False) (cR.of_below (ae _ _)) (fun _ f=>f.elim)⟩ (rS.alloc _ _ _) ⟨_,aw rfl,dS.new hC.2.size⟩ _ ?_;simp only[over,cq,aS]
  refine kA.cons (deps:=[(19,60)]) rfl rfl TcP (fun vs d w' h0 hC hF K1 hK1=>?_) ?_
  ·have f19:=(hF (19,60) TcO).2;clear hF h0;simp only[over,cq,cF,aS]at f19 ⊢;obtain⟨b,e19,hb⟩:=f19;rw[e19];go_simp;refine(jD bs b 5 [0,4,12,30,60] w' TcO TcO TcO TcN (aq hb.2) (by have:=hb.1;omega) (fun i v hv=>by simp only[World.cell?,hb.2];match i,hv with|0,hv=>simpa using hv|1,hv=>simpa using hv|2,hv=>simpa using hv|3,hv=>simpa using hv|4,hv=>simpa using hv) hC.1).mono ?_;rintro e w3 ⟨v,rfl,hv,hs,hm⟩;refine hK1.o (.int .i64 v) w3 ⟨hs,hC.2.trans hm fun _ h=>.inl h⟩ ⟨hm.size,fun k h1 h2=>hm.block k h2 Tea⟩ ⟨v,hv,aw rfl⟩ _ ?_;simp only[over,cq,cF,aS,e19]
  refine kA.cons (deps:=[]) rfl rfl TcP (fun vs d w' h0 hC hF K1 hK1=>?_) ?_
  ·exact Ta6
  refine kA.cons (deps:=[(22,63)]) rfl rfl TcP (fun vs d w' h0 hC hF K1 hK1=>?_) ?_
  ·have f22:=(hF (22,63) TcO).2;clear hF h0;simp only[over,cq,cF,aS]at f22 ⊢;obtain⟨v,e22⟩:=f22;rw[e22];go_simp;refine hK1.o (.bool (v==0)) _ hC (rS.refl _ _) (⟨_,aw rfl⟩) _ ?_;simp only[over,cq,cF,aS,e22]
  refine kA.cons (deps:=[]) rfl rfl TcP (fun vs d w' h0 hC hF K1 hK1=>?_) ?_
  ·exact Ta6
  refine kA.cons (deps:=[(25,66)]) rfl rfl TcP (fun vs d w' h0 hC hF K1 hK1=>?_) ?_
  ·have f25:=(hF (25,66) TcO).2;clear hF h0;simp only[over,cq,cF,aS]at f25 ⊢;obtain⟨v,e25⟩:=f25;rw[e25];go_simp;refine hK1.o (.bool (v==0)) _ hC (rS.refl _ _) (⟨_,aw rfl⟩) _ ?_;simp only[over,cq,cF,aS,e25]
  refine kA.cons (deps:=[]) rfl rfl TcP (fun vs d w' h0 hC hF K1 hK1=>?_) ?_
  ·clear hF h0;simp only[over,cq,Act.put];go_simp;refine(qY bs w' hC.1).mono ?_;rintro e w3 ⟨v,tl,rfl,u9,kf,hs,hm⟩;have Xv:=kf;obtain⟨tp,tc,hv,_⟩:=Xv;obtain rfl:v=.slice tp tl.length tc:=by injection hv
   refine hK1.o (.slice tp tl.length tc) w3 ⟨hs,hC.2.trans hm fun _ h=>.inl h⟩ ⟨hm.size,fun k h1 h2=>hm.block k h2 Tea⟩ ⟨tp,tc,tl,aw rfl,(b6.moves aF.moves).mv ⟨bk _,fun k _ h=>⟨cA hC.2.size h,rfl⟩⟩ kf,u9⟩ _ ?_;simp only[over,cq,aS]
  refine kA.cons (deps:=[(10,51),(17,58),(20,61),(23,64),(26,67),(28,69)]) rfl rfl TcP (fun vs d w' h0 hC hF K1 hK1=>?_) ?_
  ·have f10:=(hF (10,51) TcO).2;have f17:=(hF (17,58) TcO).2;have f20:=(hF (20,61) TcO).2;have f23:=(hF (23,64) TcO).2;have f26:=(hF (26,67) TcO).2;have f28:=(hF (28,69) TcO).2;clear hF h0;simp only[over,cq,cF,aS]at f10 f17 f20 f23 f26 f28 ⊢;obtain⟨v17,p1,p2,e17⟩:=f17;obtain⟨v20,p3,e20⟩:=f20;obtain⟨b23,e23⟩:=f23;obtain⟨b26,e26⟩:=f26;obtain⟨tp,tc,tl,e28,t1,t2⟩:=f28;rw[f10,e17,e20,e23,e26,e28];go_simp;refine hK1.o (.agg #[.string (NI++digit M),.int .u64 ((M:Int)+1),.int .i64 v17,.int .i64 v20,.bool b23,.bool b26,.slice tp tl.length tc]) _ hC (rS.refl _ _) ⟨⟨NI++digit M,(M:Int)+1,v17,v20,b23,b26,tl⟩,tp,tc,⟨rfl,rfl,⟨p1,p2⟩,p3,t2⟩,aw rfl,t1⟩ _ ?_;simp only[over,cq,cF,aS,f10,e17,e20,e23,e26,e28]
  refine kA.cons (deps:=[(29,70)]) rfl rfl TcP (fun vs d w' h0 hC hF K1 hK1=>?_) trivial;have f29:=(hF (29,70) TcO).2;clear hF h0;simp only[over,cq,cF,aS]at f29 ⊢;obtain⟨D,tp,tc,hd,e29,t1⟩:=f29;rw[e29];go_simp;refine hK1.o (.slice (some w'.heap.size) 1 1) _ ⟨hC.1.keep fun k hk=>cj _ _ _ Tey,hC.2.trans (G:=fun _=>False) (cR.of_below (ae _ _)) (fun _ f=>f.elim)⟩ (rS.alloc _ _ _) ⟨D,tp,tc,w'.heap.size,hd,aw rfl,dS.new hC.2.size,(b6.moves aF.moves).mv ⟨TcO,fun k hk h=>⟨h,cj _ _ _ hk⟩⟩ t1⟩ _ ?_;simp only[over,cq,cF,aS,e29]
 case fin =>
  intro vs d w' hC hF;have f30:=(hF (30,71) TcO).2;clear hF;simp only[over,cq,cF,aS,cQ,cL]at f30 ⊢;obtain⟨D,tp,tc,b,hD,e30,hb,t1⟩:=f30;rw[e30];generalize vs 6=z6;generalize vs 8=z8;generalize vs 9=z9;generalize vs 10=z10;generalize vs 16=z16;generalize vs 17=z17;generalize vs 19=z19;generalize vs 20=z20;generalize vs 22=z22;generalize vs 23=z23;generalize vs 25=z25;generalize vs 26=z26;generalize vs 28=z28;generalize vs 29=z29;clear e30;have D2:=D1.read hC.1 hC.2;have hb2:=D2.Gj;have hz2:=hC.2.size;have RV:aO (fun b=>okD bb (.slice dp M ir) nv b/\b<w'.heap.size) w' [.string D.name,.int .u64 D.id,.int .i64 D.first,.int .i64 D.Gc,.bool D.closed,.bool D.missing,.slice tp D.tags.length tc] D:=⟨_,rfl,(b6.moves aF.moves).mv ⟨bk _,fun k hk h=>⟨⟨D1.okNew h,hk⟩,rfl⟩⟩ t1⟩
  have HO:bF aO 7 39 (bb+1) (fun b=>okD bb (.slice dp M ir) nv b/\b<w'.heap.size) w' (.slice dp M ir) Gb:=by
   obtain⟨cs,ho,hf⟩:=D2.ownD;exact⟨cs,ho,Flat.moves aO.moves ⟨bk _,fun k hk h=>⟨⟨h,hk⟩,rfl⟩⟩ _ _ hf⟩
  obtain⟨i0,hi,hz0,hz1,hz3⟩:=gg Dp;refine dX aO.moves underlying28 hi hz0 hz1 hz3 rfl TcQ TcQ rfl _ _ TcT (bb+1) (fun b=>okD bb (.slice dp M ir) nv b/\b<w'.heap.size) (.slice dp M ir) Gb D TcT HO b 1 [.string D.name,.int .u64 D.id,.int .i64 D.first,.int .i64 D.Gc,.bool D.closed,.bool D.missing,.slice tp D.tags.length tc] TcT TcT RV Tc0 (fun j y hy=>?_) TcN TcN (fun k e ho=>ho.1.2.1 e) (fun gb cap w3 hp=>?_)
  ·exact Tco
  obtain⟨D3,hx⟩:=D2.pushD hp;have y7:w3.cell? (Tac bb 7)=some (.slice dp M ir):=by simp[World.cell?,hx,D2.blk]
  have yf:w3.frozen? (Tac bb 7)=false:=by simp[World.frozen?,hx,D2.blk]
  clear hp hx RV HO hi hz0 hz1 hz3 t1 hb Xu;simp only[aS];simp only[hM]at D3;go_wp2;exact HK.o _ D _ _ _ _ _ _ _ _ _ _ _ _ _ _ _ _ _ _ _ _ _ _ _ _ _ _ _ _ _ _ _ _ _ _ _ _ hD D3
theorem yj{ext:Int}{next:List Int}(D0:vy bs bb id seq ext tags w0 tv dv nv Gb next w)(hn:next.length<=100)
  {c0 c1 c2 c4 c5 c6 c7 c8 c9 c10 c11 c12 c13 c14 c15 c16 c17 c18 c19 c20 c21 c22 c23 c24 c25 c26 c27 c28 c29 c30 c31 c32 c33 c34 c35 c36 c37 c38 c39 c40 c41 c42 c43 c44 c45 c46 c47 c48 c49 c50 c51 c52 c53 c54 c55 c56 c57 c58 c59 c60 c61 c62 c63 c64 c65 c66 c67 c68 c69 c70 c71 c72 c73 c74 c75 c76 c77 c78 c79 c80 c81 c82 c83 c84 c85 c86 c87 c88 c89 c90 c91 c92 c93 c94 c95 c96 c97 c98 c99 c100 c101 c102 c103 c104 c105 c106 c107 c108 c109 c110 c111 c112 c113 c114 c115 c116 c117 c118 c119 c120 c121 c122 c123 c124 c125 c126 c127 c128 c129 c130 c131 c132 c133 c134 c135 c136 c137 c138 c139 c140 c141 c142 c143 c144 c145 c146 c147 c148 c149 c150 c151 c152 c153 c154 c155 c156 c157 c158 c159 c160 c161 c162 c163 c164 c165 c166 c167 c168 c169 c170 c171 c172 c173 c174 c175 c176 c177 c178 c179 c180 c181:Value} (Q:Exit->Act->World->Prop)
  (HK:Hid (∀(nv':Value) (w':World) (u76 u77 u78 u79 u80 u81 u82 u83 u84:Value),vy bs bb id seq ext tags w0 tv dv nv' Gb (next++[0]) w'->Q .normal ⟨#[c0,c1,c2,.pointer (some bb),c4,c5,c6,c7,c8,c9,c10,c11,c12,c13,c14,c15,c16,c17,c18,c19,c20,c21,c22,c23,c24,c25,c26,c27,c28,c29,c30,c31,c32,c33,c34,c35,c36,c37,c38,c39,c40,c41,c42,c43,c44,c45,c46,c47,c48,c49,c50,c51,c52,c53,c54,c55,c56,c57,c58,c59,c60,c61,c62,c63,c64,c65,c66,c67,c68,c69,c70,c71,c72,c73,c74,c75,u76,u77,u78,u79,u80,u81,u82,u83,u84,c85,c86,c87,c88,c89,c90,c91,c92,c93,c94,c95,c96,c97,c98,c99,c100,c101,c102,c103,c104,c105,c106,c107,c108,c109,c110,c111,c112,c113,c114,c115,c116,c117,c118,c119,c120,c121,c122,c123,c124,c125,c126,c127,c128,c129,c130,c131,c132,c133,c134,c135,c136,c137,c138,c139,c140,c141,c142,c143,c144,c145,c146,c147,c148,c149,c150,c151,c152,c153,c154,c155,c156,c157,c158,c159,c160,c161,c162,c163,c164,c165,c166,c167,c168,c169,c170,c171,c172,c173,c174,c175,c176,c177,c178,c179,c180,c181],[]⟩ w')) :
  Code.wp prog (nA 9) Q ⟨#[c0,c1,c2,.pointer (some bb),c4,c5,c6,c7,c8,c9,c10,c11,c12,c13,c14,c15,c16,c17,c18,c19,c20,c21,c22,c23,c24,c25,c26,c27,c28,c29,c30,c31,c32,c33,c34,c35,c36,c37,c38,c39,c40,c41,c42,c43,c44,c45,c46,c47,c48,c49,c50,c51,c52,c53,c54,c55,c56,c57,c58,c59,c60,c61,c62,c63,c64,c65,c66,c67,c68,c69,c70,c71,c72,c73,c74,c75,c76,c77,c78,c79,c80,c81,c82,c83,c84,c85,c86,c87,c88,c89,c90,c91,c92,c93,c94,c95,c96,c97,c98,c99,c100,c101,c102,c103,c104,c105,c106,c107,c108,c109,c110,c111,c112,c113,c114,c115,c116,c117,c118,c119,c120,c121,c122,c123,c124,c125,c126,c127,c128,c129,c130,c131,c132,c133,c134,c135,c136,c137,c138,c139,c140,c141,c142,c143,c144,c145,c146,c147,c148,c149,c150,c151,c152,c153,c154,c155,c156,c157,c158,c159,c160,c161,c162,c163,c164,c165,c166,c167,c168,c169,c170,c171,c172,c173,c174,c175,c176,c177,c178,c179,c180,c181],[]⟩ w:=by
 conv=>arg 2;whnf
 have hlt:=D0.lt;have cX:=D0.Gj;have hc:=cr D0.blk 10 _ rfl;have D1:=D0.below (ae w (.cells #[.int .i64 0] 3));have OS:bb<(w.alloc (.cells #[.int .i64 0] 3)).heap.size:=D1.Gj;obtain⟨i0,hi,hz0,hz1,hz2⟩:=gg tZ;have HI:=aa hi;clear hi;have H0:=aa hz0;clear hz0;have H1:=aa hz1;clear hz1;have H2:=aa hz2;clear hz2;have HD1:=aa D1;clear D1;go_wp2_with(at_builtin;refine dX cO.moves underlying22 HI.o H0.o H1.o H2.o rfl TcQ TcQ rfl _ _ rfl (bb+1) (fun _=>False) nv next 0 rfl ?d1 w.heap.size 1 [.int .i64 0] rfl rfl ?d2 ?d3 ?d4 ?d5 ?d6 ?d7 ?_)
 case d1=>exact HD1.o.ownN.ownS _
 case d2=>exact rfl
 case d3=>simp[Value.oneCell']
 all_goals first|(case d4=>(intro j y hy;exact aD rfl Tc6))|(case d5=>omega)|(case d6=>omega)|(case d7=>exact fun _ _ f=>f)|skip
 intro gb cap w3 hp;obtain⟨D3,hx⟩:=HD1.o.pushN hp;have y7:w3.cell? (Tac bb 10)=some nv:=by simp[World.cell?,hx,HD1.o.blk]
 have yf:w3.frozen? (Tac bb 10)=false:=by simp[World.frozen?,hx,HD1.o.blk]
 clear hp hx hc;go_wp2;exact HK.o _ _ _ _ _ _ _ _ _ _ _ D3
theorem Tde{p:Prop}(h:p:=by cases e):p:=h
theorem vy.bld{ext:Int}{next:List Int}(h:vy bs bb id seq ext tags w0 tv dv nv Gb next w) :
  eW (fun _=>False) w bs bb nv (.slice none 0 0) ⟨vgT,id,seq,ext,0,tags,Gb,[],[]⟩ next:=by
 have gw:∀b,okD bb dv nv b->okB (fun _=>False) bb nv (.slice none 0 0) b:=fun b q=>⟨q.1,q.2.2,fun e=>Tde,fun f=>f⟩
 refine⟨h.src,h.lt,⟨tv,dv,.slice none 0 0,h.blk,(b6.moves aF.moves).mv ⟨bk _,fun b _ q=>⟨gw b q,rfl⟩⟩ h.rt,h.ownD.rd aO.moves TcQ (fun b _ q=>gw b q) (fun b e=>⟨(h.dLt e).1,h.ne b e,fun e=>Tde,fun f=>f⟩),rfl,rfl⟩,h.ownN,⟨[],gS _ _ _ 6,rfl⟩,fun k _ e=>Tde,fun _ f=>f.elim,fun _ _ f=>f,fun _ _ f=>f⟩
theorem Flat.last{α:Type}{V:jx α}{sz:Nat}{ok:Nat->Prop}{x:α}:∀(l:List α) (cs:List Value),Flat V sz ok w cs (l++[x])->∃c u,cs=c++u/\Flat V sz ok w c l/\u.length=sz/\V ok w u x
 |[],_,⟨u,r,e,h1,h2,_,h4⟩=>⟨[],u,by simp only[Flat]at h4;rw[e,h4];simp,rfl,h1,h2⟩
 |y :: l,_,⟨u,r,e,h1,h2,h3,h4⟩=>by
  obtain⟨c,u',e',k1,k2,k3⟩:=Flat.last l r h4;exact⟨u++c,u',by rw[e,e',cV],⟨u,c,rfl,h1,h2,h3,k1⟩,k2,k3⟩
theorem F5(c:List Value)(a0 a1 a2 a3 a4 a5 b0 b1 b2 b3 b4 b5:Value)(n:Nat)(hn:c.length=n) :
  ((((((c++[a0,a1,a2,a3,a4,a5]).set n b0).set (n+1) b1).set (n+2) b2).set (n+3) b3).set (n+4) b4).set (n+5) b5=c++[b0,b1,b2,b3,b4,b5]:=by
 subst hn;simp[List.set_append_right]
def fO(w:World)(b o:Nat)(b0 b1 b2 b3 b4 b5:Value):World:=(((((w.setCell (b,o) b0).setCell (b,o+1) b1).setCell (b,o+2) b2).setCell (b,o+3) b3).setCell (b,o+4) b4).setCell (b,o+5) b5
theorem IV(w:World)(b o:Nat)(b0 b1 b2 b3 b4 b5:Value)(k:Nat)(h:k≠b):(fO w b o b0 b1 b2 b3 b4 b5).heap[k]?=w.heap[k]?:=by
 unfold fO;rw[bw _ _ _ _ h,bw _ _ _ _ h,bw _ _ _ _ h,bw _ _ _ _ h,bw _ _ _ _ h,bw _ _ _ _ h]
theorem sD(w:World)(b o:Nat)(b0 b1 b2 b3 b4 b5:Value):(fO w b o b0 b1 b2 b3 b4 b5).heap.size=w.heap.size:=by simp[fO,World.setCell]
theorem Teu{p:Prop}(h:p:=by simp[fO,World.setCell]):p:=h
theorem aH.setLast{X:Nat->Prop}{rK rN:Value}{next:List Int}{vs:List ay}{v V:ay}{vb vc:Nat}{b0 b1 b2 b3 b4 b5:Value}
  (p:aH X bs bb rK rN w0 w nv (.slice (some vb) (vs.length+1) vc) g next) (hg:g.F9=vs++[v]) (hV:aN (okB X bb nv (.slice (some vb) (vs.length+1) vc)) w [b0,b1,b2,b3,b4,b5] V) (h1:∀z∈[b0,b1,b2,b3,b4,b5],z.oneCell'=true) :
  aH X bs bb rK rN w0 (fO w vb (vs.length*6) b0 b1 b2 b3 b4 b5) nv (.slice (some vb) (vs.length+1) vc) { g with F9:=vs++[V] } next:=by
 have h:=p.bld;have XV:=h.vLt (k:=vb) rfl;have hl:=h.lt;have kk:=fun k e=>IV w vb (vs.length*6) b0 b1 b2 b3 b4 b5 k e;have hz:=sD w vb (vs.length*6) b0 b1 b2 b3 b4 b5;have hm:Mv (okB X bb nv (.slice (some vb) (vs.length+1) vc)) (okB X bb nv (.slice (some vb) (vs.length+1) vc)) w (fO w vb (vs.length*6) b0 b1 b2 b3 b4 b5):=⟨TcN,fun b _ ho=>⟨ho,kk b (fun e=>ho.2.2.1 (by rw[e];rfl))⟩⟩
 refine⟨⟨h.src.keep fun i hi=>kk i TcN,hl,?_,aC h.ownN fun k e=>kk k (fun q=>h.ne k e (by rw[q];rfl)),?_,h.ne,fun k hx=>⟨(h.xlt k hx).1,by rw[hz];exact(h.xlt k hx).2⟩,h.xn,h.xv⟩,?_,p.nfr,p.vfr⟩
 ·obtain⟨tv,dv,hv,e,h1,h2,h3⟩:=h.blk;exact⟨tv,dv,hv,(kk bb TcN).trans e,(b6.moves aF.moves).mv hm h1,(b6.moves aO.moves).mv hm h2,h3⟩
 ·obtain⟨cs,ho,hf⟩:=h.ownV;rw[hg]at ho hf;obtain⟨c,u,rfl,hc,hu,_⟩:=Flat.last vs cs hf;have XJ:=Flat.length _ _ hc;obtain⟨a0,a1,a2,a3,a4,a5,rfl⟩:∃a0 a1 a2 a3 a4 a5,u=[a0,a1,a2,a3,a4,a5]:=by
   match u,hu with
   |[a,b,c,d,e,f],_=>exact⟨a,b,c,d,e,f,rfl⟩
  have hle:(vs++[v]).length=vs.length+1:=by simp
  have hle':(vs++[V]).length=vs.length+1:=by simp
  rw[hle]at ho;have s:=(((((((ho.stored (vs.length*6) b0).1.stored (vs.length*6+1) b1).1.stored (vs.length*6+2) b2).1.stored (vs.length*6+3) b3).1.stored (vs.length*6+4) b4).1.stored (vs.length*6+5) b5)).1;rw[F5 c _ _ _ _ _ _ _ _ _ _ _ _ _ XJ]at s;refine⟨c++[b0,b1,b2,b3,b4,b5],by rw[hle'];unfold fO;exact s,Flat.append (Flat.one rfl (aN.moves.mv hm hV) h1) _ _ (Flat.moves aN.moves hm _ _ hc)⟩
 refine p.mod.trans (G:=fun k=>k=vb) ⟨Teu,Teu,Teu,TcN,fun k _ e=>kk k e⟩ (fun k e=>?_);subst e;rcases p.vfr k rfl with q|q
 ·exact .inl (.inr (.inr (.inr q)))
 exact .inr q
def Mm(bb:Nat)(hv:Value):Nat->Prop:=fun b=>bb<b/\hv.ownBlock≠some b
structure HSt(bs bb:Nat)(w0:World)(g:af)(tv dv vv nv hv:Value)(hist:List (ByteArray × Int × Int))(w:World):Prop where
 lt:bs<bb
 src:Src w bs
 blk:w.heap[bb]?=some (.cells (TaG (some ⟨bs,0,none⟩) g tv dv vv hv nv) 49 (0,0))
 rt:b6 aF 1 (Mm bb hv) w [tv] g.tags
 rd:b6 aO 7 (Mm bb hv) w [dv] g.Gb
 rv:b6 aN 6 (Mm bb hv) w [vv] g.F9
 own:bF lF 3 62 (bb+1) (Mm bb hv) w hv hist
 old:∀k,k<bb->k≠bs->w.heap[k]?=w0.heap[k]?
 str:Str w0 w
theorem eW.hst{vv:Value}{next:List Int}(h:eW (fun _=>False) w bs bb nv vv g next)(old:∀k,k<bb->k≠bs->w.heap[k]?=w0.heap[k]?)(str:Str w0 w):∃tv dv,HSt bs bb w0 g tv dv vv nv (.slice none 0 0) [] w:=by
 obtain⟨tv,dv,hv,e,h1,h2,rfl,_⟩:=h.blk;have hm:Mv (okB (fun _=>False) bb nv vv) (Mm bb (.slice none 0 0)) w w:=⟨bk _,fun b _ q=>⟨⟨q.1,fun e=>Tde⟩,rfl⟩⟩
 exact⟨tv,dv,h.lt,h.src,e,(b6.moves aF.moves).mv hm h1,(b6.moves aO.moves).mv hm h2,h.ownV.rd aN.moves TcQ (fun b _ q=>⟨q.1,fun e=>Tde⟩) (fun b e=>⟨(h.vLt e).1,fun e=>Tde⟩),⟨[],gS _ _ _ 3,rfl⟩,old,str⟩
section
variable {bs bb:Nat}{w0 w w' w2:World}{g:af}{tv dv vv nv hv:Value}{hist:List (ByteArray × Int × Int)}
theorem HSt.Gj(h:HSt bs bb w0 g tv dv vv nv hv hist w):bb<w.heap.size:=aq h.blk
theorem HSt.hLt(h:HSt bs bb w0 g tv dv vv nv hv hist w){k:Nat}(e:hv.ownBlock=some k):bb<k/\k<w.heap.size:=by
 have:=h.own.ge0 e;omega
theorem HSt.keep(h:HSt bs bb w0 g tv dv vv nv hv hist w)(hst:Str w w')(hs:Src w' bs)(hz:w.heap.size<=w'.heap.size)(hk:∀k,k<w.heap.size->k≠bs->w'.heap[k]?=w.heap[k]?):HSt bs bb w0 g tv dv vv nv hv hist w':=by
 have hl:=h.lt;have hb:=h.Gj;have hm:Mv (Mm bb hv) (Mm bb hv) w w':=⟨hz,fun b hb ho=>⟨ho,hk b hb Tdo⟩⟩;refine⟨hl,hs,(hk bb hb TcN).trans h.blk,(b6.moves aF.moves).mv hm h.rt,(b6.moves aO.moves).mv hm h.rd,(b6.moves aN.moves).mv hm h.rv,?_,fun k h1 h2=>(hk k TcN h2).trans (h.old k h1 h2),h.str.trans hst⟩;have mb:=fun k e=>h.hLt (k:=k) e;obtain⟨cs,ho,hf⟩:=h.own;exact⟨cs,aC ho fun k e=>hk k (mb k e).2 Tex,Flat.moves lF.moves hm _ _ hf⟩
theorem HSt.read(h:HSt bs bb w0 g tv dv vv nv hv hist w)(hs:Src w' bs)(hm:cR (fun i=>i=bs) w w'):HSt bs bb w0 g tv dv vv nv hv hist w':=h.keep hm.str hs hm.size fun k hk hn=>hm.block k hk hn
theorem HSt.below(h:HSt bs bb w0 g tv dv vv nv hv hist w)(hb:Below w.heap.size w w'):HSt bs bb w0 g tv dv vv nv hv hist w' :=
 h.keep (ow hb) (h.src.keep fun i hi=>hb.block i Teq) hb.size fun k hk _=>hb.block k hk
theorem HSt.push{x:ByteArray × Int × Int}{u:List Value}{gb cap:Nat}(h:HSt bs bb w0 g tv dv vv nv hv hist w)
  (hp:jN lF 3 62 (bb+1) (fun _=>False) w hv hist x u gb cap w2) :
  HSt bs bb w0 g tv dv vv nv (.slice (some gb) (hist.length+1) cap) (hist++[x]) (w2.setCell (Tac bb 9) (.slice (some gb) (hist.length+1) cap))/\w2.heap[bb]?=w.heap[bb]?:=by
 have hl:=h.lt;have hb:=h.Gj;have hz:=hp.grown.size;have kw:∀k,k<w.heap.size->hv.ownBlock≠some k->w2.heap[k]?=w.heap[k]?:=fun k h1 h2=>hp.grown.block k h1 fun e=>h2 e.symm;have pC:w2.heap[bb]?=w.heap[bb]?:=kw bb hb fun e=>by have:=h.hLt e;omega
 have kk:∀k,k≠bb->(w2.setCell (Tac bb 9) (.slice (some gb) (hist.length+1) cap)).heap[k]?=w2.heap[k]?:=fun k e=>bw _ _ _ _ e;have hzz:(w2.setCell (Tac bb 9) (.slice (some gb) (hist.length+1) cap)).heap.size=w2.heap.size:=by simp[World.setCell]
 have OH:∀b,Mm bb hv b->b<w.heap.size->b≠gb:=fun b h1 h2 e=>by
  subst e;rcases hp.at' with q|q
  ·exact h1.2 q
  omega
 have old:∀k,k<bb->(w2.setCell (Tac bb 9) (.slice (some gb) (hist.length+1) cap)).heap[k]?=w.heap[k]?:=fun k hk=>(kk k TcN).trans (kw k TcN fun e=>by have:=h.hLt e;omega);have hm:Mv (Mm bb hv) (Mm bb (.slice (some gb) (hist.length+1) cap)) w (w2.setCell (Tac bb 9) (.slice (some gb) (hist.length+1) cap)):=⟨TcN,fun b h1 h2=>⟨⟨h2.1,fun e=>OH b h2 h1 Ten⟩,(kk b (by have:=h2.1;omega)).trans (kw b h1 h2.2)⟩⟩
 refine⟨⟨hl,h.src.keep fun i hi=>old i TcN,?_,(b6.moves aF.moves).mv hm h.rt,(b6.moves aO.moves).mv hm h.rd,(b6.moves aN.moves).mv hm h.rv,?_,fun k h1 h2=>(old k h1).trans (h.old k h1 h2),(h.str.trans (nQ hp.grown)).trans ⟨rfl,rfl,rfl⟩⟩,pC⟩
 ·exact block_setCell (i:=9) _ (pC.trans h.blk)
 obtain⟨cs,ho,hf⟩:=hp.own;exact⟨cs,aC ho fun k e=>kk k Ter,Flat.moves lF.moves ⟨TcN,fun b _ f=>f.elim⟩ _ _ hf⟩
end
variable {c i k bs bb b:Nat}{g0 g g':af}{n0 next':List Int}{name:ByteArray}{w:World}{nv:Value}
def letter(i:Nat):ByteArray:=⟨#[(97+i).toUInt8]⟩
inductive iy (name:ByteArray)(g:af)(next:List Int):af->List Int->Prop
 |linF:iy name g next { g with next:=g.next+1 } next
 |lin {n s:Int} {on:ByteArray} {next1 next':List Int} {Gf:List aB} {ps:List (ByteArray × Int × Int)} (hn:1<=n/\n<=4) (h1:fZ g.Gb next [(on,s,n)] next1) (hm:fB [dE n on s] Gf) (hl:Gf.length<=3) (h2:fZ g.Gb next1 ps next') (hs:List.Sublist ((Gf.drop 1).flatMap iG) ps) :
   iy name g next { g with next:=g.next+1,F9:=g.F9++[⟨name,oX g.id (g.next+1),false,false,[],Gf⟩] } next'
 |strF {ps:List (ByteArray × Int × Int)} {next':List Int} (h:fZ g.Gb next ps next'):iy name g next g next'
 |str {k n:Int} {al:List aR} {next':List Int} (hk:2<=k/\k<=3) (hn:1<=n/\n<=2) (hl:(al.length:Int)=k) (ha:∀a∈al,a.vol=false) (h:fZ g.Gb next (UO n al) next') :
   iy name g next { g with next:=g.next+1,F9:=g.F9++[mf name (oX g.id (g.next+1)) k n al] } next'
 |compF {j:Nat} (h:j<=8):iy name g next { g with next:=g.next+j } next
 |comp {kind n:Int} {names:List ByteArray} {lengths:List Int} {x:aB} {ps:List (ByteArray × Int × Int)} {vl tl:List ay} {ro:Bool} {tags:List ByteArray} {k j:Nat} {next':List Int} (AK:kind=3\/kind=4\/kind=5\/kind=7) (hn:1<=n/\n<=3) (hR:ik g.Gd n name kind names lengths x)
   (hH:lD g.id g.next names lengths ps vl) (hT:fZ g.Gb next ps next') (ht:List.Sublist tags iQ) (hk:k<=2) (hk5:kind≠5->k=j/\k=0) (hth:iO g.id name k (g.next+names.length+1+1) j tl) :
   iy name g next { g with next:=g.next+names.length+1+tl.length,F9:=g.F9++vl++[⟨name,oX g.id (g.next+names.length+1),false,ro,tags,[x]⟩]++tl } next'
inductive bZ (c:Nat)(g0:af)(n0:List Int):Nat->af->List Int->Prop
 |nil:bZ c g0 n0 c g0 n0
 |step {i:Nat} {g g':af} {next next':List Int} (h:bZ c g0 n0 (i+1) g next) (hs:iy (letter (i+1)) g next g' next'):bZ c g0 n0 i g' next'
theorem bZ.next{next:List Int}(hi:0<i)(h:bZ c g0 n0 i g next)(hs:iy (letter i) g next g' next'):bZ c g0 n0 (i-1) g' next':=by
 obtain⟨j,rfl⟩:∃j,i=j+1:=⟨i-1,TcN⟩;exact .step h hs
theorem iO.len{id:Int}{c:Int}{j:Nat}{tl:List ay}(h:iO id name k c j tl):tl.length+j=k:=by
 induction h with
 |nil=>simp
 |snoc _ _ ih=>simp;omega
structure Fh(g:af)(next:List Int)(g':af)(next':List Int):Prop where
 same:g'.name=g.name/\g'.id=g.id/\g'.seq=g.seq/\g'.Gd=g.Gd/\g'.tags=g.tags/\g'.Gb=g.Gb/\g'.history=g.history
 F9:g'.F9.length<=g.F9.length+11
 nx1:g.next<=g'.next
 nx2:g'.next<=g.next+11
 dk:DOk g.Gb next->DOk g.Gb next'
theorem TcU{p:Prop}(h:p:=by dsimp only;omega):p:=h
theorem iy.bd{next:List Int}(h:iy name g next g' next')(he:1<=g.Gd/\g.Gd<=16):Fh g next g' next':=by
 cases h with
 |linF=>exact⟨⟨rfl,rfl,rfl,rfl,rfl,rfl,rfl⟩,TcO,TcU,TcU,fun q=>q⟩
 |lin hn h1 hm hl h2 hs=>exact⟨⟨rfl,rfl,rfl,rfl,rfl,rfl,rfl⟩,TcO,TcU,TcU,fun q=>h2.ok (h1.ok q)⟩
 |strF h=>exact⟨⟨rfl,rfl,rfl,rfl,rfl,rfl,rfl⟩,TcN,TcN,TcN,fun q=>h.ok q⟩
 |str hk hn hl ha h=>exact⟨⟨rfl,rfl,rfl,rfl,rfl,rfl,rfl⟩,TcO,TcU,TcU,fun q=>h.ok q⟩
 |compF h=>exact⟨⟨rfl,rfl,rfl,rfl,rfl,rfl,rfl⟩,TcO,TcU,TcU,fun q=>q⟩
 |comp AK hn hR hH hT ht hk hk5 hth =>
  have h1:=hR.ok he.1 he.2 hn.1 hn.2;have h2:=hH.len;have h3:=hth.len;exact⟨⟨rfl,rfl,rfl,rfl,rfl,rfl,rfl⟩,TcS,TcU,TcU,fun q=>hT.ok q⟩
structure Zy(c i:Nat)(g0:af)(g:af)(next:List Int):Prop where
 same:g.name=g0.name/\g.id=g0.id/\g.seq=g0.seq/\g.Gd=g0.Gd/\g.tags=g0.tags/\g.Gb=g0.Gb/\g.history=g0.history
 le:i<=c
 F9:g.F9.length<=11*(c-i)
 nx1:0<=g.next
 nx2:g.next<=11*((c:Int)-i)
 dk:DOk g0.Gb next
theorem bZ.bd(h0:g0.F9=[]/\g0.next=0)(he:1<=g0.Gd/\g0.Gd<=16)(hd:DOk g0.Gb n0){next:List Int}(h:bZ c g0 n0 i g next):Zy c i g0 g next:=by
 induction h with
 |nil=>exact⟨⟨rfl,rfl,rfl,rfl,rfl,rfl,rfl⟩,bk _,by simp[h0.1],TcN,TcN,hd⟩
 |@step i g g' next next' h hs ih =>
  obtain⟨e1,e2,e3,e4,e5,e6,e7⟩:=ih.same;have b:=hs.bd (by rw[e4];exact he);obtain⟨q1,q2,q3,q4,q5,q6,q7⟩:=b.same;have h1:=ih.le;have h2:=ih.F9;have h3:=ih.nx1;have h4:=ih.nx2;have h5:=b.F9;have h6:=b.nx1;have h7:=b.nx2;exact⟨⟨q1.trans e1,q2.trans e2,q3.trans e3,q4.trans e4,q5.trans e5,q6.trans e6,q7.trans e7⟩,TcN,TcN,TcN,TcN,e6 ▸ b.dk (e6.symm ▸ ih.dk)⟩
theorem tY{ok ok':Nat->Prop}:∀(l:List (ByteArray × Int × Int)) (cs:List Value),Flat lF 3 ok w cs l->Flat lF 3 ok' w cs l
 |[],_,h=>h
 |_ :: l,_,⟨u,r,e,h1,h2,h3,h4⟩=>⟨u,r,e,h1,h2,h3,tY l r h4⟩
theorem Ef:(prog.info? 62).map (fun i=>(i.zero,i.size,i.bytes))=some (some (.agg #[.string ⟨#[]⟩,.int .u64 0,.int .i64 0]),3,32):=by kernel_rfl
theorem wG{w0:World}{tv dv vv hv:Value}{hist:List (ByteArray × Int × Int)}(D0:HSt bs bb w0 g tv dv vv nv hv hist w)(hn:hist.length<=100)(hi2:i<=2)
  {c0 c1 c2 c4 c5 c6 c7 c8 c9 c10 c12 c13 c14 c15 c16 c17 c18 c19 c20 c21 c22 c23 c24 c25 c26 c27 c28 c29 c30 c31 c32 c33 c34 c35 c36 c37 c38 c39 c40 c41 c42 c43 c44 c45 c46 c47 c48 c49 c50 c51 c52 c53 c54 c55 c56 c57 c58 c59 c60 c61 c62 c63 c64 c65 c66 c67 c68 c69 c70 c71 c72 c73 c74 c75 c76 c77 c78 c79 c80 c81 c82 c83 c84 c85 c86 c87 c88 c89 c90 c91 c92 c93 c94 c95 c96 c97 c98 c99 c100 c101 c102 c103 c104 c105 c106 c107 c108 c109 c110 c111 c112 c113 c114 c115 c116 c117 c118 c119 c120 c121 c122 c123 c124 c125 c126 c127 c128 c129 c130 c131 c132 c133 c134 c135 c136 c137 c138 c139 c140 c141 c142 c143 c144 c145 c146 c147 c148 c149 c150 c151 c152 c153 c154 c155 c156 c157 c158 c159 c160 c161 c162 c163 c164 c165 c166 c167 c168 c169 c170 c171 c172 c173 c174 c175 c176 c177 c178 c179 c180 c181:Value} (Q:Exit->Act->World->Prop)
  (HK:Hid (∀(hv':Value) (w':World) (u163 u164 u165 u166 u167 u168 u169 u170 u171 u172 u173 u174 u175 u176 u177:Value),HSt bs bb w0 g tv dv vv nv hv' (hist++[(BQ,(i:Int),(i:Int))]) w'->Q .normal ⟨#[c0,c1,c2,.pointer (some bb),c4,c5,c6,c7,c8,c9,c10,.int .i64 (i:Int),c12,c13,c14,c15,c16,c17,c18,c19,c20,c21,c22,c23,c24,c25,c26,c27,c28,c29,c30,c31,c32,c33,c34,c35,c36,c37,c38,c39,c40,c41,c42,c43,c44,c45,c46,c47,c48,c49,c50,c51,c52,c53,c54,c55,c56,c57,c58,c59,c60,c61,c62,c63,c64,c65,c66,c67,c68,c69,c70,c71,c72,c73,c74,c75,c76,c77,c78,c79,c80,c81,c82,c83,c84,c85,c86,c87,c88,c89,c90,c91,c92,c93,c94,c95,c96,c97,c98,c99,c100,c101,c102,c103,c104,c105,c106,c107,c108,c109,c110,c111,c112,c113,c114,c115,c116,c117,c118,c119,c120,c121,c122,c123,c124,c125,c126,c127,c128,c129,c130,c131,c132,c133,c134,c135,c136,c137,c138,c139,c140,c141,c142,c143,c144,c145,c146,c147,c148,c149,c150,c151,c152,c153,c154,c155,c156,c157,c158,c159,c160,c161,c162,u163,u164,u165,u166,u167,u168,u169,u170,u171,u172,u173,u174,u175,u176,u177,c178,c179,c180,c181],[]⟩ w')) :
  Code.wp prog (nA 25) Q ⟨#[c0,c1,c2,.pointer (some bb),c4,c5,c6,c7,c8,c9,c10,.int .i64 (i:Int),c12,c13,c14,c15,c16,c17,c18,c19,c20,c21,c22,c23,c24,c25,c26,c27,c28,c29,c30,c31,c32,c33,c34,c35,c36,c37,c38,c39,c40,c41,c42,c43,c44,c45,c46,c47,c48,c49,c50,c51,c52,c53,c54,c55,c56,c57,c58,c59,c60,c61,c62,c63,c64,c65,c66,c67,c68,c69,c70,c71,c72,c73,c74,c75,c76,c77,c78,c79,c80,c81,c82,c83,c84,c85,c86,c87,c88,c89,c90,c91,c92,c93,c94,c95,c96,c97,c98,c99,c100,c101,c102,c103,c104,c105,c106,c107,c108,c109,c110,c111,c112,c113,c114,c115,c116,c117,c118,c119,c120,c121,c122,c123,c124,c125,c126,c127,c128,c129,c130,c131,c132,c133,c134,c135,c136,c137,c138,c139,c140,c141,c142,c143,c144,c145,c146,c147,c148,c149,c150,c151,c152,c153,c154,c155,c156,c157,c158,c159,c160,c161,c162,c163,c164,c165,c166,c167,c168,c169,c170,c171,c172,c173,c174,c175,c176,c177,c178,c179,c180,c181],[]⟩ w:=by
 conv=>arg 2;whnf
 have hlt:=D0.lt;have cX:=D0.Gj;have hc:=cr D0.blk 9 _ rfl;have hw2:IntKind.u64.wrap (i:Int)=(i:Int):=IntWalk.u64_in _ TcN;have D1:=D0.below (ae w (.cells #[.string ⟨#[111,108,100]⟩,.int .u64 (i:Int),.int .i64 (i:Int)] 62));have OS:bb<(w.alloc (.cells #[.string ⟨#[111,108,100]⟩,.int .u64 (i:Int),.int .i64 (i:Int)] 62)).heap.size:=D1.Gj;obtain⟨i0,hi,hz0,hz1,hz2⟩:=gg Ef;have HI:=aa hi;clear hi;have H0:=aa hz0;clear hz0;have H1:=aa hz1;clear hz1;have H2:=aa hz2;clear hz2;have HD1:=aa D1;clear D1;go_wp2_with(at_builtin;refine dX lF.moves underlying30 HI.o H0.o H1.o H2.o rfl TcQ TcQ rfl _ _ rfl (bb+1) (fun _=>False) hv hist (BQ,(i:Int),(i:Int)) rfl ?d1 w.heap.size 1 [.string ⟨#[111,108,100]⟩,.int .u64 (i:Int),.int .i64 (i:Int)] rfl rfl ?d2 ?d3 ?d4 ?d5 ?d6 ?d7 ?_)
 case d1 =>
  obtain⟨cs,ho,hf⟩:=HD1.o.own;exact⟨cs,ho,tY _ _ hf⟩
 case d2=>exact rfl
 case d3=>simp[Value.oneCell']
 all_goals first|(case d4=>(intro j y hy;exact aD rfl Tc6))|(case d5=>omega)|(case d6=>omega)|(case d7=>exact fun _ _ f=>f)|skip
 intro gb cap w3 hp;obtain⟨D3,hx⟩:=HD1.o.push hp;have y7:w3.cell? (Tac bb 9)=some hv:=by simp[World.cell?,hx,HD1.o.blk]
 have yf:w3.frozen? (Tac bb 9)=false:=by simp[World.frozen?,hx,HD1.o.blk]
 clear hp hx hc;go_wp2;exact HK.o _ _ _ _ _ _ _ _ _ _ _ _ _ _ _ _ _ D3
theorem TdM{p:Prop}(h:p:=by simp only[dE];omega):p:=h
theorem wN{X:Nat->Prop}{vb vc sb M:Nat}{next:List Int}{vs:List ay}{on:ByteArray}{mz n s:Int}(h:eW X w bs bb nv (.slice (some vb) (M+1) vc) g next)(hk:BOk g next)(hM:vs.length=M)(hg:g.F9=vs++[eD name mz false n on s])(hn:1<=n/\n<=4)(hT:w.cell? (vb,M*6+5)=some (.slice (some sb) 1 1))
  (c0 c1 c2 c4 c5 c6 c7 c8 c9 c10 c11 c12 c13 c14 c15 c16 c17 c18 c19 c20 c21 c22 c23 c24 c25 c26 c27 c28 c29 c30 c31 c32 c33 c34 c35 c36 c37 c38 c39 c40 c41 c42 c43 c44 c45 c46 c47 c48 c49 c50 c51 c52 c53 c54 c55 c56 c57 c58 c59 c60 c61 c62 c63 c64 c65 c66 c67 c68 c69 c70 c71 c72 c73 c74 c75 c76 c77 c78 c79 c80 c81 c82 c83 c84 c85 c86 c87 c88 c89 c90 c91 c92 c93 c94 c95 c96 c97 c98 c99 c100 c101 c102 c103 c104 c105 c106 c107 c108 c109 c110 c111 c112 c113 c114 c115 c116 c117 c118 c119 c120 c121 c122 c123 c124 c125 c126 c127 c128 c129 c130 c131 c132 c133 c134 c135 c136 c137 c138 c139 c140 c141 c142 c143 c144 c145 c146 c147 c148 c149 c150 c151 c152 c153 c154 c155 c156 c157 c158 c159 c160 c161 c162 c163 c164 c165 c166 c167 c168 c169 c170 c171 c172 c173 c174 c175 c176 c177 c178 c179 c180 c181:Value) (Q:Exit->Act->World->Prop) (hQ:∀c (a:Act) (d:Tmp) (v:Value) w,Q (.panic c) (a.put (some d) v) w->Q (.panic c) a w)
  (HK:Hid (∀(Gf:List aB) (ps:List (ByteArray × Int × Int)) (next':List Int) (w':World) (u122 u123 u124 u125 u126 u127 u128 u129 u130 u131 u132 u133 u134 u135 u136 u137 u138 u139 u140 u141 u142 u143 u144 u145 u146 u147 u148 u149 u150:Value),fB (eD name mz false n on s).Gf Gf->Gf.length<=3->fZ g.Gb next ps next'->List.Sublist ((Gf.drop 1).flatMap iG) ps->aH X bs bb nv (.slice (some vb) (M+1) vc) w w' nv (.slice (some vb) (M+1) vc) { g with F9:=vs++[⟨name,mz,false,false,[],Gf⟩] } next'->Q .normal ⟨#[c0,c1,c2,.pointer (some bb),c4,c5,c6,c7,c8,c9,c10,c11,c12,c13,c14,c15,c16,c17,c18,c19,c20,c21,c22,c23,c24,c25,c26,c27,c28,c29,c30,c31,c32,c33,c34,c35,c36,c37,c38,c39,c40,c41,c42,c43,c44,c45,c46,c47,c48,c49,c50,c51,c52,c53,c54,c55,c56,c57,c58,c59,c60,c61,c62,c63,c64,c65,c66,c67,c68,c69,c70,c71,c72,c73,c74,c75,c76,c77,c78,c79,c80,c81,c82,c83,c84,c85,c86,c87,c88,c89,c90,c91,c92,c93,c94,c95,c96,c97,c98,c99,c100,c101,c102,c103,c104,c105,c106,c107,c108,c109,c110,c111,c112,c113,c114,c115,c116,c117,c118,c119,c120,c121,u122,u123,u124,u125,u126,u127,u128,u129,u130,u131,u132,u133,u134,u135,u136,u137,u138,u139,u140,u141,u142,u143,u144,u145,u146,u147,u148,u149,u150,c151,c152,c153,c154,c155,c156,c157,c158,c159,c160,c161,c162,c163,c164,c165,c166,c167,c168,c169,c170,c171,c172,c173,c174,c175,c176,c177,c178,c179,c180,c181],[]⟩ w')) :
  Code.wp prog (nA 19) Q ⟨#[c0,c1,c2,.pointer (some bb),c4,c5,c6,c7,c8,c9,c10,c11,c12,c13,c14,c15,c16,c17,c18,c19,c20,c21,c22,c23,c24,c25,c26,c27,c28,c29,c30,c31,c32,c33,c34,c35,c36,c37,c38,c39,c40,c41,c42,c43,c44,c45,c46,c47,c48,c49,c50,c51,c52,c53,c54,c55,c56,c57,c58,c59,c60,c61,c62,c63,c64,c65,c66,c67,c68,c69,c70,c71,c72,c73,c74,c75,c76,c77,c78,c79,c80,c81,c82,c83,c84,c85,c86,c87,c88,c89,c90,c91,c92,c93,c94,c95,c96,c97,c98,c99,c100,c101,c102,c103,c104,c105,c106,c107,c108,c109,c110,c111,c112,c113,c114,c115,c116,c117,c118,c119,c120,c121,c122,c123,c124,c125,c126,c127,c128,c129,c130,c131,c132,c133,c134,c135,c136,c137,c138,c139,c140,c141,c142,c143,c144,c145,c146,c147,c148,c149,c150,c151,c152,c153,c154,c155,c156,c157,c158,c159,c160,c161,c162,c163,c164,c165,c166,c167,c168,c169,c170,c171,c172,c173,c174,c175,c176,c177,c178,c179,c180,c181],[]⟩ w:=by
 conv=>arg 2;whnf
 have hlt:=h.lt;have cX:=h.Gj;have mb:=hk.vl;have hM1:M<=99:=by rw[hg,cD,hM]at mb;simp at mb;omega
 clear mb;have hc8:=h.c8;have hle:(vs++[eD name mz false n on s]).length=M+1:=by simp[hM]
 obtain⟨cl,ho,hf⟩:=h.ownV;rw[hg]at ho hf;rw[hle]at ho;have ij:M+1<=vc/\vc<=9223372036854775807:=by
  rcases ho.2 with⟨e,_⟩|⟨g0,c0,cur,e,_,_,h1,h2,_⟩
  ·cases e
  injection e with _ _ e3;subst e3;exact⟨h1,by unfold maxLen at h2;omega⟩
 have Q6:=ij.1;have ar5:=ij.2;clear ij;obtain⟨c,u,rfl,hc,hu,hv⟩:=Flat.last vs cl hf;have XJ:=Flat.length _ _ hc;rw[hM]at XJ;obtain⟨tv,sv,rfl,ht,hs⟩:=hv;obtain⟨tp,tc,ht1,ht2,ht3,_⟩:=ht;obtain rfl:tv=.slice tp 0 tc:=by injection ht1
 have hcc:∀(j:Nat) (z:Value),[.string name,.int .u64 mz,.bool false,.bool false,.slice tp 0 tc,sv][j]?=some z->w.cell? ⟨vb,M*6+j,none⟩=some z:=fun j z hz=>by
  have hj:j<6:=(List.getElem?_eq_some_iff.1 hz).1;rw[ho.cellAt (M*6+j) TcN,Cp TcN,XJ,Nat.add_sub_cancel_left];exact hz
 obtain⟨q0,q1,q2,q3,q4,q5⟩:=sv6 hcc;obtain rfl:sv=.slice (some sb) 1 1:=by rw[hT]at q5;injection q5 with q5;exact q5.symm
 have HT:Hid (iL bC 11 (okB X bb nv (.slice (some vb) (M+1) vc)) w (.slice (some sb) 1 1) [dE n on s]):=by
  obtain⟨p,c,e,_,_,h3⟩:=hs;obtain⟨b,o,rfl,hb,gR,hcv⟩:=h3 (by simp[eD]);obtain⟨rfl,rfl⟩:sb=b/\0=o:=by
   injection e with e;injection e with e;injection e with e;injection e with e1 e2;exact⟨e1,e2⟩
  obtain⟨u,hu,hv,hc⟩:=hcv 0 _ rfl;refine aa ⟨sb,u,rfl,hb,gR,Flat.one hu hv ?_,fun j y hy=>by simpa using hc j y hy,TcO⟩;obtain⟨a,st,rfl,⟨_,_,ea,_⟩,⟨_,_,es',_⟩⟩:=hv;obtain rfl:=List.singleton_inj.1 ea;obtain rfl:=List.singleton_inj.1 es';simp[Value.oneCell']
 clear hcc hT hs ht1 hu hc hf ho XJ;refine aZ (fun w'=>w'.cell? (Tac bb 8)=some (.slice (some vb) (M+1) vc)) 28 [0,1,2,3,5,6,7,8,12,13,14,15,16,18,19,20,21] TcP hc8 (fun hHeld=>?_);have hwM:IntKind.i64.wrap (M:Int)=(M:Int):=dy _ TcN;have z1:(0:Int)<=(M:Int):=by omega
 have z2:(M:Int)<(M:Int)+1:=by omega
 refine gC hQ 0 ?_;refine gC hQ 1 ?_;refine gC hQ 2 ?_;refine gC hQ 3 ?_;refine gC hQ 5 ?_;refine gC hQ 6 ?_;refine gC hQ 7 ?_;refine gC hQ 8 ?_;refine gC hQ 12 ?_;refine gC hQ 13 ?_;refine gC hQ 14 ?_;refine gC hQ 15 ?_;refine gC hQ 16 ?_;refine gC hQ 18 ?_;refine gC hQ 19 ?_;refine gC hQ 20 ?_;refine gC hQ 21 ?_;refine cH hQ 4 hHeld ?_;refine cH hQ 9 hHeld ?_;refine cH hQ 17 hHeld ?_;refine cH hQ 22 hHeld ?_;refine cH hQ 10 hHeld ?_;refine cH hQ 11 hHeld ?_;refine cH hQ 23 hHeld ?_;refine cH hQ 24 hHeld ?_;refine cH hQ 25 hHeld ?_;have h1:=h.below ((bj _ _).drew);have hwd0:w.drew.heap=w.heap:=rfl;have d0:w.drew.cell? (vb,M*6)=_:=q0;have d1:w.drew.cell? (vb,M*6+1)=_:=q1;have d2:w.drew.cell? (vb,M*6+2)=_:=q2;have d3:w.drew.cell? (vb,M*6+3)=_:=q3;have d4:w.drew.cell? (vb,M*6+4)=_:=q4;have d5:w.drew.cell? (vb,M*6+5)=_:=q5;refine lR 26 fun K1 hK1=>?_;go_simp;refine hK1.o _ _ hHeld ?_;clear hK1 K1 q0 q1 q2 q3 q4 q5 d0 d1 d2 d3 d4 d5;refine lR 27 fun K1 hK1=>?_;go_simp;have Rt:Hid (iL bC 11 (okB X bb nv (.slice (some vb) (M+1) vc)) w.drew (.slice (some sb) 1 1) [dE n on s]):=aa (HT.o.moves bC.moves ⟨bk _,fun _ _ q=>⟨q,rfl⟩⟩);generalize hwd:w.drew=wd at *;refine(CE X bs bb sb 0 tc tp nv _ g next wd h1 hk name mz false false (dE n on s) TdM Rt.o).mono ?_;rintro e w6 ⟨sv,Gf,ps,next',rfl,Xw,GF,DB,u9,P6,kf⟩;refine hK1.o _ _ P6.bld.c8 ?_;clear hK1 K1 hHeld HT Rt;refine aP TcP rfl ?_;simp only[cQ,cL];have B2:=aa kf;obtain⟨sp,sc,hsv,_⟩:=kf;obtain rfl:sv=.slice sp Gf.length sc:=by injection hsv
 clear hsv;obtain⟨cl,ho,hf⟩:=P6.bld.ownV;rw[hg]at ho;rw[hle]at ho;have Rn:=ho.1;have hcw:∀j,j<6->∃z,w6.cell? ⟨vb,M*6+j,none⟩=some z:=fun j hj=>by
  rw[ho.cellAt (M*6+j) TcN];exact aj cl (M*6+j) (by rw[Rn];omega)
 have Yi:=ho.frozenAt;obtain⟨z0,y0⟩:=hcw 0 TcN;obtain⟨z1',y1⟩:=hcw 1 TcN;obtain⟨z2',y2⟩:=hcw 2 TcN;obtain⟨z3,y3⟩:=hcw 3 TcN;obtain⟨z4,y4⟩:=hcw 4 TcN;obtain⟨z5,y5⟩:=hcw 5 TcN;replace y0:w6.cell? (vb,M*6)=some z0:=y0;clear hcw ho hf Rn;have P0:aH X bs bb nv (.slice (some vb) (M+1) vc) w wd nv (.slice (some vb) (M+1) vc) g next:=by rw[<- hwd];exact(aH.refl h).drewN 1
 have HP:=aa (P0.trans P6);clear P0 P6 h1;go_wp2;subst hM;exact HK.o Gf ps next' _ _ _ _ _ _ _ _ _ _ _ _ _ _ _ _ _ _ _ _ _ _ _ _ _ _ _ _ _ _ Xw GF DB u9 (HP.o.setLast hg ⟨_,_,rfl,⟨tp,tc,rfl,ht2,ht3,fun q=>absurd q TcO⟩,B2.o⟩ Tc0)
structure sU(g:af):Prop where
 ex:∃(c:Nat) (g0 g1:af) (next:List Int),c<=4/\g0.name=vgT/\(0<=g0.id/\g0.id<=999)/\(0<=g0.seq/\g0.seq<=49)/\g0.Gd∈([1,2,4,8,16]:List Int)/\g0.next=0/\List.Sublist g0.tags iQ/\g0.F9=[]/\g0.history=[] /\
  (1<=g0.Gb.length/\g0.Gb.length<=4)/\(∀(k:Nat) (D:az),g0.Gb[k]?=some D->rH k D)/\bZ c g0 (List.replicate g0.Gb.length 0) 0 g1 next/\g={ g1 with history:=g.history }/\g.history.length<=2/\∀x∈g.history,∃i:Nat,1<=i/\i<=2/\x=(BQ,(i:Int),(i:Int))
def uX(bs:Nat)(w:World)(e:Ending)(w':World):Prop :=
 ∃(g:af) (t d v h:Value),e=.returned (.agg #[.string g.name,.int .u64 g.id,.int .i64 g.seq,.int .i64 g.Gd,.int .i64 g.next,t,d,v,h]) /\
  EU (fun b=>w.heap.size<=b) w' [.string g.name,.int .u64 g.id,.int .i64 g.seq,.int .i64 g.Gd,.int .i64 g.next,t,d,v,h] g/\sU g/\Src w' bs/\Str w w'/\w.heap.size<=w'.heap.size/\∀k,k<w.heap.size->k≠bs->w'.heap[k]?=w.heap[k]?
def ze(w:World)(b o:Nat):List Value->World
 |[]=>w
 |v :: l=>ze (w.setCell (b,o) v) b (o+1) l
theorem nY(h:k≠b):∀(l:List Value) (w:World) (o:Nat),(ze w b o l).heap[k]?=w.heap[k]?
 |[],_,_=>rfl
 |v :: l,w,o=>(nY h l _ _).trans (bw w ⟨b,o,none⟩ v k h)
theorem og(b:Nat):∀(l:List Value) (w:World) (o:Nat),(ze w b o l).heap.size=w.heap.size
 |[],_,_=>rfl
 |v :: l,w,o=>(og b l _ _).trans TcY
theorem ql(b:Nat):∀(l:List Value) (w:World) (o:Nat),Str w (ze w b o l)
 |[],w,_=>Str.refl w
 |v :: l,w,o=>Str.trans (b:=w.setCell (b,o) v) ⟨rfl,rfl,rfl⟩ (ql b l _ _)
def Ff(cs:Array Value)(o:Nat):List Value->Array Value
 |[]=>cs
 |v :: l=>Ff (cs.setIfInBounds o v) (o+1) l
theorem wO{t:TypeId}:∀(l:List Value) (w:World) (o:Nat) (cs:Array Value),w.heap[b]?=some (.cells cs t (0,0))->(ze w b o l).heap[b]?=some (.cells (Ff cs o l) t (0,0))
 |[],_,_,_,h=>h
 |v :: l,_w,o,_cs,h=>wO l _ _ _ (block_setCell (i:=o) v h)
def TaA(x0:Option Addr):Tab #[.pointer x0,.string ⟨#[]⟩,.int .u64 0,.int .i64 0,.int .i64 0,.int .i64 0,.slice none 0 0,.slice none 0 0,.slice none 0 0,.slice none 0 0,.slice none 0 0]:=⟨⟩
structure pJ(bs R:Nat)(w0 W:World):Prop where
 src:Src W bs
 lt:bs<R
 blk:W.heap[R+1]?=some (.cells (TaA (some ⟨bs,0,none⟩)) 49 (0,0))
 old:∀k,k<R+1->k≠bs->W.heap[k]?=w0.heap[k]?
 str:Str w0 W
section
variable {bs R:Nat}{w0 W W':World}
theorem pJ.keep(h:pJ bs R w0 W)(hst:Str W W')(hs:Src W' bs)(hk:∀k,k<W.heap.size->k≠bs->W'.heap[k]?=W.heap[k]?):pJ bs R w0 W':=by
 have hl:=h.lt;have hb:=aq h.blk;exact⟨hs,hl,(hk _ hb TcN).trans h.blk,fun k h1 h2=>(hk k TcN h2).trans (h.old k h1 h2),h.str.trans hst⟩
theorem pJ.read(h:pJ bs R w0 W)(hs:Src W' bs)(hm:cR (fun i=>i=bs) W W'):pJ bs R w0 W':=h.keep hm.str hs fun k h1 h2=>hm.block k h1 h2
theorem pJ.below(h:pJ bs R w0 W)(hb:Below W.heap.size W W'):pJ bs R w0 W':=h.keep (ow hb) (h.src.keep fun i hi=>hb.block i (by have:=h.lt;have:=aq h.blk;omega)) fun k h1 _=>hb.block k h1
theorem pJ.dst{id seq ext:Int}{tags:List ByteArray}{tv:Value}(h:pJ bs R w0 W)(ht:b6 aF 1 (fun k=>R+1<k) W [tv] tags) :
  vy bs (R+1) id seq ext tags w0 tv (.slice none 0 0) (.slice none 0 0) [] [] (ze W (R+1) 1 [(.string vgT),(.int .u64 id),(.int .i64 seq),(.int .i64 ext),(.int .i64 0),tv,(.slice none 0 0),(.slice none 0 0),(.slice none 0 0)]):=by
 have hl:=h.lt;have kk:=fun k e=>nY (b:=R+1) (k:=k) e [(.string vgT),(.int .u64 id),(.int .i64 seq),(.int .i64 ext),(.int .i64 0),tv,(.slice none 0 0),(.slice none 0 0),(.slice none 0 0)] W 1;have hz:=og (R+1) [(.string vgT),(.int .u64 id),(.int .i64 seq),(.int .i64 ext),(.int .i64 0),tv,(.slice none 0 0),(.slice none 0 0),(.slice none 0 0)] W 1;have hst:=ql (R+1) [(.string vgT),(.int .u64 id),(.int .i64 seq),(.int .i64 ext),(.int .i64 0),tv,(.slice none 0 0),(.slice none 0 0),(.slice none 0 0)] W 1;have hb:=wO [(.string vgT),(.int .u64 id),(.int .i64 seq),(.int .i64 ext),(.int .i64 0),tv,(.slice none 0 0),(.slice none 0 0),(.slice none 0 0)] W 1 _ h.blk;simp only[Ff,xT,List.set_cons_zero,List.set_cons_succ,Nat.reduceAdd]at hb;generalize ze W (R+1) 1 [(.string vgT),(.int .u64 id),(.int .i64 seq),(.int .i64 ext),(.int .i64 0),tv,(.slice none 0 0),(.slice none 0 0),(.slice none 0 0)]=V at *;exact⟨h.src.keep fun i hi=>kk i TcN,TcN,hb,(b6.moves aF.moves).mv ⟨TcN,fun b _ q=>⟨⟨q,fun e=>Tde,fun e=>Tde⟩,kk b TcN⟩⟩ ht,⟨[],gS _ _ _ 7,rfl⟩,eG.nil _ _,fun k e=>Tde,fun k h1 h2=>(kk k TcN).trans (h.old k h1 h2),h.str.trans hst⟩
end
theorem UR{p:Prop}(h:p):p:=h
def Taz :Tab #[.string ⟨#[97]⟩,.string ⟨#[98]⟩,.string ⟨#[99]⟩,.string ⟨#[100]⟩,.string ⟨#[101]⟩]:=⟨⟩
def Tat :Tab #[.string ⟨#[]⟩,.int .u64 0,.int .i64 0,.int .i64 0,.int .i64 0,.slice none 0 0,.slice none 0 0,.slice none 0 0,.slice none 0 0]:=⟨⟩
theorem Ca(bs:Nat)(w:World)(h:Src w bs):Calls prog 6 #[.pointer (some bs)] w (uX bs w):=by
 have gO:=h.lt;go_enter func6,ntmps6
 have P1:pJ bs w.heap.size (w.alloc (.cells Tat 32)) ((w.alloc (.cells Tat 32)).alloc (.cells (TaA (some ⟨bs,0,none⟩)) 49)):=by
  have hz:(w.alloc (.cells Tat 32)).heap.size=w.heap.size+1:=by simp
  refine⟨h.keep fun i hi=>?_,gO,?_,fun k h1 _=>cj _ _ _ TcN,⟨rfl,rfl,rfl⟩⟩
  ·rw[cj _ _ _ TcN,cj _ _ _ TcN]
  have:=b9 (w.alloc (.cells Tat 32)) (.cells (TaA (some ⟨bs,0,none⟩)) 49);rw[hz]at this;exact this
 have HG0:=aa (b9 w (.cells Tat 32));go_wp2_with fail;refine(bY bs 1000 _ TcN TcN P1.src).mono ?_;rintro e w2 ⟨id,rfl,Xx,ae0,hs,hm⟩;have P2:=P1.read hs hm;clear hs hm P1;have hw1:IntKind.u64.wrap id=id:=IntWalk.u64_in _ TcN;have HSw:Hid (Str w (w.alloc (.cells Tat 32))):=aa ⟨rfl,rfl,rfl⟩;have Xy:Hid (∀k,k<w.heap.size->(w.alloc (.cells Tat 32)).heap[k]?=w.heap[k]?):=aa fun k hk=>cj _ _ _ hk;generalize hR:w.heap.size=R at *;generalize hw0:w.alloc _=w0 at *;clear hw0
 go_wp2_with fail;refine(bY bs 50 _ TcN TcN P2.src).mono ?_;rintro e w3 ⟨seq,rfl,Xz,ae1,hs,hm⟩;have P3:=P2.read hs hm;clear hs hm P2;have P4:=P3.below (ae w3 (.cells #[.int .i64 1,.int .i64 2,.int .i64 4,.int .i64 8,.int .i64 16] 3));have UF:Hid (ig (w3.alloc (.cells #[.int .i64 1,.int .i64 2,.int .i64 4,.int .i64 8,.int .i64 16] 3)) w3.heap.size 0 [1,2,4,8,16]):=aa (mo w3 _ [1,2,4,8,16]);have hb3:=aq P3.blk;go_wp2_with fail;refine(jD bs w3.heap.size 5 [1,2,4,8,16] _ TcO TcO TcO TcN TcO TcN UF.o P4.src).mono ?_;rintro e w5 ⟨ext,rfl,ah9,hs,hm⟩;have P5:=P4.read hs hm;clear hs hm P3 P4 UF hb3;go_wp2_with fail;refine(qY bs _ P5.src).mono ?_;rintro e w6 ⟨tv,tags,rfl,u9,ew,hs,hm⟩;have XA:=ew;obtain⟨tp,tc,Qd,_⟩:=XA;obtain rfl:tv=.slice tp tags.length tc:=by injection Qd
 clear Qd;have P6:=P5.read hs hm;have hb5:=aq P5.blk;have D1:=P6.dst (id:=id) (seq:=seq) (ext:=ext) (tags:=tags) (tv:=.slice tp tags.length tc) ((b6.moves aF.moves).mv ⟨bk _,fun b _ q=>⟨by have:w5.heap.size<=b:=q;omega,rfl⟩⟩ ew);have qL:=cr P6.blk;have y1:=qL 1 _ rfl;have y2:=qL 2 _ rfl;have y3:=qL 3 _ rfl;have y4:=qL 4 _ rfl;have y5:=qL 5 _ rfl;have y6:=qL 6 _ rfl;have y7:=qL 7 _ rfl;have y8:=qL 8 _ rfl;have y9:=qL 9 _ rfl;have yf:=sr P6.blk;clear qL hs hm P5 ew;have HD1:=aa D1;clear D1;have V4:=aa P6;clear P6;have ox:=aa u9;clear u9;have Ss:=aa ah9;clear ah9;go_wp2_with fail;have D1:vy bs (R+1) id seq ext tags w0 (.slice tp tags.length tc) (.slice none 0 0) (.slice none 0 0) [] [] (World.setCell (World.setCell (World.setCell (World.setCell (World.setCell (World.setCell (World.setCell (World.setCell (World.setCell w6 ⟨R+1,1,none⟩ (.string ⟨#[118,103]⟩)) ⟨R+1,2,none⟩ (.int .u64 id)) ⟨R+1,3,none⟩ (.int .i64 seq)) ⟨R+1,4,none⟩ (.int .i64 ext)) ⟨R+1,5,none⟩ (.int .i64 0)) ⟨R+1,6,none⟩ (.slice tp tags.length tc)) ⟨R+1,7,none⟩ (.slice none 0 0)) ⟨R+1,8,none⟩ (.slice none 0 0)) ⟨R+1,9,none⟩ (.slice none 0 0)):=HD1.o;generalize hW7:(World.setCell (World.setCell (World.setCell (World.setCell (World.setCell (World.setCell (World.setCell (World.setCell (World.setCell w6 ⟨R+1,1,none⟩ (.string ⟨#[118,103]⟩)) ⟨R+1,2,none⟩ (.int .u64 id)) ⟨R+1,3,none⟩ (.int .i64 seq)) ⟨R+1,4,none⟩ (.int .i64 ext)) ⟨R+1,5,none⟩ (.int .i64 0)) ⟨R+1,6,none⟩ (.slice tp tags.length tc)) ⟨R+1,7,none⟩ (.slice none 0 0)) ⟨R+1,8,none⟩ (.slice none 0 0)) ⟨R+1,9,none⟩ (.slice none 0 0))=W7 at *;clear hW7 HD1 V4 y1 y2 y3 y4 y5 y6 y7 y8 y9 yf hb5 hw1;refine(bO bs 1 4 _ TcN TcN TcN D1.src).mono ?_;rintro e w8 ⟨Zh,rfl,ae2,ae3,hs,hm⟩;have D2:=D1.read hs hm;clear hs hm D1;obtain⟨nd,rfl⟩:∃u:Nat,Zh=u:=⟨Zh.toNat,TcN⟩;have hRw:=D2.Gj;go_wp2
 go_loopw[5] (fun i wr=>∃(c:Nat) (dv nv:Value) (Gb:List az),c+Gb.length=nd/\i=.int .i64 c/\(∀(k:Nat) (D:az),Gb[k]?=some D->rH k D)/\vy bs (R+1) id seq ext tags w0 (.slice tp tags.length tc) dv nv Gb (List.replicate Gb.length 0) wr) (fun i _=>(intOf i).toNat)
 exact⟨nd,_,_,[],TcO,rfl,(fun k D hD=>by simp at hD),D2⟩;obtain⟨c,dv,nv,Gb,Xu,rfl,hdk,D⟩:=hrel;have Q8:=aa hdk;clear hdk;by_cases hc0:c=0
 ·subst hc0;have hd0:decide ((0:Int)<((0:Nat):Int))=false:=by simp
  have CD:Gb.length=nd:=by omega
  have hB2:eW (fun k=>k=wr.heap.size) (wr.alloc (.cells Taz 9)) bs (R+1) nv (.slice none 0 0) ⟨vgT,id,seq,ext,0,tags,Gb,[],[]⟩ (List.replicate Gb.length 0):=D.bld.fresh (ae _ _) (fun k hk=>.inr ⟨TcN,TcS⟩);have hold2:∀k,k<R+1->k≠bs->(wr.alloc (.cells Taz 9)).heap[k]?=w0.heap[k]?:=fun k h1 h2=>(cj _ _ _ (by have:=D.Gj;omega)).trans (D.old k h1 h2);have Tb:=aa (b9 wr (.cells Taz 9));have HO2:=aa hold2;clear hold2;have Ov:Str w0 (wr.alloc (.cells Taz 9)):=D.str.trans ⟨rfl,rfl,rfl⟩;have HS2:=aa Ov;clear Ov;have hlt2:=D.lt;clear D
  go_wp2_with fail;generalize hwA:wr.alloc _=wA at *;generalize hNB:wr.heap.size=NB at *;clear hwA hNB;refine(bY bs 5 _ TcN TcN hB2.src).mono ?_;rintro e w10 ⟨cv,rfl,hcv1,hcv2,hs,hm⟩;obtain⟨c0,rfl⟩:∃u:Nat,cv=u:=⟨cv.toNat,TcN⟩;have P10:aH (fun k=>k=NB) bs (R+1) nv (.slice none 0 0) wA w10 nv (.slice none 0 0) ⟨vgT,id,seq,ext,0,tags,Gb,[],[]⟩ (List.replicate Gb.length 0):=hB2.readPost hs hm;clear hs hm
  have hex:1<=ext/\ext<=16:=by
   have:=Ss.o;simp only[dr,cY,dg]at this;omega
  generalize hg0:(⟨vgT,id,seq,ext,0,tags,Gb,[],[]⟩:af)=g0 at *;have hgd:g0.Gb=Gb/\g0.Gd=ext/\g0.F9=[]/\g0.next=0:=by rw[<- hg0];exact⟨rfl,rfl,rfl,rfl⟩
  have XB:=aa hg0;clear hg0;have ND:DOk g0.Gb (List.replicate Gb.length 0):=by
   rw[hgd.1];refine⟨TcO,TcN,TcN,fun D hD=>?_,fun d m hm=>?_⟩
   ·obtain⟨k,hk⟩:=fc hD;have:=(Q8.o k D hk).ext;simp only[dr,cY,dg]at this;omega
   have:=ct hm;rw[tM]at this;omega
  have HBD:Hid (∀(i:Nat) (g:af) (next:List Int),bZ c0 g0 (List.replicate Gb.length 0) i g next->Zy c0 i g0 g next):=aa fun i g next q=>bZ.bd ⟨hgd.2.2.1,hgd.2.2.2⟩ (by rw[hgd.2.1];exact hex) ND q;have Zi:=aa hgd;clear hgd;clear ND
  go_wp2;go_loopw[8] (fun i wr=>∃(c:Nat) (nv' pA:Value) (g:af) (next:List Int),i=.int .i64 c/\bZ c0 g0 (List.replicate Gb.length 0) c g next/\aH (fun k=>k=NB) bs (R+1) nv (.slice none 0 0) wA wr nv' pA g next) (fun i _=>(intOf i).toNat)
  exact⟨c0,_,_,_,_,rfl,.nil,P10⟩;obtain⟨c,nv',pA,g,next,rfl,ye,P⟩:=hrel;have bd:=HBD.o c g next ye;obtain⟨s1,s2,s3,gx,s5,gd,s7⟩:=bd.same;clear s1 s2 s3 s5 s7;have b1:=bd.le;have b2:=bd.F9;have b3:=bd.nx1;have b4:=bd.nx2;have S7:DOk g.Gb next:=by rw[gd];exact bd.dk
  have hk:BOk g next:=⟨S7,b3,TcN,TcN⟩;have K2:g.Gb.length=nd:=by rw[gd,Zi.o.1];exact CD
  have TU:g.Gd=ext:=by rw[gx];exact Zi.o.2.1
  clear bd gx gd;have PS:=aa ye;clear ye;have XC:wr.heap[NB]?=some (.cells Taz 9 (0,0)):=(P.loc hB2 rfl).trans Tb.o;by_cases hc0:c=0
  ·subst hc0;have hd1:decide ((0:Int)<((0:Nat):Int))=false:=by simp
   obtain⟨tv1,dv1,H⟩:=(P.bld.fewer (Y:=fun _=>False) (fun _ f=>f.elim)).hst (w0:=w0) (fun k h1 h2=>(P.mod.block k (by have:=hB2.Gj;omega) (fun q=>by rcases q with q|q|q|q;exact h2 q;omega;have:=(hB2.nLt q).1;omega;cases q)).trans (HO2.o k h1 h2)) (HS2.o.trans P.mod.str);clear XC P P10 K2 TU;go_wp2_with fail;refine(bY bs 3 _ TcN TcN H.src).mono ?_;rintro e w20 ⟨hcv,rfl,hh1,Zj,hs,hm⟩;obtain⟨hc,rfl⟩:∃u:Nat,hcv=u:=⟨hcv.toNat,TcN⟩;have H2:=H.read hs hm;clear hs hm H;go_wp2
   go_loopw[11] (fun i wr=>∃(c:Nat) (hv:Value) (hist:List (ByteArray × Int × Int)),c+hist.length=hc/\i=.int .i64 c/\(∀x∈hist,∃i:Nat,1<=i/\i<=2/\x=(BQ,(i:Int),(i:Int)))/\HSt bs (R+1) w0 g tv1 dv1 pA nv' hv hist wr) (fun i _=>(intOf i).toNat)
   exact⟨hc,_,[],TcO,rfl,(fun x hx=>by cases hx),H2⟩;obtain⟨c,hv,hist,hch,rfl,Zk,H⟩:=hrel;have Zl:=aa Zk;clear Zk;by_cases hc0:c=0
   ·subst hc0;have hd4:decide ((0:Int)<((0:Nat):Int))=false:=by simp
    obtain⟨p1,a1,f1,_⟩:=UR H.rt;obtain rfl:=List.singleton_inj.1 f1;obtain⟨p2,a2,f2,_⟩:=UR H.rd;obtain rfl:=List.singleton_inj.1 f2;obtain⟨p3,a3,f3,_⟩:=UR H.rv;obtain rfl:=List.singleton_inj.1 f3;have hro:b6 lF 3 (fun b=>R+1<b) wr [hv] hist:=H.own.rd lF.moves TcQ (fun b _ q=>q.1) (fun b e=>(H.hLt e).1);obtain⟨p4,a4,f4,_⟩:=UR hro;obtain rfl:=List.singleton_inj.1 f4;clear f1 f2 f3 f4;have qL:=cr H.blk;have y1:=qL 1 _ rfl;have y2:=qL 2 _ rfl;have y3:=qL 3 _ rfl;have y4:=qL 4 _ rfl;have y5:=qL 5 _ rfl;have y6:=qL 6 _ rfl;have y7:=qL 7 _ rfl;have y8:=qL 8 _ rfl;have y9:=qL 9 _ rfl;have hlt3:=H.lt;have XD:wr.heap[R]?=_:=(H.old R TcN TcN).trans HG0.o;have rL:=cr XD;obtain⟨r0,r1,r2,r3,r4,r5,r6,r7,r8⟩:=xr rL;have rf:=sr XD;clear qL rL XD;have HH:=aa H;clear H;have XE:=aa hro;clear hro;go_wp2;refine eC (v:=.agg #[.string g.name,.int .u64 g.id,.int .i64 g.seq,.int .i64 g.Gd,.int .i64 g.next,.slice p1 g.tags.length a1,.slice p2 g.Gb.length a2,.slice p3 g.F9.length a3,.slice p4 hist.length a4]) (by simp[results,Tryz.results6,go_sem,r0,r1,r2,r3,r4,r5,r6,r7,r8]) rfl ?_;have kk:=fun k (e:k≠R)=>nY (b:=R) (k:=k) e [.string g.name,.int .u64 g.id,.int .i64 g.seq,.int .i64 g.Gd,.int .i64 g.next,.slice p1 g.tags.length a1,.slice p2 g.Gb.length a2,.slice p3 g.F9.length a3,.slice p4 hist.length a4] wr 0;have hst:=ql R [.string g.name,.int .u64 g.id,.int .i64 g.seq,.int .i64 g.Gd,.int .i64 g.next,.slice p1 g.tags.length a1,.slice p2 g.Gb.length a2,.slice p3 g.F9.length a3,.slice p4 hist.length a4] wr 0;have hz:=og R [.string g.name,.int .u64 g.id,.int .i64 g.seq,.int .i64 g.Gd,.int .i64 g.next,.slice p1 g.tags.length a1,.slice p2 g.Gb.length a2,.slice p3 g.F9.length a3,.slice p4 hist.length a4] wr 0;show uX bs w _ (ze wr R 0 [.string g.name,.int .u64 g.id,.int .i64 g.seq,.int .i64 g.Gd,.int .i64 g.next,.slice p1 g.tags.length a1,.slice p2 g.Gb.length a2,.slice p3 g.F9.length a3,.slice p4 hist.length a4]);generalize ze wr R 0 [.string g.name,.int .u64 g.id,.int .i64 g.seq,.int .i64 g.Gd,.int .i64 g.next,.slice p1 g.tags.length a1,.slice p2 g.Gb.length a2,.slice p3 g.F9.length a3,.slice p4 hist.length a4]=V at *;have H:=HH.o;have hbl:=H.Gj;have hm:Mv (Mm (R+1) (.slice p4 hist.length a4)) (fun b=>w.heap.size<=b) wr V:=⟨TcN,fun b _ q=>⟨by have:=q.1;omega,kk b (by have:=q.1;omega)⟩⟩;have hm':Mv (fun b=>R+1<b) (fun b=>w.heap.size<=b) wr V:=⟨TcN,fun b _ q=>⟨TcN,kk b TcN⟩⟩;have hg0:=XB.o;subst hg0;refine⟨{ g with history:=hist },_,_,_,_,rfl,⟨_,_,_,_,rfl,(b6.moves aF.moves).mv hm H.rt,(b6.moves aO.moves).mv hm H.rd,(b6.moves aN.moves).mv hm H.rv,(b6.moves lF.moves).mv hm' XE.o⟩,⟨c0,_,g,next,TcN,rfl,⟨Xx,TcU⟩,⟨Xz,TcU⟩,Ss.o,rfl,ox.o,rfl,rfl,⟨TcU,TcU⟩,Q8.o,PS.o,rfl,TcU,Zl.o⟩,H.src.keep fun i hi=>kk i TcN,(HSw.o.trans H.str).trans hst,TcN,fun k h1 h2=>?_⟩
    rw[kk k TcN,H.old k TcN h2];exact Xy.o k TcN
   have hd4:decide ((0:Int)<(c:Int))=true:=by simp;omega
   go_upto_region 25 with(fail);refine wG H TcN TcN _ (aa ?_);intro hv1 w21 u163 u164 u165 u166 u167 u168 u169 u170 u171 u172 u173 u174 u175 u176 u177 H3;clear H;have H4:=aa H3;clear H3;go_wp2;go_roundw
   case rel =>
    refine⟨c-1,hv1,hist++[(BQ,(c:Int),(c:Int))],TcS,Tc2,fun x hx=>?_,H4.o⟩;rcases List.mem_append.1 hx with q|q
    ·exact Zl.o x q
    exact⟨c,TcN,TcN,by simpa using q⟩
   simp[intOf];omega
  have hd1:decide ((0:Int)<(c:Int))=true:=by simp;omega
  have z1:(0:Int)<=(c:Int):=by omega
  have z2:(c:Int)<5:=by omega
  have XJ:wr.cell? (NB,c)=some (.string (letter c)):=by
   simp only[World.cell?,XC];rcases(show c=1\/c=2\/c=3\/c=4 by omega)with rfl|rfl|rfl|rfl<;>rfl
  clear XC;go_wp2_with fail;refine(bY bs 8 _ TcN TcN P.bld.src).mono ?_;rintro e w11 ⟨kv,rfl,Xo,Xp,hs,hm⟩;obtain⟨k,rfl⟩:∃u:Nat,kv=u:=⟨kv.toNat,TcN⟩;have P2:=P.read hs hm;clear hs hm P XJ
  by_cases hk3:k<3
  ·have hd2:decide ((k:Int)<3)=true:=by simp;omega
   obtain⟨dp,ir,c7,l1,l2⟩:=P2.bld.c7;rw[K2]at c7 l1;go_wp2_with fail;refine(bY bs (nd:Int) _ TcN TcN P2.bld.src).mono ?_;rintro e w12 ⟨Zm,rfl,hdd1,hdd2,hs,hm⟩;obtain⟨dd,rfl⟩:∃u:Nat,Zm=u:=⟨Zm.toNat,TcN⟩;have P3:=P2.read hs hm;clear hs hm P2 c7
   go_wp2_with fail;refine(bO bs 1 4 _ TcN TcN TcN P3.bld.src).mono ?_;rintro e w13 ⟨n,rfl,hn1,hn2,hs,hm⟩;have P4:=P3.read hs hm;clear hs hm P3;go_wp2_with fail;refine(qw _ bs (R+1) nv' pA g next _ P4.bld hk (letter c) false dd n TcN hn1 TcN).mono ?_;rintro e w14 (⟨rfl,Q⟩|⟨on,s,next1,Ds,DB,rfl,Q,hT⟩)
   ·have Q2:=P4.trans Q;clear P4 Q;go_wp2;go_roundw;exact⟨c-1,_,_,_,_,Tc2,PS.o.next TcN (.linF),Q2⟩;simp[intOf];omega
   have Q2:=P4.trans Q;clear P4;obtain⟨vb,vc,sb,rfl,hcell⟩:=hT;have hk1:BOk { g with next:=g.next+1,F9:=g.F9++[eD (letter c) (oX g.id (g.next+1)) false n on s] } next1:=⟨DB.ok S7,TcU,TcU,TcS⟩
   have VN:=aa DB;clear DB;go_upto_region 19 with(fail);refine wN Q.bld hk1 rfl rfl ⟨hn1,hn2⟩ hcell _ _ _ _ _ _ _ _ _ _ _ _ _ _ _ _ _ _ _ _ _ _ _ _ _ _ _ _ _ _ _ _ _ _ _ _ _ _ _ _ _ _ _ _ _ _ _ _ _ _ _ _ _ _ _ _ _ _ _ _ _ _ _ _ _ _ _ _ _ _ _ _ _ _ _ _ _ _ _ _ _ _ _ _ _ _ _ _ _ _ _ _ _ _ _ _ _ _ _ _ _ _ _ _ _ _ _ _ _ _ _ _ _ _ _ _ _ _ _ _ _ _ _ _ _ _ _ _ _ _ _ _ _ _ _ _ _ _ _ _ _ _ _ _ _ _ _ _ _ _ _ _ _ _ _ _ _ _ _ _ _ _ _ _ _ _ _ _ _ _ _ _ _ _ _ _ _ _ _ _ _ _ (fun _ _ _ _ _ h=>h) (aa ?_);intro Gf ps next2 w15 u122 u123 u124 u125 u126 u127 u128 u129 u130 u131 u132 u133 u134 u135 u136 u137 u138 u139 u140 u141 u142 u143 u144 u145 u146 u147 u148 u149 u150 Xw GF XF u9 Q3;have Q4:=Q2.trans Q3;clear Q Q2 Q3 hcell;go_wp2;go_roundw;exact⟨c-1,_,_,_,_,Tc2,PS.o.next TcN (.lin ⟨hn1,hn2⟩ VN.o Xw GF XF u9),Q4⟩;simp[intOf];omega
  have hd2:decide ((k:Int)<3)=false:=by simp;omega
  by_cases hk33:k=3
  ·subst hk33;go_wp2_with fail;refine(vX _ bs (R+1) nv' pA g next _ P2.bld hk (letter c)).mono ?_;rintro e w12 ⟨rfl,Q⟩;have HQ:=aa Q;clear Q;go_wp2;go_roundw
   case rel =>
    rcases HQ.o with⟨ps,next1,DB,Q⟩|⟨k,n,al,next1,Ds,q1,q2,q3,q4,q5,q6,DB,Q⟩
    ·exact⟨c-1,_,_,_,_,Tc2,PS.o.next TcN (.strF DB),P2.trans Q⟩
    exact⟨c-1,_,_,_,_,Tc2,PS.o.next TcN (.str ⟨q1,q2⟩ ⟨q3,q4⟩ q5 q6 DB),P2.trans Q⟩
   simp[intOf];omega
  have hd3:((k:Int)==3)=false:=by simp;omega
  obtain⟨j,rfl⟩:∃j:Nat,k=j+4:=⟨k-4,TcN⟩
  obtain⟨kind,UK,AK⟩:∃kind:Int,([3,4,5,7]:List Int)[j]?=some kind/\(kind=3\/kind=4\/kind=5\/kind=7):=by
   rcases(show j=0\/j=1\/j=2\/j=3 by omega)with rfl|rfl|rfl|rfl
   ·exact⟨3,rfl,TcN⟩
   ·exact⟨4,rfl,TcN⟩
   ·exact⟨5,rfl,TcN⟩
   exact⟨7,rfl,TcN⟩
  have QO:(w11.alloc (.cells #[.int .i64 3,.int .i64 4,.int .i64 5,.int .i64 7] 3)).cell? (w11.heap.size,j)=some (.int .i64 kind):=by have q:=mo w11 3 [3,4,5,7] j kind UK;simpa using q
  have HKC:=aa UK;clear UK;have e4:((j+4:Nat):Int)-4=(j:Int):=by omega
  have z3:(0:Int)<=(j:Int):=by omega
  have z4:(j:Int)<4:=by omega
  have P3:=P2.after (ae w11 (.cells #[.int .i64 3,.int .i64 4,.int .i64 5,.int .i64 7] 3));clear P2;go_wp2_with fail;refine(vO _ bs (R+1) nv' pA g next _ P3.bld hk (letter c) (by show(1:Nat)<=100;omega) kind AK TcN TcN TcN TcN).mono ?_;rintro e w12 ⟨rfl,Q⟩;have HQ:=aa Q;clear Q QO;go_wp2;go_roundw
  case rel =>
   rcases HQ.o with⟨j1,GC,Ds,q1,Q⟩|⟨n,names,lengths,x,ps,vl,ro,tgs,k1,j1,tl,next1,Ds,q1,q2,q3,q4,q5,q6,q7,q8,q9,Q⟩
   ·exact⟨c-1,_,_,_,_,Tc2,PS.o.next TcN (.compF q1),P3.trans Q⟩
   exact⟨c-1,_,_,_,_,Tc2,PS.o.next TcN (.comp AK ⟨q1,q2⟩ q3 q4 q5 q6 q7 q8 q9),P3.trans Q⟩
  simp[intOf];omega
 have hd0:decide ((0:Int)<(c:Int))=true:=by simp;omega
 obtain⟨dp,ir,Xt,hd1,hd2⟩:∃p q,dv=.slice p Gb.length q/\Gb.length<=q/\q<=9223372036854775807:=by
  obtain⟨p,q,e,h1,h2,_⟩:=D.ownD.rd aO.moves TcQ (ok':=fun _=>True) (fun _ _ _=>trivial) (fun _ _=>trivial);exact⟨p,q,by injection e,h1,h2⟩
 subst Xt;have hc7:=cr D.blk 7 _ rfl;generalize hM:Gb.length=M at *;go_upto_region 8 with(fail);clear hc7;refine yY D hM TcN _ _ _ _ _ _ _ _ _ _ _ _ _ _ _ _ _ _ _ _ _ _ _ _ _ _ _ _ _ _ _ _ _ _ _ _ _ _ _ _ _ _ _ _ _ _ _ _ _ _ _ _ _ _ _ _ _ _ _ _ _ _ _ _ _ _ _ _ _ _ _ _ _ _ _ _ _ _ _ _ _ _ _ _ _ _ _ _ _ _ _ _ _ _ _ _ _ _ _ _ _ _ _ _ _ _ _ _ _ _ _ _ _ _ _ _ _ _ _ _ _ _ _ _ _ _ _ _ _ _ _ _ _ _ _ _ _ _ _ _ _ _ _ _ _ _ _ _ _ _ _ _ _ _ _ _ _ _ _ _ _ _ _ _ _ _ _ _ _ _ _ _ _ _ _ _ _ _ _ _ (fun _ _ _ _ _ h=>h) (aa ?_);intro Xs D' w9 u41 u42 u43 u44 u45 u46 u47 u48 u49 u50 u51 u52 u53 u54 u55 u56 u57 u58 u59 u60 u61 u62 u63 u64 u65 u66 u67 u68 u69 u70 u71 u72 u73 u74 u75 hD' D9;clear D;go_upto_region 9 with(fail);refine yj D9 TcS _ (aa ?_);intro nv' w10 u76 u77 u78 u79 u80 u81 u82 u83 u84 D10;clear D9;have HD10:=aa D10;clear D10;go_wp2;go_roundw
 case rel =>
  have hle:(Gb++[D']).length=M+1:=by simp[hM]
  refine⟨c-1,Xs,nv',Gb++[D'],TcN,Tc2,fun k E hE=>?_,?_⟩
  ·by_cases hk:k<M
   ·rw[Fo TcN]at hE;exact Q8.o k E hE
   have hk2:k=M:=by have:=(List.getElem?_eq_some_iff.1 hE).1;omega
   subst hk2;rw[<- hM,List.getElem?_concat_length]at hE;injection hE with hE;rw[<- hE];exact hD'
  rw[hle,List.replicate_succ'];exact HD10.o
 simp[intOf];omega
end Go.Proofs.YtillcmhjhajimaaGreatDoor
