/- Lemmas: MkN. -/
import Derived.Test.YtaagglbgohjldaaGreatDoorQv06
import Derived.Test.YtaagglbgohjldaaGreatDoorQv07
set_option maxRecDepth 100000
set_option maxHeartbeats 32000000
set_option linter.all false
namespace Go.Proofs.YtaagglbgohjldaaGreatDoor
open Go.Proofs.Tryz
open Go.RowKit
variable {α:Type}{sz B k:Nat}{t:TypeId}{w w':World}{v:Value}{names:List ByteArray}{lengths:List Int}
structure Loc (w:World)(B Lx Ln Ll:Nat)(ft fx av:Value)(names:List ByteArray)(lengths:List Int)(Ga:List aR)(xs:Value->Array Value):Prop where
 bn:w.heap[Ln]?=some (.cells #[ft] 26 (0,0))
 bl:w.heap[Ll]?=some (.cells #[fx] 22 (0,0))
 bx:w.heap[Lx]?=some (.cells (xs av) 114 (0,0))
 on:bF aF 1 9 B (fun _=>False) w ft names
 ol:bF cO 1 3 B (fun _=>False) w fx lengths
 oa:bF aQ 3 53 B (fun _=>False) w av Ga
 nl:∀ k,ft.ownBlock=some k->fx.ownBlock≠some k
 na:∀ k,ft.ownBlock=some k->av.ownBlock≠some k
 la:∀ k,fx.ownBlock=some k->av.ownBlock≠some k
 d1:Lx<Ln
 d2:Ln<Ll
 d3:Ll<B
def nJ (Lx Ln Ll:Nat)(ft fx av:Value):Nat->Prop:=fun k=>k=Lx\/k=Ln\/k=Ll\/ft.ownBlock=some k\/fx.ownBlock=some k\/av.ownBlock=some k
theorem bF.ge {V:jx α}{ok:Nat->Prop}{l:List α}(h:bF V sz t B ok w v l)(e:v.ownBlock=some k):B<=k/\k<w.heap.size:=by
 exact Tcn
theorem bF.Gl {V:jx α}(hV:Moves V){l:List α}(h:bF V sz t B (fun _=>False) w v l)(hz:w.heap.size<=w'.heap.size)(hk:∀ k,v.ownBlock=some k->w'.heap[k]?=w.heap[k]?):bF V sz t B (fun _=>False) w' v l:=by
 obtain ⟨cs,ho,hf⟩:=h;exact ⟨cs,aC ho hk,Flat.moves hV ⟨hz,fun _ _ f=>f.elim⟩ _ _ hf⟩
theorem bF.ty {V:jx α}{ok:Nat->Prop}{l:List α}(h:bF V sz t B ok w v l)(e:v.ownBlock=some k):∃ cs,w.heap[k]?=some (.cells cs t (0,0)):=by
 obtain ⟨cs,⟨_,h2⟩,_⟩:=h;rcases h2 with ⟨rfl,_⟩ | ⟨g,cap,cur,rfl,_,hg,_⟩
 ·cases e
 obtain rfl:g=k:=by injection e
 exact ⟨cur,hg⟩
theorem bF.ne {β:Type}{V:jx α}{V':jx β}{sz' B':Nat}{t':TypeId}{ok ok':Nat->Prop}{v':Value}{l:List α}{l':List β}(h:bF V sz t B ok w v l)(h':bF V' sz' t' B' ok' w v' l')(ht:t≠t'):∀ k,v.ownBlock=some k->v'.ownBlock≠some k:=fun k e e'=>by
 obtain ⟨c,hc⟩:=h.ty e;obtain ⟨c',hc'⟩:=h'.ty e';rw [hc] at hc';injection hc' with hc';injection hc' with _ q _;exact ht q
theorem bF.form {V:jx α}{ok:Nat->Prop}{l:List α}(h:bF V sz t B ok w v l):∃ p cap,v=.slice p l.length cap/\l.length<=cap/\cap<=9223372036854775807:=by
 obtain ⟨cs,⟨_,h2⟩,_⟩:=h;rcases h2 with ⟨rfl,hn⟩ | ⟨g,cap,cur,rfl,_,_,vr,hcm,_⟩
 ·exact ⟨none,0,by rw [hn],TcC,TcC⟩
 exact ⟨_,cap,rfl,vr,TcV⟩
theorem Loc.keep {Lx Ln Ll:Nat}{ft fx av:Value}{Ga:List aR}{xs:Value->Array Value}(h:Loc w B Lx Ln Ll ft fx av names lengths Ga xs)(hz:w.heap.size<=w'.heap.size)(hk:∀ k,nJ Lx Ln Ll ft fx av k->w'.heap[k]?=w.heap[k]?):Loc w' B Lx Ln Ll ft fx av names lengths Ga xs :=
 ⟨(hk Ln (.inr (.inl rfl))).trans h.bn,(hk Ll (.inr (.inr (.inl rfl)))).trans h.bl,(hk Lx (.inl rfl)).trans h.bx,h.on.Gl aF.moves hz (fun k e=>hk k (.inr (.inr (.inr (.inl e))))),h.ol.Gl cO.moves hz (fun k e=>hk k (.inr (.inr (.inr (.inr (.inl e)))))),h.oa.Gl aQ.moves hz (fun k e=>hk k (.inr (.inr (.inr (.inr (.inr e)))))),h.nl,h.na,h.la,h.d1,h.d2,h.d3⟩
structure FO (w:World)(B Lx Ln Ll:Nat)(ft fx av:Value)(names:List ByteArray)(lengths:List Int)(Ga:List aR)(xs:Value->Array Value)(s:ByteArray)(n:Int)(ar3 Kf av':Value)(w':World):Prop where
 loc:Loc w' B Lx Ln Ll ar3 Kf av' (names++[s]) (lengths++[n]) (Ga++[⟨true,s,0⟩]) xs
 mod:cR (nJ Lx Ln Ll ft fx av) w w'
 fr:∀ k,nJ Lx Ln Ll ar3 Kf av' k->nJ Lx Ln Ll ft fx av k\/(w.heap.size<=k/\k<w'.heap.size)
theorem jA (h:w.grownBy w' v.ownBlock):cR (fun k=>v.ownBlock=some k) w w':=⟨h.os,h.tape,h.output,h.size,fun k hk hn=>h.block k hk fun e=>hn e.symm⟩
theorem Tbp {p:Prop}(h:p:=by
 have hk5:=(NC.ge q).2;obtain rfl:g2=k:=by injection q
 rcases t2 with q1 | q1
 ·exact .inl (.inr (.inr (.inr (.inr (.inl q1)))))
 exact .inr ⟨TcC,hk5⟩):p:=h
theorem Tbv {p:Prop}(h:p:=by
 have hk5:=(on5.ge q).2;obtain rfl:g1=k:=by injection q
 rcases t1 with q1 | q1
 ·exact .inl (.inr (.inr (.inr (.inl q1))))
 exact .inr ⟨TcC,hk5⟩):p:=h
theorem Tbc {p:Prop}(h:p:=by
 rw [<- hW];exact ((hm.mono (G:=nJ Lx Ln Ll ft fx av) (fun k q=>q.elim (fun q=>.inr (.inr (.inr (.inl q)))) (fun q=>.inr (.inr (.inr (.inr (.inl q))))))).setCell (p:=Ln) (.inl (.inr (.inl rfl))) _).setCell (p:=Ll) (.inl (.inr (.inr (.inl rfl)))) _):p:=h
theorem Tcf {p:Prop}(h:p:=by
 rw [<- hW];exact block_setCell (cs:=#[_]) (i:=0) _ ((bw _ _ _ _ (Ne.symm x1)).trans bl)):p:=h
theorem Tbi {p:Prop}(h:p:=by
 refine ⟨fun q=>(hC.1 q).Gl aF.moves hp.grown.size (fun k e=>hp.grown.block k ((hC.1 q).ge e).2 (fun e'=>hd.nl k e e'.symm)),fun q=>by simp at q,hC.2.2.trans (jA hp.grown) (fun k e=>.inl (.inr e))⟩):p:=h
theorem TbV {p:Prop}(h:p:=by
 obtain rfl:gb=k:=by injection ek
 rcases hat with q | q
 ·exact hd.nl gb q e7
 have:=(hd.ol.ge e7).2;omega):p:=h
theorem Tbh {p:Prop}(h:p:=by
 refine ⟨fun q=>by simp at q,fun q=>(hC.2.1 q).Gl cO.moves hp.grown.size (fun k e=>hp.grown.block k ((hC.2.1 q).ge e).2 (fun e'=>hd.nl k e'.symm e)),hC.2.2.trans (jA hp.grown) (fun k e=>.inl (.inl e))⟩):p:=h
theorem Tck {p:Prop}(h:p:=by
 simp only [World.cell?,hb.2];simpa using hy):p:=h
theorem TbW {p:Prop}(h:p:=by
 obtain rfl:gb=k:=by injection ek
 rcases hat with q | q
 ·exact hd.nl gb e3 q
 have:=(hd.on.ge e3).2;omega):p:=h
theorem Tbj {p:Prop}(h:p:=by
 exact ⟨fun q=>(hC.1 q).Gl aF.moves TcD (fun k e=>cj _ _ _ ((hC.1 q).ge e).2),fun q=>(hC.2.1 q).Gl cO.moves TcD (fun k e=>cj _ _ _ ((hC.2.1 q).ge e).2),hC.2.2.alloc _⟩):p:=h
theorem TdY {p:Prop}(h:p:=by have:=(oa.ge e).1;omega):p:=h
theorem TdZ {p:Prop}(h:p:=by have:=(o2.ge e).1;omega):p:=h
theorem Td0 {p:Prop}(h:p:=by have:=(o1.ge e).1;omega):p:=h
theorem jM (w:World)(B Lx Ln Ll:Nat)(ft fx av:Value)(names:List ByteArray)(lengths:List Int)(Ga:List aR)(xs:Value->Array Value)(x0 x1 x2 x4 x5 x6 x7 x8 x9 x10:Value)(hxs:∀ v,xs v=#[x0,x1,x2,v,x4,x5,x6,x7,x8,x9,x10])(h:Loc w B Lx Ln Ll ft fx av names lengths Ga xs)(hB:B<=w.heap.size)(s:ByteArray)(n:Int)(hn:names.length<=100)(hl:lengths.length<=100)(ha:Ga.length<=100) :
  Calls prog 54 #[.string s,.int .i64 n,.pointer (some Ln),.pointer (some Ll),.pointer (some Lx)] w (fun e w'=>e=.returned (.tuple #[])/\∃ ar3 Kf av',FO w B Lx Ln Ll ft fx av names lengths Ga xs s n ar3 Kf av' w'):=by
 have cn:=cr h.bn 0 _ rfl;have cl:=cr h.bl 0 _ rfl;have hd1:=h.d1;have hd2:=h.d2;have hd3:=h.d3;go_enter func54,ntmps54;go_wp2;refine aL (fun w'=>w'.cell? Ln=some ft/\w'.cell? Ll=some fx) 8 [1,5] TcE ⟨cn,cl⟩ (fun hHeld=>?_);refine fz 1 ?_;refine fz 5 ?_;refine fS 0 hHeld ?_;refine fS 4 hHeld ?_;have hd:Loc w.drew B Lx Ln Ll ft fx av names lengths Ga xs:=h.keep (bk _) (fun _ _=>rfl);have Gk:cR (fun _=>False) w w.drew:=(cR.refl _ _).drewN 1;have hBd:B<=w.drew.heap.size:=hB;generalize hwd:w.drew=wd at *;clear hwd;have AH:∀ k,k<B->¬ (ft.ownBlock=some k\/fx.ownBlock=some k):=fun k hk q=>q.elim (fun e=>by have:=(hd.on.ge e).1;omega) (fun e=>by have:=(hd.ol.ge e).1;omega);obtain ⟨i1,hi1,hz10,hz11,hz12⟩:=cy o5;obtain ⟨i2,hi2,hz20,hz21,hz22⟩:=cy tZ
 refine fE (idx:=[(2,9),(3,10),(6,13),(7,14)]) (fun i=>[i])
  (fun i vs w'=>match i with
   | 2=>∃ b,vs 2=.slice (some ⟨b,0,none⟩) 1 1/\dS wd.heap.size 9 [.string s] b w'
   | 3=>∃ gb cap,vs 3=.slice (some ⟨gb,0,none⟩) (names.length+1) cap/\bF aF 1 9 B (fun _=>False) w' (.slice (some ⟨gb,0,none⟩) (names.length+1) cap) (names++[s])/\(ft.ownBlock=some gb\/wd.heap.size<=gb)
   | 6=>∃ b,vs 6=.slice (some ⟨b,0,none⟩) 1 1/\dS wd.heap.size 3 [.int .i64 n] b w'
   | 7=>∃ gb cap,vs 7=.slice (some ⟨gb,0,none⟩) (lengths.length+1) cap/\bF cO 1 3 B (fun _=>False) w' (.slice (some ⟨gb,0,none⟩) (lengths.length+1) cap) (lengths++[n])/\(fx.ownBlock=some gb\/wd.heap.size<=gb)
   | _=>True)
  (fun d w'=>(d 3=false->bF aF 1 9 B (fun _=>False) w' ft names)/\(d 7=false->bF cO 1 3 B (fun _=>False) w' fx lengths)/\cR (fun k=>ft.ownBlock=some k\/fx.ownBlock=some k) wd w')
  (fun i w1 w2=>w1.heap.size<=w2.heap.size/\∀ k,k<w1.heap.size->(i=3->ft.ownBlock≠some k)->(i=7->fx.ownBlock≠some k)->w2.heap[k]?=w1.heap[k]?) TcE rfl ?cs ?st (fun _ _ _ _ h=>h) ?c0 ?ob ?fin
 case c0=>exact ⟨fun _=>hd.on,fun _=>hd.ol,cR.refl _ _⟩
 case cs =>
  intro d w' hC;have hm:=hC.2.2;refine ⟨?_,?_⟩
  ·rw [hm.cell (p:=Ln) (aq hd.bn) (AH Ln TcC)];simp [World.cell?,hd.bn]
  rw [hm.cell (p:=Ll) (aq hd.bl) (AH Ll TcC)];simp [World.cell?,hd.bl]
 case st =>
  intro p hp q _ hne vs us w1 w2 ha hF he;simp only [dr,cY,dg] at hp;rcases hp with rfl | rfl | rfl | rfl
  ·obtain ⟨b,e,hb⟩:=hF;exact ⟨b,(ha 2 (cG ..)).trans e,hb.1,(he.2 b (aq hb.2) (fun _ e=>by have:=(hd.on.ge e).2;have:=hb.1;omega) (fun _ e=>by have:=(hd.ol.ge e).2;have:=hb.1;omega)).trans hb.2⟩
  ·obtain ⟨gb,cap,e,ho,hat⟩:=hF;refine ⟨gb,cap,(ha 3 (cG ..)).trans e,ho.Gl aF.moves he.1 (fun k ek=>he.2 k (ho.ge ek).2 (fun q3=>absurd q3 hne) (fun _ e7=>?_)),hat⟩;exact TbV
  ·obtain ⟨b,e,hb⟩:=hF;exact ⟨b,(ha 6 (cG ..)).trans e,hb.1,(he.2 b (aq hb.2) (fun _ e=>by have:=(hd.on.ge e).2;have:=hb.1;omega) (fun _ e=>by have:=(hd.ol.ge e).2;have:=hb.1;omega)).trans hb.2⟩
  obtain ⟨gb,cap,e,ho,hat⟩:=hF;refine ⟨gb,cap,(ha 7 (cG ..)).trans e,ho.Gl cO.moves he.1 (fun k ek=>he.2 k (ho.ge ek).2 (fun _ e3=>?_) (fun q7=>absurd q7 hne)),hat⟩;exact TbW
 case ob =>
  refine kA.cons (deps:=[]) rfl rfl TcE (fun vs d w' h0 hC hF K hK=>?_) ?_
  ·clear hF;simp only [over,cq,Act.put];go_simp;refine hK.o (.slice (some w'.heap.size) 1 1) _ ?_ ⟨TcD,fun k hk _ _=>cj _ _ _ hk⟩ ⟨_,aw rfl,dS.new hC.2.2.size⟩ _ ?_
   ·simp only [show (d 3||(3:Nat) == 2)=d 3 from by simp,show (d 7||(7:Nat) == 2)=d 7 from by simp];exact Tbj
   simp only [over,cq,aS]
  refine kA.cons (deps:=[(2,9)]) rfl rfl TcE (fun vs d w' h0 hC hF K hK=>?_) ?_
  ·have f:=(hF (2,9) TcD).2;clear hF;simp only [over,cq,cF,aS] at f ⊢;obtain ⟨b,e2,hb⟩:=f;rw [e2];simp only at h0;have hz:=hC.2.2.size;refine mU aF.moves underlying26 hi1 hz10 hz11 hz12 rfl TcF TcF rfl _ _ TcI B (fun _=>False) ft names s TcI (hC.1 h0) b 1 [.string s] TcI TcI rfl TcQ (fun j y hy=>?_) TcC TcC (fun _ _ f=>f) (fun gb cap w3 hp=>?_)
   ·exact Tck
   refine hK.o (.slice (some gb) (names.length+1) cap) w3 ?_ ⟨hp.grown.size,fun k hk q3 q7=>hp.grown.block k hk fun e=>q3 rfl e.symm⟩ ⟨gb,cap,aw rfl,hp.own,hp.at'.imp id (fun q=>by omega)⟩ _ ?_
   ·simp only [show (d 7||(7:Nat) == 3)=d 7 from by simp];exact Tbh
   simp only [over,cq,cF,aS,e2]
  refine kA.cons (deps:=[]) rfl rfl TcE (fun vs d w' h0 hC hF K hK=>?_) ?_
  ·clear hF;simp only [over,cq,Act.put];go_simp;refine hK.o (.slice (some w'.heap.size) 1 1) _ ?_ ⟨TcD,fun k hk _ _=>cj _ _ _ hk⟩ ⟨_,aw rfl,dS.new hC.2.2.size⟩ _ ?_
   ·simp only [show (d 3||(3:Nat) == 6)=d 3 from by simp,show (d 7||(7:Nat) == 6)=d 7 from by simp];exact Tbj
   simp only [over,cq,aS]
  refine kA.cons (deps:=[(6,13)]) rfl rfl TcE (fun vs d w' h0 hC hF K hK=>?_) trivial;have f:=(hF (6,13) TcD).2;clear hF;simp only [over,cq,cF,aS] at f ⊢;obtain ⟨b,e2,hb⟩:=f;rw [e2];simp only at h0;have hz:=hC.2.2.size;refine mU cO.moves underlying22 hi2 hz20 hz21 hz22 rfl TcF TcF rfl _ _ TcI B (fun _=>False) fx lengths n TcI (hC.2.1 h0) b 1 [.int .i64 n] TcI TcI rfl TcQ (fun j y hy=>?_) TcC TcC (fun _ _ f=>f) (fun gb cap w3 hp=>?_)
  ·exact Tck
  refine hK.o (.slice (some gb) (lengths.length+1) cap) w3 ?_ ⟨hp.grown.size,fun k hk q3 q7=>hp.grown.block k hk fun e=>q7 rfl e.symm⟩ ⟨gb,cap,aw rfl,hp.own,hp.at'.imp id (fun q=>by omega)⟩ _ ?_
  ·simp only [show (d 3||(3:Nat) == 7)=d 3 from by simp];exact Tbi
  simp only [over,cq,cF,aS,e2]
 case fin =>
  intro vs d w' hC hF;have f3:=(hF (3,10) TcD).2;have f7:=(hF (7,14) TcD).2;clear hF;simp only [over,cq,cF,aS,cQ,cL] at f3 f7 ⊢;obtain ⟨g1,p1,e3,o1,t1⟩:=f3;obtain ⟨g2,p2,e7,o2,t2⟩:=f7;rw [e3,e7];generalize vs 2=v2;generalize vs 6=v6;have hm:=hC.2.2;clear hC e3 e7;have hz:=hm.size;have nLn:=AH Ln TcC;have nLl:=AH Ll TcC;have nLx:=AH Lx TcC;have bn:=(hm.block Ln (aq hd.bn) nLn).trans hd.bn;have bl:=(hm.block Ll (aq hd.bl) nLl).trans hd.bl;have bx:=(hm.block Lx (aq hd.bx) nLx).trans hd.bx;have oa:bF aQ 3 53 B (fun _=>False) w' av Ga:=hd.oa.Gl aQ.moves hz (fun k e=>hm.block k (hd.oa.ge e).2 (fun q=>q.elim (fun q=>hd.na k q e) (fun q=>hd.la k q e)));have q1:=cr bn 0 _ rfl;have q2:w'.frozen? Ln=false:=by simp [World.frozen?,bn]
  have q3:=cr bl 0 _ rfl;have q4:w'.frozen? Ll=false:=by simp [World.frozen?,bl]
  have x1:Ln≠Ll:=by omega
  have x2:Lx≠Ln:=by omega
  have x3:Lx≠Ll:=by omega
  generalize hW:(w'.setCell Ln (.slice (some g1) (names.length+1) p1)).setCell Ll (.slice (some g2) (lengths.length+1) p2)=W;have L8:∀ k,k≠Ln->k≠Ll->W.heap[k]?=w'.heap[k]?:=fun k e1 e2=>by rw [<- hW,bw _ _ _ _ e2,bw _ _ _ _ e1]
  have Ph:W.heap.size=w'.heap.size:=by rw [<- hW];simp [World.setCell]
  have Zd:W.heap[Ln]?=some (.cells #[.slice (some g1) (names.length+1) p1] 26 (0,0)):=by
   rw [<- hW,bw _ _ _ _ x1];exact block_setCell (cs:=#[_]) (i:=0) _ bn
  have Ze:W.heap[Ll]?=some (.cells #[.slice (some g2) (lengths.length+1) p2] 22 (0,0)):=by
   exact Tcf
  have UG:W.heap[Lx]?=some (.cells (xs av) 114 (0,0)):=(L8 Lx x2 x3).trans bx;have SV:bF aQ 3 53 B (fun _=>False) W av Ga:=oa.Gl aQ.moves TcC (fun k e=>L8 k TdY TdY);have UH:bF aF 1 9 B (fun _=>False) W (.slice (some g1) (names.length+1) p1) (names++[s]):=o1.Gl aF.moves TcC (fun k e=>L8 k Td0 Td0);have UI:bF cO 1 3 B (fun _=>False) W (.slice (some g2) (lengths.length+1) p2) (lengths++[n]):=o2.Gl cO.moves TcC (fun k e=>L8 k TdZ TdZ);have L9:cR (nJ Lx Ln Ll ft fx av) wd W:=by
   exact Tbc
  have g1B:=o1.ge (k:=g1) rfl;have g2B:=o2.ge (k:=g2) rfl;have OI:W.cell? (Tac Lx 3)=some av:=by simp [World.cell?,UG,hxs]
  have SX:Lx<W.heap.size:=aq UG;have Ma:∀ o,(W.alloc o).cell? (Tac Lx 3)=some av:=fun o=>(cd (w:=W) (cj _ _ _ SX)).trans OI;obtain ⟨i3,hi3,hz30,hz31,hz32⟩:=cy kL;have Zf:=aa Zd;clear Zd;have Zg:=aa Ze;clear Ze;have HWx:=aa UG;clear UG;have HWk:=aa L8;clear L8;have HI:=aa hi3;clear hi3;have H0:=aa hz30;clear hz30;have H1:=aa hz31;clear hz31;have H2:=aa hz32;clear hz32;have Xh:=aa Ph;clear Ph;have Xi:=aa hxs;clear hxs;clear bn bl bx hi1 hi2 hz10 hz11 hz12 hz20 hz21 hz22 cn cl
  go_wp2_with (at_builtin;refine dX aQ.moves underlying49 HI.o H0.o H1.o H2.o rfl TcF TcF rfl _ _ rfl B (fun _=>False) av Ga ⟨true,s,0⟩ rfl ?c1 W.heap.size 1 [.bool true,.string s,.int .i64 0] rfl rfl rfl ?c2 ?c3 ?c4 ?c5 (fun _ _ f=>f) ?_)
  case c1=>exact SV.Gl aQ.moves TcD (fun k e=>cj _ _ _ (SV.ge e).2)
  case c2=>simp [Value.oneCell']
  case c3 =>
   intro j y hy;exact aD rfl TcX
  case c4=>omega
  case c5 =>
   have:=Xh.o;simp;omega
  intro g3 p3 w3 hp;have hz3:=hp.grown.size;rw [cW] at hz3;have Ph:=Xh.o;have k3:∀ k,k<W.heap.size->av.ownBlock≠some k->w3.heap[k]?=W.heap[k]?:=fun k hk hn=>(hp.grown.block k TcH (fun e=>hn e.symm)).trans (cj _ _ _ hk);have nx:∀ k,k<B->av.ownBlock≠some k:=fun k hk e=>by have:=(SV.ge e).1;omega
  have UJ:=(k3 Lx SX (nx Lx TcC)).trans HWx.o;have y1:w3.cell? (Tac Lx 3)=some av:=by simp [World.cell?,UJ,Xi.o]
  have y2:w3.frozen? (Tac Lx 3)=false:=by simp [World.frozen?,UJ]
  have cJ:=aa UJ;clear UJ;have HK3:=aa k3;clear k3;have HP:=aa hp;clear hp;clear OI Ma Ph;go_wp2;go_end0
  have hg3:=HP.o.own.ge (k:=g3) rfl;have Xj:av.ownBlock=some g3\/g3=W.heap.size+1:=HP.o.at'.imp id (fun q=>by rw [q];simp);have Ph:=Xh.o;have kk:∀ k,k≠Lx->(w3.setCell (Tac Lx 3) (.slice (some g3) (Ga.length+1) p3)).heap[k]?=w3.heap[k]?:=fun k e=>bw _ _ _ _ e;have hz5:(w3.setCell (Tac Lx 3) (.slice (some g3) (Ga.length+1) p3)).heap.size=w3.heap.size:=by simp [World.setCell]
  have on5:bF aF 1 9 B (fun _=>False) (w3.setCell (Tac Lx 3) (.slice (some g3) (Ga.length+1) p3)) (.slice (some g1) (names.length+1) p1) (names++[s]):=UH.Gl aF.moves TcC (fun k e=>(kk k (by have:=(UH.ge e).1;omega)).trans (HK3.o k (UH.ge e).2 (UH.ne SV TcF k e)));have NC:bF cO 1 3 B (fun _=>False) (w3.setCell (Tac Lx 3) (.slice (some g3) (Ga.length+1) p3)) (.slice (some g2) (lengths.length+1) p2) (lengths++[n]):=UI.Gl cO.moves TcC (fun k e=>(kk k (by have:=(UI.ge e).1;omega)).trans (HK3.o k (UI.ge e).2 (UI.ne SV TcF k e)));have Oq:bF aQ 3 53 B (fun _=>False) (w3.setCell (Tac Lx 3) (.slice (some g3) (Ga.length+1) p3)) (.slice (some g3) (Ga.length+1) p3) (Ga++[⟨true,s,0⟩]):=HP.o.own.Gl aQ.moves TcC (fun k e=>kk k (by have:=(HP.o.own.ge e).1;omega));refine ⟨rfl,.slice (some g1) (names.length+1) p1,.slice (some g2) (lengths.length+1) p2,.slice (some g3) (Ga.length+1) p3,⟨?_,?_,?_,on5,NC,Oq,on5.ne NC TcF,on5.ne Oq TcF,NC.ne Oq TcF,hd1,hd2,hd3⟩,?_,?_⟩
  ·exact (kk Ln (Ne.symm x2)).trans ((HK3.o Ln (aq Zf.o) (nx Ln TcC)).trans Zf.o)
  ·exact (kk Ll (Ne.symm x3)).trans ((HK3.o Ll (aq Zg.o) (nx Ll TcC)).trans Zg.o)
  ·have:=block_setCell (i:=3) (.slice (some g3) (Ga.length+1) p3) cJ.o;rw [this,Xi.o,Xi.o];rfl
  ·have m2:cR (nJ Lx Ln Ll ft fx av) w W:=(Gk.mono (G:=nJ Lx Ln Ll ft fx av) (fun _ f=>f.elim)).trans L9 (fun _ q=>.inl q);exact ((m2.alloc _).trans (jA HP.o.grown) (fun k q=>.inl (.inr (.inr (.inr (.inr (.inr q))))))).setCell (p:=⟨Lx,3,none⟩) (.inl (.inl rfl)) _
  have mA:=Gk.size;have aj8:=L9.size;rintro k (rfl | rfl | rfl | q | q | q)
  ·exact .inl (.inl rfl)
  ·exact .inl (.inr (.inl rfl))
  ·exact .inl (.inr (.inr (.inl rfl)))
  ·exact Tbv
  ·exact Tbp
  have hk5:=(Oq.ge q).2;obtain rfl:g3=k:=by injection q
  rcases Xj with q1 | q1
  ·exact .inl (.inr (.inr (.inr (.inr (.inr q1)))))
  exact .inr ⟨TcC,hk5⟩
def digit (i:Nat):ByteArray:=⟨#[(48+i).toUInt8]⟩
def FX:ByteArray:=⟨#[95,108,101,103]⟩
def qm:ByteArray:=⟨#[95,108,111,103]⟩
def Ab:ByteArray:=⟨#[95,109,101,116,97]⟩
def Aj:ByteArray:=⟨#[95,100,97,116,97]⟩
def EO:ByteArray:=⟨#[95,108,101,103,48]⟩
def Ex (name:ByteArray)(i:Nat):ByteArray:=(name++FX)++digit i
def aI (name:ByteArray)(k:Nat):List ByteArray:=(List.range k).map (Ex name)
def gB (l:List ByteArray):List aR:=l.map fun s=>⟨true,s,0⟩
theorem sW (l:List ByteArray)(s:ByteArray):gB (l++[s])=gB l++[⟨true,s,0⟩]:=by simp [gB]
theorem lN (name:ByteArray)(k:Nat):aI name (k+1)=aI name k++[Ex name k]:=by simp [aI,List.range_succ]
inductive ik (e n:Int)(name:ByteArray):Int->List ByteArray->List Int->aB->Prop
 | mirror (k:Nat) (hk:2<=k/\k<=3) (c:Int) (hc:1<=c/\c<=4) (st:List Int) (hst:st=[]\/∃ i:Int,0<=i/\i<k/\st=[i]):ik e n name 3 (aI name k) (List.replicate k n) ⟨0,n,3,gB (aI name k),c,st,es,es,0,0,0⟩
 | mirrorLog (k:Nat) (hk:2<=k/\k<=3) (c:Int) (hc:1<=c/\c<=4) (st:List Int) (hst:st=[]\/∃ i:Int,0<=i/\i<k/\st=[i]):ik e n name 3 (aI name k++[name++qm]) (List.replicate k n++[1+(1+(n*e+63) / 64) / e]) ⟨0,n,3,gB (aI name k),c,st,name++qm,es,0,0,0⟩
 | parity (k:Nat) (hk:3<=k/\k<=4) (c:Int) (hc:c=1\/c=e):ik e n name 4 (aI name k) (List.replicate k (n+(15+e) / e)) ⟨0,n*(k - 1),4,gB (aI name k),c,[],es,es,0,0,0⟩
 | pool (l c:Int) (hl:1<=l/\l<=3) (hc:1<=c/\c<=8):ik e n name 5 [name++Ab,name++Aj] [l,n] ⟨0,n,5,gB [name++Ab,name++Aj],c,[],es,es,0,0,0⟩
 | cache (l m c:Int) (hl:1<=l/\l<=2) (hm:1<=m/\m<=2) (hc:1<=c/\c<=4):ik e n name 7 [name++EO,name++Aj,name++Ab] [n,l,1] ⟨0,n,7,gB [name++EO,name++Aj,name++Ab],c,[],es,es,0,m,0⟩
theorem TcT {p:Prop}(h:p:=by simp [aI]):p:=h
theorem Tdv {p:Prop}(h:p:=by simp [aI];omega):p:=h
theorem ik.ok {e n:Int}{name:ByteArray}{kind:Int}{x:aB}(h:ik e n name kind names lengths x)(h1:1<=e)(h2:e<=16)(h3:1<=n)(h4:n<=3):names.length=lengths.length/\names.length<=8/\∀ l∈lengths,1<=l/\l<=1000:=by
 have hq:∀ a:Int,0<=a->a<=200->0<=a / e/\a / e<=200:=fun a ha hb=>⟨lz ha TcC,Int.le_trans (mS _ ha) hb⟩;cases h with
 | mirror k hk c hc st hst =>
  refine ⟨TcT,Tdv,fun l hl=>?_⟩;rw [tM] at hl;omega
 | mirrorLog k hk c hc st hst =>
  refine ⟨TcT,Tdv,fun l hl=>?_⟩;rcases List.mem_append.1 hl with hl | hl
  ·rw [tM] at hl;omega
  simp only [dr,cY,dg] at hl;have b1:0<=n*e/\n*e<=48:=by rcases (show n=1\/n=2\/n=3 by omega) with rfl | rfl | rfl <;> omega
  have:=hq (1+(n*e+63) / 64) TcC TcC;omega
 | parity k hk c hc =>
  refine ⟨TcT,Tdv,fun l hl=>?_⟩;rw [tM] at hl;have:=hq (15+e) TcC TcC;omega
 | pool l c hl hc =>
  refine ⟨rfl,TcD,fun l hl=>?_⟩;simp only [dr,cY,dg] at hl;omega
 | cache l m c hl hm hc =>
  refine ⟨rfl,TcD,fun l hl=>?_⟩;simp only [dr,cY,dg] at hl;omega
def QA (len kind chunk:Int)(Oz:Value)(log:ByteArray)(mode:Int):Value->Array Value:=fun v=>#[.int .i64 0,.int .i64 len,.int .i64 kind,v,.int .i64 chunk,Oz,.string log,.string es,.int .i64 0,.int .i64 mode,.int .i64 0]
def Yc (X:Nat->Prop)(Lx Ln Ll:Nat)(ft fx av:Value):Nat->Prop:=fun k=>X k\/nJ Lx Ln Ll ft fx av k
structure vq (X:Nat->Prop)(bs bb:Nat)(nv vv:Value)(g:af)(next:List Int)(w0:World)(B Lx Ln Ll:Nat)(ft fx av Oz:Value)(names:List ByteArray)(lengths:List Int)(Ga:List aR)(st:List Int)(len kind chunk:Int)(log:ByteArray)(mode:Int)(w:World):Prop where
 loc:Loc w B Lx Ln Ll ft fx av names lengths Ga (QA len kind chunk Oz log mode)
 post:aH (Yc X Lx Ln Ll ft fx av) bs bb nv vv w0 w nv vv g next
 rs:ck cO 1 (okB (Yc X Lx Ln Ll ft fx av) bb nv vv) w [Oz] st
 hB:B<=w.heap.size
 hL:w0.heap.size<=Lx
section
variable {X:Nat->Prop}{bs bb:Nat}{nv vv:Value}{g:af}{next:List Int}{w0 w w':World}{B Lx Ln Ll:Nat}{ft fx av Oz ar3 Kf av':Value}{names:List ByteArray}{lengths:List Int}{Ga:List aR}{st:List Int}{len kind chunk n:Int}{log s:ByteArray}{mode:Int}
theorem vq.ge (h:vq X bs bb nv vv g next w0 B Lx Ln Ll ft fx av Oz names lengths Ga st len kind chunk log mode w){k:Nat}(hk:nJ Lx Ln Ll ft fx av k):w0.heap.size<=k:=by
 have d1:=h.loc.d1;have d2:=h.loc.d2;have d3:=h.loc.d3;have hL:=h.hL;rcases hk with rfl | rfl | rfl | q | q | q
 ·exact hL
 ·omega
 ·omega
 ·have:=(h.loc.on.ge q).1;omega
 ·have:=(h.loc.ol.ge q).1;omega
 have:=(h.loc.oa.ge q).1;omega
theorem vq.below (h:vq X bs bb nv vv g next w0 B Lx Ln Ll ft fx av Oz names lengths Ga st len kind chunk log mode w)(hb:Below w.heap.size w w'):vq X bs bb nv vv g next w0 B Lx Ln Ll ft fx av Oz names lengths Ga st len kind chunk log mode w' :=
 ⟨h.loc.keep hb.size (fun k hk=>hb.block k (h.post.bld.xlt k (.inr hk)).2),h.post.after hb,(ck.moves cO.moves).mv ⟨hb.size,fun b hb' ho=>⟨ho,hb.block b hb'⟩⟩ h.rs,cA h.hB hb.size,h.hL⟩
theorem vq.read (h:vq X bs bb nv vv g next w0 B Lx Ln Ll ft fx av Oz names lengths Ga st len kind chunk log mode w)(hs:Src w' bs)(hm:cR (fun i=>i=bs) w w'):vq X bs bb nv vv g next w0 B Lx Ln Ll ft fx av Oz names lengths Ga st len kind chunk log mode w':=by
 have gO:=h.post.bld.lt;refine ⟨h.loc.keep hm.size (fun k hk=>hm.block k (h.post.bld.xlt k (.inr hk)).2 (fun e=>by have:=(h.post.bld.xlt k (.inr hk)).1;omega)),h.post.read hs hm,(ck.moves cO.moves).mv ⟨hm.size,fun b hb' ho=>⟨ho,hm.block b hb' (fun e=>by have:=ho.1;omega)⟩⟩ h.rs,cA h.hB hm.size,h.hL⟩
theorem vq.add (h:vq X bs bb nv vv g next w0 B Lx Ln Ll ft fx av Oz names lengths Ga st len kind chunk log mode w)(p:FO w B Lx Ln Ll ft fx av names lengths Ga (QA len kind chunk Oz log mode) s n ar3 Kf av' w'):vq X bs bb nv vv g next w0 B Lx Ln Ll ar3 Kf av' Oz (names++[s]) (lengths++[n]) (Ga++[⟨true,s,0⟩]) st len kind chunk log mode w':=by
 refine ⟨p.loc,h.post.move ⟨p.mod.os,p.mod.tape,p.mod.output,p.mod.size,fun k hk hn=>p.mod.block k hk fun q=>hn ⟨.inr q,h.ge q⟩⟩ (fun k hk=>?_),(ck.moves cO.moves).mv ⟨p.mod.size,fun b hb ho=>⟨⟨ho.1,ho.2.1,ho.2.2.1,fun q=>?_⟩,p.mod.block b hb fun q=>ho.2.2.2 (.inr q)⟩⟩ h.rs,cA h.hB p.mod.size,h.hL⟩
 ·rcases hk with q | q
  ·exact .inl (.inl q)
  exact (p.fr k q).imp (fun q=>.inr q) id
 rcases q with q | q
 ·exact ho.2.2.2 (.inl q)
 rcases p.fr b q with q | q
 ·exact ho.2.2.2 (.inr q)
 omega
theorem vq.put (h:vq X bs bb nv vv g next w0 B Lx Ln Ll ft fx av Oz names lengths Ga st len kind chunk log mode w)(i:Nat)(u:Value){len' Mb mode':Int}{log':ByteArray}(he:∀ v,(QA len kind chunk Oz log mode v).setIfInBounds i u=QA len' kind Mb Oz log' mode' v):vq X bs bb nv vv g next w0 B Lx Ln Ll ft fx av Oz names lengths Ga st len' kind Mb log' mode' (w.setCell (Lx,i) u):=by
 have d1:=h.loc.d1;have d2:=h.loc.d2;have d3:=h.loc.d3;have hz:(w.setCell (Lx,i) u).heap.size=w.heap.size:=by simp [World.setCell]
 have kk:∀ k,k≠Lx->(w.setCell (Lx,i) u).heap[k]?=w.heap[k]?:=fun k e=>bw _ _ _ _ e;refine ⟨⟨(kk Ln TcC).trans h.loc.bn,(kk Ll TcC).trans h.loc.bl,?_,h.loc.on.Gl aF.moves TcC (fun k e=>kk k (by have:=(h.loc.on.ge e).1;omega)),h.loc.ol.Gl cO.moves TcC (fun k e=>kk k (by have:=(h.loc.ol.ge e).1;omega)),h.loc.oa.Gl aQ.moves TcC (fun k e=>kk k (by have:=(h.loc.oa.ge e).1;omega)),h.loc.nl,h.loc.na,h.loc.la,d1,d2,d3⟩,h.post.put Lx i u (.inr (.inl rfl)) h.hL,(ck.moves cO.moves).mv ⟨TcC,fun b hb ho=>⟨ho,kk b (fun e=>ho.2.2.2 (.inr (.inl e)))⟩⟩ h.rs,Td5,h.hL⟩
 rw [<- he];exact block_setCell (i:=i) u h.loc.bx
theorem vq.push2 {w1:World}{g1 p1 g2 p2:Nat}(h:vq X bs bb nv vv g next w0 B Lx Ln Ll ft fx av Oz names lengths Ga st len kind chunk log mode w)(hm:cR (fun k=>ft.ownBlock=some k\/fx.ownBlock=some k) w w1)
  (o1:bF aF 1 9 B (fun _=>False) w1 (.slice (some g1) (names.length+1) p1) (names++[s])) (t1:ft.ownBlock=some g1\/w.heap.size<=g1)
  (o2:bF cO 1 3 B (fun _=>False) w1 (.slice (some g2) (lengths.length+1) p2) (lengths++[n])) (t2:fx.ownBlock=some g2\/w.heap.size<=g2) :
  vq X bs bb nv vv g next w0 B Lx Ln Ll (.slice (some g1) (names.length+1) p1) (.slice (some g2) (lengths.length+1) p2) av Oz (names++[s]) (lengths++[n]) Ga st len kind chunk log mode ((w1.setCell Ln (.slice (some g1) (names.length+1) p1)).setCell Ll (.slice (some g2) (lengths.length+1) p2)) /\
   w1.cell? Ln=some ft/\w1.frozen? Ln=false/\w1.cell? Ll=some fx/\w1.frozen? Ll=false:=by
 have hd:=h.loc;have d1:=hd.d1;have d2:=hd.d2;have d3:=hd.d3;have hz:=hm.size;have AH:∀ k,k<B->¬ (ft.ownBlock=some k\/fx.ownBlock=some k):=fun k hk q=>q.elim (fun e=>by have:=(hd.on.ge e).1;omega) (fun e=>by have:=(hd.ol.ge e).1;omega);have bn:=(hm.block Ln (aq hd.bn) (AH Ln TcC)).trans hd.bn;have bl:=(hm.block Ll (aq hd.bl) (AH Ll TcC)).trans hd.bl;have bx:=(hm.block Lx (aq hd.bx) (AH Lx TcC)).trans hd.bx;have x1:Ln≠Ll:=by omega
 have x2:Lx≠Ln:=by omega
 have x3:Lx≠Ll:=by omega
 have oa:bF aQ 3 53 B (fun _=>False) w1 av Ga:=hd.oa.Gl aQ.moves hz (fun k e=>hm.block k (hd.oa.ge e).2 (fun q=>q.elim (fun q=>hd.na k q e) (fun q=>hd.la k q e)));refine ⟨?_,cr bn _ _ rfl,by simp [World.frozen?,bn],cr bl _ _ rfl,by simp [World.frozen?,bl]⟩;generalize hW:(w1.setCell Ln (.slice (some g1) (names.length+1) p1)).setCell Ll (.slice (some g2) (lengths.length+1) p2)=W;have L8:∀ k,k≠Ln->k≠Ll->W.heap[k]?=w1.heap[k]?:=fun k e1 e2=>by rw [<- hW,bw _ _ _ _ e2,bw _ _ _ _ e1]
 have Ph:W.heap.size=w1.heap.size:=by rw [<- hW];simp [World.setCell]
 have on5:=o1.Gl (w':=W) aF.moves TcC (fun k e=>L8 k Td0 Td0);have NC:=o2.Gl (w':=W) cO.moves TcC (fun k e=>L8 k TdZ TdZ);have Oq:=oa.Gl (w':=W) aQ.moves TcC (fun k e=>L8 k TdY TdY);have L9:cR (nJ Lx Ln Ll ft fx av) w W:=by
  exact Tbc
 have fr:∀ k,nJ Lx Ln Ll (.slice (some g1) (names.length+1) p1) (.slice (some g2) (lengths.length+1) p2) av k->nJ Lx Ln Ll ft fx av k\/(w.heap.size<=k/\k<W.heap.size):=by
  rintro k (rfl | rfl | rfl | q | q | q)
  ·exact .inl (.inl rfl)
  ·exact .inl (.inr (.inl rfl))
  ·exact .inl (.inr (.inr (.inl rfl)))
  ·exact Tbv
  ·exact Tbp
  exact .inl (.inr (.inr (.inr (.inr (.inr q)))))
 refine ⟨⟨?_,?_,(L8 Lx x2 x3).trans bx,on5,NC,Oq,on5.ne NC TcF,on5.ne Oq TcF,NC.ne Oq TcF,d1,d2,d3⟩,h.post.move ⟨L9.os,L9.tape,L9.output,L9.size,fun k hk hn=>L9.block k hk fun q=>hn ⟨.inr q,h.ge q⟩⟩ (fun k hk=>?_),(ck.moves cO.moves).mv ⟨L9.size,fun b hb ho=>⟨⟨ho.1,ho.2.1,ho.2.2.1,fun q=>?_⟩,L9.block b hb fun q=>ho.2.2.2 (.inr q)⟩⟩ h.rs,cA h.hB L9.size,h.hL⟩
 ·rw [<- hW,bw _ _ _ _ x1];exact block_setCell (cs:=#[_]) (i:=0) _ bn
 ·exact Tcf
 ·rcases hk with q | q
  ·exact .inl (.inl q)
  exact (fr k q).imp (fun q=>.inr q) id
 rcases q with q | q
 ·exact ho.2.2.2 (.inl q)
 rcases fr b q with q | q
 ·exact ho.2.2.2 (.inr q)
 omega
theorem vq.stale {b:Nat}{i:Int}(h:vq X bs bb nv vv g next w0 B Lx Ln Ll ft fx av Oz names lengths Ga st len kind chunk log mode w)(hb:w.heap[b]?=some (.cells #[.int .i64 i] 3 (0,0)))(pC:bb<b)(hn:¬ Yc X Lx Ln Ll ft fx av b)(hbn:nv.ownBlock≠some b)(vA:vv.ownBlock≠some b) :
  vq X bs bb nv vv g next w0 B Lx Ln Ll ft fx av (.slice (some b) 1 1) names lengths Ga [i] len kind chunk log mode (w.setCell (Tac Lx 5) (.slice (some b) 1 1)):=by
 have d1:=h.loc.d1;have d2:=h.loc.d2;have d3:=h.loc.d3;have hz:(w.setCell (Tac Lx 5) (.slice (some b) 1 1)).heap.size=w.heap.size:=by simp [World.setCell]
 have kk:∀ k,k≠Lx->(w.setCell (Tac Lx 5) (.slice (some b) 1 1)).heap[k]?=w.heap[k]?:=fun k e=>bw _ _ _ _ e;refine ⟨⟨(kk Ln TcC).trans h.loc.bn,(kk Ll TcC).trans h.loc.bl,block_setCell (i:=5) _ h.loc.bx,h.loc.on.Gl aF.moves TcC (fun k e=>kk k (by have:=(h.loc.on.ge e).1;omega)),h.loc.ol.Gl cO.moves TcC (fun k e=>kk k (by have:=(h.loc.ol.ge e).1;omega)),h.loc.oa.Gl aQ.moves TcC (fun k e=>kk k (by have:=(h.loc.oa.ge e).1;omega)),h.loc.nl,h.loc.na,h.loc.la,d1,d2,d3⟩,h.post.put Lx 5 _ (.inr (.inl rfl)) h.hL,?_,Td5,h.hL⟩
 exact ck.one (u:=[.int .i64 i]) ((kk b (fun e=>hn (.inr (.inl e)))).trans hb) ⟨pC,hbn,vA,hn⟩ rfl rfl
theorem vq.cx (h:vq X bs bb nv vv g next w0 B Lx Ln Ll ft fx av Oz names lengths Ga st len kind chunk log mode w)(i:Nat){v:Value}(hv:(QA len kind chunk Oz log mode av)[i]?=some v):w.cell? (Lx,i)=some v/\w.frozen? (Lx,i)=false:=by
 refine ⟨?_,by simp [World.frozen?,h.loc.bx]⟩;simp only [World.cell?,h.loc.bx];simpa using hv
end
theorem eW.c4 {X:Nat->Prop}{w:World}{bs bb:Nat}{nv vv:Value}{g:af}{next:List Int}(h:eW X w bs bb nv vv g next):w.cell? (Tac bb 4)=some (.int .i64 g.Gd):=by
 exact Tcj
def EM (X:Nat->Prop)(bs bb:Nat)(nv vv:Value)(g:af)(next:List Int)(w0:World)(L:Nat)(n:Int)(name:ByteArray)(kind:Int)(w:World):Prop :=
 ∃ (ft fx av Oz:Value) (names:List ByteArray) (lengths:List Int) (x:aB),ik g.Gd n name kind names lengths x/\vq X bs bb nv vv g next w0 (L+1+1+1) L (L+1) (L+1+1) ft fx av Oz names lengths x.Ga x.stale x.length kind x.chunk x.log x.mode w
def tT:ByteArray:=⟨#[116]⟩
def jY (name:ByteArray)(id len:Int)(i:Nat):ay:=⟨(name++tT)++digit i,id,false,false,[],[⟨0,len,6,[],0,[],es,name,i,0,0⟩]⟩
inductive iO (id:Int)(name:ByteArray)(k:Nat):Int->Nat->List ay->Prop
 | nil (c:Int):iO id name k c k []
 | snoc {c:Int} {j:Nat} {vl:List ay} {len:Int} (h:iO id name k c (j+1) vl) (hl:1<=len/\len<=4):iO id name k c j (vl++[jY name (oX id (c+vl.length)) len (j+1)])
def FD (X:Nat->Prop)(bs bb:Nat)(nv vv:Value)(g:af)(next:List Int)(name:ByteArray)(kind:Int)(w w':World):Prop :=
 (∃ (j:Nat) (nv' pA:Value),j<=8/\aH X bs bb nv vv w w' nv' pA { g with next:=g.next+j } next) \/
 ∃ (n:Int) (names:List ByteArray) (lengths:List Int) (x:aB) (ps:List (ByteArray × Int × Int)) (vl:List ay) (ro:Bool) (tags:List ByteArray) (k j:Nat) (tl:List ay) (next':List Int) (pA:Value),
  1<=n/\n<=3/\ik g.Gd n name kind names lengths x/\lD g.id g.next names lengths ps vl/\fZ g.Gb next ps next'/\List.Sublist tags iQ/\k<=2/\(kind≠5->k=j/\k=0)/\iO g.id name k (g.next+names.length+1+1) j tl /\
  aH X bs bb nv vv w w' nv pA { g with next:=g.next+names.length+1+tl.length,F9:=g.F9++vl++[⟨name,oX g.id (g.next+names.length+1),false,ro,tags,[x]⟩]++tl } next'
def iW (n:Nat):Code->Option Code
 | .block m c=>bif Nat.beq m n then some (.block m c) else iW n c
 | .seq a b=>match iW n a with
  | some c=>some c
  | none=>iW n b
 | .loop c=>iW n c
 | .scope c=>iW n c
 | .cond _ a b=>match iW n a with
  | some c=>some c
  | none=>iW n b
 | _=>none
noncomputable def u6:Code:=((Tryz.f22.body.bind (iW 0)).getD .skip)
def kG (X:Nat->Prop)(bs bb:Nat)(nv vv:Value)(g:af)(next:List Int)(w0:World)(L:Nat)(n:Int)(name:ByteArray)(kind:Int)(J:Act->World->Prop):Prop :=
 ∀ (a':Act) (w':World),(∃ u12 u13 u14 u16 u17 u18 u19 u20 u21 u22 u23 u24 u25 u26 u27 u28 u29 u31 u32 u33 u34 u35 u36 u37 u38 u39 u40 u41 u42 u43 u44 u45 u46 u47 u48 u49 u50 u51 u52 u53 u54 u55 u56 u57 u58 u59 u60 u61 u62 u63 u64 u65 u66 u67 u68 u69 u70 u71 u72 u73 u74 u75 u76 u77 u78 u79 u80 u81 u82 u83 u84 u85 u86 u87 u88 u89 u90 u91 u92 u93 u94 u95 u96 u97 u98 u99 u100 u101 u102 u103 u104 u105 u106 u107 u108 u109 u110 u111 u112 u113 u114 u115 u116 u117 u118 u119 u120 u121 u122 u123 u124 u125 u126 u127 u128 u129 u130 u131 u132 u133 u134 u135 u136 u137 u138 u139 u140 u141 u142 u143 u144 u145 u146 u147 u148 u149 u150 u151 u152 u153 u154 u155 u156 u157 u158 u159 u160 u161 u162 u163 u164 u165 u166 u167 u168 u169 u170 u171 u172 u173 u174 u175 u176 u177 u178 u179 u180 u181 u182 u183 u184 u185 u186 u187 u188 u189 u190 u191 u192 u193 u194 u195 u196 u197 u198 u199 u200 u201 u202 u203 u204 u205 u206 u207 u208 u209 u210 u211 u212 u213 u214 u215 u216 u217 u218 u219 u220 u221 u222 u223 u224 u225 u226 u227 u228 u229 u230 u231 u232 u233 u234 u235 u236 u237 u238 u239 u240 u241 u242 u243 u244 u245 u246 u247 u248 u249 u250 u251 u252 u253 u254 u255 u256 u257 u258 u259 u260 u261 u262 u263 u264 u265 u266 u267 u268 u269 u270 u271 u272 u273 u274 u275 u276 u277 u278:Value,EM X bs bb nv vv g next w0 L n name kind w'/\a'=⟨#[.pointer (some bb),.string name,.int .i64 kind,undef,undef,undef,.int .i64 g.Gd,.int .i64 n,.pointer (some L),.pointer (some (Tac (L+1) 0)),.pointer (some (Tac (L+1+1) 0)),.func (.func 54) #[] #[.pointer (some (Tac (L+1) 0)),.pointer (some (Tac (L+1+1) 0)),.pointer (some L)],u12,u13,u14,undef,u16,u17,u18,u19,u20,u21,u22,u23,u24,u25,u26,u27,u28,u29,.int .i64 kind,u31,u32,u33,u34,u35,u36,u37,u38,u39,u40,u41,u42,u43,u44,u45,u46,u47,u48,u49,u50,u51,u52,u53,u54,u55,u56,u57,u58,u59,u60,u61,u62,u63,u64,u65,u66,u67,u68,u69,u70,u71,u72,u73,u74,u75,u76,u77,u78,u79,u80,u81,u82,u83,u84,u85,u86,u87,u88,u89,u90,u91,u92,u93,u94,u95,u96,u97,u98,u99,u100,u101,u102,u103,u104,u105,u106,u107,u108,u109,u110,u111,u112,u113,u114,u115,u116,u117,u118,u119,u120,u121,u122,u123,u124,u125,u126,u127,u128,u129,u130,u131,u132,u133,u134,u135,u136,u137,u138,u139,u140,u141,u142,u143,u144,u145,u146,u147,u148,u149,u150,u151,u152,u153,u154,u155,u156,u157,u158,u159,u160,u161,u162,u163,u164,u165,u166,u167,u168,u169,u170,u171,u172,u173,u174,u175,u176,u177,u178,u179,u180,u181,u182,u183,u184,u185,u186,u187,u188,u189,u190,u191,u192,u193,u194,u195,u196,u197,u198,u199,u200,u201,u202,u203,u204,u205,u206,u207,u208,u209,u210,u211,u212,u213,u214,u215,u216,u217,u218,u219,u220,u221,u222,u223,u224,u225,u226,u227,u228,u229,u230,u231,u232,u233,u234,u235,u236,u237,u238,u239,u240,u241,u242,u243,u244,u245,u246,u247,u248,u249,u250,u251,u252,u253,u254,u255,u256,u257,u258,u259,u260,u261,u262,u263,u264,u265,u266,u267,u268,u269,u270,u271,u272,u273,u274,u275,u276,u277,u278],[]⟩)->J a' w'
end Go.Proofs.YtaagglbgohjldaaGreatDoor
