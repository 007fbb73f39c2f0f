/- Lemmas: MkN. -/
import Derived.Test.YtjdfihglehfelaaGreatDoorPk08
import Derived.Test.YtjdfihglehfelaaGreatDoorPk09
set_option maxRecDepth 100000
set_option maxHeartbeats 32000000
set_option linter.all false
namespace Go.Proofs.YtjdfihglehfelaaGreatDoor
open Go.RowKit
structure Loc (w:World)(B Lx Ln Ll:Nat)(nsv lsv av:Value)(names:List ByteArray)(lengths:List Int)(Ga:List aR)(xs:Value→Array Value):Prop where
 bn:w.heap[Ln]?=some (.cells #[nsv] 26 (0,0))
 bl:w.heap[Ll]?=some (.cells #[lsv] 22 (0,0))
 bx:w.heap[Lx]?=some (.cells (xs av) 79 (0,0))
 on:bF aF 1 9 B (fun _=>False) w nsv names
 ol:bF cO 1 3 B (fun _=>False) w lsv lengths
 oa:bF aQ 3 60 B (fun _=>False) w av Ga
 nl:∀ k,nsv.ownBlock=some k→lsv.ownBlock≠some k
 na:∀ k,nsv.ownBlock=some k→av.ownBlock≠some k
 la:∀ k,lsv.ownBlock=some k→av.ownBlock≠some k
 d1:Lx<Ln
 d2:Ln<Ll
 d3:Ll<B
def nJ (Lx Ln Ll:Nat)(nsv lsv av:Value):Nat→Prop:=fun k=>k=Lx∨k=Ln∨k=Ll∨nsv.ownBlock=some k∨lsv.ownBlock=some k∨av.ownBlock=some k
theorem bF.ge {α:Type}{V:Rdr α}{sz B:Nat}{t:TypeId}{ok:Nat→Prop}{w:World}{v:Value}{l:List α}(h:bF V sz t B ok w v l){k:Nat}(e:v.ownBlock=some k):B≤k∧k<w.heap.size:=by
 obtain ⟨cs,ho,_⟩:=h;exact ho.lt k e
theorem bF.Gl {α:Type}{V:Rdr α}(hV:Moves V){sz B:Nat}{t:TypeId}{w w':World}{v:Value}{l:List α}(h:bF V sz t B (fun _=>False) w v l)(hz:w.heap.size≤w'.heap.size)(hk:∀ k,v.ownBlock=some k→w'.heap[k]?=w.heap[k]?):bF V sz t B (fun _=>False) w' v l:=by
 obtain ⟨cs,ho,hf⟩:=h;exact ⟨cs,aC ho hk,Flat.moves hV ⟨hz,fun _ _ f=>f.elim⟩ _ _ hf⟩
theorem bF.ty {α:Type}{V:Rdr α}{sz B:Nat}{t:TypeId}{ok:Nat→Prop}{w:World}{v:Value}{l:List α}(h:bF V sz t B ok w v l){k:Nat}(e:v.ownBlock=some k):∃ cs,w.heap[k]?=some (.cells cs t (0,0)):=by
 obtain ⟨cs,⟨_,h2⟩,_⟩:=h;rcases h2 with ⟨rfl,_⟩ | ⟨g,cap,cur,rfl,_,hg,_⟩
 ·cases e
 ·obtain rfl:g=k:=by injection e
  exact ⟨cur,hg⟩
theorem bF.ne {α β:Type}{V:Rdr α}{V':Rdr β}{sz sz' B B':Nat}{t t':TypeId}{ok ok':Nat→Prop}{w:World}{v v':Value}{l:List α}{l':List β}(h:bF V sz t B ok w v l)(h':bF V' sz' t' B' ok' w v' l')(ht:t≠t'):∀ k,v.ownBlock=some k→v'.ownBlock≠some k:=fun k e e'=>by
 obtain ⟨c,hc⟩:=h.ty e;obtain ⟨c',hc'⟩:=h'.ty e';rw [hc] at hc';injection hc' with hc'
 injection hc' with _ q _
 exact ht q
theorem bF.form {α:Type}{V:Rdr α}{sz B:Nat}{t:TypeId}{ok:Nat→Prop}{w:World}{v:Value}{l:List α}(h:bF V sz t B ok w v l):∃ p cap,v=.slice p l.length cap∧l.length≤cap∧cap≤9223372036854775807:=by
 obtain ⟨cs,⟨_,h2⟩,_⟩:=h;rcases h2 with ⟨rfl,hn⟩ | ⟨g,cap,cur,rfl,_,_,hnc,hcm,_⟩
 ·exact ⟨none,0,by rw [hn],by omega,by omega⟩
 ·exact ⟨_,cap,rfl,hnc,by unfold maxLen at hcm;omega⟩
theorem Loc.keep {w w':World}{B Lx Ln Ll:Nat}{nsv lsv av:Value}{names:List ByteArray}{lengths:List Int}{Ga:List aR}{xs:Value→Array Value}(h:Loc w B Lx Ln Ll nsv lsv av names lengths Ga xs)(hz:w.heap.size≤w'.heap.size)(hk:∀ k,nJ Lx Ln Ll nsv lsv av k→w'.heap[k]?=w.heap[k]?):Loc w' B Lx Ln Ll nsv lsv av names lengths Ga xs :=
 ⟨(hk Ln (.inr (.inl rfl))).trans h.bn,(hk Ll (.inr (.inr (.inl rfl)))).trans h.bl,(hk Lx (.inl rfl)).trans h.bx,h.on.Gl aF.moves hz (fun k e=>hk k (.inr (.inr (.inr (.inl e))))),h.ol.Gl cO.moves hz (fun k e=>hk k (.inr (.inr (.inr (.inr (.inl e)))))),h.oa.Gl aQ.moves hz (fun k e=>hk k (.inr (.inr (.inr (.inr (.inr e)))))),h.nl,h.na,h.la,h.d1,h.d2,h.d3⟩
structure FO (w:World)(B Lx Ln Ll:Nat)(nsv lsv av:Value)(names:List ByteArray)(lengths:List Int)(Ga:List aR)(xs:Value→Array Value)(s:ByteArray)(n:Int)(nsv' lsv' av':Value)(w':World):Prop where
 loc:Loc w' B Lx Ln Ll nsv' lsv' av' (names++[s]) (lengths++[n]) (Ga++[⟨true,s,0⟩]) xs
 mod:Mod (nJ Lx Ln Ll nsv lsv av) w w'
 fr:∀ k,nJ Lx Ln Ll nsv' lsv' av' k→nJ Lx Ln Ll nsv lsv av k∨(w.heap.size≤k∧k<w'.heap.size)
theorem jA {w w':World}{v:Value}(h:w.grownBy w' v.ownBlock):Mod (fun k=>v.ownBlock=some k) w w':=⟨h.os,h.tape,h.output,h.size,fun k hk hn=>h.block k hk fun e=>hn e.symm⟩
theorem jM (w:World)(B Lx Ln Ll:Nat)(nsv lsv av:Value)(names:List ByteArray)(lengths:List Int)(Ga:List aR)(xs:Value→Array Value)(x0 x1 x2 x4 x5 x6 x7 x8 x9 x10:Value)(hxs:∀ v,xs v=#[x0,x1,x2,v,x4,x5,x6,x7,x8,x9,x10])(h:Loc w B Lx Ln Ll nsv lsv av names lengths Ga xs)(hB:B≤w.heap.size)(s:ByteArray)(n:Int)(hn:names.length≤100)(hl:lengths.length≤100)(ha:Ga.length≤100) :
  Calls Tryz.prog 93 #[.string s,.int .i64 n,.pointer (some ⟨Ln,0,none⟩),.pointer (some ⟨Ll,0,none⟩),.pointer (some ⟨Lx,0,none⟩)] w (fun e w'=>e=.returned (.tuple #[])∧∃ nsv' lsv' av',FO w B Lx Ln Ll nsv lsv av names lengths Ga xs s n nsv' lsv' av' w'):=by
 have cn:w.cell? ⟨Ln,0,none⟩=some nsv:=by simp [World.cell?,h.bn]
 have cl:w.cell? ⟨Ll,0,none⟩=some lsv:=by simp [World.cell?,h.bl]
 have hd1:=h.d1;have hd2:=h.d2;have hd3:=h.d3;go_enter Tryz.func93,Tryz.ntmps93;go_wp2;refine aL (fun w'=>w'.cell? ⟨Ln,0,none⟩=some nsv∧w'.cell? ⟨Ll,0,none⟩=some lsv) 8 [1,5] (by kernel_rfl) ⟨cn,cl⟩ (fun hHeld=>?_);refine tkV 1 ?_;try simp only [ak];refine tkV 5 ?_;try simp only [ak];refine tkF 0 hHeld ?_;try simp only [ak];refine tkF 4 hHeld ?_;try simp only [ak];have hd:Loc w.drew B Lx Ln Ll nsv lsv av names lengths Ga xs:=h.keep (Nat.le_refl _) (fun _ _=>rfl);have hmd:Mod (fun _=>False) w w.drew:=(Mod.refl _ _).drewN 1;have hBd:B≤w.drew.heap.size:=hB;generalize hwd:w.drew=wd at *;clear hwd;have nown:∀ k,k<B→¬ (nsv.ownBlock=some k∨lsv.ownBlock=some k):=fun k hk q=>q.elim (fun e=>by have:=(hd.on.ge e).1;omega) (fun e=>by have:=(hd.ol.ge e).1;omega);obtain ⟨i1,hi1,hz10,hz11,hz12⟩:=info_parts o5;obtain ⟨i2,hi2,hz20,hz21,hz22⟩:=info_parts tZ
 refine fE (idx:=[(2,9),(3,10),(6,13),(7,14)]) (fun i=>[i])
  (fun i vs w'=>match i with
   | 2=>∃ b,vs 2=.slice (some ⟨b,0,none⟩) 1 1∧dS wd.heap.size 9 [.string s] b w'
   | 3=>∃ gb cap,vs 3=.slice (some ⟨gb,0,none⟩) (names.length+1) cap∧bF aF 1 9 B (fun _=>False) w' (.slice (some ⟨gb,0,none⟩) (names.length+1) cap) (names++[s])∧(nsv.ownBlock=some gb∨wd.heap.size≤gb)
   | 6=>∃ b,vs 6=.slice (some ⟨b,0,none⟩) 1 1∧dS wd.heap.size 3 [.int .i64 n] b w'
   | 7=>∃ gb cap,vs 7=.slice (some ⟨gb,0,none⟩) (lengths.length+1) cap∧bF cO 1 3 B (fun _=>False) w' (.slice (some ⟨gb,0,none⟩) (lengths.length+1) cap) (lengths++[n])∧(lsv.ownBlock=some gb∨wd.heap.size≤gb)
   | _=>True)
  (fun d w'=>(d 3=false→bF aF 1 9 B (fun _=>False) w' nsv names)∧(d 7=false→bF cO 1 3 B (fun _=>False) w' lsv lengths)∧Mod (fun k=>nsv.ownBlock=some k∨lsv.ownBlock=some k) wd w')
  (fun i w1 w2=>w1.heap.size≤w2.heap.size∧∀ k,k<w1.heap.size→(i=3→nsv.ownBlock≠some k)→(i=7→lsv.ownBlock≠some k)→w2.heap[k]?=w1.heap[k]?) (by kernel_rfl) rfl ?cs ?st (fun _ _ _ _ h=>h) ?c0 ?ob ?fin
 case c0=>exact ⟨fun _=>hd.on,fun _=>hd.ol,Mod.refl _ _⟩
 case cs =>
  intro d w' hC;have hm:=hC.2.2;refine ⟨?_,?_⟩
  ·rw [hm.cell (p:=⟨Ln,0,none⟩) (lt_of_block hd.bn) (nown Ln (by omega))]
   simp [World.cell?,hd.bn]
  ·rw [hm.cell (p:=⟨Ll,0,none⟩) (lt_of_block hd.bl) (nown Ll (by omega))]
   simp [World.cell?,hd.bl]
 case st =>
  intro p hp q _ hne vs us w1 w2 ha hF he;simp only [List.mem_cons,List.not_mem_nil,or_false] at hp;rcases hp with rfl | rfl | rfl | rfl
  ·obtain ⟨b,e,hb⟩:=hF
   exact ⟨b,(ha 2 (List.mem_cons_self ..)).trans e,hb.1,(he.2 b (lt_of_block hb.2) (fun _ e=>by have:=(hd.on.ge e).2;have:=hb.1;omega) (fun _ e=>by have:=(hd.ol.ge e).2;have:=hb.1;omega)).trans hb.2⟩
  ·obtain ⟨gb,cap,e,ho,hat⟩:=hF
   refine ⟨gb,cap,(ha 3 (List.mem_cons_self ..)).trans e,ho.Gl aF.moves he.1 (fun k ek=>he.2 k (ho.ge ek).2 (fun q3=>absurd q3 hne) (fun _ e7=>?_)),hat⟩;obtain rfl:gb=k:=by injection ek
   rcases hat with q | q
   ·exact hd.nl gb q e7
   ·have:=(hd.ol.ge e7).2;omega
  ·obtain ⟨b,e,hb⟩:=hF
   exact ⟨b,(ha 6 (List.mem_cons_self ..)).trans e,hb.1,(he.2 b (lt_of_block hb.2) (fun _ e=>by have:=(hd.on.ge e).2;have:=hb.1;omega) (fun _ e=>by have:=(hd.ol.ge e).2;have:=hb.1;omega)).trans hb.2⟩
  ·obtain ⟨gb,cap,e,ho,hat⟩:=hF
   refine ⟨gb,cap,(ha 7 (List.mem_cons_self ..)).trans e,ho.Gl cO.moves he.1 (fun k ek=>he.2 k (ho.ge ek).2 (fun _ e3=>?_) (fun q7=>absurd q7 hne)),hat⟩;obtain rfl:gb=k:=by injection ek
   rcases hat with q | q
   ·exact hd.nl gb e3 q
   ·have:=(hd.on.ge e3).2;omega
 case ob =>
  refine Obs.cons (deps:=[]) rfl rfl (by kernel_rfl) (fun vs d w' h0 hC hF K hK=>?_) ?_
  ·clear hF
   simp only [over,List.foldl_nil,Act.put];go_simp;refine hK.out (.slice (some ⟨w'.heap.size,0,none⟩) 1 1) _ ?_ ⟨by simp,fun k hk _ _=>Below.heap_alloc _ _ _ hk⟩ ⟨_,if_pos rfl,dS.new hC.2.2.size⟩ _ ?_
   ·simp only [show (d 3||(3:Nat) == 2)=d 3 from by simp,show (d 7||(7:Nat) == 2)=d 7 from by simp]
    exact ⟨fun q=>(hC.1 q).Gl aF.moves (by simp) (fun k e=>Below.heap_alloc _ _ _ ((hC.1 q).ge e).2),fun q=>(hC.2.1 q).Gl cO.moves (by simp) (fun k e=>Below.heap_alloc _ _ _ ((hC.2.1 q).ge e).2),hC.2.2.alloc _⟩
   ·simp only [over,List.foldl_nil,aS]
  refine Obs.cons (deps:=[(2,9)]) rfl rfl (by kernel_rfl) (fun vs d w' h0 hC hF K hK=>?_) ?_
  ·have f:=(hF (2,9) (by simp)).2
   clear hF;simp only [over,List.foldl_nil,List.foldl_cons,aS] at f ⊢;obtain ⟨b,e2,hb⟩:=f;rw [e2];simp only at h0;have hz:=hC.2.2.size;refine mU aF.moves Tryz.underlying26 hi1 hz10 hz11 hz12 rfl (by decide) (by decide) rfl _ _ (by rfl) B (fun _=>False) nsv names s (by rfl) (hC.1 h0) b 1 [.string s] (by rfl) (by rfl) rfl (by simp [Value.oneCell']) (fun j y hy=>?_) (by omega) (by omega) (fun _ _ f=>f) (fun gb cap w3 hp=>?_)
   ·simp only [World.cell?,hb.2]
    simpa using hy
   ·refine hK.out (.slice (some ⟨gb,0,none⟩) (names.length+1) cap) w3 ?_ ⟨hp.grown.size,fun k hk q3 q7=>hp.grown.block k hk fun e=>q3 rfl e.symm⟩ ⟨gb,cap,if_pos rfl,hp.own,hp.at'.imp id (fun q=>by omega)⟩ _ ?_
    ·simp only [show (d 7||(7:Nat) == 3)=d 7 from by simp]
     refine ⟨fun q=>by simp at q,fun q=>(hC.2.1 q).Gl cO.moves hp.grown.size (fun k e=>hp.grown.block k ((hC.2.1 q).ge e).2 (fun e'=>hd.nl k e'.symm e)),hC.2.2.trans (jA hp.grown) (fun k e=>.inl (.inl e))⟩
    ·simp only [over,List.foldl_nil,List.foldl_cons,aS,e2]
  refine Obs.cons (deps:=[]) rfl rfl (by kernel_rfl) (fun vs d w' h0 hC hF K hK=>?_) ?_
  ·clear hF
   simp only [over,List.foldl_nil,Act.put];go_simp;refine hK.out (.slice (some ⟨w'.heap.size,0,none⟩) 1 1) _ ?_ ⟨by simp,fun k hk _ _=>Below.heap_alloc _ _ _ hk⟩ ⟨_,if_pos rfl,dS.new hC.2.2.size⟩ _ ?_
   ·simp only [show (d 3||(3:Nat) == 6)=d 3 from by simp,show (d 7||(7:Nat) == 6)=d 7 from by simp]
    exact ⟨fun q=>(hC.1 q).Gl aF.moves (by simp) (fun k e=>Below.heap_alloc _ _ _ ((hC.1 q).ge e).2),fun q=>(hC.2.1 q).Gl cO.moves (by simp) (fun k e=>Below.heap_alloc _ _ _ ((hC.2.1 q).ge e).2),hC.2.2.alloc _⟩
   ·simp only [over,List.foldl_nil,aS]
  refine Obs.cons (deps:=[(6,13)]) rfl rfl (by kernel_rfl) (fun vs d w' h0 hC hF K hK=>?_) trivial
  ·have f:=(hF (6,13) (by simp)).2
   clear hF;simp only [over,List.foldl_nil,List.foldl_cons,aS] at f ⊢;obtain ⟨b,e2,hb⟩:=f;rw [e2];simp only at h0;have hz:=hC.2.2.size;refine mU cO.moves Tryz.underlying22 hi2 hz20 hz21 hz22 rfl (by decide) (by decide) rfl _ _ (by rfl) B (fun _=>False) lsv lengths n (by rfl) (hC.2.1 h0) b 1 [.int .i64 n] (by rfl) (by rfl) rfl (by simp [Value.oneCell']) (fun j y hy=>?_) (by omega) (by omega) (fun _ _ f=>f) (fun gb cap w3 hp=>?_)
   ·simp only [World.cell?,hb.2]
    simpa using hy
   ·refine hK.out (.slice (some ⟨gb,0,none⟩) (lengths.length+1) cap) w3 ?_ ⟨hp.grown.size,fun k hk q3 q7=>hp.grown.block k hk fun e=>q7 rfl e.symm⟩ ⟨gb,cap,if_pos rfl,hp.own,hp.at'.imp id (fun q=>by omega)⟩ _ ?_
    ·simp only [show (d 3||(3:Nat) == 7)=d 3 from by simp]
     refine ⟨fun q=>(hC.1 q).Gl aF.moves hp.grown.size (fun k e=>hp.grown.block k ((hC.1 q).ge e).2 (fun e'=>hd.nl k e e'.symm)),fun q=>by simp at q,hC.2.2.trans (jA hp.grown) (fun k e=>.inl (.inr e))⟩
    ·simp only [over,List.foldl_nil,List.foldl_cons,aS,e2]
 case fin =>
  intro vs d w' hC hF;have f3:=(hF (3,10) (by simp)).2;have f7:=(hF (7,14) (by simp)).2;clear hF;simp only [over,List.foldl_nil,List.foldl_cons,aS,List.drop_succ_cons,List.drop_zero] at f3 f7 ⊢;obtain ⟨g1,p1,e3,o1,t1⟩:=f3;obtain ⟨g2,p2,e7,o2,t2⟩:=f7;rw [e3,e7];generalize vs 2=v2;generalize vs 6=v6;have hm:=hC.2.2;clear hC e3 e7;have hz:=hm.size;have nLn:=nown Ln (by omega);have nLl:=nown Ll (by omega);have nLx:=nown Lx (by omega);have bn:=(hm.block Ln (lt_of_block hd.bn) nLn).trans hd.bn;have bl:=(hm.block Ll (lt_of_block hd.bl) nLl).trans hd.bl;have bx:=(hm.block Lx (lt_of_block hd.bx) nLx).trans hd.bx;have oa:bF aQ 3 60 B (fun _=>False) w' av Ga:=hd.oa.Gl aQ.moves hz (fun k e=>hm.block k (hd.oa.ge e).2 (fun q=>q.elim (fun q=>hd.na k q e) (fun q=>hd.la k q e)));have q1:w'.cell? ⟨Ln,0,none⟩=some nsv:=by simp [World.cell?,bn]
  have q2:w'.frozen? ⟨Ln,0,none⟩=false:=by simp [World.frozen?,bn]
  have q3:w'.cell? ⟨Ll,0,none⟩=some lsv:=by simp [World.cell?,bl]
  have q4:w'.frozen? ⟨Ll,0,none⟩=false:=by simp [World.frozen?,bl]
  have x1:Ln≠Ll:=by omega
  have x2:Lx≠Ln:=by omega
  have x3:Lx≠Ll:=by omega
  generalize hW:(w'.setCell ⟨Ln,0,none⟩ (.slice (some ⟨g1,0,none⟩) (names.length+1) p1)).setCell ⟨Ll,0,none⟩ (.slice (some ⟨g2,0,none⟩) (lengths.length+1) p2)=W;have hWk:∀ k,k≠Ln→k≠Ll→W.heap[k]?=w'.heap[k]?:=fun k e1 e2=>by rw [← hW,Below.heap_setCell _ _ _ _ e2,Below.heap_setCell _ _ _ _ e1]
  have hWz:W.heap.size=w'.heap.size:=by rw [← hW];simp [World.setCell]
  have hWn:W.heap[Ln]?=some (.cells #[.slice (some ⟨g1,0,none⟩) (names.length+1) p1] 26 (0,0)):=by
   rw [← hW,Below.heap_setCell _ _ _ _ x1];exact block_setCell (cs:=#[_]) (i:=0) _ bn
  have hWl:W.heap[Ll]?=some (.cells #[.slice (some ⟨g2,0,none⟩) (lengths.length+1) p2] 22 (0,0)):=by
   rw [← hW];exact block_setCell (cs:=#[_]) (i:=0) _ ((Below.heap_setCell _ _ _ _ (Ne.symm x1)).trans bl)
  have hWx:W.heap[Lx]?=some (.cells (xs av) 79 (0,0)):=(hWk Lx x2 x3).trans bx;have oaW:bF aQ 3 60 B (fun _=>False) W av Ga:=oa.Gl aQ.moves (by omega) (fun k e=>hWk k (by have:=(oa.ge e).1;omega) (by have:=(oa.ge e).1;omega));have o1W:bF aF 1 9 B (fun _=>False) W (.slice (some ⟨g1,0,none⟩) (names.length+1) p1) (names++[s]):=o1.Gl aF.moves (by omega) (fun k e=>hWk k (by have:=(o1.ge e).1;omega) (by have:=(o1.ge e).1;omega));have o2W:bF cO 1 3 B (fun _=>False) W (.slice (some ⟨g2,0,none⟩) (lengths.length+1) p2) (lengths++[n]):=o2.Gl cO.moves (by omega) (fun k e=>hWk k (by have:=(o2.ge e).1;omega) (by have:=(o2.ge e).1;omega))
  have hmW:Mod (nJ Lx Ln Ll nsv lsv av) wd W:=by
   rw [← hW];exact ((hm.mono (G:=nJ Lx Ln Ll nsv lsv av) (fun k q=>q.elim (fun q=>.inr (.inr (.inr (.inl q)))) (fun q=>.inr (.inr (.inr (.inr (.inl q))))))).setCell (p:=⟨Ln,0,none⟩) (.inl (.inr (.inl rfl))) _).setCell (p:=⟨Ll,0,none⟩) (.inl (.inr (.inr (.inl rfl)))) _
  have g1B:=o1.ge (k:=g1) rfl;have g2B:=o2.ge (k:=g2) rfl;have hcx:W.cell? ⟨Lx,3,none⟩=some av:=by simp [World.cell?,hWx,hxs]
  have hLxW:Lx<W.heap.size:=lt_of_block hWx;have hcx2:∀ o,(W.alloc o).cell? ⟨Lx,3,none⟩=some av:=fun o=>(World.cell?_of_block (w:=W) (Below.heap_alloc _ _ _ hLxW)).trans hcx;obtain ⟨i3,hi3,hz30,hz31,hz32⟩:=info_parts kL;have HWn:=aa hWn;clear hWn;have HWl:=aa hWl;clear hWl;have HWx:=aa hWx;clear hWx;have HWk:=aa hWk;clear hWk;have HI:=aa hi3;clear hi3;have H0:=aa hz30;clear hz30;have H1:=aa hz31;clear hz31;have H2:=aa hz32;clear hz32;have HWz:=aa hWz;clear hWz;have HXS:=aa hxs;clear hxs;clear bn bl bx hi1 hi2 hz10 hz11 hz12 hz20 hz21 hz22 cn cl
  go_wp2_with (at_builtin;refine dX aQ.moves Tryz.underlying57 HI.out H0.out H1.out H2.out rfl (by decide) (by decide) rfl _ _ rfl B (fun _=>False) av Ga ⟨true,s,0⟩ rfl ?c1 W.heap.size 1 [.bool true,.string s,.int .i64 0] rfl rfl rfl ?c2 ?c3 ?c4 ?c5 (fun _ _ f=>f) ?_)
  case c1=>exact oaW.Gl aQ.moves (by simp) (fun k e=>Below.heap_alloc _ _ _ (oaW.ge e).2)
  case c2=>simp [Value.oneCell']
  case c3 =>
   intro j y hy;exact aD rfl (by simpa using hy)
  case c4=>omega
  case c5 =>
   have:=HWz.out;simp;omega
  intro g3 p3 w3 hp;have hz3:=hp.grown.size;rw [World.size_alloc] at hz3;have hWz:=HWz.out;have k3:∀ k,k<W.heap.size→av.ownBlock≠some k→w3.heap[k]?=W.heap[k]?:=fun k hk hn=>(hp.grown.block k (by simp;omega) (fun e=>hn e.symm)).trans (Below.heap_alloc _ _ _ hk);have nx:∀ k,k<B→av.ownBlock≠some k:=fun k hk e=>by have:=(oaW.ge e).1;omega
  have b3x:=(k3 Lx hLxW (nx Lx (by omega))).trans HWx.out;have y1:w3.cell? ⟨Lx,3,none⟩=some av:=by simp [World.cell?,b3x,HXS.out]
  have y2:w3.frozen? ⟨Lx,3,none⟩=false:=by simp [World.frozen?,b3x]
  have HB3:=aa b3x;clear b3x;have HK3:=aa k3;clear k3;have HP:=aa hp;clear hp;clear hcx hcx2 hWz;go_wp2
  go_end0
  have hg3:=HP.out.own.ge (k:=g3) rfl;have g3at:av.ownBlock=some g3∨g3=W.heap.size+1:=HP.out.at'.imp id (fun q=>by rw [q];simp);have hWz:=HWz.out;have kk:∀ k,k≠Lx→(w3.setCell ⟨Lx,3,none⟩ (.slice (some ⟨g3,0,none⟩) (Ga.length+1) p3)).heap[k]?=w3.heap[k]?:=fun k e=>Below.heap_setCell _ _ _ _ e;have hz5:(w3.setCell ⟨Lx,3,none⟩ (.slice (some ⟨g3,0,none⟩) (Ga.length+1) p3)).heap.size=w3.heap.size:=by simp [World.setCell]
  have on5:bF aF 1 9 B (fun _=>False) (w3.setCell ⟨Lx,3,none⟩ (.slice (some ⟨g3,0,none⟩) (Ga.length+1) p3)) (.slice (some ⟨g1,0,none⟩) (names.length+1) p1) (names++[s]):=o1W.Gl aF.moves (by omega) (fun k e=>(kk k (by have:=(o1W.ge e).1;omega)).trans (HK3.out k (o1W.ge e).2 (o1W.ne oaW (by decide) k e)));have ol5:bF cO 1 3 B (fun _=>False) (w3.setCell ⟨Lx,3,none⟩ (.slice (some ⟨g3,0,none⟩) (Ga.length+1) p3)) (.slice (some ⟨g2,0,none⟩) (lengths.length+1) p2) (lengths++[n]):=o2W.Gl cO.moves (by omega) (fun k e=>(kk k (by have:=(o2W.ge e).1;omega)).trans (HK3.out k (o2W.ge e).2 (o2W.ne oaW (by decide) k e)));have oa5:bF aQ 3 60 B (fun _=>False) (w3.setCell ⟨Lx,3,none⟩ (.slice (some ⟨g3,0,none⟩) (Ga.length+1) p3)) (.slice (some ⟨g3,0,none⟩) (Ga.length+1) p3) (Ga++[⟨true,s,0⟩]):=HP.out.own.Gl aQ.moves (by omega) (fun k e=>kk k (by have:=(HP.out.own.ge e).1;omega));refine ⟨rfl,.slice (some ⟨g1,0,none⟩) (names.length+1) p1,.slice (some ⟨g2,0,none⟩) (lengths.length+1) p2,.slice (some ⟨g3,0,none⟩) (Ga.length+1) p3,⟨?_,?_,?_,on5,ol5,oa5,on5.ne ol5 (by decide),on5.ne oa5 (by decide),ol5.ne oa5 (by decide),hd1,hd2,hd3⟩,?_,?_⟩
  ·exact (kk Ln (Ne.symm x2)).trans ((HK3.out Ln (lt_of_block HWn.out) (nx Ln (by omega))).trans HWn.out)
  ·exact (kk Ll (Ne.symm x3)).trans ((HK3.out Ll (lt_of_block HWl.out) (nx Ll (by omega))).trans HWl.out)
  ·have:=block_setCell (i:=3) (.slice (some ⟨g3,0,none⟩) (Ga.length+1) p3) HB3.out
   rw [this,HXS.out,HXS.out];rfl
  ·have m2:Mod (nJ Lx Ln Ll nsv lsv av) w W:=(hmd.mono (G:=nJ Lx Ln Ll nsv lsv av) (fun _ f=>f.elim)).trans hmW (fun _ q=>.inl q)
   exact ((m2.alloc _).trans (jA HP.out.grown) (fun k q=>.inl (.inr (.inr (.inr (.inr (.inr q))))))).setCell (p:=⟨Lx,3,none⟩) (.inl (.inl rfl)) _
  ·have hwz:=hmd.size
   have hwz2:=hmW.size;rintro k (rfl | rfl | rfl | q | q | q)
   ·exact .inl (.inl rfl)
   ·exact .inl (.inr (.inl rfl))
   ·exact .inl (.inr (.inr (.inl rfl)))
   ·have hk5:=(on5.ge q).2
    obtain rfl:g1=k:=by injection q
    rcases t1 with q1 | q1
    ·exact .inl (.inr (.inr (.inr (.inl q1))))
    ·exact .inr ⟨by omega,hk5⟩
   ·have hk5:=(ol5.ge q).2
    obtain rfl:g2=k:=by injection q
    rcases t2 with q1 | q1
    ·exact .inl (.inr (.inr (.inr (.inr (.inl q1)))))
    ·exact .inr ⟨by omega,hk5⟩
   ·have hk5:=(oa5.ge q).2
    obtain rfl:g3=k:=by injection q
    rcases g3at with q1 | q1
    ·exact .inl (.inr (.inr (.inr (.inr (.inr q1)))))
    ·exact .inr ⟨by omega,hk5⟩
def digit (i:Nat):ByteArray:=⟨#[(48+i).toUInt8]⟩
def FX:ByteArray:=⟨#[95,108,101,103]⟩
def qm:ByteArray:=⟨#[95,108,111,103]⟩
def Ab:ByteArray:=⟨#[95,109,101,116,97]⟩
def Aj:ByteArray:=⟨#[95,100,97,116,97]⟩
def EO:ByteArray:=⟨#[95,108,101,103,48]⟩
def Ex (name:ByteArray)(i:Nat):ByteArray:=(name++FX)++digit i
def aI (name:ByteArray)(k:Nat):List ByteArray:=(List.range k).map (Ex name)
def gB (l:List ByteArray):List aR:=l.map fun s=>⟨true,s,0⟩
theorem sW (l:List ByteArray)(s:ByteArray):gB (l++[s])=gB l++[⟨true,s,0⟩]:=by simp [gB]
theorem lN (name:ByteArray)(k:Nat):aI name (k+1)=aI name k++[Ex name k]:=by simp [aI,List.range_succ]
inductive ik (e n:Int)(name:ByteArray):Int→List ByteArray→List Int→aB→Prop
 | mirror (k:Nat) (hk:2≤k∧k≤3) (c:Int) (hc:1≤c∧c≤4) (st:List Int) (hst:st=[]∨∃ i:Int,0≤i∧i<k∧st=[i]):ik e n name 3 (aI name k) (List.replicate k n) ⟨0,n,3,gB (aI name k),c,st,es,es,0,0,0⟩
 | mirrorLog (k:Nat) (hk:2≤k∧k≤3) (c:Int) (hc:1≤c∧c≤4) (st:List Int) (hst:st=[]∨∃ i:Int,0≤i∧i<k∧st=[i]):ik e n name 3 (aI name k++[name++qm]) (List.replicate k n++[1+(1+(n*e+63) / 64) / e]) ⟨0,n,3,gB (aI name k),c,st,name++qm,es,0,0,0⟩
 | parity (k:Nat) (hk:3≤k∧k≤4) (c:Int) (hc:c=1∨c=e):ik e n name 4 (aI name k) (List.replicate k (n+(15+e) / e)) ⟨0,n*(k - 1),4,gB (aI name k),c,[],es,es,0,0,0⟩
 | pool (l c:Int) (hl:1≤l∧l≤3) (hc:1≤c∧c≤8):ik e n name 5 [name++Ab,name++Aj] [l,n] ⟨0,n,5,gB [name++Ab,name++Aj],c,[],es,es,0,0,0⟩
 | cache (l m c:Int) (hl:1≤l∧l≤2) (hm:1≤m∧m≤2) (hc:1≤c∧c≤4):ik e n name 7 [name++EO,name++Aj,name++Ab] [n,l,1] ⟨0,n,7,gB [name++EO,name++Aj,name++Ab],c,[],es,es,0,m,0⟩
theorem ik.ok {e n:Int}{name:ByteArray}{kind:Int}{names:List ByteArray}{lengths:List Int}{x:aB}(h:ik e n name kind names lengths x)(h1:1≤e)(h2:e≤16)(h3:1≤n)(h4:n≤3):names.length=lengths.length∧names.length≤8∧∀ l∈lengths,1≤l∧l≤1000:=by
 have hq:∀ a:Int,0≤a→a≤200→0≤a / e∧a / e≤200:=fun a ha hb=>⟨Int.ediv_nonneg ha (by omega),Int.le_trans (Int.ediv_le_self _ ha) hb⟩;cases h with
 | mirror k hk c hc st hst =>
  refine ⟨by simp [aI],by simp [aI];omega,fun l hl=>?_⟩;rw [List.mem_replicate] at hl;omega
 | mirrorLog k hk c hc st hst =>
  refine ⟨by simp [aI],by simp [aI];omega,fun l hl=>?_⟩;rcases List.mem_append.1 hl with hl | hl
  ·rw [List.mem_replicate] at hl
   omega
  ·simp only [List.mem_cons,List.not_mem_nil,or_false] at hl
   have b1:0≤n*e∧n*e≤48:=by rcases (show n=1∨n=2∨n=3 by omega) with rfl | rfl | rfl <;> omega
   have:=hq (1+(n*e+63) / 64) (by omega) (by omega);omega
 | parity k hk c hc =>
  refine ⟨by simp [aI],by simp [aI];omega,fun l hl=>?_⟩;rw [List.mem_replicate] at hl;have:=hq (15+e) (by omega) (by omega);omega
 | pool l c hl hc =>
  refine ⟨rfl,by simp,fun l hl=>?_⟩;simp only [List.mem_cons,List.not_mem_nil,or_false] at hl;omega
 | cache l m c hl hm hc =>
  refine ⟨rfl,by simp,fun l hl=>?_⟩;simp only [List.mem_cons,List.not_mem_nil,or_false] at hl;omega
def xsF (len kind chunk:Int)(stv:Value)(log:ByteArray)(mode:Int):Value→Array Value:=fun v=>#[.int .i64 0,.int .i64 len,.int .i64 kind,v,.int .i64 chunk,stv,.string log,.string es,.int .i64 0,.int .i64 mode,.int .i64 0]
def Yc (X:Nat→Prop)(Lx Ln Ll:Nat)(nsv lsv av:Value):Nat→Prop:=fun k=>X k∨nJ Lx Ln Ll nsv lsv av k
structure CSt (X:Nat→Prop)(bs bb:Nat)(nv vv:Value)(g:af)(next:List Int)(w0:World)(B Lx Ln Ll:Nat)(nsv lsv av stv:Value)(names:List ByteArray)(lengths:List Int)(Ga:List aR)(st:List Int)(len kind chunk:Int)(log:ByteArray)(mode:Int)(w:World):Prop where
 loc:Loc w B Lx Ln Ll nsv lsv av names lengths Ga (xsF len kind chunk stv log mode)
 post:aH (Yc X Lx Ln Ll nsv lsv av) bs bb nv vv w0 w nv vv g next
 rs:RdS cO 1 (okB (Yc X Lx Ln Ll nsv lsv av) bb nv vv) w [stv] st
 hB:B≤w.heap.size
 hL:w0.heap.size≤Lx
section
variable {X:Nat→Prop}{bs bb:Nat}{nv vv:Value}{g:af}{next:List Int}{w0 w w':World}{B Lx Ln Ll:Nat}{nsv lsv av stv nsv' lsv' av':Value}{names:List ByteArray}{lengths:List Int}{Ga:List aR}{st:List Int}{len kind chunk n:Int}{log s:ByteArray}{mode:Int}
theorem CSt.ge (h:CSt X bs bb nv vv g next w0 B Lx Ln Ll nsv lsv av stv names lengths Ga st len kind chunk log mode w){k:Nat}(hk:nJ Lx Ln Ll nsv lsv av k):w0.heap.size≤k:=by
 have d1:=h.loc.d1;have d2:=h.loc.d2;have d3:=h.loc.d3;have hL:=h.hL;rcases hk with rfl | rfl | rfl | q | q | q
 ·exact hL
 ·omega
 ·omega
 ·have:=(h.loc.on.ge q).1;omega
 ·have:=(h.loc.ol.ge q).1;omega
 ·have:=(h.loc.oa.ge q).1;omega
theorem CSt.below (h:CSt X bs bb nv vv g next w0 B Lx Ln Ll nsv lsv av stv names lengths Ga st len kind chunk log mode w)(hb:Below w.heap.size w w'):CSt X bs bb nv vv g next w0 B Lx Ln Ll nsv lsv av stv names lengths Ga st len kind chunk log mode w' :=
 ⟨h.loc.keep hb.size (fun k hk=>hb.block k (h.post.bld.xlt k (.inr hk)).2),h.post.after hb,(RdS.moves cO.moves).mv ⟨hb.size,fun b hb' ho=>⟨ho,hb.block b hb'⟩⟩ h.rs,Nat.le_trans h.hB hb.size,h.hL⟩
theorem CSt.read (h:CSt X bs bb nv vv g next w0 B Lx Ln Ll nsv lsv av stv names lengths Ga st len kind chunk log mode w)(hs:Src w' bs)(hm:Mod (fun i=>i=bs) w w'):CSt X bs bb nv vv g next w0 B Lx Ln Ll nsv lsv av stv names lengths Ga st len kind chunk log mode w':=by
 have hbs:=h.post.bld.lt;refine ⟨h.loc.keep hm.size (fun k hk=>hm.block k (h.post.bld.xlt k (.inr hk)).2 (fun e=>by have:=(h.post.bld.xlt k (.inr hk)).1;omega)),h.post.read hs hm,(RdS.moves cO.moves).mv ⟨hm.size,fun b hb' ho=>⟨ho,hm.block b hb' (fun e=>by have:=ho.1;omega)⟩⟩ h.rs,Nat.le_trans h.hB hm.size,h.hL⟩
theorem CSt.add (h:CSt X bs bb nv vv g next w0 B Lx Ln Ll nsv lsv av stv names lengths Ga st len kind chunk log mode w)(p:FO w B Lx Ln Ll nsv lsv av names lengths Ga (xsF len kind chunk stv log mode) s n nsv' lsv' av' w'):CSt X bs bb nv vv g next w0 B Lx Ln Ll nsv' lsv' av' stv (names++[s]) (lengths++[n]) (Ga++[⟨true,s,0⟩]) st len kind chunk log mode w':=by
 refine ⟨p.loc,h.post.move ⟨p.mod.os,p.mod.tape,p.mod.output,p.mod.size,fun k hk hn=>p.mod.block k hk fun q=>hn ⟨.inr q,h.ge q⟩⟩ (fun k hk=>?_),(RdS.moves cO.moves).mv ⟨p.mod.size,fun b hb ho=>⟨⟨ho.1,ho.2.1,ho.2.2.1,fun q=>?_⟩,p.mod.block b hb fun q=>ho.2.2.2 (.inr q)⟩⟩ h.rs,Nat.le_trans h.hB p.mod.size,h.hL⟩
 ·rcases hk with q | q
  ·exact .inl (.inl q)
  ·exact (p.fr k q).imp (fun q=>.inr q) id
 ·rcases q with q | q
  ·exact ho.2.2.2 (.inl q)
  ·rcases p.fr b q with q | q
   ·exact ho.2.2.2 (.inr q)
   ·omega
theorem CSt.put (h:CSt X bs bb nv vv g next w0 B Lx Ln Ll nsv lsv av stv names lengths Ga st len kind chunk log mode w)(i:Nat)(u:Value){len' chunk' mode':Int}{log':ByteArray}(he:∀ v,(xsF len kind chunk stv log mode v).setIfInBounds i u=xsF len' kind chunk' stv log' mode' v):CSt X bs bb nv vv g next w0 B Lx Ln Ll nsv lsv av stv names lengths Ga st len' kind chunk' log' mode' (w.setCell ⟨Lx,i,none⟩ u):=by
 have d1:=h.loc.d1;have d2:=h.loc.d2;have d3:=h.loc.d3;have hz:(w.setCell ⟨Lx,i,none⟩ u).heap.size=w.heap.size:=by simp [World.setCell]
 have kk:∀ k,k≠Lx→(w.setCell ⟨Lx,i,none⟩ u).heap[k]?=w.heap[k]?:=fun k e=>Below.heap_setCell _ _ _ _ e;refine ⟨⟨(kk Ln (by omega)).trans h.loc.bn,(kk Ll (by omega)).trans h.loc.bl,?_,h.loc.on.Gl aF.moves (by omega) (fun k e=>kk k (by have:=(h.loc.on.ge e).1;omega)),h.loc.ol.Gl cO.moves (by omega) (fun k e=>kk k (by have:=(h.loc.ol.ge e).1;omega)),h.loc.oa.Gl aQ.moves (by omega) (fun k e=>kk k (by have:=(h.loc.oa.ge e).1;omega)),h.loc.nl,h.loc.na,h.loc.la,d1,d2,d3⟩,h.post.put Lx i u (.inr (.inl rfl)) h.hL,(RdS.moves cO.moves).mv ⟨by omega,fun b hb ho=>⟨ho,kk b (fun e=>ho.2.2.2 (.inr (.inl e)))⟩⟩ h.rs,by rw [hz];exact h.hB,h.hL⟩
 rw [← he];exact block_setCell (i:=i) u h.loc.bx
theorem CSt.push2 {w1:World}{g1 p1 g2 p2:Nat}(h:CSt X bs bb nv vv g next w0 B Lx Ln Ll nsv lsv av stv names lengths Ga st len kind chunk log mode w)(hm:Mod (fun k=>nsv.ownBlock=some k∨lsv.ownBlock=some k) w w1)
  (o1:bF aF 1 9 B (fun _=>False) w1 (.slice (some ⟨g1,0,none⟩) (names.length+1) p1) (names++[s])) (t1:nsv.ownBlock=some g1∨w.heap.size≤g1)
  (o2:bF cO 1 3 B (fun _=>False) w1 (.slice (some ⟨g2,0,none⟩) (lengths.length+1) p2) (lengths++[n])) (t2:lsv.ownBlock=some g2∨w.heap.size≤g2) :
  CSt X bs bb nv vv g next w0 B Lx Ln Ll (.slice (some ⟨g1,0,none⟩) (names.length+1) p1) (.slice (some ⟨g2,0,none⟩) (lengths.length+1) p2) av stv (names++[s]) (lengths++[n]) Ga st len kind chunk log mode ((w1.setCell ⟨Ln,0,none⟩ (.slice (some ⟨g1,0,none⟩) (names.length+1) p1)).setCell ⟨Ll,0,none⟩ (.slice (some ⟨g2,0,none⟩) (lengths.length+1) p2)) ∧
   w1.cell? ⟨Ln,0,none⟩=some nsv∧w1.frozen? ⟨Ln,0,none⟩=false∧w1.cell? ⟨Ll,0,none⟩=some lsv∧w1.frozen? ⟨Ll,0,none⟩=false:=by
 have hd:=h.loc;have d1:=hd.d1;have d2:=hd.d2;have d3:=hd.d3;have hz:=hm.size;have nown:∀ k,k<B→¬ (nsv.ownBlock=some k∨lsv.ownBlock=some k):=fun k hk q=>q.elim (fun e=>by have:=(hd.on.ge e).1;omega) (fun e=>by have:=(hd.ol.ge e).1;omega);have bn:=(hm.block Ln (lt_of_block hd.bn) (nown Ln (by omega))).trans hd.bn;have bl:=(hm.block Ll (lt_of_block hd.bl) (nown Ll (by omega))).trans hd.bl;have bx:=(hm.block Lx (lt_of_block hd.bx) (nown Lx (by omega))).trans hd.bx;have x1:Ln≠Ll:=by omega
 have x2:Lx≠Ln:=by omega
 have x3:Lx≠Ll:=by omega
 have oa:bF aQ 3 60 B (fun _=>False) w1 av Ga:=hd.oa.Gl aQ.moves hz (fun k e=>hm.block k (hd.oa.ge e).2 (fun q=>q.elim (fun q=>hd.na k q e) (fun q=>hd.la k q e)));refine ⟨?_,by simp [World.cell?,bn],by simp [World.frozen?,bn],by simp [World.cell?,bl],by simp [World.frozen?,bl]⟩;generalize hW:(w1.setCell ⟨Ln,0,none⟩ (.slice (some ⟨g1,0,none⟩) (names.length+1) p1)).setCell ⟨Ll,0,none⟩ (.slice (some ⟨g2,0,none⟩) (lengths.length+1) p2)=W;have hWk:∀ k,k≠Ln→k≠Ll→W.heap[k]?=w1.heap[k]?:=fun k e1 e2=>by rw [← hW,Below.heap_setCell _ _ _ _ e2,Below.heap_setCell _ _ _ _ e1]
 have hWz:W.heap.size=w1.heap.size:=by rw [← hW];simp [World.setCell]
 have on5:=o1.Gl (w':=W) aF.moves (by omega) (fun k e=>hWk k (by have:=(o1.ge e).1;omega) (by have:=(o1.ge e).1;omega));have ol5:=o2.Gl (w':=W) cO.moves (by omega) (fun k e=>hWk k (by have:=(o2.ge e).1;omega) (by have:=(o2.ge e).1;omega));have oa5:=oa.Gl (w':=W) aQ.moves (by omega) (fun k e=>hWk k (by have:=(oa.ge e).1;omega) (by have:=(oa.ge e).1;omega))
 have hmW:Mod (nJ Lx Ln Ll nsv lsv av) w W:=by
  rw [← hW];exact ((hm.mono (G:=nJ Lx Ln Ll nsv lsv av) (fun k q=>q.elim (fun q=>.inr (.inr (.inr (.inl q)))) (fun q=>.inr (.inr (.inr (.inr (.inl q))))))).setCell (p:=⟨Ln,0,none⟩) (.inl (.inr (.inl rfl))) _).setCell (p:=⟨Ll,0,none⟩) (.inl (.inr (.inr (.inl rfl)))) _
 have fr:∀ k,nJ Lx Ln Ll (.slice (some ⟨g1,0,none⟩) (names.length+1) p1) (.slice (some ⟨g2,0,none⟩) (lengths.length+1) p2) av k→nJ Lx Ln Ll nsv lsv av k∨(w.heap.size≤k∧k<W.heap.size):=by
  rintro k (rfl | rfl | rfl | q | q | q)
  ·exact .inl (.inl rfl)
  ·exact .inl (.inr (.inl rfl))
  ·exact .inl (.inr (.inr (.inl rfl)))
  ·have hk5:=(on5.ge q).2
   obtain rfl:g1=k:=by injection q
   rcases t1 with q1 | q1
   ·exact .inl (.inr (.inr (.inr (.inl q1))))
   ·exact .inr ⟨by omega,hk5⟩
  ·have hk5:=(ol5.ge q).2
   obtain rfl:g2=k:=by injection q
   rcases t2 with q1 | q1
   ·exact .inl (.inr (.inr (.inr (.inr (.inl q1)))))
   ·exact .inr ⟨by omega,hk5⟩
  ·exact .inl (.inr (.inr (.inr (.inr (.inr q)))))
 refine ⟨⟨?_,?_,(hWk Lx x2 x3).trans bx,on5,ol5,oa5,on5.ne ol5 (by decide),on5.ne oa5 (by decide),ol5.ne oa5 (by decide),d1,d2,d3⟩,h.post.move ⟨hmW.os,hmW.tape,hmW.output,hmW.size,fun k hk hn=>hmW.block k hk fun q=>hn ⟨.inr q,h.ge q⟩⟩ (fun k hk=>?_),(RdS.moves cO.moves).mv ⟨hmW.size,fun b hb ho=>⟨⟨ho.1,ho.2.1,ho.2.2.1,fun q=>?_⟩,hmW.block b hb fun q=>ho.2.2.2 (.inr q)⟩⟩ h.rs,Nat.le_trans h.hB hmW.size,h.hL⟩
 ·rw [← hW,Below.heap_setCell _ _ _ _ x1]
  exact block_setCell (cs:=#[_]) (i:=0) _ bn
 ·rw [← hW]
  exact block_setCell (cs:=#[_]) (i:=0) _ ((Below.heap_setCell _ _ _ _ (Ne.symm x1)).trans bl)
 ·rcases hk with q | q
  ·exact .inl (.inl q)
  ·exact (fr k q).imp (fun q=>.inr q) id
 ·rcases q with q | q
  ·exact ho.2.2.2 (.inl q)
  ·rcases fr b q with q | q
   ·exact ho.2.2.2 (.inr q)
   ·omega
theorem CSt.stale {b:Nat}{i:Int}(h:CSt X bs bb nv vv g next w0 B Lx Ln Ll nsv lsv av stv names lengths Ga st len kind chunk log mode w)(hb:w.heap[b]?=some (.cells #[.int .i64 i] 3 (0,0)))(hbb:bb<b)(hn:¬ Yc X Lx Ln Ll nsv lsv av b)(hbn:nv.ownBlock≠some b)(hbv:vv.ownBlock≠some b) :
  CSt X bs bb nv vv g next w0 B Lx Ln Ll nsv lsv av (.slice (some ⟨b,0,none⟩) 1 1) names lengths Ga [i] len kind chunk log mode (w.setCell ⟨Lx,5,none⟩ (.slice (some ⟨b,0,none⟩) 1 1)):=by
 have d1:=h.loc.d1;have d2:=h.loc.d2;have d3:=h.loc.d3;have hz:(w.setCell ⟨Lx,5,none⟩ (.slice (some ⟨b,0,none⟩) 1 1)).heap.size=w.heap.size:=by simp [World.setCell]
 have kk:∀ k,k≠Lx→(w.setCell ⟨Lx,5,none⟩ (.slice (some ⟨b,0,none⟩) 1 1)).heap[k]?=w.heap[k]?:=fun k e=>Below.heap_setCell _ _ _ _ e;refine ⟨⟨(kk Ln (by omega)).trans h.loc.bn,(kk Ll (by omega)).trans h.loc.bl,block_setCell (i:=5) _ h.loc.bx,h.loc.on.Gl aF.moves (by omega) (fun k e=>kk k (by have:=(h.loc.on.ge e).1;omega)),h.loc.ol.Gl cO.moves (by omega) (fun k e=>kk k (by have:=(h.loc.ol.ge e).1;omega)),h.loc.oa.Gl aQ.moves (by omega) (fun k e=>kk k (by have:=(h.loc.oa.ge e).1;omega)),h.loc.nl,h.loc.na,h.loc.la,d1,d2,d3⟩,h.post.put Lx 5 _ (.inr (.inl rfl)) h.hL,?_,by rw [hz];exact h.hB,h.hL⟩
 exact RdS.one (u:=[.int .i64 i]) ((kk b (fun e=>hn (.inr (.inl e)))).trans hb) ⟨hbb,hbn,hbv,hn⟩ rfl rfl
theorem CSt.cx (h:CSt X bs bb nv vv g next w0 B Lx Ln Ll nsv lsv av stv names lengths Ga st len kind chunk log mode w)(i:Nat){v:Value}(hv:(xsF len kind chunk stv log mode av)[i]?=some v):w.cell? ⟨Lx,i,none⟩=some v∧w.frozen? ⟨Lx,i,none⟩=false:=by
 refine ⟨?_,by simp [World.frozen?,h.loc.bx]⟩;simp only [World.cell?,h.loc.bx];simpa using hv
end
theorem Bld.c4 {X:Nat→Prop}{w:World}{bs bb:Nat}{nv vv:Value}{g:af}{next:List Int}(h:Bld X w bs bb nv vv g next):w.cell? ⟨bb,4,none⟩=some (.int .i64 g.Gd):=by
 obtain ⟨tv,dv,hv,e,_,h2,_⟩:=h.blk;simp [World.cell?,e]
def EM (X:Nat→Prop)(bs bb:Nat)(nv vv:Value)(g:af)(next:List Int)(w0:World)(L:Nat)(n:Int)(name:ByteArray)(kind:Int)(w:World):Prop :=
 ∃ (nsv lsv av stv:Value) (names:List ByteArray) (lengths:List Int) (x:aB),ik g.Gd n name kind names lengths x∧CSt X bs bb nv vv g next w0 (L+1+1+1) L (L+1) (L+1+1) nsv lsv av stv names lengths x.Ga x.stale x.length kind x.chunk x.log x.mode w
def tT:ByteArray:=⟨#[116]⟩
def jY (name:ByteArray)(id len:Int)(i:Nat):ay:=⟨(name++tT)++digit i,id,false,false,[],[⟨0,len,6,[],0,[],es,name,i,0,0⟩]⟩
inductive iO (id:Int)(name:ByteArray)(k:Nat):Int→Nat→List ay→Prop
 | nil (c:Int):iO id name k c k []
 | snoc {c:Int} {j:Nat} {vl:List ay} {len:Int} (h:iO id name k c (j+1) vl) (hl:1≤len∧len≤4):iO id name k c j (vl++[jY name (idOf id (c+vl.length)) len (j+1)])
def FD (X:Nat→Prop)(bs bb:Nat)(nv vv:Value)(g:af)(next:List Int)(name:ByteArray)(kind:Int)(w w':World):Prop :=
 (∃ (j:Nat) (nv' vv':Value),j≤8∧aH X bs bb nv vv w w' nv' vv' { g with next:=g.next+j } next) ∨
 ∃ (n:Int) (names:List ByteArray) (lengths:List Int) (x:aB) (ps:List (ByteArray × Int × Int)) (vl:List ay) (ro:Bool) (tags:List ByteArray) (k j:Nat) (tl:List ay) (next':List Int) (vv':Value),
  1≤n∧n≤3∧ik g.Gd n name kind names lengths x∧lD g.id g.next names lengths ps vl∧fZ g.Gb next ps next'∧List.Sublist tags iQ∧k≤2∧(kind≠5→k=j∧k=0)∧iO g.id name k (g.next+names.length+1+1) j tl ∧
  aH X bs bb nv vv w w' nv vv' { g with next:=g.next+names.length+1+tl.length,F9:=g.F9++vl++[⟨name,idOf g.id (g.next+names.length+1),false,ro,tags,[x]⟩]++tl } next'
def iW (n:Nat):Code→Option Code
 | .block m c=>bif Nat.beq m n then some (.block m c) else iW n c
 | .seq a b=>match iW n a with
  | some c=>some c
  | none=>iW n b
 | .loop c=>iW n c
 | .scope c=>iW n c
 | .cond _ a b=>match iW n a with
  | some c=>some c
  | none=>iW n b
 | _=>none
noncomputable def u6:Code:=((Tryz.f46.body.bind (iW 0)).getD .skip)
def kG (X:Nat→Prop)(bs bb:Nat)(nv vv:Value)(g:af)(next:List Int)(w0:World)(L:Nat)(n:Int)(name:ByteArray)(kind:Int)(J:Act→World→Prop):Prop :=
 ∀ (a':Act) (w':World),(∃ u12 u13 u14 u16 u17 u18 u19 u20 u21 u22 u23 u24 u25 u26 u27 u28 u29 u31 u32 u33 u34 u35 u36 u37 u38 u39 u40 u41 u42 u43 u44 u45 u46 u47 u48 u49 u50 u51 u52 u53 u54 u55 u56 u57 u58 u59 u60 u61 u62 u63 u64 u65 u66 u67 u68 u69 u70 u71 u72 u73 u74 u75 u76 u77 u78 u79 u80 u81 u82 u83 u84 u85 u86 u87 u88 u89 u90 u91 u92 u93 u94 u95 u96 u97 u98 u99 u100 u101 u102 u103 u104 u105 u106 u107 u108 u109 u110 u111 u112 u113 u114 u115 u116 u117 u118 u119 u120 u121 u122 u123 u124 u125 u126 u127 u128 u129 u130 u131 u132 u133 u134 u135 u136 u137 u138 u139 u140 u141 u142 u143 u144 u145 u146 u147 u148 u149 u150 u151 u152 u153 u154 u155 u156 u157 u158 u159 u160 u161 u162 u163 u164 u165 u166 u167 u168 u169 u170 u171 u172 u173 u174 u175 u176 u177 u178 u179 u180 u181 u182 u183 u184 u185 u186 u187 u188 u189 u190 u191 u192 u193 u194 u195 u196 u197 u198 u199 u200 u201 u202 u203 u204 u205 u206 u207 u208 u209 u210 u211 u212 u213 u214 u215 u216 u217 u218 u219 u220 u221 u222 u223 u224 u225 u226 u227 u228 u229 u230 u231 u232 u233 u234 u235 u236 u237 u238 u239 u240 u241 u242 u243 u244 u245 u246 u247 u248 u249 u250 u251 u252 u253 u254 u255 u256 u257 u258 u259 u260 u261 u262 u263 u264 u265 u266 u267 u268 u269 u270 u271 u272 u273 u274 u275 u276 u277 u278:Value,EM X bs bb nv vv g next w0 L n name kind w'∧a'=⟨#[.pointer (some ⟨bb,0,none⟩),.string name,.int .i64 kind,undef,undef,undef,.int .i64 g.Gd,.int .i64 n,.pointer (some ⟨L,0,none⟩),.pointer (some ⟨L+1,0,none⟩),.pointer (some ⟨L+1+1,0,none⟩),.func (.func 93) #[] #[.pointer (some ⟨L+1,0,none⟩),.pointer (some ⟨L+1+1,0,none⟩),.pointer (some ⟨L,0,none⟩)],u12,u13,u14,undef,u16,u17,u18,u19,u20,u21,u22,u23,u24,u25,u26,u27,u28,u29,.int .i64 kind,u31,u32,u33,u34,u35,u36,u37,u38,u39,u40,u41,u42,u43,u44,u45,u46,u47,u48,u49,u50,u51,u52,u53,u54,u55,u56,u57,u58,u59,u60,u61,u62,u63,u64,u65,u66,u67,u68,u69,u70,u71,u72,u73,u74,u75,u76,u77,u78,u79,u80,u81,u82,u83,u84,u85,u86,u87,u88,u89,u90,u91,u92,u93,u94,u95,u96,u97,u98,u99,u100,u101,u102,u103,u104,u105,u106,u107,u108,u109,u110,u111,u112,u113,u114,u115,u116,u117,u118,u119,u120,u121,u122,u123,u124,u125,u126,u127,u128,u129,u130,u131,u132,u133,u134,u135,u136,u137,u138,u139,u140,u141,u142,u143,u144,u145,u146,u147,u148,u149,u150,u151,u152,u153,u154,u155,u156,u157,u158,u159,u160,u161,u162,u163,u164,u165,u166,u167,u168,u169,u170,u171,u172,u173,u174,u175,u176,u177,u178,u179,u180,u181,u182,u183,u184,u185,u186,u187,u188,u189,u190,u191,u192,u193,u194,u195,u196,u197,u198,u199,u200,u201,u202,u203,u204,u205,u206,u207,u208,u209,u210,u211,u212,u213,u214,u215,u216,u217,u218,u219,u220,u221,u222,u223,u224,u225,u226,u227,u228,u229,u230,u231,u232,u233,u234,u235,u236,u237,u238,u239,u240,u241,u242,u243,u244,u245,u246,u247,u248,u249,u250,u251,u252,u253,u254,u255,u256,u257,u258,u259,u260,u261,u262,u263,u264,u265,u266,u267,u268,u269,u270,u271,u272,u273,u274,u275,u276,u277,u278],[]⟩)→J a' w'
end Go.Proofs.YtjdfihglehfelaaGreatDoor
