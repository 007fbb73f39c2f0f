/- Lemmas: MkP. -/
import Derived.Test.YtjdfihglehfelaaGreatDoorPk41
set_option maxRecDepth 100000
set_option maxHeartbeats 32000000
set_option linter.all false
namespace Go.Proofs.YtjdfihglehfelaaGreatDoor
open Go.RowKit
theorem vO (X:Nat→Prop)(bs bb:Nat)(nv vv:Value)(g:af)(next:List Int)(w:World)(h:Bld X w bs bb nv vv g next)(hk:BOk g next)(name:ByteArray)(hname:name.size≤100)(kind:Int)(hkind:kind=3∨kind=4∨kind=5∨kind=7)(he1:1≤g.Gd)(he2:g.Gd≤16)(hvl:g.F9.length≤40)(hnx:g.next≤1000) :
  Calls Tryz.prog 46 #[.pointer (some ⟨bb,0,none⟩),.string name,.int .i64 kind] w (fun e w'=>e=.returned (.tuple #[])∧FD X bs bb nv vv g next name kind w w'):=by
 have k0:=hk.n0;have k1:=hk.n1;have c0:=h.c0;have c4:=h.c4;have hbw:=h.Gj;have hbs:=h.lt;have hnb:¬ bb=bs:=by omega
 go_enter Tryz.func46,Tryz.ntmps46;go_wp2;refine aL (fun w'=>w'.cell? ⟨bb,0,none⟩=some (.pointer (some ⟨bs,0,none⟩))∧w'.cell? ⟨bb,4,none⟩=some (.int .i64 g.Gd)) 10 [0,1,2,3,5,6,7] (by kernel_rfl) ⟨c0,c4⟩ (fun hHeld=>?_);refine tkV 0 ?_;try simp only [ak];refine tkV 1 ?_;try simp only [ak];refine tkV 2 ?_;try simp only [ak];refine tkV 3 ?_;try simp only [ak];refine tkV 5 ?_;try simp only [ak];refine tkV 6 ?_;try simp only [ak];refine tkV 7 ?_;try simp only [ak];refine tkF 4 hHeld ?_;try simp only [ak];refine tkF 8 hHeld ?_;try simp only [ak];refine au (i:=9) rfl rfl (by kernel_rfl) (fun K hK=>?_);go_simp;refine (bO bs 1 3 _ (by omega) (by omega) (by omega) (h.below ((Below.refl _ _).drew)).src).mono ?_;rintro e w1 ⟨n,rfl,hn1,hn2,hs1,hm1⟩;refine hK.out _ _ ⟨(hm1.cell (p:=⟨bb,0,none⟩) hbw hnb).trans c0,(hm1.cell (p:=⟨bb,4,none⟩) hbw hnb).trans c4⟩ ?_;clear hK K;refine aP (by kernel_rfl) rfl ?_;simp only [List.drop_succ_cons,List.drop_zero];have P1:aH X bs bb nv vv w w1 nv vv g next:=((aH.refl h).drewN 1).read hs1 hm1;clear hm1 hs1 hHeld c0 c4
 go_upto_block 0 with (fail)
 generalize hW:World.alloc (World.alloc (World.alloc w1 _) _) _=W
 have T0:CSt X bs bb nv vv g next w (w1.heap.size+1+1+1) w1.heap.size (w1.heap.size+1) (w1.heap.size+1+1) (.slice none 0 0) (.slice none 0 0) (.slice none 0 0) (.slice none 0 0) [] [] [] [] n kind 1 es 0 W:=by
  have hb:Below w1.heap.size w1 W:=by
   rw [← hW];exact (((Below.refl _ _).alloc (Nat.le_refl _) _).alloc (by simp) _).alloc (by simp;omega) _
  have hz:W.heap.size=w1.heap.size+1+1+1:=by rw [← hW];simp
  refine ⟨⟨?_,?_,?_,⟨[],World.ownsRow_nil _ _ _ 1,rfl⟩,⟨[],World.ownsRow_nil _ _ _ 1,rfl⟩,⟨[],World.ownsRow_nil _ _ _ 3,rfl⟩,(fun _ e=>by cases e),(fun _ e=>by cases e),(fun _ e=>by cases e),by omega,by omega,by omega⟩,P1.fresh hb (fun k hk=>?_),RdS.nil,by omega,P1.mod.size⟩
  ·rw [← hW,Below.heap_alloc _ _ _ (by simp)]
   have:=heap_alloc_new (w1.alloc (.cells #[.int .i64 0,.int .i64 n,.int .i64 kind,.slice none 0 0,.int .i64 1,.slice none 0 0,.string es,.string es,.int .i64 0,.int .i64 0,.int .i64 0] 79)) (.cells #[.slice none 0 0] 26);rw [World.size_alloc] at this;exact this
  ·rw [← hW]
   have:=heap_alloc_new ((w1.alloc (.cells #[.int .i64 0,.int .i64 n,.int .i64 kind,.slice none 0 0,.int .i64 1,.slice none 0 0,.string es,.string es,.int .i64 0,.int .i64 0,.int .i64 0] 79)).alloc (.cells #[.slice none 0 0] 26)) (.cells #[.slice none 0 0] 22);rw [World.size_alloc,World.size_alloc] at this;exact this
  ·rw [← hW,Below.heap_alloc _ _ _ (by simp;omega),Below.heap_alloc _ _ _ (by simp),heap_alloc_new]
   rfl
  ·rcases hk with q | rfl | rfl | rfl | q | q | q
   ·exact .inl q
   ·exact .inr ⟨by omega,by omega⟩
   ·exact .inr ⟨by omega,by omega⟩
   ·exact .inr ⟨by omega,by omega⟩
   ·cases q
   ·cases q
   ·cases q
 clear hW;have hLw:w.heap.size≤w1.heap.size:=P1.mod.size;generalize hL:w1.heap.size=L at *;have HL:=aa hL;clear hL
 go_cut [12] (fun _ wc=>EM X bs bb nv vv g next w L n name kind wc)
 case first =>
  rcases hkind with rfl | rfl | rfl | rfl
  ·exact xW X bs bb nv vv g next w name hname he1 he2 n hn1 hn2 L W T0 _ _ _ (by assumption) (by assumption)
  ·exact wU X bs bb nv vv g next w name hname he1 he2 n hn1 hn2 L W T0 _ _ _ (by assumption) (by assumption)
  ·exact AV X bs bb nv vv g next w name hname he1 he2 n hn1 hn2 L W T0 _ _ _ (by assumption) (by assumption)
  ·exact yF X bs bb nv vv g next w name hname he1 he2 n hn1 hn2 L W T0 _ _ _ (by assumption) (by assumption)
 case rest =>
  obtain ⟨nsv,lsv,av,stv,names,lengths,x,hR,T⟩:=hcut;have HR:=aa hR;obtain ⟨r1,r2,r3⟩:=hR.ok he1 he2 hn1 hn2;clear hR;have HR1:=aa r1;clear r1;have HR3:=aa r3;clear r3;have q1:wc.cell? ⟨L+1,0,none⟩=some nsv:=by simp [World.cell?,T.loc.bn]
  have q2:wc.cell? ⟨L+1+1,0,none⟩=some lsv:=by simp [World.cell?,T.loc.bl]
  go_wp2_with fail
  refine (zi (Yc X L (L+1) (L+1+1) nsv lsv av) bs bb nv vv g next _ T.post.bld hk nsv lsv names lengths (T.loc.on.rd aF.moves (by decide) (fun _ _ f=>f.elim) (fun b e=>.inr (.inr (.inr (.inr (.inl e)))))) (T.loc.ol.rd cO.moves (by decide) (fun _ _ f=>f.elim) (fun b e=>.inr (.inr (.inr (.inr (.inr (.inl e))))))) (by rw [HR1.out];exact Nat.le_refl _) r2 (by rw [← HR1.out];exact r2) HR3.out hvl hnx).mono ?_;rintro e w2 (⟨ps,vl,next',vv',rfl,hH,hT,Q⟩ | ⟨j,nv',vv',rfl,hj,Q⟩)
  ·have P2:=T.post.trans Q
   have hbx:=(Q.loc T.post.bld (.inr (.inl rfl))).trans T.loc.bx;have hoa:bF aQ 3 60 (L+1+1+1) (fun _=>False) w2 av x.Ga:=T.loc.oa.Gl aQ.moves Q.mod.size (fun k e=>Q.loc T.post.bld (.inr (.inr (.inr (.inr (.inr (.inr e)))))));have hst:RdS cO 1 (okB (Yc X L (L+1) (L+1+1) nsv lsv av) bb nv vv') w2 [stv] x.stale:=(RdS.moves cO.moves).mv ⟨Q.mod.size,fun b hb ho=>⟨⟨ho.1,ho.2.1,fun e=>(Q.vfr b e).elim ho.2.2.1 (by omega),ho.2.2.2⟩,Q.loc' T.post.bld ho hb⟩⟩ T.rs;have c8:=P2.bld.c8;have c0:=P2.bld.c0
   have qL:∀ (j:Nat) (z:Value),[.int .i64 0,.int .i64 x.length,.int .i64 kind,av,.int .i64 x.chunk,stv,.string x.log,.string es,.int .i64 0,.int .i64 x.mode,.int .i64 0][j]?=some z→w2.cell? ⟨L,j,none⟩=some z:=fun j z hz=>by
    simp only [World.cell?,hbx];simpa [xsF] using hz
   have y0:=qL 0 _ rfl;have y1:=qL 1 _ rfl;have y2:=qL 2 _ rfl;have y3:=qL 3 _ rfl;have y4:=qL 4 _ rfl;have y5:=qL 5 _ rfl;have y6:=qL 6 _ rfl;have y7:=qL 7 _ rfl;have y8:=qL 8 _ rfl;have y9:=qL 9 _ rfl;have y10:=qL 10 _ rfl;have HBX:=aa hbx;clear hbx;have hvlen:vl.length=names.length:=hH.len;have HVL:=aa hvlen;clear hvlen;clear qL q1 q2;go_wp2;refine aL (fun w'=>w'.cell? ⟨bb,8,none⟩=some vv'∧w'.cell? ⟨bb,0,none⟩=some (.pointer (some ⟨bs,0,none⟩))∧w'.cell? ⟨L,0,none⟩=some (.int .i64 0)∧w'.cell? ⟨L,1,none⟩=some (.int .i64 x.length)∧w'.cell? ⟨L,2,none⟩=some (.int .i64 kind)∧w'.cell? ⟨L,3,none⟩=some av∧w'.cell? ⟨L,4,none⟩=some (.int .i64 x.chunk)∧w'.cell? ⟨L,5,none⟩=some stv∧w'.cell? ⟨L,6,none⟩=some (.string x.log)∧w'.cell? ⟨L,7,none⟩=some (.string es)∧w'.cell? ⟨L,8,none⟩=some (.int .i64 0)∧w'.cell? ⟨L,9,none⟩=some (.int .i64 x.mode)∧w'.cell? ⟨L,10,none⟩=some (.int .i64 0)) 24 [0,1,2,3,4,6,7,9,10,11,15,16,17] (by kernel_rfl) (by simp [c8,c0,y0,y1,y2,y3,y4,y5,y6,y7,y8,y9,y10]) (fun hHeld=>?_);refine tkV 0 ?_;try simp only [ak];refine tkV 1 ?_;try simp only [ak];refine tkV 2 ?_;try simp only [ak];refine tkV 3 ?_;try simp only [ak];refine tkV 4 ?_;try simp only [ak];refine tkV 6 ?_;try simp only [ak];refine tkV 7 ?_;try simp only [ak];refine tkV 9 ?_;try simp only [ak];refine tkV 10 ?_;try simp only [ak];refine tkV 11 ?_;try simp only [ak];refine tkV 15 ?_;try simp only [ak];refine tkV 16 ?_;try simp only [ak];refine tkV 17 ?_;try simp only [ak];refine tkF 5 hHeld ?_;try simp only [ak];refine tkF 12 hHeld ?_;try simp only [ak];refine tkF 18 hHeld ?_;try simp only [ak];refine tkF 20 hHeld ?_;try simp only [ak];clear c8 c0 y0 y1 y2 y3 y4 y5 y6 y7 y8 y9 y10;generalize hvid:idOf g.id (g.next+names.length+1)=vid;have HID:=aa hvid;clear hvid;have HC0:CS (Yc X L (L+1) (L+1+1) nsv lsv av) bs bb nv vv nv vv' w w2.drew { g with next:=g.next+names.length,F9:=g.F9++vl } next' w2.drew:=⟨P2.drewN 1,Nat.le_refl _,fun _ _=>rfl,fun _ _ _=>rfl⟩
   have hoad:bF aQ 3 60 (L+1+1+1) (fun _=>False) w2.drew av x.Ga:=hoa.Gl aQ.moves (Nat.le_refl _) (fun _ _=>rfl);have hstd:RdS cO 1 (okB (Yc X L (L+1) (L+1+1) nsv lsv av) bb nv vv') w2.drew [stv] x.stale:=(RdS.moves cO.moves).mv ⟨Nat.le_refl _,fun b _ ho=>⟨ho,rfl⟩⟩ hst;have HBXd:Hid (w2.drew.heap[L]?=some (.cells #[.int .i64 0,.int .i64 x.length,.int .i64 kind,av,.int .i64 x.chunk,stv,.string x.log,.string es,.int .i64 0,.int .i64 x.mode,.int .i64 0] 79 (0,0))):=HBX.out;generalize hwr:w2.drew=wd at *;clear hwr;have hbd:=HC0.post.bld
   refine fE (idx:=[(8,209),(13,214),(14,215),(19,220),(21,222),(22,223),(23,224)])
    (fun i=>[i]) (fun i vs w'=>match i with
     | 8=>vs 8=.int .u64 vid
     | 13=>∃ v:Int,vs 13=.int .i64 v
     | 14=>∃ ro:Bool,vs 14=.bool ro
     | 19=>∃ tp tc tl,vs 19=.slice tp (List.length tl) tc∧RdS aF 1 (fun k=>wd.heap.size≤k) w' [.slice tp tl.length tc] tl∧List.Sublist tl iQ
     | 21=>∃ b,vs 21=.slice (some ⟨b,0,none⟩) 1 1∧dS wd.heap.size 79 [.int .i64 0,.int .i64 x.length,.int .i64 kind,av,.int .i64 x.chunk,stv,.string x.log,.string es,.int .i64 0,.int .i64 x.mode,.int .i64 0] b w'
     | 22=>∃ b ro tp tc tl,vs 22=.agg #[.string name,.int .u64 vid,.bool false,.bool ro,.slice tp tl.length tc,.slice (some ⟨b,0,none⟩) 1 1]∧RdS aF 1 (fun k=>wd.heap.size≤k) w' [.slice tp tl.length tc] tl∧List.Sublist tl iQ∧dS wd.heap.size 79 [.int .i64 0,.int .i64 x.length,.int .i64 kind,av,.int .i64 x.chunk,stv,.string x.log,.string es,.int .i64 0,.int .i64 x.mode,.int .i64 0] b w'
     | 23=>∃ c b ro tp tc tl,vs 23=.slice (some ⟨c,0,none⟩) 1 1∧dS wd.heap.size 55 [.string name,.int .u64 vid,.bool false,.bool ro,.slice tp tl.length tc,.slice (some ⟨b,0,none⟩) 1 1] c w'∧RdS aF 1 (fun k=>wd.heap.size≤k) w' [.slice tp tl.length tc] tl∧List.Sublist tl iQ∧dS wd.heap.size 79 [.int .i64 0,.int .i64 x.length,.int .i64 kind,av,.int .i64 x.chunk,stv,.string x.log,.string es,.int .i64 0,.int .i64 x.mode,.int .i64 0] b w'
     | _=>True)
    (fun d w'=>CS (Yc X L (L+1) (L+1+1) nsv lsv av) bs bb nv vv nv vv' w wd { g with next:=if d 8=true then g.next+names.length+1 else g.next+names.length,F9:=g.F9++vl } next' w') (fun _=>EvN wd.heap.size) (by kernel_rfl) rfl ?cs ?st (fun _ _ _ _ h=>h) ?c0 ?ob ?fin
   case c0=>exact HC0
   case cs =>
    intro d w' hC;have e:=(hC.same L (.inr (.inl rfl))).trans HBXd.out;refine ⟨hC.post.bld.c8,hC.post.bld.c0,?_⟩;simp [World.cell?,e]
   case st =>
    intro p hp q _ _ vs us w1 w2 ha hF he;have hmv:Mv (fun k=>wd.heap.size≤k) (fun k=>wd.heap.size≤k) w1 w2:=⟨he.1,fun b hb ho=>⟨ho,he.2 b ho hb⟩⟩;simp only [List.mem_cons,List.not_mem_nil,or_false] at hp;rcases hp with rfl | rfl | rfl | rfl | rfl | rfl | rfl
    ·exact (ha 8 (List.mem_cons_self ..)).trans hF
    ·obtain ⟨v,e⟩:=hF
     exact ⟨v,(ha 13 (List.mem_cons_self ..)).trans e⟩
    ·obtain ⟨v,e⟩:=hF
     exact ⟨v,(ha 14 (List.mem_cons_self ..)).trans e⟩
    ·obtain ⟨tp,tc,tl,e,h1,h2⟩:=hF
     exact ⟨tp,tc,tl,(ha 19 (List.mem_cons_self ..)).trans e,(RdS.moves aF.moves).mv hmv h1,h2⟩
    ·obtain ⟨b,e,hb⟩:=hF
     exact ⟨b,(ha 21 (List.mem_cons_self ..)).trans e,hb.ev he⟩
    ·obtain ⟨b,ro,tp,tc,tl,e,h1,h2,hb⟩:=hF
     exact ⟨b,ro,tp,tc,tl,(ha 22 (List.mem_cons_self ..)).trans e,(RdS.moves aF.moves).mv hmv h1,h2,hb.ev he⟩
    ·obtain ⟨c,b,ro,tp,tc,tl,e,hc,h1,h2,hb⟩:=hF
     exact ⟨c,b,ro,tp,tc,tl,(ha 23 (List.mem_cons_self ..)).trans e,hc.ev he,(RdS.moves aF.moves).mv hmv h1,h2,hb.ev he⟩
   case ob =>
     refine Obs.cons (deps:=[]) rfl rfl (by kernel_rfl) (fun vs d w' h0 hC hF K hK=>?_) ?_
     ·clear hF
      simp only at h0;simp only [h0,Bool.false_eq_true,if_false] at hC;simp only [over,List.foldl_nil,Act.put];go_simp;refine (vS (Yc X L (L+1) (L+1+1) nsv lsv av) bs bb nv vv' _ next' w' hC.post.bld (by simp;omega) (by simp;omega)).mono ?_;rintro e w3 ⟨rfl,q⟩;refine hK.out (.int .u64 (idOf g.id (g.next+names.length+1))) w3 ?_ (CS.ev hbd q) ((if_pos rfl).trans (congrArg (Value.int .u64) HID.out)) _ ?_
      ·simp only [h0,Bool.false_or,BEq.rfl,if_true]
       exact hC.step q
      ·simp only [over,List.foldl_nil,aS]
     refine Obs.cons (deps:=[]) rfl rfl (by kernel_rfl) (fun vs d w' h0 hC hF K hK=>?_) ?_
     ·clear hF
      simp only [over,List.foldl_nil,Act.put];go_simp;refine (bY bs 6 w' (by omega) (by omega) hC.post.bld.src).mono ?_;rintro e w3 ⟨v,rfl,_,_,hs,hm⟩;have q:=hC.post.bld.readPost hs hm;refine hK.out (.int .i64 v) w3 ?_ (CS.ev hbd q) ⟨v,if_pos rfl⟩ _ ?_
      ·simp only [show (d 8||(8:Nat) == 13)=d 8 from by simp]
       exact hC.step q
      ·simp only [over,List.foldl_nil,aS]
     refine Obs.cons (deps:=[(13,214)]) rfl rfl (by kernel_rfl) (fun vs d w' h0 hC hF K hK=>?_) ?_
     ·have f:=(hF (13,214) (by simp)).2
      clear hF;simp only [over,List.foldl_nil,List.foldl_cons,aS] at f ⊢;obtain ⟨v,e⟩:=f;rw [e];go_simp;refine hK.out (.bool (v == 0)) _ ?_ (EvN.refl _ _) ⟨_,if_pos rfl⟩ _ ?_
      ·simp only [show (d 8||(8:Nat) == 14)=d 8 from by simp]
       exact hC
      ·simp only [over,List.foldl_nil,List.foldl_cons,aS,e]
     refine Obs.cons (deps:=[]) rfl rfl (by kernel_rfl) (fun vs d w' h0 hC hF K hK=>?_) ?_
     ·clear hF
      simp only [over,List.foldl_nil,Act.put];go_simp;refine (qY bs w' hC.post.bld.src).mono ?_;rintro e w3 ⟨v,tl,rfl,hsub,hrd,hs,hm⟩;have q:=hC.post.bld.readPost hs hm;obtain ⟨tp,tc,rfl,_⟩:=hrd.form;refine hK.out (.slice tp tl.length tc) w3 ?_ (CS.ev hbd q) ⟨tp,tc,tl,if_pos rfl,(RdS.moves aF.moves).mv ⟨Nat.le_refl _,fun b _ ho=>⟨Nat.le_trans hC.size ho,rfl⟩⟩ hrd,hsub⟩ _ ?_
      ·simp only [show (d 8||(8:Nat) == 19)=d 8 from by simp]
       exact hC.step q
      ·simp only [over,List.foldl_nil,aS]
     refine Obs.cons (deps:=[]) rfl rfl (by kernel_rfl) (fun vs d w' h0 hC hF K hK=>?_) ?_
     ·clear hF
      simp only [over,List.foldl_nil,Act.put];go_simp;refine hK.out (.slice (some ⟨w'.heap.size,0,none⟩) 1 1) _ ?_ (EvN.alloc _ _ _) ⟨_,if_pos rfl,dS.new hC.size⟩ _ ?_
      ·simp only [show (d 8||(8:Nat) == 21)=d 8 from by simp]
       exact hC.alloc _
      ·simp only [over,List.foldl_nil,aS]
     refine Obs.cons (deps:=[(8,209),(14,215),(19,220),(21,222)]) rfl rfl (by kernel_rfl) (fun vs d w' h0 hC hF K hK=>?_) ?_
     ·have f8:=(hF (8,209) (by simp)).2
      have f14:=(hF (14,215) (by simp)).2;have f19:=(hF (19,220) (by simp)).2;have f21:=(hF (21,222) (by simp)).2;clear hF;simp only [over,List.foldl_nil,List.foldl_cons,aS] at f8 f14 f19 f21 ⊢;obtain ⟨ro,e14⟩:=f14;obtain ⟨tp,tc,tl,e19,t1,t2⟩:=f19;obtain ⟨b,e21,hb⟩:=f21;rw [f8,e14,e19,e21];go_simp;refine hK.out (.agg #[.string name,.int .u64 vid,.bool false,.bool ro,.slice tp tl.length tc,.slice (some ⟨b,0,none⟩) 1 1]) _ ?_ (EvN.refl _ _) ⟨b,ro,tp,tc,tl,if_pos rfl,t1,t2,hb⟩ _ ?_
      ·simp only [show (d 8||(8:Nat) == 22)=d 8 from by simp]
       exact hC
      ·simp only [over,List.foldl_nil,List.foldl_cons,aS,f8,e14,e19,e21]
     refine Obs.cons (deps:=[(22,223)]) rfl rfl (by kernel_rfl) (fun vs d w' h0 hC hF K hK=>?_) trivial
     ·have f:=(hF (22,223) (by simp)).2
      clear hF;simp only [over,List.foldl_nil,List.foldl_cons,aS] at f ⊢;obtain ⟨b,ro,tp,tc,tl,e,t1,t2,hb⟩:=f;rw [e];go_simp;refine hK.out (.slice (some ⟨w'.heap.size,0,none⟩) 1 1) _ ?_ (EvN.alloc _ _ _) ⟨_,b,ro,tp,tc,tl,if_pos rfl,dS.new hC.size,(RdS.moves aF.moves).mv ⟨by simp,fun b hb ho=>⟨ho,Below.heap_alloc _ _ _ hb⟩⟩ t1,t2,hb.ev (EvN.alloc _ _ _)⟩ _ ?_
      ·simp only [show (d 8||(8:Nat) == 23)=d 8 from by simp]
       exact hC.alloc _
      ·simp only [over,List.foldl_nil,List.foldl_cons,aS,e]
   case fin =>
    intro vs d w' hC hF;have f23:=(hF (23,224) (by simp)).2;have hd8:=(hF (8,209) (by simp)).1;clear hF;simp only [over,List.foldl_nil,List.foldl_cons,aS,List.drop_succ_cons,List.drop_zero] at f23 hd8 ⊢;obtain ⟨c,b,ro,tp,tc,tl,e23,hc,t1,t2,hb⟩:=f23;rw [e23];simp only [hd8,if_true] at hC;generalize vs 8=z8;generalize vs 13=z13;generalize vs 14=z14;generalize vs 19=z19;generalize vs 21=z21;generalize vs 22=z22;clear hd8 e23;have P':aH X bs bb nv vv w w' nv vv' { g with next:=g.next+names.length+1,F9:=g.F9++vl } next':=hC.post.fewer fun k hk=>.inl hk
    have hbX:Bld X wd bs bb nv vv' { g with next:=g.next+names.length,F9:=g.F9++vl } next':=hbd.fewer fun k hk=>.inl hk
    have hbl:=P'.bld.Gj
    have RA:RdS aQ 3 (okB X bb nv vv') w' [av] x.Ga:=by
     have ha:bF aQ 3 60 (L+1+1+1) (fun _=>False) w' av x.Ga:=hoad.Gl aQ.moves hC.size (fun b e=>hC.same b (.inr (.inr (.inr (.inr (.inr (.inr e)))))));refine ha.rd aQ.moves (by decide) (fun _ _ f=>f.elim) (fun b e=>?_);have hy:(Yc X L (L+1) (L+1+1) nsv lsv av) b:=.inr (.inr (.inr (.inr (.inr (.inr e)))));refine ⟨(hbd.xlt b hy).1,fun q=>hbd.xn b q hy,fun q=>hbd.xv b q hy,fun hx=>?_⟩;have:=(ha.ge e).1;have:=(h.xlt b hx).2;omega
    have RS:RdS cO 1 (okB X bb nv vv') w' [stv] x.stale:=(RdS.moves cO.moves).mv ⟨hC.size,fun b hb ho=>⟨⟨ho.1,ho.2.1,ho.2.2.1,fun q=>ho.2.2.2 (.inl q)⟩,hC.oks b hb ho⟩⟩ hstd;have RT:RdS aF 1 (okB X bb nv vv') w' [.slice tp tl.length tc] tl:=(RdS.moves aF.moves).mv ⟨Nat.le_refl _,fun b _ ho=>⟨hbX.okNew ho,rfl⟩⟩ t1
    have hxe:(⟨0,x.length,kind,x.Ga,x.chunk,x.stale,x.log,es,0,x.mode,0⟩:aB)=x:=by
     have:=HR.out;cases this <;> rfl
    have RV:aN (okB X bb nv vv') w' [.string name,.int .u64 vid,.bool false,.bool ro,.slice tp tl.length tc,.slice (some ⟨b,0,none⟩) 1 1] ⟨name,vid,false,ro,tl,[x]⟩:=by
     refine ⟨_,_,rfl,RT,RdS.one hb.2 (hbX.okNew hb.1) rfl ?_⟩;rw [← hxe];exact ⟨_,_,rfl,RA,RS⟩
    have hrd:=P'.bld.ready RV w' (Below.refl _ _);obtain ⟨i0,hi,hz0,hz1,hz2⟩:=info_parts zT;refine dX aN.moves Tryz.underlying28 hi hz0 hz1 hz2 rfl (by decide) (by decide) rfl _ _ (by rfl) (bb+1) (fun b=>okB X bb nv vv' b∧b<w'.heap.size) vv' (g.F9++vl) ⟨name,vid,false,ro,tl,[x]⟩ (by rfl) hrd.1 c 1 [.string name,.int .u64 vid,.bool false,.bool ro,.slice tp tl.length tc,.slice (some ⟨b,0,none⟩) 1 1] (by rfl) (by rfl) hrd.2 (by simp [Value.oneCell']) (fun j y hy=>?_) (by rw [List.length_append,HVL.out];omega) (by omega) p8 (fun gb cap w3 hp=>?_)
    ·simp only [World.cell?,hc.2]
     simpa using hy
    ·obtain ⟨hx1,hx2⟩:=P'.bld.pushKeeps (Below.refl _ _) hp
     have y8:=(World.cell?_of_block (w:=w') (w':=w3) (a:=⟨bb,8,none⟩) hx1).trans P'.bld.c8;have yf:=(World.frozen?_of_block (w:=w') (w':=w3) (a:=⟨bb,8,none⟩) hx1).trans (P'.bld.bfr 8);have R5:=P'.push (Below.refl _ _) hp (Nat.le_refl _);clear hp hx1 hx2 hrd RV RA RS RT hC hc hb hi hz0 hz1 hz2 hHeld hstd hoad hst hoa HC0 hbd;simp only [aS];have hlen5:(g.F9++vl).length≤48:=by rw [List.length_append,HVL.out];omega
     simp only at R5;generalize hM:(g.F9++vl).length=M at *;have HM:=aa hM;clear hM;have dk:=hT.ok hk.dk
     by_cases hk5:kind=5
     ·
       subst hk5;have c0:=R5.bld.c0
       go_wp2_with fail
       refine (bY bs 3 _ (by omega) (by omega) R5.bld.src).mono ?_;rintro e w4 ⟨kv,rfl,hkv1,hkv2,hs4,hm4⟩;have R6:=R5.read hs4 hm4;clear hm4 hs4 c0 R5;obtain ⟨kk,rfl⟩:∃ u:Nat,kv=u:=⟨kv.toNat,by omega⟩;have R7:aH X bs bb nv vv w w4 nv (.slice (some ⟨gb,0,none⟩) (M+1) cap) { g with next:=g.next+names.length+1+((([]:List ay).length:Nat):Int),F9:=g.F9++vl++[⟨name,vid,false,ro,tl,[x]⟩]++[] } next':=by simpa using R6
       clear R6;have HH:=aa hH;clear hH;have HT2:=aa t2;clear t2;have HG:=aa (show (g.F9++vl++[(⟨name,vid,false,ro,tl,[x]⟩:ay)]).length≤49 by simp only [List.length_append,List.length_cons,List.length_nil];have:=HVL.out;omega)
       generalize hbase:g.F9++vl++[(⟨name,vid,false,ro,tl,[x]⟩:ay)]=base at *;have HBASE:=aa hbase;clear hbase
       go_upto_block 5 with (fail)
       go_wp2
       go_loopw [15] (fun i wr=>∃ (j:Nat) (tvl:List ay) (vv2:Value),j≤kk∧i=.int .i64 j∧iO g.id name kk (g.next+names.length+1+1) j tvl∧tvl.length+j=kk∧aH X bs bb nv vv w wr nv vv2 { g with next:=g.next+names.length+1+((tvl.length:Nat):Int),F9:=base++tvl } next') (fun i _=>(intOf i).toNat)
       case atStart=>exact ⟨kk,[],_,Nat.le_refl _,rfl,.nil _,by simp,R7⟩
       case round =>
        obtain ⟨j,tvl,vv2,hj,rfl,hth,hlen,R⟩:=hrel;have HTH:=aa hth;clear hth;have HLEN:=aa hlen;have hlb:tvl.length≤2:=by omega
        clear hlen;obtain ⟨vp2,vc2,rfl,u1,u2,u3⟩:=R.bld.vForm;have HU3:=aa u3;clear u3;have c8:=R.bld.c8;have c0:=R.bld.c0;have hMM:(base++tvl).length≤60:=by rw [List.length_append];have:=HG.out;omega
        simp only at c8 u1 R;generalize hM2:(base++tvl).length=M2 at *;have HM2:=aa hM2;clear hM2
        by_cases hgo:0<j∧M2<32
        ·obtain ⟨g1,g2⟩:=hgo
         have hd1:decide ((0:Int)<(j:Int))=true:=by simp;omega
         have hd2:decide ((M2:Int)<32)=true:=by simp;omega
         have z1:(0:Int)≤(j:Int):=by omega
         have z2:(j:Int)<3:=by omega
         have hcat:¬ (9223372036854775807<name.size+1):=by omega
         go_wp2;refine aL (fun w'=>w'.cell? ⟨bb,8,none⟩=some (.slice vp2 M2 vc2)∧w'.cell? ⟨bb,0,none⟩=some (.pointer (some ⟨bs,0,none⟩))) 26 [0,1,2,3,4,6,7,9,13,15,16,17,20,21] (by kernel_rfl) ⟨c8,c0⟩ (fun hHeld=>?_);refine tkV 0 ?_;try simp only [ak];refine tkV 1 ?_;try simp only [ak];refine tkV 2 ?_;try simp only [ak];refine tkV 3 ?_;try simp only [ak];refine tkV 4 ?_;try simp only [ak];refine tkV 6 ?_;try simp only [ak];refine tkV 7 ?_;try simp only [ak];refine tkV 9 ?_;try simp only [ak];refine tkV 13 ?_;try simp only [ak];refine tkV 15 ?_;try simp only [ak];refine tkV 16 ?_;try simp only [ak];refine tkV 17 ?_;try simp only [ak];refine tkV 20 ?_;try simp only [ak];refine tkV 21 ?_;try simp only [ak];refine tkF 5 hHeld ?_;try simp only [ak];refine tkF 18 hHeld ?_;try simp only [ak];clear c8 c0 HID;generalize hvid2:idOf g.id (g.next+names.length+1+(tvl.length:Int)+1)=vid2;have HID2:=aa hvid2;clear hvid2;have HC0:CS X bs bb nv vv nv (.slice vp2 M2 vc2) w wr.drew { g with next:=g.next+names.length+1+((tvl.length:Nat):Int),F9:=base++tvl } next' wr.drew:=⟨R.drewN 1,Nat.le_refl _,fun _ _=>rfl,fun _ _ _=>rfl⟩
         generalize hwr:wr.drew=wd at *;clear hwr;have hbd:=HC0.post.bld
         refine fE (idx:=[(8,257),(10,259),(11,260),(12,261),(14,263),(19,268),(22,271),(23,272),(24,273),(25,274)])
          (fun i=>[i]) (fun i vs w'=>match i with
           | 8=>∃ b,vs 8=.slice (some ⟨b,0,none⟩) 3 3∧dS wd.heap.size 9 [.string ⟨#[48]⟩,.string ⟨#[49]⟩,.string ⟨#[50]⟩] b w'
           | 10=>∃ b,vs 10=.pointer (some ⟨b,j,none⟩)∧dS wd.heap.size 9 [.string ⟨#[48]⟩,.string ⟨#[49]⟩,.string ⟨#[50]⟩] b w'
           | 11=>vs 11=.string (digit j)
           | 12=>vs 12=.string ((name++tT)++digit j)
           | 14=>vs 14=.int .u64 vid2
           | 19=>∃ len:Int,vs 19=.int .i64 len∧1≤len∧len≤4
           | 22=>∃ len:Int,vs 22=.agg #[.int .i64 0,.int .i64 len,.int .i64 6,.slice none 0 0,.int .i64 0,.slice none 0 0,.string es,.string name,.int .i64 (j:Int),.int .i64 0,.int .i64 0]∧1≤len∧len≤4
           | 23=>∃ (len:Int) (b:Nat),vs 23=.slice (some ⟨b,0,none⟩) 1 1∧dS wd.heap.size 79 [.int .i64 0,.int .i64 len,.int .i64 6,.slice none 0 0,.int .i64 0,.slice none 0 0,.string es,.string name,.int .i64 (j:Int),.int .i64 0,.int .i64 0] b w'∧1≤len∧len≤4
           | 24=>∃ (len:Int) (b:Nat),vs 24=.agg #[.string ((name++tT)++digit j),.int .u64 vid2,.bool false,.bool false,.slice none 0 0,.slice (some ⟨b,0,none⟩) 1 1]∧dS wd.heap.size 79 [.int .i64 0,.int .i64 len,.int .i64 6,.slice none 0 0,.int .i64 0,.slice none 0 0,.string es,.string name,.int .i64 (j:Int),.int .i64 0,.int .i64 0] b w'∧1≤len∧len≤4
           | 25=>∃ (c:Nat) (len:Int) (b:Nat),vs 25=.slice (some ⟨c,0,none⟩) 1 1∧dS wd.heap.size 55 [.string ((name++tT)++digit j),.int .u64 vid2,.bool false,.bool false,.slice none 0 0,.slice (some ⟨b,0,none⟩) 1 1] c w'∧dS wd.heap.size 79 [.int .i64 0,.int .i64 len,.int .i64 6,.slice none 0 0,.int .i64 0,.slice none 0 0,.string es,.string name,.int .i64 (j:Int),.int .i64 0,.int .i64 0] b w'∧1≤len∧len≤4
           | _=>True)
          (fun d w'=>CS X bs bb nv vv nv (.slice vp2 M2 vc2) w wd { g with next:=if d 14=true then g.next+names.length+1+((tvl.length:Nat):Int)+1 else g.next+names.length+1+((tvl.length:Nat):Int),F9:=base++tvl } next' w') (fun _=>EvN wd.heap.size) (by kernel_rfl) rfl ?cs2 ?st2 (fun _ _ _ _ h=>h) ?c02 ?ob2 ?fin2
         case c02=>exact HC0
         case cs2=>exact fun d w' hC=>⟨hC.post.bld.c8,hC.post.bld.c0⟩
         case st2 =>
          intro p hp q _ _ vs us w1 w2 ha hF he;simp only [List.mem_cons,List.not_mem_nil,or_false] at hp;rcases hp with rfl | rfl | rfl | rfl | rfl | rfl | rfl | rfl | rfl | rfl
          ·obtain ⟨b,e,hb⟩:=hF
           exact ⟨b,(ha 8 (List.mem_cons_self ..)).trans e,hb.ev he⟩
          ·obtain ⟨b,e,hb⟩:=hF
           exact ⟨b,(ha 10 (List.mem_cons_self ..)).trans e,hb.ev he⟩
          ·exact (ha 11 (List.mem_cons_self ..)).trans hF
          ·exact (ha 12 (List.mem_cons_self ..)).trans hF
          ·exact (ha 14 (List.mem_cons_self ..)).trans hF
          ·obtain ⟨len,e,l1,l2⟩:=hF
           exact ⟨len,(ha 19 (List.mem_cons_self ..)).trans e,l1,l2⟩
          ·obtain ⟨len,e,l1,l2⟩:=hF
           exact ⟨len,(ha 22 (List.mem_cons_self ..)).trans e,l1,l2⟩
          ·obtain ⟨len,b,e,hb,l1,l2⟩:=hF
           exact ⟨len,b,(ha 23 (List.mem_cons_self ..)).trans e,hb.ev he,l1,l2⟩
          ·obtain ⟨len,b,e,hb,l1,l2⟩:=hF
           exact ⟨len,b,(ha 24 (List.mem_cons_self ..)).trans e,hb.ev he,l1,l2⟩
          ·obtain ⟨c,len,b,e,hc,hb,l1,l2⟩:=hF
           exact ⟨c,len,b,(ha 25 (List.mem_cons_self ..)).trans e,hc.ev he,hb.ev he,l1,l2⟩
         case ob2 =>
           refine Obs.cons (deps:=[]) rfl rfl (by kernel_rfl) (fun vs d w' h0 hC hF K hK=>?_) ?_
           ·clear hF
            simp only [over,List.foldl_nil,Act.put];go_simp;refine hK.out (.slice (some ⟨w'.heap.size,0,none⟩) 3 3) _ ?_ (EvN.alloc _ _ _) ⟨_,if_pos rfl,dS.new hC.size⟩ _ ?_
            ·simp only [show (d 14||(14:Nat) == 8)=d 14 from by simp]
             exact hC.alloc _
            ·simp only [over,List.foldl_nil,aS]
           refine Obs.cons (deps:=[(8,257)]) rfl rfl (by kernel_rfl) (fun vs d w' h0 hC hF K hK=>?_) ?_
           ·have f8:=(hF (8,257) (by simp)).2
            clear hF;simp only [over,List.foldl_nil,List.foldl_cons,aS] at f8 ⊢;obtain ⟨b,e8,hb⟩:=f8;rw [e8];go_simp;refine hK.out (.pointer (some ⟨b,j,none⟩)) _ ?_ (EvN.refl _ _) ⟨b,if_pos rfl,hb⟩ _ ?_
            ·simp only [show (d 14||(14:Nat) == 10)=d 14 from by simp]
             exact hC
            ·simp only [over,List.foldl_nil,List.foldl_cons,aS,e8]
           refine Obs.cons (deps:=[(10,259)]) rfl rfl (by kernel_rfl) (fun vs d w' h0 hC hF K hK=>?_) ?_
           ·have f10:=(hF (10,259) (by simp)).2
            clear hF;simp only [over,List.foldl_nil,List.foldl_cons,aS] at f10 ⊢;obtain ⟨b,e10,hb⟩:=f10;rw [e10]
            have hcell:w'.cell? ⟨b,j,none⟩=some (.string (digit j)):=by
             simp only [World.cell?,hb.2];rcases (show j=1∨j=2 by omega) with rfl | rfl <;> rfl
            go_simp;refine hK.out (.string (digit j)) _ ?_ (EvN.refl _ _) (if_pos rfl) _ ?_
            ·simp only [show (d 14||(14:Nat) == 11)=d 14 from by simp]
             exact hC
            ·simp only [over,List.foldl_nil,List.foldl_cons,aS,e10]
           refine Obs.cons (deps:=[(11,260)]) rfl rfl (by kernel_rfl) (fun vs d w' h0 hC hF K hK=>?_) ?_
           ·have f11:=(hF (11,260) (by simp)).2
            clear hF;simp only [over,List.foldl_nil,List.foldl_cons,aS] at f11 ⊢;rw [f11];have hds:(digit j).size=1:=rfl;have hcc:¬ (9223372036854775807<name.size+1+1):=by omega
            go_simp;refine hK.out (.string ((name++tT)++digit j)) _ ?_ (EvN.refl _ _) (if_pos rfl) _ ?_
            ·simp only [show (d 14||(14:Nat) == 12)=d 14 from by simp]
             exact hC
            ·simp only [over,List.foldl_nil,List.foldl_cons,aS,f11,tT]
           refine Obs.cons (deps:=[]) rfl rfl (by kernel_rfl) (fun vs d w' h0 hC hF K hK=>?_) ?_
           ·clear hF
            simp only [over,List.foldl_nil,Act.put];simp only at h0;simp only [h0,Bool.false_eq_true,if_false] at hC;go_simp;refine (vS X bs bb nv _ _ next' w' hC.post.bld (by simp;omega) (by simp;omega)).mono ?_;rintro e w5 ⟨rfl,q⟩;refine hK.out (.int .u64 (idOf g.id (g.next+names.length+1+(tvl.length:Int)+1))) w5 ?_ (CS.ev hbd q) ((if_pos rfl).trans (congrArg (Value.int .u64) HID2.out)) _ ?_
            ·simp only [h0,Bool.false_or,BEq.rfl,if_true]
             exact hC.step q
            ·simp only [over,List.foldl_nil,aS]
           refine Obs.cons (deps:=[]) rfl rfl (by kernel_rfl) (fun vs d w' h0 hC hF K hK=>?_) ?_
           ·clear hF
            simp only [over,List.foldl_nil,Act.put];go_simp;refine (bO bs 1 4 w' (by omega) (by omega) (by omega) hC.post.bld.src).mono ?_;rintro e w5 ⟨len,rfl,l1,l2,hs,hm⟩;have q:=hC.post.bld.readPost hs hm;refine hK.out (.int .i64 len) w5 ?_ (CS.ev hbd q) ⟨len,if_pos rfl,l1,l2⟩ _ ?_
            ·simp only [show (d 14||(14:Nat) == 19)=d 14 from by simp]
             exact hC.step q
            ·simp only [over,List.foldl_nil,aS]
           refine Obs.cons (deps:=[(19,268)]) rfl rfl (by kernel_rfl) (fun vs d w' h0 hC hF K hK=>?_) ?_
           ·have f19:=(hF (19,268) (by simp)).2
            clear hF;simp only [over,List.foldl_nil,List.foldl_cons,aS] at f19 ⊢;obtain ⟨len,e19,l1,l2⟩:=f19;rw [e19];go_simp;refine hK.out (.agg #[.int .i64 0,.int .i64 len,.int .i64 6,.slice none 0 0,.int .i64 0,.slice none 0 0,.string es,.string name,.int .i64 (j:Int),.int .i64 0,.int .i64 0]) _ ?_ (EvN.refl _ _) ⟨len,if_pos rfl,l1,l2⟩ _ ?_
            ·simp only [show (d 14||(14:Nat) == 22)=d 14 from by simp]
             exact hC
            ·simp only [over,List.foldl_nil,List.foldl_cons,aS,e19,es]
           refine Obs.cons (deps:=[(22,271)]) rfl rfl (by kernel_rfl) (fun vs d w' h0 hC hF K hK=>?_) ?_
           ·have f22:=(hF (22,271) (by simp)).2
            clear hF;simp only [over,List.foldl_nil,List.foldl_cons,aS] at f22 ⊢;obtain ⟨len,e22,l1,l2⟩:=f22;rw [e22];go_simp;refine hK.out (.slice (some ⟨w'.heap.size,0,none⟩) 1 1) _ ?_ (EvN.alloc _ _ _) ⟨len,_,if_pos rfl,dS.new hC.size,l1,l2⟩ _ ?_
            ·simp only [show (d 14||(14:Nat) == 23)=d 14 from by simp]
             exact hC.alloc _
            ·simp only [over,List.foldl_nil,List.foldl_cons,aS,e22]
           refine Obs.cons (deps:=[(12,261),(14,263),(23,272)]) rfl rfl (by kernel_rfl) (fun vs d w' h0 hC hF K hK=>?_) ?_
           ·have f12:=(hF (12,261) (by simp)).2
            have f14:=(hF (14,263) (by simp)).2;have f23:=(hF (23,272) (by simp)).2;clear hF;simp only [over,List.foldl_nil,List.foldl_cons,aS] at f12 f14 f23 ⊢;obtain ⟨len,b,e23,hb,l1,l2⟩:=f23;rw [f12,f14,e23];go_simp;refine hK.out (.agg #[.string ((name++tT)++digit j),.int .u64 vid2,.bool false,.bool false,.slice none 0 0,.slice (some ⟨b,0,none⟩) 1 1]) _ ?_ (EvN.refl _ _) ⟨len,b,if_pos rfl,hb,l1,l2⟩ _ ?_
            ·simp only [show (d 14||(14:Nat) == 24)=d 14 from by simp]
             exact hC
            ·simp only [over,List.foldl_nil,List.foldl_cons,aS,f12,f14,e23]
           refine Obs.cons (deps:=[(24,273)]) rfl rfl (by kernel_rfl) (fun vs d w' h0 hC hF K hK=>?_) trivial
           ·have f24:=(hF (24,273) (by simp)).2
            clear hF;simp only [over,List.foldl_nil,List.foldl_cons,aS] at f24 ⊢;obtain ⟨len,b,e24,hb,l1,l2⟩:=f24;rw [e24];go_simp;refine hK.out (.slice (some ⟨w'.heap.size,0,none⟩) 1 1) _ ?_ (EvN.alloc _ _ _) ⟨_,len,b,if_pos rfl,dS.new hC.size,hb.ev (EvN.alloc _ _ _),l1,l2⟩ _ ?_
            ·simp only [show (d 14||(14:Nat) == 25)=d 14 from by simp]
             exact hC.alloc _
            ·simp only [over,List.foldl_nil,List.foldl_cons,aS,e24]
         case fin2 =>
          intro vs d w' hC hF;have f25:=(hF (25,274) (by simp)).2;have hd14:=(hF (14,263) (by simp)).1;clear hF;simp only [over,List.foldl_nil,List.foldl_cons,aS,List.drop_succ_cons,List.drop_zero] at f25 hd14 ⊢;obtain ⟨c,len,b,e25,hc,hb,l1,l2⟩:=f25;rw [e25];simp only [hd14,if_true] at hC;generalize vs 8=z8;generalize vs 10=z10;generalize vs 11=z11;generalize vs 12=z12;generalize vs 14=z14;generalize vs 19=z19;generalize vs 22=z22;generalize vs 23=z23;generalize vs 24=z24;clear hd14 e25;have P':=hC.post;have hbl:=P'.bld.Gj
          have RV:aN (okB X bb nv (.slice vp2 M2 vc2)) w' [.string ((name++tT)++digit j),.int .u64 vid2,.bool false,.bool false,.slice none 0 0,.slice (some ⟨b,0,none⟩) 1 1] (jY name vid2 len j) :=
           ⟨_,_,rfl,RdS.nil,RdS.one hb.2 (hbd.okNew hb.1) rfl ⟨_,_,rfl,RdS.nil,RdS.nil⟩⟩
          have hrd:=P'.bld.ready RV w' (Below.refl _ _);obtain ⟨i0,hi,hz0,hz1,hz2⟩:=info_parts zT;refine dX aN.moves Tryz.underlying28 hi hz0 hz1 hz2 rfl (by decide) (by decide) rfl _ _ (by rfl) (bb+1) (fun b=>okB X bb nv (.slice vp2 M2 vc2) b∧b<w'.heap.size) (.slice vp2 M2 vc2) (base++tvl) (jY name vid2 len j) (by rfl) hrd.1 c 1 [.string ((name++tT)++digit j),.int .u64 vid2,.bool false,.bool false,.slice none 0 0,.slice (some ⟨b,0,none⟩) 1 1] (by rfl) (by rfl) hrd.2 (by simp [Value.oneCell']) (fun jj y hy=>?_) (by rw [HM2.out];omega) (by omega) p8 (fun gb2 cap2 w5 hp=>?_)
          ·simp only [World.cell?,hc.2]
           simpa using hy
          ·obtain ⟨hx1,hx2⟩:=P'.bld.pushKeeps (Below.refl _ _) hp
           have y8:=(World.cell?_of_block (w:=w') (w':=w5) (a:=⟨bb,8,none⟩) hx1).trans P'.bld.c8;have yf:=(World.frozen?_of_block (w:=w') (w':=w5) (a:=⟨bb,8,none⟩) hx1).trans (P'.bld.bfr 8);have R8:=P'.push (Below.refl _ _) hp (Nat.le_refl _);clear hp hx1 hx2 hrd RV hC hc hb hi hz0 hz1 hz2 hHeld HC0 hbd P';simp only [aS];go_wp2;go_roundw
           case rel =>
            refine ⟨j - 1,tvl++[jY name vid2 len j],.slice (some ⟨gb2,0,none⟩) (M2+1) cap2,by omega,by rw [show ((j - 1:Nat):Int)=(j:Int) - 1 by omega],?_,by have:=HLEN.out;simp;omega,?_⟩
            ·have hth':=HTH.out
             obtain ⟨i,rfl⟩:∃ i,j=i+1:=⟨j - 1,by omega⟩;have:=iO.snoc (len:=len) hth' ⟨l1,l2⟩;rw [show g.next+(names.length:Int)+1+1+(tvl.length:Int)=g.next+names.length+1+(tvl.length:Int)+1 by omega,HID2.out] at this;exact this
            ·rw [show g.next+(names.length:Int)+1+(((tvl++[jY name vid2 len j]).length:Nat):Int)=g.next+names.length+1+(tvl.length:Int)+1 by simp;omega,← List.append_assoc]
             have R9:=R8;simp only [HM2.out] at R9;have hq:base.length+tvl.length=M2:=by rw [← List.length_append];exact HM2.out
             rw [hq];exact R9
           case measure=>simp [intOf];omega
        ·by_cases g1:0<j
         ·have hd1:decide ((0:Int)<(j:Int))=true:=by simp;omega
          have hd2:decide ((M2:Int)<32)=false:=by simp;omega
          go_wp2
          go_end0
          have hv:=HID.out;subst hv;have hb:=HBASE.out;subst hb;refine ⟨rfl,.inr ⟨n,names,lengths,x,ps,vl,ro,tl,kk,j,tvl,next',_,hn1,hn2,HR.out,?_,hT,HT2.out,by omega,fun q=>absurd rfl q,HTH.out,R⟩⟩;have:=HH.out;rw [HR1.out,List.take_length] at this;exact this
         ·have hd1:decide ((0:Int)<(j:Int))=false:=by simp;omega
          go_wp2
          go_end0
          have hv:=HID.out;subst hv;have hb:=HBASE.out;subst hb;refine ⟨rfl,.inr ⟨n,names,lengths,x,ps,vl,ro,tl,kk,j,tvl,next',_,hn1,hn2,HR.out,?_,hT,HT2.out,by omega,fun q=>absurd rfl q,HTH.out,R⟩⟩;have:=HH.out;rw [HR1.out,List.take_length] at this;exact this
     ·have hkb:(kind == 5)=false:=by simpa using hk5
      go_wp2
      go_end0
      have hv:=HID.out;subst hv;refine ⟨rfl,.inr ⟨n,names,lengths,x,ps,vl,ro,tl,0,0,[],next',.slice (some ⟨gb,0,none⟩) (M+1) cap,hn1,hn2,HR.out,?_,hT,t2,by omega,fun _=>⟨rfl,rfl⟩,.nil _,?_⟩⟩
      ·have:=hH
       rw [HR1.out,List.take_length] at this;exact this
      ·simpa using R5
  ·go_wp2
   refine bodyPost_ret (results_none rfl _ _ _) rfl ⟨rfl,.inl ⟨j,nv',vv',by omega,(T.post.trans Q).fewer (fun k hk=>.inl hk)⟩⟩
end Go.Proofs.YtjdfihglehfelaaGreatDoor
