/- Lemmas: ModZc, ModY. -/
import Derived.Test.YtjdfihglehfelaaGreatDoorPk25
set_option maxRecDepth 100000
set_option maxHeartbeats 32000000
set_option linter.all false
namespace Go.Proofs.YtjdfihglehfelaaGreatDoor
open Go.RowKit Go.Maps Go.Shelf
theorem DI:(Tryz.prog.info? 4).map (fun i=>(i.zero,i.size,i.bytes))=some (some (.bool false),1,1):=by kernel_rfl
theorem xR (d:az):(bz [] d).map Value.bool=List.replicate d.Gc.toNat (.bool false):=by
 refine List.ext_getElem? fun i=>?_;simp only [List.getElem?_map,List.getElem?_replicate]
 by_cases h:i<d.Gc.toNat
 ·rw [gU h,if_pos h]
  rfl
 ·rw [if_neg h,List.getElem?_eq_none (by rw [gP];omega)]
  rfl
theorem AJ (d:az)(E:Nat)(hE:d.Gc.toNat=E)(h:E≤1000000)(w:World) :
  (Instr.makeSlice 195 (.int .i64 (E:Int)) (.int .i64 (E:Int))).run Tryz.prog w=.ok (.slice (some ⟨w.heap.size,0,none⟩) E E) (w.alloc (.cells ((bz [] d).map Value.bool).toArray 4)):=by
 obtain ⟨i0,hi,hz0,hz1,hz2⟩:=info_parts DI;have:=run_makeSlice w 195 4 i0 _ Tryz.underlying195 hi hz0 .i64 .i64 (E:Int) (E:Int) (by omega) (by omega) (by rw [hz1];simp;omega) (by rw [hz2];omega) (by omega);rw [hz1] at this;simp only [Int.toNat_natCast,Nat.mul_one] at this
 have e:madeCells (Value.bool false).cells E=(List.replicate E (Value.bool false)).toArray:=by
  unfold madeCells;refine Array.ext (by simp) fun i h1 h2=>?_;simp [Value.cells,Nat.mod_one]
 rw [this,xR,hE,e]
structure OvL (B:Nat)(w:World)(bm Bt:Nat)(L:List (az × Nat)):Prop where
 m:uF (fun b=>b<B) w L bm
 t:kK w L []
 c:w.cell? ⟨Bt,0,none⟩=some (.map (some bm))
 n:∀ p∈L,p.2≠Bt
 bt:Bt<w.heap.size
theorem OvL.below {B:Nat}{w w':World}{bm Bt:Nat}{L:List (az × Nat)}(h:OvL B w bm Bt L)(hb:Below w.heap.size w w'):OvL B w' bm Bt L :=
 ⟨⟨h.m.map.block (hb.block _ h.m.map.lt),h.m.nb,h.m.nn,fun p hp=>⟨Nat.lt_of_lt_of_le (h.m.lt p hp).1 hb.size,(h.m.lt p hp).2⟩,h.m.de⟩,h.t.below hb,(hb.cell (p:=⟨Bt,0,none⟩) h.bt).trans h.c,h.n,Nat.lt_of_lt_of_le h.bt hb.size⟩
theorem OvL.snoc {B:Nat}{w W w':World}{bm Bt:Nat}{L:List (az × Nat)}{d:az}{E:Nat}(h:OvL B w bm Bt L)(hb:Below w.heap.size w W)(hB:B≤W.heap.size)(hd:0≤d.Gc∧d.Gc≤1000000)(hE:d.Gc.toNat=E)(hn:∀ p∈L,¬ p.1.name=d.name)
  (hm:bi Tryz.prog 9 w' bm (L.length+1) (upd (vG L) (.string d.name) (.slice (some ⟨W.heap.size,0,none⟩) E E))) (hg:(W.alloc (.cells ((bz [] d).map Value.bool).toArray 4)).grownBy w' (some bm)) (hz:w'.heap.size=(W.alloc (.cells ((bz [] d).map Value.bool).toArray 4)).heap.size):OvL B w' bm Bt (L++[(d,W.heap.size)]):=by
 have hA:=ae W (.cells ((bz [] d).map Value.bool).toArray 4);have h1:=(h.below hb).below hA;have hbm:=h.m.map.lt;have hbW:=Nat.lt_of_lt_of_le hbm hb.size;have hwz:=hb.size;have hbt:=h.bt;have hzW:(W.alloc (.cells ((bz [] d).map Value.bool).toArray 4)).heap.size=W.heap.size+1:=by simp
 have hnew:=heap_alloc_new W (.cells ((bz [] d).map Value.bool).toArray 4);have hmap:(L++[(d,W.heap.size)]).map (·.2)=L.map (·.2)++[W.heap.size]:=by simp
 have hmap2:(L++[(d,W.heap.size)]).map (·.1.name)=L.map (·.1.name)++[d.name]:=by simp
 generalize hW1:World.alloc W _=W1 at *
 have hlt:∀ p∈L++[(d,W.heap.size)],p.2<w'.heap.size∧¬ p.2<B∧p.2≠bm:=fun p hp=>by
  rcases List.mem_append.1 hp with hp | hp
  ·obtain ⟨a,b,c⟩:=h1.m.lt p hp
   exact ⟨by omega,b,c⟩
  ·obtain rfl:=List.mem_singleton.1 hp
   exact ⟨by show W.heap.size<_;omega,by show ¬ W.heap.size<B;omega,by show W.heap.size≠bm;omega⟩
 have hnb:∀ b,b<W1.heap.size→b≠bm→w'.heap[b]?=W1.heap[b]?:=fun b hb hne=>oJ hg hb hne;have hbt1:=h1.bt
 have hbtne:Bt≠bm:=by
  rintro rfl
  exact absurd h.c (by
   obtain ⟨D,⟨es,clock,e,_⟩,_⟩:=h.m.map
   simp [World.cell?,e])
 refine ⟨⟨?_,?_,?_,hlt,?_⟩,?_,?_,?_,by omega⟩
 ·rw [List.length_append]
  refine hm.congr fun key _ _=>?_;rw [Av L d _ hn key,hE]
 ·rw [hmap,List.nodup_append]
  refine ⟨h.m.nb,by simp,fun a ha b hb=>?_⟩;obtain ⟨p,hp,rfl⟩:=List.mem_map.1 ha;obtain rfl:=List.mem_singleton.1 hb;have:=(h.m.lt p hp).1;omega
 ·rw [hmap2,List.nodup_append]
  refine ⟨h.m.nn,by simp,fun a ha b hb=>?_⟩;obtain ⟨p,hp,rfl⟩:=List.mem_map.1 ha;obtain rfl:=List.mem_singleton.1 hb;exact hn p hp
 ·intro p hp
  rcases List.mem_append.1 hp with hp | hp
  ·exact h.m.de p hp
  ·obtain rfl:=List.mem_singleton.1 hp
   exact hd
 ·intro p hp
  rcases List.mem_append.1 hp with hp | hp
  ·have:=h1.m.lt p hp
   exact (hnb _ this.1 this.2.2).trans (h1.t p hp)
  ·obtain rfl:=List.mem_singleton.1 hp
   exact (hnb _ (by show W.heap.size<_;omega) (by show W.heap.size≠bm;omega)).trans hnew
 ·exact (World.cell?_of_block (a:=⟨Bt,0,none⟩) (hnb Bt hbt1 hbtne)).trans h1.c
 ·intro p hp
  rcases List.mem_append.1 hp with hp | hp
  ·exact h.n p hp
  ·obtain rfl:=List.mem_singleton.1 hp
   show W.heap.size≠Bt;omega
theorem uF.mod {ok:Nat→Prop}{w w':World}{L:List (az × Nat)}{bm:Nat}(h:uF ok w L bm)(hm:Mod (Gm L) w w'):uF ok w' L bm :=
 ⟨h.map.block (hm.block _ h.map.lt fun ⟨p,hp,e⟩=>(h.lt p hp).2.2 e),h.nb,h.nn,fun p hp=>⟨Nat.lt_of_lt_of_le (h.lt p hp).1 hm.size,(h.lt p hp).2⟩,h.de⟩
theorem wm (pre:List (ay × aB))(v:ay)(s:aB):lU (pre++[(v,s)])=lU pre++dC (aX s) s.Ga:=by simp [lU]
theorem zn {Gb:List az}(h:(Gb.map (·.name)).Nodup){k:Nat}{d:az}(hd:Gb[k]?=some d){L:List (az × Nat)}(hL:L.map (·.1)=Gb.take k):∀ p∈L,¬ p.1.name=d.name:=fun p hp e=>by
 have h1:p.1∈Gb.take k:=by rw [← hL];exact List.mem_map_of_mem hp
 obtain ⟨i,hi,hpi⟩:=List.mem_iff_getElem.1 h1;rw [List.length_take] at hi;rw [List.getElem_take] at hpi;obtain ⟨hk,hdk⟩:=List.getElem?_eq_some_iff.1 hd;have hpw:=List.pairwise_iff_getElem.1 h i k (by rw [List.length_map];omega) (by rw [List.length_map];omega) (by omega);rw [List.getElem_map,List.getElem_map,hpi,hdk] at hpw;exact hpw e
theorem Cs (key:Value):vG [] key=none:=by
 unfold vG;split <;> rfl
structure FL (g:af):Prop where
 nd:(g.Gb.map (·.name)).Nodup
 ns:∀ d∈g.Gb,d.name.size≤maxLen
 dl:g.Gb.length≤1000000
 sg:∀ v∈g.F9,∀ s∈v.Gf,wM s∧1≤aX s∧(∀ a∈s.Ga,a.vol=false→a.on.size≤maxLen∧∃ d,bH g.Gb a.on=some d∧0≤a.start∧aX s≤d.Gc - a.start)∧s.pool.size≤maxLen∧(Lit.int .i64 s.device).wf=true
 pl:(aA g.F9).length≤1000000
attribute [local go_sem] run_makeMap_plain
theorem vM {ok:Nat→Prop}(g:af)(a:bN)(bc:Nat)(w:World)(hck:gY w bc g a)(hg:dN ok w g a)(hf:GFm g)(ho:FL g) :
  Calls Tryz.prog 89 #[.pointer (some ⟨bc,0,none⟩)] w (gX (pE g) w):=by
 have hbcl:=hck.lt;have HCK:=aa hck;obtain ⟨sm,hblk,_⟩:=hck;have HCB:Hid (bX w bc sm g a):=aa hblk;clear hblk;have HGG:=aa hg;have HG:=aa hg.Gb;have HF:=aa hf;have HO:=aa ho;have hdl:=ho.dl;obtain ⟨vp,vc,hvpc,hvc1,hvc2⟩:=hg.Gb.cap;clear hg hf ho;injection hvpc with e1 e2 e3
 obtain ⟨gtp,gtc,gdp,gdc,gvp,gvc,ghp,ghc⟩:=a;dsimp only at e1 e2 e3;subst e1;subst e3;clear e2;have hA1:=ae w (.map #[] 0);have hA2:=ae (w.alloc (.map #[] 0)) (.cells #[.map (some w.heap.size)] 194);have hm1:=bi.made Tryz.prog 9 w;have hN2:=heap_alloc_new (w.alloc (.map #[] 0)) (.cells #[.map (some w.heap.size)] 194);rw [World.size_alloc] at hN2;have HN2:=aa hN2;clear hN2;have HM2:=aa (hm1.block (hA2.block _ hm1.lt));have HB2:=aa (hA1.trans (hA2.mono hA1.size));clear hA1 hA2 hm1;obtain ⟨-,-,-,-,-,-,g6,-,-⟩:=bX.cells (sm:=sm) ((HB2.out.block bc hbcl).trans HCB.out);go_enter Tryz.func89,Tryz.ntmps89
 go_upto_region 3 with (fail)
 generalize hW1:World.alloc (World.alloc w _) _=W1 at *;clear hW1 g6;have HOV:=aa (show OvL w.heap.size W1 w.heap.size (w.heap.size+1) [] from ⟨⟨HM2.out.congr (fun key _ _=>Cs key),by simp,by simp,fun p hp=>absurd hp (by simp),fun p hp=>absurd hp (by simp)⟩,fun p hp=>absurd hp (by simp),by simp [World.cell?,HN2.out],fun p hp=>absurd hp (by simp),lt_of_block HN2.out⟩);clear HM2 HN2
 go_loopw [17] (fun i wr=>∃ k:Nat,k≤g.Gb.length∧i=.int .i64 k∧Below w.heap.size w wr∧∃ L:List (az × Nat),L.map (·.1)=g.Gb.take k∧OvL w.heap.size wr w.heap.size (w.heap.size+1) L) (fun i _=>g.Gb.length - (intOf i).toNat)
 case atStart=>exact ⟨0,Nat.zero_le _,rfl,HB2.out,[],by simp,HOV.out⟩
 case round =>
  clear HB2 HOV;obtain ⟨k,hk,rfl,hB,L,hL,hov⟩:=hrel;have HB:=aa hB;clear hB;have HL:=aa hL;clear hL;have HOV:=aa hov;clear hov
  by_cases hlt:k<g.Gb.length
  ·obtain ⟨d,hd⟩:=aj g.Gb k hlt
   obtain ⟨b,off,us,rfl,hob,hbw,hul,hvs,hcv⟩:=HG.out.elem hd;obtain ⟨tv,rfl,htr⟩:=hvs;obtain ⟨tp,tc,rfl,_,_⟩:=htr.cap;have hbk:wr.heap[b]?=w.heap[b]?:=HB.out.block b hbw;have q0:=bK hbk (hcv 0 _ rfl);have q1:=ai hbk (hcv 1 _ rfl);have q2:=ai hbk (hcv 2 _ rfl);have q3:=ai hbk (hcv 3 _ rfl);have q4:=ai hbk (hcv 4 _ rfl);have q5:=ai hbk (hcv 5 _ rfl);have q6:=ai hbk (hcv 6 _ rfl);have hdm:=List.mem_of_getElem? hd;have hde:=HF.out.de d hdm;have hns:=HO.out.ns d hdm;have HNF:=aa (zn HO.out.nd hd HL.out);have HSN:Hid (∀ b:Nat,(L++[(d,b)]).map (·.1)=g.Gb.take (k+1)):=aa (fun b=>by rw [List.map_append,HL.out,take_snoc' g.Gb k d hd];rfl);clear hd hcv hul hbk htr hdm;have HDE:=aa hde;clear hde;have hA:=ae wr (.cells #[.string d.name,.int .u64 d.id,.int .i64 d.first,.int .i64 d.Gc,.bool d.closed,.bool d.missing,.slice tp d.tags.length tc] 47);have HBd:=aa (heap_alloc_new wr (.cells #[.string d.name,.int .u64 d.id,.int .i64 d.first,.int .i64 d.Gc,.bool d.closed,.bool d.missing,.slice tp d.tags.length tc] 47));have HB3:=aa (HB.out.trans (hA.mono HB.out.size));have HOV3:=aa (HOV.out.below hA);have hz3:(wr.alloc (.cells #[.string d.name,.int .u64 d.id,.int .i64 d.first,.int .i64 d.Gc,.bool d.closed,.bool d.missing,.slice tp d.tags.length tc] 47)).heap.size=wr.heap.size+1:=by simp
   clear hA
   go_upto_region 5 with (fail)
   clear q0 q1 q2 q3 q4 q5 q6;generalize hW2:World.alloc wr _=W2 at *;generalize hBd:wr.heap.size=Bd at *;clear hW2 HB HOV hBd;obtain ⟨E,hE⟩:∃ E:Nat,d.Gc=E:=⟨d.Gc.toNat,by have:=HDE.out;omega⟩;have hE2:d.Gc.toNat=E:=by omega
   have hEb:E≤1000000:=by have:=HDE.out;omega
   have hS:∀ w':World,Below W2.heap.size W2 w'→(w'.cell? ⟨w.heap.size+1,0,none⟩=some (.map (some w.heap.size))∧w'.cell? ⟨Bd,0,none⟩=some (.string d.name)∧w'.cell? ⟨Bd,3,none⟩=some (.int .i64 (E:Int))):=fun w' e=>by
    have h2:=(e.block Bd (lt_of_block HBd.out)).trans HBd.out;rw [hE] at h2;exact ⟨(HOV3.out.below e).c,by simp [World.cell?,h2],by simp [World.cell?,h2]⟩
   have HS:=aa hS;clear hS hE;have HE2:=aa hE2;clear hE2;have HZ3:=aa hz3;clear hz3;refine aL (fun w'=>w'.cell? ⟨w.heap.size+1,0,none⟩=some (.map (some w.heap.size))∧w'.cell? ⟨Bd,0,none⟩=some (.string d.name)∧w'.cell? ⟨Bd,3,none⟩=some (.int .i64 (E:Int))) 6 [] (by kernel_rfl) (HS.out _ (Below.refl _ _).drew) (fun hHeld=>?_);refine tkF 0 hHeld ?_;try simp only [ak];refine tkF 1 hHeld ?_;try simp only [ak];refine tkF 2 hHeld ?_;try simp only [ak];refine tkF 3 hHeld ?_;try simp only [ak];refine tkF 4 hHeld ?_;try simp only [ak];refine au (i:=5) rfl rfl (by kernel_rfl) (fun K hK=>?_);have hmk:=AJ d E HE2.out hEb W2.drew;go_simp;clear hmk;have hA4:=ae W2.drew (.cells ((bz [] d).map Value.bool).toArray 4);refine hK.out _ _ (HS.out _ ((Below.refl W2.heap.size W2).drew.trans (hA4.mono (by simp)))) ?_;clear hK K hHeld;refine aP (by kernel_rfl) rfl ?_;simp only [List.drop_succ_cons,List.drop_zero];have hb4:Below W2.heap.size W2 (W2.drew.alloc (.cells ((bz [] d).map Value.bool).toArray 4)):=(Below.refl W2.heap.size W2).drew.trans (hA4.mono (by simp))
   have hLl:L.length≤1000000:=by
    have:=congrArg List.length HL.out;rw [List.length_map,List.length_take] at this;omega
   obtain ⟨w',hst,hm',hg',hz'⟩:=bi.store ((HOV3.out.below hb4).m.map) oM Tryz.underlying194 (Nat.lt_of_le_of_lt hLl (by decide)) (gG d.name hns) (.slice (some ⟨W2.heap.size,0,none⟩) E E);have HOVN:=aa (OvL.snoc HOV3.out (W:=W2.drew) (Below.refl W2.heap.size W2).drew HB3.out.size HDE.out HE2.out HNF.out hm' hg' hz');have HBN:Hid (Below w.heap.size w w'):=aa ((HB3.out.trans (hb4.mono HB3.out.size)).trans ((Mod.grown hg').below (B:=w.heap.size) (Nat.le_trans HB3.out.size hb4.size) (fun q e=>by omega)));replace hst:(Instr.mapUpdate 194 (.map (some w.heap.size)) (.string d.name) (.slice (some ⟨W2.heap.size,0,none⟩) E E)).run Tryz.prog (W2.alloc (.cells ((bz [] d).map Value.bool).toArray 4)).drew=.ok () w':=hst;clear hm' hg' hz' hb4 hA4;go_wp2;go_roundw
   case rel=>exact ⟨k+1,by omega,by go_num,HBN.out,_,HSN.out _,HOVN.out⟩
   case measure=>simp [intOf];omega
  ·obtain rfl:k=g.Gb.length:=by omega
   rw [List.take_length] at HL;have hlt3:w.heap.size+1<wr.heap.size:=HOV.out.bt;have HE1:∃ r,r=bD CQ [] (aA g.F9):=⟨_,rfl⟩;obtain ⟨⟨p1,x1⟩,hr1⟩:=HE1;have HR1:=aa hr1;clear hr1
   go_wp2_with fail
   refine (Cw (ok:=fun b=>ok b∧b<w.heap.size) (F:=Gm L) g _ bc (.pointer (some ⟨w.heap.size+1,0,none⟩)) CQ (fun pre W=>kK W L (lU pre)) wr (HCK.out.below HB.out) (HGG.out.mv ⟨HB.out.size,fun b hb ho=>⟨⟨ho,hb⟩,HB.out.block b hb⟩⟩) HF.out.sz ?_ (fun _ _ _ h hb=>h.below hb) HOV.out.t ?_).mono ?_
   ·rintro b ⟨p,hp,rfl⟩
    have:=HOV.out.m.lt p hp;exact ⟨this.1,fun q=>this.2.1 q.2⟩
   ·intro pre v s post hp W u1 u2 hm hi hv hs
    obtain ⟨m1,m2⟩:=jZ hp;obtain ⟨f1,f2,f3,f4,f5⟩:=HO.out.sg v m1 s m2;have hlm:=HOV.out.m
    refine (sK (ok:=fun b=>ok b∧b<w.heap.size) L (lU pre) w.heap.size (w.heap.size+1) v s u1 u2 W ((hm.cell (p:=⟨w.heap.size+1,0,none⟩) HOV.out.bt (fun ⟨p,hp,e⟩=>HOV.out.n p hp e)).trans HOV.out.c) (Nat.lt_of_lt_of_le HOV.out.bt hm.size)
     ((⟨hlm.map,hlm.nb,hlm.nn,fun p hp=>⟨(hlm.lt p hp).1,fun q=>(hlm.lt p hp).2.1 q.2,(hlm.lt p hp).2.2⟩,hlm.de⟩:uF (fun b=>ok b∧b<w.heap.size) wr L w.heap.size).mod hm) HOV.out.n hi hv hs f1 f2 (by rw [HL.out];exact f3)).mono ?_
    rintro e W' ⟨rfl,h2,h3⟩;refine ⟨rfl,h2,fun h0=>?_⟩;show kK W' L (lU (pre++[(v,s)]));rw [wm];refine h3 ?_;unfold CQ at h0;split at h0
    ·cases h0
    ·exact Bool.eq_false_iff.2 ‹_›
   ·rintro e w3 ⟨he,hm3,-⟩
    rw [← HR1.out] at he;subst he;have HB3:Hid (Below w.heap.size w w3):=aa (HB.out.trans (hm3.below HB.out.size (fun b ⟨p,hp,e⟩=>by have:=(HOV.out.m.lt p hp).2.1;omega)));have hlt4:wr.heap.size≤w3.heap.size:=hm3.size;clear hm3 HOV HL HB
    by_cases hx:x1=0
    ·have hxb:(x1 != 0)=false:=by simpa using hx
     have HR:Hid (pE g=bD BL [] (aA g.F9)):=aa (by unfold pE;rw [← HR1.out,if_pos hx]);have HX:=aa hx;clear hx;have hA1:=ae w3 (.map #[] 0);have hA2:=ae (w3.alloc (.map #[] 0)) (.cells #[.map (some w3.heap.size)] 197);have hm1:=bi.made Tryz.prog 199 w3;have hN2:=heap_alloc_new (w3.alloc (.map #[] 0)) (.cells #[.map (some w3.heap.size)] 197);rw [World.size_alloc] at hN2;have HN2:=aa hN2;clear hN2;have HM2:=aa (hm1.block (hA2.block _ hm1.lt));have HB2:=aa (hA1.trans (hA2.mono hA1.size));clear hA1 hA2 hm1
     go_wp2_with fail
     generalize hW4:World.alloc (World.alloc w3 _) _=W4 at *;clear hW4;have HB4:=aa (HB3.out.trans (HB2.out.mono HB3.out.size));have hbt:=lt_of_block HN2.out;have hwz:=HB3.out.size;refine (Ci (ok:=fun b=>ok b∧b<w.heap.size) (F:=fun b=>b=w3.heap.size) g _ bc (.pointer (some ⟨w3.heap.size+1,0,none⟩)) BL (fun pre W=>bi Tryz.prog 199 W w3.heap.size pre.length (iV pre)) W4 (HCK.out.below HB4.out) (HGG.out.mv ⟨HB4.out.size,fun b hb ho=>⟨⟨ho,hb⟩,HB4.out.block b hb⟩⟩) HF.out.sz ?_ (fun _ _ _ h hb=>h.block (hb.block _ h.lt)) ?_ ?_).mono ?_
     ·rintro b rfl
      exact ⟨HM2.out.lt,fun q=>by have:=q.2;omega⟩
     ·refine HM2.out.congr fun key _ _=>?_
      unfold iV;rw [if_neg (by simp)]
     ·intro pre v s post hp W u1 u2 hm hi hv hs
      obtain ⟨m1,m2⟩:=jZ hp;obtain ⟨f1,f2,f3,f4,f5⟩:=HO.out.sg v m1 s m2
      have hpl:pre.length≤1000000:=by
       have:=HO.out.pl;rw [hp,List.length_append] at this;omega
      refine (sO (ok:=fun b=>ok b∧b<w.heap.size) pre w3.heap.size (w3.heap.size+1) v s u1 u2 W ((hm.cell (p:=⟨w3.heap.size+1,0,none⟩) hbt (by show ¬ w3.heap.size+1=_;omega)).trans (by simp [World.cell?,HN2.out])) (Nat.lt_of_lt_of_le hbt hm.size) hi hpl hv hs f4 f5).mono ?_;rintro e W' ⟨rfl,h2,h3⟩;refine ⟨rfl,h2,fun h0=>?_⟩;show bi Tryz.prog 199 W' w3.heap.size (pre++[(v,s)]).length (iV (pre++[(v,s)]));rw [List.length_append];exact h3 h0
     ·rintro e w5 ⟨he,hm5,-⟩
      rw [← HR.out] at he;subst he;have HB5:Hid (Below w.heap.size w w5):=aa (HB4.out.trans (hm5.below HB4.out.size (fun b e=>by omega)));clear hm5;go_wp2;go_ret2;exact ⟨rfl,HB5.out⟩
    ·have hxb:(x1 != 0)=true:=by simpa using hx
     have HR:Hid (pE g=(p1,x1)):=aa (by unfold pE;rw [← HR1.out,if_neg hx]);have HX:=aa hx;clear hx;go_wp2;go_ret2;exact ⟨by rw [HR.out];rfl,HB3.out⟩
end Go.Proofs.YtjdfihglehfelaaGreatDoor
namespace Go.Proofs.YtjdfihglehfelaaGreatDoor
open Go.RowKit Go.Maps Go.Shelf
theorem gm.nil {w:World}{b:Nat}(h:bi Tryz.prog 9 w b 0 (fun _=>none)):gm w b []:=h.congr fun key _ _=>by
 unfold cntF;split
 ·simp [iJ]
 ·rfl
theorem gm.block {w w':World}{b:Nat}{l:List ByteArray}(h:gm w b l)(hb:w'.heap[b]?=w.heap[b]?):gm w' b l:=bi.block h hb
theorem gm.lt {w:World}{b:Nat}{l:List ByteArray}(h:gm w b l):b<w.heap.size:=bi.lt h
theorem Ag (l:List ByteArray)(s:ByteArray):iJ l s≤l.length:=List.countP_le_length
theorem wu {F9:List ay}{pre post:List (ay × aB)}{v:ay}{s:aB}(h:aA F9=pre++(v,s) :: post)(pool:Bool):(dA pre pool).length+(dD s pool).length≤(dA (aA F9) pool).length:=by
 rw [h];simp [dA]
attribute [local go_sem] run_makeMap_plain
theorem DC {ok:Nat→Prop}(g:af)(a:bN)(bc:Nat)(w:World)(hck:gY w bc g a)(hg:dN ok w g a)(hz:GSz g)(hU:∀ pool,(dA (aA g.F9) pool).length≤1000000)
  (hN:∀ v∈g.F9,∀ s∈v.Gf,∀ pool,∀ x∈dD s pool,x.size≤maxLen) (hV:∀ v∈g.F9,v.name.size≤maxLen) :
  Calls Tryz.prog 90 #[.pointer (some ⟨bc,0,none⟩)] w (gX (rY g) w):=by
 have hbcl:=hck.lt;obtain ⟨sm,hblk,_⟩:=hck;have HCB:Hid (bX w bc sm g a):=aa hblk;clear hblk;have HG:=aa hg.F9;have HZ:=aa hz;have HU:=aa hU;clear hU;have HN:=aa hN;clear hN;have HVN:=aa hV;clear hV;have hvl:=hz.vl;obtain ⟨vp,vc,hvpc,hvc1,hvc2⟩:=hg.F9.cap;clear hg hz;injection hvpc with e1 e2 e3
 obtain ⟨gtp,gtc,gdp,gdc,gvp,gvc,ghp,ghc⟩:=a;dsimp only at e1 e2 e3;subst e1;subst e3;clear e2;have hA1:=ae w (.map #[] 0);have hA2:=ae (w.alloc (.map #[] 0)) (.map #[] 0);have hm1:=bi.made Tryz.prog 9 w;have hm2:=bi.made Tryz.prog 9 (w.alloc (.map #[] 0));rw [World.size_alloc] at hm2;have HP:=aa (gm.nil (hm1.block (hA2.block _ hm1.lt)));have HA:=aa (gm.nil hm2);have HB:=aa (hA1.trans (hA2.mono hA1.size));clear hA1 hA2 hm1 hm2;obtain ⟨-,-,-,-,-,-,-,g7,-⟩:=bX.cells (sm:=sm) ((HB.out.block bc hbcl).trans HCB.out);go_enter Tryz.func90,Tryz.ntmps90
 go_upto_region 3 with (fail)
 generalize hW1:World.alloc (World.alloc w _) _=W1 at *;clear hW1 g7
 go_loopw [24] (fun i wr=>∃ k:Nat,k≤g.F9.length∧i=.int .i64 k∧Below w.heap.size w wr∧gm wr w.heap.size (dA (aA (g.F9.take k)) false)∧gm wr (w.heap.size+1) (dA (aA (g.F9.take k)) true)) (fun i _=>g.F9.length - (intOf i).toNat)
 case atStart=>exact ⟨0,Nat.zero_le _,rfl,HB.out,HP.out,HA.out⟩
 case round =>
  clear HB HP HA;obtain ⟨k,hk,rfl,hB,hp,ha⟩:=hrel;have HP:=aa hp;clear hp;have HA:=aa ha;clear ha
  by_cases hlt:k<g.F9.length
  ·obtain ⟨v,hv⟩:=aj g.F9 k hlt
   obtain ⟨b,off,us,rfl,hob,hbw,hul,hvs,hcv⟩:=HG.out.elem hv;have hvm:=List.mem_of_getElem? hv;have hvz:=HZ.out.vz v hvm;have hsl:=hvz.Gf;have HSZ:=aa hvz.seg;have HNV:=aa (HN.out v hvm);obtain ⟨tv,sv,rfl,htr,hsr⟩:=hvs;obtain ⟨tp,tc,rfl,_,_⟩:=htr.cap;obtain ⟨sp,sc,rfl,hsc1,hsc2⟩:=hsr.cap;have hbk:wr.heap[b]?=w.heap[b]?:=hB.block b hbw;have q0:=bK hbk (hcv 0 _ rfl);have q1:=ai hbk (hcv 1 _ rfl);have q2:=ai hbk (hcv 2 _ rfl);have q3:=ai hbk (hcv 3 _ rfl);have q4:=ai hbk (hcv 4 _ rfl);have q5:=ai hbk (hcv 5 _ rfl);have HV:=aa hv;clear hv;have HSR:=aa hsr;clear hcv hul hbk htr hsr hvz hvm;have hA:=ae wr (.cells #[.string v.name,.int .u64 v.id,.bool v.hidden,.bool v.ro,.slice tp v.tags.length tc,.slice sp v.Gf.length sc] 55);have HB1:=aa (hB.trans (hA.mono hB.size));have HP1:=aa (HP.out.block (hA.block _ HP.out.lt));have HA1:=aa (HA.out.block (hA.block _ HA.out.lt));clear hA
   go_upto_region 6 with (fail)
   clear q0 q1 q2 q3 q4 q5;generalize hW1:World.alloc wr _=W1 at *;generalize hBv:wr.heap.size=Bv at *;clear hW1 hBv hB HP HA
   go_loopw [31] (fun i wi=>∃ j:Nat,j≤v.Gf.length∧i=.int .i64 j∧Below w.heap.size w wi∧gm wi w.heap.size (dA (bW g.F9 k j v) false)∧gm wi (w.heap.size+1) (dA (bW g.F9 k j v) true)) (fun i _=>v.Gf.length - (intOf i).toNat)
   case atStart=>exact ⟨0,Nat.zero_le _,rfl,HB1.out,by rw [eQ];exact HP1.out,by rw [eQ];exact HA1.out⟩
   case round =>
    clear HB1 HP1 HA1;obtain ⟨j,hj,rfl,hB,hp,ha⟩:=hrel;have HP:=aa hp;clear hp;have HA:=aa ha;clear ha
    by_cases hlt2:j<v.Gf.length
    ·obtain ⟨s,hs⟩:=aj v.Gf j hlt2
     obtain ⟨b2,off2,us2,hsp,hob2,hbw2,hul2,hvs2,hcv2⟩:=HSR.out.elem hs;subst hsp;have HSV:=aa hvs2;have hsm:=List.mem_of_getElem? hs;have hsz1:=(HSZ.out s hsm).1;have HNS:=aa (HNV.out s hsm);have HSP:=aa (jB g.F9 k j v s HV.out hs);have HPS:=aa (fG g.F9 k j v s hs);obtain ⟨av,stv,rfl,har,hst⟩:=hvs2;obtain ⟨ap,ac,rfl,_,_⟩:=har.cap;obtain ⟨stp,stc,rfl,_,_⟩:=hst.cap;have hbk2:wr.heap[b2]?=w.heap[b2]?:=hB.block b2 hbw2;have q0:=bK hbk2 (hcv2 0 _ rfl);have q1:=ai hbk2 (hcv2 1 _ rfl);have q2:=ai hbk2 (hcv2 2 _ rfl);have q3:=ai hbk2 (hcv2 3 _ rfl);have q4:=ai hbk2 (hcv2 4 _ rfl);have q5:=ai hbk2 (hcv2 5 _ rfl);have q6:=ai hbk2 (hcv2 6 _ rfl);have q7:=ai hbk2 (hcv2 7 _ rfl);have q8:=ai hbk2 (hcv2 8 _ rfl);have q9:=ai hbk2 (hcv2 9 _ rfl);have q10:=ai hbk2 (hcv2 10 _ rfl);clear hs hsm hcv2 hul2 hbk2 har hst;have HBs:=aa (heap_alloc_new wr (.cells #[.int .i64 s.start,.int .i64 s.length,.int .i64 s.kind,.slice ap s.Ga.length ac,.int .i64 s.chunk,.slice stp s.stale.length stc,.string s.log,.string s.pool,.int .i64 s.device,.int .i64 s.mode,.int .i64 s.done] 79));have hA:=ae wr (.cells #[.int .i64 s.start,.int .i64 s.length,.int .i64 s.kind,.slice ap s.Ga.length ac,.int .i64 s.chunk,.slice stp s.stale.length stc,.string s.log,.string s.pool,.int .i64 s.device,.int .i64 s.mode,.int .i64 s.done] 79);have HB2:=aa (hB.trans (hA.mono hB.size));have hPl:=HP.out.lt;have hAl:=HA.out.lt;have HP2:=aa (HP.out.block (hA.block _ hPl));have HA2:=aa (HA.out.block (hA.block _ hAl));clear hA
     go_wp2_with fail
     clear q0 q1 q2 q3 q4 q5 q6 q7 q8 q9 q10;generalize hW2:World.alloc wr _=W2 at *;generalize hBs:wr.heap.size=Bs at *;clear hW2 hBs hB HP HA;refine (kN (ok:=ok) s false _ W2 (bC.moves.mv (Mv.of HB2.out) HSV.out) hsz1).mono ?_;rintro e w3 ⟨uv,rfl,how,hb3⟩;have hW2z:Bs<W2.heap.size:=lt_of_block HBs.out;have hrd:=how.rd (ok:=fun q=>W2.heap.size≤q) (fun q e=>(World.ownsRow.lt how q e).1);obtain ⟨up,uc,rfl,huc1,huc2⟩:=hrd.cap;have HRD:=aa hrd;clear hrd how;have HB3:=aa (HB2.out.trans (hb3.mono HB2.out.size));have HP3:=aa (HP2.out.block (hb3.block _ HP2.out.lt));have HA3:=aa (HA2.out.block (hb3.block _ HA2.out.lt));have HBs3:=aa ((hb3.block _ hW2z).trans HBs.out);clear hb3 HB2 HP2 HA2 HBs;have HLN:=aa (HNS.out false);have hle:=wu HSP.out false;have hle1:=HU.out false;generalize hL:dD s false=L at *
     go_wp2_with fail
     go_loopw [38] (fun i wi=>∃ m:Nat,m≤L.length∧i=.int .i64 m∧Mod (fun q=>q=w.heap.size) w3 wi∧gm wi (w.heap.size) (dA (bW g.F9 k j v) false++L.take m)) (fun i _=>L.length - (intOf i).toNat)
     case atStart=>exact ⟨0,Nat.zero_le _,rfl,Mod.refl _ _,by rw [List.take_zero,List.append_nil];exact HP3.out⟩
     case round =>
      obtain ⟨m,hm,rfl,hmod,hcnt⟩:=hrel;have HMOD:=aa hmod;clear hmod;have HCNT:=aa hcnt;clear hcnt
      by_cases hlt3:m<L.length
      ·obtain ⟨x,hx⟩:=aj L m hlt3
       obtain ⟨bu,ou,uu,rfl,hou,hbu,hulu,hvu,hcu⟩:=HRD.out.elem hx;obtain rfl:uu=_:=hvu;have q0:=(HMOD.out.cell (p:=⟨bu,ou+m*1+0,none⟩) hbu (by show ¬ bu=_;omega)).trans (hcu 0 _ rfl);rw [Nat.mul_one,Nat.add_zero] at q0;have hxs:=HLN.out x (List.mem_of_getElem? hx);have hll:(dA (bW g.F9 k j v) false++L.take m).length≤1000000:=by rw [List.length_append,List.length_take];omega
       have hcl:=Ag (dA (bW g.F9 k j v) false++L.take m) x;have hlk:=gm.look HCNT.out x hxs;obtain ⟨w',hst,hc',hg',hz'⟩:=gm.store HCNT.out hll x hxs;have HC':=aa hc';clear hc';have HX:=aa (take_snoc' L m x hx);have HM':=aa (HMOD.out.trans (Mod.grown hg') (fun i e=>.inl e));clear hcu hulu hx hg' hz';generalize iJ _ x=c at *;go_wp2;go_roundw
       case rel=>exact ⟨m+1,by omega,by go_num,HM'.out,by rw [HX.out,← List.append_assoc];exact HC'.out⟩
       case measure=>simp [intOf];omega
      ·obtain rfl:m=L.length:=by omega
       rw [List.take_length] at HCNT;have HW:=aa (HB3.out.trans ((HMOD.out.below (B:=w.heap.size) (by have:=HB3.out.size;omega) (fun q e=>by omega))));have HA4:=aa (HA3.out.block (HMOD.out.block _ HA3.out.lt (by omega)));have hBsz:=lt_of_block HBs3.out;have HBs4:=aa ((HMOD.out.block _ hBsz (by omega)).trans HBs3.out);have HSU:Hid (dA (bW g.F9 k (j+1) v) false=dA (bW g.F9 k j v) false++L):=aa (by rw [HPS.out,qW,hL]);have HP4:=aa HCNT.out;clear HMOD HCNT HRD HLN hle hle1 HB3 HP3 HA3 HBs3 hlt3 hm hL;generalize dA (bW g.F9 k j v) false++L=LF at *
       have sL:∀ (i:Nat) (z:Value),[.int .i64 s.start,.int .i64 s.length,.int .i64 s.kind,.slice ap s.Ga.length ac,.int .i64 s.chunk,.slice stp s.stale.length stc,.string s.log,.string s.pool,.int .i64 s.device,.int .i64 s.mode,.int .i64 s.done][i]?=some z→wr.cell? ⟨Bs,i,none⟩=some z:=fun i z hz=>by
        simp only [World.cell?,HBs4.out];simpa using hz
       have s0:=sL 0 _ rfl;have s1:=sL 1 _ rfl;have s2:=sL 2 _ rfl;have s3:=sL 3 _ rfl;have s4:=sL 4 _ rfl;have s5:=sL 5 _ rfl;have s6:=sL 6 _ rfl;have s7:=sL 7 _ rfl;have s8:=sL 8 _ rfl;have s9:=sL 9 _ rfl;have s10:=sL 10 _ rfl;clear sL
       go_wp2_with fail
       clear s0 s1 s2 s3 s4 s5 s6 s7 s8 s9 s10;refine (kN (ok:=ok) s true _ wr (bC.moves.mv (Mv.of HW.out) HSV.out) hsz1).mono ?_;rintro e w5 ⟨uv,rfl,how,hb5⟩;have hWz:=HW.out.size;have hrd:=how.rd (ok:=fun q=>wr.heap.size≤q) (fun q e=>(World.ownsRow.lt how q e).1);obtain ⟨up',uc',rfl,huc1',huc2'⟩:=hrd.cap;have HRD:=aa hrd;clear hrd how;have hAl4:=HA4.out.lt;have HB5:=aa (HW.out.trans (hb5.mono HW.out.size));have HP5:=aa (HP4.out.block (hb5.block _ HP4.out.lt));have HA5:=aa (HA4.out.block (hb5.block _ HA4.out.lt));clear hb5 HW HP4 HA4 HBs4;have HLN:=aa (HNS.out true);have hle:=wu HSP.out true;have hle1:=HU.out true;generalize hL:dD s true=L at *
       go_wp2_with fail
       go_loopw [50] (fun i wi=>∃ m:Nat,m≤L.length∧i=.int .i64 m∧Mod (fun q=>q=w.heap.size+1) w5 wi∧gm wi (w.heap.size+1) (dA (bW g.F9 k j v) true++L.take m)) (fun i _=>L.length - (intOf i).toNat)
       case atStart=>exact ⟨0,Nat.zero_le _,rfl,Mod.refl _ _,by rw [List.take_zero,List.append_nil];exact HA5.out⟩
       case round =>
        obtain ⟨m,hm,rfl,hmod,hcnt⟩:=hrel;have HMOD:=aa hmod;clear hmod;have HCNT:=aa hcnt;clear hcnt
        by_cases hlt3:m<L.length
        ·obtain ⟨x,hx⟩:=aj L m hlt3
         obtain ⟨bu,ou,uu,rfl,hou,hbu,hulu,hvu,hcu⟩:=HRD.out.elem hx;obtain rfl:uu=_:=hvu;have q0:=(HMOD.out.cell (p:=⟨bu,ou+m*1+0,none⟩) hbu (by show ¬ bu=_;omega)).trans (hcu 0 _ rfl);rw [Nat.mul_one,Nat.add_zero] at q0;have hxs:=HLN.out x (List.mem_of_getElem? hx);have hll:(dA (bW g.F9 k j v) true++L.take m).length≤1000000:=by rw [List.length_append,List.length_take];omega
         have hcl:=Ag (dA (bW g.F9 k j v) true++L.take m) x;have hlk:=gm.look HCNT.out x hxs;obtain ⟨w',hst,hc',hg',hz'⟩:=gm.store HCNT.out hll x hxs;have HC':=aa hc';clear hc';have HX:=aa (take_snoc' L m x hx);have HM':=aa (HMOD.out.trans (Mod.grown hg') (fun i e=>.inl e));clear hcu hulu hx hg' hz';generalize iJ _ x=c at *;go_wp2;go_roundw
         case rel=>exact ⟨m+1,by omega,by go_num,HM'.out,by rw [HX.out,← List.append_assoc];exact HC'.out⟩
         case measure=>simp [intOf];omega
        ·obtain rfl:m=L.length:=by omega
         rw [List.take_length] at HCNT;have HB6:=aa (HB5.out.trans ((HMOD.out.below (B:=w.heap.size) (by have:=HB5.out.size;omega) (fun q e=>by omega))));have HP6:=aa (HP5.out.block (HMOD.out.block _ HP5.out.lt (by omega)));have HSU2:Hid (dA (bW g.F9 k (j+1) v) true=dA (bW g.F9 k j v) true++L):=aa (by rw [HPS.out,qW,hL]);have HA6:=aa HCNT.out;go_wp2;go_roundw
         case rel=>exact ⟨j+1,by omega,by go_num,HB6.out,by rw [HSU.out];exact HP6.out,by rw [HSU2.out];exact HA6.out⟩
         case measure=>simp [intOf];omega
    ·obtain rfl:j=v.Gf.length:=by omega
     have HP3:Hid (gm wr w.heap.size (dA (aA (g.F9.take (k+1))) false)):=aa (by rw [← fJ g.F9 k v HV.out];exact HP.out);have HA3:Hid (gm wr (w.heap.size+1) (dA (aA (g.F9.take (k+1))) true)):=aa (by rw [← fJ g.F9 k v HV.out];exact HA.out);have HB3:=aa hB;clear HP HA hB;go_wp2;go_roundw
     case rel=>exact ⟨k+1,by omega,by go_num,HB3.out,HP3.out,HA3.out⟩
     case measure=>simp [intOf];omega
  ·obtain rfl:k=g.F9.length:=by omega
   rw [List.take_length] at HP HA;have HB0:=aa hB;clear hB;obtain ⟨-,-,-,-,-,-,-,g7,-⟩:=bX.cells (sm:=sm) ((HB0.out.block bc hbcl).trans HCB.out);have HUR:Hid (rY g=iM (yt g) g.F9):=aa rfl;go_wp2;clear g7
   go_loopw [67] (fun i wi=>∃ m:Nat,m≤g.F9.length∧i=.int .i64 m∧Below wr.heap.size wr wi∧rY g=iM (yt g) (g.F9.drop m)) (fun i _=>g.F9.length - (intOf i).toNat)
   case atStart=>exact ⟨0,Nat.zero_le _,rfl,Below.refl _ _,HUR.out⟩
   case round =>
    obtain ⟨m,hm,rfl,hb,hr⟩:=hrel;have HBX:=aa hb;clear hb;have HRR:=aa hr;clear hr
    by_cases hlt4:m<g.F9.length
    ·obtain ⟨v,hv⟩:=aj g.F9 m hlt4
     obtain ⟨b,off,us,rfl,hob,hbw,hul,hvs,hcv⟩:=HG.out.elem hv;have HNM:=aa (HVN.out v (List.mem_of_getElem? hv));obtain ⟨tv,sv,rfl,htr,hsr⟩:=hvs;obtain ⟨tp,tc,rfl,_,_⟩:=htr.cap;obtain ⟨sp,sc,rfl,hsc1,hsc2⟩:=hsr.cap;have hbk:wr.heap[b]?=w.heap[b]?:=(HBX.out.block b (Nat.lt_of_lt_of_le hbw HB0.out.size)).trans (HB0.out.block b hbw);have q0:=bK hbk (hcv 0 _ rfl);have q1:=ai hbk (hcv 1 _ rfl);have q2:=ai hbk (hcv 2 _ rfl);have q3:=ai hbk (hcv 3 _ rfl);have q4:=ai hbk (hcv 4 _ rfl);have q5:=ai hbk (hcv 5 _ rfl);have HF:=aa (HRR.out.trans (tC hv));clear hv hcv hul hbk htr hsr HRR;have hA:=ae wr (.cells #[.string v.name,.int .u64 v.id,.bool v.hidden,.bool v.ro,.slice tp v.tags.length tc,.slice sp v.Gf.length sc] 55);have HBv:=aa (heap_alloc_new wr (.cells #[.string v.name,.int .u64 v.id,.bool v.hidden,.bool v.ro,.slice tp v.tags.length tc,.slice sp v.Gf.length sc] 55));have HB4:=aa (HBX.out.trans (hA.mono HBX.out.size));clear hA
     go_upto_region 23 with (fail)
     clear q0 q1 q2 q3 q4 q5;generalize hW1:World.alloc wr _=W1 at *;generalize hBv:wr.heap.size=Bv at *;clear hW1 hBv HBX;have hla:=gm.look (HA.out.block (HB4.out.block _ HA.out.lt)) v.name HNM.out;have hlp:=gm.look (HP.out.block (HB4.out.block _ HP.out.lt)) v.name HNM.out;have HUE:Hid (yt g v=if v.hidden then (if iJ (dA (aA g.F9) true) v.name=1 then 0 else 16) else (if iJ (dA (aA g.F9) false) v.name=0 then 0 else 16)):=aa rfl;have n0:W1.cell? ⟨Bv,0,none⟩=some (.string v.name):=by simp [World.cell?,HBv.out]
     have n2:W1.cell? ⟨Bv,2,none⟩=some (.bool v.hidden):=by simp [World.cell?,HBv.out]
     generalize iJ (dA (aA g.F9) true) v.name=c1 at *;generalize iJ (dA (aA g.F9) false) v.name=c2 at *;have HBE:=aa (HB0.out.trans (HB4.out.mono HB0.out.size))
     by_cases hbad:yt g v=0
     ·have HX:=aa hbad;clear hbad
      rw [if_pos HX.out] at HF;cases hh:v.hidden with
      | true =>
       rw [hh] at n2 HUE
       have h1:c1=1:=by
        have:=HUE.out.symm.trans HX.out;simp only [if_true] at this;split at this
        ·assumption
        ·cases this
       have hx1:((c1:Int) != 1)=false:=by rw [h1];rfl
       have H1:=aa h1;clear h1;have HH:=aa hh;clear hh;clear HUE hlp;go_wp2;go_roundw
       case rel=>exact ⟨m+1,by omega,by go_num,HB4.out,HF.out⟩
       case measure=>simp [intOf];omega
      | false =>
       rw [hh] at n2 HUE
       have h1:c2=0:=by
        have:=HUE.out.symm.trans HX.out;simp only [Bool.false_eq_true,if_false] at this;split at this
        ·assumption
        ·cases this
       have hx1:decide (0<c2)=false:=by rw [h1];rfl
       have H1:=aa h1;clear h1;have HH:=aa hh;clear hh;clear HUE hla;go_wp2;go_roundw
       case rel=>exact ⟨m+1,by omega,by go_num,HB4.out,HF.out⟩
       case measure=>simp [intOf];omega
     ·have HX:=aa hbad;clear hbad
      rw [if_neg HX.out] at HF;cases hh:v.hidden with
      | true =>
       rw [hh] at n2 HUE;have h1:¬ c1=1:=fun e=>HX.out (by rw [HUE.out,if_pos rfl,if_pos e]);have hx1:((c1:Int) != 1)=true:=by simp;omega
       have h16:yt g v=16:=by rw [HUE.out,if_pos rfl,if_neg h1]
       rw [h16] at HF;have H1:=aa h1;clear h1;have H16:=aa h16;clear h16;have HH:=aa hh;clear hh;clear HUE hlp;go_wp2;go_ret2;exact ⟨by rw [HF.out];rfl,HBE.out⟩
      | false =>
       rw [hh] at n2 HUE;have h1:¬ c2=0:=fun e=>HX.out (by rw [HUE.out,if_neg (by simp),if_pos e]);have hx1:decide (0<c2)=true:=by simp;omega
       have h16:yt g v=16:=by rw [HUE.out,if_neg (by simp),if_neg h1]
       rw [h16] at HF;have H1:=aa h1;clear h1;have H16:=aa h16;clear h16;have HH:=aa hh;clear hh;clear HUE hla;go_wp2;go_ret2;exact ⟨by rw [HF.out];rfl,HBE.out⟩
    ·obtain rfl:m=g.F9.length:=by omega
     have HF:Hid (rY g=(⟨#[]⟩,0)):=aa (by rw [HRR.out,List.drop_length];rfl);have HBE:=aa (HB0.out.trans (HBX.out.mono HB0.out.size));go_wp2;go_ret2;exact ⟨by rw [HF.out];rfl,HBE.out⟩
end Go.Proofs.YtjdfihglehfelaaGreatDoor
