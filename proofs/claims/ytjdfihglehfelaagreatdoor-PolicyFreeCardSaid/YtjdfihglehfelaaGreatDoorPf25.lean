/- Lemmas: ModZc, ModY. -/
import Derived.Test.YtjdfihglehfelaaGreatDoorPf24
set_option maxRecDepth 100000
set_option maxHeartbeats 32000000
set_option linter.all false
namespace Go.Proofs.YtjdfihglehfelaaGreatDoor
open Go.Proofs.Tryz
open Go.RowKit Go.Maps Go.Shelf
theorem DI:(prog.info? 4).map (fun i=>(i.zero,i.size,i.bytes))=some (some (.bool false),1,1):=by kernel_rfl
theorem xR (d:az):(bz [] d).map Value.bool=List.replicate d.Gc.toNat (.bool false):=by
 refine Bk fun i=>?_;simp only [rI,List.getElem?_replicate]
 by_cases h:i<d.Gc.toNat
 ·rw [gU h,aw h]
  rfl
 ·rw [bh h,xj (by rw [gP];omega)]
  rfl
theorem AJ (d:az)(E:Nat)(hE:d.Gc.toNat=E)(h:E<=1000000)(w:World) :
  (Instr.makeSlice 195 (.int .i64 (E:Int)) (.int .i64 (E:Int))).run prog w=.ok (.slice (some ⟨w.heap.size,0,none⟩) E E) (w.alloc (.cells ((bz [] d).map Value.bool).toArray 4)):=by
 obtain ⟨i0,hi,hz0,hz1,hz2⟩:=ei DI;have:=run_makeSlice w 195 4 i0 _ underlying195 hi hz0 .i64 .i64 (E:Int) (E:Int) (by omega) (by omega) (by rw [hz1];simp;omega) (by rw [hz2];omega) (by omega);rw [hz1] at this;simp only [Int.toNat_natCast,fp] at this
 have e:madeCells (Value.bool false).cells E=(List.replicate E (Value.bool false)).toArray:=by
  unfold madeCells;refine Array.ext (by simp) fun i h1 h2=>?_;simp [Value.cells,Nat.mod_one]
 rw [this,xR,hE,e]
structure NJ (B:Nat)(w:World)(bm Bt:Nat)(L:List (az × Nat)):Prop where
 m:uF (fun b=>b<B) w L bm
 t:kK w L []
 c:w.cell? ⟨Bt,0,none⟩=some (.map (some bm))
 n:∀ p∈L,p.2≠Bt
 bt:Bt<w.heap.size
theorem NJ.below {B:Nat}{w w':World}{bm Bt:Nat}{L:List (az × Nat)}(h:NJ B w bm Bt L)(hb:Below w.heap.size w w'):NJ B w' bm Bt L :=
 ⟨⟨h.m.map.block (hb.block _ h.m.map.lt),h.m.nb,h.m.nn,fun p hp=>⟨cC (h.m.lt p hp).1 hb.size,(h.m.lt p hp).2⟩,h.m.de⟩,h.t.below hb,(hb.cell (p:=⟨Bt,0,none⟩) h.bt).trans h.c,h.n,cC h.bt hb.size⟩
theorem NJ.snoc {B:Nat}{w W w':World}{bm Bt:Nat}{L:List (az × Nat)}{d:az}{E:Nat}(h:NJ B w bm Bt L)(hb:Below w.heap.size w W)(hB:B<=W.heap.size)(hd:0<=d.Gc/\d.Gc<=1000000)(hE:d.Gc.toNat=E)(hn:∀ p∈L,¬ p.1.name=d.name)
  (hm:bi prog 9 w' bm (L.length+1) (upd (vG L) (.string d.name) (.slice (some ⟨W.heap.size,0,none⟩) E E))) (hg:(W.alloc (.cells ((bz [] d).map Value.bool).toArray 4)).grownBy w' (some bm)) (hz:w'.heap.size=(W.alloc (.cells ((bz [] d).map Value.bool).toArray 4)).heap.size):NJ B w' bm Bt (L++[(d,W.heap.size)]):=by
 have hA:=ae W (.cells ((bz [] d).map Value.bool).toArray 4);have h1:=(h.below hb).below hA;have Hv:=h.m.map.lt;have hbW:=cC Hv hb.size;have mA:=hb.size;have MC:=h.bt;have hzW:(W.alloc (.cells ((bz [] d).map Value.bool).toArray 4)).heap.size=W.heap.size+1:=by simp
 have gh:=b9 W (.cells ((bz [] d).map Value.bool).toArray 4);have hmap:(L++[(d,W.heap.size)]).map (·.2)=L.map (·.2)++[W.heap.size]:=by simp
 have hmap2:(L++[(d,W.heap.size)]).map (·.1.name)=L.map (·.1.name)++[d.name]:=by simp
 generalize hW1:World.alloc W _=W1 at *
 have hlt:∀ p∈L++[(d,W.heap.size)],p.2<w'.heap.size/\¬ p.2<B/\p.2≠bm:=fun p hp=>by
  rcases List.mem_append.1 hp with hp | hp
  ·obtain ⟨a,b,c⟩:=h1.m.lt p hp
   exact ⟨by omega,b,c⟩
  ·obtain rfl:=List.mem_singleton.1 hp
   exact ⟨by show W.heap.size<_;omega,by show ¬ W.heap.size<B;omega,by show W.heap.size≠bm;omega⟩
 have sy:∀ b,b<W1.heap.size->b≠bm->w'.heap[b]?=W1.heap[b]?:=fun b hb hne=>oJ hg hb hne;have VV:=h1.bt
 have Rw:Bt≠bm:=by
  rintro rfl
  exact absurd h.c (by
   obtain ⟨D,⟨es,clock,e,_⟩,_⟩:=h.m.map
   simp [World.cell?,e])
 refine ⟨⟨?_,?_,?_,hlt,?_⟩,?_,?_,?_,by omega⟩
 ·rw [cD]
  refine hm.congr fun key _ _=>?_;rw [Av L d _ hn key,hE]
 ·rw [hmap,List.nodup_append]
  refine ⟨h.m.nb,by simp,fun a ha b hb=>?_⟩;obtain ⟨p,hp,rfl⟩:=List.mem_map.1 ha;obtain rfl:=List.mem_singleton.1 hb;have:=(h.m.lt p hp).1;omega
 ·rw [hmap2,List.nodup_append]
  refine ⟨h.m.nn,by simp,fun a ha b hb=>?_⟩;obtain ⟨p,hp,rfl⟩:=List.mem_map.1 ha;obtain rfl:=List.mem_singleton.1 hb;exact hn p hp
 ·intro p hp
  rcases List.mem_append.1 hp with hp | hp
  ·exact h.m.de p hp
  ·obtain rfl:=List.mem_singleton.1 hp
   exact hd
 ·intro p hp
  rcases List.mem_append.1 hp with hp | hp
  ·have:=h1.m.lt p hp
   exact (sy _ this.1 this.2.2).trans (h1.t p hp)
  ·obtain rfl:=List.mem_singleton.1 hp
   exact (sy _ (by show W.heap.size<_;omega) (by show W.heap.size≠bm;omega)).trans gh
 ·exact (cd (a:=⟨Bt,0,none⟩) (sy Bt VV Rw)).trans h1.c
 ·intro p hp
  rcases List.mem_append.1 hp with hp | hp
  ·exact h.n p hp
  ·obtain rfl:=List.mem_singleton.1 hp
   show W.heap.size≠Bt;omega
theorem uF.mod {ok:Nat->Prop}{w w':World}{L:List (az × Nat)}{bm:Nat}(h:uF ok w L bm)(hm:cR (Gm L) w w'):uF ok w' L bm :=
 ⟨h.map.block (hm.block _ h.map.lt fun ⟨p,hp,e⟩=>(h.lt p hp).2.2 e),h.nb,h.nn,fun p hp=>⟨cC (h.lt p hp).1 hm.size,(h.lt p hp).2⟩,h.de⟩
theorem wm (pre:List (ay × aB))(v:ay)(s:aB):lU (pre++[(v,s)])=lU pre++dC (aX s) s.Ga:=by simp [lU]
theorem zn {Gb:List az}(h:(Gb.map (·.name)).Nodup){k:Nat}{d:az}(hd:Gb[k]?=some d){L:List (az × Nat)}(hL:L.map (·.1)=Gb.take k):∀ p∈L,¬ p.1.name=d.name:=fun p hp e=>by
 have h1:p.1∈Gb.take k:=by rw [<- hL];exact List.mem_map_of_mem hp
 obtain ⟨i,hi,Yv⟩:=List.mem_iff_getElem.1 h1;rw [ey] at hi;rw [List.getElem_take] at Yv;obtain ⟨hk,KM⟩:=List.getElem?_eq_some_iff.1 hd;have Ua:=List.pairwise_iff_getElem.1 h i k (by rw [fW];omega) (by rw [fW];omega) (by omega);rw [List.getElem_map,List.getElem_map,Yv,KM] at Ua;exact Ua e
theorem Cs (key:Value):vG [] key=none:=by
 unfold vG;split <;> rfl
structure FL (g:af):Prop where
 nd:(g.Gb.map (·.name)).Nodup
 ns:∀ d∈g.Gb,d.name.size<=maxLen
 dl:g.Gb.length<=1000000
 sg:∀ v∈g.F9,∀ s∈v.Gf,wM s/\1<=aX s/\(∀ a∈s.Ga,a.vol=false->a.on.size<=maxLen/\∃ d,bH g.Gb a.on=some d/\0<=a.start/\aX s<=d.Gc - a.start)/\s.pool.size<=maxLen/\(Lit.int .i64 s.device).wf=true
 pl:(aA g.F9).length<=1000000
attribute [local go_sem] run_makeMap_plain
theorem vM {ok:Nat->Prop}(g:af)(a:bN)(bc:Nat)(w:World)(kB:gY w bc g a)(hg:dN ok w g a)(hf:UQ g)(ho:FL g) :
  Calls prog 89 #[.pointer (some ⟨bc,0,none⟩)] w (gX (pE g) w):=by
 have jt:=kB.lt;have I3:=aa kB;obtain ⟨sm,hblk,_⟩:=kB;have nw:Hid (bX w bc sm g a):=aa hblk;clear hblk;have Yw:=aa hg;have HG:=aa hg.Gb;have HF:=aa hf;have HO:=aa ho;have CD:=ho.dl;obtain ⟨vp,vc,sT,Js,Jt⟩:=hg.Gb.cap;clear hg hf ho;injection sT with e1 e2 e3
 obtain ⟨ID,IH,II,G3,G4,Ge,Hb,Hc⟩:=a;dsimp only at e1 e2 e3;subst e1;subst e3;clear e2;have hA1:=ae w (.map #[] 0);have hA2:=ae (w.alloc (.map #[] 0)) (.cells #[.map (some w.heap.size)] 194);have hm1:=bi.made prog 9 w;have hN2:=b9 (w.alloc (.map #[] 0)) (.cells #[.map (some w.heap.size)] 194);rw [cW] at hN2;have Nk:=aa hN2;clear hN2;have DD:=aa (hm1.block (hA2.block _ hm1.lt));have cm:=aa (hA1.trans (hA2.mono hA1.size));clear hA1 hA2 hm1;obtain ⟨-,-,-,-,-,-,g6,-,-⟩:=bX.cells (sm:=sm) ((cm.o.block bc jt).trans nw.o);go_enter func89,ntmps89
 go_upto_region 3 with (fail)
 generalize hW1:World.alloc (World.alloc w _) _=W1 at *;clear hW1 g6;have AG:=aa (show NJ w.heap.size W1 w.heap.size (w.heap.size+1) [] from ⟨⟨DD.o.congr (fun key _ _=>Cs key),by simp,by simp,fun p hp=>absurd hp (by simp),fun p hp=>absurd hp (by simp)⟩,fun p hp=>absurd hp (by simp),cr Nk.o _ _ rfl,fun p hp=>absurd hp (by simp),aq Nk.o⟩);clear DD Nk
 go_loopw [17] (fun i wr=>∃ k:Nat,k<=g.Gb.length/\i=.int .i64 k/\Below w.heap.size w wr/\∃ L:List (az × Nat),L.map (·.1)=g.Gb.take k/\NJ w.heap.size wr w.heap.size (w.heap.size+1) L) (fun i _=>g.Gb.length - (intOf i).toNat)
 case atStart=>exact ⟨0,cg _,rfl,cm.o,[],by simp,AG.o⟩
 case round =>
  clear cm AG;obtain ⟨k,hk,rfl,hB,L,hL,Rx⟩:=hrel;have HB:=aa hB;clear hB;have HL:=aa hL;clear hL;have AG:=aa Rx;clear Rx
  by_cases hlt:k<g.Gb.length
  ·obtain ⟨d,hd⟩:=aj g.Gb k hlt
   obtain ⟨b,off,us,rfl,gR,cX,ez,eE,hcv⟩:=HG.o.elem hd;obtain ⟨tv,rfl,ew⟩:=eE;obtain ⟨tp,tc,rfl,_,_⟩:=ew.cap;have cT:wr.heap[b]?=w.heap[b]?:=HB.o.block b cX;obtain ⟨q0,q1,q2,q3,q4,q5,q6⟩:=OD cT hcv;have Ni:=ct hd;have vu:=HF.o.de d Ni;have Kl:=HO.o.ns d Ni;have Qm:=aa (zn HO.o.nd hd HL.o);have JO:Hid (∀ b:Nat,(L++[(d,b)]).map (·.1)=g.Gb.take (k+1)):=aa (fun b=>by rw [gl,HL.o,take_snoc' g.Gb k d hd];rfl);clear hd hcv ez cT ew Ni;have kj:=aa vu;clear vu;have hA:=ae wr (.cells #[.string d.name,.int .u64 d.id,.int .i64 d.first,.int .i64 d.Gc,.bool d.closed,.bool d.missing,.slice tp d.tags.length tc] 47);have sX:=aa (b9 wr (.cells #[.string d.name,.int .u64 d.id,.int .i64 d.first,.int .i64 d.Gc,.bool d.closed,.bool d.missing,.slice tp d.tags.length tc] 47));have cJ:=aa (HB.o.trans (hA.mono HB.o.size));have Pd:=aa (AG.o.below hA);have hz3:(wr.alloc (.cells #[.string d.name,.int .u64 d.id,.int .i64 d.first,.int .i64 d.Gc,.bool d.closed,.bool d.missing,.slice tp d.tags.length tc] 47)).heap.size=wr.heap.size+1:=by simp
   clear hA
   go_upto_region 5 with (fail)
   clear q0 q1 q2 q3 q4 q5 q6;generalize hW2:World.alloc wr _=W2 at *;generalize J6:wr.heap.size=Bd at *;clear hW2 HB AG J6;obtain ⟨E,hE⟩:∃ E:Nat,d.Gc=E:=⟨d.Gc.toNat,by have:=kj.o;omega⟩;have Yx:d.Gc.toNat=E:=by omega
   have hEb:E<=1000000:=by have:=kj.o;omega
   have hS:∀ w':World,Below W2.heap.size W2 w'->(w'.cell? ⟨w.heap.size+1,0,none⟩=some (.map (some w.heap.size))/\w'.cell? ⟨Bd,0,none⟩=some (.string d.name)/\w'.cell? ⟨Bd,3,none⟩=some (.int .i64 (E:Int))):=fun w' e=>by
    have h2:=(e.block Bd (aq sX.o)).trans sX.o;rw [hE] at h2;exact ⟨(Pd.o.below e).c,cr h2 _ _ rfl,cr h2 _ _ rfl⟩
   have HS:=aa hS;clear hS hE;have qT:=aa Yx;clear Yx;have Lp:=aa hz3;clear hz3;refine aL (fun w'=>w'.cell? ⟨w.heap.size+1,0,none⟩=some (.map (some w.heap.size))/\w'.cell? ⟨Bd,0,none⟩=some (.string d.name)/\w'.cell? ⟨Bd,3,none⟩=some (.int .i64 (E:Int))) 6 [] (by kernel_rfl) (HS.o _ (bj _ _).drew) (fun hHeld=>?_);refine fS 0 hHeld ?_;try simp only [ak];refine fS 1 hHeld ?_;try simp only [ak];refine fS 2 hHeld ?_;try simp only [ak];refine fS 3 hHeld ?_;try simp only [ak];refine fS 4 hHeld ?_;try simp only [ak];refine lR 5 fun K hK=>?_;have Jc:=AJ d E qT.o hEb W2.drew;go_simp;clear Jc;have hA4:=ae W2.drew (.cells ((bz [] d).map Value.bool).toArray 4);refine hK.o _ _ (HS.o _ ((bj W2.heap.size W2).drew.trans (hA4.mono (by simp)))) ?_;clear hK K hHeld;refine aP (by kernel_rfl) rfl ?_;simp only [cQ,cL];have hb4:Below W2.heap.size W2 (W2.drew.alloc (.cells ((bz [] d).map Value.bool).toArray 4)):=(bj W2.heap.size W2).drew.trans (hA4.mono (by simp))
   have hLl:L.length<=1000000:=by
    have:=fj List.length HL.o;rw [fW,ey] at this;omega
   obtain ⟨w',hst,hm',hg',hz'⟩:=bi.store ((Pd.o.below hb4).m.map) oM underlying194 (rr hLl (by decide)) (gG d.name Kl) (.slice (some ⟨W2.heap.size,0,none⟩) E E);have VW:=aa (NJ.snoc Pd.o (W:=W2.drew) (bj W2.heap.size W2).drew cJ.o.size kj.o qT.o Qm.o hm' hg' hz');have Mt:Hid (Below w.heap.size w w'):=aa ((cJ.o.trans (hb4.mono cJ.o.size)).trans ((cR.grown hg').below (B:=w.heap.size) (cA cJ.o.size hb4.size) (fun q e=>by omega)));replace hst:(Instr.mapUpdate 194 (.map (some w.heap.size)) (.string d.name) (.slice (some ⟨W2.heap.size,0,none⟩) E E)).run prog (W2.alloc (.cells ((bz [] d).map Value.bool).toArray 4)).drew=.ok () w':=hst;clear hm' hg' hz' hb4 hA4;go_wp2;go_roundw
   case rel=>exact ⟨k+1,by omega,by go_num,Mt.o,_,JO.o _,VW.o⟩
   case measure=>simp [intOf];omega
  ·obtain rfl:k=g.Gb.length:=by omega
   rw [cI] at HL;have hlt3:w.heap.size+1<wr.heap.size:=AG.o.bt;have HE1:∃ r,r=bD CQ [] (aA g.F9):=⟨_,rfl⟩;obtain ⟨⟨p1,x1⟩,hr1⟩:=HE1;have Ja:=aa hr1;clear hr1
   go_wp2_with fail
   refine (wE (ok:=fun b=>ok b/\b<w.heap.size) (F:=Gm L) 152 [.pointer (some ⟨w.heap.size+1,0,none⟩)] (fun l W=>by go_simp) g _ bc CQ (fun pre W=>kK W L (lU pre)) wr (I3.o.below HB.o) (Yw.o.mv ⟨HB.o.size,fun b hb ho=>⟨⟨ho,hb⟩,HB.o.block b hb⟩⟩) HF.o.sz ?_ (fun _ _ _ h hb=>h.below hb) AG.o.t ?_).mono ?_
   ·rintro b ⟨p,hp,rfl⟩
    have:=AG.o.m.lt p hp;exact ⟨this.1,fun q=>this.2.1 q.2⟩
   ·intro pre v s post hp W u1 u2 hm hi hv hs
    obtain ⟨m1,m2⟩:=jZ hp;obtain ⟨f1,f2,f3,f4,f5⟩:=HO.o.sg v m1 s m2;have N9:=AG.o.m
    refine (sK (ok:=fun b=>ok b/\b<w.heap.size) L (lU pre) w.heap.size (w.heap.size+1) v s u1 u2 W ((hm.cell (p:=⟨w.heap.size+1,0,none⟩) AG.o.bt (fun ⟨p,hp,e⟩=>AG.o.n p hp e)).trans AG.o.c) (cC AG.o.bt hm.size)
     ((⟨N9.map,N9.nb,N9.nn,fun p hp=>⟨(N9.lt p hp).1,fun q=>(N9.lt p hp).2.1 q.2,(N9.lt p hp).2.2⟩,N9.de⟩:uF (fun b=>ok b/\b<w.heap.size) wr L w.heap.size).mod hm) AG.o.n hi hv hs f1 f2 (by rw [HL.o];exact f3)).mono ?_
    rintro e W' ⟨rfl,h2,h3⟩;refine ⟨rfl,h2,fun h0=>?_⟩;show kK W' L (lU (pre++[(v,s)]));rw [wm];refine h3 ?_;unfold CQ at h0;split at h0
    ·cases h0
    ·exact Bool.eq_false_iff.2 ‹_›
   ·rintro e w3 ⟨he,hm3,-⟩
    rw [<- Ja.o] at he;subst he;have cJ:Hid (Below w.heap.size w w3):=aa (HB.o.trans (hm3.below HB.o.size (fun b ⟨p,hp,e⟩=>by have:=(AG.o.m.lt p hp).2.1;omega)));have hlt4:wr.heap.size<=w3.heap.size:=hm3.size;clear hm3 AG HL HB
    by_cases hx:x1=0
    ·have qu:(x1 != 0)=false:=by simpa using hx
     have HR:Hid (pE g=bD BL [] (aA g.F9)):=aa (by unfold pE;rw [<- Ja.o,aw hx]);have HX:=aa hx;clear hx;have hA1:=ae w3 (.map #[] 0);have hA2:=ae (w3.alloc (.map #[] 0)) (.cells #[.map (some w3.heap.size)] 197);have hm1:=bi.made prog 199 w3;have hN2:=b9 (w3.alloc (.map #[] 0)) (.cells #[.map (some w3.heap.size)] 197);rw [cW] at hN2;have Nk:=aa hN2;clear hN2;have DD:=aa (hm1.block (hA2.block _ hm1.lt));have cm:=aa (hA1.trans (hA2.mono hA1.size));clear hA1 hA2 hm1
     go_wp2_with fail
     generalize hW4:World.alloc (World.alloc w3 _) _=W4 at *;clear hW4;have eI:=aa (cJ.o.trans (cm.o.mono cJ.o.size));have MC:=aq Nk.o;have mA:=cJ.o.size;refine (wE (ok:=fun b=>ok b/\b<w.heap.size) (F:=fun b=>b=w3.heap.size) 154 [.pointer (some ⟨w3.heap.size+1,0,none⟩)] (fun l W=>by go_simp) g _ bc BL (fun pre W=>bi prog 199 W w3.heap.size pre.length (iV pre)) W4 (I3.o.below eI.o) (Yw.o.mv ⟨eI.o.size,fun b hb ho=>⟨⟨ho,hb⟩,eI.o.block b hb⟩⟩) HF.o.sz ?_ (fun _ _ _ h hb=>h.block (hb.block _ h.lt)) ?_ ?_).mono ?_
     ·rintro b rfl
      exact ⟨DD.o.lt,fun q=>by have:=q.2;omega⟩
     ·refine DD.o.congr fun key _ _=>?_
      unfold iV;rw [bh (by simp)]
     ·intro pre v s post hp W u1 u2 hm hi hv hs
      obtain ⟨m1,m2⟩:=jZ hp;obtain ⟨f1,f2,f3,f4,f5⟩:=HO.o.sg v m1 s m2
      have hpl:pre.length<=1000000:=by
       have:=HO.o.pl;rw [hp,cD] at this;omega
      refine (sO (ok:=fun b=>ok b/\b<w.heap.size) pre w3.heap.size (w3.heap.size+1) v s u1 u2 W ((hm.cell (p:=⟨w3.heap.size+1,0,none⟩) MC (by show ¬ w3.heap.size+1=_;omega)).trans (by simp [World.cell?,Nk.o])) (cC MC hm.size) hi hpl hv hs f4 f5).mono ?_;rintro e W' ⟨rfl,h2,h3⟩;refine ⟨rfl,h2,fun h0=>?_⟩;show bi prog 199 W' w3.heap.size (pre++[(v,s)]).length (iV (pre++[(v,s)]));rw [cD];exact h3 h0
     ·rintro e w5 ⟨he,hm5,-⟩
      rw [<- HR.o] at he;subst he;have eK:Hid (Below w.heap.size w w5):=aa (eI.o.trans (hm5.below eI.o.size (fun b e=>by omega)));clear hm5;go_wp2;go_ret2;exact ⟨rfl,eK.o⟩
    ·have qu:(x1 != 0)=true:=by simpa using hx
     have HR:Hid (pE g=(p1,x1)):=aa (by unfold pE;rw [<- Ja.o,bh hx]);have HX:=aa hx;clear hx;go_wp2;go_ret2;exact ⟨by rw [HR.o];rfl,cJ.o⟩
end Go.Proofs.YtjdfihglehfelaaGreatDoor
namespace Go.Proofs.YtjdfihglehfelaaGreatDoor
open Go.Proofs.Tryz
open Go.RowKit Go.Maps Go.Shelf
theorem gm.nil {w:World}{b:Nat}(h:bi prog 9 w b 0 (fun _=>none)):gm w b []:=h.congr fun key _ _=>by
 unfold cntF;split
 ·simp [iJ]
 ·rfl
theorem gm.block {w w':World}{b:Nat}{l:List ByteArray}(h:gm w b l)(hb:w'.heap[b]?=w.heap[b]?):gm w' b l:=bi.block h hb
theorem gm.lt {w:World}{b:Nat}{l:List ByteArray}(h:gm w b l):b<w.heap.size:=bi.lt h
theorem Ag (l:List ByteArray)(s:ByteArray):iJ l s<=l.length:=List.countP_le_length
theorem wu {F9:List ay}{pre post:List (ay × aB)}{v:ay}{s:aB}(h:aA F9=pre++(v,s) :: post)(pool:Bool):(dA pre pool).length+(dD s pool).length<=(dA (aA F9) pool).length:=by
 rw [h];simp [dA]
attribute [local go_sem] run_makeMap_plain
theorem DC {ok:Nat->Prop}(g:af)(a:bN)(bc:Nat)(w:World)(kB:gY w bc g a)(hg:dN ok w g a)(hz:JT g)(hU:∀ pool,(dA (aA g.F9) pool).length<=1000000)
  (hN:∀ v∈g.F9,∀ s∈v.Gf,∀ pool,∀ x∈dD s pool,x.size<=maxLen) (hV:∀ v∈g.F9,v.name.size<=maxLen) :
  Calls prog 90 #[.pointer (some ⟨bc,0,none⟩)] w (gX (rY g) w):=by
 have jt:=kB.lt;obtain ⟨sm,hblk,_⟩:=kB;have nw:Hid (bX w bc sm g a):=aa hblk;clear hblk;have HG:=aa hg.F9;have HZ:=aa hz;have HU:=aa hU;clear hU;have HN:=aa hN;clear hN;have VX:=aa hV;clear hV;have mb:=hz.vl;obtain ⟨vp,vc,sT,Js,Jt⟩:=hg.F9.cap;clear hg hz;injection sT with e1 e2 e3
 obtain ⟨ID,IH,II,G3,G4,Ge,Hb,Hc⟩:=a;dsimp only at e1 e2 e3;subst e1;subst e3;clear e2;have hA1:=ae w (.map #[] 0);have hA2:=ae (w.alloc (.map #[] 0)) (.map #[] 0);have hm1:=bi.made prog 9 w;have hm2:=bi.made prog 9 (w.alloc (.map #[] 0));rw [cW] at hm2;have HP:=aa (gm.nil (hm1.block (hA2.block _ hm1.lt)));have HA:=aa (gm.nil hm2);have HB:=aa (hA1.trans (hA2.mono hA1.size));clear hA1 hA2 hm1 hm2;obtain ⟨-,-,-,-,-,-,-,g7,-⟩:=bX.cells (sm:=sm) ((HB.o.block bc jt).trans nw.o);go_enter func90,ntmps90
 go_upto_region 3 with (fail)
 generalize hW1:World.alloc (World.alloc w _) _=W1 at *;clear hW1 g7
 go_loopw [24] (fun i wr=>∃ k:Nat,k<=g.F9.length/\i=.int .i64 k/\Below w.heap.size w wr/\gm wr w.heap.size (dA (aA (g.F9.take k)) false)/\gm wr (w.heap.size+1) (dA (aA (g.F9.take k)) true)) (fun i _=>g.F9.length - (intOf i).toNat)
 case atStart=>exact ⟨0,cg _,rfl,HB.o,HP.o,HA.o⟩
 case round =>
  clear HB HP HA;obtain ⟨k,hk,rfl,hB,hp,ha⟩:=hrel;have HP:=aa hp;clear hp;have HA:=aa ha;clear ha
  by_cases hlt:k<g.F9.length
  ·obtain ⟨v,hv⟩:=aj g.F9 k hlt
   obtain ⟨b,off,us,rfl,gR,cX,ez,eE,hcv⟩:=HG.o.elem hv;have K8:=ct hv;have Ko:=HZ.o.vz v K8;have GF:=Ko.Gf;have Jq:=aa Ko.seg;have HNV:=aa (HN.o v K8);obtain ⟨tv,sv,rfl,ew,fL⟩:=eE;obtain ⟨tp,tc,rfl,_,_⟩:=ew.cap;obtain ⟨sp,sc,rfl,hsc1,hsc2⟩:=fL.cap;have cT:wr.heap[b]?=w.heap[b]?:=hB.block b cX;obtain ⟨q0,q1,q2,q3,q4,q5⟩:=NG cT hcv;have HV:=aa hv;clear hv;have JK:=aa fL;clear hcv ez cT ew fL Ko K8;have hA:=ae wr (.cells #[.string v.name,.int .u64 v.id,.bool v.hidden,.bool v.ro,.slice tp v.tags.length tc,.slice sp v.Gf.length sc] 55);have cU:=aa (hB.trans (hA.mono hB.size));have NY:=aa (HP.o.block (hA.block _ HP.o.lt));have Ub:=aa (HA.o.block (hA.block _ HA.o.lt));clear hA
   go_upto_region 6 with (fail)
   clear q0 q1 q2 q3 q4 q5;generalize hW1:World.alloc wr _=W1 at *;generalize JX:wr.heap.size=Bv at *;clear hW1 JX hB HP HA
   go_loopw [31] (fun i wi=>∃ j:Nat,j<=v.Gf.length/\i=.int .i64 j/\Below w.heap.size w wi/\gm wi w.heap.size (dA (bW g.F9 k j v) false)/\gm wi (w.heap.size+1) (dA (bW g.F9 k j v) true)) (fun i _=>v.Gf.length - (intOf i).toNat)
   case atStart=>exact ⟨0,cg _,rfl,cU.o,by rw [eQ];exact NY.o,by rw [eQ];exact Ub.o⟩
   case round =>
    clear cU NY Ub;obtain ⟨j,hj,rfl,hB,hp,ha⟩:=hrel;have HP:=aa hp;clear hp;have HA:=aa ha;clear ha
    by_cases hlt2:j<v.Gf.length
    ·obtain ⟨s,hs⟩:=aj v.Gf j hlt2
     obtain ⟨b2,off2,us2,hsp,I0,C2,B5,C3,hcv2⟩:=JK.o.elem hs;subst hsp;have KF:=aa C3;have hsm:=ct hs;have hsz1:=(Jq.o s hsm).1;have Yy:=aa (HNV.o s hsm);have Ug:=aa (jB g.F9 k j v s HV.o hs);have sY:=aa (fG g.F9 k j v s hs);obtain ⟨av,kp,rfl,gg,hst⟩:=C3;obtain ⟨ap,ac,rfl,_,_⟩:=gg.cap;obtain ⟨eN,eR,rfl,_,_⟩:=hst.cap;have AD:wr.heap[b2]?=w.heap[b2]?:=hB.block b2 C2;obtain ⟨q0,q1,q2,q3,q4,q5,q6,q7,q8,q9,q10⟩:=JG AD hcv2;clear hs hsm hcv2 B5 AD gg hst;have lj:=aa (b9 wr (.cells #[.int .i64 s.start,.int .i64 s.length,.int .i64 s.kind,.slice ap s.Ga.length ac,.int .i64 s.chunk,.slice eN s.stale.length eR,.string s.log,.string s.pool,.int .i64 s.device,.int .i64 s.mode,.int .i64 s.done] 79));have hA:=ae wr (.cells #[.int .i64 s.start,.int .i64 s.length,.int .i64 s.kind,.slice ap s.Ga.length ac,.int .i64 s.chunk,.slice eN s.stale.length eR,.string s.log,.string s.pool,.int .i64 s.device,.int .i64 s.mode,.int .i64 s.done] 79);have cm:=aa (hB.trans (hA.mono hB.size));have Pe:=HP.o.lt;have hAl:=HA.o.lt;have MU:=aa (HP.o.block (hA.block _ Pe));have J7:=aa (HA.o.block (hA.block _ hAl));clear hA
     go_wp2_with fail
     clear q0 q1 q2 q3 q4 q5 q6 q7 q8 q9 q10;generalize hW2:World.alloc wr _=W2 at *;generalize JY:wr.heap.size=Bs at *;clear hW2 JY hB HP HA;refine (kN (ok:=ok) s false _ W2 (bC.moves.mv (Mv.of cm.o) KF.o) hsz1).mono ?_;rintro e w3 ⟨uv,rfl,how,hb3⟩;have VY:Bs<W2.heap.size:=aq lj.o;have kf:=how.rd (ok:=fun q=>W2.heap.size<=q) (fun q e=>(fh how q e).1);obtain ⟨up,uc,rfl,O3,O4⟩:=kf.cap;have B2:=aa kf;clear kf how;have cJ:=aa (cm.o.trans (hb3.mono cm.o.size));have Uh:=aa (MU.o.block (hb3.block _ MU.o.lt));have OT:=aa (J7.o.block (hb3.block _ J7.o.lt));have nB:=aa ((hb3.block _ VY).trans lj.o);clear hb3 cm MU J7 lj;have Ky:=aa (Yy.o false);have hle:=wu Ug.o false;have hle1:=HU.o false;generalize hL:dD s false=L at *
     go_wp2_with fail
     go_loopw [38] (fun i wi=>∃ m:Nat,m<=L.length/\i=.int .i64 m/\cR (fun q=>q=w.heap.size) w3 wi/\gm wi (w.heap.size) (dA (bW g.F9 k j v) false++L.take m)) (fun i _=>L.length - (intOf i).toNat)
     case atStart=>exact ⟨0,cg _,rfl,cR.refl _ _,by rw [iv,eM];exact Uh.o⟩
     case round =>
      obtain ⟨m,hm,rfl,oY,LM⟩:=hrel;have xd:=aa oY;clear oY;have Hj:=aa LM;clear LM
      by_cases hlt3:m<L.length
      ·obtain ⟨x,hx⟩:=aj L m hlt3
       obtain ⟨bu,ou,uu,rfl,hou,VZ,Pf,V0,Ry⟩:=B2.o.elem hx;obtain rfl:uu=_:=V0;have q0:=(xd.o.cell (p:=⟨bu,ou+m*1+0,none⟩) VZ (by show ¬ bu=_;omega)).trans (Ry 0 _ rfl);rw [fp,fg] at q0;have JM:=Ky.o x (ct hx);have JI:(dA (bW g.F9 k j v) false++L.take m).length<=1000000:=by rw [cD,ey];omega
       have Kj:=Ag (dA (bW g.F9 k j v) false++L.take m) x;have hlk:=gm.look Hj.o x JM;obtain ⟨w',hst,hc',hg',hz'⟩:=gm.store Hj.o JI x JM;have HC':=aa hc';clear hc';have HX:=aa (take_snoc' L m x hx);have Pg:=aa (xd.o.trans (cR.grown hg') (fun i e=>.inl e));clear Ry Pf hx hg' hz';generalize iJ _ x=c at *;go_wp2;go_roundw
       case rel=>exact ⟨m+1,by omega,by go_num,Pg.o,by rw [HX.o,<- cV];exact HC'.o⟩
       case measure=>simp [intOf];omega
      ·obtain rfl:m=L.length:=by omega
       rw [cI] at Hj;have HW:=aa (cJ.o.trans ((xd.o.below (B:=w.heap.size) (by have:=cJ.o.size;omega) (fun q e=>by omega))));have Lb:=aa (OT.o.block (xd.o.block _ OT.o.lt (by omega)));have V1:=aq nB.o;have I7:=aa ((xd.o.block _ V1 (by omega)).trans nB.o);have V2:Hid (dA (bW g.F9 k (j+1) v) false=dA (bW g.F9 k j v) false++L):=aa (by rw [sY.o,qW,hL]);have V3:=aa Hj.o;clear xd Hj B2 Ky hle hle1 cJ Uh OT nB hlt3 hm hL;generalize dA (bW g.F9 k j v) false++L=LF at *
       have sL:=cr I7.o
       obtain ⟨s0,s1,s2,s3,s4,s5,s6,s7,s8,s9,s10⟩:=IC sL;clear sL
       go_wp2_with fail
       clear s0 s1 s2 s3 s4 s5 s6 s7 s8 s9 s10;refine (kN (ok:=ok) s true _ wr (bC.moves.mv (Mv.of HW.o) KF.o) hsz1).mono ?_;rintro e w5 ⟨uv,rfl,how,hb5⟩;have Ph:=HW.o.size;have kf:=how.rd (ok:=fun q=>wr.heap.size<=q) (fun q e=>(fh how q e).1);obtain ⟨up',uc',rfl,Yz,YA⟩:=kf.cap;have B2:=aa kf;clear kf how;have aa8:=Lb.o.lt;have eK:=aa (HW.o.trans (hb5.mono HW.o.size));have YB:=aa (V3.o.block (hb5.block _ V3.o.lt));have HA5:=aa (Lb.o.block (hb5.block _ Lb.o.lt));clear hb5 HW V3 Lb I7;have Ky:=aa (Yy.o true);have hle:=wu Ug.o true;have hle1:=HU.o true;generalize hL:dD s true=L at *
       go_wp2_with fail
       go_loopw [50] (fun i wi=>∃ m:Nat,m<=L.length/\i=.int .i64 m/\cR (fun q=>q=w.heap.size+1) w5 wi/\gm wi (w.heap.size+1) (dA (bW g.F9 k j v) true++L.take m)) (fun i _=>L.length - (intOf i).toNat)
       case atStart=>exact ⟨0,cg _,rfl,cR.refl _ _,by rw [iv,eM];exact HA5.o⟩
       case round =>
        obtain ⟨m,hm,rfl,oY,LM⟩:=hrel;have xd:=aa oY;clear oY;have Hj:=aa LM;clear LM
        by_cases hlt3:m<L.length
        ·obtain ⟨x,hx⟩:=aj L m hlt3
         obtain ⟨bu,ou,uu,rfl,hou,VZ,Pf,V0,Ry⟩:=B2.o.elem hx;obtain rfl:uu=_:=V0;have q0:=(xd.o.cell (p:=⟨bu,ou+m*1+0,none⟩) VZ (by show ¬ bu=_;omega)).trans (Ry 0 _ rfl);rw [fp,fg] at q0;have JM:=Ky.o x (ct hx);have JI:(dA (bW g.F9 k j v) true++L.take m).length<=1000000:=by rw [cD,ey];omega
         have Kj:=Ag (dA (bW g.F9 k j v) true++L.take m) x;have hlk:=gm.look Hj.o x JM;obtain ⟨w',hst,hc',hg',hz'⟩:=gm.store Hj.o JI x JM;have HC':=aa hc';clear hc';have HX:=aa (take_snoc' L m x hx);have Pg:=aa (xd.o.trans (cR.grown hg') (fun i e=>.inl e));clear Ry Pf hx hg' hz';generalize iJ _ x=c at *;go_wp2;go_roundw
         case rel=>exact ⟨m+1,by omega,by go_num,Pg.o,by rw [HX.o,<- cV];exact HC'.o⟩
         case measure=>simp [intOf];omega
        ·obtain rfl:m=L.length:=by omega
         rw [cI] at Hj;have qs:=aa (eK.o.trans ((xd.o.below (B:=w.heap.size) (by have:=eK.o.size;omega) (fun q e=>by omega))));have V4:=aa (YB.o.block (xd.o.block _ YB.o.lt (by omega)));have V5:Hid (dA (bW g.F9 k (j+1) v) true=dA (bW g.F9 k j v) true++L):=aa (by rw [sY.o,qW,hL]);have HA6:=aa Hj.o;go_wp2;go_roundw
         case rel=>exact ⟨j+1,by omega,by go_num,qs.o,by rw [V2.o];exact V4.o,by rw [V5.o];exact HA6.o⟩
         case measure=>simp [intOf];omega
    ·obtain rfl:j=v.Gf.length:=by omega
     have Uh:Hid (gm wr w.heap.size (dA (aA (g.F9.take (k+1))) false)):=aa (by rw [<- fJ g.F9 k v HV.o];exact HP.o);have OT:Hid (gm wr (w.heap.size+1) (dA (aA (g.F9.take (k+1))) true)):=aa (by rw [<- fJ g.F9 k v HV.o];exact HA.o);have cJ:=aa hB;clear HP HA hB;go_wp2;go_roundw
     case rel=>exact ⟨k+1,by omega,by go_num,cJ.o,Uh.o,OT.o⟩
     case measure=>simp [intOf];omega
  ·obtain rfl:k=g.F9.length:=by omega
   rw [cI] at HP HA;have Pj:=aa hB;clear hB;obtain ⟨-,-,-,-,-,-,-,g7,-⟩:=bX.cells (sm:=sm) ((Pj.o.block bc jt).trans nw.o);have V6:Hid (rY g=iM (yt g) g.F9):=aa rfl;go_wp2;clear g7
   go_loopw [67] (fun i wi=>∃ m:Nat,m<=g.F9.length/\i=.int .i64 m/\Below wr.heap.size wr wi/\rY g=iM (yt g) (g.F9.drop m)) (fun i _=>g.F9.length - (intOf i).toNat)
   case atStart=>exact ⟨0,cg _,rfl,bj _ _,V6.o⟩
   case round =>
    obtain ⟨m,hm,rfl,hb,hr⟩:=hrel;have Fc:=aa hb;clear hb;have V7:=aa hr;clear hr
    by_cases hlt4:m<g.F9.length
    ·obtain ⟨v,hv⟩:=aj g.F9 m hlt4
     obtain ⟨b,off,us,rfl,gR,cX,ez,eE,hcv⟩:=HG.o.elem hv;have Mr:=aa (VX.o v (ct hv));obtain ⟨tv,sv,rfl,ew,fL⟩:=eE;obtain ⟨tp,tc,rfl,_,_⟩:=ew.cap;obtain ⟨sp,sc,rfl,hsc1,hsc2⟩:=fL.cap;have cT:wr.heap[b]?=w.heap[b]?:=(Fc.o.block b (cC cX Pj.o.size)).trans (Pj.o.block b cX);obtain ⟨q0,q1,q2,q3,q4,q5⟩:=NG cT hcv;have HF:=aa (V7.o.trans (tC hv));clear hv hcv ez cT ew fL V7;have hA:=ae wr (.cells #[.string v.name,.int .u64 v.id,.bool v.hidden,.bool v.ro,.slice tp v.tags.length tc,.slice sp v.Gf.length sc] 55);have zv:=aa (b9 wr (.cells #[.string v.name,.int .u64 v.id,.bool v.hidden,.bool v.ro,.slice tp v.tags.length tc,.slice sp v.Gf.length sc] 55));have eI:=aa (Fc.o.trans (hA.mono Fc.o.size));clear hA
     go_upto_region 23 with (fail)
     clear q0 q1 q2 q3 q4 q5;generalize hW1:World.alloc wr _=W1 at *;generalize JX:wr.heap.size=Bv at *;clear hW1 JX Fc;have V8:=gm.look (HA.o.block (eI.o.block _ HA.o.lt)) v.name Mr.o;have Ui:=gm.look (HP.o.block (eI.o.block _ HP.o.lt)) v.name Mr.o;have Kq:Hid (yt g v=if v.hidden then (if iJ (dA (aA g.F9) true) v.name=1 then 0 else 16) else (if iJ (dA (aA g.F9) false) v.name=0 then 0 else 16)):=aa rfl;have n0:=cr zv.o 0 _ rfl;have n2:=cr zv.o 2 _ rfl
     generalize iJ (dA (aA g.F9) true) v.name=c1 at *;generalize iJ (dA (aA g.F9) false) v.name=c2 at *;have Uj:=aa (Pj.o.trans (eI.o.mono Pj.o.size))
     by_cases Nl:yt g v=0
     ·have HX:=aa Nl;clear Nl
      rw [aw HX.o] at HF;cases hh:v.hidden with
      | true =>
       rw [hh] at n2 Kq
       have h1:c1=1:=by
        have:=Kq.o.symm.trans HX.o;simp only [ej] at this;split at this
        ·assumption
        ·cases this
       have hx1:((c1:Int) != 1)=false:=by rw [h1];rfl
       have H1:=aa h1;clear h1;have HH:=aa hh;clear hh;clear Kq Ui;go_wp2;go_roundw
       case rel=>exact ⟨m+1,by omega,by go_num,eI.o,HF.o⟩
       case measure=>simp [intOf];omega
      | false =>
       rw [hh] at n2 Kq
       have h1:c2=0:=by
        have:=Kq.o.symm.trans HX.o;simp only [pj,fY] at this;split at this
        ·assumption
        ·cases this
       have hx1:decide (0<c2)=false:=by rw [h1];rfl
       have H1:=aa h1;clear h1;have HH:=aa hh;clear hh;clear Kq V8;go_wp2;go_roundw
       case rel=>exact ⟨m+1,by omega,by go_num,eI.o,HF.o⟩
       case measure=>simp [intOf];omega
     ·have HX:=aa Nl;clear Nl
      rw [bh HX.o] at HF;cases hh:v.hidden with
      | true =>
       rw [hh] at n2 Kq;have h1:¬ c1=1:=fun e=>HX.o (by rw [Kq.o,aw rfl,aw e]);have hx1:((c1:Int) != 1)=true:=by simp;omega
       have h16:yt g v=16:=by rw [Kq.o,aw rfl,bh h1]
       rw [h16] at HF;have H1:=aa h1;clear h1;have H16:=aa h16;clear h16;have HH:=aa hh;clear hh;clear Kq Ui;go_wp2;go_ret2;exact ⟨by rw [HF.o];rfl,Uj.o⟩
      | false =>
       rw [hh] at n2 Kq;have h1:¬ c2=0:=fun e=>HX.o (by rw [Kq.o,bh (by simp),aw e]);have hx1:decide (0<c2)=true:=by simp;omega
       have h16:yt g v=16:=by rw [Kq.o,bh (by simp),bh h1]
       rw [h16] at HF;have H1:=aa h1;clear h1;have H16:=aa h16;clear h16;have HH:=aa hh;clear hh;clear Kq V8;go_wp2;go_ret2;exact ⟨by rw [HF.o];rfl,Uj.o⟩
    ·obtain rfl:m=g.F9.length:=by omega
     have HF:Hid (rY g=(⟨#[]⟩,0)):=aa (by rw [V7.o,rB];rfl);have Uj:=aa (Pj.o.trans (Fc.o.mono Pj.o.size));go_wp2;go_ret2;exact ⟨by rw [HF.o];rfl,Uj.o⟩
end Go.Proofs.YtjdfihglehfelaaGreatDoor
