/- builder.more: its two regions that take an area. -/
import Derived.Test.YteengifhndmjeaaMkQ
namespace Go.Proofs.Yteengifhndmjeaa
open Go.RowKit

set_option maxRecDepth 100000 in
set_option maxHeartbeats 40000000 in
theorem more_reg12 {X : Nat → Prop} {bs bb : Nat} {nv vv : Value} {g : GroupM} {next : List Int} {w0 w : World} {Lv L : Nat} {cs : Value → Array Value} {l0 segs : List SegM} {sv : Value} {ps : List (ByteArray × Int × Int)} {nx : List Int} {xs : Array Value}
    (M : MStL X bs bb nv vv g next w0 Lv cs l0 sv segs ps nx L xs w) (hk : BOk g next) (n : Int) (hn1 : 1 ≤ n) (hn2 : n ≤ 3) (c1 c2 c3 c4 c5 c6 c7 c9 c10 c11 c12 c13 c14 c15 c16 c17 c18 c19 c20 c21 c22 c23 c24 c25 c26 c27 c28 c29 c30 c31 c32 c33 c34 c35 c36 c37 c38 c39 c40 c41 c42 c43 c44 c45 c46 c47 c48 c49 c50 c51 c52 c53 c54 c55 c56 c57 c58 c59 c60 c61 c62 c63 c64 c65 c66 c67 c68 c69 c70 c71 c72 c73 c74 c75 c76 c77 c78 c79 c80 c81 c82 c83 c84 c85 c86 c87 c88 c89 c90 c91 c92 c93 c94 c95 c96 c97 c98 c99 c100 c101 c102 c103 c104 c105 c106 c107 c108 c109 c110 c111 c112 c113 c114 c115 c116 c117 c118 c119 c120 c121 c122 c123 c124 : Value) (K : Act → World → Prop) (Q : Exit → Act → World → Prop) (hQ : ∀ c (a : Act) (d : Tmp) (v : Value) w, Q (.panic c) (a.put (some d) v) w → Q (.panic c) a w)
    (HK : Hid (∀ (A : Nat) (on : ByteArray) (s : Int) (ok : Bool) (ps1 : List (ByteArray × Int × Int)) (nx1 : List Int) (w' : World) (u60 u61 u62 u63 u64 u65 u66 u67 u68 u69 u70 u71 u72 u73 u74 u75 u76 : Value), w'.heap[A]? = some (.cells #[.bool false, .string on, .int .i64 s] 98 (0, 0)) → L < A → (ok = true → ps1 = [(on, s, n)]) → MStL X bs bb nv vv g next w0 Lv cs l0 sv segs (ps ++ ps1) nx1 L xs w' → (∀ k, X k → w'.heap[k]? = w.heap[k]?) → K ⟨#[.pointer (some ⟨bb, 0, none⟩), c1, c2, c3, c4, c5, c6, c7, .int .i64 n, c9, .pointer (some ⟨A, 0, none⟩), .bool ok, c12, c13, c14, c15, c16, c17, c18, c19, c20, c21, c22, c23, c24, c25, c26, c27, c28, c29, c30, c31, c32, c33, c34, c35, c36, c37, c38, c39, c40, c41, c42, c43, c44, c45, c46, c47, c48, c49, c50, c51, c52, c53, c54, c55, c56, c57, c58, c59, u60, u61, u62, u63, u64, u65, u66, u67, u68, u69, u70, u71, u72, u73, u74, u75, u76, c77, c78, c79, c80, c81, c82, c83, c84, c85, c86, c87, c88, c89, c90, c91, c92, c93, c94, c95, c96, c97, c98, c99, c100, c101, c102, c103, c104, c105, c106, c107, c108, c109, c110, c111, c112, c113, c114, c115, c116, c117, c118, c119, c120, c121, c122, c123, c124], []⟩ w')) :
    Code.wp Try.prog (moreReg 12) (Exit.then K Q) ⟨#[.pointer (some ⟨bb, 0, none⟩), c1, c2, c3, c4, c5, c6, c7, .int .i64 n, c9, c10, c11, c12, c13, c14, c15, c16, c17, c18, c19, c20, c21, c22, c23, c24, c25, c26, c27, c28, c29, c30, c31, c32, c33, c34, c35, c36, c37, c38, c39, c40, c41, c42, c43, c44, c45, c46, c47, c48, c49, c50, c51, c52, c53, c54, c55, c56, c57, c58, c59, c60, c61, c62, c63, c64, c65, c66, c67, c68, c69, c70, c71, c72, c73, c74, c75, c76, c77, c78, c79, c80, c81, c82, c83, c84, c85, c86, c87, c88, c89, c90, c91, c92, c93, c94, c95, c96, c97, c98, c99, c100, c101, c102, c103, c104, c105, c106, c107, c108, c109, c110, c111, c112, c113, c114, c115, c116, c117, c118, c119, c120, c121, c122, c123, c124], []⟩ w := by
  conv => arg 2; whnf
  have c0 := M.m.post.bld.c0
  obtain ⟨dp, dcap, c7, l1, l2⟩ := M.m.post.bld.c7
  have hbw := M.m.post.bld.bbLt
  have hbs := M.m.post.bld.lt
  have hnb : ¬ bb = bs := by omega
  have HXL := M.xl
  have dk := M.m.took.ok hk.dk
  have hp := dk.pos
  have hle := dk.le
  refine wp_region_N (fun w' => w'.cell? ⟨bb, 0, none⟩ = some (.pointer (some ⟨bs, 0, none⟩)) ∧ w'.cell? ⟨bb, 7, none⟩ = some (.slice dp g.disks.length dcap)) (fun i => (decide (i < 13) && !([0, 1, 2, 3, 5, 6, 7, 8, 12] : List Nat).contains i) || i == 17) (by kernel_rfl) ⟨c0, c7⟩ (fun hHeld => ?_)
  (refine wpAnyE_takeW (i := 0) (v := ?_) rfl rfl (by kernel_rfl) (fun _ _ _ h => hQ _ _ _ _ _ h) (Or.inl ⟨by rfl, ?_⟩) ?_; rotate_left; (intro w _; go_simp; (try (with_reducible rfl))); (try simp only [Act.put, List.setIfInBounds_toArray, List.set_cons_zero, List.set_cons_succ])); (refine wpAnyE_takeW (i := 1) (v := ?_) rfl rfl (by kernel_rfl) (fun _ _ _ h => hQ _ _ _ _ _ h) (Or.inl ⟨by rfl, ?_⟩) ?_; rotate_left; (intro w _; go_simp; (try (with_reducible rfl))); (try simp only [Act.put, List.setIfInBounds_toArray, List.set_cons_zero, List.set_cons_succ])); (refine wpAnyE_takeW (i := 2) (v := ?_) rfl rfl (by kernel_rfl) (fun _ _ _ h => hQ _ _ _ _ _ h) (Or.inl ⟨by rfl, ?_⟩) ?_; rotate_left; (intro w _; go_simp; (try (with_reducible rfl))); (try simp only [Act.put, List.setIfInBounds_toArray, List.set_cons_zero, List.set_cons_succ])); (refine wpAnyE_takeW (i := 3) (v := ?_) rfl rfl (by kernel_rfl) (fun _ _ _ h => hQ _ _ _ _ _ h) (Or.inl ⟨by rfl, ?_⟩) ?_; rotate_left; (intro w _; go_simp; (try (with_reducible rfl))); (try simp only [Act.put, List.setIfInBounds_toArray, List.set_cons_zero, List.set_cons_succ])); (refine wpAnyE_takeW (i := 5) (v := ?_) rfl rfl (by kernel_rfl) (fun _ _ _ h => hQ _ _ _ _ _ h) (Or.inl ⟨by rfl, ?_⟩) ?_; rotate_left; (intro w _; go_simp; (try (with_reducible rfl))); (try simp only [Act.put, List.setIfInBounds_toArray, List.set_cons_zero, List.set_cons_succ])); (refine wpAnyE_takeW (i := 6) (v := ?_) rfl rfl (by kernel_rfl) (fun _ _ _ h => hQ _ _ _ _ _ h) (Or.inl ⟨by rfl, ?_⟩) ?_; rotate_left; (intro w _; go_simp; (try (with_reducible rfl))); (try simp only [Act.put, List.setIfInBounds_toArray, List.set_cons_zero, List.set_cons_succ])); (refine wpAnyE_takeW (i := 7) (v := ?_) rfl rfl (by kernel_rfl) (fun _ _ _ h => hQ _ _ _ _ _ h) (Or.inl ⟨by rfl, ?_⟩) ?_; rotate_left; (intro w _; go_simp; (try (with_reducible rfl))); (try simp only [Act.put, List.setIfInBounds_toArray, List.set_cons_zero, List.set_cons_succ])); (refine wpAnyE_takeW (i := 8) (v := ?_) rfl rfl (by kernel_rfl) (fun _ _ _ h => hQ _ _ _ _ _ h) (Or.inl ⟨by rfl, ?_⟩) ?_; rotate_left; (intro w _; go_simp; (try (with_reducible rfl))); (try simp only [Act.put, List.setIfInBounds_toArray, List.set_cons_zero, List.set_cons_succ])); (refine wpAnyE_takeW (i := 12) (v := ?_) rfl rfl (by kernel_rfl) (fun _ _ _ h => hQ _ _ _ _ _ h) (Or.inl ⟨by rfl, ?_⟩) ?_; rotate_left; (intro w _; go_simp; (try (with_reducible rfl))); (try simp only [Act.put, List.setIfInBounds_toArray, List.set_cons_zero, List.set_cons_succ])); (refine wpAnyE_take (i := 4) (v := ?_) rfl rfl (by kernel_rfl) (fun _ _ _ h => hQ _ _ _ _ _ h) (Or.inl ⟨by rfl, ?_⟩) hHeld ?_; rotate_left; (intro w hSw; (try dsimp only at hSw); go_simp; (try (with_reducible rfl))); (try simp only [Act.put, List.setIfInBounds_toArray, List.set_cons_zero, List.set_cons_succ])); (refine wpAnyE_take (i := 9) (v := ?_) rfl rfl (by kernel_rfl) (fun _ _ _ h => hQ _ _ _ _ _ h) (Or.inl ⟨by rfl, ?_⟩) hHeld ?_; rotate_left; (intro w hSw; (try dsimp only at hSw); go_simp; (try (with_reducible rfl))); (try simp only [Act.put, List.setIfInBounds_toArray, List.set_cons_zero, List.set_cons_succ])); (refine wpAnyE_take (i := 10) (v := ?_) rfl rfl (by kernel_rfl) (fun _ _ _ h => hQ _ _ _ _ _ h) (Or.inl ⟨by rfl, ?_⟩) hHeld ?_; rotate_left; (intro w hSw; (try dsimp only at hSw); go_simp; (try (with_reducible rfl))); (try simp only [Act.put, List.setIfInBounds_toArray, List.set_cons_zero, List.set_cons_succ]))
  have M7 := M.below ((Below.refl _ _).drew)
  have hbd : bb < w.drew.heap.size := hbw
  have HX : Hid (∀ k, X k → w.drew.heap[k]? = w.heap[k]?) := Lib.hid fun k _ => rfl
  have cd0 : w.drew.cell? ⟨bb, 0, none⟩ = _ := c0
  have cd7 : w.drew.cell? ⟨bb, 7, none⟩ = _ := c7
  generalize hwd : w.drew = wd at *
  clear hwd c0 c7 hHeld M
  have HS : Hid (∀ w' : World, w'.heap[bb]? = wd.heap[bb]? → w'.cell? ⟨bb, 0, none⟩ = some (.pointer (some ⟨bs, 0, none⟩)) ∧ w'.cell? ⟨bb, 7, none⟩ = some (.slice dp g.disks.length dcap)) := Lib.hid fun w' e => ⟨(World.cell?_of_block (w := wd) e).trans cd0, (World.cell?_of_block (w := wd) e).trans cd7⟩
  clear cd0 cd7
  refine wpAnyE_twoN (i := 11) (j := 17) rfl rfl rfl rfl (by kernel_rfl) (fun K1 hK1 => ?_) (fun K1 hK1 => ?_)
  · go_simp
    refine (N_any bs (g.disks.length : Int) _ (by omega) (by omega) M7.m.post.bld.src).mono ?_
    rintro e w6 ⟨dv, rfl, hdv1, hdv2, hsN, hmN⟩
    obtain ⟨dd, rfl⟩ : ∃ u : Nat, dv = u := ⟨dv.toNat, by omega⟩
    have M8 := M7.read hsN hmN
    replace HX : Hid (∀ k, X k → w6.heap[k]? = w.heap[k]?) := Lib.hid fun k q => ((M7.m.post.bld.readPost hsN hmN).loc M7.m.post.bld (.inl q)).trans (HX.out k q)
    have E6 := Lib.hid (hmN.block bb hbd hnb)
    have hbd6 := Nat.lt_of_lt_of_le hbd hmN.size
    refine hK1.out _ _ (fun _ => HS.out _ E6.out) ?_
    clear hK1 K1 hsN hmN M7
    refine wpAnyE_twoN (i := 13) (j := 17) rfl rfl rfl rfl (by kernel_rfl) (fun K1 hK1 => ?_) (fun K1 hK1 => ?_)
    · go_simp
      refine (M8.area hk dd (by omega) n hn1 (by omega)).mono ?_
      rintro e w7 ⟨on, s, ok, ps1, nx1, rfl, hok, M9, hbb, hlc⟩
      have HO := Lib.hid hok; clear hok
      replace HX : Hid (∀ k, X k → w7.heap[k]? = w.heap[k]?) := Lib.hid fun k q => (hlc k q).trans (HX.out k q)
      have E7 := Lib.hid (hbb.trans E6.out)
      have hbd7 := M9.m.post.bld.bbLt
      refine hK1.out _ _ (fun q => by simp at q) ?_
      clear hK1 K1 M8 hbb hlc
      (refine wpAnyE_takeW (i := 14) (v := ?_) rfl rfl (by kernel_rfl) (fun _ _ _ h => hQ _ _ _ _ _ h) (Or.inl ⟨by rfl, ?_⟩) ?_; rotate_left; (intro w _; go_simp; (try (with_reducible rfl))); (try simp only [Act.put, List.setIfInBounds_toArray, List.set_cons_zero, List.set_cons_succ])); (refine wpAnyE_takeW (i := 15) (v := ?_) rfl rfl (by kernel_rfl) (fun _ _ _ h => hQ _ _ _ _ _ h) (Or.inl ⟨by rfl, ?_⟩) ?_; rotate_left; (intro w _; go_simp; (try (with_reducible rfl))); (try simp only [Act.put, List.setIfInBounds_toArray, List.set_cons_zero, List.set_cons_succ])); (refine wpAnyE_takeW (i := 16) (v := ?_) rfl rfl (by kernel_rfl) (fun _ _ _ h => hQ _ _ _ _ _ h) (Or.inl ⟨by rfl, ?_⟩) ?_; rotate_left; (intro w _; go_simp; (try (with_reducible rfl))); (try simp only [Act.put, List.setIfInBounds_toArray, List.set_cons_zero, List.set_cons_succ]))
      refine wpAnyE_stepN (i := 17) rfl rfl (by kernel_rfl) (fun K1 hK1 => ?_)
      go_simp
      have MA := M9.fresh (.cells #[.bool false, .string ⟨#[]⟩, .int .i64 0] 98)
      have HA := Lib.hid (heap_alloc_new w7 (.cells #[.bool false, .string ⟨#[]⟩, .int .i64 0] 98))
      have hA1 := M9.m.hB
      have hA2 : sv.ownBlock ≠ some w7.heap.size := fun e => by have := M9.m.svLt e; omega
      have hA3 : L < w7.heap.size := lt_of_block M9.lx
      have HXA : Hid (∀ k, X k → k < w7.heap.size) := Lib.hid fun k q => (M9.m.post.bld.xlt k (.inl q)).2
      replace HX : Hid (∀ k, X k → (w7.alloc (.cells #[.bool false, .string ⟨#[]⟩, .int .i64 0] 98)).heap[k]? = w.heap[k]?) := Lib.hid fun k q => (Below.heap_alloc _ _ _ (HXA.out k q)).trans (HX.out k q)
      refine hK1.out _ _ (fun _ => HS.out _ ((Below.heap_alloc _ _ _ hbd7).trans E7.out)) ?_
      clear hK1 K1
      have EA := Lib.hid ((Below.heap_alloc w7 (.cells #[.bool false, .string ⟨#[]⟩, .int .i64 0] 98) _ hbd7).trans E7.out)
      generalize hWA : w7.alloc _ = WA at *
      generalize hA : w7.heap.size = A at *
      clear hWA hA
      refine wpAnyE_tailN 18 (fun t ht => by simp; omega) (by kernel_rfl) rfl ?_
      simp only [List.drop_succ_cons, List.drop_zero]
      have r0 : WA.cell? ⟨A, 0, none⟩ = some (.bool false) := by simp [World.cell?, HA.out]
      have r1 : WA.cell? ⟨A, 1, none⟩ = some (.string ⟨#[]⟩) := by simp [World.cell?, HA.out]
      have r2 : WA.cell? ⟨A, 2, none⟩ = some (.int .i64 0) := by simp [World.cell?, HA.out]
      have rf : ∀ i, WA.frozen? ⟨A, i, none⟩ = false := fun i => by simp [World.frozen?, HA.out]
      go_wp2
      exact HK.out A on s ok ps1 nx1 _ _ _ _ _ _ _ _ _ _ _ _ _ _ _ _ _ _ (block3 HA.out _ _ _) hA3 HO.out (((MA.put hA1 hA2 (by omega) 0 _).put hA1 hA2 (by omega) 1 _).put hA1 hA2 (by omega) 2 _ |>.drop HXL) (fun k q => by have := HXA.out k q; rw [Below.heap_setCell _ _ _ _ (show k ≠ A by omega), Below.heap_setCell _ _ _ _ (show k ≠ A by omega), Below.heap_setCell _ _ _ _ (show k ≠ A by omega)]; exact HX.out k q)
    · go_simp
      have MA := M8.fresh (.cells #[.bool false, .string ⟨#[]⟩, .int .i64 0] 98)
      have HA := Lib.hid (heap_alloc_new w6 (.cells #[.bool false, .string ⟨#[]⟩, .int .i64 0] 98))
      have hA1 := M8.m.hB
      have hA2 : sv.ownBlock ≠ some w6.heap.size := fun e => by have := M8.m.svLt e; omega
      have hA3 : L < w6.heap.size := lt_of_block M8.lx
      have HXA : Hid (∀ k, X k → k < w6.heap.size) := Lib.hid fun k q => (M8.m.post.bld.xlt k (.inl q)).2
      replace HX : Hid (∀ k, X k → (w6.alloc (.cells #[.bool false, .string ⟨#[]⟩, .int .i64 0] 98)).heap[k]? = w.heap[k]?) := Lib.hid fun k q => (Below.heap_alloc _ _ _ (HXA.out k q)).trans (HX.out k q)
      refine hK1.out _ _ (fun _ => HS.out _ ((Below.heap_alloc _ _ _ hbd6).trans E6.out)) ?_
      clear hK1 K1
      have EA := Lib.hid ((Below.heap_alloc w6 (.cells #[.bool false, .string ⟨#[]⟩, .int .i64 0] 98) _ hbd6).trans E6.out)
      generalize hWA : w6.alloc _ = WA at *
      generalize hA : w6.heap.size = A at *
      clear hWA hA
      refine wpAnyE_stepN (i := 13) rfl rfl (by kernel_rfl) (fun K1 hK1 => ?_)
      go_simp
      refine (MA.area hk dd (by omega) n hn1 (by omega)).mono ?_
      rintro e w7 ⟨on, s, ok, ps1, nx1, rfl, hok, M9, hbb, hlc⟩
      have HO := Lib.hid hok; clear hok
      replace HX : Hid (∀ k, X k → w7.heap[k]? = w.heap[k]?) := Lib.hid fun k q => (hlc k (.inl q)).trans (HX.out k q)
      replace HA := Lib.hid ((hlc A (.inr rfl)).trans HA.out)
      refine hK1.out _ _ (fun q => by simp at q) ?_
      clear hK1 K1 hbb hlc
      (refine wpAnyE_takeW (i := 14) (v := ?_) rfl rfl (by kernel_rfl) (fun _ _ _ h => hQ _ _ _ _ _ h) (Or.inl ⟨by rfl, ?_⟩) ?_; rotate_left; (intro w _; go_simp; (try (with_reducible rfl))); (try simp only [Act.put, List.setIfInBounds_toArray, List.set_cons_zero, List.set_cons_succ])); (refine wpAnyE_takeW (i := 15) (v := ?_) rfl rfl (by kernel_rfl) (fun _ _ _ h => hQ _ _ _ _ _ h) (Or.inl ⟨by rfl, ?_⟩) ?_; rotate_left; (intro w _; go_simp; (try (with_reducible rfl))); (try simp only [Act.put, List.setIfInBounds_toArray, List.set_cons_zero, List.set_cons_succ])); (refine wpAnyE_takeW (i := 16) (v := ?_) rfl rfl (by kernel_rfl) (fun _ _ _ h => hQ _ _ _ _ _ h) (Or.inl ⟨by rfl, ?_⟩) ?_; rotate_left; (intro w _; go_simp; (try (with_reducible rfl))); (try simp only [Act.put, List.setIfInBounds_toArray, List.set_cons_zero, List.set_cons_succ]))
      refine wpAnyE_tailN 18 (fun t ht => by simp; omega) (by kernel_rfl) rfl ?_
      simp only [List.drop_succ_cons, List.drop_zero]
      have r0 : w7.cell? ⟨A, 0, none⟩ = some (.bool false) := by simp [World.cell?, HA.out]
      have r1 : w7.cell? ⟨A, 1, none⟩ = some (.string ⟨#[]⟩) := by simp [World.cell?, HA.out]
      have r2 : w7.cell? ⟨A, 2, none⟩ = some (.int .i64 0) := by simp [World.cell?, HA.out]
      have rf : ∀ i, w7.frozen? ⟨A, i, none⟩ = false := fun i => by simp [World.frozen?, HA.out]
      go_wp2
      exact HK.out A on s ok ps1 nx1 _ _ _ _ _ _ _ _ _ _ _ _ _ _ _ _ _ _ (block3 HA.out _ _ _) hA3 HO.out (((M9.put hA1 hA2 (by omega) 0 _).put hA1 hA2 (by omega) 1 _).put hA1 hA2 (by omega) 2 _ |>.drop HXL) (fun k q => by have := HXA.out k q; rw [Below.heap_setCell _ _ _ _ (show k ≠ A by omega), Below.heap_setCell _ _ _ _ (show k ≠ A by omega), Below.heap_setCell _ _ _ _ (show k ≠ A by omega)]; exact HX.out k q)
  · go_simp
    have MA := M7.fresh (.cells #[.bool false, .string ⟨#[]⟩, .int .i64 0] 98)
    have HA := Lib.hid (heap_alloc_new wd (.cells #[.bool false, .string ⟨#[]⟩, .int .i64 0] 98))
    have hA1 := M7.m.hB
    have hA2 : sv.ownBlock ≠ some wd.heap.size := fun e => by have := M7.m.svLt e; omega
    have hA3 : L < wd.heap.size := lt_of_block M7.lx
    have HXA : Hid (∀ k, X k → k < wd.heap.size) := Lib.hid fun k q => (M7.m.post.bld.xlt k (.inl q)).2
    replace HX : Hid (∀ k, X k → (wd.alloc (.cells #[.bool false, .string ⟨#[]⟩, .int .i64 0] 98)).heap[k]? = w.heap[k]?) := Lib.hid fun k q => (Below.heap_alloc _ _ _ (HXA.out k q)).trans (HX.out k q)
    refine hK1.out _ _ (fun _ => HS.out _ (Below.heap_alloc _ _ _ hbd)) ?_
    clear hK1 K1
    have EA := Lib.hid (Below.heap_alloc wd (.cells #[.bool false, .string ⟨#[]⟩, .int .i64 0] 98) _ hbd)
    generalize hWA : wd.alloc _ = WA at *
    generalize hA : wd.heap.size = A at *
    clear hWA hA
    refine wpAnyE_stepN (i := 11) rfl rfl (by kernel_rfl) (fun K1 hK1 => ?_)
    go_simp
    refine (N_any bs (g.disks.length : Int) _ (by omega) (by omega) MA.m.post.bld.src).mono ?_
    rintro e w6 ⟨dv, rfl, hdv1, hdv2, hsN, hmN⟩
    obtain ⟨dd, rfl⟩ : ∃ u : Nat, dv = u := ⟨dv.toNat, by omega⟩
    have M8 := MA.read hsN hmN
    replace HX : Hid (∀ k, X k → w6.heap[k]? = w.heap[k]?) := Lib.hid fun k q => ((MA.m.post.bld.readPost hsN hmN).loc MA.m.post.bld (.inl (.inl q))).trans (HX.out k q)
    have E6 := Lib.hid ((hmN.block bb MA.m.post.bld.bbLt hnb).trans EA.out)
    replace HA := Lib.hid (((MA.m.post.bld.readPost hsN hmN).loc MA.m.post.bld (.inl (.inr rfl))).trans HA.out)
    refine hK1.out _ _ (fun _ => HS.out _ E6.out) ?_
    clear hK1 K1 hsN hmN MA EA
    refine wpAnyE_stepN (i := 13) rfl rfl (by kernel_rfl) (fun K1 hK1 => ?_)
    go_simp
    refine (M8.area hk dd (by omega) n hn1 (by omega)).mono ?_
    rintro e w7 ⟨on, s, ok, ps1, nx1, rfl, hok, M9, hbb, hlc⟩
    have HO := Lib.hid hok; clear hok
    replace HX : Hid (∀ k, X k → w7.heap[k]? = w.heap[k]?) := Lib.hid fun k q => (hlc k (.inl q)).trans (HX.out k q)
    replace HA := Lib.hid ((hlc A (.inr rfl)).trans HA.out)
    refine hK1.out _ _ (fun q => by simp at q) ?_
    clear hK1 K1 hbb hlc
    (refine wpAnyE_takeW (i := 14) (v := ?_) rfl rfl (by kernel_rfl) (fun _ _ _ h => hQ _ _ _ _ _ h) (Or.inl ⟨by rfl, ?_⟩) ?_; rotate_left; (intro w _; go_simp; (try (with_reducible rfl))); (try simp only [Act.put, List.setIfInBounds_toArray, List.set_cons_zero, List.set_cons_succ])); (refine wpAnyE_takeW (i := 15) (v := ?_) rfl rfl (by kernel_rfl) (fun _ _ _ h => hQ _ _ _ _ _ h) (Or.inl ⟨by rfl, ?_⟩) ?_; rotate_left; (intro w _; go_simp; (try (with_reducible rfl))); (try simp only [Act.put, List.setIfInBounds_toArray, List.set_cons_zero, List.set_cons_succ])); (refine wpAnyE_takeW (i := 16) (v := ?_) rfl rfl (by kernel_rfl) (fun _ _ _ h => hQ _ _ _ _ _ h) (Or.inl ⟨by rfl, ?_⟩) ?_; rotate_left; (intro w _; go_simp; (try (with_reducible rfl))); (try simp only [Act.put, List.setIfInBounds_toArray, List.set_cons_zero, List.set_cons_succ]))
    refine wpAnyE_tailN 18 (fun t ht => by simp; omega) (by kernel_rfl) rfl ?_
    simp only [List.drop_succ_cons, List.drop_zero]
    have r0 : w7.cell? ⟨A, 0, none⟩ = some (.bool false) := by simp [World.cell?, HA.out]
    have r1 : w7.cell? ⟨A, 1, none⟩ = some (.string ⟨#[]⟩) := by simp [World.cell?, HA.out]
    have r2 : w7.cell? ⟨A, 2, none⟩ = some (.int .i64 0) := by simp [World.cell?, HA.out]
    have rf : ∀ i, w7.frozen? ⟨A, i, none⟩ = false := fun i => by simp [World.frozen?, HA.out]
    go_wp2
    exact HK.out A on s ok ps1 nx1 _ _ _ _ _ _ _ _ _ _ _ _ _ _ _ _ _ _ (block3 HA.out _ _ _) hA3 HO.out (((M9.put hA1 hA2 (by omega) 0 _).put hA1 hA2 (by omega) 1 _).put hA1 hA2 (by omega) 2 _ |>.drop HXL) (fun k q => by have := HXA.out k q; rw [Below.heap_setCell _ _ _ _ (show k ≠ A by omega), Below.heap_setCell _ _ _ _ (show k ≠ A by omega), Below.heap_setCell _ _ _ _ (show k ≠ A by omega)]; exact HX.out k q)

set_option maxRecDepth 100000 in
set_option maxHeartbeats 40000000 in
theorem more_reg16 {X : Nat → Prop} {bs bb : Nat} {nv vv : Value} {g : GroupM} {next : List Int} {w0 w : World} {Lv L : Nat} {cs : Value → Array Value} {l0 segs : List SegM} {sv : Value} {ps : List (ByteArray × Int × Int)} {nx : List Int} {xs : Array Value}
    (M : MStL X bs bb nv vv g next w0 Lv cs l0 sv segs ps nx L xs w) (hk : BOk g next) (n : Int) (hn1 : 1 ≤ n) (hn2 : n ≤ 3) (c1 c2 c3 c4 c5 c6 c7 c9 c10 c11 c12 c13 c14 c15 c16 c17 c18 c19 c20 c21 c22 c23 c24 c25 c26 c27 c28 c29 c30 c31 c32 c33 c34 c35 c36 c37 c38 c39 c40 c41 c42 c43 c44 c45 c46 c47 c48 c49 c50 c51 c52 c53 c54 c55 c56 c57 c58 c59 c60 c61 c62 c63 c64 c65 c66 c67 c68 c69 c70 c71 c72 c73 c74 c75 c76 c77 c78 c79 c80 c81 c82 c83 c84 c85 c86 c87 c88 c89 c90 c91 c92 c93 c94 c95 c96 c97 c98 c99 c100 c101 c102 c103 c104 c105 c106 c107 c108 c109 c110 c111 c112 c113 c114 c115 c116 c117 c118 c119 c120 c121 c122 c123 c124 : Value) (K : Act → World → Prop) (Q : Exit → Act → World → Prop) (hQ : ∀ c (a : Act) (d : Tmp) (v : Value) w, Q (.panic c) (a.put (some d) v) w → Q (.panic c) a w)
    (HK : Hid (∀ (A : Nat) (on : ByteArray) (s : Int) (ok : Bool) (ps1 : List (ByteArray × Int × Int)) (nx1 : List Int) (w' : World) (u85 u86 u87 u88 u89 u90 u91 u92 u93 u94 u95 u96 u97 u98 u99 u100 u101 : Value), w'.heap[A]? = some (.cells #[.bool false, .string on, .int .i64 s] 98 (0, 0)) → L < A → (ok = true → ps1 = [(on, s, n)]) → MStL X bs bb nv vv g next w0 Lv cs l0 sv segs (ps ++ ps1) nx1 L xs w' → (∀ k, X k → w'.heap[k]? = w.heap[k]?) → K ⟨#[.pointer (some ⟨bb, 0, none⟩), c1, c2, c3, c4, c5, c6, c7, .int .i64 n, c9, c10, c11, .pointer (some ⟨A, 0, none⟩), .bool ok, c14, c15, c16, c17, c18, c19, c20, c21, c22, c23, c24, c25, c26, c27, c28, c29, c30, c31, c32, c33, c34, c35, c36, c37, c38, c39, c40, c41, c42, c43, c44, c45, c46, c47, c48, c49, c50, c51, c52, c53, c54, c55, c56, c57, c58, c59, c60, c61, c62, c63, c64, c65, c66, c67, c68, c69, c70, c71, c72, c73, c74, c75, c76, c77, c78, c79, c80, c81, c82, c83, c84, u85, u86, u87, u88, u89, u90, u91, u92, u93, u94, u95, u96, u97, u98, u99, u100, u101, c102, c103, c104, c105, c106, c107, c108, c109, c110, c111, c112, c113, c114, c115, c116, c117, c118, c119, c120, c121, c122, c123, c124], []⟩ w')) :
    Code.wp Try.prog (moreReg 16) (Exit.then K Q) ⟨#[.pointer (some ⟨bb, 0, none⟩), c1, c2, c3, c4, c5, c6, c7, .int .i64 n, c9, c10, c11, c12, c13, c14, c15, c16, c17, c18, c19, c20, c21, c22, c23, c24, c25, c26, c27, c28, c29, c30, c31, c32, c33, c34, c35, c36, c37, c38, c39, c40, c41, c42, c43, c44, c45, c46, c47, c48, c49, c50, c51, c52, c53, c54, c55, c56, c57, c58, c59, c60, c61, c62, c63, c64, c65, c66, c67, c68, c69, c70, c71, c72, c73, c74, c75, c76, c77, c78, c79, c80, c81, c82, c83, c84, c85, c86, c87, c88, c89, c90, c91, c92, c93, c94, c95, c96, c97, c98, c99, c100, c101, c102, c103, c104, c105, c106, c107, c108, c109, c110, c111, c112, c113, c114, c115, c116, c117, c118, c119, c120, c121, c122, c123, c124], []⟩ w := by
  conv => arg 2; whnf
  have c0 := M.m.post.bld.c0
  obtain ⟨dp, dcap, c7, l1, l2⟩ := M.m.post.bld.c7
  have hbw := M.m.post.bld.bbLt
  have hbs := M.m.post.bld.lt
  have hnb : ¬ bb = bs := by omega
  have HXL := M.xl
  have dk := M.m.took.ok hk.dk
  have hp := dk.pos
  have hle := dk.le
  refine wp_region_N (fun w' => w'.cell? ⟨bb, 0, none⟩ = some (.pointer (some ⟨bs, 0, none⟩)) ∧ w'.cell? ⟨bb, 7, none⟩ = some (.slice dp g.disks.length dcap)) (fun i => (decide (i < 13) && !([0, 1, 2, 3, 5, 6, 7, 8, 12] : List Nat).contains i) || i == 17) (by kernel_rfl) ⟨c0, c7⟩ (fun hHeld => ?_)
  (refine wpAnyE_takeW (i := 0) (v := ?_) rfl rfl (by kernel_rfl) (fun _ _ _ h => hQ _ _ _ _ _ h) (Or.inl ⟨by rfl, ?_⟩) ?_; rotate_left; (intro w _; go_simp; (try (with_reducible rfl))); (try simp only [Act.put, List.setIfInBounds_toArray, List.set_cons_zero, List.set_cons_succ])); (refine wpAnyE_takeW (i := 1) (v := ?_) rfl rfl (by kernel_rfl) (fun _ _ _ h => hQ _ _ _ _ _ h) (Or.inl ⟨by rfl, ?_⟩) ?_; rotate_left; (intro w _; go_simp; (try (with_reducible rfl))); (try simp only [Act.put, List.setIfInBounds_toArray, List.set_cons_zero, List.set_cons_succ])); (refine wpAnyE_takeW (i := 2) (v := ?_) rfl rfl (by kernel_rfl) (fun _ _ _ h => hQ _ _ _ _ _ h) (Or.inl ⟨by rfl, ?_⟩) ?_; rotate_left; (intro w _; go_simp; (try (with_reducible rfl))); (try simp only [Act.put, List.setIfInBounds_toArray, List.set_cons_zero, List.set_cons_succ])); (refine wpAnyE_takeW (i := 3) (v := ?_) rfl rfl (by kernel_rfl) (fun _ _ _ h => hQ _ _ _ _ _ h) (Or.inl ⟨by rfl, ?_⟩) ?_; rotate_left; (intro w _; go_simp; (try (with_reducible rfl))); (try simp only [Act.put, List.setIfInBounds_toArray, List.set_cons_zero, List.set_cons_succ])); (refine wpAnyE_takeW (i := 5) (v := ?_) rfl rfl (by kernel_rfl) (fun _ _ _ h => hQ _ _ _ _ _ h) (Or.inl ⟨by rfl, ?_⟩) ?_; rotate_left; (intro w _; go_simp; (try (with_reducible rfl))); (try simp only [Act.put, List.setIfInBounds_toArray, List.set_cons_zero, List.set_cons_succ])); (refine wpAnyE_takeW (i := 6) (v := ?_) rfl rfl (by kernel_rfl) (fun _ _ _ h => hQ _ _ _ _ _ h) (Or.inl ⟨by rfl, ?_⟩) ?_; rotate_left; (intro w _; go_simp; (try (with_reducible rfl))); (try simp only [Act.put, List.setIfInBounds_toArray, List.set_cons_zero, List.set_cons_succ])); (refine wpAnyE_takeW (i := 7) (v := ?_) rfl rfl (by kernel_rfl) (fun _ _ _ h => hQ _ _ _ _ _ h) (Or.inl ⟨by rfl, ?_⟩) ?_; rotate_left; (intro w _; go_simp; (try (with_reducible rfl))); (try simp only [Act.put, List.setIfInBounds_toArray, List.set_cons_zero, List.set_cons_succ])); (refine wpAnyE_takeW (i := 8) (v := ?_) rfl rfl (by kernel_rfl) (fun _ _ _ h => hQ _ _ _ _ _ h) (Or.inl ⟨by rfl, ?_⟩) ?_; rotate_left; (intro w _; go_simp; (try (with_reducible rfl))); (try simp only [Act.put, List.setIfInBounds_toArray, List.set_cons_zero, List.set_cons_succ])); (refine wpAnyE_takeW (i := 12) (v := ?_) rfl rfl (by kernel_rfl) (fun _ _ _ h => hQ _ _ _ _ _ h) (Or.inl ⟨by rfl, ?_⟩) ?_; rotate_left; (intro w _; go_simp; (try (with_reducible rfl))); (try simp only [Act.put, List.setIfInBounds_toArray, List.set_cons_zero, List.set_cons_succ])); (refine wpAnyE_take (i := 4) (v := ?_) rfl rfl (by kernel_rfl) (fun _ _ _ h => hQ _ _ _ _ _ h) (Or.inl ⟨by rfl, ?_⟩) hHeld ?_; rotate_left; (intro w hSw; (try dsimp only at hSw); go_simp; (try (with_reducible rfl))); (try simp only [Act.put, List.setIfInBounds_toArray, List.set_cons_zero, List.set_cons_succ])); (refine wpAnyE_take (i := 9) (v := ?_) rfl rfl (by kernel_rfl) (fun _ _ _ h => hQ _ _ _ _ _ h) (Or.inl ⟨by rfl, ?_⟩) hHeld ?_; rotate_left; (intro w hSw; (try dsimp only at hSw); go_simp; (try (with_reducible rfl))); (try simp only [Act.put, List.setIfInBounds_toArray, List.set_cons_zero, List.set_cons_succ])); (refine wpAnyE_take (i := 10) (v := ?_) rfl rfl (by kernel_rfl) (fun _ _ _ h => hQ _ _ _ _ _ h) (Or.inl ⟨by rfl, ?_⟩) hHeld ?_; rotate_left; (intro w hSw; (try dsimp only at hSw); go_simp; (try (with_reducible rfl))); (try simp only [Act.put, List.setIfInBounds_toArray, List.set_cons_zero, List.set_cons_succ]))
  have M7 := M.below ((Below.refl _ _).drew)
  have hbd : bb < w.drew.heap.size := hbw
  have HX : Hid (∀ k, X k → w.drew.heap[k]? = w.heap[k]?) := Lib.hid fun k _ => rfl
  have cd0 : w.drew.cell? ⟨bb, 0, none⟩ = _ := c0
  have cd7 : w.drew.cell? ⟨bb, 7, none⟩ = _ := c7
  generalize hwd : w.drew = wd at *
  clear hwd c0 c7 hHeld M
  have HS : Hid (∀ w' : World, w'.heap[bb]? = wd.heap[bb]? → w'.cell? ⟨bb, 0, none⟩ = some (.pointer (some ⟨bs, 0, none⟩)) ∧ w'.cell? ⟨bb, 7, none⟩ = some (.slice dp g.disks.length dcap)) := Lib.hid fun w' e => ⟨(World.cell?_of_block (w := wd) e).trans cd0, (World.cell?_of_block (w := wd) e).trans cd7⟩
  clear cd0 cd7
  refine wpAnyE_twoN (i := 11) (j := 17) rfl rfl rfl rfl (by kernel_rfl) (fun K1 hK1 => ?_) (fun K1 hK1 => ?_)
  · go_simp
    refine (N_any bs (g.disks.length : Int) _ (by omega) (by omega) M7.m.post.bld.src).mono ?_
    rintro e w6 ⟨dv, rfl, hdv1, hdv2, hsN, hmN⟩
    obtain ⟨dd, rfl⟩ : ∃ u : Nat, dv = u := ⟨dv.toNat, by omega⟩
    have M8 := M7.read hsN hmN
    replace HX : Hid (∀ k, X k → w6.heap[k]? = w.heap[k]?) := Lib.hid fun k q => ((M7.m.post.bld.readPost hsN hmN).loc M7.m.post.bld (.inl q)).trans (HX.out k q)
    have E6 := Lib.hid (hmN.block bb hbd hnb)
    have hbd6 := Nat.lt_of_lt_of_le hbd hmN.size
    refine hK1.out _ _ (fun _ => HS.out _ E6.out) ?_
    clear hK1 K1 hsN hmN M7
    refine wpAnyE_twoN (i := 13) (j := 17) rfl rfl rfl rfl (by kernel_rfl) (fun K1 hK1 => ?_) (fun K1 hK1 => ?_)
    · go_simp
      refine (M8.area hk dd (by omega) n hn1 (by omega)).mono ?_
      rintro e w7 ⟨on, s, ok, ps1, nx1, rfl, hok, M9, hbb, hlc⟩
      have HO := Lib.hid hok; clear hok
      replace HX : Hid (∀ k, X k → w7.heap[k]? = w.heap[k]?) := Lib.hid fun k q => (hlc k q).trans (HX.out k q)
      have E7 := Lib.hid (hbb.trans E6.out)
      have hbd7 := M9.m.post.bld.bbLt
      refine hK1.out _ _ (fun q => by simp at q) ?_
      clear hK1 K1 M8 hbb hlc
      (refine wpAnyE_takeW (i := 14) (v := ?_) rfl rfl (by kernel_rfl) (fun _ _ _ h => hQ _ _ _ _ _ h) (Or.inl ⟨by rfl, ?_⟩) ?_; rotate_left; (intro w _; go_simp; (try (with_reducible rfl))); (try simp only [Act.put, List.setIfInBounds_toArray, List.set_cons_zero, List.set_cons_succ])); (refine wpAnyE_takeW (i := 15) (v := ?_) rfl rfl (by kernel_rfl) (fun _ _ _ h => hQ _ _ _ _ _ h) (Or.inl ⟨by rfl, ?_⟩) ?_; rotate_left; (intro w _; go_simp; (try (with_reducible rfl))); (try simp only [Act.put, List.setIfInBounds_toArray, List.set_cons_zero, List.set_cons_succ])); (refine wpAnyE_takeW (i := 16) (v := ?_) rfl rfl (by kernel_rfl) (fun _ _ _ h => hQ _ _ _ _ _ h) (Or.inl ⟨by rfl, ?_⟩) ?_; rotate_left; (intro w _; go_simp; (try (with_reducible rfl))); (try simp only [Act.put, List.setIfInBounds_toArray, List.set_cons_zero, List.set_cons_succ]))
      refine wpAnyE_stepN (i := 17) rfl rfl (by kernel_rfl) (fun K1 hK1 => ?_)
      go_simp
      have MA := M9.fresh (.cells #[.bool false, .string ⟨#[]⟩, .int .i64 0] 98)
      have HA := Lib.hid (heap_alloc_new w7 (.cells #[.bool false, .string ⟨#[]⟩, .int .i64 0] 98))
      have hA1 := M9.m.hB
      have hA2 : sv.ownBlock ≠ some w7.heap.size := fun e => by have := M9.m.svLt e; omega
      have hA3 : L < w7.heap.size := lt_of_block M9.lx
      have HXA : Hid (∀ k, X k → k < w7.heap.size) := Lib.hid fun k q => (M9.m.post.bld.xlt k (.inl q)).2
      replace HX : Hid (∀ k, X k → (w7.alloc (.cells #[.bool false, .string ⟨#[]⟩, .int .i64 0] 98)).heap[k]? = w.heap[k]?) := Lib.hid fun k q => (Below.heap_alloc _ _ _ (HXA.out k q)).trans (HX.out k q)
      refine hK1.out _ _ (fun _ => HS.out _ ((Below.heap_alloc _ _ _ hbd7).trans E7.out)) ?_
      clear hK1 K1
      have EA := Lib.hid ((Below.heap_alloc w7 (.cells #[.bool false, .string ⟨#[]⟩, .int .i64 0] 98) _ hbd7).trans E7.out)
      generalize hWA : w7.alloc _ = WA at *
      generalize hA : w7.heap.size = A at *
      clear hWA hA
      refine wpAnyE_tailN 18 (fun t ht => by simp; omega) (by kernel_rfl) rfl ?_
      simp only [List.drop_succ_cons, List.drop_zero]
      have r0 : WA.cell? ⟨A, 0, none⟩ = some (.bool false) := by simp [World.cell?, HA.out]
      have r1 : WA.cell? ⟨A, 1, none⟩ = some (.string ⟨#[]⟩) := by simp [World.cell?, HA.out]
      have r2 : WA.cell? ⟨A, 2, none⟩ = some (.int .i64 0) := by simp [World.cell?, HA.out]
      have rf : ∀ i, WA.frozen? ⟨A, i, none⟩ = false := fun i => by simp [World.frozen?, HA.out]
      go_wp2
      exact HK.out A on s ok ps1 nx1 _ _ _ _ _ _ _ _ _ _ _ _ _ _ _ _ _ _ (block3 HA.out _ _ _) hA3 HO.out (((MA.put hA1 hA2 (by omega) 0 _).put hA1 hA2 (by omega) 1 _).put hA1 hA2 (by omega) 2 _ |>.drop HXL) (fun k q => by have := HXA.out k q; rw [Below.heap_setCell _ _ _ _ (show k ≠ A by omega), Below.heap_setCell _ _ _ _ (show k ≠ A by omega), Below.heap_setCell _ _ _ _ (show k ≠ A by omega)]; exact HX.out k q)
    · go_simp
      have MA := M8.fresh (.cells #[.bool false, .string ⟨#[]⟩, .int .i64 0] 98)
      have HA := Lib.hid (heap_alloc_new w6 (.cells #[.bool false, .string ⟨#[]⟩, .int .i64 0] 98))
      have hA1 := M8.m.hB
      have hA2 : sv.ownBlock ≠ some w6.heap.size := fun e => by have := M8.m.svLt e; omega
      have hA3 : L < w6.heap.size := lt_of_block M8.lx
      have HXA : Hid (∀ k, X k → k < w6.heap.size) := Lib.hid fun k q => (M8.m.post.bld.xlt k (.inl q)).2
      replace HX : Hid (∀ k, X k → (w6.alloc (.cells #[.bool false, .string ⟨#[]⟩, .int .i64 0] 98)).heap[k]? = w.heap[k]?) := Lib.hid fun k q => (Below.heap_alloc _ _ _ (HXA.out k q)).trans (HX.out k q)
      refine hK1.out _ _ (fun _ => HS.out _ ((Below.heap_alloc _ _ _ hbd6).trans E6.out)) ?_
      clear hK1 K1
      have EA := Lib.hid ((Below.heap_alloc w6 (.cells #[.bool false, .string ⟨#[]⟩, .int .i64 0] 98) _ hbd6).trans E6.out)
      generalize hWA : w6.alloc _ = WA at *
      generalize hA : w6.heap.size = A at *
      clear hWA hA
      refine wpAnyE_stepN (i := 13) rfl rfl (by kernel_rfl) (fun K1 hK1 => ?_)
      go_simp
      refine (MA.area hk dd (by omega) n hn1 (by omega)).mono ?_
      rintro e w7 ⟨on, s, ok, ps1, nx1, rfl, hok, M9, hbb, hlc⟩
      have HO := Lib.hid hok; clear hok
      replace HX : Hid (∀ k, X k → w7.heap[k]? = w.heap[k]?) := Lib.hid fun k q => (hlc k (.inl q)).trans (HX.out k q)
      replace HA := Lib.hid ((hlc A (.inr rfl)).trans HA.out)
      refine hK1.out _ _ (fun q => by simp at q) ?_
      clear hK1 K1 hbb hlc
      (refine wpAnyE_takeW (i := 14) (v := ?_) rfl rfl (by kernel_rfl) (fun _ _ _ h => hQ _ _ _ _ _ h) (Or.inl ⟨by rfl, ?_⟩) ?_; rotate_left; (intro w _; go_simp; (try (with_reducible rfl))); (try simp only [Act.put, List.setIfInBounds_toArray, List.set_cons_zero, List.set_cons_succ])); (refine wpAnyE_takeW (i := 15) (v := ?_) rfl rfl (by kernel_rfl) (fun _ _ _ h => hQ _ _ _ _ _ h) (Or.inl ⟨by rfl, ?_⟩) ?_; rotate_left; (intro w _; go_simp; (try (with_reducible rfl))); (try simp only [Act.put, List.setIfInBounds_toArray, List.set_cons_zero, List.set_cons_succ])); (refine wpAnyE_takeW (i := 16) (v := ?_) rfl rfl (by kernel_rfl) (fun _ _ _ h => hQ _ _ _ _ _ h) (Or.inl ⟨by rfl, ?_⟩) ?_; rotate_left; (intro w _; go_simp; (try (with_reducible rfl))); (try simp only [Act.put, List.setIfInBounds_toArray, List.set_cons_zero, List.set_cons_succ]))
      refine wpAnyE_tailN 18 (fun t ht => by simp; omega) (by kernel_rfl) rfl ?_
      simp only [List.drop_succ_cons, List.drop_zero]
      have r0 : w7.cell? ⟨A, 0, none⟩ = some (.bool false) := by simp [World.cell?, HA.out]
      have r1 : w7.cell? ⟨A, 1, none⟩ = some (.string ⟨#[]⟩) := by simp [World.cell?, HA.out]
      have r2 : w7.cell? ⟨A, 2, none⟩ = some (.int .i64 0) := by simp [World.cell?, HA.out]
      have rf : ∀ i, w7.frozen? ⟨A, i, none⟩ = false := fun i => by simp [World.frozen?, HA.out]
      go_wp2
      exact HK.out A on s ok ps1 nx1 _ _ _ _ _ _ _ _ _ _ _ _ _ _ _ _ _ _ (block3 HA.out _ _ _) hA3 HO.out (((M9.put hA1 hA2 (by omega) 0 _).put hA1 hA2 (by omega) 1 _).put hA1 hA2 (by omega) 2 _ |>.drop HXL) (fun k q => by have := HXA.out k q; rw [Below.heap_setCell _ _ _ _ (show k ≠ A by omega), Below.heap_setCell _ _ _ _ (show k ≠ A by omega), Below.heap_setCell _ _ _ _ (show k ≠ A by omega)]; exact HX.out k q)
  · go_simp
    have MA := M7.fresh (.cells #[.bool false, .string ⟨#[]⟩, .int .i64 0] 98)
    have HA := Lib.hid (heap_alloc_new wd (.cells #[.bool false, .string ⟨#[]⟩, .int .i64 0] 98))
    have hA1 := M7.m.hB
    have hA2 : sv.ownBlock ≠ some wd.heap.size := fun e => by have := M7.m.svLt e; omega
    have hA3 : L < wd.heap.size := lt_of_block M7.lx
    have HXA : Hid (∀ k, X k → k < wd.heap.size) := Lib.hid fun k q => (M7.m.post.bld.xlt k (.inl q)).2
    replace HX : Hid (∀ k, X k → (wd.alloc (.cells #[.bool false, .string ⟨#[]⟩, .int .i64 0] 98)).heap[k]? = w.heap[k]?) := Lib.hid fun k q => (Below.heap_alloc _ _ _ (HXA.out k q)).trans (HX.out k q)
    refine hK1.out _ _ (fun _ => HS.out _ (Below.heap_alloc _ _ _ hbd)) ?_
    clear hK1 K1
    have EA := Lib.hid (Below.heap_alloc wd (.cells #[.bool false, .string ⟨#[]⟩, .int .i64 0] 98) _ hbd)
    generalize hWA : wd.alloc _ = WA at *
    generalize hA : wd.heap.size = A at *
    clear hWA hA
    refine wpAnyE_stepN (i := 11) rfl rfl (by kernel_rfl) (fun K1 hK1 => ?_)
    go_simp
    refine (N_any bs (g.disks.length : Int) _ (by omega) (by omega) MA.m.post.bld.src).mono ?_
    rintro e w6 ⟨dv, rfl, hdv1, hdv2, hsN, hmN⟩
    obtain ⟨dd, rfl⟩ : ∃ u : Nat, dv = u := ⟨dv.toNat, by omega⟩
    have M8 := MA.read hsN hmN
    replace HX : Hid (∀ k, X k → w6.heap[k]? = w.heap[k]?) := Lib.hid fun k q => ((MA.m.post.bld.readPost hsN hmN).loc MA.m.post.bld (.inl (.inl q))).trans (HX.out k q)
    have E6 := Lib.hid ((hmN.block bb MA.m.post.bld.bbLt hnb).trans EA.out)
    replace HA := Lib.hid (((MA.m.post.bld.readPost hsN hmN).loc MA.m.post.bld (.inl (.inr rfl))).trans HA.out)
    refine hK1.out _ _ (fun _ => HS.out _ E6.out) ?_
    clear hK1 K1 hsN hmN MA EA
    refine wpAnyE_stepN (i := 13) rfl rfl (by kernel_rfl) (fun K1 hK1 => ?_)
    go_simp
    refine (M8.area hk dd (by omega) n hn1 (by omega)).mono ?_
    rintro e w7 ⟨on, s, ok, ps1, nx1, rfl, hok, M9, hbb, hlc⟩
    have HO := Lib.hid hok; clear hok
    replace HX : Hid (∀ k, X k → w7.heap[k]? = w.heap[k]?) := Lib.hid fun k q => (hlc k (.inl q)).trans (HX.out k q)
    replace HA := Lib.hid ((hlc A (.inr rfl)).trans HA.out)
    refine hK1.out _ _ (fun q => by simp at q) ?_
    clear hK1 K1 hbb hlc
    (refine wpAnyE_takeW (i := 14) (v := ?_) rfl rfl (by kernel_rfl) (fun _ _ _ h => hQ _ _ _ _ _ h) (Or.inl ⟨by rfl, ?_⟩) ?_; rotate_left; (intro w _; go_simp; (try (with_reducible rfl))); (try simp only [Act.put, List.setIfInBounds_toArray, List.set_cons_zero, List.set_cons_succ])); (refine wpAnyE_takeW (i := 15) (v := ?_) rfl rfl (by kernel_rfl) (fun _ _ _ h => hQ _ _ _ _ _ h) (Or.inl ⟨by rfl, ?_⟩) ?_; rotate_left; (intro w _; go_simp; (try (with_reducible rfl))); (try simp only [Act.put, List.setIfInBounds_toArray, List.set_cons_zero, List.set_cons_succ])); (refine wpAnyE_takeW (i := 16) (v := ?_) rfl rfl (by kernel_rfl) (fun _ _ _ h => hQ _ _ _ _ _ h) (Or.inl ⟨by rfl, ?_⟩) ?_; rotate_left; (intro w _; go_simp; (try (with_reducible rfl))); (try simp only [Act.put, List.setIfInBounds_toArray, List.set_cons_zero, List.set_cons_succ]))
    refine wpAnyE_tailN 18 (fun t ht => by simp; omega) (by kernel_rfl) rfl ?_
    simp only [List.drop_succ_cons, List.drop_zero]
    have r0 : w7.cell? ⟨A, 0, none⟩ = some (.bool false) := by simp [World.cell?, HA.out]
    have r1 : w7.cell? ⟨A, 1, none⟩ = some (.string ⟨#[]⟩) := by simp [World.cell?, HA.out]
    have r2 : w7.cell? ⟨A, 2, none⟩ = some (.int .i64 0) := by simp [World.cell?, HA.out]
    have rf : ∀ i, w7.frozen? ⟨A, i, none⟩ = false := fun i => by simp [World.frozen?, HA.out]
    go_wp2
    exact HK.out A on s ok ps1 nx1 _ _ _ _ _ _ _ _ _ _ _ _ _ _ _ _ _ _ (block3 HA.out _ _ _) hA3 HO.out (((M9.put hA1 hA2 (by omega) 0 _).put hA1 hA2 (by omega) 1 _).put hA1 hA2 (by omega) 2 _ |>.drop HXL) (fun k q => by have := HXA.out k q; rw [Below.heap_setCell _ _ _ _ (show k ≠ A by omega), Below.heap_setCell _ _ _ _ (show k ≠ A by omega), Below.heap_setCell _ _ _ _ (show k ≠ A by omega)]; exact HX.out k q)

end Go.Proofs.Yteengifhndmjeaa
