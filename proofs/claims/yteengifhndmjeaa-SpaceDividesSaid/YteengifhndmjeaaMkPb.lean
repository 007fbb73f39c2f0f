/- builder.compound: the other kinds. -/
import Derived.Test.YteengifhndmjeaaMkN
import Derived.IntWalk
namespace Go.Proofs.Yteengifhndmjeaa
open Go.RowKit

set_option maxRecDepth 100000 in
set_option maxHeartbeats 40000000 in
theorem comp_parity (X : Nat → Prop) (bs bb : Nat) (nv vv : Value) (g : GroupM) (next : List Int) (w : World) (name : ByteArray) (hname : name.size ≤ 100) (he1 : 1 ≤ g.extent) (he2 : g.extent ≤ 16) (n : Int) (hn1 : 1 ≤ n) (hn2 : n ≤ 3) (L : Nat) (W : World)
    (T0 : CSt X bs bb nv vv g next w (L + 1 + 1 + 1) L (L + 1) (L + 1 + 1) (.slice none 0 0) (.slice none 0 0) (.slice none 0 0) (.slice none 0 0) [] [] [] [] n 4 1 es 0 W)
    (J K' : Act → World → Prop) (Q0 : Ending → World → Prop)
    (HJ : CompJ X bs bb nv vv g next w L n name 4 J)
    (hK : ∀ (a' : Act) (w' : World), Met J a' w' → K' a' w') :
    Code.wp Try.prog compSw (Exit.then K' (bodyPost Try.prog Try.f59 Q0)) ⟨#[.pointer (some ⟨bb, 0, none⟩), .string name, .int .i64 4, undef, undef, undef, .int .i64 g.extent, .int .i64 n, .pointer (some ⟨L, 0, none⟩), .pointer (some ⟨L + 1, 0, none⟩), .pointer (some ⟨L + 1 + 1, 0, none⟩), .func (.func 74) #[] #[.pointer (some ⟨L + 1, 0, none⟩), .pointer (some ⟨L + 1 + 1, 0, none⟩), .pointer (some ⟨L, 0, none⟩)], undef, undef, undef, undef, .pointer (some ⟨bb, 0, none⟩), .pointer (some ⟨bb, 0, none⟩), .pointer (some ⟨bb, 1, none⟩), .pointer (some ⟨bb, 4, none⟩), .int .i64 g.extent, .pointer (some ⟨bb, 0, none⟩), .pointer (some ⟨bb, 0, none⟩), .pointer (some ⟨bb, 0, none⟩), .pointer (some ⟨bs, 0, none⟩), .int .i64 n, .int .i64 n, .int .i64 4, .agg #[.int .i64 0, .int .i64 n, .int .i64 4, .slice none 0 0, .int .i64 1, .slice none 0 0, .string ⟨#[]⟩, .string ⟨#[]⟩, .int .i64 0, .int .i64 0, .int .i64 0], .func (.func 74) #[] #[.pointer (some ⟨L + 1, 0, none⟩), .pointer (some ⟨L + 1 + 1, 0, none⟩), .pointer (some ⟨L, 0, none⟩)], .int .i64 4, undef, undef, undef, undef, undef, undef, undef, undef, undef, undef, undef, undef, undef, undef, undef, undef, undef, undef, undef, undef, undef, undef, undef, undef, undef, undef, undef, undef, undef, undef, undef, undef, undef, undef, undef, undef, undef, undef, undef, undef, undef, undef, undef, undef, undef, undef, undef, undef, undef, undef, undef, undef, undef, undef, undef, undef, undef, undef, undef, undef, undef, undef, undef, undef, undef, undef, undef, undef, undef, undef, undef, undef, undef, undef, undef, undef, undef, undef, undef, undef, undef, undef, undef, undef, undef, undef, undef, undef, undef, undef, undef, undef, undef, undef, undef, undef, undef, undef, undef, undef, undef, undef, undef, undef, undef, undef, undef, undef, undef, undef, undef, undef, undef, undef, undef, undef, undef, undef, undef, undef, undef, undef, undef, undef, undef, undef, undef, undef, undef, undef, undef, undef, undef, undef, undef, undef, undef, undef, undef, undef, undef, undef, undef, undef, undef, undef, undef, undef, undef, undef, undef, undef, undef, undef, undef, undef, undef, undef, undef, undef, undef, undef, undef, undef, undef, undef, undef, undef, undef, undef, undef, undef, undef, undef, undef, undef, undef, undef, undef, undef, undef, undef, undef, undef, undef, undef, undef, undef, undef, undef, undef, undef, undef, undef, undef, undef, undef, undef, undef, undef, undef, undef, undef, undef, undef, undef, undef, undef, undef, undef, undef, undef, undef, undef, undef, undef, undef, undef, undef, undef, undef, undef, undef, undef, undef, undef, undef, undef, undef, undef, undef, undef, undef, undef, undef, undef, undef, undef, undef, undef, undef, undef, undef, undef, undef, undef, undef, undef], []⟩ W := by
  conv => arg 2; whnf
  have c0 := T0.post.bld.c0
  go_wp2_with fail
  refine (N_any bs 2 _ (by omega) (by omega) T0.post.bld.src).mono ?_
  rintro e w2 ⟨kv, rfl, hk1, hk2, hs2, hm2⟩
  have T1 := T0.read hs2 hm2
  clear hm2 hs2 c0
  obtain ⟨kk, hkk⟩ : ∃ u : Nat, kv + 3 = (u : Int) := ⟨(kv + 3).toNat, by omega⟩
  obtain rfl : kv = (kk : Int) - 3 := by omega
  have hk3 : 3 ≤ kk := by omega
  have hk4 : kk ≤ 4 := by omega
  clear hkk
  have e1 : 3 + ((kk : Int) - 3) = kk := by omega
  have b1 : 0 ≤ n * ((kk : Int) - 1) ∧ n * ((kk : Int) - 1) ≤ 9 := by rcases (show n = 1 ∨ n = 2 ∨ n = 3 by omega) with rfl | rfl | rfl <;> omega
  have b2 := b1.1
  have b3 := b1.2
  have q1 : 0 ≤ (15 + g.extent) / g.extent := Int.ediv_nonneg (by omega) (by omega)
  have q2 : (15 + g.extent) / g.extent ≤ 31 := Int.le_trans (Int.ediv_le_self _ (by omega)) (by omega)
  obtain ⟨x1, f1⟩ := T1.cx 1 rfl
  go_upto_block 3 with (fail)
  have T2 : CSt X bs bb nv vv g next w (L + 1 + 1 + 1) L (L + 1) (L + 1 + 1) (.slice none 0 0) (.slice none 0 0) (.slice none 0 0) (.slice none 0 0) [] [] [] [] (n * ((kk : Int) - 1)) 4 1 es 0 (w2.setCell ⟨L, 1, none⟩ (.int .i64 (n * ((kk : Int) - 1)))) := T1.put 1 _ (fun _ => rfl)
  generalize hW2 : World.setCell w2 _ _ = W2 at *
  clear hW2 x1 f1 b1 T1
  go_wp2
  go_loopw [14] (fun i wr => ∃ (j : Nat) (nsv lsv av : Value), j ≤ kk ∧ i = .int .i64 j ∧ CSt X bs bb nv vv g next w (L + 1 + 1 + 1) L (L + 1) (L + 1 + 1) nsv lsv av (.slice none 0 0) (legNames name j) (List.replicate j (n + (15 + g.extent) / g.extent)) (volA (legNames name j)) [] (n * ((kk : Int) - 1)) 4 1 es 0 wr) (fun i _ => kk - (intOf i).toNat)
  case atStart => exact ⟨0, _, _, _, by omega, rfl, T2⟩
  case round =>
    obtain ⟨j, nsv, lsv, av, hj, rfl, T3⟩ := hrel
    by_cases hlt : j < kk
    · have z1 : (0 : Int) ≤ (j : Int) := by omega
      have z2 : (j : Int) < 4 := by omega
      have hcell : (wr.alloc (.cells #[.string ⟨#[48]⟩, .string ⟨#[49]⟩, .string ⟨#[50]⟩, .string ⟨#[51]⟩] 9)).cell? ⟨wr.heap.size, j, none⟩ = some (.string (digit j)) := by
        refine cell_new rfl ?_
        rcases (show j = 0 ∨ j = 1 ∨ j = 2 ∨ j = 3 by omega) with rfl | rfl | rfl | rfl <;> rfl
      have hds : (digit j).size = 1 := rfl
      have hc1 : ¬ (9223372036854775807 < name.size + 4) := by omega
      have hne0 : ¬ g.extent = 0 := by omega
      have hne1 : (g.extent == 0) = false := by simpa using hne0
      have hw1 : IntKind.i64.wrap (15 + g.extent) = 15 + g.extent := IntWalk.i64_in _ (by omega)
      have hw2 : (15 + g.extent).tdiv g.extent = (15 + g.extent) / g.extent := Int.tdiv_eq_ediv_of_nonneg (by omega)
      have hw3 : IntKind.i64.wrap ((15 + g.extent) / g.extent) = (15 + g.extent) / g.extent := IntWalk.i64_in _ (by omega)
      have hw4 : IntKind.i64.wrap (n + (15 + g.extent) / g.extent) = n + (15 + g.extent) / g.extent := IntWalk.i64_in _ (by omega)
      have hc2 : ¬ (9223372036854775807 < name.size + 4 + 1) := by omega
      go_wp2
      refine wp_region_E (fun _ => True) 14 [] (by kernel_rfl) trivial (fun hHeld => ?_)
      (refine wpAnyE_take (i := 0) (v := ?_) rfl rfl (by kernel_rfl) (fun _ _ _ h => h) (Or.inl ⟨by rfl, ?_⟩) hHeld ?_; rotate_left; (intro w hSw; (try dsimp only at hSw); go_simp; (try (with_reducible rfl))); (try simp only [Act.put, List.setIfInBounds_toArray, List.set_cons_zero, List.set_cons_succ])); (refine wpAnyE_take (i := 1) (v := ?_) rfl rfl (by kernel_rfl) (fun _ _ _ h => h) (Or.inl ⟨by rfl, ?_⟩) hHeld ?_; rotate_left; (intro w hSw; (try dsimp only at hSw); go_simp; (try (with_reducible rfl))); (try simp only [Act.put, List.setIfInBounds_toArray, List.set_cons_zero, List.set_cons_succ])); (refine wpAnyE_take (i := 2) (v := ?_) rfl rfl (by kernel_rfl) (fun _ _ _ h => h) (Or.inl ⟨by rfl, ?_⟩) hHeld ?_; rotate_left; (intro w hSw; (try dsimp only at hSw); go_simp; (try (with_reducible rfl))); (try simp only [Act.put, List.setIfInBounds_toArray, List.set_cons_zero, List.set_cons_succ])); (refine wpAnyE_take (i := 4) (v := ?_) rfl rfl (by kernel_rfl) (fun _ _ _ h => h) (Or.inl ⟨by rfl, ?_⟩) hHeld ?_; rotate_left; (intro w hSw; (try dsimp only at hSw); go_simp; (try (with_reducible rfl))); (try simp only [Act.put, List.setIfInBounds_toArray, List.set_cons_zero, List.set_cons_succ])); (refine wpAnyE_take (i := 8) (v := ?_) rfl rfl (by kernel_rfl) (fun _ _ _ h => h) (Or.inl ⟨by rfl, ?_⟩) hHeld ?_; rotate_left; (intro w hSw; (try dsimp only at hSw); go_simp; (try (with_reducible rfl))); (try simp only [Act.put, List.setIfInBounds_toArray, List.set_cons_zero, List.set_cons_succ])); (refine wpAnyE_take (i := 9) (v := ?_) rfl rfl (by kernel_rfl) (fun _ _ _ h => h) (Or.inl ⟨by rfl, ?_⟩) hHeld ?_; rotate_left; (intro w hSw; (try dsimp only at hSw); go_simp; (try (with_reducible rfl))); (try simp only [Act.put, List.setIfInBounds_toArray, List.set_cons_zero, List.set_cons_succ])); (refine wpAnyE_take (i := 10) (v := ?_) rfl rfl (by kernel_rfl) (fun _ _ _ h => h) (Or.inl ⟨by rfl, ?_⟩) hHeld ?_; rotate_left; (intro w hSw; (try dsimp only at hSw); go_simp; (try (with_reducible rfl))); (try simp only [Act.put, List.setIfInBounds_toArray, List.set_cons_zero, List.set_cons_succ])); (refine wpAnyE_take (i := 11) (v := ?_) rfl rfl (by kernel_rfl) (fun _ _ _ h => h) (Or.inl ⟨by rfl, ?_⟩) hHeld ?_; rotate_left; (intro w hSw; (try dsimp only at hSw); go_simp; (try (with_reducible rfl))); (try simp only [Act.put, List.setIfInBounds_toArray, List.set_cons_zero, List.set_cons_succ])); (refine wpAnyE_take (i := 12) (v := ?_) rfl rfl (by kernel_rfl) (fun _ _ _ h => h) (Or.inl ⟨by rfl, ?_⟩) hHeld ?_; rotate_left; (intro w hSw; (try dsimp only at hSw); go_simp; (try (with_reducible rfl))); (try simp only [Act.put, List.setIfInBounds_toArray, List.set_cons_zero, List.set_cons_succ])); (refine wpAnyE_take (i := 13) (v := ?_) rfl rfl (by kernel_rfl) (fun _ _ _ h => h) (Or.inl ⟨by rfl, ?_⟩) hHeld ?_; rotate_left; (intro w hSw; (try dsimp only at hSw); go_simp; (try (with_reducible rfl))); (try simp only [Act.put, List.setIfInBounds_toArray, List.set_cons_zero, List.set_cons_succ]))
      (refine wpAnyE_step (i := 3) rfl rfl (by kernel_rfl) (fun K hK => ?_); go_simp; refine hK.out _ _ trivial ?_; clear hK K); (refine wpAnyE_step (i := 5) rfl rfl (by kernel_rfl) (fun K hK => ?_); go_simp; refine hK.out _ _ trivial ?_; clear hK K); (refine wpAnyE_step (i := 6) rfl rfl (by kernel_rfl) (fun K hK => ?_); go_simp; refine hK.out _ _ trivial ?_; clear hK K); (refine wpAnyE_step (i := 7) rfl rfl (by kernel_rfl) (fun K hK => ?_); go_simp; refine hK.out _ _ trivial ?_; clear hK K)
      refine wpAnyE_tail (by kernel_rfl) rfl ?_
      simp only [List.drop_succ_cons, List.drop_zero]
      clear hw1 hw2 hw3 hw4 hcell
      have T4 := (T3.below (below_alloc wr (.cells #[.string ⟨#[48]⟩, .string ⟨#[49]⟩, .string ⟨#[50]⟩, .string ⟨#[51]⟩] 9))).below ((Below.refl _ _).drew)
      go_wp2_with fail
      refine (add_any _ _ _ _ _ _ _ _ _ _ _ _ _ _ _ _ _ _ _ _ _ _ (fun _ => rfl) T4.loc T4.hB _ _ (by simp [legNames]; omega) (by simp; omega) (by simp [volA, legNames]; omega)).mono ?_
      rintro e w3 ⟨rfl, nsv1, lsv1, av1, A1⟩
      have T5 := T4.add A1
      clear A1
      go_wp2
      go_roundw
      case rel =>
        refine ⟨j + 1, nsv1, lsv1, av1, by omega, by go_num, ?_⟩
        rw [legNames_succ, volA_snoc, List.replicate_succ']
        exact T5
      case measure => simp [intOf]; omega
    · obtain rfl : j = kk := by omega
      have c0 := T3.post.bld.c0
      go_wp2_with fail
      refine (N_any bs 2 _ (by omega) (by omega) T3.post.bld.src).mono ?_
      rintro e w3 ⟨v3, rfl, hv1, hv2, hs3, hm3⟩
      have T4 := T3.read hs3 hm3
      clear hm3 hs3 c0
      by_cases hv0 : v3 = 0
      · subst hv0
        obtain ⟨x4, f4⟩ := T4.cx 4 rfl
        go_wp2
        have hJ := HJ
        unfold CompJ at hJ
        go_meet
        exact ⟨_, _, _, _, _, _, _, .parity j ⟨hk3, hk4⟩ g.extent (.inr rfl), T4.put 4 _ (fun _ => rfl)⟩
      · have hvb : (v3 == 0) = false := by simpa using hv0
        go_wp2
        have hJ := HJ
        unfold CompJ at hJ
        go_meet
        exact ⟨_, _, _, _, _, _, _, .parity j ⟨hk3, hk4⟩ 1 (.inl rfl), T4⟩

set_option maxRecDepth 100000 in
set_option maxHeartbeats 40000000 in
theorem comp_pool (X : Nat → Prop) (bs bb : Nat) (nv vv : Value) (g : GroupM) (next : List Int) (w : World) (name : ByteArray) (hname : name.size ≤ 100) (_he1 : 1 ≤ g.extent) (_he2 : g.extent ≤ 16) (n : Int) (_hn1 : 1 ≤ n) (_hn2 : n ≤ 3) (L : Nat) (W : World)
    (T0 : CSt X bs bb nv vv g next w (L + 1 + 1 + 1) L (L + 1) (L + 1 + 1) (.slice none 0 0) (.slice none 0 0) (.slice none 0 0) (.slice none 0 0) [] [] [] [] n 5 1 es 0 W)
    (J K' : Act → World → Prop) (Q0 : Ending → World → Prop)
    (HJ : CompJ X bs bb nv vv g next w L n name 5 J)
    (hK : ∀ (a' : Act) (w' : World), Met J a' w' → K' a' w') :
    Code.wp Try.prog compSw (Exit.then K' (bodyPost Try.prog Try.f59 Q0)) ⟨#[.pointer (some ⟨bb, 0, none⟩), .string name, .int .i64 5, undef, undef, undef, .int .i64 g.extent, .int .i64 n, .pointer (some ⟨L, 0, none⟩), .pointer (some ⟨L + 1, 0, none⟩), .pointer (some ⟨L + 1 + 1, 0, none⟩), .func (.func 74) #[] #[.pointer (some ⟨L + 1, 0, none⟩), .pointer (some ⟨L + 1 + 1, 0, none⟩), .pointer (some ⟨L, 0, none⟩)], undef, undef, undef, undef, .pointer (some ⟨bb, 0, none⟩), .pointer (some ⟨bb, 0, none⟩), .pointer (some ⟨bb, 1, none⟩), .pointer (some ⟨bb, 4, none⟩), .int .i64 g.extent, .pointer (some ⟨bb, 0, none⟩), .pointer (some ⟨bb, 0, none⟩), .pointer (some ⟨bb, 0, none⟩), .pointer (some ⟨bs, 0, none⟩), .int .i64 n, .int .i64 n, .int .i64 5, .agg #[.int .i64 0, .int .i64 n, .int .i64 5, .slice none 0 0, .int .i64 1, .slice none 0 0, .string ⟨#[]⟩, .string ⟨#[]⟩, .int .i64 0, .int .i64 0, .int .i64 0], .func (.func 74) #[] #[.pointer (some ⟨L + 1, 0, none⟩), .pointer (some ⟨L + 1 + 1, 0, none⟩), .pointer (some ⟨L, 0, none⟩)], .int .i64 5, undef, undef, undef, undef, undef, undef, undef, undef, undef, undef, undef, undef, undef, undef, undef, undef, undef, undef, undef, undef, undef, undef, undef, undef, undef, undef, undef, undef, undef, undef, undef, undef, undef, undef, undef, undef, undef, undef, undef, undef, undef, undef, undef, undef, undef, undef, undef, undef, undef, undef, undef, undef, undef, undef, undef, undef, undef, undef, undef, undef, undef, undef, undef, undef, undef, undef, undef, undef, undef, undef, undef, undef, undef, undef, undef, undef, undef, undef, undef, undef, undef, undef, undef, undef, undef, undef, undef, undef, undef, undef, undef, undef, undef, undef, undef, undef, undef, undef, undef, undef, undef, undef, undef, undef, undef, undef, undef, undef, undef, undef, undef, undef, undef, undef, undef, undef, undef, undef, undef, undef, undef, undef, undef, undef, undef, undef, undef, undef, undef, undef, undef, undef, undef, undef, undef, undef, undef, undef, undef, undef, undef, undef, undef, undef, undef, undef, undef, undef, undef, undef, undef, undef, undef, undef, undef, undef, undef, undef, undef, undef, undef, undef, undef, undef, undef, undef, undef, undef, undef, undef, undef, undef, undef, undef, undef, undef, undef, undef, undef, undef, undef, undef, undef, undef, undef, undef, undef, undef, undef, undef, undef, undef, undef, undef, undef, undef, undef, undef, undef, undef, undef, undef, undef, undef, undef, undef, undef, undef, undef, undef, undef, undef, undef, undef, undef, undef, undef, undef, undef, undef, undef, undef, undef, undef, undef, undef, undef, undef, undef, undef, undef, undef, undef, undef, undef, undef, undef, undef, undef, undef, undef, undef, undef, undef, undef, undef, undef, undef], []⟩ W := by
  conv => arg 2; whnf
  have c0 := T0.post.bld.c0
  go_wp2_with fail
  refine (Range_any bs 1 3 _ (by omega) (by omega) (by omega) T0.post.bld.src).mono ?_
  rintro e w2 ⟨l, rfl, hl1, hl2, hs2, hm2⟩
  have T1 := T0.read hs2 hm2
  clear hm2 hs2 c0
  go_wp2_with fail
  refine (add_any _ _ _ _ _ _ _ _ _ _ _ _ _ _ _ _ _ _ _ _ _ _ (fun _ => rfl) T1.loc T1.hB _ _ (by simp) (by simp) (by simp)).mono ?_
  rintro e w3 ⟨rfl, nsv1, lsv1, av1, A1⟩
  have T2 := T1.add A1
  clear A1
  go_wp2_with fail
  refine (add_any _ _ _ _ _ _ _ _ _ _ _ _ _ _ _ _ _ _ _ _ _ _ (fun _ => rfl) T2.loc T2.hB _ _ (by simp) (by simp) (by simp)).mono ?_
  rintro e w4 ⟨rfl, nsv2, lsv2, av2, A2⟩
  have T3 := T2.add A2
  clear A2
  have c0 := T3.post.bld.c0
  go_wp2_with fail
  refine (Range_any bs 1 8 _ (by omega) (by omega) (by omega) T3.post.bld.src).mono ?_
  rintro e w5 ⟨c, rfl, hc1, hc2, hs5, hm5⟩
  have T4 := T3.read hs5 hm5
  clear hm5 hs5 c0
  obtain ⟨x4, f4⟩ := T4.cx 4 rfl
  go_wp2
  have hJ := HJ
  unfold CompJ at hJ
  go_meet
  exact ⟨_, _, _, _, _, _, _, .pool l c ⟨hl1, hl2⟩ ⟨hc1, hc2⟩, T4.put 4 _ (fun _ => rfl)⟩

set_option maxRecDepth 100000 in
set_option maxHeartbeats 40000000 in
theorem comp_cache (X : Nat → Prop) (bs bb : Nat) (nv vv : Value) (g : GroupM) (next : List Int) (w : World) (name : ByteArray) (hname : name.size ≤ 100) (_he1 : 1 ≤ g.extent) (_he2 : g.extent ≤ 16) (n : Int) (_hn1 : 1 ≤ n) (_hn2 : n ≤ 3) (L : Nat) (W : World)
    (T0 : CSt X bs bb nv vv g next w (L + 1 + 1 + 1) L (L + 1) (L + 1 + 1) (.slice none 0 0) (.slice none 0 0) (.slice none 0 0) (.slice none 0 0) [] [] [] [] n 7 1 es 0 W)
    (J K' : Act → World → Prop) (Q0 : Ending → World → Prop)
    (HJ : CompJ X bs bb nv vv g next w L n name 7 J)
    (hK : ∀ (a' : Act) (w' : World), Met J a' w' → K' a' w') :
    Code.wp Try.prog compSw (Exit.then K' (bodyPost Try.prog Try.f59 Q0)) ⟨#[.pointer (some ⟨bb, 0, none⟩), .string name, .int .i64 7, undef, undef, undef, .int .i64 g.extent, .int .i64 n, .pointer (some ⟨L, 0, none⟩), .pointer (some ⟨L + 1, 0, none⟩), .pointer (some ⟨L + 1 + 1, 0, none⟩), .func (.func 74) #[] #[.pointer (some ⟨L + 1, 0, none⟩), .pointer (some ⟨L + 1 + 1, 0, none⟩), .pointer (some ⟨L, 0, none⟩)], undef, undef, undef, undef, .pointer (some ⟨bb, 0, none⟩), .pointer (some ⟨bb, 0, none⟩), .pointer (some ⟨bb, 1, none⟩), .pointer (some ⟨bb, 4, none⟩), .int .i64 g.extent, .pointer (some ⟨bb, 0, none⟩), .pointer (some ⟨bb, 0, none⟩), .pointer (some ⟨bb, 0, none⟩), .pointer (some ⟨bs, 0, none⟩), .int .i64 n, .int .i64 n, .int .i64 7, .agg #[.int .i64 0, .int .i64 n, .int .i64 7, .slice none 0 0, .int .i64 1, .slice none 0 0, .string ⟨#[]⟩, .string ⟨#[]⟩, .int .i64 0, .int .i64 0, .int .i64 0], .func (.func 74) #[] #[.pointer (some ⟨L + 1, 0, none⟩), .pointer (some ⟨L + 1 + 1, 0, none⟩), .pointer (some ⟨L, 0, none⟩)], .int .i64 7, undef, undef, undef, undef, undef, undef, undef, undef, undef, undef, undef, undef, undef, undef, undef, undef, undef, undef, undef, undef, undef, undef, undef, undef, undef, undef, undef, undef, undef, undef, undef, undef, undef, undef, undef, undef, undef, undef, undef, undef, undef, undef, undef, undef, undef, undef, undef, undef, undef, undef, undef, undef, undef, undef, undef, undef, undef, undef, undef, undef, undef, undef, undef, undef, undef, undef, undef, undef, undef, undef, undef, undef, undef, undef, undef, undef, undef, undef, undef, undef, undef, undef, undef, undef, undef, undef, undef, undef, undef, undef, undef, undef, undef, undef, undef, undef, undef, undef, undef, undef, undef, undef, undef, undef, undef, undef, undef, undef, undef, undef, undef, undef, undef, undef, undef, undef, undef, undef, undef, undef, undef, undef, undef, undef, undef, undef, undef, undef, undef, undef, undef, undef, undef, undef, undef, undef, undef, undef, undef, undef, undef, undef, undef, undef, undef, undef, undef, undef, undef, undef, undef, undef, undef, undef, undef, undef, undef, undef, undef, undef, undef, undef, undef, undef, undef, undef, undef, undef, undef, undef, undef, undef, undef, undef, undef, undef, undef, undef, undef, undef, undef, undef, undef, undef, undef, undef, undef, undef, undef, undef, undef, undef, undef, undef, undef, undef, undef, undef, undef, undef, undef, undef, undef, undef, undef, undef, undef, undef, undef, undef, undef, undef, undef, undef, undef, undef, undef, undef, undef, undef, undef, undef, undef, undef, undef, undef, undef, undef, undef, undef, undef, undef, undef, undef, undef, undef, undef, undef, undef, undef, undef, undef, undef, undef, undef, undef, undef, undef], []⟩ W := by
  conv => arg 2; whnf
  go_wp2_with fail
  refine (add_any _ _ _ _ _ _ _ _ _ _ _ _ _ _ _ _ _ _ _ _ _ _ (fun _ => rfl) T0.loc T0.hB _ _ (by simp) (by simp) (by simp)).mono ?_
  rintro e w3 ⟨rfl, nsv1, lsv1, av1, A1⟩
  have T1 := T0.add A1
  clear A1
  have c0 := T1.post.bld.c0
  go_wp2_with fail
  refine (Range_any bs 1 2 _ (by omega) (by omega) (by omega) T1.post.bld.src).mono ?_
  rintro e w2 ⟨l, rfl, hl1, hl2, hs2, hm2⟩
  have T2 := T1.read hs2 hm2
  clear hm2 hs2 c0
  go_wp2_with fail
  refine (add_any _ _ _ _ _ _ _ _ _ _ _ _ _ _ _ _ _ _ _ _ _ _ (fun _ => rfl) T2.loc T2.hB _ _ (by simp) (by simp) (by simp)).mono ?_
  rintro e w4 ⟨rfl, nsv2, lsv2, av2, A2⟩
  have T3 := T2.add A2
  clear A2
  go_wp2_with fail
  refine (add_any _ _ _ _ _ _ _ _ _ _ _ _ _ _ _ _ _ _ _ _ _ _ (fun _ => rfl) T3.loc T3.hB _ _ (by simp) (by simp) (by simp)).mono ?_
  rintro e w5 ⟨rfl, nsv3, lsv3, av3, A3⟩
  have T4 := T3.add A3
  clear A3
  have c0 := T4.post.bld.c0
  have hb4 := T4.post.bld.bbLt
  go_wp2
  refine wp_region_E (fun w' => w'.cell? ⟨bb, 0, none⟩ = some (.pointer (some ⟨bs, 0, none⟩))) 11 [0, 1, 2, 5, 6, 7] (by kernel_rfl) c0 (fun hHeld => ?_)
  (refine wpAnyE_takeW (i := 0) (v := ?_) rfl rfl (by kernel_rfl) (fun _ _ _ h => h) (Or.inl ⟨by rfl, ?_⟩) ?_; rotate_left; (intro w _; go_simp; (try (with_reducible rfl))); (try simp only [Act.put, List.setIfInBounds_toArray, List.set_cons_zero, List.set_cons_succ])); (refine wpAnyE_takeW (i := 1) (v := ?_) rfl rfl (by kernel_rfl) (fun _ _ _ h => h) (Or.inl ⟨by rfl, ?_⟩) ?_; rotate_left; (intro w _; go_simp; (try (with_reducible rfl))); (try simp only [Act.put, List.setIfInBounds_toArray, List.set_cons_zero, List.set_cons_succ])); (refine wpAnyE_takeW (i := 2) (v := ?_) rfl rfl (by kernel_rfl) (fun _ _ _ h => h) (Or.inl ⟨by rfl, ?_⟩) ?_; rotate_left; (intro w _; go_simp; (try (with_reducible rfl))); (try simp only [Act.put, List.setIfInBounds_toArray, List.set_cons_zero, List.set_cons_succ])); (refine wpAnyE_takeW (i := 5) (v := ?_) rfl rfl (by kernel_rfl) (fun _ _ _ h => h) (Or.inl ⟨by rfl, ?_⟩) ?_; rotate_left; (intro w _; go_simp; (try (with_reducible rfl))); (try simp only [Act.put, List.setIfInBounds_toArray, List.set_cons_zero, List.set_cons_succ])); (refine wpAnyE_takeW (i := 6) (v := ?_) rfl rfl (by kernel_rfl) (fun _ _ _ h => h) (Or.inl ⟨by rfl, ?_⟩) ?_; rotate_left; (intro w _; go_simp; (try (with_reducible rfl))); (try simp only [Act.put, List.setIfInBounds_toArray, List.set_cons_zero, List.set_cons_succ])); (refine wpAnyE_takeW (i := 7) (v := ?_) rfl rfl (by kernel_rfl) (fun _ _ _ h => h) (Or.inl ⟨by rfl, ?_⟩) ?_; rotate_left; (intro w _; go_simp; (try (with_reducible rfl))); (try simp only [Act.put, List.setIfInBounds_toArray, List.set_cons_zero, List.set_cons_succ])); (refine wpAnyE_take (i := 3) (v := ?_) rfl rfl (by kernel_rfl) (fun _ _ _ h => h) (Or.inl ⟨by rfl, ?_⟩) hHeld ?_; rotate_left; (intro w hSw; (try dsimp only at hSw); go_simp; (try (with_reducible rfl))); (try simp only [Act.put, List.setIfInBounds_toArray, List.set_cons_zero, List.set_cons_succ])); (refine wpAnyE_take (i := 8) (v := ?_) rfl rfl (by kernel_rfl) (fun _ _ _ h => h) (Or.inl ⟨by rfl, ?_⟩) hHeld ?_; rotate_left; (intro w hSw; (try dsimp only at hSw); go_simp; (try (with_reducible rfl))); (try simp only [Act.put, List.setIfInBounds_toArray, List.set_cons_zero, List.set_cons_succ]))
  refine wpAnyE_step (i := 4) rfl rfl (by kernel_rfl) (fun K hK => ?_)
  go_simp
  refine (Range_any bs 1 2 _ (by omega) (by omega) (by omega) (T4.below ((Below.refl _ _).drew)).post.bld.src).mono ?_
  rintro e w6 ⟨m, rfl, hm1, hm2, hs6, hm6⟩
  have T5 := (T4.below ((Below.refl _ _).drew)).read hs6 hm6
  refine hK.out _ _ T5.post.bld.c0 ?_
  clear hK K hs6 hm6 hHeld
  have hHeld := T5.post.bld.c0
  (refine wpAnyE_take (i := 10) (v := ?_) rfl rfl (by kernel_rfl) (fun _ _ _ h => h) (Or.inl ⟨by rfl, ?_⟩) hHeld ?_; rotate_left; (intro w hSw; (try dsimp only at hSw); go_simp; (try (with_reducible rfl))); (try simp only [Act.put, List.setIfInBounds_toArray, List.set_cons_zero, List.set_cons_succ]))
  refine wpAnyE_step (i := 9) rfl rfl (by kernel_rfl) (fun K hK => ?_)
  go_simp
  refine (Range_any bs 1 4 _ (by omega) (by omega) (by omega) T5.post.bld.src).mono ?_
  rintro e w7 ⟨c, rfl, hc1, hc2, hs7, hm7⟩
  have T6 := T5.read hs7 hm7
  refine hK.out _ _ T6.post.bld.c0 ?_
  clear hK K hs7 hm7 c0 hHeld
  refine wpAnyE_tail (by kernel_rfl) rfl ?_
  simp only [List.drop_succ_cons, List.drop_zero]
  obtain ⟨x4, f4⟩ := T6.cx 4 rfl
  obtain ⟨x9, f9⟩ := T6.cx 9 rfl
  go_wp2
  have hJ := HJ
  unfold CompJ at hJ
  go_meet
  exact ⟨_, _, _, _, _, _, _, .cache l m c ⟨hl1, hl2⟩ ⟨hm1, hm2⟩ ⟨hc1, hc2⟩, (T6.put 9 _ (fun _ => rfl)).put 4 _ (fun _ => rfl)⟩

end Go.Proofs.Yteengifhndmjeaa
