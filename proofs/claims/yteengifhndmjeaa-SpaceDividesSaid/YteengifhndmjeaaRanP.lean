/- Sets of integers as lists of ranges: numbers of elements, the least numbers, the first run. Plain mathematics; no program. -/
import Derived.Test.YteengifhndmjeaaRanM
import Derived.Test.YteengifhndmjeaaRanC
namespace Go.Proofs.Yteengifhndmjeaa

theorem ltge (a b : Int) : a < b ∨ b ≤ a := by omega

/-- How many of 0 .. M-1 are in a set. -/
def cnt (M : Nat) (S : Int → Bool) : Int := (((List.range M).countP fun i : Nat => S (i : Int) : Nat) : Int)

theorem cnt_succ (M : Nat) (S : Int → Bool) : cnt (M + 1) S = cnt M S + if S (M : Int) then 1 else 0 := by
  unfold cnt
  rw [List.range_succ, List.countP_append]
  cases h : S (M : Int) <;> simp [h]
theorem cnt_congr (M : Nat) (S T : Int → Bool) (h : ∀ n, S n = T n) : cnt M S = cnt M T := by
  have : S = T := funext h
  rw [this]
theorem cnt_or_and (M : Nat) (S T : Int → Bool) : cnt M (fun n => S n || T n) + cnt M (fun n => S n && T n) = cnt M S + cnt M T := by
  induction M with
  | zero => simp [cnt]
  | succ M ih =>
    rw [cnt_succ, cnt_succ, cnt_succ, cnt_succ]
    cases S (M : Int) <;> cases T (M : Int) <;> simp <;> omega
theorem cnt_none (M : Nat) (S : Int → Bool) (h : ∀ n, S n = false) : cnt M S = 0 := by
  induction M with
  | zero => simp [cnt]
  | succ M ih => rw [cnt_succ, ih, h]; simp
theorem cnt_run (M : Nat) (a b : Int) (ha : 0 ≤ a) (hab : a ≤ b) : cnt M (fun n => decide (a ≤ n) && decide (n < b)) = max 0 (min b M - a) := by
  induction M with
  | zero => simp [cnt]; omega
  | succ M ih =>
    rw [cnt_succ, ih]
    by_cases h1 : a ≤ (M : Int)
    · by_cases h2 : (M : Int) < b
      · simp [h1, h2]; omega
      · simp [h1, h2]; omega
    · simp [h1]; omega

theorem sumR_cnt (M : Nat) : ∀ (x : List (Int × Int)), NF x → (∀ p ∈ x, 0 ≤ p.1 ∧ p.1 + p.2 ≤ M) → sumR x = cnt M (inB x)
  | [], _, _ => by rw [cnt_none M _ (fun n => by simp [inB])]; rfl
  | p :: x, h, hb => by
    have hp := hb p (by simp)
    have hh := h.head
    have ih := sumR_cnt M x h.tail (fun q hq => hb q (by simp [hq]))
    have e : sumR (p :: x) = p.2 + sumR x := by simp [sumR]
    have e2 : cnt M (inB (p :: x)) = cnt M (fun n => (decide (p.1 ≤ n) && decide (n < p.1 + p.2)) || inB x n) := cnt_congr M _ _ (fun n => by simp [inB])
    have e3 := cnt_or_and M (fun n => decide (p.1 ≤ n) && decide (n < p.1 + p.2)) (inB x)
    have e4 : cnt M (fun n => (decide (p.1 ≤ n) && decide (n < p.1 + p.2)) && inB x n) = 0 := cnt_none M _ (fun n => by
      rw [Bool.eq_false_iff]
      intro hc
      simp at hc
      obtain ⟨q, hq, h1, _⟩ := (inB_iff x n).1 hc.2
      have := hh.2 q hq
      omega)
    have e5 := cnt_run M p.1 (p.1 + p.2) (by omega) (by omega)
    rw [e, e2, ih]
    omega

/-- The numbers of elements add up. -/
theorem sum_or_and (M : Nat) (x y z t : List (Int × Int)) (S T : Int → Bool) (hx : NFof x fun n => S n = true) (hy : NFof y fun n => T n = true) (hz : NFof z fun n => (S n || T n) = true) (ht : NFof t fun n => (S n && T n) = true)
    (bx : ∀ p ∈ x, 0 ≤ p.1 ∧ p.1 + p.2 ≤ M) (by' : ∀ p ∈ y, 0 ≤ p.1 ∧ p.1 + p.2 ≤ M) (bz : ∀ p ∈ z, 0 ≤ p.1 ∧ p.1 + p.2 ≤ M) (bt : ∀ p ∈ t, 0 ≤ p.1 ∧ p.1 + p.2 ≤ M) : sumR z + sumR t = sumR x + sumR y := by
  have key : ∀ (l : List (Int × Int)) (U : Int → Bool), NFof l (fun n => U n = true) → (∀ p ∈ l, 0 ≤ p.1 ∧ p.1 + p.2 ≤ M) → sumR l = cnt M U := fun l U h hb => by
    rw [sumR_cnt M l h.1 hb]
    exact cnt_congr M _ _ (fun n => by rw [Bool.eq_iff_iff, inB_iff, h.2])
  rw [key x S hx bx, key y T hy by', key z _ hz bz, key t _ ht bt]
  exact cnt_or_and M S T

theorem rmR_eq : ∀ (x : List (Int × Int)) (n : Int), (∀ p ∈ x, 0 ≤ p.2) → 0 ≤ n → rmR x n = max 0 (n - sumR x)
  | [], n, _, h => by simp [rmR, sumR]; omega
  | p :: x, n, hp, h => by
    have h0 := hp p (by simp)
    have e : sumR (p :: x) = p.2 + sumR x := by simp [sumR]
    have hs : 0 ≤ sumR x := by
      clear e
      induction x with
      | nil => simp [sumR]
      | cons q x ih =>
        have h1 := hp q (by simp)
        have h2 := ih (fun r hr => hp r (by simp at hr ⊢; rcases hr with h | h <;> simp [h]))
        have : sumR (q :: x) = q.2 + sumR x := by simp [sumR]
        omega
    rw [rmR]
    by_cases hn : n ≤ 0
    · rw [if_pos hn]; omega
    · rw [if_neg hn, rmR_eq x _ (fun q hq => hp q (by simp [hq])) (by omega)]
      omega

theorem tkR_sum : ∀ (x : List (Int × Int)) (n : Int), (∀ p ∈ x, 0 ≤ p.2) → 0 ≤ n → sumR (tkR x n) + rmR x n = n
  | [], n, _, _ => by simp [tkR, rmR, sumR]
  | p :: x, n, hp, h => by
    have h0 := hp p (by simp)
    rw [tkR, rmR]
    by_cases hn : n ≤ 0
    · rw [if_pos hn, if_pos hn]; simp [sumR]
    · rw [if_neg hn, if_neg hn]
      have ih := tkR_sum x (n - min p.2 n) (fun q hq => hp q (by simp [hq])) (by omega)
      have e : sumR ((p.1, min p.2 n) :: tkR x (n - min p.2 n)) = min p.2 n + sumR (tkR x (n - min p.2 n)) := by simp [sumR]
      omega

theorem tkR_part : ∀ (x : List (Int × Int)) (n : Int), ∀ r ∈ tkR x n, ∃ p ∈ x, r.1 = p.1 ∧ r.2 ≤ p.2 ∧ (1 ≤ p.2 → 1 ≤ r.2)
  | [], n, r, h => by cases h
  | p :: x, n, r, h => by
    rw [tkR] at h
    by_cases hn : n ≤ 0
    · rw [if_pos hn] at h; cases h
    · rw [if_neg hn] at h
      rcases List.mem_cons.1 h with rfl | h
      · exact ⟨p, by simp, rfl, by simp only []; omega, fun h1 => by simp only []; omega⟩
      · obtain ⟨q, hq, h1⟩ := tkR_part x _ r h
        exact ⟨q, by simp [hq], h1⟩

theorem tkR_NF : ∀ (x : List (Int × Int)) (n : Int), NF x → NF (tkR x n)
  | [], n, _ => NF_nil
  | p :: x, n, h => by
    rw [tkR]
    by_cases hn : n ≤ 0
    · rw [if_pos hn]; exact NF_nil
    · rw [if_neg hn]
      have ih := tkR_NF x (n - min p.2 n) h.tail
      have hh := h.head
      refine ⟨fun q hq => ?_, List.pairwise_cons.2 ⟨fun q hq => ?_, ih.2⟩⟩
      · rcases List.mem_cons.1 hq with rfl | hq
        · simp only []; omega
        · exact ih.1 q hq
      · obtain ⟨r, hr, e, _⟩ := tkR_part x _ q hq
        have := hh.2 r hr
        simp only []
        omega

/-- What is left lies behind what was taken. -/
theorem tkR_least : ∀ (x : List (Int × Int)) (n m : Int), NF x → Mem x m → ¬ Mem (tkR x n) m → ∀ r ∈ tkR x n, r.1 + r.2 ≤ m
  | [], n, m, _, _, _, r, h => by cases h
  | p :: x, n, m, hx, hm, hno, r, h => by
    rw [tkR] at h hno
    by_cases hn : n ≤ 0
    · rw [if_pos hn] at h; cases h
    · rw [if_neg hn] at h hno
      rw [Mem_cons] at hno
      have hlo := hx.lo hm
      have hh := hx.head
      have hge : p.1 + min p.2 n ≤ m := by
        rcases ltge m (p.1 + min p.2 n) with h1 | h1
        · exact absurd (.inl ⟨hlo, h1⟩) hno
        · exact h1
      rcases List.mem_cons.1 h with rfl | h
      · exact hge
      · by_cases hpm : p.1 + p.2 ≤ m
        · exact tkR_least x _ m hx.tail ((hx.tailMem m).2 ⟨hm, hpm⟩) (fun hc => hno (.inr hc)) r h
        · have : n - min p.2 n = 0 := by omega
          rw [this] at h
          rw [tkR_zero] at h
          cases h

/-- Every one of k numbers from i on. -/
def Run (x : List (Int × Int)) (i k : Int) : Prop := ∀ j, i ≤ j → j < i + k → Mem x j

/-- In a normal form a run lies in one range. -/
theorem run_in (x : List (Int × Int)) (hx : NF x) (i k : Int) (hk : 1 ≤ k) (h : Run x i k) : ∃ p ∈ x, p.1 ≤ i ∧ i + k ≤ p.1 + p.2 := by
  obtain ⟨p, hp, h1, h2⟩ := h i (by omega) (by omega)
  refine ⟨p, hp, h1, ?_⟩
  rcases ltge (p.1 + p.2) (i + k) with hlt | hge
  · obtain ⟨q, hq, h3, h4⟩ := h (p.1 + p.2) (by omega) hlt
    obtain ⟨a, ha⟩ := List.getElem?_of_mem hp
    obtain ⟨b, hb⟩ := List.getElem?_of_mem hq
    obtain ⟨ha1, ha2⟩ := List.getElem?_eq_some_iff.1 ha
    obtain ⟨hb1, hb2⟩ := List.getElem?_eq_some_iff.1 hb
    have hpw := List.pairwise_iff_getElem.1 hx.2
    have hp1 := hx.1 p hp
    rcases Nat.lt_trichotomy a b with hab | hab | hab
    · have := hpw a b ha1 hb1 hab; rw [ha2, hb2] at this; omega
    · subst hab; rw [ha2] at hb2; subst hb2; omega
    · have := hpw b a hb1 ha1 hab; rw [ha2, hb2] at this; omega
  · exact hge

theorem firstR_cases (x : List (Int × Int)) (n : Int) : (∃ p ∈ x, n ≤ p.2 ∧ firstR x n = (p.1, 0)) ∨ ((∀ p ∈ x, p.2 < n) ∧ firstR x n = (0, 12)) := by
  induction x with
  | nil => exact .inr ⟨by simp, rfl⟩
  | cons p x ih =>
    by_cases h : n ≤ p.2
    · exact .inl ⟨p, by simp, h, by rw [firstR, if_pos h]⟩
    · rw [firstR, if_neg h]
      rcases ih with ⟨q, hq, h1, h2⟩ | ⟨h1, h2⟩
      · exact .inl ⟨q, by simp [hq], h1, h2⟩
      · exact .inr ⟨by simp; exact ⟨by omega, fun a b hab => h1 (a, b) hab⟩, h2⟩

theorem firstR_run (x : List (Int × Int)) (hx : NF x) (k : Int) (hk : 1 ≤ k) (i : Int) (_hi : 0 ≤ i) (h : Run x i k) (hmin : ∀ j, 0 ≤ j → j < i → ¬ Run x j k) (h0 : ∀ p ∈ x, 0 ≤ p.1) : firstR x k = (i, 0) := by
  obtain ⟨p, hp, h1, h2⟩ := run_in x hx i k hk h
  have hpi : p.1 = i := by
    rcases ltge p.1 i with hlt | hge
    · exact absurd (fun j hj1 hj2 => ⟨p, hp, by omega, by omega⟩) (hmin p.1 (h0 p hp) hlt)
    · omega
  obtain ⟨a, ha⟩ := List.getElem?_of_mem hp
  have := firstR_found x k a p ha (by omega) (fun q hq => by
    rcases ltge q.2 k with hlt | hge
    · exact hlt
    · exfalso
      obtain ⟨b, hb⟩ := List.getElem?_of_mem hq
      have hb' : b < a := by
        have := (List.getElem?_eq_some_iff.1 hb).1
        simp at this
        omega
      rw [List.getElem?_take_of_lt hb'] at hb
      obtain ⟨ha1, ha2⟩ := List.getElem?_eq_some_iff.1 ha
      obtain ⟨hb1, hb2⟩ := List.getElem?_eq_some_iff.1 hb
      have hpw := List.pairwise_iff_getElem.1 hx.2 b a hb1 ha1 hb'
      rw [ha2, hb2] at hpw
      have hq' : q ∈ x := List.mem_of_getElem? hb
      exact hmin q.1 (h0 q hq') (by omega) (fun j hj1 hj2 => ⟨q, hq', hj1, by omega⟩))
  rw [this, hpi]
theorem firstR_norun (x : List (Int × Int)) (k : Int) (h : ∀ p ∈ x, ¬ Run x p.1 k) : firstR x k = (0, 12) := by
  refine firstR_none x k (fun p hp => ?_)
  rcases ltge p.2 k with hlt | hge
  · exact hlt
  · exact absurd (fun j hj1 hj2 => ⟨p, hp, hj1, by omega⟩) (h p hp)

end Go.Proofs.Yteengifhndmjeaa
