/- Sets of integers as lists of ranges: the points at which ranges begin and end, and what is chosen between them. Plain mathematics; no program. -/
import Derived.Test.YteengifhndmjeaaRanM
import Derived.Lib.SlicesCompact
namespace Go.Proofs.Yteengifhndmjeaa

/-- A number is in one of the ranges, as a Bool. -/
def inB (l : List (Int × Int)) (n : Int) : Bool := l.any fun p => decide (p.1 ≤ n) && decide (n < p.1 + p.2)
theorem inB_iff (l : List (Int × Int)) (n : Int) : inB l n = true ↔ Mem l n := by
  unfold inB Mem
  rw [List.any_eq_true]
  simp
theorem inB_eq {a b : List (Int × Int)} {n : Int} (h : Mem a n ↔ Mem b n) : inB a n = inB b n := by
  rw [Bool.eq_iff_iff, inB_iff, inB_iff, h]

/-- In a normal form: where the first range that ends behind n begins. -/
theorem nf_at {x : List (Int × Int)} (hx : NF x) (i : Nat) (n : Int) (h1 : ∀ p ∈ x.take i, p.1 + p.2 ≤ n) (h2 : ∀ y, x[i]? = some y → n < y.1 + y.2) :
    inB x n = true ↔ ∃ y, x[i]? = some y ∧ y.1 ≤ n := by
  rw [inB_iff]
  constructor
  · rintro ⟨p, hp, ha, hb⟩
    obtain ⟨j, hj⟩ := List.getElem?_of_mem hp
    have hji : i ≤ j := by
      rcases Nat.lt_or_ge j i with h | h
      · have := h1 p (List.mem_iff_getElem?.2 ⟨j, by rw [List.getElem?_take_of_lt h]; exact hj⟩)
        omega
      · exact h
    rcases Nat.eq_or_lt_of_le hji with e | hlt
    · subst e; exact ⟨p, hj, ha⟩
    · obtain ⟨hjl, hje⟩ := List.getElem?_eq_some_iff.1 hj
      have hil : i < x.length := by omega
      have hpw := List.pairwise_iff_getElem.1 hx.2 i j hil hjl hlt
      have hy := List.getElem?_eq_getElem hil
      have h3 := h2 _ hy
      rw [hje] at hpw
      omega
  · rintro ⟨y, hy, hle⟩
    exact ⟨y, List.mem_of_getElem? hy, hle, h2 y hy⟩

/-- The pieces between neighbouring points of which f holds at their start. -/
def segs : List Int → (Int → Bool) → List (Int × Int)
  | p :: q :: t, f => (if f p then [(p, q - p)] else []) ++ segs (q :: t) f
  | _, _ => []

theorem segs_snoc (f : Int → Bool) (p q : Int) : ∀ l : List Int, segs (l ++ [p, q]) f = segs (l ++ [p]) f ++ (if f p then [(p, q - p)] else [])
  | [] => by simp [segs]
  | [a] => by simp [segs]
  | a :: b :: t => by
    have := segs_snoc f p q (b :: t)
    simp only [List.cons_append, segs] at this ⊢
    rw [this, List.append_assoc]

theorem segs_take (P : List Int) (f : Int → Bool) (m : Nat) (p q : Int) (hp : P[m]? = some p) (hq : P[m + 1]? = some q) : segs (P.take (m + 2)) f = segs (P.take (m + 1)) f ++ (if f p then [(p, q - p)] else []) := by
  obtain ⟨h1, e1⟩ := List.getElem?_eq_some_iff.1 hp
  obtain ⟨h2, e2⟩ := List.getElem?_eq_some_iff.1 hq
  rw [List.take_succ_eq_append_getElem (show m + 1 < P.length by omega), List.take_succ_eq_append_getElem (show m < P.length by omega), e1, e2, List.append_assoc]
  exact segs_snoc f p q (P.take m)

/-- Membership does not change between neighbouring points. -/
theorem Mem_between (l : List (Int × Int)) (p q n : Int) (hno : ∀ r ∈ l, (r.1 ≤ p ∨ q ≤ r.1) ∧ (r.1 + r.2 ≤ p ∨ q ≤ r.1 + r.2)) (h1 : p ≤ n) (h2 : n < q) : Mem l n ↔ Mem l p := by
  constructor
  · rintro ⟨r, hr, ha, hb⟩
    have := hno r hr
    exact ⟨r, hr, by omega, by omega⟩
  · rintro ⟨r, hr, ha, hb⟩
    have := hno r hr
    exact ⟨r, hr, by omega, by omega⟩

theorem segs_mem (f : Int → Bool) : ∀ (P : List Int) (n : Int), P.Pairwise (· < ·) → (Mem (segs P f) n ↔ ∃ (i : Nat) (p q : Int), P[i]? = some p ∧ P[i + 1]? = some q ∧ p ≤ n ∧ n < q ∧ f p = true)
  | [], n, _ => by
    constructor
    · intro h; exact absurd h (Mem_nil n)
    · rintro ⟨i, p, q, h, _⟩; simp at h
  | [a], n, _ => by
    constructor
    · intro h; exact absurd h (Mem_nil n)
    · rintro ⟨i, p, q, _, h, _⟩; simp at h
  | a :: b :: t, n, hs => by
    have ih := segs_mem f (b :: t) n (List.pairwise_cons.1 hs).2
    rw [segs, Mem_append, ih]
    constructor
    · rintro (h | ⟨i, p, q, h⟩)
      · by_cases hf : f a = true
        · simp only [hf, if_true] at h
          rw [Mem_one] at h
          exact ⟨0, a, b, rfl, rfl, h.1, by have := h.2; simp only [] at this; omega, hf⟩
        · simp only [hf] at h
          exact absurd h (Mem_nil n)
      · exact ⟨i + 1, p, q, by simpa using h⟩
    · rintro ⟨i, p, q, h1, h2, h3, h4, h5⟩
      cases i with
      | zero =>
        simp at h1 h2
        subst h1 h2
        refine .inl ?_
        simp only [h5, if_true]
        rw [Mem_one]
        exact ⟨h3, by simp only []; omega⟩
      | succ i => exact .inr ⟨i, p, q, by simpa using h1, by simpa using h2, h3, h4, h5⟩

/-- A number between the least and the greatest point lies between two neighbours. -/
theorem between_points : ∀ (P : List Int) (n : Int), P.Pairwise (· < ·) → (∃ p ∈ P, p ≤ n) → (∃ q ∈ P, n < q) → ∃ (i : Nat) (p q : Int), P[i]? = some p ∧ P[i + 1]? = some q ∧ p ≤ n ∧ n < q
  | [], _, _, ⟨p, hp, _⟩, _ => by cases hp
  | [a], n, _, ⟨p, hp, h1⟩, ⟨q, hq, h2⟩ => by simp at hp hq; omega
  | a :: b :: t, n, hs, ⟨p, hp, h1⟩, ⟨q, hq, h2⟩ => by
    have hs' := List.pairwise_cons.1 hs
    by_cases hb : n < b
    · refine ⟨0, a, b, rfl, rfl, ?_, hb⟩
      rcases List.mem_cons.1 hp with rfl | hp
      · exact h1
      · have := hs'.1 p hp; omega
    · obtain ⟨i, p', q', e1, e2, e3⟩ := between_points (b :: t) n hs'.2 ⟨b, by simp, by omega⟩ (by
        rcases List.mem_cons.1 hq with rfl | hq
        · have := hs'.1 b (by simp); omega
        · exact ⟨q, hq, h2⟩)
      exact ⟨i + 1, p', q', by simpa using e1, by simpa using e2, e3⟩

theorem point_split {P : List Int} (hs : P.Pairwise (· < ·)) {i : Nat} {p q t : Int} (hp : P[i]? = some p) (hq : P[i + 1]? = some q) (ht : t ∈ P) : t ≤ p ∨ q ≤ t := by
  obtain ⟨j, hj⟩ := List.getElem?_of_mem ht
  obtain ⟨h1, e1⟩ := List.getElem?_eq_some_iff.1 hp
  obtain ⟨h2, e2⟩ := List.getElem?_eq_some_iff.1 hq
  obtain ⟨h3, e3⟩ := List.getElem?_eq_some_iff.1 hj
  rw [List.pairwise_iff_getElem] at hs
  rcases Nat.lt_trichotomy j i with h | h | h
  · left; have := hs j i h3 h1 h; omega
  · subst h; left; omega
  · right
    rcases Nat.eq_or_lt_of_le (show i + 1 ≤ j by omega) with h4 | h4
    · subst h4; omega
    · have := hs (i + 1) j h2 h3 h4; omega

/-- What is chosen between the points is what is chosen everywhere. -/
theorem segs_choose (a b : List (Int × Int)) (c : Bool → Bool → Bool) (h0 : c false false = false) (P : List Int) (hs : P.Pairwise (· < ·)) (hP : ∀ r, r ∈ a ∨ r ∈ b → r.1 ∈ P ∧ r.1 + r.2 ∈ P) (n : Int) :
    Mem (segs P fun t => c (inB a t) (inB b t)) n ↔ c (inB a n) (inB b n) = true := by
  rw [segs_mem _ P n hs]
  constructor
  · rintro ⟨i, p, q, h1, h2, h3, h4, h5⟩
    have ha := Mem_between a p q n (fun r hr => ⟨point_split hs h1 h2 (hP r (.inl hr)).1, point_split hs h1 h2 (hP r (.inl hr)).2⟩) h3 h4
    have hb := Mem_between b p q n (fun r hr => ⟨point_split hs h1 h2 (hP r (.inr hr)).1, point_split hs h1 h2 (hP r (.inr hr)).2⟩) h3 h4
    rw [inB_eq (a := a) (b := a) Iff.rfl] at h5
    have e1 : inB a n = inB a p := by rw [Bool.eq_iff_iff, inB_iff, inB_iff, ha]
    have e2 : inB b n = inB b p := by rw [Bool.eq_iff_iff, inB_iff, inB_iff, hb]
    rw [e1, e2]
    exact h5
  · intro h
    have hm : Mem a n ∨ Mem b n := by
      cases ha : inB a n with
      | true => exact .inl ((inB_iff a n).1 ha)
      | false =>
        cases hb : inB b n with
        | true => exact .inr ((inB_iff b n).1 hb)
        | false => rw [ha, hb, h0] at h; cases h
    obtain ⟨r, hr, h1, h2⟩ : ∃ r, (r ∈ a ∨ r ∈ b) ∧ r.1 ≤ n ∧ n < r.1 + r.2 := by
      rcases hm with ⟨r, hr, h⟩ | ⟨r, hr, h⟩
      · exact ⟨r, .inl hr, h⟩
      · exact ⟨r, .inr hr, h⟩
    obtain ⟨i, p, q, e1, e2, e3, e4⟩ := between_points P n hs ⟨_, (hP r hr).1, h1⟩ ⟨_, (hP r hr).2, h2⟩
    have ha := Mem_between a p q n (fun r hr => ⟨point_split hs e1 e2 (hP r (.inl hr)).1, point_split hs e1 e2 (hP r (.inl hr)).2⟩) e3 e4
    have hb := Mem_between b p q n (fun r hr => ⟨point_split hs e1 e2 (hP r (.inr hr)).1, point_split hs e1 e2 (hP r (.inr hr)).2⟩) e3 e4
    refine ⟨i, p, q, e1, e2, e3, e4, ?_⟩
    have f1 : inB a n = inB a p := by rw [Bool.eq_iff_iff, inB_iff, inB_iff, ha]
    have f2 : inB b n = inB b p := by rw [Bool.eq_iff_iff, inB_iff, inB_iff, hb]
    show c (inB a p) (inB b p) = true
    rw [← f1, ← f2]
    exact h

theorem segs_part (f : Int → Bool) : ∀ (P : List Int), P.Pairwise (· < ·) → ∀ r ∈ segs P f, r.1 ∈ P ∧ r.1 + r.2 ∈ P ∧ 1 ≤ r.2
  | [], _, r, h => by cases h
  | [a], _, r, h => by cases h
  | a :: b :: t, hs, r, h => by
    have hs' := List.pairwise_cons.1 hs
    rw [segs] at h
    rcases List.mem_append.1 h with h | h
    · by_cases hf : f a = true
      · simp only [hf, if_true, List.mem_singleton] at h
        subst h
        have := hs'.1 b (by simp)
        exact ⟨by simp, by simp only []; rw [show a + (b - a) = b by omega]; simp, by simp only []; omega⟩
      · simp only [hf] at h; cases h
    · have := segs_part f (b :: t) hs'.2 r h
      exact ⟨by simp [this.1], by have h2 := this.2.1; exact List.mem_cons_of_mem _ h2, this.2.2⟩

theorem segs_len (f : Int → Bool) : ∀ (P : List Int), (segs P f).length ≤ P.length
  | [] => by simp [segs]
  | [a] => by simp [segs]
  | a :: b :: t => by
    have := segs_len f (b :: t)
    rw [segs]
    split <;> simp at * <;> omega

/-- slices.Compact of an ascending list: strictly ascending, the same numbers. -/
theorem compact_upto (d : Array Int) (hd : ∀ i j, i < j → j < d.size → d[i]! ≤ d[j]!) (m : Nat) (hm : m ≤ d.size) :
    (Lib.compactUpTo d m).Pairwise (· < ·) ∧ (∀ n, n ∈ Lib.compactUpTo d m ↔ ∃ j, j < m ∧ d[j]! = n) := by
  induction m with
  | zero => simp [Lib.compactUpTo]
  | succ m ih =>
    obtain ⟨h1, h2⟩ := ih (by omega)
    rw [Lib.compactUpTo_succ]
    by_cases hk : Lib.keeps d m = true
    · simp only [hk, if_true]
      refine ⟨?_, fun n => ?_⟩
      · rw [List.pairwise_append]
        refine ⟨h1, by simp, fun x hx y hy => ?_⟩
        simp at hy
        subst hy
        obtain ⟨j, hj, rfl⟩ := (h2 x).1 hx
        have hle := hd j m hj (by omega)
        have hm0 : m ≠ 0 := by omega
        have hne : d[m]! ≠ d[m - 1]! := by
          unfold Lib.keeps at hk
          simp [hm0] at hk
          simpa using hk
        have h3 : d[m - 1]! ≤ d[m]! := hd (m - 1) m (by omega) (by omega)
        rcases Nat.eq_or_lt_of_le (show j ≤ m - 1 by omega) with e | e
        · subst e; omega
        · have := hd j (m - 1) e (by omega); omega
      · rw [List.mem_append, h2]
        constructor
        · rintro (⟨j, hj, e⟩ | h)
          · exact ⟨j, by omega, e⟩
          · simp at h; exact ⟨m, by omega, by simp [h]⟩
        · rintro ⟨j, hj, e⟩
          rcases Nat.eq_or_lt_of_le (show j ≤ m by omega) with e' | e'
          · subst e'; right; simp [e]
          · left; exact ⟨j, e', e⟩
    · simp only [hk]
      have hm0 : 0 < m := by
        rcases Nat.eq_zero_or_pos m with e | e
        · subst e; exact absurd (Lib.keeps_lt_one d 0 (by omega)) hk
        · exact e
      have heq : d[m]! = d[m - 1]! := by
        by_cases h : d[m]! = d[m - 1]!
        · exact h
        · exact absurd (Lib.keeps_pos h) hk
      refine ⟨by simpa using h1, fun n => ?_⟩
      simp only [Bool.false_eq_true, if_false, List.append_nil]
      rw [h2]
      constructor
      · rintro ⟨j, hj, e⟩; exact ⟨j, by omega, e⟩
      · rintro ⟨j, hj, e⟩
        rcases Nat.eq_or_lt_of_le (show j ≤ m by omega) with e' | e'
        · subst e'; exact ⟨j - 1, by omega, by rw [← heq]; exact e⟩
        · exact ⟨j, e', e⟩

theorem compact_sorted (zs : List Int) (h : zs.Pairwise (· ≤ ·)) : (Lib.compact zs).Pairwise (· < ·) ∧ ∀ n, n ∈ Lib.compact zs ↔ n ∈ zs := by
  have := compact_upto zs.toArray (fun i j hij hj => by
    have hj' : j < zs.length := by simpa using hj
    have h1 := List.pairwise_iff_getElem.1 h i j (by omega) hj' hij
    simpa [getElem!_pos, show i < zs.length by omega, hj'] using h1) zs.length (by simp)
  refine ⟨this.1, fun n => (this.2 n).trans ?_⟩
  constructor
  · rintro ⟨j, hj, e⟩
    rw [← e]
    simp [getElem!_pos, hj]
  · intro hn
    obtain ⟨j, hj⟩ := List.getElem?_of_mem hn
    obtain ⟨h1, h2⟩ := List.getElem?_eq_some_iff.1 hj
    exact ⟨j, h1, by simp [hj]⟩

end Go.Proofs.Yteengifhndmjeaa
