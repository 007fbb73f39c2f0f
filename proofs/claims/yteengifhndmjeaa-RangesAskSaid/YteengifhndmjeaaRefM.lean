/- The reference's way of gluing pieces: it is the merging. Plain mathematics; no program. -/
import Derived.Test.YteengifhndmjeaaRanN
namespace Go.Proofs.Yteengifhndmjeaa

/-- One piece more, behind all others: glued to the last one if it begins where that one ends. -/
def glueStep (out : List (Int × Int)) (r : Int × Int) : List (Int × Int) :=
  match out.getLast? with
  | none => out ++ [r]
  | some q => if q.1 + q.2 = r.1 then out.dropLast ++ [(q.1, q.2 + r.2)] else out ++ [r]
def glue (l : List (Int × Int)) : List (Int × Int) := l.foldl glueStep []
theorem glue_snoc (l : List (Int × Int)) (r : Int × Int) : glue (l ++ [r]) = glueStep (glue l) r := by simp [glue]

theorem glueStep_merge (out : List (Int × Int)) (r : Int × Int) (h1 : 1 ≤ r.2) (h : ∀ q ∈ out, q.1 + q.2 ≤ r.1) : glueStep out r = mergeStep out r := by
  unfold glueStep mergeStep
  rw [if_neg (by omega)]
  cases hl : out.getLast? with
  | none => rfl
  | some q =>
    have hq := h q (List.mem_of_getLast? hl)
    simp only []
    by_cases he : q.1 + q.2 = r.1
    · rw [if_pos he, if_pos (by omega)]
      congr 3
      omega
    · rw [if_neg he, if_neg (by omega)]

/-- Pieces one behind the other. -/
def Row (l : List (Int × Int)) : Prop := (∀ p ∈ l, 1 ≤ p.2) ∧ l.Pairwise fun p q => p.1 + p.2 ≤ q.1

theorem Row.starts {l : List (Int × Int)} (h : Row l) : l.Pairwise fun p q => p.1 ≤ q.1 := by
  have h2 := h.2
  have h1 := h.1
  clear h
  induction l with
  | nil => exact List.Pairwise.nil
  | cons p l ih =>
    rw [List.pairwise_cons] at h2 ⊢
    refine ⟨fun q hq => ?_, ih h2.2 (fun q hq => h1 q (by simp [hq]))⟩
    have := h2.1 q hq
    have := h1 p (by simp)
    omega

theorem glue_merge (l : List (Int × Int)) (h : Row l) : glue l = merge l := by
  induction hr : l.length generalizing l with
  | zero =>
    have : l = [] := List.eq_nil_of_length_eq_zero hr
    subst this
    rfl
  | succ m ih =>
    have hne : l ≠ [] := by rintro rfl; simp at hr
    obtain ⟨i, r, rfl⟩ : ∃ i r, l = i ++ [r] := ⟨l.dropLast, l.getLast hne, (List.dropLast_concat_getLast hne).symm⟩
    have hp := h.2
    rw [List.pairwise_append] at hp
    have hi : Row i := ⟨fun p hp => h.1 p (by simp [hp]), hp.1⟩
    rw [glue_snoc, merge_snoc, ih i hi (by simp at hr; omega)]
    obtain ⟨a, b, _⟩ := merge_ok i hi.starts (fun p hp => by have := hi.1 p hp; omega)
    refine glueStep_merge _ _ (h.1 r (by simp)) (fun q hq => ?_)
    have h1 := a.1 q hq
    obtain ⟨s, hs, _, hs2⟩ := (b (q.1 + q.2 - 1)).1 ⟨q, hq, by omega, by omega⟩
    have := hp.2.2 s hs r (by simp)
    omega

theorem segs_row (f : Int → Bool) : ∀ (P : List Int), P.Pairwise (· < ·) → Row (segs P f)
  | [], _ => ⟨by simp [segs], by simp [segs]⟩
  | [a], _ => ⟨by simp [segs], by simp [segs]⟩
  | a :: b :: t, hs => by
    have hs' := List.pairwise_cons.1 hs
    have ih := segs_row f (b :: t) hs'.2
    have hab := hs'.1 b (by simp)
    rw [segs]
    by_cases hf : f a = true
    · simp only [hf, if_true, List.singleton_append]
      refine ⟨fun p hp => ?_, List.pairwise_cons.2 ⟨fun q hq => ?_, ih.2⟩⟩
      · rcases List.mem_cons.1 hp with rfl | hp
        · simp only []; omega
        · exact ih.1 p hp
      · have h1 := (segs_part f (b :: t) hs'.2 q hq).1
        simp only []
        rcases List.mem_cons.1 h1 with h2 | h2
        · omega
        · have := (List.pairwise_cons.1 hs'.2).1 _ h2; omega
    · simp only [hf]
      simpa using ih

theorem glue_segs_ok (P : List Int) (f : Int → Bool) (hs : P.Pairwise (· < ·)) : NF (glue (segs P f)) ∧ ∀ n, Mem (glue (segs P f)) n ↔ Mem (segs P f) n := by
  have h := segs_row f P hs
  rw [glue_merge _ h]
  obtain ⟨a, b, _⟩ := merge_ok _ h.starts (fun p hp => by have := h.1 p hp; omega)
  exact ⟨a, b⟩

theorem glueStep_len (o : List (Int × Int)) (r : Int × Int) : (glueStep o r).length ≤ o.length + 1 := by
  unfold glueStep
  split
  · simp
  · split
    · simp only [List.length_append, List.length_dropLast, List.length_singleton]; omega
    · simp
theorem glue_len (l : List (Int × Int)) : (glue l).length ≤ l.length := by
  induction hr : l.length generalizing l with
  | zero =>
    have : l = [] := List.eq_nil_of_length_eq_zero hr
    subst this
    simp [glue]
  | succ m ih =>
    have hne : l ≠ [] := by rintro rfl; simp at hr
    obtain ⟨i, r, rfl⟩ : ∃ i r, l = i ++ [r] := ⟨l.dropLast, l.getLast hne, (List.dropLast_concat_getLast hne).symm⟩
    rw [glue_snoc]
    have := glueStep_len (glue i) r
    have := ih i (by simp at hr; omega)
    omega

/-- What the reference chooses. -/
def selB (kind : Int) (x y : Bool) : Bool := if kind = 0 then x || y else if kind = 1 then x && !y else x && y

end Go.Proofs.Yteengifhndmjeaa
