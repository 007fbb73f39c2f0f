/- Contract: ranges.ends. -/
import Derived.Test.YteengifhndmjeaaRanC
import Derived.Test.YteengifhndmjeaaRanM
namespace Go.Proofs.Yteengifhndmjeaa
open Go.RowKit Go.Sort

/-- The starts and ends of ranges, in the order of the text. -/
def endsOf (l : List (Int × Int)) : List Int := l.flatMap fun p => [p.1, p.1 + p.2]
theorem endsOf_snoc (l : List (Int × Int)) (k : Nat) (x : Int × Int) (h : l[k]? = some x) : endsOf (l.take (k + 1)) = endsOf (l.take k) ++ [x.1, x.1 + x.2] := by
  rw [take_snoc' l k x h]
  simp [endsOf]
theorem endsOf_len (l : List (Int × Int)) : (endsOf l).length = 2 * l.length := by
  induction l with
  | nil => rfl
  | cons p l ih => simp [endsOf] at *; omega
def endsLL (ls : List (List (Int × Int))) : List Int := ls.flatMap endsOf
theorem endsLL_snoc (ls : List (List (Int × Int))) (k : Nat) (l : List (Int × Int)) (h : ls[k]? = some l) : endsLL (ls.take (k + 1)) = endsLL (ls.take k) ++ endsOf l := by
  rw [take_snoc' ls k l h]
  simp [endsLL]
theorem endsLL_len (N : Nat) (ls : List (List (Int × Int))) (h : ∀ l ∈ ls, l.length ≤ N) : (endsLL ls).length ≤ 2 * N * ls.length := by
  induction ls with
  | nil => simp [endsLL]
  | cons l ls ih =>
    have h1 := ih (fun l hl => h l (by simp [hl]))
    have h2 := h l (by simp)
    have h3 := endsOf_len l
    simp only [endsLL, List.flatMap_cons, List.length_append, List.length_cons] at *
    rw [Nat.mul_add, Nat.mul_one]
    omega

/-- Strictly ascending, of just these numbers. -/
def Points (P : List Int) (Z : List Int) : Prop := P.Pairwise (· < ·) ∧ ∀ n, n ∈ P ↔ n ∈ Z

theorem sortI_any (B : Nat) (l : List Int) (v : Value) (w : World) (ho : OwnI w B v l) (hlen : l.length ≤ 100000000) :
    Calls Try.prog 80 #[v] w fun e w' => e = .returned (.tuple #[]) ∧ OwnI w' B v (l.mergeSort fun x y => decide (x ≤ y)) ∧ Below B w w' := by
  by_cases h0 : 0 < l.length
  · obtain ⟨g, cap, rfl, hB, hg, hc, _, hH⟩ := ho.holds h0
    have hcon := Any.slices_Sort_int Try.lays189 g 0 cap l w hH hg (by omega)
    change Calls Try.prog 80 _ _ _ at hcon
    refine hcon.mono ?_
    rintro e w' ⟨rfl, n, os, rfl⟩
    have := OwnI.sorted (n := n) (os := os) (s := l.mergeSort fun x y => decide (x ≤ y)) ho (List.length_mergeSort l)
    exact ⟨rfl, this.1, this.2⟩
  · have hl : l = [] := List.eq_nil_of_length_eq_zero (by omega)
    subst hl
    obtain ⟨p, cap, rfl, _⟩ := ho.rd
    refine (Any.slices_Sort_int_none Try.lays189 p cap w).mono ?_
    rintro e w' ⟨rfl, rfl⟩
    exact ⟨rfl, by simpa using ho, Below.refl _ _⟩

theorem compactI_any (B : Nat) (l : List Int) (v : Value) (w : World) (ho : OwnI w B v l) (hlen : l.length ≤ 100000000) :
    Calls Try.prog 81 #[v] w fun e w' => ∃ v', e = .returned v' ∧ OwnI w' B v' (Lib.compact l) ∧ Below B w w' := by
  by_cases h0 : 0 < l.length
  · obtain ⟨g, cap, rfl, hB, hg, hc, hcm, hH⟩ := ho.holds h0
    have hcon := Any.slices_Compact_int Try.laysNm220 g 0 cap l w hH (by omega) hc
    change Calls Try.prog 81 _ _ _ at hcon
    refine hcon.mono ?_
    rintro e w' ⟨rfl, q, rfl⟩
    have hle : (Lib.compact l).length ≤ l.length := by
      have : ∀ m, (Lib.compactUpTo l.toArray m).length ≤ m := fun m => by
        induction m with
        | zero => simp [Lib.compactUpTo]
        | succ m ih => rw [Lib.compactUpTo_succ]; split <;> simp <;> omega
      exact this l.length
    have h1 := Lib.ownsRow_putRow (enc := Value.int .i64) (q := q) (k := (Lib.compact l).length) (ys := Lib.compact l ++ List.replicate (l.length - (Lib.compact l).length) 0) ho (by simp; omega) hle
    rw [List.take_left] at h1
    exact ⟨_, rfl, h1, Lib.below_putRow (Below.refl _ _) hB⟩
  · have hl : l = [] := List.eq_nil_of_length_eq_zero (by omega)
    subst hl
    obtain ⟨p, cap, rfl, _⟩ := ho.rd
    refine (Any.slices_Compact_int_empty Try.laysNm220 p cap w).mono ?_
    rintro e w' ⟨rfl, rfl⟩
    exact ⟨_, rfl, ho, Below.refl _ _⟩

def RetPts (w : World) (Z : List Int) (e : Ending) (w' : World) : Prop := ∃ v P, e = .returned v ∧ OwnI w' w.heap.size v P ∧ Points P Z ∧ P.length ≤ Z.length ∧ Below w.heap.size w w'

theorem points_of (Z : List Int) : Points (Lib.compact (Z.mergeSort fun x y => decide (x ≤ y))) Z ∧ (Lib.compact (Z.mergeSort fun x y => decide (x ≤ y))).length ≤ Z.length := by
  have hs : (Z.mergeSort fun x y => decide (x ≤ y)).Pairwise (· ≤ ·) := by
    have := List.pairwise_mergeSort (le := fun x y : Int => decide (x ≤ y)) (fun a b c h1 h2 => by simp at *; omega) (fun a b => by simp; omega) Z
    exact this.imp (fun h => by simpa using h)
  obtain ⟨h1, h2⟩ := compact_sorted _ hs
  refine ⟨⟨h1, fun n => (h2 n).trans ?_⟩, ?_⟩
  · exact (List.mergeSort_perm Z _).mem_iff
  · have : ∀ (d : Array Int) m, (Lib.compactUpTo d m).length ≤ m := fun d m => by
      induction m with
      | zero => simp [Lib.compactUpTo]
      | succ m ih => rw [Lib.compactUpTo_succ]; split <;> simp <;> omega
    have := this (Z.mergeSort fun x y => decide (x ≤ y)).toArray (Z.mergeSort fun x y => decide (x ≤ y)).length
    rw [List.length_mergeSort] at this
    unfold Lib.compact
    rw [List.length_mergeSort]
    exact this

set_option maxHeartbeats 1000000 in
theorem ends_any (ls : List (List (Int × Int))) (v : Value) (w : World) (hr : RdLL w v ls) (hval : ls.all valB = true) (hls : ls.length ≤ 2) (hlen : ∀ l ∈ ls, l.length ≤ 10000000) :
    Calls Try.prog 65 #[v] w (RetPts w (endsLL ls)) := by
  have HV := Lib.hid hval
  have HLN := Lib.hid hlen
  clear hval hlen
  obtain ⟨g, cap, rfl, hlc, hcap, hg, hc⟩ := hr
  go_enter Try.func65, Try.ntmps65
  go_wp2
  go_loopw [3, 10] (fun vo i wr => ∃ k : Nat, k ≤ ls.length ∧ i = .int .i64 k ∧ OwnI wr w.heap.size vo (endsLL (ls.take k)) ∧ Below w.heap.size w wr) (fun _ i _ => ls.length - (intOf i).toNat)
  case atStart => exact ⟨0, Nat.zero_le _, rfl, OwnI.nil _ _, Below.refl _ _⟩
  case round =>
    obtain ⟨k, hk, rfl, hown, hb⟩ := hrel
    by_cases hlt : k < ls.length
    · obtain ⟨l, hl⟩ := getSome ls k hlt
      obtain ⟨u, hu, hru⟩ := hc k l hl
      have hcell : wr.cell? ⟨g, k, none⟩ = some u := (hb.cell (p := ⟨g, k, none⟩) hg).trans hu
      obtain ⟨p, cap2, rfl, hlc2, hcap2, hp2⟩ := hru
      have hlm : l.length ≤ 10000000 := HLN.out l (List.mem_of_getElem? hl)
      have hol : (endsLL (ls.take k)).length ≤ 40000000 := by
        have := endsLL_len 10000000 (ls.take k) (fun l hl => HLN.out l (List.mem_of_mem_take hl))
        have h2 : (ls.take k).length ≤ 2 := by simp; omega
        omega
      have hvl : valB l = true := List.all_eq_true.1 HV.out l (List.mem_of_getElem? hl)
      have HVL := Lib.hid hvl
      have HL := Lib.hid hl
      obtain ⟨Z, hZ⟩ : ∃ Z, Z = endsLL (ls.take k) := ⟨_, rfl⟩
      rw [← hZ] at hown hol
      have HZ := Lib.hid hZ
      clear hc hu hl hvl hZ
      go_wp2
      obtain ⟨wo, rfl⟩ : ∃ wo : World, wo = wr := ⟨_, rfl⟩
      go_loopw [3, 16] (fun vo i wr => ∃ j : Nat, j ≤ l.length ∧ i = .int .i64 j ∧ OwnI wr w.heap.size vo (Z ++ endsOf (l.take j)) ∧ Below w.heap.size w wr) (fun _ i _ => l.length - (intOf i).toNat)
      case atStart => exact ⟨0, Nat.zero_le _, rfl, by simpa [endsOf] using hown, hb⟩
      case round =>
        obtain ⟨j, hj, rfl, hown2, hb2⟩ := hrel
        by_cases hlt2 : j < l.length
        · obtain ⟨b, off, rfl, hbs, hc⟩ := hp2 (by omega)
          obtain ⟨x, hx⟩ := getSome l j hlt2
          have hcc := (hc.below hb2 hbs) j x hx
          have hc1 := hcc.1
          have hc2 := hcc.2
          obtain ⟨hx0, hx1, hx2⟩ := valB_bd HVL.out x (List.mem_of_getElem? hx)
          have hol2 : (Z ++ endsOf (l.take j)).length ≤ 80000000 := by
            rw [List.length_append, endsOf_len]
            have : (l.take j).length ≤ 10000000 := by simp; omega
            omega
          have HX := Lib.hid hx
          clear hc hp2 hcc hx
          go_wp2_with (at_builtin; refine wpl_appendI2 rfl _ _ rfl w.heap.size _ (Z ++ endsOf (l.take j)) x.1 (x.1 + x.2) rfl ?c1 (wr.heap.size + 1) 2 rfl ?c2 ?c3 (by omega) ?c4 ?_)
          case c1 => refine hown2.below ?_; (repeat' (first | exact Below.refl _ _ | exact Nat.le_refl _ | (refine Below.alloc ?_ ?_ _) | (refine bdrewN ?_ _) | (refine Below.drew ?_) | (simp; done) | (simp; omega)))
          try (case c2 => exact cell_new (by simp) rfl)
          try (case c3 => exact cell_new (by simp) rfl)
          case c4 => have := hb2.size; simp; omega
          intro v4 w4 ho4 hb4
          have hb5 : Below w.heap.size w w4 := (hb2.trans (by refine Below.mono (B := wr.heap.size) ?_ hb2.size; (repeat' (first | exact Below.refl _ _ | exact Nat.le_refl _ | (refine Below.alloc ?_ ?_ _) | (refine bdrewN ?_ _) | (refine Below.drew ?_) | (simp; done) | (simp; omega))))).trans hb4
          clear hb4 hown2 hb2
          go_wp2
          go_roundw
          case rel => exact ⟨j + 1, by omega, by go_num, by rw [endsOf_snoc l j x HX.out]; simpa using ho4, hb5⟩
          case measure => simp [intOf]; omega
        · go_wp2
          go_roundw
          case rel => exact ⟨k + 1, by omega, by go_num, by rw [endsLL_snoc ls k l HL.out, ← HZ.out]; rw [List.take_of_length_le (show l.length ≤ j by omega)] at hown2; exact hown2, hb2⟩
          case measure => simp [intOf]; omega
    · have hkn : k = ls.length := by omega
      subst hkn
      rw [List.take_length] at hown
      have hol : (endsLL ls).length ≤ 40000000 := by
        have := endsLL_len 10000000 ls HLN.out
        omega
      have hpt := points_of (endsLL ls)
      have HPT := Lib.hid hpt
      generalize endsLL ls = Z at *
      clear hpt
      go_wp2_with fail
      refine (sortI_any w.heap.size _ _ wr hown (by omega)).mono ?_
      rintro e w1 ⟨rfl, ho1, hb1⟩
      go_wp2_with fail
      refine (compactI_any w.heap.size _ _ w1 ho1 (by rw [List.length_mergeSort]; omega)).mono ?_
      rintro e w2 ⟨v2, rfl, ho2, hb2⟩
      go_wp2
      go_ret
      exact ⟨v2, _, rfl, ho2, HPT.out.1, HPT.out.2, (hb.trans hb1).trans hb2⟩

end Go.Proofs.Yteengifhndmjeaa
