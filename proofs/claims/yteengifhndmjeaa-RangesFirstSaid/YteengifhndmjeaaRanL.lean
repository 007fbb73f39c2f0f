/- Contract: the law RangesFirst. -/
import Derived.Test.YteengifhndmjeaaRanK
namespace Go.Proofs.Yteengifhndmjeaa
open Go.RowKit

def AllIn (A : List (Int × Int)) (i j : Int) (b : Bool) : Prop := b = true ↔ ∀ t, i ≤ t → t < j → Mem A t
theorem AllIn_snoc {A : List (Int × Int)} {i j : Int} {b c : Bool} (h : AllIn A i j b) (hij : i ≤ j) (hc : c = true ↔ Mem A j) : AllIn A i (j + 1) (b && c) := by
  unfold AllIn at *
  rw [Bool.and_eq_true, h, hc]
  constructor
  · rintro ⟨h1, h2⟩ t ht1 ht2
    by_cases e : t = j
    · subst e; exact h2
    · exact h1 t ht1 (by omega)
  · intro h1
    exact ⟨fun t ht1 ht2 => h1 t ht1 (by omega), h1 j hij (by omega)⟩

set_option maxHeartbeats 1000000 in
set_option maxRecDepth 100000 in
theorem firstLaw_any (a : List (Int × Int)) (n : Int) (v1 : Value) (w : World) (hn0 : 0 ≤ n) (hn1 : n ≤ 255) (hr1 : RdR w v1 a) :
    Calls Try.prog 7 #[v1, .int .u8 n] w fun e w' => e = .returned (.bool true) ∧ Below w.heap.size w w' := by
  have hb0 := Below.refl w.heap.size w
  go_enter Try.func7, Try.ntmps7
  go_wp2_with fail
  refine (tame_any a v1 _ hr1).mono ?_
  rintro e wc1 ⟨va, rfl, hoa, hbc1⟩
  replace hr1 := hr1.below hbc1
  replace hb0 := bel hb0 hbc1
  clear hbc1
  have ra := hoa.rd
  clear hoa
  clear hr1
  have hva := tame_val a
  have hla := tame_len a
  have hbd : ∀ p ∈ tameR a, 0 ≤ p.1 ∧ p.1 + p.2 ≤ 80 := by
    intro p hp
    unfold tameR at hp
    rw [List.mem_map] at hp
    obtain ⟨q, _, rfl⟩ := hp
    simp only []
    omega
  generalize tameR a = A at *
  have HVA := Lib.hid hva
  have HBD := Lib.hid hbd
  clear hva hbd
  obtain ⟨k, hk⟩ : ∃ k, k = 1 + n % 12 := ⟨_, rfl⟩
  have hk1 : 1 ≤ k := by omega
  have hk2 : k ≤ 12 := by omega
  have HK := Lib.hid hk
  clear hk
  go_wp2_with fail
  rw [← HK.out]
  refine (First_ok A k va _ ra HVA.out (by omega) hk1).mono ?_
  rintro e w2 ⟨x, hx, rfl, hb2⟩
  replace ra := ra.below hb2
  replace hb0 := bel hb0 hb2
  clear hb2
  have HX := Lib.hid hx
  clear hx
  have hrun : ∀ i, Run x i k ↔ Run A i k := fun i => ⟨fun h j h1 h2 => (HX.out.2 j).1 (h j h1 h2), fun h j h1 h2 => (HX.out.2 j).2 (h j h1 h2)⟩
  have hx0 : ∀ p ∈ x, 0 ≤ p.1 := fun p hp => (NFof_bd HX.out HVA.out p hp).1
  have hyes : ∀ i : Int, 0 ≤ i → Run A i k → (∀ j, 0 ≤ j → j < i → ¬ Run A j k) → firstR x k = (i, 0) := fun i h0 h1 h2 =>
    firstR_run x HX.out.1 k hk1 i h0 ((hrun i).2 h1) (fun j hj1 hj2 hc => h2 j hj1 hj2 ((hrun j).1 hc)) hx0
  have hno : (∀ j : Int, 0 ≤ j → j < 90 → ¬ Run A j k) → firstR x k = (0, 12) := fun h => firstR_norun x k (fun p hp hc => by
    refine h p.1 (hx0 p hp) ?_ ((hrun p.1).1 hc)
    obtain ⟨q, hq, h1, h2⟩ := (HX.out.2 p.1).1 ⟨p, hp, by omega, by have := HX.out.1.1 p hp; omega⟩
    have := HBD.out q hq
    omega)
  have HYES := Lib.hid hyes
  have HNO := Lib.hid hno
  clear hrun hx0 hyes hno
  obtain ⟨fs, hfs⟩ : ∃ fs, fs = firstR x k := ⟨_, rfl⟩
  rw [← hfs]
  have HFS := Lib.hid hfs
  clear hfs
  obtain ⟨s, c⟩ := fs
  go_wp2
  go_loopw [8, 9, 10] (fun vi _ _ wr => ∃ i : Nat, i ≤ 90 ∧ vi = .int .i64 i ∧ (∀ j : Int, 0 ≤ j → j < i → ¬ Run A j k) ∧ Below w2.heap.size w2 wr) (fun vi _ _ _ => 90 - (intOf vi).toNat)
  case atStart => exact ⟨0, by omega, rfl, fun j h1 h2 => by omega, Below.refl _ _⟩
  case round =>
    obtain ⟨i, hi, rfl, hnot, hb⟩ := hrel
    have HNOT := Lib.hid hnot
    clear hnot
    by_cases hlt : i < 90
    · have hd24 : decide ((i : Int) < 90) = true := by simp; omega
      go_wp2
      obtain ⟨wo, rfl⟩ : ∃ wo : World, wo = wr := ⟨_, rfl⟩
      go_loopw [9, 10] (fun vb vj wr => ∃ (j : Nat) (b : Bool), i ≤ j ∧ (j : Int) ≤ i + k ∧ vj = .int .i64 j ∧ vb = .bool b ∧ AllIn A i j b ∧ Below w2.heap.size w2 wr) (fun _ vj _ => (i + k - intOf vj).toNat)
      case atStart => exact ⟨i, true, Nat.le_refl _, by omega, rfl, rfl, by unfold AllIn; simp; intro t h1 h2; omega, hb⟩
      case round =>
        obtain ⟨j, b, hij, hjk, rfl, rfl, hall, hb3⟩ := hrel
        have HALL := Lib.hid hall
        clear hall
        by_cases hjlt : (j : Int) < i + k
        · have hcj : memB A j = true ↔ Mem A j := by rw [memB_in A _ HVA.out, inB_iff]
          have HCJ := Lib.hid hcj
          clear hcj
          cases b
          · go_wp2
            go_roundw
            case rel => exact ⟨j + 1, false, by omega, by omega, by go_num, rfl, by have := AllIn_snoc HALL.out (by omega) HCJ.out; simpa using this, hb3⟩
            case measure => simp [intOf]; omega
          · go_wp2_with fail
            refine (Has_any A j va _ (ra.below hb3)).mono ?_
            rintro e w4 ⟨rfl, hb4⟩
            have hb5 := bel hb3 hb4
            have h6 := AllIn_snoc HALL.out (by omega) HCJ.out
            have H6 := Lib.hid h6
            clear h6
            generalize memB A j = m at *
            cases m
            all_goals
              go_wp2
              go_roundw
              case rel => exact ⟨j + 1, _, by omega, by omega, by go_num, rfl, by simpa using H6.out, hb5⟩
              case measure => simp [intOf]; omega
        · have hje : (j : Int) = i + k := by omega
          have hA : b = true ↔ Run A i k := by
            have := HALL.out
            unfold AllIn at this
            rw [hje] at this
            exact this
          have HA := Lib.hid hA
          clear hA hje
          cases b
          · go_wp2
            go_roundw
            case rel => exact ⟨i + 1, by omega, by go_num, fun t h1 h2 => by
              by_cases e : t = i
              · subst e; intro hc; have := HA.out.2 hc; cases this
              · exact HNOT.out t h1 (by omega), hb3⟩
            case measure => simp [intOf]; omega
          · have hf := HYES.out i (by omega) (HA.out.1 rfl) HNOT.out
            rw [← HFS.out] at hf
            cases hf
            replace hb0 := bel hb0 hb3
            go_wp2_with fail
            refine (awake_any _).mono ?_
            rintro e w5 ⟨rfl, hb5⟩
            go_wp2
            go_ret
            exact ⟨rfl, bel hb0 hb5⟩
    · have hf := HNO.out (fun t h1 h2 => HNOT.out t h1 (by omega))
      rw [← HFS.out] at hf
      cases hf
      replace hb0 := bel hb0 hb
      go_wp2_with fail
      refine (awake_any _).mono ?_
      rintro e w5 ⟨rfl, hb5⟩
      go_wp2
      go_ret
      exact ⟨rfl, bel hb0 hb5⟩

end Go.Proofs.Yteengifhndmjeaa
