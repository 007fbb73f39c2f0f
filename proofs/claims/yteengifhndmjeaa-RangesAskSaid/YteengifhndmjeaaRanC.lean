/- Contracts: tame, proper, Normal, Count. -/
import Derived.Test.YteengifhndmjeaaRanB
namespace Go.Proofs.Yteengifhndmjeaa
open Go.RowKit

/-- A slice of slices of ranges. -/
def RdLL (w : World) (v : Value) (ls : List (List (Int × Int))) : Prop :=
  ∃ g cap, v = .slice (some ⟨g, 0, none⟩) ls.length cap ∧ ls.length ≤ cap ∧ cap ≤ 9223372036854775807 ∧ g < w.heap.size ∧ ∀ (i : Nat) (l : List (Int × Int)), ls[i]? = some l → ∃ u, w.cell? ⟨g, i, none⟩ = some u ∧ RdR w u l

theorem allv_false (ls : List (List (Int × Int))) (k : Nat) (l : List (Int × Int)) (h : ls[k]? = some l) (hv : valB l = false) : ls.all valB = false := by
  rw [List.all_eq_false]
  exact ⟨l, List.mem_of_getElem? h, by simp [hv]⟩
theorem allv_snoc (ls : List (List (Int × Int))) (k : Nat) (l : List (Int × Int)) (h : ls[k]? = some l) (ha : (ls.take k).all valB = true) (hv : valB l = true) : (ls.take (k + 1)).all valB = true := by
  rw [take_snoc' ls k l h, List.all_append, ha]
  simp [hv]

set_option maxHeartbeats 400000 in
theorem proper_any (ls : List (List (Int × Int))) (v : Value) (w : World) (hr : RdLL w v ls) :
    Calls Try.prog 47 #[v] w fun e w' => e = .returned (.bool (ls.all valB)) ∧ Below w.heap.size w w' := by
  obtain ⟨g, cap, rfl, hlc, hcap, hg, hc⟩ := hr
  go_enter Try.func47, Try.ntmps47
  go_wp2
  go_loopw [9] (fun i wr => ∃ k : Nat, k ≤ ls.length ∧ i = .int .i64 k ∧ (ls.take k).all valB = true ∧ Below w.heap.size w wr) (fun i _ => ls.length - (intOf i).toNat)
  case atStart => exact ⟨0, Nat.zero_le _, rfl, rfl, Below.refl _ _⟩
  case round =>
    obtain ⟨k, hk, rfl, hall, hb⟩ := hrel
    have HALL := Lib.hid hall; clear hall
    by_cases hlt : k < ls.length
    · obtain ⟨l, hl⟩ := getSome ls k hlt
      obtain ⟨u, hu, hru⟩ := hc k l hl
      have hcell : wr.cell? ⟨g, k, none⟩ = some u := (hb.cell (p := ⟨g, k, none⟩) hg).trans hu
      obtain ⟨p, cap2, rfl, hlc2, hcap2, hp2⟩ := hru.below hb
      have HL := Lib.hid hl
      clear hc hu hru hl
      go_wp2
      obtain ⟨wo, rfl⟩ : ∃ wo : World, wo = wr := ⟨_, rfl⟩
      go_loopw [15] (fun i wr => ∃ j : Nat, j ≤ l.length ∧ i = .int .i64 j ∧ valB (l.take j) = true ∧ Below wo.heap.size wo wr) (fun i _ => l.length - (intOf i).toNat)
      case atStart => exact ⟨0, Nat.zero_le _, rfl, rfl, Below.refl _ _⟩
      case round =>
        obtain ⟨j, hj, rfl, hall2, hb2⟩ := hrel
        have HALL2 := Lib.hid hall2; clear hall2
        by_cases hlt2 : j < l.length
        · obtain ⟨b, off, rfl, hbs, hc⟩ := hp2 (by omega)
          obtain ⟨x, hx⟩ := getSome l j hlt2
          have hcc := (hc.below hb2 hbs) j x hx
          have hc1 := hcc.1
          have hc2 := hcc.2
          have HX := Lib.hid hx
          clear hc hp2 hcc hx
          go_wp2_with fail
          refine (valid_any _ _ _).mono ?_
          rintro e w1 ⟨rfl, hb1⟩
          have hb3 : Below wo.heap.size wo w1 := bel (hb2.alloc hb2.size _) hb1
          cases hv : vldB x.1 x.2
          · go_wp2
            go_ret
            exact ⟨ret_bool (allv_false ls k l HL.out (valB_false l j x HX.out hv)).symm, bel hb hb3⟩
          · go_wp2
            go_roundw
            case rel => exact ⟨j + 1, by omega, by go_num, all_snoc l j x HX.out HALL2.out hv, hb3⟩
            case measure => simp [intOf]; omega
        · go_wp2
          go_roundw
          case rel => exact ⟨k + 1, by omega, by go_num, allv_snoc ls k l HL.out HALL.out (valB_true l j (by omega) HALL2.out), bel hb hb2⟩
          case measure => simp [intOf]; omega
    · go_wp2
      go_ret
      refine ⟨ret_bool ?_, hb⟩
      have := HALL.out
      rw [List.take_of_length_le (by omega)] at this
      exact this.symm

theorem RdLL_one (w : World) (v : Value) (l : List (Int × Int)) (t : TypeId) (h : RdR w v l) : RdLL (w.alloc (.cells #[v] t)) (.slice (some ⟨w.heap.size, 0, none⟩) 1 1) [l] := by
  refine ⟨w.heap.size, 1, rfl, by simp, by omega, by simp, fun i l' hi => ?_⟩
  match i, hi with
  | 0, hi =>
    simp at hi
    subst hi
    exact ⟨v, by go_simp, h.below ((Below.refl _ _).alloc (Nat.le_refl _) _)⟩
  | i + 1, hi => simp at hi

theorem RdLL_two (w : World) (v1 v2 : Value) (l1 l2 : List (Int × Int)) (t : TypeId) (h1 : RdR w v1 l1) (h2 : RdR w v2 l2) : RdLL (w.alloc (.cells #[v1, v2] t)) (.slice (some ⟨w.heap.size, 0, none⟩) 2 2) [l1, l2] := by
  refine ⟨w.heap.size, 2, rfl, by simp, by omega, by simp, fun i l' hi => ?_⟩
  match i, hi with
  | 0, hi =>
    simp at hi
    subst hi
    exact ⟨v1, by go_simp, h1.below ((Below.refl _ _).alloc (Nat.le_refl _) _)⟩
  | 1, hi =>
    simp at hi
    subst hi
    exact ⟨v2, by go_simp, h2.below ((Below.refl _ _).alloc (Nat.le_refl _) _)⟩
  | i + 2, hi => simp at hi

/-- A normal form and no error. -/
def RetNF2 (w : World) (S : Int → Prop) (N : Nat) (e : Ending) (w' : World) : Prop :=
  ∃ v x, e = .returned (.tuple #[v, .int .i64 0]) ∧ OwnR w' w.heap.size v x ∧ NFof x S ∧ x.length ≤ N ∧ Below w.heap.size w w'

set_option maxHeartbeats 400000 in
theorem Normal_ok (l : List (Int × Int)) (v : Value) (w : World) (hr : RdR w v l) (hval : valB l = true) (hlen : l.length ≤ 10000000) :
    Calls Try.prog 19 #[v] w (RetNF2 w (Mem l) l.length) := by
  have HV := Lib.hid hval; clear hval
  have hr0 := hr
  obtain ⟨p0, cap0, rfl, _⟩ := hr0
  go_enter Try.func19, Try.ntmps19
  go_wp2_with fail
  refine (proper_any [l] _ _ (RdLL_one w _ l _ hr)).mono ?_
  rintro e w1 ⟨rfl, hb1⟩
  have hb01 : Below w.heap.size w w1 := bel ((Below.refl _ _).alloc (Nat.le_refl _) _) hb1
  have hv : [l].all valB = true := by simp [HV.out]
  go_wp2_with fail
  refine (normal_any l _ w1 (hr.below hb01) HV.out hlen).mono ?_
  rintro e w2 ⟨v2, x, rfl, ho, hx, hxl, hb2⟩
  go_wp2
  go_ret2
  exact ⟨v2, x, rfl, ho.mono hb01.size, hx, hxl, bel hb01 hb2⟩

set_option maxHeartbeats 400000 in
theorem Normal_bad (l : List (Int × Int)) (v : Value) (w : World) (hr : RdR w v l) (hval : valB l = false) :
    Calls Try.prog 19 #[v] w fun e w' => e = .returned (.tuple #[.slice none 0 0, .int .i64 1]) ∧ Below w.heap.size w w' := by
  have HV := Lib.hid hval; clear hval
  have hr0 := hr
  obtain ⟨p0, cap0, rfl, _⟩ := hr0
  go_enter Try.func19, Try.ntmps19
  go_wp2_with fail
  refine (proper_any [l] _ _ (RdLL_one w _ l _ hr)).mono ?_
  rintro e w1 ⟨rfl, hb1⟩
  have hb01 : Below w.heap.size w w1 := bel ((Below.refl _ _).alloc (Nat.le_refl _) _) hb1
  have hv : [l].all valB = false := by simp [HV.out]
  go_wp2
  go_ret2
  exact ⟨rfl, hb01⟩

def sumR (l : List (Int × Int)) : Int := (l.map (·.2)).sum
theorem sumR_snoc (l : List (Int × Int)) (k : Nat) (x : Int × Int) (h : l[k]? = some x) : sumR (l.take (k + 1)) = sumR (l.take k) + x.2 := by
  rw [take_snoc' l k x h]
  simp [sumR]

/-- A normal form of small numbers has small sums. -/
theorem NF_sum_bd (M : Int) : ∀ (l : List (Int × Int)) (lo : Int), NF l → (∀ p ∈ l, lo ≤ p.1 ∧ p.1 + p.2 ≤ M) → lo ≤ M → 0 ≤ sumR l ∧ sumR l ≤ M - lo
  | [], lo, _, _, hM => by simp [sumR]; omega
  | p :: l, lo, h, hb, hM => by
    have hp := hb p (by simp)
    have hh := h.head
    have ih := NF_sum_bd M l (p.1 + p.2) h.tail (fun q hq => ⟨by have := hh.2 q hq; omega, (hb q (by simp [hq])).2⟩) hp.2
    have e : sumR (p :: l) = p.2 + sumR l := by simp [sumR]
    omega

theorem NFof_bd {x l : List (Int × Int)} (hx : NFof x (Mem l)) (hv : valB l = true) : ∀ p ∈ x, 0 ≤ p.1 ∧ 1 ≤ p.2 ∧ p.1 + p.2 ≤ 1073741824 := fun p hp => by
  have h1 := hx.1.1 p hp
  obtain ⟨a, ha, ha1, _⟩ := (hx.2 p.1).1 ⟨p, hp, by omega, by omega⟩
  obtain ⟨b, hb, _, hb2⟩ := (hx.2 (p.1 + p.2 - 1)).1 ⟨p, hp, by omega, by omega⟩
  have := valB_bd hv a ha
  have := valB_bd hv b hb
  omega
theorem NF_take {x : List (Int × Int)} (h : NF x) (k : Nat) : NF (x.take k) := ⟨fun p hp => h.1 p (List.mem_of_mem_take hp), h.2.sublist (List.take_sublist k x)⟩

set_option maxHeartbeats 400000 in
theorem Count_ok (l : List (Int × Int)) (v : Value) (w : World) (hr : RdR w v l) (hval : valB l = true) (hlen : l.length ≤ 10000000) :
    Calls Try.prog 21 #[v] w fun e w' => ∃ x, NFof x (Mem l) ∧ e = .returned (.tuple #[.int .i64 (sumR x), .int .i64 0]) ∧ Below w.heap.size w w' := by
  have HV := Lib.hid hval; clear hval
  go_enter Try.func21, Try.ntmps21
  go_wp2_with fail
  refine (Normal_ok l v w hr HV.out hlen).mono ?_
  rintro e w1 ⟨v1, x, rfl, ho, hx, hxl, hb1⟩
  obtain ⟨p, cap, rfl, hlc, hcap, hp⟩ := ho.rd
  have HN := Lib.hid hx
  clear ho hx hr
  go_wp2
  go_loopw [5, 15] (fun n i wr => ∃ k : Nat, k ≤ x.length ∧ i = .int .i64 k ∧ n = .int .i64 (sumR (x.take k)) ∧ Below w1.heap.size w1 wr) (fun _ i _ => x.length - (intOf i).toNat)
  case atStart => exact ⟨0, Nat.zero_le _, rfl, rfl, Below.refl _ _⟩
  case round =>
    obtain ⟨k, hk, rfl, rfl, hb⟩ := hrel
    by_cases hlt : k < x.length
    · obtain ⟨b, off, rfl, hbs, hc⟩ := hp (by omega)
      obtain ⟨y, hy⟩ := getSome x k hlt
      have hcc := (hc.below hb hbs) k y hy
      have hc1 := hcc.1
      have hc2 := hcc.2
      have hbd := NFof_bd HN.out HV.out
      have hyb := hbd y (List.mem_of_getElem? hy)
      have hs := NF_sum_bd 1073741824 (x.take k) 0 (NF_take HN.out.1 k) (fun p hp => by have := hbd p (List.mem_of_mem_take hp); omega) (by omega)
      have HS := Lib.hid (sumR_snoc x k y hy)
      obtain ⟨hs1, hs2⟩ := hs
      obtain ⟨hy1, hy2, hy3⟩ := hyb
      clear hc hp hcc hy hbd
      go_wp2
      go_roundw
      case rel => exact ⟨k + 1, by omega, by go_num, by rw [HS.out], hb.alloc hb.size _⟩
      case measure => simp [intOf]; omega
    · go_wp2
      go_ret2
      have hkn : k = x.length := by omega
      subst hkn
      rw [List.take_length]
      exact ⟨x, HN.out, rfl, bel hb1 hb⟩

set_option maxHeartbeats 400000 in
theorem Count_bad (l : List (Int × Int)) (v : Value) (w : World) (hr : RdR w v l) (hval : valB l = false) :
    Calls Try.prog 21 #[v] w fun e w' => e = .returned (.tuple #[.int .i64 0, .int .i64 1]) ∧ Below w.heap.size w w' := by
  have HV := Lib.hid hval; clear hval
  go_enter Try.func21, Try.ntmps21
  go_wp2_with fail
  refine (Normal_bad l v w hr HV.out).mono ?_
  rintro e w1 ⟨rfl, hb1⟩
  go_wp2
  go_loopw [5, 15] (fun n i wr => n = .int .i64 0 ∧ i = .int .i64 0 ∧ Below w.heap.size w wr) (fun _ _ _ => 0)
  case atStart => exact ⟨rfl, rfl, hb1⟩
  case round =>
    obtain ⟨rfl, rfl, hb⟩ := hrel
    go_wp2
    go_ret2
    exact ⟨rfl, hb⟩

end Go.Proofs.Yteengifhndmjeaa
