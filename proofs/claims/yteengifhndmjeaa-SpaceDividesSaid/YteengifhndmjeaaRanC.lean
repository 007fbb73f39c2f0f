/- Contracts: tame, proper, Normal, Count. Contracts: First, Take, Has, Equal, tame. -/
import Derived.Test.YteengifhndmjeaaRanB
namespace Go.Proofs.Yteengifhndmjeaa
open Go.RowKit

/-- A slice of slices of ranges. -/
def RdLL (w : World) (v : Value) (ls : List (List (Int × Int))) : Prop :=
  ∃ g cap, v = .slice (some ⟨g, 0, none⟩) ls.length cap ∧ ls.length ≤ cap ∧ cap ≤ 9223372036854775807 ∧ g < w.heap.size ∧ ∀ (i : Nat) (l : List (Int × Int)), ls[i]? = some l → ∃ u, w.cell? ⟨g, i, none⟩ = some u ∧ RdR w u l

theorem allv_false (ls : List (List (Int × Int))) (k : Nat) (l : List (Int × Int)) (h : ls[k]? = some l) (hv : valB l = false) : ls.all valB = false := by
  rw [List.all_eq_false]
  exact ⟨l, List.mem_of_getElem? h, by simp [hv]⟩
theorem allv_snoc (ls : List (List (Int × Int))) (k : Nat) (l : List (Int × Int)) (h : ls[k]? = some l) (ha : (ls.take k).all valB = true) (hv : valB l = true) : (ls.take (k + 1)).all valB = true := by
  rw [take_snoc' ls k l h, List.all_append, ha]
  simp [hv]

set_option maxHeartbeats 400000 in
theorem proper_any (ls : List (List (Int × Int))) (v : Value) (w : World) (hr : RdLL w v ls) :
    Calls Try.prog 47 #[v] w fun e w' => e = .returned (.bool (ls.all valB)) ∧ Below w.heap.size w w' := by
  obtain ⟨g, cap, rfl, hlc, hcap, hg, hc⟩ := hr
  go_enter Try.func47, Try.ntmps47
  go_wp2
  go_loopw [9] (fun i wr => ∃ k : Nat, k ≤ ls.length ∧ i = .int .i64 k ∧ (ls.take k).all valB = true ∧ Below w.heap.size w wr) (fun i _ => ls.length - (intOf i).toNat)
  case atStart => exact ⟨0, Nat.zero_le _, rfl, rfl, Below.refl _ _⟩
  case round =>
    obtain ⟨k, hk, rfl, hall, hb⟩ := hrel
    have HALL := Lib.hid hall; clear hall
    by_cases hlt : k < ls.length
    · obtain ⟨l, hl⟩ := getSome ls k hlt
      obtain ⟨u, hu, hru⟩ := hc k l hl
      have hcell : wr.cell? ⟨g, k, none⟩ = some u := (hb.cell (p := ⟨g, k, none⟩) hg).trans hu
      obtain ⟨p, cap2, rfl, hlc2, hcap2, hp2⟩ := hru.below hb
      have HL := Lib.hid hl
      clear hc hu hru hl
      go_wp2
      obtain ⟨wo, rfl⟩ : ∃ wo : World, wo = wr := ⟨_, rfl⟩
      go_loopw [15] (fun i wr => ∃ j : Nat, j ≤ l.length ∧ i = .int .i64 j ∧ valB (l.take j) = true ∧ Below wo.heap.size wo wr) (fun i _ => l.length - (intOf i).toNat)
      case atStart => exact ⟨0, Nat.zero_le _, rfl, rfl, Below.refl _ _⟩
      case round =>
        obtain ⟨j, hj, rfl, hall2, hb2⟩ := hrel
        have HALL2 := Lib.hid hall2; clear hall2
        by_cases hlt2 : j < l.length
        · obtain ⟨b, off, rfl, hbs, hc⟩ := hp2 (by omega)
          obtain ⟨x, hx⟩ := getSome l j hlt2
          have hcc := (hc.below hb2 hbs) j x hx
          have hc1 := hcc.1
          have hc2 := hcc.2
          have HX := Lib.hid hx
          clear hc hp2 hcc hx
          go_wp2_with fail
          refine (valid_any _ _ _).mono ?_
          rintro e w1 ⟨rfl, hb1⟩
          have hb3 : Below wo.heap.size wo w1 := bel (hb2.alloc hb2.size _) hb1
          cases hv : vldB x.1 x.2
          · go_wp2
            go_ret
            exact ⟨ret_bool (allv_false ls k l HL.out (valB_false l j x HX.out hv)).symm, bel hb hb3⟩
          · go_wp2
            go_roundw
            case rel => exact ⟨j + 1, by omega, by go_num, all_snoc l j x HX.out HALL2.out hv, hb3⟩
            case measure => simp [intOf]; omega
        · go_wp2
          go_roundw
          case rel => exact ⟨k + 1, by omega, by go_num, allv_snoc ls k l HL.out HALL.out (valB_true l j (by omega) HALL2.out), bel hb hb2⟩
          case measure => simp [intOf]; omega
    · go_wp2
      go_ret
      refine ⟨ret_bool ?_, hb⟩
      have := HALL.out
      rw [List.take_of_length_le (by omega)] at this
      exact this.symm

theorem RdLL_one (w : World) (v : Value) (l : List (Int × Int)) (t : TypeId) (h : RdR w v l) : RdLL (w.alloc (.cells #[v] t)) (.slice (some ⟨w.heap.size, 0, none⟩) 1 1) [l] := by
  refine ⟨w.heap.size, 1, rfl, by simp, by omega, by simp, fun i l' hi => ?_⟩
  match i, hi with
  | 0, hi =>
    simp at hi
    subst hi
    exact ⟨v, by go_simp, h.below ((Below.refl _ _).alloc (Nat.le_refl _) _)⟩
  | i + 1, hi => simp at hi

theorem RdLL_two (w : World) (v1 v2 : Value) (l1 l2 : List (Int × Int)) (t : TypeId) (h1 : RdR w v1 l1) (h2 : RdR w v2 l2) : RdLL (w.alloc (.cells #[v1, v2] t)) (.slice (some ⟨w.heap.size, 0, none⟩) 2 2) [l1, l2] := by
  refine ⟨w.heap.size, 2, rfl, by simp, by omega, by simp, fun i l' hi => ?_⟩
  match i, hi with
  | 0, hi =>
    simp at hi
    subst hi
    exact ⟨v1, by go_simp, h1.below ((Below.refl _ _).alloc (Nat.le_refl _) _)⟩
  | 1, hi =>
    simp at hi
    subst hi
    exact ⟨v2, by go_simp, h2.below ((Below.refl _ _).alloc (Nat.le_refl _) _)⟩
  | i + 2, hi => simp at hi

/-- A normal form and no error. -/
def RetNF2 (w : World) (S : Int → Prop) (N : Nat) (e : Ending) (w' : World) : Prop :=
  ∃ v x, e = .returned (.tuple #[v, .int .i64 0]) ∧ OwnR w' w.heap.size v x ∧ NFof x S ∧ x.length ≤ N ∧ Below w.heap.size w w'

set_option maxHeartbeats 400000 in
theorem Normal_ok (l : List (Int × Int)) (v : Value) (w : World) (hr : RdR w v l) (hval : valB l = true) (hlen : l.length ≤ 10000000) :
    Calls Try.prog 19 #[v] w (RetNF2 w (Mem l) l.length) := by
  have HV := Lib.hid hval; clear hval
  have hr0 := hr
  obtain ⟨p0, cap0, rfl, _⟩ := hr0
  go_enter Try.func19, Try.ntmps19
  go_wp2_with fail
  refine (proper_any [l] _ _ (RdLL_one w _ l _ hr)).mono ?_
  rintro e w1 ⟨rfl, hb1⟩
  have hb01 : Below w.heap.size w w1 := bel ((Below.refl _ _).alloc (Nat.le_refl _) _) hb1
  have hv : [l].all valB = true := by simp [HV.out]
  go_wp2_with fail
  refine (normal_any l _ w1 (hr.below hb01) HV.out hlen).mono ?_
  rintro e w2 ⟨v2, x, rfl, ho, hx, hxl, hb2⟩
  go_wp2
  go_ret2
  exact ⟨v2, x, rfl, ho.mono hb01.size, hx, hxl, bel hb01 hb2⟩

set_option maxHeartbeats 400000 in
theorem Normal_bad (l : List (Int × Int)) (v : Value) (w : World) (hr : RdR w v l) (hval : valB l = false) :
    Calls Try.prog 19 #[v] w fun e w' => e = .returned (.tuple #[.slice none 0 0, .int .i64 1]) ∧ Below w.heap.size w w' := by
  have HV := Lib.hid hval; clear hval
  have hr0 := hr
  obtain ⟨p0, cap0, rfl, _⟩ := hr0
  go_enter Try.func19, Try.ntmps19
  go_wp2_with fail
  refine (proper_any [l] _ _ (RdLL_one w _ l _ hr)).mono ?_
  rintro e w1 ⟨rfl, hb1⟩
  have hb01 : Below w.heap.size w w1 := bel ((Below.refl _ _).alloc (Nat.le_refl _) _) hb1
  have hv : [l].all valB = false := by simp [HV.out]
  go_wp2
  go_ret2
  exact ⟨rfl, hb01⟩

def sumR (l : List (Int × Int)) : Int := (l.map (·.2)).sum
theorem sumR_snoc (l : List (Int × Int)) (k : Nat) (x : Int × Int) (h : l[k]? = some x) : sumR (l.take (k + 1)) = sumR (l.take k) + x.2 := by
  rw [take_snoc' l k x h]
  simp [sumR]

/-- A normal form of small numbers has small sums. -/
theorem NF_sum_bd (M : Int) : ∀ (l : List (Int × Int)) (lo : Int), NF l → (∀ p ∈ l, lo ≤ p.1 ∧ p.1 + p.2 ≤ M) → lo ≤ M → 0 ≤ sumR l ∧ sumR l ≤ M - lo
  | [], lo, _, _, hM => by simp [sumR]; omega
  | p :: l, lo, h, hb, hM => by
    have hp := hb p (by simp)
    have hh := h.head
    have ih := NF_sum_bd M l (p.1 + p.2) h.tail (fun q hq => ⟨by have := hh.2 q hq; omega, (hb q (by simp [hq])).2⟩) hp.2
    have e : sumR (p :: l) = p.2 + sumR l := by simp [sumR]
    omega

theorem NFof_bd {x l : List (Int × Int)} (hx : NFof x (Mem l)) (hv : valB l = true) : ∀ p ∈ x, 0 ≤ p.1 ∧ 1 ≤ p.2 ∧ p.1 + p.2 ≤ 1073741824 := fun p hp => by
  have h1 := hx.1.1 p hp
  obtain ⟨a, ha, ha1, _⟩ := (hx.2 p.1).1 ⟨p, hp, by omega, by omega⟩
  obtain ⟨b, hb, _, hb2⟩ := (hx.2 (p.1 + p.2 - 1)).1 ⟨p, hp, by omega, by omega⟩
  have := valB_bd hv a ha
  have := valB_bd hv b hb
  omega
theorem NF_take {x : List (Int × Int)} (h : NF x) (k : Nat) : NF (x.take k) := ⟨fun p hp => h.1 p (List.mem_of_mem_take hp), h.2.sublist (List.take_sublist k x)⟩

set_option maxHeartbeats 400000 in
theorem Count_ok (l : List (Int × Int)) (v : Value) (w : World) (hr : RdR w v l) (hval : valB l = true) (hlen : l.length ≤ 10000000) :
    Calls Try.prog 21 #[v] w fun e w' => ∃ x, NFof x (Mem l) ∧ e = .returned (.tuple #[.int .i64 (sumR x), .int .i64 0]) ∧ Below w.heap.size w w' := by
  have HV := Lib.hid hval; clear hval
  go_enter Try.func21, Try.ntmps21
  go_wp2_with fail
  refine (Normal_ok l v w hr HV.out hlen).mono ?_
  rintro e w1 ⟨v1, x, rfl, ho, hx, hxl, hb1⟩
  obtain ⟨p, cap, rfl, hlc, hcap, hp⟩ := ho.rd
  have HN := Lib.hid hx
  clear ho hx hr
  go_wp2
  go_loopw [5, 15] (fun n i wr => ∃ k : Nat, k ≤ x.length ∧ i = .int .i64 k ∧ n = .int .i64 (sumR (x.take k)) ∧ Below w1.heap.size w1 wr) (fun _ i _ => x.length - (intOf i).toNat)
  case atStart => exact ⟨0, Nat.zero_le _, rfl, rfl, Below.refl _ _⟩
  case round =>
    obtain ⟨k, hk, rfl, rfl, hb⟩ := hrel
    by_cases hlt : k < x.length
    · obtain ⟨b, off, rfl, hbs, hc⟩ := hp (by omega)
      obtain ⟨y, hy⟩ := getSome x k hlt
      have hcc := (hc.below hb hbs) k y hy
      have hc1 := hcc.1
      have hc2 := hcc.2
      have hbd := NFof_bd HN.out HV.out
      have hyb := hbd y (List.mem_of_getElem? hy)
      have hs := NF_sum_bd 1073741824 (x.take k) 0 (NF_take HN.out.1 k) (fun p hp => by have := hbd p (List.mem_of_mem_take hp); omega) (by omega)
      have HS := Lib.hid (sumR_snoc x k y hy)
      obtain ⟨hs1, hs2⟩ := hs
      obtain ⟨hy1, hy2, hy3⟩ := hyb
      clear hc hp hcc hy hbd
      go_wp2
      go_roundw
      case rel => exact ⟨k + 1, by omega, by go_num, by rw [HS.out], hb.alloc hb.size _⟩
      case measure => simp [intOf]; omega
    · go_wp2
      go_ret2
      have hkn : k = x.length := by omega
      subst hkn
      rw [List.take_length]
      exact ⟨x, HN.out, rfl, bel hb1 hb⟩

set_option maxHeartbeats 400000 in
theorem Count_bad (l : List (Int × Int)) (v : Value) (w : World) (hr : RdR w v l) (hval : valB l = false) :
    Calls Try.prog 21 #[v] w fun e w' => e = .returned (.tuple #[.int .i64 0, .int .i64 1]) ∧ Below w.heap.size w w' := by
  have HV := Lib.hid hval; clear hval
  go_enter Try.func21, Try.ntmps21
  go_wp2_with fail
  refine (Normal_bad l v w hr HV.out).mono ?_
  rintro e w1 ⟨rfl, hb1⟩
  go_wp2
  go_loopw [5, 15] (fun n i wr => n = .int .i64 0 ∧ i = .int .i64 0 ∧ Below w.heap.size w wr) (fun _ _ _ => 0)
  case atStart => exact ⟨rfl, rfl, hb1⟩
  case round =>
    obtain ⟨rfl, rfl, hb⟩ := hrel
    go_wp2
    go_ret2
    exact ⟨rfl, hb⟩

end Go.Proofs.Yteengifhndmjeaa

namespace Go.Proofs.Yteengifhndmjeaa
open Go.RowKit

/-- The first range that is long enough: its start, or the error. -/
def firstR : List (Int × Int) → Int → Int × Int
  | [], _ => (0, 12)
  | p :: l, n => if n ≤ p.2 then (p.1, 0) else firstR l n
theorem firstR_found (x : List (Int × Int)) (n : Int) (k : Nat) (y : Int × Int) (h : x[k]? = some y) (hn : n ≤ y.2) (ha : ∀ p ∈ x.take k, p.2 < n) : firstR x n = (y.1, 0) := by
  induction x generalizing k with
  | nil => simp at h
  | cons p l ih =>
    cases k with
    | zero => simp at h; subst h; simp [firstR, hn]
    | succ k =>
      have h1 := ha p (by simp)
      rw [firstR, if_neg (by omega)]
      exact ih k (by simpa using h) (fun q hq => ha q (by simp [hq]))
theorem firstR_none (x : List (Int × Int)) (n : Int) (ha : ∀ p ∈ x, p.2 < n) : firstR x n = (0, 12) := by
  induction x with
  | nil => rfl
  | cons p l ih =>
    have h1 := ha p (by simp)
    rw [firstR, if_neg (by omega)]
    exact ih (fun q hq => ha q (by simp [hq]))
theorem short_snoc (x : List (Int × Int)) (n : Int) (k : Nat) (y : Int × Int) (h : x[k]? = some y) (ha : ∀ p ∈ x.take k, p.2 < n) (hy : y.2 < n) : ∀ p ∈ x.take (k + 1), p.2 < n := by
  rw [take_snoc' x k y h]
  intro p hp
  rcases List.mem_append.1 hp with hp | hp
  · exact ha p hp
  · simp at hp; subst hp; exact hy

def RetFirst (w : World) (l : List (Int × Int)) (n : Int) (e : Ending) (w' : World) : Prop :=
  ∃ x, NFof x (Mem l) ∧ e = .returned (.tuple #[.int .i64 (firstR x n).1, .int .i64 (firstR x n).2]) ∧ Below w.heap.size w w'

set_option maxHeartbeats 400000 in
theorem First_ok (l : List (Int × Int)) (n : Int) (v : Value) (w : World) (hr : RdR w v l) (hval : valB l = true) (hlen : l.length ≤ 10000000) (hn : 1 ≤ n) :
    Calls Try.prog 24 #[v, .int .i64 n] w (RetFirst w l n) := by
  have HV := Lib.hid hval; clear hval
  go_enter Try.func24, Try.ntmps24
  go_wp2_with fail
  refine (Normal_ok l v w hr HV.out hlen).mono ?_
  rintro e w1 ⟨v1, x, rfl, ho, hx, hxl, hb1⟩
  obtain ⟨p, cap, rfl, hlc, hcap, hp⟩ := ho.rd
  have HN := Lib.hid hx
  clear ho hx hr
  go_wp2
  go_loopw [21] (fun i wr => ∃ k : Nat, k ≤ x.length ∧ i = .int .i64 k ∧ (∀ p ∈ x.take k, p.2 < n) ∧ Below w1.heap.size w1 wr) (fun i _ => x.length - (intOf i).toNat)
  case atStart => exact ⟨0, Nat.zero_le _, rfl, by simp, Below.refl _ _⟩
  case round =>
    obtain ⟨k, hk, rfl, hall, hb⟩ := hrel
    have HALL := Lib.hid hall; clear hall
    by_cases hlt : k < x.length
    · obtain ⟨b, off, rfl, hbs, hc⟩ := hp (by omega)
      obtain ⟨y, hy⟩ := getSome x k hlt
      have hcc := (hc.below hb hbs) k y hy
      have hc1 := hcc.1
      have hc2 := hcc.2
      have HY := Lib.hid hy
      clear hc hp hcc hy
      by_cases hny : n ≤ y.2
      · go_wp2
        go_ret2
        exact ⟨x, HN.out, by rw [firstR_found x n k y HY.out hny HALL.out]; rfl, bel hb1 (hb.alloc hb.size _)⟩
      · go_wp2
        go_roundw
        case rel => exact ⟨k + 1, by omega, by go_num, short_snoc x n k y HY.out HALL.out (by omega), hb.alloc hb.size _⟩
        case measure => simp [intOf]; omega
    · go_wp2
      go_ret2
      have hkn : k = x.length := by omega
      subst hkn
      have h2 := HALL.out
      rw [List.take_length] at h2
      exact ⟨x, HN.out, by rw [firstR_none x n h2]; rfl, bel hb1 hb⟩

set_option maxHeartbeats 400000 in
theorem First_bad (l : List (Int × Int)) (n : Int) (v : Value) (w : World) (hr : RdR w v l) (hlen : l.length ≤ 10000000) (h : valB l = false ∨ n < 1) :
    Calls Try.prog 24 #[v, .int .i64 n] w fun e w' => e = .returned (.tuple #[.int .i64 0, .int .i64 1]) ∧ Below w.heap.size w w' := by
  cases hval : valB l
  · have HV := Lib.hid hval; clear hval h
    go_enter Try.func24, Try.ntmps24
    go_wp2_with fail
    refine (Normal_bad l v w hr HV.out).mono ?_
    rintro e w1 ⟨rfl, hb1⟩
    go_wp2
    go_ret2
    exact ⟨rfl, hb1⟩
  · have hn : n < 1 := h.resolve_left (by simp [hval])
    have HV := Lib.hid hval; clear hval h
    go_enter Try.func24, Try.ntmps24
    go_wp2_with fail
    refine (Normal_ok l v w hr HV.out hlen).mono ?_
    rintro e w1 ⟨v1, x, rfl, ho, hx, hxl, hb1⟩
    go_wp2
    go_ret2
    exact ⟨rfl, hb1⟩

/-- The n least numbers, as ranges; and how many are lacking. -/
def tkR : List (Int × Int) → Int → List (Int × Int)
  | [], _ => []
  | p :: l, n => if n ≤ 0 then [] else (p.1, min p.2 n) :: tkR l (n - min p.2 n)
def rmR : List (Int × Int) → Int → Int
  | [], n => n
  | p :: l, n => if n ≤ 0 then n else rmR l (n - min p.2 n)
theorem tkR_zero (x : List (Int × Int)) : tkR x 0 = [] := by cases x <;> simp [tkR]
theorem rmR_zero (x : List (Int × Int)) : rmR x 0 = 0 := by cases x <;> simp [rmR]

def RetTake (w : World) (l : List (Int × Int)) (n : Int) (e : Ending) (w' : World) : Prop :=
  ∃ x, NFof x (Mem l) ∧ Below w.heap.size w w' ∧
    ((0 < rmR x n ∧ e = .returned (.tuple #[.slice none 0 0, .int .i64 12])) ∨ (rmR x n ≤ 0 ∧ ∃ v, e = .returned (.tuple #[v, .int .i64 0]) ∧ OwnR w' w.heap.size v (tkR x n)))

theorem drop_cons {α : Type} (x : List α) (k : Nat) (y : α) (h : x[k]? = some y) : x.drop k = y :: x.drop (k + 1) := by
  obtain ⟨hk, rfl⟩ := List.getElem?_eq_some_iff.1 h
  exact List.drop_eq_getElem_cons hk

set_option maxHeartbeats 1000000 in
theorem Take_ok (l : List (Int × Int)) (n : Int) (v : Value) (w : World) (hr : RdR w v l) (hval : valB l = true) (hlen : l.length ≤ 10000000) (hn : 0 ≤ n) (hn2 : n ≤ 9223372036854775807) :
    Calls Try.prog 25 #[v, .int .i64 n] w (RetTake w l n) := by
  have HV := Lib.hid hval; clear hval
  go_enter Try.func25, Try.ntmps25
  go_wp2_with fail
  refine (Normal_ok l v w hr HV.out hlen).mono ?_
  rintro e w1 ⟨v1, x, rfl, ho, hx, hxl, hb1⟩
  obtain ⟨p, cap, rfl, hlc, hcap, hp⟩ := ho.rd
  have HN := Lib.hid hx
  have hxl2 : x.length ≤ 10000000 := by omega
  clear ho hx hr hxl
  go_wp2
  go_loopw [1, 7, 22] (fun nn vo i wr => ∃ (k : Nat) (m : Int) (o : List (Int × Int)), k ≤ x.length ∧ i = .int .i64 k ∧ nn = .int .i64 m ∧ 0 ≤ m ∧ m ≤ n ∧ o.length ≤ k ∧ OwnR wr w1.heap.size vo o ∧ o ++ tkR (x.drop k) m = tkR x n ∧ rmR (x.drop k) m = rmR x n ∧ Below w1.heap.size w1 wr) (fun _ _ i _ => x.length - (intOf i).toNat)
  case atStart => exact ⟨0, n, [], Nat.zero_le _, rfl, rfl, hn, by omega, by simp, OwnR.nil _ _, rfl, rfl, Below.refl _ _⟩
  case round =>
    obtain ⟨k, m, o, hk, rfl, rfl, hm0, hmn, hol, hown, htk, hrm, hb⟩ := hrel
    have HTK := Lib.hid htk
    have HRM := Lib.hid hrm
    clear htk hrm
    by_cases hlt : k < x.length
    · obtain ⟨b, off, rfl, hbs, hc⟩ := hp (by omega)
      obtain ⟨y, hy⟩ := getSome x k hlt
      have hcc := (hc.below hb hbs) k y hy
      have hc1 := hcc.1
      have hc2 := hcc.2
      have hyb := NFof_bd HN.out HV.out y (List.mem_of_getElem? hy)
      have HY := Lib.hid hy
      obtain ⟨hy1, hy2, hy3⟩ := hyb
      clear hc hp hcc hy
      by_cases hm : m = 0
      · subst hm
        go_wp2
        go_ret2
        have h1 := HTK.out
        have h2 := HRM.out
        rw [tkR_zero, List.append_nil] at h1
        rw [rmR_zero] at h2
        refine ⟨x, HN.out, bel hb1 (hb.alloc hb.size _), .inr ⟨by omega, _, rfl, ?_⟩⟩
        rw [← h1]
        exact (hown.below ((Below.refl _ _).alloc (Nat.le_refl _) _)).mono hb1.size
      · have hm' : (m == 0) = false := by simp [hm]
        have HM := Lib.hid hm
        clear hm
        go_wp2_with (at_builtin; refine wpl_appendR rfl _ _ rfl w1.heap.size _ o (y.1, min y.2 m) rfl ?c1 (wr.heap.size + 1) 1 rfl ?c2 ?c3 (by omega) ?c4 ?_)
        case c1 => refine hown.below ?_; (repeat' (first | exact Below.refl _ _ | exact Nat.le_refl _ | (refine Below.alloc ?_ ?_ _) | (refine bdrewN ?_ _) | (refine Below.drew ?_) | (simp; done) | (simp; omega)))
        case c4 => have := hb.size; simp; omega
        intro v4 w4 ho4 hb4 _
        have hb5 : Below w1.heap.size w1 w4 := (hb.trans (by refine Below.mono (B := wr.heap.size) ?_ hb.size; (repeat' (first | exact Below.refl _ _ | exact Nat.le_refl _ | (refine Below.alloc ?_ ?_ _) | (refine bdrewN ?_ _) | (refine Below.drew ?_) | (simp; done) | (simp; omega))))).trans hb4
        clear hb4 hown hb
        go_wp2
        go_roundw
        case rel =>
          have h1 := HTK.out
          have h2 := HRM.out
          have hm0 := HM.out
          rw [drop_cons x k y HY.out, tkR, if_neg (by omega)] at h1
          rw [drop_cons x k y HY.out, rmR, if_neg (by omega)] at h2
          exact ⟨k + 1, m - min y.2 m, o ++ [(y.1, min y.2 m)], by omega, by go_num, rfl, by omega, by omega, by simp; omega, ho4, by rw [← h1]; simp, h2, hb5⟩
        case measure => simp [intOf]; omega
    · have hkn : k = x.length := by omega
      have h1 := HTK.out
      have h2 := HRM.out
      rw [List.drop_of_length_le (by omega), tkR, List.append_nil] at h1
      rw [List.drop_of_length_le (by omega), rmR] at h2
      have H1 := Lib.hid h1
      have H2 := Lib.hid h2
      clear h1 h2 hkn HTK HRM
      by_cases hm : 0 < m
      · go_wp2
        go_ret2
        exact ⟨x, HN.out, bel hb1 hb, .inl ⟨by rw [← H2.out]; exact hm, rfl⟩⟩
      · go_wp2
        go_ret2
        refine ⟨x, HN.out, bel hb1 hb, .inr ⟨by rw [← H2.out]; omega, _, rfl, ?_⟩⟩
        rw [← H1.out]
        exact hown.mono hb1.size

set_option maxHeartbeats 400000 in
theorem Take_bad (l : List (Int × Int)) (n : Int) (v : Value) (w : World) (hr : RdR w v l) (hlen : l.length ≤ 10000000) (h : valB l = false ∨ n < 0) :
    Calls Try.prog 25 #[v, .int .i64 n] w fun e w' => e = .returned (.tuple #[.slice none 0 0, .int .i64 1]) ∧ Below w.heap.size w w' := by
  cases hval : valB l
  · have HV := Lib.hid hval; clear hval h
    go_enter Try.func25, Try.ntmps25
    go_wp2_with fail
    refine (Normal_bad l v w hr HV.out).mono ?_
    rintro e w1 ⟨rfl, hb1⟩
    go_wp2
    go_ret2
    exact ⟨rfl, hb1⟩
  · have hn : n < 0 := h.resolve_left (by simp [hval])
    have HV := Lib.hid hval; clear hval h
    go_enter Try.func25, Try.ntmps25
    go_wp2_with fail
    refine (Normal_ok l v w hr HV.out hlen).mono ?_
    rintro e w1 ⟨v1, x, rfl, ho, hx, hxl, hb1⟩
    go_wp2
    go_ret2
    exact ⟨rfl, hb1⟩

/-- ranges.Has's closure. -/
def hasP (n : Int) (p : Int × Int) : Bool := vldB p.1 p.2 && decide (p.1 ≤ n) && decide (n < p.1 + p.2)

set_option maxHeartbeats 400000 in
theorem hasPred (n : Int) (B : Nat) (w : World) (hB : B < w.heap.size) (hcell : w.cell? ⟨B, 0, none⟩ = some (.int .i64 n)) :
    PredBelow Try.prog 45 #[.pointer (some ⟨B, 0, none⟩)] (fun x => .agg (encR x).toArray) (hasP n) w := fun W x hb => by
  have hc : W.cell? ⟨B, 0, none⟩ = some (.int .i64 n) := (hb.cell (p := ⟨B, 0, none⟩) hB).trans hcell
  have hBW : B < W.heap.size := Nat.lt_of_lt_of_le hB hb.size
  show Calls Try.prog 45 #[.agg #[.int .i64 x.1, .int .i64 x.2], .pointer (some ⟨B, 0, none⟩)] W _
  clear hcell
  have hp : hasP n x = (vldB x.1 x.2 && decide (x.1 ≤ n) && decide (n < x.1 + x.2)) := rfl
  generalize hasP n x = r at hp
  have HP := Lib.hid hp
  clear hp
  cases hv : vldB x.1 x.2
  · go_enter Try.func45, Try.ntmps45
    go_wp2_with fail
    refine (valid_any _ _ _).mono ?_
    rintro e w1 ⟨rfl, hb1⟩
    go_wp2
    go_ret
    exact ⟨ret_bool (by rw [HP.out, hv]; rfl), (hb.alloc hb.size _).trans (hb1.mono (by have := hb.size; simp; omega))⟩
  · obtain ⟨h1, h2, h3, h4⟩ := vldB_bd hv
    go_enter Try.func45, Try.ntmps45
    go_wp2_with fail
    refine (valid_any _ _ _).mono ?_
    rintro e w1 ⟨rfl, hb1⟩
    have hc1 : w1.cell? ⟨B, 0, none⟩ = some (.int .i64 n) := by
      rw [hb1.cell (p := ⟨B, 0, none⟩) (by simp; omega)]
      go_simp
    have hc2 : w1.cell? ⟨W.heap.size, 0, none⟩ = some (.int .i64 x.1) := by
      rw [hb1.cell (p := ⟨W.heap.size, 0, none⟩) (by simp)]
      go_simp
    have hc3 : w1.cell? ⟨W.heap.size, 1, none⟩ = some (.int .i64 x.2) := by
      rw [hb1.cell (p := ⟨W.heap.size, 1, none⟩) (by simp)]
      go_simp
    have hfin := (hb.alloc hb.size (.cells #[.int .i64 x.1, .int .i64 x.2] 36)).trans (hb1.mono (by have := hb.size; simp; omega))
    go_wp2
    all_goals
      go_ret
      exact ⟨ret_bool (by rw [HP.out, hv]; simp; omega), hfin⟩

theorem hasP_any (l : List (Int × Int)) (n : Int) : l.any (hasP n) = memB l n := rfl

set_option maxHeartbeats 400000 in
theorem indexNone (p : Option Addr) (cap : Nat) (fv : Value) (w : World) : Calls Try.prog 66 #[.slice p 0 cap, fv] w fun e w' => e = .returned (.int .i64 (-1)) ∧ w' = w := by
  go_enter Try.func66, Try.ntmps66
  go_wp2
  go_loop [8] (fun i => i = .int .i64 0) (fun _ => 0)
  case atStart => rfl
  case round =>
    subst hrel
    go_wp2
    go_ret
    exact ⟨rfl, rfl⟩

set_option maxHeartbeats 400000 in
theorem containsNone (p : Option Addr) (cap : Nat) (fv : Value) (w : World) : Calls Try.prog 44 #[.slice p 0 cap, fv] w fun e w' => e = .returned (.bool false) ∧ w' = w := by
  go_enter Try.func44, Try.ntmps44
  go_wp2_with fail
  refine (indexNone _ _ _ _).mono ?_
  rintro e w' ⟨rfl, rfl⟩
  go_wp2
  go_ret
  exact ⟨rfl, rfl⟩

set_option maxHeartbeats 400000 in
theorem Has_any (l : List (Int × Int)) (n : Int) (v : Value) (w : World) (hr : RdR w v l) :
    Calls Try.prog 17 #[v, .int .i64 n] w fun e w' => e = .returned (.bool (memB l n)) ∧ Below w.heap.size w w' := by
  obtain ⟨p, cap, rfl, hlc, hcap, hp⟩ := hr
  have eg : ∀ args w, (callFunc 45 args).run Try.prog w = .ok (.enter 45 args) w := enters_of Try.func45 (by kernel_rfl) rfl
  have hcon : Calls Try.prog 44 #[.slice p l.length cap, .func (.func 45) #[] #[.pointer (some ⟨w.heap.size, 0, none⟩)]] (w.alloc (.cells #[.int .i64 n] 3))
      fun e w' => e = .returned (.bool (memB l n)) ∧ Below (w.alloc (.cells #[.int .i64 n] 3)).heap.size (w.alloc (.cells #[.int .i64 n] 3)) w' := by
    by_cases h0 : 0 < l.length
    · obtain ⟨b, off, rfl, hb, hc⟩ := hp h0
      have := AnyQ.slices_ContainsFunc Try.containsR 2 Try.isAgg36 Try.sizeOf36 encR (fun _ => rfl) (hasP n) 45 #[.pointer (some ⟨w.heap.size, 0, none⟩)] eg b off l.length cap l (w.alloc (.cells #[.int .i64 n] 3))
        (hasPred n w.heap.size _ (by simp) (by go_simp)) (Nat.le_refl _) (by omega) (by simp; omega) (fun j hj i v hi => by
          obtain ⟨x, hx⟩ := getSome l j hj
          have h1 := (hc.below ((Below.refl _ w).alloc (Nat.le_refl _) (.cells #[.int .i64 n] 3)) hb) j x hx
          have e : l[j]! = x := by simp [hx]
          rw [e] at hi
          match i, hi with
          | 0, hi => simp [encR] at hi; rw [← hi]; exact h1.1
          | 1, hi => simp [encR] at hi; rw [← hi]; exact h1.2
          | i + 2, hi => simp [encR] at hi)
      rw [List.take_length, hasP_any] at this
      exact this
    · have hl : l = [] := List.eq_nil_of_length_eq_zero (by omega)
      subst hl
      refine (containsNone _ _ _ _).mono ?_
      rintro e w' ⟨rfl, rfl⟩
      exact ⟨rfl, Below.refl _ _⟩
  clear eg hp
  generalize memB l n = r at hcon ⊢
  go_enter Try.func17, Try.ntmps17
  go_wp2_with (go_at_call 44; refine hcon.mono ?_; rintro e w' ⟨rfl, hb'⟩)
  go_ret
  exact ⟨rfl, bel ((Below.refl _ w).alloc (Nat.le_refl _) _) hb'⟩

theorem and_lit (n : Int) (m : Int) (k : Nat) (hm : (BitVec.ofInt 64 m).toNat = 2 ^ k - 1) (hk : k ≤ 31) : bits .and .i64 n m = n % ((2 ^ k : Nat) : Int) := by
  have key : (BitVec.ofInt 64 n &&& BitVec.ofInt 64 m).toNat = (n % ((2 ^ 64 : Nat) : Int)).toNat % 2 ^ k := by
    rw [BitVec.toNat_and, BitVec.toNat_ofInt, hm, Nat.and_two_pow_sub_one_eq_mod]
  show IntKind.i64.wrap ((BitVec.ofInt 64 n &&& BitVec.ofInt 64 m).toNat : Nat) = _
  rw [key, IntKind.wrap_i64]
  have h1 : (2 ^ k : Nat) ∣ 2 ^ 64 := Nat.pow_dvd_pow 2 (by omega)
  have h3 : (2 ^ k : Nat) ≤ 2 ^ 31 := Nat.pow_le_pow_right (by omega) hk
  have h4 : 0 < (2 ^ k : Nat) := Nat.two_pow_pos k
  generalize (2 ^ k : Nat) = K at *
  obtain ⟨c, hc⟩ := h1
  have h5 : (n % ((2 ^ 64 : Nat) : Int)) % (K : Int) = n % (K : Int) := Int.emod_emod_of_dvd n (by rw [hc]; exact ⟨(c : Int), by simp⟩)
  have h6 : 0 ≤ n % ((2 ^ 64 : Nat) : Int) := Int.emod_nonneg _ (by decide)
  have h7 : (((n % ((2 ^ 64 : Nat) : Int)).toNat % K : Nat) : Int) = n % (K : Int) := by
    rw [Int.natCast_emod, Int.toNat_of_nonneg h6, h5]
  have h8 : (n % ((2 ^ 64 : Nat) : Int)).toNat % K < K := Nat.mod_lt _ h4
  rw [← h7]
  omega
theorem and_63 (n : Int) : bits .and .i64 n 63 = n % 64 := and_lit n 63 6 (by decide) (by decide)
theorem and_15 (n : Int) : bits .and .i64 n 15 = n % 16 := and_lit n 15 4 (by decide) (by decide)
theorem and_31 (n : Int) : bits .and .i64 n 31 = n % 32 := and_lit n 31 5 (by decide) (by decide)

/-- tame: at most twelve ranges, of small numbers. -/
def tameR (l : List (Int × Int)) : List (Int × Int) := (l.take 12).map fun p => (p.1 % 64, p.2 % 16)

set_option maxHeartbeats 1000000 in
set_option maxRecDepth 100000 in
theorem tame_any (l : List (Int × Int)) (v : Value) (w : World) (hr : RdR w v l) :
    Calls Try.prog 13 #[v] w fun e w' => ∃ v', e = .returned v' ∧ OwnR w' w.heap.size v' (tameR l) ∧ Below w.heap.size w w' := by
  obtain ⟨p, cap, rfl, hlc, hcap, hp⟩ := hr
  have h63 := and_63
  have h15 := and_15
  go_enter Try.func13, Try.ntmps13
  go_wp2
  go_loopw [3, 4] (fun vo i wr => ∃ k : Nat, k ≤ l.length ∧ k ≤ 12 ∧ i = .int .i64 k ∧ OwnR wr w.heap.size vo ((l.take k).map fun p => (p.1 % 64, p.2 % 16)) ∧ Below w.heap.size w wr) (fun _ i _ => l.length - (intOf i).toNat)
  case atStart => exact ⟨0, Nat.zero_le _, by omega, rfl, OwnR.nil _ _, Below.refl _ _⟩
  case round =>
    obtain ⟨k, hk, hk12, rfl, hown, hb⟩ := hrel
    obtain ⟨o, ho⟩ : ∃ o, o = (l.take k).map fun p : Int × Int => (p.1 % 64, p.2 % 16) := ⟨_, rfl⟩
    rw [← ho] at hown
    have hol : o.length ≤ 12 := by rw [ho]; simp; omega
    have HO := Lib.hid ho
    clear ho
    by_cases hlt : k < l.length
    · by_cases h12 : k < 12
      · obtain ⟨b, off, rfl, hbs, hc⟩ := hp (by omega)
        obtain ⟨x, hx⟩ := getSome l k hlt
        have hcc := (hc.below hb hbs) k x hx
        have hc1 := hcc.1
        have hc2 := hcc.2
        have HX := Lib.hid hx
        clear hc hp hcc hx
        go_wp2
        (refine wp_region_mtail_drew _ 14 (by kernel_rfl) rfl rfl (by kernel_rfl) (by kernel_rfl) (fun _ _ _ _ h => h) (by go_simp; rfl) ?_; simp only [List.take_succ_cons, List.take_zero, List.drop_succ_cons, List.drop_zero]; (repeat (go_big_quiet_step (fail))); (with_reducible refine wpQuiet_nil ?_); intro wq hwq; obtain ⟨nq, hwq⟩ := hwq; subst hwq)
        go_wp2_with (at_builtin; refine wpl_appendR rfl _ _ rfl w.heap.size _ o (x.1 % 64, x.2 % 16) rfl ?c1 wr.heap.size 1 rfl ?c2 ?c3 (by omega) ?c4 ?_)
        case c1 => refine hown.below ?_; (repeat' (first | exact Below.refl _ _ | exact Nat.le_refl _ | (refine Below.alloc ?_ ?_ _) | (refine bdrewN ?_ _) | (refine Below.drew ?_) | (simp; done) | (simp; omega)))
        case c2 => exact cell_new (by simp) rfl
        case c3 => exact cell_new (by simp) rfl
        case c4 => have := hb.size; simp; omega
        intro v4 w4 ho4 hb4 _
        have hb5 : Below w.heap.size w w4 := (hb.trans (by refine Below.mono (B := wr.heap.size) ?_ hb.size; (repeat' (first | exact Below.refl _ _ | exact Nat.le_refl _ | (refine Below.alloc ?_ ?_ _) | (refine bdrewN ?_ _) | (refine Below.drew ?_) | (simp; done) | (simp; omega))))).trans hb4
        clear hb4 hown hb
        go_wp2
        go_roundw
        case rel => exact ⟨k + 1, by omega, by omega, by go_num, by rw [take_snoc' l k x HX.out, List.map_append, ← HO.out]; exact ho4, hb5⟩
        case measure => simp [intOf]; omega
      · have h12' : decide (k < 12) = false := by simp; omega
        go_wp2
        go_ret
        refine ⟨_, rfl, ?_, hb⟩
        have hk2 : k = 12 := by omega
        subst hk2
        unfold tameR
        rw [← HO.out]
        exact hown
    · go_wp2
      go_ret
      refine ⟨_, rfl, ?_, hb⟩
      have hk2 : k = l.length := by omega
      unfold tameR
      rw [show l.take 12 = l.take k from by rw [List.take_of_length_le (by omega), List.take_of_length_le (by omega)], ← HO.out]
      exact hown

end Go.Proofs.Yteengifhndmjeaa
