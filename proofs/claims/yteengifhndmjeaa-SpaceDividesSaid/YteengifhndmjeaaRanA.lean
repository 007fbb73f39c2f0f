/- The contracts of small functions over ranges. -/
import Derived.Test.YteengifhndmjeaaBase
import Derived.WalkSpells
import Derived.WalkLawsBesides
import Derived.Deep.QuietTactic
import Derived.BigQuiet
import Derived.StillTailTactics
import Derived.Laws.StructEq
namespace Go.Proofs.Yteengifhndmjeaa
open Go.RowKit

set_option maxHeartbeats 400000 in
theorem valid_any (s l : Int) (w : World) :
    Calls Try.prog 46 #[.agg #[.int .i64 s, .int .i64 l]] w fun e w' => e = .returned (.bool (vldB s l)) ∧ Below w.heap.size w w' := by
  go_enter Try.func46, Try.ntmps46
  go_wp2
  all_goals
    go_ret
    exact ⟨by simp [vldB]; try omega, (Below.refl _ _).alloc (Nat.le_refl _) _⟩

set_option maxHeartbeats 400000 in
theorem one_any (s l : Int) (w : World) :
    Calls Try.prog 51 #[.agg #[.int .i64 s, .int .i64 l]] w fun e w' => e = .returned (.bool (vldB s l)) ∧ Below w.heap.size w w' := by
  go_enter Try.func51, Try.ntmps51
  go_wp2
  all_goals
    go_ret
    exact ⟨by simp [vldB]; try omega, (Below.refl _ _).alloc (Nat.le_refl _) _⟩

theorem one_is {s l : Int} (w : World) (b : Bool) (h : vldB s l = b) :
    Calls Try.prog 51 #[.agg #[.int .i64 s, .int .i64 l]] w fun e w' => e = .returned (.bool b) ∧ Below w.heap.size w w' := h ▸ one_any s l w

theorem valB_false (l : List (Int × Int)) (k : Nat) (x : Int × Int) (h : l[k]? = some x) (hv : vldB x.1 x.2 = false) : valB l = false := by
  unfold valB
  rw [List.all_eq_false]
  exact ⟨x, List.mem_of_getElem? h, by simp [hv]⟩

theorem all_snoc (l : List (Int × Int)) (k : Nat) (x : Int × Int) (h : l[k]? = some x) (ha : valB (l.take k) = true) (hv : vldB x.1 x.2 = true) : valB (l.take (k + 1)) = true := by
  rw [take_snoc' l k x h]
  unfold valB at *
  rw [List.all_append, ha]
  simp [hv]

theorem valB_true (l : List (Int × Int)) (k : Nat) (h : l.length ≤ k) (ha : valB (l.take k) = true) : valB l = true := by
  rw [List.take_of_length_le h] at ha
  exact ha

set_option maxHeartbeats 400000 in
theorem refValid_any (l : List (Int × Int)) (v : Value) (w : World) (hr : RdR w v l) :
    Calls Try.prog 27 #[v] w fun e w' => e = .returned (.bool (valB l)) ∧ Below w.heap.size w w' := by
  obtain ⟨p, cap, rfl, hlc, hcap, hp⟩ := hr
  go_enter Try.func27, Try.ntmps27
  go_wp2
  go_loopw [3] (fun i wr => ∃ k : Nat, k ≤ l.length ∧ i = .int .i64 k ∧ valB (l.take k) = true ∧ Below w.heap.size w wr) (fun i _ => l.length - (intOf i).toNat)
  case atStart => exact ⟨0, Nat.zero_le _, rfl, rfl, Below.refl _ _⟩
  case round =>
    obtain ⟨k, hk, rfl, hall, hb⟩ := hrel
    have HALL := Lib.hid hall; clear hall
    by_cases hlt : k < l.length
    · obtain ⟨b, off, rfl, hbs, hc⟩ := hp (by omega)
      obtain ⟨x, hx⟩ := getSome l k hlt
      have hcc := (hc.below hb hbs) k x hx
      have hc1 := hcc.1
      have hc2 := hcc.2
      have HX := Lib.hid hx
      clear hc hp hcc hx
      go_wp2_with fail
      refine (one_any _ _ _).mono ?_
      rintro e w1 ⟨rfl, hb1⟩
      have hb2 := bel hb hb1
      cases hv : vldB x.1 x.2
      · go_wp2
        go_ret
        exact ⟨ret_bool (valB_false l k x HX.out hv).symm, hb2⟩
      · go_wp2
        go_roundw
        case rel => exact ⟨k + 1, by omega, by go_num, all_snoc l k x HX.out HALL.out hv, hb2⟩
        case measure => simp [intOf]; omega
    · go_wp2
      go_ret
      exact ⟨ret_bool (valB_true l k (by omega) HALL.out).symm, hb⟩

def eqR (x y : Int × Int) : Bool := x.1 == y.1 && x.2 == y.2
theorem eqR_iff (x y : Int × Int) : eqR x y = true ↔ x = y := by
  obtain ⟨a, b⟩ := x
  obtain ⟨c, d⟩ := y
  simp [eqR]

theorem neqR_run (x y : Int × Int) (w : World) : Sem.run Try.prog (binOp .neq 36 (.agg #[.int .i64 x.1, .int .i64 x.2]) (.agg #[.int .i64 y.1, .int .i64 y.2])) w = .ok (.bool (!eqR x y)) w := by
  have u3 := Try.underlying3
  have a3 := Try.isAgg3
  have z3 := Try.sizeOf3
  have hS : Try.prog.underlying 36 = some (.struct (Try.prog.fieldsOf 36)) := by kernel_rfl
  have hp : Try.prog.stoodInHeld 36 = false := by kernel_rfl
  rw [run_neq_struct, show (10000 : Nat) = 9999 + 1 from rfl, run_equalIn_agg w 9999 36 _ _ hS hp]
  simp only [Program.fieldsOf, Try.underlying36]
  go_simp
  unfold eqR
  by_cases h1 : x.fst = y.fst <;> by_cases h2 : x.snd = y.snd <;> simp [h1, h2]

theorem guardR_run (op : BinOp) (a b : Operand) (xs ys : Array Value) (w : World) : Sem.run Try.prog (eqGuard op 36 a b (.agg xs) (.agg ys)) w = .ok () w := run_eqGuard_agg w op _ a b xs ys (by kernel_rfl)

def sameB : List (Int × Int) → List (Int × Int) → Bool := fun a b => decide (a = b)

theorem sameB_false (a b : List (Int × Int)) (k : Nat) (x y : Int × Int) (hx : a[k]? = some x) (hy : b[k]? = some y) (h : eqR x y = false) : sameB a b = false := by
  unfold sameB
  simp
  rintro rfl
  have : x = y := Option.some.inj (hx.symm.trans hy)
  have := (eqR_iff x y).2 this
  rw [h] at this
  cases this
theorem same_snoc (a b : List (Int × Int)) (k : Nat) (x y : Int × Int) (hx : a[k]? = some x) (hy : b[k]? = some y) (h : eqR x y = true) (hh : a.take k = b.take k) : a.take (k + 1) = b.take (k + 1) := by
  rw [take_snoc' a k x hx, take_snoc' b k y hy, hh, (eqR_iff x y).1 h]
theorem sameB_true (a b : List (Int × Int)) (k : Nat) (ha : a.length ≤ k) (hb : b.length ≤ k) (hh : a.take k = b.take k) : sameB a b = true := by
  rw [List.take_of_length_le ha, List.take_of_length_le hb] at hh
  unfold sameB
  simp [hh]

set_option maxHeartbeats 400000 in
theorem same_any (l1 l2 : List (Int × Int)) (v1 v2 : Value) (w : World) (hr1 : RdR w v1 l1) (hr2 : RdR w v2 l2) :
    Calls Try.prog 20 #[v1, v2] w fun e w' => e = .returned (.bool (sameB l1 l2)) ∧ Below w.heap.size w w' := by
  obtain ⟨p1, cap1, rfl, hlc1, hcap1, hp1⟩ := hr1
  obtain ⟨p2, cap2, rfl, hlc2, hcap2, hp2⟩ := hr2
  by_cases hl : l1.length = l2.length
  · have hnn : ((l1.length : Int) != (l2.length : Int)) = false := by simp [hl]
    have HL := Lib.hid hl; clear hl
    go_enter Try.func20, Try.ntmps20
    go_wp2
    clear hnn
    go_loopw [5] (fun i wr => ∃ k : Nat, k ≤ l1.length ∧ i = .int .i64 k ∧ l1.take k = l2.take k ∧ Below w.heap.size w wr) (fun i _ => l1.length - (intOf i).toNat)
    case atStart => exact ⟨0, Nat.zero_le _, rfl, rfl, Below.refl _ _⟩
    case round =>
      obtain ⟨k, hk, rfl, hall, hb⟩ := hrel
      have HALL := Lib.hid hall; clear hall
      by_cases hlt : k < l1.length
      · obtain ⟨b1, off1, rfl, hbs1, hc1⟩ := hp1 (by omega)
        obtain ⟨b2, off2, rfl, hbs2, hc2⟩ := hp2 (by have := HL.out; omega)
        obtain ⟨x, hx⟩ := getSome l1 k hlt
        obtain ⟨y, hy⟩ := getSome l2 k (by have := HL.out; omega)
        have hk2 : k < l2.length := by have := HL.out; omega
        have hcc1 := (hc1.below hb hbs1) k x hx
        have hcc2 := (hc2.below hb hbs2) k y hy
        have h11 := hcc1.1
        have h12 := hcc1.2
        have h21 := hcc2.1
        have h22 := hcc2.2
        have HX := Lib.hid hx
        have HY := Lib.hid hy
        clear hc1 hc2 hp1 hp2 hcc1 hcc2 hx hy
        have hneq := neqR_run x y
        have hgd := guardR_run
        go_wp2
        go_quiet (fail)
        cases hxy : eqR x y
        · go_wp2
          go_ret
          exact ⟨ret_bool (sameB_false l1 l2 k x y HX.out HY.out hxy).symm, bdrewN hb _⟩
        · go_wp2
          go_roundw
          case rel => exact ⟨k + 1, by omega, by go_num, same_snoc l1 l2 k x y HX.out HY.out hxy HALL.out, bdrewN hb _⟩
          case measure => simp [intOf]; omega
      · go_wp2
        go_ret
        exact ⟨ret_bool (sameB_true l1 l2 k (by omega) (by have := HL.out; omega) HALL.out).symm, hb⟩
  · have hnn : ((l1.length : Int) != (l2.length : Int)) = true := by simp; omega
    have HL := Lib.hid hl; clear hl
    go_enter Try.func20, Try.ntmps20
    go_wp2
    go_ret
    exact ⟨ret_bool (by unfold sameB; simp; intro h; exact HL.out (by rw [h])), Below.refl _ _⟩

def memB (l : List (Int × Int)) (n : Int) : Bool := l.any fun p => vldB p.1 p.2 && decide (p.1 ≤ n) && decide (n < p.1 + p.2)

theorem memB_true (l : List (Int × Int)) (k : Nat) (x : Int × Int) (n : Int) (h : l[k]? = some x) (hv : vldB x.1 x.2 = true) (h1 : x.1 ≤ n) (h2 : n < x.1 + x.2) : memB l n = true := by
  unfold memB
  rw [List.any_eq_true]
  exact ⟨x, List.mem_of_getElem? h, by simp [hv, h1, h2]⟩
theorem memB_snoc (l : List (Int × Int)) (k : Nat) (x : Int × Int) (n : Int) (h : l[k]? = some x) (ha : memB (l.take k) n = false) (hv : vldB x.1 x.2 = false ∨ n < x.1 ∨ x.1 + x.2 ≤ n) : memB (l.take (k + 1)) n = false := by
  rw [take_snoc' l k x h]
  unfold memB at *
  rw [List.any_append, ha]
  simp
  intro a b
  rcases hv with hv | hv | hv
  · rw [hv] at a; cases a
  · omega
  · omega
theorem memB_end (l : List (Int × Int)) (k : Nat) (n : Int) (h : l.length ≤ k) (ha : memB (l.take k) n = false) : memB l n = false := by
  rw [List.take_of_length_le h] at ha
  exact ha
theorem vldB_bd {s l : Int} (h : vldB s l = true) : 0 ≤ s ∧ 0 ≤ l ∧ s ≤ 1073741824 ∧ l ≤ 1073741824 - s := by
  unfold vldB at h
  simp at h
  omega

set_option maxHeartbeats 1000000 in
theorem refHas_any (l : List (Int × Int)) (n : Int) (v : Value) (w : World) (hn : n ≤ 9223372036854775807) (hr : RdR w v l) :
    Calls Try.prog 26 #[v, .int .i64 n] w fun e w' => e = .returned (.bool (memB l n)) ∧ Below w.heap.size w w' := by
  obtain ⟨p, cap, rfl, hlc, hcap, hp⟩ := hr
  go_enter Try.func26, Try.ntmps26
  go_wp2
  go_loopw [5] (fun i wr => ∃ k : Nat, k ≤ l.length ∧ i = .int .i64 k ∧ memB (l.take k) n = false ∧ Below w.heap.size w wr) (fun i _ => l.length - (intOf i).toNat)
  case atStart => exact ⟨0, Nat.zero_le _, rfl, rfl, Below.refl _ _⟩
  case round =>
    obtain ⟨k, hk, rfl, hall, hb⟩ := hrel
    have HALL := Lib.hid hall; clear hall
    by_cases hlt : k < l.length
    · obtain ⟨b, off, rfl, hbs, hc⟩ := hp (by omega)
      obtain ⟨x, hx⟩ := getSome l k hlt
      have hcc := (hc.below hb hbs) k x hx
      have hbw : b < wr.heap.size := Nat.lt_of_lt_of_le hbs hb.size
      have hc1 := cell_ext hbw hcc.1
      have hc2 := cell_ext hbw hcc.2
      have HX := Lib.hid hx
      clear hc hp hcc hx
      cases hv : vldB x.1 x.2
      · go_wp2_with fail
        (refine wp_region_quiet_ext (by kernel_rfl) (by kernel_rfl) ?_; (repeat (go_big_quiet_step ((go_at_call 51; exact ext_of (one_is _ _ hv))))); (with_reducible refine wpQuiet_nil ?_); intro wq hwq; have hbq := ext_below hwq; clear hwq)
        go_wp2
        go_roundw
        case rel => exact ⟨k + 1, by omega, by go_num, memB_snoc l k x n HX.out HALL.out (.inl hv), bel hb hbq⟩
        case measure => simp [intOf]; omega
      · have hv' := vldB_bd hv
        obtain ⟨hv1, hv2, hv3, hv4⟩ := hv'
        by_cases h1 : x.1 ≤ n
        · have hw1 : IntKind.i64.wrap (n - x.1) = n - x.1 := IntWalk.i64_in _ (by omega)
          by_cases h2 : n - x.1 < x.2
          · go_wp2_with fail
            (refine wp_region_quiet_ext (by kernel_rfl) (by kernel_rfl) ?_; (repeat (go_big_quiet_step ((go_at_call 51; exact ext_of (one_is _ _ hv))))); (with_reducible refine wpQuiet_nil ?_); intro wq hwq; have hbq := ext_below hwq; clear hwq)
            go_wp2
            go_ret
            exact ⟨ret_bool (memB_true l k x n HX.out hv h1 (by omega)).symm, bel hb hbq⟩
          · have h2' : decide (n - x.1 < x.2) = false := by simp; omega
            go_wp2_with fail
            (refine wp_region_quiet_ext (by kernel_rfl) (by kernel_rfl) ?_; (repeat (go_big_quiet_step ((go_at_call 51; exact ext_of (one_is _ _ hv))))); (with_reducible refine wpQuiet_nil ?_); intro wq hwq; have hbq := ext_below hwq; clear hwq)
            go_wp2
            go_roundw
            case rel => exact ⟨k + 1, by omega, by go_num, memB_snoc l k x n HX.out HALL.out (.inr (.inr (by omega))), bel hb hbq⟩
            case measure => simp [intOf]; omega
        · have h1' : decide (x.1 ≤ n) = false := by simp; omega
          go_wp2_with fail
          (refine wp_region_quiet_ext (by kernel_rfl) (by kernel_rfl) ?_; (repeat (go_big_quiet_step ((go_at_call 51; exact ext_of (one_is _ _ hv))))); (with_reducible refine wpQuiet_nil ?_); intro wq hwq; have hbq := ext_below hwq; clear hwq)
          go_wp2
          go_roundw
          case rel => exact ⟨k + 1, by omega, by go_num, memB_snoc l k x n HX.out HALL.out (.inr (.inl (by omega))), bel hb hbq⟩
          case measure => simp [intOf]; omega
    · go_wp2
      go_ret
      exact ⟨ret_bool (memB_end l k n (by omega) HALL.out).symm, hb⟩
end Go.Proofs.Yteengifhndmjeaa
