/- Contracts: slices.Equal, Equal, awake; the law RangesMembers. -/
import Derived.Test.YteengifhndmjeaaRanF
namespace Go.Proofs.Yteengifhndmjeaa
open Go.RowKit

set_option maxHeartbeats 400000 in
theorem sEqual_any (l1 l2 : List (Int × Int)) (v1 v2 : Value) (w : World) (hr1 : RdR w v1 l1) (hr2 : RdR w v2 l2) :
    Calls Try.prog 50 #[v1, v2] w fun e w' => e = .returned (.bool (sameB l1 l2)) ∧ Below w.heap.size w w' := by
  obtain ⟨p1, cap1, rfl, hlc1, hcap1, hp1⟩ := hr1
  obtain ⟨p2, cap2, rfl, hlc2, hcap2, hp2⟩ := hr2
  by_cases hl : l1.length = l2.length
  · have hnn : ((l1.length : Int) != (l2.length : Int)) = false := by simp [hl]
    have HL := Lib.hid hl; clear hl
    go_enter Try.func50, Try.ntmps50
    go_wp2
    clear hnn
    go_loopw [13] (fun i wr => ∃ k : Nat, k ≤ l1.length ∧ i = .int .i64 k ∧ l1.take k = l2.take k ∧ Below w.heap.size w wr) (fun i _ => l1.length - (intOf i).toNat)
    case atStart => exact ⟨0, Nat.zero_le _, rfl, rfl, Below.refl _ _⟩
    case round =>
      obtain ⟨k, hk, rfl, hall, hb⟩ := hrel
      have HALL := Lib.hid hall; clear hall
      by_cases hlt : k < l1.length
      · obtain ⟨b1, off1, rfl, hbs1, hc1⟩ := hp1 (by omega)
        obtain ⟨b2, off2, rfl, hbs2, hc2⟩ := hp2 (by have := HL.out; omega)
        obtain ⟨x, hx⟩ := getSome l1 k hlt
        obtain ⟨y, hy⟩ := getSome l2 k (by have := HL.out; omega)
        have hk2 : k < l2.length := by have := HL.out; omega
        have hcc1 := (hc1.below hb hbs1) k x hx
        have hcc2 := (hc2.below hb hbs2) k y hy
        have h11 := hcc1.1
        have h12 := hcc1.2
        have h21 := hcc2.1
        have h22 := hcc2.2
        have HX := Lib.hid hx
        have HY := Lib.hid hy
        clear hc1 hc2 hp1 hp2 hcc1 hcc2 hx hy
        have hneq := neqR_run x y
        have hgd := guardR_run
        go_wp2
        go_quiet (fail)
        cases hxy : eqR x y
        · go_wp2
          go_ret
          exact ⟨ret_bool (sameB_false l1 l2 k x y HX.out HY.out hxy).symm, bdrewN hb _⟩
        · go_wp2
          go_roundw
          case rel => exact ⟨k + 1, by omega, by go_num, same_snoc l1 l2 k x y HX.out HY.out hxy HALL.out, bdrewN hb _⟩
          case measure => simp [intOf]; omega
      · go_wp2
        go_ret
        exact ⟨ret_bool (sameB_true l1 l2 k (by omega) (by have := HL.out; omega) HALL.out).symm, hb⟩
  · have hnn : ((l1.length : Int) != (l2.length : Int)) = true := by simp; omega
    have HL := Lib.hid hl; clear hl
    go_enter Try.func50, Try.ntmps50
    go_wp2
    go_ret
    exact ⟨ret_bool (by unfold sameB; simp; intro h; exact HL.out (by rw [h])), Below.refl _ _⟩

def RetEq (w : World) (a b : List (Int × Int)) (e : Ending) (w' : World) : Prop :=
  ∃ x y, NFof x (Mem a) ∧ NFof y (Mem b) ∧ e = .returned (.bool (sameB x y)) ∧ Below w.heap.size w w'

set_option maxHeartbeats 400000 in
theorem Equal_ok (a b : List (Int × Int)) (v1 v2 : Value) (w : World) (hr1 : RdR w v1 a) (hr2 : RdR w v2 b) (hv1 : valB a = true) (hv2 : valB b = true) (hl1 : a.length ≤ 1000000) (hl2 : b.length ≤ 1000000) :
    Calls Try.prog 23 #[v1, v2] w (RetEq w a b) := by
  have HV1 := Lib.hid hv1
  have HV2 := Lib.hid hv2
  clear hv1 hv2
  have hra := hr1
  have hrb := hr2
  obtain ⟨pa, ca, rfl, _⟩ := hra
  obtain ⟨pb, cb, rfl, _⟩ := hrb
  go_enter Try.func23, Try.ntmps23
  go_wp2_with fail
  refine (proper_any [a, b] _ _ (RdLL_two w _ _ a b _ hr1 hr2)).mono ?_
  rintro e w1 ⟨rfl, hb1⟩
  have hb01 : Below w.heap.size w w1 := bel ((Below.refl _ _).alloc (Nat.le_refl _) _) hb1
  have hv : [a, b].all valB = true := by simp [HV1.out, HV2.out]
  go_wp2_with fail
  refine (normal_any a _ w1 (hr1.below hb01) HV1.out (by omega)).mono ?_
  rintro e w2 ⟨va, xa, rfl, hoa, hxa, hxal, hb2⟩
  have hb02 := bel hb01 hb2
  have HXA := Lib.hid hxa
  clear hxa
  go_wp2_with fail
  refine (normal_any b _ w2 (hr2.below hb02) HV2.out (by omega)).mono ?_
  rintro e w3 ⟨vb, xb, rfl, hob, hxb, hxbl, hb3⟩
  have HXB := Lib.hid hxb
  clear hxb
  go_wp2_with fail
  refine (sEqual_any xa xb _ _ w3 (hoa.rd.below hb3) hob.rd).mono ?_
  rintro e w4 ⟨rfl, hb4⟩
  go_wp2
  go_ret
  exact ⟨xa, xb, HXA.out, HXB.out, rfl, bel (bel hb02 hb3) hb4⟩

set_option maxHeartbeats 400000 in
theorem Equal_bad (a b : List (Int × Int)) (v1 v2 : Value) (w : World) (hr1 : RdR w v1 a) (hr2 : RdR w v2 b) (hv : (valB a && valB b) = false) :
    Calls Try.prog 23 #[v1, v2] w fun e w' => e = .returned (.bool false) ∧ Below w.heap.size w w' := by
  have hv' : [a, b].all valB = false := by simpa using hv
  have HV := Lib.hid hv'
  clear hv hv'
  have hra := hr1
  have hrb := hr2
  obtain ⟨pa, ca, rfl, _⟩ := hra
  obtain ⟨pb, cb, rfl, _⟩ := hrb
  go_enter Try.func23, Try.ntmps23
  go_wp2_with fail
  refine (proper_any [a, b] _ _ (RdLL_two w _ _ a b _ hr1 hr2)).mono ?_
  rintro e w1 ⟨rfl, hb1⟩
  have hb01 : Below w.heap.size w w1 := bel ((Below.refl _ _).alloc (Nat.le_refl _) _) hb1
  have hv := HV.out
  go_wp2
  go_ret
  exact ⟨rfl, hb01⟩

/-- A slice that a literal makes. -/
theorem RdR_new (w : World) (l : List (Int × Int)) (cs : Array Value) (t : TypeId) (b n cap : Nat) (hb : b = w.heap.size) (hcs : cs = (cellsR l).toArray) (hn : n = l.length) (hc : l.length ≤ cap) (hcap : cap ≤ 1000) : RdR (w.alloc (.cells cs t)) (.slice (some ⟨b, 0, none⟩) n cap) l := by
  subst hn
  subst hb
  refine ⟨some ⟨w.heap.size, 0, none⟩, cap, rfl, hc, by omega, fun _ => ⟨w.heap.size, 0, rfl, by simp, fun i p hp => ?_⟩⟩
  have := cellsR_get l i p hp
  subst hcs
  exact ⟨cell_new rfl (by simpa using this.1), cell_new rfl (by simpa using this.2)⟩

theorem awake_nf : NFof [(0, 2), (5, 5)] fun n => cM (inB [(0, 10)] n) (inB [(2, 3)] n) = true := by
  refine ⟨⟨by simp, by simp⟩, fun n => ?_⟩
  unfold Mem cM inB
  simp
  omega

set_option maxHeartbeats 400000 in
theorem awake_any (w : World) : Calls Try.prog 18 #[] w fun e w' => e = .returned (.bool true) ∧ Below w.heap.size w w' := by
  go_enter Try.func18, Try.ntmps18
  go_wp2_with fail
  have r1 := RdR_new w [(0, 10)] #[.int .i64 0, .int .i64 10] 36 w.heap.size 1 1 rfl rfl rfl (by simp) (by omega)
  have r2 := RdR_new (w.alloc (.cells #[.int .i64 0, .int .i64 10] 36)) [(2, 3)] #[.int .i64 2, .int .i64 3] 36 (w.heap.size + 1) 1 1 (by simp) rfl rfl (by simp) (by omega)
  refine (Minus_ok [(0, 10)] [(2, 3)] _ _ _ (r1.below ((Below.refl _ _).alloc (Nat.le_refl _) _)) r2 (by decide) (by decide) (by simp) (by simp)).mono ?_
  rintro e w1 ⟨v1, x, rfl, ho, hx, _, _, hb1⟩
  have ex := NFof.eq hx awake_nf (fun n => Iff.rfl)
  subst ex
  clear r1 r2 hx
  have hb01 : Below w.heap.size w w1 := by
    refine bel (a := w) ?_ hb1
    (repeat' (first | exact Below.refl _ _ | exact Nat.le_refl _ | (refine Below.alloc ?_ ?_ _) | (refine bdrewN ?_ _) | (refine Below.drew ?_) | (simp; done) | (simp; omega)))
  clear hb1
  have hrd := ho.rd
  have hrd0 := hrd
  clear ho
  obtain ⟨p1, c1, rfl, _⟩ := hrd0
  go_wp2_with fail
  have r3 := RdR_new w1 [(0, 2), (5, 5)] #[.int .i64 0, .int .i64 2, .int .i64 5, .int .i64 5] 36 w1.heap.size 2 2 rfl rfl rfl (by simp) (by omega)
  refine (same_any [(0, 2), (5, 5)] [(0, 2), (5, 5)] _ _ _ (hrd.below ((Below.refl _ _).alloc (Nat.le_refl _) _)) r3).mono ?_
  rintro e w2 ⟨rfl, hb2⟩
  go_wp2
  go_ret
  refine ⟨rfl, bel (bel hb01 ((Below.refl _ _).alloc (Nat.le_refl _) _)) hb2⟩

theorem tame_val (l : List (Int × Int)) : valB (tameR l) = true := by
  unfold valB tameR
  rw [List.all_eq_true]
  intro p hp
  rw [List.mem_map] at hp
  obtain ⟨q, _, rfl⟩ := hp
  unfold vldB
  simp
  omega
theorem tame_len (l : List (Int × Int)) : (tameR l).length ≤ 12 := by simp [tameR]; omega
theorem memB_in (l : List (Int × Int)) (n : Int) (h : valB l = true) : memB l n = inB l n := by
  unfold memB inB
  rw [Bool.eq_iff_iff, List.any_eq_true, List.any_eq_true]
  unfold valB at h
  rw [List.all_eq_true] at h
  constructor
  · rintro ⟨p, hp, hh⟩; simp at hh; exact ⟨p, hp, by simp; omega⟩
  · rintro ⟨p, hp, hh⟩; simp at hh; exact ⟨p, hp, by simp [h p hp]; omega⟩
theorem NFof_in {x : List (Int × Int)} {S : Int → Bool} (h : NFof x fun n => S n = true) (n : Int) : inB x n = S n := by
  rw [Bool.eq_iff_iff, inB_iff, h.2]

set_option maxHeartbeats 1000000 in
theorem members_any (a b : List (Int × Int)) (n : Int) (v1 v2 : Value) (w : World) (hr1 : RdR w v1 a) (hr2 : RdR w v2 b) :
    Calls Try.prog 3 #[v1, v2, .int .i64 n] w fun e w' => e = .returned (.bool true) ∧ Below w.heap.size w w' := by
  go_enter Try.func3, Try.ntmps3
  go_wp2_with fail
  refine (tame_any a v1 w hr1).mono ?_
  rintro e w1 ⟨va, rfl, hoa, hb1⟩
  go_wp2_with fail
  refine (tame_any b v2 w1 (hr2.below hb1)).mono ?_
  rintro e w2 ⟨vb, rfl, hob, hb2⟩
  have hb02 := bel hb1 hb2
  have ra := hoa.rd.below hb2
  have rb := hob.rd
  have hva := tame_val a
  have hvb := tame_val b
  have hla := tame_len a
  have hlb := tame_len b
  generalize tameR a = A at *
  generalize tameR b = C at *
  have HVA := Lib.hid hva
  have HVB := Lib.hid hvb
  clear hva hvb hoa hob hr1 hr2 hb1 hb2
  go_wp2_with fail
  refine (Union_ok A C va vb w2 ra rb HVA.out HVB.out (by omega) (by omega)).mono ?_
  rintro e w3 ⟨vx, x, rfl, hox, hx, hxv, hxl, hb3⟩
  have hb03 := bel hb02 hb3
  have HX := Lib.hid hx
  have HXV := Lib.hid hxv
  clear hx hxv
  go_wp2_with fail
  refine (Minus_ok A C va vb w3 (ra.below hb3) (rb.below hb3) HVA.out HVB.out (by omega) (by omega)).mono ?_
  rintro e w4 ⟨vy, y, rfl, hoy, hy, hyv, hyl, hb4⟩
  have HY := Lib.hid hy
  have HYV := Lib.hid hyv
  clear hy hyv
  have hb24 := bel hb3 hb4
  go_wp2_with fail
  refine (Meet_ok A C va vb w4 (ra.below hb24) (rb.below hb24) HVA.out HVB.out (by omega) (by omega)).mono ?_
  rintro e w5 ⟨vz, z, rfl, hoz, hz, hzv, hzl, hb5⟩
  have HZ := Lib.hid hz
  have HZV := Lib.hid hzv
  clear hz hzv
  have hb25 := bel hb24 hb5
  have rx := (hox.rd.below hb4).below hb5
  have ry := hoy.rd.below hb5
  have rz := hoz.rd
  clear hox hoy hoz
  have h127 := i64_and127
  go_wp2_with fail
  refine (Has_any A _ va w5 (ra.below hb25)).mono ?_
  rintro e w6 ⟨rfl, hb6⟩
  go_wp2_with fail
  refine (Has_any C _ vb w6 ((rb.below hb25).below hb6)).mono ?_
  rintro e w7 ⟨rfl, hb7⟩
  have ex : memB x (n % 128) = cU (memB A (n % 128)) (memB C (n % 128)) := by rw [memB_in x _ HXV.out, memB_in A _ HVA.out, memB_in C _ HVB.out, NFof_in (S := fun n => cU (inB A n) (inB C n)) HX.out]
  have ey : memB y (n % 128) = cM (memB A (n % 128)) (memB C (n % 128)) := by rw [memB_in y _ HYV.out, memB_in A _ HVA.out, memB_in C _ HVB.out, NFof_in (S := fun n => cM (inB A n) (inB C n)) HY.out]
  have ez : memB z (n % 128) = cI (memB A (n % 128)) (memB C (n % 128)) := by rw [memB_in z _ HZV.out, memB_in A _ HVA.out, memB_in C _ HVB.out, NFof_in (S := fun n => cI (inB A n) (inB C n)) HZ.out]
  have cx := fun W h => Has_any x (n % 128) vx W h
  have cy := fun W h => Has_any y (n % 128) vy W h
  have cz := fun W h => Has_any z (n % 128) vz W h
  rw [ex] at cx
  rw [ey] at cy
  rw [ez] at cz
  have CX := Lib.hid cx
  have CY := Lib.hid cy
  have CZ := Lib.hid cz
  clear cx cy cz ex ey ez HX HY HZ HXV HYV HZV
  generalize memB A (n % 128) = p at *
  generalize memB C (n % 128) = q at *
  have hb57 := bel hb6 hb7
  have hb07 := bel (bel hb02 hb25) hb57
  have rx7 := rx.below hb57
  have ry7 := ry.below hb57
  have rz7 := rz.below hb57
  clear rx ry rz ra rb hb02 hb3 hb03 hb4 hb24 hb5 hb25 hb6 hb7 hb57
  cases p <;> cases q
  all_goals
    go_wp2_with fail
    refine (CX.out _ rx7).mono ?_
    rintro e w8 ⟨rfl, hb8⟩
    go_wp2_with fail
    refine (CY.out _ (ry7.below hb8)).mono ?_
    rintro e w9 ⟨rfl, hb9⟩
    go_wp2_with fail
    refine (CZ.out _ ((rz7.below hb8).below hb9)).mono ?_
    rintro e w10 ⟨rfl, hb10⟩
    go_wp2_with fail
    refine (awake_any _).mono ?_
    rintro e w11 ⟨rfl, hb11⟩
    go_wp2
    go_ret
    exact ⟨rfl, bel (bel (bel (bel hb07 hb8) hb9) hb10) hb11⟩
end Go.Proofs.Yteengifhndmjeaa
