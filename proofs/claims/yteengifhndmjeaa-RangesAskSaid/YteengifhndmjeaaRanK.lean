/- Contract: the law RangesTakes. -/
import Derived.Test.YteengifhndmjeaaRanJ
namespace Go.Proofs.Yteengifhndmjeaa
open Go.RowKit

theorem tkR_len : ∀ (x : List (Int × Int)) (n : Int), (tkR x n).length ≤ x.length
  | [], n => by simp [tkR]
  | p :: x, n => by
    rw [tkR]
    split
    · simp
    · have := tkR_len x (n - min p.2 n)
      simp
      exact this
theorem NFof_len {x A : List (Int × Int)} (hx : NFof x (Mem A)) (h0 : ∀ p ∈ A, 0 ≤ p.2) : x.length ≤ A.length := by
  have hs : (A.mergeSort fun p q => decide (p.1 ≤ q.1)).Pairwise fun p q => p.1 ≤ q.1 := by
    have := List.pairwise_mergeSort (le := fun p q : Int × Int => decide (p.1 ≤ q.1)) (fun a b c h1 h2 => by simp at *; omega) (fun a b => by simp; omega) A
    exact this.imp (fun h => by simpa using h)
  have h1 := merge_perm A _ (List.mergeSort_perm A _) hs h0
  have e : x = merge (A.mergeSort fun p q => decide (p.1 ≤ q.1)) := NFof.eq hx h1 (fun n => Iff.rfl)
  have h2 := merge_len (A.mergeSort fun p q => decide (p.1 ≤ q.1)) _ (Nat.le_refl _)
  rw [List.take_length, List.length_mergeSort] at h2
  rw [e]
  exact h2
theorem awake_is (w : World) (b : Bool) (h : true = b) : Calls Try.prog 18 #[] w fun e w' => e = .returned (.bool b) ∧ Below w.heap.size w w' := h ▸ awake_any w

set_option maxHeartbeats 1000000 in
set_option maxRecDepth 100000 in
theorem takesLaw_any (a : List (Int × Int)) (n : Int) (v1 : Value) (w : World) (hr1 : RdR w v1 a) :
    Calls Try.prog 8 #[v1, .int .i64 n] w fun e w' => e = .returned (.bool true) ∧ Below w.heap.size w w' := by
  have hb0 := Below.refl w.heap.size w
  have h31 := and_31
  go_enter Try.func8, Try.ntmps8
  go_wp2_with fail
  refine (tame_any a v1 _ hr1).mono ?_
  rintro e wc1 ⟨va, rfl, hoa, hbc1⟩
  replace hr1 := hr1.below hbc1
  replace hb0 := bel hb0 hbc1
  clear hbc1
  have ra := hoa.rd
  clear hoa
  clear hr1
  have hva := tame_val a
  have hla := tame_len a
  generalize tameR a = A at *
  have HVA := Lib.hid hva
  clear hva
  have hn0 : 0 ≤ n % 32 := by omega
  have hn1 : n % 32 ≤ 31 := by omega
  go_wp2_with fail
  refine (Take_ok A (n % 32) va _ ra HVA.out (by omega) hn0 (by omega)).mono ?_
  rintro e w2 ⟨x, hx, hb2, hcase⟩
  replace ra := ra.below hb2
  replace hb0 := bel hb0 hb2
  have HX := Lib.hid hx
  have hxp : ∀ p ∈ x, 0 ≤ p.2 := fun p hp => by have := NFof_bd HX.out HVA.out p hp; omega
  have hrm := rmR_eq x (n % 32) hxp hn0
  have htk := tkR_sum x (n % 32) hxp hn0
  have HRM := Lib.hid hrm
  have HTK := Lib.hid htk
  have HXP := Lib.hid hxp
  clear hx hrm htk hxp
  generalize n % 32 = m at *
  rcases hcase with ⟨hpos, rfl⟩ | ⟨hneg, v2, rfl, ho2⟩
  · clear hb2
    go_wp2_with fail
    refine (Count_ok A va _ ra HVA.out (by omega)).mono ?_
    rintro e wc2 ⟨xb, hxb, rfl, hbc2⟩
    replace ra := ra.below hbc2
    replace hb0 := bel hb0 hbc2
    clear hbc2
    have HXB := Lib.hid hxb
    clear hxb
    have exb : xb = x := NFof.eq HXB.out HX.out (fun n => Iff.rfl)
    subst exb
    have hlt : sumR xb < m := by have := HRM.out; omega
    have hd : decide (m ≤ sumR xb) = false := by simp; omega
    clear hpos
    go_wp2_with fail
    refine (awake_any _).mono ?_
    rintro e wc3 ⟨rfl, hbc3⟩
    replace ra := ra.below hbc3
    replace hb0 := bel hb0 hbc3
    clear hbc3
    go_wp2
    go_ret
    exact ⟨rfl, hb0⟩
  · have hle : m ≤ sumR x := by have := HRM.out; omega
    have hsm : sumR (tkR x m) = m := by have := HTK.out; have := HRM.out; omega
    have hnft : NF (tkR x m) := tkR_NF x m HX.out.1
    have hvt : valB (tkR x m) = true := by
      unfold valB
      rw [List.all_eq_true]
      intro r hr
      obtain ⟨p, hp, e1, e2, e3⟩ := tkR_part x m r hr
      have := NFof_bd HX.out HVA.out p hp
      unfold vldB
      simp
      omega
    have htl : (tkR x m).length ≤ 12 := by
      have h1 := tkR_len x m
      have h2 := NFof_len HX.out (fun p hp => (valB_bd HVA.out p hp).2.1)
      omega
    have hleast : ∀ q, Mem x q → ¬ Mem (tkR x m) q → ∀ r ∈ tkR x m, r.1 + r.2 ≤ q := fun q h1 h2 => tkR_least x m q HX.out.1 h1 h2
    have rt := ho2.rd
    have HSM := Lib.hid hsm
    have HNT := Lib.hid hnft
    have HVT := Lib.hid hvt
    have HLE := Lib.hid hleast
    clear hsm hnft hvt hleast hb2 ho2 HTK HRM hneg
    generalize tkR x m = T at *
    go_wp2_with fail
    refine (Count_ok A va _ ra HVA.out (by omega)).mono ?_
    rintro e wc4 ⟨xb, hxb, rfl, hbc4⟩
    replace ra := ra.below hbc4
    replace rt := rt.below hbc4
    replace hb0 := bel hb0 hbc4
    clear hbc4
    have HXB := Lib.hid hxb
    clear hxb
    have exb : xb = x := NFof.eq HXB.out HX.out (fun n => Iff.rfl)
    subst exb
    have hd : decide (m ≤ sumR xb) = true := by simp; omega
    go_wp2_with fail
    refine (Minus_ok A T va v2 _ ra rt HVA.out HVT.out (by omega) (by omega)).mono ?_
    rintro e wc5 ⟨vy, y, rfl, hoy, hy, hyv, hyl, hbc5⟩
    replace ra := ra.below hbc5
    replace rt := rt.below hbc5
    replace hb0 := bel hb0 hbc5
    clear hbc5
    have HY := Lib.hid hy
    clear hy
    have HYV := Lib.hid hyv
    clear hyv
    have ry := hoy.rd
    clear hoy
    go_wp2_with fail
    refine (Count_ok T v2 _ rt HVT.out (by omega)).mono ?_
    rintro e wc6 ⟨xt, hxt, rfl, hbc6⟩
    replace ra := ra.below hbc6
    replace rt := rt.below hbc6
    replace ry := ry.below hbc6
    replace hb0 := bel hb0 hbc6
    clear hbc6
    have ext : xt = T := NFof.eq hxt ⟨HNT.out, fun n => Iff.rfl⟩ (fun n => Iff.rfl)
    subst ext
    have hsm := HSM.out
    clear hxt
    have hbne : (m != m) = false := by simp
    rw [hsm]
    clear ra
    obtain ⟨pt, ct, rfl, hlt, hct, hpt⟩ := rt
    obtain ⟨py, cy, rfl, hly, hcy, hpy⟩ := ry
    clear hsm
    by_cases ht0 : xt.length = 0
    · have htb : ((xt.length : Int) == 0) = true := by simp [ht0]
      go_wp2
      (refine wp_region_quiet_ext (by kernel_rfl) (by kernel_rfl) ?_; (repeat (go_big_quiet_step ((go_at_call 18; exact ext_of (awake_any _))))); (with_reducible refine wpQuiet_nil ?_); intro wq hwq; have hbq := ext_below hwq; clear hwq)
      go_wp2
      go_ret
      exact ⟨rfl, bel hb0 hbq⟩
    · have htb : ((xt.length : Int) == 0) = false := by simp; exact fun h => ht0 (by simp [h])
      by_cases hy0 : y.length = 0
      · have hyb : ((y.length : Int) == 0) = true := by simp [hy0]
        go_wp2
        (refine wp_region_quiet_ext (by kernel_rfl) (by kernel_rfl) ?_; (repeat (go_big_quiet_step ((go_at_call 18; exact ext_of (awake_any _))))); (with_reducible refine wpQuiet_nil ?_); intro wq hwq; have hbq := ext_below hwq; clear hwq)
        go_wp2
        go_ret
        exact ⟨rfl, bel hb0 hbq⟩
      · have hyb : ((y.length : Int) == 0) = false := by simp; exact fun h => hy0 (by simp [h])
        obtain ⟨bt, offt, rfl, hbts, hcct⟩ := hpt (Nat.pos_of_ne_zero ht0)
        obtain ⟨bz, offy, rfl, hbys, hccy⟩ := hpy (Nat.pos_of_ne_zero hy0)
        obtain ⟨k, hk⟩ := Nat.exists_eq_succ_of_ne_zero ht0
        obtain ⟨q, hq⟩ := getSome xt k (by rw [hk]; exact Nat.lt_succ_self k)
        obtain ⟨z, hz⟩ := getSome y 0 (Nat.pos_of_ne_zero hy0)
        have hcq := hcct k q hq
        have hcz := hccy 0 z hz
        have c1 := cell_ext hbts hcq.1
        have c2 := cell_ext hbts hcq.2
        have c3 := cell_ext hbys hcz.1
        simp only [Nat.zero_mul, Nat.add_zero] at c3
        rw [Nat.succ_eq_add_one] at hk
        obtain ⟨hq0, hq1, hq2⟩ := valB_bd HVT.out q (List.mem_of_getElem? hq)
        have hzm : Mem y z.1 := ⟨z, List.mem_of_getElem? hz, by omega, by have := HY.out.1.1 z (List.mem_of_getElem? hz); omega⟩
        have hzc := (HY.out.2 z.1).1 hzm
        unfold cM at hzc
        simp at hzc
        have hfin : q.1 + q.2 ≤ z.1 := HLE.out z.1 ((HX.out.2 z.1).2 ((inB_iff A z.1).1 hzc.1)) (fun hc => by rw [(inB_iff xt z.1).2 hc] at hzc; cases hzc.2) q (List.mem_of_getElem? hq)
        have hw1 : IntKind.i64.wrap (q.1 + q.2) = q.1 + q.2 := IntWalk.i64_in _ (by omega)
        have hkc : k + 1 ≤ ct := by rw [← hk]; exact hlt
        clear hcct hccy hcq hcz hq hz hzm hzc hpt hpy
        have htb' : (((k : Int) + 1) == 0) = false := by simp; omega
        clear htb ht0
        rw [hk] at *
        clear hk
        go_wp2
        (refine wp_region_quiet_ext (by kernel_rfl) (by kernel_rfl) ?_; (repeat (go_big_quiet_step ((go_at_call 18; exact ext_of (awake_any _))))); (with_reducible refine wpQuiet_nil ?_); intro wq hwq; have hbq := ext_below hwq; clear hwq)
        go_wp2
        go_ret
        exact ⟨rfl, bel hb0 hbq⟩

end Go.Proofs.Yteengifhndmjeaa
