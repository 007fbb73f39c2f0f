/- Contracts: the laws RangesNormal, RangesTakes, RangesFirst. -/
import Derived.Test.YteengifhndmjeaaRanI
namespace Go.Proofs.Yteengifhndmjeaa
open Go.RowKit

theorem NF_next {x : List (Int × Int)} (h : NF x) {k : Nat} {p q : Int × Int} (hp : x[k]? = some p) (hq : x[k + 1]? = some q) : p.1 + p.2 < q.1 := by
  obtain ⟨h1, e1⟩ := List.getElem?_eq_some_iff.1 hp
  obtain ⟨h2, e2⟩ := List.getElem?_eq_some_iff.1 hq
  have := List.pairwise_iff_getElem.1 h.2 k (k + 1) h1 h2 (by omega)
  rw [e1, e2] at this
  exact this

set_option maxHeartbeats 1000000 in
set_option maxRecDepth 100000 in
theorem normalLaw_any (a : List (Int × Int)) (n : Int) (v1 : Value) (w : World) (hr1 : RdR w v1 a) :
    Calls Try.prog 6 #[v1, .int .i64 n] w fun e w' => e = .returned (.bool true) ∧ Below w.heap.size w w' := by
  have hb0 := Below.refl w.heap.size w
  have h127 := i64_and127
  go_enter Try.func6, Try.ntmps6
  go_wp2_with fail
  refine (tame_any a v1 _ hr1).mono ?_
  rintro e wc1 ⟨va, rfl, hoa, hbc1⟩
  replace hr1 := hr1.below hbc1
  replace hb0 := bel hb0 hbc1
  clear hbc1
  have ra := hoa.rd
  clear hoa
  clear hr1
  have hva := tame_val a
  have hla := tame_len a
  generalize tameR a = A at *
  have HVA := Lib.hid hva
  clear hva
  go_wp2_with fail
  refine (Normal_ok A va _ ra HVA.out (by omega)).mono ?_
  rintro e wc2 ⟨vx, x, rfl, hox, hx, hxl, hbc2⟩
  replace ra := ra.below hbc2
  replace hb0 := bel hb0 hbc2
  clear hbc2
  have HX := Lib.hid hx
  clear hx
  have rx := hox.rd
  clear hox
  have hxv := NFof_valB HX.out HVA.out
  have HXV := Lib.hid hxv
  clear hxv
  go_wp2_with fail
  refine (Normal_ok x vx _ rx HXV.out (by omega)).mono ?_
  rintro e wc3 ⟨vy, y, rfl, hoy, hy, hyl, hbc3⟩
  replace ra := ra.below hbc3
  replace rx := rx.below hbc3
  replace hb0 := bel hb0 hbc3
  clear hbc3
  have HY := Lib.hid hy
  clear hy
  have ry := hoy.rd
  clear hoy
  have exy : y = x := NFof.eq HY.out ⟨HX.out.1, fun n => Iff.rfl⟩ (fun n => Iff.rfl)
  subst exy
  obtain ⟨wl, hwl⟩ : ∃ wl : World, wl = wc3 := ⟨_, rfl⟩
  clear hwl wl
  have rxx := rx
  obtain ⟨p, cap, rfl, hlc, hcap, hp⟩ := rx
  go_wp2
  go_loopw [9] (fun i wr => ∃ k : Nat, k ≤ y.length ∧ i = .int .i64 k ∧ Below wc3.heap.size wc3 wr) (fun i _ => y.length - (intOf i).toNat)
  case atStart => exact ⟨0, Nat.zero_le _, rfl, Below.refl _ _⟩
  case round =>
    obtain ⟨k, hk, rfl, hb⟩ := hrel
    by_cases hlt : k < y.length
    · obtain ⟨b, off, rfl, hbs, hc⟩ := hp (by omega)
      obtain ⟨z, hz⟩ := getSome y k hlt
      have hcc := (hc.below hb hbs) k z hz
      have hc1 := hcc.1
      have hc2 := hcc.2
      obtain ⟨hz0, hz1, hz2⟩ := NFof_bd HX.out HVA.out z (List.mem_of_getElem? hz)
      have hz1' : decide (z.2 < 1) = false := by simp; omega
      by_cases hk0 : k = 0
      · subst hk0
        clear hc hp hcc
        go_wp2
        go_quiet (fail)
        go_wp2
        go_roundw
        case rel => exact ⟨1, by omega, rfl, bdrewN hb _⟩
        case measure => simp [intOf]; omega
      · obtain ⟨j, rfl⟩ : ∃ j, k = j + 1 := ⟨k - 1, by omega⟩
        obtain ⟨q, hq⟩ := getSome y j (by omega)
        have hcq := (hc.below hb hbs) j q hq
        have hc3 := hcq.1
        have hc4 := hcq.2
        obtain ⟨hq0, hq1, hq2⟩ := NFof_bd HX.out HVA.out q (List.mem_of_getElem? hq)
        have hnx := NF_next HX.out.1 hq hz
        have hz3 : decide (z.1 ≤ q.1 + q.2) = false := by simp; omega
        clear hc hp hcc hcq hz hq
        go_wp2
        go_quiet (fail)
        go_wp2
        go_roundw
        case rel => exact ⟨j + 1 + 1, by omega, by go_num, bdrewN hb _⟩
        case measure => simp [intOf]; omega
    · replace hb0 := bel hb0 hb
      replace ra := ra.below hb
      replace rxx := rxx.below hb
      replace ry := ry.below hb
      clear hb
      have es1 := sameB_self y
      have CS1 := Lib.hid (fun W v h1 h2 => same_any y y v vy W h1 h2)
      go_wp2_with fail
      refine (CS1.out _ _ rxx ry).mono ?_
      rintro e wc4 ⟨rfl, hbc4⟩
      replace ra := ra.below hbc4
      replace rxx := rxx.below hbc4
      replace ry := ry.below hbc4
      replace hb0 := bel hb0 hbc4
      clear hbc4
      go_wp2_with fail
      refine (Equal_ok A y va _ _ ra rxx HVA.out HXV.out (by omega) (by omega)).mono ?_
      rintro e wc5 ⟨e1, e2, he1, he2, rfl, hbc5⟩
      replace ra := ra.below hbc5
      replace rxx := rxx.below hbc5
      replace ry := ry.below hbc5
      replace hb0 := bel hb0 hbc5
      clear hbc5
      have ee : e1 = e2 := NFof.eq he1 he2 (fun n => (HX.out.2 n).symm)
      subst ee
      have es2 := sameB_self e1
      have em : memB y (n % 128) = memB A (n % 128) := by rw [memB_in y _ HXV.out, memB_in A _ HVA.out, inB_eq (HX.out.2 _)]
      have CH := Lib.hid (fun W v h => Has_any y (n % 128) v W h)
      rw [em] at CH
      clear he1 he2 em
      go_wp2_with fail
      refine (Has_any A _ va _ ra).mono ?_
      rintro e wc6 ⟨rfl, hbc6⟩
      replace ra := ra.below hbc6
      replace rxx := rxx.below hbc6
      replace ry := ry.below hbc6
      replace hb0 := bel hb0 hbc6
      clear hbc6
      go_wp2_with fail
      refine (CH.out _ _ rxx).mono ?_
      rintro e wc7 ⟨rfl, hbc7⟩
      replace ra := ra.below hbc7
      replace rxx := rxx.below hbc7
      replace ry := ry.below hbc7
      replace hb0 := bel hb0 hbc7
      clear hbc7
      generalize memB A (n % 128) = m at *
      cases m
      all_goals
        go_wp2_with fail
        refine (awake_any _).mono ?_
        rintro e wc8 ⟨rfl, hbc8⟩
        replace ra := ra.below hbc8
        replace rxx := rxx.below hbc8
        replace ry := ry.below hbc8
        replace hb0 := bel hb0 hbc8
        clear hbc8
        go_wp2
        go_ret
        exact ⟨rfl, hb0⟩

end Go.Proofs.Yteengifhndmjeaa
