/- Contracts: the laws RangesLaws, RangesNormal. -/
import Derived.Test.YteengifhndmjeaaRanH
import Derived.Test.YteengifhndmjeaaRanP
namespace Go.Proofs.Yteengifhndmjeaa
open Go.RowKit

theorem sameB_self (x : List (Int × Int)) : sameB x x = true := by simp [sameB]
theorem valB_M {x : List (Int × Int)} (h : valB x = true) : ∀ p ∈ x, 0 ≤ p.1 ∧ p.1 + p.2 ≤ (1073741824 : Nat) := fun p hp => by have := valB_bd h p hp; omega

set_option maxHeartbeats 1000000 in
set_option maxRecDepth 100000 in
theorem laws_any (a b c : List (Int × Int)) (v1 v2 v3 : Value) (w : World) (hr1 : RdR w v1 a) (hr2 : RdR w v2 b) (hr3 : RdR w v3 c) :
    Calls Try.prog 4 #[v1, v2, v3] w fun e w' => e = .returned (.bool true) ∧ Below w.heap.size w w' := by
  have hb0 := Below.refl w.heap.size w
  go_enter Try.func4, Try.ntmps4
  go_wp2_with fail
  refine (tame_any a v1 _ hr1).mono ?_
  rintro e wc1 ⟨va, rfl, hoa, hbc1⟩
  replace hr1 := hr1.below hbc1
  replace hr2 := hr2.below hbc1
  replace hr3 := hr3.below hbc1
  replace hb0 := bel hb0 hbc1
  clear hbc1
  have ra := hoa.rd
  clear hoa
  go_wp2_with fail
  refine (tame_any b v2 _ hr2).mono ?_
  rintro e wc2 ⟨vb, rfl, hob, hbc2⟩
  replace hr1 := hr1.below hbc2
  replace hr2 := hr2.below hbc2
  replace hr3 := hr3.below hbc2
  replace ra := ra.below hbc2
  replace hb0 := bel hb0 hbc2
  clear hbc2
  have rb := hob.rd
  clear hob
  go_wp2_with fail
  refine (tame_any c v3 _ hr3).mono ?_
  rintro e wc3 ⟨vc, rfl, hoc, hbc3⟩
  replace hr1 := hr1.below hbc3
  replace hr2 := hr2.below hbc3
  replace hr3 := hr3.below hbc3
  replace ra := ra.below hbc3
  replace rb := rb.below hbc3
  replace hb0 := bel hb0 hbc3
  clear hbc3
  have rc := hoc.rd
  clear hoc
  clear hr1 hr2 hr3
  have hva := tame_val a
  have hvb := tame_val b
  have hvc := tame_val c
  have hla := tame_len a
  have hlb := tame_len b
  have hlc := tame_len c
  generalize tameR a = A at *
  generalize tameR b = B at *
  generalize tameR c = C at *
  have HVA := Lib.hid hva
  have HVB := Lib.hid hvb
  have HVC := Lib.hid hvc
  clear hva hvb hvc
  go_wp2_with fail
  refine (Minus_ok A B va vb _ ra rb HVA.out HVB.out (by omega) (by omega)).mono ?_
  rintro e wc4 ⟨vx, x, rfl, hox, hx, hxv, hxl, hbc4⟩
  replace ra := ra.below hbc4
  replace rb := rb.below hbc4
  replace rc := rc.below hbc4
  replace hb0 := bel hb0 hbc4
  clear hbc4
  have HX := Lib.hid hx
  clear hx
  have HXV := Lib.hid hxv
  clear hxv
  have rx := hox.rd
  clear hox
  go_wp2_with fail
  refine (Meet_ok A B va vb _ ra rb HVA.out HVB.out (by omega) (by omega)).mono ?_
  rintro e wc5 ⟨vy, y, rfl, hoy, hy, hyv, hyl, hbc5⟩
  replace ra := ra.below hbc5
  replace rb := rb.below hbc5
  replace rc := rc.below hbc5
  replace rx := rx.below hbc5
  replace hb0 := bel hb0 hbc5
  clear hbc5
  have HY := Lib.hid hy
  clear hy
  have HYV := Lib.hid hyv
  clear hyv
  have ry := hoy.rd
  clear hoy
  go_wp2_with fail
  refine (Union_ok x y vx vy _ rx ry HXV.out HYV.out (by omega) (by omega)).mono ?_
  rintro e wc6 ⟨vz, z, rfl, hoz, hz, hzv, hzl, hbc6⟩
  replace ra := ra.below hbc6
  replace rb := rb.below hbc6
  replace rc := rc.below hbc6
  replace rx := rx.below hbc6
  replace ry := ry.below hbc6
  replace hb0 := bel hb0 hbc6
  clear hbc6
  have HZ := Lib.hid hz
  clear hz
  have HZV := Lib.hid hzv
  clear hzv
  have rz := hoz.rd
  clear hoz
  go_wp2_with fail
  refine (Normal_ok A va _ ra HVA.out (by omega)).mono ?_
  rintro e wc7 ⟨vn, nn, rfl, hon, hn, hnl, hbc7⟩
  replace ra := ra.below hbc7
  replace rb := rb.below hbc7
  replace rc := rc.below hbc7
  replace rx := rx.below hbc7
  replace ry := ry.below hbc7
  replace rz := rz.below hbc7
  replace hb0 := bel hb0 hbc7
  clear hbc7
  have HN := Lib.hid hn
  clear hn
  have rn := hon.rd
  clear hon
  clear rx
  have ezn : z = nn := NFof.eq HZ.out HN.out (fun n => by
    simp only [cU]
    rw [NFof_in (S := fun n => cM (inB A n) (inB B n)) HX.out, NFof_in (S := fun n => cI (inB A n) (inB B n)) HY.out, ← inB_iff]
    unfold cM cI
    cases inB A n <;> cases inB B n <;> simp)
  subst ezn
  have es1 := Lib.hid (sameB_self z)
  have CS1 := Lib.hid (fun W h1 h2 => same_any z z vz vn W h1 h2)
  go_wp2_with fail
  refine (CS1.out _ rz rn).mono ?_
  rintro e wc8 ⟨rfl, hbc8⟩
  replace ra := ra.below hbc8
  replace rb := rb.below hbc8
  replace rc := rc.below hbc8
  replace ry := ry.below hbc8
  replace rz := rz.below hbc8
  replace rn := rn.below hbc8
  replace hb0 := bel hb0 hbc8
  clear hbc8
  clear rz rn
  have es := es1.out
  go_wp2_with fail
  refine (Union_ok B C vb vc _ rb rc HVB.out HVC.out (by omega) (by omega)).mono ?_
  rintro e wc9 ⟨vu, u, rfl, hou, hu, huv, hul, hbc9⟩
  replace ra := ra.below hbc9
  replace rb := rb.below hbc9
  replace rc := rc.below hbc9
  replace ry := ry.below hbc9
  replace hb0 := bel hb0 hbc9
  clear hbc9
  have HU := Lib.hid hu
  clear hu
  have HUV := Lib.hid huv
  clear huv
  have ru := hou.rd
  clear hou
  clear es
  go_wp2_with fail
  refine (Meet_ok A u va vu _ ra ru HVA.out HUV.out (by omega) (by omega)).mono ?_
  rintro e wc10 ⟨vv, vl, rfl, hov, hv, hvv, hvl, hbc10⟩
  replace ra := ra.below hbc10
  replace rb := rb.below hbc10
  replace rc := rc.below hbc10
  replace ry := ry.below hbc10
  replace ru := ru.below hbc10
  replace hb0 := bel hb0 hbc10
  clear hbc10
  have HV := Lib.hid hv
  clear hv
  have HVV := Lib.hid hvv
  clear hvv
  have rv := hov.rd
  clear hov
  clear ru
  go_wp2_with fail
  refine (Meet_ok A B va vb _ ra rb HVA.out HVB.out (by omega) (by omega)).mono ?_
  rintro e wc11 ⟨vp, pl, rfl, hop, hp, hpv, hpl, hbc11⟩
  replace ra := ra.below hbc11
  replace rb := rb.below hbc11
  replace rc := rc.below hbc11
  replace ry := ry.below hbc11
  replace rv := rv.below hbc11
  replace hb0 := bel hb0 hbc11
  clear hbc11
  have HP := Lib.hid hp
  clear hp
  have HPV := Lib.hid hpv
  clear hpv
  have rp := hop.rd
  clear hop
  go_wp2_with fail
  refine (Meet_ok A C va vc _ ra rc HVA.out HVC.out (by omega) (by omega)).mono ?_
  rintro e wc12 ⟨vq, ql, rfl, hoq, hq, hqv, hql, hbc12⟩
  replace ra := ra.below hbc12
  replace rb := rb.below hbc12
  replace rc := rc.below hbc12
  replace ry := ry.below hbc12
  replace rv := rv.below hbc12
  replace rp := rp.below hbc12
  replace hb0 := bel hb0 hbc12
  clear hbc12
  have HQ := Lib.hid hq
  clear hq
  have HQV := Lib.hid hqv
  clear hqv
  have rq := hoq.rd
  clear hoq
  go_wp2_with fail
  refine (Union_ok pl ql vp vq _ rp rq HPV.out HQV.out (by omega) (by omega)).mono ?_
  rintro e wc13 ⟨vw, wl, rfl, how, hw, hwv, hwl, hbc13⟩
  replace ra := ra.below hbc13
  replace rb := rb.below hbc13
  replace rc := rc.below hbc13
  replace ry := ry.below hbc13
  replace rv := rv.below hbc13
  replace rp := rp.below hbc13
  replace rq := rq.below hbc13
  replace hb0 := bel hb0 hbc13
  clear hbc13
  have HW := Lib.hid hw
  clear hw
  have HWV := Lib.hid hwv
  clear hwv
  have rw' := how.rd
  clear how
  clear rp rq rc
  have evw : vl = wl := NFof.eq HV.out HW.out (fun n => by
    simp only [cU]
    rw [NFof_in (S := fun n => cI (inB A n) (inB B n)) HP.out, NFof_in (S := fun n => cI (inB A n) (inB C n)) HQ.out, NFof_in (S := fun n => cU (inB B n) (inB C n)) HU.out]
    unfold cI cU
    cases inB A n <;> cases inB B n <;> cases inB C n <;> simp)
  subst evw
  have es1 := Lib.hid (sameB_self vl)
  have CS2 := Lib.hid (fun W h1 h2 => same_any vl vl vv vw W h1 h2)
  go_wp2_with fail
  refine (CS2.out _ rv rw').mono ?_
  rintro e wc14 ⟨rfl, hbc14⟩
  replace ra := ra.below hbc14
  replace rb := rb.below hbc14
  replace ry := ry.below hbc14
  replace rv := rv.below hbc14
  replace rw' := rw'.below hbc14
  replace hb0 := bel hb0 hbc14
  clear hbc14
  clear rv rw'
  have es := es1.out
  go_wp2_with fail
  refine (Count_ok A va _ ra HVA.out (by omega)).mono ?_
  rintro e wc15 ⟨xa, hxa, rfl, hbc15⟩
  replace ra := ra.below hbc15
  replace rb := rb.below hbc15
  replace ry := ry.below hbc15
  replace hb0 := bel hb0 hbc15
  clear hbc15
  have HXA := Lib.hid hxa
  clear hxa
  clear es
  go_wp2_with fail
  refine (Count_ok B vb _ rb HVB.out (by omega)).mono ?_
  rintro e wc16 ⟨xb, hxb, rfl, hbc16⟩
  replace ra := ra.below hbc16
  replace rb := rb.below hbc16
  replace ry := ry.below hbc16
  replace hb0 := bel hb0 hbc16
  clear hbc16
  have HXB := Lib.hid hxb
  clear hxb
  go_wp2_with fail
  refine (Count_ok y vy _ ry HYV.out (by omega)).mono ?_
  rintro e wc17 ⟨xy, hxy, rfl, hbc17⟩
  replace ra := ra.below hbc17
  replace rb := rb.below hbc17
  replace ry := ry.below hbc17
  replace hb0 := bel hb0 hbc17
  clear hbc17
  have HXY := Lib.hid hxy
  clear hxy
  clear ry
  go_wp2_with fail
  refine (Union_ok A B va vb _ ra rb HVA.out HVB.out (by omega) (by omega)).mono ?_
  rintro e wc18 ⟨vs, s, rfl, hos, hs, hsv, hsl, hbc18⟩
  replace ra := ra.below hbc18
  replace rb := rb.below hbc18
  replace hb0 := bel hb0 hbc18
  clear hbc18
  have HS := Lib.hid hs
  clear hs
  have HSV := Lib.hid hsv
  clear hsv
  have rs := hos.rd
  clear hos
  go_wp2_with fail
  refine (Count_ok s vs _ rs HSV.out (by omega)).mono ?_
  rintro e wc19 ⟨xs, hxs, rfl, hbc19⟩
  replace ra := ra.below hbc19
  replace rb := rb.below hbc19
  replace rs := rs.below hbc19
  replace hb0 := bel hb0 hbc19
  clear hbc19
  have HXS := Lib.hid hxs
  clear hxs
  have e1 : xy = y := NFof.eq (HXY.out) ⟨HY.out.1, fun n => Iff.rfl⟩ (fun n => Iff.rfl)
  have e2 : xs = s := NFof.eq (HXS.out) ⟨HS.out.1, fun n => Iff.rfl⟩ (fun n => Iff.rfl)
  have hsum : sumR xs + sumR xy = sumR xa + sumR xb := by
    rw [e1, e2]
    exact sum_or_and 1073741824 xa xb s y (inB A) (inB B) (HXA.out.congr fun n => (inB_iff A n).symm) (HXB.out.congr fun n => (inB_iff B n).symm) HS.out HY.out
      (valB_M (NFof_valB HXA.out HVA.out)) (valB_M (NFof_valB HXB.out HVB.out)) (valB_M HSV.out) (valB_M HYV.out)
  have b1 := NF_sum_bd 1073741824 xa 0 HXA.out.1 (fun p hp => by have := NFof_bd HXA.out HVA.out p hp; omega) (by omega)
  have b2 := NF_sum_bd 1073741824 xb 0 HXB.out.1 (fun p hp => by have := NFof_bd HXB.out HVB.out p hp; omega) (by omega)
  have b3 := NF_sum_bd 1073741824 xy 0 HXY.out.1 (fun p hp => by have := NFof_bd HXY.out HYV.out p hp; omega) (by omega)
  have b4 := NF_sum_bd 1073741824 xs 0 HXS.out.1 (fun p hp => by have := NFof_bd HXS.out HSV.out p hp; omega) (by omega)
  clear e1 e2
  generalize sumR xa = ka at *
  generalize sumR xb = kb at *
  generalize sumR xy = ky at *
  generalize sumR xs = ks at *
  have hbe : (ks + ky == ka + kb) = true := by simp [hsum]
  have HSUM := Lib.hid hsum
  clear hsum
  obtain ⟨b11, b12⟩ := b1
  obtain ⟨b21, b22⟩ := b2
  obtain ⟨b31, b32⟩ := b3
  obtain ⟨b41, b42⟩ := b4
  clear ra rb rs
  go_wp2_with fail
  refine (awake_any _).mono ?_
  rintro e wc20 ⟨rfl, hbc20⟩
  replace hb0 := bel hb0 hbc20
  clear hbc20
  go_wp2
  go_ret
  exact ⟨rfl, hb0⟩

end Go.Proofs.Yteengifhndmjeaa
