/- Contracts: the reference's Normal; agrees; the law RangesSets. -/
import Derived.Test.YteengifhndmjeaaRefC
import Derived.Test.YteengifhndmjeaaRanI
namespace Go.Proofs.Yteengifhndmjeaa
open Go.RowKit

theorem sel0 (l : List (Int × Int)) (n : Int) : selB 0 (inB l n) (inB [] n) = true ↔ Mem l n := by
  have : inB [] n = false := by simp [inB]
  rw [this, ← inB_iff]
  simp [selB]

set_option maxHeartbeats 400000 in
theorem refNormal_any (l : List (Int × Int)) (v : Value) (w : World) (hr : RdR w v l) (hv : valB l = true) (hl : l.length ≤ 400000) :
    Calls Try.prog 49 #[v] w (RetSel w (Mem l) (2 * l.length)) := by
  have HV := Lib.hid hv
  clear hv
  go_enter Try.func49, Try.ntmps49
  go_wp2_with fail
  refine (Select_any l [] 0 (.inl rfl) v _ w hr (RdR.nil w) HV.out rfl hl (by simp)).mono ?_
  rintro e w1 ⟨v1, x, rfl, ho, hx, hxv, hxl, hb⟩
  have H := Lib.hid (And.intro hx hxv)
  clear hx hxv
  go_wp2
  go_ret
  exact ⟨v1, x, rfl, ho, H.out.1.congr (sel0 l), H.out.2, by simpa using hxl, hb⟩

theorem selB0 : selB 0 = cU := rfl
theorem selB1 : selB 1 = cM := rfl
theorem selB2 : selB 2 = cI := rfl

set_option maxHeartbeats 2000000 in
set_option maxRecDepth 100000 in
theorem agrees_ok (a b : List (Int × Int)) (v1 v2 : Value) (w : World) (ra : RdR w v1 a) (rb : RdR w v2 b) (hv1 : valB a = true) (hv2 : valB b = true) (hla : a.length ≤ 1000) (hlb : b.length ≤ 1000) :
    Calls Try.prog 22 #[v1, v2] w fun e w' => e = .returned (.bool true) ∧ Below w.heap.size w w' := by
  have hb0 := Below.refl w.heap.size w
  have HVA := Lib.hid hv1
  have HVB := Lib.hid hv2
  go_enter Try.func22, Try.ntmps22
  go_wp2_with fail
  refine (refValid_any a v1 _ ra).mono ?_
  rintro e wc1 ⟨rfl, hbc1⟩
  replace ra := ra.below hbc1
  replace rb := rb.below hbc1
  replace hb0 := bel hb0 hbc1
  clear hbc1
  go_wp2_with fail
  refine (refValid_any b v2 _ rb).mono ?_
  rintro e wc2 ⟨rfl, hbc2⟩
  replace ra := ra.below hbc2
  replace rb := rb.below hbc2
  replace hb0 := bel hb0 hbc2
  clear hbc2
  go_wp2_with fail
  refine (Union_ok a b v1 v2 _ ra rb HVA.out HVB.out (by omega) (by omega)).mono ?_
  rintro e wc3 ⟨vx, x, rfl, hox, hx, hxv, hxl, hbc3⟩
  replace ra := ra.below hbc3
  replace rb := rb.below hbc3
  replace hb0 := bel hb0 hbc3
  clear hbc3
  have HX := Lib.hid hx
  clear hx
  have HXV := Lib.hid hxv
  clear hxv
  have rx := hox.rd
  clear hox
  go_wp2_with fail
  refine (Minus_ok a b v1 v2 _ ra rb HVA.out HVB.out (by omega) (by omega)).mono ?_
  rintro e wc4 ⟨vy, y, rfl, hoy, hy, hyv, hyl, hbc4⟩
  replace ra := ra.below hbc4
  replace rb := rb.below hbc4
  replace rx := rx.below hbc4
  replace hb0 := bel hb0 hbc4
  clear hbc4
  have HY := Lib.hid hy
  clear hy
  have HYV := Lib.hid hyv
  clear hyv
  have ry := hoy.rd
  clear hoy
  go_wp2_with fail
  refine (Meet_ok a b v1 v2 _ ra rb HVA.out HVB.out (by omega) (by omega)).mono ?_
  rintro e wc5 ⟨vz, z, rfl, hoz, hz, hzv, hzl, hbc5⟩
  replace ra := ra.below hbc5
  replace rb := rb.below hbc5
  replace rx := rx.below hbc5
  replace ry := ry.below hbc5
  replace hb0 := bel hb0 hbc5
  clear hbc5
  have HZ := Lib.hid hz
  clear hz
  have HZV := Lib.hid hzv
  clear hzv
  have rz := hoz.rd
  clear hoz
  go_wp2_with fail
  refine (Normal_ok a v1 _ ra HVA.out (by omega)).mono ?_
  rintro e wc6 ⟨vn, nn, rfl, hon, hn, hnl, hbc6⟩
  replace ra := ra.below hbc6
  replace rb := rb.below hbc6
  replace rx := rx.below hbc6
  replace ry := ry.below hbc6
  replace rz := rz.below hbc6
  replace hb0 := bel hb0 hbc6
  clear hbc6
  have HN := Lib.hid hn
  clear hn
  have rn := hon.rd
  clear hon
  go_wp2_with fail
  refine (refValid_any a v1 _ ra).mono ?_
  rintro e wc7 ⟨rfl, hbc7⟩
  replace ra := ra.below hbc7
  replace rb := rb.below hbc7
  replace rx := rx.below hbc7
  replace ry := ry.below hbc7
  replace rz := rz.below hbc7
  replace rn := rn.below hbc7
  replace hb0 := bel hb0 hbc7
  clear hbc7
  go_wp2_with fail
  refine (refNormal_any a v1 _ ra HVA.out (by omega)).mono ?_
  rintro e wc8 ⟨vr, nr, rfl, hor, hr, hrv, hrl, hbc8⟩
  replace ra := ra.below hbc8
  replace rb := rb.below hbc8
  replace rx := rx.below hbc8
  replace ry := ry.below hbc8
  replace rz := rz.below hbc8
  replace rn := rn.below hbc8
  replace hb0 := bel hb0 hbc8
  clear hbc8
  have HR := Lib.hid hr
  clear hr
  have HRV := Lib.hid hrv
  clear hrv
  have rr := hor.rd
  clear hor
  go_wp2_with fail
  refine (refNormal_any b v2 _ rb HVB.out (by omega)).mono ?_
  rintro e wc9 ⟨vs, ns, rfl, hos, hs, hsv, hsl, hbc9⟩
  replace ra := ra.below hbc9
  replace rb := rb.below hbc9
  replace rx := rx.below hbc9
  replace ry := ry.below hbc9
  replace rz := rz.below hbc9
  replace rn := rn.below hbc9
  replace rr := rr.below hbc9
  replace hb0 := bel hb0 hbc9
  clear hbc9
  have HS := Lib.hid hs
  clear hs
  have HSV := Lib.hid hsv
  clear hsv
  have rs := hos.rd
  clear hos
  go_wp2_with fail
  refine (same_any nr ns vr vs _ rr rs).mono ?_
  rintro e wc10 ⟨rfl, hbc10⟩
  replace ra := ra.below hbc10
  replace rb := rb.below hbc10
  replace rx := rx.below hbc10
  replace ry := ry.below hbc10
  replace rz := rz.below hbc10
  replace rn := rn.below hbc10
  replace rr := rr.below hbc10
  replace rs := rs.below hbc10
  replace hb0 := bel hb0 hbc10
  clear hbc10
  clear rr rs
  go_wp2_with fail
  refine (Select_any a b 0 (.inl rfl) v1 v2 _ ra rb HVA.out HVB.out (by omega) (by omega)).mono ?_
  rintro e wc11 ⟨v3, s3, rfl, ho3, h3, h3v, h3l, hbc11⟩
  replace ra := ra.below hbc11
  replace rb := rb.below hbc11
  replace rx := rx.below hbc11
  replace ry := ry.below hbc11
  replace rz := rz.below hbc11
  replace rn := rn.below hbc11
  replace hb0 := bel hb0 hbc11
  clear hbc11
  have r3 := ho3.rd
  clear ho3
  have e3 : s3 = x := NFof.eq h3 HX.out (fun n => Iff.rfl)
  subst e3
  clear h3 h3v
  have es3 := sameB_self s3
  have C3 := Lib.hid (fun W h1 h2 => same_any s3 s3 vx v3 W h1 h2)
  go_wp2_with fail
  refine (C3.out _ rx r3).mono ?_
  rintro e wc12 ⟨rfl, hbc12⟩
  replace ra := ra.below hbc12
  replace rb := rb.below hbc12
  replace rx := rx.below hbc12
  replace ry := ry.below hbc12
  replace rz := rz.below hbc12
  replace rn := rn.below hbc12
  replace r3 := r3.below hbc12
  replace hb0 := bel hb0 hbc12
  clear hbc12
  clear rx r3
  go_wp2_with fail
  refine (Select_any a b 1 (.inr (.inl rfl)) v1 v2 _ ra rb HVA.out HVB.out (by omega) (by omega)).mono ?_
  rintro e wc13 ⟨v4, s4, rfl, ho4, h4, h4v, h4l, hbc13⟩
  replace ra := ra.below hbc13
  replace rb := rb.below hbc13
  replace ry := ry.below hbc13
  replace rz := rz.below hbc13
  replace rn := rn.below hbc13
  replace hb0 := bel hb0 hbc13
  clear hbc13
  have r4 := ho4.rd
  clear ho4
  have e4 : s4 = y := NFof.eq h4 HY.out (fun n => Iff.rfl)
  subst e4
  clear h4 h4v
  have es4 := sameB_self s4
  have C4 := Lib.hid (fun W h1 h2 => same_any s4 s4 vy v4 W h1 h2)
  go_wp2_with fail
  refine (C4.out _ ry r4).mono ?_
  rintro e wc14 ⟨rfl, hbc14⟩
  replace ra := ra.below hbc14
  replace rb := rb.below hbc14
  replace ry := ry.below hbc14
  replace rz := rz.below hbc14
  replace rn := rn.below hbc14
  replace r4 := r4.below hbc14
  replace hb0 := bel hb0 hbc14
  clear hbc14
  clear ry r4
  go_wp2_with fail
  refine (Select_any a b 2 (.inr (.inr rfl)) v1 v2 _ ra rb HVA.out HVB.out (by omega) (by omega)).mono ?_
  rintro e wc15 ⟨v5, s5, rfl, ho5, h5, h5v, h5l, hbc15⟩
  replace ra := ra.below hbc15
  replace rb := rb.below hbc15
  replace rz := rz.below hbc15
  replace rn := rn.below hbc15
  replace hb0 := bel hb0 hbc15
  clear hbc15
  have r5 := ho5.rd
  clear ho5
  have e5 : s5 = z := NFof.eq h5 HZ.out (fun n => Iff.rfl)
  subst e5
  clear h5 h5v
  have es5 := sameB_self s5
  have C5 := Lib.hid (fun W h1 h2 => same_any s5 s5 vz v5 W h1 h2)
  go_wp2_with fail
  refine (C5.out _ rz r5).mono ?_
  rintro e wc16 ⟨rfl, hbc16⟩
  replace ra := ra.below hbc16
  replace rb := rb.below hbc16
  replace rz := rz.below hbc16
  replace rn := rn.below hbc16
  replace r5 := r5.below hbc16
  replace hb0 := bel hb0 hbc16
  clear hbc16
  clear rz r5
  go_wp2_with fail
  refine (refNormal_any a v1 _ ra HVA.out (by omega)).mono ?_
  rintro e wc17 ⟨v6, s6, rfl, ho6, h6, h6v, h6l, hbc17⟩
  replace ra := ra.below hbc17
  replace rb := rb.below hbc17
  replace rn := rn.below hbc17
  replace hb0 := bel hb0 hbc17
  clear hbc17
  have r6 := ho6.rd
  clear ho6
  have e6 : s6 = nn := NFof.eq h6 HN.out (fun n => Iff.rfl)
  subst e6
  clear h6 h6v
  have es6 := sameB_self s6
  have C6 := Lib.hid (fun W h1 h2 => same_any s6 s6 vn v6 W h1 h2)
  go_wp2_with fail
  refine (C6.out _ rn r6).mono ?_
  rintro e wc18 ⟨rfl, hbc18⟩
  replace ra := ra.below hbc18
  replace rb := rb.below hbc18
  replace rn := rn.below hbc18
  replace r6 := r6.below hbc18
  replace hb0 := bel hb0 hbc18
  clear hbc18
  clear rn r6
  go_wp2_with fail
  refine (Equal_ok a b v1 v2 _ ra rb HVA.out HVB.out (by omega) (by omega)).mono ?_
  rintro e wc19 ⟨e1, e2, he1, he2, rfl, hbc19⟩
  replace ra := ra.below hbc19
  replace rb := rb.below hbc19
  replace hb0 := bel hb0 hbc19
  clear hbc19
  have f1 : e1 = nr := NFof.eq he1 HR.out (fun n => Iff.rfl)
  have f2 : e2 = ns := NFof.eq he2 HS.out (fun n => Iff.rfl)
  subst f1 f2
  clear he1 he2
  generalize sameB e1 e2 = q at *
  cases q
  all_goals
    go_wp2
    go_ret
    exact ⟨rfl, hb0⟩

set_option maxHeartbeats 2000000 in
set_option maxRecDepth 100000 in
theorem agrees_bad (a b : List (Int × Int)) (v1 v2 : Value) (w : World) (ra : RdR w v1 a) (rb : RdR w v2 b) (hv : (valB a && valB b) = false) (hla : a.length ≤ 1000) :
    Calls Try.prog 22 #[v1, v2] w fun e w' => e = .returned (.bool true) ∧ Below w.heap.size w w' := by
  have hb0 := Below.refl w.heap.size w
  have HVV := Lib.hid hv
  cases hva : valB a
  · clear hv
    have HVA := Lib.hid hva
    go_enter Try.func22, Try.ntmps22
    go_wp2_with fail
    refine (refValid_any a v1 _ ra).mono ?_
    rintro e wc20 ⟨rfl, hbc20⟩
    replace ra := ra.below hbc20
    replace rb := rb.below hbc20
    replace hb0 := bel hb0 hbc20
    clear hbc20
    go_wp2_with fail
    refine (Union_bad a b v1 v2 _ ra rb HVV.out).mono ?_
    rintro e wc21 ⟨rfl, hbc21⟩
    replace ra := ra.below hbc21
    replace rb := rb.below hbc21
    replace hb0 := bel hb0 hbc21
    clear hbc21
    go_wp2_with fail
    refine (Minus_bad a b v1 v2 _ ra rb HVV.out).mono ?_
    rintro e wc22 ⟨rfl, hbc22⟩
    replace ra := ra.below hbc22
    replace rb := rb.below hbc22
    replace hb0 := bel hb0 hbc22
    clear hbc22
    go_wp2_with fail
    refine (Meet_bad a b v1 v2 _ ra rb HVV.out).mono ?_
    rintro e wc23 ⟨rfl, hbc23⟩
    replace ra := ra.below hbc23
    replace rb := rb.below hbc23
    replace hb0 := bel hb0 hbc23
    clear hbc23
    go_wp2_with fail
    refine (Normal_bad a v1 _ ra HVA.out).mono ?_
    rintro e wc24 ⟨rfl, hbc24⟩
    replace ra := ra.below hbc24
    replace rb := rb.below hbc24
    replace hb0 := bel hb0 hbc24
    clear hbc24
    go_wp2_with fail
    refine (refValid_any a v1 _ ra).mono ?_
    rintro e wc25 ⟨rfl, hbc25⟩
    replace ra := ra.below hbc25
    replace rb := rb.below hbc25
    replace hb0 := bel hb0 hbc25
    clear hbc25
    go_wp2_with fail
    refine (Equal_bad a b v1 v2 _ ra rb HVV.out).mono ?_
    rintro e wc26 ⟨rfl, hbc26⟩
    replace ra := ra.below hbc26
    replace rb := rb.below hbc26
    replace hb0 := bel hb0 hbc26
    clear hbc26
    go_wp2
    go_ret
    exact ⟨rfl, hb0⟩
  · have hvb : valB b = false := by rw [hva] at hv; simpa using hv
    clear hv
    have HVA := Lib.hid hva
    go_enter Try.func22, Try.ntmps22
    go_wp2_with fail
    refine (refValid_any a v1 _ ra).mono ?_
    rintro e wc27 ⟨rfl, hbc27⟩
    replace ra := ra.below hbc27
    replace rb := rb.below hbc27
    replace hb0 := bel hb0 hbc27
    clear hbc27
    go_wp2_with fail
    refine (refValid_any b v2 _ rb).mono ?_
    rintro e wc28 ⟨rfl, hbc28⟩
    replace ra := ra.below hbc28
    replace rb := rb.below hbc28
    replace hb0 := bel hb0 hbc28
    clear hbc28
    go_wp2_with fail
    refine (Union_bad a b v1 v2 _ ra rb HVV.out).mono ?_
    rintro e wc29 ⟨rfl, hbc29⟩
    replace ra := ra.below hbc29
    replace rb := rb.below hbc29
    replace hb0 := bel hb0 hbc29
    clear hbc29
    go_wp2_with fail
    refine (Minus_bad a b v1 v2 _ ra rb HVV.out).mono ?_
    rintro e wc30 ⟨rfl, hbc30⟩
    replace ra := ra.below hbc30
    replace rb := rb.below hbc30
    replace hb0 := bel hb0 hbc30
    clear hbc30
    go_wp2_with fail
    refine (Meet_bad a b v1 v2 _ ra rb HVV.out).mono ?_
    rintro e wc31 ⟨rfl, hbc31⟩
    replace ra := ra.below hbc31
    replace rb := rb.below hbc31
    replace hb0 := bel hb0 hbc31
    clear hbc31
    go_wp2_with fail
    refine (Normal_ok a v1 _ ra HVA.out (by omega)).mono ?_
    rintro e wc32 ⟨vn, nn, rfl, hon, hn, hnl, hbc32⟩
    replace ra := ra.below hbc32
    replace rb := rb.below hbc32
    replace hb0 := bel hb0 hbc32
    clear hbc32
    have HN := Lib.hid hn
    clear hn
    go_wp2_with fail
    refine (refValid_any a v1 _ ra).mono ?_
    rintro e wc33 ⟨rfl, hbc33⟩
    replace ra := ra.below hbc33
    replace rb := rb.below hbc33
    replace hb0 := bel hb0 hbc33
    clear hbc33
    go_wp2_with fail
    refine (Equal_bad a b v1 v2 _ ra rb HVV.out).mono ?_
    rintro e wc34 ⟨rfl, hbc34⟩
    replace ra := ra.below hbc34
    replace rb := rb.below hbc34
    replace hb0 := bel hb0 hbc34
    clear hbc34
    go_wp2
    go_ret
    exact ⟨rfl, hb0⟩

theorem agrees_any (a b : List (Int × Int)) (v1 v2 : Value) (w : World) (ra : RdR w v1 a) (rb : RdR w v2 b) (hla : a.length ≤ 1000) (hlb : b.length ≤ 1000) :
    Calls Try.prog 22 #[v1, v2] w fun e w' => e = .returned (.bool true) ∧ Below w.heap.size w w' := by
  cases hv : (valB a && valB b)
  · exact agrees_bad a b v1 v2 w ra rb hv hla
  · simp at hv
    exact agrees_ok a b v1 v2 w ra rb hv.1 hv.2 hla hlb

set_option maxHeartbeats 1000000 in
theorem setsLaw_any (a b : List (Int × Int)) (v1 v2 : Value) (w : World) (ra : RdR w v1 a) (rb : RdR w v2 b) :
    Calls Try.prog 5 #[v1, v2] w fun e w' => e = .returned (.bool true) ∧ Below w.heap.size w w' := by
  have hb0 := Below.refl w.heap.size w
  have ra0 := ra
  have rb0 := rb
  obtain ⟨pa, ca, rfl, _, _, _⟩ := ra0
  obtain ⟨pb, cb, rfl, _, _, _⟩ := rb0
  by_cases h1 : 20 < a.length
  · go_enter Try.func5, Try.ntmps5
    go_wp2_with fail
    refine (awake_any _).mono ?_
    rintro e wc35 ⟨rfl, hbc35⟩
    replace ra := ra.below hbc35
    replace hb0 := bel hb0 hbc35
    clear hbc35
    go_wp2
    go_ret
    exact ⟨rfl, hb0⟩
  · by_cases h2 : 20 < b.length
    · go_enter Try.func5, Try.ntmps5
      go_wp2_with fail
      refine (awake_any _).mono ?_
      rintro e wc36 ⟨rfl, hbc36⟩
      replace ra := ra.below hbc36
      replace hb0 := bel hb0 hbc36
      clear hbc36
      go_wp2
      go_ret
      exact ⟨rfl, hb0⟩
    · go_enter Try.func5, Try.ntmps5
      go_wp2_with fail
      refine (agrees_any a b _ _ _ ra rb (by omega) (by omega)).mono ?_
      rintro e wc37 ⟨rfl, hbc37⟩
      replace ra := ra.below hbc37
      replace rb := rb.below hbc37
      replace hb0 := bel hb0 hbc37
      clear hbc37
      go_wp2_with fail
      refine (tame_any a _ _ ra).mono ?_
      rintro e wc38 ⟨va, rfl, hoa, hbc38⟩
      replace ra := ra.below hbc38
      replace rb := rb.below hbc38
      replace hb0 := bel hb0 hbc38
      clear hbc38
      have rta := hoa.rd
      clear hoa
      go_wp2_with fail
      refine (tame_any b _ _ rb).mono ?_
      rintro e wc39 ⟨vb, rfl, hob, hbc39⟩
      replace ra := ra.below hbc39
      replace rb := rb.below hbc39
      replace rta := rta.below hbc39
      replace hb0 := bel hb0 hbc39
      clear hbc39
      have rtb := hob.rd
      clear hob
      have hta := tame_len a
      have htb := tame_len b
      go_wp2_with fail
      refine (agrees_any (tameR a) (tameR b) _ _ _ rta rtb (by omega) (by omega)).mono ?_
      rintro e wc40 ⟨rfl, hbc40⟩
      replace ra := ra.below hbc40
      replace rb := rb.below hbc40
      replace rta := rta.below hbc40
      replace rtb := rtb.below hbc40
      replace hb0 := bel hb0 hbc40
      clear hbc40
      go_wp2_with fail
      refine (tame_any a _ _ ra).mono ?_
      rintro e wc41 ⟨vc, rfl, hoc, hbc41⟩
      replace ra := ra.below hbc41
      replace rb := rb.below hbc41
      replace rta := rta.below hbc41
      replace rtb := rtb.below hbc41
      replace hb0 := bel hb0 hbc41
      clear hbc41
      have rtc := hoc.rd
      clear hoc
      go_wp2_with fail
      refine (agrees_any (tameR a) b _ _ _ rtc rb (by omega) (by omega)).mono ?_
      rintro e wc42 ⟨rfl, hbc42⟩
      replace ra := ra.below hbc42
      replace rb := rb.below hbc42
      replace rta := rta.below hbc42
      replace rtb := rtb.below hbc42
      replace rtc := rtc.below hbc42
      replace hb0 := bel hb0 hbc42
      clear hbc42
      go_wp2_with fail
      refine (awake_any _).mono ?_
      rintro e wc43 ⟨rfl, hbc43⟩
      replace ra := ra.below hbc43
      replace rb := rb.below hbc43
      replace rta := rta.below hbc43
      replace rtb := rtb.below hbc43
      replace rtc := rtc.below hbc43
      replace hb0 := bel hb0 hbc43
      clear hbc43
      go_wp2
      go_ret
      exact ⟨rfl, hb0⟩

end Go.Proofs.Yteengifhndmjeaa
