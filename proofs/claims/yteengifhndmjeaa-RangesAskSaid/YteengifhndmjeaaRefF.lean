/- Contracts of the reference: Take. -/
import Derived.Test.YteengifhndmjeaaRefE
namespace Go.Proofs.Yteengifhndmjeaa
open Go.RowKit

set_option maxHeartbeats 1000000 in
theorem refTake_any (l : List (Int × Int)) (n : Int) (v : Value) (w : World) (hr : RdR w v l) (hlen : l.length ≤ 400000) (hn2 : n ≤ 9223372036854775807) :
    Calls Try.prog 30 #[v, .int .i64 n] w (RetT w (askT l n)) := by
  cases hv : valB l
  · have ha : askT l n = ([], 1) := by rw [askT, if_neg (by simp [hv])]
    rw [ha]
    clear ha
    go_enter Try.func30, Try.ntmps30
    go_wp2_with fail
    refine (refValid_any l v w hr).mono ?_
    rintro e w1 ⟨rfl, hb1⟩
    go_wp2
    go_ret2
    exact ⟨_, rfl, OwnR.nil _ _, hb1⟩
  · have HV := Lib.hid hv
    by_cases hn : 0 ≤ n
    · have ha : askT l n = (if 0 < rmR (nfL l) n then ([], 12) else (tkR (nfL l) n, 0)) := by rw [askT, if_pos ⟨hv, hn⟩]
      have HA := Lib.hid ha
      clear ha
      go_enter Try.func30, Try.ntmps30
      go_wp2_with fail
      refine (refValid_any l v w hr).mono ?_
      rintro e w1 ⟨rfl, hb1⟩
      go_wp2_with fail
      refine (refNormal_any l v w1 (hr.below hb1) HV.out hlen).mono ?_
      rintro e w2 ⟨v1, x, rfl, ho, hx, hxv, hxl, hb2⟩
      have HE := Lib.hid (nfL_eq hx HV.out)
      have HN := Lib.hid hx
      obtain ⟨p, cap, rfl, hlc, hcap, hp⟩ := ho.rd
      have hb02 := bel hb1 hb2
      have hxl2 : x.length ≤ 800000 := by omega
      clear ho hx hr hxv hb1 hb2 hv
      go_wp2
      go_loopw [1, 6, 8] (fun nn vo i wr => ∃ (k : Nat) (m : Int) (o : List (Int × Int)), k ≤ x.length ∧ i = .int .i64 k ∧ nn = .int .i64 m ∧ 0 ≤ m ∧ m ≤ n ∧ o.length ≤ k ∧ OwnR wr w2.heap.size vo o ∧ o ++ tkR (x.drop k) m = tkR x n ∧ rmR (x.drop k) m = rmR x n ∧ Below w2.heap.size w2 wr) (fun _ _ i _ => x.length - (intOf i).toNat)
      case atStart => exact ⟨0, n, [], Nat.zero_le _, rfl, rfl, hn, by omega, by simp, OwnR.nil _ _, rfl, rfl, Below.refl _ _⟩
      case round =>
        obtain ⟨k, m, o, hk, rfl, rfl, hm0, hmn, hol, hown, htk, hrm, hb⟩ := hrel
        have HTK := Lib.hid htk
        have HRM := Lib.hid hrm
        clear htk hrm
        by_cases hlt : k < x.length
        · by_cases hm : 0 < m
          · obtain ⟨b, off, rfl, hbs, hc⟩ := hp (by omega)
            obtain ⟨y, hy⟩ := getSome x k hlt
            have hcc := (hc.below hb hbs) k y hy
            have hc1 := hcc.1
            have hc2 := hcc.2
            have hyb := NFof_bd HN.out HV.out y (List.mem_of_getElem? hy)
            have HY := Lib.hid hy
            obtain ⟨hy1, hy2, hy3⟩ := hyb
            clear hc hp hcc hy
            go_wp2_with (at_builtin; refine wpl_appendR rfl _ _ rfl w2.heap.size _ o (y.1, min m y.2) rfl ?c1 wr.heap.size 1 rfl ?c2 ?c3 (by omega) ?c4 ?_)
            case c1 => refine hown.below ?_; (repeat' (first | exact Below.refl _ _ | exact Nat.le_refl _ | (refine Below.alloc ?_ ?_ _) | (refine bdrewN ?_ _) | (refine Below.drew ?_) | (simp; done) | (simp; omega)))
            try (case c2 => exact cell_new (by simp) rfl)
            try (case c3 => exact cell_new (by simp) rfl)
            case c4 => have := hb.size; simp; omega
            intro v4 w4 ho4 hb4 _
            have hb5 : Below w2.heap.size w2 w4 := (hb.trans (by refine Below.mono (B := wr.heap.size) ?_ hb.size; (repeat' (first | exact Below.refl _ _ | exact Nat.le_refl _ | (refine Below.alloc ?_ ?_ _) | (refine bdrewN ?_ _) | (refine Below.drew ?_) | (simp; done) | (simp; omega))))).trans hb4
            clear hb4 hown hb
            go_wp2
            go_roundw
            case rel =>
              have h1 := HTK.out
              have h2 := HRM.out
              rw [drop_cons x k y HY.out, tkR, if_neg (by omega), show min y.2 m = min m y.2 from by omega] at h1
              rw [drop_cons x k y HY.out, rmR, if_neg (by omega), show min y.2 m = min m y.2 from by omega] at h2
              exact ⟨k + 1, m - min m y.2, o ++ [(y.1, min m y.2)], by omega, by go_num, rfl, by omega, by omega, by simp; omega, ho4, by rw [← h1]; simp, h2, hb5⟩
            case measure => simp [intOf]; omega
          · have hm' : m = 0 := by omega
            subst hm'
            have h1 := HTK.out
            have h2 := HRM.out
            rw [tkR_zero, List.append_nil] at h1
            rw [rmR_zero] at h2
            have H1 := Lib.hid h1
            have H2 := Lib.hid h2
            clear h1 h2
            go_wp2
            go_ret2
            rw [HA.out, ← HE.out, if_neg (by rw [← H2.out]; omega)]
            refine ⟨_, rfl, ?_, bel hb02 hb⟩
            show OwnR _ _ _ (tkR x n)
            rw [← H1.out]
            exact hown.mono hb02.size
        · have h1 := HTK.out
          have h2 := HRM.out
          rw [List.drop_of_length_le (by omega), tkR, List.append_nil] at h1
          rw [List.drop_of_length_le (by omega), rmR] at h2
          have H1 := Lib.hid h1
          have H2 := Lib.hid h2
          clear h1 h2
          by_cases hm : 0 < m
          · go_wp2
            go_ret2
            rw [HA.out, ← HE.out, if_pos (by rw [← H2.out]; exact hm)]
            exact ⟨_, rfl, OwnR.nil _ _, bel hb02 hb⟩
          · go_wp2
            go_ret2
            rw [HA.out, ← HE.out, if_neg (by rw [← H2.out]; omega)]
            refine ⟨_, rfl, ?_, bel hb02 hb⟩
            show OwnR _ _ _ (tkR x n)
            rw [← H1.out]
            exact hown.mono hb02.size
    · have ha : askT l n = ([], 1) := by rw [askT, if_neg (fun h => hn h.2)]
      rw [ha]
      clear ha
      have hn' : n < 0 := by omega
      go_enter Try.func30, Try.ntmps30
      go_wp2_with fail
      refine (refValid_any l v w hr).mono ?_
      rintro e w1 ⟨rfl, hb1⟩
      go_wp2
      go_ret2
      exact ⟨_, rfl, OwnR.nil _ _, hb1⟩

end Go.Proofs.Yteengifhndmjeaa
