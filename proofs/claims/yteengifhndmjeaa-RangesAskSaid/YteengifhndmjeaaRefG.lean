/- The law RangesAsk. -/
import Derived.Test.YteengifhndmjeaaRefF
namespace Go.Proofs.Yteengifhndmjeaa
open Go.RowKit

theorem Has_is {l : List (Int × Int)} {n : Int} {v : Value} (w : World) (b : Bool) (hr : RdR w v l) (h : memB l n = b) :
    Calls Try.prog 17 #[v, .int .i64 n] w fun e w' => e = .returned (.bool b) ∧ Below w.heap.size w w' := h ▸ Has_any l n v w hr
theorem refHas_is {l : List (Int × Int)} {n : Int} {v : Value} (w : World) (b : Bool) (hn : n ≤ 9223372036854775807) (hr : RdR w v l) (h : memB l n = b) :
    Calls Try.prog 26 #[v, .int .i64 n] w fun e w' => e = .returned (.bool b) ∧ Below w.heap.size w w' := h ▸ refHas_any l n v w hn hr
theorem refValid_is {l : List (Int × Int)} {v : Value} (w : World) (b : Bool) (hr : RdR w v l) (h : valB l = b) :
    Calls Try.prog 27 #[v] w fun e w' => e = .returned (.bool b) ∧ Below w.heap.size w w' := h ▸ refValid_any l v w hr

/-- What Count answers. -/
def askC (l : List (Int × Int)) : Int × Int := if valB l = true then (sumR (nfL l), 0) else (0, 1)
theorem Count_ask (l : List (Int × Int)) (v : Value) (w : World) (hr : RdR w v l) (hlen : l.length ≤ 400000) : Calls Try.prog 21 #[v] w (RetF w (askC l)) := by
  cases hv : valB l
  · rw [askC, if_neg (by simp [hv])]
    exact (Count_bad l v w hr hv).mono fun e w' h => h
  · rw [askC, if_pos hv]
    refine (Count_ok l v w hr hv (by omega)).mono ?_
    rintro e w' ⟨x, hx, rfl, hb⟩
    rw [nfL_eq hx hv]
    exact ⟨rfl, hb⟩

set_option maxHeartbeats 8000000 in
set_option maxRecDepth 100000 in
theorem askLaw_any (a : List (Int × Int)) (n : Int) (v1 : Value) (w : World) (hn1 : -9223372036854775808 ≤ n) (hn2 : n ≤ 9223372036854775807) (ra : RdR w v1 a) :
    Calls Try.prog 9 #[v1, .int .i64 n] w fun e w' => e = .returned (.bool true) ∧ Below w.heap.size w w' := by
  have hb0 := Below.refl w.heap.size w
  have ra0 := ra
  obtain ⟨pa, ca, rfl, _, _, _⟩ := ra0
  have h31 := and_31
  by_cases h1 : 20 < a.length
  · go_enter Try.func9, Try.ntmps9
    go_wp2_with fail
    refine (awake_any _).mono ?_
    rintro e wc1 ⟨rfl, hbc1⟩
    replace ra := ra.below hbc1
    replace hb0 := bel hb0 hbc1
    clear hbc1
    go_wp2
    go_ret
    exact ⟨rfl, hb0⟩
  · go_enter Try.func9, Try.ntmps9
    go_wp2_with fail
    refine (tame_any a _ _ ra).mono ?_
    rintro e wc2 ⟨va, rfl, hoa, hbc2⟩
    replace ra := ra.below hbc2
    replace hb0 := bel hb0 hbc2
    clear hbc2
    have rta := hoa.rd
    clear hoa
    go_wp2_with fail
    refine (tame_any a _ _ ra).mono ?_
    rintro e wc3 ⟨vb, rfl, hob, hbc3⟩
    replace ra := ra.below hbc3
    replace rta := rta.below hbc3
    replace hb0 := bel hb0 hbc3
    clear hbc3
    have rtb := hob.rd
    clear hob
    have hta := tame_len a
    generalize tameR a = A at *
    have rta0 := rta
    have rtb0 := rtb
    obtain ⟨pt, ct, rfl, _, _, _⟩ := rta0
    obtain ⟨pu, cu, rfl, _, _, _⟩ := rtb0
    go_wp2
    obtain ⟨W0, hW0⟩ : ∃ W0, W0 = (wc3.alloc (.cells #[.slice pa a.length ca, .slice pt A.length ct, .slice pu A.length cu] 22)).alloc (.cells #[.int .i64 n, .int .i64 n, .int .i64 (n % 32)] 3) := ⟨_, rfl⟩
    have hbW : Below wc3.heap.size wc3 W0 := by rw [hW0]; (repeat' (first | exact Below.refl _ _ | exact Nat.le_refl _ | (refine Below.alloc ?_ ?_ _) | (refine bdrewN ?_ _) | (refine Below.drew ?_) | (simp; done) | (simp; omega)))
    have hL : ∀ i : Nat, i < 3 → ∃ p cap l m, W0.cell? ⟨wc3.heap.size, i, none⟩ = some (.slice p (List.length l) cap) ∧ RdR W0 (.slice p l.length cap) l ∧ l.length ≤ 20 ∧ W0.cell? ⟨wc3.heap.size + 1, i, none⟩ = some (.int .i64 m) ∧ m ≤ 9223372036854775807 := by
      intro i hi
      have key : ∀ (u : Value) (m : Int), (#[Value.slice pa a.length ca, .slice pt A.length ct, .slice pu A.length cu] : Array Value)[i]? = some u → (#[Value.int .i64 n, .int .i64 n, .int .i64 (n % 32)] : Array Value)[i]? = some (.int .i64 m) → W0.cell? ⟨wc3.heap.size, i, none⟩ = some u ∧ W0.cell? ⟨wc3.heap.size + 1, i, none⟩ = some (.int .i64 m) := fun u m h1 h2 => by
        refine ⟨?_, ?_⟩
        · rw [hW0, Below.cell (p := ⟨wc3.heap.size, i, none⟩) ((Below.refl _ _).alloc (Nat.le_refl _) _) (by simp)]
          exact cell_new rfl h1
        · rw [hW0]
          exact cell_new (by simp) h2
      match i, hi with
      | 0, _ => have h := key _ n rfl rfl; exact ⟨pa, ca, a, n, h.1, ra.below hbW, by omega, h.2, hn2⟩
      | 1, _ => have h := key _ n rfl rfl; exact ⟨pt, ct, A, n, h.1, rta.below hbW, by omega, h.2, hn2⟩
      | 2, _ => have h := key _ (n % 32) rfl rfl; exact ⟨pu, cu, A, n % 32, h.1, rtb.below hbW, by omega, h.2, by omega⟩
    have hg0 : wc3.heap.size + 1 < W0.heap.size := by rw [hW0]; simp
    have HL := Lib.hid hL
    have hb1 := bel hb0 hbW
    rw [← hW0]
    have HW := Lib.hid hW0
    clear hL hW0 hbW ra rta rtb hb0
    go_loopw [7] (fun vi wr => ∃ i : Nat, i ≤ 3 ∧ vi = .int .i64 i ∧ Below W0.heap.size W0 wr) (fun vi _ => 3 - (intOf vi).toNat)
    case atStart => exact ⟨0, by omega, rfl, Below.refl _ _⟩
    case round =>
      obtain ⟨i, hi, rfl, hb⟩ := hrel
      by_cases hlt : i < 3
      · obtain ⟨p, cap, l, m, hcl, hrl, hll, hcm, hm2⟩ := HL.out i hlt
        have hbw1 : wc3.heap.size < wr.heap.size := by have := hb.size; omega
        have hbw2 : wc3.heap.size + 1 < wr.heap.size := by have := hb.size; omega
        have hcl1 := (hb.cell (p := ⟨wc3.heap.size, i, none⟩) (by simp; omega)).trans hcl
        have hcm1 := (hb.cell (p := ⟨wc3.heap.size + 1, i, none⟩) hg0).trans hcm
        have hrl1 := hrl.below hb
        clear hcl hcm hrl
        go_wp2_with fail
        refine (Count_ask l _ _ hrl1 (by omega)).mono ?_
        rintro e w5 ⟨rfl, hb5⟩
        have hc5a := (hb5.cell (p := ⟨wc3.heap.size, i, none⟩) hbw1).trans hcl1
        have hc5b := (hb5.cell (p := ⟨wc3.heap.size + 1, i, none⟩) hbw2).trans hcm1
        have hbx1 : wc3.heap.size < w5.heap.size := Nat.lt_of_lt_of_le hbw1 hb5.size
        have hbx2 : wc3.heap.size + 1 < w5.heap.size := Nat.lt_of_lt_of_le hbw2 hb5.size
        have hr5 := hrl1.below hb5
        have hbo5 := bel hb hb5
        have e5a := cell_ext hbx1 hc5a
        have e5b := cell_ext hbx2 hc5b
        have R5 := Lib.hid (fun (q : ExtBy) => hr5.below (below_ext w5 q))
        clear hcl1 hcm1 hrl1 hb5 hb
        generalize hmm : memB l m = mb at *
        have HM := Lib.hid hmm
        clear hmm
        go_upto_region 9 with fail
        go_cut [8, 9, 96] (fun _ _ v wc => v = .bool false ∧ Below w5.heap.size w5 wc)
        case first =>
          cases hv : valB l
          · have hac : askC l = (0, 1) := by rw [askC, if_neg (by simp [hv])]
            have HV := Lib.hid hv
            rw [hac]
            clear hac hv
            cases mb
            all_goals
              go_wp2
              (refine wp_region_quiet_ext (by kernel_rfl) (by kernel_rfl) ?_; (repeat (go_big_quiet_step ((first | (go_at_call 17; exact ext_of (Has_is _ _ (R5.out _) HM.out)) | (go_at_call 26; exact ext_of (refHas_is _ _ (by omega) (R5.out _) HM.out)) | (go_at_call 27; exact ext_of (refValid_is _ _ (R5.out _) HV.out)) | (go_at_call 28; exact ext_of (refSum_any l _ _ (R5.out _) HV.out (by omega))))))); (with_reducible refine wpQuiet_nil ?_); intro wq hwq; have hbq := ext_below hwq; clear hwq)
              go_wp2
              go_meet
              exact ⟨rfl, hbq⟩
          · have hac : askC l = (sumR (nfL l), 0) := by rw [askC, if_pos hv]
            have HV := Lib.hid hv
            rw [hac]
            clear hac hv
            have hsn : (sumR (nfL l) != sumR (nfL l)) = false := by simp
            cases mb
            all_goals
              go_wp2
              (refine wp_region_quiet_ext (by kernel_rfl) (by kernel_rfl) ?_; (repeat (go_big_quiet_step ((first | (go_at_call 17; exact ext_of (Has_is _ _ (R5.out _) HM.out)) | (go_at_call 26; exact ext_of (refHas_is _ _ (by omega) (R5.out _) HM.out)) | (go_at_call 27; exact ext_of (refValid_is _ _ (R5.out _) HV.out)) | (go_at_call 28; exact ext_of (refSum_any l _ _ (R5.out _) HV.out (by omega))))))); (with_reducible refine wpQuiet_nil ?_); intro wq hwq; have hbq := ext_below hwq; clear hwq)
              go_wp2
              go_meet
              exact ⟨rfl, hbq⟩
        case rest =>
          obtain ⟨rfl, hb6⟩ := hcut
          have hc6a := (hb6.cell (p := ⟨wc3.heap.size, i, none⟩) hbx1).trans hc5a
          have hc6b := (hb6.cell (p := ⟨wc3.heap.size + 1, i, none⟩) hbx2).trans hc5b
          have hby1 : wc3.heap.size < wc.heap.size := Nat.lt_of_lt_of_le hbx1 hb6.size
          have hby2 : wc3.heap.size + 1 < wc.heap.size := Nat.lt_of_lt_of_le hbx2 hb6.size
          have hr6 := hr5.below hb6
          have hbo6 := bel hbo5 hb6
          have e6a := cell_ext hby1 hc6a
          have e6b := cell_ext hby2 hc6b
          have R6 := Lib.hid (fun (q : ExtBy) => hr6.below (below_ext wc q))
          clear e5a e5b R5 hr5 hc5a hc5b hb6 hbo5 HM
          go_wp2
          (refine wp_region_quiet_ext (by kernel_rfl) (by kernel_rfl) ?_; (repeat (go_big_quiet_step ((go_at_call 24; exact ext_of (First_ask l m _ _ (R6.out _) (by omega)))))); (with_reducible refine wpQuiet_nil ?_); intro wqa hwq; have hbqa := ext_below hwq; clear hwq)
          have hc7a := (hbqa.cell (p := ⟨wc3.heap.size, i, none⟩) hby1).trans hc6a
          have hc7b := (hbqa.cell (p := ⟨wc3.heap.size + 1, i, none⟩) hby2).trans hc6b
          have hb71 : wc3.heap.size < wqa.heap.size := Nat.lt_of_lt_of_le hby1 hbqa.size
          have hb72 : wc3.heap.size + 1 < wqa.heap.size := Nat.lt_of_lt_of_le hby2 hbqa.size
          have hr7 := hr6.below hbqa
          have hbo7 := bel hbo6 hbqa
          have e7a := cell_ext hb71 hc7a
          have e7b := cell_ext hb72 hc7b
          have R7 := Lib.hid (fun (q : ExtBy) => hr7.below (below_ext wqa q))
          clear e6a e6b R6 hr6 hc6a hc6b hbo6 hbqa
          go_wp2
          (refine wp_region_quiet_ext (by kernel_rfl) (by kernel_rfl) ?_; (repeat (go_big_quiet_step ((go_at_call 29; exact ext_of (refFirst_any l m _ _ (R7.out _) (by omega)))))); (with_reducible refine wpQuiet_nil ?_); intro wqb hwq; have hbqb := ext_below hwq; clear hwq)
          have hc8a := (hbqb.cell (p := ⟨wc3.heap.size, i, none⟩) hb71).trans hc7a
          have hc8b := (hbqb.cell (p := ⟨wc3.heap.size + 1, i, none⟩) hb72).trans hc7b
          have hb81 : wc3.heap.size < wqb.heap.size := Nat.lt_of_lt_of_le hb71 hbqb.size
          have hb82 : wc3.heap.size + 1 < wqb.heap.size := Nat.lt_of_lt_of_le hb72 hbqb.size
          have hr8 := hr7.below hbqb
          have hbo8 := bel hbo7 hbqb
          clear e7a e7b R7 hr7 hc7a hc7b hbo7 hbqb
          have HR8 := Lib.hid (fun (W : World) (hW : Below wqb.heap.size wqb W) => hr8.below hW)
          go_wp2
          go_region_held3 (fun w' => w'.cell? ⟨wc3.heap.size, i, none⟩ = some (.slice p l.length cap) ∧ w'.cell? ⟨wc3.heap.size + 1, i, none⟩ = some (.int .i64 m)) (go_keep)
            (first
              | (go_at_call 25; refine (Take_ask l m _ _ (HR8.out _ ((Below.refl _ _).drew)) (by omega) hm2).mono ?_; rintro e w9 ⟨v9, rfl, ho9, hb9⟩; have hd9a : w9.cell? ⟨wc3.heap.size, i, none⟩ = some (.slice p l.length cap) := (hb9.cell (p := ⟨wc3.heap.size, i, none⟩) (by simpa using hb81)).trans (by simpa using hc8a); have hd9b : w9.cell? ⟨wc3.heap.size + 1, i, none⟩ = some (.int .i64 m) := (hb9.cell (p := ⟨wc3.heap.size + 1, i, none⟩) (by simpa using hb82)).trans (by simpa using hc8b)))
          have hb91 : wc3.heap.size < w9.heap.size := Nat.lt_of_lt_of_le hb81 hb9.size
          have hb92 : wc3.heap.size + 1 < w9.heap.size := Nat.lt_of_lt_of_le hb82 hb9.size
          have hbo9 : Below W0.heap.size W0 w9 := bel hbo8.drew hb9
          have HR9 := Lib.hid (fun (W : World) (hW : Below w9.heap.size w9 W) => (HR8.out w9 (bel ((Below.refl _ _).drew) hb9)).below hW)
          have HT9 := Lib.hid (fun (W : World) (hW : Below w9.heap.size w9 W) => ho9.rd.below hW)
          clear ho9 hb9 hbo8 HR8 hr8 hc8a hc8b
          go_wp2
          go_region_held3 (fun w' => w'.cell? ⟨wc3.heap.size, i, none⟩ = some (.slice p l.length cap) ∧ w'.cell? ⟨wc3.heap.size + 1, i, none⟩ = some (.int .i64 m)) (go_keep)
            (first
              | (go_at_call 30; refine (refTake_any l m _ _ (HR9.out _ ((Below.refl _ _).drew)) (by omega) hm2).mono ?_; rintro e w10 ⟨v10, rfl, ho10, hb10⟩; have hdxa : w10.cell? ⟨wc3.heap.size, i, none⟩ = some (.slice p l.length cap) := (hb10.cell (p := ⟨wc3.heap.size, i, none⟩) (by simpa using hb91)).trans (by simpa using hd9a); have hdxb : w10.cell? ⟨wc3.heap.size + 1, i, none⟩ = some (.int .i64 m) := (hb10.cell (p := ⟨wc3.heap.size + 1, i, none⟩) (by simpa using hb92)).trans (by simpa using hd9b)))
          have hbo10 : Below W0.heap.size W0 w10 := bel hbo9.drew hb10
          have r9 := HT9.out w10 (bel ((Below.refl _ _).drew) hb10)
          have r10 := ho10.rd
          clear hdxa hdxb hd9a hd9b ho10 hb10 hbo9 HR9 HT9
          have hsf := sameB_self (askT l m).1
          have CS := Lib.hid (fun W h1 h2 => same_any (askT l m).1 (askT l m).1 v9 v10 W h1 h2)
          rw [hsf] at CS
          clear hsf
          have q1 : ((askF l m).2 != (askF l m).2) = false := by simp
          have q2 : ((askF l m).1 != (askF l m).1) = false := by simp
          have q3 : ((askT l m).2 != (askT l m).2) = false := by simp
          go_wp2_with fail
          refine (CS.out _ r9 r10).mono ?_
          rintro e w11 ⟨rfl, hb11⟩
          have hbo11 := bel hbo10 hb11
          go_wp2
          go_roundw
          case rel => exact ⟨i + 1, by omega, by go_num, hbo11⟩
          case measure => simp [intOf]; omega
      · go_wp2_with fail
        refine (awake_any _).mono ?_
        rintro e w5 ⟨rfl, hb5⟩
        go_wp2
        go_ret
        exact ⟨rfl, bel (bel hb1 hb) hb5⟩

end Go.Proofs.Yteengifhndmjeaa
