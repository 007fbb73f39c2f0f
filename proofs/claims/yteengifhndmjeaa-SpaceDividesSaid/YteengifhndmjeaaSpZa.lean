/- SpaceDivides: the walk. -/
import Derived.Test.YteengifhndmjeaaSpZ
namespace Go.Proofs.Yteengifhndmjeaa
open Go.RowKit

theorem TotR.bd {disks : List DiskM} {vols : List VolM} (hde : ∀ D ∈ disks, 0 ≤ D.extents ∧ D.extents ≤ 60) {k : Nat} {u f : Int} (h : TotR disks vols k u f) : (0 ≤ u ∧ u ≤ 60 * k) ∧ (0 ≤ f ∧ f ≤ 60 * k) := by
  induction h with
  | nil => omega
  | @snoc k u f D x y h hD hx hy ih =>
    have hd := hde D (List.mem_of_getElem? hD)
    have h1 := hx.sum_bd hd.1 fun n q => mem_usedR q
    have h2 := hy.sum_bd hd.1 fun n q => q.1
    omega

set_option maxRecDepth 100000 in
set_option maxHeartbeats 16000000 in
theorem spaceDivides_any (l : List Int) (v : Value) (w : World) (hr : RdI w v l) (hl : ∀ x ∈ l, -9223372036854775808 ≤ x ∧ x ≤ 9223372036854775807) :
    Calls Try.prog 11 #[v] w fun e w' => e = .returned (.bool true) ∧ Below w.heap.size w w' := by
  have HR := Lib.hid hr; clear hr
  go_enter Try.func11, Try.ntmps11
  go_wp2_with fail
  refine (New_any l v w HR.out hl).mono ?_
  rintro e w1 ⟨rfl, hs1, _, hb1⟩
  go_wp2_with fail
  refine (Group_any w.heap.size w1 hs1).mono ?_
  intro e w2 hG
  obtain ⟨g, tp, dp, vp, hp, tc, dc, vc, hc, rfl, hg2, hb2⟩ := hG.open hb1 (Nat.le_refl _)
  clear hs1 hb1
  have HT := Lib.hid hg2.b.tame
  have bA := below_alloc w2 (.cells #[.string g.name, .int .u64 g.id, .int .i64 g.seq, .int .i64 g.extent, .int .i64 g.next, .slice tp g.tags.length tc, .slice dp g.disks.length dc, .slice vp g.vols.length vc, .slice hp g.history.length hc] 52)
  have HGB := Lib.hid (heap_alloc_new w2 (.cells #[.string g.name, .int .u64 g.id, .int .i64 g.seq, .int .i64 g.extent, .int .i64 g.next, .slice tp g.tags.length tc, .slice dp g.disks.length dc, .slice vp g.vols.length vc, .slice hp g.history.length hc] 52))
  have HG5 := Lib.hid (hg2.below bA)
  have HB5 := Lib.hid (hb2.trans (bA.mono hb2.size))
  have HTT := Lib.hid HT.out.two
  have hdl := HT.out.dl
  clear hg2 hb2 bA
  go_wp2
  generalize hW5 : World.alloc w2 _ = W5 at *
  generalize hBg : w2.heap.size = Bg at *
  clear hW5 hBg
  have hgl5 := lt_of_block HGB.out
  go_loopw [4, 5, 6, 7] (fun vu vf ve vi wr => ∃ (k : Nat) (u f : Int), k ≤ g.disks.length ∧ vi = .int .i64 (k : Int) ∧ vu = .int .i64 u ∧ vf = .int .i64 f ∧ ve = .int .i64 (u + f) ∧ TotR g.disks g.vols k u f ∧ Below W5.heap.size W5 wr) (fun _ _ _ vi _ => g.disks.length - (intOf vi).toNat)
  case atStart => exact ⟨0, 0, 0, Nat.zero_le _, rfl, rfl, rfl, rfl, .nil, Below.refl _ _⟩
  case round =>
    obtain ⟨k, u, f, hk, rfl, rfl, rfl, rfl, hT, hB1⟩ := hrel
    have hTB := hT.bd HT.out.dext
    have HTR := Lib.hid hT; clear hT
    by_cases hlt : k < g.disks.length
    · obtain ⟨D, hD⟩ := getSome g.disks k hlt
      obtain ⟨bd, offd, u0, rfl, _, hbw, _, hvv, hcv⟩ := HG5.out.d.elem hD
      obtain ⟨tv, rfl, htr⟩ := hvv
      have HN0 := Lib.hid (hcv 0 _ rfl)
      have HN3 := Lib.hid (hcv 3 _ rfl)
      have HD := Lib.hid hD; clear hD
      have hde := HT.out.dext D (List.mem_of_getElem? HD.out)
      have hde1 := hde.1
      have hde2 := hde.2
      clear htr hcv hde
      have HC6 := Lib.hid (show W5.cell? ⟨Bg, 6, none⟩ = some (.slice (some ⟨bd, offd, none⟩) g.disks.length dc) by simp [World.cell?, HGB.out])
      have z6 : wr.cell? ⟨Bg, 6, none⟩ = some (.slice (some ⟨bd, offd, none⟩) g.disks.length dc) := (hB1.cell (p := ⟨Bg, 6, none⟩) hgl5).trans HC6.out
      have hG1 := HG5.out.below hB1
      have hg1 := (hB1.block _ hgl5).trans HGB.out
      have n1 : wr.cell? ⟨bd, offd + k * 7, none⟩ = some (.string D.name) := (hB1.cell (p := ⟨bd, offd + k * 7, none⟩) hbw).trans HN0.out
      have hd1 : Below wr.heap.size wr wr.drew := (Below.refl _ _).drew
      have HC1 := Lib.hid ((used_call (name := g.name) (id := g.id) (seq := g.seq) (ext := g.extent) (nx := g.next) (tp := tp) (hp := hp) (tl := g.tags.length) (tc := tc) (hl := g.history.length) (hc := hc) (hG1.below hd1).d (hG1.below hd1).v rfl HTT.out HD.out).mono fun (e : Ending) (w' : World) ⟨y, z, he, hb, hR⟩ => (⟨y, z, he, hd1.trans hb, hR⟩ : ∃ y z, e = Ending.returned (.tuple #[y, z]) ∧ Below wr.heap.size wr w' ∧ UsR D (pieces g.vols) wr.heap.size y z w'))
      go_upto_region 6 with (fail)
      refine divides_reg6 _ _ _ _ _ _ _ _ _ _ _ _ _ _ _ _ _ _ _ _ _ _ _ _ _ _ _ _ _ _ _ _ _ _ _ _ _ _ _ _ _ _ _ _ _ _ _ _ _ _ _ _ _ _ _ _ _ _ _ _ _ _ _ _ _ _ _ _ _ _ _ _ _ _ _ _ _ _ _ _ _ _ _ _ _ _ _ _ _ _ _ _ _ _ _ _ _ _ _ _ _ _ _ _ _ _ _ _ _ _ _ _ _ _ _ _ _ _ _ _ _ _ _ _ _ _ _ _ _ _ _ _ _ _ _ _ _ _ _ _ _ _ wr Bg bd offd k g.disks.length dc _ _ _ _ _ _ _ _ D.name (UsR D (pieces g.vols) wr.heap.size) hlt hg1 (Nat.lt_of_lt_of_le hbw hB1.size) n1 HC1.out (Lib.hid ?_) ?hQ1
      case hQ1 => exact fun _ _ _ _ _ h => h
      intro y1 z1 wa u1_0 u1_1 u1_2 u1_3 u1_4 u1_5 u1_6 u1_7 u1_8 u1_9 u1_10 hb1 hR1
      obtain ⟨rfl, x1, ho1, hx1, hl1, hv1⟩ := hR1
      have HX1 := Lib.hid hx1
      have HVV1 := Lib.hid hv1
      have HLL1 := Lib.hid hl1
      have hB2 : Below W5.heap.size W5 wa := hB1.trans (hb1.mono hB1.size)
      have HO1 := Lib.hid ho1
      have HBB1 := Lib.hid hb1
      clear hG1 hg1 n1 hd1 HC1 hx1 hv1 hl1 ho1 hb1
      clear z6
      have hG2 := HG5.out.below hB2
      have hg2 := (hB2.block _ hgl5).trans HGB.out
      have n2 : wa.cell? ⟨bd, offd + k * 7, none⟩ = some (.string D.name) := (hB2.cell (p := ⟨bd, offd + k * 7, none⟩) hbw).trans HN0.out
      have hd2 : Below wa.heap.size wa wa.drew := (Below.refl _ _).drew
      have HC2 := Lib.hid ((free_call (name := g.name) (id := g.id) (seq := g.seq) (ext := g.extent) (nx := g.next) (tp := tp) (hp := hp) (tl := g.tags.length) (tc := tc) (hl := g.history.length) (hc := hc) (hG2.below hd2).d (hG2.below hd2).v rfl HTT.out HD.out).mono fun (e : Ending) (w' : World) ⟨y, z, he, hb, hR⟩ => (⟨y, z, he, hd2.trans hb, hR⟩ : ∃ y z, e = Ending.returned (.tuple #[y, z]) ∧ Below wa.heap.size wa w' ∧ FrR D (pieces g.vols) wa.heap.size y z w'))
      go_upto_region 7 with (fail)
      refine divides_reg7 _ _ _ _ _ _ _ _ _ _ _ _ _ _ _ _ _ _ _ _ _ _ _ _ _ _ _ _ _ _ _ _ _ _ _ _ _ _ _ _ _ _ _ _ _ _ _ _ _ _ _ _ _ _ _ _ _ _ _ _ _ _ _ _ _ _ _ _ _ _ _ _ _ _ _ _ _ _ _ _ _ _ _ _ _ _ _ _ _ _ _ _ _ _ _ _ _ _ _ _ _ _ _ _ _ _ _ _ _ _ _ _ _ _ _ _ _ _ _ _ _ _ _ _ _ _ _ _ _ _ _ _ _ _ _ _ _ _ _ _ _ _ wa Bg bd offd k g.disks.length dc _ _ _ _ _ _ _ _ D.name (FrR D (pieces g.vols) wa.heap.size) hlt hg2 (Nat.lt_of_lt_of_le hbw hB2.size) n2 HC2.out (Lib.hid ?_) ?hQ2
      case hQ2 => exact fun _ _ _ _ _ h => h
      intro y2 z2 wb u2_0 u2_1 u2_2 u2_3 u2_4 u2_5 u2_6 u2_7 u2_8 u2_9 u2_10 hb2 hR2
      obtain ⟨rfl, x2, ho2, hx2, hl2, hv2⟩ := hR2
      have HX2 := Lib.hid hx2
      have HVV2 := Lib.hid hv2
      have HLL2 := Lib.hid hl2
      have hB3 : Below W5.heap.size W5 wb := hB2.trans (hb2.mono hB2.size)
      have HO2 := Lib.hid ho2
      have HBB2 := Lib.hid hb2
      clear hG2 hg2 n2 hd2 HC2 hx2 hv2 hl2 ho2 hb2
      -- both
      go_wp2_with fail
      have hd3 := hB3
      refine (Select_any x1 x2 0 (.inl rfl) y1 y2 wb (HO1.out.below HBB2.out).rd HO2.out.rd HVV1.out HVV2.out (by have := HLL1.out; omega) (by have := HLL2.out; omega)).mono ?_
      rintro e wc ⟨y3, x3, rfl, ho3, hx3, hv3, hl3, hb3⟩
      have HX3 := Lib.hid hx3
      have HV3 := Lib.hid hv3
      have HL3 := Lib.hid hl3
      have HO3 := Lib.hid ho3
      have HBB3 := Lib.hid hb3
      have hB4 : Below W5.heap.size W5 wc := hB3.trans (hb3.mono hB3.size)
      clear hd3 hx3 hv3 hl3 ho3 hb3
      have hrd : (wc.drew).heap.size = wc.heap.size := rfl
      have hdr : Below wc.heap.size wc wc.drew := (Below.refl _ _).drew
      have hsel : Calls Try.prog 36 #[y1, y2, .int .i64 2] wc.drew fun e w' => ∃ p c, e = .returned (.slice p 0 c) ∧ Below wc.heap.size wc w' := by
        refine (Select_any x1 x2 2 (.inr (.inr rfl)) y1 y2 wc.drew (((HO1.out.below HBB2.out).below HBB3.out).below hdr).rd ((HO2.out.below HBB3.out).below hdr).rd HVV1.out HVV2.out (by have := HLL1.out; omega) (by have := HLL2.out; omega)).mono ?_
        rintro e w' ⟨y, x, rfl, ho, hx, hv, hl, hb⟩
        have hxe : x = [] := hx.eq (y := []) (T := fun _ => False) ⟨NF_nil, fun n => ⟨fun q => (Mem_nil n q).elim, fun q => q.elim⟩⟩ fun n => by
          simp only [selB2, cI, Bool.and_eq_true, inB_iff, iff_false]
          exact fun q => ((HX2.out.2 n).1 q.2).2 ((HX1.out.2 n).1 q.1)
        subst hxe
        obtain ⟨p, c, rfl, _⟩ := ho.rd
        exact ⟨p, c, rfl, hdr.trans hb⟩
      have hx12 : sumR x1 + sumR x2 = D.extents := used_free hde1 (fun n q => mem_usedR q) HX1.out HX2.out
      have hx3 : sumR x3 = D.extents := by
        have h3 : NFof x3 (Mem [(0, D.extents)]) := HX3.out.congr fun n => by
          simp only [selB0, cU, Bool.or_eq_true, inB_iff, HX1.out.2 n, HX2.out.2 n, Mem_one]
          constructor
          · rintro (q | q)
            · have := mem_usedR q
              try dsimp only
              omega
            · have := q.1
              try dsimp only
              omega
          · intro q
            try dsimp only at q
            by_cases c : Mem (usedR D.name D.extents (pieces g.vols)) n
            · exact .inl c
            · exact .inr ⟨by omega, c⟩
        obtain ⟨M, hM⟩ := Int.eq_ofNat_of_zero_le hde1
        have c1 := sumR_cnt M x3 h3.1 fun p hp => by
          have c := h3.1.1 p hp
          have h1 := (h3.2 p.1).1 ⟨p, hp, by omega, by omega⟩
          have h2 := (h3.2 (p.1 + p.2 - 1)).1 ⟨p, hp, by omega, by omega⟩
          rw [Mem_one] at h1 h2
          try dsimp only at h1 h2
          omega
        have c2 : cnt M (inB x3) = cnt M (fun n => decide (0 ≤ n) && decide (n < D.extents)) := cnt_congr M _ _ fun n => by
          rw [Bool.eq_iff_iff, inB_iff, h3.2 n, Mem_one]
          simp
        have c3 := cnt_run M 0 D.extents (by omega) hde1
        omega
      have hsum : ∀ w', Below wc.heap.size wc w' → Calls Try.prog 28 #[y3] w' fun e w'' => e = .returned (.int .i64 D.extents) ∧ Below wc.heap.size wc w'' := fun w' hb => by
        refine (refSum_any x3 y3 w' (HO3.out.below hb).rd HV3.out (by have := HL3.out; have := HLL1.out; have := HLL2.out; omega)).mono ?_
        rintro e w'' ⟨rfl, hb'⟩
        rw [nfL_self HX3.out HV3.out, hx3]
        exact ⟨rfl, hb.trans (hb'.mono hb.size)⟩
      have HSEL := Lib.hid hsel; clear hsel
      have HSUM := Lib.hid hsum; clear hsum
      have n6 := (hB4.cell (p := ⟨Bg, 6, none⟩) hgl5).trans HC6.out
      have n3 := (hB4.cell (p := ⟨bd, offd + k * 7 + 3, none⟩) hbw).trans HN3.out
      clear hrd hx3
      go_upto_region 9 with (fail)
      refine divides_reg9 _ _ _ _ _ _ _ _ _ _ _ _ _ _ _ _ _ _ _ _ _ _ _ _ _ _ _ _ _ _ _ _ _ _ _ _ _ _ _ _ _ _ _ _ _ _ _ _ _ _ _ _ _ _ _ _ _ _ _ _ _ _ _ _ _ _ _ _ _ _ _ _ _ _ _ _ _ _ _ _ _ _ _ _ _ _ _ _ _ _ _ _ _ _ _ _ _ _ _ _ _ _ _ _ _ _ _ _ _ _ _ _ _ _ _ _ _ _ _ _ _ _ _ _ _ _ _ _ _ _ _ _ _ _ _ _ _ wc Bg bd offd k g.disks.length dc D.extents y1 y2 y3 hlt (Nat.lt_of_lt_of_le hgl5 hB4.size) n6 (Nat.lt_of_lt_of_le hbw hB4.size) n3 HSEL.out HSUM.out (Lib.hid ?_) ?hQ9
      case hQ9 => exact fun _ _ _ _ _ h => h
      intro wd u9_0 u9_1 u9_2 u9_3 u9_4 u9_5 u9_6 u9_7 u9_8 u9_9 u9_10 u9_11 u9_12 u9_13 u9_14 u9_15 u9_16 u9_17 u9_18 u9_19 u9_20 u9_21 u9_22 hb9
      have hB5 : Below W5.heap.size W5 wd := hB4.trans (hb9.mono hB4.size)
      have HY1 := Lib.hid (((HO1.out.below HBB2.out).below HBB3.out).below hb9)
      have HY2 := Lib.hid ((HO2.out.below HBB3.out).below hb9)
      clear n6 n3 hdr hB1 hB2 hB3 hB4 hb9
      have n6 := cell_ext (Nat.lt_of_lt_of_le hgl5 hB5.size) ((hB5.cell (p := ⟨Bg, 6, none⟩) hgl5).trans HC6.out)
      have n3 := cell_ext (Nat.lt_of_lt_of_le hbw hB5.size) ((hB5.cell (p := ⟨bd, offd + k * 7 + 3, none⟩) hbw).trans HN3.out)
      have RY1 := Lib.hid (fun (q : ExtBy) => (HY1.out.below (below_ext wd q)).rd)
      have RY2 := Lib.hid (fun (q : ExtBy) => (HY2.out.below (below_ext wd q)).rd)
      have hsA : ∀ (q : ExtBy), Calls Try.prog 28 #[y1] (ext wd q) fun e w' => e = .returned (.int .i64 (sumR x1)) ∧ Below (ext wd q).heap.size (ext wd q) w' := fun q => by
        have := refSum_any x1 y1 (ext wd q) (RY1.out q) HVV1.out (by have := HLL1.out; omega)
        rw [nfL_self HX1.out HVV1.out] at this
        exact this
      have hsB : ∀ (q : ExtBy), Calls Try.prog 28 #[y2] (ext wd q) fun e w' => e = .returned (.int .i64 (sumR x2)) ∧ Below (ext wd q).heap.size (ext wd q) w' := fun q => by
        have := refSum_any x2 y2 (ext wd q) (RY2.out q) HVV2.out (by have := HLL2.out; omega)
        rw [nfL_self HX2.out HVV2.out] at this
        exact this
      have HSA := Lib.hid hsA; clear hsA
      have HSB := Lib.hid hsB; clear hsB
      have hb1' := HX1.out.sum_bd hde1 fun n q => mem_usedR q
      have hb2' := HX2.out.sum_bd hde1 fun n q => q.1
      have HTN := Lib.hid (TotR.snoc HTR.out HD.out HX1.out HX2.out)
      have hY1s := HY1.out.rd
      have hY2s := HY2.out.rd
      obtain ⟨p1, c1, rfl, _⟩ := hY1s
      obtain ⟨p2, c2, rfl, _⟩ := hY2s
      generalize hs1 : sumR x1 = s1 at *
      generalize hs2 : sumR x2 = s2 at *
      clear hs1 hs2 RY1 RY2
      have hw1 : IntKind.i64.wrap (u + s1) = u + s1 := IntWalk.i64_in _ (by omega)
      have hw2 : IntKind.i64.wrap (f + s2) = f + s2 := IntWalk.i64_in _ (by omega)
      have hw3 : IntKind.i64.wrap (u + f + D.extents) = u + f + D.extents := IntWalk.i64_in _ (by omega)
      have HB5' := Lib.hid hB5; clear hB5
      go_wp2_with fail
      (refine wp_region_quiet_ext (by kernel_rfl) (by kernel_rfl) ?_; (repeat (go_big_quiet_step ((first | (go_at_call_of 28 (Value.slice p1 x1.length c1); exact ext_of (HSA.out _)) | (go_at_call_of 28 (Value.slice p2 x2.length c2); exact ext_of (HSB.out _)))))); (with_reducible refine wpQuiet_nil ?_); intro wq hwq; have hbq := ext_below hwq; clear hwq)
      clear n6 n3 hw1 hw2 hw3
      have hB6 : Below W5.heap.size W5 wq := HB5'.out.trans (hbq.mono HB5'.out.size)
      have HZ1 := Lib.hid (HY1.out.below hbq)
      clear hbq
      have HB6 := Lib.hid hB6; clear hB6
      go_wp2
      go_loopw [13] (fun vm wr7 => ∃ m : Nat, (m : Int) ≤ D.extents ∧ vm = .int .i64 (m : Int) ∧ Below wq.heap.size wq wr7) (fun vm _ => (D.extents - intOf vm).toNat)
      case atStart => exact ⟨0, by omega, rfl, Below.refl _ _⟩
      case round =>
        obtain ⟨m, hm, rfl, hbm⟩ := hrel
        have hB1 : Below W5.heap.size W5 wr := HB6.out.trans (hbm.mono HB6.out.size)
        have HZ := Lib.hid (HZ1.out.below hbm)
        have n6 := (hB1.cell (p := ⟨Bg, 6, none⟩) hgl5).trans HC6.out
        have n3 := (hB1.cell (p := ⟨bd, offd + k * 7 + 3, none⟩) hbw).trans HN3.out
        by_cases hml : (m : Int) < D.extents
        · have HBM := Lib.hid hbm; clear hbm
          have hG1 := HG5.out.below hB1
          have hg1 := (hB1.block _ hgl5).trans HGB.out
          have hn1 : wr.cell? ⟨bd, offd + k * 7, none⟩ = some (.string D.name) := (hB1.cell (p := ⟨bd, offd + k * 7, none⟩) hbw).trans HN0.out
          have hd1 : Below wr.heap.size wr wr.drew := (Below.refl _ _).drew
          have HC1 := Lib.hid ((owner_call (name := g.name) (id := g.id) (seq := g.seq) (ext := g.extent) (nx := g.next) (tp := tp) (hp := hp) (tl := g.tags.length) (tc := tc) (hl := g.history.length) (hc := hc) (m := m) (hG1.below hd1).d (hG1.below hd1).v rfl HTT.out HD.out hml).mono fun (e : Ending) (w' : World) ⟨y, z, he, hb, hR⟩ => (⟨y, z, he, hd1.trans hb, hR⟩ : ∃ y z, e = Ending.returned (.tuple #[y, z]) ∧ Below wr.heap.size wr w' ∧ OwR D (pieces g.vols) m wr.heap.size y z w'))
          go_upto_region 15 with (fail)
          refine divides_reg15 _ _ _ _ _ _ _ _ _ _ _ _ _ _ _ _ _ _ _ _ _ _ _ _ _ _ _ _ _ _ _ _ _ _ _ _ _ _ _ _ _ _ _ _ _ _ _ _ _ _ _ _ _ _ _ _ _ _ _ _ _ _ _ _ _ _ _ _ _ _ _ _ _ _ _ _ _ _ _ _ _ _ _ _ _ _ _ _ _ _ _ _ _ _ _ _ _ _ _ _ _ _ _ _ _ _ _ _ _ _ _ _ _ _ _ _ _ _ _ _ _ _ _ _ _ _ _ _ _ _ _ _ _ _ _ _ _ _ _ _ _ wr Bg bd offd k g.disks.length dc _ _ _ _ _ _ _ _ D.name (OwR D (pieces g.vols) m wr.heap.size) (m : Int) hlt hg1 (Nat.lt_of_lt_of_le hbw hB1.size) hn1 HC1.out (Lib.hid ?_) ?hQ15
          case hQ15 => exact fun _ _ _ _ _ h => h
          clear n6 n3
          intro y9 z9 we v0 v1 v2 v3 v4 v5 v6 v7 v8 v9 v10 v11 hbe hR9
          obtain rfl := hR9
          have hmb : memB x1 m = inB (usedR D.name D.extents (pieces g.vols)) m := by
            rw [memB_inB HVV1.out]
            exact inB_eq (HX1.out.2 m)
          have HZ' := Lib.hid (HZ.out.below hbe)
          have HBE := Lib.hid (HBM.out.trans (hbe.mono HBM.out.size))
          have HMB := Lib.hid hmb; clear hmb
          clear hG1 hg1 hn1 hd1 HC1 hbe hB1
          generalize inB (usedR D.name D.extents (pieces g.vols)) m = bb at *
          go_wp2_with fail
          refine (refHas_any x1 m _ we (by omega) HZ'.out.rd).mono ?_
          rintro e wf ⟨rfl, hbf⟩
          rw [HMB.out]
          have HBF := Lib.hid (HBE.out.trans (hbf.mono HBE.out.size))
          clear hbf HMB
          cases bb
          · go_wp2
            go_roundw
            case rel => exact ⟨m + 1, by omega, by go_num, HBF.out⟩
            case measure => simp [intOf] <;> omega
          · go_wp2
            go_roundw
            case rel => exact ⟨m + 1, by omega, by go_num, HBF.out⟩
            case measure => simp [intOf] <;> omega
        · have HB1 := Lib.hid hB1; clear hB1
          clear hbm
          go_wp2
          go_roundw
          case rel => exact ⟨k + 1, u + s1, f + s2, by omega, by go_num, rfl, rfl, by rw [show u + f + D.extents = u + s1 + (f + s2) by omega], HTN.out, HB1.out⟩
          case measure => simp [intOf] <;> omega
    · obtain rfl : k = g.disks.length := by omega
      have hgw := (hB1.block _ hgl5).trans HGB.out
      have hGw := HG5.out.below hB1
      have gL : ∀ (j : Nat) (z : Value), [.string g.name, .int .u64 g.id, .int .i64 g.seq, .int .i64 g.extent, .int .i64 g.next, .slice tp g.tags.length tc, .slice dp g.disks.length dc, .slice vp g.vols.length vc, .slice hp g.history.length hc][j]? = some z → wr.cell? ⟨Bg, j, none⟩ = some z := fun j z hz => by
        simp only [World.cell?, hgw]
        simpa using hz
      have y0 := gL 0 _ rfl
      have y1 := gL 1 _ rfl
      have y2 := gL 2 _ rfl
      have y3 := gL 3 _ rfl
      have y4 := gL 4 _ rfl
      have y5 := gL 5 _ rfl
      have y6 := gL 6 _ rfl
      have y7 := gL 7 _ rfl
      have y8 := gL 8 _ rfl
      have HGW := Lib.hid hGw; clear hGw
      have HB1 := Lib.hid hB1; clear hB1
      clear gL hgw
      go_wp2_with fail
      clear y0 y1 y2 y3 y4 y5 y6 y7 y8
      refine (Total_any (ok := fun _ => True) g.name g.id g.seq g.extent g.next tp dp vp hp g.tags.length tc dc vc g.history.length hc g.disks g.vols wr HGW.out.d (by omega) HT.out.dtags (fun D hD => by have := HT.out.dext D hD; omega) HGW.out.v (by have := HT.out.vl; omega) HT.out.tame (fun p hp => by have := HT.out.ps p hp; omega) (by have := HT.out.pn; omega) HT.out.dfind).mono ?_
      rintro e w6 ⟨u', f', rfl, htot, hb6⟩
      obtain ⟨rfl, rfl⟩ := HTR.out.unique htot
      have HB6 := Lib.hid (HB1.out.trans (hb6.mono HB1.out.size))
      have hw4 : IntKind.i64.wrap (u' + f') = u' + f' := IntWalk.i64_in _ (by omega)
      clear htot hb6
      go_wp2_with fail
      refine (awake14_any _).mono ?_
      rintro e w7 ⟨rfl, hb7⟩
      have HB7 := Lib.hid (HB5.out.trans ((HB6.out.trans (hb7.mono HB6.out.size)).mono HB5.out.size))
      clear hb7
      go_wp2
      go_ret
      exact ⟨rfl, HB7.out⟩

end Go.Proofs.Yteengifhndmjeaa
