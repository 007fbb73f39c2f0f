/- SpaceOrder. -/
import Derived.Test.YteengifhndmjeaaSpX
import Derived.Test.YteengifhndmjeaaSpU
namespace Go.Proofs.Yteengifhndmjeaa
open Go.RowKit

set_option maxRecDepth 100000 in
set_option maxHeartbeats 16000000 in
theorem spaceOrder_any (l : List Int) (v : Value) (w : World) (hr : RdI w v l) (hl : ∀ x ∈ l, -9223372036854775808 ≤ x ∧ x ≤ 9223372036854775807) :
    Calls Try.prog 10 #[v] w fun e w' => e = .returned (.bool true) ∧ Below w.heap.size w w' := by
  have HR := Lib.hid hr; clear hr
  go_enter Try.func10, Try.ntmps10
  go_wp2_with fail
  refine (New_any l v w HR.out hl).mono ?_
  rintro e w1 ⟨rfl, hs1, _, hb1⟩
  go_wp2_with fail
  refine (Group_any w.heap.size w1 hs1).mono ?_
  intro e w2 hG
  obtain ⟨g, tp, dp, vp, hp, tc, dc, vc, hc, rfl, hg2, hb2⟩ := hG.open hb1 (Nat.le_refl _)
  clear hs1 hb1
  have HT := Lib.hid hg2.b.tame
  have HG2 := Lib.hid hg2; clear hg2
  have e2 : ((w2.alloc (.cells #[.string g.name, .int .u64 g.id, .int .i64 g.seq, .int .i64 g.extent, .int .i64 g.next, .slice tp g.tags.length tc, .slice dp g.disks.length dc, .slice vp g.vols.length vc, .slice hp g.history.length hc] 52)).alloc (.cells #[.string g.name, .int .u64 g.id, .int .i64 g.seq, .int .i64 g.extent, .int .i64 g.next, .slice tp g.tags.length tc, .slice dp g.disks.length dc, .slice none 0 0, .slice hp g.history.length hc] 52)).heap[w2.heap.size]? = some (.cells #[.string g.name, .int .u64 g.id, .int .i64 g.seq, .int .i64 g.extent, .int .i64 g.next, .slice tp g.tags.length tc, .slice dp g.disks.length dc, .slice vp g.vols.length vc, .slice hp g.history.length hc] 52 (0, 0)) := (Below.heap_alloc _ _ _ (by simp)).trans (heap_alloc_new w2 _)
  have e3 : ((w2.alloc (.cells #[.string g.name, .int .u64 g.id, .int .i64 g.seq, .int .i64 g.extent, .int .i64 g.next, .slice tp g.tags.length tc, .slice dp g.disks.length dc, .slice vp g.vols.length vc, .slice hp g.history.length hc] 52)).alloc (.cells #[.string g.name, .int .u64 g.id, .int .i64 g.seq, .int .i64 g.extent, .int .i64 g.next, .slice tp g.tags.length tc, .slice dp g.disks.length dc, .slice none 0 0, .slice hp g.history.length hc] 52)).heap[w2.heap.size + 1]? = some (.cells #[.string g.name, .int .u64 g.id, .int .i64 g.seq, .int .i64 g.extent, .int .i64 g.next, .slice tp g.tags.length tc, .slice dp g.disks.length dc, .slice none 0 0, .slice hp g.history.length hc] 52 (0, 0)) := by
    have := heap_alloc_new (w2.alloc (.cells #[.string g.name, .int .u64 g.id, .int .i64 g.seq, .int .i64 g.extent, .int .i64 g.next, .slice tp g.tags.length tc, .slice dp g.disks.length dc, .slice vp g.vols.length vc, .slice hp g.history.length hc] 52)) (.cells #[.string g.name, .int .u64 g.id, .int .i64 g.seq, .int .i64 g.extent, .int .i64 g.next, .slice tp g.tags.length tc, .slice dp g.disks.length dc, .slice none 0 0, .slice hp g.history.length hc] 52)
    rw [World.size_alloc] at this
    exact this
  have b4 : Below w2.heap.size w2 ((w2.alloc (.cells #[.string g.name, .int .u64 g.id, .int .i64 g.seq, .int .i64 g.extent, .int .i64 g.next, .slice tp g.tags.length tc, .slice dp g.disks.length dc, .slice vp g.vols.length vc, .slice hp g.history.length hc] 52)).alloc (.cells #[.string g.name, .int .u64 g.id, .int .i64 g.seq, .int .i64 g.extent, .int .i64 g.next, .slice tp g.tags.length tc, .slice dp g.disks.length dc, .slice none 0 0, .slice hp g.history.length hc] 52)) := ((Below.refl _ _).alloc (Nat.le_refl _) _).alloc (by simp) _
  have E2 := Lib.hid e2; clear e2
  have E3 := Lib.hid e3; clear e3
  have B4 := Lib.hid b4; clear b4
  have HB2 := Lib.hid hb2; clear hb2
  have hvl := HT.out.vl
  have hdl := HT.out.dl
  go_wp2
  generalize hW4 : World.alloc (World.alloc w2 _) _ = W4 at *
  clear hW4
  go_loopw [6] (fun vi wr => ∃ (j : Nat) (hv : Value), vi = .int .i64 ((j : Int) - 1) ∧ j ≤ g.vols.length ∧ OwnS vVol 6 56 (w2.heap.size + 1 + 1) (fun q => q < w2.heap.size + 1) wr hv (g.vols.reverse.take (g.vols.length - j)) ∧ wr.heap[w2.heap.size + 1]? = some (.cells #[.string g.name, .int .u64 g.id, .int .i64 g.seq, .int .i64 g.extent, .int .i64 g.next, .slice tp g.tags.length tc, .slice dp g.disks.length dc, hv, .slice hp g.history.length hc] 52 (0, 0)) ∧ Below (w2.heap.size + 1) W4 wr) (fun vi _ => (intOf vi + 1).toNat)
  case atStart => exact ⟨g.vols.length, _, rfl, Nat.le_refl _, by rw [Nat.sub_self]; exact ⟨[], World.ownsRow_nil _ _ _ 6, rfl⟩, E3.out, Below.refl _ _⟩
  case round =>
    obtain ⟨j, hv, rfl, hj, hO, hh, hB⟩ := hrel
    have HO := Lib.hid hO; clear hO
    have HHB := Lib.hid hh; clear hh
    have HB := Lib.hid hB; clear hB
    have hgz := lt_of_block E2.out
    have hgb := (HB.out.block w2.heap.size (by omega)).trans E2.out
    have hwz := B4.out.size
    have hwz2 := HB.out.size
    have hB2 : Below w2.heap.size w2 wr := B4.out.trans (HB.out.mono (by omega))
    have HBB := Lib.hid hB2; clear hB2
    by_cases h0 : j = 0
    · subst h0
      have hj0 : (((0 : Nat) : Int) - 1) = -1 := by omega
      rw [hj0]
      clear hj0
      obtain ⟨W5, hW5⟩ : ∃ W5 : World, W5 = wr := ⟨_, rfl⟩
      subst hW5
      have hO := HO.out
      rw [Nat.sub_zero, List.take_of_length_le (by simp)] at hO
      have hrd : RdS vVol 6 (fun _ => True) W5 [hv] g.vols.reverse := hO.rd vVol.moves (by decide) (fun _ _ _ => trivial) (fun _ _ => trivial)
      obtain ⟨hvp, hvc, rfl, _, _⟩ := hrd.cap
      have hnv : g.vols.reverse.length = g.vols.length := List.length_reverse
      have HGB := Lib.hid hgb; clear hgb
      have HG5 := Lib.hid (HG2.out.below HBB.out)
      have HV5 := Lib.hid hrd; clear hrd
      have hT := HT.out.two
      have HTT := Lib.hid hT
      have HTR := Lib.hid hT.rev; clear hT
      generalize hnve : g.vols.reverse.length = nv at *
      have HNV := Lib.hid hnve; clear hnve hnv hO
      have hlt5 := lt_of_block HHB.out
      have hgl5 := lt_of_block HGB.out
      clear HO
      have z6 : W5.cell? ⟨w2.heap.size, 6, none⟩ = some (.slice dp g.disks.length dc) := by simp [World.cell?, HGB.out]
      go_wp2
      clear z6
      go_loopw [7] (fun vi wr6 => ∃ k : Nat, k ≤ g.disks.length ∧ vi = .int .i64 (k : Int) ∧ Below W5.heap.size W5 wr6) (fun vi _ => g.disks.length - (intOf vi).toNat)
      case atStart => exact ⟨0, Nat.zero_le _, rfl, Below.refl _ _⟩
      case round =>
        obtain ⟨k, hk, rfl, hB6⟩ := hrel
        by_cases hlt : k < g.disks.length
        · obtain ⟨D, hD⟩ := getSome g.disks k hlt
          obtain ⟨bd, offd, u, rfl, _, hbw, _, hvv, hcv⟩ := HG5.out.d.elem hD
          obtain ⟨tv, rfl, htr⟩ := hvv
          have HN0 := Lib.hid (hcv 0 _ rfl)
          have HD := Lib.hid hD; clear hD
          clear htr hcv
          have hB1 := hB6; clear hB6
          have z6 : wr.cell? ⟨w2.heap.size, 6, none⟩ = some (.slice (some ⟨bd, offd, none⟩) g.disks.length dc) := (hB1.cell (p := ⟨w2.heap.size, 6, none⟩) hgl5).trans (by simp [World.cell?, HGB.out])
          have hG1 := HG5.out.below hB1
          have hVw1 := (RdS.moves vVol.moves).mv (ok' := fun _ => True) ⟨hB1.size, fun q h1 h2 => ⟨h2, hB1.block q h1⟩⟩ HV5.out
          have hg1 := (hB1.block _ hgl5).trans HGB.out
          have hh1 := (hB1.block _ hlt5).trans HHB.out
          have n1 : wr.cell? ⟨bd, offd + k * 7, none⟩ = some (.string D.name) := (hB1.cell (p := ⟨bd, offd + k * 7, none⟩) hbw).trans HN0.out
          have hd1 : Below wr.heap.size wr wr.drew := (Below.refl _ _).drew
          have HC1 := Lib.hid ((used_call (name := g.name) (id := g.id) (seq := g.seq) (ext := g.extent) (nx := g.next) (tp := tp) (hp := hp) (tl := g.tags.length) (tc := tc) (hl := g.history.length) (hc := hc) (hG1.below hd1).d ((RdS.moves vVol.moves).mv (ok' := fun _ => True) ⟨hd1.size, fun q h1 h2 => ⟨h2, hd1.block q h1⟩⟩ hG1.v) rfl HTT.out HD.out).mono fun (e : Ending) (w' : World) ⟨y, z, he, hb, hR⟩ => (⟨y, z, he, hd1.trans hb, hR⟩ : ∃ y z, e = Ending.returned (.tuple #[y, z]) ∧ Below wr.heap.size wr w' ∧ UsR D (pieces g.vols) wr.heap.size y z w'))
          go_upto_region 12 with (fail)
          refine order_reg12 _ _ _ _ _ _ _ _ _ _ _ _ _ _ _ _ _ _ _ _ _ _ _ _ _ _ _ _ _ _ _ _ _ _ _ _ _ _ _ _ _ _ _ _ _ _ _ _ _ _ _ _ _ _ _ _ _ _ _ _ _ _ _ _ _ _ _ _ _ _ _ _ _ _ _ _ _ _ _ _ _ _ _ _ _ _ _ _ _ _ _ _ _ _ _ _ _ _ _ _ _ _ _ _ _ _ _ _ _ _ _ _ _ _ _ _ _ wr w2.heap.size bd offd k g.disks.length dc _ _ _ _ _ _ _ _ D.name (UsR D (pieces g.vols) wr.heap.size) hlt hg1 (Nat.lt_of_lt_of_le hbw hB1.size) n1 HC1.out (Lib.hid ?_) ?hQ1
          case hQ1 => exact fun _ _ _ _ _ h => h
          intro y1 z1 wa u1_0 u1_1 u1_2 u1_3 u1_4 u1_5 u1_6 u1_7 u1_8 u1_9 u1_10 hb1 hR1
          obtain ⟨rfl, x1, ho1, hx1, hl1, hv1⟩ := hR1
          have HX1 := Lib.hid hx1
          have HVV1 := Lib.hid hv1
          have HLL1 := Lib.hid hl1
          have hB2 : Below W5.heap.size W5 wa := hB1.trans (hb1.mono hB1.size)
          have HO1 := Lib.hid ho1
          have HBB1 := Lib.hid hb1
          clear hG1 hVw1 hg1 hh1 n1 hd1 HC1 hx1 hv1 hl1 ho1 hb1
          clear z6
          have hG2 := HG5.out.below hB2
          have hVw2 := (RdS.moves vVol.moves).mv (ok' := fun _ => True) ⟨hB2.size, fun q h1 h2 => ⟨h2, hB2.block q h1⟩⟩ HV5.out
          have hg2 := (hB2.block _ hgl5).trans HGB.out
          have hh2 := (hB2.block _ hlt5).trans HHB.out
          have n2 : wa.cell? ⟨bd, offd + k * 7, none⟩ = some (.string D.name) := (hB2.cell (p := ⟨bd, offd + k * 7, none⟩) hbw).trans HN0.out
          have hd2 : Below wa.heap.size wa wa.drew := (Below.refl _ _).drew
          have HC2 := Lib.hid ((used_call (name := g.name) (id := g.id) (seq := g.seq) (ext := g.extent) (nx := g.next) (tp := tp) (hp := hp) (tl := g.tags.length) (tc := tc) (hl := g.history.length) (hc := hc) (hG2.below hd2).d ((RdS.moves vVol.moves).mv (ok' := fun _ => True) ⟨hd2.size, fun q h1 h2 => ⟨h2, hd2.block q h1⟩⟩ hVw2) HNV.out.symm HTR.out HD.out).mono fun (e : Ending) (w' : World) ⟨y, z, he, hb, hR⟩ => (⟨y, z, he, hd2.trans hb, hR⟩ : ∃ y z, e = Ending.returned (.tuple #[y, z]) ∧ Below wa.heap.size wa w' ∧ UsR D (pieces g.vols.reverse) wa.heap.size y z w'))
          go_upto_region 13 with (fail)
          refine order_reg13 _ _ _ _ _ _ _ _ _ _ _ _ _ _ _ _ _ _ _ _ _ _ _ _ _ _ _ _ _ _ _ _ _ _ _ _ _ _ _ _ _ _ _ _ _ _ _ _ _ _ _ _ _ _ _ _ _ _ _ _ _ _ _ _ _ _ _ _ _ _ _ _ _ _ _ _ _ _ _ _ _ _ _ _ _ _ _ _ _ _ _ _ _ _ _ _ _ _ _ _ _ _ _ _ _ _ _ _ _ _ _ _ _ _ _ _ wa (w2.heap.size + 1) bd offd k g.disks.length dc w2.heap.size _ _ _ _ _ _ _ _ _ D.name (UsR D (pieces g.vols.reverse) wa.heap.size) hlt hh2 (Nat.lt_of_lt_of_le hbw hB2.size) n2 (by have := hB2.size; omega) (by simp [World.cell?, hg2]) HC2.out (Lib.hid ?_) ?hQ2
          case hQ2 => exact fun _ _ _ _ _ h => h
          intro y2 z2 wb u2_0 u2_1 u2_2 u2_3 u2_4 u2_5 u2_6 u2_7 u2_8 u2_9 u2_10 hb2 hR2
          obtain ⟨rfl, x2, ho2, hx2, hl2, hv2⟩ := hR2
          have HX2 := Lib.hid hx2
          have HVV2 := Lib.hid hv2
          have HLL2 := Lib.hid hl2
          have hB3 : Below W5.heap.size W5 wb := hB2.trans (hb2.mono hB2.size)
          have HO2 := Lib.hid ho2
          have HBB2 := Lib.hid hb2
          clear hG2 hVw2 hg2 hh2 n2 hd2 HC2 hx2 hv2 hl2 ho2 hb2
          have hG3 := HG5.out.below hB3
          have hVw3 := (RdS.moves vVol.moves).mv (ok' := fun _ => True) ⟨hB3.size, fun q h1 h2 => ⟨h2, hB3.block q h1⟩⟩ HV5.out
          have hg3 := (hB3.block _ hgl5).trans HGB.out
          have hh3 := (hB3.block _ hlt5).trans HHB.out
          have n3 : wb.cell? ⟨bd, offd + k * 7, none⟩ = some (.string D.name) := (hB3.cell (p := ⟨bd, offd + k * 7, none⟩) hbw).trans HN0.out
          have hd3 : Below wb.heap.size wb wb.drew := (Below.refl _ _).drew
          have HC3 := Lib.hid ((free_call (name := g.name) (id := g.id) (seq := g.seq) (ext := g.extent) (nx := g.next) (tp := tp) (hp := hp) (tl := g.tags.length) (tc := tc) (hl := g.history.length) (hc := hc) (hG3.below hd3).d ((RdS.moves vVol.moves).mv (ok' := fun _ => True) ⟨hd3.size, fun q h1 h2 => ⟨h2, hd3.block q h1⟩⟩ hG3.v) rfl HTT.out HD.out).mono fun (e : Ending) (w' : World) ⟨y, z, he, hb, hR⟩ => (⟨y, z, he, hd3.trans hb, hR⟩ : ∃ y z, e = Ending.returned (.tuple #[y, z]) ∧ Below wb.heap.size wb w' ∧ FrR D (pieces g.vols) wb.heap.size y z w'))
          go_upto_region 14 with (fail)
          refine order_reg14 _ _ _ _ _ _ _ _ _ _ _ _ _ _ _ _ _ _ _ _ _ _ _ _ _ _ _ _ _ _ _ _ _ _ _ _ _ _ _ _ _ _ _ _ _ _ _ _ _ _ _ _ _ _ _ _ _ _ _ _ _ _ _ _ _ _ _ _ _ _ _ _ _ _ _ _ _ _ _ _ _ _ _ _ _ _ _ _ _ _ _ _ _ _ _ _ _ _ _ _ _ _ _ _ _ _ _ _ _ _ _ _ _ _ _ _ _ wb w2.heap.size bd offd k g.disks.length dc _ _ _ _ _ _ _ _ D.name (FrR D (pieces g.vols) wb.heap.size) hlt hg3 (Nat.lt_of_lt_of_le hbw hB3.size) n3 HC3.out (Lib.hid ?_) ?hQ3
          case hQ3 => exact fun _ _ _ _ _ h => h
          intro y3 z3 wc u3_0 u3_1 u3_2 u3_3 u3_4 u3_5 u3_6 u3_7 u3_8 u3_9 u3_10 hb3 hR3
          obtain ⟨rfl, x3, ho3, hx3, hl3, hv3⟩ := hR3
          have HX3 := Lib.hid hx3
          have HVV3 := Lib.hid hv3
          have HLL3 := Lib.hid hl3
          have hB4 : Below W5.heap.size W5 wc := hB3.trans (hb3.mono hB3.size)
          have HO3 := Lib.hid ho3
          have HBB3 := Lib.hid hb3
          clear hG3 hVw3 hg3 hh3 n3 hd3 HC3 hx3 hv3 hl3 ho3 hb3
          have hG4 := HG5.out.below hB4
          have hVw4 := (RdS.moves vVol.moves).mv (ok' := fun _ => True) ⟨hB4.size, fun q h1 h2 => ⟨h2, hB4.block q h1⟩⟩ HV5.out
          have hg4 := (hB4.block _ hgl5).trans HGB.out
          have hh4 := (hB4.block _ hlt5).trans HHB.out
          have n4 : wc.cell? ⟨bd, offd + k * 7, none⟩ = some (.string D.name) := (hB4.cell (p := ⟨bd, offd + k * 7, none⟩) hbw).trans HN0.out
          have hd4 : Below wc.heap.size wc wc.drew := (Below.refl _ _).drew
          have HC4 := Lib.hid ((free_call (name := g.name) (id := g.id) (seq := g.seq) (ext := g.extent) (nx := g.next) (tp := tp) (hp := hp) (tl := g.tags.length) (tc := tc) (hl := g.history.length) (hc := hc) (hG4.below hd4).d ((RdS.moves vVol.moves).mv (ok' := fun _ => True) ⟨hd4.size, fun q h1 h2 => ⟨h2, hd4.block q h1⟩⟩ hVw4) HNV.out.symm HTR.out HD.out).mono fun (e : Ending) (w' : World) ⟨y, z, he, hb, hR⟩ => (⟨y, z, he, hd4.trans hb, hR⟩ : ∃ y z, e = Ending.returned (.tuple #[y, z]) ∧ Below wc.heap.size wc w' ∧ FrR D (pieces g.vols.reverse) wc.heap.size y z w'))
          go_upto_region 15 with (fail)
          refine order_reg15 _ _ _ _ _ _ _ _ _ _ _ _ _ _ _ _ _ _ _ _ _ _ _ _ _ _ _ _ _ _ _ _ _ _ _ _ _ _ _ _ _ _ _ _ _ _ _ _ _ _ _ _ _ _ _ _ _ _ _ _ _ _ _ _ _ _ _ _ _ _ _ _ _ _ _ _ _ _ _ _ _ _ _ _ _ _ _ _ _ _ _ _ _ _ _ _ _ _ _ _ _ _ _ _ _ _ _ _ _ _ _ _ _ _ _ _ wc (w2.heap.size + 1) bd offd k g.disks.length dc w2.heap.size _ _ _ _ _ _ _ _ _ D.name (FrR D (pieces g.vols.reverse) wc.heap.size) hlt hh4 (Nat.lt_of_lt_of_le hbw hB4.size) n4 (by have := hB4.size; omega) (by simp [World.cell?, hg4]) HC4.out (Lib.hid ?_) ?hQ4
          case hQ4 => exact fun _ _ _ _ _ h => h
          intro y4 z4 wd u4_0 u4_1 u4_2 u4_3 u4_4 u4_5 u4_6 u4_7 u4_8 u4_9 u4_10 hb4 hR4
          obtain ⟨rfl, x4, ho4, hx4, hl4, hv4⟩ := hR4
          have HX4 := Lib.hid hx4
          have HVV4 := Lib.hid hv4
          have HLL4 := Lib.hid hl4
          have hB5 : Below W5.heap.size W5 wd := hB4.trans (hb4.mono hB4.size)
          have HO4 := Lib.hid ho4
          have HBB4 := Lib.hid hb4
          clear hG4 hVw4 hg4 hh4 n4 hd4 HC4 hx4 hv4 hl4 ho4 hb4
          have e12 : x1 = x2 := HX1.out.eq HX2.out fun n => (usedR_mem_perm n).symm
          have e34 : x3 = x4 := HX3.out.eq HX4.out fun n => by rw [usedR_mem_perm n]
          subst e12
          subst e34
          have HY1 := Lib.hid (((HO1.out.below HBB2.out).below HBB3.out).below HBB4.out)
          have HY2 := Lib.hid ((HO2.out.below HBB3.out).below HBB4.out)
          have HY3 := Lib.hid (HO3.out.below HBB4.out)
          have HB5' := Lib.hid hB5; clear hB5
          clear hB1 hB2 hB3 hB4
          go_wp2_with fail
          refine (same_any _ _ y1 y2 wd HY1.out.rd HY2.out.rd).mono ?_
          rintro e we ⟨rfl, hbe⟩
          have hs1 : sameB x1 x1 = true := by simp [sameB]
          rw [hs1]
          have HBE := Lib.hid hbe
          have HY3' := Lib.hid (HY3.out.below hbe)
          have HY4' := Lib.hid (HO4.out.below hbe)
          clear hbe hs1
          go_wp2_with fail
          refine (same_any _ _ y3 y4 we HY3'.out.rd HY4'.out.rd).mono ?_
          rintro e wf ⟨rfl, hbf⟩
          have hs3 : sameB x3 x3 = true := by simp [sameB]
          rw [hs3]
          have HBF := Lib.hid (HB5'.out.trans ((HBE.out.trans (hbf.mono HBE.out.size)).mono HB5'.out.size))
          clear hbf hs3
          go_wp2
          go_roundw
          case rel => exact ⟨k + 1, by omega, by go_num, HBF.out⟩
          case measure => simp [intOf] <;> omega
        · have hgw := (hB6.block _ hgl5).trans HGB.out
          have z6 : wr.cell? ⟨w2.heap.size, 6, none⟩ = some (.slice dp g.disks.length dc) := by simp [World.cell?, hgw]
          have HB6 := Lib.hid hB6; clear hB6
          clear hgw
          obtain rfl : k = g.disks.length := by omega
          go_wp2_with fail
          refine (awake14_any _).mono ?_
          rintro e w7 ⟨rfl, hb7⟩
          have HB7 := Lib.hid ((HB2.out.trans (HBB.out.mono HB2.out.size)).trans ((HB6.out.trans (hb7.mono HB6.out.size)).mono (Nat.le_trans HB2.out.size HBB.out.size)))
          clear hb7
          go_wp2
          go_ret
          exact ⟨rfl, HB7.out⟩
    · obtain ⟨i, rfl⟩ : ∃ i, j = i + 1 := ⟨j - 1, by omega⟩
      have hji : (((i + 1 : Nat) : Int) - 1) = (i : Int) := by omega
      rw [hji]
      obtain ⟨x, hx⟩ := getSome g.vols i (by omega)
      obtain ⟨b, off, u, rfl, _, hbw, hul, hvv, hcv⟩ := HG2.out.v.elem hx
      obtain ⟨tv, sv, rfl, htr, hsr⟩ := hvv
      obtain ⟨tp', tc', rfl, _, _⟩ := htr.cap
      obtain ⟨sp', sc', rfl, _, _⟩ := hsr.cap
      have hbk := HBB.out.block b hbw
      have hcw : ∀ (q : Nat) (z : Value), [.string x.name, .int .u64 x.id, .bool x.hidden, .bool x.ro, .slice tp' x.tags.length tc', .slice sp' x.segs.length sc'][q]? = some z → wr.cell? ⟨b, off + i * 6 + q, none⟩ = some z := fun q z hz => (World.cell?_of_block (w := w2) (a := ⟨b, off + i * 6 + q, none⟩) hbk).trans (hcv q z hz)
      have hmv : Mv (fun _ => True) (fun q => q < w2.heap.size + 1) w2 wr := ⟨HBB.out.size, fun q hq _ => ⟨by omega, HBB.out.block q hq⟩⟩
      have hV : vVol (fun q => q < w2.heap.size + 1) wr [.string x.name, .int .u64 x.id, .bool x.hidden, .bool x.ro, .slice tp' x.tags.length tc', .slice sp' x.segs.length sc'] x := ⟨_, _, rfl, (RdS.moves vStr.moves).mv hmv htr, (RdS.moves vSeg.moves).mv hmv hsr⟩
      have HCW := Lib.hid hcw; clear hcw
      have HVV := Lib.hid hV; clear hV
      have hrx : g.vols.reverse[g.vols.length - (i + 1)]? = some x := by
        rw [List.getElem?_reverse (by omega), show g.vols.length - 1 - (g.vols.length - (i + 1)) = i by omega]
        exact hx
      have htk : g.vols.reverse.take (g.vols.length - i) = g.vols.reverse.take (g.vols.length - (i + 1)) ++ [x] := by
        rw [← take_snoc' _ _ _ hrx]
        congr 1
        omega
      have HTK := Lib.hid htk; clear htk hrx
      have g7 : wr.cell? ⟨w2.heap.size, 7, none⟩ = some (.slice (some ⟨b, off, none⟩) g.vols.length vc) := by simp [World.cell?, hgb]
      have HGG := Lib.hid g7
      have hin : i < g.vols.length := by omega
      clear hx hcv hbk hmv hul htr hsr hgb
      go_upto_region 8 with (fail)
      refine order_reg8 _ _ _ _ _ _ _ _ _ _ _ _ _ _ _ _ _ _ _ _ _ _ _ _ _ _ _ _ _ _ _ _ _ _ _ _ _ _ _ _ _ _ _ _ _ _ _ _ _ _ _ _ _ _ _ _ _ _ _ _ _ _ _ _ _ _ _ _ _ _ _ _ _ _ _ _ _ _ _ _ _ _ _ _ _ _ _ _ _ _ _ _ _ _ _ _ _ _ _ _ _ _ _ _ _ _ _ _ _ _ _ _ _ _ _ _ wr w2.heap.size (w2.heap.size + 1) b off i g.vols.length vc tc' sc' tp' sp' x hv _ _ _ _ _ _ _ _ _ hin (by rw [List.length_take]; omega) (by omega) (by omega) HGG.out HHB.out HCW.out HVV.out HO.out (Lib.hid ?_) ?hQ
      case hQ => exact fun _ _ _ _ _ h => h
      clear g7
      intro hv' w' u30 u31 u32 u33 u34 u35 u36 u37 u38 u39 hO' hh' hB'
      have HO' := Lib.hid hO'; clear hO'
      have HH' := Lib.hid hh'; clear hh'
      have HB' := Lib.hid hB'; clear hB'
      go_wp2
      go_roundw
      case rel => exact ⟨i, hv', rfl, by omega, by rw [HTK.out]; exact HO'.out, HH'.out, HB.out.trans HB'.out⟩
      case measure => simp [intOf] <;> omega

end Go.Proofs.Yteengifhndmjeaa
