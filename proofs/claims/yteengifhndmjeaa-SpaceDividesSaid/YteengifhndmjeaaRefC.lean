/- Contracts of the reference: Select, Normal. -/
import Derived.Test.YteengifhndmjeaaRefB
import Derived.Test.YteengifhndmjeaaRanH
namespace Go.Proofs.Yteengifhndmjeaa
open Go.RowKit

/-- append of a slice of ranges, nil or not, to one that the call owns. -/
theorem appR_run (w : World) (B : Nat) (v vx : Value) (l m : List (Int × Int)) (ty : TypeId) (hown : OwnR w B v l) (hx : RdR w vx m) (hlen : l.length + m.length ≤ 100000000) (hB : B ≤ w.heap.size) :
    ∃ v' w', (Builtin.append_ #[22, 22] ty #[v, vx]).run Try.prog w = .ok v' w' ∧ OwnR w' B v' (l ++ m) ∧ w.grownBy w' v.ownBlock := by
  obtain ⟨i0, hi, hz0, hz1, hz2⟩ := info_parts infoR
  obtain ⟨p, cap, rfl, hlc, hcap, hp⟩ := hx
  cases p with
  | none =>
    have hm : m = [] := by
      cases m with
      | nil => rfl
      | cons a m => obtain ⟨b, off, e, _⟩ := hp (by simp); cases e
    subst hm
    refine ⟨v, w, ?_, by simpa using hown, ⟨rfl, rfl, rfl, Nat.le_refl _, fun _ _ _ => rfl⟩⟩
    rcases hown.2 with ⟨rfl, hn⟩ | ⟨g, cap', cur, rfl, _, _, hnc, _⟩
    · simp [Builtin.append_, run_underlying Try.underlying22, sizeOf, typeInfo, hi, Builtin.lenOf, Builtin.firstCells]
    · simp [Builtin.append_, run_underlying Try.underlying22, sizeOf, typeInfo, hi, Builtin.lenOf, Builtin.firstCells, hnc, storeCells]
  | some a =>
    by_cases h0 : 0 < m.length
    · obtain ⟨b, off, e, hb, hc⟩ := hp h0
      cases e
      obtain ⟨v', w', hr, ho', hg, _⟩ := run_append_own (P := Try.prog) w B 22 ty 36 i0 _ 2 16 Try.underlying22 hi hz0 hz1 hz2 rfl (by decide) v l.length (cellsR l) hown ⟨b, off, none⟩ m.length cap (cellsR m) (cellsR_length m) (fun j u hu => by
        rw [Addr.add_lit]
        have hj : j < m.length * 2 := by rw [← cellsR_length]; exact (List.getElem?_eq_some_iff.1 hu).1
        obtain ⟨p, hp⟩ := getSome0 m (j / 2) (by omega)
        have h1 := cellsR_get m (j / 2) p hp
        have h2 := hc (j / 2) p hp
        rcases Nat.mod_two_eq_zero_or_one j with hm | hm
        · have e : j / 2 * 2 = j := by omega
          rw [e] at h1 h2
          rw [h1.1] at hu
          rw [h2.1, hu]
        · have e : j / 2 * 2 + 1 = j := by omega
          rw [e] at h1
          rw [h1.2] at hu
          rw [← hu, ← h2.2, Nat.add_assoc, e]) (cellsR_one _) (by unfold maxLen; omega) (by omega) hB
      refine ⟨v', w', hr, ?_, hg⟩
      unfold OwnR
      rw [cellsR_append, List.length_append]
      exact ho'
    · have hm : m = [] := List.eq_nil_of_length_eq_zero (by omega)
      subst hm
      obtain ⟨v', w', hr, ho', hg, _⟩ := run_append_own (P := Try.prog) w B 22 ty 36 i0 _ 2 16 Try.underlying22 hi hz0 hz1 hz2 rfl (by decide) v l.length (cellsR l) hown a 0 cap [] rfl (fun j u hu => by simp at hu) (fun u hu => by cases hu) (by unfold maxLen; omega) (by omega) hB
      refine ⟨v', w', hr, ?_, hg⟩
      unfold OwnR
      simpa using ho'

theorem wpl_appendRd {w : World} {ops : Array Oper} {rest : List Oper} {o : Oper} {a : Act} {Q : Exit → Act → World → Prop} (hgd : o.guard = none) (s x : Operand)
    (ho : o.op = .call { callee := .builtin .append, args := #[s, x], argTypes := #[22, 22] })
    (B : Nat) (v vx : Value) (l m : List (Int × Int)) (hs : a.eval s = v) (hx : a.eval x = vx) (hown : OwnR w B v l) (hrd : RdR w vx m) (hlen : l.length + m.length ≤ 100000000) (hB : B ≤ w.heap.size)
    (h : ∀ v' w', OwnR w' B v' (l ++ m) → Below B w w' → wpList Try.prog ops Q rest (a.put o.dst v') w') : wpList Try.prog ops Q (o :: rest) a w := by
  obtain ⟨v', w', hr, h1, h2⟩ := appR_run w B v vx l m o.type hown hrd hlen hB
  refine wpList_plain hgd fun K hK => ?_
  unfold Oper.wp
  simp only [execOp, ho, resolve, invoke, builtin, Sem.run_bind, Sem.run_pure, Result.andThen_ok, List.map_toArray, List.map_cons, List.map_nil, hs, hx, hr]
  exact hK _ _ (h v' w' h1 ((Below.refl B w).grown h2 hB (fun k hk => (hown.lt k hk).1)))

theorem points_bd {P : List Int} {l : List (Int × Int)} (hP : Points P (endsOf l)) (hv : valB l = true) : ∀ t ∈ P, 0 ≤ t ∧ t ≤ 1073741824 := fun t ht => by
  have h := (hP.2 t).1 ht
  unfold endsOf at h
  rw [List.mem_flatMap] at h
  obtain ⟨p, hp, h⟩ := h
  have := valB_bd hv p hp
  simp at h
  rcases h with rfl | rfl <;> omega
theorem endsOf_has (l : List (Int × Int)) : ∀ r ∈ l, r.1 ∈ endsOf l ∧ r.1 + r.2 ∈ endsOf l := fun r hr => by
  unfold endsOf
  rw [List.mem_flatMap, List.mem_flatMap]
  exact ⟨⟨r, hr, by simp⟩, ⟨r, hr, by simp⟩⟩
theorem valB_append (a b : List (Int × Int)) : valB (a ++ b) = (valB a && valB b) := by simp [valB]

/-- The reference's test: a piece is left out. -/
def skipB (kind : Int) (x y : Bool) : Bool := (kind == 0 && !x && !y) || (kind == 1 && (!x || y)) || (kind == 2 && (!x || !y))
theorem skip_sel (kind : Int) (h : kind = 0 ∨ kind = 1 ∨ kind = 2) (x y : Bool) : skipB kind x y = !selB kind x y := by
  rcases h with rfl | rfl | rfl <;> cases x <;> cases y <;> rfl

theorem glue_bd (M : Int) (l : List (Int × Int)) (h : Row l) (hb : ∀ p ∈ l, 0 ≤ p.1 ∧ 0 ≤ p.2 ∧ p.1 + p.2 ≤ M) : ∀ p ∈ glue l, 0 ≤ p.1 ∧ 0 ≤ p.2 ∧ p.1 + p.2 ≤ M := by
  rw [glue_merge l h]
  have := merge_bd M l hb l.length (Nat.le_refl _)
  rw [List.take_length] at this
  exact this

def RetSel (w : World) (S : Int → Prop) (N : Nat) (e : Ending) (w' : World) : Prop :=
  ∃ v x, e = .returned v ∧ OwnR w' w.heap.size v x ∧ NFof x S ∧ valB x = true ∧ x.length ≤ N ∧ Below w.heap.size w w'

set_option maxHeartbeats 4000000 in
set_option maxRecDepth 100000 in
theorem Select_any (a b : List (Int × Int)) (kind : Int) (hkd : kind = 0 ∨ kind = 1 ∨ kind = 2) (v1 v2 : Value) (w : World) (hr1 : RdR w v1 a) (hr2 : RdR w v2 b) (hv1 : valB a = true) (hv2 : valB b = true) (hl1 : a.length ≤ 400000) (hl2 : b.length ≤ 400000) :
    Calls Try.prog 36 #[v1, v2, .int .i64 kind] w (RetSel w (fun n => selB kind (inB a n) (inB b n) = true) (2 * (a.length + b.length))) := by
  have HV1 := Lib.hid hv1
  have HV2 := Lib.hid hv2
  have HKD := Lib.hid hkd
  clear hv1 hv2 hkd
  have hra := hr1
  have hrb := hr2
  obtain ⟨pa, ca, rfl, _⟩ := hra
  obtain ⟨pb, cb, rfl, _⟩ := hrb
  have HR1 := Lib.hid hr1
  have HR2 := Lib.hid hr2
  go_enter Try.func36, Try.ntmps36
  go_wp2_with (at_builtin; refine wpl_appendRd rfl _ _ rfl w.heap.size _ _ [] a rfl rfl (OwnR.nil _ _) hr1 (by simp; omega) (Nat.le_refl _) ?_)
  intro va w1 hoa0 hb1
  have hoa : OwnR w1 w.heap.size va a := by first | exact hoa0 | simpa using hoa0
  clear hr1 hoa0
  have hrb1 := hr2.below hb1
  clear hr2
  go_wp2_with (at_builtin; refine wpl_appendRd rfl _ _ rfl w.heap.size va _ a b rfl rfl hoa hrb1 (by omega) hb1.size ?_)
  intro vab w2 hoab hb2
  have hb02 : Below w.heap.size w w2 := hb1.trans hb2
  have ra : RdR w2 (.slice pa a.length ca) a := HR1.out.below hb02
  have rb : RdR w2 (.slice pb b.length cb) b := HR2.out.below hb02
  have hvab : valB (a ++ b) = true := by rw [valB_append, HV1.out, HV2.out]; rfl
  have HVAB := Lib.hid hvab
  clear hvab hoa hrb1 hb1 hb2
  go_wp2_with fail
  refine (refEnds_any (a ++ b) vab w2 hoab.rd HVAB.out (by simp; omega)).mono ?_
  rintro e w3 ⟨vp, P, rfl, hrp, hP, hPl, hb3⟩
  replace ra := ra.below hb3
  replace rb := rb.below hb3
  have hb03 := bel hb02 hb3
  have hPL : P.length ≤ 2 * (a.length + b.length) := by rw [endsOf_len] at hPl; simp at hPl; omega
  have HP := Lib.hid hP
  have HPB := Lib.hid (points_bd hP HVAB.out)
  clear hP hPl hoab hb3 hb02
  obtain ⟨qp, cp, rfl, hlp, hcapp, hpp⟩ := hrp
  obtain ⟨f, hf⟩ : ∃ f : Int → Bool, f = fun t => selB kind (memB a t) (memB b t) := ⟨_, rfl⟩
  have HF := Lib.hid hf
  clear hf
  go_wp2
  go_loopw [7, 9] (fun vo vn wr => ∃ m : Nat, m ≤ P.length ∧ vn = .int .i64 m ∧ OwnR wr w3.heap.size vo (glue (segs (P.take (m + 1)) f)) ∧ Below w3.heap.size w3 wr) (fun _ vn _ => P.length - (intOf vn).toNat)
  case atStart => exact ⟨0, Nat.zero_le _, rfl, by rw [segs_one]; exact OwnR.nil _ _, Below.refl _ _⟩
  case round =>
    obtain ⟨m, hm, rfl, hown, hb⟩ := hrel
    obtain ⟨o, ho⟩ : ∃ o, o = glue (segs (P.take (m + 1)) f) := ⟨_, rfl⟩
    rw [← ho] at hown
    have hol : o.length ≤ 2 * (a.length + b.length) := by
      rw [ho]
      have h1 := glue_len (segs (P.take (m + 1)) f)
      have h2 := segs_len f (P.take (m + 1))
      simp at h2
      omega
    have hsr := segs_row f (P.take (m + 1)) (HP.out.1.sublist (List.take_sublist _ _))
    have hobd : ∀ p ∈ o, 0 ≤ p.1 ∧ 0 ≤ p.2 ∧ p.1 + p.2 ≤ 1073741824 := by
      rw [ho]
      refine glue_bd 1073741824 _ hsr (fun r hr => ?_)
      have h1 := segs_part f (P.take (m + 1)) (HP.out.1.sublist (List.take_sublist _ _)) r hr
      have h2 := HPB.out _ (List.mem_of_mem_take h1.1)
      have h3 := HPB.out _ (List.mem_of_mem_take h1.2.1)
      omega
    have HO := Lib.hid ho
    clear ho hsr
    by_cases hlt : m + 1 < P.length
    · obtain ⟨bp, offp, rfl, hbps, hcp⟩ := hpp (by omega)
      obtain ⟨t, ht⟩ := getSome P m (by omega)
      obtain ⟨t2, ht2⟩ := getSome P (m + 1) hlt
      have hbw : bp < wr.heap.size := Nat.lt_of_lt_of_le hbps hb.size
      have hct0 := (hcp.below hb hbps) m t ht
      have hct20 := (hcp.below hb hbps) (m + 1) t2 ht2
      have hct := cell_ext hbw hct0
      obtain ⟨ht0, ht1⟩ := HPB.out t (List.mem_of_getElem? ht)
      obtain ⟨ht20, ht21⟩ := HPB.out t2 (List.mem_of_getElem? ht2)
      have htt : t < t2 := by
        obtain ⟨h1, e1⟩ := List.getElem?_eq_some_iff.1 ht
        obtain ⟨h2, e2⟩ := List.getElem?_eq_some_iff.1 ht2
        have := List.pairwise_iff_getElem.1 HP.out.1 m (m + 1) h1 h2 (by omega)
        omega
      have HT := Lib.hid ht
      have HT2 := Lib.hid ht2
      have RA := Lib.hid (fun (q : ExtBy) => (ra.below hb).below (below_ext wr q))
      have RB := Lib.hid (fun (q : ExtBy) => (rb.below hb).below (below_ext wr q))
      have hsg := segs_take P f m t t2 HT.out HT2.out
      have hft : f t = selB kind (memB a t) (memB b t) := by rw [HF.out]
      have HSG := Lib.hid hsg
      have HFT := Lib.hid hft
      clear ht ht2 hcp hpp hsg hft
      have hd22 : decide ((m : Int) + 1 < (P.length : Int)) = true := by simp; omega
      have hml : m < P.length := by omega
      go_wp2_with fail
      (refine wp_region_quiet_ext (by kernel_rfl) (by kernel_rfl) ?_; (repeat (go_big_quiet_step ((first | (go_at_call_of 26 (Value.slice pa a.length ca); exact ext_of (refHas_any a t _ _ (by omega) (RA.out _))) | (go_at_call_of 26 (Value.slice pb b.length cb); exact ext_of (refHas_any b t _ _ (by omega) (RB.out _))))))); (with_reducible refine wpQuiet_nil ?_); intro wq hwq; have hbq := ext_below hwq; clear hwq)
      have hownq := hown.below hbq
      have hbo := bel hb hbq
      have hctq := (hbq.cell (p := ⟨bp, offp + m, none⟩) hbw).trans hct0
      have hct2q := (hbq.cell (p := ⟨bp, offp + (m + 1), none⟩) hbw).trans hct20
      clear hown hct hct0 hct20 hb RA RB
      generalize hxa : memB a t = xa at *
      generalize hxb : memB b t = xb at *
      clear hxa hxb
      go_upto_region 7 with fail
      go_cut [69] (fun v wc => v = .bool (skipB kind xa xb) ∧ wc = wq)
      case first =>
        rcases HKD.out with rfl | rfl | rfl
        all_goals
          cases xa <;> cases xb
          all_goals
            go_wp2
            go_meet
            exact ⟨rfl, by first | rfl | trivial⟩
      case rest =>
        obtain ⟨rfl, rfl⟩ := hcut
        rw [skip_sel kind HKD.out, ← HFT.out]
        cases hft : f t
        · have hsg : glue (segs (P.take (m + 1 + 1)) f) = o := by rw [HSG.out, hft, HO.out]; simp
          have HSG2 := Lib.hid hsg
          clear hsg
          go_wp2
          go_roundw
          case rel => exact ⟨m + 1, by omega, by go_num, by rw [HSG2.out]; exact hownq, hbo⟩
          case measure => simp [intOf]; omega
        · have hsg : glue (segs (P.take (m + 1 + 1)) f) = glueStep o (t, t2 - t) := by rw [HSG.out, hft, HO.out]; simp only [if_true]; exact glue_snoc _ _
          have HSG2 := Lib.hid hsg
          clear hsg
          rcases List.eq_nil_or_concat o with rfl | ⟨i, q, rfl⟩
          · obtain ⟨p3, cap3, rfl, _, _, _⟩ := hownq.rd
            go_wp2
            go_quiet (fail)
            go_wp2
            (refine wp_region_mtail_drew _ 16 (by kernel_rfl) rfl rfl (by kernel_rfl) (by kernel_rfl) (fun _ _ _ _ h => h) (by go_simp; rfl) ?_; simp only [List.take_succ_cons, List.take_zero, List.drop_succ_cons, List.drop_zero]; (repeat (go_big_quiet_step (fail))); (with_reducible refine wpQuiet_nil ?_); intro wq hwq; obtain ⟨nq, hwq⟩ := hwq; subst hwq)
            go_wp2_with (at_builtin; refine wpl_appendR rfl _ _ rfl w3.heap.size _ [] (t, t2 - t) rfl ?c1 wc.heap.size 1 rfl ?c2 ?c3 (by simp) ?c4 ?_)
            case c1 => refine hownq.below ?_; (repeat' (first | exact Below.refl _ _ | exact Nat.le_refl _ | (refine Below.alloc ?_ ?_ _) | (refine bdrewN ?_ _) | (refine Below.drew ?_) | (simp; done) | (simp; omega)))
            try (case c2 => exact cell_new (by simp) rfl)
            try (case c3 => exact cell_new (by simp) rfl)
            case c4 => have := hbo.size; simp; omega
            intro v8 w8 ho8 hb8 _
            have hb9 : Below w3.heap.size w3 w8 := (hbo.trans (by refine Below.mono (B := wc.heap.size) ?_ hbo.size; (repeat' (first | exact Below.refl _ _ | exact Nat.le_refl _ | (refine Below.alloc ?_ ?_ _) | (refine bdrewN ?_ _) | (refine Below.drew ?_) | (simp; done) | (simp; omega))))).trans hb8
            clear hb8 hownq
            go_wp2
            go_roundw
            case rel => exact ⟨m + 1, by omega, by go_num, by rw [HSG2.out]; exact ho8, hb9⟩
            case measure => simp [intOf]; omega
          · simp only [List.concat_eq_append] at *
            have hq := hobd q (by simp)
            obtain ⟨hq0, hq1, hq2⟩ := hq
            clear hobd
            obtain ⟨g, cap3, rfl, hgB, hgs, hgc, hgm, hcq1, hcq2, hfz, hst⟩ := hownq.last
            have hil : i.length + 1 ≤ 10000000 := by simp at hol; omega
            clear hst
            by_cases he : q.1 + q.2 = t
            · have hbe : (q.1 + q.2 == t) = true := by simp [he]
              have hgl : glueStep (i ++ [q]) (t, t2 - t) = i ++ [(q.1, q.2 + (t2 - t))] := by
                unfold glueStep
                simp [he]
              have HGL := Lib.hid hgl
              have HE := Lib.hid he
              clear hgl he
              go_wp2
              go_quiet (fail)
              go_wp2
              (refine wp_region_tail_drew 19 (by kernel_rfl) (by kernel_rfl) ?_; simp only [List.take_succ_cons, List.take_zero, List.drop_succ_cons, List.drop_zero]; (repeat (go_big_quiet_step (fail))); (with_reducible refine wpQuiet_nil ?_); intro wq hwq; obtain ⟨nq, hwq⟩ := hwq; subst hwq)
              go_wp2
              go_roundw
              case rel =>
                refine ⟨m + 1, by omega, by go_num, ?_, ?_⟩
                · rw [HSG2.out, HGL.out]
                  refine OwnR.setLast ?_ _
                  refine hownq.below ?_
                  (repeat' (first | exact Below.refl _ _ | exact Nat.le_refl _ | (refine Below.alloc ?_ ?_ _) | (refine bdrewN ?_ _) | (refine Below.drew ?_) | (simp; done) | (simp; omega)))
                · refine Below.setCell ?_ (by exact hgB) _
                  refine hbo.trans ?_
                  refine Below.mono (B := wc.heap.size) ?_ hbo.size
                  (repeat' (first | exact Below.refl _ _ | exact Nat.le_refl _ | (refine Below.alloc ?_ ?_ _) | (refine bdrewN ?_ _) | (refine Below.drew ?_) | (simp; done) | (simp; omega)))
              case measure => simp [intOf]; omega
            · have hbe : (q.1 + q.2 == t) = false := by simp [he]
              have hgl : glueStep (i ++ [q]) (t, t2 - t) = i ++ [q] ++ [(t, t2 - t)] := by
                unfold glueStep
                simp [he]
              have HGL := Lib.hid hgl
              clear hgl he
              go_wp2
              go_quiet (fail)
              go_wp2
              (refine wp_region_mtail_drew _ 16 (by kernel_rfl) rfl rfl (by kernel_rfl) (by kernel_rfl) (fun _ _ _ _ h => h) (by go_simp; rfl) ?_; simp only [List.take_succ_cons, List.take_zero, List.drop_succ_cons, List.drop_zero]; (repeat (go_big_quiet_step (fail))); (with_reducible refine wpQuiet_nil ?_); intro wq hwq; obtain ⟨nq, hwq⟩ := hwq; subst hwq)
              go_wp2_with (at_builtin; refine wpl_appendR rfl _ _ rfl w3.heap.size _ (i ++ [q]) (t, t2 - t) rfl ?c1 wc.heap.size 1 rfl ?c2 ?c3 (by simp; omega) ?c4 ?_)
              case c1 => refine hownq.below ?_; (repeat' (first | exact Below.refl _ _ | exact Nat.le_refl _ | (refine Below.alloc ?_ ?_ _) | (refine bdrewN ?_ _) | (refine Below.drew ?_) | (simp; done) | (simp; omega)))
              try (case c2 => exact cell_new (by simp) rfl)
              try (case c3 => exact cell_new (by simp) rfl)
              case c4 => have := hbo.size; simp; omega
              intro v8 w8 ho8 hb8 _
              have hb9 : Below w3.heap.size w3 w8 := (hbo.trans (by refine Below.mono (B := wc.heap.size) ?_ hbo.size; (repeat' (first | exact Below.refl _ _ | exact Nat.le_refl _ | (refine Below.alloc ?_ ?_ _) | (refine bdrewN ?_ _) | (refine Below.drew ?_) | (simp; done) | (simp; omega))))).trans hb8
              clear hb8 hownq
              go_wp2
              go_roundw
              case rel => exact ⟨m + 1, by omega, by go_num, by rw [HSG2.out, HGL.out]; first | exact ho8 | simpa using ho8, hb9⟩
              case measure => simp [intOf]; omega
    · have hd22 : decide ((m : Int) + 1 < (P.length : Int)) = false := by simp; omega
      have hsg : glue (segs P f) = o := by
        have := HO.out
        rw [List.take_of_length_le (by omega)] at this
        exact this.symm
      have hok := glue_segs_ok P f HP.out.1
      rw [hsg] at hok
      have HOK := Lib.hid hok
      have HBD2 := Lib.hid hobd
      clear hsg hok hobd
      go_wp2
      go_ret
      have hnf : NFof o fun n => selB kind (inB a n) (inB b n) = true := by
        refine ⟨HOK.out.1, fun n => (HOK.out.2 n).trans ?_⟩
        have hff : f = fun t => selB kind (inB a t) (inB b t) := by
          rw [HF.out]
          funext t
          rw [memB_in a t HV1.out, memB_in b t HV2.out]
        rw [hff]
        refine segs_choose a b (selB kind) (by rcases HKD.out with rfl | rfl | rfl <;> rfl) P HP.out.1 (fun r hr => ?_) n
        have := endsOf_has (a ++ b) r (by rw [List.mem_append]; exact hr)
        exact ⟨(HP.out.2 _).2 this.1, (HP.out.2 _).2 this.2⟩
      refine ⟨_, o, rfl, hown.mono hb03.size, hnf, ?_, hol, bel hb03 hb⟩
      unfold valB
      rw [List.all_eq_true]
      intro r hr
      have := HBD2.out r hr
      unfold vldB
      simp
      omega

end Go.Proofs.Yteengifhndmjeaa
