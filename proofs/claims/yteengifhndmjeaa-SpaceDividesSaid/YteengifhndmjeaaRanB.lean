/- The contract of ranges.normal: the normal form of valid ranges. -/
import Derived.Test.YteengifhndmjeaaRanA
import Derived.Test.YteengifhndmjeaaRanM
import Derived.Test.YteengifhndmjeaaBri
import Derived.Test.YteengifhndmjeaaShelf
import Derived.WalkSpells
namespace Go.Proofs.Yteengifhndmjeaa
open Go.RowKit Go.Sort

set_option maxHeartbeats 400000 in
theorem clone_any (l : List (Int × Int)) (v : Value) (w : World) (hr : RdR w v l) (hlen : l.length ≤ 100000000) :
    Calls Try.prog 67 #[v] w fun e w' => ∃ v', e = .returned v' ∧ OwnR w' w.heap.size v' l ∧ Below w.heap.size w w' := by
  obtain ⟨p, cap, rfl, hlc, hcap, hp⟩ := hr
  cases p with
  | none =>
    have hl : l = [] := by
      cases l with
      | nil => rfl
      | cons a l => obtain ⟨b, off, e, _⟩ := hp (by simp); cases e
    subst hl
    refine (AnyE.slices_Clone_nil Try.cloneR _ _ w).mono ?_
    rintro e w' ⟨rfl, rfl⟩
    exact ⟨_, rfl, OwnR.nil _ _, Below.refl _ _⟩
  | some a =>
    by_cases h0 : 0 < l.length
    · obtain ⟨b, off, e, hb, hc⟩ := hp h0
      cases e
      obtain ⟨i0, hi, hz0, hz1, hz2⟩ := info_parts infoR
      refine (AnyE.slices_Clone Try.cloneR i0 _ 2 16 hi hz0 hz1 hz2 rfl (by decide) Try.sizeOf36 b off l.length cap (cellsR l) w (cellsR_length l) (by unfold maxLen; omega) (by omega) (fun j u hu => ?_) (cellsR_one l)).mono ?_
      · have hj : j < l.length * 2 := by rw [← cellsR_length]; exact (List.getElem?_eq_some_iff.1 hu).1
        obtain ⟨p, hp⟩ := getSome0 l (j / 2) (by omega)
        have h1 := cellsR_get l (j / 2) p hp
        have h2 := hc (j / 2) p hp
        rcases Nat.mod_two_eq_zero_or_one j with hm | hm
        · have e : j / 2 * 2 = j := by omega
          rw [e] at h1 h2
          rw [h1.1] at hu
          rw [h2.1, hu]
        · have e : j / 2 * 2 + 1 = j := by omega
          rw [e] at h1
          rw [h1.2] at hu
          rw [← hu, ← h2.2, Nat.add_assoc, e]
      · rintro e w' ⟨v', rfl, ho, _, hb'⟩
        exact ⟨v', rfl, ho, hb'⟩
    · have hl : l = [] := List.eq_nil_of_length_eq_zero (by omega)
      subst hl
      have q22 : ∀ (w : World) (a : Option Addr) (n c n' c' : Nat), (binOp .eql 22 (.slice a n c) (.slice none n' c')).run Try.prog w = .ok (.bool a.isNone) w := fun w a n c n' c' => Lib.run_eql_slice_nil w _ _ a n c n' c' Try.underlying22
      show Calls Try.prog _ #[.slice (some a) 0 cap] w _
      go_enter Try.func67, Try.ntmps67
      go_wp2
      go_ret
      refine ⟨_, rfl, ?_, (Below.refl _ _).alloc (Nat.le_refl _) _⟩
      exact World.ownsRow_made w #[] 0 (Nat.le_refl _) (by unfold maxLen; omega) rfl

set_option maxHeartbeats 400000 in
theorem closure_any (x y : Int × Int) (W : World) : Calls Try.prog 69 #[.agg #[.int .i64 x.1, .int .i64 x.2], .agg #[.int .i64 y.1, .int .i64 y.2]] W fun e w' => e = .returned (.int .i64 (Lib.compareInt x.1 y.1)) ∧ ∃ q os', w' = grow (W.drewN q) os' := by
  have hcon := fun W' => Any.cmp_Compare_int Try.lays122 x.1 y.1 W'
  change ∀ W', Calls Try.prog 70 _ _ _ at hcon
  generalize Lib.compareInt x.1 y.1 = r at hcon ⊢
  go_enter Try.func69, Try.ntmps69
  go_wp2_with (go_at_call 70; refine (hcon _).mono ?_; rintro e w' ⟨rfl, rfl⟩)
  go_ret
  exact ⟨rfl, 0, _, by rw [alloc_eq_grow, alloc_eq_grow, grow_grow]; rfl⟩

theorem cmpLays_any (blk off size : Nat) (w : World) : CmpLays Try.prog 69 #[] encR 2 (fun x y => Lib.compareInt x.1 y.1) blk off size w :=
  fun _ _ _ _ x y => closure_any x y _

theorem ltLo (x y : Int × Int) : ltOf (fun x y : Int × Int => Lib.compareInt x.1 y.1) x y = decide (x.1 < y.1) := by
  unfold ltOf Lib.compareInt
  by_cases h1 : x.1 < y.1
  · simp [h1]
  · by_cases h2 : y.1 < x.1 <;> simp [h1, h2]
theorem swoLo : SWO (ltOf fun x y : Int × Int => Lib.compareInt x.1 y.1) where
  irrefl x := by rw [ltLo]; simp
  trans x y z h1 h2 := by rw [ltLo] at *; simp at *; omega
  ntrans x y z h1 h2 := by rw [ltLo] at *; simp at *; omega

theorem sort_any (B : Nat) (l : List (Int × Int)) (v : Value) (w : World) (ho : OwnR w B v l) (hlen : l.length ≤ 100000000) :
    Calls Try.prog 68 #[v, .func (.func 69) #[] #[]] w fun e w' => e = .returned (.tuple #[]) ∧ ∃ s, s.Perm l ∧ (s.Pairwise fun p q => p.1 ≤ q.1) ∧ OwnR w' B v s ∧ Below B w w' := by
  by_cases h0 : 0 < l.length
  · obtain ⟨g, cap, rfl, hB, hg, hc, hH⟩ := ho.holds h0
    have eg : ∀ args w, (callFunc 69 args).run Try.prog w = .ok (.enter 69 args) w := enters_of Try.func69 (by kernel_rfl) rfl
    have hcon := AnyQ.slices_SortFunc Try.sortR 2 Try.isAgg36 Try.sizeOf36 encR (fun _ => rfl) (fun x v hv => by simp [encR] at hv; rcases hv with rfl | rfl <;> rfl) (fun x y => Lib.compareInt x.1 y.1) swoLo 69 #[] g 0 cap l.toArray w eg (cmpLays_any g 0 l.toArray.size w) hH hg (by simp; omega)
    change Calls Try.prog 68 _ _ _ at hcon
    refine hcon.mono ?_
    rintro e w' ⟨rfl, d', n, os, hp, hs, rfl⟩
    obtain ⟨a, b, c⟩ := perm_sorted l d' hp hs
    have := OwnR.sorted (n := n) (os := os) ho b
    exact ⟨rfl, d'.toList, a, c, this.1, this.2⟩
  · have hl : l = [] := List.eq_nil_of_length_eq_zero (by omega)
    subst hl
    obtain ⟨p, cap, rfl, _⟩ := ho.rd
    refine (AnyF.slices_SortFunc_none Try.sortR p cap _ w).mono ?_
    rintro e w' ⟨rfl, rfl⟩
    exact ⟨rfl, [], List.Perm.refl _, List.Pairwise.nil, ho, Below.refl _ _⟩

/-- What a call that makes a normal form leaves: a slice of its own. -/
def RetNF (w : World) (S : Int → Prop) (N : Nat) (e : Ending) (w' : World) : Prop :=
  ∃ v x, e = .returned v ∧ OwnR w' w.heap.size v x ∧ NFof x S ∧ x.length ≤ N ∧ Below w.heap.size w w'

theorem valB_bd {l : List (Int × Int)} (h : valB l = true) : ∀ p ∈ l, 0 ≤ p.1 ∧ 0 ≤ p.2 ∧ p.1 + p.2 ≤ 1073741824 := fun p hp => by
  unfold valB at h
  have := vldB_bd (List.all_eq_true.1 h p hp)
  omega

theorem mergeStep_len (o : List (Int × Int)) (r : Int × Int) : (mergeStep o r).length ≤ o.length + 1 := by
  unfold mergeStep
  split
  · omega
  · split
    · simp
    · split
      · simp only [List.length_append, List.length_dropLast, List.length_singleton]; omega
      · simp
theorem merge_len (l : List (Int × Int)) (k : Nat) (hk : k ≤ l.length) : (merge (l.take k)).length ≤ k := by
  induction k with
  | zero => simp [merge]
  | succ k ih =>
    obtain ⟨x, hx⟩ := getSome l k (by omega)
    rw [take_snoc' l k x hx, merge_snoc]
    have := mergeStep_len (merge (l.take k)) x
    have := ih (by omega)
    omega

/-- The numbers of a merged list stay small. -/
theorem mergeStep_bd (M : Int) (o : List (Int × Int)) (r : Int × Int) (ho : ∀ p ∈ o, 0 ≤ p.1 ∧ 0 ≤ p.2 ∧ p.1 + p.2 ≤ M) (hr : 0 ≤ r.1 ∧ 0 ≤ r.2 ∧ r.1 + r.2 ≤ M) : ∀ p ∈ mergeStep o r, 0 ≤ p.1 ∧ 0 ≤ p.2 ∧ p.1 + p.2 ≤ M := by
  intro p hp
  unfold mergeStep at hp
  split at hp
  · exact ho p hp
  · split at hp
    · rcases List.mem_append.1 hp with hp | hp
      · exact ho p hp
      · simp at hp; subst hp; exact hr
    · rename_i q hq
      have hqm := ho q (List.mem_of_getLast? hq)
      split at hp
      · rcases List.mem_append.1 hp with hp | hp
        · exact ho p (List.dropLast_subset o hp)
        · simp at hp; subst hp; simp only []; omega
      · rcases List.mem_append.1 hp with hp | hp
        · exact ho p hp
        · simp at hp; subst hp; exact hr
theorem merge_bd (M : Int) (l : List (Int × Int)) (h : ∀ p ∈ l, 0 ≤ p.1 ∧ 0 ≤ p.2 ∧ p.1 + p.2 ≤ M) (k : Nat) (hk : k ≤ l.length) : ∀ p ∈ merge (l.take k), 0 ≤ p.1 ∧ 0 ≤ p.2 ∧ p.1 + p.2 ≤ M := by
  induction k with
  | zero => simp [merge]
  | succ k ih =>
    obtain ⟨x, hx⟩ := getSome l k (by omega)
    rw [take_snoc' l k x hx, merge_snoc]
    exact mergeStep_bd M _ x (ih (by omega)) (h x (List.mem_of_getElem? hx))

theorem merge_zero (s : List (Int × Int)) (k : Nat) (x : Int × Int) (hx : s[k]? = some x) (h0 : x.2 = 0) : merge (s.take (k + 1)) = merge (s.take k) := by
  rw [take_snoc' s k x hx, merge_snoc]
  unfold mergeStep
  rw [if_pos h0]
theorem merge_first (s : List (Int × Int)) (k : Nat) (x : Int × Int) (hx : s[k]? = some x) (h0 : x.2 ≠ 0) (ho : merge (s.take k) = []) : merge (s.take (k + 1)) = merge (s.take k) ++ [x] := by
  rw [take_snoc' s k x hx, merge_snoc]
  unfold mergeStep
  rw [if_neg h0, ho]
  rfl
theorem merge_apart (s : List (Int × Int)) (k : Nat) (x : Int × Int) (hx : s[k]? = some x) (h0 : x.2 ≠ 0) (i : List (Int × Int)) (q : Int × Int) (ho : merge (s.take k) = i ++ [q]) (hq : ¬ x.1 ≤ q.1 + q.2) : merge (s.take (k + 1)) = i ++ [q] ++ [x] := by
  rw [take_snoc' s k x hx, merge_snoc]
  unfold mergeStep
  rw [if_neg h0, ho]
  simp [hq]
theorem merge_glue (s : List (Int × Int)) (k : Nat) (x : Int × Int) (hx : s[k]? = some x) (h0 : x.2 ≠ 0) (i : List (Int × Int)) (q : Int × Int) (ho : merge (s.take k) = i ++ [q]) (hq : x.1 ≤ q.1 + q.2) : merge (s.take (k + 1)) = i ++ [(q.1, max q.2 (x.1 + x.2 - q.1))] := by
  rw [take_snoc' s k x hx, merge_snoc]
  unfold mergeStep
  rw [if_neg h0, ho]
  simp [hq]

set_option maxHeartbeats 1000000 in
set_option maxRecDepth 100000 in
theorem normal_any (l : List (Int × Int)) (v : Value) (w : World) (hr : RdR w v l) (hval : valB l = true) (hlen : l.length ≤ 10000000) :
    Calls Try.prog 48 #[v] w (RetNF w (Mem l) l.length) := by
  have HV := Lib.hid hval; clear hval
  go_enter Try.func48, Try.ntmps48
  go_wp2_with fail
  refine (clone_any l v w hr (by omega)).mono ?_
  rintro e w1 ⟨v1, rfl, ho1, hb1⟩
  go_wp2_with fail
  refine (sort_any w.heap.size l v1 w1 ho1 (by omega)).mono ?_
  rintro e w2 ⟨rfl, s, hp, hs, ho2, hb2⟩
  have hb02 : Below w.heap.size w w2 := hb1.trans hb2
  have hsl : s.length = l.length := hp.length_eq
  have HP := Lib.hid hp
  have HS := Lib.hid hs
  have HL := Lib.hid hsl
  have hsn : s.length ≤ 10000000 := by omega
  clear hp hs hsl
  obtain ⟨p2, cap2, rfl, hlc2, hcap2, hp2⟩ := ho2.rd
  clear ho1 ho2 hb1 hb2 hr
  go_wp2
  go_loopw [4, 14] (fun vo i wr => ∃ k : Nat, k ≤ s.length ∧ i = .int .i64 k ∧ OwnR wr w2.heap.size vo (merge (s.take k)) ∧ Below w2.heap.size w2 wr) (fun _ i _ => s.length - (intOf i).toNat)
  case atStart => exact ⟨0, Nat.zero_le _, rfl, OwnR.nil _ _, Below.refl _ _⟩
  case round =>
    obtain ⟨k, hk, rfl, hown, hb⟩ := hrel
    by_cases hlt : k < s.length
    · obtain ⟨x, hx⟩ := getSome s k hlt
      obtain ⟨b, off, rfl, hbs, hc⟩ := hp2 (by omega)
      have hcc := (hc.below hb hbs) k x hx
      have hc1 := hcc.1
      have hc2 := hcc.2
      have hbw : b < wr.heap.size := Nat.lt_of_lt_of_le hbs hb.size
      have hbd := valB_bd HV.out x (HP.out.mem_iff.1 (List.mem_of_getElem? hx))
      obtain ⟨hx0, hx1, hx2⟩ := hbd
      have hobd := merge_bd 1073741824 s (fun p hp => valB_bd HV.out p (HP.out.mem_iff.1 hp)) k hk
      have hol := merge_len s k hk
      have HX := Lib.hid hx
      clear hc hp2 hcc hx
      obtain ⟨o, ho⟩ : ∃ o, o = merge (s.take k) := ⟨_, rfl⟩
      rw [← ho] at hown hobd hol
      have HO := Lib.hid ho
      clear ho
      by_cases h0 : x.2 = 0
      · have h0' : (x.2 == 0) = true := by simp [h0]
        have H0 := Lib.hid h0
        clear h0
        go_wp2
        go_roundw
        case rel => exact ⟨k + 1, by omega, by go_num, by rw [merge_zero s k x HX.out H0.out, ← HO.out]; exact hown.alloc _, hb.alloc hb.size _⟩
        case measure => simp [intOf]; omega
      · have h0' : (x.2 == 0) = false := by simp [h0]
        have H0 := Lib.hid h0
        clear h0
        rcases List.eq_nil_or_concat o with rfl | ⟨i, q, rfl⟩
        · obtain ⟨p3, cap3, rfl, _, _, _⟩ := hown.rd
          go_wp2
          go_quiet (fail)
          go_wp2_with (at_builtin; refine wpl_appendR rfl _ _ rfl w2.heap.size _ [] x rfl ?c1 (wr.heap.size + 1) 1 rfl ?c2 ?c3 (by simp) ?c4 ?_)
          case c1 => refine hown.below ?_; (repeat' (first | exact Below.refl _ _ | exact Nat.le_refl _ | (refine Below.alloc ?_ ?_ _) | (refine bdrewN ?_ _) | (refine Below.drew ?_) | (simp; done) | (simp; omega)))
          case c2 => go_simp
          case c3 => go_simp
          case c4 => have := hb.size; simp; omega
          intro v4 w4 ho4 hb4 _
          have hb5 : RowKit.Below w2.heap.size w2 w4 := (hb.trans (by refine RowKit.Below.mono (B := wr.heap.size) ?_ hb.size; (repeat' (first | exact Below.refl _ _ | exact Nat.le_refl _ | (refine Below.alloc ?_ ?_ _) | (refine bdrewN ?_ _) | (refine Below.drew ?_) | (simp; done) | (simp; omega))))).trans hb4
          go_wp2
          go_roundw
          case rel => exact ⟨k + 1, by omega, by go_num, by rw [merge_first s k x HX.out H0.out HO.out.symm, ← HO.out]; exact ho4, hb5⟩
          case measure => simp [intOf]; omega
        · simp only [List.concat_eq_append] at *
          have hq := hobd q (by simp)
          obtain ⟨hq0, hq1, hq2⟩ := hq
          clear hobd
          obtain ⟨g, cap3, rfl, hgB, hgs, hgc, hgm, hcq1, hcq2, hfz, hst⟩ := hown.last
          have hlen1 : i.length + 1 ≤ k := by simpa using hol
          clear hol
          by_cases hle : x.1 ≤ q.1 + q.2
          · go_wp2
            go_quiet (fail)
            go_wp2
            (refine wp_region_tail_drew 21 (by kernel_rfl) (by kernel_rfl) ?_; simp only [List.take_succ_cons, List.take_zero, List.drop_succ_cons, List.drop_zero]; (repeat (go_big_quiet_step (fail))); (with_reducible refine wpQuiet_nil ?_); intro wq hwq; obtain ⟨nq, hwq⟩ := hwq; subst hwq)
            go_wp2
            go_roundw
            case rel =>
              refine ⟨k + 1, by omega, by go_num, ?_, ?_⟩
              · rw [merge_glue s k x HX.out H0.out i q HO.out.symm hle]
                refine OwnR.setLast ?_ _
                refine hown.below ?_
                (repeat' (first | exact Below.refl _ _ | exact Nat.le_refl _ | (refine Below.alloc ?_ ?_ _) | (refine bdrewN ?_ _) | (refine Below.drew ?_) | (simp; done) | (simp; omega)))
              · refine RowKit.Below.setCell ?_ (by exact hgB) _
                refine hb.trans ?_
                refine RowKit.Below.mono (B := wr.heap.size) ?_ hb.size
                (repeat' (first | exact Below.refl _ _ | exact Nat.le_refl _ | (refine Below.alloc ?_ ?_ _) | (refine bdrewN ?_ _) | (refine Below.drew ?_) | (simp; done) | (simp; omega)))
            case measure => simp [intOf]; omega
          · have hle' : decide (x.1 ≤ q.1 + q.2) = false := by simp; omega
            go_wp2
            go_quiet (fail)
            go_wp2_with (at_builtin; refine wpl_appendR rfl _ _ rfl w2.heap.size _ (i ++ [q]) x rfl ?c1 (wr.heap.size + 1) 1 rfl ?c2 ?c3 (by simp; omega) ?c4 ?_)
            case c1 => refine hown.below ?_; (repeat' (first | exact Below.refl _ _ | exact Nat.le_refl _ | (refine Below.alloc ?_ ?_ _) | (refine bdrewN ?_ _) | (refine Below.drew ?_) | (simp; done) | (simp; omega)))
            case c2 => go_simp
            case c3 => go_simp
            case c4 => have := hb.size; simp; omega
            intro v4 w4 ho4 hb4 _
            have hb5 : RowKit.Below w2.heap.size w2 w4 := (hb.trans (by refine RowKit.Below.mono (B := wr.heap.size) ?_ hb.size; (repeat' (first | exact Below.refl _ _ | exact Nat.le_refl _ | (refine Below.alloc ?_ ?_ _) | (refine bdrewN ?_ _) | (refine Below.drew ?_) | (simp; done) | (simp; omega))))).trans hb4
            go_wp2
            go_roundw
            case rel => exact ⟨k + 1, by omega, by go_num, by rw [merge_apart s k x HX.out H0.out i q HO.out.symm (by omega)]; simpa using ho4, hb5⟩
            case measure => simp [intOf]; omega
    · go_wp2
      go_ret
      have hkn : k = s.length := by omega
      subst hkn
      rw [List.take_length] at hown
      refine ⟨_, _, rfl, hown.mono hb02.size, merge_perm l s HP.out HS.out (fun p hp => (valB_bd HV.out p hp).2.1), ?_, hb02.trans (hb.mono hb02.size)⟩
      have := merge_len s s.length (Nat.le_refl _)
      rw [List.take_length] at this
      have := HL.out
      omega
end Go.Proofs.Yteengifhndmjeaa
