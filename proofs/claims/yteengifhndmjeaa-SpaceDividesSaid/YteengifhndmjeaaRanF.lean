/- Contracts: ranges.combine, Union, Minus, Meet. Contracts: Union, Minus, Meet, Equal; awake. -/
import Derived.Test.YteengifhndmjeaaRanE
import Derived.Shelf.SlSortCmp.Insertion
import Derived.Deep.DeepCutAuto
import Derived.Deep.CutBlock
import Derived.Shelf.SlicesQ.Equal
namespace Go.Proofs.Yteengifhndmjeaa
open Go.RowKit

theorem NFof_valB {x l : List (Int × Int)} (hx : NFof x (Mem l)) (hv : valB l = true) : valB x = true := by
  unfold valB
  rw [List.all_eq_true]
  intro p hp
  have := NFof_bd hx hv p hp
  unfold vldB
  simp
  omega

/-- Points among small numbers. -/
theorem segs_valB (P : List Int) (f : Int → Bool) (hs : P.Pairwise (· < ·)) (hb : ∀ t ∈ P, 0 ≤ t ∧ t ≤ 1073741824) : valB (segs P f) = true := by
  unfold valB
  rw [List.all_eq_true]
  intro r hr
  have h1 := segs_part f P hs r hr
  have h2 := hb _ h1.1
  have h3 := hb _ h1.2.1
  unfold vldB
  simp
  omega

theorem endsLL_bd (a b : List (Int × Int)) (ha : valB a = true) (hb : valB b = true) : ∀ t ∈ endsLL [a, b], 0 ≤ t ∧ t ≤ 1073741824 := by
  intro t ht
  simp only [endsLL, List.flatMap_cons, List.flatMap_nil, List.append_nil, List.mem_append] at ht
  have key : ∀ l : List (Int × Int), valB l = true → t ∈ endsOf l → 0 ≤ t ∧ t ≤ 1073741824 := fun l hl h => by
    unfold endsOf at h
    rw [List.mem_flatMap] at h
    obtain ⟨p, hp, h⟩ := h
    have := valB_bd hl p hp
    simp at h
    rcases h with rfl | rfl <;> omega
  rcases ht with h | h
  · exact key a ha h
  · exact key b hb h
theorem endsLL_has (a b : List (Int × Int)) : ∀ r, r ∈ a ∨ r ∈ b → r.1 ∈ endsLL [a, b] ∧ r.1 + r.2 ∈ endsLL [a, b] := by
  intro r hr
  simp only [endsLL, List.flatMap_cons, List.flatMap_nil, List.append_nil, List.mem_append]
  have key : ∀ l : List (Int × Int), r ∈ l → r.1 ∈ endsOf l ∧ r.1 + r.2 ∈ endsOf l := fun l hl => by
    unfold endsOf
    rw [List.mem_flatMap, List.mem_flatMap]
    exact ⟨⟨r, hl, by simp⟩, ⟨r, hl, by simp⟩⟩
  rcases hr with h | h
  · exact ⟨.inl (key a h).1, .inl (key a h).2⟩
  · exact ⟨.inr (key b h).1, .inr (key b h).2⟩

/-- How far a pointer into a normal form has come: all before it end at n or earlier. -/
def Past (a : List (Int × Int)) (i : Nat) (n : Int) : Prop := ∀ p ∈ a.take i, p.1 + p.2 ≤ n
theorem Past_zero (a : List (Int × Int)) (n : Int) : Past a 0 n := by intro p hp; simp at hp
theorem Past_snoc {a : List (Int × Int)} {i : Nat} {n : Int} {x : Int × Int} (h : Past a i n) (hx : a[i]? = some x) (hn : x.1 + x.2 ≤ n) : Past a (i + 1) n := by
  unfold Past
  rw [take_snoc' a i x hx]
  intro p hp
  rcases List.mem_append.1 hp with hp | hp
  · exact h p hp
  · simp at hp; subst hp; exact hn
theorem Past_le {a : List (Int × Int)} {i : Nat} {n m : Int} (h : Past a i n) (hm : n ≤ m) : Past a i m := fun p hp => by have := h p hp; omega

theorem past_in {a : List (Int × Int)} (ha : NF a) {i : Nat} {n : Int} (h : Past a i n) (x : Int × Int) (hx : a[i]? = some x) (h2 : n < x.1 + x.2) : inB a n = decide (x.1 ≤ n) := by
  rw [Bool.eq_iff_iff, nf_at ha i n h (fun y hy => by rw [hx] at hy; cases hy; exact h2)]
  constructor
  · rintro ⟨y, hy, h⟩; rw [hx] at hy; cases hy; simpa using h
  · intro h; exact ⟨x, hx, by simpa using h⟩
theorem past_end {a : List (Int × Int)} (ha : NF a) {i : Nat} {n : Int} (h : Past a i n) (hi : a.length ≤ i) : inB a n = false := by
  have hn : a[i]? = none := List.getElem?_eq_none hi
  rw [Bool.eq_false_iff]
  intro hc
  rw [nf_at ha i n h (fun y hy => by rw [hn] at hy; cases hy)] at hc
  obtain ⟨y, hy, _⟩ := hc
  rw [hn] at hy; cases hy

theorem segs_one (P : List Int) (f : Int → Bool) : segs (P.take (0 + 1)) f = [] := by
  cases P with
  | nil => rfl
  | cons a t => simp [segs]

def RetNF2' (w : World) (S : Int → Prop) (N : Nat) (e : Ending) (w' : World) : Prop :=
  ∃ v x, e = .returned (.tuple #[v, .int .i64 0]) ∧ OwnR w' w.heap.size v x ∧ NFof x S ∧ valB x = true ∧ x.length ≤ N ∧ Below w.heap.size w w'

set_option maxHeartbeats 4000000 in
set_option maxRecDepth 100000 in
theorem combine_ok (c : Bool → Bool → Bool) (h00 : c false false = false) (gf : Nat) (eg : ∀ args w, (callFunc gf args).run Try.prog w = .ok (.enter gf args) w)
    (hgf : ∀ b1 b2 w, Calls Try.prog gf #[.bool b1, .bool b2] w fun e w' => e = .returned (.bool (c b1 b2)) ∧ w' = w)
    (a b : List (Int × Int)) (v1 v2 : Value) (w : World) (hr1 : RdR w v1 a) (hr2 : RdR w v2 b) (hv1 : valB a = true) (hv2 : valB b = true) (hl1 : a.length ≤ 1000000) (hl2 : b.length ≤ 1000000) :
    Calls Try.prog 40 #[v1, v2, .func (.func gf) #[] #[]] w (RetNF2' w (fun n => c (inB a n) (inB b n) = true) (2 * (a.length + b.length))) := by
  have HV1 := Lib.hid hv1
  have HV2 := Lib.hid hv2
  have HC := Lib.hid hgf
  have H00 := Lib.hid h00
  clear hv1 hv2 hgf h00
  have hra := hr1
  have hrb := hr2
  obtain ⟨pa, ca, rfl, _⟩ := hra
  obtain ⟨pb, cb, rfl, _⟩ := hrb
  go_enter Try.func40, Try.ntmps40
  go_wp2_with fail
  refine (proper_any [a, b] _ _ (RdLL_two w _ _ a b _ hr1 hr2)).mono ?_
  rintro e w1 ⟨rfl, hb1⟩
  have hb01 : Below w.heap.size w w1 := bel ((Below.refl _ _).alloc (Nat.le_refl _) _) hb1
  have hv : [a, b].all valB = true := by simp [HV1.out, HV2.out]
  go_wp2_with fail
  refine (normal_any a _ w1 (hr1.below hb01) HV1.out (by omega)).mono ?_
  rintro e w2 ⟨va, xa, rfl, hoa, hxa, hxal, hb2⟩
  have hb02 := bel hb01 hb2
  go_wp2_with fail
  refine (normal_any b _ w2 (hr2.below hb02) HV2.out (by omega)).mono ?_
  rintro e w3 ⟨vb, xb, rfl, hob, hxb, hxbl, hb3⟩
  have hb03 := bel hb02 hb3
  have hrxa := hoa.rd.below hb3
  have hrxb := hob.rd
  clear hr1 hr2 hoa hob hb1 hb2 hb3 hb01 hb02 hv
  have hva := NFof_valB hxa HV1.out
  have hvb := NFof_valB hxb HV2.out
  have HXA := Lib.hid hxa
  have HXB := Lib.hid hxb
  have HVA := Lib.hid hva
  have HVB := Lib.hid hvb
  clear hxa hxb hva hvb
  have hra := hrxa
  have hrb := hrxb
  obtain ⟨qa, ca', rfl, hla, hcapa, hpa⟩ := hra
  obtain ⟨qb, cb', rfl, hlb, hcapb, hpb⟩ := hrb
  go_wp2_with fail
  refine (ends_any [xa, xb] _ _ (RdLL_two w3 _ _ xa xb _ hrxa hrxb) (by simp [HVA.out, HVB.out]) (by simp) (by simp; omega)).mono ?_
  rintro e w4 ⟨vp, P, rfl, hop, hP, hPl, hb4⟩
  have hb34 : Below w3.heap.size w3 w4 := bel ((Below.refl _ _).alloc (Nat.le_refl _) _) hb4
  have hPL : P.length ≤ 2 * (a.length + b.length) := by
    have h1 := endsOf_len xa
    have h2 := endsOf_len xb
    have h3 : (endsLL [xa, xb]).length = (endsOf xa).length + (endsOf xb).length := by simp [endsLL]
    omega
  have hPB : ∀ t ∈ P, 0 ≤ t ∧ t ≤ 1073741824 := fun t ht => endsLL_bd xa xb HVA.out HVB.out t ((hP.2 t).1 ht)
  have HP := Lib.hid hP
  have HPB := Lib.hid hPB
  clear hP hPl hPB hrxa hrxb
  obtain ⟨qp, cp, rfl, hlp, hcapp, hpp⟩ := hop.rd
  clear hop hb4
  obtain ⟨f, hf⟩ : ∃ f : Int → Bool, f = fun t => c (inB xa t) (inB xb t) := ⟨_, rfl⟩
  have HF := Lib.hid hf
  clear hf
  go_wp2
  go_loopw [9, 10, 11, 12] (fun vo vi vk vn wr => ∃ m i k : Nat, m ≤ P.length ∧ i ≤ xa.length ∧ k ≤ xb.length ∧ vn = .int .i64 m ∧ vi = .int .i64 i ∧ vk = .int .i64 k ∧
      (∀ t, P[m]? = some t → Past xa i t ∧ Past xb k t) ∧ OwnR wr w4.heap.size vo (segs (P.take (m + 1)) f) ∧ Below w4.heap.size w4 wr) (fun _ _ _ vn _ => P.length - (intOf vn).toNat)
  case atStart => exact ⟨0, 0, 0, Nat.zero_le _, Nat.zero_le _, Nat.zero_le _, rfl, rfl, rfl, fun t _ => ⟨Past_zero _ _, Past_zero _ _⟩, by rw [segs_one]; exact OwnR.nil _ _, Below.refl _ _⟩
  case round =>
    obtain ⟨m, i, k, hm, hi, hk, rfl, rfl, rfl, hpast, hown, hb⟩ := hrel
    have HPAST := Lib.hid hpast
    clear hpast
    obtain ⟨o, ho⟩ : ∃ o, o = segs (P.take (m + 1)) f := ⟨_, rfl⟩
    rw [← ho] at hown
    have hol : o.length ≤ 2 * (a.length + b.length) := by rw [ho]; have := segs_len f (P.take (m + 1)); simp at this; omega
    have HO := Lib.hid ho
    clear ho
    by_cases hlt : m + 1 < P.length
    · obtain ⟨bp, offp, rfl, hbps, hcp⟩ := hpp (by omega)
      obtain ⟨t, ht⟩ := getSome P m (by omega)
      obtain ⟨t2, ht2⟩ := getSome P (m + 1) hlt
      have hct := (hcp.below hb hbps) m t ht
      obtain ⟨hpa0, hpb0⟩ := HPAST.out t ht
      have HPA := Lib.hid hpa0
      have HPB0 := Lib.hid hpb0
      obtain ⟨ht0, ht1⟩ := HPB.out t (List.mem_of_getElem? ht)
      obtain ⟨ht20, ht21⟩ := HPB.out t2 (List.mem_of_getElem? ht2)
      have htt : t < t2 := by
        obtain ⟨h1, e1⟩ := List.getElem?_eq_some_iff.1 ht
        obtain ⟨h2, e2⟩ := List.getElem?_eq_some_iff.1 ht2
        have := List.pairwise_iff_getElem.1 HP.out.1 m (m + 1) h1 h2 (by omega)
        omega
      have HT := Lib.hid ht
      have HT2 := Lib.hid ht2
      clear ht ht2 hpa0 hpb0
      have hd31 : decide ((m : Int) + 1 < (P.length : Int)) = true := by simp; omega
      go_upto_block 2 with fail
      obtain ⟨wo, rfl⟩ : ∃ wo : World, wo = wr := ⟨_, rfl⟩
      clear hct
      go_cut [10] (fun vi wc => ∃ i : Nat, i ≤ xa.length ∧ vi = .int .i64 i ∧ Past xa i t ∧ (∀ x, xa[i]? = some x → t < x.1 + x.2) ∧ Below wo.heap.size wo wc)
      case first =>
        go_wp2_with fail
        go_loopw [10] (fun vi wr => ∃ i : Nat, i ≤ xa.length ∧ vi = .int .i64 i ∧ Past xa i t ∧ Below wo.heap.size wo wr) (fun vi _ => xa.length - (intOf vi).toNat)
        case atStart => exact ⟨i, hi, rfl, HPA.out, Below.refl _ _⟩
        case round =>
          obtain ⟨i', hi', rfl, hpast, hb5⟩ := hrel
          have HPA' := Lib.hid hpast
          clear hpast
          have hbo5 := bel hb hb5
          by_cases hia : i' < xa.length
          · obtain ⟨ba, offa, rfl, hbas, hca⟩ := hpa (by omega)
            obtain ⟨x, hx⟩ := getSome xa i' hia
            have hcc := (hca.below (bel hb34 hbo5) hbas) i' x hx
            have hc1 := hcc.1
            have hc2 := hcc.2
            obtain ⟨hx0, hx1, hx2⟩ := valB_bd HVA.out x (List.mem_of_getElem? hx)
            have HX := Lib.hid hx
            clear hca hpa hcc hx
            by_cases hend : x.1 + x.2 ≤ t
            · go_wp2
              go_quiet (fail)
              go_wp2
              go_roundw
              case rel => exact ⟨i' + 1, by omega, by go_num, Past_snoc HPA'.out HX.out hend, bdrewN hb5 _⟩
              case measure => simp [intOf]; omega
            · have hend' : decide (x.1 + x.2 ≤ t) = false := by simp; omega
              go_wp2
              go_quiet (fail)
              go_wp2
              go_meet
              exact ⟨i', hi', rfl, HPA'.out, fun y hy => by rw [HX.out] at hy; cases hy; omega, bdrewN hb5 _⟩
          · have hia' : decide (i' < xa.length) = false := by simp; omega
            go_wp2
            go_quiet (fail)
            go_wp2
            go_meet
            exact ⟨i', hi', rfl, HPA'.out, fun y hy => absurd (List.getElem?_eq_some_iff.1 hy).1 (by omega), bdrewN hb5 _⟩
      case rest =>
        clear HPA
        obtain ⟨i', hi', rfl, hpast, hout, hb5⟩ := hcut
        have HPA' := Lib.hid hpast
        have HOUT := Lib.hid hout
        clear hpast hout
        have hbo5 := bel hb hb5
        go_upto_block 4 with fail
        obtain ⟨wo2, rfl⟩ : ∃ wo2 : World, wo2 = wc := ⟨_, rfl⟩
        go_cut [11] (fun vk wc => ∃ k : Nat, k ≤ xb.length ∧ vk = .int .i64 k ∧ Past xb k t ∧ (∀ x, xb[k]? = some x → t < x.1 + x.2) ∧ Below wo2.heap.size wo2 wc)
        case first =>
          go_wp2_with fail
          go_loopw [11] (fun vk wr => ∃ k : Nat, k ≤ xb.length ∧ vk = .int .i64 k ∧ Past xb k t ∧ Below wo2.heap.size wo2 wr) (fun vk _ => xb.length - (intOf vk).toNat)
          case atStart => exact ⟨k, hk, rfl, HPB0.out, Below.refl _ _⟩
          case round =>
            obtain ⟨k', hk', rfl, hpast, hb6⟩ := hrel
            have HPB' := Lib.hid hpast
            clear hpast
            have hbo6 := bel hbo5 hb6
            by_cases hkb : k' < xb.length
            · obtain ⟨bb, offb, rfl, hbbs, hcb⟩ := hpb (by omega)
              obtain ⟨x, hx⟩ := getSome xb k' hkb
              have hcc := (hcb.below (bel hb34 hbo6) hbbs) k' x hx
              have hc1 := hcc.1
              have hc2 := hcc.2
              obtain ⟨hx0, hx1, hx2⟩ := valB_bd HVB.out x (List.mem_of_getElem? hx)
              have HX := Lib.hid hx
              clear hcb hpb hcc hx
              by_cases hend : x.1 + x.2 ≤ t
              · go_wp2
                go_quiet (fail)
                go_wp2
                go_roundw
                case rel => exact ⟨k' + 1, by omega, by go_num, Past_snoc HPB'.out HX.out hend, bdrewN hb6 _⟩
                case measure => simp [intOf]; omega
              · have hend' : decide (x.1 + x.2 ≤ t) = false := by simp; omega
                go_wp2
                go_quiet (fail)
                go_wp2
                go_meet
                exact ⟨k', hk', rfl, HPB'.out, fun y hy => by rw [HX.out] at hy; cases hy; omega, bdrewN hb6 _⟩
            · have hkb' : decide (k' < xb.length) = false := by simp; omega
              go_wp2
              go_quiet (fail)
              go_wp2
              go_meet
              exact ⟨k', hk', rfl, HPB'.out, fun y hy => absurd (List.getElem?_eq_some_iff.1 hy).1 (by omega), bdrewN hb6 _⟩
        case rest =>
          clear HPB0
          obtain ⟨k', hk', rfl, hpast, hout, hb6⟩ := hcut
          have HPB' := Lib.hid hpast
          have HOUTB := Lib.hid hout
          clear hpast hout
          have hbo6 := bel hbo5 hb6
          have hA : (xa.length ≤ i' ∧ inB xa t = false) ∨ (∃ x, i' < xa.length ∧ xa[i']? = some x ∧ x.1 ≤ t ∧ inB xa t = true) ∨ (∃ x, i' < xa.length ∧ xa[i']? = some x ∧ t < x.1 ∧ inB xa t = false) := by
            by_cases hia : i' < xa.length
            · obtain ⟨x, hx⟩ := getSome xa i' hia
              have := past_in HXA.out.1 HPA'.out x hx (HOUT.out x hx)
              by_cases hxt : x.1 ≤ t
              · exact .inr (.inl ⟨x, hia, hx, hxt, by rw [this]; simpa using hxt⟩)
              · exact .inr (.inr ⟨x, hia, hx, by omega, by rw [this]; simpa using hxt⟩)
            · exact .inl ⟨by omega, past_end HXA.out.1 HPA'.out (by omega)⟩
          have hB : (xb.length ≤ k' ∧ inB xb t = false) ∨ (∃ x, k' < xb.length ∧ xb[k']? = some x ∧ x.1 ≤ t ∧ inB xb t = true) ∨ (∃ x, k' < xb.length ∧ xb[k']? = some x ∧ t < x.1 ∧ inB xb t = false) := by
            by_cases hia : k' < xb.length
            · obtain ⟨x, hx⟩ := getSome xb k' hia
              have := past_in HXB.out.1 HPB'.out x hx (HOUTB.out x hx)
              by_cases hxt : x.1 ≤ t
              · exact .inr (.inl ⟨x, hia, hx, hxt, by rw [this]; simpa using hxt⟩)
              · exact .inr (.inr ⟨x, hia, hx, by omega, by rw [this]; simpa using hxt⟩)
            · exact .inl ⟨by omega, past_end HXB.out.1 HPB'.out (by omega)⟩
          go_upto_region 15 with fail
          obtain ⟨wo3, rfl⟩ : ∃ wo3 : World, wo3 = wc := ⟨_, rfl⟩
          go_cut [107] (fun v wc => v = .bool (f t) ∧ Below wo3.heap.size wo3 wc)
          case first =>
            rcases hA with ⟨hA1, hA2⟩ | ⟨x, hA1, hx, hxt, hA2⟩ | ⟨x, hA1, hx, hxt, hA2⟩
            · have hA3 : decide (i' < xa.length) = false := by simp; omega
              have HA2 := Lib.hid hA2
              clear hA2
              rcases hB with ⟨hB1, hB2⟩ | ⟨y, hB1, hy, hyt, hB2⟩ | ⟨y, hB1, hy, hyt, hB2⟩
              · have hB3 : decide (k' < xb.length) = false := by simp; omega
                have HB2 := Lib.hid hB2
                clear hB2
                go_wp2
                go_quiet ((refine Calls.quiet_of_same (HC.out _ _ _)))
                go_wp2
                go_meet
                exact ⟨by rw [HF.out]; simp only []; rw [HA2.out, HB2.out], bdrewN (Below.refl _ _) _⟩
              · obtain ⟨bb, offb, rfl, hbbs, hcb⟩ := hpb (by omega)
                have hcc := (hcb.below (bel hb34 hbo6) hbbs) k' y hy
                have hcb1 := hcc.1
                have HB2 := Lib.hid hB2
                clear hB2 hcb hpb hcc hy
                go_wp2
                go_quiet ((refine Calls.quiet_of_same (HC.out _ _ _)))
                go_wp2
                go_meet
                exact ⟨by rw [HF.out]; simp only []; rw [HA2.out, HB2.out], bdrewN (Below.refl _ _) _⟩
              · obtain ⟨bb, offb, rfl, hbbs, hcb⟩ := hpb (by omega)
                have hcc := (hcb.below (bel hb34 hbo6) hbbs) k' y hy
                have hcb1 := hcc.1
                have HB2 := Lib.hid hB2
                clear hB2 hcb hpb hcc hy
                have hB3 : decide (y.1 ≤ t) = false := by simp; omega
                go_wp2
                go_quiet ((refine Calls.quiet_of_same (HC.out _ _ _)))
                go_wp2
                go_meet
                exact ⟨by rw [HF.out]; simp only []; rw [HA2.out, HB2.out], bdrewN (Below.refl _ _) _⟩
            · obtain ⟨ba, offa, rfl, hbas, hca⟩ := hpa (by omega)
              have hcc := (hca.below (bel hb34 hbo6) hbas) i' x hx
              have hca1 := hcc.1
              have HA2 := Lib.hid hA2
              clear hA2 hca hpa hcc hx
              rcases hB with ⟨hB1, hB2⟩ | ⟨y, hB1, hy, hyt, hB2⟩ | ⟨y, hB1, hy, hyt, hB2⟩
              · have hB3 : decide (k' < xb.length) = false := by simp; omega
                have HB2 := Lib.hid hB2
                clear hB2
                go_wp2
                go_quiet ((refine Calls.quiet_of_same (HC.out _ _ _)))
                go_wp2
                go_meet
                exact ⟨by rw [HF.out]; simp only []; rw [HA2.out, HB2.out], bdrewN (Below.refl _ _) _⟩
              · obtain ⟨bb, offb, rfl, hbbs, hcb⟩ := hpb (by omega)
                have hcc := (hcb.below (bel hb34 hbo6) hbbs) k' y hy
                have hcb1 := hcc.1
                have HB2 := Lib.hid hB2
                clear hB2 hcb hpb hcc hy
                go_wp2
                go_quiet ((refine Calls.quiet_of_same (HC.out _ _ _)))
                go_wp2
                go_meet
                exact ⟨by rw [HF.out]; simp only []; rw [HA2.out, HB2.out], bdrewN (Below.refl _ _) _⟩
              · obtain ⟨bb, offb, rfl, hbbs, hcb⟩ := hpb (by omega)
                have hcc := (hcb.below (bel hb34 hbo6) hbbs) k' y hy
                have hcb1 := hcc.1
                have HB2 := Lib.hid hB2
                clear hB2 hcb hpb hcc hy
                have hB3 : decide (y.1 ≤ t) = false := by simp; omega
                go_wp2
                go_quiet ((refine Calls.quiet_of_same (HC.out _ _ _)))
                go_wp2
                go_meet
                exact ⟨by rw [HF.out]; simp only []; rw [HA2.out, HB2.out], bdrewN (Below.refl _ _) _⟩
            · obtain ⟨ba, offa, rfl, hbas, hca⟩ := hpa (by omega)
              have hcc := (hca.below (bel hb34 hbo6) hbas) i' x hx
              have hca1 := hcc.1
              have HA2 := Lib.hid hA2
              clear hA2 hca hpa hcc hx
              have hA3 : decide (x.1 ≤ t) = false := by simp; omega
              rcases hB with ⟨hB1, hB2⟩ | ⟨y, hB1, hy, hyt, hB2⟩ | ⟨y, hB1, hy, hyt, hB2⟩
              · have hB3 : decide (k' < xb.length) = false := by simp; omega
                have HB2 := Lib.hid hB2
                clear hB2
                go_wp2
                go_quiet ((refine Calls.quiet_of_same (HC.out _ _ _)))
                go_wp2
                go_meet
                exact ⟨by rw [HF.out]; simp only []; rw [HA2.out, HB2.out], bdrewN (Below.refl _ _) _⟩
              · obtain ⟨bb, offb, rfl, hbbs, hcb⟩ := hpb (by omega)
                have hcc := (hcb.below (bel hb34 hbo6) hbbs) k' y hy
                have hcb1 := hcc.1
                have HB2 := Lib.hid hB2
                clear hB2 hcb hpb hcc hy
                go_wp2
                go_quiet ((refine Calls.quiet_of_same (HC.out _ _ _)))
                go_wp2
                go_meet
                exact ⟨by rw [HF.out]; simp only []; rw [HA2.out, HB2.out], bdrewN (Below.refl _ _) _⟩
              · obtain ⟨bb, offb, rfl, hbbs, hcb⟩ := hpb (by omega)
                have hcc := (hcb.below (bel hb34 hbo6) hbbs) k' y hy
                have hcb1 := hcc.1
                have HB2 := Lib.hid hB2
                clear hB2 hcb hpb hcc hy
                have hB3 : decide (y.1 ≤ t) = false := by simp; omega
                go_wp2
                go_quiet ((refine Calls.quiet_of_same (HC.out _ _ _)))
                go_wp2
                go_meet
                exact ⟨by rw [HF.out]; simp only []; rw [HA2.out, HB2.out], bdrewN (Below.refl _ _) _⟩
          case rest =>
            clear hA hB
            obtain ⟨rfl, hb7⟩ := hcut
            have hbo7 := bel hbo6 hb7
            have hct2 := (hcp.below hbo7 hbps) (m + 1) t2 HT2.out
            clear hcp
            have hnext : ∀ t', P[m + 1]? = some t' → Past xa i' t' ∧ Past xb k' t' := fun t' h => by
              rw [HT2.out] at h
              cases h
              exact ⟨Past_le HPA'.out (by omega), Past_le HPB'.out (by omega)⟩
            have HNEXT := Lib.hid hnext
            clear hnext
            cases hft : f t
            · have hsg : segs (P.take (m + 1 + 1)) f = o := by rw [segs_take P f m t t2 HT.out HT2.out, ← HO.out, hft]; simp
              have HSG := Lib.hid hsg
              clear hsg
              go_wp2
              go_roundw
              case rel => exact ⟨m + 1, i', k', by omega, hi', hk', by go_num, rfl, rfl, HNEXT.out, by rw [HSG.out]; exact hown.below (bel (bel hb5 hb6) hb7), hbo7⟩
              case measure => simp [intOf]; omega
            · have hsg : segs (P.take (m + 1 + 1)) f = o ++ [(t, t2 - t)] := by rw [segs_take P f m t t2 HT.out HT2.out, ← HO.out, hft]; simp
              have HSG := Lib.hid hsg
              clear hsg
              go_wp2_with (at_builtin; refine wpl_appendR rfl _ _ rfl w4.heap.size _ o (t, t2 - t) rfl ?c1 wc.heap.size 1 rfl ?c2 ?c3 (by omega) ?c4 ?_)
              case c1 => refine (hown.below (bel (bel hb5 hb6) hb7)).below ?_; (repeat' (first | exact Below.refl _ _ | exact Nat.le_refl _ | (refine Below.alloc ?_ ?_ _) | (refine bdrewN ?_ _) | (refine Below.drew ?_) | (simp; done) | (simp; omega)))
              try (case c2 => exact cell_new (by simp) rfl)
              try (case c3 => exact cell_new (by simp) rfl)
              case c4 => have := hbo7.size; simp; omega
              intro v8 w8 ho8 hb8 _
              have hb9 : Below w4.heap.size w4 w8 := (hbo7.trans (by refine Below.mono (B := wc.heap.size) ?_ hbo7.size; (repeat' (first | exact Below.refl _ _ | exact Nat.le_refl _ | (refine Below.alloc ?_ ?_ _) | (refine bdrewN ?_ _) | (refine Below.drew ?_) | (simp; done) | (simp; omega))))).trans hb8
              clear hb8 hown
              go_wp2
              go_roundw
              case rel => exact ⟨m + 1, i', k', by omega, hi', hk', by go_num, rfl, rfl, HNEXT.out, by rw [HSG.out]; exact ho8, hb9⟩
              case measure => simp [intOf]; omega
    · have hd31 : decide ((m : Int) + 1 < (P.length : Int)) = false := by simp; omega
      have hsg : segs P f = o := by
        have := HO.out
        rw [List.take_of_length_le (by omega)] at this
        exact this.symm
      have hov : valB o = true := by rw [← hsg]; exact segs_valB P f HP.out.1 HPB.out
      have HSG := Lib.hid hsg
      have HOV := Lib.hid hov
      clear hsg hov
      go_wp2_with fail
      refine (normal_any o _ wr hown.rd HOV.out (by omega)).mono ?_
      rintro e w5 ⟨v5, x5, rfl, ho5, hx5, hx5l, hb5⟩
      go_wp2
      go_ret2
      refine ⟨v5, x5, rfl, ho5.mono (bel (bel hb03 hb34) hb).size, hx5.congr (fun n => ?_), NFof_valB hx5 HOV.out, by omega, bel (bel (bel hb03 hb34) hb) hb5⟩
      rw [← HSG.out, HF.out, segs_choose xa xb c H00.out P HP.out.1 (fun r hr => by
        have := endsLL_has xa xb r hr
        exact ⟨(HP.out.2 _).2 this.1, (HP.out.2 _).2 this.2⟩) n]
      rw [inB_eq (HXA.out.2 n), inB_eq (HXB.out.2 n)]

end Go.Proofs.Yteengifhndmjeaa

namespace Go.Proofs.Yteengifhndmjeaa
open Go.RowKit

def cU (x y : Bool) : Bool := x || y
def cM (x y : Bool) : Bool := x && !y
def cI (x y : Bool) : Bool := x && y

theorem union1 (b1 b2 : Bool) (w : World) : Calls Try.prog 41 #[.bool b1, .bool b2] w fun e w' => e = .returned (.bool (cU b1 b2)) ∧ w' = w := by
  cases b1 <;> cases b2 <;> (go_enter Try.func41, Try.ntmps41; go_wp2; go_ret; exact ⟨rfl, rfl⟩)
theorem minus1 (b1 b2 : Bool) (w : World) : Calls Try.prog 42 #[.bool b1, .bool b2] w fun e w' => e = .returned (.bool (cM b1 b2)) ∧ w' = w := by
  cases b1 <;> cases b2 <;> (go_enter Try.func42, Try.ntmps42; go_wp2; go_ret; exact ⟨rfl, rfl⟩)
theorem meet1 (b1 b2 : Bool) (w : World) : Calls Try.prog 43 #[.bool b1, .bool b2] w fun e w' => e = .returned (.bool (cI b1 b2)) ∧ w' = w := by
  cases b1 <;> cases b2 <;> (go_enter Try.func43, Try.ntmps43; go_wp2; go_ret; exact ⟨rfl, rfl⟩)

set_option maxHeartbeats 400000 in
theorem combine_bad (a b : List (Int × Int)) (v1 v2 fv : Value) (w : World) (hr1 : RdR w v1 a) (hr2 : RdR w v2 b) (hv : (valB a && valB b) = false) :
    Calls Try.prog 40 #[v1, v2, fv] w fun e w' => e = .returned (.tuple #[.slice none 0 0, .int .i64 1]) ∧ Below w.heap.size w w' := by
  have hv' : [a, b].all valB = false := by simpa using hv
  have hra := hr1
  have hrb := hr2
  obtain ⟨pa, ca, rfl, _⟩ := hra
  obtain ⟨pb, cb, rfl, _⟩ := hrb
  have HV := Lib.hid hv'
  clear hv hv'
  go_enter Try.func40, Try.ntmps40
  go_wp2_with fail
  refine (proper_any [a, b] _ _ (RdLL_two w _ _ a b _ hr1 hr2)).mono ?_
  rintro e w1 ⟨rfl, hb1⟩
  have hb01 : Below w.heap.size w w1 := bel ((Below.refl _ _).alloc (Nat.le_refl _) _) hb1
  have hv := HV.out
  go_wp2
  go_ret2
  exact ⟨rfl, hb01⟩

set_option maxHeartbeats 400000 in
theorem Union_ok (a b : List (Int × Int)) (v1 v2 : Value) (w : World) (hr1 : RdR w v1 a) (hr2 : RdR w v2 b) (hv1 : valB a = true) (hv2 : valB b = true) (hl1 : a.length ≤ 1000000) (hl2 : b.length ≤ 1000000) :
    Calls Try.prog 14 #[v1, v2] w (RetNF2' w (fun n => cU (inB a n) (inB b n) = true) (2 * (a.length + b.length))) := by
  have hcon := combine_ok cU rfl 41 (enters_of Try.func41 (by kernel_rfl) rfl) union1 a b v1 v2 w hr1 hr2 hv1 hv2 hl1 hl2
  have HC := Lib.hid hcon
  clear hcon hr1 hr2 hv1 hv2
  go_enter Try.func14, Try.ntmps14
  go_wp2_with fail
  refine HC.out.mono ?_
  rintro e w' ⟨v, x, rfl, h⟩
  have H := Lib.hid h
  clear h
  go_wp2
  go_ret2
  exact ⟨v, x, rfl, H.out⟩
set_option maxHeartbeats 400000 in
theorem Minus_ok (a b : List (Int × Int)) (v1 v2 : Value) (w : World) (hr1 : RdR w v1 a) (hr2 : RdR w v2 b) (hv1 : valB a = true) (hv2 : valB b = true) (hl1 : a.length ≤ 1000000) (hl2 : b.length ≤ 1000000) :
    Calls Try.prog 15 #[v1, v2] w (RetNF2' w (fun n => cM (inB a n) (inB b n) = true) (2 * (a.length + b.length))) := by
  have hcon := combine_ok cM rfl 42 (enters_of Try.func42 (by kernel_rfl) rfl) minus1 a b v1 v2 w hr1 hr2 hv1 hv2 hl1 hl2
  have HC := Lib.hid hcon
  clear hcon hr1 hr2 hv1 hv2
  go_enter Try.func15, Try.ntmps15
  go_wp2_with fail
  refine HC.out.mono ?_
  rintro e w' ⟨v, x, rfl, h⟩
  have H := Lib.hid h
  clear h
  go_wp2
  go_ret2
  exact ⟨v, x, rfl, H.out⟩
set_option maxHeartbeats 400000 in
theorem Meet_ok (a b : List (Int × Int)) (v1 v2 : Value) (w : World) (hr1 : RdR w v1 a) (hr2 : RdR w v2 b) (hv1 : valB a = true) (hv2 : valB b = true) (hl1 : a.length ≤ 1000000) (hl2 : b.length ≤ 1000000) :
    Calls Try.prog 16 #[v1, v2] w (RetNF2' w (fun n => cI (inB a n) (inB b n) = true) (2 * (a.length + b.length))) := by
  have hcon := combine_ok cI rfl 43 (enters_of Try.func43 (by kernel_rfl) rfl) meet1 a b v1 v2 w hr1 hr2 hv1 hv2 hl1 hl2
  have HC := Lib.hid hcon
  clear hcon hr1 hr2 hv1 hv2
  go_enter Try.func16, Try.ntmps16
  go_wp2_with fail
  refine HC.out.mono ?_
  rintro e w' ⟨v, x, rfl, h⟩
  have H := Lib.hid h
  clear h
  go_wp2
  go_ret2
  exact ⟨v, x, rfl, H.out⟩

def RetBad (w : World) (e : Ending) (w' : World) : Prop := e = .returned (.tuple #[.slice none 0 0, .int .i64 1]) ∧ Below w.heap.size w w'

set_option maxHeartbeats 400000 in
theorem Union_bad (a b : List (Int × Int)) (v1 v2 : Value) (w : World) (hr1 : RdR w v1 a) (hr2 : RdR w v2 b) (hv : (valB a && valB b) = false) : Calls Try.prog 14 #[v1, v2] w (RetBad w) := by
  have HC := Lib.hid (fun fv => combine_bad a b v1 v2 fv w hr1 hr2 hv)
  clear hr1 hr2 hv
  go_enter Try.func14, Try.ntmps14
  go_wp2_with fail
  refine (HC.out _).mono ?_
  rintro e w' ⟨rfl, hb⟩
  go_wp2
  go_ret2
  exact ⟨rfl, hb⟩
set_option maxHeartbeats 400000 in
theorem Minus_bad (a b : List (Int × Int)) (v1 v2 : Value) (w : World) (hr1 : RdR w v1 a) (hr2 : RdR w v2 b) (hv : (valB a && valB b) = false) : Calls Try.prog 15 #[v1, v2] w (RetBad w) := by
  have HC := Lib.hid (fun fv => combine_bad a b v1 v2 fv w hr1 hr2 hv)
  clear hr1 hr2 hv
  go_enter Try.func15, Try.ntmps15
  go_wp2_with fail
  refine (HC.out _).mono ?_
  rintro e w' ⟨rfl, hb⟩
  go_wp2
  go_ret2
  exact ⟨rfl, hb⟩
set_option maxHeartbeats 400000 in
theorem Meet_bad (a b : List (Int × Int)) (v1 v2 : Value) (w : World) (hr1 : RdR w v1 a) (hr2 : RdR w v2 b) (hv : (valB a && valB b) = false) : Calls Try.prog 16 #[v1, v2] w (RetBad w) := by
  have HC := Lib.hid (fun fv => combine_bad a b v1 v2 fv w hr1 hr2 hv)
  clear hr1 hr2 hv
  go_enter Try.func16, Try.ntmps16
  go_wp2_with fail
  refine (HC.out _).mono ?_
  rintro e w' ⟨rfl, hb⟩
  go_wp2
  go_ret2
  exact ⟨rfl, hb⟩

theorem neqAt : Go.Proofs.NeqAt Try.prog 36 (fun x : Int × Int => .agg (encR x).toArray) eqR := ⟨fun x y w => neqR_run x y w, Go.Proofs.GuardAt.agg _ (by kernel_rfl)⟩
end Go.Proofs.Yteengifhndmjeaa
