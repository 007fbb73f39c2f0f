/- Contracts of the reference: Sum, First, Take; the canonical normal form. -/
import Derived.Test.YteengifhndmjeaaRefD
import Derived.Test.YteengifhndmjeaaRanK
namespace Go.Proofs.Yteengifhndmjeaa
open Go.RowKit

/-- THE normal form. -/
def nfL (l : List (Int × Int)) : List (Int × Int) := merge (l.mergeSort fun p q => decide (p.1 ≤ q.1))
theorem nfL_ok (l : List (Int × Int)) (hv : valB l = true) : NFof (nfL l) (Mem l) := by
  have hs : (l.mergeSort fun p q => decide (p.1 ≤ q.1)).Pairwise fun p q => p.1 ≤ q.1 := by
    have := List.pairwise_mergeSort (le := fun p q : Int × Int => decide (p.1 ≤ q.1)) (fun a b c h1 h2 => by simp at *; omega) (fun a b => by simp; omega) l
    exact this.imp (fun h => by simpa using h)
  exact merge_perm l _ (List.mergeSort_perm l _) hs (fun p hp => (valB_bd hv p hp).2.1)
theorem nfL_eq {x l : List (Int × Int)} (hx : NFof x (Mem l)) (hv : valB l = true) : x = nfL l := NFof.eq hx (nfL_ok l hv) (fun _ => Iff.rfl)

set_option maxHeartbeats 400000 in
theorem refSum_any (l : List (Int × Int)) (v : Value) (w : World) (hr : RdR w v l) (hval : valB l = true) (hlen : l.length ≤ 400000) :
    Calls Try.prog 28 #[v] w fun e w' => e = .returned (.int .i64 (sumR (nfL l))) ∧ Below w.heap.size w w' := by
  have HV := Lib.hid hval; clear hval
  go_enter Try.func28, Try.ntmps28
  go_wp2_with fail
  refine (refNormal_any l v w hr HV.out hlen).mono ?_
  rintro e w1 ⟨v1, x, rfl, ho, hx, hxv, hxl, hb1⟩
  have HE := Lib.hid (nfL_eq hx HV.out)
  have HN := Lib.hid hx
  obtain ⟨p, cap, rfl, hlc, hcap, hp⟩ := ho.rd
  clear ho hx hr hxv
  go_wp2
  go_loopw [3, 5] (fun n i wr => ∃ k : Nat, k ≤ x.length ∧ i = .int .i64 k ∧ n = .int .i64 (sumR (x.take k)) ∧ Below w1.heap.size w1 wr) (fun _ i _ => x.length - (intOf i).toNat)
  case atStart => exact ⟨0, Nat.zero_le _, rfl, rfl, Below.refl _ _⟩
  case round =>
    obtain ⟨k, hk, rfl, rfl, hb⟩ := hrel
    by_cases hlt : k < x.length
    · obtain ⟨b, off, rfl, hbs, hc⟩ := hp (by omega)
      obtain ⟨y, hy⟩ := getSome x k hlt
      have hcc := (hc.below hb hbs) k y hy
      have hc1 := hcc.1
      have hc2 := hcc.2
      have hbd := NFof_bd HN.out HV.out
      have hyb := hbd y (List.mem_of_getElem? hy)
      have hs := NF_sum_bd 1073741824 (x.take k) 0 (NF_take HN.out.1 k) (fun p hp => by have := hbd p (List.mem_of_mem_take hp); omega) (by omega)
      have HS := Lib.hid (sumR_snoc x k y hy)
      obtain ⟨hs1, hs2⟩ := hs
      obtain ⟨hy1, hy2, hy3⟩ := hyb
      clear hc hp hcc hy hbd
      go_wp2
      go_roundw
      case rel => exact ⟨k + 1, by omega, by go_num, by rw [HS.out], hb⟩
      case measure => simp [intOf]; omega
    · go_wp2
      go_ret
      have hkn : k = x.length := by omega
      refine ⟨ret_int ?_, bel hb1 hb⟩
      rw [hkn, List.take_length, HE.out]

def RetF (w : World) (f : Int × Int) (e : Ending) (w' : World) : Prop := e = .returned (.tuple #[.int .i64 f.1, .int .i64 f.2]) ∧ Below w.heap.size w w'

/-- What First answers: of the program and of the reference. -/
def askF (l : List (Int × Int)) (n : Int) : Int × Int := if valB l = true ∧ 1 ≤ n then firstR (nfL l) n else (0, 1)

theorem First_ask (l : List (Int × Int)) (n : Int) (v : Value) (w : World) (hr : RdR w v l) (hlen : l.length ≤ 400000) :
    Calls Try.prog 24 #[v, .int .i64 n] w (RetF w (askF l n)) := by
  by_cases h : valB l = true ∧ 1 ≤ n
  · rw [askF, if_pos h]
    refine (First_ok l n v w hr h.1 (by omega) h.2).mono ?_
    rintro e w' ⟨x, hx, rfl, hb⟩
    rw [nfL_eq hx h.1]
    exact ⟨rfl, hb⟩
  · rw [askF, if_neg h]
    refine (First_bad l n v w hr (by omega) ?_).mono ?_
    · cases hv : valB l
      · exact .inl rfl
      · exact .inr (by have : ¬ 1 ≤ n := fun h1 => h ⟨hv, h1⟩; omega)
    · rintro e w' ⟨rfl, hb⟩
      exact ⟨rfl, hb⟩

set_option maxHeartbeats 1000000 in
theorem refFirst_any (l : List (Int × Int)) (n : Int) (v : Value) (w : World) (hr : RdR w v l) (hlen : l.length ≤ 400000) :
    Calls Try.prog 29 #[v, .int .i64 n] w (RetF w (askF l n)) := by
  cases hv : valB l
  · have ha : askF l n = (0, 1) := by rw [askF, if_neg (by simp [hv])]
    rw [ha]
    clear ha
    go_enter Try.func29, Try.ntmps29
    go_wp2_with fail
    refine (refValid_any l v w hr).mono ?_
    rintro e w1 ⟨rfl, hb1⟩
    go_wp2
    go_ret2
    exact ⟨rfl, hb1⟩
  · have HV := Lib.hid hv
    by_cases hn : 1 ≤ n
    · have ha : askF l n = firstR (nfL l) n := by rw [askF, if_pos ⟨hv, hn⟩]
      rw [ha]
      clear ha
      go_enter Try.func29, Try.ntmps29
      go_wp2_with fail
      refine (refValid_any l v w hr).mono ?_
      rintro e w1 ⟨rfl, hb1⟩
      go_wp2_with fail
      refine (refNormal_any l v w1 (hr.below hb1) HV.out hlen).mono ?_
      rintro e w2 ⟨v1, x, rfl, ho, hx, hxv, hxl, hb2⟩
      have HE := Lib.hid (nfL_eq hx HV.out)
      obtain ⟨p, cap, rfl, hlc, hcap, hp⟩ := ho.rd
      have hb02 := bel hb1 hb2
      clear ho hx hr hxv hb1 hb2
      go_wp2
      go_loopw [7] (fun i wr => ∃ k : Nat, k ≤ x.length ∧ i = .int .i64 k ∧ (∀ p ∈ x.take k, p.2 < n) ∧ Below w2.heap.size w2 wr) (fun i _ => x.length - (intOf i).toNat)
      case atStart => exact ⟨0, Nat.zero_le _, rfl, by simp, Below.refl _ _⟩
      case round =>
        obtain ⟨k, hk, rfl, hall, hb⟩ := hrel
        have HALL := Lib.hid hall; clear hall
        by_cases hlt : k < x.length
        · obtain ⟨b, off, rfl, hbs, hc⟩ := hp (by omega)
          obtain ⟨y, hy⟩ := getSome x k hlt
          have hcc := (hc.below hb hbs) k y hy
          have hc1 := hcc.1
          have hc2 := hcc.2
          have HY := Lib.hid hy
          clear hc hp hcc hy
          by_cases hny : n ≤ y.2
          · go_wp2
            go_ret2
            exact ⟨by rw [← HE.out, firstR_found x n k y HY.out hny HALL.out]; rfl, bel hb02 hb⟩
          · go_wp2
            go_roundw
            case rel => exact ⟨k + 1, by omega, by go_num, short_snoc x n k y HY.out HALL.out (by omega), hb⟩
            case measure => simp [intOf]; omega
        · go_wp2
          go_ret2
          have hkn : k = x.length := by omega
          subst hkn
          have h2 := HALL.out
          rw [List.take_length] at h2
          exact ⟨by rw [← HE.out, firstR_none x n h2]; rfl, bel hb02 hb⟩
    · have ha : askF l n = (0, 1) := by rw [askF, if_neg (fun h => hn h.2)]
      rw [ha]
      clear ha
      have hn' : n < 1 := by omega
      go_enter Try.func29, Try.ntmps29
      go_wp2_with fail
      refine (refValid_any l v w hr).mono ?_
      rintro e w1 ⟨rfl, hb1⟩
      go_wp2
      go_ret2
      exact ⟨rfl, hb1⟩

/-- What Take answers: the code, and the list. -/
def askT (l : List (Int × Int)) (n : Int) : List (Int × Int) × Int :=
  if valB l = true ∧ 0 ≤ n then (if 0 < rmR (nfL l) n then ([], 12) else (tkR (nfL l) n, 0)) else ([], 1)
def RetT (w : World) (t : List (Int × Int) × Int) (e : Ending) (w' : World) : Prop := ∃ v, e = .returned (.tuple #[v, .int .i64 t.2]) ∧ OwnR w' w.heap.size v t.1 ∧ Below w.heap.size w w'

theorem Take_ask (l : List (Int × Int)) (n : Int) (v : Value) (w : World) (hr : RdR w v l) (hlen : l.length ≤ 400000) (hn2 : n ≤ 9223372036854775807) :
    Calls Try.prog 25 #[v, .int .i64 n] w (RetT w (askT l n)) := by
  by_cases h : valB l = true ∧ 0 ≤ n
  · rw [askT, if_pos h]
    refine (Take_ok l n v w hr h.1 (by omega) h.2 hn2).mono ?_
    rintro e w' ⟨x, hx, hb, hc⟩
    have ex := nfL_eq hx h.1
    subst ex
    rcases hc with ⟨h1, rfl⟩ | ⟨h1, v', rfl, ho⟩
    · rw [if_pos h1]
      exact ⟨_, rfl, OwnR.nil _ _, hb⟩
    · rw [if_neg (by omega)]
      exact ⟨_, rfl, ho, hb⟩
  · rw [askT, if_neg h]
    refine (Take_bad l n v w hr (by omega) ?_).mono ?_
    · cases hv : valB l
      · exact .inl rfl
      · exact .inr (by have : ¬ 0 ≤ n := fun h1 => h ⟨hv, h1⟩; omega)
    · rintro e w' ⟨rfl, hb⟩
      exact ⟨_, rfl, OwnR.nil _ _, hb⟩

end Go.Proofs.Yteengifhndmjeaa
