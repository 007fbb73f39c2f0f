/- Contracts of the reference: Normal, Sum; the canonical normal form. -/
import Derived.Test.YteengifhndmjeaaRefC
namespace Go.Proofs.Yteengifhndmjeaa
open Go.RowKit

theorem sel0 (l : List (Int × Int)) (n : Int) : selB 0 (inB l n) (inB [] n) = true ↔ Mem l n := by
  have : inB [] n = false := by simp [inB]
  rw [this, ← inB_iff]
  simp [selB]

set_option maxHeartbeats 400000 in
theorem refNormal_any (l : List (Int × Int)) (v : Value) (w : World) (hr : RdR w v l) (hv : valB l = true) (hl : l.length ≤ 400000) :
    Calls Try.prog 49 #[v] w (RetSel w (Mem l) (2 * l.length)) := by
  have HV := Lib.hid hv
  clear hv
  go_enter Try.func49, Try.ntmps49
  go_wp2_with fail
  refine (Select_any l [] 0 (.inl rfl) v _ w hr (RdR.nil w) HV.out rfl hl (by simp)).mono ?_
  rintro e w1 ⟨v1, x, rfl, ho, hx, hxv, hxl, hb⟩
  have H := Lib.hid (And.intro hx hxv)
  clear hx hxv
  go_wp2
  go_ret
  exact ⟨v1, x, rfl, ho, H.out.1.congr (sel0 l), H.out.2, by simpa using hxl, hb⟩

theorem selB0 : selB 0 = cU := rfl
theorem selB1 : selB 1 = cM := rfl
theorem selB2 : selB 2 = cI := rfl

/-- THE normal form. -/
def nfL (l : List (Int × Int)) : List (Int × Int) := merge (l.mergeSort fun p q => decide (p.1 ≤ q.1))
theorem nfL_ok (l : List (Int × Int)) (hv : valB l = true) : NFof (nfL l) (Mem l) := by
  have hs : (l.mergeSort fun p q => decide (p.1 ≤ q.1)).Pairwise fun p q => p.1 ≤ q.1 := by
    have := List.pairwise_mergeSort (le := fun p q : Int × Int => decide (p.1 ≤ q.1)) (fun a b c h1 h2 => by simp at *; omega) (fun a b => by simp; omega) l
    exact this.imp (fun h => by simpa using h)
  exact merge_perm l _ (List.mergeSort_perm l _) hs (fun p hp => (valB_bd hv p hp).2.1)
theorem nfL_eq {x l : List (Int × Int)} (hx : NFof x (Mem l)) (hv : valB l = true) : x = nfL l := NFof.eq hx (nfL_ok l hv) (fun _ => Iff.rfl)

set_option maxHeartbeats 400000 in
theorem refSum_any (l : List (Int × Int)) (v : Value) (w : World) (hr : RdR w v l) (hval : valB l = true) (hlen : l.length ≤ 400000) :
    Calls Try.prog 28 #[v] w fun e w' => e = .returned (.int .i64 (sumR (nfL l))) ∧ Below w.heap.size w w' := by
  have HV := Lib.hid hval; clear hval
  go_enter Try.func28, Try.ntmps28
  go_wp2_with fail
  refine (refNormal_any l v w hr HV.out hlen).mono ?_
  rintro e w1 ⟨v1, x, rfl, ho, hx, hxv, hxl, hb1⟩
  have HE := Lib.hid (nfL_eq hx HV.out)
  have HN := Lib.hid hx
  obtain ⟨p, cap, rfl, hlc, hcap, hp⟩ := ho.rd
  clear ho hx hr hxv
  go_wp2
  go_loopw [3, 5] (fun n i wr => ∃ k : Nat, k ≤ x.length ∧ i = .int .i64 k ∧ n = .int .i64 (sumR (x.take k)) ∧ Below w1.heap.size w1 wr) (fun _ i _ => x.length - (intOf i).toNat)
  case atStart => exact ⟨0, Nat.zero_le _, rfl, rfl, Below.refl _ _⟩
  case round =>
    obtain ⟨k, hk, rfl, rfl, hb⟩ := hrel
    by_cases hlt : k < x.length
    · obtain ⟨b, off, rfl, hbs, hc⟩ := hp (by omega)
      obtain ⟨y, hy⟩ := getSome x k hlt
      have hcc := (hc.below hb hbs) k y hy
      have hc1 := hcc.1
      have hc2 := hcc.2
      have hbd := NFof_bd HN.out HV.out
      have hyb := hbd y (List.mem_of_getElem? hy)
      have hs := NF_sum_bd 1073741824 (x.take k) 0 (NF_take HN.out.1 k) (fun p hp => by have := hbd p (List.mem_of_mem_take hp); omega) (by omega)
      have HS := Lib.hid (sumR_snoc x k y hy)
      obtain ⟨hs1, hs2⟩ := hs
      obtain ⟨hy1, hy2, hy3⟩ := hyb
      clear hc hp hcc hy hbd
      go_wp2
      go_roundw
      case rel => exact ⟨k + 1, by omega, by go_num, by rw [HS.out], hb⟩
      case measure => simp [intOf]; omega
    · go_wp2
      go_ret
      have hkn : k = x.length := by omega
      refine ⟨ret_int ?_, bel hb1 hb⟩
      rw [hkn, List.take_length, HE.out]

end Go.Proofs.Yteengifhndmjeaa
