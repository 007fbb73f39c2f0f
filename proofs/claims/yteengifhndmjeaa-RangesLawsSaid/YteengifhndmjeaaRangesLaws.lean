/- RangesLaws returns true for every input, and leaves its arguments as they were. No condition. -/
import Derived.Test.YteengifhndmjeaaGlue
import Derived.Test.YteengifhndmjeaaRanI
namespace Go.Proofs.Yteengifhndmjeaa
open Go.ChangeShapes Go.WideShapes Go.ChangeAt Go.RowKit

set_option maxRecDepth 100000 in
theorem rangesLaws_lifted (os : Os) (started : os.Started) (H : Type) (enc : TypeId × Value → H) :
    ReturnsInHanded {} Try.checked os 4 .any (Rows.rangesLawsSpec.pre6 enc Try.prog Try.f4 Rows.rangesLawsRow.domain false) (Rows.rangesLawsSpec.post enc Try.prog Try.f4 false true false false) := by
  refine returnsInHanded_of_change (C := Try.checked) Try.own started (by kernel_rfl) Try.func4
    (ChangeSpec.witness6 (enc := enc) (C := Try.checked) false ⟨#[], #[.slice none 0 0, .slice none 0 0, .slice none 0 0], []⟩ 8 (by kernel_rfl) (by kernel_rfl) (by kernel_rfl) (by kernel_rfl)) ?_
  intro W base args ds gs before hval0 hW _ _
  have hval : ∀ (j : Nat) t v, Try.f4.params[j]? = some t → args[j]? = some v → Value.okWide Try.prog W .any base t v := hval0
  have hW' := hW
  obtain ⟨p, q, hA0, hV, rfl, _, _⟩ := hW
  have hA : DataW.TrodAll enc Try.prog W 0 (fun _ => true) true Try.f4.params.toList args.toList ds p := hA0
  rw [Try.params4] at hA hval
  have hAll := hA
  obtain ⟨v0, v1, v2, d0, d1, d2, p0, p1, p2, rfl, rfl, rfl, h0, h1, h2⟩ := trodAll_three hA
  obtain ⟨rfl, rfl⟩ := trodVars_none hV
  clear hA0 hval0
  obtain ⟨l0, r0, _⟩ := openR (hval 0 _ v0 rfl rfl) h0
  obtain ⟨l1, r1, _⟩ := openR (hval 1 _ v1 rfl rfl) h1
  obtain ⟨l2, r2, _⟩ := openR (hval 2 _ v2 rfl rfl) h2
  simp only [List.append_nil] at hW'
  refine (laws_any l0 l1 l2 v0 v1 v2 W r0 r1 r2).mono fun e W' ⟨he, hb⟩ => ?_
  subst he
  have hargs := trodAll_below hb _ _ _ _ hAll (by simp only [List.mem_cons, List.not_mem_nil, or_false]; rintro t (rfl | rfl | rfl) <;> exact ⟨by kernel_rfl, of_decide_eq_true (by kernel_rfl)⟩) (fun x hx => by simpa using hW'.lt x (by simpa using hx))
  exact ⟨_, rfl, _, _, _, [], _, [], hW', trodAll_mk1 (shut_bool Try.underlying4 _), hargs, rfl, hb.frame _, fun h => by cases h⟩

theorem rangesLaws_holds : Rows.RangesLawsSaid :=
  OpenClaim.holds_of_wide 4 Try.f4 rfl rfl rfl rfl rfl rfl rfl ⟨rfl, rfl, rfl, rfl, rfl⟩ rfl rfl rfl rfl rfl (by kernel_rfl) Try.func4 (by kernel_rfl)
    (of_decide_eq_true (by kernel_rfl)) (by unfold Func.isWrapper; first | (rw [if_pos (by decide +kernel)]; kernel_rfl) | (rw [if_neg (by decide +kernel)]; exact ⟨rfl, rfl⟩))
    (fun os started H enc _ => rangesLaws_lifted os started H enc)

#print axioms rangesLaws_holds
end Go.Proofs.Yteengifhndmjeaa
