/- PolicyTags returns true for every input, and leaves its argument as it was. Condition: the variable names.suffixes holds what the program's text lays into it, as the card's tie says. -/
import Derived.Test.YtjdfihglehfelaaGreatDoorRows
import Derived.Test.YtjdfihglehfelaaGreatDoorShelf
import Derived.Test.YtjdfihglehfelaaGreatDoorCards
import Derived.Test.YtjdfihglehfelaaGreatDoorTie
import Derived.Test.YtjdfihglehfelaaGreatDoorPk01
import Derived.Test.YtjdfihglehfelaaGreatDoorPk02
import Derived.Test.YtjdfihglehfelaaGreatDoorPk03
import Derived.Test.YtjdfihglehfelaaGreatDoorPk04
import Derived.Test.YtjdfihglehfelaaGreatDoorPk05
import Derived.Test.YtjdfihglehfelaaGreatDoorPk06
import Derived.Test.YtjdfihglehfelaaGreatDoorPk07
import Derived.Test.YtjdfihglehfelaaGreatDoorPk08
import Derived.Test.YtjdfihglehfelaaGreatDoorPk09
import Derived.Test.YtjdfihglehfelaaGreatDoorPk10
import Derived.Test.YtjdfihglehfelaaGreatDoorPk11
import Derived.Test.YtjdfihglehfelaaGreatDoorPk12
import Derived.Test.YtjdfihglehfelaaGreatDoorPk13
import Derived.Test.YtjdfihglehfelaaGreatDoorPk14
import Derived.Test.YtjdfihglehfelaaGreatDoorPk15
import Derived.Test.YtjdfihglehfelaaGreatDoorPk16
import Derived.Test.YtjdfihglehfelaaGreatDoorPk17
import Derived.Test.YtjdfihglehfelaaGreatDoorPk18
import Derived.Test.YtjdfihglehfelaaGreatDoorPk19
import Derived.Test.YtjdfihglehfelaaGreatDoorPk20
import Derived.Test.YtjdfihglehfelaaGreatDoorPk21
import Derived.Test.YtjdfihglehfelaaGreatDoorPk22
import Derived.Test.YtjdfihglehfelaaGreatDoorPk23
import Derived.Test.YtjdfihglehfelaaGreatDoorPk24
import Derived.Test.YtjdfihglehfelaaGreatDoorPk25
import Derived.Test.YtjdfihglehfelaaGreatDoorPk26
import Derived.Test.YtjdfihglehfelaaGreatDoorPk27
import Derived.Test.YtjdfihglehfelaaGreatDoorPk28
import Derived.Test.YtjdfihglehfelaaGreatDoorPk29
import Derived.Test.YtjdfihglehfelaaGreatDoorPk30
import Derived.Test.YtjdfihglehfelaaGreatDoorPk31
import Derived.Test.YtjdfihglehfelaaGreatDoorPk32
import Derived.Test.YtjdfihglehfelaaGreatDoorPk33
import Derived.Test.YtjdfihglehfelaaGreatDoorPk34
import Derived.Test.YtjdfihglehfelaaGreatDoorPk35
import Derived.Test.YtjdfihglehfelaaGreatDoorPk36
import Derived.Test.YtjdfihglehfelaaGreatDoorPk37
import Derived.Test.YtjdfihglehfelaaGreatDoorPk38
import Derived.Test.YtjdfihglehfelaaGreatDoorPk39
import Derived.Test.YtjdfihglehfelaaGreatDoorPk40
import Derived.Test.YtjdfihglehfelaaGreatDoorPk41
import Derived.Test.YtjdfihglehfelaaGreatDoorPk42
import Derived.Test.YtjdfihglehfelaaGreatDoorPk43
import Derived.Test.YtjdfihglehfelaaGreatDoorPk44
import Derived.Test.YtjdfihglehfelaaGreatDoorPk45
import Derived.Test.YtjdfihglehfelaaGreatDoorPk46
import Derived.Test.YtjdfihglehfelaaGreatDoorPk47
import Derived.Test.YtjdfihglehfelaaGreatDoorPk48
import Derived.StillTail
import Derived.Deep.Quiet
import Derived.BigQuiet
import Derived.WalkKit
import Derived.Lib.Hide
import Derived.Deep.QuietTactic
import Derived.ProofKit
import Derived.Deep.SlicePairs
import Derived.OpenShut
import Derived.Deep.Slices
import Derived.WalkSpells
import Derived.WalkLawsBesides
import Derived.StillTailTactics
import Derived.OneCell
import Derived.Deep.DeepCutAuto
import Derived.Deep.CutBlock
import Derived.BigRegion
import Derived.Deep.RegionLaw
import Derived.Maps.AppendAt
import Derived.Deep.RegionHeld3
import Derived.OrdersHeld
import Derived.IntWalk
import Derived.OrdersIn
import Derived.ControlIn
import Derived.TacticsIn
import Derived.RangeFuncKeeps
import Derived.Maps.OwnSet
import Derived.Maps.Views
import Derived.Laws.StructEq
import Derived.Lib.SlicesCompact
import Derived.Shelf.SlSortCmp.WholeK
import Derived.Lib.OwnBridge
import Derived.Laws.Strings
import Derived.Laws.EntriesVeiled
import Derived.WideMake
import Derived.DeepKeys4
import Derived.Laws.MakeOwn
import Derived.WalkSmall
import Derived.Deep.LoopGhost
import Derived.Deep.AppendLies
import Derived.RangeFuncNested
import Derived.RangeFuncBound
import Derived.RangeFuncCalls
import Derived.RangeFuncLeaves
import Derived.Shelf.Abstract
import Derived.Shelf.RegionOpen
import Derived.OwnWalkIn
import Derived.TacticsInMore
import Derived.LoopNIn
import Derived.LoopIn
import Derived.Shelf.SlSortCmp.Insertion
import Derived.Shelf.SlicesQ.Equal
import Derived.Outline
import Derived.WalkMore
import Derived.LaidMore
import Derived.Stop.Joined
import Derived.SevenTiedAt
namespace Go.Proofs.YtjdfihglehfelaaGreatDoor
open Go.ChangeShapes Go.WideShapes Go.ChangeAt Go.RowKit
theorem Tryz.own : ownKnob Tryz.prog.godebug = none := by kernel_rfl

set_option maxRecDepth 100000 in
theorem policyTags_lifted (os : Os) (started : os.Started) (H : Type) (enc : TypeId × Value → H) :
    ReturnsInHanded {} Tryz.checked os 7 .any (fun w args => (Rows.policyTagsSpec.pre enc Tryz.prog Tryz.f7 [] false w args ∧ laidMetH Tryz.prog nC w) ∧ sizedMet enc Tryz.prog Tryz.f7 (OpenSpec.ofChange Rows.policyTagsSpec) false w args)
      (Rows.policyTagsSpec.post enc Tryz.prog Tryz.f7 false true false false) := by
  refine returnsInHanded_of_change_and (C := Tryz.checked) (X := fun w _ => laidMetH Tryz.prog nC w) (fun _ _ _ hh h => h.of_heap hh) Tryz.own started (by kernel_rfl) Tryz.func7
    (ChangeSpec.witness_shaped (enc := enc) (C := Tryz.checked) (os := os) (X := fun w _ => laidMetH Tryz.prog nC w) false (World.doorLaid Tryz.prog 400 os) #[.slice none 0 0] 8 rfl (World.shaped_of_RefB (by kernel_rfl) (by kernel_rfl)) (by kernel_rfl) (by kernel_rfl) (by kernel_rfl) (Cj os _)) ?_
  intro W base args ds gs before hval0 hW _ _ hL _
  have hval : ∀ (j : Nat) t v, Tryz.f7.params[j]? = some t → args[j]? = some v → Value.okWide Tryz.prog W .any base t v := hval0
  have hW' := hW
  obtain ⟨p, q, hA0, hV, rfl, _, _⟩ := hW
  have hA : DataW.TrodAll enc Tryz.prog W 0 (fun _ => true) true Tryz.f7.params.toList args.toList ds p := hA0
  rw [Tryz.params7] at hA hval
  have hAll := hA
  obtain ⟨v0, d0, rfl, rfl, h0⟩ := trodAll_one hA
  obtain ⟨rfl, rfl⟩ := trodVars_none hV
  clear hA0 hval0
  obtain ⟨l0, r0, w0⟩ := Fw (hval 0 _ v0 rfl rfl) h0
  simp only [List.append_nil] at hW'
  refine (qz l0 v0 W r0 w0 (vW hL)).mono fun e W' ⟨he, hb⟩ => ?_
  subst he
  have hargs := lJ hb _ _ _ _ hAll (by simp only [List.mem_cons, List.not_mem_nil, or_false]; rintro t (rfl) <;> exact ⟨by kernel_rfl, of_decide_eq_true (by kernel_rfl)⟩) (fun x hx => by simpa using hW'.lt x (by simpa using hx))
  exact ⟨_, rfl, _, _, _, [], _, [], hW', trodAll_mk1 (shut_bool Tryz.underlying4 _), hargs, rfl, hb.frame _, fun h => by cases h⟩

theorem policyTags_named : Tryz.pinned.checked.prog.funcNamed Rows.policyTagsRow.func = some 7 := by kernel_rfl
theorem policyTags_c0 : (Rows.policyTagsRow.inPlace == Tryz.pinned.checked.prog.inPlace 7) = true := by kernel_rfl
theorem policyTags_c1 : (Rows.policyTagsRow.unfollowed == Tryz.pinned.checked.prog.unfollowed 7) = true := by kernel_rfl
theorem policyTags_c2 : (Rows.policyTagsRow.recurses == Tryz.pinned.checked.prog.recurses 7) = true := by kernel_rfl
theorem policyTags_c3 : (Rows.policyTagsRow.named == Tryz.pinned.checked.prog.varsNamed 7) = true := by kernel_rfl
theorem policyTags_c4 : (Rows.policyTagsRow.lifted == Tryz.pinned.checked.prog.liftsFinal) = true := by kernel_rfl
theorem policyTags_closed : joinedFacts Tryz.pinned.checked.prog 7 Tryz.f7 Rows.policyTagsSpec Rows.policyTagsRow = true := by
  unfold joinedFacts
  rw [policyTags_c0, policyTags_c1, policyTags_c2, policyTags_c3, policyTags_c4]
  kernel_rfl
theorem policyTags_inst : Tryz.f7.isInstance Tryz.pinned.checked.prog Rows.policyTagsRow.origin Rows.policyTagsRow.targs := of_decide_eq_true (by kernel_rfl)
theorem policyTags_wrap : Tryz.f7.isWrapper Tryz.pinned.checked.prog Rows.policyTagsRow.wrapper Rows.policyTagsRow.mainSum := by
  unfold Func.isWrapper
  first | (rw [if_pos (by decide +kernel)]; kernel_rfl) | (rw [if_neg (by decide +kernel)]; exact ⟨rfl, rfl⟩)
theorem policyTags_holds : Rows.PolicyTagsSaid :=
  OpenClaim.holds_of_wide 7 Tryz.f7 rfl rfl rfl rfl rfl rfl rfl ⟨rfl, rfl, rfl, rfl, rfl⟩ rfl rfl rfl rfl rfl policyTags_named Tryz.func7 policyTags_closed
    policyTags_inst policyTags_wrap (fun os started H enc _ => policyTags_lifted os started H enc)

theorem policyTags_wf : Rows.policyTagsRow.wfByText (OpenSpec.ofChange Rows.policyTagsSpec) = true := by kernel_rfl
theorem policyTags_main : Tryz.pinned.checked.prog.mainIs = some (true, "1502557a65aef56c33f4d8feffaa05ce435a28ba388b1011cd3946f0917cff53".toList) := by kernel_rfl
theorem policyTags_looks : false = Tryz.pinned.checked.prog.looks [] := by kernel_rfl
theorem policyTags_stand : Tryz.prog.wantsStandIn 22 = false := by kernel_rfl
theorem policyTags_goes : false = Rows.policyTagsRow.goesBy Tryz.pinned.checked.prog := by kernel_rfl
theorem policyTags_card : Rows.PolicyTagsCardSaid :=
  Claim7.holds_tied_plain_at .later [] [.widerDeep] true (true, "1502557a65aef56c33f4d8feffaa05ce435a28ba388b1011cd3946f0917cff53") false
    policyTags_holds (fun _ h => by cases h) policyTags_wf (fun _ h => by cases h) policyTags_row_tie rfl ⟨rfl, rfl⟩ policyTags_main rfl
    (fun f fn hf hfn => by
      obtain rfl : f = 7 := (Option.some.inj (policyTags_named.symm.trans hf)).symm
      obtain rfl : fn = Tryz.f7 := (Option.some.inj (Tryz.func7.symm.trans hfn)).symm
      exact ⟨policyTags_looks, fun j t ht => by
        rw [Tryz.params7] at ht
        have h3 : t = 22 := by
          rcases j with _ | j
          · simpa using ht.symm
          · simp at ht
        subst h3
        exact policyTags_stand⟩)
    policyTags_goes
#print axioms policyTags_card
end Go.Proofs.YtjdfihglehfelaaGreatDoor
