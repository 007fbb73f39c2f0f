/- PolicyFree returns true for every input, and leaves its argument as it was. Condition: the variable names.suffixes holds what the program's text lays into it, as the card's tie says. -/
import Derived.Test.YtjdfihglehfelaaGreatDoorRows
import Derived.Test.YtjdfihglehfelaaGreatDoorShelf
import Derived.Test.YtjdfihglehfelaaGreatDoorCards
import Derived.Test.YtjdfihglehfelaaGreatDoorTie
import Derived.Test.YtjdfihglehfelaaGreatDoorPf01
import Derived.Test.YtjdfihglehfelaaGreatDoorPf02
import Derived.Test.YtjdfihglehfelaaGreatDoorPf03
import Derived.Test.YtjdfihglehfelaaGreatDoorPf04
import Derived.Test.YtjdfihglehfelaaGreatDoorPf05
import Derived.Test.YtjdfihglehfelaaGreatDoorPf06
import Derived.Test.YtjdfihglehfelaaGreatDoorPf07
import Derived.Test.YtjdfihglehfelaaGreatDoorPf08
import Derived.Test.YtjdfihglehfelaaGreatDoorPf09
import Derived.Test.YtjdfihglehfelaaGreatDoorPf10
import Derived.Test.YtjdfihglehfelaaGreatDoorPf11
import Derived.Test.YtjdfihglehfelaaGreatDoorPf12
import Derived.Test.YtjdfihglehfelaaGreatDoorPf13
import Derived.Test.YtjdfihglehfelaaGreatDoorPf14
import Derived.Test.YtjdfihglehfelaaGreatDoorPf15
import Derived.Test.YtjdfihglehfelaaGreatDoorPf16
import Derived.Test.YtjdfihglehfelaaGreatDoorPf17
import Derived.Test.YtjdfihglehfelaaGreatDoorPf18
import Derived.Test.YtjdfihglehfelaaGreatDoorPf19
import Derived.Test.YtjdfihglehfelaaGreatDoorPf20
import Derived.Test.YtjdfihglehfelaaGreatDoorPf21
import Derived.Test.YtjdfihglehfelaaGreatDoorPf22
import Derived.Test.YtjdfihglehfelaaGreatDoorPf23
import Derived.Test.YtjdfihglehfelaaGreatDoorPf24
import Derived.Test.YtjdfihglehfelaaGreatDoorPf25
import Derived.Test.YtjdfihglehfelaaGreatDoorPf26
import Derived.Test.YtjdfihglehfelaaGreatDoorPf27
import Derived.Test.YtjdfihglehfelaaGreatDoorPf28
import Derived.Test.YtjdfihglehfelaaGreatDoorPf29
import Derived.Test.YtjdfihglehfelaaGreatDoorPf30
import Derived.Test.YtjdfihglehfelaaGreatDoorPf31
import Derived.Test.YtjdfihglehfelaaGreatDoorPf32
import Derived.Test.YtjdfihglehfelaaGreatDoorPf33
import Derived.Test.YtjdfihglehfelaaGreatDoorPf34
import Derived.Test.YtjdfihglehfelaaGreatDoorPf35
import Derived.Test.YtjdfihglehfelaaGreatDoorPf36
import Derived.Test.YtjdfihglehfelaaGreatDoorPf37
import Derived.Test.YtjdfihglehfelaaGreatDoorPf38
import Derived.Test.YtjdfihglehfelaaGreatDoorPf39
import Derived.Test.YtjdfihglehfelaaGreatDoorPf40
import Derived.Test.YtjdfihglehfelaaGreatDoorPf41
import Derived.Test.YtjdfihglehfelaaGreatDoorPf42
import Derived.Test.YtjdfihglehfelaaGreatDoorPf43
import Derived.Test.YtjdfihglehfelaaGreatDoorPf44
import Derived.Test.YtjdfihglehfelaaGreatDoorPf45
import Derived.Test.YtjdfihglehfelaaGreatDoorPf46
import Derived.Test.YtjdfihglehfelaaGreatDoorPf47
import Derived.Test.YtjdfihglehfelaaGreatDoorPf48
import Derived.Test.YtjdfihglehfelaaGreatDoorPf49
import Derived.Test.YtjdfihglehfelaaGreatDoorPf50
import Derived.Test.YtjdfihglehfelaaGreatDoorPf51
import Derived.StillTail
import Derived.Deep.Quiet
import Derived.BigQuiet
import Derived.WalkKit
import Derived.Lib.Hide
import Derived.Deep.QuietTactic
import Derived.ProofKit
import Derived.Deep.SlicePairs
import Derived.OpenShut
import Derived.Deep.Slices
import Derived.WalkSpells
import Derived.WalkLawsBesides
import Derived.StillTailTactics
import Derived.OneCell
import Derived.Deep.DeepCutAuto
import Derived.Deep.CutBlock
import Derived.BigRegion
import Derived.Deep.RegionLaw
import Derived.Maps.AppendAt
import Derived.Deep.RegionHeld3
import Derived.OrdersHeld
import Derived.IntWalk
import Derived.OrdersIn
import Derived.ControlIn
import Derived.TacticsIn
import Derived.RangeFuncKeeps
import Derived.Maps.OwnSet
import Derived.Maps.Views
import Derived.Laws.StructEq
import Derived.Lib.SlicesCompact
import Derived.Shelf.SlSortCmp.WholeK
import Derived.Lib.OwnBridge
import Derived.Laws.Strings
import Derived.Laws.EntriesVeiled
import Derived.WideMake
import Derived.DeepKeys4
import Derived.Laws.MakeOwn
import Derived.WalkSmall
import Derived.Deep.LoopGhost
import Derived.Deep.AppendLies
import Derived.RangeFuncNested
import Derived.RangeFuncBound
import Derived.RangeFuncCalls
import Derived.RangeFuncLeaves
import Derived.Shelf.Abstract
import Derived.Shelf.RegionOpen
import Derived.OwnWalkIn
import Derived.TacticsInMore
import Derived.LoopNIn
import Derived.LoopIn
import Derived.Shelf.SlSortCmp.Insertion
import Derived.Shelf.SlicesQ.Equal
import Derived.Outline
import Derived.WalkMore
import Derived.Laws.AppendOwnNone
import Derived.LaidMore
import Derived.Stop.Joined
import Derived.SevenTiedAt
namespace Go.Proofs.YtjdfihglehfelaaGreatDoor
open Go.Proofs.Tryz
open Go.ChangeShapes Go.WideShapes Go.ChangeAt Go.RowKit
theorem Tryz.own : ownKnob prog.godebug = none := by kernel_rfl

set_option maxRecDepth 100000 in
theorem policyFree_lifted (os : Os) (started : os.Started) (H : Type) (enc : TypeId × Value -> H) :
    ReturnsInHanded {} Tryz.checked os 5 .any (fun w args => (Rows.policyFreeSpec.pre enc prog Tryz.f5 [] false w args /\ laidMetH prog nC w) /\ sizedMet enc prog Tryz.f5 (OpenSpec.ofChange Rows.policyFreeSpec) false w args)
      (Rows.policyFreeSpec.post enc prog Tryz.f5 false true false false) := by
  refine returnsInHanded_of_change_and (C := Tryz.checked) (X := fun w _ => laidMetH prog nC w) (fun _ _ _ hh h => h.of_heap hh) Tryz.own started (by kernel_rfl) func5
    (ChangeSpec.witness_shaped (enc := enc) (C := Tryz.checked) (os := os) (X := fun w _ => laidMetH prog nC w) false (World.doorLaid prog 400 os) #[.slice none 0 0] 8 rfl (World.shaped_of_RefB (by kernel_rfl) (by kernel_rfl)) (by kernel_rfl) (by kernel_rfl) (by kernel_rfl) (Cj os _)) ?_
  intro W base args ds gs before hval0 hW _ _ hL _
  have hval : ∀ (j : Nat) t v, Tryz.f5.params[j]? = some t -> args[j]? = some v -> Value.okWide prog W .any base t v := hval0
  have hW' := hW
  obtain ⟨p, q, hA0, hV, rfl, _, _⟩ := hW
  have hA : DataW.TrodAll enc prog W 0 (fun _ => true) true Tryz.f5.params.toList args.toList ds p := hA0
  rw [Tryz.params5] at hA hval
  have XW := hA
  obtain ⟨v0, d0, rfl, rfl, h0⟩ := trodAll_one hA
  obtain ⟨rfl, rfl⟩ := trodVars_none hV
  clear hA0 hval0
  obtain ⟨l0, r0, w0⟩ := Fw (hval 0 _ v0 rfl rfl) h0
  simp only [eM] at hW'
  refine (GJ l0 v0 W r0 w0 (vW hL)).mono fun e W' ⟨he, hb⟩ => ?_
  subst he
  have TH := lJ hb _ _ _ _ XW (by simp only [dr, cY, dg]; rintro t (rfl) <;> exact ⟨by kernel_rfl, of_decide_eq_true (by kernel_rfl)⟩) (fun x hx => by simpa using hW'.lt x (by simpa using hx))
  exact ⟨_, rfl, _, _, _, [], _, [], hW', trodAll_mk1 (shut_bool underlying4 _), TH, rfl, hb.frame _, fun h => by cases h⟩

theorem policyFree_named : Tryz.pinned.checked.prog.funcNamed Rows.policyFreeRow.func = some 5 := by kernel_rfl
theorem policyFree_c0 : (Rows.policyFreeRow.inPlace == Tryz.pinned.checked.prog.inPlace 5) = true := by kernel_rfl
theorem policyFree_c1 : (Rows.policyFreeRow.unfollowed == Tryz.pinned.checked.prog.unfollowed 5) = true := by kernel_rfl
theorem policyFree_c2 : (Rows.policyFreeRow.recurses == Tryz.pinned.checked.prog.recurses 5) = true := by kernel_rfl
theorem policyFree_c3 : (Rows.policyFreeRow.named == Tryz.pinned.checked.prog.varsNamed 5) = true := by kernel_rfl
theorem policyFree_c4 : (Rows.policyFreeRow.lifted == Tryz.pinned.checked.prog.liftsFinal) = true := by kernel_rfl
theorem policyFree_closed : joinedFacts Tryz.pinned.checked.prog 5 Tryz.f5 Rows.policyFreeSpec Rows.policyFreeRow = true := by
  unfold joinedFacts
  rw [policyFree_c0, policyFree_c1, policyFree_c2, policyFree_c3, policyFree_c4]
  kernel_rfl
theorem policyFree_inst : Tryz.f5.isInstance Tryz.pinned.checked.prog Rows.policyFreeRow.origin Rows.policyFreeRow.targs := of_decide_eq_true (by kernel_rfl)
theorem policyFree_wrap : Tryz.f5.isWrapper Tryz.pinned.checked.prog Rows.policyFreeRow.wrapper Rows.policyFreeRow.mainSum := by
  unfold Func.isWrapper
  first | (rw [aw (by decide +kernel)]; kernel_rfl) | (rw [bh (by decide +kernel)]; exact ⟨rfl, rfl⟩)
theorem policyFree_holds : Rows.PolicyFreeSaid :=
  OpenClaim.holds_of_wide 5 Tryz.f5 rfl rfl rfl rfl rfl rfl rfl ⟨rfl, rfl, rfl, rfl, rfl⟩ rfl rfl rfl rfl rfl policyFree_named func5 policyFree_closed
    policyFree_inst policyFree_wrap (fun os started H enc _ => policyFree_lifted os started H enc)

theorem policyFree_wf : Rows.policyFreeRow.wfByText (OpenSpec.ofChange Rows.policyFreeSpec) = true := by kernel_rfl
theorem policyFree_main : Tryz.pinned.checked.prog.mainIs = some (true, "1502557a65aef56c33f4d8feffaa05ce435a28ba388b1011cd3946f0917cff53".toList) := by kernel_rfl
theorem policyFree_looks : false = Tryz.pinned.checked.prog.looks [] := by kernel_rfl
theorem policyFree_stand : prog.wantsStandIn 22 = false := by kernel_rfl
theorem policyFree_goes : false = Rows.policyFreeRow.goesBy Tryz.pinned.checked.prog := by kernel_rfl
theorem policyFree_card : Rows.PolicyFreeCardSaid :=
  Claim7.holds_tied_plain_at .later [] [.widerDeep] true (true, "1502557a65aef56c33f4d8feffaa05ce435a28ba388b1011cd3946f0917cff53") false
    policyFree_holds (fun _ h => by cases h) policyFree_wf (fun _ h => by cases h) policyFree_row_tie rfl ⟨rfl, rfl⟩ policyFree_main rfl
    (fun f fn hf hfn => by
      obtain rfl : f = 5 := (gj (policyFree_named.symm.trans hf)).symm
      obtain rfl : fn = Tryz.f5 := (gj (func5.symm.trans hfn)).symm
      exact ⟨policyFree_looks, fun j t ht => by
        rw [Tryz.params5] at ht
        have h3 : t = 22 := by
          rcases j with _ | j
          · simpa using ht.symm
          · simp at ht
        subst h3
        exact policyFree_stand⟩)
    policyFree_goes
#print axioms policyFree_card
end Go.Proofs.YtjdfihglehfelaaGreatDoor
