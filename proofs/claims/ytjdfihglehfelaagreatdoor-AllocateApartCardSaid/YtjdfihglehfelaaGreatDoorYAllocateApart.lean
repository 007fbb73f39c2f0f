/- AllocateApart returns true for every input, and leaves its argument as it was. Condition: the variable names.suffixes holds what the program's text lays into it, as the card's tie says. -/
import Derived.Test.YtjdfihglehfelaaGreatDoorRows
import Derived.Test.YtjdfihglehfelaaGreatDoorShelf
import Derived.Test.YtjdfihglehfelaaGreatDoorCards
import Derived.Test.YtjdfihglehfelaaGreatDoorTie
import Derived.Test.YtjdfihglehfelaaGreatDoorQm01
import Derived.Test.YtjdfihglehfelaaGreatDoorQm02
import Derived.Test.YtjdfihglehfelaaGreatDoorQm03
import Derived.Test.YtjdfihglehfelaaGreatDoorQm04
import Derived.Test.YtjdfihglehfelaaGreatDoorQm05
import Derived.Test.YtjdfihglehfelaaGreatDoorQm06
import Derived.Test.YtjdfihglehfelaaGreatDoorQm07
import Derived.Test.YtjdfihglehfelaaGreatDoorQm08
import Derived.Test.YtjdfihglehfelaaGreatDoorQm09
import Derived.Test.YtjdfihglehfelaaGreatDoorQm10
import Derived.Test.YtjdfihglehfelaaGreatDoorQm11
import Derived.Test.YtjdfihglehfelaaGreatDoorQm12
import Derived.Test.YtjdfihglehfelaaGreatDoorQm13
import Derived.Test.YtjdfihglehfelaaGreatDoorQm14
import Derived.Test.YtjdfihglehfelaaGreatDoorQm15
import Derived.Test.YtjdfihglehfelaaGreatDoorQm16
import Derived.Test.YtjdfihglehfelaaGreatDoorQm17
import Derived.Test.YtjdfihglehfelaaGreatDoorQm18
import Derived.Test.YtjdfihglehfelaaGreatDoorQm19
import Derived.Test.YtjdfihglehfelaaGreatDoorQm20
import Derived.Test.YtjdfihglehfelaaGreatDoorQm21
import Derived.Test.YtjdfihglehfelaaGreatDoorQm22
import Derived.Test.YtjdfihglehfelaaGreatDoorQm23
import Derived.Test.YtjdfihglehfelaaGreatDoorQm24
import Derived.Test.YtjdfihglehfelaaGreatDoorQm25
import Derived.Test.YtjdfihglehfelaaGreatDoorQm26
import Derived.Test.YtjdfihglehfelaaGreatDoorQm27
import Derived.Test.YtjdfihglehfelaaGreatDoorQm28
import Derived.Test.YtjdfihglehfelaaGreatDoorQm29
import Derived.Test.YtjdfihglehfelaaGreatDoorQm30
import Derived.Test.YtjdfihglehfelaaGreatDoorQm31
import Derived.Test.YtjdfihglehfelaaGreatDoorQm32
import Derived.Test.YtjdfihglehfelaaGreatDoorQm33
import Derived.Test.YtjdfihglehfelaaGreatDoorQm34
import Derived.Test.YtjdfihglehfelaaGreatDoorQm35
import Derived.Test.YtjdfihglehfelaaGreatDoorQm36
import Derived.Test.YtjdfihglehfelaaGreatDoorQm37
import Derived.Test.YtjdfihglehfelaaGreatDoorQm38
import Derived.Test.YtjdfihglehfelaaGreatDoorQm39
import Derived.Test.YtjdfihglehfelaaGreatDoorQm40
import Derived.Test.YtjdfihglehfelaaGreatDoorQm41
import Derived.Test.YtjdfihglehfelaaGreatDoorQm42
import Derived.Test.YtjdfihglehfelaaGreatDoorQm43
import Derived.Test.YtjdfihglehfelaaGreatDoorQm44
import Derived.Test.YtjdfihglehfelaaGreatDoorQn01
import Derived.StillTail
import Derived.Deep.Quiet
import Derived.BigQuiet
import Derived.WalkKit
import Derived.Lib.Hide
import Derived.Deep.QuietTactic
import Derived.ProofKit
import Derived.Deep.SlicePairs
import Derived.OpenShut
import Derived.Deep.Slices
import Derived.WalkSpells
import Derived.WalkLawsBesides
import Derived.StillTailTactics
import Derived.OneCell
import Derived.Deep.DeepCutAuto
import Derived.Deep.CutBlock
import Derived.BigRegion
import Derived.Deep.RegionLaw
import Derived.Maps.AppendAt
import Derived.Deep.RegionHeld3
import Derived.OrdersHeld
import Derived.IntWalk
import Derived.OrdersIn
import Derived.ControlIn
import Derived.TacticsIn
import Derived.RangeFuncKeeps
import Derived.Maps.OwnSet
import Derived.Maps.Views
import Derived.Laws.StructEq
import Derived.Lib.SlicesCompact
import Derived.Shelf.SlSortCmp.WholeK
import Derived.Lib.OwnBridge
import Derived.Laws.Strings
import Derived.Laws.EntriesVeiled
import Derived.WideMake
import Derived.DeepKeys4
import Derived.Laws.MakeOwn
import Derived.WalkSmall
import Derived.Deep.LoopGhost
import Derived.Deep.AppendLies
import Derived.RangeFuncNested
import Derived.RangeFuncBound
import Derived.RangeFuncCalls
import Derived.RangeFuncLeaves
import Derived.Shelf.Abstract
import Derived.Shelf.RegionOpen
import Derived.OwnWalkIn
import Derived.TacticsInMore
import Derived.LoopNIn
import Derived.LoopIn
import Derived.Shelf.SlSortCmp.Insertion
import Derived.Shelf.SlicesQ.Equal
import Derived.Outline
import Derived.WalkMore
import Derived.Lib.LazyBuf
import Derived.LaidMore
import Derived.Stop.Joined
import Derived.SevenTiedAt
namespace Go.Proofs.YtjdfihglehfelaaGreatDoor
open Go.Proofs.Tryz
open Go.ChangeShapes Go.WideShapes Go.ChangeAt Go.RowKit
theorem Tryz.own : ownKnob prog.godebug = none := by kernel_rfl

set_option maxRecDepth 100000 in
theorem allocateApart_lifted (os : Os) (started : os.Started) (H : Type) (enc : TypeId × Value -> H) :
    ReturnsInHanded {} Tryz.checked os 13 .any (fun w args => (Rows.allocateApartSpec.pre enc prog Tryz.f13 [] false w args /\ laidMetH prog nC w) /\ sizedMet enc prog Tryz.f13 (OpenSpec.ofChange Rows.allocateApartSpec) false w args)
      (Rows.allocateApartSpec.post enc prog Tryz.f13 false true false false) := by
  refine returnsInHanded_of_change_and (C := Tryz.checked) (X := fun w _ => laidMetH prog nC w) (fun _ _ _ hh h => h.of_heap hh) Tryz.own started (by kernel_rfl) func13
    (ChangeSpec.witness_shaped (enc := enc) (C := Tryz.checked) (os := os) (X := fun w _ => laidMetH prog nC w) false (World.doorLaid prog 400 os) #[.slice none 0 0] 8 rfl (World.shaped_of_RefB (by kernel_rfl) (by kernel_rfl)) (by kernel_rfl) (by kernel_rfl) (by kernel_rfl) (Cj os _)) ?_
  intro W base args ds gs before hval0 hW _ _ hL _
  have hval : ∀ (j : Nat) t v, Tryz.f13.params[j]? = some t -> args[j]? = some v -> Value.okWide prog W .any base t v := hval0
  have hW' := hW
  obtain ⟨p, q, hA0, hV, rfl, _, _⟩ := hW
  have hA : DataW.TrodAll enc prog W 0 (fun _ => true) true Tryz.f13.params.toList args.toList ds p := hA0
  rw [Tryz.params13] at hA hval
  have XW := hA
  obtain ⟨v0, d0, rfl, rfl, h0⟩ := trodAll_one hA
  obtain ⟨rfl, rfl⟩ := trodVars_none hV
  clear hA0 hval0
  obtain ⟨l0, r0, w0⟩ := Fw (hval 0 _ v0 rfl rfl) h0
  simp only [eM] at hW'
  refine (NE l0 v0 W r0 w0 (vW hL)).mono fun e W' ⟨he, hb⟩ => ?_
  subst he
  have TH := lJ hb _ _ _ _ XW (by simp only [dr, cY, dg]; rintro t (rfl) <;> exact ⟨by kernel_rfl, of_decide_eq_true (by kernel_rfl)⟩) (fun x hx => by simpa using hW'.lt x (by simpa using hx))
  exact ⟨_, rfl, _, _, _, [], _, [], hW', trodAll_mk1 (shut_bool underlying4 _), TH, rfl, hb.frame _, fun h => by cases h⟩

theorem allocateApart_named : Tryz.pinned.checked.prog.funcNamed Rows.allocateApartRow.func = some 13 := by kernel_rfl
theorem allocateApart_c0 : (Rows.allocateApartRow.inPlace == Tryz.pinned.checked.prog.inPlace 13) = true := by kernel_rfl
theorem allocateApart_c1 : (Rows.allocateApartRow.unfollowed == Tryz.pinned.checked.prog.unfollowed 13) = true := by kernel_rfl
theorem allocateApart_c2 : (Rows.allocateApartRow.recurses == Tryz.pinned.checked.prog.recurses 13) = true := by kernel_rfl
theorem allocateApart_c3 : (Rows.allocateApartRow.named == Tryz.pinned.checked.prog.varsNamed 13) = true := by kernel_rfl
theorem allocateApart_c4 : (Rows.allocateApartRow.lifted == Tryz.pinned.checked.prog.liftsFinal) = true := by kernel_rfl
theorem allocateApart_closed : joinedFacts Tryz.pinned.checked.prog 13 Tryz.f13 Rows.allocateApartSpec Rows.allocateApartRow = true := by
  unfold joinedFacts
  rw [allocateApart_c0, allocateApart_c1, allocateApart_c2, allocateApart_c3, allocateApart_c4]
  kernel_rfl
theorem allocateApart_inst : Tryz.f13.isInstance Tryz.pinned.checked.prog Rows.allocateApartRow.origin Rows.allocateApartRow.targs := of_decide_eq_true (by kernel_rfl)
theorem allocateApart_wrap : Tryz.f13.isWrapper Tryz.pinned.checked.prog Rows.allocateApartRow.wrapper Rows.allocateApartRow.mainSum := by
  unfold Func.isWrapper
  first | (rw [aw (by decide +kernel)]; kernel_rfl) | (rw [bh (by decide +kernel)]; exact ⟨rfl, rfl⟩)
theorem allocateApart_holds : Rows.AllocateApartSaid :=
  OpenClaim.holds_of_wide 13 Tryz.f13 rfl rfl rfl rfl rfl rfl rfl ⟨rfl, rfl, rfl, rfl, rfl⟩ rfl rfl rfl rfl rfl allocateApart_named func13 allocateApart_closed
    allocateApart_inst allocateApart_wrap (fun os started H enc _ => allocateApart_lifted os started H enc)

theorem allocateApart_wf : Rows.allocateApartRow.wfByText (OpenSpec.ofChange Rows.allocateApartSpec) = true := by kernel_rfl
theorem allocateApart_main : Tryz.pinned.checked.prog.mainIs = some (true, "1502557a65aef56c33f4d8feffaa05ce435a28ba388b1011cd3946f0917cff53".toList) := by kernel_rfl
theorem allocateApart_looks : false = Tryz.pinned.checked.prog.looks [] := by kernel_rfl
theorem allocateApart_stand : prog.wantsStandIn 22 = false := by kernel_rfl
theorem allocateApart_goes : false = Rows.allocateApartRow.goesBy Tryz.pinned.checked.prog := by kernel_rfl
theorem allocateApart_card : Rows.AllocateApartCardSaid :=
  Claim7.holds_tied_plain_at .later [] [.widerDeep] true (true, "1502557a65aef56c33f4d8feffaa05ce435a28ba388b1011cd3946f0917cff53") false
    allocateApart_holds (fun _ h => by cases h) allocateApart_wf (fun _ h => by cases h) allocateApart_row_tie rfl ⟨rfl, rfl⟩ allocateApart_main rfl
    (fun f fn hf hfn => by
      obtain rfl : f = 13 := (gj (allocateApart_named.symm.trans hf)).symm
      obtain rfl : fn = Tryz.f13 := (gj (func13.symm.trans hfn)).symm
      exact ⟨allocateApart_looks, fun j t ht => by
        rw [Tryz.params13] at ht
        have h3 : t = 22 := by
          rcases j with _ | j
          · simpa using ht.symm
          · simp at ht
        subst h3
        exact allocateApart_stand⟩)
    allocateApart_goes
#print axioms allocateApart_card
end Go.Proofs.YtjdfihglehfelaaGreatDoor
