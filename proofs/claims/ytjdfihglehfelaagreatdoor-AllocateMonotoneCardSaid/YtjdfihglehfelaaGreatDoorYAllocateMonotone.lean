/- AllocateMonotone returns true for every input, and leaves its argument as it was. Condition: the variable names.suffixes holds what the program's text lays into it, as the card's tie says. -/
import Derived.Test.YtjdfihglehfelaaGreatDoorRows
import Derived.Test.YtjdfihglehfelaaGreatDoorShelf
import Derived.Test.YtjdfihglehfelaaGreatDoorCards
import Derived.Test.YtjdfihglehfelaaGreatDoorTie
import Derived.Test.YtjdfihglehfelaaGreatDoorQm01
import Derived.Test.YtjdfihglehfelaaGreatDoorQm02
import Derived.Test.YtjdfihglehfelaaGreatDoorQm03
import Derived.Test.YtjdfihglehfelaaGreatDoorQm04
import Derived.Test.YtjdfihglehfelaaGreatDoorQm05
import Derived.Test.YtjdfihglehfelaaGreatDoorQm06
import Derived.Test.YtjdfihglehfelaaGreatDoorQm07
import Derived.Test.YtjdfihglehfelaaGreatDoorQm08
import Derived.Test.YtjdfihglehfelaaGreatDoorQm09
import Derived.Test.YtjdfihglehfelaaGreatDoorQm10
import Derived.Test.YtjdfihglehfelaaGreatDoorQm11
import Derived.Test.YtjdfihglehfelaaGreatDoorQm12
import Derived.Test.YtjdfihglehfelaaGreatDoorQm13
import Derived.Test.YtjdfihglehfelaaGreatDoorQm14
import Derived.Test.YtjdfihglehfelaaGreatDoorQm15
import Derived.Test.YtjdfihglehfelaaGreatDoorQm16
import Derived.Test.YtjdfihglehfelaaGreatDoorQm17
import Derived.Test.YtjdfihglehfelaaGreatDoorQm18
import Derived.Test.YtjdfihglehfelaaGreatDoorQm19
import Derived.Test.YtjdfihglehfelaaGreatDoorQm20
import Derived.Test.YtjdfihglehfelaaGreatDoorQm21
import Derived.Test.YtjdfihglehfelaaGreatDoorQm22
import Derived.Test.YtjdfihglehfelaaGreatDoorQm23
import Derived.Test.YtjdfihglehfelaaGreatDoorQm24
import Derived.Test.YtjdfihglehfelaaGreatDoorQm25
import Derived.Test.YtjdfihglehfelaaGreatDoorQm26
import Derived.Test.YtjdfihglehfelaaGreatDoorQm27
import Derived.Test.YtjdfihglehfelaaGreatDoorQm28
import Derived.Test.YtjdfihglehfelaaGreatDoorQm29
import Derived.Test.YtjdfihglehfelaaGreatDoorQm30
import Derived.Test.YtjdfihglehfelaaGreatDoorQm31
import Derived.Test.YtjdfihglehfelaaGreatDoorQm32
import Derived.Test.YtjdfihglehfelaaGreatDoorQm33
import Derived.Test.YtjdfihglehfelaaGreatDoorQm34
import Derived.Test.YtjdfihglehfelaaGreatDoorQm35
import Derived.Test.YtjdfihglehfelaaGreatDoorQm36
import Derived.Test.YtjdfihglehfelaaGreatDoorQm37
import Derived.Test.YtjdfihglehfelaaGreatDoorQm38
import Derived.Test.YtjdfihglehfelaaGreatDoorQm39
import Derived.Test.YtjdfihglehfelaaGreatDoorQm40
import Derived.Test.YtjdfihglehfelaaGreatDoorQm41
import Derived.Test.YtjdfihglehfelaaGreatDoorQm42
import Derived.Test.YtjdfihglehfelaaGreatDoorQm43
import Derived.Test.YtjdfihglehfelaaGreatDoorQm44
import Derived.StillTail
import Derived.Deep.Quiet
import Derived.BigQuiet
import Derived.WalkKit
import Derived.Lib.Hide
import Derived.Deep.QuietTactic
import Derived.ProofKit
import Derived.Deep.SlicePairs
import Derived.OpenShut
import Derived.Deep.Slices
import Derived.WalkSpells
import Derived.WalkLawsBesides
import Derived.StillTailTactics
import Derived.OneCell
import Derived.Deep.DeepCutAuto
import Derived.Deep.CutBlock
import Derived.BigRegion
import Derived.Deep.RegionLaw
import Derived.Maps.AppendAt
import Derived.Deep.RegionHeld3
import Derived.OrdersHeld
import Derived.IntWalk
import Derived.OrdersIn
import Derived.ControlIn
import Derived.TacticsIn
import Derived.RangeFuncKeeps
import Derived.Maps.OwnSet
import Derived.Maps.Views
import Derived.Laws.StructEq
import Derived.Lib.SlicesCompact
import Derived.Shelf.SlSortCmp.WholeK
import Derived.Lib.OwnBridge
import Derived.Laws.Strings
import Derived.Laws.EntriesVeiled
import Derived.WideMake
import Derived.DeepKeys4
import Derived.Laws.MakeOwn
import Derived.WalkSmall
import Derived.Deep.LoopGhost
import Derived.Deep.AppendLies
import Derived.RangeFuncNested
import Derived.RangeFuncBound
import Derived.RangeFuncCalls
import Derived.RangeFuncLeaves
import Derived.Shelf.Abstract
import Derived.Shelf.RegionOpen
import Derived.OwnWalkIn
import Derived.TacticsInMore
import Derived.LoopNIn
import Derived.LoopIn
import Derived.Shelf.SlSortCmp.Insertion
import Derived.Shelf.SlicesQ.Equal
import Derived.Outline
import Derived.WalkMore
import Derived.Lib.LazyBuf
import Derived.LaidMore
import Derived.Stop.Joined
import Derived.SevenTiedAt
namespace Go.Proofs.YtjdfihglehfelaaGreatDoor
open Go.Proofs.Tryz
open Go.ChangeShapes Go.WideShapes Go.ChangeAt Go.RowKit
theorem Tryz.own : ownKnob prog.godebug = none := by kernel_rfl
set_option maxRecDepth 100000 in
theorem allocateMonotone_lifted (os : Os) (started : os.Started) (H : Type) (enc : TypeId × Value -> H) :
    ReturnsInHanded {} Tryz.checked os 12 .any (fun w args => (Rows.allocateMonotoneSpec.pre enc prog Tryz.f12 [] false w args /\ laidMetH prog nC w) /\ sizedMet enc prog Tryz.f12 (OpenSpec.ofChange Rows.allocateMonotoneSpec) false w args)
      (Rows.allocateMonotoneSpec.post enc prog Tryz.f12 false true false false) := by
  refine returnsInHanded_of_change_and (C := Tryz.checked) (X := fun w _ => laidMetH prog nC w) (fun _ _ _ hh h => h.of_heap hh) Tryz.own started Tcf func12
    (ChangeSpec.witness_shaped (enc := enc) (C := Tryz.checked) (os := os) (X := fun w _ => laidMetH prog nC w) false (World.doorLaid prog 400 os) #[.slice none 0 0] 8 rfl (World.shaped_of_RefB Tcf Tcf) Tcf Tcf Tcf (Cj os _)) ?_
  intro W base args ds gs before hval0 hW _ _ hL _
  have hval : ∀ (j : Nat) t v, Tryz.f12.params[j]? = some t -> args[j]? = some v -> Value.okWide prog W .any base t v := hval0
  have hW' := hW
  obtain ⟨p, q, hA0, hV, rfl, _, _⟩ := hW
  have hA : DataW.TrodAll enc prog W 0 (fun _ => true) true Tryz.f12.params.toList args.toList ds p := hA0
  rw [Tryz.params12] at hA hval
  have XW := hA
  obtain ⟨v0, d0, rfl, rfl, h0⟩ := trodAll_one hA
  obtain ⟨rfl, rfl⟩ := trodVars_none hV
  clear hA0 hval0
  obtain ⟨l0, r0, w0⟩ := Fw (hval 0 _ v0 rfl rfl) h0
  simp only [eM] at hW'
  refine (DD l0 v0 W r0 w0 (vW hL)).mono fun e W' ⟨he, hb⟩ => ?_
  subst he
  have TH := lJ hb _ _ _ _ XW (by simp only [dr, cY, dg]; rintro t (rfl) <;> exact ⟨Tcf, of_decide_eq_true Tcf⟩) (fun x hx => by simpa using hW'.lt x Tc2)
  exact ⟨_, rfl, _, _, _, [], _, [], hW', trodAll_mk1 (shut_bool underlying4 _), TH, rfl, hb.frame _, fun h => by cases h⟩
theorem allocateMonotone_named : Tryz.pinned.checked.prog.funcNamed Rows.allocateMonotoneRow.func = some 12 := by kernel_rfl
theorem allocateMonotone_c0 : (Rows.allocateMonotoneRow.inPlace == Tryz.pinned.checked.prog.inPlace 12) = true := by kernel_rfl
theorem allocateMonotone_c1 : (Rows.allocateMonotoneRow.unfollowed == Tryz.pinned.checked.prog.unfollowed 12) = true := by kernel_rfl
theorem allocateMonotone_c2 : (Rows.allocateMonotoneRow.recurses == Tryz.pinned.checked.prog.recurses 12) = true := by kernel_rfl
theorem allocateMonotone_c3 : (Rows.allocateMonotoneRow.named == Tryz.pinned.checked.prog.varsNamed 12) = true := by kernel_rfl
theorem allocateMonotone_c4 : (Rows.allocateMonotoneRow.lifted == Tryz.pinned.checked.prog.liftsFinal) = true := by kernel_rfl
theorem allocateMonotone_closed : joinedFacts Tryz.pinned.checked.prog 12 Tryz.f12 Rows.allocateMonotoneSpec Rows.allocateMonotoneRow = true := by
  unfold joinedFacts
  rw [allocateMonotone_c0, allocateMonotone_c1, allocateMonotone_c2, allocateMonotone_c3, allocateMonotone_c4]
  kernel_rfl
theorem allocateMonotone_inst : Tryz.f12.isInstance Tryz.pinned.checked.prog Rows.allocateMonotoneRow.origin Rows.allocateMonotoneRow.targs := of_decide_eq_true Tcf
theorem allocateMonotone_wrap : Tryz.f12.isWrapper Tryz.pinned.checked.prog Rows.allocateMonotoneRow.wrapper Rows.allocateMonotoneRow.mainSum := by
  unfold Func.isWrapper
  first | (rw [aw (by decide +kernel)]; kernel_rfl) | (rw [bh (by decide +kernel)]; exact ⟨rfl, rfl⟩)
theorem allocateMonotone_holds : Rows.AllocateMonotoneSaid :=
  OpenClaim.holds_of_wide 12 Tryz.f12 rfl rfl rfl rfl rfl rfl rfl ⟨rfl, rfl, rfl, rfl, rfl⟩ rfl rfl rfl rfl rfl allocateMonotone_named func12 allocateMonotone_closed
    allocateMonotone_inst allocateMonotone_wrap (fun os started H enc _ => allocateMonotone_lifted os started H enc)
theorem allocateMonotone_wf : Rows.allocateMonotoneRow.wfByText (OpenSpec.ofChange Rows.allocateMonotoneSpec) = true := by kernel_rfl
theorem allocateMonotone_main : Tryz.pinned.checked.prog.mainIs = some (true, "1502557a65aef56c33f4d8feffaa05ce435a28ba388b1011cd3946f0917cff53".toList) := by kernel_rfl
theorem allocateMonotone_looks : false = Tryz.pinned.checked.prog.looks [] := by kernel_rfl
theorem allocateMonotone_stand : prog.wantsStandIn 22 = false := by kernel_rfl
theorem allocateMonotone_goes : false = Rows.allocateMonotoneRow.goesBy Tryz.pinned.checked.prog := by kernel_rfl
theorem allocateMonotone_card : Rows.AllocateMonotoneCardSaid :=
  Claim7.holds_tied_plain_at .later [] [.widerDeep] true (true, "1502557a65aef56c33f4d8feffaa05ce435a28ba388b1011cd3946f0917cff53") false
    allocateMonotone_holds (fun _ h => by cases h) allocateMonotone_wf (fun _ h => by cases h) allocateMonotone_row_tie rfl ⟨rfl, rfl⟩ allocateMonotone_main rfl
    (fun f fn hf hfn => by
      obtain rfl : f = 12 := (gj (allocateMonotone_named.symm.trans hf)).symm
      obtain rfl : fn = Tryz.f12 := (gj (func12.symm.trans hfn)).symm
      exact ⟨allocateMonotone_looks, fun j t ht => by
        rw [Tryz.params12] at ht
        have h3 : t = 22 := by
          rcases j with _ | j
          · simpa using ht.symm
          · simp at ht
        subst h3
        exact allocateMonotone_stand⟩)
    allocateMonotone_goes
#print axioms allocateMonotone_card
end Go.Proofs.YtjdfihglehfelaaGreatDoor
