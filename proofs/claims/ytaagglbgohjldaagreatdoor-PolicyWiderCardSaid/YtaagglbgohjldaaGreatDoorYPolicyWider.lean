/- PolicyWider returns true for every input, and leaves its argument as it was. Condition: the variable names.suffixes holds what the program's text lays into it, as the card's tie says. -/
import Derived.Test.YtaagglbgohjldaaGreatDoorRows
import Derived.Test.YtaagglbgohjldaaGreatDoorShelf
import Derived.Test.YtaagglbgohjldaaGreatDoorCards
import Derived.Test.YtaagglbgohjldaaGreatDoorTie
import Derived.Test.YtaagglbgohjldaaGreatDoorQv01
import Derived.Test.YtaagglbgohjldaaGreatDoorQv02
import Derived.Test.YtaagglbgohjldaaGreatDoorQv03
import Derived.Test.YtaagglbgohjldaaGreatDoorQv04
import Derived.Test.YtaagglbgohjldaaGreatDoorQv05
import Derived.Test.YtaagglbgohjldaaGreatDoorQv06
import Derived.Test.YtaagglbgohjldaaGreatDoorQv07
import Derived.Test.YtaagglbgohjldaaGreatDoorQv08
import Derived.Test.YtaagglbgohjldaaGreatDoorQv09
import Derived.Test.YtaagglbgohjldaaGreatDoorQv10
import Derived.Test.YtaagglbgohjldaaGreatDoorQv11
import Derived.Test.YtaagglbgohjldaaGreatDoorQv12
import Derived.Test.YtaagglbgohjldaaGreatDoorQv13
import Derived.Test.YtaagglbgohjldaaGreatDoorQv14
import Derived.Test.YtaagglbgohjldaaGreatDoorQv15
import Derived.Test.YtaagglbgohjldaaGreatDoorQv16
import Derived.Test.YtaagglbgohjldaaGreatDoorQv17
import Derived.Test.YtaagglbgohjldaaGreatDoorQv18
import Derived.Test.YtaagglbgohjldaaGreatDoorQv19
import Derived.Test.YtaagglbgohjldaaGreatDoorQv20
import Derived.Test.YtaagglbgohjldaaGreatDoorQv21
import Derived.Test.YtaagglbgohjldaaGreatDoorQv22
import Derived.Test.YtaagglbgohjldaaGreatDoorQv23
import Derived.Test.YtaagglbgohjldaaGreatDoorQv24
import Derived.Test.YtaagglbgohjldaaGreatDoorQv25
import Derived.Test.YtaagglbgohjldaaGreatDoorQv26
import Derived.Test.YtaagglbgohjldaaGreatDoorQv27
import Derived.Test.YtaagglbgohjldaaGreatDoorQv28
import Derived.Test.YtaagglbgohjldaaGreatDoorQv29
import Derived.Test.YtaagglbgohjldaaGreatDoorQv30
import Derived.Test.YtaagglbgohjldaaGreatDoorQv31
import Derived.Test.YtaagglbgohjldaaGreatDoorQv32
import Derived.Test.YtaagglbgohjldaaGreatDoorQv33
import Derived.Test.YtaagglbgohjldaaGreatDoorQv34
import Derived.Test.YtaagglbgohjldaaGreatDoorQv35
import Derived.Test.YtaagglbgohjldaaGreatDoorQv36
import Derived.Test.YtaagglbgohjldaaGreatDoorQv37
import Derived.Test.YtaagglbgohjldaaGreatDoorQv38
import Derived.Test.YtaagglbgohjldaaGreatDoorQv39
import Derived.Test.YtaagglbgohjldaaGreatDoorQv40
import Derived.Test.YtaagglbgohjldaaGreatDoorQv41
import Derived.Test.YtaagglbgohjldaaGreatDoorQv42
import Derived.Test.YtaagglbgohjldaaGreatDoorQv43
import Derived.Test.YtaagglbgohjldaaGreatDoorQv44
import Derived.Test.YtaagglbgohjldaaGreatDoorQv45
import Derived.Test.YtaagglbgohjldaaGreatDoorQv46
import Derived.Test.YtaagglbgohjldaaGreatDoorQv47
import Derived.Test.YtaagglbgohjldaaGreatDoorQv48
import Derived.Test.YtaagglbgohjldaaGreatDoorQv49
import Derived.Test.YtaagglbgohjldaaGreatDoorQv50
import Derived.StillTail
import Derived.Deep.Quiet
import Derived.BigQuiet
import Derived.WalkKit
import Derived.Lib.Hide
import Derived.Deep.QuietTactic
import Derived.ProofKit
import Derived.Deep.SlicePairs
import Derived.OpenShut
import Derived.Deep.Slices
import Derived.WalkSpells
import Derived.WalkLawsBesides
import Derived.StillTailTactics
import Derived.OneCell
import Derived.Deep.DeepCutAuto
import Derived.Deep.CutBlock
import Derived.BigRegion
import Derived.Deep.RegionLaw
import Derived.Maps.AppendAt
import Derived.Deep.RegionHeld3
import Derived.OrdersHeld
import Derived.IntWalk
import Derived.OrdersIn
import Derived.ControlIn
import Derived.TacticsIn
import Derived.RangeFuncKeeps
import Derived.Maps.OwnSet
import Derived.Maps.Views
import Derived.Laws.StructEq
import Derived.Lib.SlicesCompact
import Derived.Shelf.SlSortCmp.WholeK
import Derived.Lib.OwnBridge
import Derived.Laws.Strings
import Derived.Laws.EntriesVeiled
import Derived.WideMake
import Derived.DeepKeys4
import Derived.Laws.MakeOwn
import Derived.WalkSmall
import Derived.Deep.LoopGhost
import Derived.Deep.AppendLies
import Derived.RangeFuncNested
import Derived.RangeFuncBound
import Derived.RangeFuncCalls
import Derived.RangeFuncLeaves
import Derived.Shelf.Abstract
import Derived.Shelf.RegionOpen
import Derived.OwnWalkIn
import Derived.TacticsInMore
import Derived.LoopNIn
import Derived.LoopIn
import Derived.Shelf.SlSortCmp.Insertion
import Derived.Shelf.SlicesQ.Equal
import Derived.Outline
import Derived.WalkMore
import Derived.Laws.AppendOwnNone
import Derived.LaidMore
import Derived.Stop.Joined
import Derived.SevenTiedAt
namespace Go.Proofs.YtaagglbgohjldaaGreatDoor
open Go.Proofs.Tryz
open Go.ChangeShapes Go.WideShapes Go.ChangeAt Go.RowKit
theorem Tryz.own : ownKnob prog.godebug = none := by kernel_rfl
set_option maxRecDepth 100000 in
theorem policyWider_lifted (os : Os) (started : os.Started) (H : Type) (enc : TypeId × Value -> H) :
    ReturnsInHanded {} Tryz.checked os 3 .any (fun w args => (Rows.policyWiderSpec.pre enc prog Tryz.f3 [] false w args /\ laidMetH prog nC w) /\ sizedMet enc prog Tryz.f3 (OpenSpec.ofChange Rows.policyWiderSpec) false w args)
      (Rows.policyWiderSpec.post enc prog Tryz.f3 false true false false) := by
  refine returnsInHanded_of_change_and (C := Tryz.checked) (X := fun w _ => laidMetH prog nC w) (fun _ _ _ hh h => h.of_heap hh) Tryz.own started TcE func3
    (ChangeSpec.witness_shaped (enc := enc) (C := Tryz.checked) (os := os) (X := fun w _ => laidMetH prog nC w) false (World.doorLaid prog 400 os) #[.slice none 0 0] 8 rfl (World.shaped_of_RefB TcE TcE) TcE TcE TcE (Cj os _)) ?_
  intro W base args ds gs before hval0 hW _ _ hL _;have hval : ∀ (j : Nat) t v, Tryz.f3.params[j]? = some t -> args[j]? = some v -> Value.okWide prog W .any base t v := hval0;have hW' := hW;obtain ⟨p, q, hA0, hV, rfl, _, _⟩ := hW;have hA : DataW.TrodAll enc prog W 0 (fun _ => true) true Tryz.f3.params.toList args.toList ds p := hA0;rw [Tryz.params3] at hA hval;have XW := hA;obtain ⟨v0, d0, rfl, rfl, h0⟩ := trodAll_one hA;obtain ⟨rfl, rfl⟩ := trodVars_none hV;clear hA0 hval0;obtain ⟨l0, r0, w0⟩ := Fw (hval 0 _ v0 rfl rfl) h0;simp only [eM] at hW';refine (Hw l0 v0 W r0 w0 (vW hL)).mono fun e W' ⟨he, hb⟩ => ?_
  subst he;have TH := lJ hb _ _ _ _ XW (by simp only [dr, cY, dg]; rintro t (rfl) <;> exact ⟨TcE, of_decide_eq_true TcE⟩) (fun x hx => by simpa using hW'.lt x TdL);exact ⟨_, rfl, _, _, _, [], _, [], hW', trodAll_mk1 (shut_bool underlying4 _), TH, rfl, hb.frame _, fun h => by cases h⟩
theorem policyWider_named : Tryz.pinned.checked.prog.funcNamed Rows.policyWiderRow.func = some 3 := by kernel_rfl
theorem policyWider_c0 : (Rows.policyWiderRow.inPlace == Tryz.pinned.checked.prog.inPlace 3) = true := by kernel_rfl
theorem policyWider_c1 : (Rows.policyWiderRow.unfollowed == Tryz.pinned.checked.prog.unfollowed 3) = true := by kernel_rfl
theorem policyWider_c2 : (Rows.policyWiderRow.recurses == Tryz.pinned.checked.prog.recurses 3) = true := by kernel_rfl
theorem policyWider_c3 : (Rows.policyWiderRow.named == Tryz.pinned.checked.prog.varsNamed 3) = true := by kernel_rfl
theorem policyWider_c4 : (Rows.policyWiderRow.lifted == Tryz.pinned.checked.prog.liftsFinal) = true := by kernel_rfl
theorem policyWider_closed : joinedFacts Tryz.pinned.checked.prog 3 Tryz.f3 Rows.policyWiderSpec Rows.policyWiderRow = true := by
  unfold joinedFacts;rw [policyWider_c0, policyWider_c1, policyWider_c2, policyWider_c3, policyWider_c4];kernel_rfl
theorem policyWider_inst : Tryz.f3.isInstance Tryz.pinned.checked.prog Rows.policyWiderRow.origin Rows.policyWiderRow.targs := of_decide_eq_true TcE
theorem policyWider_wrap : Tryz.f3.isWrapper Tryz.pinned.checked.prog Rows.policyWiderRow.wrapper Rows.policyWiderRow.mainSum := by
  unfold Func.isWrapper
  first | (rw [aw (by decide +kernel)]; kernel_rfl) | (rw [bh (by decide +kernel)]; exact ⟨rfl, rfl⟩)
theorem policyWider_holds : Rows.PolicyWiderSaid :=
  OpenClaim.holds_of_wide 3 Tryz.f3 rfl rfl rfl rfl rfl rfl rfl ⟨rfl, rfl, rfl, rfl, rfl⟩ rfl rfl rfl rfl rfl policyWider_named func3 policyWider_closed
    policyWider_inst policyWider_wrap (fun os started H enc _ => policyWider_lifted os started H enc)
theorem policyWider_wf : Rows.policyWiderRow.wfByText (OpenSpec.ofChange Rows.policyWiderSpec) = true := by kernel_rfl
theorem policyWider_main : Tryz.pinned.checked.prog.mainIs = some (true, "a8eb2828b935500736a47404503fad75cebddc3b272092f5dd903c20b1688243".toList) := by kernel_rfl
theorem policyWider_looks : false = Tryz.pinned.checked.prog.looks [] := by kernel_rfl
theorem policyWider_stand : prog.wantsStandIn 22 = false := by kernel_rfl
theorem policyWider_goes : false = Rows.policyWiderRow.goesBy Tryz.pinned.checked.prog := by kernel_rfl
theorem policyWider_card : Rows.PolicyWiderCardSaid :=
  Claim7.holds_tied_plain_at .later [] [.widerDeep] true (true, "a8eb2828b935500736a47404503fad75cebddc3b272092f5dd903c20b1688243") false
    policyWider_holds (fun _ h => by cases h) policyWider_wf (fun _ h => by cases h) policyWider_row_tie rfl ⟨rfl, rfl⟩ policyWider_main rfl
    (fun f fn hf hfn => by
      obtain rfl : f = 3 := (gj (policyWider_named.symm.trans hf)).symm;obtain rfl : fn = Tryz.f3 := (gj (func3.symm.trans hfn)).symm;exact ⟨policyWider_looks, fun j t ht => by
        rw [Tryz.params3] at ht;have h3 : t = 22 := by
          rcases j with _ | j
          · simpa using ht.symm
          · simp at ht
        subst h3;exact policyWider_stand⟩)
    policyWider_goes
#print axioms policyWider_card
end Go.Proofs.YtaagglbgohjldaaGreatDoor
