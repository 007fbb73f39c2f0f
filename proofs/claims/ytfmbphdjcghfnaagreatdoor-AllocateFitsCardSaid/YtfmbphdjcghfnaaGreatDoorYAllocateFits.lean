/- AllocateFits returns true for every input, and leaves its argument as it was. Condition: the variable names.suffixes holds what the program's text lays into it, as the card's tie says. -/
import Derived.Test.YtfmbphdjcghfnaaGreatDoorQj11
import Derived.Test.YtfmbphdjcghfnaaGreatDoorCards
import Derived.Test.YtfmbphdjcghfnaaGreatDoorTie
import Derived.SevenTiedAt
open Go.Value renaming int→Bm,slice→FG,string→By,pointer→SL,bool→Ft,agg→Tk,tuple→Vj
open Go.IntKind renaming i64→Sj,u64→U8
open Go.Obj renaming cells→Sx
open Go.Ending renaming returned→S6
open Option renaming some→Vv,none→VX
open Bool renaming false→VN,true→VR
open Decidable renaming decide→V7
open List renaming length→Wq
namespace Go.Proofs.YtfmbphdjcghfnaaGreatDoor
open Go.Proofs.Tryz
open Go.ChangeShapes Go.WideShapes Go.ChangeAt Go.RowKit
theorem Tryz.own : ownKnob prog.godebug=VX := by kernel_rfl
set_option maxRecDepth 100000 in
theorem allocateFits_lifted(os : Os) (a5 : os.Started) (H : Type) (enc : TypeId × zY -> H) :
    ReturnsInHanded {} Tryz.checked os 3 .any (fun w args => (Rows.allocateFitsSpec.pre enc prog Tryz.f3 [] VN w args /\ laidMetH prog nC w) /\ sizedMet enc prog Tryz.f3 (OpenSpec.ofChange Rows.allocateFitsSpec) VN w args)
      (Rows.allocateFitsSpec.post enc prog Tryz.f3 VN VR VN VN) := by
  refine returnsInHanded_of_change_and (C := Tryz.checked) (X := fun w _ => laidMetH prog nC w) (fun _ _ _ hh h => h.of_heap hh) Tryz.own a5 Yp func3
    (ChangeSpec.witness_shaped (enc := enc) (C := Tryz.checked) (os := os) (X := fun w _ => laidMetH prog nC w) VN (World.doorLaid prog 400 os) #[FG VX 0 0] 8 lX (World.shaped_of_RefB Yp Yp) Yp Yp Yp (Cj os)) ?_
  intro W base args ds gs a8 a7 hW _ _ hL _;have hval : ∀(j : Nat) t v, Tryz.f3.params[j]? = Vv t -> args[j]? = Vv v -> Value.okWide prog W .any base t v := a7;have hW' := hW;obtain⟨p, q, a9, hV, rfl, _, _⟩ := hW;have hA : DataW.TrodAll enc prog W 0 (fun _ => VR) VR Tryz.f3.params.toList args.toList ds p := a9;rw[Tryz.params3]at hA hval;have XW := hA;obtain⟨v0, d0, rfl, rfl, h0⟩ := trodAll_one hA;obtain⟨rfl, rfl⟩ := trodVars_none hV;clear a9 a7;obtain⟨l0, r0, w0⟩ := Fw (hval 0 _ v0 lX rfl) h0;simp only[eM]at hW';refine(Et l0 v0 W r0 w0 (vW hL)).mono fun e W' ⟨he, hb⟩ => ?_
  subst he;have TH := lJ hb _ _ _ _ XW (by simp only[dr, cY, dg]; rintro t (rfl)<;>exact⟨Yp, of_decide_eq_true Yp⟩) (fun x hx => by simpa using hW'.lt x Td7);exact⟨_, rfl, _, _, _, [], _, [], hW', trodAll_mk1 (shut_bool underlying4 _), TH, rfl, hb.frame _, fun h => by cases h⟩
theorem allocateFits_named : Tryz.pinned.checked.prog.funcNamed Rows.allocateFitsRow.func=Vv 3 := by kernel_rfl
theorem allocateFits_c0 : (Rows.allocateFitsRow.inPlace==Tryz.pinned.checked.prog.inPlace 3)=VR := by kernel_rfl
theorem allocateFits_c1 : (Rows.allocateFitsRow.unfollowed==Tryz.pinned.checked.prog.unfollowed 3)=VR := by kernel_rfl
theorem allocateFits_c2 : (Rows.allocateFitsRow.recurses==Tryz.pinned.checked.prog.recurses 3)=VR := by kernel_rfl
theorem allocateFits_c3 : (Rows.allocateFitsRow.named==Tryz.pinned.checked.prog.varsNamed 3)=VR := by kernel_rfl
theorem allocateFits_c4 : (Rows.allocateFitsRow.lifted==Tryz.pinned.checked.prog.liftsFinal)=VR := by kernel_rfl
theorem allocateFits_closed : joinedFacts Tryz.pinned.checked.prog 3 Tryz.f3 Rows.allocateFitsSpec Rows.allocateFitsRow=VR := by
  unfold joinedFacts;rw[allocateFits_c0, allocateFits_c1, allocateFits_c2, allocateFits_c3, allocateFits_c4];kernel_rfl
theorem allocateFits_inst : Tryz.f3.isInstance Tryz.pinned.checked.prog Rows.allocateFitsRow.origin Rows.allocateFitsRow.targs := of_decide_eq_true Yp
theorem allocateFits_wrap : Tryz.f3.isWrapper Tryz.pinned.checked.prog Rows.allocateFitsRow.wrapper Rows.allocateFitsRow.mainSum := by
  unfold Func.isWrapper
  first|(rw[aw (by decide +kernel)]; kernel_rfl)|(rw[bh (by decide +kernel)]; exact⟨rfl, rfl⟩)
theorem allocateFits_holds : Rows.AllocateFitsSaid :=
  OpenClaim.holds_of_wide 3 Tryz.f3 lX rfl rfl rfl rfl rfl rfl ⟨rfl, rfl, rfl, rfl, rfl⟩ lX rfl rfl rfl rfl allocateFits_named func3 allocateFits_closed
    allocateFits_inst allocateFits_wrap (fun os a5 H enc _ => allocateFits_lifted os a5 H enc)
theorem allocateFits_wf : Rows.allocateFitsRow.wfByText (OpenSpec.ofChange Rows.allocateFitsSpec)=VR := by kernel_rfl
theorem allocateFits_main : Tryz.pinned.checked.prog.mainIs=Vv (VR, "f7814de635ac9adf215a691a75668cf1cef6379e824af6e0c70204c3a82ed928".toList) := by kernel_rfl
theorem allocateFits_looks : VN=Tryz.pinned.checked.prog.looks [] := by kernel_rfl
theorem allocateFits_stand : prog.wantsStandIn 22=VN := by kernel_rfl
theorem allocateFits_goes : VN=Rows.allocateFitsRow.goesBy Tryz.pinned.checked.prog := by kernel_rfl
theorem allocateFits_card : Rows.AllocateFitsCardSaid :=
  Claim7.holds_tied_plain_at .later [] [.widerDeep] VR (VR, "f7814de635ac9adf215a691a75668cf1cef6379e824af6e0c70204c3a82ed928") VN
    allocateFits_holds (fun _ h => by cases h) allocateFits_wf (fun _ h => by cases h) allocateFits_row_tie lX ⟨rfl, rfl⟩ allocateFits_main lX
    (fun f fn hf a5 => by
      obtain rfl : f=3 := (gj (allocateFits_named.symm.trans hf)).symm;obtain rfl : fn=Tryz.f3 := (gj (func3.symm.trans a5)).symm;exact⟨allocateFits_looks, fun j t ht => by
        rw[Tryz.params3]at ht;have h3 : t=22 := by
          rcases j with _|j
          ·simpa using ht.symm
          simp at ht
        subst h3;exact allocateFits_stand⟩)
    allocateFits_goes
#print axioms allocateFits_card
end Go.Proofs.YtfmbphdjcghfnaaGreatDoor
