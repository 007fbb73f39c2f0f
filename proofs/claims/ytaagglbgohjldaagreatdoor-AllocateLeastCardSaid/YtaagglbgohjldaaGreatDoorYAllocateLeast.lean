/- AllocateLeast returns true for every input, and leaves its argument as it was. Condition: the variable names.suffixes holds what the program's text lays into it, as the card's tie says. -/
import Derived.Test.YtaagglbgohjldaaGreatDoorQj12
import Derived.Test.YtaagglbgohjldaaGreatDoorCards
import Derived.Test.YtaagglbgohjldaaGreatDoorTie
import Derived.SevenTiedAt
namespace Go.Proofs.YtaagglbgohjldaaGreatDoor
open Go.Proofs.Tryz
open Go.ChangeShapes Go.WideShapes Go.ChangeAt Go.RowKit
theorem Tryz.own : ownKnob prog.godebug=none:=by kernel_rfl
set_option maxRecDepth 100000 in
theorem zAz(os : Os) (a5 : os.Started) (H : Type) (enc : TypeId × Value -> H) :
    ReturnsInHanded {} Tryz.checked os 4 .any (fun w args => (Rows.allocateLeastSpec.pre enc prog Tryz.f4 [] false w args /\ laidMetH prog nC w) /\ sizedMet enc prog Tryz.f4 (OpenSpec.ofChange Rows.allocateLeastSpec) false w args)
      (Rows.allocateLeastSpec.post enc prog Tryz.f4 false true false false):=by
  refine returnsInHanded_of_change_and (C := Tryz.checked) (X := fun w _ => laidMetH prog nC w) (fun _ _ _ hh h => h.of_heap hh) Tryz.own a5 Tc3 func4
    (ChangeSpec.witness_shaped (enc := enc) (C := Tryz.checked) (os := os) (X := fun w _ => laidMetH prog nC w) false (World.doorLaid prog 400 os) #[.slice none 0 0] 8 rfl (World.shaped_of_RefB Tc3 Tc3) Tc3 Tc3 Tc3 (Cj os _)) ?_
  intro W base args ds gs a8 a7 hW _ _ hL _;have hval : ∀(j : Nat) t v, Tryz.f4.params[j]? = some t -> args[j]? = some v -> Value.okWide prog W .any base t v := a7;have hW' := hW;obtain⟨p, q, a9, hV, rfl, _, _⟩ := hW;have hA : DataW.TrodAll enc prog W 0 (fun _ => true) true Tryz.f4.params.toList args.toList ds p := a9;rw[Tryz.params4]at hA hval;have XW := hA;obtain⟨v0, d0, rfl, rfl, h0⟩ := trodAll_one hA;obtain⟨rfl, rfl⟩ := trodVars_none hV;clear a9 a7;obtain⟨l0, r0, w0⟩ := Fw (hval 0 _ v0 rfl rfl) h0;simp only[eM]at hW';refine(uR l0 v0 W r0 w0 (vW hL)).mono fun e W' ⟨he, hb⟩ => ?_
  subst he;have TH := lJ hb _ _ _ _ XW (by simp only[dr, cY, dg]; rintro t (rfl)<;>exact⟨Tc3, of_decide_eq_true Tc3⟩) (fun x hx => by simpa using hW'.lt x TdZ);exact⟨_, rfl, _, _, _, [], _, [], hW', trodAll_mk1 (shut_bool underlying4 _), TH, rfl, hb.frame _, fun h => by cases h⟩
theorem zBz : Tryz.pinned.checked.prog.funcNamed Rows.allocateLeastRow.func=some 4:=by kernel_rfl
theorem zCz : (Rows.allocateLeastRow.inPlace==Tryz.pinned.checked.prog.inPlace 4)=true:=by kernel_rfl
theorem zDz : (Rows.allocateLeastRow.unfollowed==Tryz.pinned.checked.prog.unfollowed 4)=true:=by kernel_rfl
theorem zEz : (Rows.allocateLeastRow.recurses==Tryz.pinned.checked.prog.recurses 4)=true:=by kernel_rfl
theorem zFz : (Rows.allocateLeastRow.named==Tryz.pinned.checked.prog.varsNamed 4)=true:=by kernel_rfl
theorem zGz : (Rows.allocateLeastRow.lifted==Tryz.pinned.checked.prog.liftsFinal)=true:=by kernel_rfl
theorem zHz : joinedFacts Tryz.pinned.checked.prog 4 Tryz.f4 Rows.allocateLeastSpec Rows.allocateLeastRow=true:=by
  unfold joinedFacts;rw[zCz, zDz, zEz, zFz, zGz];kernel_rfl
theorem zIz : Tryz.f4.isInstance Tryz.pinned.checked.prog Rows.allocateLeastRow.origin Rows.allocateLeastRow.targs := of_decide_eq_true Tc3
theorem zJz : Tryz.f4.isWrapper Tryz.pinned.checked.prog Rows.allocateLeastRow.wrapper Rows.allocateLeastRow.mainSum:=by
  unfold Func.isWrapper
  first|(rw[aw (by decide +kernel)]; kernel_rfl)|(rw[bh (by decide +kernel)]; exact⟨rfl, rfl⟩)
theorem zKz : Rows.AllocateLeastSaid:=
  OpenClaim.holds_of_wide 4 Tryz.f4 rfl rfl rfl rfl rfl rfl rfl ⟨rfl, rfl, rfl, rfl, rfl⟩ rfl rfl rfl rfl rfl zBz func4 zHz
    zIz zJz (fun os a5 H enc _ => zAz os a5 H enc)
theorem zLz : Rows.allocateLeastRow.wfByText (OpenSpec.ofChange Rows.allocateLeastSpec)=true:=by kernel_rfl
theorem zMz : Tryz.pinned.checked.prog.mainIs=some (true, "a8eb2828b935500736a47404503fad75cebddc3b272092f5dd903c20b1688243".toList):=by kernel_rfl
theorem zNz : false=Tryz.pinned.checked.prog.looks []:=by kernel_rfl
theorem zOz : prog.wantsStandIn 22=false:=by kernel_rfl
theorem zPz : false=Rows.allocateLeastRow.goesBy Tryz.pinned.checked.prog:=by kernel_rfl
theorem allocateLeast_card : Rows.AllocateLeastCardSaid:=
  Claim7.holds_tied_plain_at .later [] [.widerDeep] true (true, "a8eb2828b935500736a47404503fad75cebddc3b272092f5dd903c20b1688243") false
    zKz (fun _ h=>by cases h) zLz (fun _ h=>by cases h) allocateLeast_row_tie rfl ⟨rfl, rfl⟩ zMz rfl
    (fun f fn hf a5 => by
      obtain rfl : f=4 := (gj (zBz.symm.trans hf)).symm;obtain rfl : fn=Tryz.f4 := (gj (func4.symm.trans a5)).symm;exact⟨zNz, fun j t ht => by
        rw[Tryz.params4]at ht;have h3 : t=22:=by
          rcases j with _|j
          · simpa using ht.symm
          · simp at ht
        subst h3;exact zOz⟩)
    zPz
#print axioms allocateLeast_card
end Go.Proofs.YtaagglbgohjldaaGreatDoor
