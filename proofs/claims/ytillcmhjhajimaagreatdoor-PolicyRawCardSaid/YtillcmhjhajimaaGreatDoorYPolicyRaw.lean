/- PolicyRaw returns true for every input, and leaves its arguments as they were. Condition: the variable names.suffixes holds what the program's text lays into it, as the card's tie says. -/
import Derived.Test.YtillcmhjhajimaaGreatDoorQj27
import Derived.Test.YtillcmhjhajimaaGreatDoorCards
import Derived.Test.YtillcmhjhajimaaGreatDoorTie
import Derived.SevenTiedAt
namespace Go.Proofs.YtillcmhjhajimaaGreatDoor
open Go.Proofs.Tryz
open Go.ChangeShapes Go.WideShapes Go.ChangeAt Go.RowKit
theorem Tryz.own : ownKnob prog.godebug=none := by kernel_rfl
set_option maxRecDepth 100000 in
theorem policyRaw_lifted(os : Os) (started : os.Started) (H : Type) (enc : TypeId × Value -> H) :
    ReturnsInHanded {} Tryz.checked os 3 .any (fun w args => (Rows.policyRawSpec.pre enc prog Tryz.f3 [] false w args /\ laidMetH prog nC w) /\ sizedMet enc prog Tryz.f3 (OpenSpec.ofChange Rows.policyRawSpec) false w args)
      (Rows.policyRawSpec.post enc prog Tryz.f3 false true false false) := by
  refine returnsInHanded_of_change_and (C := Tryz.checked) (X := fun w _ => laidMetH prog nC w) (fun _ _ _ hh h => h.of_heap hh) Tryz.own started TcP func3
    (ChangeSpec.witness_shaped (enc := enc) (C := Tryz.checked) (os := os) (X := fun w _ => laidMetH prog nC w) false (World.doorLaid prog 400 os) #[.slice none 0 0, .agg #[.int .i64 0, .int .i64 0, .int .i64 0, .int .i64 0, .string ⟨#[]⟩, .string ⟨#[]⟩, .string ⟨#[]⟩], .int .i64 0] 8 rfl (World.shaped_of_RefB TcP TcP) TcP TcP TcP (Cj os _)) ?_
  intro W base args ds gs before hval0 hW _ _ hL _;have hval : ∀(j : Nat) t v, Tryz.f3.params[j]? = some t -> args[j]? = some v -> Value.okWide prog W .any base t v := hval0;have hW' := hW;obtain⟨p, q, hA0, hV, rfl, _, _⟩ := hW;have hA : DataW.TrodAll enc prog W 0 (fun _ => true) true Tryz.f3.params.toList args.toList ds p := hA0;rw[Tryz.params3]at hA hval;have XW := hA;obtain⟨v0, v1, v2, d0, d1, d2, p0, p1, p2, rfl, rfl, rfl, h0, h1, h2⟩ := trodAll_three hA;obtain⟨rfl, rfl⟩ := trodVars_none hV;clear hA0 hval0;obtain⟨l0, r0, w0⟩ := Fw (hval 0 _ v0 rfl rfl) h0;obtain⟨r, rfl, w1⟩ := Mc (hval 1 _ v1 rfl rfl) h1;obtain⟨n2, rfl, rfl, rfl, wn2⟩ := open_int underlying3 (hval 2 _ v2 rfl rfl) h2;have w2 := wf_i64 wn2;simp only[eM]at hW';refine(uR l0 v0 r n2 W r0 w0 w1 w2 (vW hL)).mono fun e W' ⟨he, hb⟩ => ?_
  subst he;have TH := lJ hb _ _ _ _ XW (by simp only[dr, cY, dg]; rintro t (rfl|rfl|rfl)<;>exact⟨TcP, of_decide_eq_true TcP⟩) (fun x hx => by simpa using hW'.lt x TdO);exact⟨_, rfl, _, _, _, [], _, [], hW', trodAll_mk1 (shut_bool underlying4 _), TH, rfl, hb.frame _, fun h => by cases h⟩
theorem policyRaw_named : Tryz.pinned.checked.prog.funcNamed Rows.policyRawRow.func=some 3 := by kernel_rfl
theorem policyRaw_c0 : (Rows.policyRawRow.inPlace==Tryz.pinned.checked.prog.inPlace 3)=true := by kernel_rfl
theorem policyRaw_c1 : (Rows.policyRawRow.unfollowed==Tryz.pinned.checked.prog.unfollowed 3)=true := by kernel_rfl
theorem policyRaw_c2 : (Rows.policyRawRow.recurses==Tryz.pinned.checked.prog.recurses 3)=true := by kernel_rfl
theorem policyRaw_c3 : (Rows.policyRawRow.named==Tryz.pinned.checked.prog.varsNamed 3)=true := by kernel_rfl
theorem policyRaw_c4 : (Rows.policyRawRow.lifted==Tryz.pinned.checked.prog.liftsFinal)=true := by kernel_rfl
theorem policyRaw_closed : joinedFacts Tryz.pinned.checked.prog 3 Tryz.f3 Rows.policyRawSpec Rows.policyRawRow=true := by
  unfold joinedFacts;rw[policyRaw_c0, policyRaw_c1, policyRaw_c2, policyRaw_c3, policyRaw_c4];kernel_rfl
theorem policyRaw_inst : Tryz.f3.isInstance Tryz.pinned.checked.prog Rows.policyRawRow.origin Rows.policyRawRow.targs := of_decide_eq_true TcP
theorem policyRaw_wrap : Tryz.f3.isWrapper Tryz.pinned.checked.prog Rows.policyRawRow.wrapper Rows.policyRawRow.mainSum := by
  unfold Func.isWrapper
  first|(rw[aw (by decide +kernel)]; kernel_rfl)|(rw[bh (by decide +kernel)]; exact⟨rfl, rfl⟩)
theorem policyRaw_holds : Rows.PolicyRawSaid :=
  OpenClaim.holds_of_wide 3 Tryz.f3 rfl rfl rfl rfl rfl rfl rfl ⟨rfl, rfl, rfl, rfl, rfl⟩ rfl rfl rfl rfl rfl policyRaw_named func3 policyRaw_closed
    policyRaw_inst policyRaw_wrap (fun os started H enc _ => policyRaw_lifted os started H enc)
theorem policyRaw_wf : Rows.policyRawRow.wfByText (OpenSpec.ofChange Rows.policyRawSpec)=true := by kernel_rfl
theorem policyRaw_main : Tryz.pinned.checked.prog.mainIs=some (true, "6cb83cfea923ab0294f318a3b7b80508f2e02a7c295e77332dc388da4fcaca88".toList) := by kernel_rfl
theorem policyRaw_looks : false=Tryz.pinned.checked.prog.looks [] := by kernel_rfl
theorem policyRaw_stand : prog.wantsStandIn 22=false := by kernel_rfl
theorem policyRaw_stand1 : prog.wantsStandIn 24=false := by kernel_rfl
theorem policyRaw_stand2 : prog.wantsStandIn 3=false := by kernel_rfl
theorem policyRaw_goes : false=Rows.policyRawRow.goesBy Tryz.pinned.checked.prog := by kernel_rfl
theorem policyRaw_card : Rows.PolicyRawCardSaid :=
  Claim7.holds_tied_plain_at .later [] [.widerDeep] true (true, "6cb83cfea923ab0294f318a3b7b80508f2e02a7c295e77332dc388da4fcaca88") false
    policyRaw_holds (fun _ h => by cases h) policyRaw_wf (fun _ h => by cases h) policyRaw_row_tie rfl ⟨rfl, rfl⟩ policyRaw_main rfl
    (fun f fn hf hfn => by
      obtain rfl : f=3 := (gj (policyRaw_named.symm.trans hf)).symm;obtain rfl : fn=Tryz.f3 := (gj (func3.symm.trans hfn)).symm;exact⟨policyRaw_looks, fun j t ht => by
        rw[Tryz.params3]at ht;rcases j with _|_|_|j
        · obtain rfl : t=22 := by simpa using ht.symm
          exact policyRaw_stand
        · obtain rfl : t=24 := by simpa using ht.symm
          exact policyRaw_stand1
        · obtain rfl : t=3 := by simpa using ht.symm
          exact policyRaw_stand2
        · simp at ht⟩)
    policyRaw_goes
#print axioms policyRaw_card
end Go.Proofs.YtillcmhjhajimaaGreatDoor
