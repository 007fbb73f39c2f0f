/-
  DERIVED. GIVEN WITH THE SEED: THE CARDS: each row of YtjdfihglehfelaaGreatDoorRows.lean that lists a variable, with what it lists TIED to the program's text (the seventh form; the later family's looks); each row that meets fmt, with fmt's text TOLD by the authors' own Lean function (tested against real Go, not proved from fmt's source: count such statements apart). THE CARD IS WHAT COUNTS. Prove the row's statement (the work); the ties are given (YtjdfihglehfelaaGreatDoorTie.lean); close each card by the builder's one call (the guide's Derived/Test/ToyasCard.lean, 'card_holds'). Laid BY PROGRAM, IN A SANDBOX (cutbox-door.mjs). By AI agents, Wed Nov 11 2026. No macro, syntax, notation, axiom, sorry.
-/
import Derived.Test.YtjdfihglehfelaaGreatDoorRows
import GoSem.ClaimSeven
namespace Go.Proofs.YtjdfihglehfelaaGreatDoor
namespace Rows

/-- THE TIED CARD OF 'volumegrouplaw15.PolicyBuilt'. -/
def policyBuiltCard : Claim7 := { stood := { row := policyBuiltRow, standIns := [], harness := (true, "1502557a65aef56c33f4d8feffaa05ce435a28ba388b1011cd3946f0917cff53"), looks := false }, kinds := [], alts := [], laidByText := true, laidKinds := [.widerDeep], laidTests := true, laidLooks := .later }
def PolicyBuiltCardSaid : Prop := Claim7.holds Tryz.pinned (.plain (OpenSpec.ofChange policyBuiltSpec)) policyBuiltCard

/-- THE TIED CARD OF 'volumegrouplaw15.PolicyRaw'. -/
def policyRawCard : Claim7 := { stood := { row := policyRawRow, standIns := [], harness := (true, "1502557a65aef56c33f4d8feffaa05ce435a28ba388b1011cd3946f0917cff53"), looks := false }, kinds := [], alts := [], laidByText := true, laidKinds := [.widerDeep], laidTests := true, laidLooks := .later }
def PolicyRawCardSaid : Prop := Claim7.holds Tryz.pinned (.plain (OpenSpec.ofChange policyRawSpec)) policyRawCard

/-- THE TIED CARD OF 'volumegrouplaw15.PolicyFree'. -/
def policyFreeCard : Claim7 := { stood := { row := policyFreeRow, standIns := [], harness := (true, "1502557a65aef56c33f4d8feffaa05ce435a28ba388b1011cd3946f0917cff53"), looks := false }, kinds := [], alts := [], laidByText := true, laidKinds := [.widerDeep], laidTests := true, laidLooks := .later }
def PolicyFreeCardSaid : Prop := Claim7.holds Tryz.pinned (.plain (OpenSpec.ofChange policyFreeSpec)) policyFreeCard

/-- THE TIED CARD OF 'volumegrouplaw15.PolicyNear'. -/
def policyNearCard : Claim7 := { stood := { row := policyNearRow, standIns := [], harness := (true, "1502557a65aef56c33f4d8feffaa05ce435a28ba388b1011cd3946f0917cff53"), looks := false }, kinds := [], alts := [], laidByText := true, laidKinds := [.widerDeep], laidTests := true, laidLooks := .later }
def PolicyNearCardSaid : Prop := Claim7.holds Tryz.pinned (.plain (OpenSpec.ofChange policyNearSpec)) policyNearCard

/-- THE TIED CARD OF 'volumegrouplaw15.PolicyTags'. -/
def policyTagsCard : Claim7 := { stood := { row := policyTagsRow, standIns := [], harness := (true, "1502557a65aef56c33f4d8feffaa05ce435a28ba388b1011cd3946f0917cff53"), looks := false }, kinds := [], alts := [], laidByText := true, laidKinds := [.widerDeep], laidTests := true, laidLooks := .later }
def PolicyTagsCardSaid : Prop := Claim7.holds Tryz.pinned (.plain (OpenSpec.ofChange policyTagsSpec)) policyTagsCard

/-- THE TIED CARD OF 'volumegrouplaw15.PolicyWider'. -/
def policyWiderCard : Claim7 := { stood := { row := policyWiderRow, standIns := [], harness := (true, "1502557a65aef56c33f4d8feffaa05ce435a28ba388b1011cd3946f0917cff53"), looks := false }, kinds := [], alts := [], laidByText := true, laidKinds := [.widerDeep], laidTests := true, laidLooks := .later }
def PolicyWiderCardSaid : Prop := Claim7.holds Tryz.pinned (.plain (OpenSpec.ofChange policyWiderSpec)) policyWiderCard

/-- THE TIED CARD OF 'volumegrouplaw16.AllocateBuilt'. -/
def allocateBuiltCard : Claim7 := { stood := { row := allocateBuiltRow, standIns := [], harness := (true, "1502557a65aef56c33f4d8feffaa05ce435a28ba388b1011cd3946f0917cff53"), looks := false }, kinds := [], alts := [], laidByText := true, laidKinds := [.widerDeep], laidTests := true, laidLooks := .later }
def AllocateBuiltCardSaid : Prop := Claim7.holds Tryz.pinned (.plain (OpenSpec.ofChange allocateBuiltSpec)) allocateBuiltCard

/-- THE TIED CARD OF 'volumegrouplaw16.AllocateComplete'. -/
def allocateCompleteCard : Claim7 := { stood := { row := allocateCompleteRow, standIns := [], harness := (true, "1502557a65aef56c33f4d8feffaa05ce435a28ba388b1011cd3946f0917cff53"), looks := false }, kinds := [], alts := [], laidByText := true, laidKinds := [.widerDeep], laidTests := true, laidLooks := .later }
def AllocateCompleteCardSaid : Prop := Claim7.holds Tryz.pinned (.plain (OpenSpec.ofChange allocateCompleteSpec)) allocateCompleteCard

/-- THE TIED CARD OF 'volumegrouplaw16.AllocateFits'. -/
def allocateFitsCard : Claim7 := { stood := { row := allocateFitsRow, standIns := [], harness := (true, "1502557a65aef56c33f4d8feffaa05ce435a28ba388b1011cd3946f0917cff53"), looks := false }, kinds := [], alts := [], laidByText := true, laidKinds := [.widerDeep], laidTests := true, laidLooks := .later }
def AllocateFitsCardSaid : Prop := Claim7.holds Tryz.pinned (.plain (OpenSpec.ofChange allocateFitsSpec)) allocateFitsCard

/-- THE TIED CARD OF 'volumegrouplaw16.AllocateMonotone'. -/
def allocateMonotoneCard : Claim7 := { stood := { row := allocateMonotoneRow, standIns := [], harness := (true, "1502557a65aef56c33f4d8feffaa05ce435a28ba388b1011cd3946f0917cff53"), looks := false }, kinds := [], alts := [], laidByText := true, laidKinds := [.widerDeep], laidTests := true, laidLooks := .later }
def AllocateMonotoneCardSaid : Prop := Claim7.holds Tryz.pinned (.plain (OpenSpec.ofChange allocateMonotoneSpec)) allocateMonotoneCard

/-- THE TIED CARD OF 'volumegrouplaw16.AllocateApart'. -/
def allocateApartCard : Claim7 := { stood := { row := allocateApartRow, standIns := [], harness := (true, "1502557a65aef56c33f4d8feffaa05ce435a28ba388b1011cd3946f0917cff53"), looks := false }, kinds := [], alts := [], laidByText := true, laidKinds := [.widerDeep], laidTests := true, laidLooks := .later }
def AllocateApartCardSaid : Prop := Claim7.holds Tryz.pinned (.plain (OpenSpec.ofChange allocateApartSpec)) allocateApartCard

/-- THE TIED CARD OF 'volumegrouplaw16.AllocateLeast'. -/
def allocateLeastCard : Claim7 := { stood := { row := allocateLeastRow, standIns := [], harness := (true, "1502557a65aef56c33f4d8feffaa05ce435a28ba388b1011cd3946f0917cff53"), looks := false }, kinds := [], alts := [], laidByText := true, laidKinds := [.widerDeep], laidTests := true, laidLooks := .later }
def AllocateLeastCardSaid : Prop := Claim7.holds Tryz.pinned (.plain (OpenSpec.ofChange allocateLeastSpec)) allocateLeastCard

/-- THE SECOND FORM's CARD OF 'volumegrouplaw15.PolicyBuilt'. -/
def policyBuiltUptoCard : Claim7 := { stood := { row := policyBuiltUptoRow, standIns := [], harness := (true, "1502557a65aef56c33f4d8feffaa05ce435a28ba388b1011cd3946f0917cff53"), looks := false }, kinds := [], alts := [], laidByText := true, laidKinds := [.widerDeep], laidTests := true, laidLooks := .later }
def PolicyBuiltUptoCardSaid : Prop := Claim7.holds Tryz.pinned (.plain (OpenSpec.upto policyBuiltSpec)) policyBuiltUptoCard

/-- THE SECOND FORM's CARD OF 'volumegrouplaw15.PolicyRaw'. -/
def policyRawUptoCard : Claim7 := { stood := { row := policyRawUptoRow, standIns := [], harness := (true, "1502557a65aef56c33f4d8feffaa05ce435a28ba388b1011cd3946f0917cff53"), looks := false }, kinds := [], alts := [], laidByText := true, laidKinds := [.widerDeep], laidTests := true, laidLooks := .later }
def PolicyRawUptoCardSaid : Prop := Claim7.holds Tryz.pinned (.plain (OpenSpec.upto policyRawSpec)) policyRawUptoCard

/-- THE SECOND FORM's CARD OF 'volumegrouplaw15.PolicyFree'. -/
def policyFreeUptoCard : Claim7 := { stood := { row := policyFreeUptoRow, standIns := [], harness := (true, "1502557a65aef56c33f4d8feffaa05ce435a28ba388b1011cd3946f0917cff53"), looks := false }, kinds := [], alts := [], laidByText := true, laidKinds := [.widerDeep], laidTests := true, laidLooks := .later }
def PolicyFreeUptoCardSaid : Prop := Claim7.holds Tryz.pinned (.plain (OpenSpec.upto policyFreeSpec)) policyFreeUptoCard

/-- THE SECOND FORM's CARD OF 'volumegrouplaw15.PolicyNear'. -/
def policyNearUptoCard : Claim7 := { stood := { row := policyNearUptoRow, standIns := [], harness := (true, "1502557a65aef56c33f4d8feffaa05ce435a28ba388b1011cd3946f0917cff53"), looks := false }, kinds := [], alts := [], laidByText := true, laidKinds := [.widerDeep], laidTests := true, laidLooks := .later }
def PolicyNearUptoCardSaid : Prop := Claim7.holds Tryz.pinned (.plain (OpenSpec.upto policyNearSpec)) policyNearUptoCard

/-- THE SECOND FORM's CARD OF 'volumegrouplaw15.PolicyTags'. -/
def policyTagsUptoCard : Claim7 := { stood := { row := policyTagsUptoRow, standIns := [], harness := (true, "1502557a65aef56c33f4d8feffaa05ce435a28ba388b1011cd3946f0917cff53"), looks := false }, kinds := [], alts := [], laidByText := true, laidKinds := [.widerDeep], laidTests := true, laidLooks := .later }
def PolicyTagsUptoCardSaid : Prop := Claim7.holds Tryz.pinned (.plain (OpenSpec.upto policyTagsSpec)) policyTagsUptoCard

/-- THE SECOND FORM's CARD OF 'volumegrouplaw15.PolicyWider'. -/
def policyWiderUptoCard : Claim7 := { stood := { row := policyWiderUptoRow, standIns := [], harness := (true, "1502557a65aef56c33f4d8feffaa05ce435a28ba388b1011cd3946f0917cff53"), looks := false }, kinds := [], alts := [], laidByText := true, laidKinds := [.widerDeep], laidTests := true, laidLooks := .later }
def PolicyWiderUptoCardSaid : Prop := Claim7.holds Tryz.pinned (.plain (OpenSpec.upto policyWiderSpec)) policyWiderUptoCard

/-- THE SECOND FORM's CARD OF 'volumegrouplaw16.AllocateBuilt'. -/
def allocateBuiltUptoCard : Claim7 := { stood := { row := allocateBuiltUptoRow, standIns := [], harness := (true, "1502557a65aef56c33f4d8feffaa05ce435a28ba388b1011cd3946f0917cff53"), looks := false }, kinds := [], alts := [], laidByText := true, laidKinds := [.widerDeep], laidTests := true, laidLooks := .later }
def AllocateBuiltUptoCardSaid : Prop := Claim7.holds Tryz.pinned (.plain (OpenSpec.upto allocateBuiltSpec)) allocateBuiltUptoCard

/-- THE SECOND FORM's CARD OF 'volumegrouplaw16.AllocateComplete'. -/
def allocateCompleteUptoCard : Claim7 := { stood := { row := allocateCompleteUptoRow, standIns := [], harness := (true, "1502557a65aef56c33f4d8feffaa05ce435a28ba388b1011cd3946f0917cff53"), looks := false }, kinds := [], alts := [], laidByText := true, laidKinds := [.widerDeep], laidTests := true, laidLooks := .later }
def AllocateCompleteUptoCardSaid : Prop := Claim7.holds Tryz.pinned (.plain (OpenSpec.upto allocateCompleteSpec)) allocateCompleteUptoCard

/-- THE SECOND FORM's CARD OF 'volumegrouplaw16.AllocateFits'. -/
def allocateFitsUptoCard : Claim7 := { stood := { row := allocateFitsUptoRow, standIns := [], harness := (true, "1502557a65aef56c33f4d8feffaa05ce435a28ba388b1011cd3946f0917cff53"), looks := false }, kinds := [], alts := [], laidByText := true, laidKinds := [.widerDeep], laidTests := true, laidLooks := .later }
def AllocateFitsUptoCardSaid : Prop := Claim7.holds Tryz.pinned (.plain (OpenSpec.upto allocateFitsSpec)) allocateFitsUptoCard

/-- THE SECOND FORM's CARD OF 'volumegrouplaw16.AllocateMonotone'. -/
def allocateMonotoneUptoCard : Claim7 := { stood := { row := allocateMonotoneUptoRow, standIns := [], harness := (true, "1502557a65aef56c33f4d8feffaa05ce435a28ba388b1011cd3946f0917cff53"), looks := false }, kinds := [], alts := [], laidByText := true, laidKinds := [.widerDeep], laidTests := true, laidLooks := .later }
def AllocateMonotoneUptoCardSaid : Prop := Claim7.holds Tryz.pinned (.plain (OpenSpec.upto allocateMonotoneSpec)) allocateMonotoneUptoCard

/-- THE SECOND FORM's CARD OF 'volumegrouplaw16.AllocateApart'. -/
def allocateApartUptoCard : Claim7 := { stood := { row := allocateApartUptoRow, standIns := [], harness := (true, "1502557a65aef56c33f4d8feffaa05ce435a28ba388b1011cd3946f0917cff53"), looks := false }, kinds := [], alts := [], laidByText := true, laidKinds := [.widerDeep], laidTests := true, laidLooks := .later }
def AllocateApartUptoCardSaid : Prop := Claim7.holds Tryz.pinned (.plain (OpenSpec.upto allocateApartSpec)) allocateApartUptoCard

/-- THE SECOND FORM's CARD OF 'volumegrouplaw16.AllocateLeast'. -/
def allocateLeastUptoCard : Claim7 := { stood := { row := allocateLeastUptoRow, standIns := [], harness := (true, "1502557a65aef56c33f4d8feffaa05ce435a28ba388b1011cd3946f0917cff53"), looks := false }, kinds := [], alts := [], laidByText := true, laidKinds := [.widerDeep], laidTests := true, laidLooks := .later }
def AllocateLeastUptoCardSaid : Prop := Claim7.holds Tryz.pinned (.plain (OpenSpec.upto allocateLeastSpec)) allocateLeastUptoCard
end Rows
end Go.Proofs.YtjdfihglehfelaaGreatDoor
