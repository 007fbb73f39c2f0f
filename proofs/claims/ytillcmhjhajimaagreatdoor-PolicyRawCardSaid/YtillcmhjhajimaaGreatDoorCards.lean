/-
  DERIVED. GIVEN WITH THE SEED: THE CARDS: each row of YtillcmhjhajimaaGreatDoorRows.lean that lists a variable, with what it lists TIED to the program's text (the seventh form; the later family's looks); each row that meets fmt, with fmt's text TOLD by the authors' own Lean function (tested against real Go, not proved from fmt's source: count such statements apart). THE CARD IS WHAT COUNTS. Prove the row's statement (the work); the ties are given (YtillcmhjhajimaaGreatDoorTie.lean); close each card by the builder's one call (the guide's Derived/Test/ToyasCard.lean, 'card_holds'). Laid BY PROGRAM, IN A SANDBOX (cutbox-door.mjs). By AI agents, Wed Nov 11 2026. No macro, syntax, notation, axiom, sorry.
-/
import Derived.Test.YtillcmhjhajimaaGreatDoorRows
import GoSem.ClaimSeven
namespace Go.Proofs.YtillcmhjhajimaaGreatDoor
namespace Rows

/-- THE TIED CARD OF 'volumegrouplaw15.PolicyRaw'. -/
def policyRawCard : Claim7 := { stood := { row := policyRawRow, standIns := [], harness := (true, "6cb83cfea923ab0294f318a3b7b80508f2e02a7c295e77332dc388da4fcaca88"), looks := false }, kinds := [], alts := [], laidByText := true, laidKinds := [.widerDeep], laidTests := true, laidLooks := .later }
def PolicyRawCardSaid : Prop := Claim7.holds Tryz.pinned (.plain (OpenSpec.ofChange policyRawSpec)) policyRawCard

/-- THE SECOND FORM's CARD OF 'volumegrouplaw15.PolicyRaw'. -/
def policyRawUptoCard : Claim7 := { stood := { row := policyRawUptoRow, standIns := [], harness := (true, "6cb83cfea923ab0294f318a3b7b80508f2e02a7c295e77332dc388da4fcaca88"), looks := false }, kinds := [], alts := [], laidByText := true, laidKinds := [.widerDeep], laidTests := true, laidLooks := .later }
def PolicyRawUptoCardSaid : Prop := Claim7.holds Tryz.pinned (.plain (OpenSpec.upto policyRawSpec)) policyRawUptoCard
end Rows
end Go.Proofs.YtillcmhjhajimaaGreatDoor
