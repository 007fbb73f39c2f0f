/-
  DERIVED. GIVEN WITH THE SEED: THE CARDS: each row of YtaagglbgohjldaaGreatDoorRows.lean that lists a variable, with what it lists TIED to the program's text (the seventh form; the later family's looks); each row that meets fmt, with fmt's text TOLD by the authors' own Lean function (tested against real Go, not proved from fmt's source: count such statements apart). THE CARD IS WHAT COUNTS. Prove the row's statement (the work); the ties are given (YtaagglbgohjldaaGreatDoorTie.lean); close each card by the builder's one call (the guide's Derived/Test/ToyasCard.lean, 'card_holds'). Laid BY PROGRAM, IN A SANDBOX (cutbox-door.mjs). By AI agents, Wed Nov 11 2026. No macro, syntax, notation, axiom, sorry.
-/
import Derived.Test.YtaagglbgohjldaaGreatDoorRows
import GoSem.ClaimSeven
namespace Go.Proofs.YtaagglbgohjldaaGreatDoor
namespace Rows

/-- THE TIED CARD OF 'volumegrouplaw15.PolicyWider'. -/
def policyWiderCard : Claim7 := { stood := { row := policyWiderRow, standIns := [], harness := (true, "a8eb2828b935500736a47404503fad75cebddc3b272092f5dd903c20b1688243"), looks := false }, kinds := [], alts := [], laidByText := true, laidKinds := [.widerDeep], laidTests := true, laidLooks := .later }
def PolicyWiderCardSaid : Prop := Claim7.holds Tryz.pinned (.plain (OpenSpec.ofChange policyWiderSpec)) policyWiderCard

/-- THE TIED CARD OF 'volumegrouplaw16.AllocateLeast'. -/
def allocateLeastCard : Claim7 := { stood := { row := allocateLeastRow, standIns := [], harness := (true, "a8eb2828b935500736a47404503fad75cebddc3b272092f5dd903c20b1688243"), looks := false }, kinds := [], alts := [], laidByText := true, laidKinds := [.widerDeep], laidTests := true, laidLooks := .later }
def AllocateLeastCardSaid : Prop := Claim7.holds Tryz.pinned (.plain (OpenSpec.ofChange allocateLeastSpec)) allocateLeastCard

/-- THE SECOND FORM's CARD OF 'volumegrouplaw15.PolicyWider'. -/
def policyWiderUptoCard : Claim7 := { stood := { row := policyWiderUptoRow, standIns := [], harness := (true, "a8eb2828b935500736a47404503fad75cebddc3b272092f5dd903c20b1688243"), looks := false }, kinds := [], alts := [], laidByText := true, laidKinds := [.widerDeep], laidTests := true, laidLooks := .later }
def PolicyWiderUptoCardSaid : Prop := Claim7.holds Tryz.pinned (.plain (OpenSpec.upto policyWiderSpec)) policyWiderUptoCard

/-- THE SECOND FORM's CARD OF 'volumegrouplaw16.AllocateLeast'. -/
def allocateLeastUptoCard : Claim7 := { stood := { row := allocateLeastUptoRow, standIns := [], harness := (true, "a8eb2828b935500736a47404503fad75cebddc3b272092f5dd903c20b1688243"), looks := false }, kinds := [], alts := [], laidByText := true, laidKinds := [.widerDeep], laidTests := true, laidLooks := .later }
def AllocateLeastUptoCardSaid : Prop := Claim7.holds Tryz.pinned (.plain (OpenSpec.upto allocateLeastSpec)) allocateLeastUptoCard
end Rows
end Go.Proofs.YtaagglbgohjldaaGreatDoor
