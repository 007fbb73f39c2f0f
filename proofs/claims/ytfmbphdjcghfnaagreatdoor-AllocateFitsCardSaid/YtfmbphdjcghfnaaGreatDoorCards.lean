/-
  DERIVED. GIVEN WITH THE SEED: THE CARDS: each row of YtfmbphdjcghfnaaGreatDoorRows.lean that lists a variable, with what it lists TIED to the program's text (the seventh form; the later family's looks); each row that meets fmt, with fmt's text TOLD by the authors' own Lean function (tested against real Go, not proved from fmt's source: count such statements apart). THE CARD IS WHAT COUNTS. Prove the row's statement (the work); the ties are given (YtfmbphdjcghfnaaGreatDoorTie.lean); close each card by the builder's one call (the guide's Derived/Test/ToyasCard.lean, 'card_holds'). Laid BY PROGRAM, IN A SANDBOX (cutbox-door.mjs). By AI agents, Wed Nov 11 2026. No macro, syntax, notation, axiom, sorry.
-/
import Derived.Test.YtfmbphdjcghfnaaGreatDoorRows
import GoSem.ClaimSeven
namespace Go.Proofs.YtfmbphdjcghfnaaGreatDoor
namespace Rows

/-- THE TIED CARD OF 'volumegrouplaw16.AllocateFits'. -/
def allocateFitsCard : Claim7 := { stood := { row := allocateFitsRow, standIns := [], harness := (true, "f7814de635ac9adf215a691a75668cf1cef6379e824af6e0c70204c3a82ed928"), looks := false }, kinds := [], alts := [], laidByText := true, laidKinds := [.widerDeep], laidTests := true, laidLooks := .later }
def AllocateFitsCardSaid : Prop := Claim7.holds Tryz.pinned (.plain (OpenSpec.ofChange allocateFitsSpec)) allocateFitsCard

/-- THE SECOND FORM's CARD OF 'volumegrouplaw16.AllocateFits'. -/
def allocateFitsUptoCard : Claim7 := { stood := { row := allocateFitsUptoRow, standIns := [], harness := (true, "f7814de635ac9adf215a691a75668cf1cef6379e824af6e0c70204c3a82ed928"), looks := false }, kinds := [], alts := [], laidByText := true, laidKinds := [.widerDeep], laidTests := true, laidLooks := .later }
def AllocateFitsUptoCardSaid : Prop := Claim7.holds Tryz.pinned (.plain (OpenSpec.upto allocateFitsSpec)) allocateFitsUptoCard
end Rows
end Go.Proofs.YtfmbphdjcghfnaaGreatDoor
