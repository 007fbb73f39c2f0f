/-
  NARROWER THAN 'FOR EVERY INPUT', by the rows' own cells (each row's printed sentence says how): AllocateFits: laid.
  DERIVED. THE GIVEN ROWS OF THIS SEAT. 1 by the template 'for every input the law returns true; each argument reads behind the call as it read before'; 0 by the template 'total and deterministic' (their statements: YtfmbphdjcghfnaaGreatDoorTotals.lean).
  GIVEN WITH THE SEED: the statements are not yours to turn. If you find one false, say at which input.
  Laid BY PROGRAM, IN A SANDBOX (cutbox-rows.mjs): the forced cells as the released guide's own fill.sh prints them over the translation 9d059c0ba90dafdb… (all of the seat's roots in one cut). By AI agents, Wed Nov 11 2026. No macro, syntax, notation, axiom, sorry.
-/
import Derived.Test.YtfmbphdjcghfnaaGreatDoorChecked
import GoSem.Claim
import GoSem.ClaimJoined
import GoSem.ClaimMapViews
import Derived.JoinedTies
import Derived.KernelRfl
namespace Go.Proofs.YtfmbphdjcghfnaaGreatDoor
/- THE CELL 'sum', in the pinned program and in every row, IS THE sha256 OF THE DUMP (.gsa) THAT YtfmbphdjcghfnaaGreatDoorProg.lean LOADS. Nothing in Lean hashes anything: it is a label: what it is worth is what the hold of that sum in a sandbox is worth. -/
noncomputable def Tryz.pinned : Pinned := { name := "ytfmbphdjcghfnaagreatdoor", sum := "9d059c0ba90dafdb2e249beb18009dca5bfb4395867481293a5456fd698238e8", checked := Tryz.checked }
namespace Rows
def none {H : Type} : Left H := { results := [], args := [] }

/- WHAT THE LISTED PACKAGE-LEVEL VARIABLES READ AS WHEN THE CALL BEGINS. Each datum BY PROGRAM (the guide's laid-datum.mjs) off the statement by which the dump's own 'gosem.cut.vars' lays the variable. In a bare row this is a premise. The card (YtfmbphdjcghfnaaGreatDoorCards.lean) ties it to the program's text. -/
def laid_volumegroup_names_suffixes {H : Type} : DataW H := .agg [.lit (.string []), .lit (.string [95, 108, 111, 103]), .lit (.string [95, 100, 97, 116, 97]), .lit (.string [95, 109, 101, 116, 97]), .lit (.string [95, 115, 112, 97, 114, 101])]

/-- 'volumegrouplaw16.AllocateFits': WHATEVER THE INPUT: true; the input reads as it did. -/
def allocateFitsSpec : ChangeSpec := { name := "allocateFits", fn := fun _ => fun
  | [d] => { results := [.lit (.bool true)], args := [d] }
  | _ => none }
def allocateFitsRow : OpenClaim := { program := "ytfmbphdjcghfnaagreatdoor", sum := "9d059c0ba90dafdb2e249beb18009dca5bfb4395867481293a5456fd698238e8", func := "volumegroup/volumegrouplaw16.AllocateFits", spec := "allocateFits", unfollowed := true, recurses := true, named := ["volumegroup/names.suffixes"], plainKeys := false, apart := false, laid := [("volumegroup/names.suffixes", laid_volumegroup_names_suffixes)] }
def AllocateFitsSaid : Prop := allocateFitsRow.holds Tryz.pinned (OpenSpec.ofChange allocateFitsSpec)

/-- ITS FALSE NEIGHBOUR: 'it returns false'. Refute it at one input. -/
def allocateFitsWrong : ChangeSpec := { name := "allocateFits", fn := fun _ => fun
  | [d] => { results := [.lit (.bool false)], args := [d] }
  | _ => none }
def AllocateFitsWrongFalsely : Prop := allocateFitsRow.holds Tryz.pinned (OpenSpec.ofChange allocateFitsWrong)

/- THE SECOND FORM. 'bulk': how many values and letters a reading holds, each counted each time it is reached (what is shared counts as often as it is met; a slice's spare places count too). A statement '..UptoSaid' is the law's where the arguments, and the package variables that the reading takes, are together of bulk at most 1048576: NARROWER than '..Said'. Prove '..Said' where nothing that the law and all that it calls make is longer than what came in: it says more and counts as full. Else prove '..UptoSaid'. A law counts once. -/
mutual
def uptoBulk {H : Type} : DataW H → Nat
  | .lit (.string bytes) => bytes.length + 1
  | .lit _ => 1
  | .nil => 1
  | .ptr d => uptoBulk d + 1
  | .slice elems spare => uptoBulkAll elems + uptoBulkAll spare + 1
  | .agg parts => uptoBulkAll parts + 1
  | .iface _ d => uptoBulk d + 1
  | .map entries => uptoBulkEntries entries + 1
  | .held _ => 1
def uptoBulkAll {H : Type} : List (DataW H) → Nat
  | [] => 0
  | d :: r => uptoBulk d + uptoBulkAll r
def uptoBulkEntries {H : Type} : List (Lit × DataW H) → Nat
  | [] => 0
  | x :: r => uptoBulkEntry x + uptoBulkEntries r
def uptoBulkEntry {H : Type} : Lit × DataW H → Nat
  | (.string bytes, d) => bytes.length + uptoBulk d + 1
  | (_, d) => uptoBulk d + 1
 end
def uptoSmall : (H : Type) → List (DataW H) → Bool := fun _ ds => decide (uptoBulkAll ds ≤ 1048576)
def OpenSpec.upto (s : _root_.Go.ChangeSpec) : _root_.Go.OpenSpec := { _root_.Go.OpenSpec.ofChange s with cond := some uptoSmall }

/-- 'volumegrouplaw16.AllocateFits', WHERE WHAT IT READS IS OF BULK AT MOST 1048576: true; the input reads as it did. -/
def allocateFitsUptoRow : OpenClaim := { program := "ytfmbphdjcghfnaagreatdoor", sum := "9d059c0ba90dafdb2e249beb18009dca5bfb4395867481293a5456fd698238e8", func := "volumegroup/volumegrouplaw16.AllocateFits", spec := "allocateFits", unfollowed := true, recurses := true, named := ["volumegroup/names.suffixes"], plainKeys := false, apart := false, laid := [("volumegroup/names.suffixes", laid_volumegroup_names_suffixes)], narrowed := true }
def AllocateFitsUptoSaid : Prop := allocateFitsUptoRow.holds Tryz.pinned (OpenSpec.upto allocateFitsSpec)

end Rows
end Go.Proofs.YtfmbphdjcghfnaaGreatDoor
