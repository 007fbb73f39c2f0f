/-
  NARROWER THAN 'FOR EVERY INPUT', by the rows' own cells (each row's printed sentence says how): PolicyBuilt: laid · PolicyRaw: laid · PolicyFree: laid · PolicyNear: laid · PolicyTags: laid · PolicyWider: laid · AllocateBuilt: laid · AllocateComplete: laid · AllocateFits: laid · AllocateMonotone: laid · AllocateApart: laid · AllocateLeast: laid.
  DERIVED. THE GIVEN ROWS OF THIS SEAT. 12 by the template 'for every input the law returns true; each argument reads behind the call as it read before'; 0 by the template 'total and deterministic' (their statements: YtjdfihglehfelaaGreatDoorTotals.lean).
  GIVEN WITH THE SEED: the statements are not yours to turn. If you find one false, say at which input.
  Laid BY PROGRAM, IN A SANDBOX (cutbox-rows.mjs): the forced cells as the released guide's own fill.sh prints them over the translation 6a8af490ab9cd007… (all of the seat's roots in one cut). By AI agents, Wed Nov 11 2026. No macro, syntax, notation, axiom, sorry.
-/
import Derived.Test.YtjdfihglehfelaaGreatDoorChecked
import GoSem.Claim
import GoSem.ClaimJoined
import GoSem.ClaimMapViews
import Derived.JoinedTies
import Derived.KernelRfl
namespace Go.Proofs.YtjdfihglehfelaaGreatDoor
/- THE CELL 'sum', in the pinned program and in every row, IS THE sha256 OF THE DUMP (.gsa) THAT YtjdfihglehfelaaGreatDoorProg.lean LOADS. Nothing in Lean hashes anything: it is a label: what it is worth is what the hold of that sum in a sandbox is worth. -/
noncomputable def Tryz.pinned : Pinned := { name := "ytjdfihglehfelaagreatdoor", sum := "6a8af490ab9cd0079b56e34d88f86a273b596512566fffeb11b5667a4bd8bde0", checked := Tryz.checked }
namespace Rows
def none {H : Type} : Left H := { results := [], args := [] }

/- WHAT THE LISTED PACKAGE-LEVEL VARIABLES READ AS WHEN THE CALL BEGINS. Each datum BY PROGRAM (the guide's laid-datum.mjs) off the statement by which the dump's own 'gosem.cut.vars' lays the variable. In a bare row this is a premise. The card (YtjdfihglehfelaaGreatDoorCards.lean) ties it to the program's text. -/
def laid_volumegroup_names_suffixes {H : Type} : DataW H := .agg [.lit (.string []), .lit (.string [95, 108, 111, 103]), .lit (.string [95, 100, 97, 116, 97]), .lit (.string [95, 109, 101, 116, 97]), .lit (.string [95, 115, 112, 97, 114, 101])]

/-- 'volumegrouplaw15.PolicyBuilt': WHATEVER THE INPUT: true; the input reads as it did. -/
def policyBuiltSpec : ChangeSpec := { name := "policyBuilt", fn := fun _ => fun
  | [d] => { results := [.lit (.bool true)], args := [d] }
  | _ => none }
def policyBuiltRow : OpenClaim := { program := "ytjdfihglehfelaagreatdoor", sum := "6a8af490ab9cd0079b56e34d88f86a273b596512566fffeb11b5667a4bd8bde0", func := "volumegroup/volumegrouplaw15.PolicyBuilt", spec := "policyBuilt", unfollowed := true, recurses := true, named := ["volumegroup/names.suffixes"], plainKeys := false, apart := false, laid := [("volumegroup/names.suffixes", laid_volumegroup_names_suffixes)] }
def PolicyBuiltSaid : Prop := policyBuiltRow.holds Tryz.pinned (OpenSpec.ofChange policyBuiltSpec)

/-- ITS FALSE NEIGHBOUR: 'it returns false'. Refute it at one input. -/
def policyBuiltWrong : ChangeSpec := { name := "policyBuilt", fn := fun _ => fun
  | [d] => { results := [.lit (.bool false)], args := [d] }
  | _ => none }
def PolicyBuiltWrongFalsely : Prop := policyBuiltRow.holds Tryz.pinned (OpenSpec.ofChange policyBuiltWrong)

/-- 'volumegrouplaw15.PolicyRaw': WHATEVER THE INPUT: true; the input reads as it did. -/
def policyRawSpec : ChangeSpec := { name := "policyRaw", fn := fun _ => fun
  | [d1, d2, d3] => { results := [.lit (.bool true)], args := [d1, d2, d3] }
  | _ => none }
def policyRawRow : OpenClaim := { program := "ytjdfihglehfelaagreatdoor", sum := "6a8af490ab9cd0079b56e34d88f86a273b596512566fffeb11b5667a4bd8bde0", func := "volumegroup/volumegrouplaw15.PolicyRaw", spec := "policyRaw", unfollowed := true, recurses := true, named := ["volumegroup/names.suffixes"], plainKeys := false, apart := false, laid := [("volumegroup/names.suffixes", laid_volumegroup_names_suffixes)] }
def PolicyRawSaid : Prop := policyRawRow.holds Tryz.pinned (OpenSpec.ofChange policyRawSpec)

/-- ITS FALSE NEIGHBOUR: 'it returns false'. Refute it at one input. -/
def policyRawWrong : ChangeSpec := { name := "policyRaw", fn := fun _ => fun
  | [d1, d2, d3] => { results := [.lit (.bool false)], args := [d1, d2, d3] }
  | _ => none }
def PolicyRawWrongFalsely : Prop := policyRawRow.holds Tryz.pinned (OpenSpec.ofChange policyRawWrong)

/-- 'volumegrouplaw15.PolicyFree': WHATEVER THE INPUT: true; the input reads as it did. -/
def policyFreeSpec : ChangeSpec := { name := "policyFree", fn := fun _ => fun
  | [d] => { results := [.lit (.bool true)], args := [d] }
  | _ => none }
def policyFreeRow : OpenClaim := { program := "ytjdfihglehfelaagreatdoor", sum := "6a8af490ab9cd0079b56e34d88f86a273b596512566fffeb11b5667a4bd8bde0", func := "volumegroup/volumegrouplaw15.PolicyFree", spec := "policyFree", unfollowed := true, recurses := true, named := ["volumegroup/names.suffixes"], plainKeys := false, apart := false, laid := [("volumegroup/names.suffixes", laid_volumegroup_names_suffixes)] }
def PolicyFreeSaid : Prop := policyFreeRow.holds Tryz.pinned (OpenSpec.ofChange policyFreeSpec)

/-- ITS FALSE NEIGHBOUR: 'it returns false'. Refute it at one input. -/
def policyFreeWrong : ChangeSpec := { name := "policyFree", fn := fun _ => fun
  | [d] => { results := [.lit (.bool false)], args := [d] }
  | _ => none }
def PolicyFreeWrongFalsely : Prop := policyFreeRow.holds Tryz.pinned (OpenSpec.ofChange policyFreeWrong)

/-- 'volumegrouplaw15.PolicyNear': WHATEVER THE INPUT: true; the input reads as it did. -/
def policyNearSpec : ChangeSpec := { name := "policyNear", fn := fun _ => fun
  | [d] => { results := [.lit (.bool true)], args := [d] }
  | _ => none }
def policyNearRow : OpenClaim := { program := "ytjdfihglehfelaagreatdoor", sum := "6a8af490ab9cd0079b56e34d88f86a273b596512566fffeb11b5667a4bd8bde0", func := "volumegroup/volumegrouplaw15.PolicyNear", spec := "policyNear", unfollowed := true, recurses := true, named := ["volumegroup/names.suffixes"], plainKeys := false, apart := false, laid := [("volumegroup/names.suffixes", laid_volumegroup_names_suffixes)] }
def PolicyNearSaid : Prop := policyNearRow.holds Tryz.pinned (OpenSpec.ofChange policyNearSpec)

/-- ITS FALSE NEIGHBOUR: 'it returns false'. Refute it at one input. -/
def policyNearWrong : ChangeSpec := { name := "policyNear", fn := fun _ => fun
  | [d] => { results := [.lit (.bool false)], args := [d] }
  | _ => none }
def PolicyNearWrongFalsely : Prop := policyNearRow.holds Tryz.pinned (OpenSpec.ofChange policyNearWrong)

/-- 'volumegrouplaw15.PolicyTags': WHATEVER THE INPUT: true; the input reads as it did. -/
def policyTagsSpec : ChangeSpec := { name := "policyTags", fn := fun _ => fun
  | [d] => { results := [.lit (.bool true)], args := [d] }
  | _ => none }
def policyTagsRow : OpenClaim := { program := "ytjdfihglehfelaagreatdoor", sum := "6a8af490ab9cd0079b56e34d88f86a273b596512566fffeb11b5667a4bd8bde0", func := "volumegroup/volumegrouplaw15.PolicyTags", spec := "policyTags", unfollowed := true, recurses := true, named := ["volumegroup/names.suffixes"], plainKeys := false, apart := false, laid := [("volumegroup/names.suffixes", laid_volumegroup_names_suffixes)] }
def PolicyTagsSaid : Prop := policyTagsRow.holds Tryz.pinned (OpenSpec.ofChange policyTagsSpec)

/-- ITS FALSE NEIGHBOUR: 'it returns false'. Refute it at one input. -/
def policyTagsWrong : ChangeSpec := { name := "policyTags", fn := fun _ => fun
  | [d] => { results := [.lit (.bool false)], args := [d] }
  | _ => none }
def PolicyTagsWrongFalsely : Prop := policyTagsRow.holds Tryz.pinned (OpenSpec.ofChange policyTagsWrong)

/-- 'volumegrouplaw15.PolicyWider': WHATEVER THE INPUT: true; the input reads as it did. -/
def policyWiderSpec : ChangeSpec := { name := "policyWider", fn := fun _ => fun
  | [d] => { results := [.lit (.bool true)], args := [d] }
  | _ => none }
def policyWiderRow : OpenClaim := { program := "ytjdfihglehfelaagreatdoor", sum := "6a8af490ab9cd0079b56e34d88f86a273b596512566fffeb11b5667a4bd8bde0", func := "volumegroup/volumegrouplaw15.PolicyWider", spec := "policyWider", unfollowed := true, recurses := true, named := ["volumegroup/names.suffixes"], plainKeys := false, apart := false, laid := [("volumegroup/names.suffixes", laid_volumegroup_names_suffixes)] }
def PolicyWiderSaid : Prop := policyWiderRow.holds Tryz.pinned (OpenSpec.ofChange policyWiderSpec)

/-- ITS FALSE NEIGHBOUR: 'it returns false'. Refute it at one input. -/
def policyWiderWrong : ChangeSpec := { name := "policyWider", fn := fun _ => fun
  | [d] => { results := [.lit (.bool false)], args := [d] }
  | _ => none }
def PolicyWiderWrongFalsely : Prop := policyWiderRow.holds Tryz.pinned (OpenSpec.ofChange policyWiderWrong)

/-- 'volumegrouplaw16.AllocateBuilt': WHATEVER THE INPUT: true; the input reads as it did. -/
def allocateBuiltSpec : ChangeSpec := { name := "allocateBuilt", fn := fun _ => fun
  | [d] => { results := [.lit (.bool true)], args := [d] }
  | _ => none }
def allocateBuiltRow : OpenClaim := { program := "ytjdfihglehfelaagreatdoor", sum := "6a8af490ab9cd0079b56e34d88f86a273b596512566fffeb11b5667a4bd8bde0", func := "volumegroup/volumegrouplaw16.AllocateBuilt", spec := "allocateBuilt", unfollowed := true, recurses := true, named := ["volumegroup/names.suffixes"], plainKeys := false, apart := false, laid := [("volumegroup/names.suffixes", laid_volumegroup_names_suffixes)] }
def AllocateBuiltSaid : Prop := allocateBuiltRow.holds Tryz.pinned (OpenSpec.ofChange allocateBuiltSpec)

/-- ITS FALSE NEIGHBOUR: 'it returns false'. Refute it at one input. -/
def allocateBuiltWrong : ChangeSpec := { name := "allocateBuilt", fn := fun _ => fun
  | [d] => { results := [.lit (.bool false)], args := [d] }
  | _ => none }
def AllocateBuiltWrongFalsely : Prop := allocateBuiltRow.holds Tryz.pinned (OpenSpec.ofChange allocateBuiltWrong)

/-- 'volumegrouplaw16.AllocateComplete': WHATEVER THE INPUT: true; the input reads as it did. -/
def allocateCompleteSpec : ChangeSpec := { name := "allocateComplete", fn := fun _ => fun
  | [d] => { results := [.lit (.bool true)], args := [d] }
  | _ => none }
def allocateCompleteRow : OpenClaim := { program := "ytjdfihglehfelaagreatdoor", sum := "6a8af490ab9cd0079b56e34d88f86a273b596512566fffeb11b5667a4bd8bde0", func := "volumegroup/volumegrouplaw16.AllocateComplete", spec := "allocateComplete", unfollowed := true, recurses := true, named := ["volumegroup/names.suffixes"], plainKeys := false, apart := false, laid := [("volumegroup/names.suffixes", laid_volumegroup_names_suffixes)] }
def AllocateCompleteSaid : Prop := allocateCompleteRow.holds Tryz.pinned (OpenSpec.ofChange allocateCompleteSpec)

/-- ITS FALSE NEIGHBOUR: 'it returns false'. Refute it at one input. -/
def allocateCompleteWrong : ChangeSpec := { name := "allocateComplete", fn := fun _ => fun
  | [d] => { results := [.lit (.bool false)], args := [d] }
  | _ => none }
def AllocateCompleteWrongFalsely : Prop := allocateCompleteRow.holds Tryz.pinned (OpenSpec.ofChange allocateCompleteWrong)

/-- 'volumegrouplaw16.AllocateFits': WHATEVER THE INPUT: true; the input reads as it did. -/
def allocateFitsSpec : ChangeSpec := { name := "allocateFits", fn := fun _ => fun
  | [d] => { results := [.lit (.bool true)], args := [d] }
  | _ => none }
def allocateFitsRow : OpenClaim := { program := "ytjdfihglehfelaagreatdoor", sum := "6a8af490ab9cd0079b56e34d88f86a273b596512566fffeb11b5667a4bd8bde0", func := "volumegroup/volumegrouplaw16.AllocateFits", spec := "allocateFits", unfollowed := true, recurses := true, named := ["volumegroup/names.suffixes"], plainKeys := false, apart := false, laid := [("volumegroup/names.suffixes", laid_volumegroup_names_suffixes)] }
def AllocateFitsSaid : Prop := allocateFitsRow.holds Tryz.pinned (OpenSpec.ofChange allocateFitsSpec)

/-- ITS FALSE NEIGHBOUR: 'it returns false'. Refute it at one input. -/
def allocateFitsWrong : ChangeSpec := { name := "allocateFits", fn := fun _ => fun
  | [d] => { results := [.lit (.bool false)], args := [d] }
  | _ => none }
def AllocateFitsWrongFalsely : Prop := allocateFitsRow.holds Tryz.pinned (OpenSpec.ofChange allocateFitsWrong)

/-- 'volumegrouplaw16.AllocateMonotone': WHATEVER THE INPUT: true; the input reads as it did. -/
def allocateMonotoneSpec : ChangeSpec := { name := "allocateMonotone", fn := fun _ => fun
  | [d] => { results := [.lit (.bool true)], args := [d] }
  | _ => none }
def allocateMonotoneRow : OpenClaim := { program := "ytjdfihglehfelaagreatdoor", sum := "6a8af490ab9cd0079b56e34d88f86a273b596512566fffeb11b5667a4bd8bde0", func := "volumegroup/volumegrouplaw16.AllocateMonotone", spec := "allocateMonotone", unfollowed := true, recurses := true, named := ["volumegroup/names.suffixes"], plainKeys := false, apart := false, laid := [("volumegroup/names.suffixes", laid_volumegroup_names_suffixes)] }
def AllocateMonotoneSaid : Prop := allocateMonotoneRow.holds Tryz.pinned (OpenSpec.ofChange allocateMonotoneSpec)

/-- ITS FALSE NEIGHBOUR: 'it returns false'. Refute it at one input. -/
def allocateMonotoneWrong : ChangeSpec := { name := "allocateMonotone", fn := fun _ => fun
  | [d] => { results := [.lit (.bool false)], args := [d] }
  | _ => none }
def AllocateMonotoneWrongFalsely : Prop := allocateMonotoneRow.holds Tryz.pinned (OpenSpec.ofChange allocateMonotoneWrong)

/-- 'volumegrouplaw16.AllocateApart': WHATEVER THE INPUT: true; the input reads as it did. -/
def allocateApartSpec : ChangeSpec := { name := "allocateApart", fn := fun _ => fun
  | [d] => { results := [.lit (.bool true)], args := [d] }
  | _ => none }
def allocateApartRow : OpenClaim := { program := "ytjdfihglehfelaagreatdoor", sum := "6a8af490ab9cd0079b56e34d88f86a273b596512566fffeb11b5667a4bd8bde0", func := "volumegroup/volumegrouplaw16.AllocateApart", spec := "allocateApart", unfollowed := true, recurses := true, named := ["volumegroup/names.suffixes"], plainKeys := false, apart := false, laid := [("volumegroup/names.suffixes", laid_volumegroup_names_suffixes)] }
def AllocateApartSaid : Prop := allocateApartRow.holds Tryz.pinned (OpenSpec.ofChange allocateApartSpec)

/-- ITS FALSE NEIGHBOUR: 'it returns false'. Refute it at one input. -/
def allocateApartWrong : ChangeSpec := { name := "allocateApart", fn := fun _ => fun
  | [d] => { results := [.lit (.bool false)], args := [d] }
  | _ => none }
def AllocateApartWrongFalsely : Prop := allocateApartRow.holds Tryz.pinned (OpenSpec.ofChange allocateApartWrong)

/-- 'volumegrouplaw16.AllocateLeast': WHATEVER THE INPUT: true; the input reads as it did. -/
def allocateLeastSpec : ChangeSpec := { name := "allocateLeast", fn := fun _ => fun
  | [d] => { results := [.lit (.bool true)], args := [d] }
  | _ => none }
def allocateLeastRow : OpenClaim := { program := "ytjdfihglehfelaagreatdoor", sum := "6a8af490ab9cd0079b56e34d88f86a273b596512566fffeb11b5667a4bd8bde0", func := "volumegroup/volumegrouplaw16.AllocateLeast", spec := "allocateLeast", unfollowed := true, recurses := true, named := ["volumegroup/names.suffixes"], plainKeys := false, apart := false, laid := [("volumegroup/names.suffixes", laid_volumegroup_names_suffixes)] }
def AllocateLeastSaid : Prop := allocateLeastRow.holds Tryz.pinned (OpenSpec.ofChange allocateLeastSpec)

/-- ITS FALSE NEIGHBOUR: 'it returns false'. Refute it at one input. -/
def allocateLeastWrong : ChangeSpec := { name := "allocateLeast", fn := fun _ => fun
  | [d] => { results := [.lit (.bool false)], args := [d] }
  | _ => none }
def AllocateLeastWrongFalsely : Prop := allocateLeastRow.holds Tryz.pinned (OpenSpec.ofChange allocateLeastWrong)

/- THE SECOND FORM. 'bulk': how many values and letters a reading holds, each counted each time it is reached (what is shared counts as often as it is met; a slice's spare places count too). A statement '..UptoSaid' is the law's where the arguments, and the package variables that the reading takes, are together of bulk at most 1048576: NARROWER than '..Said'. Prove '..Said' where nothing that the law and all that it calls make is longer than what came in: it says more and counts as full. Else prove '..UptoSaid'. A law counts once. -/
mutual
def uptoBulk {H : Type} : DataW H → Nat
  | .lit (.string bytes) => bytes.length + 1
  | .lit _ => 1
  | .nil => 1
  | .ptr d => uptoBulk d + 1
  | .slice elems spare => uptoBulkAll elems + uptoBulkAll spare + 1
  | .agg parts => uptoBulkAll parts + 1
  | .iface _ d => uptoBulk d + 1
  | .map entries => uptoBulkEntries entries + 1
  | .held _ => 1
def uptoBulkAll {H : Type} : List (DataW H) → Nat
  | [] => 0
  | d :: r => uptoBulk d + uptoBulkAll r
def uptoBulkEntries {H : Type} : List (Lit × DataW H) → Nat
  | [] => 0
  | x :: r => uptoBulkEntry x + uptoBulkEntries r
def uptoBulkEntry {H : Type} : Lit × DataW H → Nat
  | (.string bytes, d) => bytes.length + uptoBulk d + 1
  | (_, d) => uptoBulk d + 1
 end
def uptoSmall : (H : Type) → List (DataW H) → Bool := fun _ ds => decide (uptoBulkAll ds ≤ 1048576)
def OpenSpec.upto (s : _root_.Go.ChangeSpec) : _root_.Go.OpenSpec := { _root_.Go.OpenSpec.ofChange s with cond := some uptoSmall }

/-- 'volumegrouplaw15.PolicyBuilt', WHERE WHAT IT READS IS OF BULK AT MOST 1048576: true; the input reads as it did. -/
def policyBuiltUptoRow : OpenClaim := { program := "ytjdfihglehfelaagreatdoor", sum := "6a8af490ab9cd0079b56e34d88f86a273b596512566fffeb11b5667a4bd8bde0", func := "volumegroup/volumegrouplaw15.PolicyBuilt", spec := "policyBuilt", unfollowed := true, recurses := true, named := ["volumegroup/names.suffixes"], plainKeys := false, apart := false, laid := [("volumegroup/names.suffixes", laid_volumegroup_names_suffixes)], narrowed := true }
def PolicyBuiltUptoSaid : Prop := policyBuiltUptoRow.holds Tryz.pinned (OpenSpec.upto policyBuiltSpec)

/-- 'volumegrouplaw15.PolicyRaw', WHERE WHAT IT READS IS OF BULK AT MOST 1048576: true; the input reads as it did. -/
def policyRawUptoRow : OpenClaim := { program := "ytjdfihglehfelaagreatdoor", sum := "6a8af490ab9cd0079b56e34d88f86a273b596512566fffeb11b5667a4bd8bde0", func := "volumegroup/volumegrouplaw15.PolicyRaw", spec := "policyRaw", unfollowed := true, recurses := true, named := ["volumegroup/names.suffixes"], plainKeys := false, apart := false, laid := [("volumegroup/names.suffixes", laid_volumegroup_names_suffixes)], narrowed := true }
def PolicyRawUptoSaid : Prop := policyRawUptoRow.holds Tryz.pinned (OpenSpec.upto policyRawSpec)

/-- 'volumegrouplaw15.PolicyFree', WHERE WHAT IT READS IS OF BULK AT MOST 1048576: true; the input reads as it did. -/
def policyFreeUptoRow : OpenClaim := { program := "ytjdfihglehfelaagreatdoor", sum := "6a8af490ab9cd0079b56e34d88f86a273b596512566fffeb11b5667a4bd8bde0", func := "volumegroup/volumegrouplaw15.PolicyFree", spec := "policyFree", unfollowed := true, recurses := true, named := ["volumegroup/names.suffixes"], plainKeys := false, apart := false, laid := [("volumegroup/names.suffixes", laid_volumegroup_names_suffixes)], narrowed := true }
def PolicyFreeUptoSaid : Prop := policyFreeUptoRow.holds Tryz.pinned (OpenSpec.upto policyFreeSpec)

/-- 'volumegrouplaw15.PolicyNear', WHERE WHAT IT READS IS OF BULK AT MOST 1048576: true; the input reads as it did. -/
def policyNearUptoRow : OpenClaim := { program := "ytjdfihglehfelaagreatdoor", sum := "6a8af490ab9cd0079b56e34d88f86a273b596512566fffeb11b5667a4bd8bde0", func := "volumegroup/volumegrouplaw15.PolicyNear", spec := "policyNear", unfollowed := true, recurses := true, named := ["volumegroup/names.suffixes"], plainKeys := false, apart := false, laid := [("volumegroup/names.suffixes", laid_volumegroup_names_suffixes)], narrowed := true }
def PolicyNearUptoSaid : Prop := policyNearUptoRow.holds Tryz.pinned (OpenSpec.upto policyNearSpec)

/-- 'volumegrouplaw15.PolicyTags', WHERE WHAT IT READS IS OF BULK AT MOST 1048576: true; the input reads as it did. -/
def policyTagsUptoRow : OpenClaim := { program := "ytjdfihglehfelaagreatdoor", sum := "6a8af490ab9cd0079b56e34d88f86a273b596512566fffeb11b5667a4bd8bde0", func := "volumegroup/volumegrouplaw15.PolicyTags", spec := "policyTags", unfollowed := true, recurses := true, named := ["volumegroup/names.suffixes"], plainKeys := false, apart := false, laid := [("volumegroup/names.suffixes", laid_volumegroup_names_suffixes)], narrowed := true }
def PolicyTagsUptoSaid : Prop := policyTagsUptoRow.holds Tryz.pinned (OpenSpec.upto policyTagsSpec)

/-- 'volumegrouplaw15.PolicyWider', WHERE WHAT IT READS IS OF BULK AT MOST 1048576: true; the input reads as it did. -/
def policyWiderUptoRow : OpenClaim := { program := "ytjdfihglehfelaagreatdoor", sum := "6a8af490ab9cd0079b56e34d88f86a273b596512566fffeb11b5667a4bd8bde0", func := "volumegroup/volumegrouplaw15.PolicyWider", spec := "policyWider", unfollowed := true, recurses := true, named := ["volumegroup/names.suffixes"], plainKeys := false, apart := false, laid := [("volumegroup/names.suffixes", laid_volumegroup_names_suffixes)], narrowed := true }
def PolicyWiderUptoSaid : Prop := policyWiderUptoRow.holds Tryz.pinned (OpenSpec.upto policyWiderSpec)

/-- 'volumegrouplaw16.AllocateBuilt', WHERE WHAT IT READS IS OF BULK AT MOST 1048576: true; the input reads as it did. -/
def allocateBuiltUptoRow : OpenClaim := { program := "ytjdfihglehfelaagreatdoor", sum := "6a8af490ab9cd0079b56e34d88f86a273b596512566fffeb11b5667a4bd8bde0", func := "volumegroup/volumegrouplaw16.AllocateBuilt", spec := "allocateBuilt", unfollowed := true, recurses := true, named := ["volumegroup/names.suffixes"], plainKeys := false, apart := false, laid := [("volumegroup/names.suffixes", laid_volumegroup_names_suffixes)], narrowed := true }
def AllocateBuiltUptoSaid : Prop := allocateBuiltUptoRow.holds Tryz.pinned (OpenSpec.upto allocateBuiltSpec)

/-- 'volumegrouplaw16.AllocateComplete', WHERE WHAT IT READS IS OF BULK AT MOST 1048576: true; the input reads as it did. -/
def allocateCompleteUptoRow : OpenClaim := { program := "ytjdfihglehfelaagreatdoor", sum := "6a8af490ab9cd0079b56e34d88f86a273b596512566fffeb11b5667a4bd8bde0", func := "volumegroup/volumegrouplaw16.AllocateComplete", spec := "allocateComplete", unfollowed := true, recurses := true, named := ["volumegroup/names.suffixes"], plainKeys := false, apart := false, laid := [("volumegroup/names.suffixes", laid_volumegroup_names_suffixes)], narrowed := true }
def AllocateCompleteUptoSaid : Prop := allocateCompleteUptoRow.holds Tryz.pinned (OpenSpec.upto allocateCompleteSpec)

/-- 'volumegrouplaw16.AllocateFits', WHERE WHAT IT READS IS OF BULK AT MOST 1048576: true; the input reads as it did. -/
def allocateFitsUptoRow : OpenClaim := { program := "ytjdfihglehfelaagreatdoor", sum := "6a8af490ab9cd0079b56e34d88f86a273b596512566fffeb11b5667a4bd8bde0", func := "volumegroup/volumegrouplaw16.AllocateFits", spec := "allocateFits", unfollowed := true, recurses := true, named := ["volumegroup/names.suffixes"], plainKeys := false, apart := false, laid := [("volumegroup/names.suffixes", laid_volumegroup_names_suffixes)], narrowed := true }
def AllocateFitsUptoSaid : Prop := allocateFitsUptoRow.holds Tryz.pinned (OpenSpec.upto allocateFitsSpec)

/-- 'volumegrouplaw16.AllocateMonotone', WHERE WHAT IT READS IS OF BULK AT MOST 1048576: true; the input reads as it did. -/
def allocateMonotoneUptoRow : OpenClaim := { program := "ytjdfihglehfelaagreatdoor", sum := "6a8af490ab9cd0079b56e34d88f86a273b596512566fffeb11b5667a4bd8bde0", func := "volumegroup/volumegrouplaw16.AllocateMonotone", spec := "allocateMonotone", unfollowed := true, recurses := true, named := ["volumegroup/names.suffixes"], plainKeys := false, apart := false, laid := [("volumegroup/names.suffixes", laid_volumegroup_names_suffixes)], narrowed := true }
def AllocateMonotoneUptoSaid : Prop := allocateMonotoneUptoRow.holds Tryz.pinned (OpenSpec.upto allocateMonotoneSpec)

/-- 'volumegrouplaw16.AllocateApart', WHERE WHAT IT READS IS OF BULK AT MOST 1048576: true; the input reads as it did. -/
def allocateApartUptoRow : OpenClaim := { program := "ytjdfihglehfelaagreatdoor", sum := "6a8af490ab9cd0079b56e34d88f86a273b596512566fffeb11b5667a4bd8bde0", func := "volumegroup/volumegrouplaw16.AllocateApart", spec := "allocateApart", unfollowed := true, recurses := true, named := ["volumegroup/names.suffixes"], plainKeys := false, apart := false, laid := [("volumegroup/names.suffixes", laid_volumegroup_names_suffixes)], narrowed := true }
def AllocateApartUptoSaid : Prop := allocateApartUptoRow.holds Tryz.pinned (OpenSpec.upto allocateApartSpec)

/-- 'volumegrouplaw16.AllocateLeast', WHERE WHAT IT READS IS OF BULK AT MOST 1048576: true; the input reads as it did. -/
def allocateLeastUptoRow : OpenClaim := { program := "ytjdfihglehfelaagreatdoor", sum := "6a8af490ab9cd0079b56e34d88f86a273b596512566fffeb11b5667a4bd8bde0", func := "volumegroup/volumegrouplaw16.AllocateLeast", spec := "allocateLeast", unfollowed := true, recurses := true, named := ["volumegroup/names.suffixes"], plainKeys := false, apart := false, laid := [("volumegroup/names.suffixes", laid_volumegroup_names_suffixes)], narrowed := true }
def AllocateLeastUptoSaid : Prop := allocateLeastUptoRow.holds Tryz.pinned (OpenSpec.upto allocateLeastSpec)

end Rows
end Go.Proofs.YtjdfihglehfelaaGreatDoor
