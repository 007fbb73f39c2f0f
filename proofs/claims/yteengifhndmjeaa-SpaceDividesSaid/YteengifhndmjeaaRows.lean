/-
  No cell of these rows narrows 'for every input' (looked for: loops, veiled, ifaces, maps, wideKeys, modest, calm, conditions, laid).
  DERIVED. THE GIVEN ROWS OF THIS SEAT. 10 by the template 'for every input the law returns true; each argument reads behind the call as it read before'; 0 by the template 'total and deterministic' (their statements: YteengifhndmjeaaTotals.lean).
  GIVEN WITH THE SEED: the statements are not yours to turn. If you find one false, say at which input.
  Laid BY PROGRAM, IN A SANDBOX (cutbox-rows.mjs): the forced cells as the released guide's own fill.sh prints them over the translation 4a7d06f6713ff313… (all of the seat's roots in one cut). By AI agents, Wed Nov 11 2026. No macro, syntax, notation, axiom, sorry.
-/
import Derived.Test.YteengifhndmjeaaChecked
import GoSem.Claim
import GoSem.ClaimJoined
import GoSem.ClaimMapViews
import Derived.JoinedTies
import Derived.KernelRfl
namespace Go.Proofs.Yteengifhndmjeaa
/- THE CELL 'sum', in the pinned program and in every row, IS THE sha256 OF THE DUMP (.gsa) THAT YteengifhndmjeaaProg.lean LOADS. Nothing in Lean hashes anything: it is a label: what it is worth is what the hold of that sum in a sandbox is worth. -/
noncomputable def Try.pinned : Pinned := { name := "yteengifhndmjeaa", sum := "4a7d06f6713ff313f5344853e0ec386d37eaddbe5557878684b18af06c39213f", checked := Try.checked }
namespace Rows
def none {H : Type} : Left H := { results := [], args := [] }

/-- 'volumegrouplaw03.RangesMembers': WHATEVER THE INPUT: true; the input reads as it did. -/
def rangesMembersSpec : ChangeSpec := { name := "rangesMembers", fn := fun _ => fun
  | [d1, d2, d3] => { results := [.lit (.bool true)], args := [d1, d2, d3] }
  | _ => none }
def rangesMembersRow : OpenClaim := { program := "yteengifhndmjeaa", sum := "4a7d06f6713ff313f5344853e0ec386d37eaddbe5557878684b18af06c39213f", func := "volumegroup/volumegrouplaw03.RangesMembers", spec := "rangesMembers", unfollowed := true, recurses := true, apart := false }
def RangesMembersSaid : Prop := rangesMembersRow.holds Try.pinned (OpenSpec.ofChange rangesMembersSpec)

/-- ITS FALSE NEIGHBOUR: 'it returns false'. Refute it at one input. -/
def rangesMembersWrong : ChangeSpec := { name := "rangesMembers", fn := fun _ => fun
  | [d1, d2, d3] => { results := [.lit (.bool false)], args := [d1, d2, d3] }
  | _ => none }
def RangesMembersWrongFalsely : Prop := rangesMembersRow.holds Try.pinned (OpenSpec.ofChange rangesMembersWrong)

/-- 'volumegrouplaw03.RangesLaws': WHATEVER THE INPUT: true; the input reads as it did. -/
def rangesLawsSpec : ChangeSpec := { name := "rangesLaws", fn := fun _ => fun
  | [d1, d2, d3] => { results := [.lit (.bool true)], args := [d1, d2, d3] }
  | _ => none }
def rangesLawsRow : OpenClaim := { program := "yteengifhndmjeaa", sum := "4a7d06f6713ff313f5344853e0ec386d37eaddbe5557878684b18af06c39213f", func := "volumegroup/volumegrouplaw03.RangesLaws", spec := "rangesLaws", unfollowed := true, recurses := true, apart := false }
def RangesLawsSaid : Prop := rangesLawsRow.holds Try.pinned (OpenSpec.ofChange rangesLawsSpec)

/-- ITS FALSE NEIGHBOUR: 'it returns false'. Refute it at one input. -/
def rangesLawsWrong : ChangeSpec := { name := "rangesLaws", fn := fun _ => fun
  | [d1, d2, d3] => { results := [.lit (.bool false)], args := [d1, d2, d3] }
  | _ => none }
def RangesLawsWrongFalsely : Prop := rangesLawsRow.holds Try.pinned (OpenSpec.ofChange rangesLawsWrong)

/-- 'volumegrouplaw03.RangesSets': WHATEVER THE INPUT: true; the input reads as it did. -/
def rangesSetsSpec : ChangeSpec := { name := "rangesSets", fn := fun _ => fun
  | [d1, d2] => { results := [.lit (.bool true)], args := [d1, d2] }
  | _ => none }
def rangesSetsRow : OpenClaim := { program := "yteengifhndmjeaa", sum := "4a7d06f6713ff313f5344853e0ec386d37eaddbe5557878684b18af06c39213f", func := "volumegroup/volumegrouplaw03.RangesSets", spec := "rangesSets", unfollowed := true, recurses := true, apart := false }
def RangesSetsSaid : Prop := rangesSetsRow.holds Try.pinned (OpenSpec.ofChange rangesSetsSpec)

/-- ITS FALSE NEIGHBOUR: 'it returns false'. Refute it at one input. -/
def rangesSetsWrong : ChangeSpec := { name := "rangesSets", fn := fun _ => fun
  | [d1, d2] => { results := [.lit (.bool false)], args := [d1, d2] }
  | _ => none }
def RangesSetsWrongFalsely : Prop := rangesSetsRow.holds Try.pinned (OpenSpec.ofChange rangesSetsWrong)

/-- 'volumegrouplaw03.RangesNormal': WHATEVER THE INPUT: true; the input reads as it did. -/
def rangesNormalSpec : ChangeSpec := { name := "rangesNormal", fn := fun _ => fun
  | [d1, d2] => { results := [.lit (.bool true)], args := [d1, d2] }
  | _ => none }
def rangesNormalRow : OpenClaim := { program := "yteengifhndmjeaa", sum := "4a7d06f6713ff313f5344853e0ec386d37eaddbe5557878684b18af06c39213f", func := "volumegroup/volumegrouplaw03.RangesNormal", spec := "rangesNormal", unfollowed := true, recurses := true, apart := false }
def RangesNormalSaid : Prop := rangesNormalRow.holds Try.pinned (OpenSpec.ofChange rangesNormalSpec)

/-- ITS FALSE NEIGHBOUR: 'it returns false'. Refute it at one input. -/
def rangesNormalWrong : ChangeSpec := { name := "rangesNormal", fn := fun _ => fun
  | [d1, d2] => { results := [.lit (.bool false)], args := [d1, d2] }
  | _ => none }
def RangesNormalWrongFalsely : Prop := rangesNormalRow.holds Try.pinned (OpenSpec.ofChange rangesNormalWrong)

/-- 'volumegrouplaw03.RangesFirst': WHATEVER THE INPUT: true; the input reads as it did. -/
def rangesFirstSpec : ChangeSpec := { name := "rangesFirst", fn := fun _ => fun
  | [d1, d2] => { results := [.lit (.bool true)], args := [d1, d2] }
  | _ => none }
def rangesFirstRow : OpenClaim := { program := "yteengifhndmjeaa", sum := "4a7d06f6713ff313f5344853e0ec386d37eaddbe5557878684b18af06c39213f", func := "volumegroup/volumegrouplaw03.RangesFirst", spec := "rangesFirst", unfollowed := true, recurses := true, apart := false }
def RangesFirstSaid : Prop := rangesFirstRow.holds Try.pinned (OpenSpec.ofChange rangesFirstSpec)

/-- ITS FALSE NEIGHBOUR: 'it returns false'. Refute it at one input. -/
def rangesFirstWrong : ChangeSpec := { name := "rangesFirst", fn := fun _ => fun
  | [d1, d2] => { results := [.lit (.bool false)], args := [d1, d2] }
  | _ => none }
def RangesFirstWrongFalsely : Prop := rangesFirstRow.holds Try.pinned (OpenSpec.ofChange rangesFirstWrong)

/-- 'volumegrouplaw03.RangesTakes': WHATEVER THE INPUT: true; the input reads as it did. -/
def rangesTakesSpec : ChangeSpec := { name := "rangesTakes", fn := fun _ => fun
  | [d1, d2] => { results := [.lit (.bool true)], args := [d1, d2] }
  | _ => none }
def rangesTakesRow : OpenClaim := { program := "yteengifhndmjeaa", sum := "4a7d06f6713ff313f5344853e0ec386d37eaddbe5557878684b18af06c39213f", func := "volumegroup/volumegrouplaw03.RangesTakes", spec := "rangesTakes", unfollowed := true, recurses := true, apart := false }
def RangesTakesSaid : Prop := rangesTakesRow.holds Try.pinned (OpenSpec.ofChange rangesTakesSpec)

/-- ITS FALSE NEIGHBOUR: 'it returns false'. Refute it at one input. -/
def rangesTakesWrong : ChangeSpec := { name := "rangesTakes", fn := fun _ => fun
  | [d1, d2] => { results := [.lit (.bool false)], args := [d1, d2] }
  | _ => none }
def RangesTakesWrongFalsely : Prop := rangesTakesRow.holds Try.pinned (OpenSpec.ofChange rangesTakesWrong)

/-- 'volumegrouplaw03.RangesAsk': WHATEVER THE INPUT: true; the input reads as it did. -/
def rangesAskSpec : ChangeSpec := { name := "rangesAsk", fn := fun _ => fun
  | [d1, d2] => { results := [.lit (.bool true)], args := [d1, d2] }
  | _ => none }
def rangesAskRow : OpenClaim := { program := "yteengifhndmjeaa", sum := "4a7d06f6713ff313f5344853e0ec386d37eaddbe5557878684b18af06c39213f", func := "volumegroup/volumegrouplaw03.RangesAsk", spec := "rangesAsk", unfollowed := true, recurses := true, apart := false }
def RangesAskSaid : Prop := rangesAskRow.holds Try.pinned (OpenSpec.ofChange rangesAskSpec)

/-- ITS FALSE NEIGHBOUR: 'it returns false'. Refute it at one input. -/
def rangesAskWrong : ChangeSpec := { name := "rangesAsk", fn := fun _ => fun
  | [d1, d2] => { results := [.lit (.bool false)], args := [d1, d2] }
  | _ => none }
def RangesAskWrongFalsely : Prop := rangesAskRow.holds Try.pinned (OpenSpec.ofChange rangesAskWrong)

/-- 'volumegrouplaw14.SpaceOrder': WHATEVER THE INPUT: true; the input reads as it did. -/
def spaceOrderSpec : ChangeSpec := { name := "spaceOrder", fn := fun _ => fun
  | [d] => { results := [.lit (.bool true)], args := [d] }
  | _ => none }
def spaceOrderRow : OpenClaim := { program := "yteengifhndmjeaa", sum := "4a7d06f6713ff313f5344853e0ec386d37eaddbe5557878684b18af06c39213f", func := "volumegroup/volumegrouplaw14.SpaceOrder", spec := "spaceOrder", unfollowed := true, recurses := true, apart := false }
def SpaceOrderSaid : Prop := spaceOrderRow.holds Try.pinned (OpenSpec.ofChange spaceOrderSpec)

/-- ITS FALSE NEIGHBOUR: 'it returns false'. Refute it at one input. -/
def spaceOrderWrong : ChangeSpec := { name := "spaceOrder", fn := fun _ => fun
  | [d] => { results := [.lit (.bool false)], args := [d] }
  | _ => none }
def SpaceOrderWrongFalsely : Prop := spaceOrderRow.holds Try.pinned (OpenSpec.ofChange spaceOrderWrong)

/-- 'volumegrouplaw14.SpaceDivides': WHATEVER THE INPUT: true; the input reads as it did. -/
def spaceDividesSpec : ChangeSpec := { name := "spaceDivides", fn := fun _ => fun
  | [d] => { results := [.lit (.bool true)], args := [d] }
  | _ => none }
def spaceDividesRow : OpenClaim := { program := "yteengifhndmjeaa", sum := "4a7d06f6713ff313f5344853e0ec386d37eaddbe5557878684b18af06c39213f", func := "volumegroup/volumegrouplaw14.SpaceDivides", spec := "spaceDivides", unfollowed := true, recurses := true, apart := false }
def SpaceDividesSaid : Prop := spaceDividesRow.holds Try.pinned (OpenSpec.ofChange spaceDividesSpec)

/-- ITS FALSE NEIGHBOUR: 'it returns false'. Refute it at one input. -/
def spaceDividesWrong : ChangeSpec := { name := "spaceDivides", fn := fun _ => fun
  | [d] => { results := [.lit (.bool false)], args := [d] }
  | _ => none }
def SpaceDividesWrongFalsely : Prop := spaceDividesRow.holds Try.pinned (OpenSpec.ofChange spaceDividesWrong)

/-- 'volumegrouplaw14.SpaceSums': WHATEVER THE INPUT: true; the input reads as it did. -/
def spaceSumsSpec : ChangeSpec := { name := "spaceSums", fn := fun _ => fun
  | [d] => { results := [.lit (.bool true)], args := [d] }
  | _ => none }
def spaceSumsRow : OpenClaim := { program := "yteengifhndmjeaa", sum := "4a7d06f6713ff313f5344853e0ec386d37eaddbe5557878684b18af06c39213f", func := "volumegroup/volumegrouplaw14.SpaceSums", spec := "spaceSums", unfollowed := true, recurses := true, apart := false }
def SpaceSumsSaid : Prop := spaceSumsRow.holds Try.pinned (OpenSpec.ofChange spaceSumsSpec)

/-- ITS FALSE NEIGHBOUR: 'it returns false'. Refute it at one input. -/
def spaceSumsWrong : ChangeSpec := { name := "spaceSums", fn := fun _ => fun
  | [d] => { results := [.lit (.bool false)], args := [d] }
  | _ => none }
def SpaceSumsWrongFalsely : Prop := spaceSumsRow.holds Try.pinned (OpenSpec.ofChange spaceSumsWrong)

/- THE SECOND FORM. 'bulk': how many values and letters a reading holds, each counted each time it is reached (what is shared counts as often as it is met; a slice's spare places count too). A statement '..UptoSaid' is the law's where the arguments, and the package variables that the reading takes, are together of bulk at most 1048576: NARROWER than '..Said'. Prove '..Said' where nothing that the law and all that it calls make is longer than what came in: it says more and counts as full. Else prove '..UptoSaid'. A law counts once. -/
mutual
def uptoBulk {H : Type} : DataW H → Nat
  | .lit (.string bytes) => bytes.length + 1
  | .lit _ => 1
  | .nil => 1
  | .ptr d => uptoBulk d + 1
  | .slice elems spare => uptoBulkAll elems + uptoBulkAll spare + 1
  | .agg parts => uptoBulkAll parts + 1
  | .iface _ d => uptoBulk d + 1
  | .map entries => uptoBulkEntries entries + 1
  | .held _ => 1
def uptoBulkAll {H : Type} : List (DataW H) → Nat
  | [] => 0
  | d :: r => uptoBulk d + uptoBulkAll r
def uptoBulkEntries {H : Type} : List (Lit × DataW H) → Nat
  | [] => 0
  | x :: r => uptoBulkEntry x + uptoBulkEntries r
def uptoBulkEntry {H : Type} : Lit × DataW H → Nat
  | (.string bytes, d) => bytes.length + uptoBulk d + 1
  | (_, d) => uptoBulk d + 1
 end
def uptoSmall : (H : Type) → List (DataW H) → Bool := fun _ ds => decide (uptoBulkAll ds ≤ 1048576)
def OpenSpec.upto (s : _root_.Go.ChangeSpec) : _root_.Go.OpenSpec := { _root_.Go.OpenSpec.ofChange s with cond := some uptoSmall }

/-- 'volumegrouplaw03.RangesMembers', WHERE WHAT IT READS IS OF BULK AT MOST 1048576: true; the input reads as it did. -/
def rangesMembersUptoRow : OpenClaim := { program := "yteengifhndmjeaa", sum := "4a7d06f6713ff313f5344853e0ec386d37eaddbe5557878684b18af06c39213f", func := "volumegroup/volumegrouplaw03.RangesMembers", spec := "rangesMembers", unfollowed := true, recurses := true, apart := false, narrowed := true }
def RangesMembersUptoSaid : Prop := rangesMembersUptoRow.holds Try.pinned (OpenSpec.upto rangesMembersSpec)

/-- 'volumegrouplaw03.RangesLaws', WHERE WHAT IT READS IS OF BULK AT MOST 1048576: true; the input reads as it did. -/
def rangesLawsUptoRow : OpenClaim := { program := "yteengifhndmjeaa", sum := "4a7d06f6713ff313f5344853e0ec386d37eaddbe5557878684b18af06c39213f", func := "volumegroup/volumegrouplaw03.RangesLaws", spec := "rangesLaws", unfollowed := true, recurses := true, apart := false, narrowed := true }
def RangesLawsUptoSaid : Prop := rangesLawsUptoRow.holds Try.pinned (OpenSpec.upto rangesLawsSpec)

/-- 'volumegrouplaw03.RangesSets', WHERE WHAT IT READS IS OF BULK AT MOST 1048576: true; the input reads as it did. -/
def rangesSetsUptoRow : OpenClaim := { program := "yteengifhndmjeaa", sum := "4a7d06f6713ff313f5344853e0ec386d37eaddbe5557878684b18af06c39213f", func := "volumegroup/volumegrouplaw03.RangesSets", spec := "rangesSets", unfollowed := true, recurses := true, apart := false, narrowed := true }
def RangesSetsUptoSaid : Prop := rangesSetsUptoRow.holds Try.pinned (OpenSpec.upto rangesSetsSpec)

/-- 'volumegrouplaw03.RangesNormal', WHERE WHAT IT READS IS OF BULK AT MOST 1048576: true; the input reads as it did. -/
def rangesNormalUptoRow : OpenClaim := { program := "yteengifhndmjeaa", sum := "4a7d06f6713ff313f5344853e0ec386d37eaddbe5557878684b18af06c39213f", func := "volumegroup/volumegrouplaw03.RangesNormal", spec := "rangesNormal", unfollowed := true, recurses := true, apart := false, narrowed := true }
def RangesNormalUptoSaid : Prop := rangesNormalUptoRow.holds Try.pinned (OpenSpec.upto rangesNormalSpec)

/-- 'volumegrouplaw03.RangesFirst', WHERE WHAT IT READS IS OF BULK AT MOST 1048576: true; the input reads as it did. -/
def rangesFirstUptoRow : OpenClaim := { program := "yteengifhndmjeaa", sum := "4a7d06f6713ff313f5344853e0ec386d37eaddbe5557878684b18af06c39213f", func := "volumegroup/volumegrouplaw03.RangesFirst", spec := "rangesFirst", unfollowed := true, recurses := true, apart := false, narrowed := true }
def RangesFirstUptoSaid : Prop := rangesFirstUptoRow.holds Try.pinned (OpenSpec.upto rangesFirstSpec)

/-- 'volumegrouplaw03.RangesTakes', WHERE WHAT IT READS IS OF BULK AT MOST 1048576: true; the input reads as it did. -/
def rangesTakesUptoRow : OpenClaim := { program := "yteengifhndmjeaa", sum := "4a7d06f6713ff313f5344853e0ec386d37eaddbe5557878684b18af06c39213f", func := "volumegroup/volumegrouplaw03.RangesTakes", spec := "rangesTakes", unfollowed := true, recurses := true, apart := false, narrowed := true }
def RangesTakesUptoSaid : Prop := rangesTakesUptoRow.holds Try.pinned (OpenSpec.upto rangesTakesSpec)

/-- 'volumegrouplaw03.RangesAsk', WHERE WHAT IT READS IS OF BULK AT MOST 1048576: true; the input reads as it did. -/
def rangesAskUptoRow : OpenClaim := { program := "yteengifhndmjeaa", sum := "4a7d06f6713ff313f5344853e0ec386d37eaddbe5557878684b18af06c39213f", func := "volumegroup/volumegrouplaw03.RangesAsk", spec := "rangesAsk", unfollowed := true, recurses := true, apart := false, narrowed := true }
def RangesAskUptoSaid : Prop := rangesAskUptoRow.holds Try.pinned (OpenSpec.upto rangesAskSpec)

/-- 'volumegrouplaw14.SpaceOrder', WHERE WHAT IT READS IS OF BULK AT MOST 1048576: true; the input reads as it did. -/
def spaceOrderUptoRow : OpenClaim := { program := "yteengifhndmjeaa", sum := "4a7d06f6713ff313f5344853e0ec386d37eaddbe5557878684b18af06c39213f", func := "volumegroup/volumegrouplaw14.SpaceOrder", spec := "spaceOrder", unfollowed := true, recurses := true, apart := false, narrowed := true }
def SpaceOrderUptoSaid : Prop := spaceOrderUptoRow.holds Try.pinned (OpenSpec.upto spaceOrderSpec)

/-- 'volumegrouplaw14.SpaceDivides', WHERE WHAT IT READS IS OF BULK AT MOST 1048576: true; the input reads as it did. -/
def spaceDividesUptoRow : OpenClaim := { program := "yteengifhndmjeaa", sum := "4a7d06f6713ff313f5344853e0ec386d37eaddbe5557878684b18af06c39213f", func := "volumegroup/volumegrouplaw14.SpaceDivides", spec := "spaceDivides", unfollowed := true, recurses := true, apart := false, narrowed := true }
def SpaceDividesUptoSaid : Prop := spaceDividesUptoRow.holds Try.pinned (OpenSpec.upto spaceDividesSpec)

/-- 'volumegrouplaw14.SpaceSums', WHERE WHAT IT READS IS OF BULK AT MOST 1048576: true; the input reads as it did. -/
def spaceSumsUptoRow : OpenClaim := { program := "yteengifhndmjeaa", sum := "4a7d06f6713ff313f5344853e0ec386d37eaddbe5557878684b18af06c39213f", func := "volumegroup/volumegrouplaw14.SpaceSums", spec := "spaceSums", unfollowed := true, recurses := true, apart := false, narrowed := true }
def SpaceSumsUptoSaid : Prop := spaceSumsUptoRow.holds Try.pinned (OpenSpec.upto spaceSumsSpec)

end Rows
end Go.Proofs.Yteengifhndmjeaa
