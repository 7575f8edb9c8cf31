/-
  No cell of these rows narrows 'for every input' (looked for: loops, veiled, ifaces, maps, wideKeys, modest, calm, conditions, laid).
  DERIVED. THE GIVEN ROWS OF THIS SEAT. 16 by the template 'for every input the law returns true; each argument reads behind the call as it read before'; 0 by the template 'total and deterministic' (their statements: YtkhiifaldbjpbaaTotals.lean).
  GIVEN WITH THE SEED: the statements are not yours to turn. If you find one false, say at which input.
  Laid BY PROGRAM, IN A SANDBOX (cutbox-rows.mjs): the forced cells as the released guide's own fill.sh prints them over the translation b794e705139314b4… (all of the seat's roots in one cut). By AI agents, Wed Nov 11 2026. No macro, syntax, notation, axiom, sorry.
-/
import Derived.Test.YtkhiifaldbjpbaaChecked
import GoSem.Claim
import GoSem.ClaimJoined
import GoSem.ClaimMapViews
import Derived.JoinedTies
import Derived.KernelRfl
namespace Go.Proofs.Ytkhiifaldbjpbaa
/- THE CELL 'sum', in the pinned program and in every row, IS THE sha256 OF THE DUMP (.gsa) THAT YtkhiifaldbjpbaaProg.lean LOADS. Nothing in Lean hashes anything: it is a label: what it is worth is what the hold of that sum in a sandbox is worth. -/
noncomputable def Try.pinned : Pinned := { name := "ytkhiifaldbjpbaa", sum := "b794e705139314b4c9267180c0403ba9fad3596779561424b0972ef3e1aa5d1b", checked := Try.checked }
namespace Rows
def none {H : Type} : Left H := { results := [], args := [] }

/-- 'wapentakelaw3.TreeStays': WHATEVER THE INPUT: true; the input reads as it did. -/
def treeStaysSpec : ChangeSpec := { name := "treeStays", fn := fun _ => fun
  | [d] => { results := [.lit (.bool true)], args := [d] }
  | _ => none }
def treeStaysRow : OpenClaim := { program := "ytkhiifaldbjpbaa", sum := "b794e705139314b4c9267180c0403ba9fad3596779561424b0972ef3e1aa5d1b", func := "wapentake/wapentakelaw3.TreeStays", spec := "treeStays", inPlace := ["internal/bytealg.IndexByteString", "internal/bytealg.IndexString"], unfollowed := true, recurses := true, named := ["internal/bytealg.MaxLen"], apart := false }
def TreeStaysSaid : Prop := treeStaysRow.holds Try.pinned (OpenSpec.ofChange treeStaysSpec)

/-- ITS FALSE NEIGHBOUR: 'it returns false'. Refute it at one input. -/
def treeStaysWrong : ChangeSpec := { name := "treeStays", fn := fun _ => fun
  | [d] => { results := [.lit (.bool false)], args := [d] }
  | _ => none }
def TreeStaysWrongFalsely : Prop := treeStaysRow.holds Try.pinned (OpenSpec.ofChange treeStaysWrong)

/-- 'wapentakelaw3.TreeDepth': WHATEVER THE INPUT: true; the input reads as it did. -/
def treeDepthSpec : ChangeSpec := { name := "treeDepth", fn := fun _ => fun
  | [d] => { results := [.lit (.bool true)], args := [d] }
  | _ => none }
def treeDepthRow : OpenClaim := { program := "ytkhiifaldbjpbaa", sum := "b794e705139314b4c9267180c0403ba9fad3596779561424b0972ef3e1aa5d1b", func := "wapentake/wapentakelaw3.TreeDepth", spec := "treeDepth", inPlace := ["internal/bytealg.IndexByteString", "internal/bytealg.IndexString"], unfollowed := true, recurses := true, named := ["internal/bytealg.MaxLen"], apart := false }
def TreeDepthSaid : Prop := treeDepthRow.holds Try.pinned (OpenSpec.ofChange treeDepthSpec)

/-- ITS FALSE NEIGHBOUR: 'it returns false'. Refute it at one input. -/
def treeDepthWrong : ChangeSpec := { name := "treeDepth", fn := fun _ => fun
  | [d] => { results := [.lit (.bool false)], args := [d] }
  | _ => none }
def TreeDepthWrongFalsely : Prop := treeDepthRow.holds Try.pinned (OpenSpec.ofChange treeDepthWrong)

/-- 'wapentakelaw3.TreeKnown': WHATEVER THE INPUT: true; the input reads as it did. -/
def treeKnownSpec : ChangeSpec := { name := "treeKnown", fn := fun _ => fun
  | [] => { results := [.lit (.bool true)], args := [] }
  | _ => none }
def treeKnownRow : OpenClaim := { program := "ytkhiifaldbjpbaa", sum := "b794e705139314b4c9267180c0403ba9fad3596779561424b0972ef3e1aa5d1b", func := "wapentake/wapentakelaw3.TreeKnown", spec := "treeKnown", inPlace := ["internal/bytealg.IndexByteString", "internal/bytealg.IndexString"], unfollowed := true, recurses := true, named := ["internal/bytealg.MaxLen"], apart := false }
def TreeKnownSaid : Prop := treeKnownRow.holds Try.pinned (OpenSpec.ofChange treeKnownSpec)

/-- ITS FALSE NEIGHBOUR: 'it returns false'. Refute it at one input. -/
def treeKnownWrong : ChangeSpec := { name := "treeKnown", fn := fun _ => fun
  | [] => { results := [.lit (.bool false)], args := [] }
  | _ => none }
def TreeKnownWrongFalsely : Prop := treeKnownRow.holds Try.pinned (OpenSpec.ofChange treeKnownWrong)

/-- 'wapentakelaw3.TreeOrders': WHATEVER THE INPUT: true; the input reads as it did. -/
def treeOrdersSpec : ChangeSpec := { name := "treeOrders", fn := fun _ => fun
  | [d1, d2] => { results := [.lit (.bool true)], args := [d1, d2] }
  | _ => none }
def treeOrdersRow : OpenClaim := { program := "ytkhiifaldbjpbaa", sum := "b794e705139314b4c9267180c0403ba9fad3596779561424b0972ef3e1aa5d1b", func := "wapentake/wapentakelaw3.TreeOrders", spec := "treeOrders", inPlace := ["internal/bytealg.IndexByteString", "internal/bytealg.IndexString"], unfollowed := true, recurses := true, named := ["internal/bytealg.MaxLen"], apart := false }
def TreeOrdersSaid : Prop := treeOrdersRow.holds Try.pinned (OpenSpec.ofChange treeOrdersSpec)

/-- ITS FALSE NEIGHBOUR: 'it returns false'. Refute it at one input. -/
def treeOrdersWrong : ChangeSpec := { name := "treeOrders", fn := fun _ => fun
  | [d1, d2] => { results := [.lit (.bool false)], args := [d1, d2] }
  | _ => none }
def TreeOrdersWrongFalsely : Prop := treeOrdersRow.holds Try.pinned (OpenSpec.ofChange treeOrdersWrong)

/-- 'wapentakelaw3.TreeRanges': WHATEVER THE INPUT: true; the input reads as it did. -/
def treeRangesSpec : ChangeSpec := { name := "treeRanges", fn := fun _ => fun
  | [d1, d2] => { results := [.lit (.bool true)], args := [d1, d2] }
  | _ => none }
def treeRangesRow : OpenClaim := { program := "ytkhiifaldbjpbaa", sum := "b794e705139314b4c9267180c0403ba9fad3596779561424b0972ef3e1aa5d1b", func := "wapentake/wapentakelaw3.TreeRanges", spec := "treeRanges", inPlace := ["internal/bytealg.IndexByteString", "internal/bytealg.IndexString"], unfollowed := true, recurses := true, named := ["internal/bytealg.MaxLen"], apart := false }
def TreeRangesSaid : Prop := treeRangesRow.holds Try.pinned (OpenSpec.ofChange treeRangesSpec)

/-- ITS FALSE NEIGHBOUR: 'it returns false'. Refute it at one input. -/
def treeRangesWrong : ChangeSpec := { name := "treeRanges", fn := fun _ => fun
  | [d1, d2] => { results := [.lit (.bool false)], args := [d1, d2] }
  | _ => none }
def TreeRangesWrongFalsely : Prop := treeRangesRow.holds Try.pinned (OpenSpec.ofChange treeRangesWrong)

/-- 'wapentakelaw3.TreeLast': WHATEVER THE INPUT: true; the input reads as it did. -/
def treeLastSpec : ChangeSpec := { name := "treeLast", fn := fun _ => fun
  | [d] => { results := [.lit (.bool true)], args := [d] }
  | _ => none }
def treeLastRow : OpenClaim := { program := "ytkhiifaldbjpbaa", sum := "b794e705139314b4c9267180c0403ba9fad3596779561424b0972ef3e1aa5d1b", func := "wapentake/wapentakelaw3.TreeLast", spec := "treeLast", inPlace := ["internal/bytealg.IndexByteString", "internal/bytealg.IndexString"], unfollowed := true, recurses := true, named := ["internal/bytealg.MaxLen"], apart := false }
def TreeLastSaid : Prop := treeLastRow.holds Try.pinned (OpenSpec.ofChange treeLastSpec)

/-- ITS FALSE NEIGHBOUR: 'it returns false'. Refute it at one input. -/
def treeLastWrong : ChangeSpec := { name := "treeLast", fn := fun _ => fun
  | [d] => { results := [.lit (.bool false)], args := [d] }
  | _ => none }
def TreeLastWrongFalsely : Prop := treeLastRow.holds Try.pinned (OpenSpec.ofChange treeLastWrong)

/-- 'wapentakelaw3.TreePuts': WHATEVER THE INPUT: true; the input reads as it did. -/
def treePutsSpec : ChangeSpec := { name := "treePuts", fn := fun _ => fun
  | [d1, d2, d3] => { results := [.lit (.bool true)], args := [d1, d2, d3] }
  | _ => none }
def treePutsRow : OpenClaim := { program := "ytkhiifaldbjpbaa", sum := "b794e705139314b4c9267180c0403ba9fad3596779561424b0972ef3e1aa5d1b", func := "wapentake/wapentakelaw3.TreePuts", spec := "treePuts", inPlace := ["internal/bytealg.IndexByteString", "internal/bytealg.IndexString"], unfollowed := true, recurses := true, named := ["internal/bytealg.MaxLen"], apart := false }
def TreePutsSaid : Prop := treePutsRow.holds Try.pinned (OpenSpec.ofChange treePutsSpec)

/-- ITS FALSE NEIGHBOUR: 'it returns false'. Refute it at one input. -/
def treePutsWrong : ChangeSpec := { name := "treePuts", fn := fun _ => fun
  | [d1, d2, d3] => { results := [.lit (.bool false)], args := [d1, d2, d3] }
  | _ => none }
def TreePutsWrongFalsely : Prop := treePutsRow.holds Try.pinned (OpenSpec.ofChange treePutsWrong)

/-- 'wapentakelaw2.PathNormals': WHATEVER THE INPUT: true; the input reads as it did. -/
def pathNormalsSpec : ChangeSpec := { name := "pathNormals", fn := fun _ => fun
  | [d] => { results := [.lit (.bool true)], args := [d] }
  | _ => none }
def pathNormalsRow : OpenClaim := { program := "ytkhiifaldbjpbaa", sum := "b794e705139314b4c9267180c0403ba9fad3596779561424b0972ef3e1aa5d1b", func := "wapentake/wapentakelaw2.PathNormals", spec := "pathNormals", inPlace := ["internal/bytealg.IndexByteString", "internal/bytealg.IndexString", "internal/abi.NoEscape", "internal/bytealg.MakeNoZero"], unfollowed := true, recurses := true, named := ["internal/bytealg.MaxLen"], apart := false }
def PathNormalsSaid : Prop := pathNormalsRow.holds Try.pinned (OpenSpec.ofChange pathNormalsSpec)

/-- ITS FALSE NEIGHBOUR: 'it returns false'. Refute it at one input. -/
def pathNormalsWrong : ChangeSpec := { name := "pathNormals", fn := fun _ => fun
  | [d] => { results := [.lit (.bool false)], args := [d] }
  | _ => none }
def PathNormalsWrongFalsely : Prop := pathNormalsRow.holds Try.pinned (OpenSpec.ofChange pathNormalsWrong)

/-- 'wapentakelaw2.PathOrders': WHATEVER THE INPUT: true; the input reads as it did. -/
def pathOrdersSpec : ChangeSpec := { name := "pathOrders", fn := fun _ => fun
  | [d1, d2, d3] => { results := [.lit (.bool true)], args := [d1, d2, d3] }
  | _ => none }
def pathOrdersRow : OpenClaim := { program := "ytkhiifaldbjpbaa", sum := "b794e705139314b4c9267180c0403ba9fad3596779561424b0972ef3e1aa5d1b", func := "wapentake/wapentakelaw2.PathOrders", spec := "pathOrders", inPlace := ["internal/bytealg.IndexByteString", "internal/bytealg.IndexString", "internal/abi.NoEscape", "internal/bytealg.MakeNoZero"], unfollowed := true, recurses := true, named := ["internal/bytealg.MaxLen"], apart := false }
def PathOrdersSaid : Prop := pathOrdersRow.holds Try.pinned (OpenSpec.ofChange pathOrdersSpec)

/-- ITS FALSE NEIGHBOUR: 'it returns false'. Refute it at one input. -/
def pathOrdersWrong : ChangeSpec := { name := "pathOrders", fn := fun _ => fun
  | [d1, d2, d3] => { results := [.lit (.bool false)], args := [d1, d2, d3] }
  | _ => none }
def PathOrdersWrongFalsely : Prop := pathOrdersRow.holds Try.pinned (OpenSpec.ofChange pathOrdersWrong)

/-- 'wapentakelaw2.PathJoins': WHATEVER THE INPUT: true; the input reads as it did. -/
def pathJoinsSpec : ChangeSpec := { name := "pathJoins", fn := fun _ => fun
  | [d1, d2, d3] => { results := [.lit (.bool true)], args := [d1, d2, d3] }
  | _ => none }
def pathJoinsRow : OpenClaim := { program := "ytkhiifaldbjpbaa", sum := "b794e705139314b4c9267180c0403ba9fad3596779561424b0972ef3e1aa5d1b", func := "wapentake/wapentakelaw2.PathJoins", spec := "pathJoins", inPlace := ["internal/bytealg.IndexByteString", "internal/bytealg.IndexString", "internal/abi.NoEscape", "internal/bytealg.MakeNoZero"], unfollowed := true, recurses := true, named := ["internal/bytealg.MaxLen"], apart := false }
def PathJoinsSaid : Prop := pathJoinsRow.holds Try.pinned (OpenSpec.ofChange pathJoinsSpec)

/-- ITS FALSE NEIGHBOUR: 'it returns false'. Refute it at one input. -/
def pathJoinsWrong : ChangeSpec := { name := "pathJoins", fn := fun _ => fun
  | [d1, d2, d3] => { results := [.lit (.bool false)], args := [d1, d2, d3] }
  | _ => none }
def PathJoinsWrongFalsely : Prop := pathJoinsRow.holds Try.pinned (OpenSpec.ofChange pathJoinsWrong)

/-- 'wapentakelaw2.PathKnown': WHATEVER THE INPUT: true; the input reads as it did. -/
def pathKnownSpec : ChangeSpec := { name := "pathKnown", fn := fun _ => fun
  | [] => { results := [.lit (.bool true)], args := [] }
  | _ => none }
def pathKnownRow : OpenClaim := { program := "ytkhiifaldbjpbaa", sum := "b794e705139314b4c9267180c0403ba9fad3596779561424b0972ef3e1aa5d1b", func := "wapentake/wapentakelaw2.PathKnown", spec := "pathKnown", inPlace := ["internal/bytealg.IndexByteString", "internal/bytealg.IndexString", "internal/abi.NoEscape", "internal/bytealg.MakeNoZero"], unfollowed := true, recurses := true, named := ["internal/bytealg.MaxLen"], apart := false }
def PathKnownSaid : Prop := pathKnownRow.holds Try.pinned (OpenSpec.ofChange pathKnownSpec)

/-- ITS FALSE NEIGHBOUR: 'it returns false'. Refute it at one input. -/
def pathKnownWrong : ChangeSpec := { name := "pathKnown", fn := fun _ => fun
  | [] => { results := [.lit (.bool false)], args := [] }
  | _ => none }
def PathKnownWrongFalsely : Prop := pathKnownRow.holds Try.pinned (OpenSpec.ofChange pathKnownWrong)

/-- 'wapentakelaw2.PathWithin': WHATEVER THE INPUT: true; the input reads as it did. -/
def pathWithinSpec : ChangeSpec := { name := "pathWithin", fn := fun _ => fun
  | [d1, d2, d3] => { results := [.lit (.bool true)], args := [d1, d2, d3] }
  | _ => none }
def pathWithinRow : OpenClaim := { program := "ytkhiifaldbjpbaa", sum := "b794e705139314b4c9267180c0403ba9fad3596779561424b0972ef3e1aa5d1b", func := "wapentake/wapentakelaw2.PathWithin", spec := "pathWithin", inPlace := ["internal/bytealg.IndexByteString", "internal/bytealg.IndexString", "internal/abi.NoEscape", "internal/bytealg.MakeNoZero"], unfollowed := true, recurses := true, named := ["internal/bytealg.MaxLen"], apart := false }
def PathWithinSaid : Prop := pathWithinRow.holds Try.pinned (OpenSpec.ofChange pathWithinSpec)

/-- ITS FALSE NEIGHBOUR: 'it returns false'. Refute it at one input. -/
def pathWithinWrong : ChangeSpec := { name := "pathWithin", fn := fun _ => fun
  | [d1, d2, d3] => { results := [.lit (.bool false)], args := [d1, d2, d3] }
  | _ => none }
def PathWithinWrongFalsely : Prop := pathWithinRow.holds Try.pinned (OpenSpec.ofChange pathWithinWrong)

/-- 'wapentakelaw4.ChangeKnown': WHATEVER THE INPUT: true; the input reads as it did. -/
def changeKnownSpec : ChangeSpec := { name := "changeKnown", fn := fun _ => fun
  | [] => { results := [.lit (.bool true)], args := [] }
  | _ => none }
def changeKnownRow : OpenClaim := { program := "ytkhiifaldbjpbaa", sum := "b794e705139314b4c9267180c0403ba9fad3596779561424b0972ef3e1aa5d1b", func := "wapentake/wapentakelaw4.ChangeKnown", spec := "changeKnown", inPlace := ["internal/bytealg.IndexByteString", "internal/bytealg.IndexString", "internal/abi.NoEscape", "internal/bytealg.MakeNoZero"], unfollowed := true, recurses := true, named := ["internal/bytealg.MaxLen"], apart := false }
def ChangeKnownSaid : Prop := changeKnownRow.holds Try.pinned (OpenSpec.ofChange changeKnownSpec)

/-- ITS FALSE NEIGHBOUR: 'it returns false'. Refute it at one input. -/
def changeKnownWrong : ChangeSpec := { name := "changeKnown", fn := fun _ => fun
  | [] => { results := [.lit (.bool false)], args := [] }
  | _ => none }
def ChangeKnownWrongFalsely : Prop := changeKnownRow.holds Try.pinned (OpenSpec.ofChange changeKnownWrong)

/-- 'wapentakelaw4.ChangeChecks': WHATEVER THE INPUT: true; the input reads as it did. -/
def changeChecksSpec : ChangeSpec := { name := "changeChecks", fn := fun _ => fun
  | [d1, d2] => { results := [.lit (.bool true)], args := [d1, d2] }
  | _ => none }
def changeChecksRow : OpenClaim := { program := "ytkhiifaldbjpbaa", sum := "b794e705139314b4c9267180c0403ba9fad3596779561424b0972ef3e1aa5d1b", func := "wapentake/wapentakelaw4.ChangeChecks", spec := "changeChecks", inPlace := ["internal/bytealg.IndexByteString", "internal/bytealg.IndexString", "internal/abi.NoEscape", "internal/bytealg.MakeNoZero"], unfollowed := true, recurses := true, named := ["internal/bytealg.MaxLen"], apart := false }
def ChangeChecksSaid : Prop := changeChecksRow.holds Try.pinned (OpenSpec.ofChange changeChecksSpec)

/-- ITS FALSE NEIGHBOUR: 'it returns false'. Refute it at one input. -/
def changeChecksWrong : ChangeSpec := { name := "changeChecks", fn := fun _ => fun
  | [d1, d2] => { results := [.lit (.bool false)], args := [d1, d2] }
  | _ => none }
def ChangeChecksWrongFalsely : Prop := changeChecksRow.holds Try.pinned (OpenSpec.ofChange changeChecksWrong)

/-- 'wapentakelaw4.ChangeSorts': WHATEVER THE INPUT: true; the input reads as it did. -/
def changeSortsSpec : ChangeSpec := { name := "changeSorts", fn := fun _ => fun
  | [d] => { results := [.lit (.bool true)], args := [d] }
  | _ => none }
def changeSortsRow : OpenClaim := { program := "ytkhiifaldbjpbaa", sum := "b794e705139314b4c9267180c0403ba9fad3596779561424b0972ef3e1aa5d1b", func := "wapentake/wapentakelaw4.ChangeSorts", spec := "changeSorts", inPlace := ["internal/bytealg.IndexByteString", "internal/bytealg.IndexString", "internal/abi.NoEscape", "internal/bytealg.MakeNoZero"], unfollowed := true, recurses := true, named := ["internal/bytealg.MaxLen"], apart := false }
def ChangeSortsSaid : Prop := changeSortsRow.holds Try.pinned (OpenSpec.ofChange changeSortsSpec)

/-- ITS FALSE NEIGHBOUR: 'it returns false'. Refute it at one input. -/
def changeSortsWrong : ChangeSpec := { name := "changeSorts", fn := fun _ => fun
  | [d] => { results := [.lit (.bool false)], args := [d] }
  | _ => none }
def ChangeSortsWrongFalsely : Prop := changeSortsRow.holds Try.pinned (OpenSpec.ofChange changeSortsWrong)

/-- 'wapentakelaw4.ChangeLimits': WHATEVER THE INPUT: true; the input reads as it did. -/
def changeLimitsSpec : ChangeSpec := { name := "changeLimits", fn := fun _ => fun
  | [d1, d2, d3] => { results := [.lit (.bool true)], args := [d1, d2, d3] }
  | _ => none }
def changeLimitsRow : OpenClaim := { program := "ytkhiifaldbjpbaa", sum := "b794e705139314b4c9267180c0403ba9fad3596779561424b0972ef3e1aa5d1b", func := "wapentake/wapentakelaw4.ChangeLimits", spec := "changeLimits", inPlace := ["internal/bytealg.IndexByteString", "internal/bytealg.IndexString", "internal/abi.NoEscape", "internal/bytealg.MakeNoZero"], unfollowed := true, recurses := true, named := ["internal/bytealg.MaxLen"], apart := false }
def ChangeLimitsSaid : Prop := changeLimitsRow.holds Try.pinned (OpenSpec.ofChange changeLimitsSpec)

/-- ITS FALSE NEIGHBOUR: 'it returns false'. Refute it at one input. -/
def changeLimitsWrong : ChangeSpec := { name := "changeLimits", fn := fun _ => fun
  | [d1, d2, d3] => { results := [.lit (.bool false)], args := [d1, d2, d3] }
  | _ => none }
def ChangeLimitsWrongFalsely : Prop := changeLimitsRow.holds Try.pinned (OpenSpec.ofChange changeLimitsWrong)

/- THE SECOND FORM. 'bulk': how many values and letters a reading holds, each counted each time it is reached (what is shared counts as often as it is met; a slice's spare places count too). A statement '..UptoSaid' is the law's where the arguments, and the package variables that the reading takes, are together of bulk at most 1048576: NARROWER than '..Said'. Prove '..Said' where nothing that the law and all that it calls make is longer than what came in: it says more and counts as full. Else prove '..UptoSaid'. A law counts once. -/
mutual
def uptoBulk {H : Type} : DataW H → Nat
  | .lit (.string bytes) => bytes.length + 1
  | .lit _ => 1
  | .nil => 1
  | .ptr d => uptoBulk d + 1
  | .slice elems spare => uptoBulkAll elems + uptoBulkAll spare + 1
  | .agg parts => uptoBulkAll parts + 1
  | .iface _ d => uptoBulk d + 1
  | .map entries => uptoBulkEntries entries + 1
  | .held _ => 1
def uptoBulkAll {H : Type} : List (DataW H) → Nat
  | [] => 0
  | d :: r => uptoBulk d + uptoBulkAll r
def uptoBulkEntries {H : Type} : List (Lit × DataW H) → Nat
  | [] => 0
  | x :: r => uptoBulkEntry x + uptoBulkEntries r
def uptoBulkEntry {H : Type} : Lit × DataW H → Nat
  | (.string bytes, d) => bytes.length + uptoBulk d + 1
  | (_, d) => uptoBulk d + 1
 end
def uptoSmall : (H : Type) → List (DataW H) → Bool := fun _ ds => decide (uptoBulkAll ds ≤ 1048576)
def OpenSpec.upto (s : _root_.Go.ChangeSpec) : _root_.Go.OpenSpec := { _root_.Go.OpenSpec.ofChange s with cond := some uptoSmall }

/-- 'wapentakelaw3.TreeStays', WHERE WHAT IT READS IS OF BULK AT MOST 1048576: true; the input reads as it did. -/
def treeStaysUptoRow : OpenClaim := { program := "ytkhiifaldbjpbaa", sum := "b794e705139314b4c9267180c0403ba9fad3596779561424b0972ef3e1aa5d1b", func := "wapentake/wapentakelaw3.TreeStays", spec := "treeStays", inPlace := ["internal/bytealg.IndexByteString", "internal/bytealg.IndexString"], unfollowed := true, recurses := true, named := ["internal/bytealg.MaxLen"], apart := false, narrowed := true }
def TreeStaysUptoSaid : Prop := treeStaysUptoRow.holds Try.pinned (OpenSpec.upto treeStaysSpec)

/-- 'wapentakelaw3.TreeDepth', WHERE WHAT IT READS IS OF BULK AT MOST 1048576: true; the input reads as it did. -/
def treeDepthUptoRow : OpenClaim := { program := "ytkhiifaldbjpbaa", sum := "b794e705139314b4c9267180c0403ba9fad3596779561424b0972ef3e1aa5d1b", func := "wapentake/wapentakelaw3.TreeDepth", spec := "treeDepth", inPlace := ["internal/bytealg.IndexByteString", "internal/bytealg.IndexString"], unfollowed := true, recurses := true, named := ["internal/bytealg.MaxLen"], apart := false, narrowed := true }
def TreeDepthUptoSaid : Prop := treeDepthUptoRow.holds Try.pinned (OpenSpec.upto treeDepthSpec)

/-- 'wapentakelaw3.TreeKnown', WHERE WHAT IT READS IS OF BULK AT MOST 1048576: true; the input reads as it did. -/
def treeKnownUptoRow : OpenClaim := { program := "ytkhiifaldbjpbaa", sum := "b794e705139314b4c9267180c0403ba9fad3596779561424b0972ef3e1aa5d1b", func := "wapentake/wapentakelaw3.TreeKnown", spec := "treeKnown", inPlace := ["internal/bytealg.IndexByteString", "internal/bytealg.IndexString"], unfollowed := true, recurses := true, named := ["internal/bytealg.MaxLen"], apart := false, narrowed := true }
def TreeKnownUptoSaid : Prop := treeKnownUptoRow.holds Try.pinned (OpenSpec.upto treeKnownSpec)

/-- 'wapentakelaw3.TreeOrders', WHERE WHAT IT READS IS OF BULK AT MOST 1048576: true; the input reads as it did. -/
def treeOrdersUptoRow : OpenClaim := { program := "ytkhiifaldbjpbaa", sum := "b794e705139314b4c9267180c0403ba9fad3596779561424b0972ef3e1aa5d1b", func := "wapentake/wapentakelaw3.TreeOrders", spec := "treeOrders", inPlace := ["internal/bytealg.IndexByteString", "internal/bytealg.IndexString"], unfollowed := true, recurses := true, named := ["internal/bytealg.MaxLen"], apart := false, narrowed := true }
def TreeOrdersUptoSaid : Prop := treeOrdersUptoRow.holds Try.pinned (OpenSpec.upto treeOrdersSpec)

/-- 'wapentakelaw3.TreeRanges', WHERE WHAT IT READS IS OF BULK AT MOST 1048576: true; the input reads as it did. -/
def treeRangesUptoRow : OpenClaim := { program := "ytkhiifaldbjpbaa", sum := "b794e705139314b4c9267180c0403ba9fad3596779561424b0972ef3e1aa5d1b", func := "wapentake/wapentakelaw3.TreeRanges", spec := "treeRanges", inPlace := ["internal/bytealg.IndexByteString", "internal/bytealg.IndexString"], unfollowed := true, recurses := true, named := ["internal/bytealg.MaxLen"], apart := false, narrowed := true }
def TreeRangesUptoSaid : Prop := treeRangesUptoRow.holds Try.pinned (OpenSpec.upto treeRangesSpec)

/-- 'wapentakelaw3.TreeLast', WHERE WHAT IT READS IS OF BULK AT MOST 1048576: true; the input reads as it did. -/
def treeLastUptoRow : OpenClaim := { program := "ytkhiifaldbjpbaa", sum := "b794e705139314b4c9267180c0403ba9fad3596779561424b0972ef3e1aa5d1b", func := "wapentake/wapentakelaw3.TreeLast", spec := "treeLast", inPlace := ["internal/bytealg.IndexByteString", "internal/bytealg.IndexString"], unfollowed := true, recurses := true, named := ["internal/bytealg.MaxLen"], apart := false, narrowed := true }
def TreeLastUptoSaid : Prop := treeLastUptoRow.holds Try.pinned (OpenSpec.upto treeLastSpec)

/-- 'wapentakelaw3.TreePuts', WHERE WHAT IT READS IS OF BULK AT MOST 1048576: true; the input reads as it did. -/
def treePutsUptoRow : OpenClaim := { program := "ytkhiifaldbjpbaa", sum := "b794e705139314b4c9267180c0403ba9fad3596779561424b0972ef3e1aa5d1b", func := "wapentake/wapentakelaw3.TreePuts", spec := "treePuts", inPlace := ["internal/bytealg.IndexByteString", "internal/bytealg.IndexString"], unfollowed := true, recurses := true, named := ["internal/bytealg.MaxLen"], apart := false, narrowed := true }
def TreePutsUptoSaid : Prop := treePutsUptoRow.holds Try.pinned (OpenSpec.upto treePutsSpec)

/-- 'wapentakelaw2.PathNormals', WHERE WHAT IT READS IS OF BULK AT MOST 1048576: true; the input reads as it did. -/
def pathNormalsUptoRow : OpenClaim := { program := "ytkhiifaldbjpbaa", sum := "b794e705139314b4c9267180c0403ba9fad3596779561424b0972ef3e1aa5d1b", func := "wapentake/wapentakelaw2.PathNormals", spec := "pathNormals", inPlace := ["internal/bytealg.IndexByteString", "internal/bytealg.IndexString", "internal/abi.NoEscape", "internal/bytealg.MakeNoZero"], unfollowed := true, recurses := true, named := ["internal/bytealg.MaxLen"], apart := false, narrowed := true }
def PathNormalsUptoSaid : Prop := pathNormalsUptoRow.holds Try.pinned (OpenSpec.upto pathNormalsSpec)

/-- 'wapentakelaw2.PathOrders', WHERE WHAT IT READS IS OF BULK AT MOST 1048576: true; the input reads as it did. -/
def pathOrdersUptoRow : OpenClaim := { program := "ytkhiifaldbjpbaa", sum := "b794e705139314b4c9267180c0403ba9fad3596779561424b0972ef3e1aa5d1b", func := "wapentake/wapentakelaw2.PathOrders", spec := "pathOrders", inPlace := ["internal/bytealg.IndexByteString", "internal/bytealg.IndexString", "internal/abi.NoEscape", "internal/bytealg.MakeNoZero"], unfollowed := true, recurses := true, named := ["internal/bytealg.MaxLen"], apart := false, narrowed := true }
def PathOrdersUptoSaid : Prop := pathOrdersUptoRow.holds Try.pinned (OpenSpec.upto pathOrdersSpec)

/-- 'wapentakelaw2.PathJoins', WHERE WHAT IT READS IS OF BULK AT MOST 1048576: true; the input reads as it did. -/
def pathJoinsUptoRow : OpenClaim := { program := "ytkhiifaldbjpbaa", sum := "b794e705139314b4c9267180c0403ba9fad3596779561424b0972ef3e1aa5d1b", func := "wapentake/wapentakelaw2.PathJoins", spec := "pathJoins", inPlace := ["internal/bytealg.IndexByteString", "internal/bytealg.IndexString", "internal/abi.NoEscape", "internal/bytealg.MakeNoZero"], unfollowed := true, recurses := true, named := ["internal/bytealg.MaxLen"], apart := false, narrowed := true }
def PathJoinsUptoSaid : Prop := pathJoinsUptoRow.holds Try.pinned (OpenSpec.upto pathJoinsSpec)

/-- 'wapentakelaw2.PathKnown', WHERE WHAT IT READS IS OF BULK AT MOST 1048576: true; the input reads as it did. -/
def pathKnownUptoRow : OpenClaim := { program := "ytkhiifaldbjpbaa", sum := "b794e705139314b4c9267180c0403ba9fad3596779561424b0972ef3e1aa5d1b", func := "wapentake/wapentakelaw2.PathKnown", spec := "pathKnown", inPlace := ["internal/bytealg.IndexByteString", "internal/bytealg.IndexString", "internal/abi.NoEscape", "internal/bytealg.MakeNoZero"], unfollowed := true, recurses := true, named := ["internal/bytealg.MaxLen"], apart := false, narrowed := true }
def PathKnownUptoSaid : Prop := pathKnownUptoRow.holds Try.pinned (OpenSpec.upto pathKnownSpec)

/-- 'wapentakelaw2.PathWithin', WHERE WHAT IT READS IS OF BULK AT MOST 1048576: true; the input reads as it did. -/
def pathWithinUptoRow : OpenClaim := { program := "ytkhiifaldbjpbaa", sum := "b794e705139314b4c9267180c0403ba9fad3596779561424b0972ef3e1aa5d1b", func := "wapentake/wapentakelaw2.PathWithin", spec := "pathWithin", inPlace := ["internal/bytealg.IndexByteString", "internal/bytealg.IndexString", "internal/abi.NoEscape", "internal/bytealg.MakeNoZero"], unfollowed := true, recurses := true, named := ["internal/bytealg.MaxLen"], apart := false, narrowed := true }
def PathWithinUptoSaid : Prop := pathWithinUptoRow.holds Try.pinned (OpenSpec.upto pathWithinSpec)

/-- 'wapentakelaw4.ChangeKnown', WHERE WHAT IT READS IS OF BULK AT MOST 1048576: true; the input reads as it did. -/
def changeKnownUptoRow : OpenClaim := { program := "ytkhiifaldbjpbaa", sum := "b794e705139314b4c9267180c0403ba9fad3596779561424b0972ef3e1aa5d1b", func := "wapentake/wapentakelaw4.ChangeKnown", spec := "changeKnown", inPlace := ["internal/bytealg.IndexByteString", "internal/bytealg.IndexString", "internal/abi.NoEscape", "internal/bytealg.MakeNoZero"], unfollowed := true, recurses := true, named := ["internal/bytealg.MaxLen"], apart := false, narrowed := true }
def ChangeKnownUptoSaid : Prop := changeKnownUptoRow.holds Try.pinned (OpenSpec.upto changeKnownSpec)

/-- 'wapentakelaw4.ChangeChecks', WHERE WHAT IT READS IS OF BULK AT MOST 1048576: true; the input reads as it did. -/
def changeChecksUptoRow : OpenClaim := { program := "ytkhiifaldbjpbaa", sum := "b794e705139314b4c9267180c0403ba9fad3596779561424b0972ef3e1aa5d1b", func := "wapentake/wapentakelaw4.ChangeChecks", spec := "changeChecks", inPlace := ["internal/bytealg.IndexByteString", "internal/bytealg.IndexString", "internal/abi.NoEscape", "internal/bytealg.MakeNoZero"], unfollowed := true, recurses := true, named := ["internal/bytealg.MaxLen"], apart := false, narrowed := true }
def ChangeChecksUptoSaid : Prop := changeChecksUptoRow.holds Try.pinned (OpenSpec.upto changeChecksSpec)

/-- 'wapentakelaw4.ChangeSorts', WHERE WHAT IT READS IS OF BULK AT MOST 1048576: true; the input reads as it did. -/
def changeSortsUptoRow : OpenClaim := { program := "ytkhiifaldbjpbaa", sum := "b794e705139314b4c9267180c0403ba9fad3596779561424b0972ef3e1aa5d1b", func := "wapentake/wapentakelaw4.ChangeSorts", spec := "changeSorts", inPlace := ["internal/bytealg.IndexByteString", "internal/bytealg.IndexString", "internal/abi.NoEscape", "internal/bytealg.MakeNoZero"], unfollowed := true, recurses := true, named := ["internal/bytealg.MaxLen"], apart := false, narrowed := true }
def ChangeSortsUptoSaid : Prop := changeSortsUptoRow.holds Try.pinned (OpenSpec.upto changeSortsSpec)

/-- 'wapentakelaw4.ChangeLimits', WHERE WHAT IT READS IS OF BULK AT MOST 1048576: true; the input reads as it did. -/
def changeLimitsUptoRow : OpenClaim := { program := "ytkhiifaldbjpbaa", sum := "b794e705139314b4c9267180c0403ba9fad3596779561424b0972ef3e1aa5d1b", func := "wapentake/wapentakelaw4.ChangeLimits", spec := "changeLimits", inPlace := ["internal/bytealg.IndexByteString", "internal/bytealg.IndexString", "internal/abi.NoEscape", "internal/bytealg.MakeNoZero"], unfollowed := true, recurses := true, named := ["internal/bytealg.MaxLen"], apart := false, narrowed := true }
def ChangeLimitsUptoSaid : Prop := changeLimitsUptoRow.holds Try.pinned (OpenSpec.upto changeLimitsSpec)

end Rows
end Go.Proofs.Ytkhiifaldbjpbaa
