/-
  No cell of these rows narrows 'for every input' (looked for: loops, veiled, ifaces, maps, wideKeys, modest, calm, conditions, laid).
  DERIVED. THE GIVEN ROWS OF THIS SEAT. 5 by the template 'for every input the law returns true; each argument reads behind the call as it read before'; 0 by the template 'total and deterministic' (their statements: YtildflamnehilaaTotals.lean).
  GIVEN WITH THE SEED: the statements are not yours to turn. If you find one false, say at which input.
  Laid BY PROGRAM, IN A SANDBOX (cutbox-rows.mjs): the forced cells as the released guide's own fill.sh prints them over the translation ef9526ff4af083dc… (all of the seat's roots in one cut). By AI agents, Wed Nov 11 2026. No macro, syntax, notation, axiom, sorry.
-/
import Derived.Test.YtildflamnehilaaChecked
import GoSem.Claim
import GoSem.ClaimJoined
import GoSem.ClaimMapViews
import Derived.JoinedTies
import Derived.KernelRfl
namespace Go.Proofs.Ytildflamnehilaa
/- THE CELL 'sum', in the pinned program and in every row, IS THE sha256 OF THE DUMP (.gsa) THAT YtildflamnehilaaProg.lean LOADS. Nothing in Lean hashes anything: it is a label: what it is worth is what the hold of that sum in a sandbox is worth. -/
noncomputable def Try.pinned : Pinned := { name := "ytildflamnehilaa", sum := "ef9526ff4af083dcf403294fea988f56f07e8cc21cd43a27a4ebf82062bea6ea", checked := Try.checked }
namespace Rows
def none {H : Type} : Left H := { results := [], args := [] }

/-- 'wapentakelaw5.GraphConflicts': WHATEVER THE INPUT: true; the input reads as it did. -/
def graphConflictsSpec : ChangeSpec := { name := "graphConflicts", fn := fun _ => fun
  | [d1, d2, d3] => { results := [.lit (.bool true)], args := [d1, d2, d3] }
  | _ => none }
def graphConflictsRow : OpenClaim := { program := "ytildflamnehilaa", sum := "ef9526ff4af083dcf403294fea988f56f07e8cc21cd43a27a4ebf82062bea6ea", func := "wapentake/wapentakelaw5.GraphConflicts", spec := "graphConflicts", inPlace := ["internal/bytealg.IndexByteString", "internal/bytealg.IndexString", "internal/abi.NoEscape", "internal/bytealg.MakeNoZero"], unfollowed := true, recurses := true, named := ["internal/bytealg.MaxLen"], apart := false }
def GraphConflictsSaid : Prop := graphConflictsRow.holds Try.pinned (OpenSpec.ofChange graphConflictsSpec)

/-- ITS FALSE NEIGHBOUR: 'it returns false'. Refute it at one input. -/
def graphConflictsWrong : ChangeSpec := { name := "graphConflicts", fn := fun _ => fun
  | [d1, d2, d3] => { results := [.lit (.bool false)], args := [d1, d2, d3] }
  | _ => none }
def GraphConflictsWrongFalsely : Prop := graphConflictsRow.holds Try.pinned (OpenSpec.ofChange graphConflictsWrong)

/-- 'wapentakelaw5.GraphLegal': WHATEVER THE INPUT: true; the input reads as it did. -/
def graphLegalSpec : ChangeSpec := { name := "graphLegal", fn := fun _ => fun
  | [d] => { results := [.lit (.bool true)], args := [d] }
  | _ => none }
def graphLegalRow : OpenClaim := { program := "ytildflamnehilaa", sum := "ef9526ff4af083dcf403294fea988f56f07e8cc21cd43a27a4ebf82062bea6ea", func := "wapentake/wapentakelaw5.GraphLegal", spec := "graphLegal", inPlace := ["internal/bytealg.IndexByteString", "internal/bytealg.IndexString", "internal/abi.NoEscape", "internal/bytealg.MakeNoZero"], unfollowed := true, recurses := true, named := ["internal/bytealg.MaxLen"], apart := false }
def GraphLegalSaid : Prop := graphLegalRow.holds Try.pinned (OpenSpec.ofChange graphLegalSpec)

/-- ITS FALSE NEIGHBOUR: 'it returns false'. Refute it at one input. -/
def graphLegalWrong : ChangeSpec := { name := "graphLegal", fn := fun _ => fun
  | [d] => { results := [.lit (.bool false)], args := [d] }
  | _ => none }
def GraphLegalWrongFalsely : Prop := graphLegalRow.holds Try.pinned (OpenSpec.ofChange graphLegalWrong)

/-- 'wapentakelaw5.GraphPrefix': WHATEVER THE INPUT: true; the input reads as it did. -/
def graphPrefixSpec : ChangeSpec := { name := "graphPrefix", fn := fun _ => fun
  | [d1, d2] => { results := [.lit (.bool true)], args := [d1, d2] }
  | _ => none }
def graphPrefixRow : OpenClaim := { program := "ytildflamnehilaa", sum := "ef9526ff4af083dcf403294fea988f56f07e8cc21cd43a27a4ebf82062bea6ea", func := "wapentake/wapentakelaw5.GraphPrefix", spec := "graphPrefix", inPlace := ["internal/bytealg.IndexByteString", "internal/bytealg.IndexString", "internal/abi.NoEscape", "internal/bytealg.MakeNoZero"], unfollowed := true, recurses := true, named := ["internal/bytealg.MaxLen"], apart := false }
def GraphPrefixSaid : Prop := graphPrefixRow.holds Try.pinned (OpenSpec.ofChange graphPrefixSpec)

/-- ITS FALSE NEIGHBOUR: 'it returns false'. Refute it at one input. -/
def graphPrefixWrong : ChangeSpec := { name := "graphPrefix", fn := fun _ => fun
  | [d1, d2] => { results := [.lit (.bool false)], args := [d1, d2] }
  | _ => none }
def GraphPrefixWrongFalsely : Prop := graphPrefixRow.holds Try.pinned (OpenSpec.ofChange graphPrefixWrong)

/-- 'wapentakelaw5.GraphKnown': WHATEVER THE INPUT: true; the input reads as it did. -/
def graphKnownSpec : ChangeSpec := { name := "graphKnown", fn := fun _ => fun
  | [] => { results := [.lit (.bool true)], args := [] }
  | _ => none }
def graphKnownRow : OpenClaim := { program := "ytildflamnehilaa", sum := "ef9526ff4af083dcf403294fea988f56f07e8cc21cd43a27a4ebf82062bea6ea", func := "wapentake/wapentakelaw5.GraphKnown", spec := "graphKnown", inPlace := ["internal/bytealg.IndexByteString", "internal/bytealg.IndexString", "internal/abi.NoEscape", "internal/bytealg.MakeNoZero"], unfollowed := true, recurses := true, named := ["internal/bytealg.MaxLen"], apart := false }
def GraphKnownSaid : Prop := graphKnownRow.holds Try.pinned (OpenSpec.ofChange graphKnownSpec)

/-- ITS FALSE NEIGHBOUR: 'it returns false'. Refute it at one input. -/
def graphKnownWrong : ChangeSpec := { name := "graphKnown", fn := fun _ => fun
  | [] => { results := [.lit (.bool false)], args := [] }
  | _ => none }
def GraphKnownWrongFalsely : Prop := graphKnownRow.holds Try.pinned (OpenSpec.ofChange graphKnownWrong)

/-- 'wapentakelaw5.GraphReads': WHATEVER THE INPUT: true; the input reads as it did. -/
def graphReadsSpec : ChangeSpec := { name := "graphReads", fn := fun _ => fun
  | [d1, d2, d3] => { results := [.lit (.bool true)], args := [d1, d2, d3] }
  | _ => none }
def graphReadsRow : OpenClaim := { program := "ytildflamnehilaa", sum := "ef9526ff4af083dcf403294fea988f56f07e8cc21cd43a27a4ebf82062bea6ea", func := "wapentake/wapentakelaw5.GraphReads", spec := "graphReads", inPlace := ["internal/bytealg.IndexByteString", "internal/bytealg.IndexString", "internal/abi.NoEscape", "internal/bytealg.MakeNoZero"], unfollowed := true, recurses := true, named := ["internal/bytealg.MaxLen"], apart := false }
def GraphReadsSaid : Prop := graphReadsRow.holds Try.pinned (OpenSpec.ofChange graphReadsSpec)

/-- ITS FALSE NEIGHBOUR: 'it returns false'. Refute it at one input. -/
def graphReadsWrong : ChangeSpec := { name := "graphReads", fn := fun _ => fun
  | [d1, d2, d3] => { results := [.lit (.bool false)], args := [d1, d2, d3] }
  | _ => none }
def GraphReadsWrongFalsely : Prop := graphReadsRow.holds Try.pinned (OpenSpec.ofChange graphReadsWrong)

/- THE SECOND FORM. 'bulk': how many values and letters a reading holds, each counted each time it is reached (what is shared counts as often as it is met; a slice's spare places count too). A statement '..UptoSaid' is the law's where the arguments, and the package variables that the reading takes, are together of bulk at most 1048576: NARROWER than '..Said'. Prove '..Said' where nothing that the law and all that it calls make is longer than what came in: it says more and counts as full. Else prove '..UptoSaid'. A law counts once. -/
mutual
def uptoBulk {H : Type} : DataW H → Nat
  | .lit (.string bytes) => bytes.length + 1
  | .lit _ => 1
  | .nil => 1
  | .ptr d => uptoBulk d + 1
  | .slice elems spare => uptoBulkAll elems + uptoBulkAll spare + 1
  | .agg parts => uptoBulkAll parts + 1
  | .iface _ d => uptoBulk d + 1
  | .map entries => uptoBulkEntries entries + 1
  | .held _ => 1
def uptoBulkAll {H : Type} : List (DataW H) → Nat
  | [] => 0
  | d :: r => uptoBulk d + uptoBulkAll r
def uptoBulkEntries {H : Type} : List (Lit × DataW H) → Nat
  | [] => 0
  | x :: r => uptoBulkEntry x + uptoBulkEntries r
def uptoBulkEntry {H : Type} : Lit × DataW H → Nat
  | (.string bytes, d) => bytes.length + uptoBulk d + 1
  | (_, d) => uptoBulk d + 1
 end
def uptoSmall : (H : Type) → List (DataW H) → Bool := fun _ ds => decide (uptoBulkAll ds ≤ 1048576)
def OpenSpec.upto (s : _root_.Go.ChangeSpec) : _root_.Go.OpenSpec := { _root_.Go.OpenSpec.ofChange s with cond := some uptoSmall }

/-- 'wapentakelaw5.GraphConflicts', WHERE WHAT IT READS IS OF BULK AT MOST 1048576: true; the input reads as it did. -/
def graphConflictsUptoRow : OpenClaim := { program := "ytildflamnehilaa", sum := "ef9526ff4af083dcf403294fea988f56f07e8cc21cd43a27a4ebf82062bea6ea", func := "wapentake/wapentakelaw5.GraphConflicts", spec := "graphConflicts", inPlace := ["internal/bytealg.IndexByteString", "internal/bytealg.IndexString", "internal/abi.NoEscape", "internal/bytealg.MakeNoZero"], unfollowed := true, recurses := true, named := ["internal/bytealg.MaxLen"], apart := false, narrowed := true }
def GraphConflictsUptoSaid : Prop := graphConflictsUptoRow.holds Try.pinned (OpenSpec.upto graphConflictsSpec)

/-- 'wapentakelaw5.GraphLegal', WHERE WHAT IT READS IS OF BULK AT MOST 1048576: true; the input reads as it did. -/
def graphLegalUptoRow : OpenClaim := { program := "ytildflamnehilaa", sum := "ef9526ff4af083dcf403294fea988f56f07e8cc21cd43a27a4ebf82062bea6ea", func := "wapentake/wapentakelaw5.GraphLegal", spec := "graphLegal", inPlace := ["internal/bytealg.IndexByteString", "internal/bytealg.IndexString", "internal/abi.NoEscape", "internal/bytealg.MakeNoZero"], unfollowed := true, recurses := true, named := ["internal/bytealg.MaxLen"], apart := false, narrowed := true }
def GraphLegalUptoSaid : Prop := graphLegalUptoRow.holds Try.pinned (OpenSpec.upto graphLegalSpec)

/-- 'wapentakelaw5.GraphPrefix', WHERE WHAT IT READS IS OF BULK AT MOST 1048576: true; the input reads as it did. -/
def graphPrefixUptoRow : OpenClaim := { program := "ytildflamnehilaa", sum := "ef9526ff4af083dcf403294fea988f56f07e8cc21cd43a27a4ebf82062bea6ea", func := "wapentake/wapentakelaw5.GraphPrefix", spec := "graphPrefix", inPlace := ["internal/bytealg.IndexByteString", "internal/bytealg.IndexString", "internal/abi.NoEscape", "internal/bytealg.MakeNoZero"], unfollowed := true, recurses := true, named := ["internal/bytealg.MaxLen"], apart := false, narrowed := true }
def GraphPrefixUptoSaid : Prop := graphPrefixUptoRow.holds Try.pinned (OpenSpec.upto graphPrefixSpec)

/-- 'wapentakelaw5.GraphKnown', WHERE WHAT IT READS IS OF BULK AT MOST 1048576: true; the input reads as it did. -/
def graphKnownUptoRow : OpenClaim := { program := "ytildflamnehilaa", sum := "ef9526ff4af083dcf403294fea988f56f07e8cc21cd43a27a4ebf82062bea6ea", func := "wapentake/wapentakelaw5.GraphKnown", spec := "graphKnown", inPlace := ["internal/bytealg.IndexByteString", "internal/bytealg.IndexString", "internal/abi.NoEscape", "internal/bytealg.MakeNoZero"], unfollowed := true, recurses := true, named := ["internal/bytealg.MaxLen"], apart := false, narrowed := true }
def GraphKnownUptoSaid : Prop := graphKnownUptoRow.holds Try.pinned (OpenSpec.upto graphKnownSpec)

/-- 'wapentakelaw5.GraphReads', WHERE WHAT IT READS IS OF BULK AT MOST 1048576: true; the input reads as it did. -/
def graphReadsUptoRow : OpenClaim := { program := "ytildflamnehilaa", sum := "ef9526ff4af083dcf403294fea988f56f07e8cc21cd43a27a4ebf82062bea6ea", func := "wapentake/wapentakelaw5.GraphReads", spec := "graphReads", inPlace := ["internal/bytealg.IndexByteString", "internal/bytealg.IndexString", "internal/abi.NoEscape", "internal/bytealg.MakeNoZero"], unfollowed := true, recurses := true, named := ["internal/bytealg.MaxLen"], apart := false, narrowed := true }
def GraphReadsUptoSaid : Prop := graphReadsUptoRow.holds Try.pinned (OpenSpec.upto graphReadsSpec)

end Rows
end Go.Proofs.Ytildflamnehilaa
