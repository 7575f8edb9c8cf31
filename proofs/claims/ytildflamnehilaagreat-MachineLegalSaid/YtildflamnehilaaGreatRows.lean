/-
  No cell of these rows narrows 'for every input' (looked for: loops, veiled, ifaces, maps, wideKeys, modest, calm, conditions, laid).
  DERIVED. THE GIVEN ROWS OF THIS SEAT. 12 by the template 'for every input the law returns true; each argument reads behind the call as it read before'; 0 by the template 'total and deterministic' (their statements: YtildflamnehilaaGreatTotals.lean).
  GIVEN WITH THE SEED: the statements are not yours to turn. If you find one false, say at which input.
  Laid BY PROGRAM, IN A SANDBOX (cutbox-rows.mjs): the forced cells as the released guide's own fill.sh prints them over the translation 98c1bac4208edf8b… (all of the seat's roots in one cut). By AI agents, Wed Nov 11 2026. No macro, syntax, notation, axiom, sorry.
-/
import Derived.Test.YtildflamnehilaaGreatChecked
import GoSem.Claim
import GoSem.ClaimJoined
import GoSem.ClaimMapViews
import Derived.JoinedTies
import Derived.KernelRfl
namespace Go.Proofs.YtildflamnehilaaGreat
/- THE CELL 'sum', in the pinned program and in every row, IS THE sha256 OF THE DUMP (.gsa) THAT YtildflamnehilaaGreatProg.lean LOADS. Nothing in Lean hashes anything: it is a label: what it is worth is what the hold of that sum in a sandbox is worth. -/
noncomputable def Tryz.pinned : Pinned := { name := "ytildflamnehilaagreat", sum := "98c1bac4208edf8b767ae1e38121048e90e4f4f6bbe1448cd4a9a9145cd4339a", checked := Tryz.checked }
namespace Rows
def none {H : Type} : Left H := { results := [], args := [] }

/-- 'wapentakelaw5.GraphClones': WHATEVER THE INPUT: true; the input reads as it did. -/
def graphClonesSpec : ChangeSpec := { name := "graphClones", fn := fun _ => fun
  | [d1, d2] => { results := [.lit (.bool true)], args := [d1, d2] }
  | _ => none }
def graphClonesRow : OpenClaim := { program := "ytildflamnehilaagreat", sum := "98c1bac4208edf8b767ae1e38121048e90e4f4f6bbe1448cd4a9a9145cd4339a", func := "wapentake/wapentakelaw5.GraphClones", spec := "graphClones", inPlace := ["internal/bytealg.IndexByteString", "internal/bytealg.IndexString", "internal/abi.NoEscape", "internal/bytealg.MakeNoZero", "maps.clone"], unfollowed := true, recurses := true, named := ["internal/bytealg.MaxLen"], apart := false }
def GraphClonesSaid : Prop := graphClonesRow.holds Tryz.pinned (OpenSpec.ofChange graphClonesSpec)

/-- ITS FALSE NEIGHBOUR: 'it returns false'. Refute it at one input. -/
def graphClonesWrong : ChangeSpec := { name := "graphClones", fn := fun _ => fun
  | [d1, d2] => { results := [.lit (.bool false)], args := [d1, d2] }
  | _ => none }
def GraphClonesWrongFalsely : Prop := graphClonesRow.holds Tryz.pinned (OpenSpec.ofChange graphClonesWrong)

/-- 'wapentakelaw8.MachineKnown': WHATEVER THE INPUT: true; the input reads as it did. -/
def machineKnownSpec : ChangeSpec := { name := "machineKnown", fn := fun _ => fun
  | [] => { results := [.lit (.bool true)], args := [] }
  | _ => none }
def machineKnownRow : OpenClaim := { program := "ytildflamnehilaagreat", sum := "98c1bac4208edf8b767ae1e38121048e90e4f4f6bbe1448cd4a9a9145cd4339a", func := "wapentake/wapentakelaw8.MachineKnown", spec := "machineKnown", inPlace := ["internal/bytealg.IndexByteString", "internal/bytealg.IndexString", "internal/abi.NoEscape", "internal/bytealg.MakeNoZero", "slices.overlaps[int]"], unfollowed := true, recurses := true, named := ["internal/bytealg.MaxLen"], apart := false }
def MachineKnownSaid : Prop := machineKnownRow.holds Tryz.pinned (OpenSpec.ofChange machineKnownSpec)

/-- ITS FALSE NEIGHBOUR: 'it returns false'. Refute it at one input. -/
def machineKnownWrong : ChangeSpec := { name := "machineKnown", fn := fun _ => fun
  | [] => { results := [.lit (.bool false)], args := [] }
  | _ => none }
def MachineKnownWrongFalsely : Prop := machineKnownRow.holds Tryz.pinned (OpenSpec.ofChange machineKnownWrong)

/-- 'wapentakelaw8.MachineLegal': WHATEVER THE INPUT: true; the input reads as it did. -/
def machineLegalSpec : ChangeSpec := { name := "machineLegal", fn := fun _ => fun
  | [d] => { results := [.lit (.bool true)], args := [d] }
  | _ => none }
def machineLegalRow : OpenClaim := { program := "ytildflamnehilaagreat", sum := "98c1bac4208edf8b767ae1e38121048e90e4f4f6bbe1448cd4a9a9145cd4339a", func := "wapentake/wapentakelaw8.MachineLegal", spec := "machineLegal", inPlace := ["internal/bytealg.IndexByteString", "internal/bytealg.IndexString", "internal/abi.NoEscape", "internal/bytealg.MakeNoZero", "slices.overlaps[int]"], unfollowed := true, recurses := true, named := ["internal/bytealg.MaxLen"], apart := false }
def MachineLegalSaid : Prop := machineLegalRow.holds Tryz.pinned (OpenSpec.ofChange machineLegalSpec)

/-- ITS FALSE NEIGHBOUR: 'it returns false'. Refute it at one input. -/
def machineLegalWrong : ChangeSpec := { name := "machineLegal", fn := fun _ => fun
  | [d] => { results := [.lit (.bool false)], args := [d] }
  | _ => none }
def MachineLegalWrongFalsely : Prop := machineLegalRow.holds Tryz.pinned (OpenSpec.ofChange machineLegalWrong)

/-- 'wapentakelaw5.GraphLoads': WHATEVER THE INPUT: true; the input reads as it did. -/
def graphLoadsSpec : ChangeSpec := { name := "graphLoads", fn := fun _ => fun
  | [d1, d2] => { results := [.lit (.bool true)], args := [d1, d2] }
  | _ => none }
def graphLoadsRow : OpenClaim := { program := "ytildflamnehilaagreat", sum := "98c1bac4208edf8b767ae1e38121048e90e4f4f6bbe1448cd4a9a9145cd4339a", func := "wapentake/wapentakelaw5.GraphLoads", spec := "graphLoads", inPlace := ["internal/bytealg.IndexByteString", "internal/bytealg.IndexString", "internal/abi.NoEscape", "internal/bytealg.MakeNoZero"], unfollowed := true, recurses := true, named := ["internal/bytealg.MaxLen"], apart := false }
def GraphLoadsSaid : Prop := graphLoadsRow.holds Tryz.pinned (OpenSpec.ofChange graphLoadsSpec)

/-- ITS FALSE NEIGHBOUR: 'it returns false'. Refute it at one input. -/
def graphLoadsWrong : ChangeSpec := { name := "graphLoads", fn := fun _ => fun
  | [d1, d2] => { results := [.lit (.bool false)], args := [d1, d2] }
  | _ => none }
def GraphLoadsWrongFalsely : Prop := graphLoadsRow.holds Tryz.pinned (OpenSpec.ofChange graphLoadsWrong)

/-- 'wapentakelaw5.GraphLands': WHATEVER THE INPUT: true; the input reads as it did. -/
def graphLandsSpec : ChangeSpec := { name := "graphLands", fn := fun _ => fun
  | [d1, d2, d3] => { results := [.lit (.bool true)], args := [d1, d2, d3] }
  | _ => none }
def graphLandsRow : OpenClaim := { program := "ytildflamnehilaagreat", sum := "98c1bac4208edf8b767ae1e38121048e90e4f4f6bbe1448cd4a9a9145cd4339a", func := "wapentake/wapentakelaw5.GraphLands", spec := "graphLands", inPlace := ["internal/bytealg.IndexByteString", "internal/bytealg.IndexString", "internal/abi.NoEscape", "internal/bytealg.MakeNoZero"], unfollowed := true, recurses := true, named := ["internal/bytealg.MaxLen"], apart := false }
def GraphLandsSaid : Prop := graphLandsRow.holds Tryz.pinned (OpenSpec.ofChange graphLandsSpec)

/-- ITS FALSE NEIGHBOUR: 'it returns false'. Refute it at one input. -/
def graphLandsWrong : ChangeSpec := { name := "graphLands", fn := fun _ => fun
  | [d1, d2, d3] => { results := [.lit (.bool false)], args := [d1, d2, d3] }
  | _ => none }
def GraphLandsWrongFalsely : Prop := graphLandsRow.holds Tryz.pinned (OpenSpec.ofChange graphLandsWrong)

/-- 'wapentakelaw8.MachineReads': WHATEVER THE INPUT: true; the input reads as it did. -/
def machineReadsSpec : ChangeSpec := { name := "machineReads", fn := fun _ => fun
  | [d1, d2] => { results := [.lit (.bool true)], args := [d1, d2] }
  | _ => none }
def machineReadsRow : OpenClaim := { program := "ytildflamnehilaagreat", sum := "98c1bac4208edf8b767ae1e38121048e90e4f4f6bbe1448cd4a9a9145cd4339a", func := "wapentake/wapentakelaw8.MachineReads", spec := "machineReads", inPlace := ["internal/bytealg.IndexByteString", "internal/bytealg.IndexString", "internal/abi.NoEscape", "internal/bytealg.MakeNoZero", "slices.overlaps[int]"], unfollowed := true, recurses := true, named := ["internal/bytealg.MaxLen"], apart := false }
def MachineReadsSaid : Prop := machineReadsRow.holds Tryz.pinned (OpenSpec.ofChange machineReadsSpec)

/-- ITS FALSE NEIGHBOUR: 'it returns false'. Refute it at one input. -/
def machineReadsWrong : ChangeSpec := { name := "machineReads", fn := fun _ => fun
  | [d1, d2] => { results := [.lit (.bool false)], args := [d1, d2] }
  | _ => none }
def MachineReadsWrongFalsely : Prop := machineReadsRow.holds Tryz.pinned (OpenSpec.ofChange machineReadsWrong)

/-- 'wapentakelaw8.MachineExpired': WHATEVER THE INPUT: true; the input reads as it did. -/
def machineExpiredSpec : ChangeSpec := { name := "machineExpired", fn := fun _ => fun
  | [d1, d2, d3] => { results := [.lit (.bool true)], args := [d1, d2, d3] }
  | _ => none }
def machineExpiredRow : OpenClaim := { program := "ytildflamnehilaagreat", sum := "98c1bac4208edf8b767ae1e38121048e90e4f4f6bbe1448cd4a9a9145cd4339a", func := "wapentake/wapentakelaw8.MachineExpired", spec := "machineExpired", inPlace := ["internal/bytealg.IndexByteString", "internal/bytealg.IndexString", "internal/abi.NoEscape", "internal/bytealg.MakeNoZero", "slices.overlaps[int]"], unfollowed := true, recurses := true, named := ["internal/bytealg.MaxLen"], apart := false }
def MachineExpiredSaid : Prop := machineExpiredRow.holds Tryz.pinned (OpenSpec.ofChange machineExpiredSpec)

/-- ITS FALSE NEIGHBOUR: 'it returns false'. Refute it at one input. -/
def machineExpiredWrong : ChangeSpec := { name := "machineExpired", fn := fun _ => fun
  | [d1, d2, d3] => { results := [.lit (.bool false)], args := [d1, d2, d3] }
  | _ => none }
def MachineExpiredWrongFalsely : Prop := machineExpiredRow.holds Tryz.pinned (OpenSpec.ofChange machineExpiredWrong)

/-- 'wapentakelaw8.MachineOnce': WHATEVER THE INPUT: true; the input reads as it did. -/
def machineOnceSpec : ChangeSpec := { name := "machineOnce", fn := fun _ => fun
  | [d1, d2] => { results := [.lit (.bool true)], args := [d1, d2] }
  | _ => none }
def machineOnceRow : OpenClaim := { program := "ytildflamnehilaagreat", sum := "98c1bac4208edf8b767ae1e38121048e90e4f4f6bbe1448cd4a9a9145cd4339a", func := "wapentake/wapentakelaw8.MachineOnce", spec := "machineOnce", inPlace := ["internal/bytealg.IndexByteString", "internal/bytealg.IndexString", "internal/abi.NoEscape", "internal/bytealg.MakeNoZero", "slices.overlaps[int]"], unfollowed := true, recurses := true, named := ["internal/bytealg.MaxLen"], apart := false }
def MachineOnceSaid : Prop := machineOnceRow.holds Tryz.pinned (OpenSpec.ofChange machineOnceSpec)

/-- ITS FALSE NEIGHBOUR: 'it returns false'. Refute it at one input. -/
def machineOnceWrong : ChangeSpec := { name := "machineOnce", fn := fun _ => fun
  | [d1, d2] => { results := [.lit (.bool false)], args := [d1, d2] }
  | _ => none }
def MachineOnceWrongFalsely : Prop := machineOnceRow.holds Tryz.pinned (OpenSpec.ofChange machineOnceWrong)

/-- 'wapentakelaw8.MachineMembers': WHATEVER THE INPUT: true; the input reads as it did. -/
def machineMembersSpec : ChangeSpec := { name := "machineMembers", fn := fun _ => fun
  | [d1, d2] => { results := [.lit (.bool true)], args := [d1, d2] }
  | _ => none }
def machineMembersRow : OpenClaim := { program := "ytildflamnehilaagreat", sum := "98c1bac4208edf8b767ae1e38121048e90e4f4f6bbe1448cd4a9a9145cd4339a", func := "wapentake/wapentakelaw8.MachineMembers", spec := "machineMembers", inPlace := ["internal/bytealg.IndexByteString", "internal/bytealg.IndexString", "internal/abi.NoEscape", "internal/bytealg.MakeNoZero", "slices.overlaps[int]", "maps.clone"], unfollowed := true, recurses := true, named := ["internal/bytealg.MaxLen"], apart := false }
def MachineMembersSaid : Prop := machineMembersRow.holds Tryz.pinned (OpenSpec.ofChange machineMembersSpec)

/-- ITS FALSE NEIGHBOUR: 'it returns false'. Refute it at one input. -/
def machineMembersWrong : ChangeSpec := { name := "machineMembers", fn := fun _ => fun
  | [d1, d2] => { results := [.lit (.bool false)], args := [d1, d2] }
  | _ => none }
def MachineMembersWrongFalsely : Prop := machineMembersRow.holds Tryz.pinned (OpenSpec.ofChange machineMembersWrong)

/-- 'wapentakelaw8.MachineApplies': WHATEVER THE INPUT: true; the input reads as it did. -/
def machineAppliesSpec : ChangeSpec := { name := "machineApplies", fn := fun _ => fun
  | [d1, d2] => { results := [.lit (.bool true)], args := [d1, d2] }
  | _ => none }
def machineAppliesRow : OpenClaim := { program := "ytildflamnehilaagreat", sum := "98c1bac4208edf8b767ae1e38121048e90e4f4f6bbe1448cd4a9a9145cd4339a", func := "wapentake/wapentakelaw8.MachineApplies", spec := "machineApplies", inPlace := ["internal/bytealg.IndexByteString", "internal/bytealg.IndexString", "internal/abi.NoEscape", "internal/bytealg.MakeNoZero", "slices.overlaps[int]"], unfollowed := true, recurses := true, named := ["internal/bytealg.MaxLen"], apart := false }
def MachineAppliesSaid : Prop := machineAppliesRow.holds Tryz.pinned (OpenSpec.ofChange machineAppliesSpec)

/-- ITS FALSE NEIGHBOUR: 'it returns false'. Refute it at one input. -/
def machineAppliesWrong : ChangeSpec := { name := "machineApplies", fn := fun _ => fun
  | [d1, d2] => { results := [.lit (.bool false)], args := [d1, d2] }
  | _ => none }
def MachineAppliesWrongFalsely : Prop := machineAppliesRow.holds Tryz.pinned (OpenSpec.ofChange machineAppliesWrong)

/-- 'wapentakelaw8.MachineClones': WHATEVER THE INPUT: true; the input reads as it did. -/
def machineClonesSpec : ChangeSpec := { name := "machineClones", fn := fun _ => fun
  | [d1, d2] => { results := [.lit (.bool true)], args := [d1, d2] }
  | _ => none }
def machineClonesRow : OpenClaim := { program := "ytildflamnehilaagreat", sum := "98c1bac4208edf8b767ae1e38121048e90e4f4f6bbe1448cd4a9a9145cd4339a", func := "wapentake/wapentakelaw8.MachineClones", spec := "machineClones", inPlace := ["internal/bytealg.IndexByteString", "internal/bytealg.IndexString", "internal/abi.NoEscape", "internal/bytealg.MakeNoZero", "slices.overlaps[int]", "maps.clone"], unfollowed := true, recurses := true, named := ["internal/bytealg.MaxLen"], apart := false }
def MachineClonesSaid : Prop := machineClonesRow.holds Tryz.pinned (OpenSpec.ofChange machineClonesSpec)

/-- ITS FALSE NEIGHBOUR: 'it returns false'. Refute it at one input. -/
def machineClonesWrong : ChangeSpec := { name := "machineClones", fn := fun _ => fun
  | [d1, d2] => { results := [.lit (.bool false)], args := [d1, d2] }
  | _ => none }
def MachineClonesWrongFalsely : Prop := machineClonesRow.holds Tryz.pinned (OpenSpec.ofChange machineClonesWrong)

/-- 'wapentakelaw8.MachineMakes': WHATEVER THE INPUT: true; the input reads as it did. -/
def machineMakesSpec : ChangeSpec := { name := "machineMakes", fn := fun _ => fun
  | [d1, d2, d3] => { results := [.lit (.bool true)], args := [d1, d2, d3] }
  | _ => none }
def machineMakesRow : OpenClaim := { program := "ytildflamnehilaagreat", sum := "98c1bac4208edf8b767ae1e38121048e90e4f4f6bbe1448cd4a9a9145cd4339a", func := "wapentake/wapentakelaw8.MachineMakes", spec := "machineMakes", inPlace := ["internal/bytealg.IndexByteString", "internal/bytealg.IndexString", "internal/abi.NoEscape", "internal/bytealg.MakeNoZero", "slices.overlaps[int]"], unfollowed := true, recurses := true, named := ["internal/bytealg.MaxLen"], apart := false }
def MachineMakesSaid : Prop := machineMakesRow.holds Tryz.pinned (OpenSpec.ofChange machineMakesSpec)

/-- ITS FALSE NEIGHBOUR: 'it returns false'. Refute it at one input. -/
def machineMakesWrong : ChangeSpec := { name := "machineMakes", fn := fun _ => fun
  | [d1, d2, d3] => { results := [.lit (.bool false)], args := [d1, d2, d3] }
  | _ => none }
def MachineMakesWrongFalsely : Prop := machineMakesRow.holds Tryz.pinned (OpenSpec.ofChange machineMakesWrong)

/- THE SECOND FORM. 'bulk': how many values and letters a reading holds, each counted each time it is reached (what is shared counts as often as it is met; a slice's spare places count too). A statement '..UptoSaid' is the law's where the arguments, and the package variables that the reading takes, are together of bulk at most 1048576: NARROWER than '..Said'. Prove '..Said' where nothing that the law and all that it calls make is longer than what came in: it says more and counts as full. Else prove '..UptoSaid'. A law counts once. -/
mutual
def uptoBulk {H : Type} : DataW H → Nat
  | .lit (.string bytes) => bytes.length + 1
  | .lit _ => 1
  | .nil => 1
  | .ptr d => uptoBulk d + 1
  | .slice elems spare => uptoBulkAll elems + uptoBulkAll spare + 1
  | .agg parts => uptoBulkAll parts + 1
  | .iface _ d => uptoBulk d + 1
  | .map entries => uptoBulkEntries entries + 1
  | .held _ => 1
def uptoBulkAll {H : Type} : List (DataW H) → Nat
  | [] => 0
  | d :: r => uptoBulk d + uptoBulkAll r
def uptoBulkEntries {H : Type} : List (Lit × DataW H) → Nat
  | [] => 0
  | x :: r => uptoBulkEntry x + uptoBulkEntries r
def uptoBulkEntry {H : Type} : Lit × DataW H → Nat
  | (.string bytes, d) => bytes.length + uptoBulk d + 1
  | (_, d) => uptoBulk d + 1
 end
def uptoSmall : (H : Type) → List (DataW H) → Bool := fun _ ds => decide (uptoBulkAll ds ≤ 1048576)
def OpenSpec.upto (s : _root_.Go.ChangeSpec) : _root_.Go.OpenSpec := { _root_.Go.OpenSpec.ofChange s with cond := some uptoSmall }

/-- 'wapentakelaw5.GraphClones', WHERE WHAT IT READS IS OF BULK AT MOST 1048576: true; the input reads as it did. -/
def graphClonesUptoRow : OpenClaim := { program := "ytildflamnehilaagreat", sum := "98c1bac4208edf8b767ae1e38121048e90e4f4f6bbe1448cd4a9a9145cd4339a", func := "wapentake/wapentakelaw5.GraphClones", spec := "graphClones", inPlace := ["internal/bytealg.IndexByteString", "internal/bytealg.IndexString", "internal/abi.NoEscape", "internal/bytealg.MakeNoZero", "maps.clone"], unfollowed := true, recurses := true, named := ["internal/bytealg.MaxLen"], apart := false, narrowed := true }
def GraphClonesUptoSaid : Prop := graphClonesUptoRow.holds Tryz.pinned (OpenSpec.upto graphClonesSpec)

/-- 'wapentakelaw8.MachineKnown', WHERE WHAT IT READS IS OF BULK AT MOST 1048576: true; the input reads as it did. -/
def machineKnownUptoRow : OpenClaim := { program := "ytildflamnehilaagreat", sum := "98c1bac4208edf8b767ae1e38121048e90e4f4f6bbe1448cd4a9a9145cd4339a", func := "wapentake/wapentakelaw8.MachineKnown", spec := "machineKnown", inPlace := ["internal/bytealg.IndexByteString", "internal/bytealg.IndexString", "internal/abi.NoEscape", "internal/bytealg.MakeNoZero", "slices.overlaps[int]"], unfollowed := true, recurses := true, named := ["internal/bytealg.MaxLen"], apart := false, narrowed := true }
def MachineKnownUptoSaid : Prop := machineKnownUptoRow.holds Tryz.pinned (OpenSpec.upto machineKnownSpec)

/-- 'wapentakelaw8.MachineLegal', WHERE WHAT IT READS IS OF BULK AT MOST 1048576: true; the input reads as it did. -/
def machineLegalUptoRow : OpenClaim := { program := "ytildflamnehilaagreat", sum := "98c1bac4208edf8b767ae1e38121048e90e4f4f6bbe1448cd4a9a9145cd4339a", func := "wapentake/wapentakelaw8.MachineLegal", spec := "machineLegal", inPlace := ["internal/bytealg.IndexByteString", "internal/bytealg.IndexString", "internal/abi.NoEscape", "internal/bytealg.MakeNoZero", "slices.overlaps[int]"], unfollowed := true, recurses := true, named := ["internal/bytealg.MaxLen"], apart := false, narrowed := true }
def MachineLegalUptoSaid : Prop := machineLegalUptoRow.holds Tryz.pinned (OpenSpec.upto machineLegalSpec)

/-- 'wapentakelaw5.GraphLoads', WHERE WHAT IT READS IS OF BULK AT MOST 1048576: true; the input reads as it did. -/
def graphLoadsUptoRow : OpenClaim := { program := "ytildflamnehilaagreat", sum := "98c1bac4208edf8b767ae1e38121048e90e4f4f6bbe1448cd4a9a9145cd4339a", func := "wapentake/wapentakelaw5.GraphLoads", spec := "graphLoads", inPlace := ["internal/bytealg.IndexByteString", "internal/bytealg.IndexString", "internal/abi.NoEscape", "internal/bytealg.MakeNoZero"], unfollowed := true, recurses := true, named := ["internal/bytealg.MaxLen"], apart := false, narrowed := true }
def GraphLoadsUptoSaid : Prop := graphLoadsUptoRow.holds Tryz.pinned (OpenSpec.upto graphLoadsSpec)

/-- 'wapentakelaw5.GraphLands', WHERE WHAT IT READS IS OF BULK AT MOST 1048576: true; the input reads as it did. -/
def graphLandsUptoRow : OpenClaim := { program := "ytildflamnehilaagreat", sum := "98c1bac4208edf8b767ae1e38121048e90e4f4f6bbe1448cd4a9a9145cd4339a", func := "wapentake/wapentakelaw5.GraphLands", spec := "graphLands", inPlace := ["internal/bytealg.IndexByteString", "internal/bytealg.IndexString", "internal/abi.NoEscape", "internal/bytealg.MakeNoZero"], unfollowed := true, recurses := true, named := ["internal/bytealg.MaxLen"], apart := false, narrowed := true }
def GraphLandsUptoSaid : Prop := graphLandsUptoRow.holds Tryz.pinned (OpenSpec.upto graphLandsSpec)

/-- 'wapentakelaw8.MachineReads', WHERE WHAT IT READS IS OF BULK AT MOST 1048576: true; the input reads as it did. -/
def machineReadsUptoRow : OpenClaim := { program := "ytildflamnehilaagreat", sum := "98c1bac4208edf8b767ae1e38121048e90e4f4f6bbe1448cd4a9a9145cd4339a", func := "wapentake/wapentakelaw8.MachineReads", spec := "machineReads", inPlace := ["internal/bytealg.IndexByteString", "internal/bytealg.IndexString", "internal/abi.NoEscape", "internal/bytealg.MakeNoZero", "slices.overlaps[int]"], unfollowed := true, recurses := true, named := ["internal/bytealg.MaxLen"], apart := false, narrowed := true }
def MachineReadsUptoSaid : Prop := machineReadsUptoRow.holds Tryz.pinned (OpenSpec.upto machineReadsSpec)

/-- 'wapentakelaw8.MachineExpired', WHERE WHAT IT READS IS OF BULK AT MOST 1048576: true; the input reads as it did. -/
def machineExpiredUptoRow : OpenClaim := { program := "ytildflamnehilaagreat", sum := "98c1bac4208edf8b767ae1e38121048e90e4f4f6bbe1448cd4a9a9145cd4339a", func := "wapentake/wapentakelaw8.MachineExpired", spec := "machineExpired", inPlace := ["internal/bytealg.IndexByteString", "internal/bytealg.IndexString", "internal/abi.NoEscape", "internal/bytealg.MakeNoZero", "slices.overlaps[int]"], unfollowed := true, recurses := true, named := ["internal/bytealg.MaxLen"], apart := false, narrowed := true }
def MachineExpiredUptoSaid : Prop := machineExpiredUptoRow.holds Tryz.pinned (OpenSpec.upto machineExpiredSpec)

/-- 'wapentakelaw8.MachineOnce', WHERE WHAT IT READS IS OF BULK AT MOST 1048576: true; the input reads as it did. -/
def machineOnceUptoRow : OpenClaim := { program := "ytildflamnehilaagreat", sum := "98c1bac4208edf8b767ae1e38121048e90e4f4f6bbe1448cd4a9a9145cd4339a", func := "wapentake/wapentakelaw8.MachineOnce", spec := "machineOnce", inPlace := ["internal/bytealg.IndexByteString", "internal/bytealg.IndexString", "internal/abi.NoEscape", "internal/bytealg.MakeNoZero", "slices.overlaps[int]"], unfollowed := true, recurses := true, named := ["internal/bytealg.MaxLen"], apart := false, narrowed := true }
def MachineOnceUptoSaid : Prop := machineOnceUptoRow.holds Tryz.pinned (OpenSpec.upto machineOnceSpec)

/-- 'wapentakelaw8.MachineMembers', WHERE WHAT IT READS IS OF BULK AT MOST 1048576: true; the input reads as it did. -/
def machineMembersUptoRow : OpenClaim := { program := "ytildflamnehilaagreat", sum := "98c1bac4208edf8b767ae1e38121048e90e4f4f6bbe1448cd4a9a9145cd4339a", func := "wapentake/wapentakelaw8.MachineMembers", spec := "machineMembers", inPlace := ["internal/bytealg.IndexByteString", "internal/bytealg.IndexString", "internal/abi.NoEscape", "internal/bytealg.MakeNoZero", "slices.overlaps[int]", "maps.clone"], unfollowed := true, recurses := true, named := ["internal/bytealg.MaxLen"], apart := false, narrowed := true }
def MachineMembersUptoSaid : Prop := machineMembersUptoRow.holds Tryz.pinned (OpenSpec.upto machineMembersSpec)

/-- 'wapentakelaw8.MachineApplies', WHERE WHAT IT READS IS OF BULK AT MOST 1048576: true; the input reads as it did. -/
def machineAppliesUptoRow : OpenClaim := { program := "ytildflamnehilaagreat", sum := "98c1bac4208edf8b767ae1e38121048e90e4f4f6bbe1448cd4a9a9145cd4339a", func := "wapentake/wapentakelaw8.MachineApplies", spec := "machineApplies", inPlace := ["internal/bytealg.IndexByteString", "internal/bytealg.IndexString", "internal/abi.NoEscape", "internal/bytealg.MakeNoZero", "slices.overlaps[int]"], unfollowed := true, recurses := true, named := ["internal/bytealg.MaxLen"], apart := false, narrowed := true }
def MachineAppliesUptoSaid : Prop := machineAppliesUptoRow.holds Tryz.pinned (OpenSpec.upto machineAppliesSpec)

/-- 'wapentakelaw8.MachineClones', WHERE WHAT IT READS IS OF BULK AT MOST 1048576: true; the input reads as it did. -/
def machineClonesUptoRow : OpenClaim := { program := "ytildflamnehilaagreat", sum := "98c1bac4208edf8b767ae1e38121048e90e4f4f6bbe1448cd4a9a9145cd4339a", func := "wapentake/wapentakelaw8.MachineClones", spec := "machineClones", inPlace := ["internal/bytealg.IndexByteString", "internal/bytealg.IndexString", "internal/abi.NoEscape", "internal/bytealg.MakeNoZero", "slices.overlaps[int]", "maps.clone"], unfollowed := true, recurses := true, named := ["internal/bytealg.MaxLen"], apart := false, narrowed := true }
def MachineClonesUptoSaid : Prop := machineClonesUptoRow.holds Tryz.pinned (OpenSpec.upto machineClonesSpec)

/-- 'wapentakelaw8.MachineMakes', WHERE WHAT IT READS IS OF BULK AT MOST 1048576: true; the input reads as it did. -/
def machineMakesUptoRow : OpenClaim := { program := "ytildflamnehilaagreat", sum := "98c1bac4208edf8b767ae1e38121048e90e4f4f6bbe1448cd4a9a9145cd4339a", func := "wapentake/wapentakelaw8.MachineMakes", spec := "machineMakes", inPlace := ["internal/bytealg.IndexByteString", "internal/bytealg.IndexString", "internal/abi.NoEscape", "internal/bytealg.MakeNoZero", "slices.overlaps[int]"], unfollowed := true, recurses := true, named := ["internal/bytealg.MaxLen"], apart := false, narrowed := true }
def MachineMakesUptoSaid : Prop := machineMakesUptoRow.holds Tryz.pinned (OpenSpec.upto machineMakesSpec)

end Rows
end Go.Proofs.YtildflamnehilaaGreat
