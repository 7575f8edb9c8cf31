/-
  No cell of these rows narrows 'for every input' (looked for: loops, veiled, ifaces, maps, wideKeys, modest, calm, conditions, laid).
  DERIVED. THE GIVEN ROWS OF THIS SEAT. 16 by the template 'for every input the law returns true; each argument reads behind the call as it read before'; 0 by the template 'total and deterministic' (their statements: YtgepebndihfnfaaGreatTotals.lean).
  GIVEN WITH THE SEED: the statements are not yours to turn. If you find one false, say at which input.
  Laid BY PROGRAM, IN A SANDBOX (cutbox-rows.mjs): the forced cells as the released guide's own fill.sh prints them over the translation ba3da45cdc3e43f1… (all of the seat's roots in one cut). By AI agents, Wed Nov 11 2026. No macro, syntax, notation, axiom, sorry.
-/
import Derived.Test.YtgepebndihfnfaaGreatChecked
import GoSem.Claim
import GoSem.ClaimJoined
import GoSem.ClaimMapViews
import Derived.JoinedTies
import Derived.KernelRfl
namespace Go.Proofs.YtgepebndihfnfaaGreat
/- THE CELL 'sum', in the pinned program and in every row, IS THE sha256 OF THE DUMP (.gsa) THAT YtgepebndihfnfaaGreatProg.lean LOADS. Nothing in Lean hashes anything: it is a label: what it is worth is what the hold of that sum in a sandbox is worth. -/
noncomputable def Tryz.pinned : Pinned := { name := "ytgepebndihfnfaagreat", sum := "ba3da45cdc3e43f185bfbb46186bf89717b6dd0f5167c5acda76d6400835c6f1", checked := Tryz.checked }
namespace Rows
def none {H : Type} : Left H := { results := [], args := [] }

/-- 'wapentakelaw26.PlainParts': WHATEVER THE INPUT: true; the input reads as it did. -/
def plainPartsSpec : ChangeSpec := { name := "plainParts", fn := fun _ => fun
  | [d1, d2] => { results := [.lit (.bool true)], args := [d1, d2] }
  | _ => none }
def plainPartsRow : OpenClaim := { program := "ytgepebndihfnfaagreat", sum := "ba3da45cdc3e43f185bfbb46186bf89717b6dd0f5167c5acda76d6400835c6f1", func := "wapentake/wapentakelaw26.PlainParts", spec := "plainParts", inPlace := ["internal/bytealg.IndexByteString", "internal/bytealg.IndexString", "internal/abi.NoEscape", "internal/bytealg.MakeNoZero", "slices.overlaps[int]"], unfollowed := true, recurses := true, named := ["internal/bytealg.MaxLen"], apart := false }
def PlainPartsSaid : Prop := plainPartsRow.holds Tryz.pinned (OpenSpec.ofChange plainPartsSpec)

/-- ITS FALSE NEIGHBOUR: 'it returns false'. Refute it at one input. -/
def plainPartsWrong : ChangeSpec := { name := "plainParts", fn := fun _ => fun
  | [d1, d2] => { results := [.lit (.bool false)], args := [d1, d2] }
  | _ => none }
def PlainPartsWrongFalsely : Prop := plainPartsRow.holds Tryz.pinned (OpenSpec.ofChange plainPartsWrong)

/-- 'wapentakelaw26.PlainFirst': WHATEVER THE INPUT: true; the input reads as it did. -/
def plainFirstSpec : ChangeSpec := { name := "plainFirst", fn := fun _ => fun
  | [d1, d2] => { results := [.lit (.bool true)], args := [d1, d2] }
  | _ => none }
def plainFirstRow : OpenClaim := { program := "ytgepebndihfnfaagreat", sum := "ba3da45cdc3e43f185bfbb46186bf89717b6dd0f5167c5acda76d6400835c6f1", func := "wapentake/wapentakelaw26.PlainFirst", spec := "plainFirst", inPlace := ["internal/bytealg.IndexByteString", "internal/bytealg.IndexString", "internal/abi.NoEscape", "internal/bytealg.MakeNoZero", "slices.overlaps[int]"], unfollowed := true, recurses := true, named := ["internal/bytealg.MaxLen"], apart := false }
def PlainFirstSaid : Prop := plainFirstRow.holds Tryz.pinned (OpenSpec.ofChange plainFirstSpec)

/-- ITS FALSE NEIGHBOUR: 'it returns false'. Refute it at one input. -/
def plainFirstWrong : ChangeSpec := { name := "plainFirst", fn := fun _ => fun
  | [d1, d2] => { results := [.lit (.bool false)], args := [d1, d2] }
  | _ => none }
def PlainFirstWrongFalsely : Prop := plainFirstRow.holds Tryz.pinned (OpenSpec.ofChange plainFirstWrong)

/-- 'wapentakelaw26.PlainKnown': WHATEVER THE INPUT: true; the input reads as it did. -/
def plainKnownSpec : ChangeSpec := { name := "plainKnown", fn := fun _ => fun
  | [] => { results := [.lit (.bool true)], args := [] }
  | _ => none }
def plainKnownRow : OpenClaim := { program := "ytgepebndihfnfaagreat", sum := "ba3da45cdc3e43f185bfbb46186bf89717b6dd0f5167c5acda76d6400835c6f1", func := "wapentake/wapentakelaw26.PlainKnown", spec := "plainKnown", inPlace := ["internal/bytealg.IndexByteString", "internal/bytealg.IndexString", "internal/abi.NoEscape", "internal/bytealg.MakeNoZero", "slices.overlaps[int]"], unfollowed := true, recurses := true, named := ["internal/bytealg.MaxLen"], apart := false }
def PlainKnownSaid : Prop := plainKnownRow.holds Tryz.pinned (OpenSpec.ofChange plainKnownSpec)

/-- ITS FALSE NEIGHBOUR: 'it returns false'. Refute it at one input. -/
def plainKnownWrong : ChangeSpec := { name := "plainKnown", fn := fun _ => fun
  | [] => { results := [.lit (.bool false)], args := [] }
  | _ => none }
def PlainKnownWrongFalsely : Prop := plainKnownRow.holds Tryz.pinned (OpenSpec.ofChange plainKnownWrong)

/-- 'wapentakelaw26.PlainLegal': WHATEVER THE INPUT: true; the input reads as it did. -/
def plainLegalSpec : ChangeSpec := { name := "plainLegal", fn := fun _ => fun
  | [d1, d2] => { results := [.lit (.bool true)], args := [d1, d2] }
  | _ => none }
def plainLegalRow : OpenClaim := { program := "ytgepebndihfnfaagreat", sum := "ba3da45cdc3e43f185bfbb46186bf89717b6dd0f5167c5acda76d6400835c6f1", func := "wapentake/wapentakelaw26.PlainLegal", spec := "plainLegal", inPlace := ["internal/bytealg.IndexByteString", "internal/bytealg.IndexString", "internal/abi.NoEscape", "internal/bytealg.MakeNoZero", "slices.overlaps[int]"], unfollowed := true, recurses := true, named := ["internal/bytealg.MaxLen"], apart := false }
def PlainLegalSaid : Prop := plainLegalRow.holds Tryz.pinned (OpenSpec.ofChange plainLegalSpec)

/-- ITS FALSE NEIGHBOUR: 'it returns false'. Refute it at one input. -/
def plainLegalWrong : ChangeSpec := { name := "plainLegal", fn := fun _ => fun
  | [d1, d2] => { results := [.lit (.bool false)], args := [d1, d2] }
  | _ => none }
def PlainLegalWrongFalsely : Prop := plainLegalRow.holds Tryz.pinned (OpenSpec.ofChange plainLegalWrong)

/-- 'wapentakelaw27.JudgeOrders': WHATEVER THE INPUT: true; the input reads as it did. -/
def judgeOrdersSpec : ChangeSpec := { name := "judgeOrders", fn := fun _ => fun
  | [d1, d2, d3] => { results := [.lit (.bool true)], args := [d1, d2, d3] }
  | _ => none }
def judgeOrdersRow : OpenClaim := { program := "ytgepebndihfnfaagreat", sum := "ba3da45cdc3e43f185bfbb46186bf89717b6dd0f5167c5acda76d6400835c6f1", func := "wapentake/wapentakelaw27.JudgeOrders", spec := "judgeOrders", inPlace := ["internal/bytealg.IndexByteString", "internal/bytealg.IndexString", "internal/abi.NoEscape", "internal/bytealg.MakeNoZero", "slices.overlaps[int]"], unfollowed := true, recurses := true, named := ["internal/bytealg.MaxLen"], apart := false }
def JudgeOrdersSaid : Prop := judgeOrdersRow.holds Tryz.pinned (OpenSpec.ofChange judgeOrdersSpec)

/-- ITS FALSE NEIGHBOUR: 'it returns false'. Refute it at one input. -/
def judgeOrdersWrong : ChangeSpec := { name := "judgeOrders", fn := fun _ => fun
  | [d1, d2, d3] => { results := [.lit (.bool false)], args := [d1, d2, d3] }
  | _ => none }
def JudgeOrdersWrongFalsely : Prop := judgeOrdersRow.holds Tryz.pinned (OpenSpec.ofChange judgeOrdersWrong)

/-- 'wapentakelaw27.JudgeWrong': WHATEVER THE INPUT: true; the input reads as it did. -/
def judgeWrongSpec : ChangeSpec := { name := "judgeWrong", fn := fun _ => fun
  | [d1, d2, d3] => { results := [.lit (.bool true)], args := [d1, d2, d3] }
  | _ => none }
def judgeWrongRow : OpenClaim := { program := "ytgepebndihfnfaagreat", sum := "ba3da45cdc3e43f185bfbb46186bf89717b6dd0f5167c5acda76d6400835c6f1", func := "wapentake/wapentakelaw27.JudgeWrong", spec := "judgeWrong", inPlace := ["internal/bytealg.IndexByteString", "internal/bytealg.IndexString", "internal/abi.NoEscape", "internal/bytealg.MakeNoZero", "slices.overlaps[int]"], unfollowed := true, recurses := true, named := ["internal/bytealg.MaxLen"], apart := false }
def JudgeWrongSaid : Prop := judgeWrongRow.holds Tryz.pinned (OpenSpec.ofChange judgeWrongSpec)

/-- ITS FALSE NEIGHBOUR: 'it returns false'. Refute it at one input. -/
def judgeWrongWrong : ChangeSpec := { name := "judgeWrong", fn := fun _ => fun
  | [d1, d2, d3] => { results := [.lit (.bool false)], args := [d1, d2, d3] }
  | _ => none }
def JudgeWrongWrongFalsely : Prop := judgeWrongRow.holds Tryz.pinned (OpenSpec.ofChange judgeWrongWrong)

/-- 'wapentakelaw27.JudgeKnown': WHATEVER THE INPUT: true; the input reads as it did. -/
def judgeKnownSpec : ChangeSpec := { name := "judgeKnown", fn := fun _ => fun
  | [] => { results := [.lit (.bool true)], args := [] }
  | _ => none }
def judgeKnownRow : OpenClaim := { program := "ytgepebndihfnfaagreat", sum := "ba3da45cdc3e43f185bfbb46186bf89717b6dd0f5167c5acda76d6400835c6f1", func := "wapentake/wapentakelaw27.JudgeKnown", spec := "judgeKnown", inPlace := ["internal/bytealg.IndexByteString", "internal/bytealg.IndexString", "internal/abi.NoEscape", "internal/bytealg.MakeNoZero", "slices.overlaps[int]"], unfollowed := true, recurses := true, named := ["internal/bytealg.MaxLen"], apart := false }
def JudgeKnownSaid : Prop := judgeKnownRow.holds Tryz.pinned (OpenSpec.ofChange judgeKnownSpec)

/-- ITS FALSE NEIGHBOUR: 'it returns false'. Refute it at one input. -/
def judgeKnownWrong : ChangeSpec := { name := "judgeKnown", fn := fun _ => fun
  | [] => { results := [.lit (.bool false)], args := [] }
  | _ => none }
def JudgeKnownWrongFalsely : Prop := judgeKnownRow.holds Tryz.pinned (OpenSpec.ofChange judgeKnownWrong)

/-- 'wapentakelaw27.JudgeJudges': WHATEVER THE INPUT: true; the input reads as it did. -/
def judgeJudgesSpec : ChangeSpec := { name := "judgeJudges", fn := fun _ => fun
  | [d1, d2, d3] => { results := [.lit (.bool true)], args := [d1, d2, d3] }
  | _ => none }
def judgeJudgesRow : OpenClaim := { program := "ytgepebndihfnfaagreat", sum := "ba3da45cdc3e43f185bfbb46186bf89717b6dd0f5167c5acda76d6400835c6f1", func := "wapentake/wapentakelaw27.JudgeJudges", spec := "judgeJudges", inPlace := ["internal/bytealg.IndexByteString", "internal/bytealg.IndexString", "internal/abi.NoEscape", "internal/bytealg.MakeNoZero", "slices.overlaps[int]"], unfollowed := true, recurses := true, named := ["internal/bytealg.MaxLen"], apart := false }
def JudgeJudgesSaid : Prop := judgeJudgesRow.holds Tryz.pinned (OpenSpec.ofChange judgeJudgesSpec)

/-- ITS FALSE NEIGHBOUR: 'it returns false'. Refute it at one input. -/
def judgeJudgesWrong : ChangeSpec := { name := "judgeJudges", fn := fun _ => fun
  | [d1, d2, d3] => { results := [.lit (.bool false)], args := [d1, d2, d3] }
  | _ => none }
def JudgeJudgesWrongFalsely : Prop := judgeJudgesRow.holds Tryz.pinned (OpenSpec.ofChange judgeJudgesWrong)

/-- 'wapentakelaw27.JudgeLocals': WHATEVER THE INPUT: true; the input reads as it did. -/
def judgeLocalsSpec : ChangeSpec := { name := "judgeLocals", fn := fun _ => fun
  | [d1, d2, d3] => { results := [.lit (.bool true)], args := [d1, d2, d3] }
  | _ => none }
def judgeLocalsRow : OpenClaim := { program := "ytgepebndihfnfaagreat", sum := "ba3da45cdc3e43f185bfbb46186bf89717b6dd0f5167c5acda76d6400835c6f1", func := "wapentake/wapentakelaw27.JudgeLocals", spec := "judgeLocals", inPlace := ["internal/bytealg.IndexByteString", "internal/bytealg.IndexString", "internal/abi.NoEscape", "internal/bytealg.MakeNoZero", "slices.overlaps[int]"], unfollowed := true, recurses := true, named := ["internal/bytealg.MaxLen"], apart := false }
def JudgeLocalsSaid : Prop := judgeLocalsRow.holds Tryz.pinned (OpenSpec.ofChange judgeLocalsSpec)

/-- ITS FALSE NEIGHBOUR: 'it returns false'. Refute it at one input. -/
def judgeLocalsWrong : ChangeSpec := { name := "judgeLocals", fn := fun _ => fun
  | [d1, d2, d3] => { results := [.lit (.bool false)], args := [d1, d2, d3] }
  | _ => none }
def JudgeLocalsWrongFalsely : Prop := judgeLocalsRow.holds Tryz.pinned (OpenSpec.ofChange judgeLocalsWrong)

/-- 'wapentakelaw8.MachineOnce': WHATEVER THE INPUT: true; the input reads as it did. -/
def machineOnceSpec : ChangeSpec := { name := "machineOnce", fn := fun _ => fun
  | [d1, d2] => { results := [.lit (.bool true)], args := [d1, d2] }
  | _ => none }
def machineOnceRow : OpenClaim := { program := "ytgepebndihfnfaagreat", sum := "ba3da45cdc3e43f185bfbb46186bf89717b6dd0f5167c5acda76d6400835c6f1", func := "wapentake/wapentakelaw8.MachineOnce", spec := "machineOnce", inPlace := ["internal/bytealg.IndexByteString", "internal/bytealg.IndexString", "internal/abi.NoEscape", "internal/bytealg.MakeNoZero", "slices.overlaps[int]"], unfollowed := true, recurses := true, named := ["internal/bytealg.MaxLen"], apart := false }
def MachineOnceSaid : Prop := machineOnceRow.holds Tryz.pinned (OpenSpec.ofChange machineOnceSpec)

/-- ITS FALSE NEIGHBOUR: 'it returns false'. Refute it at one input. -/
def machineOnceWrong : ChangeSpec := { name := "machineOnce", fn := fun _ => fun
  | [d1, d2] => { results := [.lit (.bool false)], args := [d1, d2] }
  | _ => none }
def MachineOnceWrongFalsely : Prop := machineOnceRow.holds Tryz.pinned (OpenSpec.ofChange machineOnceWrong)

/-- 'wapentakelaw8.MachineMembers': WHATEVER THE INPUT: true; the input reads as it did. -/
def machineMembersSpec : ChangeSpec := { name := "machineMembers", fn := fun _ => fun
  | [d1, d2] => { results := [.lit (.bool true)], args := [d1, d2] }
  | _ => none }
def machineMembersRow : OpenClaim := { program := "ytgepebndihfnfaagreat", sum := "ba3da45cdc3e43f185bfbb46186bf89717b6dd0f5167c5acda76d6400835c6f1", func := "wapentake/wapentakelaw8.MachineMembers", spec := "machineMembers", inPlace := ["internal/bytealg.IndexByteString", "internal/bytealg.IndexString", "internal/abi.NoEscape", "internal/bytealg.MakeNoZero", "slices.overlaps[int]", "maps.clone"], unfollowed := true, recurses := true, named := ["internal/bytealg.MaxLen"], apart := false }
def MachineMembersSaid : Prop := machineMembersRow.holds Tryz.pinned (OpenSpec.ofChange machineMembersSpec)

/-- ITS FALSE NEIGHBOUR: 'it returns false'. Refute it at one input. -/
def machineMembersWrong : ChangeSpec := { name := "machineMembers", fn := fun _ => fun
  | [d1, d2] => { results := [.lit (.bool false)], args := [d1, d2] }
  | _ => none }
def MachineMembersWrongFalsely : Prop := machineMembersRow.holds Tryz.pinned (OpenSpec.ofChange machineMembersWrong)

/-- 'wapentakelaw8.MachineApplies': WHATEVER THE INPUT: true; the input reads as it did. -/
def machineAppliesSpec : ChangeSpec := { name := "machineApplies", fn := fun _ => fun
  | [d1, d2] => { results := [.lit (.bool true)], args := [d1, d2] }
  | _ => none }
def machineAppliesRow : OpenClaim := { program := "ytgepebndihfnfaagreat", sum := "ba3da45cdc3e43f185bfbb46186bf89717b6dd0f5167c5acda76d6400835c6f1", func := "wapentake/wapentakelaw8.MachineApplies", spec := "machineApplies", inPlace := ["internal/bytealg.IndexByteString", "internal/bytealg.IndexString", "internal/abi.NoEscape", "internal/bytealg.MakeNoZero", "slices.overlaps[int]"], unfollowed := true, recurses := true, named := ["internal/bytealg.MaxLen"], apart := false }
def MachineAppliesSaid : Prop := machineAppliesRow.holds Tryz.pinned (OpenSpec.ofChange machineAppliesSpec)

/-- ITS FALSE NEIGHBOUR: 'it returns false'. Refute it at one input. -/
def machineAppliesWrong : ChangeSpec := { name := "machineApplies", fn := fun _ => fun
  | [d1, d2] => { results := [.lit (.bool false)], args := [d1, d2] }
  | _ => none }
def MachineAppliesWrongFalsely : Prop := machineAppliesRow.holds Tryz.pinned (OpenSpec.ofChange machineAppliesWrong)

/-- 'wapentakelaw8.MachineClones': WHATEVER THE INPUT: true; the input reads as it did. -/
def machineClonesSpec : ChangeSpec := { name := "machineClones", fn := fun _ => fun
  | [d1, d2] => { results := [.lit (.bool true)], args := [d1, d2] }
  | _ => none }
def machineClonesRow : OpenClaim := { program := "ytgepebndihfnfaagreat", sum := "ba3da45cdc3e43f185bfbb46186bf89717b6dd0f5167c5acda76d6400835c6f1", func := "wapentake/wapentakelaw8.MachineClones", spec := "machineClones", inPlace := ["internal/bytealg.IndexByteString", "internal/bytealg.IndexString", "internal/abi.NoEscape", "internal/bytealg.MakeNoZero", "slices.overlaps[int]", "maps.clone"], unfollowed := true, recurses := true, named := ["internal/bytealg.MaxLen"], apart := false }
def MachineClonesSaid : Prop := machineClonesRow.holds Tryz.pinned (OpenSpec.ofChange machineClonesSpec)

/-- ITS FALSE NEIGHBOUR: 'it returns false'. Refute it at one input. -/
def machineClonesWrong : ChangeSpec := { name := "machineClones", fn := fun _ => fun
  | [d1, d2] => { results := [.lit (.bool false)], args := [d1, d2] }
  | _ => none }
def MachineClonesWrongFalsely : Prop := machineClonesRow.holds Tryz.pinned (OpenSpec.ofChange machineClonesWrong)

/-- 'wapentakelaw26.PlainRuns': WHATEVER THE INPUT: true; the input reads as it did. -/
def plainRunsSpec : ChangeSpec := { name := "plainRuns", fn := fun _ => fun
  | [d1, d2, d3] => { results := [.lit (.bool true)], args := [d1, d2, d3] }
  | _ => none }
def plainRunsRow : OpenClaim := { program := "ytgepebndihfnfaagreat", sum := "ba3da45cdc3e43f185bfbb46186bf89717b6dd0f5167c5acda76d6400835c6f1", func := "wapentake/wapentakelaw26.PlainRuns", spec := "plainRuns", inPlace := ["internal/bytealg.IndexByteString", "internal/bytealg.IndexString", "internal/abi.NoEscape", "internal/bytealg.MakeNoZero", "slices.overlaps[int]"], unfollowed := true, recurses := true, named := ["internal/bytealg.MaxLen"], apart := false }
def PlainRunsSaid : Prop := plainRunsRow.holds Tryz.pinned (OpenSpec.ofChange plainRunsSpec)

/-- ITS FALSE NEIGHBOUR: 'it returns false'. Refute it at one input. -/
def plainRunsWrong : ChangeSpec := { name := "plainRuns", fn := fun _ => fun
  | [d1, d2, d3] => { results := [.lit (.bool false)], args := [d1, d2, d3] }
  | _ => none }
def PlainRunsWrongFalsely : Prop := plainRunsRow.holds Tryz.pinned (OpenSpec.ofChange plainRunsWrong)

/-- 'wapentakelaw8.MachineMakes': WHATEVER THE INPUT: true; the input reads as it did. -/
def machineMakesSpec : ChangeSpec := { name := "machineMakes", fn := fun _ => fun
  | [d1, d2, d3] => { results := [.lit (.bool true)], args := [d1, d2, d3] }
  | _ => none }
def machineMakesRow : OpenClaim := { program := "ytgepebndihfnfaagreat", sum := "ba3da45cdc3e43f185bfbb46186bf89717b6dd0f5167c5acda76d6400835c6f1", func := "wapentake/wapentakelaw8.MachineMakes", spec := "machineMakes", inPlace := ["internal/bytealg.IndexByteString", "internal/bytealg.IndexString", "internal/abi.NoEscape", "internal/bytealg.MakeNoZero", "slices.overlaps[int]"], unfollowed := true, recurses := true, named := ["internal/bytealg.MaxLen"], apart := false }
def MachineMakesSaid : Prop := machineMakesRow.holds Tryz.pinned (OpenSpec.ofChange machineMakesSpec)

/-- ITS FALSE NEIGHBOUR: 'it returns false'. Refute it at one input. -/
def machineMakesWrong : ChangeSpec := { name := "machineMakes", fn := fun _ => fun
  | [d1, d2, d3] => { results := [.lit (.bool false)], args := [d1, d2, d3] }
  | _ => none }
def MachineMakesWrongFalsely : Prop := machineMakesRow.holds Tryz.pinned (OpenSpec.ofChange machineMakesWrong)

/-- 'wapentakelaw5.GraphClones': WHATEVER THE INPUT: true; the input reads as it did. -/
def graphClonesSpec : ChangeSpec := { name := "graphClones", fn := fun _ => fun
  | [d1, d2] => { results := [.lit (.bool true)], args := [d1, d2] }
  | _ => none }
def graphClonesRow : OpenClaim := { program := "ytgepebndihfnfaagreat", sum := "ba3da45cdc3e43f185bfbb46186bf89717b6dd0f5167c5acda76d6400835c6f1", func := "wapentake/wapentakelaw5.GraphClones", spec := "graphClones", inPlace := ["internal/bytealg.IndexByteString", "internal/bytealg.IndexString", "internal/abi.NoEscape", "internal/bytealg.MakeNoZero", "maps.clone"], unfollowed := true, recurses := true, named := ["internal/bytealg.MaxLen"], apart := false }
def GraphClonesSaid : Prop := graphClonesRow.holds Tryz.pinned (OpenSpec.ofChange graphClonesSpec)

/-- ITS FALSE NEIGHBOUR: 'it returns false'. Refute it at one input. -/
def graphClonesWrong : ChangeSpec := { name := "graphClones", fn := fun _ => fun
  | [d1, d2] => { results := [.lit (.bool false)], args := [d1, d2] }
  | _ => none }
def GraphClonesWrongFalsely : Prop := graphClonesRow.holds Tryz.pinned (OpenSpec.ofChange graphClonesWrong)

/- THE SECOND FORM. 'bulk': how many values and letters a reading holds, each counted each time it is reached (what is shared counts as often as it is met; a slice's spare places count too). A statement '..UptoSaid' is the law's where the arguments, and the package variables that the reading takes, are together of bulk at most 1048576: NARROWER than '..Said'. Prove '..Said' where nothing that the law and all that it calls make is longer than what came in: it says more and counts as full. Else prove '..UptoSaid'. A law counts once. -/
mutual
def uptoBulk {H : Type} : DataW H → Nat
  | .lit (.string bytes) => bytes.length + 1
  | .lit _ => 1
  | .nil => 1
  | .ptr d => uptoBulk d + 1
  | .slice elems spare => uptoBulkAll elems + uptoBulkAll spare + 1
  | .agg parts => uptoBulkAll parts + 1
  | .iface _ d => uptoBulk d + 1
  | .map entries => uptoBulkEntries entries + 1
  | .held _ => 1
def uptoBulkAll {H : Type} : List (DataW H) → Nat
  | [] => 0
  | d :: r => uptoBulk d + uptoBulkAll r
def uptoBulkEntries {H : Type} : List (Lit × DataW H) → Nat
  | [] => 0
  | x :: r => uptoBulkEntry x + uptoBulkEntries r
def uptoBulkEntry {H : Type} : Lit × DataW H → Nat
  | (.string bytes, d) => bytes.length + uptoBulk d + 1
  | (_, d) => uptoBulk d + 1
 end
def uptoSmall : (H : Type) → List (DataW H) → Bool := fun _ ds => decide (uptoBulkAll ds ≤ 1048576)
def OpenSpec.upto (s : _root_.Go.ChangeSpec) : _root_.Go.OpenSpec := { _root_.Go.OpenSpec.ofChange s with cond := some uptoSmall }

/-- 'wapentakelaw26.PlainParts', WHERE WHAT IT READS IS OF BULK AT MOST 1048576: true; the input reads as it did. -/
def plainPartsUptoRow : OpenClaim := { program := "ytgepebndihfnfaagreat", sum := "ba3da45cdc3e43f185bfbb46186bf89717b6dd0f5167c5acda76d6400835c6f1", func := "wapentake/wapentakelaw26.PlainParts", spec := "plainParts", inPlace := ["internal/bytealg.IndexByteString", "internal/bytealg.IndexString", "internal/abi.NoEscape", "internal/bytealg.MakeNoZero", "slices.overlaps[int]"], unfollowed := true, recurses := true, named := ["internal/bytealg.MaxLen"], apart := false, narrowed := true }
def PlainPartsUptoSaid : Prop := plainPartsUptoRow.holds Tryz.pinned (OpenSpec.upto plainPartsSpec)

/-- 'wapentakelaw26.PlainFirst', WHERE WHAT IT READS IS OF BULK AT MOST 1048576: true; the input reads as it did. -/
def plainFirstUptoRow : OpenClaim := { program := "ytgepebndihfnfaagreat", sum := "ba3da45cdc3e43f185bfbb46186bf89717b6dd0f5167c5acda76d6400835c6f1", func := "wapentake/wapentakelaw26.PlainFirst", spec := "plainFirst", inPlace := ["internal/bytealg.IndexByteString", "internal/bytealg.IndexString", "internal/abi.NoEscape", "internal/bytealg.MakeNoZero", "slices.overlaps[int]"], unfollowed := true, recurses := true, named := ["internal/bytealg.MaxLen"], apart := false, narrowed := true }
def PlainFirstUptoSaid : Prop := plainFirstUptoRow.holds Tryz.pinned (OpenSpec.upto plainFirstSpec)

/-- 'wapentakelaw26.PlainKnown', WHERE WHAT IT READS IS OF BULK AT MOST 1048576: true; the input reads as it did. -/
def plainKnownUptoRow : OpenClaim := { program := "ytgepebndihfnfaagreat", sum := "ba3da45cdc3e43f185bfbb46186bf89717b6dd0f5167c5acda76d6400835c6f1", func := "wapentake/wapentakelaw26.PlainKnown", spec := "plainKnown", inPlace := ["internal/bytealg.IndexByteString", "internal/bytealg.IndexString", "internal/abi.NoEscape", "internal/bytealg.MakeNoZero", "slices.overlaps[int]"], unfollowed := true, recurses := true, named := ["internal/bytealg.MaxLen"], apart := false, narrowed := true }
def PlainKnownUptoSaid : Prop := plainKnownUptoRow.holds Tryz.pinned (OpenSpec.upto plainKnownSpec)

/-- 'wapentakelaw26.PlainLegal', WHERE WHAT IT READS IS OF BULK AT MOST 1048576: true; the input reads as it did. -/
def plainLegalUptoRow : OpenClaim := { program := "ytgepebndihfnfaagreat", sum := "ba3da45cdc3e43f185bfbb46186bf89717b6dd0f5167c5acda76d6400835c6f1", func := "wapentake/wapentakelaw26.PlainLegal", spec := "plainLegal", inPlace := ["internal/bytealg.IndexByteString", "internal/bytealg.IndexString", "internal/abi.NoEscape", "internal/bytealg.MakeNoZero", "slices.overlaps[int]"], unfollowed := true, recurses := true, named := ["internal/bytealg.MaxLen"], apart := false, narrowed := true }
def PlainLegalUptoSaid : Prop := plainLegalUptoRow.holds Tryz.pinned (OpenSpec.upto plainLegalSpec)

/-- 'wapentakelaw27.JudgeOrders', WHERE WHAT IT READS IS OF BULK AT MOST 1048576: true; the input reads as it did. -/
def judgeOrdersUptoRow : OpenClaim := { program := "ytgepebndihfnfaagreat", sum := "ba3da45cdc3e43f185bfbb46186bf89717b6dd0f5167c5acda76d6400835c6f1", func := "wapentake/wapentakelaw27.JudgeOrders", spec := "judgeOrders", inPlace := ["internal/bytealg.IndexByteString", "internal/bytealg.IndexString", "internal/abi.NoEscape", "internal/bytealg.MakeNoZero", "slices.overlaps[int]"], unfollowed := true, recurses := true, named := ["internal/bytealg.MaxLen"], apart := false, narrowed := true }
def JudgeOrdersUptoSaid : Prop := judgeOrdersUptoRow.holds Tryz.pinned (OpenSpec.upto judgeOrdersSpec)

/-- 'wapentakelaw27.JudgeWrong', WHERE WHAT IT READS IS OF BULK AT MOST 1048576: true; the input reads as it did. -/
def judgeWrongUptoRow : OpenClaim := { program := "ytgepebndihfnfaagreat", sum := "ba3da45cdc3e43f185bfbb46186bf89717b6dd0f5167c5acda76d6400835c6f1", func := "wapentake/wapentakelaw27.JudgeWrong", spec := "judgeWrong", inPlace := ["internal/bytealg.IndexByteString", "internal/bytealg.IndexString", "internal/abi.NoEscape", "internal/bytealg.MakeNoZero", "slices.overlaps[int]"], unfollowed := true, recurses := true, named := ["internal/bytealg.MaxLen"], apart := false, narrowed := true }
def JudgeWrongUptoSaid : Prop := judgeWrongUptoRow.holds Tryz.pinned (OpenSpec.upto judgeWrongSpec)

/-- 'wapentakelaw27.JudgeKnown', WHERE WHAT IT READS IS OF BULK AT MOST 1048576: true; the input reads as it did. -/
def judgeKnownUptoRow : OpenClaim := { program := "ytgepebndihfnfaagreat", sum := "ba3da45cdc3e43f185bfbb46186bf89717b6dd0f5167c5acda76d6400835c6f1", func := "wapentake/wapentakelaw27.JudgeKnown", spec := "judgeKnown", inPlace := ["internal/bytealg.IndexByteString", "internal/bytealg.IndexString", "internal/abi.NoEscape", "internal/bytealg.MakeNoZero", "slices.overlaps[int]"], unfollowed := true, recurses := true, named := ["internal/bytealg.MaxLen"], apart := false, narrowed := true }
def JudgeKnownUptoSaid : Prop := judgeKnownUptoRow.holds Tryz.pinned (OpenSpec.upto judgeKnownSpec)

/-- 'wapentakelaw27.JudgeJudges', WHERE WHAT IT READS IS OF BULK AT MOST 1048576: true; the input reads as it did. -/
def judgeJudgesUptoRow : OpenClaim := { program := "ytgepebndihfnfaagreat", sum := "ba3da45cdc3e43f185bfbb46186bf89717b6dd0f5167c5acda76d6400835c6f1", func := "wapentake/wapentakelaw27.JudgeJudges", spec := "judgeJudges", inPlace := ["internal/bytealg.IndexByteString", "internal/bytealg.IndexString", "internal/abi.NoEscape", "internal/bytealg.MakeNoZero", "slices.overlaps[int]"], unfollowed := true, recurses := true, named := ["internal/bytealg.MaxLen"], apart := false, narrowed := true }
def JudgeJudgesUptoSaid : Prop := judgeJudgesUptoRow.holds Tryz.pinned (OpenSpec.upto judgeJudgesSpec)

/-- 'wapentakelaw27.JudgeLocals', WHERE WHAT IT READS IS OF BULK AT MOST 1048576: true; the input reads as it did. -/
def judgeLocalsUptoRow : OpenClaim := { program := "ytgepebndihfnfaagreat", sum := "ba3da45cdc3e43f185bfbb46186bf89717b6dd0f5167c5acda76d6400835c6f1", func := "wapentake/wapentakelaw27.JudgeLocals", spec := "judgeLocals", inPlace := ["internal/bytealg.IndexByteString", "internal/bytealg.IndexString", "internal/abi.NoEscape", "internal/bytealg.MakeNoZero", "slices.overlaps[int]"], unfollowed := true, recurses := true, named := ["internal/bytealg.MaxLen"], apart := false, narrowed := true }
def JudgeLocalsUptoSaid : Prop := judgeLocalsUptoRow.holds Tryz.pinned (OpenSpec.upto judgeLocalsSpec)

/-- 'wapentakelaw8.MachineOnce', WHERE WHAT IT READS IS OF BULK AT MOST 1048576: true; the input reads as it did. -/
def machineOnceUptoRow : OpenClaim := { program := "ytgepebndihfnfaagreat", sum := "ba3da45cdc3e43f185bfbb46186bf89717b6dd0f5167c5acda76d6400835c6f1", func := "wapentake/wapentakelaw8.MachineOnce", spec := "machineOnce", inPlace := ["internal/bytealg.IndexByteString", "internal/bytealg.IndexString", "internal/abi.NoEscape", "internal/bytealg.MakeNoZero", "slices.overlaps[int]"], unfollowed := true, recurses := true, named := ["internal/bytealg.MaxLen"], apart := false, narrowed := true }
def MachineOnceUptoSaid : Prop := machineOnceUptoRow.holds Tryz.pinned (OpenSpec.upto machineOnceSpec)

/-- 'wapentakelaw8.MachineMembers', WHERE WHAT IT READS IS OF BULK AT MOST 1048576: true; the input reads as it did. -/
def machineMembersUptoRow : OpenClaim := { program := "ytgepebndihfnfaagreat", sum := "ba3da45cdc3e43f185bfbb46186bf89717b6dd0f5167c5acda76d6400835c6f1", func := "wapentake/wapentakelaw8.MachineMembers", spec := "machineMembers", inPlace := ["internal/bytealg.IndexByteString", "internal/bytealg.IndexString", "internal/abi.NoEscape", "internal/bytealg.MakeNoZero", "slices.overlaps[int]", "maps.clone"], unfollowed := true, recurses := true, named := ["internal/bytealg.MaxLen"], apart := false, narrowed := true }
def MachineMembersUptoSaid : Prop := machineMembersUptoRow.holds Tryz.pinned (OpenSpec.upto machineMembersSpec)

/-- 'wapentakelaw8.MachineApplies', WHERE WHAT IT READS IS OF BULK AT MOST 1048576: true; the input reads as it did. -/
def machineAppliesUptoRow : OpenClaim := { program := "ytgepebndihfnfaagreat", sum := "ba3da45cdc3e43f185bfbb46186bf89717b6dd0f5167c5acda76d6400835c6f1", func := "wapentake/wapentakelaw8.MachineApplies", spec := "machineApplies", inPlace := ["internal/bytealg.IndexByteString", "internal/bytealg.IndexString", "internal/abi.NoEscape", "internal/bytealg.MakeNoZero", "slices.overlaps[int]"], unfollowed := true, recurses := true, named := ["internal/bytealg.MaxLen"], apart := false, narrowed := true }
def MachineAppliesUptoSaid : Prop := machineAppliesUptoRow.holds Tryz.pinned (OpenSpec.upto machineAppliesSpec)

/-- 'wapentakelaw8.MachineClones', WHERE WHAT IT READS IS OF BULK AT MOST 1048576: true; the input reads as it did. -/
def machineClonesUptoRow : OpenClaim := { program := "ytgepebndihfnfaagreat", sum := "ba3da45cdc3e43f185bfbb46186bf89717b6dd0f5167c5acda76d6400835c6f1", func := "wapentake/wapentakelaw8.MachineClones", spec := "machineClones", inPlace := ["internal/bytealg.IndexByteString", "internal/bytealg.IndexString", "internal/abi.NoEscape", "internal/bytealg.MakeNoZero", "slices.overlaps[int]", "maps.clone"], unfollowed := true, recurses := true, named := ["internal/bytealg.MaxLen"], apart := false, narrowed := true }
def MachineClonesUptoSaid : Prop := machineClonesUptoRow.holds Tryz.pinned (OpenSpec.upto machineClonesSpec)

/-- 'wapentakelaw26.PlainRuns', WHERE WHAT IT READS IS OF BULK AT MOST 1048576: true; the input reads as it did. -/
def plainRunsUptoRow : OpenClaim := { program := "ytgepebndihfnfaagreat", sum := "ba3da45cdc3e43f185bfbb46186bf89717b6dd0f5167c5acda76d6400835c6f1", func := "wapentake/wapentakelaw26.PlainRuns", spec := "plainRuns", inPlace := ["internal/bytealg.IndexByteString", "internal/bytealg.IndexString", "internal/abi.NoEscape", "internal/bytealg.MakeNoZero", "slices.overlaps[int]"], unfollowed := true, recurses := true, named := ["internal/bytealg.MaxLen"], apart := false, narrowed := true }
def PlainRunsUptoSaid : Prop := plainRunsUptoRow.holds Tryz.pinned (OpenSpec.upto plainRunsSpec)

/-- 'wapentakelaw8.MachineMakes', WHERE WHAT IT READS IS OF BULK AT MOST 1048576: true; the input reads as it did. -/
def machineMakesUptoRow : OpenClaim := { program := "ytgepebndihfnfaagreat", sum := "ba3da45cdc3e43f185bfbb46186bf89717b6dd0f5167c5acda76d6400835c6f1", func := "wapentake/wapentakelaw8.MachineMakes", spec := "machineMakes", inPlace := ["internal/bytealg.IndexByteString", "internal/bytealg.IndexString", "internal/abi.NoEscape", "internal/bytealg.MakeNoZero", "slices.overlaps[int]"], unfollowed := true, recurses := true, named := ["internal/bytealg.MaxLen"], apart := false, narrowed := true }
def MachineMakesUptoSaid : Prop := machineMakesUptoRow.holds Tryz.pinned (OpenSpec.upto machineMakesSpec)

/-- 'wapentakelaw5.GraphClones', WHERE WHAT IT READS IS OF BULK AT MOST 1048576: true; the input reads as it did. -/
def graphClonesUptoRow : OpenClaim := { program := "ytgepebndihfnfaagreat", sum := "ba3da45cdc3e43f185bfbb46186bf89717b6dd0f5167c5acda76d6400835c6f1", func := "wapentake/wapentakelaw5.GraphClones", spec := "graphClones", inPlace := ["internal/bytealg.IndexByteString", "internal/bytealg.IndexString", "internal/abi.NoEscape", "internal/bytealg.MakeNoZero", "maps.clone"], unfollowed := true, recurses := true, named := ["internal/bytealg.MaxLen"], apart := false, narrowed := true }
def GraphClonesUptoSaid : Prop := graphClonesUptoRow.holds Tryz.pinned (OpenSpec.upto graphClonesSpec)

end Rows
end Go.Proofs.YtgepebndihfnfaaGreat
