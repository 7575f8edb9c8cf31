/-
  No cell of these rows narrows 'for every input' (looked for: loops, veiled, ifaces, maps, wideKeys, modest, calm, conditions, laid).
  DERIVED. THE GIVEN ROWS OF THIS SEAT. 7 by the template 'for every input the law returns true; each argument reads behind the call as it read before'; 0 by the template 'total and deterministic' (their statements: YtnkhnogdiphboaaTotals.lean).
  GIVEN WITH THE SEED: the statements are not yours to turn. If you find one false, say at which input.
  Laid BY PROGRAM, IN A SANDBOX (cutbox-rows.mjs): the forced cells as the released guide's own fill.sh prints them over the translation ec237acd67b2082a… (all of the seat's roots in one cut). By AI agents, Wed Nov 11 2026. No macro, syntax, notation, axiom, sorry.
-/
import Derived.Test.YtnkhnogdiphboaaChecked
import GoSem.Claim
import GoSem.ClaimJoined
import GoSem.ClaimMapViews
import Derived.JoinedTies
import Derived.KernelRfl
namespace Go.Proofs.Ytnkhnogdiphboaa
/- THE CELL 'sum', in the pinned program and in every row, IS THE sha256 OF THE DUMP (.gsa) THAT YtnkhnogdiphboaaProg.lean LOADS. Nothing in Lean hashes anything: it is a label: what it is worth is what the hold of that sum in a sandbox is worth. -/
noncomputable def Try.pinned : Pinned := { name := "ytnkhnogdiphboaa", sum := "ec237acd67b2082a495f5a45b69dd072c4a26d71daf36bb65d28ef425cff169f", checked := Try.checked }
namespace Rows
def none {H : Type} : Left H := { results := [], args := [] }

/-- 'wapentakelaw6.SessionKnown': WHATEVER THE INPUT: true; the input reads as it did. -/
def sessionKnownSpec : ChangeSpec := { name := "sessionKnown", fn := fun _ => fun
  | [] => { results := [.lit (.bool true)], args := [] }
  | _ => none }
def sessionKnownRow : OpenClaim := { program := "ytnkhnogdiphboaa", sum := "ec237acd67b2082a495f5a45b69dd072c4a26d71daf36bb65d28ef425cff169f", func := "wapentake/wapentakelaw6.SessionKnown", spec := "sessionKnown", unfollowed := true, recurses := true, apart := false }
def SessionKnownSaid : Prop := sessionKnownRow.holds Try.pinned (OpenSpec.ofChange sessionKnownSpec)

/-- ITS FALSE NEIGHBOUR: 'it returns false'. Refute it at one input. -/
def sessionKnownWrong : ChangeSpec := { name := "sessionKnown", fn := fun _ => fun
  | [] => { results := [.lit (.bool false)], args := [] }
  | _ => none }
def SessionKnownWrongFalsely : Prop := sessionKnownRow.holds Try.pinned (OpenSpec.ofChange sessionKnownWrong)

/-- 'wapentakelaw6.SessionLeaves': WHATEVER THE INPUT: true; the input reads as it did. -/
def sessionLeavesSpec : ChangeSpec := { name := "sessionLeaves", fn := fun _ => fun
  | [d1, d2, d3] => { results := [.lit (.bool true)], args := [d1, d2, d3] }
  | _ => none }
def sessionLeavesRow : OpenClaim := { program := "ytnkhnogdiphboaa", sum := "ec237acd67b2082a495f5a45b69dd072c4a26d71daf36bb65d28ef425cff169f", func := "wapentake/wapentakelaw6.SessionLeaves", spec := "sessionLeaves", unfollowed := true, recurses := true, apart := false }
def SessionLeavesSaid : Prop := sessionLeavesRow.holds Try.pinned (OpenSpec.ofChange sessionLeavesSpec)

/-- ITS FALSE NEIGHBOUR: 'it returns false'. Refute it at one input. -/
def sessionLeavesWrong : ChangeSpec := { name := "sessionLeaves", fn := fun _ => fun
  | [d1, d2, d3] => { results := [.lit (.bool false)], args := [d1, d2, d3] }
  | _ => none }
def SessionLeavesWrongFalsely : Prop := sessionLeavesRow.holds Try.pinned (OpenSpec.ofChange sessionLeavesWrong)

/-- 'wapentakelaw6.SessionOne': WHATEVER THE INPUT: true; the input reads as it did. -/
def sessionOneSpec : ChangeSpec := { name := "sessionOne", fn := fun _ => fun
  | [d1, d2] => { results := [.lit (.bool true)], args := [d1, d2] }
  | _ => none }
def sessionOneRow : OpenClaim := { program := "ytnkhnogdiphboaa", sum := "ec237acd67b2082a495f5a45b69dd072c4a26d71daf36bb65d28ef425cff169f", func := "wapentake/wapentakelaw6.SessionOne", spec := "sessionOne", unfollowed := true, recurses := true, apart := false }
def SessionOneSaid : Prop := sessionOneRow.holds Try.pinned (OpenSpec.ofChange sessionOneSpec)

/-- ITS FALSE NEIGHBOUR: 'it returns false'. Refute it at one input. -/
def sessionOneWrong : ChangeSpec := { name := "sessionOne", fn := fun _ => fun
  | [d1, d2] => { results := [.lit (.bool false)], args := [d1, d2] }
  | _ => none }
def SessionOneWrongFalsely : Prop := sessionOneRow.holds Try.pinned (OpenSpec.ofChange sessionOneWrong)

/-- 'wapentakelaw6.SessionClones': WHATEVER THE INPUT: true; the input reads as it did. -/
def sessionClonesSpec : ChangeSpec := { name := "sessionClones", fn := fun _ => fun
  | [d1, d2] => { results := [.lit (.bool true)], args := [d1, d2] }
  | _ => none }
def sessionClonesRow : OpenClaim := { program := "ytnkhnogdiphboaa", sum := "ec237acd67b2082a495f5a45b69dd072c4a26d71daf36bb65d28ef425cff169f", func := "wapentake/wapentakelaw6.SessionClones", spec := "sessionClones", unfollowed := true, recurses := true, apart := false }
def SessionClonesSaid : Prop := sessionClonesRow.holds Try.pinned (OpenSpec.ofChange sessionClonesSpec)

/-- ITS FALSE NEIGHBOUR: 'it returns false'. Refute it at one input. -/
def sessionClonesWrong : ChangeSpec := { name := "sessionClones", fn := fun _ => fun
  | [d1, d2] => { results := [.lit (.bool false)], args := [d1, d2] }
  | _ => none }
def SessionClonesWrongFalsely : Prop := sessionClonesRow.holds Try.pinned (OpenSpec.ofChange sessionClonesWrong)

/-- 'wapentakelaw6.SessionPlays': WHATEVER THE INPUT: true; the input reads as it did. -/
def sessionPlaysSpec : ChangeSpec := { name := "sessionPlays", fn := fun _ => fun
  | [d1, d2] => { results := [.lit (.bool true)], args := [d1, d2] }
  | _ => none }
def sessionPlaysRow : OpenClaim := { program := "ytnkhnogdiphboaa", sum := "ec237acd67b2082a495f5a45b69dd072c4a26d71daf36bb65d28ef425cff169f", func := "wapentake/wapentakelaw6.SessionPlays", spec := "sessionPlays", unfollowed := true, recurses := true, apart := false }
def SessionPlaysSaid : Prop := sessionPlaysRow.holds Try.pinned (OpenSpec.ofChange sessionPlaysSpec)

/-- ITS FALSE NEIGHBOUR: 'it returns false'. Refute it at one input. -/
def sessionPlaysWrong : ChangeSpec := { name := "sessionPlays", fn := fun _ => fun
  | [d1, d2] => { results := [.lit (.bool false)], args := [d1, d2] }
  | _ => none }
def SessionPlaysWrongFalsely : Prop := sessionPlaysRow.holds Try.pinned (OpenSpec.ofChange sessionPlaysWrong)

/-- 'wapentakelaw6.SessionOrder': WHATEVER THE INPUT: true; the input reads as it did. -/
def sessionOrderSpec : ChangeSpec := { name := "sessionOrder", fn := fun _ => fun
  | [d] => { results := [.lit (.bool true)], args := [d] }
  | _ => none }
def sessionOrderRow : OpenClaim := { program := "ytnkhnogdiphboaa", sum := "ec237acd67b2082a495f5a45b69dd072c4a26d71daf36bb65d28ef425cff169f", func := "wapentake/wapentakelaw6.SessionOrder", spec := "sessionOrder", unfollowed := true, recurses := true, apart := false }
def SessionOrderSaid : Prop := sessionOrderRow.holds Try.pinned (OpenSpec.ofChange sessionOrderSpec)

/-- ITS FALSE NEIGHBOUR: 'it returns false'. Refute it at one input. -/
def sessionOrderWrong : ChangeSpec := { name := "sessionOrder", fn := fun _ => fun
  | [d] => { results := [.lit (.bool false)], args := [d] }
  | _ => none }
def SessionOrderWrongFalsely : Prop := sessionOrderRow.holds Try.pinned (OpenSpec.ofChange sessionOrderWrong)

/-- 'wapentakelaw6.SessionLoads': WHATEVER THE INPUT: true; the input reads as it did. -/
def sessionLoadsSpec : ChangeSpec := { name := "sessionLoads", fn := fun _ => fun
  | [d1, d2, d3] => { results := [.lit (.bool true)], args := [d1, d2, d3] }
  | _ => none }
def sessionLoadsRow : OpenClaim := { program := "ytnkhnogdiphboaa", sum := "ec237acd67b2082a495f5a45b69dd072c4a26d71daf36bb65d28ef425cff169f", func := "wapentake/wapentakelaw6.SessionLoads", spec := "sessionLoads", unfollowed := true, recurses := true, apart := false }
def SessionLoadsSaid : Prop := sessionLoadsRow.holds Try.pinned (OpenSpec.ofChange sessionLoadsSpec)

/-- ITS FALSE NEIGHBOUR: 'it returns false'. Refute it at one input. -/
def sessionLoadsWrong : ChangeSpec := { name := "sessionLoads", fn := fun _ => fun
  | [d1, d2, d3] => { results := [.lit (.bool false)], args := [d1, d2, d3] }
  | _ => none }
def SessionLoadsWrongFalsely : Prop := sessionLoadsRow.holds Try.pinned (OpenSpec.ofChange sessionLoadsWrong)

/- THE SECOND FORM. 'bulk': how many values and letters a reading holds, each counted each time it is reached (what is shared counts as often as it is met; a slice's spare places count too). A statement '..UptoSaid' is the law's where the arguments, and the package variables that the reading takes, are together of bulk at most 1048576: NARROWER than '..Said'. Prove '..Said' where nothing that the law and all that it calls make is longer than what came in: it says more and counts as full. Else prove '..UptoSaid'. A law counts once. -/
mutual
def uptoBulk {H : Type} : DataW H → Nat
  | .lit (.string bytes) => bytes.length + 1
  | .lit _ => 1
  | .nil => 1
  | .ptr d => uptoBulk d + 1
  | .slice elems spare => uptoBulkAll elems + uptoBulkAll spare + 1
  | .agg parts => uptoBulkAll parts + 1
  | .iface _ d => uptoBulk d + 1
  | .map entries => uptoBulkEntries entries + 1
  | .held _ => 1
def uptoBulkAll {H : Type} : List (DataW H) → Nat
  | [] => 0
  | d :: r => uptoBulk d + uptoBulkAll r
def uptoBulkEntries {H : Type} : List (Lit × DataW H) → Nat
  | [] => 0
  | x :: r => uptoBulkEntry x + uptoBulkEntries r
def uptoBulkEntry {H : Type} : Lit × DataW H → Nat
  | (.string bytes, d) => bytes.length + uptoBulk d + 1
  | (_, d) => uptoBulk d + 1
 end
def uptoSmall : (H : Type) → List (DataW H) → Bool := fun _ ds => decide (uptoBulkAll ds ≤ 1048576)
def OpenSpec.upto (s : _root_.Go.ChangeSpec) : _root_.Go.OpenSpec := { _root_.Go.OpenSpec.ofChange s with cond := some uptoSmall }

/-- 'wapentakelaw6.SessionKnown', WHERE WHAT IT READS IS OF BULK AT MOST 1048576: true; the input reads as it did. -/
def sessionKnownUptoRow : OpenClaim := { program := "ytnkhnogdiphboaa", sum := "ec237acd67b2082a495f5a45b69dd072c4a26d71daf36bb65d28ef425cff169f", func := "wapentake/wapentakelaw6.SessionKnown", spec := "sessionKnown", unfollowed := true, recurses := true, apart := false, narrowed := true }
def SessionKnownUptoSaid : Prop := sessionKnownUptoRow.holds Try.pinned (OpenSpec.upto sessionKnownSpec)

/-- 'wapentakelaw6.SessionLeaves', WHERE WHAT IT READS IS OF BULK AT MOST 1048576: true; the input reads as it did. -/
def sessionLeavesUptoRow : OpenClaim := { program := "ytnkhnogdiphboaa", sum := "ec237acd67b2082a495f5a45b69dd072c4a26d71daf36bb65d28ef425cff169f", func := "wapentake/wapentakelaw6.SessionLeaves", spec := "sessionLeaves", unfollowed := true, recurses := true, apart := false, narrowed := true }
def SessionLeavesUptoSaid : Prop := sessionLeavesUptoRow.holds Try.pinned (OpenSpec.upto sessionLeavesSpec)

/-- 'wapentakelaw6.SessionOne', WHERE WHAT IT READS IS OF BULK AT MOST 1048576: true; the input reads as it did. -/
def sessionOneUptoRow : OpenClaim := { program := "ytnkhnogdiphboaa", sum := "ec237acd67b2082a495f5a45b69dd072c4a26d71daf36bb65d28ef425cff169f", func := "wapentake/wapentakelaw6.SessionOne", spec := "sessionOne", unfollowed := true, recurses := true, apart := false, narrowed := true }
def SessionOneUptoSaid : Prop := sessionOneUptoRow.holds Try.pinned (OpenSpec.upto sessionOneSpec)

/-- 'wapentakelaw6.SessionClones', WHERE WHAT IT READS IS OF BULK AT MOST 1048576: true; the input reads as it did. -/
def sessionClonesUptoRow : OpenClaim := { program := "ytnkhnogdiphboaa", sum := "ec237acd67b2082a495f5a45b69dd072c4a26d71daf36bb65d28ef425cff169f", func := "wapentake/wapentakelaw6.SessionClones", spec := "sessionClones", unfollowed := true, recurses := true, apart := false, narrowed := true }
def SessionClonesUptoSaid : Prop := sessionClonesUptoRow.holds Try.pinned (OpenSpec.upto sessionClonesSpec)

/-- 'wapentakelaw6.SessionPlays', WHERE WHAT IT READS IS OF BULK AT MOST 1048576: true; the input reads as it did. -/
def sessionPlaysUptoRow : OpenClaim := { program := "ytnkhnogdiphboaa", sum := "ec237acd67b2082a495f5a45b69dd072c4a26d71daf36bb65d28ef425cff169f", func := "wapentake/wapentakelaw6.SessionPlays", spec := "sessionPlays", unfollowed := true, recurses := true, apart := false, narrowed := true }
def SessionPlaysUptoSaid : Prop := sessionPlaysUptoRow.holds Try.pinned (OpenSpec.upto sessionPlaysSpec)

/-- 'wapentakelaw6.SessionOrder', WHERE WHAT IT READS IS OF BULK AT MOST 1048576: true; the input reads as it did. -/
def sessionOrderUptoRow : OpenClaim := { program := "ytnkhnogdiphboaa", sum := "ec237acd67b2082a495f5a45b69dd072c4a26d71daf36bb65d28ef425cff169f", func := "wapentake/wapentakelaw6.SessionOrder", spec := "sessionOrder", unfollowed := true, recurses := true, apart := false, narrowed := true }
def SessionOrderUptoSaid : Prop := sessionOrderUptoRow.holds Try.pinned (OpenSpec.upto sessionOrderSpec)

/-- 'wapentakelaw6.SessionLoads', WHERE WHAT IT READS IS OF BULK AT MOST 1048576: true; the input reads as it did. -/
def sessionLoadsUptoRow : OpenClaim := { program := "ytnkhnogdiphboaa", sum := "ec237acd67b2082a495f5a45b69dd072c4a26d71daf36bb65d28ef425cff169f", func := "wapentake/wapentakelaw6.SessionLoads", spec := "sessionLoads", unfollowed := true, recurses := true, apart := false, narrowed := true }
def SessionLoadsUptoSaid : Prop := sessionLoadsUptoRow.holds Try.pinned (OpenSpec.upto sessionLoadsSpec)

end Rows
end Go.Proofs.Ytnkhnogdiphboaa
