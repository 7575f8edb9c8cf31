/- The laws JudgeWrong and JudgeOrders: what the evaluator leaves, and that it holds. No condition. -/
import Derived.Test.YtgepebndihfnfaaGreatJMhE
import Derived.KernelRfl
set_option linter.unusedSimpArgs false
set_option linter.unusedVariables false

namespace Go.Proofs.YtgepebndihfnfaaGreat.Ses
open Go Go.Proofs Go.Proofs.YtgepebndihfnfaaGreat.Sx
noncomputable def jawT : Tri := { γ := Unit, n0 := 0, args := fun _ => [], blks := fun _ => [], pre := fun _ => True, δ := Unit, post := fun _ _ => True, n1 := 0, res := fun _ _ => .bool true, blks' := fun _ _ => [], scal := true }
noncomputable def jawE : Envr := Env Tryz.prog cod [(35, jlgT.spec)] []
noncomputable def smlI : St → LInv := fun s => match getE s.env 1 with
  | .mptr k _ => match s.m.blks.get k with
    | some (.cells cs) => match dec .request cs with
      | some (r : RequestD) => { σ := Nat, I := fun i => i ≤ r.changes.length, μ := fun i => r.changes.length - i, env := fun i => [(3, .int .i64 i)], blk := fun _ => [], fresh := 0, drop := [] }
      | none => LInv.none
    | _ => LInv.none
  | _ => LInv.none
noncomputable def smlT : Tri := { γ := RequestD, n0 := 0, args := fun r => [.agg (enc .request r)], blks := fun _ => [], pre := fun _ => True, δ := Bool, post := fun _ _ => True, n1 := 0, res := fun _ b => .bool b, blks' := fun _ _ => [], scal := true }
noncomputable def smlE : Envr := Env Tryz.prog cod [] [(4, smlI)]
noncomputable def smvI : St → LInv := fun s => match getE s.env 1 with
  | .mptr k _ => match s.m.blks.get k with
    | some (.cells cs) => match dec .verdict cs with
      | some (r : VerdictD) => { σ := Nat, I := fun i => i ≤ r.commits.length, μ := fun i => r.commits.length - i, env := fun i => [(3, .int .i64 i)], blk := fun _ => [], fresh := 0, drop := [] }
      | none => LInv.none
    | _ => LInv.none
  | _ => LInv.none
noncomputable def smvT : Tri := { γ := VerdictD, n0 := 0, args := fun r => [.agg (enc .verdict r)], blks := fun _ => [], pre := fun _ => True, δ := Bool, post := fun _ _ => True, n1 := 0, res := fun _ b => .bool b, blks' := fun _ _ => [], scal := true }
noncomputable def smvE : Envr := Env Tryz.prog cod [(91, smlT.spec)] [(4, smvI)]
structure JwrA where
  l : List RequestD
  k : Int
  v : VerdictD
def jwrArgs (x : JwrA) : List SV := [.rslice false .request x.l, .int .i64 x.k, .agg (enc .verdict x.v)]
def saidN (l : List RequestD) (w : List VerdictD) (r : RequestD) (v : VerdictD) (i : Nat) : Bool := (List.range i).any fun j => eqR (l.getD j RequestD.dflt) r && eqV (w.getD j ⟨0, 0, 0, [], 0, [], 0⟩) v
def fstN (l : List RequestD) (r : RequestD) (i : Nat) : Int := firstN (fun j => eqR (l.getD j RequestD.dflt) r) i
noncomputable def jwrI : St → LInv := fun s => match getE s.env 0, getE s.env 1, asL .verdict (getE s.env 9), getE s.env 5 with
  | .rslice _ .request l, .int _ a, some (w : List VerdictD), .mptr k _ => match s.m.blks.get k with
    | some (.cells cs) => match dec .verdict cs with
      | some (v : VerdictD) => { σ := Nat, I := fun i => i ≤ l.length, μ := fun i => l.length - i, env := fun i => [(13, .int .i64 i), (11, .bool (saidN l w (l.getD a.toNat RequestD.dflt) v i)), (12, .int .i64 (fstN l (l.getD a.toNat RequestD.dflt) i))], blk := fun _ => [], fresh := 0, drop := [] }
      | none => LInv.none
    | _ => LInv.none
  | _, _, _, _ => LInv.none
noncomputable def jwrE : Envr := Env Tryz.prog cod [(31, jawT.spec), (20, mroomT.spec), (37, smvT.spec), (32, rrun1T.spec), (34, firT.spec), (23, alikeT.spec), (35, jlgT.spec)] [(11, jwrI)]
end Go.Proofs.YtgepebndihfnfaaGreat.Ses

namespace Go.Proofs.YtgepebndihfnfaaGreat.Ses
open Go Go.Proofs Go.Proofs.YtgepebndihfnfaaGreat.Sx
set_option maxRecDepth 100000
abbrev jawQ1  := [(0 : Int), (1 : Int), (2 : Int)]
abbrev jawQ2  := [RequestD.mk (1 : Int) (Array.toList (ByteArray.data (ByteArray.mk (List.toArray [(99 : UInt8)])))) (0 : Int) (0 : Int) (0 : Int) ([] : List UInt8) ([] : List ChangeD) ([] : List UInt8) (0 : Int) (0 : Int) (0 : Int), RequestD.mk (2 : Int) ([] : List UInt8) (1 : Int) (1 : Int) (0 : Int) ([] : List UInt8) (List.take 1 (List.drop 0 [ChangeD.mk (Array.toList (ByteArray.data (ByteArray.mk (List.toArray [(97 : UInt8)])))) false (5 : Int)])) ([] : List UInt8) (0 : Int) (0 : Int) (0 : Int), RequestD.mk (3 : Int) ([] : List UInt8) (1 : Int) (2 : Int) (0 : Int) ([] : List UInt8) ([] : List ChangeD) ([] : List UInt8) (0 : Int) (0 : Int) (0 : Int)]
abbrev jawQ3  := DeedD.mk (0 : Int) false (List.getD jawQ2 (0 + (1 : Int).toNat) RequestD.dflt) (VerdictD.mk (2 : Int) (0 : Int) (1 : Int) ([] : List UInt8) (0 : Int) ([] : List CommitD) (0 : Int)) (1 : Int) (IntKind.wrap IntKind.i64 ((1 : Int) + (9 : Int))) (3 : Int)
abbrev jawQ4  := List.getD jawQ2 (0 + (2 : Int).toNat) RequestD.dflt
abbrev jawQ5  := IntKind.wrap IntKind.i64 ((2 : Int) + (9 : Int))
abbrev jawQ6  := [jawQ3, DeedD.mk (0 : Int) false jawQ4 (VerdictD.mk (8 : Int) (0 : Int) (1 : Int) ([] : List UInt8) (0 : Int) ([] : List CommitD) (0 : Int)) (2 : Int) jawQ5 (3 : Int)]
abbrev jawQ7 (x1 : JdA) := loggedD x1.ds (slotsD x1.l (runV x1.c x1.l) x1.ds)
abbrev jawQ8  := [jawQ3, DeedD.mk (0 : Int) false jawQ4 (VerdictD.mk (8 : Int) (0 : Int) (0 : Int) ([] : List UInt8) (0 : Int) ([] : List CommitD) (0 : Int)) (2 : Int) jawQ5 (3 : Int)]
theorem jaw_vc (x : jawT.γ) : evCall jawE (ev jawE 1000) 31 (jawT.args x) ⟨jawT.blks x, jawT.n0, []⟩ (fun _ _ => False) (jawT.ends x) = (
∃ x1 : JdA, 0 + 3 ≤ jawQ1.length ∧
List.take 3 (List.drop 0 jawQ1) = CfgD.M x1.c ∧
(2 : Int) = CfgD.a x1.c ∧
(3 : Int) = CfgD.z x1.c ∧
(0 : Int) = CfgD.keep x1.c ∧
(0 : Int) = CfgD.beat x1.c ∧
(0 : Int) = CfgD.term x1.c ∧
(0 : Int) = CfgD.lease x1.c ∧
(0 : Int) = CfgD.num x1.c ∧
(0 : Int) = CfgD.den x1.c ∧
0 + 3 ≤ jawQ2.length ∧
List.take 3 (List.drop 0 jawQ2) = x1.l ∧
0 + 2 ≤ jawQ6.length ∧
List.take 2 (List.drop 0 jawQ6) = x1.ds ∧
okL x1.l = true ∧
∀ x2 : Unit, True →
br (jawQ7 x1 == @Neg.neg Int _ (1 : Int)) (∃ x3 : JdA, 0 + 3 ≤ jawQ1.length ∧
List.take 3 (List.drop 0 jawQ1) = CfgD.M x3.c ∧
(2 : Int) = CfgD.a x3.c ∧
(3 : Int) = CfgD.z x3.c ∧
(0 : Int) = CfgD.keep x3.c ∧
(0 : Int) = CfgD.beat x3.c ∧
(0 : Int) = CfgD.term x3.c ∧
(0 : Int) = CfgD.lease x3.c ∧
(0 : Int) = CfgD.num x3.c ∧
(0 : Int) = CfgD.den x3.c ∧
0 + 3 ≤ jawQ2.length ∧
List.take 3 (List.drop 0 jawQ2) = x3.l ∧
0 + 2 ≤ jawQ8.length ∧
List.take 2 (List.drop 0 jawQ8) = x3.ds ∧
okL x3.l = true ∧
∀ x4 : Unit, True →
∃ x5 : Unit, (jawQ7 x3 == (1 : Int)) = true ∧
True) (∃ x6 : Unit, false = true ∧
True)) := by kernel_rfl
abbrev smlQ1  := ∃ x1 : Bool, false = x1 ∧
True
abbrev smlQ2 (x : smlT.γ) (x6 : Nat) := (List.getD (RequestD.changes x) (↑x6 : Int).toNat (ChangeD.mk ([] : List UInt8) false (0 : Int))).path.length
theorem sml_vc (x : smlT.γ) : evCall smlE (ev smlE 1000) 91 (smlT.args x) ⟨smlT.blks x, smlT.n0, []⟩ (fun _ _ => False) (smlT.ends x) = (
(RequestD.changes x).length * 32 ≤ room47 →
br (decide ((↑(RequestD.changes x).length : Int) > (200 : Int))) smlQ1 ((RequestD.name x).length ≤ maxI64 →
br (decide ((↑(RequestD.name x).length : Int) > (1000 : Int))) smlQ1 ((RequestD.ref x).length ≤ maxI64 →
br (decide ((↑(RequestD.ref x).length : Int) > (1000 : Int))) smlQ1 ((RequestD.path x).length ≤ maxI64 →
br (decide ((↑(RequestD.path x).length : Int) > (1000 : Int))) smlQ1 ((∃ x5 : Nat, (0 : Int) = (↑x5 : Int) ∧
Nat.le x5 (RequestD.changes x).length) ∧
∀ x6 : Nat, Nat.le x6 (RequestD.changes x).length →
(RequestD.changes x).length * 32 ≤ room47 →
br (decide ((↑x6 : Int) < (↑(RequestD.changes x).length : Int))) (br (decide ((0 : Int) ≤ (↑x6 : Int) ∧
(↑x6 : Int) < (↑(RequestD.changes x).length : Int))) (smlQ2 x x6 ≤ maxI64 →
br (decide ((↑(smlQ2 x x6) : Int) > (1000 : Int))) smlQ1 (∃ x8 : Nat, IntKind.wrap IntKind.i64 ((↑x6 : Int) + (1 : Int)) = (↑x8 : Int) ∧
Nat.le x8 (RequestD.changes x).length ∧
Nat.sub (RequestD.changes x).length x8 < Nat.sub (RequestD.changes x).length x6)) (Bad "check" "law.go:26")) (∃ x9 : Bool, true = x9 ∧
True)))))) := by kernel_rfl
abbrev smvQ1  := ∃ x1 : Bool, false = x1 ∧
True
abbrev smvQ2 (x4 : Nat) (x : smvT.γ) := decide ((0 : Int) ≤ (↑x4 : Int) ∧
(↑x4 : Int) < (↑(VerdictD.commits x).length : Int))
abbrev smvQ3 (x : smvT.γ) (x4 : Nat) := List.getD (VerdictD.commits x) (↑x4 : Int).toNat (CommitD.mk (0 : Int) (0 : Int) ([] : List UInt8) ([] : List ChangeD))
theorem smv_vc (x : smvT.γ) : evCall smvE (ev smvE 1000) 37 (smvT.args x) ⟨smvT.blks x, smvT.n0, []⟩ (fun _ _ => False) (smvT.ends x) = (
(VerdictD.commits x).length * 56 ≤ room47 →
br (decide ((↑(VerdictD.commits x).length : Int) > (100 : Int))) smvQ1 ((VerdictD.path x).length ≤ maxI64 →
br (decide ((↑(VerdictD.path x).length : Int) > (1000 : Int))) smvQ1 ((∃ x3 : Nat, (0 : Int) = (↑x3 : Int) ∧
Nat.le x3 (VerdictD.commits x).length) ∧
∀ x4 : Nat, Nat.le x4 (VerdictD.commits x).length →
(VerdictD.commits x).length * 56 ≤ room47 →
br (decide ((↑x4 : Int) < (↑(VerdictD.commits x).length : Int))) (br (smvQ2 x4 x) (br (smvQ2 x4 x) (∃ x5 : RequestD, (0 : Int) = x5.kind ∧
([] : List UInt8) = x5.name ∧
(0 : Int) = x5.session ∧
(0 : Int) = x5.seq ∧
(0 : Int) = x5.base ∧
(smvQ3 x x4).ref = x5.ref ∧
(smvQ3 x x4).changes = x5.changes ∧
([] : List UInt8) = x5.path ∧
(0 : Int) = x5.from_ ∧
(0 : Int) = x5.many ∧
(0 : Int) = x5.member ∧
True ∧
∀ x6 : Bool, True →
br x6.not smvQ1 (∃ x8 : Nat, IntKind.wrap IntKind.i64 ((↑x4 : Int) + (1 : Int)) = (↑x8 : Int) ∧
Nat.le x8 (VerdictD.commits x).length ∧
Nat.sub (VerdictD.commits x).length x8 < Nat.sub (VerdictD.commits x).length x4)) (Bad "check" "law.go:39")) (Bad "check" "law.go:39")) (∃ x9 : Bool, true = x9 ∧
True)))) := by kernel_rfl
abbrev jwrQ1  := [(0 : Int), (1 : Int), (2 : Int)]
abbrev jwrQ2  := List.take 3 (List.drop 0 jwrQ1)
abbrev jwrQ3 (x : JwrA) := Int.tmod (IntKind.wrap IntKind.i64 (Int.tmod (JwrA.k x) (↑(JwrA.l x).length : Int) + (↑(JwrA.l x).length : Int))) (↑(JwrA.l x).length : Int)
abbrev jwrQ4 (x : JwrA) := List.getD (JwrA.l x) (jwrQ3 x).toNat RequestD.dflt
abbrev jwrQ5 (x : JwrA) (x7 : RunA) (x9 : Nat) := saidN (JwrA.l x) (verdF (RunA.f x7) (RunA.l x7)) (jwrQ4 x) (JwrA.v x) x9
abbrev jwrQ6 (x : JwrA) := decide ((0 : Int) ≤ jwrQ3 x ∧
jwrQ3 x < (↑(JwrA.l x).length : Int))
abbrev jwrQ7 (x10 : Nat) (x13 : Nat) := IntKind.wrap IntKind.i64 ((↑x10 : Int) + (1 : Int)) = (↑x13 : Int)
abbrev jwrQ8 (x13 : Nat) (x : JwrA) (x10 : Nat) := Nat.le x13 (JwrA.l x).length ∧
Nat.sub (JwrA.l x).length x13 < Nat.sub (JwrA.l x).length x10
abbrev jwrQ9 (x : JwrA) (x10 : Nat) (x14 : Nat) := fstN (JwrA.l x) (jwrQ4 x) x10 = fstN (JwrA.l x) (jwrQ4 x) x14 ∧
jwrQ8 x14 x x10
abbrev jwrQ10 (x7 : RunA) := (↑(verdF (RunA.f x7) (RunA.l x7)).length : Int)
abbrev jwrQ11  := VerdictD.mk (0 : Int) (0 : Int) (0 : Int) ([] : List UInt8) (0 : Int) ([] : List CommitD) (0 : Int)
abbrev jwrQ12 (x : JwrA) (x10 : Nat) (x7 : RunA) := decide ((0 : Int) ≤ fstN (JwrA.l x) (jwrQ4 x) x10 ∧
fstN (JwrA.l x) (jwrQ4 x) x10 < jwrQ10 x7)
abbrev jwrQ13 (x : JwrA) := [DeedD.mk (0 : Int) false (jwrQ4 x) (JwrA.v x) (1 : Int) (2 : Int) (↑(JwrA.l x).length : Int)]
abbrev jwrQ14 (x20 : JdA) := loggedD x20.ds (slotsD x20.l (runV x20.c x20.l) x20.ds)
abbrev jwrQ15 (x7 : RunA) (x : JwrA) (x10 : Nat) := List.getD (verdF (RunA.f x7) (RunA.l x7)) (fstN (JwrA.l x) (jwrQ4 x) x10).toNat jwrQ11
abbrev jwrQ16 (x : JwrA) (x7 : RunA) (x10 : Nat) := DeedD.mk (0 : Int) false (jwrQ4 x) (jwrQ15 x7 x x10) (1 : Int) (2 : Int) (↑(JwrA.l x).length : Int)
abbrev jwrQ17 (x : JwrA) (x7 : RunA) (x10 : Nat) := [jwrQ16 x x7 x10, DeedD.mk (0 : Int) false (jwrQ4 x) (jwrQ15 x7 x x10) (1 : Int) (2 : Int) (fstN (JwrA.l x) (jwrQ4 x) x10)]
theorem jwr_vc (x : JwrA) : evCall jwrE (ev jwrE 1000) 8 (jwrArgs x) ⟨[], 0, []⟩ (fun _ _ => False) (fun v _ => TrueV v) = (
∃ x1 : Unit, True ∧
∀ x2 : Unit, True →
∃ x3 : RmA, JwrA.l x = x3.l ∧
(50 : Int) = x3.most ∧
True ∧
∀ x4 : Unit, True →
br (roomM x3.l x3.most).not (true = true) (∃ x5 : VerdictD, EqV (JwrA.v x) x5 (True ∧
∀ x6 : Bool, True →
br x6.not (true = true) ((JwrA.l x).length * 128 ≤ room47 →
br ((↑(JwrA.l x).length : Int) == (0 : Int)) (true = true) ((JwrA.l x).length * 128 ≤ room47 →
br ((↑(JwrA.l x).length : Int) != (0 : Int)) (br ((↑(JwrA.l x).length : Int) != (0 : Int)) (∃ x7 : RunA, 0 + 3 ≤ jwrQ1.length ∧
jwrQ2 = CfgD.M (RunA.c x7) ∧
(2 : Int) = CfgD.a (RunA.c x7) ∧
(3 : Int) = CfgD.z (RunA.c x7) ∧
(0 : Int) = CfgD.keep (RunA.c x7) ∧
(0 : Int) = CfgD.beat (RunA.c x7) ∧
(0 : Int) = CfgD.term (RunA.c x7) ∧
(0 : Int) = CfgD.lease (RunA.c x7) ∧
(0 : Int) = CfgD.num (RunA.c x7) ∧
(0 : Int) = CfgD.den (RunA.c x7) ∧
JwrA.l x = RunA.l x7 ∧
RunA.ok x7 = true ∧
∀ x8 : Unit, True →
(∃ x9 : Nat, (0 : Int) = (↑x9 : Int) ∧
false = jwrQ5 x x7 x9 ∧
@Neg.neg Int _ (1 : Int) = fstN (JwrA.l x) (jwrQ4 x) x9 ∧
Nat.le x9 (JwrA.l x).length) ∧
∀ x10 : Nat, Nat.le x10 (JwrA.l x).length →
br (decide ((↑x10 : Int) < (↑(JwrA.l x).length : Int))) (br (decide ((0 : Int) ≤ (↑x10 : Int) ∧
(↑x10 : Int) < (↑(JwrA.l x).length : Int))) (br (jwrQ6 x) (∃ x11 : FirA, 0 + 1 ≤ [List.getD (JwrA.l x) (↑x10 : Int).toNat RequestD.dflt].length ∧
List.take 1 (List.drop 0 [List.getD (JwrA.l x) (↑x10 : Int).toNat RequestD.dflt]) = x11.l ∧
EqQ (jwrQ4 x) x11.r (True ∧
∀ x12 : Unit, True →
br (idxR x11.r x11.l == (0 : Int)) (br (jwrQ5 x x7 x10) (br (decide (fstN (JwrA.l x) (jwrQ4 x) x10 < (0 : Int))) (∃ x13 : Nat, jwrQ7 x10 x13 ∧
true = jwrQ5 x x7 x13 ∧
(↑x10 : Int) = fstN (JwrA.l x) (jwrQ4 x) x13 ∧
jwrQ8 x13 x x10) (∃ x14 : Nat, jwrQ7 x10 x14 ∧
true = jwrQ5 x x7 x14 ∧
jwrQ9 x x10 x14)) (br (decide ((0 : Int) ≤ (↑x10 : Int) ∧
(↑x10 : Int) < jwrQ10 x7)) (∃ x15 : Ver2, EqV (List.getD (verdF (RunA.f x7) (RunA.l x7)) (↑x10 : Int).toNat jwrQ11) x15.a (EqV (JwrA.v x) x15.b (True ∧
∀ x16 : Unit, True →
br (decide (fstN (JwrA.l x) (jwrQ4 x) x10 < (0 : Int))) (∃ x17 : Nat, jwrQ7 x10 x17 ∧
eqV x15.a x15.b = jwrQ5 x x7 x17 ∧
(↑x10 : Int) = fstN (JwrA.l x) (jwrQ4 x) x17 ∧
jwrQ8 x17 x x10) (∃ x18 : Nat, jwrQ7 x10 x18 ∧
eqV x15.a x15.b = jwrQ5 x x7 x18 ∧
jwrQ9 x x10 x18)))) (Bad "check" "law.go:152"))) (∃ x19 : Nat, jwrQ7 x10 x19 ∧
jwrQ5 x x7 x10 = jwrQ5 x x7 x19 ∧
jwrQ9 x x10 x19))) (Bad "check" "law.go:151")) (Bad "check" "law.go:151")) (br (jwrQ6 x) (br (jwrQ6 x) (br (jwrQ12 x x10 x7) (br (jwrQ6 x) (br (jwrQ12 x x10 x7) (Twice (∃ x20 : JdA, 0 + 3 ≤ jwrQ1.length ∧
jwrQ2 = CfgD.M x20.c ∧
(2 : Int) = CfgD.a x20.c ∧
(3 : Int) = CfgD.z x20.c ∧
(0 : Int) = CfgD.keep x20.c ∧
(0 : Int) = CfgD.beat x20.c ∧
(0 : Int) = CfgD.term x20.c ∧
(0 : Int) = CfgD.lease x20.c ∧
(0 : Int) = CfgD.num x20.c ∧
(0 : Int) = CfgD.den x20.c ∧
JwrA.l x = x20.l ∧
0 + 1 ≤ (jwrQ13 x).length ∧
List.take 1 (List.drop 0 (jwrQ13 x)) = x20.ds ∧
okL x20.l = true ∧
∀ x21 : Unit, True →
br ((jwrQ14 x20 == @Neg.neg Int _ (1 : Int)) == jwrQ5 x x7 x10) (Twice (∃ x22 : JdA, 0 + 3 ≤ jwrQ1.length ∧
jwrQ2 = CfgD.M x22.c ∧
(2 : Int) = CfgD.a x22.c ∧
(3 : Int) = CfgD.z x22.c ∧
(0 : Int) = CfgD.keep x22.c ∧
(0 : Int) = CfgD.beat x22.c ∧
(0 : Int) = CfgD.term x22.c ∧
(0 : Int) = CfgD.lease x22.c ∧
(0 : Int) = CfgD.num x22.c ∧
(0 : Int) = CfgD.den x22.c ∧
JwrA.l x = x22.l ∧
0 + 2 ≤ (jwrQ17 x x7 x10).length ∧
List.take 2 (List.drop 0 (jwrQ17 x x7 x10)) = x22.ds ∧
okL x22.l = true ∧
∀ x23 : Unit, True →
br (jwrQ14 x22 == (1 : Int)) (Twice (∃ x24 : JdA, 0 + 3 ≤ jwrQ1.length ∧
jwrQ2 = CfgD.M x24.c ∧
(2 : Int) = CfgD.a x24.c ∧
(3 : Int) = CfgD.z x24.c ∧
(0 : Int) = CfgD.keep x24.c ∧
(0 : Int) = CfgD.beat x24.c ∧
(0 : Int) = CfgD.term x24.c ∧
(0 : Int) = CfgD.lease x24.c ∧
(0 : Int) = CfgD.num x24.c ∧
(0 : Int) = CfgD.den x24.c ∧
JwrA.l x = x24.l ∧
0 + 1 ≤ [jwrQ16 x x7 x10].length ∧
List.take 1 (List.drop 0 [jwrQ16 x x7 x10]) = x24.ds ∧
okL x24.l = true ∧
∀ x25 : Unit, True →
(jwrQ14 x24 == @Neg.neg Int _ (1 : Int)) = true)) (false = true ∧
false = true))) ((false = true ∧
false = true) ∧
false = true ∧
false = true))) (Bad "check" "law.go:160")) (Bad "check" "law.go:160")) (Bad "check" "law.go:159")) (Bad "check" "law.go:159")) (Bad "check" "law.go:158"))) (Bad "check" "law.go:146")) (Bad "check" "law.go:146")))))) := by kernel_rfl
end Go.Proofs.YtgepebndihfnfaaGreat.Ses

namespace Go.Proofs.YtgepebndihfnfaaGreat.Ses
open Go Go.Proofs Go.Proofs.YtgepebndihfnfaaGreat.Sx
theorem jaw_ok : SpecOK Tryz.prog 31 jawT.spec := by
  refine Tri.ok (E := jawE) (Env_ok (by decide +kernel) (by simp [jlg_ok])) (n := 1000) jawT fun x _ => ?_
  rw [jaw_vc]
  delta jawQ8 jawQ7 jawQ6 jawQ5 jawQ4 jawQ3 jawQ2 jawQ1
  exact ⟨⟨cf0, _, _⟩, Nat.le_refl 3, rfl, rfl, rfl, rfl, rfl, rfl, rfl, rfl, rfl, Nat.le_refl 3, rfl, Nat.le_refl 2, rfl, by decide +kernel, fun _ _ => br_t (by decide +kernel) ⟨⟨cf0, _, _⟩, Nat.le_refl 3, rfl, rfl, rfl, rfl, rfl, rfl, rfl, rfl, rfl, Nat.le_refl 3, rfl, Nat.le_refl 2, rfl, by decide +kernel, fun _ _ => ⟨(), by decide +kernel, trivial⟩⟩⟩
theorem sml_ok : SpecOK Tryz.prog 91 smlT.spec := by
  refine Tri.ok (E := smlE) (Env_ok (by decide +kernel) (by simp)) (n := 1000) smlT fun x _ => ?_
  rw [sml_vc]
  delta smlQ2 smlQ1
  revert x
  intro (x : RequestD)
  refine fun _ hc => br_i (fun _ => ⟨_, rfl, trivial⟩) fun _ _ => br_i (fun _ => ⟨_, rfl, trivial⟩) fun _ _ => br_i (fun _ => ⟨_, rfl, trivial⟩) fun _ _ => br_i (fun _ => ⟨_, rfl, trivial⟩) fun _ => ⟨⟨0, rfl, Nat.zero_le _⟩, fun i hi _ => br_i (fun h1 => ?_) (fun _ => ⟨_, rfl, trivial⟩)⟩
  have hc : x.changes.length * 32 ≤ room47 := hc
  have h1 : (i : Int) < (x.changes.length : Int) := of_decide_eq_true h1
  have hsm : x.changes.length ≤ 4398046511104 := by unfold room47 at hc; omega
  exact br_t (decide_eq_true ⟨by omega, h1⟩) fun _ => br_i (fun _ => ⟨_, rfl, trivial⟩) fun _ => ⟨i + 1, by rw [wrap_id (by omega) (by omega)]; rfl, by show i + 1 ≤ x.changes.length; omega, by show x.changes.length - (i + 1) < x.changes.length - i; omega⟩
theorem smv_ok : SpecOK Tryz.prog 37 smvT.spec := by
  refine Tri.ok (E := smvE) (Env_ok (by decide +kernel) (by simp [sml_ok])) (n := 1000) smvT fun x _ => ?_
  rw [smv_vc]
  delta smvQ3 smvQ2 smvQ1
  revert x
  intro (x : VerdictD)
  refine fun _ hc => br_i (fun _ => ⟨_, rfl, trivial⟩) fun _ _ => br_i (fun _ => ⟨_, rfl, trivial⟩) fun _ => ⟨⟨0, rfl, Nat.zero_le _⟩, fun i hi _ => br_i (fun h1 => ?_) (fun _ => ⟨_, rfl, trivial⟩)⟩
  have hc : x.commits.length * 56 ≤ room47 := hc
  have h1 : (i : Int) < (x.commits.length : Int) := of_decide_eq_true h1
  have hsm : x.commits.length ≤ 4398046511104 := by unfold room47 at hc; omega
  have bi : decide ((0 : Int) ≤ (i : Int) ∧ (i : Int) < (x.commits.length : Int)) = true := decide_eq_true ⟨by omega, h1⟩
  exact br_t bi (br_t bi ⟨⟨0, [], 0, 0, 0, _, _, [], 0, 0, 0⟩, rfl, rfl, rfl, rfl, rfl, rfl, rfl, rfl, rfl, rfl, rfl, trivial, fun _ _ => br_i (fun _ => ⟨_, rfl, trivial⟩) fun _ => ⟨i + 1, by rw [wrap_id (by omega) (by omega)]; rfl, by show i + 1 ≤ x.commits.length; omega, by show x.commits.length - (i + 1) < x.commits.length - i; omega⟩⟩)
theorem firstN_keep {p : Nat → Bool} {i : Nat} (h : 0 ≤ firstN p i) : firstN p (i + 1) = firstN p i := by
  rcases firstN_spec p i with ⟨h1, _⟩ | ⟨k, h1, h2, h3, h4⟩
  · omega
  · rw [h2]; exact firstN_at (by omega) h3 h4
theorem firstN_hit {p : Nat → Bool} {i : Nat} (h : firstN p i < 0) (hp : p i = true) : firstN p (i + 1) = i := by
  rcases firstN_spec p i with ⟨_, h2⟩ | ⟨k, h1, h2, h3, h4⟩
  · exact firstN_at (by omega) hp h2
  · omega
theorem firstN_miss {p : Nat → Bool} {i : Nat} (hp : p i = false) : firstN p (i + 1) = firstN p i := by
  rcases firstN_spec p i with ⟨h1, h2⟩ | ⟨k, h1, h2, h3, h4⟩
  · rw [h1]; exact firstN_no fun j hj => by
      by_cases e : j = i
      · rw [e]; exact hp
      · exact h2 j (by omega)
  · rw [h2]; exact firstN_at (by omega) h3 h4
theorem said_succ (l : List RequestD) (w : List VerdictD) (r : RequestD) (v : VerdictD) (i : Nat) : saidN l w r v (i + 1) = (saidN l w r v i || (eqR (l.getD i RequestD.dflt) r && eqV (w.getD i ⟨0, 0, 0, [], 0, [], 0⟩) v)) := by
  unfold saidN
  rw [List.range_succ, List.any_append]; simp
theorem idx_one (x r : RequestD) : (idxR r [x] == (0 : Int)) = eqR x r := by
  unfold idxR
  cases eqR x r
  · rfl
  · rfl
theorem any_first (p : Nat → Bool) (n : Nat) : ((List.range n).any p = false ∧ firstN p n = -1) ∨ ((List.range n).any p = true ∧ 0 ≤ firstN p n ∧ firstN p n < n) := by
  rcases firstN_spec p n with ⟨h1, h2⟩ | ⟨k, h1, h2, h3, h4⟩
  · exact .inl ⟨List.any_eq_false.2 fun j hj => by rw [h2 j (List.mem_range.1 hj)]; decide, h1⟩
  · exact .inr ⟨List.any_eq_true.2 ⟨k, List.mem_range.2 h1, h3⟩, by omega, by omega⟩
theorem logged_one (d : DeedD) (s : Int) (h : logD d = true) : loggedD [d] [s] = bif decide (s < 0) || decide (s ≥ d.row) then 0 else -1 := by
  have hc : condD [d] [s] 0 0 = false := rfl
  have hb : badD [d] [s] 0 = (decide (s < 0) || decide (s ≥ d.row)) := by
    show (logD d && (decide (s < 0) || (decide (s ≥ d.row) || (condD [d] [s] 0 0 || false)))) = _
    rw [h, hc]; simp
  show firstN (badD [d] [s]) 1 = _
  cases hq : (decide (s < 0) || decide (s ≥ d.row))
  · rw [hq] at hb
    exact firstN_no fun j hj => by
      have : j = 0 := by omega
      rw [this]; exact hb
  · rw [hq] at hb
    exact firstN_at (i := 0) (by decide) hb fun j hj => absurd hj (Nat.not_lt_zero _)
theorem logged_two (z y : DeedD) (s : Int) (hz : logD z = true) (hy : logD y = true) (h0 : 0 ≤ s) (hs : s < z.row) (hr : y.row ≤ s) (ht : ¬ y.told ≤ z.sent) : loggedD [z, y] [s, s] = 1 := by
  have c0 : condD [z, y] [s, s] 0 0 = false := rfl
  have c1 : condD [z, y] [s, s] 0 1 = false := by
    show (true && (logD y && (decide (y.told ≤ z.sent) && decide (s ≥ s)))) = false
    rw [decide_eq_false ht]; simp
  have b0 : badD [z, y] [s, s] 0 = false := by
    show (logD z && (decide (s < 0) || (decide (s ≥ z.row) || (condD [z, y] [s, s] 0 0 || (condD [z, y] [s, s] 0 1 || false))))) = _
    rw [c0, c1, decide_eq_false (by omega : ¬ s < 0), decide_eq_false (by omega : ¬ s ≥ z.row)]; simp
  have b1 : badD [z, y] [s, s] 1 = true := by
    show (logD y && (decide (s < 0) || (decide (s ≥ y.row) || _))) = true
    rw [hy, decide_eq_true (by omega : s ≥ y.row)]; simp
  exact firstN_at (i := 1) (n := 2) (by decide) b1 fun j hj => by
    have : j = 0 := by omega
    rw [this]; exact b0
theorem jwr_ok : EnvOK jwrE := Env_ok (by decide +kernel) (by
  intro p hp
  simp only [List.mem_cons, List.mem_nil_iff, or_false] at hp
  rcases hp with rfl | rfl | rfl | rfl | rfl | rfl | rfl
  · exact jaw_ok
  · exact mroom_ok
  · exact smv_ok
  · exact rrun1_ok
  · exact rfir_ok
  · exact alike_ok
  · exact jlg_ok)
set_option maxHeartbeats 0 in
theorem jwr_body (x : JwrA) (hl : ∀ r, r ∈ x.l → inI r.from_ = true) : evCall jwrE (ev jwrE 1000) 8 (jwrArgs x) ⟨[], 0, []⟩ (fun _ _ => False) (fun v _ => TrueV v) := by
  rw [jwr_vc]
  delta jwrQ17 jwrQ16 jwrQ15 jwrQ14 jwrQ13 jwrQ12 jwrQ11 jwrQ10 jwrQ9 jwrQ8 jwrQ7 jwrQ6 jwrQ5 jwrQ4 jwrQ3 jwrQ2 jwrQ1 EqQ EqV
  obtain ⟨l, k, v⟩ := x
  dsimp only at *
  refine ⟨(), trivial, fun _ _ => ⟨⟨l, 50⟩, rfl, rfl, trivial, fun _ _ => br_i (fun _ => rfl) fun hr => ⟨v, rfl, rfl, rfl, rfl, rfl, rfl, rfl, trivial, fun sm _ => br_i (fun _ => rfl) fun _ _ => br_i (fun _ => rfl) fun hn => ?_⟩⟩⟩
  rw [Bool.not_eq_false'] at hr
  have hL : okL l = true := room_okL hr (by show (50 : Int) ≤ 4000; omega) hl
  obtain ⟨l50, _⟩ := roomM_of hr
  have l50 : (l.length : Int) ≤ 50 := l50
  have hn : ¬ (l.length : Int) = 0 := fun e => by rw [e] at hn; cases hn
  obtain ⟨a, ha, hA⟩ := cut_in (n := l.length) k (by omega) (by omega)
  rw [hA]
  have e0 : (a : Int).toNat = a := rfl
  rw [e0]
  have nz : ((l.length : Int) != (0 : Int)) = true := bne_iff_ne.2 hn
  have hok := cf0_ok hL
  have hw : runV cf0 l = verdF (RunA.f ⟨cf0, l⟩) l := runV_ok l (by decide)
  refine fun _ => br_t nz (br_t nz ⟨⟨cf0, l⟩, Nat.le_refl 3, rfl, rfl, rfl, rfl, rfl, rfl, rfl, rfl, rfl, rfl, hok, fun _ _ => ?_⟩)
  dsimp only
  have hwl : (verdF (RunA.f ⟨cf0, l⟩) l).length = l.length := verd_len _ _
  generalize verdF (RunA.f ⟨cf0, l⟩) l = w at hw hwl ⊢
  have ba : decide ((0 : Int) ≤ (a : Int) ∧ (a : Int) < (l.length : Int)) = true := decide_eq_true ⟨by omega, by omega⟩
  have hra : eqR (l.getD a RequestD.dflt) (l.getD a RequestD.dflt) = true := eqR_self _
  have hpa : (fun j => eqR (l.getD j RequestD.dflt) (l.getD a RequestD.dflt)) a = true := hra
  generalize hrr : l.getD a RequestD.dflt = r at hpa ⊢
  refine ⟨⟨0, rfl, rfl, rfl, Nat.zero_le _⟩, fun i hi => br_i (fun h1 => ?_) (fun h1 => ?_)⟩
  · have h1 : (i : Int) < (l.length : Int) := of_decide_eq_true h1
    have bi : decide ((0 : Int) ≤ (i : Int) ∧ (i : Int) < (l.length : Int)) = true := decide_eq_true ⟨by omega, h1⟩
    have bw : decide ((0 : Int) ≤ (i : Int) ∧ (i : Int) < (w.length : Int)) = true := decide_eq_true ⟨by omega, by omega⟩
    have hi1 : IntKind.i64.wrap ((i : Int) + 1) = ((i + 1 : Nat) : Int) := by rw [wrap_id (by omega) (by omega)]; rfl
    have hle : (i + 1).le l.length := by show i + 1 ≤ l.length; omega
    have hms : l.length.sub (i + 1) < l.length.sub i := by show l.length - (i + 1) < l.length - i; omega
    have ei : (i : Int).toNat = i := rfl
    rw [ei]
    have hs := said_succ l w r v i
    have hkeep : ∀ h : 0 ≤ fstN l r i, fstN l r i = fstN l r (i + 1) := fun h => (firstN_keep h).symm
    have hhit : fstN l r i < 0 → eqR (l.getD i RequestD.dflt) r = true → (i : Int) = fstN l r (i + 1) := fun h hp => (firstN_hit h hp).symm
    have hmiss : eqR (l.getD i RequestD.dflt) r = false → fstN l r i = fstN l r (i + 1) := fun hp => (firstN_miss (p := fun j => eqR (l.getD j RequestD.dflt) r) hp).symm
    generalize l.getD i RequestD.dflt = q at hs hhit hmiss ⊢
    refine br_t bi (br_t ba ⟨⟨[q], r⟩, Nat.le_refl 1, rfl, rfl, rfl, rfl, rfl, rfl, rfl, rfl, rfl, rfl, rfl, rfl, trivial, fun _ _ => br_i (fun g => ?_) (fun g => ?_)⟩)
    · have g : (idxR r [q] == (0 : Int)) = true := g
      rw [idx_one] at g
      refine br_i (fun s => br_i (fun f => ⟨i + 1, hi1, ?_, hhit (of_decide_eq_true f) g, hle, hms⟩) (fun f => ⟨i + 1, hi1, ?_, hkeep (by have := of_decide_eq_false f; omega), hle, hms⟩)) (fun s => br_t bw ⟨⟨_, v⟩, rfl, rfl, rfl, rfl, rfl, rfl, rfl, rfl, rfl, rfl, rfl, rfl, rfl, rfl, trivial, fun _ _ => br_i (fun f => ⟨i + 1, hi1, ?_, hhit (of_decide_eq_true f) g, hle, hms⟩) (fun f => ⟨i + 1, hi1, ?_, hkeep (by have := of_decide_eq_false f; omega), hle, hms⟩)⟩)
      · rw [hs, s]; rfl
      · rw [hs, s]; rfl
      · rw [hs, s, g]; rfl
      · rw [hs, s, g]; rfl
    · have g : (idxR r [q] == (0 : Int)) = false := g
      rw [idx_one] at g
      exact ⟨i + 1, hi1, by rw [hs, g]; simp, hmiss g, hle, hms⟩
  · have h1 : ¬ (i : Int) < (l.length : Int) := of_decide_eq_false h1
    have hi : i ≤ l.length := hi
    have : i = l.length := by omega
    subst this
    obtain ⟨m, hm, hf, hfp, hfb⟩ : ∃ m : Nat, m < l.length ∧ fstN l r l.length = m ∧ eqR (l.getD m RequestD.dflt) r = true ∧ ∀ j, j < m → eqR (l.getD j RequestD.dflt) r = false := by
      rcases firstN_spec (fun j => eqR (l.getD j RequestD.dflt) r) l.length with ⟨_, h2⟩ | h
      · have h3 : eqR (l.getD a RequestD.dflt) r = true := hpa
        have h2 := h2 a ha
        rw [h3] at h2; cases h2
      · exact h
    rw [hf]
    have em : (m : Int).toNat = m := rfl
    rw [em]
    have bm : decide ((0 : Int) ≤ (m : Int) ∧ (m : Int) < (w.length : Int)) = true := decide_eq_true ⟨by omega, by omega⟩
    have hx : (loggedD [⟨0, false, r, v, 1, 2, l.length⟩] (slotsD l w [⟨0, false, r, v, 1, 2, l.length⟩]) == (-1 : Int)) = saidN l w r v l.length := by
      show (loggedD _ [slotD l w _] == _) = _
      rw [logged_one _ _ rfl]
      have e1 : slotD l w ⟨0, false, r, v, 1, 2, l.length⟩ = firstN (hitD l w ⟨0, false, r, v, 1, 2, l.length⟩) l.length := by rw [← hwl]; rfl
      have e2 : saidN l w r v l.length = (List.range l.length).any (hitD l w ⟨0, false, r, v, 1, 2, l.length⟩) := rfl
      rw [e1, e2]
      rcases any_first (hitD l w ⟨0, false, r, v, 1, 2, l.length⟩) l.length with ⟨p1, p2⟩ | ⟨p1, p2, p3⟩
      · rw [p1, p2]; rfl
      · rw [p1, decide_eq_false (by omega : ¬ _ < _), decide_eq_false (by show ¬ (l.length : Int) ≤ _; omega)]; rfl
    generalize hv : w.getD m ⟨0, 0, 0, [], 0, [], 0⟩ = u
    have hsl : ∀ row : Int, slotD l w ⟨0, false, r, u, 1, 2, row⟩ = m := fun row => by
      show firstN (hitD l w ⟨0, false, r, u, 1, 2, row⟩) w.length = m
      refine firstN_at (by omega) ?_ fun j hj => ?_
      · show (eqR (l.getD m RequestD.dflt) r && eqV (w.getD m ⟨0, 0, 0, [], 0, [], 0⟩) u) = true
        rw [hfp, hv, eqV_self]; rfl
      · show (eqR (l.getD j RequestD.dflt) r && _) = false
        rw [hfb j hj]; rfl
    have hy : (loggedD [⟨0, false, r, u, 1, 2, l.length⟩, ⟨0, false, r, u, 1, 2, m⟩] (slotsD l w [⟨0, false, r, u, 1, 2, l.length⟩, ⟨0, false, r, u, 1, 2, m⟩]) == (1 : Int)) = true := by
      show (loggedD _ [slotD l w _, slotD l w _] == _) = _
      rw [hsl, hsl, logged_two _ _ _ rfl rfl (by omega) (by show (m : Int) < (l.length : Int); omega) (by show (m : Int) ≤ (m : Int); omega) (by show ¬ (2 : Int) ≤ 1; omega)]; rfl
    have hz : (loggedD [⟨0, false, r, u, 1, 2, l.length⟩] (slotsD l w [⟨0, false, r, u, 1, 2, l.length⟩]) == (-1 : Int)) = true := by
      show (loggedD _ [slotD l w _] == _) = _
      rw [logged_one _ _ rfl, hsl, decide_eq_false (by omega : ¬ (m : Int) < 0), decide_eq_false (by show ¬ (l.length : Int) ≤ (m : Int); omega)]; rfl
    refine br_t ba (br_t ba (br_t bm (br_t ba (br_t bm (twice ⟨⟨cf0, l, _⟩, Nat.le_refl 3, rfl, rfl, rfl, rfl, rfl, rfl, rfl, rfl, rfl, rfl, Nat.le_refl 1, rfl, hL, fun _ _ => br_t ?_ (twice ⟨⟨cf0, l, _⟩, Nat.le_refl 3, rfl, rfl, rfl, rfl, rfl, rfl, rfl, rfl, rfl, rfl, Nat.le_refl 2, rfl, hL, fun _ _ => br_t ?_ (twice ⟨⟨cf0, l, _⟩, Nat.le_refl 3, rfl, rfl, rfl, rfl, rfl, rfl, rfl, rfl, rfl, rfl, Nat.le_refl 1, rfl, hL, fun _ _ => ?_⟩)⟩)⟩)))))
    · dsimp only
      rw [hw]
      show ((loggedD [⟨0, false, r, v, 1, 2, l.length⟩] (slotsD l w [⟨0, false, r, v, 1, 2, l.length⟩]) == (-1 : Int)) == saidN l w r v l.length) = true
      rw [hx]; exact beq_self_eq_true _
    · dsimp only
      rw [hw]
      exact hy
    · dsimp only
      rw [hw]
      exact hz
end Go.Proofs.YtgepebndihfnfaaGreat.Ses

namespace Go.Proofs.YtgepebndihfnfaaGreat.Ses
open Go Go.Proofs Go.Proofs.YtgepebndihfnfaaGreat.Sx
structure JorA where
  l : List RequestD
  a : Int
  b : Int
def jorArgs (x : JorA) : List SV := [.rslice false .request x.l, .int .i64 x.a, .int .i64 x.b]
def and31 (a : Int) : Int := IntKind.i64.wrap ((BitVec.ofInt IntKind.i64.bits a &&& BitVec.ofInt IntKind.i64.bits 31).toNat : Int)
def pickN (l : List RequestD) (i : Nat) : Bool := decide ((l.getD i RequestD.dflt).kind > 1) && (idxR (l.getD i RequestD.dflt) l == (i : Int))
def idsN (l : List RequestD) (n : Nat) : List Nat := (List.range n).filter (pickN l)
def mkD (l : List RequestD) (w : List VerdictD) (a : Int) (j : Nat) : DeedD := ⟨0, false, l.getD j RequestD.dflt, w.getD j ⟨0, 0, 0, [], 0, [], 0⟩, 10 * j + 1, 10 * j + 5 + and31 a, j + 1⟩
def dsJ (l : List RequestD) (w : List VerdictD) (a : Int) (n : Nat) : List DeedD := (idsN l n).map (mkD l w a)
def atJ (l : List RequestD) (n : Nat) : List Int := (idsN l n).map fun j : Nat => (j : Int)
noncomputable def jorI : St → LInv := fun s => match getE s.env 0, getE s.env 1, asL .verdict (getE s.env 8) with
  | .rslice _ .request l, .int _ a, some (w : List VerdictD) => { σ := Nat, I := fun i => i ≤ l.length, μ := fun i => l.length - i, env := fun i => [(12, .int .i64 i), (10, .mslice .deed s.m.next 0 (idsN l i).length), (11, .mslice .int (s.m.next + 1) 0 (idsN l i).length)], blk := fun i => [(s.m.next, .rows .deed (dsJ l w a i)), (s.m.next + 1, .rows .int (atJ l i))], fresh := 2, drop := [] }
  | _, _, _ => LInv.none
noncomputable def jorE : Envr := Env Tryz.prog cod [(31, jawT.spec), (20, mroomT.spec), (32, rrun1T.spec), (34, firT.spec), (35, jlgT.spec), (36, jslT.spec)] [(9, jorI)]
end Go.Proofs.YtgepebndihfnfaaGreat.Ses

namespace Go.Proofs.YtgepebndihfnfaaGreat.Ses
open Go Go.Proofs Go.Proofs.YtgepebndihfnfaaGreat.Sx
set_option maxRecDepth 100000
abbrev jorQ1  := [(0 : Int), (1 : Int), (2 : Int)]
abbrev jorQ2  := List.take 3 (List.drop 0 jorQ1)
abbrev jorQ3 (x : JorA) (x5 : RunA) (x7 : Nat) := dsJ (JorA.l x) (verdF (RunA.f x5) (RunA.l x5)) (JorA.a x) x7
abbrev jorQ4 (x : JorA) := (JorA.l x).length * 128 ≤ room47
abbrev jorQ5 (x8 : Nat) (x : JorA) := decide ((0 : Int) ≤ (↑x8 : Int) ∧
(↑x8 : Int) < (↑(JorA.l x).length : Int))
abbrev jorQ6 (x : JorA) (x8 : Nat) := List.getD (JorA.l x) (↑x8 : Int).toNat RequestD.dflt
abbrev jorQ7 (x8 : Nat) := IntKind.wrap IntKind.i64 ((10 : Int) * (↑x8 : Int))
abbrev jorQ8  := BitVec (IntKind.bits IntKind.i64)
abbrev jorQ9 (x8 : Nat) := IntKind.wrap IntKind.i64 ((↑x8 : Int) + (1 : Int))
abbrev jorQ10 (x : JorA) (x8 : Nat) (x5 : RunA) := [DeedD.mk (0 : Int) false (jorQ6 x x8) (List.getD (verdF (RunA.f x5) (RunA.l x5)) (↑x8 : Int).toNat (VerdictD.mk (0 : Int) (0 : Int) (0 : Int) ([] : List UInt8) (0 : Int) ([] : List CommitD) (0 : Int))) (IntKind.wrap IntKind.i64 (jorQ7 x8 + (1 : Int))) (IntKind.wrap IntKind.i64 (IntKind.wrap IntKind.i64 (jorQ7 x8 + (5 : Int)) + IntKind.wrap IntKind.i64 (↑(@BitVec.toNat (IntKind.bits IntKind.i64) (@HAnd.hAnd jorQ8 jorQ8 jorQ8 _ (BitVec.ofInt (IntKind.bits IntKind.i64) (JorA.a x)) (BitVec.ofInt (IntKind.bits IntKind.i64) (31 : Int)))) : Int))) (jorQ9 x8)]
abbrev jorQ11 (x : JorA) (x8 : Nat) (x5 : RunA) := 0 + (idsN (JorA.l x) x8).length ≤ (jorQ3 x x5 x8).length
abbrev jorQ12 (x : JorA) (x8 : Nat) (x5 : RunA) := (idsN (JorA.l x) x8).length + (List.take 1 (List.drop 0 (jorQ10 x x8 x5))).length
abbrev jorQ13 (x : JorA) (x8 : Nat) := (idsN (JorA.l x) x8).length + (List.take 1 (List.drop 0 [(↑x8 : Int)])).length
abbrev jorQ14 (x11 : Nat) (x : JorA) (x8 : Nat) := Nat.le x11 (JorA.l x).length ∧
Nat.sub (JorA.l x).length x11 < Nat.sub (JorA.l x).length x8
abbrev jorQ15 (x8 : Nat) (x : JorA) (x5 : RunA) := ∃ x12 : Nat, jorQ9 x8 = (↑x12 : Int) ∧
0 = 0 ∧
(idsN (JorA.l x) x8).length = (idsN (JorA.l x) x12).length ∧
0 = 0 ∧
(idsN (JorA.l x) x8).length = (idsN (JorA.l x) x12).length ∧
jorQ3 x x5 x8 = jorQ3 x x5 x12 ∧
atJ (JorA.l x) x8 = atJ (JorA.l x) x12 ∧
jorQ14 x12 x x8
abbrev jorQ16 (x14 : JdA) := slotsD x14.l (runV x14.c x14.l) x14.ds
abbrev jorQ17 (x : JorA) (x8 : Nat) := (idsN (JorA.l x) x8).length * 248 ≤ room47
abbrev jorQ18 (x : JorA) (x8 : Nat) := (↑(idsN (JorA.l x) x8).length : Int)
abbrev jorQ19 (x : JorA) (x8 : Nat) := IntKind.wrap IntKind.i64 (jorQ18 x x8 - (1 : Int))
abbrev jorQ20 (x : JorA) (x8 : Nat) := Int.tmod (IntKind.wrap IntKind.i64 (IntKind.wrap IntKind.i64 (Int.tmod (JorA.b x) (jorQ19 x x8) + jorQ18 x x8) - (1 : Int))) (jorQ19 x x8)
abbrev jorQ21 (x : JorA) (x8 : Nat) := decide ((0 : Int) ≤ jorQ20 x x8 ∧
jorQ20 x x8 < jorQ18 x x8)
abbrev jorQ22 (x : JorA) (x8 : Nat) := IntKind.wrap IntKind.i64 (jorQ20 x x8 + (1 : Int))
abbrev jorQ23 (x : JorA) (x8 : Nat) := decide ((0 : Int) ≤ jorQ22 x x8 ∧
jorQ22 x x8 < jorQ18 x x8)
abbrev jorQ24  := DeedD.mk (0 : Int) false RequestD.dflt VerdictD.dflt (0 : Int) (0 : Int) (0 : Int)
abbrev jorQ25 (x : JorA) (x5 : RunA) (x8 : Nat) := List.getD (jorQ3 x x5 x8) (0 + (jorQ20 x x8).toNat) jorQ24
abbrev jorQ26 (x : JorA) (x5 : RunA) (x8 : Nat) := List.getD (jorQ3 x x5 x8) (0 + (jorQ22 x x8).toNat) jorQ24
abbrev jorQ27 (x : JorA) (x5 : RunA) (x8 : Nat) := [DeedD.mk (jorQ25 x x5 x8).client (jorQ25 x x5 x8).loc (jorQ25 x x5 x8).value (jorQ25 x x5 x8).verdict (4 : Int) (9 : Int) (↑(JorA.l x).length : Int), DeedD.mk (jorQ26 x x5 x8).client (jorQ26 x x5 x8).loc (jorQ26 x x5 x8).value (jorQ26 x x5 x8).verdict (2 : Int) (3 : Int) (↑(JorA.l x).length : Int)]
theorem jor_vc (x : JorA) : evCall jorE (ev jorE 1000) 7 (jorArgs x) ⟨[], 0, []⟩ (fun _ _ => False) (fun v _ => TrueV v) = (
∃ x1 : Unit, True ∧
∀ x2 : Unit, True →
∃ x3 : RmA, JorA.l x = x3.l ∧
(60 : Int) = x3.most ∧
True ∧
∀ x4 : Unit, True →
br (roomM x3.l x3.most).not (true = true) (∃ x5 : RunA, 0 + 3 ≤ jorQ1.length ∧
jorQ2 = CfgD.M (RunA.c x5) ∧
(2 : Int) = CfgD.a (RunA.c x5) ∧
(3 : Int) = CfgD.z (RunA.c x5) ∧
(0 : Int) = CfgD.keep (RunA.c x5) ∧
(0 : Int) = CfgD.beat (RunA.c x5) ∧
(0 : Int) = CfgD.term (RunA.c x5) ∧
(0 : Int) = CfgD.lease (RunA.c x5) ∧
(0 : Int) = CfgD.num (RunA.c x5) ∧
(0 : Int) = CfgD.den (RunA.c x5) ∧
JorA.l x = RunA.l x5 ∧
RunA.ok x5 = true ∧
∀ x6 : Unit, True →
(∃ x7 : Nat, (0 : Int) = (↑x7 : Int) ∧
0 = (idsN (JorA.l x) x7).length ∧
0 = (idsN (JorA.l x) x7).length ∧
([] : List DeedD) = jorQ3 x x5 x7 ∧
([] : List Int) = atJ (JorA.l x) x7 ∧
Nat.le x7 (JorA.l x).length) ∧
∀ x8 : Nat, Nat.le x8 (JorA.l x).length →
jorQ4 x →
br (decide ((↑x8 : Int) < (↑(JorA.l x).length : Int))) (br (jorQ5 x8 x) (br (decide ((jorQ6 x x8).kind > (1 : Int))) (br (jorQ5 x8 x) (∃ x9 : FirA, JorA.l x = x9.l ∧
EqQ (jorQ6 x x8) x9.r (True ∧
∀ x10 : Unit, True →
br (idxR x9.r x9.l == (↑x8 : Int)) (br (jorQ5 x8 x) (br (decide ((0 : Int) ≤ (↑x8 : Int) ∧
(↑x8 : Int) < (↑(verdF (RunA.f x5) (RunA.l x5)).length : Int))) (Nat.le ((idsN (JorA.l x) x8).length * 248) room47 ∧
Nat.le (1 * 248) room47 →
br (Bool.and (Bool.and (decide (0 + 1 ≤ (jorQ10 x x8 x5).length)) (decide (jorQ11 x x8 x5))) (decide (jorQ12 x x8 x5 * 248 ≤ room47))) (Nat.le ((idsN (JorA.l x) x8).length * 8) room47 ∧
Nat.le (1 * 8) room47 →
br (Bool.and (Bool.and (decide (0 + 1 ≤ [(↑x8 : Int)].length)) (decide (0 + (idsN (JorA.l x) x8).length ≤ (atJ (JorA.l x) x8).length))) (decide (jorQ13 x x8 * 8 ≤ room47))) (∃ x11 : Nat, jorQ9 x8 = (↑x11 : Int) ∧
0 = 0 ∧
jorQ12 x x8 x5 = (idsN (JorA.l x) x11).length ∧
0 = 0 ∧
jorQ13 x x8 = (idsN (JorA.l x) x11).length ∧
@HAppend.hAppend (List DeedD) (List DeedD) (List DeedD) _ (List.take (idsN (JorA.l x) x8).length (List.drop 0 (jorQ3 x x5 x8))) (List.take 1 (List.drop 0 (jorQ10 x x8 x5))) = jorQ3 x x5 x11 ∧
@HAppend.hAppend (List Int) (List Int) (List Int) _ (List.take (idsN (JorA.l x) x8).length (List.drop 0 (atJ (JorA.l x) x8))) (List.take 1 (List.drop 0 [(↑x8 : Int)])) = atJ (JorA.l x) x11 ∧
jorQ14 x11 x x8) (Bad "check" "law.go:82")) (Bad "check" "law.go:81")) (Bad "check" "law.go:81")) (Bad "check" "law.go:81")) (jorQ15 x8 x x5))) (Bad "check" "law.go:80")) (jorQ15 x8 x x5)) (Bad "check" "law.go:80")) (∃ x14 : JdA, 0 + 3 ≤ jorQ1.length ∧
jorQ2 = CfgD.M x14.c ∧
(2 : Int) = CfgD.a x14.c ∧
(3 : Int) = CfgD.z x14.c ∧
(0 : Int) = CfgD.keep x14.c ∧
(0 : Int) = CfgD.beat x14.c ∧
(0 : Int) = CfgD.term x14.c ∧
(0 : Int) = CfgD.lease x14.c ∧
(0 : Int) = CfgD.num x14.c ∧
(0 : Int) = CfgD.den x14.c ∧
JorA.l x = x14.l ∧
jorQ11 x x8 x5 ∧
List.take (idsN (JorA.l x) x8).length (List.drop 0 (jorQ3 x x5 x8)) = x14.ds ∧
okL x14.l = true ∧
∀ x15 : Unit, True →
br (loggedD x14.ds (jorQ16 x14) != @Neg.neg Int _ (1 : Int)) (false = true) (jorQ17 x x8 →
br (decide (jorQ18 x x8 < (2 : Int))) (true = true) (jorQ17 x x8 →
br (jorQ19 x x8 != (0 : Int)) (jorQ17 x x8 →
jorQ17 x x8 →
br (jorQ19 x x8 != (0 : Int)) (br (jorQ21 x x8) (br (decide (0 + (jorQ20 x x8).toNat < (jorQ3 x x5 x8).length)) (br (jorQ23 x x8) (br (decide (0 + (jorQ22 x x8).toNat < (jorQ3 x x5 x8).length)) (∃ x16 : JdA, 0 + 3 ≤ jorQ1.length ∧
jorQ2 = CfgD.M x16.c ∧
(2 : Int) = CfgD.a x16.c ∧
(3 : Int) = CfgD.z x16.c ∧
(0 : Int) = CfgD.keep x16.c ∧
(0 : Int) = CfgD.beat x16.c ∧
(0 : Int) = CfgD.term x16.c ∧
(0 : Int) = CfgD.lease x16.c ∧
(0 : Int) = CfgD.num x16.c ∧
(0 : Int) = CfgD.den x16.c ∧
JorA.l x = x16.l ∧
jorQ11 x x8 x5 ∧
List.take (idsN (JorA.l x) x8).length (List.drop 0 (jorQ3 x x5 x8)) = x16.ds ∧
okL x16.l = true ∧
∀ x17 : Unit, True →
br (decide ((0 : Int) ≤ jorQ20 x x8 ∧
jorQ20 x x8 < (↑(jorQ16 x16).length : Int))) (br (jorQ21 x x8) (br (decide (0 + (jorQ20 x x8).toNat < (atJ (JorA.l x) x8).length)) (br (List.getD (jorQ16 x16) (jorQ20 x x8).toNat (Int.ofNat 0) != List.getD (atJ (JorA.l x) x8) (0 + (jorQ20 x x8).toNat) (Int.ofNat 0)) (false = true) (br (decide ((0 : Int) ≤ jorQ22 x x8 ∧
jorQ22 x x8 < (↑(jorQ16 x16).length : Int))) (br (jorQ23 x x8) (br (decide (0 + (jorQ22 x x8).toNat < (atJ (JorA.l x) x8).length)) (br (List.getD (jorQ16 x16) (jorQ22 x x8).toNat (Int.ofNat 0) != List.getD (atJ (JorA.l x) x8) (0 + (jorQ22 x x8).toNat) (Int.ofNat 0)) (false = true) (jorQ4 x →
jorQ4 x →
Twice (∃ x18 : JdA, 0 + 3 ≤ jorQ1.length ∧
jorQ2 = CfgD.M x18.c ∧
(2 : Int) = CfgD.a x18.c ∧
(3 : Int) = CfgD.z x18.c ∧
(0 : Int) = CfgD.keep x18.c ∧
(0 : Int) = CfgD.beat x18.c ∧
(0 : Int) = CfgD.term x18.c ∧
(0 : Int) = CfgD.lease x18.c ∧
(0 : Int) = CfgD.num x18.c ∧
(0 : Int) = CfgD.den x18.c ∧
JorA.l x = x18.l ∧
0 + 2 ≤ (jorQ27 x x5 x8).length ∧
List.take 2 (List.drop 0 (jorQ27 x x5 x8)) = x18.ds ∧
okL x18.l = true ∧
∀ x19 : Unit, True →
(loggedD x18.ds (jorQ16 x18) == (0 : Int)) = true))) (Bad "check" "law.go:95")) (Bad "check" "law.go:95")) (Bad "check" "law.go:95"))) (Bad "check" "law.go:95")) (Bad "check" "law.go:95")) (Bad "check" "law.go:95")) (Bad "check" "law.go:93")) (Bad "check" "law.go:93")) (Bad "check" "law.go:92")) (Bad "check" "law.go:92")) (Bad "check" "law.go:91")) (Bad "check" "law.go:91")))))) := by kernel_rfl
end Go.Proofs.YtgepebndihfnfaaGreat.Ses

namespace Go.Proofs.YtgepebndihfnfaaGreat.Ses
open Go Go.Proofs Go.Proofs.YtgepebndihfnfaaGreat.Sx
theorem and31_in (a : Int) : 0 ≤ and31 a ∧ and31 a ≤ 31 := by
  unfold and31
  have h : (BitVec.ofInt IntKind.i64.bits a &&& BitVec.ofInt IntKind.i64.bits 31).toNat ≤ 31 := by
    rw [BitVec.toNat_and]
    exact Nat.and_le_right
  rw [wrap_id (by omega) (by omega)]
  omega
theorem ids_succ (l : List RequestD) (i : Nat) : idsN l (i + 1) = idsN l i ++ (bif pickN l i then [i] else []) := by
  unfold idsN
  rw [List.range_succ, List.filter_append]
  cases h : pickN l i <;> simp [h]
theorem ids_in {l : List RequestD} {n j : Nat} (h : j ∈ idsN l n) : j < n ∧ pickN l j = true := by
  unfold idsN at h
  obtain ⟨h1, h2⟩ := List.mem_filter.1 h
  exact ⟨List.mem_range.1 h1, h2⟩
theorem ids_lt (l : List RequestD) (n : Nat) : (idsN l n).Pairwise (· < ·) := List.Pairwise.filter _ List.pairwise_lt_range
theorem ids_len (l : List RequestD) (n : Nat) : (idsN l n).length ≤ n := by
  unfold idsN
  have := List.length_filter_le (pickN l) (List.range n)
  rw [List.length_range] at this; exact this
theorem pick_idx {l : List RequestD} {j : Nat} (h : pickN l j = true) : idxR (l.getD j RequestD.dflt) l = j := by
  unfold pickN at h
  rw [Bool.and_eq_true] at h
  exact eq_of_beq h.2
theorem slot_is {l : List RequestD} {w : List VerdictD} {d : DeedD} {j : Nat} (hj : j < l.length) (hw : w.length = l.length) (hp : pickN l j = true) (hd : logD d = true) (hv : d.value = l.getD j RequestD.dflt) (hr : d.verdict = w.getD j ⟨0, 0, 0, [], 0, [], 0⟩) : slotD l w d = j := by
  unfold slotD
  rw [hd]
  have hi := pick_idx hp
  refine firstN_at (by omega) ?_ fun k hk => ?_
  · show (eqR _ d.value && eqV _ d.verdict) = true
    rw [hv, hr, eqR_self, eqV_self]; rfl
  · show (eqR _ d.value && eqV _ d.verdict) = false
    rw [hv]
    rcases idxR_spec (l.getD j RequestD.dflt) l with ⟨q, _⟩ | ⟨m, _, q, _, q4⟩
    · omega
    · rw [q4 k (by omega)]; rfl
theorem mkD_of {l : List RequestD} {w : List VerdictD} {a : Int} {j : Nat} {s t r : Int} (hs : s = 10 * j + 1) (ht : t = 10 * j + 5 + and31 a) (hr : r = j + 1) : DeedD.mk 0 false (l.getD j RequestD.dflt) (w.getD j ⟨0, 0, 0, [], 0, [], 0⟩) s t r = mkD l w a j := by
  subst hs; subst ht; subst hr; rfl
theorem mkD_log (l : List RequestD) (w : List VerdictD) (a : Int) (j : Nat) : logD (mkD l w a j) = true := by
  have := and31_in a
  show (decide ((10 : Int) * j + 5 + and31 a ≥ 0) && (!false || _) && !false) = true
  rw [decide_eq_true (by omega)]; rfl
theorem push_any {α : Type} {L : List α} {n : Nat} (z : α) (hn : L.length = n) : List.take n (List.drop 0 L) ++ List.take 1 (List.drop 0 [z]) = L ++ [z] := by
  rw [List.drop_zero, List.take_of_length_le (by omega)]; rfl
theorem push_c {α : Type} {L : List α} {n size : Nat} (z : α) (hn : L.length = n) (h : (n + 1) * size ≤ room47) : ((decide (0 + 1 ≤ [z].length) && decide (0 + n ≤ L.length)) && decide ((n + (List.take 1 (List.drop 0 [z])).length) * size ≤ room47)) = true := by
  rw [decide_eq_true (by omega : 0 + n ≤ L.length)]
  show (true && true && decide ((n + 1) * size ≤ room47)) = true
  rw [decide_eq_true h]; rfl
theorem getD_map {α β : Type} (f : α → β) {L : List α} {c : Nat} (h : c < L.length) (d : β) : (L.map f).getD c d = f (L[c]'h) := by
  rw [List.getD_eq_getElem?_getD, List.getElem?_map, List.getElem?_eq_getElem h]; rfl
theorem logged_row {l : List RequestD} {w : List VerdictD} (a : Int) (hw : w.length = l.length) : slotsD l w (dsJ l w a l.length) = atJ l l.length ∧ loggedD (dsJ l w a l.length) (atJ l l.length) = -1 := by
  refine ⟨?_, ?_⟩
  · unfold slotsD dsJ atJ
    rw [List.map_map]
    refine List.map_congr_left fun j hj => ?_
    obtain ⟨h1, h2⟩ := ids_in hj
    exact slot_is h1 hw h2 (mkD_log l w a j) rfl rfl
  · refine firstN_no fun i hi => ?_
    have hi : i < (idsN l l.length).length := by unfold dsJ at hi; rwa [List.length_map] at hi
    have hm := and31_in a
    unfold badD dsJ atJ
    rw [getD_map _ hi, getD_map _ hi]
    have hc : (List.range (List.map (mkD l w a) (idsN l l.length)).length).any (condD (List.map (mkD l w a) (idsN l l.length)) (List.map (fun j : Nat => (j : Int)) (idsN l l.length)) i) = false := by
      refine List.any_eq_false.2 fun k hk => ?_
      have hk : k < (idsN l l.length).length := by have := List.mem_range.1 hk; rwa [List.length_map] at this
      unfold condD
      rw [getD_map _ hi, getD_map _ hi, getD_map _ hk, getD_map _ hk]
      have : (decide ((mkD l w a (idsN l l.length)[k]).told ≤ (mkD l w a (idsN l l.length)[i]).sent) && decide ((((idsN l l.length)[k] : Nat) : Int) ≥ (((idsN l l.length)[i] : Nat) : Int))) = false := by
        by_cases c : (((idsN l l.length)[k] : Nat) : Int) ≥ (((idsN l l.length)[i] : Nat) : Int)
        · rw [decide_eq_false (by show ¬ (10 : Int) * _ + 5 + and31 a ≤ 10 * _ + 1; omega)]; rfl
        · rw [decide_eq_false c, Bool.and_false]
      rw [this]; simp
    rw [hc, decide_eq_false (by omega : ¬ (((idsN l l.length)[i] : Nat) : Int) < 0), decide_eq_false (by show ¬ (((idsN l l.length)[i] : Nat) : Int) ≥ (((idsN l l.length)[i] : Nat) : Int) + 1; omega)]
    simp
theorem logged_turn (x y : DeedD) (p q : Int) (hx : logD x = true) (hy : logD y = true) (hpq : p ≤ q) (ht : y.told ≤ x.sent) : loggedD [x, y] [p, q] = 0 := by
  have c1 : condD [x, y] [p, q] 0 1 = true := by
    show (true && (logD y && (decide (y.told ≤ x.sent) && decide (q ≥ p)))) = true
    rw [hy, decide_eq_true ht, decide_eq_true (by omega : q ≥ p)]; rfl
  have b0 : badD [x, y] [p, q] 0 = true := by
    show (logD x && (decide (p < 0) || (decide (p ≥ x.row) || (condD [x, y] [p, q] 0 0 || (condD [x, y] [p, q] 0 1 || false))))) = _
    rw [hx, c1]; simp
  exact firstN_at (i := 0) (n := 2) (by decide) b0 fun j hj => absurd hj (Nat.not_lt_zero _)
theorem cut_in2 {n : Nat} (k : Int) (h0 : 2 ≤ n) (h1 : n ≤ 100) : ∃ a : Nat, a + 1 < n ∧ IntKind.i64.wrap ((n : Int) - 1) = (n : Int) - 1 ∧ Int.tmod (IntKind.wrap IntKind.i64 (IntKind.wrap IntKind.i64 (Int.tmod k ((n : Int) - 1) + n) - 1)) ((n : Int) - 1) = (a : Int) := by
  have b1 : Int.tmod k ((n : Int) - 1) < (n : Int) - 1 := Int.tmod_lt_of_pos k (by omega)
  have b0 : -((n : Int) - 1) < Int.tmod k ((n : Int) - 1) := Int.lt_tmod_of_pos k (by omega)
  rw [wrap_id (n := Int.tmod k ((n : Int) - 1) + n) (by omega) (by omega), wrap_id (n := Int.tmod k ((n : Int) - 1) + n - 1) (by omega) (by omega)]
  have c0 : 0 ≤ Int.tmod (Int.tmod k ((n : Int) - 1) + n - 1) ((n : Int) - 1) := Int.tmod_nonneg _ (by omega)
  have c1 : Int.tmod (Int.tmod k ((n : Int) - 1) + n - 1) ((n : Int) - 1) < (n : Int) - 1 := Int.tmod_lt_of_pos _ (by omega)
  exact ⟨(Int.tmod (Int.tmod k ((n : Int) - 1) + n - 1) ((n : Int) - 1)).toNat, by omega, wrap_id (by omega) (by omega), by omega⟩
theorem jor_ok : EnvOK jorE := Env_ok (by decide +kernel) (by
  intro p hp
  simp only [List.mem_cons, List.mem_nil_iff, or_false] at hp
  rcases hp with rfl | rfl | rfl | rfl | rfl | rfl
  · exact jaw_ok
  · exact mroom_ok
  · exact rrun1_ok
  · exact rfir_ok
  · exact jlg_ok
  · exact jsl_ok)
set_option maxHeartbeats 0 in
theorem jor_body (x : JorA) (hl : ∀ r, r ∈ x.l → inI r.from_ = true) : evCall jorE (ev jorE 1000) 7 (jorArgs x) ⟨[], 0, []⟩ (fun _ _ => False) (fun v _ => TrueV v) := by
  rw [jor_vc]
  delta jorQ27 jorQ26 jorQ25 jorQ24 jorQ23 jorQ22 jorQ21 jorQ20 jorQ19 jorQ18 jorQ17 jorQ16 jorQ15 jorQ14 jorQ13 jorQ12 jorQ11 jorQ10 jorQ9 jorQ8 jorQ7 jorQ6 jorQ5 jorQ4 jorQ3 jorQ2 jorQ1 EqQ
  obtain ⟨l, a, b⟩ := x
  dsimp only at *
  refine ⟨(), trivial, fun _ _ => ⟨⟨l, 60⟩, rfl, rfl, trivial, fun _ _ => br_i (fun _ => rfl) fun hr => ?_⟩⟩
  rw [Bool.not_eq_false'] at hr
  have hL : okL l = true := room_okL hr (by show (60 : Int) ≤ 4000; omega) hl
  obtain ⟨l60, _⟩ := roomM_of hr
  have l60 : (l.length : Int) ≤ 60 := l60
  have hok := cf0_ok hL
  have hw : runV cf0 l = verdF (RunA.f ⟨cf0, l⟩) l := runV_ok l (by decide)
  refine ⟨⟨cf0, l⟩, Nat.le_refl 3, rfl, rfl, rfl, rfl, rfl, rfl, rfl, rfl, rfl, rfl, hok, fun _ _ => ?_⟩
  dsimp only
  have hwl : (verdF (RunA.f ⟨cf0, l⟩) l).length = l.length := verd_len _ _
  generalize verdF (RunA.f ⟨cf0, l⟩) l = w at hw hwl ⊢
  refine ⟨⟨0, rfl, rfl, rfl, rfl, rfl, Nat.zero_le _⟩, fun i hi _ => br_i (fun h1 => ?_) (fun h1 => ?_)⟩
  · have h1 : (i : Int) < (l.length : Int) := of_decide_eq_true h1
    have bi : decide ((0 : Int) ≤ (i : Int) ∧ (i : Int) < (l.length : Int)) = true := decide_eq_true ⟨by omega, h1⟩
    have bw : decide ((0 : Int) ≤ (i : Int) ∧ (i : Int) < (w.length : Int)) = true := decide_eq_true ⟨by omega, by omega⟩
    have hi1 : IntKind.i64.wrap ((i : Int) + 1) = ((i + 1 : Nat) : Int) := by rw [wrap_id (by omega) (by omega)]; rfl
    have hle : (i + 1).le l.length := by show i + 1 ≤ l.length; omega
    have hms : l.length.sub (i + 1) < l.length.sub i := by show l.length - (i + 1) < l.length - i; omega
    have ei : (i : Int).toNat = i := rfl
    rw [ei]
    have hs := ids_succ l i
    have hN := ids_len l i
    have hdl : (dsJ l w a i).length = (idsN l i).length := List.length_map ..
    have hal : (atJ l i).length = (idsN l i).length := List.length_map ..
    have hm := and31_in a
    have miss : pickN l i = false → (idsN l i).length = (idsN l (i + 1)).length ∧ dsJ l w a i = dsJ l w a (i + 1) ∧ atJ l i = atJ l (i + 1) := fun h => by
      rw [h] at hs
      have hs : idsN l (i + 1) = idsN l i := by rw [hs]; exact List.append_nil _
      unfold dsJ atJ
      rw [hs]; exact ⟨rfl, rfl, rfl⟩
    have skip : pickN l i = false → ∃ x : Nat, IntKind.i64.wrap ((i : Int) + 1) = (x : Int) ∧ 0 = 0 ∧ (idsN l i).length = (idsN l x).length ∧ 0 = 0 ∧ (idsN l i).length = (idsN l x).length ∧ dsJ l w a i = dsJ l w a x ∧ atJ l i = atJ l x ∧ Nat.le x l.length ∧ l.length.sub x < l.length.sub i := fun h => by
      obtain ⟨m1, m2, m3⟩ := miss h
      exact ⟨i + 1, hi1, rfl, m1, rfl, m1, m2, m3, hle, hms⟩
    refine br_t bi (br_i (fun g1 => br_t bi ⟨⟨l, l.getD i RequestD.dflt⟩, rfl, rfl, rfl, rfl, rfl, rfl, rfl, rfl, rfl, rfl, rfl, rfl, trivial, fun _ _ => br_i (fun g2 => ?_) (fun g2 => skip ?_)⟩) (fun g1 => skip ?_))
    · have g2 : (idxR (l.getD i RequestD.dflt) l == (i : Int)) = true := g2
      have hp : pickN l i = true := by unfold pickN; rw [g1, g2]; rfl
      rw [hp] at hs
      have hs : idsN l (i + 1) = idsN l i ++ [i] := hs
      have s1 : (idsN l i).length + 1 = (idsN l (i + 1)).length := by rw [hs, List.length_append]; rfl
      have s2 : dsJ l w a i ++ [mkD l w a i] = dsJ l w a (i + 1) := by unfold dsJ; rw [hs, List.map_append]; rfl
      have s3 : atJ l i ++ [(i : Int)] = atJ l (i + 1) := by unfold atJ; rw [hs, List.map_append]; rfl
      have w1 : IntKind.i64.wrap (10 * (i : Int)) = 10 * i := wrap_id (by omega) (by omega)
      have w2 : IntKind.i64.wrap (10 * (i : Int) + 1) = 10 * i + 1 := wrap_id (by omega) (by omega)
      have w3 : IntKind.i64.wrap (10 * (i : Int) + 5) = 10 * i + 5 := wrap_id (by omega) (by omega)
      have w4 : IntKind.i64.wrap (10 * (i : Int) + 5 + and31 a) = 10 * i + 5 + and31 a := wrap_id (by omega) (by omega)
      have w5 : IntKind.i64.wrap ((i : Int) + 1) = i + 1 := wrap_id (by omega) (by omega)
      refine br_t bi (br_t bw fun _ => br_t (push_c _ hdl (by unfold room47; omega)) fun _ => br_t (push_c _ hal (by unfold room47; omega)) ⟨i + 1, hi1, rfl, s1, rfl, s1, ?_, ?_, hle, hms⟩)
      · rw [push_any _ hdl, ← s2]
        exact congrArg (fun z => dsJ l w a i ++ [z]) (mkD_of (by rw [w1, w2]) (by rw [w1, w3]; exact w4) w5)
      · rw [push_any _ hal]; exact s3
    · have g2 : (idxR (l.getD i RequestD.dflt) l == (i : Int)) = false := g2
      unfold pickN; rw [g2, Bool.and_false]
    · unfold pickN; rw [g1]; rfl
  · have h1 : ¬ (i : Int) < (l.length : Int) := of_decide_eq_false h1
    have hi : i ≤ l.length := hi
    have : i = l.length := by omega
    subst this
    obtain ⟨hS, hlog⟩ := logged_row (l := l) (w := w) a hwl
    have hN := ids_len l l.length
    have hdl : (dsJ l w a l.length).length = (idsN l l.length).length := List.length_map ..
    have hal : (atJ l l.length).length = (idsN l l.length).length := List.length_map ..
    have ht : List.take (idsN l l.length).length (List.drop 0 (dsJ l w a l.length)) = dsJ l w a l.length := by rw [List.drop_zero, List.take_of_length_le (by omega)]
    rw [ht]
    have hlt := ids_lt l l.length
    have hmem := fun j => ids_in (l := l) (n := l.length) (j := j)
    have hds : ∀ c (h : c < (idsN l l.length).length) d, (dsJ l w a l.length).getD c d = mkD l w a ((idsN l l.length)[c]'h) := fun c h d => getD_map _ h d
    clear ht
    generalize hI : idsN l l.length = I at hN hdl hal hlt hmem hds ⊢
    generalize dsJ l w a l.length = D at hS hlog hdl hds ⊢
    refine ⟨⟨cf0, l, D⟩, Nat.le_refl 3, rfl, rfl, rfl, rfl, rfl, rfl, rfl, rfl, rfl, rfl, by omega, rfl, hL, fun _ _ => br_f ?_ fun _ => br_i (fun _ => rfl) fun h2 => fun _ => ?_⟩
    · dsimp only
      rw [hw, hS, hlog]; rfl
    have h2 : ¬ (I.length : Int) < 2 := of_decide_eq_false h2
    obtain ⟨c, hc, hwn, hB⟩ := cut_in2 (n := I.length) b (by omega) (by omega)
    have nz : ((I.length : Int) - 1 != (0 : Int)) = true := bne_iff_ne.2 (by omega)
    rw [hwn, hB]
    have ec : (c : Int).toNat = c := rfl
    have hc1 : IntKind.i64.wrap ((c : Int) + 1) = ((c + 1 : Nat) : Int) := by rw [wrap_id (by omega) (by omega)]; rfl
    rw [hc1]
    have ec1 : ((c + 1 : Nat) : Int).toNat = c + 1 := rfl
    rw [ec, ec1, Nat.zero_add, Nat.zero_add, hds c (by omega), hds (c + 1) (by omega)]
    have bc : decide ((0 : Int) ≤ (c : Int) ∧ (c : Int) < (I.length : Int)) = true := decide_eq_true ⟨by omega, by omega⟩
    have bc1 : decide ((0 : Int) ≤ ((c + 1 : Nat) : Int) ∧ ((c + 1 : Nat) : Int) < (I.length : Int)) = true := decide_eq_true ⟨by omega, by omega⟩
    obtain ⟨p1, p2⟩ := hmem _ (List.getElem_mem (by omega : c < I.length))
    obtain ⟨q1, q2⟩ := hmem _ (List.getElem_mem (by omega : c + 1 < I.length))
    have hpq : I[c]'(by omega) < I[c + 1]'(by omega) := List.pairwise_iff_getElem.1 hlt c (c + 1) (by omega) (by omega) (by omega)
    generalize I[c]'(by omega) = p at p1 p2 hpq ⊢
    generalize I[c + 1]'(by omega) = q at q1 q2 hpq ⊢
    refine br_t nz fun _ _ => br_t nz (br_t bc (br_t (decide_eq_true (by omega)) (br_t bc1 (br_t (decide_eq_true (by omega)) ⟨⟨cf0, l, D⟩, Nat.le_refl 3, rfl, rfl, rfl, rfl, rfl, rfl, rfl, rfl, rfl, rfl, by omega, rfl, hL, fun _ _ => ?_⟩))))
    dsimp only
    rw [hw, hS, hal]
    refine br_t bc (br_t bc (br_t (decide_eq_true (by omega)) (br_f (bne_self_eq_false _) (br_t bc1 (br_t bc1 (br_t (decide_eq_true (by omega)) (br_f (bne_self_eq_false _) fun _ _ => twice ⟨⟨cf0, l, _⟩, Nat.le_refl 3, rfl, rfl, rfl, rfl, rfl, rfl, rfl, rfl, rfl, rfl, Nat.le_refl 2, rfl, hL, fun _ _ => ?_⟩)))))))
    dsimp only
    rw [hw]
    show (loggedD [⟨0, false, l.getD p RequestD.dflt, w.getD p ⟨0, 0, 0, [], 0, [], 0⟩, 4, 9, l.length⟩, ⟨0, false, l.getD q RequestD.dflt, w.getD q ⟨0, 0, 0, [], 0, [], 0⟩, 2, 3, l.length⟩] [slotD l w ⟨0, false, l.getD p RequestD.dflt, w.getD p ⟨0, 0, 0, [], 0, [], 0⟩, 4, 9, l.length⟩, slotD l w ⟨0, false, l.getD q RequestD.dflt, w.getD q ⟨0, 0, 0, [], 0, [], 0⟩, 2, 3, l.length⟩] == (0 : Int)) = true
    rw [slot_is p1 hwl p2 rfl rfl rfl, slot_is q1 hwl q2 rfl rfl rfl, logged_turn _ _ _ _ rfl rfl (by omega) (by show (3 : Int) ≤ 4; omega)]; rfl
end Go.Proofs.YtgepebndihfnfaaGreat.Ses

namespace Go.Proofs.YtgepebndihfnfaaGreat.Ses
open Go Go.Proofs Go.Proofs.YtgepebndihfnfaaGreat.Sx
section
variable {H : Type} {en : TypeId × Value → H} {w : World}
theorem op_commit : Opens en Tryz.prog w 49 (enc .commit) :=
  (opens_struct Tryz.underlying49 (by kernel_rfl) (opensF_cons (sz := 1) rfl (by kernel_rfl) (opens_int Tryz.underlying3) (opensF_cons (sz := 1) rfl (by kernel_rfl) (opens_int Tryz.underlying3) (opensF_cons (sz := 1) rfl (by kernel_rfl) (opens_str Tryz.underlying9) (opensF_cons (sz := 1) rfl (by kernel_rfl) op_changes opensF_nil))))).map
    (fun a => (⟨a.1, a.2.1, a.2.2.1, a.2.2.2.1⟩ : CommitD)) (fun _ => rfl)
theorem op_commits : Opens en Tryz.prog w 36 (fun l : List CommitD => [.rslice false .commit l]) := opens_slice (c := .commit) Tryz.underlying36 op_commit (by kernel_rfl) (by kernel_rfl)
theorem op_verdict : Opens en Tryz.prog w 38 (enc .verdict) :=
  (opens_struct Tryz.underlying38 (by kernel_rfl) (opensF_cons (sz := 1) rfl (by kernel_rfl) (opens_int Tryz.underlying3) (opensF_cons (sz := 1) rfl (by kernel_rfl) (opens_int Tryz.underlying3) (opensF_cons (sz := 1) rfl (by kernel_rfl) (opens_int Tryz.underlying3) (opensF_cons (sz := 1) rfl (by kernel_rfl) (opens_str Tryz.underlying9) (opensF_cons (sz := 1) rfl (by kernel_rfl) (opens_int Tryz.underlying35)
    (opensF_cons (sz := 1) rfl (by kernel_rfl) op_commits (opensF_cons (sz := 1) rfl (by kernel_rfl) (opens_int Tryz.underlying3) opensF_nil)))))))).map
    (fun a => (⟨a.1, a.2.1, a.2.2.1, a.2.2.2.1, a.2.2.2.2.1, a.2.2.2.2.2.1, a.2.2.2.2.2.2.1⟩ : VerdictD)) (fun _ => rfl)
end
end Go.Proofs.YtgepebndihfnfaaGreat.Ses
