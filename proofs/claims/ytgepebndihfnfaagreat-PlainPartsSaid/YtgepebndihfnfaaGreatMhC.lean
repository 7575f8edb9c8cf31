/- The laws PlainFirst, PlainRuns, PlainParts: what the evaluator leaves, and that it holds. No condition. -/
import Derived.Test.YtgepebndihfnfaaGreatMhB
import Derived.KernelRfl
set_option linter.unusedSimpArgs false
set_option linter.unusedVariables false

namespace Go.Proofs.YtgepebndihfnfaaGreat.Ses
open Go Go.Proofs Go.Proofs.YtgepebndihfnfaaGreat.Sx

/-! ### the laws of rows -/

structure PfiA where
  l : List RequestD
  r : RequestD
def pfiArgs (x : PfiA) : List SV := [.rslice false .request x.l, .agg x.r.enc]
noncomputable def pfiI : St → LInv := fun s => match getE s.env 0, getE s.env 3 with
  | .rslice _ .request l, .mptr k _ => match s.m.blks.get k with
    | some (.cells cs) => match dec .request cs with
      | some (r : RequestD) => { σ := Nat, I := fun i => i ≤ l.length, μ := fun i => l.length - i, env := fun i => [(6, .int .i64 i)], blk := fun _ => [], fresh := 0, drop := [] }
      | none => LInv.none
    | _ => LInv.none
  | _, _ => LInv.none
noncomputable def pfiE : Envr := Env Tryz.prog cod [(19, pawT.spec), (20, mroomT.spec), (26, firT.spec), (27, esameT.spec)] [(9, pfiI)]

structure PruA where
  c : CfgD
  l : List RequestD
  r : RequestD
structure PpaA where
  l : List RequestD
  k : Int
def ppaArgs (x : PpaA) : List SV := [.rslice false .request x.l, .int .i64 x.k]
noncomputable def ppaI11 : St → LInv := fun s => match getE s.env 1 with
  | .int _ at' => { σ := Nat, I := fun i => (i : Int) ≤ at', μ := fun i => at'.toNat - i, env := fun i => [(11, .int .i64 i)], blk := fun _ => [], fresh := 0, drop := [] }
  | _ => LInv.none
noncomputable def ppaI16 : St → LInv := fun s => match macAt s 5, getE s.env 0, getE s.env 1 with
  | some ⟨x, m, g, c, k, t, sr, e, er⟩, .rslice _ .request l, .int _ at' => { σ := Nat, I := fun i => at' ≤ (i : Int) ∧ i ≤ l.length, μ := fun i => l.length - i, env := fun i => [(12, .int .i64 i)], blk := fun i => mB (runF x ((l.drop at'.toNat).take (i - at'.toNat))) m g s.m.next k t (s.m.next + 1) e (s.m.next + 2), fresh := 3, drop := [c, sr, er] }
  | _, _, _ => LInv.none
noncomputable def ppaE : Envr := Env Tryz.prog cod [(19, pawT.spec), (20, mroomT.spec), (21, prun1T.spec), (24, applyT.spec), (23, alikeT.spec), (25, appMT.spec)] [(11, ppaI11), (16, ppaI16)]
end Go.Proofs.YtgepebndihfnfaaGreat.Ses

namespace Go.Proofs.YtgepebndihfnfaaGreat.Ses
open Go Go.Proofs Go.Proofs.YtgepebndihfnfaaGreat.Sx
set_option maxRecDepth 100000

theorem pfi_vc (x : PfiA) : evCall pfiE (ev pfiE 1000) 4 (pfiArgs x) ⟨[], 0, []⟩ (fun _ _ => False) (fun v _ => TrueV v) = (
∃ x1 : Unit, True ∧
∀ x2 : Unit, True →
∃ x3 : RmA, PfiA.l x = x3.l ∧
(100 : Int) = x3.most ∧
True ∧
∀ x4 : Unit, True →
br (roomM x3.l x3.most).not (true = true) (∃ x5 : RmA, 0 + 1 ≤ [PfiA.r x].length ∧
List.take 1 (List.drop 0 [PfiA.r x]) = x5.l ∧
(1 : Int) = x5.most ∧
True ∧
∀ x6 : Unit, True →
br (roomM x5.l x5.most).not (true = true) (∃ x7 : FirA, PfiA.l x = x7.l ∧
(PfiA.r x).kind = x7.r.kind ∧
(PfiA.r x).name = x7.r.name ∧
(PfiA.r x).session = x7.r.session ∧
(PfiA.r x).seq = x7.r.seq ∧
(PfiA.r x).base = x7.r.base ∧
(PfiA.r x).ref = x7.r.ref ∧
(PfiA.r x).changes = x7.r.changes ∧
(PfiA.r x).path = x7.r.path ∧
(PfiA.r x).from_ = x7.r.from_ ∧
(PfiA.r x).many = x7.r.many ∧
(PfiA.r x).member = x7.r.member ∧
True ∧
∀ x8 : Unit, True →
br (decide (idxR x7.r x7.l < @Neg.neg Int _ (1 : Int))) (false = true) ((PfiA.l x).length * 128 ≤ room47 →
br (decide (@GE.ge Int _ (idxR x7.r x7.l) (↑(PfiA.l x).length : Int))) (false = true) ((∃ x9 : Nat, (0 : Int) = (↑x9 : Int) ∧
Nat.le x9 (PfiA.l x).length) ∧
∀ x10 : Nat, Nat.le x10 (PfiA.l x).length →
(PfiA.l x).length * 128 ≤ room47 →
br (decide ((↑x10 : Int) < (↑(PfiA.l x).length : Int))) (br (decide ((0 : Int) ≤ (↑x10 : Int) ∧
(↑x10 : Int) < (↑(PfiA.l x).length : Int))) (∃ x11 : Req2, (List.getD (PfiA.l x) (↑x10 : Int).toNat RequestD.dflt).kind = x11.a.kind ∧
(List.getD (PfiA.l x) (↑x10 : Int).toNat RequestD.dflt).name = x11.a.name ∧
(List.getD (PfiA.l x) (↑x10 : Int).toNat RequestD.dflt).session = x11.a.session ∧
(List.getD (PfiA.l x) (↑x10 : Int).toNat RequestD.dflt).seq = x11.a.seq ∧
(List.getD (PfiA.l x) (↑x10 : Int).toNat RequestD.dflt).base = x11.a.base ∧
(List.getD (PfiA.l x) (↑x10 : Int).toNat RequestD.dflt).ref = x11.a.ref ∧
(List.getD (PfiA.l x) (↑x10 : Int).toNat RequestD.dflt).changes = x11.a.changes ∧
(List.getD (PfiA.l x) (↑x10 : Int).toNat RequestD.dflt).path = x11.a.path ∧
(List.getD (PfiA.l x) (↑x10 : Int).toNat RequestD.dflt).from_ = x11.a.from_ ∧
(List.getD (PfiA.l x) (↑x10 : Int).toNat RequestD.dflt).many = x11.a.many ∧
(List.getD (PfiA.l x) (↑x10 : Int).toNat RequestD.dflt).member = x11.a.member ∧
(PfiA.r x).kind = x11.b.kind ∧
(PfiA.r x).name = x11.b.name ∧
(PfiA.r x).session = x11.b.session ∧
(PfiA.r x).seq = x11.b.seq ∧
(PfiA.r x).base = x11.b.base ∧
(PfiA.r x).ref = x11.b.ref ∧
(PfiA.r x).changes = x11.b.changes ∧
(PfiA.r x).path = x11.b.path ∧
(PfiA.r x).from_ = x11.b.from_ ∧
(PfiA.r x).many = x11.b.many ∧
(PfiA.r x).member = x11.b.member ∧
True ∧
∀ x12 : Unit, True →
br (eqR x11.a x11.b) (br (decide (idxR x7.r x7.l < (0 : Int))) (false = true) (br (decide ((↑x10 : Int) < idxR x7.r x7.l)) (false = true) (br ((↑x10 : Int) == idxR x7.r x7.l) (br (eqR x11.a x11.b).not (false = true) (∃ x13 : Nat, IntKind.wrap IntKind.i64 ((↑x10 : Int) + (1 : Int)) = (↑x13 : Int) ∧
Nat.le x13 (PfiA.l x).length ∧
Nat.sub (PfiA.l x).length x13 < Nat.sub (PfiA.l x).length x10)) (∃ x14 : Nat, IntKind.wrap IntKind.i64 ((↑x10 : Int) + (1 : Int)) = (↑x14 : Int) ∧
Nat.le x14 (PfiA.l x).length ∧
Nat.sub (PfiA.l x).length x14 < Nat.sub (PfiA.l x).length x10)))) (br ((↑x10 : Int) == idxR x7.r x7.l) (br (eqR x11.a x11.b).not (false = true) (∃ x15 : Nat, IntKind.wrap IntKind.i64 ((↑x10 : Int) + (1 : Int)) = (↑x15 : Int) ∧
Nat.le x15 (PfiA.l x).length ∧
Nat.sub (PfiA.l x).length x15 < Nat.sub (PfiA.l x).length x10)) (∃ x16 : Nat, IntKind.wrap IntKind.i64 ((↑x10 : Int) + (1 : Int)) = (↑x16 : Int) ∧
Nat.le x16 (PfiA.l x).length ∧
Nat.sub (PfiA.l x).length x16 < Nat.sub (PfiA.l x).length x10))) (Bad "check" "law.go:124")) (Twice (Nat.le (0 * 128) room47 ∧
Nat.le ((PfiA.l x).length * 128) room47 →
br (Bool.and (Bool.and true (decide (0 + 0 ≤ ([] : List RequestD).length))) (decide ((0 + (PfiA.l x).length) * 128 ≤ room47))) (Nat.le ((0 + (PfiA.l x).length) * 128) room47 ∧
Nat.le (1 * 128) room47 →
br (Bool.and (Bool.and (decide (0 + 1 ≤ [PfiA.r x].length)) (decide (0 + (0 + (PfiA.l x).length) ≤ (@HAppend.hAppend (List RequestD) (List RequestD) (List RequestD) _ (List.take 0 (List.drop 0 ([] : List RequestD))) (PfiA.l x)).length))) (decide ((0 + (PfiA.l x).length + (List.take 1 (List.drop 0 [PfiA.r x])).length) * 128 ≤ room47))) (∃ x17 : FirA, 0 + (0 + (PfiA.l x).length + (List.take 1 (List.drop 0 [PfiA.r x])).length) ≤ (@HAppend.hAppend (List RequestD) (List RequestD) (List RequestD) _ (List.take (0 + (PfiA.l x).length) (List.drop 0 (@HAppend.hAppend (List RequestD) (List RequestD) (List RequestD) _ (List.take 0 (List.drop 0 ([] : List RequestD))) (PfiA.l x)))) (List.take 1 (List.drop 0 [PfiA.r x]))).length ∧
List.take (0 + (PfiA.l x).length + (List.take 1 (List.drop 0 [PfiA.r x])).length) (List.drop 0 (@HAppend.hAppend (List RequestD) (List RequestD) (List RequestD) _ (List.take (0 + (PfiA.l x).length) (List.drop 0 (@HAppend.hAppend (List RequestD) (List RequestD) (List RequestD) _ (List.take 0 (List.drop 0 ([] : List RequestD))) (PfiA.l x)))) (List.take 1 (List.drop 0 [PfiA.r x])))) = x17.l ∧
(PfiA.r x).kind = x17.r.kind ∧
(PfiA.r x).name = x17.r.name ∧
(PfiA.r x).session = x17.r.session ∧
(PfiA.r x).seq = x17.r.seq ∧
(PfiA.r x).base = x17.r.base ∧
(PfiA.r x).ref = x17.r.ref ∧
(PfiA.r x).changes = x17.r.changes ∧
(PfiA.r x).path = x17.r.path ∧
(PfiA.r x).from_ = x17.r.from_ ∧
(PfiA.r x).many = x17.r.many ∧
(PfiA.r x).member = x17.r.member ∧
True ∧
∀ x18 : Unit, True →
decide (@GE.ge Int _ (idxR x17.r x17.l) (0 : Int)) = true) (Bad "check" "law.go:129")) (Bad "check" "law.go:129")) ∧
(Nat.le (0 * 128) room47 ∧
Nat.le ((PfiA.l x).length * 128) room47 →
br (Bool.and (Bool.and true (decide (0 + 0 ≤ ([] : List RequestD).length))) (decide ((0 + (PfiA.l x).length) * 128 ≤ room47))) (Nat.le ((0 + (PfiA.l x).length) * 128) room47 ∧
Nat.le (1 * 128) room47 →
br (Bool.and (Bool.and (decide (0 + 1 ≤ [PfiA.r x].length)) (decide (0 + (0 + (PfiA.l x).length) ≤ (@HAppend.hAppend (List RequestD) (List RequestD) (List RequestD) _ (List.take 0 (List.drop 0 ([] : List RequestD))) (PfiA.l x)).length))) (decide ((0 + (PfiA.l x).length + (List.take 1 (List.drop 0 [PfiA.r x])).length) * 128 ≤ room47))) (∃ x19 : FirA, 0 + (0 + (PfiA.l x).length + (List.take 1 (List.drop 0 [PfiA.r x])).length) ≤ (@HAppend.hAppend (List RequestD) (List RequestD) (List RequestD) _ (List.take (0 + (PfiA.l x).length) (List.drop 0 (@HAppend.hAppend (List RequestD) (List RequestD) (List RequestD) _ (List.take 0 (List.drop 0 ([] : List RequestD))) (PfiA.l x)))) (List.take 1 (List.drop 0 [PfiA.r x]))).length ∧
List.take (0 + (PfiA.l x).length + (List.take 1 (List.drop 0 [PfiA.r x])).length) (List.drop 0 (@HAppend.hAppend (List RequestD) (List RequestD) (List RequestD) _ (List.take (0 + (PfiA.l x).length) (List.drop 0 (@HAppend.hAppend (List RequestD) (List RequestD) (List RequestD) _ (List.take 0 (List.drop 0 ([] : List RequestD))) (PfiA.l x)))) (List.take 1 (List.drop 0 [PfiA.r x])))) = x19.l ∧
(PfiA.r x).kind = x19.r.kind ∧
(PfiA.r x).name = x19.r.name ∧
(PfiA.r x).session = x19.r.session ∧
(PfiA.r x).seq = x19.r.seq ∧
(PfiA.r x).base = x19.r.base ∧
(PfiA.r x).ref = x19.r.ref ∧
(PfiA.r x).changes = x19.r.changes ∧
(PfiA.r x).path = x19.r.path ∧
(PfiA.r x).from_ = x19.r.from_ ∧
(PfiA.r x).many = x19.r.many ∧
(PfiA.r x).member = x19.r.member ∧
True ∧
∀ x20 : Unit, True →
decide (@GE.ge Int _ (idxR x19.r x19.l) (0 : Int)) = true) (Bad "check" "law.go:129")) (Bad "check" "law.go:129")))))))) := by kernel_rfl

theorem ppa_vc (x : PpaA) : evCall ppaE (ev ppaE 1000) 3 (ppaArgs x) ⟨[], 0, []⟩ (fun _ _ => False) (fun v _ => TrueV v) = (
∃ x1 : Unit, True ∧
∀ x2 : Unit, True →
∃ x3 : RmA, PpaA.l x = x3.l ∧
(100 : Int) = x3.most ∧
True ∧
∀ x4 : Unit, True →
br (roomM x3.l x3.most).not (true = true) ((PpaA.l x).length * 128 ≤ room47 →
br ((↑(PpaA.l x).length : Int) == (0 : Int)) (true = true) ((PpaA.l x).length * 128 ≤ room47 →
br ((↑(PpaA.l x).length : Int) != (0 : Int)) ((PpaA.l x).length * 128 ≤ room47 →
(PpaA.l x).length * 128 ≤ room47 →
br ((↑(PpaA.l x).length : Int) != (0 : Int)) (br (bndB (PpaA.l x).length (none : Option Int) (Option.some (Int.tmod (IntKind.wrap IntKind.i64 (Int.tmod (PpaA.k x) (↑(PpaA.l x).length : Int) + (↑(PpaA.l x).length : Int))) (↑(PpaA.l x).length : Int))) (none : Option Int)) (∃ x5 : RunA, 0 + 3 ≤ [(0 : Int), (1 : Int), (2 : Int)].length ∧
List.take 3 (List.drop 0 [(0 : Int), (1 : Int), (2 : Int)]) = CfgD.M (RunA.c x5) ∧
(2 : Int) = CfgD.a (RunA.c x5) ∧
(3 : Int) = CfgD.z (RunA.c x5) ∧
(0 : Int) = CfgD.keep (RunA.c x5) ∧
(0 : Int) = CfgD.beat (RunA.c x5) ∧
(0 : Int) = CfgD.term (RunA.c x5) ∧
(0 : Int) = CfgD.lease (RunA.c x5) ∧
(0 : Int) = CfgD.num (RunA.c x5) ∧
(0 : Int) = CfgD.den (RunA.c x5) ∧
@cutL RequestD (PpaA.l x) (none : Option Int) (Option.some (Int.tmod (IntKind.wrap IntKind.i64 (Int.tmod (PpaA.k x) (↑(PpaA.l x).length : Int) + (↑(PpaA.l x).length : Int))) (↑(PpaA.l x).length : Int))) = RunA.l x5 ∧
RunA.ok x5 = true ∧
∀ x6 : Unit, True →
∃ x7 : RunA, 0 + 3 ≤ [(0 : Int), (1 : Int), (2 : Int)].length ∧
List.take 3 (List.drop 0 [(0 : Int), (1 : Int), (2 : Int)]) = CfgD.M (RunA.c x7) ∧
(2 : Int) = CfgD.a (RunA.c x7) ∧
(3 : Int) = CfgD.z (RunA.c x7) ∧
(0 : Int) = CfgD.keep (RunA.c x7) ∧
(0 : Int) = CfgD.beat (RunA.c x7) ∧
(0 : Int) = CfgD.term (RunA.c x7) ∧
(0 : Int) = CfgD.lease (RunA.c x7) ∧
(0 : Int) = CfgD.num (RunA.c x7) ∧
(0 : Int) = CfgD.den (RunA.c x7) ∧
PpaA.l x = RunA.l x7 ∧
RunA.ok x7 = true ∧
∀ x8 : Unit, True →
(verdF (RunA.f x5) (RunA.l x5)).length * 80 ≤ room47 →
br ((↑(verdF (RunA.f x5) (RunA.l x5)).length : Int) != Int.tmod (IntKind.wrap IntKind.i64 (Int.tmod (PpaA.k x) (↑(PpaA.l x).length : Int) + (↑(PpaA.l x).length : Int))) (↑(PpaA.l x).length : Int)) (false = true) ((verdF (RunA.f x7) (RunA.l x7)).length * 80 ≤ room47 →
(PpaA.l x).length * 128 ≤ room47 →
br ((↑(verdF (RunA.f x7) (RunA.l x7)).length : Int) != (↑(PpaA.l x).length : Int)) (false = true) ((∃ x9 : Nat, (0 : Int) = (↑x9 : Int) ∧
Int.NonNeg (Int.tmod (IntKind.wrap IntKind.i64 (Int.tmod (PpaA.k x) (↑(PpaA.l x).length : Int) + (↑(PpaA.l x).length : Int))) (↑(PpaA.l x).length : Int) - (↑x9 : Int))) ∧
∀ x10 : Nat, Int.NonNeg (Int.tmod (IntKind.wrap IntKind.i64 (Int.tmod (PpaA.k x) (↑(PpaA.l x).length : Int) + (↑(PpaA.l x).length : Int))) (↑(PpaA.l x).length : Int) - (↑x10 : Int)) →
br (decide ((↑x10 : Int) < Int.tmod (IntKind.wrap IntKind.i64 (Int.tmod (PpaA.k x) (↑(PpaA.l x).length : Int) + (↑(PpaA.l x).length : Int))) (↑(PpaA.l x).length : Int))) (br (decide ((0 : Int) ≤ (↑x10 : Int) ∧
(↑x10 : Int) < (↑(verdF (RunA.f x5) (RunA.l x5)).length : Int))) (br (decide ((0 : Int) ≤ (↑x10 : Int) ∧
(↑x10 : Int) < (↑(verdF (RunA.f x7) (RunA.l x7)).length : Int))) (∃ x11 : Ver2, (List.getD (verdF (RunA.f x5) (RunA.l x5)) (↑x10 : Int).toNat (VerdictD.mk (0 : Int) (0 : Int) (0 : Int) ([] : List UInt8) (0 : Int) ([] : List CommitD) (0 : Int))).code = x11.a.code ∧
(List.getD (verdF (RunA.f x5) (RunA.l x5)) (↑x10 : Int).toNat (VerdictD.mk (0 : Int) (0 : Int) (0 : Int) ([] : List UInt8) (0 : Int) ([] : List CommitD) (0 : Int))).session = x11.a.session ∧
(List.getD (verdF (RunA.f x5) (RunA.l x5)) (↑x10 : Int).toNat (VerdictD.mk (0 : Int) (0 : Int) (0 : Int) ([] : List UInt8) (0 : Int) ([] : List CommitD) (0 : Int))).rev = x11.a.rev ∧
(List.getD (verdF (RunA.f x5) (RunA.l x5)) (↑x10 : Int).toNat (VerdictD.mk (0 : Int) (0 : Int) (0 : Int) ([] : List UInt8) (0 : Int) ([] : List CommitD) (0 : Int))).path = x11.a.path ∧
(List.getD (verdF (RunA.f x5) (RunA.l x5)) (↑x10 : Int).toNat (VerdictD.mk (0 : Int) (0 : Int) (0 : Int) ([] : List UInt8) (0 : Int) ([] : List CommitD) (0 : Int))).digest = x11.a.digest ∧
(List.getD (verdF (RunA.f x5) (RunA.l x5)) (↑x10 : Int).toNat (VerdictD.mk (0 : Int) (0 : Int) (0 : Int) ([] : List UInt8) (0 : Int) ([] : List CommitD) (0 : Int))).commits = x11.a.commits ∧
(List.getD (verdF (RunA.f x5) (RunA.l x5)) (↑x10 : Int).toNat (VerdictD.mk (0 : Int) (0 : Int) (0 : Int) ([] : List UInt8) (0 : Int) ([] : List CommitD) (0 : Int))).member = x11.a.member ∧
(List.getD (verdF (RunA.f x7) (RunA.l x7)) (↑x10 : Int).toNat (VerdictD.mk (0 : Int) (0 : Int) (0 : Int) ([] : List UInt8) (0 : Int) ([] : List CommitD) (0 : Int))).code = x11.b.code ∧
(List.getD (verdF (RunA.f x7) (RunA.l x7)) (↑x10 : Int).toNat (VerdictD.mk (0 : Int) (0 : Int) (0 : Int) ([] : List UInt8) (0 : Int) ([] : List CommitD) (0 : Int))).session = x11.b.session ∧
(List.getD (verdF (RunA.f x7) (RunA.l x7)) (↑x10 : Int).toNat (VerdictD.mk (0 : Int) (0 : Int) (0 : Int) ([] : List UInt8) (0 : Int) ([] : List CommitD) (0 : Int))).rev = x11.b.rev ∧
(List.getD (verdF (RunA.f x7) (RunA.l x7)) (↑x10 : Int).toNat (VerdictD.mk (0 : Int) (0 : Int) (0 : Int) ([] : List UInt8) (0 : Int) ([] : List CommitD) (0 : Int))).path = x11.b.path ∧
(List.getD (verdF (RunA.f x7) (RunA.l x7)) (↑x10 : Int).toNat (VerdictD.mk (0 : Int) (0 : Int) (0 : Int) ([] : List UInt8) (0 : Int) ([] : List CommitD) (0 : Int))).digest = x11.b.digest ∧
(List.getD (verdF (RunA.f x7) (RunA.l x7)) (↑x10 : Int).toNat (VerdictD.mk (0 : Int) (0 : Int) (0 : Int) ([] : List UInt8) (0 : Int) ([] : List CommitD) (0 : Int))).commits = x11.b.commits ∧
(List.getD (verdF (RunA.f x7) (RunA.l x7)) (↑x10 : Int).toNat (VerdictD.mk (0 : Int) (0 : Int) (0 : Int) ([] : List UInt8) (0 : Int) ([] : List CommitD) (0 : Int))).member = x11.b.member ∧
True ∧
∀ x12 : Unit, True →
br (eqV x11.a x11.b).not (false = true) (∃ x13 : Nat, IntKind.wrap IntKind.i64 ((↑x10 : Int) + (1 : Int)) = (↑x13 : Int) ∧
Int.NonNeg (Int.tmod (IntKind.wrap IntKind.i64 (Int.tmod (PpaA.k x) (↑(PpaA.l x).length : Int) + (↑(PpaA.l x).length : Int))) (↑(PpaA.l x).length : Int) - (↑x13 : Int)) ∧
Nat.sub (Int.tmod (IntKind.wrap IntKind.i64 (Int.tmod (PpaA.k x) (↑(PpaA.l x).length : Int) + (↑(PpaA.l x).length : Int))) (↑(PpaA.l x).length : Int)).toNat x13 < Nat.sub (Int.tmod (IntKind.wrap IntKind.i64 (Int.tmod (PpaA.k x) (↑(PpaA.l x).length : Int) + (↑(PpaA.l x).length : Int))) (↑(PpaA.l x).length : Int)).toNat x10)) (Bad "check" "law.go:99")) (Bad "check" "law.go:99")) ((∃ x14 : Nat, Int.tmod (IntKind.wrap IntKind.i64 (Int.tmod (PpaA.k x) (↑(PpaA.l x).length : Int) + (↑(PpaA.l x).length : Int))) (↑(PpaA.l x).length : Int) = (↑x14 : Int) ∧
(runF (RunA.f x5) (RunA.l x5)).alpha = (runF (runF (RunA.f x5) (RunA.l x5)) (List.take (x14 - (Int.tmod (IntKind.wrap IntKind.i64 (Int.tmod (PpaA.k x) (↑(PpaA.l x).length : Int) + (↑(PpaA.l x).length : Int))) (↑(PpaA.l x).length : Int)).toNat) (List.drop (Int.tmod (IntKind.wrap IntKind.i64 (Int.tmod (PpaA.k x) (↑(PpaA.l x).length : Int) + (↑(PpaA.l x).length : Int))) (↑(PpaA.l x).length : Int)).toNat (PpaA.l x)))).alpha ∧
(runF (RunA.f x5) (RunA.l x5)).size = (runF (runF (RunA.f x5) (RunA.l x5)) (List.take (x14 - (Int.tmod (IntKind.wrap IntKind.i64 (Int.tmod (PpaA.k x) (↑(PpaA.l x).length : Int) + (↑(PpaA.l x).length : Int))) (↑(PpaA.l x).length : Int)).toNat) (List.drop (Int.tmod (IntKind.wrap IntKind.i64 (Int.tmod (PpaA.k x) (↑(PpaA.l x).length : Int) + (↑(PpaA.l x).length : Int))) (↑(PpaA.l x).length : Int)).toNat (PpaA.l x)))).size ∧
(runF (RunA.f x5) (RunA.l x5)).applied = (runF (runF (RunA.f x5) (RunA.l x5)) (List.take (x14 - (Int.tmod (IntKind.wrap IntKind.i64 (Int.tmod (PpaA.k x) (↑(PpaA.l x).length : Int) + (↑(PpaA.l x).length : Int))) (↑(PpaA.l x).length : Int)).toNat) (List.drop (Int.tmod (IntKind.wrap IntKind.i64 (Int.tmod (PpaA.k x) (↑(PpaA.l x).length : Int) + (↑(PpaA.l x).length : Int))) (↑(PpaA.l x).length : Int)).toNat (PpaA.l x)))).applied ∧
0 = 0 ∧
(runF (RunA.f x5) (RunA.l x5)).C.length = (runF (runF (RunA.f x5) (RunA.l x5)) (List.take (x14 - (Int.tmod (IntKind.wrap IntKind.i64 (Int.tmod (PpaA.k x) (↑(PpaA.l x).length : Int) + (↑(PpaA.l x).length : Int))) (↑(PpaA.l x).length : Int)).toNat) (List.drop (Int.tmod (IntKind.wrap IntKind.i64 (Int.tmod (PpaA.k x) (↑(PpaA.l x).length : Int) + (↑(PpaA.l x).length : Int))) (↑(PpaA.l x).length : Int)).toNat (PpaA.l x)))).C.length ∧
treeC (runF (RunA.f x5) (RunA.l x5)).C = treeC (runF (runF (RunA.f x5) (RunA.l x5)) (List.take (x14 - (Int.tmod (IntKind.wrap IntKind.i64 (Int.tmod (PpaA.k x) (↑(PpaA.l x).length : Int) + (↑(PpaA.l x).length : Int))) (↑(PpaA.l x).length : Int)).toNat) (List.drop (Int.tmod (IntKind.wrap IntKind.i64 (Int.tmod (PpaA.k x) (↑(PpaA.l x).length : Int) + (↑(PpaA.l x).length : Int))) (↑(PpaA.l x).length : Int)).toNat (PpaA.l x)))).C ∧
(runF (RunA.f x5) (RunA.l x5)).C = (runF (runF (RunA.f x5) (RunA.l x5)) (List.take (x14 - (Int.tmod (IntKind.wrap IntKind.i64 (Int.tmod (PpaA.k x) (↑(PpaA.l x).length : Int) + (↑(PpaA.l x).length : Int))) (↑(PpaA.l x).length : Int)).toNat) (List.drop (Int.tmod (IntKind.wrap IntKind.i64 (Int.tmod (PpaA.k x) (↑(PpaA.l x).length : Int) + (↑(PpaA.l x).length : Int))) (↑(PpaA.l x).length : Int)).toNat (PpaA.l x)))).C ∧
kvC (runF (RunA.f x5) (RunA.l x5)).C = kvC (runF (runF (RunA.f x5) (RunA.l x5)) (List.take (x14 - (Int.tmod (IntKind.wrap IntKind.i64 (Int.tmod (PpaA.k x) (↑(PpaA.l x).length : Int) + (↑(PpaA.l x).length : Int))) (↑(PpaA.l x).length : Int)).toNat) (List.drop (Int.tmod (IntKind.wrap IntKind.i64 (Int.tmod (PpaA.k x) (↑(PpaA.l x).length : Int) + (↑(PpaA.l x).length : Int))) (↑(PpaA.l x).length : Int)).toNat (PpaA.l x)))).C ∧
(runF (RunA.f x5) (RunA.l x5)).size = (runF (runF (RunA.f x5) (RunA.l x5)) (List.take (x14 - (Int.tmod (IntKind.wrap IntKind.i64 (Int.tmod (PpaA.k x) (↑(PpaA.l x).length : Int) + (↑(PpaA.l x).length : Int))) (↑(PpaA.l x).length : Int)).toNat) (List.drop (Int.tmod (IntKind.wrap IntKind.i64 (Int.tmod (PpaA.k x) (↑(PpaA.l x).length : Int) + (↑(PpaA.l x).length : Int))) (↑(PpaA.l x).length : Int)).toNat (PpaA.l x)))).size ∧
0 = 0 ∧
(runF (RunA.f x5) (RunA.l x5)).S.length = (runF (runF (RunA.f x5) (RunA.l x5)) (List.take (x14 - (Int.tmod (IntKind.wrap IntKind.i64 (Int.tmod (PpaA.k x) (↑(PpaA.l x).length : Int) + (↑(PpaA.l x).length : Int))) (↑(PpaA.l x).length : Int)).toNat) (List.drop (Int.tmod (IntKind.wrap IntKind.i64 (Int.tmod (PpaA.k x) (↑(PpaA.l x).length : Int) + (↑(PpaA.l x).length : Int))) (↑(PpaA.l x).length : Int)).toNat (PpaA.l x)))).S.length ∧
(runF (RunA.f x5) (RunA.l x5)).S = (runF (runF (RunA.f x5) (RunA.l x5)) (List.take (x14 - (Int.tmod (IntKind.wrap IntKind.i64 (Int.tmod (PpaA.k x) (↑(PpaA.l x).length : Int) + (↑(PpaA.l x).length : Int))) (↑(PpaA.l x).length : Int)).toNat) (List.drop (Int.tmod (IntKind.wrap IntKind.i64 (Int.tmod (PpaA.k x) (↑(PpaA.l x).length : Int) + (↑(PpaA.l x).length : Int))) (↑(PpaA.l x).length : Int)).toNat (PpaA.l x)))).S ∧
(runF (RunA.f x5) (RunA.l x5)).alpha = (runF (runF (RunA.f x5) (RunA.l x5)) (List.take (x14 - (Int.tmod (IntKind.wrap IntKind.i64 (Int.tmod (PpaA.k x) (↑(PpaA.l x).length : Int) + (↑(PpaA.l x).length : Int))) (↑(PpaA.l x).length : Int)).toNat) (List.drop (Int.tmod (IntKind.wrap IntKind.i64 (Int.tmod (PpaA.k x) (↑(PpaA.l x).length : Int) + (↑(PpaA.l x).length : Int))) (↑(PpaA.l x).length : Int)).toNat (PpaA.l x)))).alpha ∧
0 = 0 ∧
(runF (RunA.f x5) (RunA.l x5)).E.length = (runF (runF (RunA.f x5) (RunA.l x5)) (List.take (x14 - (Int.tmod (IntKind.wrap IntKind.i64 (Int.tmod (PpaA.k x) (↑(PpaA.l x).length : Int) + (↑(PpaA.l x).length : Int))) (↑(PpaA.l x).length : Int)).toNat) (List.drop (Int.tmod (IntKind.wrap IntKind.i64 (Int.tmod (PpaA.k x) (↑(PpaA.l x).length : Int) + (↑(PpaA.l x).length : Int))) (↑(PpaA.l x).length : Int)).toNat (PpaA.l x)))).E.length ∧
(runF (RunA.f x5) (RunA.l x5)).E = (runF (runF (RunA.f x5) (RunA.l x5)) (List.take (x14 - (Int.tmod (IntKind.wrap IntKind.i64 (Int.tmod (PpaA.k x) (↑(PpaA.l x).length : Int) + (↑(PpaA.l x).length : Int))) (↑(PpaA.l x).length : Int)).toNat) (List.drop (Int.tmod (IntKind.wrap IntKind.i64 (Int.tmod (PpaA.k x) (↑(PpaA.l x).length : Int) + (↑(PpaA.l x).length : Int))) (↑(PpaA.l x).length : Int)).toNat (PpaA.l x)))).E ∧
Int.tmod (IntKind.wrap IntKind.i64 (Int.tmod (PpaA.k x) (↑(PpaA.l x).length : Int) + (↑(PpaA.l x).length : Int))) (↑(PpaA.l x).length : Int) ≤ (↑x14 : Int) ∧
x14 ≤ (PpaA.l x).length) ∧
∀ x15 : Nat, Int.tmod (IntKind.wrap IntKind.i64 (Int.tmod (PpaA.k x) (↑(PpaA.l x).length : Int) + (↑(PpaA.l x).length : Int))) (↑(PpaA.l x).length : Int) ≤ (↑x15 : Int) ∧
x15 ≤ (PpaA.l x).length →
(PpaA.l x).length * 128 ≤ room47 →
br (decide ((↑x15 : Int) < (↑(PpaA.l x).length : Int))) (br (decide ((0 : Int) ≤ (↑x15 : Int) ∧
(↑x15 : Int) < (↑(PpaA.l x).length : Int))) (br (decide ((0 : Int) ≤ (↑x15 : Int) ∧
(↑x15 : Int) < (↑(verdF (RunA.f x7) (RunA.l x7)).length : Int))) (∃ x16 : MacA, (List.getD (PpaA.l x) (↑x15 : Int).toNat RequestD.dflt).kind = x16.r.kind ∧
(List.getD (PpaA.l x) (↑x15 : Int).toNat RequestD.dflt).name = x16.r.name ∧
(List.getD (PpaA.l x) (↑x15 : Int).toNat RequestD.dflt).session = x16.r.session ∧
(List.getD (PpaA.l x) (↑x15 : Int).toNat RequestD.dflt).seq = x16.r.seq ∧
(List.getD (PpaA.l x) (↑x15 : Int).toNat RequestD.dflt).base = x16.r.base ∧
(List.getD (PpaA.l x) (↑x15 : Int).toNat RequestD.dflt).ref = x16.r.ref ∧
(List.getD (PpaA.l x) (↑x15 : Int).toNat RequestD.dflt).changes = x16.r.changes ∧
(List.getD (PpaA.l x) (↑x15 : Int).toNat RequestD.dflt).path = x16.r.path ∧
(List.getD (PpaA.l x) (↑x15 : Int).toNat RequestD.dflt).from_ = x16.r.from_ ∧
(List.getD (PpaA.l x) (↑x15 : Int).toNat RequestD.dflt).many = x16.r.many ∧
(List.getD (PpaA.l x) (↑x15 : Int).toNat RequestD.dflt).member = x16.r.member ∧
(runF (runF (RunA.f x5) (RunA.l x5)) (List.take (x15 - (Int.tmod (IntKind.wrap IntKind.i64 (Int.tmod (PpaA.k x) (↑(PpaA.l x).length : Int) + (↑(PpaA.l x).length : Int))) (↑(PpaA.l x).length : Int)).toNat) (List.drop (Int.tmod (IntKind.wrap IntKind.i64 (Int.tmod (PpaA.k x) (↑(PpaA.l x).length : Int) + (↑(PpaA.l x).length : Int))) (↑(PpaA.l x).length : Int)).toNat (PpaA.l x)))).alpha = x16.x.alpha ∧
(runF (runF (RunA.f x5) (RunA.l x5)) (List.take (x15 - (Int.tmod (IntKind.wrap IntKind.i64 (Int.tmod (PpaA.k x) (↑(PpaA.l x).length : Int) + (↑(PpaA.l x).length : Int))) (↑(PpaA.l x).length : Int)).toNat) (List.drop (Int.tmod (IntKind.wrap IntKind.i64 (Int.tmod (PpaA.k x) (↑(PpaA.l x).length : Int) + (↑(PpaA.l x).length : Int))) (↑(PpaA.l x).length : Int)).toNat (PpaA.l x)))).size = x16.x.size ∧
(runF (runF (RunA.f x5) (RunA.l x5)) (List.take (x15 - (Int.tmod (IntKind.wrap IntKind.i64 (Int.tmod (PpaA.k x) (↑(PpaA.l x).length : Int) + (↑(PpaA.l x).length : Int))) (↑(PpaA.l x).length : Int)).toNat) (List.drop (Int.tmod (IntKind.wrap IntKind.i64 (Int.tmod (PpaA.k x) (↑(PpaA.l x).length : Int) + (↑(PpaA.l x).length : Int))) (↑(PpaA.l x).length : Int)).toNat (PpaA.l x)))).applied = x16.x.applied ∧
0 = 0 ∧
(runF (runF (RunA.f x5) (RunA.l x5)) (List.take (x15 - (Int.tmod (IntKind.wrap IntKind.i64 (Int.tmod (PpaA.k x) (↑(PpaA.l x).length : Int) + (↑(PpaA.l x).length : Int))) (↑(PpaA.l x).length : Int)).toNat) (List.drop (Int.tmod (IntKind.wrap IntKind.i64 (Int.tmod (PpaA.k x) (↑(PpaA.l x).length : Int) + (↑(PpaA.l x).length : Int))) (↑(PpaA.l x).length : Int)).toNat (PpaA.l x)))).C.length = x16.x.C.length ∧
treeC (runF (runF (RunA.f x5) (RunA.l x5)) (List.take (x15 - (Int.tmod (IntKind.wrap IntKind.i64 (Int.tmod (PpaA.k x) (↑(PpaA.l x).length : Int) + (↑(PpaA.l x).length : Int))) (↑(PpaA.l x).length : Int)).toNat) (List.drop (Int.tmod (IntKind.wrap IntKind.i64 (Int.tmod (PpaA.k x) (↑(PpaA.l x).length : Int) + (↑(PpaA.l x).length : Int))) (↑(PpaA.l x).length : Int)).toNat (PpaA.l x)))).C = treeC x16.x.C ∧
(runF (runF (RunA.f x5) (RunA.l x5)) (List.take (x15 - (Int.tmod (IntKind.wrap IntKind.i64 (Int.tmod (PpaA.k x) (↑(PpaA.l x).length : Int) + (↑(PpaA.l x).length : Int))) (↑(PpaA.l x).length : Int)).toNat) (List.drop (Int.tmod (IntKind.wrap IntKind.i64 (Int.tmod (PpaA.k x) (↑(PpaA.l x).length : Int) + (↑(PpaA.l x).length : Int))) (↑(PpaA.l x).length : Int)).toNat (PpaA.l x)))).C = x16.x.C ∧
kvC (runF (runF (RunA.f x5) (RunA.l x5)) (List.take (x15 - (Int.tmod (IntKind.wrap IntKind.i64 (Int.tmod (PpaA.k x) (↑(PpaA.l x).length : Int) + (↑(PpaA.l x).length : Int))) (↑(PpaA.l x).length : Int)).toNat) (List.drop (Int.tmod (IntKind.wrap IntKind.i64 (Int.tmod (PpaA.k x) (↑(PpaA.l x).length : Int) + (↑(PpaA.l x).length : Int))) (↑(PpaA.l x).length : Int)).toNat (PpaA.l x)))).C = kvC x16.x.C ∧
(runF (runF (RunA.f x5) (RunA.l x5)) (List.take (x15 - (Int.tmod (IntKind.wrap IntKind.i64 (Int.tmod (PpaA.k x) (↑(PpaA.l x).length : Int) + (↑(PpaA.l x).length : Int))) (↑(PpaA.l x).length : Int)).toNat) (List.drop (Int.tmod (IntKind.wrap IntKind.i64 (Int.tmod (PpaA.k x) (↑(PpaA.l x).length : Int) + (↑(PpaA.l x).length : Int))) (↑(PpaA.l x).length : Int)).toNat (PpaA.l x)))).size = x16.x.size ∧
0 = 0 ∧
(runF (runF (RunA.f x5) (RunA.l x5)) (List.take (x15 - (Int.tmod (IntKind.wrap IntKind.i64 (Int.tmod (PpaA.k x) (↑(PpaA.l x).length : Int) + (↑(PpaA.l x).length : Int))) (↑(PpaA.l x).length : Int)).toNat) (List.drop (Int.tmod (IntKind.wrap IntKind.i64 (Int.tmod (PpaA.k x) (↑(PpaA.l x).length : Int) + (↑(PpaA.l x).length : Int))) (↑(PpaA.l x).length : Int)).toNat (PpaA.l x)))).S.length = x16.x.S.length ∧
(runF (runF (RunA.f x5) (RunA.l x5)) (List.take (x15 - (Int.tmod (IntKind.wrap IntKind.i64 (Int.tmod (PpaA.k x) (↑(PpaA.l x).length : Int) + (↑(PpaA.l x).length : Int))) (↑(PpaA.l x).length : Int)).toNat) (List.drop (Int.tmod (IntKind.wrap IntKind.i64 (Int.tmod (PpaA.k x) (↑(PpaA.l x).length : Int) + (↑(PpaA.l x).length : Int))) (↑(PpaA.l x).length : Int)).toNat (PpaA.l x)))).S = x16.x.S ∧
(runF (runF (RunA.f x5) (RunA.l x5)) (List.take (x15 - (Int.tmod (IntKind.wrap IntKind.i64 (Int.tmod (PpaA.k x) (↑(PpaA.l x).length : Int) + (↑(PpaA.l x).length : Int))) (↑(PpaA.l x).length : Int)).toNat) (List.drop (Int.tmod (IntKind.wrap IntKind.i64 (Int.tmod (PpaA.k x) (↑(PpaA.l x).length : Int) + (↑(PpaA.l x).length : Int))) (↑(PpaA.l x).length : Int)).toNat (PpaA.l x)))).alpha = x16.x.alpha ∧
0 = 0 ∧
(runF (runF (RunA.f x5) (RunA.l x5)) (List.take (x15 - (Int.tmod (IntKind.wrap IntKind.i64 (Int.tmod (PpaA.k x) (↑(PpaA.l x).length : Int) + (↑(PpaA.l x).length : Int))) (↑(PpaA.l x).length : Int)).toNat) (List.drop (Int.tmod (IntKind.wrap IntKind.i64 (Int.tmod (PpaA.k x) (↑(PpaA.l x).length : Int) + (↑(PpaA.l x).length : Int))) (↑(PpaA.l x).length : Int)).toNat (PpaA.l x)))).E.length = x16.x.E.length ∧
(runF (runF (RunA.f x5) (RunA.l x5)) (List.take (x15 - (Int.tmod (IntKind.wrap IntKind.i64 (Int.tmod (PpaA.k x) (↑(PpaA.l x).length : Int) + (↑(PpaA.l x).length : Int))) (↑(PpaA.l x).length : Int)).toNat) (List.drop (Int.tmod (IntKind.wrap IntKind.i64 (Int.tmod (PpaA.k x) (↑(PpaA.l x).length : Int) + (↑(PpaA.l x).length : Int))) (↑(PpaA.l x).length : Int)).toNat (PpaA.l x)))).E = x16.x.E ∧
(okMS x16.x = true ∧
okRq x16.r = true) ∧
∀ x17 : Unit, True →
∃ x18 : Ver2, (applyM x16.x x16.r).1.code = x18.a.code ∧
(applyM x16.x x16.r).1.session = x18.a.session ∧
(applyM x16.x x16.r).1.rev = x18.a.rev ∧
(applyM x16.x x16.r).1.path = x18.a.path ∧
(applyM x16.x x16.r).1.digest = x18.a.digest ∧
(applyM x16.x x16.r).1.commits = x18.a.commits ∧
(applyM x16.x x16.r).1.member = x18.a.member ∧
(List.getD (verdF (RunA.f x7) (RunA.l x7)) (↑x15 : Int).toNat (VerdictD.mk (0 : Int) (0 : Int) (0 : Int) ([] : List UInt8) (0 : Int) ([] : List CommitD) (0 : Int))).code = x18.b.code ∧
(List.getD (verdF (RunA.f x7) (RunA.l x7)) (↑x15 : Int).toNat (VerdictD.mk (0 : Int) (0 : Int) (0 : Int) ([] : List UInt8) (0 : Int) ([] : List CommitD) (0 : Int))).session = x18.b.session ∧
(List.getD (verdF (RunA.f x7) (RunA.l x7)) (↑x15 : Int).toNat (VerdictD.mk (0 : Int) (0 : Int) (0 : Int) ([] : List UInt8) (0 : Int) ([] : List CommitD) (0 : Int))).rev = x18.b.rev ∧
(List.getD (verdF (RunA.f x7) (RunA.l x7)) (↑x15 : Int).toNat (VerdictD.mk (0 : Int) (0 : Int) (0 : Int) ([] : List UInt8) (0 : Int) ([] : List CommitD) (0 : Int))).path = x18.b.path ∧
(List.getD (verdF (RunA.f x7) (RunA.l x7)) (↑x15 : Int).toNat (VerdictD.mk (0 : Int) (0 : Int) (0 : Int) ([] : List UInt8) (0 : Int) ([] : List CommitD) (0 : Int))).digest = x18.b.digest ∧
(List.getD (verdF (RunA.f x7) (RunA.l x7)) (↑x15 : Int).toNat (VerdictD.mk (0 : Int) (0 : Int) (0 : Int) ([] : List UInt8) (0 : Int) ([] : List CommitD) (0 : Int))).commits = x18.b.commits ∧
(List.getD (verdF (RunA.f x7) (RunA.l x7)) (↑x15 : Int).toNat (VerdictD.mk (0 : Int) (0 : Int) (0 : Int) ([] : List UInt8) (0 : Int) ([] : List CommitD) (0 : Int))).member = x18.b.member ∧
True ∧
∀ x19 : Unit, True →
br (eqV x18.a x18.b).not (false = true) (∃ x20 : Nat, IntKind.wrap IntKind.i64 ((↑x15 : Int) + (1 : Int)) = (↑x20 : Int) ∧
(applyM x16.x x16.r).2.alpha = (runF (runF (RunA.f x5) (RunA.l x5)) (List.take (x20 - (Int.tmod (IntKind.wrap IntKind.i64 (Int.tmod (PpaA.k x) (↑(PpaA.l x).length : Int) + (↑(PpaA.l x).length : Int))) (↑(PpaA.l x).length : Int)).toNat) (List.drop (Int.tmod (IntKind.wrap IntKind.i64 (Int.tmod (PpaA.k x) (↑(PpaA.l x).length : Int) + (↑(PpaA.l x).length : Int))) (↑(PpaA.l x).length : Int)).toNat (PpaA.l x)))).alpha ∧
(applyM x16.x x16.r).2.size = (runF (runF (RunA.f x5) (RunA.l x5)) (List.take (x20 - (Int.tmod (IntKind.wrap IntKind.i64 (Int.tmod (PpaA.k x) (↑(PpaA.l x).length : Int) + (↑(PpaA.l x).length : Int))) (↑(PpaA.l x).length : Int)).toNat) (List.drop (Int.tmod (IntKind.wrap IntKind.i64 (Int.tmod (PpaA.k x) (↑(PpaA.l x).length : Int) + (↑(PpaA.l x).length : Int))) (↑(PpaA.l x).length : Int)).toNat (PpaA.l x)))).size ∧
(applyM x16.x x16.r).2.applied = (runF (runF (RunA.f x5) (RunA.l x5)) (List.take (x20 - (Int.tmod (IntKind.wrap IntKind.i64 (Int.tmod (PpaA.k x) (↑(PpaA.l x).length : Int) + (↑(PpaA.l x).length : Int))) (↑(PpaA.l x).length : Int)).toNat) (List.drop (Int.tmod (IntKind.wrap IntKind.i64 (Int.tmod (PpaA.k x) (↑(PpaA.l x).length : Int) + (↑(PpaA.l x).length : Int))) (↑(PpaA.l x).length : Int)).toNat (PpaA.l x)))).applied ∧
0 = 0 ∧
(applyM x16.x x16.r).2.C.length = (runF (runF (RunA.f x5) (RunA.l x5)) (List.take (x20 - (Int.tmod (IntKind.wrap IntKind.i64 (Int.tmod (PpaA.k x) (↑(PpaA.l x).length : Int) + (↑(PpaA.l x).length : Int))) (↑(PpaA.l x).length : Int)).toNat) (List.drop (Int.tmod (IntKind.wrap IntKind.i64 (Int.tmod (PpaA.k x) (↑(PpaA.l x).length : Int) + (↑(PpaA.l x).length : Int))) (↑(PpaA.l x).length : Int)).toNat (PpaA.l x)))).C.length ∧
treeC (applyM x16.x x16.r).2.C = treeC (runF (runF (RunA.f x5) (RunA.l x5)) (List.take (x20 - (Int.tmod (IntKind.wrap IntKind.i64 (Int.tmod (PpaA.k x) (↑(PpaA.l x).length : Int) + (↑(PpaA.l x).length : Int))) (↑(PpaA.l x).length : Int)).toNat) (List.drop (Int.tmod (IntKind.wrap IntKind.i64 (Int.tmod (PpaA.k x) (↑(PpaA.l x).length : Int) + (↑(PpaA.l x).length : Int))) (↑(PpaA.l x).length : Int)).toNat (PpaA.l x)))).C ∧
(applyM x16.x x16.r).2.C = (runF (runF (RunA.f x5) (RunA.l x5)) (List.take (x20 - (Int.tmod (IntKind.wrap IntKind.i64 (Int.tmod (PpaA.k x) (↑(PpaA.l x).length : Int) + (↑(PpaA.l x).length : Int))) (↑(PpaA.l x).length : Int)).toNat) (List.drop (Int.tmod (IntKind.wrap IntKind.i64 (Int.tmod (PpaA.k x) (↑(PpaA.l x).length : Int) + (↑(PpaA.l x).length : Int))) (↑(PpaA.l x).length : Int)).toNat (PpaA.l x)))).C ∧
kvC (applyM x16.x x16.r).2.C = kvC (runF (runF (RunA.f x5) (RunA.l x5)) (List.take (x20 - (Int.tmod (IntKind.wrap IntKind.i64 (Int.tmod (PpaA.k x) (↑(PpaA.l x).length : Int) + (↑(PpaA.l x).length : Int))) (↑(PpaA.l x).length : Int)).toNat) (List.drop (Int.tmod (IntKind.wrap IntKind.i64 (Int.tmod (PpaA.k x) (↑(PpaA.l x).length : Int) + (↑(PpaA.l x).length : Int))) (↑(PpaA.l x).length : Int)).toNat (PpaA.l x)))).C ∧
(applyM x16.x x16.r).2.size = (runF (runF (RunA.f x5) (RunA.l x5)) (List.take (x20 - (Int.tmod (IntKind.wrap IntKind.i64 (Int.tmod (PpaA.k x) (↑(PpaA.l x).length : Int) + (↑(PpaA.l x).length : Int))) (↑(PpaA.l x).length : Int)).toNat) (List.drop (Int.tmod (IntKind.wrap IntKind.i64 (Int.tmod (PpaA.k x) (↑(PpaA.l x).length : Int) + (↑(PpaA.l x).length : Int))) (↑(PpaA.l x).length : Int)).toNat (PpaA.l x)))).size ∧
0 = 0 ∧
(applyM x16.x x16.r).2.S.length = (runF (runF (RunA.f x5) (RunA.l x5)) (List.take (x20 - (Int.tmod (IntKind.wrap IntKind.i64 (Int.tmod (PpaA.k x) (↑(PpaA.l x).length : Int) + (↑(PpaA.l x).length : Int))) (↑(PpaA.l x).length : Int)).toNat) (List.drop (Int.tmod (IntKind.wrap IntKind.i64 (Int.tmod (PpaA.k x) (↑(PpaA.l x).length : Int) + (↑(PpaA.l x).length : Int))) (↑(PpaA.l x).length : Int)).toNat (PpaA.l x)))).S.length ∧
(applyM x16.x x16.r).2.S = (runF (runF (RunA.f x5) (RunA.l x5)) (List.take (x20 - (Int.tmod (IntKind.wrap IntKind.i64 (Int.tmod (PpaA.k x) (↑(PpaA.l x).length : Int) + (↑(PpaA.l x).length : Int))) (↑(PpaA.l x).length : Int)).toNat) (List.drop (Int.tmod (IntKind.wrap IntKind.i64 (Int.tmod (PpaA.k x) (↑(PpaA.l x).length : Int) + (↑(PpaA.l x).length : Int))) (↑(PpaA.l x).length : Int)).toNat (PpaA.l x)))).S ∧
(applyM x16.x x16.r).2.alpha = (runF (runF (RunA.f x5) (RunA.l x5)) (List.take (x20 - (Int.tmod (IntKind.wrap IntKind.i64 (Int.tmod (PpaA.k x) (↑(PpaA.l x).length : Int) + (↑(PpaA.l x).length : Int))) (↑(PpaA.l x).length : Int)).toNat) (List.drop (Int.tmod (IntKind.wrap IntKind.i64 (Int.tmod (PpaA.k x) (↑(PpaA.l x).length : Int) + (↑(PpaA.l x).length : Int))) (↑(PpaA.l x).length : Int)).toNat (PpaA.l x)))).alpha ∧
0 = 0 ∧
(applyM x16.x x16.r).2.E.length = (runF (runF (RunA.f x5) (RunA.l x5)) (List.take (x20 - (Int.tmod (IntKind.wrap IntKind.i64 (Int.tmod (PpaA.k x) (↑(PpaA.l x).length : Int) + (↑(PpaA.l x).length : Int))) (↑(PpaA.l x).length : Int)).toNat) (List.drop (Int.tmod (IntKind.wrap IntKind.i64 (Int.tmod (PpaA.k x) (↑(PpaA.l x).length : Int) + (↑(PpaA.l x).length : Int))) (↑(PpaA.l x).length : Int)).toNat (PpaA.l x)))).E.length ∧
(applyM x16.x x16.r).2.E = (runF (runF (RunA.f x5) (RunA.l x5)) (List.take (x20 - (Int.tmod (IntKind.wrap IntKind.i64 (Int.tmod (PpaA.k x) (↑(PpaA.l x).length : Int) + (↑(PpaA.l x).length : Int))) (↑(PpaA.l x).length : Int)).toNat) (List.drop (Int.tmod (IntKind.wrap IntKind.i64 (Int.tmod (PpaA.k x) (↑(PpaA.l x).length : Int) + (↑(PpaA.l x).length : Int))) (↑(PpaA.l x).length : Int)).toNat (PpaA.l x)))).E ∧
(Int.tmod (IntKind.wrap IntKind.i64 (Int.tmod (PpaA.k x) (↑(PpaA.l x).length : Int) + (↑(PpaA.l x).length : Int))) (↑(PpaA.l x).length : Int) ≤ (↑x20 : Int) ∧
x20 ≤ (PpaA.l x).length) ∧
Nat.sub (PpaA.l x).length x20 < Nat.sub (PpaA.l x).length x15)) (Bad "check" "law.go:104")) (Bad "check" "law.go:104")) (∃ x21 : MacS, (runF (runF (RunA.f x5) (RunA.l x5)) (List.take (x15 - (Int.tmod (IntKind.wrap IntKind.i64 (Int.tmod (PpaA.k x) (↑(PpaA.l x).length : Int) + (↑(PpaA.l x).length : Int))) (↑(PpaA.l x).length : Int)).toNat) (List.drop (Int.tmod (IntKind.wrap IntKind.i64 (Int.tmod (PpaA.k x) (↑(PpaA.l x).length : Int) + (↑(PpaA.l x).length : Int))) (↑(PpaA.l x).length : Int)).toNat (PpaA.l x)))).alpha = x21.alpha ∧
(runF (runF (RunA.f x5) (RunA.l x5)) (List.take (x15 - (Int.tmod (IntKind.wrap IntKind.i64 (Int.tmod (PpaA.k x) (↑(PpaA.l x).length : Int) + (↑(PpaA.l x).length : Int))) (↑(PpaA.l x).length : Int)).toNat) (List.drop (Int.tmod (IntKind.wrap IntKind.i64 (Int.tmod (PpaA.k x) (↑(PpaA.l x).length : Int) + (↑(PpaA.l x).length : Int))) (↑(PpaA.l x).length : Int)).toNat (PpaA.l x)))).size = x21.size ∧
(runF (runF (RunA.f x5) (RunA.l x5)) (List.take (x15 - (Int.tmod (IntKind.wrap IntKind.i64 (Int.tmod (PpaA.k x) (↑(PpaA.l x).length : Int) + (↑(PpaA.l x).length : Int))) (↑(PpaA.l x).length : Int)).toNat) (List.drop (Int.tmod (IntKind.wrap IntKind.i64 (Int.tmod (PpaA.k x) (↑(PpaA.l x).length : Int) + (↑(PpaA.l x).length : Int))) (↑(PpaA.l x).length : Int)).toNat (PpaA.l x)))).applied = x21.applied ∧
0 = 0 ∧
(runF (runF (RunA.f x5) (RunA.l x5)) (List.take (x15 - (Int.tmod (IntKind.wrap IntKind.i64 (Int.tmod (PpaA.k x) (↑(PpaA.l x).length : Int) + (↑(PpaA.l x).length : Int))) (↑(PpaA.l x).length : Int)).toNat) (List.drop (Int.tmod (IntKind.wrap IntKind.i64 (Int.tmod (PpaA.k x) (↑(PpaA.l x).length : Int) + (↑(PpaA.l x).length : Int))) (↑(PpaA.l x).length : Int)).toNat (PpaA.l x)))).C.length = x21.C.length ∧
treeC (runF (runF (RunA.f x5) (RunA.l x5)) (List.take (x15 - (Int.tmod (IntKind.wrap IntKind.i64 (Int.tmod (PpaA.k x) (↑(PpaA.l x).length : Int) + (↑(PpaA.l x).length : Int))) (↑(PpaA.l x).length : Int)).toNat) (List.drop (Int.tmod (IntKind.wrap IntKind.i64 (Int.tmod (PpaA.k x) (↑(PpaA.l x).length : Int) + (↑(PpaA.l x).length : Int))) (↑(PpaA.l x).length : Int)).toNat (PpaA.l x)))).C = treeC x21.C ∧
(runF (runF (RunA.f x5) (RunA.l x5)) (List.take (x15 - (Int.tmod (IntKind.wrap IntKind.i64 (Int.tmod (PpaA.k x) (↑(PpaA.l x).length : Int) + (↑(PpaA.l x).length : Int))) (↑(PpaA.l x).length : Int)).toNat) (List.drop (Int.tmod (IntKind.wrap IntKind.i64 (Int.tmod (PpaA.k x) (↑(PpaA.l x).length : Int) + (↑(PpaA.l x).length : Int))) (↑(PpaA.l x).length : Int)).toNat (PpaA.l x)))).C = x21.C ∧
kvC (runF (runF (RunA.f x5) (RunA.l x5)) (List.take (x15 - (Int.tmod (IntKind.wrap IntKind.i64 (Int.tmod (PpaA.k x) (↑(PpaA.l x).length : Int) + (↑(PpaA.l x).length : Int))) (↑(PpaA.l x).length : Int)).toNat) (List.drop (Int.tmod (IntKind.wrap IntKind.i64 (Int.tmod (PpaA.k x) (↑(PpaA.l x).length : Int) + (↑(PpaA.l x).length : Int))) (↑(PpaA.l x).length : Int)).toNat (PpaA.l x)))).C = kvC x21.C ∧
(runF (runF (RunA.f x5) (RunA.l x5)) (List.take (x15 - (Int.tmod (IntKind.wrap IntKind.i64 (Int.tmod (PpaA.k x) (↑(PpaA.l x).length : Int) + (↑(PpaA.l x).length : Int))) (↑(PpaA.l x).length : Int)).toNat) (List.drop (Int.tmod (IntKind.wrap IntKind.i64 (Int.tmod (PpaA.k x) (↑(PpaA.l x).length : Int) + (↑(PpaA.l x).length : Int))) (↑(PpaA.l x).length : Int)).toNat (PpaA.l x)))).size = x21.size ∧
0 = 0 ∧
(runF (runF (RunA.f x5) (RunA.l x5)) (List.take (x15 - (Int.tmod (IntKind.wrap IntKind.i64 (Int.tmod (PpaA.k x) (↑(PpaA.l x).length : Int) + (↑(PpaA.l x).length : Int))) (↑(PpaA.l x).length : Int)).toNat) (List.drop (Int.tmod (IntKind.wrap IntKind.i64 (Int.tmod (PpaA.k x) (↑(PpaA.l x).length : Int) + (↑(PpaA.l x).length : Int))) (↑(PpaA.l x).length : Int)).toNat (PpaA.l x)))).S.length = x21.S.length ∧
(runF (runF (RunA.f x5) (RunA.l x5)) (List.take (x15 - (Int.tmod (IntKind.wrap IntKind.i64 (Int.tmod (PpaA.k x) (↑(PpaA.l x).length : Int) + (↑(PpaA.l x).length : Int))) (↑(PpaA.l x).length : Int)).toNat) (List.drop (Int.tmod (IntKind.wrap IntKind.i64 (Int.tmod (PpaA.k x) (↑(PpaA.l x).length : Int) + (↑(PpaA.l x).length : Int))) (↑(PpaA.l x).length : Int)).toNat (PpaA.l x)))).S = x21.S ∧
(runF (runF (RunA.f x5) (RunA.l x5)) (List.take (x15 - (Int.tmod (IntKind.wrap IntKind.i64 (Int.tmod (PpaA.k x) (↑(PpaA.l x).length : Int) + (↑(PpaA.l x).length : Int))) (↑(PpaA.l x).length : Int)).toNat) (List.drop (Int.tmod (IntKind.wrap IntKind.i64 (Int.tmod (PpaA.k x) (↑(PpaA.l x).length : Int) + (↑(PpaA.l x).length : Int))) (↑(PpaA.l x).length : Int)).toNat (PpaA.l x)))).alpha = x21.alpha ∧
0 = 0 ∧
(runF (runF (RunA.f x5) (RunA.l x5)) (List.take (x15 - (Int.tmod (IntKind.wrap IntKind.i64 (Int.tmod (PpaA.k x) (↑(PpaA.l x).length : Int) + (↑(PpaA.l x).length : Int))) (↑(PpaA.l x).length : Int)).toNat) (List.drop (Int.tmod (IntKind.wrap IntKind.i64 (Int.tmod (PpaA.k x) (↑(PpaA.l x).length : Int) + (↑(PpaA.l x).length : Int))) (↑(PpaA.l x).length : Int)).toNat (PpaA.l x)))).E.length = x21.E.length ∧
(runF (runF (RunA.f x5) (RunA.l x5)) (List.take (x15 - (Int.tmod (IntKind.wrap IntKind.i64 (Int.tmod (PpaA.k x) (↑(PpaA.l x).length : Int) + (↑(PpaA.l x).length : Int))) (↑(PpaA.l x).length : Int)).toNat) (List.drop (Int.tmod (IntKind.wrap IntKind.i64 (Int.tmod (PpaA.k x) (↑(PpaA.l x).length : Int) + (↑(PpaA.l x).length : Int))) (↑(PpaA.l x).length : Int)).toNat (PpaA.l x)))).E = x21.E ∧
True ∧
∀ x22 : Unit, True →
(PpaA.l x).length * 128 ≤ room47 →
(x21.applied == (↑(PpaA.l x).length : Int)) = true))))) (Bad "check" "law.go:93")) (Bad "check" "law.go:92")) (Bad "check" "law.go:92")))) := by kernel_rfl

end Go.Proofs.YtgepebndihfnfaaGreat.Ses

namespace Go.Proofs.YtgepebndihfnfaaGreat.Ses
open Go Go.Proofs Go.Proofs.YtgepebndihfnfaaGreat.Sx

theorem eqR_self (r : RequestD) : eqR r r = true := by
  unfold eqR
  rw [sameC_self]
  simp
/-- where r stands first, if anywhere -/
theorem idxR_spec (r : RequestD) : ∀ l : List RequestD, (idxR r l = -1 ∧ ∀ j, j < l.length → eqR (l.getD j RequestD.dflt) r = false) ∨ ∃ k : Nat, k < l.length ∧ idxR r l = k ∧ eqR (l.getD k RequestD.dflt) r = true ∧ ∀ j, j < k → eqR (l.getD j RequestD.dflt) r = false
  | [] => .inl ⟨rfl, fun j h => absurd h (Nat.not_lt_zero _)⟩
  | x :: t => by
    cases h : eqR x r
    · rcases idxR_spec r t with ⟨h1, h2⟩ | ⟨k, h1, h2, h3, h4⟩
      · refine .inl ⟨by unfold idxR; rw [h, h1]; rfl, fun j hj => ?_⟩
        cases j with
        | zero => exact h
        | succ j => exact h2 j (by simpa using hj)
      · refine .inr ⟨k + 1, by simpa using h1, ?_, h3, fun j hj => ?_⟩
        · unfold idxR
          rw [h, h2]
          dsimp only [cond_false]
          rw [decide_eq_false (by omega : ¬ ((k : Int) < 0))]
          rfl
        · cases j with
          | zero => exact h
          | succ j => exact h4 j (by omega)
    · exact .inr ⟨0, by simp, by unfold idxR; rw [h]; rfl, h, fun j hj => absurd hj (Nat.not_lt_zero _)⟩
theorem idxR_lo (r : RequestD) (l : List RequestD) : -1 ≤ idxR r l := by
  rcases idxR_spec r l with ⟨h, _⟩ | ⟨k, _, h, _⟩ <;> omega
theorem idxR_hi (r : RequestD) (l : List RequestD) (h0 : 0 ≤ l.length) : idxR r l < l.length := by
  rcases idxR_spec r l with ⟨h, _⟩ | ⟨k, _, h, _⟩ <;> omega
theorem idxR_yes {r : RequestD} {l : List RequestD} {i : Nat} (hi : i < l.length) (h : eqR (l.getD i RequestD.dflt) r = true) : 0 ≤ idxR r l ∧ idxR r l ≤ i := by
  rcases idxR_spec r l with ⟨_, h2⟩ | ⟨k, _, h2, _, h4⟩
  · rw [h2 i hi] at h; cases h
  · refine ⟨by omega, ?_⟩
    rw [h2]
    rcases Nat.lt_or_ge i k with hk | hk
    · rw [h4 i hk] at h; cases h
    · omega
theorem idxR_is {r : RequestD} {l : List RequestD} {i : Nat} (h : (i : Int) = idxR r l) : eqR (l.getD i RequestD.dflt) r = true := by
  rcases idxR_spec r l with ⟨h1, _⟩ | ⟨k, _, h2, h3, _⟩
  · omega
  · have : i = k := by omega
    subst this; exact h3
theorem idxR_last (r : RequestD) (l : List RequestD) : 0 ≤ idxR r (l ++ [r]) :=
  (idxR_yes (i := l.length) (by simp) (by rw [List.getD_eq_getElem?_getD]; simp [eqR_self])).1

theorem pfi_ok : EnvOK pfiE := Env_ok (by decide +kernel) (by
  intro p hp
  simp only [List.mem_cons, List.mem_nil_iff, or_false] at hp
  rcases hp with rfl | rfl | rfl | rfl
  · exact paw_ok
  · exact mroom_ok
  · exact fir_ok
  · exact esar_ok)
set_option maxHeartbeats 0 in
theorem pfi_body (x : PfiA) : evCall pfiE (ev pfiE 1000) 4 (pfiArgs x) ⟨[], 0, []⟩ (fun _ _ => False) (fun v _ => TrueV v) := by
  rw [pfi_vc]
  obtain ⟨l, r⟩ := x
  dsimp only at *
  refine ⟨(), trivial, fun _ _ => ⟨⟨l, 100⟩, rfl, rfl, trivial, fun _ _ => br_i (fun _ => rfl) fun hr => ⟨⟨[r], 1⟩, Nat.le_refl 1, rfl, rfl, trivial, fun _ _ => br_i (fun _ => rfl) fun hrq => ?_⟩⟩⟩
  rw [Bool.not_eq_false'] at hr
  obtain ⟨l100, _⟩ := roomM_of hr
  have l100 : (l.length : Int) ≤ 100 := l100
  have hlo := idxR_lo r l
  have hhi := idxR_hi r l (Nat.zero_le _)
  refine ⟨⟨l, r⟩, rfl, rfl, rfl, rfl, rfl, rfl, rfl, rfl, rfl, rfl, rfl, rfl, trivial, fun _ _ => br_f (decide_eq_false ?_) fun _ => br_f (decide_eq_false ?_) ⟨⟨0, rfl, Nat.zero_le _⟩, fun i hi _ => br_i (fun h1 => ?_) (fun h1 => ?_)⟩⟩
  · show ¬ idxR r l < -1
    omega
  · show ¬ idxR r l ≥ (l.length : Int)
    omega
  · have h1 := of_decide_eq_true h1
    have bi : decide ((0 : Int) ≤ (i : Int) ∧ (i : Int) < (l.length : Int)) = true := decide_eq_true ⟨by omega, h1⟩
    have hw : IntKind.i64.wrap ((i : Int) + 1) = ((i + 1 : Nat) : Int) := by rw [wrap_id (by omega) (by omega)]; rfl
    have hle : (i + 1).le l.length := by show i + 1 ≤ l.length; omega
    have hms : l.length.sub (i + 1) < l.length.sub i := by show l.length - (i + 1) < l.length - i; omega
    have e0 : (i : Int).toNat = i := rfl
    rw [e0]
    have tail : br ((i : Int) == idxR r l) (br (!(eqR (l.getD i RequestD.dflt) r)) (false = true) (∃ x13 : Nat, IntKind.i64.wrap ((i : Int) + 1) = (x13 : Int) ∧ Nat.le x13 l.length ∧ l.length.sub x13 < l.length.sub i)) (∃ x14 : Nat, IntKind.i64.wrap ((i : Int) + 1) = (x14 : Int) ∧ Nat.le x14 l.length ∧ l.length.sub x14 < l.length.sub i) :=
      br_i (fun e => br_f (by rw [idxR_is (eq_of_beq e)]; rfl) ⟨i + 1, hw, hle, hms⟩) fun _ => ⟨i + 1, hw, hle, hms⟩
    refine br_t bi ⟨⟨l.getD i RequestD.dflt, r⟩, rfl, rfl, rfl, rfl, rfl, rfl, rfl, rfl, rfl, rfl, rfl, rfl, rfl, rfl, rfl, rfl, rfl, rfl, rfl, rfl, rfl, rfl, trivial, fun _ _ => br_i (fun q => ?_) (fun q => tail)⟩
    obtain ⟨q1, q2⟩ := idxR_yes (r := r) (l := l) (i := i) (by omega) q
    refine br_f (decide_eq_false ?_) (br_f (decide_eq_false ?_) tail)
    · show ¬ idxR r l < 0
      omega
    · show ¬ (i : Int) < idxR r l
      omega
  · have hb : ∀ n : Nat, n ≤ 200 → n * 128 ≤ room47 := fun n hn => by unfold room47; omega
    have key : ∀ L : List RequestD, L = l ++ [r] → decide (idxR r L ≥ (0 : Int)) = true := fun L hL => by
      subst hL; exact decide_eq_true (idxR_last r l)
    have e1 : List.take (0 + l.length + (List.take 1 (List.drop 0 [r])).length) (List.drop 0 (List.take (0 + l.length) (List.drop 0 (List.take 0 (List.drop 0 ([] : List RequestD)) ++ l)) ++ List.take 1 (List.drop 0 [r]))) = l ++ [r] := by
      simp only [List.drop_zero, List.take_zero, List.nil_append, Nat.zero_add, List.take_length, List.length_cons, List.length_nil]
      exact List.take_of_length_le (by simp)
    have e2 : 0 + (0 + l.length + (List.take 1 (List.drop 0 [r])).length) ≤ (List.take (0 + l.length) (List.drop 0 (List.take 0 (List.drop 0 ([] : List RequestD)) ++ l)) ++ List.take 1 (List.drop 0 [r])).length := by
      simp
    refine ⟨twice fun _ => br_t ?_ fun _ => br_t ?_ ⟨⟨l ++ [r], r⟩, e2, e1, rfl, rfl, rfl, rfl, rfl, rfl, rfl, rfl, rfl, rfl, rfl, trivial, fun _ _ => key _ rfl⟩, fun _ => br_t ?_ fun _ => br_t ?_ ⟨⟨l ++ [r], r⟩, e2, e1, rfl, rfl, rfl, rfl, rfl, rfl, rfl, rfl, rfl, rfl, rfl, trivial, fun _ _ => key _ rfl⟩⟩
    all_goals simp
    all_goals exact hb _ (by omega)
end Go.Proofs.YtgepebndihfnfaaGreat.Ses

namespace Go.Proofs.YtgepebndihfnfaaGreat.Ses
open Go Go.Proofs Go.Proofs.YtgepebndihfnfaaGreat.Sx

end Go.Proofs.YtgepebndihfnfaaGreat.Ses

namespace Go.Proofs.YtgepebndihfnfaaGreat.Ses
open Go Go.Proofs Go.Proofs.YtgepebndihfnfaaGreat.Sx

theorem ppa_ok : EnvOK ppaE := Env_ok (by decide +kernel) (by
  intro p hp
  simp only [List.mem_cons, List.mem_nil_iff, or_false] at hp
  rcases hp with rfl | rfl | rfl | rfl | rfl | rfl
  · exact paw_ok
  · exact mroom_ok
  · exact prun1_ok
  · exact apply_ok echg_ok
  · exact alike_ok
  · exact appM_ok)
/-- where a row is cut -/
theorem cut_in {n : Nat} (k : Int) (h0 : 0 < n) (h1 : n ≤ 100) : ∃ a : Nat, a < n ∧ Int.tmod (IntKind.wrap IntKind.i64 (Int.tmod k n + n)) n = (a : Int) := by
  have b1 : Int.tmod k n < n := Int.tmod_lt_of_pos k (by omega)
  have b0 : -(n : Int) < Int.tmod k n := by
    have := Int.lt_tmod_of_pos k (b := (n : Int)) (by omega)
    omega
  rw [wrap_id (by omega) (by omega)]
  have c0 : 0 ≤ Int.tmod (Int.tmod k n + n) n := Int.tmod_nonneg _ (by omega)
  have c1 : Int.tmod (Int.tmod k n + n) n < n := Int.tmod_lt_of_pos _ (by omega)
  exact ⟨(Int.tmod (Int.tmod k n + n) n).toNat, by omega, by omega⟩
theorem okL_take {l : List RequestD} (h : okL l = true) (a : Nat) : okL (l.take a) = true := by
  obtain ⟨h4, hq⟩ := okL_of h
  unfold okL
  rw [decide_eq_true (by have := take_le l a; omega : (l.take a).length ≤ 4000), List.all_eq_true.2 fun r hr => by
    obtain ⟨p, q⟩ := hq r (List.mem_of_mem_take hr)
    rw [p, q]; rfl]; rfl
theorem getD_take {α : Type} {l : List α} {a i : Nat} (h : i < a) (d : α) : (l.take a).getD i d = l.getD i d := by
  rw [List.getD_eq_getElem?_getD, List.getD_eq_getElem?_getD, List.getElem?_take_of_lt h]
theorem verd_pre {x : MacS} {l : List RequestD} {a i : Nat} (h : i < a) (ha : a ≤ l.length) (d : VerdictD) : (verdF x (l.take a)).getD i d = (verdF x l).getD i d := by
  rw [verd_get (by rw [List.length_take]; omega), verd_get (by omega), getD_take h, List.take_take, Nat.min_eq_left (by omega)]
theorem run_cut (x : MacS) (l : List RequestD) {a i : Nat} (h : a ≤ i) : runF (runF x (l.take a)) ((l.drop a).take (i - a)) = runF x (l.take i) := by
  rw [← run_app, ← List.take_add, Nat.add_sub_cancel' h]
set_option maxHeartbeats 0 in
theorem ppa_body (x : PpaA) (hl : ∀ r, r ∈ x.l → inI r.from_ = true) : evCall ppaE (ev ppaE 1000) 3 (ppaArgs x) ⟨[], 0, []⟩ (fun _ _ => False) (fun v _ => TrueV v) := by
  rw [ppa_vc]
  obtain ⟨l, k⟩ := x
  dsimp only at *
  refine ⟨(), trivial, fun _ _ => ⟨⟨l, 100⟩, rfl, rfl, trivial, fun _ _ => br_i (fun _ => rfl) fun hr => fun _ => br_i (fun _ => rfl) fun hn => ?_⟩⟩
  rw [Bool.not_eq_false'] at hr
  have hL : okL l = true := room_okL hr (by show (100 : Int) ≤ 4000; omega) hl
  obtain ⟨l100, _⟩ := roomM_of hr
  have l100 : (l.length : Int) ≤ 100 := l100
  have hn : ¬ (l.length : Int) = 0 := fun e => by rw [e] at hn; cases hn
  obtain ⟨a, ha, hA⟩ := cut_in (n := l.length) k (by omega) (by omega)
  rw [hA]
  have e0 : (a : Int).toNat = a := rfl
  rw [e0]
  have nz : ((l.length : Int) != (0 : Int)) = true := bne_iff_ne.2 hn
  refine fun _ => br_t nz fun _ _ => br_t nz (br_t ?_ ⟨⟨cf0, l.take a⟩, Nat.le_refl 3, rfl, rfl, rfl, rfl, rfl, rfl, rfl, rfl, rfl, rfl, cf0_ok (okL_take hL a), fun _ _ => ⟨⟨cf0, l⟩, Nat.le_refl 3, rfl, rfl, rfl, rfl, rfl, rfl, rfl, rfl, rfl, rfl, cf0_ok hL, fun _ _ => ?_⟩⟩)
  · show (true && decide (0 ≤ (a : Int) ∧ (a : Int) ≤ (l.length : Int)) && true) = true
    rw [decide_eq_true (by omega)]; rfl
  have eF : RunA.f ⟨cf0, l.take a⟩ = RunA.f ⟨cf0, l⟩ := rfl
  have hcf : okCf cf0.a cf0.z cf0.M = true := by decide
  have hin := fun i => runZ_in hcf hL i
  have hend : (runF (RunA.f ⟨cf0, l⟩) l).applied = l.length := (runZD_ok hcf l (by omega)).ok.ap
  have eG : RunA.f ⟨cf0, l⟩ = freshM cf0.a cf0.z cf0.M := rfl
  dsimp only
  rw [eF]
  rw [eG] at hend ⊢
  generalize freshM cf0.a cf0.z cf0.M = F at hin hend ⊢
  have n1 : (verdF F (l.take a)).length = a := by rw [verd_len, List.length_take]; omega
  have n2 : (verdF F l).length = l.length := verd_len _ _
  rw [n1, n2]
  have nv : ∀ v w : VerdictD, v = w → (!(eqV v w)) = false := fun v w e => by rw [e, eqV_self]; rfl
  refine fun _ => br_f (bne_self_eq_false _) fun _ _ => br_f (bne_self_eq_false _) ⟨⟨0, rfl, ?_⟩, fun i hi => br_i (fun h1 => ?_) (fun h1 => ⟨⟨a, rfl, ?_⟩, fun i hi _ => br_i (fun h2 => ?_) (fun h2 => ?_)⟩)⟩
  · show (0 : Int) ≤ (a : Int)
    omega
  · have hi : (i : Int) ≤ (a : Int) := hi
    have h1 : (i : Int) < (a : Int) := of_decide_eq_true h1
    have hw : IntKind.i64.wrap ((i : Int) + 1) = ((i + 1 : Nat) : Int) := by rw [wrap_id (by omega) (by omega)]; rfl
    refine br_t (decide_eq_true ⟨by omega, h1⟩) (br_t (decide_eq_true ⟨by omega, by omega⟩) ⟨⟨_, _⟩, rfl, rfl, rfl, rfl, rfl, rfl, rfl, rfl, rfl, rfl, rfl, rfl, rfl, rfl, trivial, fun _ _ => br_f (nv _ _ (verd_pre (i := i) (by omega) (by omega) _)) ⟨i + 1, hw, ?_, ?_⟩⟩)
    · show ((i + 1 : Nat) : Int) ≤ (a : Int)
      omega
    · show a - (i + 1) < a - i
      omega
  · rw [Nat.sub_self]
    exact (by repeat' (first | exact Int.le_refl _ | exact Nat.le_of_lt ha | refine And.intro ?_ ?_ | rfl))
  · obtain ⟨i1, i2⟩ := hi
    have h2 : (i : Int) < (l.length : Int) := of_decide_eq_true h2
    rw [run_cut F l (by omega : a ≤ i)]
    have ei : (i : Int).toNat = i := rfl
    rw [ei]
    have eg : l.getD i RequestD.dflt = l.getD i noR0 := rfl
    rw [eg]
    have hgo := run_at (x := F) (l := l) (i := i) (by omega)
    have hv := verd_get (x := F) (l := l) (i := i) (by omega) ⟨0, 0, 0, [], 0, [], 0⟩
    obtain ⟨⟨n, hn', hG⟩, hS⟩ := hin i
    obtain ⟨okr, okf⟩ := (okL_of hL).2 (l.getD i noR0) (getD_mem (by omega))
    have okm := hG.ok.ok (by omega)
    have hw : IntKind.i64.wrap ((i : Int) + 1) = ((i + 1 : Nat) : Int) := by rw [wrap_id (by omega) (by omega)]; rfl
    have hms : l.length.sub (i + 1) < l.length.sub i := by show l.length - (i + 1) < l.length - i; omega
    have hc := run_cut F l (by omega : a ≤ i + 1)
    rw [hgo] at hc
    generalize l.getD i noR0 = r at hc hv okr ⊢
    generalize runF F (l.take i) = y at hc hv okm ⊢
    refine br_t (decide_eq_true ⟨by omega, h2⟩) (br_t (decide_eq_true ⟨by omega, h2⟩) ⟨⟨y, r⟩, rfl, rfl, rfl, rfl, rfl, rfl, rfl, rfl, rfl, rfl, rfl, rfl, rfl, rfl, rfl, rfl, rfl, rfl, rfl, rfl, rfl, rfl, rfl, rfl, rfl, rfl, rfl, ⟨okm, okr⟩, fun _ _ => ⟨⟨_, _⟩, rfl, rfl, rfl, rfl, rfl, rfl, rfl, rfl, rfl, rfl, rfl, rfl, rfl, rfl, trivial, fun _ _ => br_f (nv _ _ hv.symm) ⟨i + 1, hw, ?_⟩⟩⟩)
    rw [hc]
    have hle : a ≤ ((i + 1 : Nat) : Int) ∧ i + 1 ≤ l.length := ⟨by omega, by omega⟩
    exact (by repeat' (first | exact hle | exact hms | refine And.intro ?_ ?_ | rfl))
  · obtain ⟨i1, i2⟩ := hi
    have h2 : ¬ (i : Int) < (l.length : Int) := of_decide_eq_false h2
    have : i = l.length := by omega
    subst this
    rw [run_cut F l (by omega : a ≤ l.length), List.take_length]
    exact ⟨_, rfl, rfl, rfl, rfl, rfl, rfl, rfl, rfl, rfl, rfl, rfl, rfl, rfl, rfl, rfl, rfl, trivial, fun _ _ _ => by rw [hend]; exact beq_self_eq_true _⟩
end Go.Proofs.YtgepebndihfnfaaGreat.Ses
