/- A law of graphs: what the evaluator leaves, and that it holds. No condition. -/
import Derived.Test.YtildflamnehilaaGreatGrvA
import Derived.KernelRfl
set_option linter.unusedSimpArgs false
set_option linter.unusedVariables false

namespace Go.Proofs.YtildflamnehilaaGreat.Ses
open Go Go.Proofs Go.Proofs.YtildflamnehilaaGreat.Sx Go.Proofs.YtildflamnehilaaGreat.Trx

noncomputable def glawZ : List (Nat × CallSpec) := [(15, gawakeT.spec), (16, roomGT.spec), (17, gnewT.spec), (18, landT.spec), (19, rlandT.spec), (21, commitsT.spec), (23, looksT.spec), (36, alikeT.spec), (37, readT.spec), (38, rreadT.spec), (39, logT.spec), (40, rlogT.spec)]
structure LdsA where
  l : List Deed5D
  p : Bs
  frm : Int
def ldsArgs (x : LdsA) : List SV := [.rslice false .deed5 x.l, .str x.p, .int .i64 x.frm]
noncomputable def bothI (gs rs is : Nat) : St → LInv := fun s => match getE s.env 0, getE s.env gs, getE s.env rs with
  | .rslice _ .deed5 l, .mptr q _, .mptr z _ => (match s.m.blks.get q with
    | some (.cells [.mslice _ n _ _, _, .mmap k]) => { σ := Nat, I := fun i => i ≤ l.length, μ := fun i => l.length - i, env := fun i => [(is, .int .i64 i)], blk := fun i => [(q, gcell (goC (l.take i)) s.m.next k), (s.m.next, .rows .commit (goC (l.take i))), (k, .kv (kvC (goC (l.take i)))), (z, rcell (goC (l.take i)) (s.m.next + 1) (s.m.next + 2) (s.m.next + 3)), (s.m.next + 1, .rows .commit (goC (l.take i))), (s.m.next + 2, .rows .leaf (rowC (goC (l.take i)))), (s.m.next + 3, .rows .ref (refsR (goC (l.take i))))], fresh := 4, drop := [n] }
    | _ => LInv.none)
  | _, _, _ => LInv.none
noncomputable def ldsE : Envr := Env Tryz.prog cod glawZ [(10, bothI 7 8 9)]
end Go.Proofs.YtildflamnehilaaGreat.Ses

namespace Go.Proofs.YtildflamnehilaaGreat.Ses
open Go Go.Proofs Go.Proofs.YtildflamnehilaaGreat.Sx Go.Proofs.YtildflamnehilaaGreat.Trx
set_option maxRecDepth 100000

theorem lds_vc (x : LdsA) : evCall ldsE (ev ldsE 1000) 7 (ldsArgs x) ⟨[], 0, []⟩ (fun _ _ => False) (fun v _ => TrueV v) = (
(∃ x1 : Unit,
 (True ∧
 (∀ x2 : Unit,
 (True →
 (∃ x3 : (List Deed5D),
 (((LdsA.l x) = x3) ∧
 (True ∧
 (∀ x4 : Unit,
 (True →
 (br (Bool.not (roomG x3))
 (Bool.true = Bool.true)
 (((List.length (LdsA.p x)) ≤ maxI64) →
 (br (decide ((↑(List.length (LdsA.p x)) : Int) > (300 : Int)))
 (Bool.true = Bool.true)
 (∃ x5 : Unit,
 (True ∧
 (∀ x6 : Unit,
 (True →
 ((∃ x7 : Nat,
 (((0 : Int) = (↑x7 : Int)) ∧
 (((0 : Nat) = (0 : Nat)) ∧
 (((List.length ([] : List CommitD)) = (List.length (goC (List.take x7 (LdsA.l x))))) ∧
 (((treeC ([] : List CommitD)) = (treeC (goC (List.take x7 (LdsA.l x))))) ∧
 ((([] : List CommitD) = (goC (List.take x7 (LdsA.l x)))) ∧
 (((kvC ([] : List CommitD)) = (kvC (goC (List.take x7 (LdsA.l x))))) ∧
 (((0 : Nat) = (List.length (goC (List.take x7 (LdsA.l x))))) ∧
 (((0 : Nat) = (List.length (rowC (goC (List.take x7 (LdsA.l x)))))) ∧
 (((0 : Nat) = (List.length (refsR (goC (List.take x7 (LdsA.l x)))))) ∧
 ((([] : List CommitD) = (goC (List.take x7 (LdsA.l x)))) ∧
 ((([] : List LeafD) = (rowC (goC (List.take x7 (LdsA.l x))))) ∧
 ((([] : List RefD) = (refsR (goC (List.take x7 (LdsA.l x))))) ∧
 (Nat.le x7 (List.length (LdsA.l x)))))))))))))))) ∧
 (∀ x8 : Nat,
 ((Nat.le x8 (List.length (LdsA.l x))) →
 ((((List.length (LdsA.l x)) * (48 : Nat)) ≤ room47) →
 (br (decide ((↑x8 : Int) < (↑(List.length (LdsA.l x)) : Int)))
 (br (decide (((0 : Int) ≤ (↑x8 : Int)) ∧
 ((↑x8 : Int) < (↑(List.length (LdsA.l x)) : Int))))
 (br (decide (((0 : Int) ≤ (↑x8 : Int)) ∧
 ((↑x8 : Int) < (↑(List.length (LdsA.l x)) : Int))))
 (br (decide (((0 : Int) ≤ (↑x8 : Int)) ∧
 ((↑x8 : Int) < (↑(List.length (LdsA.l x)) : Int))))
 ((∃ x9 : LandA,
 (((Deed5D.base (List.getD (LdsA.l x) (Int.toNat (↑x8 : Int)) (Deed5D.mk (0 : Int) ([] : List UInt8) ([] : List ChangeD)))) = (LandA.base x9)) ∧
 (((Deed5D.ref (List.getD (LdsA.l x) (Int.toNat (↑x8 : Int)) (Deed5D.mk (0 : Int) ([] : List UInt8) ([] : List ChangeD)))) = (LandA.ref x9)) ∧
 (((Deed5D.l (List.getD (LdsA.l x) (Int.toNat (↑x8 : Int)) (Deed5D.mk (0 : Int) ([] : List UInt8) ([] : List ChangeD)))) = (LandA.l x9)) ∧
 (((0 : Nat) = (0 : Nat)) ∧
 (((List.length (goC (List.take x8 (LdsA.l x)))) = (List.length (LandA.C x9))) ∧
 (((treeC (goC (List.take x8 (LdsA.l x)))) = (treeC (LandA.C x9))) ∧
 (((goC (List.take x8 (LdsA.l x))) = (LandA.C x9)) ∧
 (((kvC (goC (List.take x8 (LdsA.l x)))) = (kvC (LandA.C x9))) ∧
 ((((fewG (LandA.C x9)) = Bool.true) ∧
 ((shortC (LandA.l x9)) = Bool.true)) ∧
 (∀ x10 : Unit,
 (True →
 (br (decide (((0 : Int) ≤ (↑x8 : Int)) ∧
 ((↑x8 : Int) < (↑(List.length (LdsA.l x)) : Int))))
 (br (decide (((0 : Int) ≤ (↑x8 : Int)) ∧
 ((↑x8 : Int) < (↑(List.length (LdsA.l x)) : Int))))
 (br (decide (((0 : Int) ≤ (↑x8 : Int)) ∧
 ((↑x8 : Int) < (↑(List.length (LdsA.l x)) : Int))))
 (∃ x11 : LandA,
 (((Deed5D.base (List.getD (LdsA.l x) (Int.toNat (↑x8 : Int)) (Deed5D.mk (0 : Int) ([] : List UInt8) ([] : List ChangeD)))) = (LandA.base x11)) ∧
 (((Deed5D.ref (List.getD (LdsA.l x) (Int.toNat (↑x8 : Int)) (Deed5D.mk (0 : Int) ([] : List UInt8) ([] : List ChangeD)))) = (LandA.ref x11)) ∧
 (((Deed5D.l (List.getD (LdsA.l x) (Int.toNat (↑x8 : Int)) (Deed5D.mk (0 : Int) ([] : List UInt8) ([] : List ChangeD)))) = (LandA.l x11)) ∧
 (((0 : Nat) = (0 : Nat)) ∧
 (((List.length (goC (List.take x8 (LdsA.l x)))) = (List.length (LandA.C x11))) ∧
 (((0 : Nat) = (0 : Nat)) ∧
 (((List.length (rowC (goC (List.take x8 (LdsA.l x))))) = (List.length (rowC (LandA.C x11)))) ∧
 (((0 : Nat) = (0 : Nat)) ∧
 (((List.length (refsR (goC (List.take x8 (LdsA.l x))))) = (List.length (refsR (LandA.C x11)))) ∧
 (((goC (List.take x8 (LdsA.l x))) = (LandA.C x11)) ∧
 (((rowC (goC (List.take x8 (LdsA.l x)))) = (rowC (LandA.C x11))) ∧
 (((refsR (goC (List.take x8 (LdsA.l x)))) = (refsR (LandA.C x11))) ∧
 (((((fewG (LandA.C x11)) = Bool.true) ∧
 ((shortM (LandA.C x11)) = Bool.true)) ∧
 (((shortC (LandA.l x11)) = Bool.true) ∧
 ((fewX (LandA.l x11)) = Bool.true))) ∧
 (∀ x12 : Unit,
 (True →
 (∃ x13 : Ver2,
 (((VerdictD.code (landV x9)) = (VerdictD.code (Ver2.a x13))) ∧
 (((VerdictD.session (landV x9)) = (VerdictD.session (Ver2.a x13))) ∧
 (((VerdictD.rev (landV x9)) = (VerdictD.rev (Ver2.a x13))) ∧
 (((VerdictD.path (landV x9)) = (VerdictD.path (Ver2.a x13))) ∧
 (((VerdictD.digest (landV x9)) = (VerdictD.digest (Ver2.a x13))) ∧
 (((VerdictD.commits (landV x9)) = (VerdictD.commits (Ver2.a x13))) ∧
 (((VerdictD.member (landV x9)) = (VerdictD.member (Ver2.a x13))) ∧
 (((VerdictD.code (landV x11)) = (VerdictD.code (Ver2.b x13))) ∧
 (((VerdictD.session (landV x11)) = (VerdictD.session (Ver2.b x13))) ∧
 (((VerdictD.rev (landV x11)) = (VerdictD.rev (Ver2.b x13))) ∧
 (((VerdictD.path (landV x11)) = (VerdictD.path (Ver2.b x13))) ∧
 (((VerdictD.digest (landV x11)) = (VerdictD.digest (Ver2.b x13))) ∧
 (((VerdictD.commits (landV x11)) = (VerdictD.commits (Ver2.b x13))) ∧
 (((VerdictD.member (landV x11)) = (VerdictD.member (Ver2.b x13))) ∧
 (True ∧
 (∀ x14 : Unit,
 (True →
 (br (Bool.not (eqV (Ver2.a x13) (Ver2.b x13)))
 (Bool.false = Bool.true)
 (∃ x15 : (List CommitD),
 (((0 : Nat) = (0 : Nat)) ∧
 (((List.length (landC x9)) = (List.length x15)) ∧
 (((treeC (landC x9)) = (treeC x15)) ∧
 (((landC x9) = x15) ∧
 (((kvC (landC x9)) = (kvC x15)) ∧
 (((0 : Nat) = (0 : Nat)) ∧
 (((List.length (landC x11)) = (List.length x15)) ∧
 (((0 : Nat) = (0 : Nat)) ∧
 (((List.length (rowC (landC x11))) = (List.length (rowC x15))) ∧
 (((0 : Nat) = (0 : Nat)) ∧
 (((List.length (refsR (landC x11))) = (List.length (refsR x15))) ∧
 (((landC x11) = x15) ∧
 (((rowC (landC x11)) = (rowC x15)) ∧
 (((refsR (landC x11)) = (refsR x15)) ∧
 (((fewG x15) = Bool.true) ∧
 (∀ x16 : Unit,
 (True →
 (∃ x17 : ReadA,
 (((LdsA.p x) = (ReadA.p x17)) ∧
 (((0 : Nat) = (0 : Nat)) ∧
 (((List.length x15) = (List.length (ReadA.C x17))) ∧
 (((treeC x15) = (treeC (ReadA.C x17))) ∧
 ((x15 = (ReadA.C x17)) ∧
 (((kvC x15) = (kvC (ReadA.C x17))) ∧
 (((shortB (ReadA.p x17)) = Bool.true) ∧
 (∀ x18 : Unit,
 (True →
 (∃ x19 : RRdA,
 (((0 : Nat) = (0 : Nat)) ∧
 (((List.length x15) = (List.length (RRdA.C x19))) ∧
 (((0 : Nat) = (0 : Nat)) ∧
 (((List.length (rowC x15)) = (List.length (RRdA.L x19))) ∧
 (((0 : Nat) = (0 : Nat)) ∧
 (((List.length (refsR x15)) = (List.length (RRdA.R x19))) ∧
 (((LdsA.p x) = (RRdA.p x19)) ∧
 ((x15 = (RRdA.C x19)) ∧
 (((rowC x15) = (RRdA.L x19)) ∧
 (((refsR x15) = (RRdA.R x19)) ∧
 ((((shortB (RRdA.p x19)) = Bool.true) ∧
 ((shortLf (RRdA.L x19)) = Bool.true)) ∧
 (∀ x20 : Unit,
 (True →
 (∃ x21 : Ver2,
 (((VerdictD.code (readV x17)) = (VerdictD.code (Ver2.a x21))) ∧
 (((VerdictD.session (readV x17)) = (VerdictD.session (Ver2.a x21))) ∧
 (((VerdictD.rev (readV x17)) = (VerdictD.rev (Ver2.a x21))) ∧
 (((VerdictD.path (readV x17)) = (VerdictD.path (Ver2.a x21))) ∧
 (((VerdictD.digest (readV x17)) = (VerdictD.digest (Ver2.a x21))) ∧
 (((VerdictD.commits (readV x17)) = (VerdictD.commits (Ver2.a x21))) ∧
 (((VerdictD.member (readV x17)) = (VerdictD.member (Ver2.a x21))) ∧
 (((VerdictD.code (readL (RRdA.L x19) (RRdA.p x19))) = (VerdictD.code (Ver2.b x21))) ∧
 (((VerdictD.session (readL (RRdA.L x19) (RRdA.p x19))) = (VerdictD.session (Ver2.b x21))) ∧
 (((VerdictD.rev (readL (RRdA.L x19) (RRdA.p x19))) = (VerdictD.rev (Ver2.b x21))) ∧
 (((VerdictD.path (readL (RRdA.L x19) (RRdA.p x19))) = (VerdictD.path (Ver2.b x21))) ∧
 (((VerdictD.digest (readL (RRdA.L x19) (RRdA.p x19))) = (VerdictD.digest (Ver2.b x21))) ∧
 (((VerdictD.commits (readL (RRdA.L x19) (RRdA.p x19))) = (VerdictD.commits (Ver2.b x21))) ∧
 (((VerdictD.member (readL (RRdA.L x19) (RRdA.p x19))) = (VerdictD.member (Ver2.b x21))) ∧
 (True ∧
 (∀ x22 : Unit,
 (True →
 (br (Bool.not (eqV (Ver2.a x21) (Ver2.b x21)))
 (Bool.false = Bool.true)
 (∃ x23 : LogA,
 (((LdsA.frm x) = (LogA.frm x23)) ∧
 (((IntKind.wrap IntKind.i64 ((↑x8 : Int) - (3 : Int))) = (LogA.many x23)) ∧
 (((0 : Nat) = (0 : Nat)) ∧
 (((List.length (ReadA.C x17)) = (List.length (LogA.C x23))) ∧
 (((treeC (ReadA.C x17)) = (treeC (LogA.C x23))) ∧
 (((ReadA.C x17) = (LogA.C x23)) ∧
 (((kvC (ReadA.C x17)) = (kvC (LogA.C x23))) ∧
 ((((fewG (LogA.C x23)) = Bool.true) ∧
 ((inI (LogA.frm x23)) = Bool.true)) ∧
 (∀ x24 : Unit,
 (True →
 (∃ x25 : RLgA,
 (((0 : Nat) = (0 : Nat)) ∧
 (((List.length x15) = (List.length (RLgA.C x25))) ∧
 (((0 : Nat) = (0 : Nat)) ∧
 (((List.length (rowC x15)) = (List.length (RLgA.L x25))) ∧
 (((0 : Nat) = (0 : Nat)) ∧
 (((List.length (refsR x15)) = (List.length (RLgA.R x25))) ∧
 (((LdsA.frm x) = (RLgA.frm x25)) ∧
 (((IntKind.wrap IntKind.i64 ((↑x8 : Int) - (3 : Int))) = (RLgA.many x25)) ∧
 (((RRdA.C x19) = (RLgA.C x25)) ∧
 (((RRdA.L x19) = (RLgA.L x25)) ∧
 (((RRdA.R x19) = (RLgA.R x25)) ∧
 ((((fewG (RLgA.C x25)) = Bool.true) ∧
 ((inI (RLgA.frm x25)) = Bool.true)) ∧
 (∀ x26 : Unit,
 (True →
 (∃ x27 : Ver2,
 (((VerdictD.code (logV x23)) = (VerdictD.code (Ver2.a x27))) ∧
 (((VerdictD.session (logV x23)) = (VerdictD.session (Ver2.a x27))) ∧
 (((VerdictD.rev (logV x23)) = (VerdictD.rev (Ver2.a x27))) ∧
 (((VerdictD.path (logV x23)) = (VerdictD.path (Ver2.a x27))) ∧
 (((VerdictD.digest (logV x23)) = (VerdictD.digest (Ver2.a x27))) ∧
 (((VerdictD.commits (logV x23)) = (VerdictD.commits (Ver2.a x27))) ∧
 (((VerdictD.member (logV x23)) = (VerdictD.member (Ver2.a x27))) ∧
 (((VerdictD.code (logV (LogA.mk (RLgA.C x25) (RLgA.frm x25) (RLgA.many x25)))) = (VerdictD.code (Ver2.b x27))) ∧
 (((VerdictD.session (logV (LogA.mk (RLgA.C x25) (RLgA.frm x25) (RLgA.many x25)))) = (VerdictD.session (Ver2.b x27))) ∧
 (((VerdictD.rev (logV (LogA.mk (RLgA.C x25) (RLgA.frm x25) (RLgA.many x25)))) = (VerdictD.rev (Ver2.b x27))) ∧
 (((VerdictD.path (logV (LogA.mk (RLgA.C x25) (RLgA.frm x25) (RLgA.many x25)))) = (VerdictD.path (Ver2.b x27))) ∧
 (((VerdictD.digest (logV (LogA.mk (RLgA.C x25) (RLgA.frm x25) (RLgA.many x25)))) = (VerdictD.digest (Ver2.b x27))) ∧
 (((VerdictD.commits (logV (LogA.mk (RLgA.C x25) (RLgA.frm x25) (RLgA.many x25)))) = (VerdictD.commits (Ver2.b x27))) ∧
 (((VerdictD.member (logV (LogA.mk (RLgA.C x25) (RLgA.frm x25) (RLgA.many x25)))) = (VerdictD.member (Ver2.b x27))) ∧
 (True ∧
 (∀ x28 : Unit,
 (True →
 (br (Bool.not (eqV (Ver2.a x27) (Ver2.b x27)))
 (Bool.false = Bool.true)
 (∃ x29 : Nat,
 (((IntKind.wrap IntKind.i64 ((↑x8 : Int) + (1 : Int))) = (↑x29 : Int)) ∧
 (((0 : Nat) = (0 : Nat)) ∧
 (((List.length (LogA.C x23)) = (List.length (goC (List.take x29 (LdsA.l x))))) ∧
 (((treeC (LogA.C x23)) = (treeC (goC (List.take x29 (LdsA.l x))))) ∧
 (((LogA.C x23) = (goC (List.take x29 (LdsA.l x)))) ∧
 (((kvC (LogA.C x23)) = (kvC (goC (List.take x29 (LdsA.l x))))) ∧
 (((0 : Nat) = (0 : Nat)) ∧
 (((List.length x15) = (List.length (goC (List.take x29 (LdsA.l x))))) ∧
 (((0 : Nat) = (0 : Nat)) ∧
 (((List.length (rowC x15)) = (List.length (rowC (goC (List.take x29 (LdsA.l x)))))) ∧
 (((0 : Nat) = (0 : Nat)) ∧
 (((List.length (refsR x15)) = (List.length (refsR (goC (List.take x29 (LdsA.l x)))))) ∧
 (((RLgA.C x25) = (goC (List.take x29 (LdsA.l x)))) ∧
 (((RLgA.L x25) = (rowC (goC (List.take x29 (LdsA.l x))))) ∧
 (((RLgA.R x25) = (refsR (goC (List.take x29 (LdsA.l x))))) ∧
 ((Nat.le x29 (List.length (LdsA.l x))) ∧
 ((Nat.sub (List.length (LdsA.l x)) x29) < (Nat.sub (List.length (LdsA.l x)) x8))))))))))))))))))))))))))))))))))))))))))))))))))))))))))))))))))))))))))))))))))))))))))))))))))))))))))))))))))))))))))))))))))))))))))))))))))))))))))))))))
 (Bad "check" "law.go:94"))
 (Bad "check" "law.go:94"))
 (Bad "check" "law.go:94")))))))))))))) ∧
 (∃ x30 : LandA,
 (((Deed5D.base (List.getD (LdsA.l x) (Int.toNat (↑x8 : Int)) (Deed5D.mk (0 : Int) ([] : List UInt8) ([] : List ChangeD)))) = (LandA.base x30)) ∧
 (((Deed5D.ref (List.getD (LdsA.l x) (Int.toNat (↑x8 : Int)) (Deed5D.mk (0 : Int) ([] : List UInt8) ([] : List ChangeD)))) = (LandA.ref x30)) ∧
 (((Deed5D.l (List.getD (LdsA.l x) (Int.toNat (↑x8 : Int)) (Deed5D.mk (0 : Int) ([] : List UInt8) ([] : List ChangeD)))) = (LandA.l x30)) ∧
 (((0 : Nat) = (0 : Nat)) ∧
 (((List.length (goC (List.take x8 (LdsA.l x)))) = (List.length (LandA.C x30))) ∧
 (((treeC (goC (List.take x8 (LdsA.l x)))) = (treeC (LandA.C x30))) ∧
 (((goC (List.take x8 (LdsA.l x))) = (LandA.C x30)) ∧
 (((kvC (goC (List.take x8 (LdsA.l x)))) = (kvC (LandA.C x30))) ∧
 ((((fewG (LandA.C x30)) = Bool.true) ∧
 ((shortC (LandA.l x30)) = Bool.true)) ∧
 (∀ x31 : Unit,
 (True →
 (br (decide (((0 : Int) ≤ (↑x8 : Int)) ∧
 ((↑x8 : Int) < (↑(List.length (LdsA.l x)) : Int))))
 (br (decide (((0 : Int) ≤ (↑x8 : Int)) ∧
 ((↑x8 : Int) < (↑(List.length (LdsA.l x)) : Int))))
 (br (decide (((0 : Int) ≤ (↑x8 : Int)) ∧
 ((↑x8 : Int) < (↑(List.length (LdsA.l x)) : Int))))
 (∃ x32 : LandA,
 (((Deed5D.base (List.getD (LdsA.l x) (Int.toNat (↑x8 : Int)) (Deed5D.mk (0 : Int) ([] : List UInt8) ([] : List ChangeD)))) = (LandA.base x32)) ∧
 (((Deed5D.ref (List.getD (LdsA.l x) (Int.toNat (↑x8 : Int)) (Deed5D.mk (0 : Int) ([] : List UInt8) ([] : List ChangeD)))) = (LandA.ref x32)) ∧
 (((Deed5D.l (List.getD (LdsA.l x) (Int.toNat (↑x8 : Int)) (Deed5D.mk (0 : Int) ([] : List UInt8) ([] : List ChangeD)))) = (LandA.l x32)) ∧
 (((0 : Nat) = (0 : Nat)) ∧
 (((List.length (goC (List.take x8 (LdsA.l x)))) = (List.length (LandA.C x32))) ∧
 (((0 : Nat) = (0 : Nat)) ∧
 (((List.length (rowC (goC (List.take x8 (LdsA.l x))))) = (List.length (rowC (LandA.C x32)))) ∧
 (((0 : Nat) = (0 : Nat)) ∧
 (((List.length (refsR (goC (List.take x8 (LdsA.l x))))) = (List.length (refsR (LandA.C x32)))) ∧
 (((goC (List.take x8 (LdsA.l x))) = (LandA.C x32)) ∧
 (((rowC (goC (List.take x8 (LdsA.l x)))) = (rowC (LandA.C x32))) ∧
 (((refsR (goC (List.take x8 (LdsA.l x)))) = (refsR (LandA.C x32))) ∧
 (((((fewG (LandA.C x32)) = Bool.true) ∧
 ((shortM (LandA.C x32)) = Bool.true)) ∧
 (((shortC (LandA.l x32)) = Bool.true) ∧
 ((fewX (LandA.l x32)) = Bool.true))) ∧
 (∀ x33 : Unit,
 (True →
 (∃ x34 : Ver2,
 (((VerdictD.code (landV x30)) = (VerdictD.code (Ver2.a x34))) ∧
 (((VerdictD.session (landV x30)) = (VerdictD.session (Ver2.a x34))) ∧
 (((VerdictD.rev (landV x30)) = (VerdictD.rev (Ver2.a x34))) ∧
 (((VerdictD.path (landV x30)) = (VerdictD.path (Ver2.a x34))) ∧
 (((VerdictD.digest (landV x30)) = (VerdictD.digest (Ver2.a x34))) ∧
 (((VerdictD.commits (landV x30)) = (VerdictD.commits (Ver2.a x34))) ∧
 (((VerdictD.member (landV x30)) = (VerdictD.member (Ver2.a x34))) ∧
 (((VerdictD.code (landV x32)) = (VerdictD.code (Ver2.b x34))) ∧
 (((VerdictD.session (landV x32)) = (VerdictD.session (Ver2.b x34))) ∧
 (((VerdictD.rev (landV x32)) = (VerdictD.rev (Ver2.b x34))) ∧
 (((VerdictD.path (landV x32)) = (VerdictD.path (Ver2.b x34))) ∧
 (((VerdictD.digest (landV x32)) = (VerdictD.digest (Ver2.b x34))) ∧
 (((VerdictD.commits (landV x32)) = (VerdictD.commits (Ver2.b x34))) ∧
 (((VerdictD.member (landV x32)) = (VerdictD.member (Ver2.b x34))) ∧
 (True ∧
 (∀ x35 : Unit,
 (True →
 (br (Bool.not (eqV (Ver2.a x34) (Ver2.b x34)))
 (Bool.false = Bool.true)
 (∃ x36 : (List CommitD),
 (((0 : Nat) = (0 : Nat)) ∧
 (((List.length (landC x30)) = (List.length x36)) ∧
 (((treeC (landC x30)) = (treeC x36)) ∧
 (((landC x30) = x36) ∧
 (((kvC (landC x30)) = (kvC x36)) ∧
 (((0 : Nat) = (0 : Nat)) ∧
 (((List.length (landC x32)) = (List.length x36)) ∧
 (((0 : Nat) = (0 : Nat)) ∧
 (((List.length (rowC (landC x32))) = (List.length (rowC x36))) ∧
 (((0 : Nat) = (0 : Nat)) ∧
 (((List.length (refsR (landC x32))) = (List.length (refsR x36))) ∧
 (((landC x32) = x36) ∧
 (((rowC (landC x32)) = (rowC x36)) ∧
 (((refsR (landC x32)) = (refsR x36)) ∧
 (((fewG x36) = Bool.true) ∧
 (∀ x37 : Unit,
 (True →
 (∃ x38 : ReadA,
 (((LdsA.p x) = (ReadA.p x38)) ∧
 (((0 : Nat) = (0 : Nat)) ∧
 (((List.length x36) = (List.length (ReadA.C x38))) ∧
 (((treeC x36) = (treeC (ReadA.C x38))) ∧
 ((x36 = (ReadA.C x38)) ∧
 (((kvC x36) = (kvC (ReadA.C x38))) ∧
 (((shortB (ReadA.p x38)) = Bool.true) ∧
 (∀ x39 : Unit,
 (True →
 (∃ x40 : RRdA,
 (((0 : Nat) = (0 : Nat)) ∧
 (((List.length x36) = (List.length (RRdA.C x40))) ∧
 (((0 : Nat) = (0 : Nat)) ∧
 (((List.length (rowC x36)) = (List.length (RRdA.L x40))) ∧
 (((0 : Nat) = (0 : Nat)) ∧
 (((List.length (refsR x36)) = (List.length (RRdA.R x40))) ∧
 (((LdsA.p x) = (RRdA.p x40)) ∧
 ((x36 = (RRdA.C x40)) ∧
 (((rowC x36) = (RRdA.L x40)) ∧
 (((refsR x36) = (RRdA.R x40)) ∧
 ((((shortB (RRdA.p x40)) = Bool.true) ∧
 ((shortLf (RRdA.L x40)) = Bool.true)) ∧
 (∀ x41 : Unit,
 (True →
 (∃ x42 : Ver2,
 (((VerdictD.code (readV x38)) = (VerdictD.code (Ver2.a x42))) ∧
 (((VerdictD.session (readV x38)) = (VerdictD.session (Ver2.a x42))) ∧
 (((VerdictD.rev (readV x38)) = (VerdictD.rev (Ver2.a x42))) ∧
 (((VerdictD.path (readV x38)) = (VerdictD.path (Ver2.a x42))) ∧
 (((VerdictD.digest (readV x38)) = (VerdictD.digest (Ver2.a x42))) ∧
 (((VerdictD.commits (readV x38)) = (VerdictD.commits (Ver2.a x42))) ∧
 (((VerdictD.member (readV x38)) = (VerdictD.member (Ver2.a x42))) ∧
 (((VerdictD.code (readL (RRdA.L x40) (RRdA.p x40))) = (VerdictD.code (Ver2.b x42))) ∧
 (((VerdictD.session (readL (RRdA.L x40) (RRdA.p x40))) = (VerdictD.session (Ver2.b x42))) ∧
 (((VerdictD.rev (readL (RRdA.L x40) (RRdA.p x40))) = (VerdictD.rev (Ver2.b x42))) ∧
 (((VerdictD.path (readL (RRdA.L x40) (RRdA.p x40))) = (VerdictD.path (Ver2.b x42))) ∧
 (((VerdictD.digest (readL (RRdA.L x40) (RRdA.p x40))) = (VerdictD.digest (Ver2.b x42))) ∧
 (((VerdictD.commits (readL (RRdA.L x40) (RRdA.p x40))) = (VerdictD.commits (Ver2.b x42))) ∧
 (((VerdictD.member (readL (RRdA.L x40) (RRdA.p x40))) = (VerdictD.member (Ver2.b x42))) ∧
 (True ∧
 (∀ x43 : Unit,
 (True →
 (br (Bool.not (eqV (Ver2.a x42) (Ver2.b x42)))
 (Bool.false = Bool.true)
 (∃ x44 : LogA,
 (((LdsA.frm x) = (LogA.frm x44)) ∧
 (((IntKind.wrap IntKind.i64 ((↑x8 : Int) - (3 : Int))) = (LogA.many x44)) ∧
 (((0 : Nat) = (0 : Nat)) ∧
 (((List.length (ReadA.C x38)) = (List.length (LogA.C x44))) ∧
 (((treeC (ReadA.C x38)) = (treeC (LogA.C x44))) ∧
 (((ReadA.C x38) = (LogA.C x44)) ∧
 (((kvC (ReadA.C x38)) = (kvC (LogA.C x44))) ∧
 ((((fewG (LogA.C x44)) = Bool.true) ∧
 ((inI (LogA.frm x44)) = Bool.true)) ∧
 (∀ x45 : Unit,
 (True →
 (∃ x46 : RLgA,
 (((0 : Nat) = (0 : Nat)) ∧
 (((List.length x36) = (List.length (RLgA.C x46))) ∧
 (((0 : Nat) = (0 : Nat)) ∧
 (((List.length (rowC x36)) = (List.length (RLgA.L x46))) ∧
 (((0 : Nat) = (0 : Nat)) ∧
 (((List.length (refsR x36)) = (List.length (RLgA.R x46))) ∧
 (((LdsA.frm x) = (RLgA.frm x46)) ∧
 (((IntKind.wrap IntKind.i64 ((↑x8 : Int) - (3 : Int))) = (RLgA.many x46)) ∧
 (((RRdA.C x40) = (RLgA.C x46)) ∧
 (((RRdA.L x40) = (RLgA.L x46)) ∧
 (((RRdA.R x40) = (RLgA.R x46)) ∧
 ((((fewG (RLgA.C x46)) = Bool.true) ∧
 ((inI (RLgA.frm x46)) = Bool.true)) ∧
 (∀ x47 : Unit,
 (True →
 (∃ x48 : Ver2,
 (((VerdictD.code (logV x44)) = (VerdictD.code (Ver2.a x48))) ∧
 (((VerdictD.session (logV x44)) = (VerdictD.session (Ver2.a x48))) ∧
 (((VerdictD.rev (logV x44)) = (VerdictD.rev (Ver2.a x48))) ∧
 (((VerdictD.path (logV x44)) = (VerdictD.path (Ver2.a x48))) ∧
 (((VerdictD.digest (logV x44)) = (VerdictD.digest (Ver2.a x48))) ∧
 (((VerdictD.commits (logV x44)) = (VerdictD.commits (Ver2.a x48))) ∧
 (((VerdictD.member (logV x44)) = (VerdictD.member (Ver2.a x48))) ∧
 (((VerdictD.code (logV (LogA.mk (RLgA.C x46) (RLgA.frm x46) (RLgA.many x46)))) = (VerdictD.code (Ver2.b x48))) ∧
 (((VerdictD.session (logV (LogA.mk (RLgA.C x46) (RLgA.frm x46) (RLgA.many x46)))) = (VerdictD.session (Ver2.b x48))) ∧
 (((VerdictD.rev (logV (LogA.mk (RLgA.C x46) (RLgA.frm x46) (RLgA.many x46)))) = (VerdictD.rev (Ver2.b x48))) ∧
 (((VerdictD.path (logV (LogA.mk (RLgA.C x46) (RLgA.frm x46) (RLgA.many x46)))) = (VerdictD.path (Ver2.b x48))) ∧
 (((VerdictD.digest (logV (LogA.mk (RLgA.C x46) (RLgA.frm x46) (RLgA.many x46)))) = (VerdictD.digest (Ver2.b x48))) ∧
 (((VerdictD.commits (logV (LogA.mk (RLgA.C x46) (RLgA.frm x46) (RLgA.many x46)))) = (VerdictD.commits (Ver2.b x48))) ∧
 (((VerdictD.member (logV (LogA.mk (RLgA.C x46) (RLgA.frm x46) (RLgA.many x46)))) = (VerdictD.member (Ver2.b x48))) ∧
 (True ∧
 (∀ x49 : Unit,
 (True →
 (br (Bool.not (eqV (Ver2.a x48) (Ver2.b x48)))
 (Bool.false = Bool.true)
 (∃ x50 : Nat,
 (((IntKind.wrap IntKind.i64 ((↑x8 : Int) + (1 : Int))) = (↑x50 : Int)) ∧
 (((0 : Nat) = (0 : Nat)) ∧
 (((List.length (LogA.C x44)) = (List.length (goC (List.take x50 (LdsA.l x))))) ∧
 (((treeC (LogA.C x44)) = (treeC (goC (List.take x50 (LdsA.l x))))) ∧
 (((LogA.C x44) = (goC (List.take x50 (LdsA.l x)))) ∧
 (((kvC (LogA.C x44)) = (kvC (goC (List.take x50 (LdsA.l x))))) ∧
 (((0 : Nat) = (0 : Nat)) ∧
 (((List.length x36) = (List.length (goC (List.take x50 (LdsA.l x))))) ∧
 (((0 : Nat) = (0 : Nat)) ∧
 (((List.length (rowC x36)) = (List.length (rowC (goC (List.take x50 (LdsA.l x)))))) ∧
 (((0 : Nat) = (0 : Nat)) ∧
 (((List.length (refsR x36)) = (List.length (refsR (goC (List.take x50 (LdsA.l x)))))) ∧
 (((RLgA.C x46) = (goC (List.take x50 (LdsA.l x)))) ∧
 (((RLgA.L x46) = (rowC (goC (List.take x50 (LdsA.l x))))) ∧
 (((RLgA.R x46) = (refsR (goC (List.take x50 (LdsA.l x))))) ∧
 ((Nat.le x50 (List.length (LdsA.l x))) ∧
 ((Nat.sub (List.length (LdsA.l x)) x50) < (Nat.sub (List.length (LdsA.l x)) x8))))))))))))))))))))))))))))))))))))))))))))))))))))))))))))))))))))))))))))))))))))))))))))))))))))))))))))))))))))))))))))))))))))))))))))))))))))))))))))))))
 (Bad "check" "law.go:94"))
 (Bad "check" "law.go:94"))
 (Bad "check" "law.go:94")))))))))))))))
 (Bad "check" "law.go:93"))
 (Bad "check" "law.go:93"))
 (Bad "check" "law.go:93"))
 (Bool.true = Bool.true))))))))))))))))))))))) := by kernel_rfl

end Go.Proofs.YtildflamnehilaaGreat.Ses

namespace Go.Proofs.YtildflamnehilaaGreat.Ses
open Go Go.Proofs Go.Proofs.YtildflamnehilaaGreat.Sx Go.Proofs.YtildflamnehilaaGreat.Trx

theorem room_few {l : List Deed5D} (h : roomG l = true) : ∀ i, i < l.length → fewX (l.getD i noD).l = true := by
  unfold roomG at h
  simp only [Bool.and_eq_true, decide_eq_true_eq, List.all_eq_true] at h
  intro i hi
  have h1 := h.2 _ (getD_mem (l := l) (d := noD) (i := i) hi)
  unfold okD at h1
  simp only [Bool.and_eq_true, decide_eq_true_eq] at h1
  exact decide_eq_true (by have := h1.2.1; omega)
theorem goC_short (l : List Deed5D) : (∀ i, i < l.length → shortC (l.getD i noD).l = true) → shortM (goC l) = true := by
  refine snocL (p := fun l => (∀ i, i < l.length → shortC (l.getD i noD).l = true) → shortM (goC l) = true) (fun _ => rfl) (fun l d ih h => ?_) l
  have e : goC (l ++ [d]) = landC ⟨goC l, d.base, d.ref, d.l⟩ := by simp [goC, oneC]
  have h1 := ih fun i hi => by
    have := h i (by simp; omega)
    simpa [List.getD, List.getElem?_append_left hi] using this
  have h2 : shortC d.l = true := by
    have := h l.length (by simp)
    simpa [List.getD] using this
  rw [e]
  unfold landC
  cases isLd ⟨goC l, d.base, d.ref, d.l⟩
  · exact h1
  · have hss : shortC (insS d.l) = true := by
      unfold shortC at h2 ⊢
      rw [List.all_eq_true] at h2 ⊢
      exact fun y hy => h2 y (mem_insS.1 hy)
    unfold shortM at h1 ⊢
    simp only [cond_true]
    rw [List.all_append, h1]
    show (true && (shortC (insS d.l) && true)) = true
    rw [hss]; rfl
theorem go_short {l : List Deed5D} (h : ∀ i, i < l.length → shortC (l.getD i noD).l = true) (i : Nat) : shortM (goC (l.take i)) = true := by
  refine goC_short _ fun j hj => ?_
  have hj' : j < l.length := by rw [List.length_take] at hj; omega
  have e : (l.take i).getD j noD = l.getD j noD := by
    rw [List.length_take] at hj
    simp [List.getD, List.getElem?_take_of_lt (show j < i by omega)]
  rw [e]
  exact h j hj'
theorem inI_wf {n : Int} (h : (Lit.int .i64 n).wf = true) : inI n = true := by
  simp [Lit.wf, IntKind.min, IntKind.max, IntKind.signed, IntKind.bits] at h
  exact decide_eq_true h.2
theorem lds_ok : EnvOK ldsE := Env_ok (by decide +kernel) (by
  intro p hp
  simp only [glawZ, List.mem_cons, List.mem_nil_iff, or_false] at hp
  rcases hp with rfl | rfl | rfl | rfl | rfl | rfl | rfl | rfl | rfl | rfl | rfl | rfl
  · exact gawake_ok
  · exact roomg_ok
  · exact gnew_ok
  · exact land_ok
  · exact rland_ok
  · exact commits_ok
  · exact looks_ok
  · exact alike_ok
  · exact read_ok
  · exact rread_ok
  · exact log_ok
  · exact rlog_ok)
set_option maxHeartbeats 0 in
theorem lds_body (x : LdsA) (hi : inI x.frm = true) : evCall ldsE (ev ldsE 1000) 7 (ldsArgs x) ⟨[], 0, []⟩ (fun _ _ => False) (fun v _ => TrueV v) := by
  rw [lds_vc]
  obtain ⟨l, p, frm⟩ := x
  dsimp only at hi ⊢
  refine ⟨(), trivial, fun _ _ => ⟨l, rfl, trivial, fun _ _ => br_i (fun _ => rfl) fun hr _ => br_i (fun _ => rfl) fun hp => ?_⟩⟩
  rw [Bool.not_eq_false'] at hr
  have hp := of_decide_eq_false hp
  have hps : shortB p = true := decide_eq_true (by omega)
  obtain ⟨r1, r2⟩ := roomG_of hr
  have r3 := room_few hr
  refine ⟨(), trivial, fun _ _ => ⟨⟨0, rfl, rfl, rfl, rfl, rfl, rfl, rfl, rfl, rfl, rfl, rfl, rfl, Nat.zero_le _⟩, fun i hi2 _ => br_i (fun h1 => ?_) (fun h1 => rfl)⟩⟩
  have h1 := of_decide_eq_true h1
  have bi : decide ((0 : Int) ≤ (i : Int) ∧ (i : Int) < (l.length : Int)) = true := decide_eq_true ⟨by omega, h1⟩
  have e0 : (i : Int).toNat = i := rfl
  rw [e0]
  have hgo : goC (l.take (i + 1)) = landC ⟨goC (l.take i), (l.getD i noD).base, (l.getD i noD).ref, (l.getD i noD).l⟩ := goC_at (by omega)
  have hf1 := go_few r1 i
  have hf2 := go_few r1 (i + 1)
  have hm1 := go_short r2 i
  have hm2 := go_short r2 (i + 1)
  have hsh := r2 i (by omega)
  have hfx := r3 i (by omega)
  have hgd : l.getD i ⟨0, [], []⟩ = l.getD i noD := rfl
  rw [hgd]
  generalize l.getD i noD = d at hgo hsh hfx ⊢
  have hw : IntKind.i64.wrap ((i : Int) + 1) = ((i + 1 : Nat) : Int) := by rw [wrap_id (by omega) (by omega)]; rfl
  have hle : i + 1 ≤ l.length := by omega
  have hms : l.length - (i + 1) < l.length - i := by omega
  generalize goC (l.take i) = C at hgo hf1 hm1 ⊢
  generalize hD : landC ⟨C, d.base, d.ref, d.l⟩ = D at hgo ⊢
  rw [hgo] at hf2 hm2
  have hq : ∀ v, (!(eqV v v)) = false := fun v => by rw [eqV_self]; rfl
  refine br_t bi (br_t bi (br_t bi (dup ⟨⟨C, d.base, d.ref, d.l⟩, rfl, rfl, rfl, rfl, rfl, rfl, rfl, rfl, ⟨hf1, hsh⟩, fun _ _ => br_t bi (br_t bi (br_t bi ⟨⟨C, d.base, d.ref, d.l⟩, rfl, rfl, rfl, rfl, rfl, rfl, rfl, rfl, rfl, rfl, rfl, rfl, ⟨⟨hf1, hm1⟩, hsh, hfx⟩, fun _ _ => ⟨⟨landV ⟨C, d.base, d.ref, d.l⟩, landV ⟨C, d.base, d.ref, d.l⟩⟩, rfl, rfl, rfl, rfl, rfl, rfl, rfl, rfl, rfl, rfl, rfl, rfl, rfl, rfl, trivial, fun _ _ => br_f (hq _) ?_⟩⟩))⟩)))
  rw [hD]
  refine ⟨D, rfl, rfl, rfl, rfl, rfl, rfl, rfl, rfl, rfl, rfl, rfl, rfl, rfl, rfl, hf2, fun _ _ => ⟨⟨D, p⟩, rfl, rfl, rfl, rfl, rfl, rfl, hps, fun _ _ => ⟨⟨D, rowC D, refsR D, p⟩, rfl, rfl, rfl, rfl, rfl, rfl, rfl, rfl, rfl, rfl, ⟨hps, short_leaf hm2⟩, fun _ _ => ⟨⟨readV ⟨D, p⟩, readV ⟨D, p⟩⟩, rfl, rfl, rfl, rfl, rfl, rfl, rfl, rfl, rfl, rfl, rfl, rfl, rfl, rfl, trivial, fun _ _ => br_f (hq _) ?_⟩⟩⟩⟩
  refine ⟨⟨D, frm, IntKind.i64.wrap ((i : Int) - 3)⟩, rfl, rfl, rfl, rfl, rfl, rfl, rfl, ⟨hf2, hi⟩, fun _ _ => ⟨⟨D, rowC D, refsR D, frm, IntKind.i64.wrap ((i : Int) - 3)⟩, rfl, rfl, rfl, rfl, rfl, rfl, rfl, rfl, rfl, rfl, rfl, ⟨hf2, hi⟩, fun _ _ => ⟨⟨logV ⟨D, frm, IntKind.i64.wrap ((i : Int) - 3)⟩, logV ⟨D, frm, IntKind.i64.wrap ((i : Int) - 3)⟩⟩, rfl, rfl, rfl, rfl, rfl, rfl, rfl, rfl, rfl, rfl, rfl, rfl, rfl, rfl, trivial, fun _ _ => br_f (hq _) ⟨i + 1, hw, ?_⟩⟩⟩⟩
  rw [hgo]
  exact ⟨rfl, rfl, rfl, rfl, rfl, rfl, rfl, rfl, rfl, rfl, rfl, rfl, rfl, rfl, hle, hms⟩
end Go.Proofs.YtildflamnehilaaGreat.Ses
