/- A law of graphs: what the evaluator leaves, and that it holds. No condition. -/
import Derived.Test.YtildflamnehilaaGreatGrfA
import Derived.KernelRfl
set_option linter.unusedSimpArgs false
set_option linter.unusedVariables false

namespace Go.Proofs.YtildflamnehilaaGreat.Ses
open Go Go.Proofs Go.Proofs.YtildflamnehilaaGreat.Sx Go.Proofs.YtildflamnehilaaGreat.Trx


noncomputable def glawF : List (Nat × CallSpec) := [(15, gawakeT.spec), (16, roomGT.spec), (17, gnewT.spec), (18, landT.spec), (19, rlandT.spec), (21, commitsT.spec), (23, looksT.spec), (34, altSpec load1T load2T), (35, altSpec rload1T rload2T)]
structure LodA where
  l : List Deed5D
  raw : List CommitD
def lodArgs (x : LodA) : List SV := [.rslice false .deed5 x.l, .rslice false .commit x.raw]
def deedOf (c : CommitD) : List Deed5D := [⟨0, c.ref, c.changes⟩]
noncomputable def lodI : St → LInv := fun s => match getE s.env 1 with
  | .rslice _ .commit raw => { σ := Nat, I := fun i => i ≤ raw.length ∧ ∀ j, j < i → roomG (deedOf (raw.getD j ⟨0, 0, [], []⟩)) = true, μ := fun i => raw.length - i, env := fun i => [(5, .int .i64 i)], blk := fun _ => [], fresh := 0, drop := [] }
  | _ => LInv.none
noncomputable def bothI (gs rs is : Nat) : St → LInv := fun s => match getE s.env 0, getE s.env gs, getE s.env rs with
  | .rslice _ .deed5 l, .mptr q _, .mptr z _ => (match s.m.blks.get q with
    | some (.cells [.mslice _ n _ _, _, .mmap k]) => { σ := Nat, I := fun i => i ≤ l.length, μ := fun i => l.length - i, env := fun i => [(is, .int .i64 i)], blk := fun i => [(q, gcell (goC (l.take i)) s.m.next k), (s.m.next, .rows .commit (goC (l.take i))), (k, .kv (kvC (goC (l.take i)))), (z, rcell (goC (l.take i)) (s.m.next + 1) (s.m.next + 2) (s.m.next + 3)), (s.m.next + 1, .rows .commit (goC (l.take i))), (s.m.next + 2, .rows .leaf (rowC (goC (l.take i)))), (s.m.next + 3, .rows .ref (refsR (goC (l.take i))))], fresh := 4, drop := [n] }
    | _ => LInv.none)
  | _, _, _ => LInv.none
noncomputable def lodE : Envr := Env Tryz.prog cod glawF [(6, lodI), (15, bothI 6 7 8)]
end Go.Proofs.YtildflamnehilaaGreat.Ses

namespace Go.Proofs.YtildflamnehilaaGreat.Ses
open Go Go.Proofs Go.Proofs.YtildflamnehilaaGreat.Sx Go.Proofs.YtildflamnehilaaGreat.Trx
set_option maxRecDepth 100000

theorem lod_vc (x : LodA) : evCall lodE (ev lodE 1000) 6 (lodArgs x) ⟨[], 0, []⟩ (fun _ _ => False) (fun v _ => TrueV v) = (
(∃ x1 : Unit,
 (True ∧
 (∀ x2 : Unit,
 (True →
 (∃ x3 : (List Deed5D),
 (((LodA.l x) = x3) ∧
 (True ∧
 (∀ x4 : Unit,
 (True →
 (br (Bool.not (roomG x3))
 (Bool.true = Bool.true)
 ((((List.length (LodA.raw x)) * (56 : Nat)) ≤ room47) →
 (br (decide ((↑(List.length (LodA.raw x)) : Int) > (40 : Int)))
 (Bool.true = Bool.true)
 ((∃ x5 : Nat,
 (((0 : Int) = (↑x5 : Int)) ∧
 ((x5 ≤ (List.length (LodA.raw x))) ∧
 (∀ x6 : Nat,
 ((x6 < x5) →
 ((roomG (deedOf (List.getD (LodA.raw x) x6 (CommitD.mk (0 : Int) (0 : Int) ([] : List UInt8) ([] : List ChangeD))))) = Bool.true)))))) ∧
 (∀ x7 : Nat,
 (((x7 ≤ (List.length (LodA.raw x))) ∧
 (∀ x8 : Nat,
 ((x8 < x7) →
 ((roomG (deedOf (List.getD (LodA.raw x) x8 (CommitD.mk (0 : Int) (0 : Int) ([] : List UInt8) ([] : List ChangeD))))) = Bool.true)))) →
 ((((List.length (LodA.raw x)) * (56 : Nat)) ≤ room47) →
 (br (decide ((↑x7 : Int) < (↑(List.length (LodA.raw x)) : Int)))
 (br (decide (((0 : Int) ≤ (↑x7 : Int)) ∧
 ((↑x7 : Int) < (↑(List.length (LodA.raw x)) : Int))))
 (br (decide (((0 : Int) ≤ (↑x7 : Int)) ∧
 ((↑x7 : Int) < (↑(List.length (LodA.raw x)) : Int))))
 (∃ x9 : (List Deed5D),
 ((((0 : Nat) + (1 : Nat)) ≤ (List.length (List.cons (Deed5D.mk (0 : Int) (CommitD.ref (List.getD (LodA.raw x) (Int.toNat (↑x7 : Int)) (CommitD.mk (0 : Int) (0 : Int) ([] : List UInt8) ([] : List ChangeD)))) (CommitD.changes (List.getD (LodA.raw x) (Int.toNat (↑x7 : Int)) (CommitD.mk (0 : Int) (0 : Int) ([] : List UInt8) ([] : List ChangeD))))) ([] : List Deed5D)))) ∧
 (((List.take (1 : Nat) (List.drop (0 : Nat) (List.cons (Deed5D.mk (0 : Int) (CommitD.ref (List.getD (LodA.raw x) (Int.toNat (↑x7 : Int)) (CommitD.mk (0 : Int) (0 : Int) ([] : List UInt8) ([] : List ChangeD)))) (CommitD.changes (List.getD (LodA.raw x) (Int.toNat (↑x7 : Int)) (CommitD.mk (0 : Int) (0 : Int) ([] : List UInt8) ([] : List ChangeD))))) ([] : List Deed5D)))) = x9) ∧
 (True ∧
 (∀ x10 : Unit,
 (True →
 (br (Bool.not (roomG x9))
 (Bool.true = Bool.true)
 (∃ x11 : Nat,
 (((IntKind.wrap IntKind.i64 ((↑x7 : Int) + (1 : Int))) = (↑x11 : Int)) ∧
 (((x11 ≤ (List.length (LodA.raw x))) ∧
 (∀ x12 : Nat,
 ((x12 < x11) →
 ((roomG (deedOf (List.getD (LodA.raw x) x12 (CommitD.mk (0 : Int) (0 : Int) ([] : List UInt8) ([] : List ChangeD))))) = Bool.true)))) ∧
 ((Nat.sub (List.length (LodA.raw x)) x11) < (Nat.sub (List.length (LodA.raw x)) x7))))))))))))
 (Bad "check" "law.go:150"))
 (Bad "check" "law.go:150"))
 (∃ x13 : Unit,
 (True ∧
 (∀ x14 : Unit,
 (True →
 ((∃ x15 : Nat,
 (((0 : Int) = (↑x15 : Int)) ∧
 (((0 : Nat) = (0 : Nat)) ∧
 (((List.length ([] : List CommitD)) = (List.length (goC (List.take x15 (LodA.l x))))) ∧
 (((treeC ([] : List CommitD)) = (treeC (goC (List.take x15 (LodA.l x))))) ∧
 ((([] : List CommitD) = (goC (List.take x15 (LodA.l x)))) ∧
 (((kvC ([] : List CommitD)) = (kvC (goC (List.take x15 (LodA.l x))))) ∧
 (((0 : Nat) = (List.length (goC (List.take x15 (LodA.l x))))) ∧
 (((0 : Nat) = (List.length (rowC (goC (List.take x15 (LodA.l x)))))) ∧
 (((0 : Nat) = (List.length (refsR (goC (List.take x15 (LodA.l x)))))) ∧
 ((([] : List CommitD) = (goC (List.take x15 (LodA.l x)))) ∧
 ((([] : List LeafD) = (rowC (goC (List.take x15 (LodA.l x))))) ∧
 ((([] : List RefD) = (refsR (goC (List.take x15 (LodA.l x))))) ∧
 (Nat.le x15 (List.length (LodA.l x)))))))))))))))) ∧
 (∀ x16 : Nat,
 ((Nat.le x16 (List.length (LodA.l x))) →
 ((((List.length (LodA.l x)) * (48 : Nat)) ≤ room47) →
 (br (decide ((↑x16 : Int) < (↑(List.length (LodA.l x)) : Int)))
 (br (decide (((0 : Int) ≤ (↑x16 : Int)) ∧
 ((↑x16 : Int) < (↑(List.length (LodA.l x)) : Int))))
 (br (decide (((0 : Int) ≤ (↑x16 : Int)) ∧
 ((↑x16 : Int) < (↑(List.length (LodA.l x)) : Int))))
 (br (decide (((0 : Int) ≤ (↑x16 : Int)) ∧
 ((↑x16 : Int) < (↑(List.length (LodA.l x)) : Int))))
 (∃ x17 : LandA,
 (((Deed5D.base (List.getD (LodA.l x) (Int.toNat (↑x16 : Int)) (Deed5D.mk (0 : Int) ([] : List UInt8) ([] : List ChangeD)))) = (LandA.base x17)) ∧
 (((Deed5D.ref (List.getD (LodA.l x) (Int.toNat (↑x16 : Int)) (Deed5D.mk (0 : Int) ([] : List UInt8) ([] : List ChangeD)))) = (LandA.ref x17)) ∧
 (((Deed5D.l (List.getD (LodA.l x) (Int.toNat (↑x16 : Int)) (Deed5D.mk (0 : Int) ([] : List UInt8) ([] : List ChangeD)))) = (LandA.l x17)) ∧
 (((0 : Nat) = (0 : Nat)) ∧
 (((List.length (goC (List.take x16 (LodA.l x)))) = (List.length (LandA.C x17))) ∧
 (((treeC (goC (List.take x16 (LodA.l x)))) = (treeC (LandA.C x17))) ∧
 (((goC (List.take x16 (LodA.l x))) = (LandA.C x17)) ∧
 (((kvC (goC (List.take x16 (LodA.l x)))) = (kvC (LandA.C x17))) ∧
 ((((fewG (LandA.C x17)) = Bool.true) ∧
 ((shortC (LandA.l x17)) = Bool.true)) ∧
 (∀ x18 : Unit,
 (True →
 (br (decide (((0 : Int) ≤ (↑x16 : Int)) ∧
 ((↑x16 : Int) < (↑(List.length (LodA.l x)) : Int))))
 (br (decide (((0 : Int) ≤ (↑x16 : Int)) ∧
 ((↑x16 : Int) < (↑(List.length (LodA.l x)) : Int))))
 (br (decide (((0 : Int) ≤ (↑x16 : Int)) ∧
 ((↑x16 : Int) < (↑(List.length (LodA.l x)) : Int))))
 (∃ x19 : LandA,
 (((Deed5D.base (List.getD (LodA.l x) (Int.toNat (↑x16 : Int)) (Deed5D.mk (0 : Int) ([] : List UInt8) ([] : List ChangeD)))) = (LandA.base x19)) ∧
 (((Deed5D.ref (List.getD (LodA.l x) (Int.toNat (↑x16 : Int)) (Deed5D.mk (0 : Int) ([] : List UInt8) ([] : List ChangeD)))) = (LandA.ref x19)) ∧
 (((Deed5D.l (List.getD (LodA.l x) (Int.toNat (↑x16 : Int)) (Deed5D.mk (0 : Int) ([] : List UInt8) ([] : List ChangeD)))) = (LandA.l x19)) ∧
 (((0 : Nat) = (0 : Nat)) ∧
 (((List.length (goC (List.take x16 (LodA.l x)))) = (List.length (LandA.C x19))) ∧
 (((0 : Nat) = (0 : Nat)) ∧
 (((List.length (rowC (goC (List.take x16 (LodA.l x))))) = (List.length (rowC (LandA.C x19)))) ∧
 (((0 : Nat) = (0 : Nat)) ∧
 (((List.length (refsR (goC (List.take x16 (LodA.l x))))) = (List.length (refsR (LandA.C x19)))) ∧
 (((goC (List.take x16 (LodA.l x))) = (LandA.C x19)) ∧
 (((rowC (goC (List.take x16 (LodA.l x)))) = (rowC (LandA.C x19))) ∧
 (((refsR (goC (List.take x16 (LodA.l x)))) = (refsR (LandA.C x19))) ∧
 (((((fewG (LandA.C x19)) = Bool.true) ∧
 ((shortM (LandA.C x19)) = Bool.true)) ∧
 (((shortC (LandA.l x19)) = Bool.true) ∧
 ((fewX (LandA.l x19)) = Bool.true))) ∧
 (∀ x20 : Unit,
 (True →
 (∃ x21 : Nat,
 (((IntKind.wrap IntKind.i64 ((↑x16 : Int) + (1 : Int))) = (↑x21 : Int)) ∧
 (((0 : Nat) = (0 : Nat)) ∧
 (((List.length (landC x17)) = (List.length (goC (List.take x21 (LodA.l x))))) ∧
 (((treeC (landC x17)) = (treeC (goC (List.take x21 (LodA.l x))))) ∧
 (((landC x17) = (goC (List.take x21 (LodA.l x)))) ∧
 (((kvC (landC x17)) = (kvC (goC (List.take x21 (LodA.l x))))) ∧
 (((0 : Nat) = (0 : Nat)) ∧
 (((List.length (landC x19)) = (List.length (goC (List.take x21 (LodA.l x))))) ∧
 (((0 : Nat) = (0 : Nat)) ∧
 (((List.length (rowC (landC x19))) = (List.length (rowC (goC (List.take x21 (LodA.l x)))))) ∧
 (((0 : Nat) = (0 : Nat)) ∧
 (((List.length (refsR (landC x19))) = (List.length (refsR (goC (List.take x21 (LodA.l x)))))) ∧
 (((landC x19) = (goC (List.take x21 (LodA.l x)))) ∧
 (((rowC (landC x19)) = (rowC (goC (List.take x21 (LodA.l x))))) ∧
 (((refsR (landC x19)) = (refsR (goC (List.take x21 (LodA.l x))))) ∧
 ((Nat.le x21 (List.length (LodA.l x))) ∧
 ((Nat.sub (List.length (LodA.l x)) x21) < (Nat.sub (List.length (LodA.l x)) x16)))))))))))))))))))))))))))))))))))
 (Bad "check" "law.go:161"))
 (Bad "check" "law.go:161"))
 (Bad "check" "law.go:161"))))))))))))))
 (Bad "check" "law.go:160"))
 (Bad "check" "law.go:160"))
 (Bad "check" "law.go:160"))
 (∃ x22 : (List CommitD),
 (((0 : Nat) = (0 : Nat)) ∧
 (((List.length (goC (List.take x16 (LodA.l x)))) = (List.length x22)) ∧
 (((treeC (goC (List.take x16 (LodA.l x)))) = (treeC x22)) ∧
 (((goC (List.take x16 (LodA.l x))) = x22) ∧
 (((kvC (goC (List.take x16 (LodA.l x)))) = (kvC x22)) ∧
 (((fewG x22) = Bool.true) ∧
 (∀ x23 : Unit,
 (True →
 (Or (∃ x24 : (List CommitD),
 ((x22 = x24) ∧
 ((((mayM x24) = Bool.true) ∧
 (LoadsTo x24 (List.length x24))) ∧
 (∀ x25 : Unit,
 (True →
 (Or (∃ x26 : (List CommitD),
 (((LodA.raw x) = x26) ∧
 ((((mayM x26) = Bool.true) ∧
 (LoadsTo x26 (List.length x26))) ∧
 (∀ x27 : Unit,
 (True →
 (Or (∃ x28 : (List CommitD),
 (((LodA.raw x) = x28) ∧
 (((((mayM x28) = Bool.true) ∧
 ((fewM x28) = Bool.true)) ∧
 (LoadsTo x28 (List.length x28))) ∧
 (∀ x29 : Unit,
 (True →
 (∃ x30 : (List CommitD),
 (((0 : Nat) = (0 : Nat)) ∧
 (((List.length x24) = (List.length x30)) ∧
 (((treeC x24) = (treeC x30)) ∧
 ((x24 = x30) ∧
 (((kvC x24) = (kvC x30)) ∧
 (((0 : Nat) = (0 : Nat)) ∧
 (((List.length (goC (List.take x16 (LodA.l x)))) = (List.length x30)) ∧
 (((0 : Nat) = (0 : Nat)) ∧
 (((List.length (rowC (goC (List.take x16 (LodA.l x))))) = (List.length (rowC x30))) ∧
 (((0 : Nat) = (0 : Nat)) ∧
 (((List.length (refsR (goC (List.take x16 (LodA.l x))))) = (List.length (refsR x30))) ∧
 (((goC (List.take x16 (LodA.l x))) = x30) ∧
 (((rowC (goC (List.take x16 (LodA.l x)))) = (rowC x30)) ∧
 (((refsR (goC (List.take x16 (LodA.l x)))) = (refsR x30)) ∧
 (((fewG x30) = Bool.true) ∧
 (∀ x31 : Unit,
 (True →
 (∃ x32 : (List CommitD),
 (((0 : Nat) = (0 : Nat)) ∧
 (((List.length x26) = (List.length x32)) ∧
 (((treeC x26) = (treeC x32)) ∧
 ((x26 = x32) ∧
 (((kvC x26) = (kvC x32)) ∧
 (((0 : Nat) = (0 : Nat)) ∧
 (((List.length x28) = (List.length x32)) ∧
 (((0 : Nat) = (0 : Nat)) ∧
 (((List.length (rowC x28)) = (List.length (rowC x32))) ∧
 (((0 : Nat) = (0 : Nat)) ∧
 (((List.length (refsR x28)) = (List.length (refsR x32))) ∧
 ((x28 = x32) ∧
 (((rowC x28) = (rowC x32)) ∧
 (((refsR x28) = (refsR x32)) ∧
 (((fewG x32) = Bool.true) ∧
 (∀ x33 : Unit,
 (True →
 (Bool.true = Bool.true)))))))))))))))))))))))))))))))))))))))))) (∃ x34 : (List CommitD),
 (((LodA.raw x) = x34) ∧
 (((((mayM x34) = Bool.true) ∧
 ((fewM x34) = Bool.true)) ∧
 (Not (LoadsTo x34 (List.length x34)))) ∧
 (∀ x35 : Unit,
 (True →
 (∃ x36 : (List CommitD),
 (((0 : Nat) = (0 : Nat)) ∧
 (((List.length x24) = (List.length x36)) ∧
 (((treeC x24) = (treeC x36)) ∧
 ((x24 = x36) ∧
 (((kvC x24) = (kvC x36)) ∧
 (((0 : Nat) = (0 : Nat)) ∧
 (((List.length (goC (List.take x16 (LodA.l x)))) = (List.length x36)) ∧
 (((0 : Nat) = (0 : Nat)) ∧
 (((List.length (rowC (goC (List.take x16 (LodA.l x))))) = (List.length (rowC x36))) ∧
 (((0 : Nat) = (0 : Nat)) ∧
 (((List.length (refsR (goC (List.take x16 (LodA.l x))))) = (List.length (refsR x36))) ∧
 (((goC (List.take x16 (LodA.l x))) = x36) ∧
 (((rowC (goC (List.take x16 (LodA.l x)))) = (rowC x36)) ∧
 (((refsR (goC (List.take x16 (LodA.l x)))) = (refsR x36)) ∧
 (((fewG x36) = Bool.true) ∧
 (∀ x37 : Unit,
 (True →
 (Bool.false = Bool.true)))))))))))))))))))))))))))))) (∃ x38 : (List CommitD),
 (((LodA.raw x) = x38) ∧
 ((((mayM x38) = Bool.true) ∧
 (Not (LoadsTo x38 (List.length x38)))) ∧
 (∀ x39 : Unit,
 (True →
 (Or (∃ x40 : (List CommitD),
 (((LodA.raw x) = x40) ∧
 (((((mayM x40) = Bool.true) ∧
 ((fewM x40) = Bool.true)) ∧
 (LoadsTo x40 (List.length x40))) ∧
 (∀ x41 : Unit,
 (True →
 (∃ x42 : (List CommitD),
 (((0 : Nat) = (0 : Nat)) ∧
 (((List.length x24) = (List.length x42)) ∧
 (((treeC x24) = (treeC x42)) ∧
 ((x24 = x42) ∧
 (((kvC x24) = (kvC x42)) ∧
 (((0 : Nat) = (0 : Nat)) ∧
 (((List.length (goC (List.take x16 (LodA.l x)))) = (List.length x42)) ∧
 (((0 : Nat) = (0 : Nat)) ∧
 (((List.length (rowC (goC (List.take x16 (LodA.l x))))) = (List.length (rowC x42))) ∧
 (((0 : Nat) = (0 : Nat)) ∧
 (((List.length (refsR (goC (List.take x16 (LodA.l x))))) = (List.length (refsR x42))) ∧
 (((goC (List.take x16 (LodA.l x))) = x42) ∧
 (((rowC (goC (List.take x16 (LodA.l x)))) = (rowC x42)) ∧
 (((refsR (goC (List.take x16 (LodA.l x)))) = (refsR x42)) ∧
 (((fewG x42) = Bool.true) ∧
 (∀ x43 : Unit,
 (True →
 (Bool.false = Bool.true)))))))))))))))))))))))) (∃ x44 : (List CommitD),
 (((LodA.raw x) = x44) ∧
 (((((mayM x44) = Bool.true) ∧
 ((fewM x44) = Bool.true)) ∧
 (Not (LoadsTo x44 (List.length x44)))) ∧
 (∀ x45 : Unit,
 (True →
 (∃ x46 : (List CommitD),
 (((0 : Nat) = (0 : Nat)) ∧
 (((List.length x24) = (List.length x46)) ∧
 (((treeC x24) = (treeC x46)) ∧
 ((x24 = x46) ∧
 (((kvC x24) = (kvC x46)) ∧
 (((0 : Nat) = (0 : Nat)) ∧
 (((List.length (goC (List.take x16 (LodA.l x)))) = (List.length x46)) ∧
 (((0 : Nat) = (0 : Nat)) ∧
 (((List.length (rowC (goC (List.take x16 (LodA.l x))))) = (List.length (rowC x46))) ∧
 (((0 : Nat) = (0 : Nat)) ∧
 (((List.length (refsR (goC (List.take x16 (LodA.l x))))) = (List.length (refsR x46))) ∧
 (((goC (List.take x16 (LodA.l x))) = x46) ∧
 (((rowC (goC (List.take x16 (LodA.l x)))) = (rowC x46)) ∧
 (((refsR (goC (List.take x16 (LodA.l x)))) = (refsR x46)) ∧
 (((fewG x46) = Bool.true) ∧
 (∀ x47 : Unit,
 (True →
 (Bool.true = Bool.true)))))))))))))))))))))))))))))))))))) (∃ x48 : (List CommitD),
 ((x22 = x48) ∧
 ((((mayM x48) = Bool.true) ∧
 (Not (LoadsTo x48 (List.length x48)))) ∧
 (∀ x49 : Unit,
 (True →
 (Or (∃ x50 : (List CommitD),
 (((LodA.raw x) = x50) ∧
 ((((mayM x50) = Bool.true) ∧
 (LoadsTo x50 (List.length x50))) ∧
 (∀ x51 : Unit,
 (True →
 (Or (∃ x52 : (List CommitD),
 (((LodA.raw x) = x52) ∧
 (((((mayM x52) = Bool.true) ∧
 ((fewM x52) = Bool.true)) ∧
 (LoadsTo x52 (List.length x52))) ∧
 (∀ x53 : Unit,
 (True →
 (Bool.false = Bool.true)))))) (∃ x54 : (List CommitD),
 (((LodA.raw x) = x54) ∧
 (((((mayM x54) = Bool.true) ∧
 ((fewM x54) = Bool.true)) ∧
 (Not (LoadsTo x54 (List.length x54)))) ∧
 (∀ x55 : Unit,
 (True →
 (Bool.false = Bool.true)))))))))))) (∃ x56 : (List CommitD),
 (((LodA.raw x) = x56) ∧
 ((((mayM x56) = Bool.true) ∧
 (Not (LoadsTo x56 (List.length x56)))) ∧
 (∀ x57 : Unit,
 (True →
 (Or (∃ x58 : (List CommitD),
 (((LodA.raw x) = x58) ∧
 (((((mayM x58) = Bool.true) ∧
 ((fewM x58) = Bool.true)) ∧
 (LoadsTo x58 (List.length x58))) ∧
 (∀ x59 : Unit,
 (True →
 (Bool.false = Bool.true)))))) (∃ x60 : (List CommitD),
 (((LodA.raw x) = x60) ∧
 (((((mayM x60) = Bool.true) ∧
 ((fewM x60) = Bool.true)) ∧
 (Not (LoadsTo x60 (List.length x60)))) ∧
 (∀ x61 : Unit,
 (True →
 (Bool.false = Bool.true))))))))))))))))))))))))))))))))))))))))))))))))))))))) := by kernel_rfl

end Go.Proofs.YtildflamnehilaaGreat.Ses

namespace Go.Proofs.YtildflamnehilaaGreat.Ses
open Go Go.Proofs Go.Proofs.YtildflamnehilaaGreat.Sx Go.Proofs.YtildflamnehilaaGreat.Trx

theorem room_few {l : List Deed5D} (h : roomG l = true) : ∀ i, i < l.length → fewX (l.getD i noD).l = true := by
  unfold roomG at h
  simp only [Bool.and_eq_true, decide_eq_true_eq, List.all_eq_true] at h
  intro i hi
  have h1 := h.2 _ (getD_mem (l := l) (d := noD) (i := i) hi)
  unfold okD at h1
  simp only [Bool.and_eq_true, decide_eq_true_eq] at h1
  exact decide_eq_true (by have := h1.2.1; omega)
theorem goC_short (l : List Deed5D) : (∀ i, i < l.length → shortC (l.getD i noD).l = true) → shortM (goC l) = true := by
  refine snocL (p := fun l => (∀ i, i < l.length → shortC (l.getD i noD).l = true) → shortM (goC l) = true) (fun _ => rfl) (fun l d ih h => ?_) l
  have e : goC (l ++ [d]) = landC ⟨goC l, d.base, d.ref, d.l⟩ := by simp [goC, oneC]
  have h1 := ih fun i hi => by
    have := h i (by simp; omega)
    simpa [List.getD, List.getElem?_append_left hi] using this
  have h2 : shortC d.l = true := by
    have := h l.length (by simp)
    simpa [List.getD] using this
  rw [e]
  unfold landC
  cases isLd ⟨goC l, d.base, d.ref, d.l⟩
  · exact h1
  · have hss : shortC (insS d.l) = true := by
      unfold shortC at h2 ⊢
      rw [List.all_eq_true] at h2 ⊢
      exact fun y hy => h2 y (mem_insS.1 hy)
    unfold shortM at h1 ⊢
    simp only [cond_true]
    rw [List.all_append, h1]
    show (true && (shortC (insS d.l) && true)) = true
    rw [hss]; rfl
theorem go_short {l : List Deed5D} (h : ∀ i, i < l.length → shortC (l.getD i noD).l = true) (i : Nat) : shortM (goC (l.take i)) = true := by
  refine goC_short _ fun j hj => ?_
  have hj' : j < l.length := by rw [List.length_take] at hj; omega
  have e : (l.take i).getD j noD = l.getD j noD := by
    rw [List.length_take] at hj
    simp [List.getD, List.getElem?_take_of_lt (show j < i by omega)]
  rw [e]
  exact h j hj'
theorem lod_ok : EnvOK lodE := Env_ok (by decide +kernel) (by
  intro p hp
  simp only [glawF, List.mem_cons, List.mem_nil_iff, or_false] at hp
  rcases hp with rfl | rfl | rfl | rfl | rfl | rfl | rfl | rfl | rfl
  · exact gawake_ok
  · exact roomg_ok
  · exact gnew_ok
  · exact land_ok
  · exact rland_ok
  · exact commits_ok
  · exact looks_ok
  · exact altSpec_ok load1_ok load2_ok
  · exact altSpec_ok rload1_ok rload2_ok)
set_option maxHeartbeats 0 in
theorem lod_body (x : LodA) : evCall lodE (ev lodE 1000) 6 (lodArgs x) ⟨[], 0, []⟩ (fun _ _ => False) (fun v _ => TrueV v) := by
  rw [lod_vc]
  obtain ⟨l, raw⟩ := x
  dsimp only
  refine ⟨(), trivial, fun _ _ => ⟨l, rfl, trivial, fun _ _ => br_i (fun _ => rfl) fun hr _ => br_i (fun _ => rfl) fun h40 => ⟨⟨0, rfl, Nat.zero_le _, fun j hj => absurd hj (Nat.not_lt_zero _)⟩, fun a ha _ => br_i (fun h1 => ?_) (fun h1 => ?_)⟩⟩⟩
  · obtain ⟨a1, a2⟩ := ha
    have h1 := of_decide_eq_true h1
    have h40 := of_decide_eq_false h40
    have ba : decide ((0 : Int) ≤ (a : Int) ∧ (a : Int) < (raw.length : Int)) = true := decide_eq_true ⟨by omega, h1⟩
    refine br_t ba (br_t ba ⟨deedOf (raw.getD a noM), Nat.le_refl 1, rfl, trivial, fun _ _ => br_i (fun _ => rfl) fun hq => ⟨a + 1, by rw [wrap_id (by omega) (by omega)]; rfl, ⟨by omega, fun j hj => ?_⟩, by show raw.length - (a + 1) < raw.length - a; omega⟩⟩)
    by_cases e : j < a
    · exact a2 j e
    · have : j = a := by omega
      subst this
      rw [Bool.not_eq_false'] at hq
      exact hq
  obtain ⟨a1, a2⟩ := ha
  have h1 := of_decide_eq_false h1
  have haL : a = raw.length := by omega
  subst haL
  have h40 := of_decide_eq_false h40
  have hrawS : ∀ c, c ∈ raw → shortC c.changes = true ∧ fewX c.changes = true := by
    intro c hc
    obtain ⟨j, hj, e⟩ := List.mem_iff_getElem.1 hc
    have hq := a2 j hj
    have e2 : raw.getD j noM = c := by simp [List.getD, hj, e]
    have e3 : raw.getD j ⟨0, 0, [], []⟩ = c := e2
    rw [e3] at hq
    exact ⟨(roomG_of hq).2 0 (by show 0 < 1; omega), room_few hq 0 (by show 0 < 1; omega)⟩
  have mayR : mayM raw = true := by
    unfold mayM
    simp only [Bool.and_eq_true, decide_eq_true_eq, List.all_eq_true]
    exact ⟨by omega, fun c hc => (hrawS c hc).1⟩
  have fewR : fewM raw = true := by
    unfold fewM
    rw [List.all_eq_true]
    exact fun c hc => (hrawS c hc).2
  rw [Bool.not_eq_false'] at hr
  obtain ⟨r1, r2⟩ := roomG_of hr
  have r3 := room_few hr
  refine ⟨(), trivial, fun _ _ => ⟨⟨0, rfl, rfl, rfl, rfl, rfl, rfl, rfl, rfl, rfl, rfl, rfl, rfl, Nat.zero_le _⟩, fun i hi2 _ => br_i (fun h1 => ?_) (fun h1 => ?_)⟩⟩
  · have h1 := of_decide_eq_true h1
    have bi : decide ((0 : Int) ≤ (i : Int) ∧ (i : Int) < (l.length : Int)) = true := decide_eq_true ⟨by omega, h1⟩
    have e0 : (i : Int).toNat = i := rfl
    rw [e0]
    have hgo : goC (l.take (i + 1)) = landC ⟨goC (l.take i), (l.getD i noD).base, (l.getD i noD).ref, (l.getD i noD).l⟩ := goC_at (by omega)
    have hf1 := go_few r1 i
    have hm1 := go_short r2 i
    have hsh := r2 i (by omega)
    have hfx := r3 i (by omega)
    have hgd : l.getD i ⟨0, [], []⟩ = l.getD i noD := rfl
    rw [hgd]
    generalize l.getD i noD = d at hgo hsh hfx ⊢
    have hw : IntKind.i64.wrap ((i : Int) + 1) = ((i + 1 : Nat) : Int) := by rw [wrap_id (by omega) (by omega)]; rfl
    have hle : i + 1 ≤ l.length := by omega
    have hms : l.length - (i + 1) < l.length - i := by omega
    generalize goC (l.take i) = C at hgo hf1 hm1 ⊢
    generalize hD : landC ⟨C, d.base, d.ref, d.l⟩ = D at hgo ⊢
    refine br_t bi (br_t bi (br_t bi ⟨⟨C, d.base, d.ref, d.l⟩, rfl, rfl, rfl, rfl, rfl, rfl, rfl, rfl, ⟨hf1, hsh⟩, fun _ _ => br_t bi (br_t bi (br_t bi ⟨⟨C, d.base, d.ref, d.l⟩, rfl, rfl, rfl, rfl, rfl, rfl, rfl, rfl, rfl, rfl, rfl, rfl, ⟨⟨hf1, hm1⟩, hsh, hfx⟩, fun _ _ => ⟨i + 1, hw, ?_⟩⟩))⟩))
    rw [hD, hgo]
    exact ⟨rfl, rfl, rfl, rfl, rfl, rfl, rfl, rfl, rfl, rfl, rfl, rfl, rfl, rfl, hle, hms⟩
  · have h1 := of_decide_eq_false h1
    have hi2 : i ≤ l.length := hi2
    have hfew := go_few r1 i
    rw [List.take_of_length_le (by omega)] at hfew ⊢
    have hlen := (goC_ok l (by omega)).len
    have hlo : LoadsTo (goC l) (goC l).length := (go_more l).loads
    have hsh := (go_more l).short r2
    generalize goC l = C at hfew hlen hlo hsh ⊢
    have mayC : mayM C = true := by
      unfold mayM
      simp only [Bool.and_eq_true, decide_eq_true_eq, List.all_eq_true]
      exact ⟨by omega, fun c hc => hsh c hc⟩
    refine ⟨C, rfl, rfl, rfl, rfl, rfl, hfew, fun _ _ => .inl ⟨C, rfl, ⟨mayC, hlo⟩, fun _ _ => ?_⟩⟩
    by_cases hL : LoadsTo raw raw.length
    · have hfr : fewG raw = true := by
        have := loads_few (raw := raw) (i := raw.length) (Nat.le_refl _) (by omega) hL
        rwa [List.take_of_length_le (Nat.le_refl _)] at this
      exact .inl ⟨raw, rfl, ⟨mayR, hL⟩, fun _ _ => .inl ⟨raw, rfl, ⟨⟨mayR, fewR⟩, hL⟩, fun _ _ => ⟨C, rfl, rfl, rfl, rfl, rfl, rfl, rfl, rfl, rfl, rfl, rfl, rfl, rfl, rfl, hfew, fun _ _ => ⟨raw, rfl, rfl, rfl, rfl, rfl, rfl, rfl, rfl, rfl, rfl, rfl, rfl, rfl, rfl, hfr, fun _ _ => rfl⟩⟩⟩⟩
    · exact .inr ⟨raw, rfl, ⟨mayR, hL⟩, fun _ _ => .inr ⟨raw, rfl, ⟨⟨mayR, fewR⟩, hL⟩, fun _ _ => ⟨C, rfl, rfl, rfl, rfl, rfl, rfl, rfl, rfl, rfl, rfl, rfl, rfl, rfl, rfl, hfew, fun _ _ => rfl⟩⟩⟩

section
variable {H : Type} {en : TypeId × Value → H} {w : World}
theorem op_commit : Opens en Tryz.prog w 44 (enc .commit) :=
  (opens_struct Tryz.underlying44 (by kernel_rfl) (opensF_cons (sz := 1) rfl (by kernel_rfl) (opens_int Tryz.underlying3) (opensF_cons (sz := 1) rfl (by kernel_rfl) (opens_int Tryz.underlying3) (opensF_cons (sz := 1) rfl (by kernel_rfl) (opens_str Tryz.underlying9) (opensF_cons (sz := 1) rfl (by kernel_rfl) op_changes opensF_nil))))).map
    (fun a => (⟨a.1, a.2.1, a.2.2.1, a.2.2.2.1⟩ : CommitD)) (fun _ => rfl)
theorem op_commits : Opens en Tryz.prog w 28 (fun l : List CommitD => [.rslice false .commit l]) := opens_slice Tryz.underlying28 op_commit (by kernel_rfl) (by kernel_rfl)
end
end Go.Proofs.YtildflamnehilaaGreat.Ses
