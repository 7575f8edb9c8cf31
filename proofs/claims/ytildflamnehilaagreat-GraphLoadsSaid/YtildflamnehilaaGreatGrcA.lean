/- A graph loaded; legal chains; the reference for changes: what the evaluator leaves of each, and that it holds. No condition. -/
import Derived.Test.YtildflamnehilaaGreatGraA
import Derived.KernelRfl
set_option linter.unusedSimpArgs false
set_option linter.unusedVariables false

namespace Go.Proofs.YtildflamnehilaaGreat.Ses
open Go Go.Proofs Go.Proofs.YtildflamnehilaaGreat.Sx Go.Proofs.YtildflamnehilaaGreat.Trx

/-! ### the reference's check and sort -/

def fewX (l : List ChangeD) : Bool := decide (l.length ≤ 100000)
def badC (l : List ChangeD) (i : Nat) : Bool := Nat.beq l.length 0 || decide (16 < l.length) || !(okUpto l i)
noncomputable def rcheckT : Tri := { γ := List ChangeD, n0 := 0, args := fun x => [.rslice false .change x], blks := fun _ => [], pre := fun x => shortC x = true, δ := Unit, post := fun _ _ => True, n1 := 0, res := fun x _ => .int .i64 (chkC x), blks' := fun _ _ => [], scal := true }
noncomputable def rcheckI : St → LInv := fun s => match getE s.env 0 with
  | .rslice _ .change l => { σ := Nat, I := fun i => i ≤ l.length, μ := fun i => l.length - i, env := fun i => [(4, .int .i64 i), (3, .bool (badC l i))], blk := fun _ => [], fresh := 0, drop := [] }
  | _ => LInv.none
noncomputable def rcheckJ : St → LInv := fun s => match getE s.env 0, getE s.env 4 with
  | .rslice _ .change l, .int _ i => { σ := Nat, I := fun k => k ≤ i.toNat, μ := fun k => i.toNat - k, env := fun k => [(7, .int .i64 k), (3, .bool (!(goodC (l.getD i.toNat ⟨[], false, 0⟩)) || hasC (l.getD i.toNat ⟨[], false, 0⟩).path (l.take k)))], blk := fun _ => [], fresh := 0, drop := [] }
  | _, _ => LInv.none
noncomputable def rcheckE : Envr := Env Tryz.prog cod [(90, normalT.spec)] [(3, rcheckI), (8, rcheckJ)]
noncomputable def rsortT : Tri := { γ := List ChangeD, n0 := 0, args := fun l => [.rslice false .change l], blks := fun _ => [], pre := fun l => shortC l = true ∧ fewX l = true, δ := Unit, post := fun _ _ => True, n1 := 1, res := fun l _ => .mslice .change 0 0 l.length, blks' := fun l _ => [(0, .rows .change (insS l))], scal := true }
noncomputable def rsortI : St → LInv := fun s => match getE s.env 0 with
  | .rslice _ .change l => { σ := Nat, I := fun i => i ≤ l.length, μ := fun i => l.length - i, env := fun i => [(4, .int .i64 i), (3, .mslice .change s.m.next 0 (insS (l.take i)).length)], blk := fun i => [(s.m.next, .rows .change (insS (l.take i)))], fresh := 1, drop := [] }
  | _ => LInv.none
noncomputable def rsortJ : St → LInv := fun s => match getE s.env 0, getE s.env 3, getE s.env 4 with
  | .rslice _ .change l, .mslice _ n _ _, .int _ i => (match s.m.blks.get n with
    | some (.rows .change out) => { σ := Nat, I := fun k => k ≤ out.length ∧ ∀ j, k ≤ j → j < out.length → cmpC (l.getD i.toNat ⟨[], false, 0⟩) (out.getD j ⟨[], false, 0⟩) < 0, μ := fun k => k, env := fun k => [(5, .int .i64 k)], blk := fun _ => [], fresh := 0, drop := [] }
    | _ => LInv.none)
  | _, _, _ => LInv.none
noncomputable def rsortE : Envr := Env Tryz.prog cod [(122, rcompareT.spec)] [(3, rsortI), (6, rsortJ)]

/-! ### legal chains -/

noncomputable def legalT : Tri := { γ := ComL, n0 := 0, args := fun C => [.rslice false .commit C], blks := fun _ => [], pre := fun C => OkC C, δ := Unit, post := fun _ _ => True, n1 := 0, res := fun _ _ => .bool true, blks' := fun _ _ => [], scal := true }
noncomputable def legI2 : St → LInv := fun s => match getE s.env 0 with
  | .rslice _ .commit l => { σ := Nat, I := fun i => i ≤ l.length, μ := fun i => l.length - i, env := fun i => [(3, .int .i64 i)], blk := fun _ => [], fresh := 0, drop := [] }
  | _ => LInv.none
noncomputable def legI7 : St → LInv := fun s => match getE s.env 0, getE s.env 3 with
  | .rslice _ .commit l, .int _ i => { σ := Nat, I := fun a => a ≤ (l.getD i.toNat ⟨0, 0, [], []⟩).changes.length, μ := fun a => (l.getD i.toNat ⟨0, 0, [], []⟩).changes.length - a, env := fun a => [(4, .int .i64 a)], blk := fun _ => [], fresh := 0, drop := [] }
  | _, _ => LInv.none
noncomputable def legI10 : St → LInv := fun s => match getE s.env 4 with
  | .int _ a => { σ := Nat, I := fun b => b ≤ a.toNat, μ := fun b => a.toNat - b, env := fun b => [(5, .int .i64 b)], blk := fun _ => [], fresh := 0, drop := [] }
  | _ => LInv.none
noncomputable def legI15 : St → LInv := fun s => match getE s.env 0, getE s.env 3 with
  | .rslice _ .commit l, .int _ i => { σ := Nat, I := fun k => (l.getD i.toNat ⟨0, 0, [], []⟩).base ≤ k ∧ k ≤ i.toNat, μ := fun k => i.toNat - k, env := fun k => [(6, .int .i64 k)], blk := fun _ => [], fresh := 0, drop := [] }
  | _, _ => LInv.none
noncomputable def legI18 : St → LInv := fun s => match getE s.env 0, getE s.env 6 with
  | .rslice _ .commit l, .int _ k => { σ := Nat, I := fun b => b ≤ (l.getD k.toNat ⟨0, 0, [], []⟩).changes.length, μ := fun b => (l.getD k.toNat ⟨0, 0, [], []⟩).changes.length - b, env := fun b => [(7, .int .i64 b)], blk := fun _ => [], fresh := 0, drop := [] }
  | _, _ => LInv.none
noncomputable def legalE : Envr := Env Tryz.prog cod [] [(2, legI2), (7, legI7), (10, legI10), (15, legI15), (18, legI18)]

/-! ### loading -/

def gcell (C : List CommitD) (n m : Nat) : Blk := .cells [.mslice .commit n 0 C.length, .tree (treeC C), .mmap m]
def loadA (raw : List CommitD) (i : Nat) : LandA := ⟨raw.take i, (raw.getD i ⟨0, 0, [], []⟩).base, (raw.getD i ⟨0, 0, [], []⟩).ref, (raw.getD i ⟨0, 0, [], []⟩).changes⟩
def stepB (raw : List CommitD) (i : Nat) : Bool := (landV (loadA raw i)).code == 2 && ((landV (loadA raw i)).rev == (raw.getD i ⟨0, 0, [], []⟩).rev && sameC (insS (raw.getD i ⟨0, 0, [], []⟩).changes) (raw.getD i ⟨0, 0, [], []⟩).changes)
def LoadsTo (raw : List CommitD) (i : Nat) : Prop := ∀ j, j < i → stepB raw j = true
def mayM (raw : List CommitD) : Bool := decide (raw.length ≤ 4000) && raw.all fun c => shortC c.changes
noncomputable def load1T : Tri := { γ := ComL, n0 := 0, args := fun raw => [.rslice false .commit raw], blks := fun _ => [], pre := fun raw => mayM raw = true ∧ LoadsTo raw raw.length, δ := Unit, post := fun _ _ => True, n1 := 3, res := fun _ _ => .tuple [.mptr 0 0, .int .i64 0], blks' := fun raw _ => gB raw 1, scal := false }
noncomputable def load2T : Tri := { γ := ComL, n0 := 0, args := fun raw => [.rslice false .commit raw], blks := fun _ => [], pre := fun raw => mayM raw = true ∧ ¬ LoadsTo raw raw.length, δ := Unit, post := fun _ _ => True, n1 := 0, res := fun _ _ => .tuple [.nilp, .int .i64 4], blks' := fun _ _ => [], scal := false }
noncomputable def loadI : St → LInv := fun s => match getE s.env 0, getE s.env 4 with
  | .rslice _ .commit raw, .mptr q _ => (match s.m.blks.get q with
    | some (.cells [.mslice _ n _ _, _, .mmap k]) => { σ := Nat, I := fun i => i ≤ raw.length ∧ LoadsTo raw i, μ := fun i => raw.length - i, env := fun i => [(11, .int .i64 i)], blk := fun i => [(q, gcell (raw.take i) s.m.next k), (s.m.next, .rows .commit (raw.take i)), (k, .kv (kvC (raw.take i)))], fresh := 1, drop := [n] }
    | _ => LInv.none)
  | _, _ => LInv.none
noncomputable def loadE : Envr := Env Tryz.prog cod [(17, gnewT.spec), (18, landT.spec), (86, equalT.spec)] [(3, loadI)]
def altSpec (T1 T2 : Tri) : CallSpec := fun args m kp k => T1.spec args m kp k ∨ T2.spec args m kp k
theorem altSpec_ok {P : Program} {f : FuncId} {T1 T2 : Tri} (h1 : SpecOK P f T1.spec) (h2 : SpecOK P f T2.spec) : SpecOK P f (altSpec T1 T2) := by
  intro args m kp k h
  rcases h with h | h
  · exact h1 args m kp k h
  · exact h2 args m kp k h

noncomputable def gawakeT : Tri := { γ := Unit, n0 := 0, args := fun _ => [], blks := fun _ => [], pre := fun _ => True, δ := Unit, post := fun _ _ => True, n1 := 0, res := fun _ _ => .bool true, blks' := fun _ _ => [], scal := true }
noncomputable def gawakeE : Envr := Env Tryz.prog cod [(17, gnewT.spec), (18, landT.spec), (60, gheadT.spec)] []
end Go.Proofs.YtildflamnehilaaGreat.Ses

namespace Go.Proofs.YtildflamnehilaaGreat.Ses
open Go Go.Proofs Go.Proofs.YtildflamnehilaaGreat.Sx Go.Proofs.YtildflamnehilaaGreat.Trx
set_option maxRecDepth 100000

theorem rcheck_vc (x : rcheckT.γ) : evCall rcheckE (ev rcheckE 1000) 66 (rcheckT.args x) ⟨rcheckT.blks x, rcheckT.n0, []⟩ (fun _ _ => False) (rcheckT.ends x) = (
((((List.length x) * (32 : Nat)) ≤ room47) →
 (br ((↑(List.length x) : Int) == (0 : Int))
 ((∃ x1 : Nat,
 (((0 : Int) = (↑x1 : Int)) ∧
 ((Bool.true = (badC x x1)) ∧
 (Nat.le x1 (List.length x))))) ∧
 (∀ x2 : Nat,
 ((Nat.le x2 (List.length x)) →
 ((((List.length x) * (32 : Nat)) ≤ room47) →
 (br (decide ((↑x2 : Int) < (↑(List.length x) : Int)))
 (br (Bool.not (badC x x2))
 (br (decide (((0 : Int) ≤ (↑x2 : Int)) ∧
 ((↑x2 : Int) < (↑(List.length x) : Int))))
 (∃ x3 : (List UInt8),
 (((ChangeD.path (List.getD x (Int.toNat (↑x2 : Int)) (ChangeD.mk ([] : List UInt8) Bool.false (0 : Int)))) = x3) ∧
 (((shortB x3) = Bool.true) ∧
 (∀ x4 : Unit,
 (True →
 (br (Bool.not (Option.isSome (normB x3)))
 ((∃ x5 : Nat,
 (((0 : Int) = (↑x5 : Int)) ∧
 ((Bool.true = (Bool.or (Bool.not (goodC (List.getD x (Int.toNat (↑x2 : Int)) (ChangeD.mk ([] : List UInt8) Bool.false (0 : Int))))) (hasC (ChangeD.path (List.getD x (Int.toNat (↑x2 : Int)) (ChangeD.mk ([] : List UInt8) Bool.false (0 : Int)))) (List.take x5 x)))) ∧
 (Nat.le x5 (Int.toNat (↑x2 : Int)))))) ∧
 (∀ x6 : Nat,
 ((Nat.le x6 (Int.toNat (↑x2 : Int))) →
 (br (decide ((↑x6 : Int) < (↑x2 : Int)))
 (br (Bool.or (Bool.not (goodC (List.getD x (Int.toNat (↑x2 : Int)) (ChangeD.mk ([] : List UInt8) Bool.false (0 : Int))))) (hasC (ChangeD.path (List.getD x (Int.toNat (↑x2 : Int)) (ChangeD.mk ([] : List UInt8) Bool.false (0 : Int)))) (List.take x6 x)))
 (∃ x7 : Nat,
 (((IntKind.wrap IntKind.i64 ((↑x6 : Int) + (1 : Int))) = (↑x7 : Int)) ∧
 ((Bool.true = (Bool.or (Bool.not (goodC (List.getD x (Int.toNat (↑x2 : Int)) (ChangeD.mk ([] : List UInt8) Bool.false (0 : Int))))) (hasC (ChangeD.path (List.getD x (Int.toNat (↑x2 : Int)) (ChangeD.mk ([] : List UInt8) Bool.false (0 : Int)))) (List.take x7 x)))) ∧
 ((Nat.le x7 (Int.toNat (↑x2 : Int))) ∧
 ((Nat.sub (Int.toNat (↑x2 : Int)) x7) < (Nat.sub (Int.toNat (↑x2 : Int)) x6))))))
 (br (decide (((0 : Int) ≤ (↑x6 : Int)) ∧
 ((↑x6 : Int) < (↑(List.length x) : Int))))
 (br (decide (((0 : Int) ≤ (↑x2 : Int)) ∧
 ((↑x2 : Int) < (↑(List.length x) : Int))))
 (∃ x8 : Nat,
 (((IntKind.wrap IntKind.i64 ((↑x6 : Int) + (1 : Int))) = (↑x8 : Int)) ∧
 ((((ChangeD.path (List.getD x (Int.toNat (↑x6 : Int)) (ChangeD.mk ([] : List UInt8) Bool.false (0 : Int)))) == (ChangeD.path (List.getD x (Int.toNat (↑x2 : Int)) (ChangeD.mk ([] : List UInt8) Bool.false (0 : Int))))) = (Bool.or (Bool.not (goodC (List.getD x (Int.toNat (↑x2 : Int)) (ChangeD.mk ([] : List UInt8) Bool.false (0 : Int))))) (hasC (ChangeD.path (List.getD x (Int.toNat (↑x2 : Int)) (ChangeD.mk ([] : List UInt8) Bool.false (0 : Int)))) (List.take x8 x)))) ∧
 ((Nat.le x8 (Int.toNat (↑x2 : Int))) ∧
 ((Nat.sub (Int.toNat (↑x2 : Int)) x8) < (Nat.sub (Int.toNat (↑x2 : Int)) x6))))))
 (Bad "check" "ref.go:88"))
 (Bad "check" "ref.go:88")))
 (∃ x9 : Nat,
 (((IntKind.wrap IntKind.i64 ((↑x2 : Int) + (1 : Int))) = (↑x9 : Int)) ∧
 (((Bool.or (Bool.not (goodC (List.getD x (Int.toNat (↑x2 : Int)) (ChangeD.mk ([] : List UInt8) Bool.false (0 : Int))))) (hasC (ChangeD.path (List.getD x (Int.toNat (↑x2 : Int)) (ChangeD.mk ([] : List UInt8) Bool.false (0 : Int)))) (List.take x6 x))) = (badC x x9)) ∧
 ((Nat.le x9 (List.length x)) ∧
 ((Nat.sub (List.length x) x9) < (Nat.sub (List.length x) x2))))))))))
 (br (decide (((0 : Int) ≤ (↑x2 : Int)) ∧
 ((↑x2 : Int) < (↑(List.length x) : Int))))
 (br (Bool.not ((Option.getD (normB x3) ([] : List UInt8)) == (ChangeD.path (List.getD x (Int.toNat (↑x2 : Int)) (ChangeD.mk ([] : List UInt8) Bool.false (0 : Int))))))
 ((∃ x10 : Nat,
 (((0 : Int) = (↑x10 : Int)) ∧
 ((Bool.true = (Bool.or (Bool.not (goodC (List.getD x (Int.toNat (↑x2 : Int)) (ChangeD.mk ([] : List UInt8) Bool.false (0 : Int))))) (hasC (ChangeD.path (List.getD x (Int.toNat (↑x2 : Int)) (ChangeD.mk ([] : List UInt8) Bool.false (0 : Int)))) (List.take x10 x)))) ∧
 (Nat.le x10 (Int.toNat (↑x2 : Int)))))) ∧
 (∀ x11 : Nat,
 ((Nat.le x11 (Int.toNat (↑x2 : Int))) →
 (br (decide ((↑x11 : Int) < (↑x2 : Int)))
 (br (Bool.or (Bool.not (goodC (List.getD x (Int.toNat (↑x2 : Int)) (ChangeD.mk ([] : List UInt8) Bool.false (0 : Int))))) (hasC (ChangeD.path (List.getD x (Int.toNat (↑x2 : Int)) (ChangeD.mk ([] : List UInt8) Bool.false (0 : Int)))) (List.take x11 x)))
 (∃ x12 : Nat,
 (((IntKind.wrap IntKind.i64 ((↑x11 : Int) + (1 : Int))) = (↑x12 : Int)) ∧
 ((Bool.true = (Bool.or (Bool.not (goodC (List.getD x (Int.toNat (↑x2 : Int)) (ChangeD.mk ([] : List UInt8) Bool.false (0 : Int))))) (hasC (ChangeD.path (List.getD x (Int.toNat (↑x2 : Int)) (ChangeD.mk ([] : List UInt8) Bool.false (0 : Int)))) (List.take x12 x)))) ∧
 ((Nat.le x12 (Int.toNat (↑x2 : Int))) ∧
 ((Nat.sub (Int.toNat (↑x2 : Int)) x12) < (Nat.sub (Int.toNat (↑x2 : Int)) x11))))))
 (br (decide (((0 : Int) ≤ (↑x11 : Int)) ∧
 ((↑x11 : Int) < (↑(List.length x) : Int))))
 (br (decide (((0 : Int) ≤ (↑x2 : Int)) ∧
 ((↑x2 : Int) < (↑(List.length x) : Int))))
 (∃ x13 : Nat,
 (((IntKind.wrap IntKind.i64 ((↑x11 : Int) + (1 : Int))) = (↑x13 : Int)) ∧
 ((((ChangeD.path (List.getD x (Int.toNat (↑x11 : Int)) (ChangeD.mk ([] : List UInt8) Bool.false (0 : Int)))) == (ChangeD.path (List.getD x (Int.toNat (↑x2 : Int)) (ChangeD.mk ([] : List UInt8) Bool.false (0 : Int))))) = (Bool.or (Bool.not (goodC (List.getD x (Int.toNat (↑x2 : Int)) (ChangeD.mk ([] : List UInt8) Bool.false (0 : Int))))) (hasC (ChangeD.path (List.getD x (Int.toNat (↑x2 : Int)) (ChangeD.mk ([] : List UInt8) Bool.false (0 : Int)))) (List.take x13 x)))) ∧
 ((Nat.le x13 (Int.toNat (↑x2 : Int))) ∧
 ((Nat.sub (Int.toNat (↑x2 : Int)) x13) < (Nat.sub (Int.toNat (↑x2 : Int)) x11))))))
 (Bad "check" "ref.go:88"))
 (Bad "check" "ref.go:88")))
 (∃ x14 : Nat,
 (((IntKind.wrap IntKind.i64 ((↑x2 : Int) + (1 : Int))) = (↑x14 : Int)) ∧
 (((Bool.or (Bool.not (goodC (List.getD x (Int.toNat (↑x2 : Int)) (ChangeD.mk ([] : List UInt8) Bool.false (0 : Int))))) (hasC (ChangeD.path (List.getD x (Int.toNat (↑x2 : Int)) (ChangeD.mk ([] : List UInt8) Bool.false (0 : Int)))) (List.take x11 x))) = (badC x x14)) ∧
 ((Nat.le x14 (List.length x)) ∧
 ((Nat.sub (List.length x) x14) < (Nat.sub (List.length x) x2))))))))))
 (br (decide (((0 : Int) ≤ (↑x2 : Int)) ∧
 ((↑x2 : Int) < (↑(List.length x) : Int))))
 (br (ChangeD.gone (List.getD x (Int.toNat (↑x2 : Int)) (ChangeD.mk ([] : List UInt8) Bool.false (0 : Int))))
 (br (decide (((0 : Int) ≤ (↑x2 : Int)) ∧
 ((↑x2 : Int) < (↑(List.length x) : Int))))
 ((∃ x15 : Nat,
 (((0 : Int) = (↑x15 : Int)) ∧
 ((((ChangeD.digest (List.getD x (Int.toNat (↑x2 : Int)) (ChangeD.mk ([] : List UInt8) Bool.false (0 : Int)))) != (0 : Int)) = (Bool.or (Bool.not (goodC (List.getD x (Int.toNat (↑x2 : Int)) (ChangeD.mk ([] : List UInt8) Bool.false (0 : Int))))) (hasC (ChangeD.path (List.getD x (Int.toNat (↑x2 : Int)) (ChangeD.mk ([] : List UInt8) Bool.false (0 : Int)))) (List.take x15 x)))) ∧
 (Nat.le x15 (Int.toNat (↑x2 : Int)))))) ∧
 (∀ x16 : Nat,
 ((Nat.le x16 (Int.toNat (↑x2 : Int))) →
 (br (decide ((↑x16 : Int) < (↑x2 : Int)))
 (br (Bool.or (Bool.not (goodC (List.getD x (Int.toNat (↑x2 : Int)) (ChangeD.mk ([] : List UInt8) Bool.false (0 : Int))))) (hasC (ChangeD.path (List.getD x (Int.toNat (↑x2 : Int)) (ChangeD.mk ([] : List UInt8) Bool.false (0 : Int)))) (List.take x16 x)))
 (∃ x17 : Nat,
 (((IntKind.wrap IntKind.i64 ((↑x16 : Int) + (1 : Int))) = (↑x17 : Int)) ∧
 ((Bool.true = (Bool.or (Bool.not (goodC (List.getD x (Int.toNat (↑x2 : Int)) (ChangeD.mk ([] : List UInt8) Bool.false (0 : Int))))) (hasC (ChangeD.path (List.getD x (Int.toNat (↑x2 : Int)) (ChangeD.mk ([] : List UInt8) Bool.false (0 : Int)))) (List.take x17 x)))) ∧
 ((Nat.le x17 (Int.toNat (↑x2 : Int))) ∧
 ((Nat.sub (Int.toNat (↑x2 : Int)) x17) < (Nat.sub (Int.toNat (↑x2 : Int)) x16))))))
 (br (decide (((0 : Int) ≤ (↑x16 : Int)) ∧
 ((↑x16 : Int) < (↑(List.length x) : Int))))
 (br (decide (((0 : Int) ≤ (↑x2 : Int)) ∧
 ((↑x2 : Int) < (↑(List.length x) : Int))))
 (∃ x18 : Nat,
 (((IntKind.wrap IntKind.i64 ((↑x16 : Int) + (1 : Int))) = (↑x18 : Int)) ∧
 ((((ChangeD.path (List.getD x (Int.toNat (↑x16 : Int)) (ChangeD.mk ([] : List UInt8) Bool.false (0 : Int)))) == (ChangeD.path (List.getD x (Int.toNat (↑x2 : Int)) (ChangeD.mk ([] : List UInt8) Bool.false (0 : Int))))) = (Bool.or (Bool.not (goodC (List.getD x (Int.toNat (↑x2 : Int)) (ChangeD.mk ([] : List UInt8) Bool.false (0 : Int))))) (hasC (ChangeD.path (List.getD x (Int.toNat (↑x2 : Int)) (ChangeD.mk ([] : List UInt8) Bool.false (0 : Int)))) (List.take x18 x)))) ∧
 ((Nat.le x18 (Int.toNat (↑x2 : Int))) ∧
 ((Nat.sub (Int.toNat (↑x2 : Int)) x18) < (Nat.sub (Int.toNat (↑x2 : Int)) x16))))))
 (Bad "check" "ref.go:88"))
 (Bad "check" "ref.go:88")))
 (∃ x19 : Nat,
 (((IntKind.wrap IntKind.i64 ((↑x2 : Int) + (1 : Int))) = (↑x19 : Int)) ∧
 (((Bool.or (Bool.not (goodC (List.getD x (Int.toNat (↑x2 : Int)) (ChangeD.mk ([] : List UInt8) Bool.false (0 : Int))))) (hasC (ChangeD.path (List.getD x (Int.toNat (↑x2 : Int)) (ChangeD.mk ([] : List UInt8) Bool.false (0 : Int)))) (List.take x16 x))) = (badC x x19)) ∧
 ((Nat.le x19 (List.length x)) ∧
 ((Nat.sub (List.length x) x19) < (Nat.sub (List.length x) x2))))))))))
 (Bad "check" "ref.go:86"))
 ((∃ x20 : Nat,
 (((0 : Int) = (↑x20 : Int)) ∧
 ((Bool.false = (Bool.or (Bool.not (goodC (List.getD x (Int.toNat (↑x2 : Int)) (ChangeD.mk ([] : List UInt8) Bool.false (0 : Int))))) (hasC (ChangeD.path (List.getD x (Int.toNat (↑x2 : Int)) (ChangeD.mk ([] : List UInt8) Bool.false (0 : Int)))) (List.take x20 x)))) ∧
 (Nat.le x20 (Int.toNat (↑x2 : Int)))))) ∧
 (∀ x21 : Nat,
 ((Nat.le x21 (Int.toNat (↑x2 : Int))) →
 (br (decide ((↑x21 : Int) < (↑x2 : Int)))
 (br (Bool.or (Bool.not (goodC (List.getD x (Int.toNat (↑x2 : Int)) (ChangeD.mk ([] : List UInt8) Bool.false (0 : Int))))) (hasC (ChangeD.path (List.getD x (Int.toNat (↑x2 : Int)) (ChangeD.mk ([] : List UInt8) Bool.false (0 : Int)))) (List.take x21 x)))
 (∃ x22 : Nat,
 (((IntKind.wrap IntKind.i64 ((↑x21 : Int) + (1 : Int))) = (↑x22 : Int)) ∧
 ((Bool.true = (Bool.or (Bool.not (goodC (List.getD x (Int.toNat (↑x2 : Int)) (ChangeD.mk ([] : List UInt8) Bool.false (0 : Int))))) (hasC (ChangeD.path (List.getD x (Int.toNat (↑x2 : Int)) (ChangeD.mk ([] : List UInt8) Bool.false (0 : Int)))) (List.take x22 x)))) ∧
 ((Nat.le x22 (Int.toNat (↑x2 : Int))) ∧
 ((Nat.sub (Int.toNat (↑x2 : Int)) x22) < (Nat.sub (Int.toNat (↑x2 : Int)) x21))))))
 (br (decide (((0 : Int) ≤ (↑x21 : Int)) ∧
 ((↑x21 : Int) < (↑(List.length x) : Int))))
 (br (decide (((0 : Int) ≤ (↑x2 : Int)) ∧
 ((↑x2 : Int) < (↑(List.length x) : Int))))
 (∃ x23 : Nat,
 (((IntKind.wrap IntKind.i64 ((↑x21 : Int) + (1 : Int))) = (↑x23 : Int)) ∧
 ((((ChangeD.path (List.getD x (Int.toNat (↑x21 : Int)) (ChangeD.mk ([] : List UInt8) Bool.false (0 : Int)))) == (ChangeD.path (List.getD x (Int.toNat (↑x2 : Int)) (ChangeD.mk ([] : List UInt8) Bool.false (0 : Int))))) = (Bool.or (Bool.not (goodC (List.getD x (Int.toNat (↑x2 : Int)) (ChangeD.mk ([] : List UInt8) Bool.false (0 : Int))))) (hasC (ChangeD.path (List.getD x (Int.toNat (↑x2 : Int)) (ChangeD.mk ([] : List UInt8) Bool.false (0 : Int)))) (List.take x23 x)))) ∧
 ((Nat.le x23 (Int.toNat (↑x2 : Int))) ∧
 ((Nat.sub (Int.toNat (↑x2 : Int)) x23) < (Nat.sub (Int.toNat (↑x2 : Int)) x21))))))
 (Bad "check" "ref.go:88"))
 (Bad "check" "ref.go:88")))
 (∃ x24 : Nat,
 (((IntKind.wrap IntKind.i64 ((↑x2 : Int) + (1 : Int))) = (↑x24 : Int)) ∧
 (((Bool.or (Bool.not (goodC (List.getD x (Int.toNat (↑x2 : Int)) (ChangeD.mk ([] : List UInt8) Bool.false (0 : Int))))) (hasC (ChangeD.path (List.getD x (Int.toNat (↑x2 : Int)) (ChangeD.mk ([] : List UInt8) Bool.false (0 : Int)))) (List.take x21 x))) = (badC x x24)) ∧
 ((Nat.le x24 (List.length x)) ∧
 ((Nat.sub (List.length x) x24) < (Nat.sub (List.length x) x2)))))))))))
 (Bad "check" "ref.go:86")))
 (Bad "check" "ref.go:86"))))))))
 (Bad "check" "ref.go:85"))
 (br (badC x x2)
 (∃ x25 : Unit,
 (((1 : Int) = (chkC x)) ∧
 True))
 (∃ x26 : Unit,
 (((0 : Int) = (chkC x)) ∧
 True))))
 (br (badC x x2)
 (∃ x27 : Unit,
 (((1 : Int) = (chkC x)) ∧
 True))
 (∃ x28 : Unit,
 (((0 : Int) = (chkC x)) ∧
 True))))))))
 ((((List.length x) * (32 : Nat)) ≤ room47) →
 ((∃ x29 : Nat,
 (((0 : Int) = (↑x29 : Int)) ∧
 (((decide ((↑(List.length x) : Int) > (16 : Int))) = (badC x x29)) ∧
 (Nat.le x29 (List.length x))))) ∧
 (∀ x30 : Nat,
 ((Nat.le x30 (List.length x)) →
 ((((List.length x) * (32 : Nat)) ≤ room47) →
 (br (decide ((↑x30 : Int) < (↑(List.length x) : Int)))
 (br (Bool.not (badC x x30))
 (br (decide (((0 : Int) ≤ (↑x30 : Int)) ∧
 ((↑x30 : Int) < (↑(List.length x) : Int))))
 (∃ x31 : (List UInt8),
 (((ChangeD.path (List.getD x (Int.toNat (↑x30 : Int)) (ChangeD.mk ([] : List UInt8) Bool.false (0 : Int)))) = x31) ∧
 (((shortB x31) = Bool.true) ∧
 (∀ x32 : Unit,
 (True →
 (br (Bool.not (Option.isSome (normB x31)))
 ((∃ x33 : Nat,
 (((0 : Int) = (↑x33 : Int)) ∧
 ((Bool.true = (Bool.or (Bool.not (goodC (List.getD x (Int.toNat (↑x30 : Int)) (ChangeD.mk ([] : List UInt8) Bool.false (0 : Int))))) (hasC (ChangeD.path (List.getD x (Int.toNat (↑x30 : Int)) (ChangeD.mk ([] : List UInt8) Bool.false (0 : Int)))) (List.take x33 x)))) ∧
 (Nat.le x33 (Int.toNat (↑x30 : Int)))))) ∧
 (∀ x34 : Nat,
 ((Nat.le x34 (Int.toNat (↑x30 : Int))) →
 (br (decide ((↑x34 : Int) < (↑x30 : Int)))
 (br (Bool.or (Bool.not (goodC (List.getD x (Int.toNat (↑x30 : Int)) (ChangeD.mk ([] : List UInt8) Bool.false (0 : Int))))) (hasC (ChangeD.path (List.getD x (Int.toNat (↑x30 : Int)) (ChangeD.mk ([] : List UInt8) Bool.false (0 : Int)))) (List.take x34 x)))
 (∃ x35 : Nat,
 (((IntKind.wrap IntKind.i64 ((↑x34 : Int) + (1 : Int))) = (↑x35 : Int)) ∧
 ((Bool.true = (Bool.or (Bool.not (goodC (List.getD x (Int.toNat (↑x30 : Int)) (ChangeD.mk ([] : List UInt8) Bool.false (0 : Int))))) (hasC (ChangeD.path (List.getD x (Int.toNat (↑x30 : Int)) (ChangeD.mk ([] : List UInt8) Bool.false (0 : Int)))) (List.take x35 x)))) ∧
 ((Nat.le x35 (Int.toNat (↑x30 : Int))) ∧
 ((Nat.sub (Int.toNat (↑x30 : Int)) x35) < (Nat.sub (Int.toNat (↑x30 : Int)) x34))))))
 (br (decide (((0 : Int) ≤ (↑x34 : Int)) ∧
 ((↑x34 : Int) < (↑(List.length x) : Int))))
 (br (decide (((0 : Int) ≤ (↑x30 : Int)) ∧
 ((↑x30 : Int) < (↑(List.length x) : Int))))
 (∃ x36 : Nat,
 (((IntKind.wrap IntKind.i64 ((↑x34 : Int) + (1 : Int))) = (↑x36 : Int)) ∧
 ((((ChangeD.path (List.getD x (Int.toNat (↑x34 : Int)) (ChangeD.mk ([] : List UInt8) Bool.false (0 : Int)))) == (ChangeD.path (List.getD x (Int.toNat (↑x30 : Int)) (ChangeD.mk ([] : List UInt8) Bool.false (0 : Int))))) = (Bool.or (Bool.not (goodC (List.getD x (Int.toNat (↑x30 : Int)) (ChangeD.mk ([] : List UInt8) Bool.false (0 : Int))))) (hasC (ChangeD.path (List.getD x (Int.toNat (↑x30 : Int)) (ChangeD.mk ([] : List UInt8) Bool.false (0 : Int)))) (List.take x36 x)))) ∧
 ((Nat.le x36 (Int.toNat (↑x30 : Int))) ∧
 ((Nat.sub (Int.toNat (↑x30 : Int)) x36) < (Nat.sub (Int.toNat (↑x30 : Int)) x34))))))
 (Bad "check" "ref.go:88"))
 (Bad "check" "ref.go:88")))
 (∃ x37 : Nat,
 (((IntKind.wrap IntKind.i64 ((↑x30 : Int) + (1 : Int))) = (↑x37 : Int)) ∧
 (((Bool.or (Bool.not (goodC (List.getD x (Int.toNat (↑x30 : Int)) (ChangeD.mk ([] : List UInt8) Bool.false (0 : Int))))) (hasC (ChangeD.path (List.getD x (Int.toNat (↑x30 : Int)) (ChangeD.mk ([] : List UInt8) Bool.false (0 : Int)))) (List.take x34 x))) = (badC x x37)) ∧
 ((Nat.le x37 (List.length x)) ∧
 ((Nat.sub (List.length x) x37) < (Nat.sub (List.length x) x30))))))))))
 (br (decide (((0 : Int) ≤ (↑x30 : Int)) ∧
 ((↑x30 : Int) < (↑(List.length x) : Int))))
 (br (Bool.not ((Option.getD (normB x31) ([] : List UInt8)) == (ChangeD.path (List.getD x (Int.toNat (↑x30 : Int)) (ChangeD.mk ([] : List UInt8) Bool.false (0 : Int))))))
 ((∃ x38 : Nat,
 (((0 : Int) = (↑x38 : Int)) ∧
 ((Bool.true = (Bool.or (Bool.not (goodC (List.getD x (Int.toNat (↑x30 : Int)) (ChangeD.mk ([] : List UInt8) Bool.false (0 : Int))))) (hasC (ChangeD.path (List.getD x (Int.toNat (↑x30 : Int)) (ChangeD.mk ([] : List UInt8) Bool.false (0 : Int)))) (List.take x38 x)))) ∧
 (Nat.le x38 (Int.toNat (↑x30 : Int)))))) ∧
 (∀ x39 : Nat,
 ((Nat.le x39 (Int.toNat (↑x30 : Int))) →
 (br (decide ((↑x39 : Int) < (↑x30 : Int)))
 (br (Bool.or (Bool.not (goodC (List.getD x (Int.toNat (↑x30 : Int)) (ChangeD.mk ([] : List UInt8) Bool.false (0 : Int))))) (hasC (ChangeD.path (List.getD x (Int.toNat (↑x30 : Int)) (ChangeD.mk ([] : List UInt8) Bool.false (0 : Int)))) (List.take x39 x)))
 (∃ x40 : Nat,
 (((IntKind.wrap IntKind.i64 ((↑x39 : Int) + (1 : Int))) = (↑x40 : Int)) ∧
 ((Bool.true = (Bool.or (Bool.not (goodC (List.getD x (Int.toNat (↑x30 : Int)) (ChangeD.mk ([] : List UInt8) Bool.false (0 : Int))))) (hasC (ChangeD.path (List.getD x (Int.toNat (↑x30 : Int)) (ChangeD.mk ([] : List UInt8) Bool.false (0 : Int)))) (List.take x40 x)))) ∧
 ((Nat.le x40 (Int.toNat (↑x30 : Int))) ∧
 ((Nat.sub (Int.toNat (↑x30 : Int)) x40) < (Nat.sub (Int.toNat (↑x30 : Int)) x39))))))
 (br (decide (((0 : Int) ≤ (↑x39 : Int)) ∧
 ((↑x39 : Int) < (↑(List.length x) : Int))))
 (br (decide (((0 : Int) ≤ (↑x30 : Int)) ∧
 ((↑x30 : Int) < (↑(List.length x) : Int))))
 (∃ x41 : Nat,
 (((IntKind.wrap IntKind.i64 ((↑x39 : Int) + (1 : Int))) = (↑x41 : Int)) ∧
 ((((ChangeD.path (List.getD x (Int.toNat (↑x39 : Int)) (ChangeD.mk ([] : List UInt8) Bool.false (0 : Int)))) == (ChangeD.path (List.getD x (Int.toNat (↑x30 : Int)) (ChangeD.mk ([] : List UInt8) Bool.false (0 : Int))))) = (Bool.or (Bool.not (goodC (List.getD x (Int.toNat (↑x30 : Int)) (ChangeD.mk ([] : List UInt8) Bool.false (0 : Int))))) (hasC (ChangeD.path (List.getD x (Int.toNat (↑x30 : Int)) (ChangeD.mk ([] : List UInt8) Bool.false (0 : Int)))) (List.take x41 x)))) ∧
 ((Nat.le x41 (Int.toNat (↑x30 : Int))) ∧
 ((Nat.sub (Int.toNat (↑x30 : Int)) x41) < (Nat.sub (Int.toNat (↑x30 : Int)) x39))))))
 (Bad "check" "ref.go:88"))
 (Bad "check" "ref.go:88")))
 (∃ x42 : Nat,
 (((IntKind.wrap IntKind.i64 ((↑x30 : Int) + (1 : Int))) = (↑x42 : Int)) ∧
 (((Bool.or (Bool.not (goodC (List.getD x (Int.toNat (↑x30 : Int)) (ChangeD.mk ([] : List UInt8) Bool.false (0 : Int))))) (hasC (ChangeD.path (List.getD x (Int.toNat (↑x30 : Int)) (ChangeD.mk ([] : List UInt8) Bool.false (0 : Int)))) (List.take x39 x))) = (badC x x42)) ∧
 ((Nat.le x42 (List.length x)) ∧
 ((Nat.sub (List.length x) x42) < (Nat.sub (List.length x) x30))))))))))
 (br (decide (((0 : Int) ≤ (↑x30 : Int)) ∧
 ((↑x30 : Int) < (↑(List.length x) : Int))))
 (br (ChangeD.gone (List.getD x (Int.toNat (↑x30 : Int)) (ChangeD.mk ([] : List UInt8) Bool.false (0 : Int))))
 (br (decide (((0 : Int) ≤ (↑x30 : Int)) ∧
 ((↑x30 : Int) < (↑(List.length x) : Int))))
 ((∃ x43 : Nat,
 (((0 : Int) = (↑x43 : Int)) ∧
 ((((ChangeD.digest (List.getD x (Int.toNat (↑x30 : Int)) (ChangeD.mk ([] : List UInt8) Bool.false (0 : Int)))) != (0 : Int)) = (Bool.or (Bool.not (goodC (List.getD x (Int.toNat (↑x30 : Int)) (ChangeD.mk ([] : List UInt8) Bool.false (0 : Int))))) (hasC (ChangeD.path (List.getD x (Int.toNat (↑x30 : Int)) (ChangeD.mk ([] : List UInt8) Bool.false (0 : Int)))) (List.take x43 x)))) ∧
 (Nat.le x43 (Int.toNat (↑x30 : Int)))))) ∧
 (∀ x44 : Nat,
 ((Nat.le x44 (Int.toNat (↑x30 : Int))) →
 (br (decide ((↑x44 : Int) < (↑x30 : Int)))
 (br (Bool.or (Bool.not (goodC (List.getD x (Int.toNat (↑x30 : Int)) (ChangeD.mk ([] : List UInt8) Bool.false (0 : Int))))) (hasC (ChangeD.path (List.getD x (Int.toNat (↑x30 : Int)) (ChangeD.mk ([] : List UInt8) Bool.false (0 : Int)))) (List.take x44 x)))
 (∃ x45 : Nat,
 (((IntKind.wrap IntKind.i64 ((↑x44 : Int) + (1 : Int))) = (↑x45 : Int)) ∧
 ((Bool.true = (Bool.or (Bool.not (goodC (List.getD x (Int.toNat (↑x30 : Int)) (ChangeD.mk ([] : List UInt8) Bool.false (0 : Int))))) (hasC (ChangeD.path (List.getD x (Int.toNat (↑x30 : Int)) (ChangeD.mk ([] : List UInt8) Bool.false (0 : Int)))) (List.take x45 x)))) ∧
 ((Nat.le x45 (Int.toNat (↑x30 : Int))) ∧
 ((Nat.sub (Int.toNat (↑x30 : Int)) x45) < (Nat.sub (Int.toNat (↑x30 : Int)) x44))))))
 (br (decide (((0 : Int) ≤ (↑x44 : Int)) ∧
 ((↑x44 : Int) < (↑(List.length x) : Int))))
 (br (decide (((0 : Int) ≤ (↑x30 : Int)) ∧
 ((↑x30 : Int) < (↑(List.length x) : Int))))
 (∃ x46 : Nat,
 (((IntKind.wrap IntKind.i64 ((↑x44 : Int) + (1 : Int))) = (↑x46 : Int)) ∧
 ((((ChangeD.path (List.getD x (Int.toNat (↑x44 : Int)) (ChangeD.mk ([] : List UInt8) Bool.false (0 : Int)))) == (ChangeD.path (List.getD x (Int.toNat (↑x30 : Int)) (ChangeD.mk ([] : List UInt8) Bool.false (0 : Int))))) = (Bool.or (Bool.not (goodC (List.getD x (Int.toNat (↑x30 : Int)) (ChangeD.mk ([] : List UInt8) Bool.false (0 : Int))))) (hasC (ChangeD.path (List.getD x (Int.toNat (↑x30 : Int)) (ChangeD.mk ([] : List UInt8) Bool.false (0 : Int)))) (List.take x46 x)))) ∧
 ((Nat.le x46 (Int.toNat (↑x30 : Int))) ∧
 ((Nat.sub (Int.toNat (↑x30 : Int)) x46) < (Nat.sub (Int.toNat (↑x30 : Int)) x44))))))
 (Bad "check" "ref.go:88"))
 (Bad "check" "ref.go:88")))
 (∃ x47 : Nat,
 (((IntKind.wrap IntKind.i64 ((↑x30 : Int) + (1 : Int))) = (↑x47 : Int)) ∧
 (((Bool.or (Bool.not (goodC (List.getD x (Int.toNat (↑x30 : Int)) (ChangeD.mk ([] : List UInt8) Bool.false (0 : Int))))) (hasC (ChangeD.path (List.getD x (Int.toNat (↑x30 : Int)) (ChangeD.mk ([] : List UInt8) Bool.false (0 : Int)))) (List.take x44 x))) = (badC x x47)) ∧
 ((Nat.le x47 (List.length x)) ∧
 ((Nat.sub (List.length x) x47) < (Nat.sub (List.length x) x30))))))))))
 (Bad "check" "ref.go:86"))
 ((∃ x48 : Nat,
 (((0 : Int) = (↑x48 : Int)) ∧
 ((Bool.false = (Bool.or (Bool.not (goodC (List.getD x (Int.toNat (↑x30 : Int)) (ChangeD.mk ([] : List UInt8) Bool.false (0 : Int))))) (hasC (ChangeD.path (List.getD x (Int.toNat (↑x30 : Int)) (ChangeD.mk ([] : List UInt8) Bool.false (0 : Int)))) (List.take x48 x)))) ∧
 (Nat.le x48 (Int.toNat (↑x30 : Int)))))) ∧
 (∀ x49 : Nat,
 ((Nat.le x49 (Int.toNat (↑x30 : Int))) →
 (br (decide ((↑x49 : Int) < (↑x30 : Int)))
 (br (Bool.or (Bool.not (goodC (List.getD x (Int.toNat (↑x30 : Int)) (ChangeD.mk ([] : List UInt8) Bool.false (0 : Int))))) (hasC (ChangeD.path (List.getD x (Int.toNat (↑x30 : Int)) (ChangeD.mk ([] : List UInt8) Bool.false (0 : Int)))) (List.take x49 x)))
 (∃ x50 : Nat,
 (((IntKind.wrap IntKind.i64 ((↑x49 : Int) + (1 : Int))) = (↑x50 : Int)) ∧
 ((Bool.true = (Bool.or (Bool.not (goodC (List.getD x (Int.toNat (↑x30 : Int)) (ChangeD.mk ([] : List UInt8) Bool.false (0 : Int))))) (hasC (ChangeD.path (List.getD x (Int.toNat (↑x30 : Int)) (ChangeD.mk ([] : List UInt8) Bool.false (0 : Int)))) (List.take x50 x)))) ∧
 ((Nat.le x50 (Int.toNat (↑x30 : Int))) ∧
 ((Nat.sub (Int.toNat (↑x30 : Int)) x50) < (Nat.sub (Int.toNat (↑x30 : Int)) x49))))))
 (br (decide (((0 : Int) ≤ (↑x49 : Int)) ∧
 ((↑x49 : Int) < (↑(List.length x) : Int))))
 (br (decide (((0 : Int) ≤ (↑x30 : Int)) ∧
 ((↑x30 : Int) < (↑(List.length x) : Int))))
 (∃ x51 : Nat,
 (((IntKind.wrap IntKind.i64 ((↑x49 : Int) + (1 : Int))) = (↑x51 : Int)) ∧
 ((((ChangeD.path (List.getD x (Int.toNat (↑x49 : Int)) (ChangeD.mk ([] : List UInt8) Bool.false (0 : Int)))) == (ChangeD.path (List.getD x (Int.toNat (↑x30 : Int)) (ChangeD.mk ([] : List UInt8) Bool.false (0 : Int))))) = (Bool.or (Bool.not (goodC (List.getD x (Int.toNat (↑x30 : Int)) (ChangeD.mk ([] : List UInt8) Bool.false (0 : Int))))) (hasC (ChangeD.path (List.getD x (Int.toNat (↑x30 : Int)) (ChangeD.mk ([] : List UInt8) Bool.false (0 : Int)))) (List.take x51 x)))) ∧
 ((Nat.le x51 (Int.toNat (↑x30 : Int))) ∧
 ((Nat.sub (Int.toNat (↑x30 : Int)) x51) < (Nat.sub (Int.toNat (↑x30 : Int)) x49))))))
 (Bad "check" "ref.go:88"))
 (Bad "check" "ref.go:88")))
 (∃ x52 : Nat,
 (((IntKind.wrap IntKind.i64 ((↑x30 : Int) + (1 : Int))) = (↑x52 : Int)) ∧
 (((Bool.or (Bool.not (goodC (List.getD x (Int.toNat (↑x30 : Int)) (ChangeD.mk ([] : List UInt8) Bool.false (0 : Int))))) (hasC (ChangeD.path (List.getD x (Int.toNat (↑x30 : Int)) (ChangeD.mk ([] : List UInt8) Bool.false (0 : Int)))) (List.take x49 x))) = (badC x x52)) ∧
 ((Nat.le x52 (List.length x)) ∧
 ((Nat.sub (List.length x) x52) < (Nat.sub (List.length x) x30)))))))))))
 (Bad "check" "ref.go:86")))
 (Bad "check" "ref.go:86"))))))))
 (Bad "check" "ref.go:85"))
 (br (badC x x30)
 (∃ x53 : Unit,
 (((1 : Int) = (chkC x)) ∧
 True))
 (∃ x54 : Unit,
 (((0 : Int) = (chkC x)) ∧
 True))))
 (br (badC x x30)
 (∃ x55 : Unit,
 (((1 : Int) = (chkC x)) ∧
 True))
 (∃ x56 : Unit,
 (((0 : Int) = (chkC x)) ∧
 True)))))))))))) := by kernel_rfl

theorem rsort_vc (x : rsortT.γ) : evCall rsortE (ev rsortE 1000) 68 (rsortT.args x) ⟨rsortT.blks x, rsortT.n0, []⟩ (fun _ _ => False) (rsortT.ends x) = (
((∃ x1 : Nat,
 (((0 : Int) = (↑x1 : Int)) ∧
 (((0 : Nat) = (List.length (insS (List.take x1 x)))) ∧
 ((([] : List ChangeD) = (insS (List.take x1 x))) ∧
 (Nat.le x1 (List.length x)))))) ∧
 (∀ x2 : Nat,
 ((Nat.le x2 (List.length x)) →
 ((((List.length x) * (32 : Nat)) ≤ room47) →
 (br (decide ((↑x2 : Int) < (↑(List.length x) : Int)))
 ((((List.length (insS (List.take x2 x))) * (32 : Nat)) ≤ room47) →
 ((∃ x3 : Nat,
 (((↑(List.length (insS (List.take x2 x))) : Int) = (↑x3 : Int)) ∧
 ((x3 ≤ (List.length (insS (List.take x2 x)))) ∧
 (∀ x4 : Nat,
 ((x3 ≤ x4) →
 ((x4 < (List.length (insS (List.take x2 x)))) →
 ((cmpC (List.getD x (Int.toNat (↑x2 : Int)) (ChangeD.mk ([] : List UInt8) Bool.false (0 : Int))) (List.getD (insS (List.take x2 x)) x4 (ChangeD.mk ([] : List UInt8) Bool.false (0 : Int)))) < (0 : Int)))))))) ∧
 (∀ x5 : Nat,
 (((x5 ≤ (List.length (insS (List.take x2 x)))) ∧
 (∀ x6 : Nat,
 ((x5 ≤ x6) →
 ((x6 < (List.length (insS (List.take x2 x)))) →
 ((cmpC (List.getD x (Int.toNat (↑x2 : Int)) (ChangeD.mk ([] : List UInt8) Bool.false (0 : Int))) (List.getD (insS (List.take x2 x)) x6 (ChangeD.mk ([] : List UInt8) Bool.false (0 : Int)))) < (0 : Int)))))) →
 (br (decide ((↑x5 : Int) > (0 : Int)))
 (br (decide (((0 : Int) ≤ (IntKind.wrap IntKind.i64 ((↑x5 : Int) - (1 : Int)))) ∧
 ((IntKind.wrap IntKind.i64 ((↑x5 : Int) - (1 : Int))) < (↑(List.length (insS (List.take x2 x))) : Int))))
 (br (decide (((0 : Nat) + (Int.toNat (IntKind.wrap IntKind.i64 ((↑x5 : Int) - (1 : Int))))) < (List.length (insS (List.take x2 x)))))
 (br (decide (((0 : Int) ≤ (↑x2 : Int)) ∧
 ((↑x2 : Int) < (↑(List.length x) : Int))))
 (∃ x7 : TwoA,
 (((ChangeD.path (List.getD (insS (List.take x2 x)) ((0 : Nat) + (Int.toNat (IntKind.wrap IntKind.i64 ((↑x5 : Int) - (1 : Int))))) (ChangeD.mk ([] : List UInt8) Bool.false (0 : Int)))) = (TwoA.a x7)) ∧
 (((ChangeD.path (List.getD x (Int.toNat (↑x2 : Int)) (ChangeD.mk ([] : List UInt8) Bool.false (0 : Int)))) = (TwoA.b x7)) ∧
 ((((shortB (TwoA.a x7)) = Bool.true) ∧
 ((shortB (TwoA.b x7)) = Bool.true)) ∧
 (∀ x8 : Unit,
 (True →
 (br (decide ((cmpL (splitB (TwoA.a x7)) (splitB (TwoA.b x7))) > (0 : Int)))
 (∃ x9 : Nat,
 (((IntKind.wrap IntKind.i64 ((↑x5 : Int) - (1 : Int))) = (↑x9 : Int)) ∧
 (((x9 ≤ (List.length (insS (List.take x2 x)))) ∧
 (∀ x10 : Nat,
 ((x9 ≤ x10) →
 ((x10 < (List.length (insS (List.take x2 x)))) →
 ((cmpC (List.getD x (Int.toNat (↑x2 : Int)) (ChangeD.mk ([] : List UInt8) Bool.false (0 : Int))) (List.getD (insS (List.take x2 x)) x10 (ChangeD.mk ([] : List UInt8) Bool.false (0 : Int)))) < (0 : Int)))))) ∧
 (x9 < x5))))
 (br (bndB (List.length (insS (List.take x2 x))) (none : Option Int) (Option.some (↑x5 : Int)) (none : Option Int))
 (((Nat.le ((0 : Nat) * (32 : Nat)) room47) ∧
 (Nat.le ((cutN (List.length (insS (List.take x2 x))) (none : Option Int) (Option.some (↑x5 : Int))) * (32 : Nat)) room47)) →
 (br (Bool.and (Bool.and (decide (((addN (0 : Nat) (none : Option Int)) + (cutN (List.length (insS (List.take x2 x))) (none : Option Int) (Option.some (↑x5 : Int)))) ≤ (List.length (insS (List.take x2 x))))) (decide (((0 : Nat) + (0 : Nat)) ≤ (List.length ([] : List ChangeD))))) (decide ((((0 : Nat) + (List.length (List.take (cutN (List.length (insS (List.take x2 x))) (none : Option Int) (Option.some (↑x5 : Int))) (List.drop (addN (0 : Nat) (none : Option Int)) (insS (List.take x2 x)))))) * (32 : Nat)) ≤ room47)))
 (br (decide (((0 : Int) ≤ (↑x2 : Int)) ∧
 ((↑x2 : Int) < (↑(List.length x) : Int))))
 (((Nat.le (((0 : Nat) + (List.length (List.take (cutN (List.length (insS (List.take x2 x))) (none : Option Int) (Option.some (↑x5 : Int))) (List.drop (addN (0 : Nat) (none : Option Int)) (insS (List.take x2 x)))))) * (32 : Nat)) room47) ∧
 (Nat.le ((1 : Nat) * (32 : Nat)) room47)) →
 (br (Bool.and (Bool.and (decide (((0 : Nat) + (1 : Nat)) ≤ (List.length (List.cons (ChangeD.mk (ChangeD.path (List.getD x (Int.toNat (↑x2 : Int)) (ChangeD.mk ([] : List UInt8) Bool.false (0 : Int)))) (ChangeD.gone (List.getD x (Int.toNat (↑x2 : Int)) (ChangeD.mk ([] : List UInt8) Bool.false (0 : Int)))) (ChangeD.digest (List.getD x (Int.toNat (↑x2 : Int)) (ChangeD.mk ([] : List UInt8) Bool.false (0 : Int))))) ([] : List ChangeD))))) (decide (((0 : Nat) + ((0 : Nat) + (List.length (List.take (cutN (List.length (insS (List.take x2 x))) (none : Option Int) (Option.some (↑x5 : Int))) (List.drop (addN (0 : Nat) (none : Option Int)) (insS (List.take x2 x))))))) ≤ (List.length ((List.take (0 : Nat) (List.drop (0 : Nat) ([] : List ChangeD))) ++ (List.take (cutN (List.length (insS (List.take x2 x))) (none : Option Int) (Option.some (↑x5 : Int))) (List.drop (addN (0 : Nat) (none : Option Int)) (insS (List.take x2 x))))))))) (decide (((((0 : Nat) + (List.length (List.take (cutN (List.length (insS (List.take x2 x))) (none : Option Int) (Option.some (↑x5 : Int))) (List.drop (addN (0 : Nat) (none : Option Int)) (insS (List.take x2 x)))))) + (List.length (List.take (1 : Nat) (List.drop (0 : Nat) (List.cons (ChangeD.mk (ChangeD.path (List.getD x (Int.toNat (↑x2 : Int)) (ChangeD.mk ([] : List UInt8) Bool.false (0 : Int)))) (ChangeD.gone (List.getD x (Int.toNat (↑x2 : Int)) (ChangeD.mk ([] : List UInt8) Bool.false (0 : Int)))) (ChangeD.digest (List.getD x (Int.toNat (↑x2 : Int)) (ChangeD.mk ([] : List UInt8) Bool.false (0 : Int))))) ([] : List ChangeD)))))) * (32 : Nat)) ≤ room47)))
 (br (bndB (List.length (insS (List.take x2 x))) (Option.some (↑x5 : Int)) (none : Option Int) (none : Option Int))
 (((Nat.le ((((0 : Nat) + (List.length (List.take (cutN (List.length (insS (List.take x2 x))) (none : Option Int) (Option.some (↑x5 : Int))) (List.drop (addN (0 : Nat) (none : Option Int)) (insS (List.take x2 x)))))) + (List.length (List.take (1 : Nat) (List.drop (0 : Nat) (List.cons (ChangeD.mk (ChangeD.path (List.getD x (Int.toNat (↑x2 : Int)) (ChangeD.mk ([] : List UInt8) Bool.false (0 : Int)))) (ChangeD.gone (List.getD x (Int.toNat (↑x2 : Int)) (ChangeD.mk ([] : List UInt8) Bool.false (0 : Int)))) (ChangeD.digest (List.getD x (Int.toNat (↑x2 : Int)) (ChangeD.mk ([] : List UInt8) Bool.false (0 : Int))))) ([] : List ChangeD)))))) * (32 : Nat)) room47) ∧
 (Nat.le ((cutN (List.length (insS (List.take x2 x))) (Option.some (↑x5 : Int)) (none : Option Int)) * (32 : Nat)) room47)) →
 (br (Bool.and (Bool.and (decide (((addN (0 : Nat) (Option.some (↑x5 : Int))) + (cutN (List.length (insS (List.take x2 x))) (Option.some (↑x5 : Int)) (none : Option Int))) ≤ (List.length (insS (List.take x2 x))))) (decide (((0 : Nat) + (((0 : Nat) + (List.length (List.take (cutN (List.length (insS (List.take x2 x))) (none : Option Int) (Option.some (↑x5 : Int))) (List.drop (addN (0 : Nat) (none : Option Int)) (insS (List.take x2 x)))))) + (List.length (List.take (1 : Nat) (List.drop (0 : Nat) (List.cons (ChangeD.mk (ChangeD.path (List.getD x (Int.toNat (↑x2 : Int)) (ChangeD.mk ([] : List UInt8) Bool.false (0 : Int)))) (ChangeD.gone (List.getD x (Int.toNat (↑x2 : Int)) (ChangeD.mk ([] : List UInt8) Bool.false (0 : Int)))) (ChangeD.digest (List.getD x (Int.toNat (↑x2 : Int)) (ChangeD.mk ([] : List UInt8) Bool.false (0 : Int))))) ([] : List ChangeD))))))) ≤ (List.length ((List.take ((0 : Nat) + (List.length (List.take (cutN (List.length (insS (List.take x2 x))) (none : Option Int) (Option.some (↑x5 : Int))) (List.drop (addN (0 : Nat) (none : Option Int)) (insS (List.take x2 x)))))) (List.drop (0 : Nat) ((List.take (0 : Nat) (List.drop (0 : Nat) ([] : List ChangeD))) ++ (List.take (cutN (List.length (insS (List.take x2 x))) (none : Option Int) (Option.some (↑x5 : Int))) (List.drop (addN (0 : Nat) (none : Option Int)) (insS (List.take x2 x))))))) ++ (List.take (1 : Nat) (List.drop (0 : Nat) (List.cons (ChangeD.mk (ChangeD.path (List.getD x (Int.toNat (↑x2 : Int)) (ChangeD.mk ([] : List UInt8) Bool.false (0 : Int)))) (ChangeD.gone (List.getD x (Int.toNat (↑x2 : Int)) (ChangeD.mk ([] : List UInt8) Bool.false (0 : Int)))) (ChangeD.digest (List.getD x (Int.toNat (↑x2 : Int)) (ChangeD.mk ([] : List UInt8) Bool.false (0 : Int))))) ([] : List ChangeD))))))))) (decide ((((((0 : Nat) + (List.length (List.take (cutN (List.length (insS (List.take x2 x))) (none : Option Int) (Option.some (↑x5 : Int))) (List.drop (addN (0 : Nat) (none : Option Int)) (insS (List.take x2 x)))))) + (List.length (List.take (1 : Nat) (List.drop (0 : Nat) (List.cons (ChangeD.mk (ChangeD.path (List.getD x (Int.toNat (↑x2 : Int)) (ChangeD.mk ([] : List UInt8) Bool.false (0 : Int)))) (ChangeD.gone (List.getD x (Int.toNat (↑x2 : Int)) (ChangeD.mk ([] : List UInt8) Bool.false (0 : Int)))) (ChangeD.digest (List.getD x (Int.toNat (↑x2 : Int)) (ChangeD.mk ([] : List UInt8) Bool.false (0 : Int))))) ([] : List ChangeD)))))) + (List.length (List.take (cutN (List.length (insS (List.take x2 x))) (Option.some (↑x5 : Int)) (none : Option Int)) (List.drop (addN (0 : Nat) (Option.some (↑x5 : Int))) (insS (List.take x2 x)))))) * (32 : Nat)) ≤ room47)))
 (∃ x11 : Nat,
 (((IntKind.wrap IntKind.i64 ((↑x2 : Int) + (1 : Int))) = (↑x11 : Int)) ∧
 (((0 : Nat) = (0 : Nat)) ∧
 ((((((0 : Nat) + (List.length (List.take (cutN (List.length (insS (List.take x2 x))) (none : Option Int) (Option.some (↑x5 : Int))) (List.drop (addN (0 : Nat) (none : Option Int)) (insS (List.take x2 x)))))) + (List.length (List.take (1 : Nat) (List.drop (0 : Nat) (List.cons (ChangeD.mk (ChangeD.path (List.getD x (Int.toNat (↑x2 : Int)) (ChangeD.mk ([] : List UInt8) Bool.false (0 : Int)))) (ChangeD.gone (List.getD x (Int.toNat (↑x2 : Int)) (ChangeD.mk ([] : List UInt8) Bool.false (0 : Int)))) (ChangeD.digest (List.getD x (Int.toNat (↑x2 : Int)) (ChangeD.mk ([] : List UInt8) Bool.false (0 : Int))))) ([] : List ChangeD)))))) + (List.length (List.take (cutN (List.length (insS (List.take x2 x))) (Option.some (↑x5 : Int)) (none : Option Int)) (List.drop (addN (0 : Nat) (Option.some (↑x5 : Int))) (insS (List.take x2 x)))))) = (List.length (insS (List.take x11 x)))) ∧
 ((((List.take (((0 : Nat) + (List.length (List.take (cutN (List.length (insS (List.take x2 x))) (none : Option Int) (Option.some (↑x5 : Int))) (List.drop (addN (0 : Nat) (none : Option Int)) (insS (List.take x2 x)))))) + (List.length (List.take (1 : Nat) (List.drop (0 : Nat) (List.cons (ChangeD.mk (ChangeD.path (List.getD x (Int.toNat (↑x2 : Int)) (ChangeD.mk ([] : List UInt8) Bool.false (0 : Int)))) (ChangeD.gone (List.getD x (Int.toNat (↑x2 : Int)) (ChangeD.mk ([] : List UInt8) Bool.false (0 : Int)))) (ChangeD.digest (List.getD x (Int.toNat (↑x2 : Int)) (ChangeD.mk ([] : List UInt8) Bool.false (0 : Int))))) ([] : List ChangeD)))))) (List.drop (0 : Nat) ((List.take ((0 : Nat) + (List.length (List.take (cutN (List.length (insS (List.take x2 x))) (none : Option Int) (Option.some (↑x5 : Int))) (List.drop (addN (0 : Nat) (none : Option Int)) (insS (List.take x2 x)))))) (List.drop (0 : Nat) ((List.take (0 : Nat) (List.drop (0 : Nat) ([] : List ChangeD))) ++ (List.take (cutN (List.length (insS (List.take x2 x))) (none : Option Int) (Option.some (↑x5 : Int))) (List.drop (addN (0 : Nat) (none : Option Int)) (insS (List.take x2 x))))))) ++ (List.take (1 : Nat) (List.drop (0 : Nat) (List.cons (ChangeD.mk (ChangeD.path (List.getD x (Int.toNat (↑x2 : Int)) (ChangeD.mk ([] : List UInt8) Bool.false (0 : Int)))) (ChangeD.gone (List.getD x (Int.toNat (↑x2 : Int)) (ChangeD.mk ([] : List UInt8) Bool.false (0 : Int)))) (ChangeD.digest (List.getD x (Int.toNat (↑x2 : Int)) (ChangeD.mk ([] : List UInt8) Bool.false (0 : Int))))) ([] : List ChangeD))))))) ++ (List.take (cutN (List.length (insS (List.take x2 x))) (Option.some (↑x5 : Int)) (none : Option Int)) (List.drop (addN (0 : Nat) (Option.some (↑x5 : Int))) (insS (List.take x2 x))))) = (insS (List.take x11 x))) ∧
 ((Nat.le x11 (List.length x)) ∧
 ((Nat.sub (List.length x) x11) < (Nat.sub (List.length x) x2))))))))
 (Bad "check" "ref.go:107")))
 (Bad "check" "ref.go:107"))
 (Bad "check" "ref.go:106")))
 (Bad "check" "ref.go:106"))
 (Bad "check" "ref.go:105")))
 (Bad "check" "ref.go:105")))))))))
 (Bad "check" "ref.go:102"))
 (Bad "check" "ref.go:102"))
 (Bad "check" "ref.go:102"))
 (br (bndB (List.length (insS (List.take x2 x))) (none : Option Int) (Option.some (↑x5 : Int)) (none : Option Int))
 (((Nat.le ((0 : Nat) * (32 : Nat)) room47) ∧
 (Nat.le ((cutN (List.length (insS (List.take x2 x))) (none : Option Int) (Option.some (↑x5 : Int))) * (32 : Nat)) room47)) →
 (br (Bool.and (Bool.and (decide (((addN (0 : Nat) (none : Option Int)) + (cutN (List.length (insS (List.take x2 x))) (none : Option Int) (Option.some (↑x5 : Int)))) ≤ (List.length (insS (List.take x2 x))))) (decide (((0 : Nat) + (0 : Nat)) ≤ (List.length ([] : List ChangeD))))) (decide ((((0 : Nat) + (List.length (List.take (cutN (List.length (insS (List.take x2 x))) (none : Option Int) (Option.some (↑x5 : Int))) (List.drop (addN (0 : Nat) (none : Option Int)) (insS (List.take x2 x)))))) * (32 : Nat)) ≤ room47)))
 (br (decide (((0 : Int) ≤ (↑x2 : Int)) ∧
 ((↑x2 : Int) < (↑(List.length x) : Int))))
 (((Nat.le (((0 : Nat) + (List.length (List.take (cutN (List.length (insS (List.take x2 x))) (none : Option Int) (Option.some (↑x5 : Int))) (List.drop (addN (0 : Nat) (none : Option Int)) (insS (List.take x2 x)))))) * (32 : Nat)) room47) ∧
 (Nat.le ((1 : Nat) * (32 : Nat)) room47)) →
 (br (Bool.and (Bool.and (decide (((0 : Nat) + (1 : Nat)) ≤ (List.length (List.cons (ChangeD.mk (ChangeD.path (List.getD x (Int.toNat (↑x2 : Int)) (ChangeD.mk ([] : List UInt8) Bool.false (0 : Int)))) (ChangeD.gone (List.getD x (Int.toNat (↑x2 : Int)) (ChangeD.mk ([] : List UInt8) Bool.false (0 : Int)))) (ChangeD.digest (List.getD x (Int.toNat (↑x2 : Int)) (ChangeD.mk ([] : List UInt8) Bool.false (0 : Int))))) ([] : List ChangeD))))) (decide (((0 : Nat) + ((0 : Nat) + (List.length (List.take (cutN (List.length (insS (List.take x2 x))) (none : Option Int) (Option.some (↑x5 : Int))) (List.drop (addN (0 : Nat) (none : Option Int)) (insS (List.take x2 x))))))) ≤ (List.length ((List.take (0 : Nat) (List.drop (0 : Nat) ([] : List ChangeD))) ++ (List.take (cutN (List.length (insS (List.take x2 x))) (none : Option Int) (Option.some (↑x5 : Int))) (List.drop (addN (0 : Nat) (none : Option Int)) (insS (List.take x2 x))))))))) (decide (((((0 : Nat) + (List.length (List.take (cutN (List.length (insS (List.take x2 x))) (none : Option Int) (Option.some (↑x5 : Int))) (List.drop (addN (0 : Nat) (none : Option Int)) (insS (List.take x2 x)))))) + (List.length (List.take (1 : Nat) (List.drop (0 : Nat) (List.cons (ChangeD.mk (ChangeD.path (List.getD x (Int.toNat (↑x2 : Int)) (ChangeD.mk ([] : List UInt8) Bool.false (0 : Int)))) (ChangeD.gone (List.getD x (Int.toNat (↑x2 : Int)) (ChangeD.mk ([] : List UInt8) Bool.false (0 : Int)))) (ChangeD.digest (List.getD x (Int.toNat (↑x2 : Int)) (ChangeD.mk ([] : List UInt8) Bool.false (0 : Int))))) ([] : List ChangeD)))))) * (32 : Nat)) ≤ room47)))
 (br (bndB (List.length (insS (List.take x2 x))) (Option.some (↑x5 : Int)) (none : Option Int) (none : Option Int))
 (((Nat.le ((((0 : Nat) + (List.length (List.take (cutN (List.length (insS (List.take x2 x))) (none : Option Int) (Option.some (↑x5 : Int))) (List.drop (addN (0 : Nat) (none : Option Int)) (insS (List.take x2 x)))))) + (List.length (List.take (1 : Nat) (List.drop (0 : Nat) (List.cons (ChangeD.mk (ChangeD.path (List.getD x (Int.toNat (↑x2 : Int)) (ChangeD.mk ([] : List UInt8) Bool.false (0 : Int)))) (ChangeD.gone (List.getD x (Int.toNat (↑x2 : Int)) (ChangeD.mk ([] : List UInt8) Bool.false (0 : Int)))) (ChangeD.digest (List.getD x (Int.toNat (↑x2 : Int)) (ChangeD.mk ([] : List UInt8) Bool.false (0 : Int))))) ([] : List ChangeD)))))) * (32 : Nat)) room47) ∧
 (Nat.le ((cutN (List.length (insS (List.take x2 x))) (Option.some (↑x5 : Int)) (none : Option Int)) * (32 : Nat)) room47)) →
 (br (Bool.and (Bool.and (decide (((addN (0 : Nat) (Option.some (↑x5 : Int))) + (cutN (List.length (insS (List.take x2 x))) (Option.some (↑x5 : Int)) (none : Option Int))) ≤ (List.length (insS (List.take x2 x))))) (decide (((0 : Nat) + (((0 : Nat) + (List.length (List.take (cutN (List.length (insS (List.take x2 x))) (none : Option Int) (Option.some (↑x5 : Int))) (List.drop (addN (0 : Nat) (none : Option Int)) (insS (List.take x2 x)))))) + (List.length (List.take (1 : Nat) (List.drop (0 : Nat) (List.cons (ChangeD.mk (ChangeD.path (List.getD x (Int.toNat (↑x2 : Int)) (ChangeD.mk ([] : List UInt8) Bool.false (0 : Int)))) (ChangeD.gone (List.getD x (Int.toNat (↑x2 : Int)) (ChangeD.mk ([] : List UInt8) Bool.false (0 : Int)))) (ChangeD.digest (List.getD x (Int.toNat (↑x2 : Int)) (ChangeD.mk ([] : List UInt8) Bool.false (0 : Int))))) ([] : List ChangeD))))))) ≤ (List.length ((List.take ((0 : Nat) + (List.length (List.take (cutN (List.length (insS (List.take x2 x))) (none : Option Int) (Option.some (↑x5 : Int))) (List.drop (addN (0 : Nat) (none : Option Int)) (insS (List.take x2 x)))))) (List.drop (0 : Nat) ((List.take (0 : Nat) (List.drop (0 : Nat) ([] : List ChangeD))) ++ (List.take (cutN (List.length (insS (List.take x2 x))) (none : Option Int) (Option.some (↑x5 : Int))) (List.drop (addN (0 : Nat) (none : Option Int)) (insS (List.take x2 x))))))) ++ (List.take (1 : Nat) (List.drop (0 : Nat) (List.cons (ChangeD.mk (ChangeD.path (List.getD x (Int.toNat (↑x2 : Int)) (ChangeD.mk ([] : List UInt8) Bool.false (0 : Int)))) (ChangeD.gone (List.getD x (Int.toNat (↑x2 : Int)) (ChangeD.mk ([] : List UInt8) Bool.false (0 : Int)))) (ChangeD.digest (List.getD x (Int.toNat (↑x2 : Int)) (ChangeD.mk ([] : List UInt8) Bool.false (0 : Int))))) ([] : List ChangeD))))))))) (decide ((((((0 : Nat) + (List.length (List.take (cutN (List.length (insS (List.take x2 x))) (none : Option Int) (Option.some (↑x5 : Int))) (List.drop (addN (0 : Nat) (none : Option Int)) (insS (List.take x2 x)))))) + (List.length (List.take (1 : Nat) (List.drop (0 : Nat) (List.cons (ChangeD.mk (ChangeD.path (List.getD x (Int.toNat (↑x2 : Int)) (ChangeD.mk ([] : List UInt8) Bool.false (0 : Int)))) (ChangeD.gone (List.getD x (Int.toNat (↑x2 : Int)) (ChangeD.mk ([] : List UInt8) Bool.false (0 : Int)))) (ChangeD.digest (List.getD x (Int.toNat (↑x2 : Int)) (ChangeD.mk ([] : List UInt8) Bool.false (0 : Int))))) ([] : List ChangeD)))))) + (List.length (List.take (cutN (List.length (insS (List.take x2 x))) (Option.some (↑x5 : Int)) (none : Option Int)) (List.drop (addN (0 : Nat) (Option.some (↑x5 : Int))) (insS (List.take x2 x)))))) * (32 : Nat)) ≤ room47)))
 (∃ x12 : Nat,
 (((IntKind.wrap IntKind.i64 ((↑x2 : Int) + (1 : Int))) = (↑x12 : Int)) ∧
 (((0 : Nat) = (0 : Nat)) ∧
 ((((((0 : Nat) + (List.length (List.take (cutN (List.length (insS (List.take x2 x))) (none : Option Int) (Option.some (↑x5 : Int))) (List.drop (addN (0 : Nat) (none : Option Int)) (insS (List.take x2 x)))))) + (List.length (List.take (1 : Nat) (List.drop (0 : Nat) (List.cons (ChangeD.mk (ChangeD.path (List.getD x (Int.toNat (↑x2 : Int)) (ChangeD.mk ([] : List UInt8) Bool.false (0 : Int)))) (ChangeD.gone (List.getD x (Int.toNat (↑x2 : Int)) (ChangeD.mk ([] : List UInt8) Bool.false (0 : Int)))) (ChangeD.digest (List.getD x (Int.toNat (↑x2 : Int)) (ChangeD.mk ([] : List UInt8) Bool.false (0 : Int))))) ([] : List ChangeD)))))) + (List.length (List.take (cutN (List.length (insS (List.take x2 x))) (Option.some (↑x5 : Int)) (none : Option Int)) (List.drop (addN (0 : Nat) (Option.some (↑x5 : Int))) (insS (List.take x2 x)))))) = (List.length (insS (List.take x12 x)))) ∧
 ((((List.take (((0 : Nat) + (List.length (List.take (cutN (List.length (insS (List.take x2 x))) (none : Option Int) (Option.some (↑x5 : Int))) (List.drop (addN (0 : Nat) (none : Option Int)) (insS (List.take x2 x)))))) + (List.length (List.take (1 : Nat) (List.drop (0 : Nat) (List.cons (ChangeD.mk (ChangeD.path (List.getD x (Int.toNat (↑x2 : Int)) (ChangeD.mk ([] : List UInt8) Bool.false (0 : Int)))) (ChangeD.gone (List.getD x (Int.toNat (↑x2 : Int)) (ChangeD.mk ([] : List UInt8) Bool.false (0 : Int)))) (ChangeD.digest (List.getD x (Int.toNat (↑x2 : Int)) (ChangeD.mk ([] : List UInt8) Bool.false (0 : Int))))) ([] : List ChangeD)))))) (List.drop (0 : Nat) ((List.take ((0 : Nat) + (List.length (List.take (cutN (List.length (insS (List.take x2 x))) (none : Option Int) (Option.some (↑x5 : Int))) (List.drop (addN (0 : Nat) (none : Option Int)) (insS (List.take x2 x)))))) (List.drop (0 : Nat) ((List.take (0 : Nat) (List.drop (0 : Nat) ([] : List ChangeD))) ++ (List.take (cutN (List.length (insS (List.take x2 x))) (none : Option Int) (Option.some (↑x5 : Int))) (List.drop (addN (0 : Nat) (none : Option Int)) (insS (List.take x2 x))))))) ++ (List.take (1 : Nat) (List.drop (0 : Nat) (List.cons (ChangeD.mk (ChangeD.path (List.getD x (Int.toNat (↑x2 : Int)) (ChangeD.mk ([] : List UInt8) Bool.false (0 : Int)))) (ChangeD.gone (List.getD x (Int.toNat (↑x2 : Int)) (ChangeD.mk ([] : List UInt8) Bool.false (0 : Int)))) (ChangeD.digest (List.getD x (Int.toNat (↑x2 : Int)) (ChangeD.mk ([] : List UInt8) Bool.false (0 : Int))))) ([] : List ChangeD))))))) ++ (List.take (cutN (List.length (insS (List.take x2 x))) (Option.some (↑x5 : Int)) (none : Option Int)) (List.drop (addN (0 : Nat) (Option.some (↑x5 : Int))) (insS (List.take x2 x))))) = (insS (List.take x12 x))) ∧
 ((Nat.le x12 (List.length x)) ∧
 ((Nat.sub (List.length x) x12) < (Nat.sub (List.length x) x2))))))))
 (Bad "check" "ref.go:107")))
 (Bad "check" "ref.go:107"))
 (Bad "check" "ref.go:106")))
 (Bad "check" "ref.go:106"))
 (Bad "check" "ref.go:105")))
 (Bad "check" "ref.go:105")))))))
 (∃ x13 : Unit,
 (((0 : Nat) = (0 : Nat)) ∧
 (((List.length (insS (List.take x2 x))) = (List.length x)) ∧
 (((insS (List.take x2 x)) = (insS x)) ∧
 True)))))))))) := by kernel_rfl

theorem legal_vc (x : legalT.γ) : evCall legalE (ev legalE 1000) 31 (legalT.args x) ⟨legalT.blks x, legalT.n0, []⟩ (fun _ _ => False) (legalT.ends x) = (
((∃ x1 : Nat,
 (((0 : Int) = (↑x1 : Int)) ∧
 (Nat.le x1 (List.length x)))) ∧
 (∀ x2 : Nat,
 ((Nat.le x2 (List.length x)) →
 ((((List.length x) * (56 : Nat)) ≤ room47) →
 (br (decide ((↑x2 : Int) < (↑(List.length x) : Int)))
 (br (decide (((0 : Int) ≤ (↑x2 : Int)) ∧
 ((↑x2 : Int) < (↑(List.length x) : Int))))
 (br ((CommitD.rev (List.getD x (Int.toNat (↑x2 : Int)) (CommitD.mk (0 : Int) (0 : Int) ([] : List UInt8) ([] : List ChangeD)))) != (IntKind.wrap IntKind.i64 ((↑x2 : Int) + (1 : Int))))
 (∃ x3 : Unit,
 ((Bool.false = Bool.true) ∧
 True))
 (br (decide (((0 : Int) ≤ (↑x2 : Int)) ∧
 ((↑x2 : Int) < (↑(List.length x) : Int))))
 (br (decide ((CommitD.base (List.getD x (Int.toNat (↑x2 : Int)) (CommitD.mk (0 : Int) (0 : Int) ([] : List UInt8) ([] : List ChangeD)))) < (0 : Int)))
 (∃ x4 : Unit,
 ((Bool.false = Bool.true) ∧
 True))
 (br (decide (((0 : Int) ≤ (↑x2 : Int)) ∧
 ((↑x2 : Int) < (↑(List.length x) : Int))))
 (br (decide ((CommitD.base (List.getD x (Int.toNat (↑x2 : Int)) (CommitD.mk (0 : Int) (0 : Int) ([] : List UInt8) ([] : List ChangeD)))) > (↑x2 : Int)))
 (∃ x5 : Unit,
 ((Bool.false = Bool.true) ∧
 True))
 ((∃ x6 : Nat,
 (((0 : Int) = (↑x6 : Int)) ∧
 (Nat.le x6 (List.length (CommitD.changes (List.getD x (Int.toNat (↑x2 : Int)) (CommitD.mk (0 : Int) (0 : Int) ([] : List UInt8) ([] : List ChangeD)))))))) ∧
 (∀ x7 : Nat,
 ((Nat.le x7 (List.length (CommitD.changes (List.getD x (Int.toNat (↑x2 : Int)) (CommitD.mk (0 : Int) (0 : Int) ([] : List UInt8) ([] : List ChangeD)))))) →
 (br (decide (((0 : Int) ≤ (↑x2 : Int)) ∧
 ((↑x2 : Int) < (↑(List.length x) : Int))))
 ((((List.length (CommitD.changes (List.getD x (Int.toNat (↑x2 : Int)) (CommitD.mk (0 : Int) (0 : Int) ([] : List UInt8) ([] : List ChangeD))))) * (32 : Nat)) ≤ room47) →
 (br (decide ((↑x7 : Int) < (↑(List.length (CommitD.changes (List.getD x (Int.toNat (↑x2 : Int)) (CommitD.mk (0 : Int) (0 : Int) ([] : List UInt8) ([] : List ChangeD))))) : Int)))
 ((∃ x8 : Nat,
 (((0 : Int) = (↑x8 : Int)) ∧
 (Nat.le x8 (Int.toNat (↑x7 : Int))))) ∧
 (∀ x9 : Nat,
 ((Nat.le x9 (Int.toNat (↑x7 : Int))) →
 (br (decide ((↑x9 : Int) < (↑x7 : Int)))
 (br (decide (((0 : Int) ≤ (↑x2 : Int)) ∧
 ((↑x2 : Int) < (↑(List.length x) : Int))))
 (br (decide (((0 : Int) ≤ (↑x7 : Int)) ∧
 ((↑x7 : Int) < (↑(List.length (CommitD.changes (List.getD x (Int.toNat (↑x2 : Int)) (CommitD.mk (0 : Int) (0 : Int) ([] : List UInt8) ([] : List ChangeD))))) : Int))))
 (br (decide (((0 : Int) ≤ (↑x2 : Int)) ∧
 ((↑x2 : Int) < (↑(List.length x) : Int))))
 (br (decide (((0 : Int) ≤ (↑x9 : Int)) ∧
 ((↑x9 : Int) < (↑(List.length (CommitD.changes (List.getD x (Int.toNat (↑x2 : Int)) (CommitD.mk (0 : Int) (0 : Int) ([] : List UInt8) ([] : List ChangeD))))) : Int))))
 (br ((ChangeD.path (List.getD (CommitD.changes (List.getD x (Int.toNat (↑x2 : Int)) (CommitD.mk (0 : Int) (0 : Int) ([] : List UInt8) ([] : List ChangeD)))) (Int.toNat (↑x7 : Int)) (ChangeD.mk ([] : List UInt8) Bool.false (0 : Int)))) == (ChangeD.path (List.getD (CommitD.changes (List.getD x (Int.toNat (↑x2 : Int)) (CommitD.mk (0 : Int) (0 : Int) ([] : List UInt8) ([] : List ChangeD)))) (Int.toNat (↑x9 : Int)) (ChangeD.mk ([] : List UInt8) Bool.false (0 : Int)))))
 (∃ x10 : Unit,
 ((Bool.false = Bool.true) ∧
 True))
 (∃ x11 : Nat,
 (((IntKind.wrap IntKind.i64 ((↑x9 : Int) + (1 : Int))) = (↑x11 : Int)) ∧
 ((Nat.le x11 (Int.toNat (↑x7 : Int))) ∧
 ((Nat.sub (Int.toNat (↑x7 : Int)) x11) < (Nat.sub (Int.toNat (↑x7 : Int)) x9))))))
 (Bad "check" "ref.go:272"))
 (Bad "check" "ref.go:272"))
 (Bad "check" "ref.go:272"))
 (Bad "check" "ref.go:272"))
 (br (decide (((0 : Int) ≤ (↑x2 : Int)) ∧
 ((↑x2 : Int) < (↑(List.length x) : Int))))
 ((∃ x12 : Nat,
 (((CommitD.base (List.getD x (Int.toNat (↑x2 : Int)) (CommitD.mk (0 : Int) (0 : Int) ([] : List UInt8) ([] : List ChangeD)))) = (↑x12 : Int)) ∧
 (((CommitD.base (List.getD x (Int.toNat (↑x2 : Int)) (CommitD.mk (0 : Int) (0 : Int) ([] : List UInt8) ([] : List ChangeD)))) ≤ (↑x12 : Int)) ∧
 (x12 ≤ (Int.toNat (↑x2 : Int)))))) ∧
 (∀ x13 : Nat,
 ((((CommitD.base (List.getD x (Int.toNat (↑x2 : Int)) (CommitD.mk (0 : Int) (0 : Int) ([] : List UInt8) ([] : List ChangeD)))) ≤ (↑x13 : Int)) ∧
 (x13 ≤ (Int.toNat (↑x2 : Int)))) →
 (br (decide ((↑x13 : Int) < (↑x2 : Int)))
 ((∃ x14 : Nat,
 (((0 : Int) = (↑x14 : Int)) ∧
 (Nat.le x14 (List.length (CommitD.changes (List.getD x (Int.toNat (↑x13 : Int)) (CommitD.mk (0 : Int) (0 : Int) ([] : List UInt8) ([] : List ChangeD)))))))) ∧
 (∀ x15 : Nat,
 ((Nat.le x15 (List.length (CommitD.changes (List.getD x (Int.toNat (↑x13 : Int)) (CommitD.mk (0 : Int) (0 : Int) ([] : List UInt8) ([] : List ChangeD)))))) →
 (br (decide (((0 : Int) ≤ (↑x13 : Int)) ∧
 ((↑x13 : Int) < (↑(List.length x) : Int))))
 ((((List.length (CommitD.changes (List.getD x (Int.toNat (↑x13 : Int)) (CommitD.mk (0 : Int) (0 : Int) ([] : List UInt8) ([] : List ChangeD))))) * (32 : Nat)) ≤ room47) →
 (br (decide ((↑x15 : Int) < (↑(List.length (CommitD.changes (List.getD x (Int.toNat (↑x13 : Int)) (CommitD.mk (0 : Int) (0 : Int) ([] : List UInt8) ([] : List ChangeD))))) : Int)))
 (br (decide (((0 : Int) ≤ (↑x13 : Int)) ∧
 ((↑x13 : Int) < (↑(List.length x) : Int))))
 (br (decide (((0 : Int) ≤ (↑x15 : Int)) ∧
 ((↑x15 : Int) < (↑(List.length (CommitD.changes (List.getD x (Int.toNat (↑x13 : Int)) (CommitD.mk (0 : Int) (0 : Int) ([] : List UInt8) ([] : List ChangeD))))) : Int))))
 (br (decide (((0 : Int) ≤ (↑x2 : Int)) ∧
 ((↑x2 : Int) < (↑(List.length x) : Int))))
 (br (decide (((0 : Int) ≤ (↑x7 : Int)) ∧
 ((↑x7 : Int) < (↑(List.length (CommitD.changes (List.getD x (Int.toNat (↑x2 : Int)) (CommitD.mk (0 : Int) (0 : Int) ([] : List UInt8) ([] : List ChangeD))))) : Int))))
 (br ((ChangeD.path (List.getD (CommitD.changes (List.getD x (Int.toNat (↑x13 : Int)) (CommitD.mk (0 : Int) (0 : Int) ([] : List UInt8) ([] : List ChangeD)))) (Int.toNat (↑x15 : Int)) (ChangeD.mk ([] : List UInt8) Bool.false (0 : Int)))) == (ChangeD.path (List.getD (CommitD.changes (List.getD x (Int.toNat (↑x2 : Int)) (CommitD.mk (0 : Int) (0 : Int) ([] : List UInt8) ([] : List ChangeD)))) (Int.toNat (↑x7 : Int)) (ChangeD.mk ([] : List UInt8) Bool.false (0 : Int)))))
 (∃ x16 : Unit,
 ((Bool.false = Bool.true) ∧
 True))
 (∃ x17 : Nat,
 (((IntKind.wrap IntKind.i64 ((↑x15 : Int) + (1 : Int))) = (↑x17 : Int)) ∧
 ((Nat.le x17 (List.length (CommitD.changes (List.getD x (Int.toNat (↑x13 : Int)) (CommitD.mk (0 : Int) (0 : Int) ([] : List UInt8) ([] : List ChangeD)))))) ∧
 ((Nat.sub (List.length (CommitD.changes (List.getD x (Int.toNat (↑x13 : Int)) (CommitD.mk (0 : Int) (0 : Int) ([] : List UInt8) ([] : List ChangeD))))) x17) < (Nat.sub (List.length (CommitD.changes (List.getD x (Int.toNat (↑x13 : Int)) (CommitD.mk (0 : Int) (0 : Int) ([] : List UInt8) ([] : List ChangeD))))) x15))))))
 (Bad "check" "ref.go:278"))
 (Bad "check" "ref.go:278"))
 (Bad "check" "ref.go:278"))
 (Bad "check" "ref.go:278"))
 (∃ x18 : Nat,
 (((IntKind.wrap IntKind.i64 ((↑x13 : Int) + (1 : Int))) = (↑x18 : Int)) ∧
 ((((CommitD.base (List.getD x (Int.toNat (↑x2 : Int)) (CommitD.mk (0 : Int) (0 : Int) ([] : List UInt8) ([] : List ChangeD)))) ≤ (↑x18 : Int)) ∧
 (x18 ≤ (Int.toNat (↑x2 : Int)))) ∧
 ((Nat.sub (Int.toNat (↑x2 : Int)) x18) < (Nat.sub (Int.toNat (↑x2 : Int)) x13)))))))
 (Bad "check" "ref.go:277")))))
 (∃ x19 : Nat,
 (((IntKind.wrap IntKind.i64 ((↑x7 : Int) + (1 : Int))) = (↑x19 : Int)) ∧
 ((Nat.le x19 (List.length (CommitD.changes (List.getD x (Int.toNat (↑x2 : Int)) (CommitD.mk (0 : Int) (0 : Int) ([] : List UInt8) ([] : List ChangeD)))))) ∧
 ((Nat.sub (List.length (CommitD.changes (List.getD x (Int.toNat (↑x2 : Int)) (CommitD.mk (0 : Int) (0 : Int) ([] : List UInt8) ([] : List ChangeD))))) x19) < (Nat.sub (List.length (CommitD.changes (List.getD x (Int.toNat (↑x2 : Int)) (CommitD.mk (0 : Int) (0 : Int) ([] : List UInt8) ([] : List ChangeD))))) x7)))))))))
 (Bad "check" "ref.go:276"))))))
 (∃ x20 : Nat,
 (((IntKind.wrap IntKind.i64 ((↑x2 : Int) + (1 : Int))) = (↑x20 : Int)) ∧
 ((Nat.le x20 (List.length x)) ∧
 ((Nat.sub (List.length x) x20) < (Nat.sub (List.length x) x2)))))))
 (Bad "check" "ref.go:270"))))))
 (Bad "check" "ref.go:267")))
 (Bad "check" "ref.go:267")))
 (Bad "check" "ref.go:267"))
 (∃ x21 : Unit,
 ((Bool.true = Bool.true) ∧
 True)))))))) := by kernel_rfl

theorem load1_vc (x : load1T.γ) : evCall loadE (ev loadE 1000) 34 (load1T.args x) ⟨load1T.blks x, load1T.n0, []⟩ (fun _ _ => False) (load1T.ends x) = (
(∃ x1 : Unit,
 (True ∧
 (∀ x2 : Unit,
 (True →
 ((((List.length x) * (56 : Nat)) ≤ room47) →
 ((∃ x3 : Nat,
 (((0 : Int) = (↑x3 : Int)) ∧
 (((0 : Nat) = (0 : Nat)) ∧
 (((List.length ([] : List CommitD)) = (List.length (List.take x3 x))) ∧
 (((treeC ([] : List CommitD)) = (treeC (List.take x3 x))) ∧
 ((([] : List CommitD) = (List.take x3 x)) ∧
 (((kvC ([] : List CommitD)) = (kvC (List.take x3 x))) ∧
 ((x3 ≤ (List.length x)) ∧
 (LoadsTo x x3))))))))) ∧
 (∀ x4 : Nat,
 (((x4 ≤ (List.length x)) ∧
 (LoadsTo x x4)) →
 (br (decide ((↑x4 : Int) < (↑(List.length x) : Int)))
 (br (decide (((0 : Int) ≤ (↑x4 : Int)) ∧
 ((↑x4 : Int) < (↑(List.length x) : Int))))
 (∃ x5 : LandA,
 (((CommitD.base (List.getD x (Int.toNat (↑x4 : Int)) (CommitD.mk (0 : Int) (0 : Int) ([] : List UInt8) ([] : List ChangeD)))) = (LandA.base x5)) ∧
 (((CommitD.ref (List.getD x (Int.toNat (↑x4 : Int)) (CommitD.mk (0 : Int) (0 : Int) ([] : List UInt8) ([] : List ChangeD)))) = (LandA.ref x5)) ∧
 (((CommitD.changes (List.getD x (Int.toNat (↑x4 : Int)) (CommitD.mk (0 : Int) (0 : Int) ([] : List UInt8) ([] : List ChangeD)))) = (LandA.l x5)) ∧
 (((0 : Nat) = (0 : Nat)) ∧
 (((List.length (List.take x4 x)) = (List.length (LandA.C x5))) ∧
 (((treeC (List.take x4 x)) = (treeC (LandA.C x5))) ∧
 (((List.take x4 x) = (LandA.C x5)) ∧
 (((kvC (List.take x4 x)) = (kvC (LandA.C x5))) ∧
 ((((fewG (LandA.C x5)) = Bool.true) ∧
 ((shortC (LandA.l x5)) = Bool.true)) ∧
 (∀ x6 : Unit,
 (True →
 (br ((VerdictD.code (landV x5)) != (2 : Int))
 (∃ x7 : Unit,
 (Bad "match: mptr" ""))
 (br ((VerdictD.rev (landV x5)) != (CommitD.rev (List.getD x (Int.toNat (↑x4 : Int)) (CommitD.mk (0 : Int) (0 : Int) ([] : List UInt8) ([] : List ChangeD)))))
 (∃ x8 : Unit,
 (Bad "match: mptr" ""))
 (br (decide (((0 : Int) ≤ (IntKind.wrap IntKind.i64 ((VerdictD.rev (landV x5)) - (1 : Int)))) ∧
 ((IntKind.wrap IntKind.i64 ((VerdictD.rev (landV x5)) - (1 : Int))) < (↑(List.length (landC x5)) : Int))))
 (br (decide (((0 : Nat) + (Int.toNat (IntKind.wrap IntKind.i64 ((VerdictD.rev (landV x5)) - (1 : Int))))) < (List.length (landC x5))))
 (∃ x9 : Cha2,
 (((CommitD.changes (List.getD (landC x5) ((0 : Nat) + (Int.toNat (IntKind.wrap IntKind.i64 ((VerdictD.rev (landV x5)) - (1 : Int))))) (CommitD.mk (0 : Int) (0 : Int) ([] : List UInt8) ([] : List ChangeD)))) = (Cha2.a x9)) ∧
 (((CommitD.changes (List.getD x (Int.toNat (↑x4 : Int)) (CommitD.mk (0 : Int) (0 : Int) ([] : List UInt8) ([] : List ChangeD)))) = (Cha2.b x9)) ∧
 (True ∧
 (∀ x10 : Unit,
 (True →
 (br (Bool.not (sameC (Cha2.a x9) (Cha2.b x9)))
 (∃ x11 : Unit,
 (Bad "match: mptr" ""))
 (∃ x12 : Nat,
 (((IntKind.wrap IntKind.i64 ((↑x4 : Int) + (1 : Int))) = (↑x12 : Int)) ∧
 (((0 : Nat) = (0 : Nat)) ∧
 (((List.length (landC x5)) = (List.length (List.take x12 x))) ∧
 (((treeC (landC x5)) = (treeC (List.take x12 x))) ∧
 (((landC x5) = (List.take x12 x)) ∧
 (((kvC (landC x5)) = (kvC (List.take x12 x))) ∧
 (((x12 ≤ (List.length x)) ∧
 (LoadsTo x x12)) ∧
 ((Nat.sub (List.length x) x12) < (Nat.sub (List.length x) x4)))))))))))))))))
 (Bad "check" "graph.go:163"))
 (Bad "check" "graph.go:163"))))))))))))))))
 (Bad "check" "graph.go:161"))
 (∃ x13 : Unit,
 (((0 : Int) = (0 : Int)) ∧
 (((0 : Nat) = (0 : Nat)) ∧
 (((List.length (List.take x4 x)) = (List.length x)) ∧
 (((treeC (List.take x4 x)) = (treeC x)) ∧
 (((List.take x4 x) = x) ∧
 (((kvC (List.take x4 x)) = (kvC x)) ∧
 True))))))))))))))))) := by kernel_rfl

theorem load2_vc (x : load2T.γ) : evCall loadE (ev loadE 1000) 34 (load2T.args x) ⟨load2T.blks x, load2T.n0, []⟩ (fun _ _ => False) (load2T.ends x) = (
(∃ x1 : Unit,
 (True ∧
 (∀ x2 : Unit,
 (True →
 ((((List.length x) * (56 : Nat)) ≤ room47) →
 ((∃ x3 : Nat,
 (((0 : Int) = (↑x3 : Int)) ∧
 (((0 : Nat) = (0 : Nat)) ∧
 (((List.length ([] : List CommitD)) = (List.length (List.take x3 x))) ∧
 (((treeC ([] : List CommitD)) = (treeC (List.take x3 x))) ∧
 ((([] : List CommitD) = (List.take x3 x)) ∧
 (((kvC ([] : List CommitD)) = (kvC (List.take x3 x))) ∧
 ((x3 ≤ (List.length x)) ∧
 (LoadsTo x x3))))))))) ∧
 (∀ x4 : Nat,
 (((x4 ≤ (List.length x)) ∧
 (LoadsTo x x4)) →
 (br (decide ((↑x4 : Int) < (↑(List.length x) : Int)))
 (br (decide (((0 : Int) ≤ (↑x4 : Int)) ∧
 ((↑x4 : Int) < (↑(List.length x) : Int))))
 (∃ x5 : LandA,
 (((CommitD.base (List.getD x (Int.toNat (↑x4 : Int)) (CommitD.mk (0 : Int) (0 : Int) ([] : List UInt8) ([] : List ChangeD)))) = (LandA.base x5)) ∧
 (((CommitD.ref (List.getD x (Int.toNat (↑x4 : Int)) (CommitD.mk (0 : Int) (0 : Int) ([] : List UInt8) ([] : List ChangeD)))) = (LandA.ref x5)) ∧
 (((CommitD.changes (List.getD x (Int.toNat (↑x4 : Int)) (CommitD.mk (0 : Int) (0 : Int) ([] : List UInt8) ([] : List ChangeD)))) = (LandA.l x5)) ∧
 (((0 : Nat) = (0 : Nat)) ∧
 (((List.length (List.take x4 x)) = (List.length (LandA.C x5))) ∧
 (((treeC (List.take x4 x)) = (treeC (LandA.C x5))) ∧
 (((List.take x4 x) = (LandA.C x5)) ∧
 (((kvC (List.take x4 x)) = (kvC (LandA.C x5))) ∧
 ((((fewG (LandA.C x5)) = Bool.true) ∧
 ((shortC (LandA.l x5)) = Bool.true)) ∧
 (∀ x6 : Unit,
 (True →
 (br ((VerdictD.code (landV x5)) != (2 : Int))
 (∃ x7 : Unit,
 (((4 : Int) = (4 : Int)) ∧
 True))
 (br ((VerdictD.rev (landV x5)) != (CommitD.rev (List.getD x (Int.toNat (↑x4 : Int)) (CommitD.mk (0 : Int) (0 : Int) ([] : List UInt8) ([] : List ChangeD)))))
 (∃ x8 : Unit,
 (((4 : Int) = (4 : Int)) ∧
 True))
 (br (decide (((0 : Int) ≤ (IntKind.wrap IntKind.i64 ((VerdictD.rev (landV x5)) - (1 : Int)))) ∧
 ((IntKind.wrap IntKind.i64 ((VerdictD.rev (landV x5)) - (1 : Int))) < (↑(List.length (landC x5)) : Int))))
 (br (decide (((0 : Nat) + (Int.toNat (IntKind.wrap IntKind.i64 ((VerdictD.rev (landV x5)) - (1 : Int))))) < (List.length (landC x5))))
 (∃ x9 : Cha2,
 (((CommitD.changes (List.getD (landC x5) ((0 : Nat) + (Int.toNat (IntKind.wrap IntKind.i64 ((VerdictD.rev (landV x5)) - (1 : Int))))) (CommitD.mk (0 : Int) (0 : Int) ([] : List UInt8) ([] : List ChangeD)))) = (Cha2.a x9)) ∧
 (((CommitD.changes (List.getD x (Int.toNat (↑x4 : Int)) (CommitD.mk (0 : Int) (0 : Int) ([] : List UInt8) ([] : List ChangeD)))) = (Cha2.b x9)) ∧
 (True ∧
 (∀ x10 : Unit,
 (True →
 (br (Bool.not (sameC (Cha2.a x9) (Cha2.b x9)))
 (∃ x11 : Unit,
 (((4 : Int) = (4 : Int)) ∧
 True))
 (∃ x12 : Nat,
 (((IntKind.wrap IntKind.i64 ((↑x4 : Int) + (1 : Int))) = (↑x12 : Int)) ∧
 (((0 : Nat) = (0 : Nat)) ∧
 (((List.length (landC x5)) = (List.length (List.take x12 x))) ∧
 (((treeC (landC x5)) = (treeC (List.take x12 x))) ∧
 (((landC x5) = (List.take x12 x)) ∧
 (((kvC (landC x5)) = (kvC (List.take x12 x))) ∧
 (((x12 ≤ (List.length x)) ∧
 (LoadsTo x x12)) ∧
 ((Nat.sub (List.length x) x12) < (Nat.sub (List.length x) x4)))))))))))))))))
 (Bad "check" "graph.go:163"))
 (Bad "check" "graph.go:163"))))))))))))))))
 (Bad "check" "graph.go:161"))
 (∃ x13 : Unit,
 (Bad "match: nilp" "")))))))))))) := by kernel_rfl

theorem gawake_vc (x : gawakeT.γ) : evCall gawakeE (ev gawakeE 1000) 15 (gawakeT.args x) ⟨gawakeT.blks x, gawakeT.n0, []⟩ (fun _ _ => False) (gawakeT.ends x) = (
(∃ x1 : Unit,
 (True ∧
 (∀ x2 : Unit,
 (True →
 (∃ x3 : LandA,
 (((0 : Int) = (LandA.base x3)) ∧
 (((Array.toList (ByteArray.data (ByteArray.mk (List.toArray ([] : List UInt8))))) = (LandA.ref x3)) ∧
 ((((0 : Nat) + (1 : Nat)) ≤ (List.length (List.cons (ChangeD.mk (Array.toList (ByteArray.data (ByteArray.mk (List.toArray (List.cons (97 : UInt8) ([] : List UInt8)))))) Bool.false (5 : Int)) ([] : List ChangeD)))) ∧
 (((List.take (1 : Nat) (List.drop (0 : Nat) (List.cons (ChangeD.mk (Array.toList (ByteArray.data (ByteArray.mk (List.toArray (List.cons (97 : UInt8) ([] : List UInt8)))))) Bool.false (5 : Int)) ([] : List ChangeD)))) = (LandA.l x3)) ∧
 (((0 : Nat) = (0 : Nat)) ∧
 (((List.length ([] : List CommitD)) = (List.length (LandA.C x3))) ∧
 (((treeC ([] : List CommitD)) = (treeC (LandA.C x3))) ∧
 ((([] : List CommitD) = (LandA.C x3)) ∧
 (((kvC ([] : List CommitD)) = (kvC (LandA.C x3))) ∧
 ((((fewG (LandA.C x3)) = Bool.true) ∧
 ((shortC (LandA.l x3)) = Bool.true)) ∧
 (∀ x4 : Unit,
 (True →
 (∃ x5 : LandA,
 (((0 : Int) = (LandA.base x5)) ∧
 (((Array.toList (ByteArray.data (ByteArray.mk (List.toArray ([] : List UInt8))))) = (LandA.ref x5)) ∧
 ((((0 : Nat) + (1 : Nat)) ≤ (List.length (List.cons (ChangeD.mk (Array.toList (ByteArray.data (ByteArray.mk (List.toArray (List.cons (97 : UInt8) ([] : List UInt8)))))) Bool.false (6 : Int)) ([] : List ChangeD)))) ∧
 (((List.take (1 : Nat) (List.drop (0 : Nat) (List.cons (ChangeD.mk (Array.toList (ByteArray.data (ByteArray.mk (List.toArray (List.cons (97 : UInt8) ([] : List UInt8)))))) Bool.false (6 : Int)) ([] : List ChangeD)))) = (LandA.l x5)) ∧
 (((0 : Nat) = (0 : Nat)) ∧
 (((List.length (landC x3)) = (List.length (LandA.C x5))) ∧
 (((treeC (landC x3)) = (treeC (LandA.C x5))) ∧
 (((landC x3) = (LandA.C x5)) ∧
 (((kvC (landC x3)) = (kvC (LandA.C x5))) ∧
 ((((fewG (LandA.C x5)) = Bool.true) ∧
 ((shortC (LandA.l x5)) = Bool.true)) ∧
 (∀ x6 : Unit,
 (True →
 (br ((VerdictD.code (landV x3)) == (2 : Int))
 (br ((VerdictD.rev (landV x3)) == (1 : Int))
 (br ((VerdictD.code (landV x5)) == (3 : Int))
 (br ((VerdictD.path (landV x5)) == (Array.toList (ByteArray.data (ByteArray.mk (List.toArray (List.cons (97 : UInt8) ([] : List UInt8)))))))
 (br ((VerdictD.rev (landV x5)) == (1 : Int))
 (∃ x7 : (List CommitD),
 (((0 : Nat) = (0 : Nat)) ∧
 (((List.length (landC x5)) = (List.length x7)) ∧
 (((treeC (landC x5)) = (treeC x7)) ∧
 (((landC x5) = x7) ∧
 (((kvC (landC x5)) = (kvC x7)) ∧
 (True ∧
 (∀ x8 : Unit,
 (True →
 (∃ x9 : Unit,
 ((((↑(List.length x7) : Int) == (1 : Int)) = Bool.true) ∧
 True)))))))))))
 (∃ x10 : Unit,
 ((Bool.false = Bool.true) ∧
 True)))
 (∃ x11 : Unit,
 ((Bool.false = Bool.true) ∧
 True)))
 (∃ x12 : Unit,
 ((Bool.false = Bool.true) ∧
 True)))
 (∃ x13 : Unit,
 ((Bool.false = Bool.true) ∧
 True)))
 (∃ x14 : Unit,
 ((Bool.false = Bool.true) ∧
 True)))))))))))))))))))))))))))))))))) := by kernel_rfl

end Go.Proofs.YtildflamnehilaaGreat.Ses

namespace Go.Proofs.YtildflamnehilaaGreat.Ses
open Go Go.Proofs Go.Proofs.YtildflamnehilaaGreat.Sx Go.Proofs.YtildflamnehilaaGreat.Trx

theorem chk_bad (l : List ChangeD) : chkC l = bif badC l l.length then 1 else 0 := rfl
theorem badC_upto {l : List ChangeD} {i : Nat} (hi : i ≤ l.length) (h : badC l i = true) : badC l l.length = true := by
  unfold badC at h ⊢
  cases ho : okUpto l i
  · rcases Nat.lt_or_ge i l.length with hl | hl
    · cases i with
      | zero => cases ho
      | succ i => rw [okUpto_bad ho l.length (by omega)]; simp
    · rw [show l.length = i by omega, ho]; simp
  · rw [ho] at h
    simp only [Bool.not_true, Bool.or_false] at h
    rw [h]; simp
theorem badC_suc {l : List ChangeD} {i : Nat} (h : badC l i = false) : badC l (i + 1) = (!(goodC (l.getD i noC)) || hasC (l.getD i noC).path (l.take i)) := by
  unfold badC at h ⊢
  simp only [Bool.or_eq_false_iff, Bool.not_eq_false'] at h
  obtain ⟨⟨h1, h2⟩, h3⟩ := h
  have e : okUpto l (i + 1) = (okUpto l i && (goodC (l.getD i noC) && !(hasC (l.getD i noC).path (l.take i)))) := rfl
  rw [h1, h2, e, h3]
  cases goodC (l.getD i noC) <;> cases hasC (l.getD i noC).path (l.take i) <;> rfl
theorem has_suc {l : List ChangeD} {k : Nat} {p : Bs} (h : k < l.length) : hasC p (l.take (k + 1)) = (hasC p (l.take k) || (l.getD k noC).path == p) := by
  unfold hasC
  rw [take_succ_getD noC h, List.any_append]
  simp
set_option maxHeartbeats 0 in
theorem rcheck_ok : SpecOK Tryz.prog 66 rcheckT.spec := by
  refine Tri.ok (E := rcheckE) (Env_ok (by decide +kernel) (by simp [rnormal_ok])) (n := 1000) rcheckT fun x hx => ?_
  rw [rcheck_vc]
  revert hx
  revert x
  intro (l : List ChangeD) (hx : shortC l = true)
  intro hlen
  have hl : l.length ≤ 4398046511104 := by
    have h5 : l.length * 32 ≤ room47 := hlen
    simp only [room47] at h5
    omega
  have fin : ∀ i, i ≤ l.length → (badC l i = false → i = l.length) → br (badC l i) (∃ _ : Unit, (1 : Int) = chkC l ∧ True) (∃ _ : Unit, (0 : Int) = chkC l ∧ True) := by
    intro i hi hf
    refine br_i (fun h => ⟨(), ?_, trivial⟩) (fun h => ⟨(), ?_, trivial⟩)
    · rw [chk_bad, badC_upto hi h]; rfl
    · rw [chk_bad, ← hf h, h]; rfl
  refine br_i (fun h0 => ?_) (fun h0 => ?_)
  · have h0 : (l.length : Int) = 0 := by simpa using h0
    have hb : ∀ i, badC l i = true := fun i => by
      unfold badC
      rw [show l.length = 0 by omega]; rfl
    exact ⟨⟨0, rfl, (hb 0).symm, Nat.zero_le _⟩, fun i hi _ => by
      have hi : i ≤ l.length := hi
      exact br_f (decide_eq_false (by omega)) (fin i hi (fun h => by rw [hb] at h; cases h))⟩
  · have h0 : ¬ (l.length : Int) = 0 := by simpa using h0
    refine fun _ => ⟨⟨0, rfl, ?_, Nat.zero_le _⟩, fun i hi _ => ?_⟩
    · unfold badC okUpto
      have e0 : Nat.beq l.length 0 = false := by
        cases h' : Nat.beq l.length 0
        · rfl
        · exact absurd (Nat.eq_of_beq_eq_true h') (by omega)
      rw [e0]
      simp only [Bool.false_or, Bool.not_true, Bool.or_false, gt_iff_lt]
      rw [decide_eq_decide]; omega
    have hi : i ≤ l.length := hi
    refine br_i (fun h1 => ?_) (fun h1 => fin i hi fun _ => by have := of_decide_eq_false h1; omega)
    have h1 := of_decide_eq_true h1
    refine br_i (fun h2 => ?_) (fun h2 => fin i hi fun h => by rw [h] at h2; cases h2)
    have h2 : badC l i = false := by simpa using h2
    have hs := badC_suc h2
    have bi : decide ((0 : Int) ≤ (i : Int) ∧ (i : Int) < (l.length : Int)) = true := decide_eq_true ⟨by omega, h1⟩
    have inner : ∀ b0 : Bool, b0 = (!(goodC (l.getD i noC)) || hasC (l.getD i noC).path (l.take 0)) →
        (∃ k : Nat, (0 : Int) = (k : Int) ∧ b0 = (!(goodC (l.getD i noC)) || hasC (l.getD i noC).path (l.take k)) ∧ Nat.le k i) ∧
        (∀ k : Nat, Nat.le k i → br (decide ((k : Int) < (i : Int)))
          (br (!(goodC (l.getD i noC)) || hasC (l.getD i noC).path (l.take k))
            (∃ q : Nat, IntKind.i64.wrap ((k : Int) + 1) = (q : Int) ∧ true = (!(goodC (l.getD i noC)) || hasC (l.getD i noC).path (l.take q)) ∧ Nat.le q i ∧ Nat.sub i q < Nat.sub i k)
            (br (decide ((0 : Int) ≤ (k : Int) ∧ (k : Int) < (l.length : Int))) (br (decide ((0 : Int) ≤ (i : Int) ∧ (i : Int) < (l.length : Int)))
              (∃ q : Nat, IntKind.i64.wrap ((k : Int) + 1) = (q : Int) ∧ ((l.getD k noC).path == (l.getD i noC).path) = (!(goodC (l.getD i noC)) || hasC (l.getD i noC).path (l.take q)) ∧ Nat.le q i ∧ Nat.sub i q < Nat.sub i k) (Bad "check" "ref.go:88")) (Bad "check" "ref.go:88")))
          (∃ q : Nat, IntKind.i64.wrap ((i : Int) + 1) = (q : Int) ∧ (!(goodC (l.getD i noC)) || hasC (l.getD i noC).path (l.take k)) = badC l q ∧ Nat.le q l.length ∧ Nat.sub l.length q < Nat.sub l.length i)) := by
      intro b0 hb0
      refine ⟨⟨0, rfl, hb0, Nat.zero_le _⟩, fun k hk => br_i (fun h4 => ?_) (fun h4 => ?_)⟩
      · have h4 := of_decide_eq_true h4
        have hh := has_suc (l := l) (k := k) (p := (l.getD i noC).path) (by omega)
        refine br_i (fun h5 => ⟨k + 1, by rw [wrap_id (by omega) (by omega)]; rfl, ?_, by show k + 1 ≤ i; omega, by show i - (k + 1) < i - k; omega⟩) (fun h5 => br_t (decide_eq_true ⟨by omega, by omega⟩) (br_t bi ⟨k + 1, by rw [wrap_id (by omega) (by omega)]; rfl, ?_, by show k + 1 ≤ i; omega, by show i - (k + 1) < i - k; omega⟩))
        · rw [hh, ← Bool.or_assoc, h5]; rfl
        · rw [hh, ← Bool.or_assoc, h5]; rfl
      · have h4 := of_decide_eq_false h4
        have hk : k ≤ i := hk
        have : k = i := by omega
        subst this
        exact ⟨k + 1, by rw [wrap_id (by omega) (by omega)]; rfl, hs.symm, by show k + 1 ≤ l.length; omega, by show l.length - (k + 1) < l.length - k; omega⟩
    have has0 : hasC (l.getD i noC).path (l.take 0) = false := rfl
    have hg : goodC (l.getD i noC) = ((normB (l.getD i noC).path == some (l.getD i noC).path) && (!(l.getD i noC).gone || (l.getD i noC).digest == 0)) := rfl
    refine br_t bi ⟨(l.getD i noC).path, rfl, List.all_eq_true.1 hx _ (getD_mem (d := noC) (by omega)), fun _ _ => br_i (fun g1 => inner _ ?_) (fun g1 => br_t bi (br_i (fun g2 => inner _ ?_) (fun g2 => br_t bi (br_i (fun g3 => br_t bi (inner _ ?_)) (fun g3 => inner _ ?_)))))⟩
    · have g1 : normB (l.getD i noC).path = none := by simpa using g1
      rw [hg, has0, g1]; rfl
    all_goals
      have g1 : (normB (l.getD i noC).path).isSome = true := by simpa using g1
      obtain ⟨q, hq⟩ := Option.isSome_iff_exists.1 g1
      rw [hq] at g2
      simp only [Option.getD_some] at g2
      rw [hg, has0, hq]
    · have g2 : (q == (l.getD i noC).path) = false := by simpa using g2
      have : (some q == some (l.getD i noC).path) = false := g2
      rw [this]; rfl
    · have g2 : (q == (l.getD i noC).path) = true := by simpa using g2
      have : (some q == some (l.getD i noC).path) = true := g2
      have g3 : (l.getD i noC).gone = true := g3
      rw [this, g3]
      simp
      rfl
    · have g2 : (q == (l.getD i noC).path) = true := by simpa using g2
      have : (some q == some (l.getD i noC).path) = true := g2
      have g3 : (l.getD i noC).gone = false := g3
      rw [this, g3]
      rfl
theorem rsort_ok : SpecOK Tryz.prog 68 rsortT.spec := by
  refine Tri.ok (E := rsortE) (Env_ok (by decide +kernel) (by simp [rcompare_ok])) (n := 1000) rsortT fun x hx => ?_
  rw [rsort_vc]
  revert hx
  revert x
  intro (l : List ChangeD) (hx : shortC l = true ∧ fewX l = true)
  obtain ⟨hs, hf⟩ := hx
  have hf : l.length ≤ 100000 := of_decide_eq_true hf
  refine ⟨⟨0, rfl, rfl, rfl, Nat.zero_le _⟩, fun i hi _ => br_i (fun h1 => ?_) (fun h1 => ⟨(), rfl, ?_, ?_, trivial⟩)⟩
  · have h1 := of_decide_eq_true h1
    have hol : (insS (l.take i)).length = i := by rw [insS_len, List.length_take]; omega
    have hnext : insS (l.take (i + 1)) = insR (l.getD i noC) (insS (l.take i)) := by rw [take_succ_getD noC (by omega), insS_snoc]
    have hso : ∀ y, y ∈ insS (l.take i) → shortB y.path = true := fun y hy => List.all_eq_true.1 hs y (List.mem_of_mem_take (mem_insS.1 hy))
    have hsx : shortB (l.getD i noC).path = true := List.all_eq_true.1 hs _ (getD_mem (d := noC) (by omega))
    generalize insS (l.take i) = out at hol hnext hso ⊢
    refine fun _ => ⟨⟨out.length, rfl, Nat.le_refl _, fun j h2 h3 => absurd h3 (by omega)⟩, fun k hk => br_i (fun h2 => ?_) (fun h2 => ?_)⟩
    · have h2 := of_decide_eq_true h2
      obtain ⟨k1, k2⟩ := hk
      have w : IntKind.i64.wrap ((k : Int) - 1) = ((k - 1 : Nat) : Int) := by rw [wrap_id (by omega) (by omega)]; omega
      rw [w]
      have e0 : 0 + ((k - 1 : Nat) : Int).toNat = k - 1 := by simp
      rw [e0]
      refine br_t (decide_eq_true ⟨by omega, by omega⟩) (br_t (decide_eq_true (by omega)) (br_t (decide_eq_true ⟨by omega, by omega⟩) ⟨⟨(out.getD (k - 1) noC).path, (l.getD i noC).path⟩, rfl, rfl, ⟨hso _ (getD_mem (d := noC) (by omega)), hsx⟩, fun _ _ => br_i (fun g => ?_) (fun g => ?_)⟩))
      · have g : cmpC (out.getD (k - 1) noC) (l.getD i noC) > 0 := of_decide_eq_true g
        refine ⟨k - 1, rfl, ⟨by omega, fun j hj1 hj2 => ?_⟩, by omega⟩
        rcases Nat.lt_or_ge (k - 1) j with h | h
        · exact k2 j (by omega) hj2
        · have : j = k - 1 := by omega
          subst this
          show cmpC (l.getD i noC) (out.getD (k - 1) noC) < 0
          rw [cmpC_swap]; omega
      · have g : ¬ cmpC (out.getD (k - 1) noC) (l.getD i noC) > 0 := of_decide_eq_false g
        have hput := insR_put (x := l.getD i noC) (l := out) (k := k) (by omega) (fun _ => by rw [cmpC_swap]; omega) k2
        clear e0 w g h2 k2
        have hlk : (out.take k).length = k := by rw [List.length_take]; omega
        have c1 : cutN out.length none (some (k : Int)) = k := by simp [cutN, loN, hiN]
        have c2 : cutN out.length (some (k : Int)) none = out.length - k := by simp [cutN, loN, hiN]
        have a1 : addN 0 none = 0 := rfl
        have a2 : addN 0 (some (k : Int)) = k := by simp [addN, loN]
        have rm : ∀ n, n ≤ 100002 → decide (n * 32 ≤ room47) = true := fun n hn => by
          have : 100002 * 32 ≤ room47 := by decide
          exact decide_eq_true (Nat.le_trans (Nat.mul_le_mul_right 32 hn) this)
        have t1 : ∀ c : ChangeD, (out.take k ++ [c]).take (k + 1) = out.take k ++ [c] := fun c => List.take_of_length_le (by simp; omega)
        have t2 : (out.drop k).take (out.length - k) = out.drop k := List.take_of_length_le (by simp)
        have l2 : (out.drop k).length = out.length - k := List.length_drop
        simp only [c1, c2, a1, a2, Nat.zero_add, List.drop_zero, List.take_zero, List.nil_append, List.take_succ_cons, List.length_cons, List.length_nil, hlk, List.take_nil, List.drop_nil, t1, t2, l2, List.length_append]
        refine br_t (by simp [bndB]; omega) fun _ => br_t ?_ (br_t (decide_eq_true ⟨by omega, by omega⟩) fun _ => br_t ?_ (br_t (by simp [bndB]; omega) fun _ => br_t ?_ ⟨i + 1, by rw [wrap_id (by omega) (by omega)]; rfl, trivial, ?_, ?_, by show i + 1 ≤ l.length; omega, by show l.length - (i + 1) < l.length - i; omega⟩))
        · rw [rm k (by omega)]; simp; omega
        · rw [rm (k + 1) (by omega)]; simp
        · rw [rm (k + 1 + (out.length - k)) (by omega)]; simp; omega
        · rw [hnext, insR_len]; omega
        · have t3 : (out.take k).take k = out.take k := List.take_of_length_le (by omega)
          rw [hnext, hput, t3]
          show (out.take k ++ [l.getD i noC]).take (k + 1) ++ out.drop k = _
          rw [t1]
          simp
    · have h2 := of_decide_eq_false h2
      obtain ⟨k1, k2⟩ := hk
      have hput := insR_put (x := l.getD i noC) (l := out) (k := k) (by omega) (fun h => absurd h (by omega)) k2
      clear h2 k2
      have hlk : (out.take k).length = k := by rw [List.length_take]; omega
      have c1 : cutN out.length none (some (k : Int)) = k := by simp [cutN, loN, hiN]
      have c2 : cutN out.length (some (k : Int)) none = out.length - k := by simp [cutN, loN, hiN]
      have a1 : addN 0 none = 0 := rfl
      have a2 : addN 0 (some (k : Int)) = k := by simp [addN, loN]
      have rm : ∀ n, n ≤ 100002 → decide (n * 32 ≤ room47) = true := fun n hn => by
        have : 100002 * 32 ≤ room47 := by decide
        exact decide_eq_true (Nat.le_trans (Nat.mul_le_mul_right 32 hn) this)
      have t1 : ∀ c : ChangeD, (out.take k ++ [c]).take (k + 1) = out.take k ++ [c] := fun c => List.take_of_length_le (by simp; omega)
      have t2 : (out.drop k).take (out.length - k) = out.drop k := List.take_of_length_le (by simp)
      have l2 : (out.drop k).length = out.length - k := List.length_drop
      simp only [c1, c2, a1, a2, Nat.zero_add, List.drop_zero, List.take_zero, List.nil_append, List.take_succ_cons, List.length_cons, List.length_nil, hlk, List.take_nil, List.drop_nil, t1, t2, l2, List.length_append]
      refine br_t (by simp [bndB]; omega) fun _ => br_t ?_ (br_t (decide_eq_true ⟨by omega, by omega⟩) fun _ => br_t ?_ (br_t (by simp [bndB]; omega) fun _ => br_t ?_ ⟨i + 1, by rw [wrap_id (by omega) (by omega)]; rfl, trivial, ?_, ?_, by show i + 1 ≤ l.length; omega, by show l.length - (i + 1) < l.length - i; omega⟩))
      · rw [rm k (by omega)]; simp; omega
      · rw [rm (k + 1) (by omega)]; simp
      · rw [rm (k + 1 + (out.length - k)) (by omega)]; simp; omega
      · rw [hnext, insR_len]; omega
      · have t3 : (out.take k).take k = out.take k := List.take_of_length_le (by omega)
        rw [hnext, hput, t3]
        show (out.take k ++ [l.getD i noC]).take (k + 1) ++ out.drop k = _
        rw [t1]
        simp
  · have h1 := of_decide_eq_false h1
    have hi : i ≤ l.length := hi
    rw [insS_len, List.length_take]; omega
  · have h1 := of_decide_eq_false h1
    have hi : i ≤ l.length := hi
    rw [List.take_of_length_le (by omega)]

theorem legal_ok : SpecOK Tryz.prog 31 legalT.spec := by
  refine Tri.ok (E := legalE) (Env_ok (by decide +kernel) (by simp)) (n := 1000) legalT fun x hx => ?_
  rw [legal_vc]
  revert hx
  revert x
  intro (C : List CommitD) (hx : OkC C)
  have hg : ∀ i (h : i < C.length), C.getD i noM = C[i] := fun i h => by simp [List.getD, h]
  refine ⟨⟨0, rfl, Nat.zero_le _⟩, fun i hi hlen => br_i (fun h1 => ?_) (fun _ => ⟨(), rfl, trivial⟩)⟩
  have hlen : C.length * 56 ≤ room47 := hlen
  simp only [room47] at hlen
  have h1 := of_decide_eq_true h1
  have hil : i < C.length := by omega
  have bi : decide ((0 : Int) ≤ (i : Int) ∧ (i : Int) < (C.length : Int)) = true := decide_eq_true ⟨by omega, h1⟩
  have hr := hx.rev i hil
  have hb := hx.base i hil
  have hu := hx.unlike i hil
  have hc := hx.calm i hil
  rw [← hg i hil] at hr hb hu hc
  have e0 : (i : Int).toNat = i := rfl
  rw [e0]
  have w : IntKind.i64.wrap ((i : Int) + 1) = (i : Int) + 1 := wrap_id (by omega) (by omega)
  refine br_t bi (br_f ?_ (br_t bi (br_f (decide_eq_false (show ¬ (C.getD i noM).base < 0 by omega)) (br_t bi (br_f (decide_eq_false (show ¬ (C.getD i noM).base > (i : Int) by omega)) ⟨⟨0, rfl, Nat.zero_le _⟩, fun a ha => br_t bi fun hla => br_i (fun h2 => ?_) (fun h2 => ⟨i + 1, by rw [w]; rfl, by show i + 1 ≤ C.length; omega, by show C.length - (i + 1) < C.length - i; omega⟩)⟩)))))
  · rw [w]
    have : (C.getD i noM).rev = (i : Int) + 1 := hr
    show ((C.getD i noM).rev != (i : Int) + 1) = false
    rw [this]; simp
  have hla : (C.getD i noM).changes.length * 32 ≤ room47 := hla
  simp only [room47] at hla
  have h2 := of_decide_eq_true h2
  have e1 : (a : Int).toNat = a := rfl
  rw [e1]
  have hal : a < (C.getD i noM).changes.length := by
    have : (a : Int) < ((C.getD i noM).changes.length : Int) := h2
    omega
  have ba : decide ((0 : Int) ≤ (a : Int) ∧ (a : Int) < ((C.getD i noM).changes.length : Int)) = true := decide_eq_true ⟨by omega, h2⟩
  refine ⟨⟨0, rfl, Nat.zero_le _⟩, fun b hb' => br_i (fun h3 => ?_) (fun h3 => ?_)⟩
  · have h3 := of_decide_eq_true h3
    have hun := pair_at hu (i := b) (j := a) (by omega) hal
    refine br_t bi (br_t ba (br_t bi (br_t (decide_eq_true ⟨by omega, by show (b : Int) < ((C.getD i noM).changes.length : Int); omega⟩) (br_f ?_ ⟨b + 1, by rw [wrap_id (by omega) (by omega)]; rfl, by show b + 1 ≤ a; omega, by show a - (b + 1) < a - b; omega⟩))))
    show (((C.getD i noM).changes.getD a noC).path == ((C.getD i noM).changes.getD b noC).path) = false
    exact beq_eq_false_iff_ne.2 fun e => hun e.symm
  · obtain ⟨k0, hk0⟩ := Int.eq_ofNat_of_zero_le hb.1
    refine br_t bi ⟨⟨k0, hk0, by show (C.getD i noM).base ≤ (k0 : Int); omega, by omega⟩, fun k hk => br_i (fun h4 => ?_) (fun h4 => ⟨a + 1, by rw [wrap_id (by omega) (by omega)]; rfl, by show a + 1 ≤ (C.getD i noM).changes.length; omega, by show (C.getD i noM).changes.length - (a + 1) < (C.getD i noM).changes.length - a; omega⟩)⟩
    obtain ⟨k1, k2⟩ := hk
    have h4 := of_decide_eq_true h4
    have hkl : k < C.length := by omega
    have bk : decide ((0 : Int) ≤ (k : Int) ∧ (k : Int) < (C.length : Int)) = true := decide_eq_true ⟨by omega, by omega⟩
    have e2 : (k : Int).toNat = k := rfl
    rw [e2]
    have hcalm := hc k (by omega) k1 ((C.getD i noM).changes.getD a noC) (getD_mem hal)
    rw [← hg k hkl] at hcalm
    unfold hasP at hcalm
    refine ⟨⟨0, rfl, Nat.zero_le _⟩, fun q hq => br_t bk fun hlq => br_i (fun h5 => ?_) (fun h5 => ⟨k + 1, by rw [wrap_id (by omega) (by omega)]; rfl, ⟨by show (C.getD i noM).base ≤ ((k + 1 : Nat) : Int); have k1 : (C.getD i noM).base ≤ (k : Int) := k1; omega, by omega⟩, by show i - (k + 1) < i - k; omega⟩)⟩
    have hlq : (C.getD k noM).changes.length * 32 ≤ room47 := hlq
    simp only [room47] at hlq
    have h5 := of_decide_eq_true h5
    have hql : q < (C.getD k noM).changes.length := by
      have : (q : Int) < ((C.getD k noM).changes.length : Int) := h5
      omega
    refine br_t bk (br_t (decide_eq_true ⟨by omega, h5⟩) (br_t bi (br_t ba (br_f ?_ ⟨q + 1, by rw [wrap_id (by omega) (by omega)]; rfl, by show q + 1 ≤ (C.getD k noM).changes.length; omega, by show (C.getD k noM).changes.length - (q + 1) < (C.getD k noM).changes.length - q; omega⟩))))
    have := List.any_eq_false.1 hcalm ((C.getD k noM).changes.getD q noC) (getD_mem hql)
    show (((C.getD k noM).changes.getD q noC).path == ((C.getD i noM).changes.getD a noC).path) = false
    simpa using this

/-! ### loading -/

theorem land_two {x : LandA} (h : (landV x).code = 2) : badLd x = false ∧ landV x = vC 2 ((x.C.length : Int) + 1) [] ∧ landC x = x.C ++ [newC x] := by
  cases hb : badLd x
  · by_cases ha : x.base > x.C.length
    · rw [(land_ahead hb ha).1] at h; cases h
    · cases hc : confA x with
      | none => exact ⟨rfl, land_in hb ha hc⟩
      | some q => rw [(land_conf hb ha hc).1] at h; cases h
  · rw [(land_bad hb).1] at h; cases h
theorem sameC_eq : ∀ {a b : List ChangeD}, sameC a b = true → a = b
  | [], [], _ => rfl
  | [], y :: r, h => by cases h
  | x :: r, [], h => by cases h
  | x :: a, y :: b, h => by
    have h0 := same_at (a := x :: a) (b := y :: b) (i := 0) (by simp) (by simp)
    have h1 : (eqC x y && sameC a b) = true := by
      have e : sameC (x :: a) (y :: b) = (eqC x y && sameC a b) := h0
      rw [← e]; exact h
    rw [Bool.and_eq_true] at h1
    rw [eqC_iff.1 h1.1, sameC_eq h1.2]
structure StepOK (raw : List CommitD) (i : Nat) : Prop where
  code : (landV (loadA raw i)).code = 2
  rev : (landV (loadA raw i)).rev = (raw.getD i noM).rev
  same : insS (raw.getD i noM).changes = (raw.getD i noM).changes
theorem step_of {raw : List CommitD} {i : Nat} (h : stepB raw i = true) : StepOK raw i := by
  unfold stepB at h
  simp only [Bool.and_eq_true] at h
  exact ⟨eq_of_beq h.1, eq_of_beq h.2.1, sameC_eq h.2.2⟩
theorem step_land {raw : List CommitD} {i : Nat} (hi : i < raw.length) (h : StepOK raw i) : landC (loadA raw i) = raw.take (i + 1) ∧ (landV (loadA raw i)).rev = (i : Int) + 1 ∧ (raw.getD i noM).changes.length ≤ 16 := by
  obtain ⟨hb, hV, hC⟩ := land_two h.code
  have hl : (loadA raw i).C.length = i := by show (raw.take i).length = i; rw [List.length_take]; omega
  have hrev : (landV (loadA raw i)).rev = (i : Int) + 1 := by rw [hV, hl]; rfl
  refine ⟨?_, hrev, ?_⟩
  · rw [hC, take_succ_getD noM hi]
    show raw.take i ++ [newC (loadA raw i)] = _
    have e : newC (loadA raw i) = raw.getD i noM := by
      have e1 : ((loadA raw i).C.length : Int) + 1 = (raw.getD i noM).rev := by rw [hl, ← hrev]; exact h.rev
      have e2 : insS (loadA raw i).l = (raw.getD i noM).changes := h.same
      unfold newC
      rw [e1, e2]
      rfl
    rw [e]
  · exact (chk_few (chk_of_bad hb).1).1
theorem loads_few {raw : List CommitD} {i : Nat} (hi : i ≤ raw.length) (hl : raw.length ≤ 4000) (h : LoadsTo raw i) : fewG (raw.take i) = true := by
  unfold fewG
  simp only [Bool.and_eq_true, decide_eq_true_eq, List.all_eq_true]
  refine ⟨by rw [List.length_take]; omega, fun c hc => ?_⟩
  obtain ⟨j, hj⟩ := List.mem_iff_getElem?.1 hc
  rw [List.getElem?_take] at hj
  by_cases hji : j < i
  · rw [if_pos hji] at hj
    have e : raw.getD j noM = c := by simp [List.getD, hj]
    rw [← e]
    exact (step_land (by omega) (step_of (h j hji))).2.2
  · rw [if_neg hji] at hj; cases hj
theorem mayM_of {raw : List CommitD} (h : mayM raw = true) : raw.length ≤ 4000 ∧ ∀ i, i < raw.length → shortC (raw.getD i noM).changes = true := by
  unfold mayM at h
  simp only [Bool.and_eq_true, decide_eq_true_eq, List.all_eq_true] at h
  exact ⟨h.1, fun i hi => h.2 _ (getD_mem hi)⟩
theorem loads_suc {raw : List CommitD} {i : Nat} (h : LoadsTo raw i) (h1 : stepB raw i = true) : LoadsTo raw (i + 1) := fun j hj => by
  by_cases e : j < i
  · exact h j e
  · have : j = i := by omega
    subst this
    exact h1
theorem loadE_ok : EnvOK loadE := Env_ok (by decide +kernel) (by
  intro p hp
  simp only [List.mem_cons, List.mem_nil_iff, or_false] at hp
  rcases hp with rfl | rfl | rfl
  · exact gnew_ok
  · exact land_ok
  · exact same_ok)
theorem load1_ok : SpecOK Tryz.prog 34 load1T.spec := by
  refine Tri.ok (E := loadE) loadE_ok (n := 1000) load1T fun x hx => ?_
  rw [load1_vc]
  revert hx
  revert x
  intro (x : List CommitD) (hx : mayM x = true ∧ LoadsTo x x.length)
  obtain ⟨hm, hL⟩ := hx
  obtain ⟨m1, m2⟩ := mayM_of hm
  refine ⟨(), trivial, fun _ _ _ => ⟨⟨0, rfl, rfl, rfl, rfl, rfl, rfl, Nat.zero_le _, fun j hj => absurd hj (Nat.not_lt_zero _)⟩, fun i hi => br_i (fun h1 => ?_) (fun h1 => ?_)⟩⟩
  · obtain ⟨i1, i2⟩ := hi
    have h1 := of_decide_eq_true h1
    have hs := step_of (hL i (by omega))
    obtain ⟨s1, s2, s3⟩ := step_land (by omega) hs
    refine br_t (decide_eq_true ⟨by omega, h1⟩) ⟨loadA x i, rfl, rfl, rfl, rfl, rfl, rfl, rfl, rfl, ⟨loads_few i1 m1 i2, m2 i (by omega)⟩, fun _ _ => ?_⟩
    rw [s1, s2, hs.code]
    have hr : (x.getD i noM).rev = (i : Int) + 1 := by rw [← hs.rev, s2]
    have w : IntKind.i64.wrap ((i : Int) + 1 - 1) = (i : Int) := by rw [wrap_id (by omega) (by omega)]; omega
    rw [w]
    have e0 : 0 + (i : Int).toNat = i := by simp
    rw [e0]
    have tl : (x.take (i + 1)).length = i + 1 := by rw [List.length_take]; omega
    have tg : (x.take (i + 1)).getD i noM = x.getD i noM := by simp [List.getD, List.getElem?_take]
    refine br_f (by decide) (br_f ?_ (br_t (decide_eq_true ⟨by omega, by omega⟩) (br_t (decide_eq_true (by omega)) ⟨⟨(x.getD i noM).changes, (x.getD i noM).changes⟩, congrArg CommitD.changes tg, rfl, trivial, fun _ _ => br_f (by rw [sameC_self]; rfl) ⟨i + 1, by rw [wrap_id (by omega) (by omega)]; rfl, rfl, rfl, rfl, rfl, rfl, ⟨by omega, loads_suc i2 (hL i (by omega))⟩, by show x.length - (i + 1) < x.length - i; omega⟩⟩)))
    show ((i : Int) + 1 != (x.getD i noM).rev) = false
    rw [hr]; simp
  · obtain ⟨i1, i2⟩ := hi
    have h1 := of_decide_eq_false h1
    rw [List.take_of_length_le (by omega)]
    exact ⟨(), rfl, rfl, rfl, rfl, rfl, rfl, trivial⟩
theorem load2_ok : SpecOK Tryz.prog 34 load2T.spec := by
  refine Tri.ok (E := loadE) loadE_ok (n := 1000) load2T fun x hx => ?_
  rw [load2_vc]
  revert hx
  revert x
  intro (x : List CommitD) (hx : mayM x = true ∧ ¬ LoadsTo x x.length)
  obtain ⟨hm, hL⟩ := hx
  obtain ⟨m1, m2⟩ := mayM_of hm
  refine ⟨(), trivial, fun _ _ _ => ⟨⟨0, rfl, rfl, rfl, rfl, rfl, rfl, Nat.zero_le _, fun j hj => absurd hj (Nat.not_lt_zero _)⟩, fun i hi => br_i (fun h1 => ?_) (fun h1 => ?_)⟩⟩
  · obtain ⟨i1, i2⟩ := hi
    have h1 := of_decide_eq_true h1
    refine br_t (decide_eq_true ⟨by omega, h1⟩) ⟨loadA x i, rfl, rfl, rfl, rfl, rfl, rfl, rfl, rfl, ⟨loads_few i1 m1 i2, m2 i (by omega)⟩, fun _ _ => ?_⟩
    refine br_i (fun _ => ⟨(), rfl, trivial⟩) (fun g1 => br_i (fun _ => ⟨(), rfl, trivial⟩) (fun g2 => ?_))
    have g1 : (landV (loadA x i)).code = 2 := by simpa using g1
    have g2 : (landV (loadA x i)).rev = (x.getD i noM).rev := by
      have : ((landV (loadA x i)).rev != (x.getD i noM).rev) = false := g2
      simpa using this
    obtain ⟨hb, hV, hC⟩ := land_two g1
    have hl : (loadA x i).C.length = i := by show (x.take i).length = i; rw [List.length_take]; omega
    have hrev : (landV (loadA x i)).rev = (i : Int) + 1 := by rw [hV, hl]; rfl
    have hlC : (landC (loadA x i)).length = i + 1 := by rw [hC, List.length_append, hl]; rfl
    have hgC : ((landC (loadA x i)).getD i noM).changes = insS (x.getD i noM).changes := by
      rw [hC]
      have e := get_mid (loadA x i).C (newC (loadA x i)) [] noM
      rw [hl] at e
      rw [e]
      rfl
    rw [hrev]
    have w : IntKind.i64.wrap ((i : Int) + 1 - 1) = (i : Int) := by rw [wrap_id (by omega) (by omega)]; omega
    rw [w]
    have e0 : 0 + (i : Int).toNat = i := by simp
    rw [e0]
    refine br_t (decide_eq_true ⟨by omega, by omega⟩) (br_t (decide_eq_true (by omega)) ⟨⟨insS (x.getD i noM).changes, (x.getD i noM).changes⟩, hgC, rfl, trivial, fun _ _ => br_i (fun _ => ⟨(), rfl, trivial⟩) (fun g3 => ?_)⟩)
    have g3 : sameC (insS (x.getD i noM).changes) (x.getD i noM).changes = true := by rw [Bool.not_eq_false'] at g3; exact g3
    have hst : stepB x i = true := by
      unfold stepB
      rw [g3]
      show ((landV (loadA x i)).code == 2 && ((landV (loadA x i)).rev == (x.getD i noM).rev && true)) = true
      rw [g1, g2]; simp
    obtain ⟨s1, s2, s3⟩ := step_land (by omega) (step_of hst)
    rw [s1]
    exact ⟨i + 1, by rw [wrap_id (by omega) (by omega)]; rfl, rfl, rfl, rfl, rfl, rfl, ⟨by omega, loads_suc i2 hst⟩, by show x.length - (i + 1) < x.length - i; omega⟩
  · obtain ⟨i1, i2⟩ := hi
    have h1 := of_decide_eq_false h1
    have : i = x.length := by omega
    subst this
    exact absurd i2 hL
theorem gawake_ok : SpecOK Tryz.prog 15 gawakeT.spec := by
  refine Tri.ok (E := gawakeE) (Env_ok (by decide +kernel) (by
    intro p hp
    simp only [List.mem_cons, List.mem_nil_iff, or_false] at hp
    rcases hp with rfl | rfl | rfl
    · exact gnew_ok
    · exact land_ok
    · exact ghead_ok)) (n := 1000) gawakeT fun x hx => ?_
  rw [gawake_vc]
  exact ⟨(), trivial, fun _ _ => ⟨⟨[], 0, [], [⟨[97], false, 5⟩]⟩, rfl, rfl, by decide, rfl, rfl, rfl, rfl, rfl, rfl, ⟨by decide +kernel, by decide +kernel⟩, fun _ _ => ⟨⟨landC ⟨[], 0, [], [⟨[97], false, 5⟩]⟩, 0, [], [⟨[97], false, 6⟩]⟩, rfl, rfl, by decide, rfl, rfl, rfl, rfl, rfl, rfl, ⟨by decide +kernel, by decide +kernel⟩, fun _ _ => br_t (by decide +kernel) (br_t (by decide +kernel) (br_t (by decide +kernel) (br_t (by decide +kernel) (br_t (by decide +kernel) ⟨_, rfl, rfl, rfl, rfl, rfl, trivial, fun _ _ => ⟨(), by decide +kernel, trivial⟩⟩))))⟩⟩⟩
end Go.Proofs.YtildflamnehilaaGreat.Ses

namespace Go.Proofs.YtildflamnehilaaGreat.Ses
open Go Go.Proofs Go.Proofs.YtildflamnehilaaGreat.Sx Go.Proofs.YtildflamnehilaaGreat.Trx

section
variable {H : Type} {en : TypeId × Value → H} {w : World}

theorem op_change : Opens en Tryz.prog w 46 (enc .change) :=
  (opens_struct Tryz.underlying46 (by kernel_rfl) (opensF_cons (sz := 1) rfl (by kernel_rfl) (opens_str Tryz.underlying9) (opensF_cons (sz := 1) rfl (by kernel_rfl) (opens_bool Tryz.underlying4) (opensF_cons (sz := 1) rfl (by kernel_rfl) (opens_int Tryz.underlying35) opensF_nil)))).map
    (fun a => (⟨a.1, a.2.1, a.2.2.1⟩ : ChangeD)) (fun _ => rfl)
theorem op_changes : Opens en Tryz.prog w 39 (fun l : List ChangeD => [.rslice false .change l]) := opens_slice Tryz.underlying39 op_change (by kernel_rfl) (by kernel_rfl)
theorem op_deed : Opens en Tryz.prog w 41 (enc .deed5) :=
  (opens_struct Tryz.underlying41 (by kernel_rfl) (opensF_cons (sz := 1) rfl (by kernel_rfl) (opens_int Tryz.underlying3) (opensF_cons (sz := 1) rfl (by kernel_rfl) (opens_str Tryz.underlying9) (opensF_cons (sz := 1) rfl (by kernel_rfl) op_changes opensF_nil)))).map
    (fun a => (⟨a.1, a.2.1, a.2.2.1⟩ : Deed5D)) (fun _ => rfl)
theorem op_deeds : Opens en Tryz.prog w 22 (fun l : List Deed5D => [.rslice false .deed5 l]) := opens_slice Tryz.underlying22 op_deed (by kernel_rfl) (by kernel_rfl)
end
end Go.Proofs.YtildflamnehilaaGreat.Ses
