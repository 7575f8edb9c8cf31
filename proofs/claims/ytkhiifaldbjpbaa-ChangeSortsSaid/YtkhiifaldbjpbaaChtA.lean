/- The reference for changes, and the laws ChangeChecks and ChangeSorts: what the evaluator leaves, and that it holds. No condition. -/
import Derived.Test.YtkhiifaldbjpbaaChsC
import Derived.KernelRfl
set_option linter.unusedSimpArgs false
set_option linter.unusedVariables false

namespace Go.Proofs.Ytkhiifaldbjpbaa.Ses
open Go Go.Proofs Go.Proofs.Ytkhiifaldbjpbaa.Sx

def roomCB (l : List ChangeD) : Bool := decide (l.length ≤ 300) && l.all fun x => decide (x.path.length ≤ 300)
noncomputable def roomCT : Tri := { γ := List ChangeD, n0 := 0, args := fun l => [.rslice false .change l], blks := fun _ => [], pre := fun _ => True, δ := Unit, post := fun _ _ => True, n1 := 0, res := fun l _ => .bool (roomCB l), blks' := fun _ _ => [], scal := true }
noncomputable def roomCI : St → LInv := fun s => match getE s.env 0 with
  | .rslice _ .change l => { σ := Nat, I := fun i => i ≤ l.length ∧ ∀ (j : Nat) x, j < i → l[j]? = some x → x.path.length ≤ 300, μ := fun i => l.length - i, env := fun i => [(3, .int .i64 i)], blk := fun _ => [], fresh := 0, drop := [] }
  | _ => LInv.none
noncomputable def roomCE : Envr := Env Try.prog cod [] [(4, roomCI)]

def badC (l : List ChangeD) (i : Nat) : Bool := Nat.beq l.length 0 || decide (16 < l.length) || !(okUpto l i)
noncomputable def rcheckT : Tri := { γ := List ChangeD, n0 := 0, args := fun x => [.rslice false .change x], blks := fun _ => [], pre := fun x => shortC x = true, δ := Unit, post := fun _ _ => True, n1 := 0, res := fun x _ => .int .i64 (chkC x), blks' := fun _ _ => [], scal := true }
noncomputable def rcheckI : St → LInv := fun s => match getE s.env 0 with
  | .rslice _ .change l => { σ := Nat, I := fun i => i ≤ l.length, μ := fun i => l.length - i, env := fun i => [(4, .int .i64 i), (3, .bool (badC l i))], blk := fun _ => [], fresh := 0, drop := [] }
  | _ => LInv.none
noncomputable def rcheckJ : St → LInv := fun s => match getE s.env 0, getE s.env 4 with
  | .rslice _ .change l, .int _ i => { σ := Nat, I := fun k => k ≤ i.toNat, μ := fun k => i.toNat - k, env := fun k => [(7, .int .i64 k), (3, .bool (!(goodC (l.getD i.toNat ⟨[], false, 0⟩)) || hasC (l.getD i.toNat ⟨[], false, 0⟩).path (l.take k)))], blk := fun _ => [], fresh := 0, drop := [] }
  | _, _ => LInv.none
noncomputable def rcheckE : Envr := Env Try.prog cod [(38, normalT.spec)] [(3, rcheckI), (8, rcheckJ)]

noncomputable def rsameI : St → LInv := fun s => match getE s.env 0, getE s.env 1 with
  | .rslice _ .change a, .rslice _ .change b => { σ := Nat, I := fun i => i ≤ a.length ∧ sameC (a.drop i) (b.drop i) = sameC a b, μ := fun i => a.length - i, env := fun i => [(5, .int .i64 i)], blk := fun _ => [], fresh := 0, drop := [] }
  | _, _ => LInv.none
noncomputable def rsameE : Envr := Env Try.prog cod [] [(4, rsameI)]

noncomputable def rsortT : Tri := { γ := List ChangeD, n0 := 0, args := fun l => [.rslice false .change l], blks := fun _ => [], pre := fun l => shortC l = true ∧ fewX l = true, δ := Unit, post := fun _ _ => True, n1 := 1, res := fun l _ => .mslice .change 0 0 l.length, blks' := fun l _ => [(0, .rows .change (insS l))], scal := true }
noncomputable def rsortI : St → LInv := fun s => match getE s.env 0 with
  | .rslice _ .change l => { σ := Nat, I := fun i => i ≤ l.length, μ := fun i => l.length - i, env := fun i => [(4, .int .i64 i), (3, .mslice .change s.m.next 0 (insS (l.take i)).length)], blk := fun i => [(s.m.next, .rows .change (insS (l.take i)))], fresh := 1, drop := [] }
  | _ => LInv.none
noncomputable def rsortJ : St → LInv := fun s => match getE s.env 0, getE s.env 3, getE s.env 4 with
  | .rslice _ .change l, .mslice _ n _ _, .int _ i => (match s.m.blks.get n with
    | some (.rows .change out) => { σ := Nat, I := fun k => k ≤ out.length ∧ ∀ j, k ≤ j → j < out.length → cmpC (l.getD i.toNat ⟨[], false, 0⟩) (out.getD j ⟨[], false, 0⟩) < 0, μ := fun k => k, env := fun k => [(5, .int .i64 k)], blk := fun _ => [], fresh := 0, drop := [] }
    | _ => LInv.none)
  | _, _, _ => LInv.none
noncomputable def rsortE : Envr := Env Try.prog cod [(39, rcompareT.spec)] [(3, rsortI), (6, rsortJ)]

structure ChkA where
  l : List ChangeD
  k : List ChangeD
def chkArgs (x : ChkA) : List SV := [.rslice false .change x.l, .rslice false .change x.k]
def srtArgs (x : List ChangeD) : List SV := [.rslice false .change x]
abbrev ChaL := List ChangeD
noncomputable def claS : List (Nat × CallSpec) := [(44, cawakeT.spec), (46, roomCT.spec), (45, checkT.spec), (47, rcheckT.spec), (49, sorxT.spec), (50, rsortT.spec), (48, equalT.spec), (51, equalT.spec), (30, compareT.spec)]
noncomputable def claE : Envr := Env Try.prog cod claS []
noncomputable def csoI1 : St → LInv := fun s => match getE s.env 0 with
  | .rslice _ .change l => { σ := Nat, I := fun i => 1 ≤ i ∧ i ≤ l.length + 1 ∧ (i ≤ l.length ∨ l.length = 0), μ := fun i => l.length - i, env := fun i => [(6, .int .i64 i)], blk := fun _ => [], fresh := 0, drop := [] }
  | _ => LInv.none
noncomputable def csoI2 : St → LInv := fun s => match getE s.env 0 with
  | .rslice _ .change l => { σ := Nat, I := fun i => i ≤ l.length, μ := fun i => l.length - i, env := fun i => [(9, .int .i64 i), (8, .int .i64 i)], blk := fun _ => [], fresh := 0, drop := [] }
  | _ => LInv.none
noncomputable def csoI3 : St → LInv := fun s => match getE s.env 0, getE s.env 4, getE s.env 9 with
  | .rslice _ .change l, .mslice _ n _ _, .int _ i => (match s.m.blks.get n with
    | some (.rows .change t) => { σ := Nat, I := fun k => k ≤ t.length ∧ ∀ j, j < k → eqC (t.getD j ⟨[], false, 0⟩) (l.getD i.toNat ⟨[], false, 0⟩) = false, μ := fun k => t.length - k, env := fun k => [(10, .int .i64 k), (8, .int .i64 i)], blk := fun _ => [], fresh := 0, drop := [] }
    | _ => LInv.none)
  | _, _, _ => LInv.none
noncomputable def csoE : Envr := Env Try.prog cod claS [(11, csoI1), (18, csoI2), (21, csoI3)]
end Go.Proofs.Ytkhiifaldbjpbaa.Ses

namespace Go.Proofs.Ytkhiifaldbjpbaa.Ses
open Go Go.Proofs Go.Proofs.Ytkhiifaldbjpbaa.Sx
set_option maxRecDepth 100000

theorem roomc_vc (x : roomCT.γ) : evCall roomCE (ev roomCE 1000) 46 (roomCT.args x) ⟨roomCT.blks x, roomCT.n0, []⟩ (fun _ _ => False) (roomCT.ends x) = (
((@LE.le Nat _ (@HMul.hMul _ _ _ _ (@List.length ChangeD x) (32 : Nat)) room47) →
 (br (@Decidable.decide (@GT.gt Int _ (Nat.cast (@List.length ChangeD x) : Int) (300 : Int)) _)
 (∃ x1 : Unit,
 ((@Eq Bool Bool.false (@roomCB x)) ∧
 True))
 ((∃ x2 : Nat,
 ((@Eq Int (0 : Int) (Nat.cast x2 : Int)) ∧
 ((@LE.le Nat _ x2 (@List.length ChangeD x)) ∧
 (∀ x3 : Nat,
 (∀ x4 : ChangeD,
 ((@LT.lt Nat _ x3 x2) →
 ((@Eq (@Option ChangeD) (@GetElem?.getElem? (@List ChangeD) Nat ChangeD (fun x5 : (@List ChangeD) => (fun x6 : Nat => (@LT.lt Nat _ x6 (@List.length ChangeD x5)))) _ x x3) (@Option.some ChangeD x4)) →
 (@LE.le Nat _ (@List.length UInt8 (@ChangeD.path x4)) (300 : Nat))))))))) ∧
 (∀ x7 : Nat,
 (((@LE.le Nat _ x7 (@List.length ChangeD x)) ∧
 (∀ x8 : Nat,
 (∀ x9 : ChangeD,
 ((@LT.lt Nat _ x8 x7) →
 ((@Eq (@Option ChangeD) (@GetElem?.getElem? (@List ChangeD) Nat ChangeD (fun x10 : (@List ChangeD) => (fun x11 : Nat => (@LT.lt Nat _ x11 (@List.length ChangeD x10)))) _ x x8) (@Option.some ChangeD x9)) →
 (@LE.le Nat _ (@List.length UInt8 (@ChangeD.path x9)) (300 : Nat))))))) →
 ((@LE.le Nat _ (@HMul.hMul _ _ _ _ (@List.length ChangeD x) (32 : Nat)) room47) →
 (br (@Decidable.decide (@LT.lt Int _ (Nat.cast x7 : Int) (Nat.cast (@List.length ChangeD x) : Int)) _)
 (br (@Decidable.decide ((@LE.le Int _ (0 : Int) (Nat.cast x7 : Int)) ∧
 (@LT.lt Int _ (Nat.cast x7 : Int) (Nat.cast (@List.length ChangeD x) : Int))) _)
 ((@LE.le Nat _ (@List.length UInt8 (@ChangeD.path (@List.getD ChangeD x (@Int.toNat (Nat.cast x7 : Int)) (@ChangeD.mk (@List.nil UInt8) Bool.false (0 : Int))))) maxI64) →
 (br (@Decidable.decide (@GT.gt Int _ (Nat.cast (@List.length UInt8 (@ChangeD.path (@List.getD ChangeD x (@Int.toNat (Nat.cast x7 : Int)) (@ChangeD.mk (@List.nil UInt8) Bool.false (0 : Int))))) : Int) (300 : Int)) _)
 (∃ x12 : Unit,
 ((@Eq Bool Bool.false (@roomCB x)) ∧
 True))
 (∃ x13 : Nat,
 ((@Eq Int (@Go.IntKind.wrap Go.IntKind.i64 (@HAdd.hAdd Int Int Int _ (Nat.cast x7 : Int) (1 : Int))) (Nat.cast x13 : Int)) ∧
 (((@LE.le Nat _ x13 (@List.length ChangeD x)) ∧
 (∀ x14 : Nat,
 (∀ x15 : ChangeD,
 ((@LT.lt Nat _ x14 x13) →
 ((@Eq (@Option ChangeD) (@GetElem?.getElem? (@List ChangeD) Nat ChangeD (fun x16 : (@List ChangeD) => (fun x17 : Nat => (@LT.lt Nat _ x17 (@List.length ChangeD x16)))) _ x x14) (@Option.some ChangeD x15)) →
 (@LE.le Nat _ (@List.length UInt8 (@ChangeD.path x15)) (300 : Nat))))))) ∧
 (@LT.lt Nat _ (@Nat.sub (@List.length ChangeD x) x13) (@Nat.sub (@List.length ChangeD x) x7)))))))
 (Bad "check" "law.go:24"))
 (∃ x18 : Unit,
 ((@Eq Bool Bool.true (@roomCB x)) ∧
 True)))))))))) := by kernel_rfl

theorem rcheck_vc (x : rcheckT.γ) : evCall rcheckE (ev rcheckE 1000) 47 (rcheckT.args x) ⟨rcheckT.blks x, rcheckT.n0, []⟩ (fun _ _ => False) (rcheckT.ends x) = (
((@LE.le Nat _ (@HMul.hMul _ _ _ _ (@List.length ChangeD x) (32 : Nat)) room47) →
 (br (@BEq.beq Int _ (Nat.cast (@List.length ChangeD x) : Int) (0 : Int))
 ((∃ x1 : Nat,
 ((@Eq Int (0 : Int) (Nat.cast x1 : Int)) ∧
 ((@Eq Bool Bool.true (@badC x x1)) ∧
 (@Nat.le x1 (@List.length ChangeD x))))) ∧
 (∀ x2 : Nat,
 ((@Nat.le x2 (@List.length ChangeD x)) →
 ((@LE.le Nat _ (@HMul.hMul _ _ _ _ (@List.length ChangeD x) (32 : Nat)) room47) →
 (br (@Decidable.decide (@LT.lt Int _ (Nat.cast x2 : Int) (Nat.cast (@List.length ChangeD x) : Int)) _)
 (br (@Bool.not (@badC x x2))
 (br (@Decidable.decide ((@LE.le Int _ (0 : Int) (Nat.cast x2 : Int)) ∧
 (@LT.lt Int _ (Nat.cast x2 : Int) (Nat.cast (@List.length ChangeD x) : Int))) _)
 (∃ x3 : (@List UInt8),
 ((@Eq Bs (@ChangeD.path (@List.getD ChangeD x (@Int.toNat (Nat.cast x2 : Int)) (@ChangeD.mk (@List.nil UInt8) Bool.false (0 : Int)))) x3) ∧
 ((@Eq Bool (@shortB x3) Bool.true) ∧
 (∀ x4 : Unit,
 (True →
 (br (@Bool.not (@Option.isSome Bs (@normB x3)))
 ((∃ x5 : Nat,
 ((@Eq Int (0 : Int) (Nat.cast x5 : Int)) ∧
 ((@Eq Bool Bool.true (@Bool.or (@Bool.not (@goodC (@List.getD ChangeD x (@Int.toNat (Nat.cast x2 : Int)) (@ChangeD.mk (@List.nil UInt8) Bool.false (0 : Int))))) (@hasC (@ChangeD.path (@List.getD ChangeD x (@Int.toNat (Nat.cast x2 : Int)) (@ChangeD.mk (@List.nil UInt8) Bool.false (0 : Int)))) (@List.take ChangeD x5 x)))) ∧
 (@Nat.le x5 (@Int.toNat (Nat.cast x2 : Int)))))) ∧
 (∀ x6 : Nat,
 ((@Nat.le x6 (@Int.toNat (Nat.cast x2 : Int))) →
 (br (@Decidable.decide (@LT.lt Int _ (Nat.cast x6 : Int) (Nat.cast x2 : Int)) _)
 (br (@Bool.or (@Bool.not (@goodC (@List.getD ChangeD x (@Int.toNat (Nat.cast x2 : Int)) (@ChangeD.mk (@List.nil UInt8) Bool.false (0 : Int))))) (@hasC (@ChangeD.path (@List.getD ChangeD x (@Int.toNat (Nat.cast x2 : Int)) (@ChangeD.mk (@List.nil UInt8) Bool.false (0 : Int)))) (@List.take ChangeD x6 x)))
 (∃ x7 : Nat,
 ((@Eq Int (@Go.IntKind.wrap Go.IntKind.i64 (@HAdd.hAdd Int Int Int _ (Nat.cast x6 : Int) (1 : Int))) (Nat.cast x7 : Int)) ∧
 ((@Eq Bool Bool.true (@Bool.or (@Bool.not (@goodC (@List.getD ChangeD x (@Int.toNat (Nat.cast x2 : Int)) (@ChangeD.mk (@List.nil UInt8) Bool.false (0 : Int))))) (@hasC (@ChangeD.path (@List.getD ChangeD x (@Int.toNat (Nat.cast x2 : Int)) (@ChangeD.mk (@List.nil UInt8) Bool.false (0 : Int)))) (@List.take ChangeD x7 x)))) ∧
 ((@Nat.le x7 (@Int.toNat (Nat.cast x2 : Int))) ∧
 (@LT.lt Nat _ (@Nat.sub (@Int.toNat (Nat.cast x2 : Int)) x7) (@Nat.sub (@Int.toNat (Nat.cast x2 : Int)) x6))))))
 (br (@Decidable.decide ((@LE.le Int _ (0 : Int) (Nat.cast x6 : Int)) ∧
 (@LT.lt Int _ (Nat.cast x6 : Int) (Nat.cast (@List.length ChangeD x) : Int))) _)
 (br (@Decidable.decide ((@LE.le Int _ (0 : Int) (Nat.cast x2 : Int)) ∧
 (@LT.lt Int _ (Nat.cast x2 : Int) (Nat.cast (@List.length ChangeD x) : Int))) _)
 (∃ x8 : Nat,
 ((@Eq Int (@Go.IntKind.wrap Go.IntKind.i64 (@HAdd.hAdd Int Int Int _ (Nat.cast x6 : Int) (1 : Int))) (Nat.cast x8 : Int)) ∧
 ((@Eq Bool (@BEq.beq Bs _ (@ChangeD.path (@List.getD ChangeD x (@Int.toNat (Nat.cast x6 : Int)) (@ChangeD.mk (@List.nil UInt8) Bool.false (0 : Int)))) (@ChangeD.path (@List.getD ChangeD x (@Int.toNat (Nat.cast x2 : Int)) (@ChangeD.mk (@List.nil UInt8) Bool.false (0 : Int))))) (@Bool.or (@Bool.not (@goodC (@List.getD ChangeD x (@Int.toNat (Nat.cast x2 : Int)) (@ChangeD.mk (@List.nil UInt8) Bool.false (0 : Int))))) (@hasC (@ChangeD.path (@List.getD ChangeD x (@Int.toNat (Nat.cast x2 : Int)) (@ChangeD.mk (@List.nil UInt8) Bool.false (0 : Int)))) (@List.take ChangeD x8 x)))) ∧
 ((@Nat.le x8 (@Int.toNat (Nat.cast x2 : Int))) ∧
 (@LT.lt Nat _ (@Nat.sub (@Int.toNat (Nat.cast x2 : Int)) x8) (@Nat.sub (@Int.toNat (Nat.cast x2 : Int)) x6))))))
 (Bad "check" "ref.go:88"))
 (Bad "check" "ref.go:88")))
 (∃ x9 : Nat,
 ((@Eq Int (@Go.IntKind.wrap Go.IntKind.i64 (@HAdd.hAdd Int Int Int _ (Nat.cast x2 : Int) (1 : Int))) (Nat.cast x9 : Int)) ∧
 ((@Eq Bool (@Bool.or (@Bool.not (@goodC (@List.getD ChangeD x (@Int.toNat (Nat.cast x2 : Int)) (@ChangeD.mk (@List.nil UInt8) Bool.false (0 : Int))))) (@hasC (@ChangeD.path (@List.getD ChangeD x (@Int.toNat (Nat.cast x2 : Int)) (@ChangeD.mk (@List.nil UInt8) Bool.false (0 : Int)))) (@List.take ChangeD x6 x))) (@badC x x9)) ∧
 ((@Nat.le x9 (@List.length ChangeD x)) ∧
 (@LT.lt Nat _ (@Nat.sub (@List.length ChangeD x) x9) (@Nat.sub (@List.length ChangeD x) x2))))))))))
 (br (@Decidable.decide ((@LE.le Int _ (0 : Int) (Nat.cast x2 : Int)) ∧
 (@LT.lt Int _ (Nat.cast x2 : Int) (Nat.cast (@List.length ChangeD x) : Int))) _)
 (br (@Bool.not (@BEq.beq Bs _ (@Option.getD Bs (@normB x3) (@List.nil UInt8)) (@ChangeD.path (@List.getD ChangeD x (@Int.toNat (Nat.cast x2 : Int)) (@ChangeD.mk (@List.nil UInt8) Bool.false (0 : Int))))))
 ((∃ x10 : Nat,
 ((@Eq Int (0 : Int) (Nat.cast x10 : Int)) ∧
 ((@Eq Bool Bool.true (@Bool.or (@Bool.not (@goodC (@List.getD ChangeD x (@Int.toNat (Nat.cast x2 : Int)) (@ChangeD.mk (@List.nil UInt8) Bool.false (0 : Int))))) (@hasC (@ChangeD.path (@List.getD ChangeD x (@Int.toNat (Nat.cast x2 : Int)) (@ChangeD.mk (@List.nil UInt8) Bool.false (0 : Int)))) (@List.take ChangeD x10 x)))) ∧
 (@Nat.le x10 (@Int.toNat (Nat.cast x2 : Int)))))) ∧
 (∀ x11 : Nat,
 ((@Nat.le x11 (@Int.toNat (Nat.cast x2 : Int))) →
 (br (@Decidable.decide (@LT.lt Int _ (Nat.cast x11 : Int) (Nat.cast x2 : Int)) _)
 (br (@Bool.or (@Bool.not (@goodC (@List.getD ChangeD x (@Int.toNat (Nat.cast x2 : Int)) (@ChangeD.mk (@List.nil UInt8) Bool.false (0 : Int))))) (@hasC (@ChangeD.path (@List.getD ChangeD x (@Int.toNat (Nat.cast x2 : Int)) (@ChangeD.mk (@List.nil UInt8) Bool.false (0 : Int)))) (@List.take ChangeD x11 x)))
 (∃ x12 : Nat,
 ((@Eq Int (@Go.IntKind.wrap Go.IntKind.i64 (@HAdd.hAdd Int Int Int _ (Nat.cast x11 : Int) (1 : Int))) (Nat.cast x12 : Int)) ∧
 ((@Eq Bool Bool.true (@Bool.or (@Bool.not (@goodC (@List.getD ChangeD x (@Int.toNat (Nat.cast x2 : Int)) (@ChangeD.mk (@List.nil UInt8) Bool.false (0 : Int))))) (@hasC (@ChangeD.path (@List.getD ChangeD x (@Int.toNat (Nat.cast x2 : Int)) (@ChangeD.mk (@List.nil UInt8) Bool.false (0 : Int)))) (@List.take ChangeD x12 x)))) ∧
 ((@Nat.le x12 (@Int.toNat (Nat.cast x2 : Int))) ∧
 (@LT.lt Nat _ (@Nat.sub (@Int.toNat (Nat.cast x2 : Int)) x12) (@Nat.sub (@Int.toNat (Nat.cast x2 : Int)) x11))))))
 (br (@Decidable.decide ((@LE.le Int _ (0 : Int) (Nat.cast x11 : Int)) ∧
 (@LT.lt Int _ (Nat.cast x11 : Int) (Nat.cast (@List.length ChangeD x) : Int))) _)
 (br (@Decidable.decide ((@LE.le Int _ (0 : Int) (Nat.cast x2 : Int)) ∧
 (@LT.lt Int _ (Nat.cast x2 : Int) (Nat.cast (@List.length ChangeD x) : Int))) _)
 (∃ x13 : Nat,
 ((@Eq Int (@Go.IntKind.wrap Go.IntKind.i64 (@HAdd.hAdd Int Int Int _ (Nat.cast x11 : Int) (1 : Int))) (Nat.cast x13 : Int)) ∧
 ((@Eq Bool (@BEq.beq Bs _ (@ChangeD.path (@List.getD ChangeD x (@Int.toNat (Nat.cast x11 : Int)) (@ChangeD.mk (@List.nil UInt8) Bool.false (0 : Int)))) (@ChangeD.path (@List.getD ChangeD x (@Int.toNat (Nat.cast x2 : Int)) (@ChangeD.mk (@List.nil UInt8) Bool.false (0 : Int))))) (@Bool.or (@Bool.not (@goodC (@List.getD ChangeD x (@Int.toNat (Nat.cast x2 : Int)) (@ChangeD.mk (@List.nil UInt8) Bool.false (0 : Int))))) (@hasC (@ChangeD.path (@List.getD ChangeD x (@Int.toNat (Nat.cast x2 : Int)) (@ChangeD.mk (@List.nil UInt8) Bool.false (0 : Int)))) (@List.take ChangeD x13 x)))) ∧
 ((@Nat.le x13 (@Int.toNat (Nat.cast x2 : Int))) ∧
 (@LT.lt Nat _ (@Nat.sub (@Int.toNat (Nat.cast x2 : Int)) x13) (@Nat.sub (@Int.toNat (Nat.cast x2 : Int)) x11))))))
 (Bad "check" "ref.go:88"))
 (Bad "check" "ref.go:88")))
 (∃ x14 : Nat,
 ((@Eq Int (@Go.IntKind.wrap Go.IntKind.i64 (@HAdd.hAdd Int Int Int _ (Nat.cast x2 : Int) (1 : Int))) (Nat.cast x14 : Int)) ∧
 ((@Eq Bool (@Bool.or (@Bool.not (@goodC (@List.getD ChangeD x (@Int.toNat (Nat.cast x2 : Int)) (@ChangeD.mk (@List.nil UInt8) Bool.false (0 : Int))))) (@hasC (@ChangeD.path (@List.getD ChangeD x (@Int.toNat (Nat.cast x2 : Int)) (@ChangeD.mk (@List.nil UInt8) Bool.false (0 : Int)))) (@List.take ChangeD x11 x))) (@badC x x14)) ∧
 ((@Nat.le x14 (@List.length ChangeD x)) ∧
 (@LT.lt Nat _ (@Nat.sub (@List.length ChangeD x) x14) (@Nat.sub (@List.length ChangeD x) x2))))))))))
 (br (@Decidable.decide ((@LE.le Int _ (0 : Int) (Nat.cast x2 : Int)) ∧
 (@LT.lt Int _ (Nat.cast x2 : Int) (Nat.cast (@List.length ChangeD x) : Int))) _)
 (br (@ChangeD.gone (@List.getD ChangeD x (@Int.toNat (Nat.cast x2 : Int)) (@ChangeD.mk (@List.nil UInt8) Bool.false (0 : Int))))
 (br (@Decidable.decide ((@LE.le Int _ (0 : Int) (Nat.cast x2 : Int)) ∧
 (@LT.lt Int _ (Nat.cast x2 : Int) (Nat.cast (@List.length ChangeD x) : Int))) _)
 ((∃ x15 : Nat,
 ((@Eq Int (0 : Int) (Nat.cast x15 : Int)) ∧
 ((@Eq Bool (@bne Int _ (@ChangeD.digest (@List.getD ChangeD x (@Int.toNat (Nat.cast x2 : Int)) (@ChangeD.mk (@List.nil UInt8) Bool.false (0 : Int)))) (0 : Int)) (@Bool.or (@Bool.not (@goodC (@List.getD ChangeD x (@Int.toNat (Nat.cast x2 : Int)) (@ChangeD.mk (@List.nil UInt8) Bool.false (0 : Int))))) (@hasC (@ChangeD.path (@List.getD ChangeD x (@Int.toNat (Nat.cast x2 : Int)) (@ChangeD.mk (@List.nil UInt8) Bool.false (0 : Int)))) (@List.take ChangeD x15 x)))) ∧
 (@Nat.le x15 (@Int.toNat (Nat.cast x2 : Int)))))) ∧
 (∀ x16 : Nat,
 ((@Nat.le x16 (@Int.toNat (Nat.cast x2 : Int))) →
 (br (@Decidable.decide (@LT.lt Int _ (Nat.cast x16 : Int) (Nat.cast x2 : Int)) _)
 (br (@Bool.or (@Bool.not (@goodC (@List.getD ChangeD x (@Int.toNat (Nat.cast x2 : Int)) (@ChangeD.mk (@List.nil UInt8) Bool.false (0 : Int))))) (@hasC (@ChangeD.path (@List.getD ChangeD x (@Int.toNat (Nat.cast x2 : Int)) (@ChangeD.mk (@List.nil UInt8) Bool.false (0 : Int)))) (@List.take ChangeD x16 x)))
 (∃ x17 : Nat,
 ((@Eq Int (@Go.IntKind.wrap Go.IntKind.i64 (@HAdd.hAdd Int Int Int _ (Nat.cast x16 : Int) (1 : Int))) (Nat.cast x17 : Int)) ∧
 ((@Eq Bool Bool.true (@Bool.or (@Bool.not (@goodC (@List.getD ChangeD x (@Int.toNat (Nat.cast x2 : Int)) (@ChangeD.mk (@List.nil UInt8) Bool.false (0 : Int))))) (@hasC (@ChangeD.path (@List.getD ChangeD x (@Int.toNat (Nat.cast x2 : Int)) (@ChangeD.mk (@List.nil UInt8) Bool.false (0 : Int)))) (@List.take ChangeD x17 x)))) ∧
 ((@Nat.le x17 (@Int.toNat (Nat.cast x2 : Int))) ∧
 (@LT.lt Nat _ (@Nat.sub (@Int.toNat (Nat.cast x2 : Int)) x17) (@Nat.sub (@Int.toNat (Nat.cast x2 : Int)) x16))))))
 (br (@Decidable.decide ((@LE.le Int _ (0 : Int) (Nat.cast x16 : Int)) ∧
 (@LT.lt Int _ (Nat.cast x16 : Int) (Nat.cast (@List.length ChangeD x) : Int))) _)
 (br (@Decidable.decide ((@LE.le Int _ (0 : Int) (Nat.cast x2 : Int)) ∧
 (@LT.lt Int _ (Nat.cast x2 : Int) (Nat.cast (@List.length ChangeD x) : Int))) _)
 (∃ x18 : Nat,
 ((@Eq Int (@Go.IntKind.wrap Go.IntKind.i64 (@HAdd.hAdd Int Int Int _ (Nat.cast x16 : Int) (1 : Int))) (Nat.cast x18 : Int)) ∧
 ((@Eq Bool (@BEq.beq Bs _ (@ChangeD.path (@List.getD ChangeD x (@Int.toNat (Nat.cast x16 : Int)) (@ChangeD.mk (@List.nil UInt8) Bool.false (0 : Int)))) (@ChangeD.path (@List.getD ChangeD x (@Int.toNat (Nat.cast x2 : Int)) (@ChangeD.mk (@List.nil UInt8) Bool.false (0 : Int))))) (@Bool.or (@Bool.not (@goodC (@List.getD ChangeD x (@Int.toNat (Nat.cast x2 : Int)) (@ChangeD.mk (@List.nil UInt8) Bool.false (0 : Int))))) (@hasC (@ChangeD.path (@List.getD ChangeD x (@Int.toNat (Nat.cast x2 : Int)) (@ChangeD.mk (@List.nil UInt8) Bool.false (0 : Int)))) (@List.take ChangeD x18 x)))) ∧
 ((@Nat.le x18 (@Int.toNat (Nat.cast x2 : Int))) ∧
 (@LT.lt Nat _ (@Nat.sub (@Int.toNat (Nat.cast x2 : Int)) x18) (@Nat.sub (@Int.toNat (Nat.cast x2 : Int)) x16))))))
 (Bad "check" "ref.go:88"))
 (Bad "check" "ref.go:88")))
 (∃ x19 : Nat,
 ((@Eq Int (@Go.IntKind.wrap Go.IntKind.i64 (@HAdd.hAdd Int Int Int _ (Nat.cast x2 : Int) (1 : Int))) (Nat.cast x19 : Int)) ∧
 ((@Eq Bool (@Bool.or (@Bool.not (@goodC (@List.getD ChangeD x (@Int.toNat (Nat.cast x2 : Int)) (@ChangeD.mk (@List.nil UInt8) Bool.false (0 : Int))))) (@hasC (@ChangeD.path (@List.getD ChangeD x (@Int.toNat (Nat.cast x2 : Int)) (@ChangeD.mk (@List.nil UInt8) Bool.false (0 : Int)))) (@List.take ChangeD x16 x))) (@badC x x19)) ∧
 ((@Nat.le x19 (@List.length ChangeD x)) ∧
 (@LT.lt Nat _ (@Nat.sub (@List.length ChangeD x) x19) (@Nat.sub (@List.length ChangeD x) x2))))))))))
 (Bad "check" "ref.go:86"))
 ((∃ x20 : Nat,
 ((@Eq Int (0 : Int) (Nat.cast x20 : Int)) ∧
 ((@Eq Bool Bool.false (@Bool.or (@Bool.not (@goodC (@List.getD ChangeD x (@Int.toNat (Nat.cast x2 : Int)) (@ChangeD.mk (@List.nil UInt8) Bool.false (0 : Int))))) (@hasC (@ChangeD.path (@List.getD ChangeD x (@Int.toNat (Nat.cast x2 : Int)) (@ChangeD.mk (@List.nil UInt8) Bool.false (0 : Int)))) (@List.take ChangeD x20 x)))) ∧
 (@Nat.le x20 (@Int.toNat (Nat.cast x2 : Int)))))) ∧
 (∀ x21 : Nat,
 ((@Nat.le x21 (@Int.toNat (Nat.cast x2 : Int))) →
 (br (@Decidable.decide (@LT.lt Int _ (Nat.cast x21 : Int) (Nat.cast x2 : Int)) _)
 (br (@Bool.or (@Bool.not (@goodC (@List.getD ChangeD x (@Int.toNat (Nat.cast x2 : Int)) (@ChangeD.mk (@List.nil UInt8) Bool.false (0 : Int))))) (@hasC (@ChangeD.path (@List.getD ChangeD x (@Int.toNat (Nat.cast x2 : Int)) (@ChangeD.mk (@List.nil UInt8) Bool.false (0 : Int)))) (@List.take ChangeD x21 x)))
 (∃ x22 : Nat,
 ((@Eq Int (@Go.IntKind.wrap Go.IntKind.i64 (@HAdd.hAdd Int Int Int _ (Nat.cast x21 : Int) (1 : Int))) (Nat.cast x22 : Int)) ∧
 ((@Eq Bool Bool.true (@Bool.or (@Bool.not (@goodC (@List.getD ChangeD x (@Int.toNat (Nat.cast x2 : Int)) (@ChangeD.mk (@List.nil UInt8) Bool.false (0 : Int))))) (@hasC (@ChangeD.path (@List.getD ChangeD x (@Int.toNat (Nat.cast x2 : Int)) (@ChangeD.mk (@List.nil UInt8) Bool.false (0 : Int)))) (@List.take ChangeD x22 x)))) ∧
 ((@Nat.le x22 (@Int.toNat (Nat.cast x2 : Int))) ∧
 (@LT.lt Nat _ (@Nat.sub (@Int.toNat (Nat.cast x2 : Int)) x22) (@Nat.sub (@Int.toNat (Nat.cast x2 : Int)) x21))))))
 (br (@Decidable.decide ((@LE.le Int _ (0 : Int) (Nat.cast x21 : Int)) ∧
 (@LT.lt Int _ (Nat.cast x21 : Int) (Nat.cast (@List.length ChangeD x) : Int))) _)
 (br (@Decidable.decide ((@LE.le Int _ (0 : Int) (Nat.cast x2 : Int)) ∧
 (@LT.lt Int _ (Nat.cast x2 : Int) (Nat.cast (@List.length ChangeD x) : Int))) _)
 (∃ x23 : Nat,
 ((@Eq Int (@Go.IntKind.wrap Go.IntKind.i64 (@HAdd.hAdd Int Int Int _ (Nat.cast x21 : Int) (1 : Int))) (Nat.cast x23 : Int)) ∧
 ((@Eq Bool (@BEq.beq Bs _ (@ChangeD.path (@List.getD ChangeD x (@Int.toNat (Nat.cast x21 : Int)) (@ChangeD.mk (@List.nil UInt8) Bool.false (0 : Int)))) (@ChangeD.path (@List.getD ChangeD x (@Int.toNat (Nat.cast x2 : Int)) (@ChangeD.mk (@List.nil UInt8) Bool.false (0 : Int))))) (@Bool.or (@Bool.not (@goodC (@List.getD ChangeD x (@Int.toNat (Nat.cast x2 : Int)) (@ChangeD.mk (@List.nil UInt8) Bool.false (0 : Int))))) (@hasC (@ChangeD.path (@List.getD ChangeD x (@Int.toNat (Nat.cast x2 : Int)) (@ChangeD.mk (@List.nil UInt8) Bool.false (0 : Int)))) (@List.take ChangeD x23 x)))) ∧
 ((@Nat.le x23 (@Int.toNat (Nat.cast x2 : Int))) ∧
 (@LT.lt Nat _ (@Nat.sub (@Int.toNat (Nat.cast x2 : Int)) x23) (@Nat.sub (@Int.toNat (Nat.cast x2 : Int)) x21))))))
 (Bad "check" "ref.go:88"))
 (Bad "check" "ref.go:88")))
 (∃ x24 : Nat,
 ((@Eq Int (@Go.IntKind.wrap Go.IntKind.i64 (@HAdd.hAdd Int Int Int _ (Nat.cast x2 : Int) (1 : Int))) (Nat.cast x24 : Int)) ∧
 ((@Eq Bool (@Bool.or (@Bool.not (@goodC (@List.getD ChangeD x (@Int.toNat (Nat.cast x2 : Int)) (@ChangeD.mk (@List.nil UInt8) Bool.false (0 : Int))))) (@hasC (@ChangeD.path (@List.getD ChangeD x (@Int.toNat (Nat.cast x2 : Int)) (@ChangeD.mk (@List.nil UInt8) Bool.false (0 : Int)))) (@List.take ChangeD x21 x))) (@badC x x24)) ∧
 ((@Nat.le x24 (@List.length ChangeD x)) ∧
 (@LT.lt Nat _ (@Nat.sub (@List.length ChangeD x) x24) (@Nat.sub (@List.length ChangeD x) x2)))))))))))
 (Bad "check" "ref.go:86")))
 (Bad "check" "ref.go:86"))))))))
 (Bad "check" "ref.go:85"))
 (br (@badC x x2)
 (∃ x25 : Unit,
 ((@Eq Int (1 : Int) (@chkC x)) ∧
 True))
 (∃ x26 : Unit,
 ((@Eq Int (0 : Int) (@chkC x)) ∧
 True))))
 (br (@badC x x2)
 (∃ x27 : Unit,
 ((@Eq Int (1 : Int) (@chkC x)) ∧
 True))
 (∃ x28 : Unit,
 ((@Eq Int (0 : Int) (@chkC x)) ∧
 True))))))))
 ((@LE.le Nat _ (@HMul.hMul _ _ _ _ (@List.length ChangeD x) (32 : Nat)) room47) →
 ((∃ x29 : Nat,
 ((@Eq Int (0 : Int) (Nat.cast x29 : Int)) ∧
 ((@Eq Bool (@Decidable.decide (@GT.gt Int _ (Nat.cast (@List.length ChangeD x) : Int) (16 : Int)) _) (@badC x x29)) ∧
 (@Nat.le x29 (@List.length ChangeD x))))) ∧
 (∀ x30 : Nat,
 ((@Nat.le x30 (@List.length ChangeD x)) →
 ((@LE.le Nat _ (@HMul.hMul _ _ _ _ (@List.length ChangeD x) (32 : Nat)) room47) →
 (br (@Decidable.decide (@LT.lt Int _ (Nat.cast x30 : Int) (Nat.cast (@List.length ChangeD x) : Int)) _)
 (br (@Bool.not (@badC x x30))
 (br (@Decidable.decide ((@LE.le Int _ (0 : Int) (Nat.cast x30 : Int)) ∧
 (@LT.lt Int _ (Nat.cast x30 : Int) (Nat.cast (@List.length ChangeD x) : Int))) _)
 (∃ x31 : (@List UInt8),
 ((@Eq Bs (@ChangeD.path (@List.getD ChangeD x (@Int.toNat (Nat.cast x30 : Int)) (@ChangeD.mk (@List.nil UInt8) Bool.false (0 : Int)))) x31) ∧
 ((@Eq Bool (@shortB x31) Bool.true) ∧
 (∀ x32 : Unit,
 (True →
 (br (@Bool.not (@Option.isSome Bs (@normB x31)))
 ((∃ x33 : Nat,
 ((@Eq Int (0 : Int) (Nat.cast x33 : Int)) ∧
 ((@Eq Bool Bool.true (@Bool.or (@Bool.not (@goodC (@List.getD ChangeD x (@Int.toNat (Nat.cast x30 : Int)) (@ChangeD.mk (@List.nil UInt8) Bool.false (0 : Int))))) (@hasC (@ChangeD.path (@List.getD ChangeD x (@Int.toNat (Nat.cast x30 : Int)) (@ChangeD.mk (@List.nil UInt8) Bool.false (0 : Int)))) (@List.take ChangeD x33 x)))) ∧
 (@Nat.le x33 (@Int.toNat (Nat.cast x30 : Int)))))) ∧
 (∀ x34 : Nat,
 ((@Nat.le x34 (@Int.toNat (Nat.cast x30 : Int))) →
 (br (@Decidable.decide (@LT.lt Int _ (Nat.cast x34 : Int) (Nat.cast x30 : Int)) _)
 (br (@Bool.or (@Bool.not (@goodC (@List.getD ChangeD x (@Int.toNat (Nat.cast x30 : Int)) (@ChangeD.mk (@List.nil UInt8) Bool.false (0 : Int))))) (@hasC (@ChangeD.path (@List.getD ChangeD x (@Int.toNat (Nat.cast x30 : Int)) (@ChangeD.mk (@List.nil UInt8) Bool.false (0 : Int)))) (@List.take ChangeD x34 x)))
 (∃ x35 : Nat,
 ((@Eq Int (@Go.IntKind.wrap Go.IntKind.i64 (@HAdd.hAdd Int Int Int _ (Nat.cast x34 : Int) (1 : Int))) (Nat.cast x35 : Int)) ∧
 ((@Eq Bool Bool.true (@Bool.or (@Bool.not (@goodC (@List.getD ChangeD x (@Int.toNat (Nat.cast x30 : Int)) (@ChangeD.mk (@List.nil UInt8) Bool.false (0 : Int))))) (@hasC (@ChangeD.path (@List.getD ChangeD x (@Int.toNat (Nat.cast x30 : Int)) (@ChangeD.mk (@List.nil UInt8) Bool.false (0 : Int)))) (@List.take ChangeD x35 x)))) ∧
 ((@Nat.le x35 (@Int.toNat (Nat.cast x30 : Int))) ∧
 (@LT.lt Nat _ (@Nat.sub (@Int.toNat (Nat.cast x30 : Int)) x35) (@Nat.sub (@Int.toNat (Nat.cast x30 : Int)) x34))))))
 (br (@Decidable.decide ((@LE.le Int _ (0 : Int) (Nat.cast x34 : Int)) ∧
 (@LT.lt Int _ (Nat.cast x34 : Int) (Nat.cast (@List.length ChangeD x) : Int))) _)
 (br (@Decidable.decide ((@LE.le Int _ (0 : Int) (Nat.cast x30 : Int)) ∧
 (@LT.lt Int _ (Nat.cast x30 : Int) (Nat.cast (@List.length ChangeD x) : Int))) _)
 (∃ x36 : Nat,
 ((@Eq Int (@Go.IntKind.wrap Go.IntKind.i64 (@HAdd.hAdd Int Int Int _ (Nat.cast x34 : Int) (1 : Int))) (Nat.cast x36 : Int)) ∧
 ((@Eq Bool (@BEq.beq Bs _ (@ChangeD.path (@List.getD ChangeD x (@Int.toNat (Nat.cast x34 : Int)) (@ChangeD.mk (@List.nil UInt8) Bool.false (0 : Int)))) (@ChangeD.path (@List.getD ChangeD x (@Int.toNat (Nat.cast x30 : Int)) (@ChangeD.mk (@List.nil UInt8) Bool.false (0 : Int))))) (@Bool.or (@Bool.not (@goodC (@List.getD ChangeD x (@Int.toNat (Nat.cast x30 : Int)) (@ChangeD.mk (@List.nil UInt8) Bool.false (0 : Int))))) (@hasC (@ChangeD.path (@List.getD ChangeD x (@Int.toNat (Nat.cast x30 : Int)) (@ChangeD.mk (@List.nil UInt8) Bool.false (0 : Int)))) (@List.take ChangeD x36 x)))) ∧
 ((@Nat.le x36 (@Int.toNat (Nat.cast x30 : Int))) ∧
 (@LT.lt Nat _ (@Nat.sub (@Int.toNat (Nat.cast x30 : Int)) x36) (@Nat.sub (@Int.toNat (Nat.cast x30 : Int)) x34))))))
 (Bad "check" "ref.go:88"))
 (Bad "check" "ref.go:88")))
 (∃ x37 : Nat,
 ((@Eq Int (@Go.IntKind.wrap Go.IntKind.i64 (@HAdd.hAdd Int Int Int _ (Nat.cast x30 : Int) (1 : Int))) (Nat.cast x37 : Int)) ∧
 ((@Eq Bool (@Bool.or (@Bool.not (@goodC (@List.getD ChangeD x (@Int.toNat (Nat.cast x30 : Int)) (@ChangeD.mk (@List.nil UInt8) Bool.false (0 : Int))))) (@hasC (@ChangeD.path (@List.getD ChangeD x (@Int.toNat (Nat.cast x30 : Int)) (@ChangeD.mk (@List.nil UInt8) Bool.false (0 : Int)))) (@List.take ChangeD x34 x))) (@badC x x37)) ∧
 ((@Nat.le x37 (@List.length ChangeD x)) ∧
 (@LT.lt Nat _ (@Nat.sub (@List.length ChangeD x) x37) (@Nat.sub (@List.length ChangeD x) x30))))))))))
 (br (@Decidable.decide ((@LE.le Int _ (0 : Int) (Nat.cast x30 : Int)) ∧
 (@LT.lt Int _ (Nat.cast x30 : Int) (Nat.cast (@List.length ChangeD x) : Int))) _)
 (br (@Bool.not (@BEq.beq Bs _ (@Option.getD Bs (@normB x31) (@List.nil UInt8)) (@ChangeD.path (@List.getD ChangeD x (@Int.toNat (Nat.cast x30 : Int)) (@ChangeD.mk (@List.nil UInt8) Bool.false (0 : Int))))))
 ((∃ x38 : Nat,
 ((@Eq Int (0 : Int) (Nat.cast x38 : Int)) ∧
 ((@Eq Bool Bool.true (@Bool.or (@Bool.not (@goodC (@List.getD ChangeD x (@Int.toNat (Nat.cast x30 : Int)) (@ChangeD.mk (@List.nil UInt8) Bool.false (0 : Int))))) (@hasC (@ChangeD.path (@List.getD ChangeD x (@Int.toNat (Nat.cast x30 : Int)) (@ChangeD.mk (@List.nil UInt8) Bool.false (0 : Int)))) (@List.take ChangeD x38 x)))) ∧
 (@Nat.le x38 (@Int.toNat (Nat.cast x30 : Int)))))) ∧
 (∀ x39 : Nat,
 ((@Nat.le x39 (@Int.toNat (Nat.cast x30 : Int))) →
 (br (@Decidable.decide (@LT.lt Int _ (Nat.cast x39 : Int) (Nat.cast x30 : Int)) _)
 (br (@Bool.or (@Bool.not (@goodC (@List.getD ChangeD x (@Int.toNat (Nat.cast x30 : Int)) (@ChangeD.mk (@List.nil UInt8) Bool.false (0 : Int))))) (@hasC (@ChangeD.path (@List.getD ChangeD x (@Int.toNat (Nat.cast x30 : Int)) (@ChangeD.mk (@List.nil UInt8) Bool.false (0 : Int)))) (@List.take ChangeD x39 x)))
 (∃ x40 : Nat,
 ((@Eq Int (@Go.IntKind.wrap Go.IntKind.i64 (@HAdd.hAdd Int Int Int _ (Nat.cast x39 : Int) (1 : Int))) (Nat.cast x40 : Int)) ∧
 ((@Eq Bool Bool.true (@Bool.or (@Bool.not (@goodC (@List.getD ChangeD x (@Int.toNat (Nat.cast x30 : Int)) (@ChangeD.mk (@List.nil UInt8) Bool.false (0 : Int))))) (@hasC (@ChangeD.path (@List.getD ChangeD x (@Int.toNat (Nat.cast x30 : Int)) (@ChangeD.mk (@List.nil UInt8) Bool.false (0 : Int)))) (@List.take ChangeD x40 x)))) ∧
 ((@Nat.le x40 (@Int.toNat (Nat.cast x30 : Int))) ∧
 (@LT.lt Nat _ (@Nat.sub (@Int.toNat (Nat.cast x30 : Int)) x40) (@Nat.sub (@Int.toNat (Nat.cast x30 : Int)) x39))))))
 (br (@Decidable.decide ((@LE.le Int _ (0 : Int) (Nat.cast x39 : Int)) ∧
 (@LT.lt Int _ (Nat.cast x39 : Int) (Nat.cast (@List.length ChangeD x) : Int))) _)
 (br (@Decidable.decide ((@LE.le Int _ (0 : Int) (Nat.cast x30 : Int)) ∧
 (@LT.lt Int _ (Nat.cast x30 : Int) (Nat.cast (@List.length ChangeD x) : Int))) _)
 (∃ x41 : Nat,
 ((@Eq Int (@Go.IntKind.wrap Go.IntKind.i64 (@HAdd.hAdd Int Int Int _ (Nat.cast x39 : Int) (1 : Int))) (Nat.cast x41 : Int)) ∧
 ((@Eq Bool (@BEq.beq Bs _ (@ChangeD.path (@List.getD ChangeD x (@Int.toNat (Nat.cast x39 : Int)) (@ChangeD.mk (@List.nil UInt8) Bool.false (0 : Int)))) (@ChangeD.path (@List.getD ChangeD x (@Int.toNat (Nat.cast x30 : Int)) (@ChangeD.mk (@List.nil UInt8) Bool.false (0 : Int))))) (@Bool.or (@Bool.not (@goodC (@List.getD ChangeD x (@Int.toNat (Nat.cast x30 : Int)) (@ChangeD.mk (@List.nil UInt8) Bool.false (0 : Int))))) (@hasC (@ChangeD.path (@List.getD ChangeD x (@Int.toNat (Nat.cast x30 : Int)) (@ChangeD.mk (@List.nil UInt8) Bool.false (0 : Int)))) (@List.take ChangeD x41 x)))) ∧
 ((@Nat.le x41 (@Int.toNat (Nat.cast x30 : Int))) ∧
 (@LT.lt Nat _ (@Nat.sub (@Int.toNat (Nat.cast x30 : Int)) x41) (@Nat.sub (@Int.toNat (Nat.cast x30 : Int)) x39))))))
 (Bad "check" "ref.go:88"))
 (Bad "check" "ref.go:88")))
 (∃ x42 : Nat,
 ((@Eq Int (@Go.IntKind.wrap Go.IntKind.i64 (@HAdd.hAdd Int Int Int _ (Nat.cast x30 : Int) (1 : Int))) (Nat.cast x42 : Int)) ∧
 ((@Eq Bool (@Bool.or (@Bool.not (@goodC (@List.getD ChangeD x (@Int.toNat (Nat.cast x30 : Int)) (@ChangeD.mk (@List.nil UInt8) Bool.false (0 : Int))))) (@hasC (@ChangeD.path (@List.getD ChangeD x (@Int.toNat (Nat.cast x30 : Int)) (@ChangeD.mk (@List.nil UInt8) Bool.false (0 : Int)))) (@List.take ChangeD x39 x))) (@badC x x42)) ∧
 ((@Nat.le x42 (@List.length ChangeD x)) ∧
 (@LT.lt Nat _ (@Nat.sub (@List.length ChangeD x) x42) (@Nat.sub (@List.length ChangeD x) x30))))))))))
 (br (@Decidable.decide ((@LE.le Int _ (0 : Int) (Nat.cast x30 : Int)) ∧
 (@LT.lt Int _ (Nat.cast x30 : Int) (Nat.cast (@List.length ChangeD x) : Int))) _)
 (br (@ChangeD.gone (@List.getD ChangeD x (@Int.toNat (Nat.cast x30 : Int)) (@ChangeD.mk (@List.nil UInt8) Bool.false (0 : Int))))
 (br (@Decidable.decide ((@LE.le Int _ (0 : Int) (Nat.cast x30 : Int)) ∧
 (@LT.lt Int _ (Nat.cast x30 : Int) (Nat.cast (@List.length ChangeD x) : Int))) _)
 ((∃ x43 : Nat,
 ((@Eq Int (0 : Int) (Nat.cast x43 : Int)) ∧
 ((@Eq Bool (@bne Int _ (@ChangeD.digest (@List.getD ChangeD x (@Int.toNat (Nat.cast x30 : Int)) (@ChangeD.mk (@List.nil UInt8) Bool.false (0 : Int)))) (0 : Int)) (@Bool.or (@Bool.not (@goodC (@List.getD ChangeD x (@Int.toNat (Nat.cast x30 : Int)) (@ChangeD.mk (@List.nil UInt8) Bool.false (0 : Int))))) (@hasC (@ChangeD.path (@List.getD ChangeD x (@Int.toNat (Nat.cast x30 : Int)) (@ChangeD.mk (@List.nil UInt8) Bool.false (0 : Int)))) (@List.take ChangeD x43 x)))) ∧
 (@Nat.le x43 (@Int.toNat (Nat.cast x30 : Int)))))) ∧
 (∀ x44 : Nat,
 ((@Nat.le x44 (@Int.toNat (Nat.cast x30 : Int))) →
 (br (@Decidable.decide (@LT.lt Int _ (Nat.cast x44 : Int) (Nat.cast x30 : Int)) _)
 (br (@Bool.or (@Bool.not (@goodC (@List.getD ChangeD x (@Int.toNat (Nat.cast x30 : Int)) (@ChangeD.mk (@List.nil UInt8) Bool.false (0 : Int))))) (@hasC (@ChangeD.path (@List.getD ChangeD x (@Int.toNat (Nat.cast x30 : Int)) (@ChangeD.mk (@List.nil UInt8) Bool.false (0 : Int)))) (@List.take ChangeD x44 x)))
 (∃ x45 : Nat,
 ((@Eq Int (@Go.IntKind.wrap Go.IntKind.i64 (@HAdd.hAdd Int Int Int _ (Nat.cast x44 : Int) (1 : Int))) (Nat.cast x45 : Int)) ∧
 ((@Eq Bool Bool.true (@Bool.or (@Bool.not (@goodC (@List.getD ChangeD x (@Int.toNat (Nat.cast x30 : Int)) (@ChangeD.mk (@List.nil UInt8) Bool.false (0 : Int))))) (@hasC (@ChangeD.path (@List.getD ChangeD x (@Int.toNat (Nat.cast x30 : Int)) (@ChangeD.mk (@List.nil UInt8) Bool.false (0 : Int)))) (@List.take ChangeD x45 x)))) ∧
 ((@Nat.le x45 (@Int.toNat (Nat.cast x30 : Int))) ∧
 (@LT.lt Nat _ (@Nat.sub (@Int.toNat (Nat.cast x30 : Int)) x45) (@Nat.sub (@Int.toNat (Nat.cast x30 : Int)) x44))))))
 (br (@Decidable.decide ((@LE.le Int _ (0 : Int) (Nat.cast x44 : Int)) ∧
 (@LT.lt Int _ (Nat.cast x44 : Int) (Nat.cast (@List.length ChangeD x) : Int))) _)
 (br (@Decidable.decide ((@LE.le Int _ (0 : Int) (Nat.cast x30 : Int)) ∧
 (@LT.lt Int _ (Nat.cast x30 : Int) (Nat.cast (@List.length ChangeD x) : Int))) _)
 (∃ x46 : Nat,
 ((@Eq Int (@Go.IntKind.wrap Go.IntKind.i64 (@HAdd.hAdd Int Int Int _ (Nat.cast x44 : Int) (1 : Int))) (Nat.cast x46 : Int)) ∧
 ((@Eq Bool (@BEq.beq Bs _ (@ChangeD.path (@List.getD ChangeD x (@Int.toNat (Nat.cast x44 : Int)) (@ChangeD.mk (@List.nil UInt8) Bool.false (0 : Int)))) (@ChangeD.path (@List.getD ChangeD x (@Int.toNat (Nat.cast x30 : Int)) (@ChangeD.mk (@List.nil UInt8) Bool.false (0 : Int))))) (@Bool.or (@Bool.not (@goodC (@List.getD ChangeD x (@Int.toNat (Nat.cast x30 : Int)) (@ChangeD.mk (@List.nil UInt8) Bool.false (0 : Int))))) (@hasC (@ChangeD.path (@List.getD ChangeD x (@Int.toNat (Nat.cast x30 : Int)) (@ChangeD.mk (@List.nil UInt8) Bool.false (0 : Int)))) (@List.take ChangeD x46 x)))) ∧
 ((@Nat.le x46 (@Int.toNat (Nat.cast x30 : Int))) ∧
 (@LT.lt Nat _ (@Nat.sub (@Int.toNat (Nat.cast x30 : Int)) x46) (@Nat.sub (@Int.toNat (Nat.cast x30 : Int)) x44))))))
 (Bad "check" "ref.go:88"))
 (Bad "check" "ref.go:88")))
 (∃ x47 : Nat,
 ((@Eq Int (@Go.IntKind.wrap Go.IntKind.i64 (@HAdd.hAdd Int Int Int _ (Nat.cast x30 : Int) (1 : Int))) (Nat.cast x47 : Int)) ∧
 ((@Eq Bool (@Bool.or (@Bool.not (@goodC (@List.getD ChangeD x (@Int.toNat (Nat.cast x30 : Int)) (@ChangeD.mk (@List.nil UInt8) Bool.false (0 : Int))))) (@hasC (@ChangeD.path (@List.getD ChangeD x (@Int.toNat (Nat.cast x30 : Int)) (@ChangeD.mk (@List.nil UInt8) Bool.false (0 : Int)))) (@List.take ChangeD x44 x))) (@badC x x47)) ∧
 ((@Nat.le x47 (@List.length ChangeD x)) ∧
 (@LT.lt Nat _ (@Nat.sub (@List.length ChangeD x) x47) (@Nat.sub (@List.length ChangeD x) x30))))))))))
 (Bad "check" "ref.go:86"))
 ((∃ x48 : Nat,
 ((@Eq Int (0 : Int) (Nat.cast x48 : Int)) ∧
 ((@Eq Bool Bool.false (@Bool.or (@Bool.not (@goodC (@List.getD ChangeD x (@Int.toNat (Nat.cast x30 : Int)) (@ChangeD.mk (@List.nil UInt8) Bool.false (0 : Int))))) (@hasC (@ChangeD.path (@List.getD ChangeD x (@Int.toNat (Nat.cast x30 : Int)) (@ChangeD.mk (@List.nil UInt8) Bool.false (0 : Int)))) (@List.take ChangeD x48 x)))) ∧
 (@Nat.le x48 (@Int.toNat (Nat.cast x30 : Int)))))) ∧
 (∀ x49 : Nat,
 ((@Nat.le x49 (@Int.toNat (Nat.cast x30 : Int))) →
 (br (@Decidable.decide (@LT.lt Int _ (Nat.cast x49 : Int) (Nat.cast x30 : Int)) _)
 (br (@Bool.or (@Bool.not (@goodC (@List.getD ChangeD x (@Int.toNat (Nat.cast x30 : Int)) (@ChangeD.mk (@List.nil UInt8) Bool.false (0 : Int))))) (@hasC (@ChangeD.path (@List.getD ChangeD x (@Int.toNat (Nat.cast x30 : Int)) (@ChangeD.mk (@List.nil UInt8) Bool.false (0 : Int)))) (@List.take ChangeD x49 x)))
 (∃ x50 : Nat,
 ((@Eq Int (@Go.IntKind.wrap Go.IntKind.i64 (@HAdd.hAdd Int Int Int _ (Nat.cast x49 : Int) (1 : Int))) (Nat.cast x50 : Int)) ∧
 ((@Eq Bool Bool.true (@Bool.or (@Bool.not (@goodC (@List.getD ChangeD x (@Int.toNat (Nat.cast x30 : Int)) (@ChangeD.mk (@List.nil UInt8) Bool.false (0 : Int))))) (@hasC (@ChangeD.path (@List.getD ChangeD x (@Int.toNat (Nat.cast x30 : Int)) (@ChangeD.mk (@List.nil UInt8) Bool.false (0 : Int)))) (@List.take ChangeD x50 x)))) ∧
 ((@Nat.le x50 (@Int.toNat (Nat.cast x30 : Int))) ∧
 (@LT.lt Nat _ (@Nat.sub (@Int.toNat (Nat.cast x30 : Int)) x50) (@Nat.sub (@Int.toNat (Nat.cast x30 : Int)) x49))))))
 (br (@Decidable.decide ((@LE.le Int _ (0 : Int) (Nat.cast x49 : Int)) ∧
 (@LT.lt Int _ (Nat.cast x49 : Int) (Nat.cast (@List.length ChangeD x) : Int))) _)
 (br (@Decidable.decide ((@LE.le Int _ (0 : Int) (Nat.cast x30 : Int)) ∧
 (@LT.lt Int _ (Nat.cast x30 : Int) (Nat.cast (@List.length ChangeD x) : Int))) _)
 (∃ x51 : Nat,
 ((@Eq Int (@Go.IntKind.wrap Go.IntKind.i64 (@HAdd.hAdd Int Int Int _ (Nat.cast x49 : Int) (1 : Int))) (Nat.cast x51 : Int)) ∧
 ((@Eq Bool (@BEq.beq Bs _ (@ChangeD.path (@List.getD ChangeD x (@Int.toNat (Nat.cast x49 : Int)) (@ChangeD.mk (@List.nil UInt8) Bool.false (0 : Int)))) (@ChangeD.path (@List.getD ChangeD x (@Int.toNat (Nat.cast x30 : Int)) (@ChangeD.mk (@List.nil UInt8) Bool.false (0 : Int))))) (@Bool.or (@Bool.not (@goodC (@List.getD ChangeD x (@Int.toNat (Nat.cast x30 : Int)) (@ChangeD.mk (@List.nil UInt8) Bool.false (0 : Int))))) (@hasC (@ChangeD.path (@List.getD ChangeD x (@Int.toNat (Nat.cast x30 : Int)) (@ChangeD.mk (@List.nil UInt8) Bool.false (0 : Int)))) (@List.take ChangeD x51 x)))) ∧
 ((@Nat.le x51 (@Int.toNat (Nat.cast x30 : Int))) ∧
 (@LT.lt Nat _ (@Nat.sub (@Int.toNat (Nat.cast x30 : Int)) x51) (@Nat.sub (@Int.toNat (Nat.cast x30 : Int)) x49))))))
 (Bad "check" "ref.go:88"))
 (Bad "check" "ref.go:88")))
 (∃ x52 : Nat,
 ((@Eq Int (@Go.IntKind.wrap Go.IntKind.i64 (@HAdd.hAdd Int Int Int _ (Nat.cast x30 : Int) (1 : Int))) (Nat.cast x52 : Int)) ∧
 ((@Eq Bool (@Bool.or (@Bool.not (@goodC (@List.getD ChangeD x (@Int.toNat (Nat.cast x30 : Int)) (@ChangeD.mk (@List.nil UInt8) Bool.false (0 : Int))))) (@hasC (@ChangeD.path (@List.getD ChangeD x (@Int.toNat (Nat.cast x30 : Int)) (@ChangeD.mk (@List.nil UInt8) Bool.false (0 : Int)))) (@List.take ChangeD x49 x))) (@badC x x52)) ∧
 ((@Nat.le x52 (@List.length ChangeD x)) ∧
 (@LT.lt Nat _ (@Nat.sub (@List.length ChangeD x) x52) (@Nat.sub (@List.length ChangeD x) x30)))))))))))
 (Bad "check" "ref.go:86")))
 (Bad "check" "ref.go:86"))))))))
 (Bad "check" "ref.go:85"))
 (br (@badC x x30)
 (∃ x53 : Unit,
 ((@Eq Int (1 : Int) (@chkC x)) ∧
 True))
 (∃ x54 : Unit,
 ((@Eq Int (0 : Int) (@chkC x)) ∧
 True))))
 (br (@badC x x30)
 (∃ x55 : Unit,
 ((@Eq Int (1 : Int) (@chkC x)) ∧
 True))
 (∃ x56 : Unit,
 ((@Eq Int (0 : Int) (@chkC x)) ∧
 True)))))))))))) := by kernel_rfl

theorem rsame_vc (x : equalT.γ) : evCall rsameE (ev rsameE 1000) 48 (equalT.args x) ⟨equalT.blks x, equalT.n0, []⟩ (fun _ _ => False) (equalT.ends x) = (
((@LE.le Nat _ (@HMul.hMul _ _ _ _ (@List.length ChangeD (@Cha2.a x)) (32 : Nat)) room47) →
 ((@LE.le Nat _ (@HMul.hMul _ _ _ _ (@List.length ChangeD (@Cha2.b x)) (32 : Nat)) room47) →
 (br (@bne Int _ (Nat.cast (@List.length ChangeD (@Cha2.a x)) : Int) (Nat.cast (@List.length ChangeD (@Cha2.b x)) : Int))
 (∃ x1 : Unit,
 ((@Eq Bool Bool.false (@sameC (@Cha2.a x) (@Cha2.b x))) ∧
 True))
 ((∃ x2 : Nat,
 ((@Eq Int (0 : Int) (Nat.cast x2 : Int)) ∧
 ((@LE.le Nat _ x2 (@List.length ChangeD (@Cha2.a x))) ∧
 (@Eq Bool (@sameC (@List.drop ChangeD x2 (@Cha2.a x)) (@List.drop ChangeD x2 (@Cha2.b x))) (@sameC (@Cha2.a x) (@Cha2.b x)))))) ∧
 (∀ x3 : Nat,
 (((@LE.le Nat _ x3 (@List.length ChangeD (@Cha2.a x))) ∧
 (@Eq Bool (@sameC (@List.drop ChangeD x3 (@Cha2.a x)) (@List.drop ChangeD x3 (@Cha2.b x))) (@sameC (@Cha2.a x) (@Cha2.b x)))) →
 ((@LE.le Nat _ (@HMul.hMul _ _ _ _ (@List.length ChangeD (@Cha2.a x)) (32 : Nat)) room47) →
 (br (@Decidable.decide (@LT.lt Int _ (Nat.cast x3 : Int) (Nat.cast (@List.length ChangeD (@Cha2.a x)) : Int)) _)
 (br (@Decidable.decide ((@LE.le Int _ (0 : Int) (Nat.cast x3 : Int)) ∧
 (@LT.lt Int _ (Nat.cast x3 : Int) (Nat.cast (@List.length ChangeD (@Cha2.a x)) : Int))) _)
 (br (@Decidable.decide ((@LE.le Int _ (0 : Int) (Nat.cast x3 : Int)) ∧
 (@LT.lt Int _ (Nat.cast x3 : Int) (Nat.cast (@List.length ChangeD (@Cha2.b x)) : Int))) _)
 (br (@Bool.not (@Bool.and (@BEq.beq Bs _ (@ChangeD.path (@List.getD ChangeD (@Cha2.a x) (@Int.toNat (Nat.cast x3 : Int)) (@ChangeD.mk (@List.nil UInt8) Bool.false (0 : Int)))) (@ChangeD.path (@List.getD ChangeD (@Cha2.b x) (@Int.toNat (Nat.cast x3 : Int)) (@ChangeD.mk (@List.nil UInt8) Bool.false (0 : Int))))) (@Bool.and (@BEq.beq Bool _ (@ChangeD.gone (@List.getD ChangeD (@Cha2.a x) (@Int.toNat (Nat.cast x3 : Int)) (@ChangeD.mk (@List.nil UInt8) Bool.false (0 : Int)))) (@ChangeD.gone (@List.getD ChangeD (@Cha2.b x) (@Int.toNat (Nat.cast x3 : Int)) (@ChangeD.mk (@List.nil UInt8) Bool.false (0 : Int))))) (@Bool.and (@BEq.beq Int _ (@ChangeD.digest (@List.getD ChangeD (@Cha2.a x) (@Int.toNat (Nat.cast x3 : Int)) (@ChangeD.mk (@List.nil UInt8) Bool.false (0 : Int)))) (@ChangeD.digest (@List.getD ChangeD (@Cha2.b x) (@Int.toNat (Nat.cast x3 : Int)) (@ChangeD.mk (@List.nil UInt8) Bool.false (0 : Int))))) Bool.true))))
 (∃ x4 : Unit,
 ((@Eq Bool Bool.false (@sameC (@Cha2.a x) (@Cha2.b x))) ∧
 True))
 (∃ x5 : Nat,
 ((@Eq Int (@Go.IntKind.wrap Go.IntKind.i64 (@HAdd.hAdd Int Int Int _ (Nat.cast x3 : Int) (1 : Int))) (Nat.cast x5 : Int)) ∧
 (((@LE.le Nat _ x5 (@List.length ChangeD (@Cha2.a x))) ∧
 (@Eq Bool (@sameC (@List.drop ChangeD x5 (@Cha2.a x)) (@List.drop ChangeD x5 (@Cha2.b x))) (@sameC (@Cha2.a x) (@Cha2.b x)))) ∧
 (@LT.lt Nat _ (@Nat.sub (@List.length ChangeD (@Cha2.a x)) x5) (@Nat.sub (@List.length ChangeD (@Cha2.a x)) x3))))))
 (Bad "check" "ref.go:118"))
 (Bad "check" "ref.go:118"))
 (∃ x6 : Unit,
 ((@Eq Bool Bool.true (@sameC (@Cha2.a x) (@Cha2.b x))) ∧
 True))))))))))) := by kernel_rfl

theorem rsort_vc (x : rsortT.γ) : evCall rsortE (ev rsortE 1000) 50 (rsortT.args x) ⟨rsortT.blks x, rsortT.n0, []⟩ (fun _ _ => False) (rsortT.ends x) = (
((∃ x1 : Nat,
 ((@Eq Int (0 : Int) (Nat.cast x1 : Int)) ∧
 ((@Eq Nat (0 : Nat) (@List.length ChangeD (@insS (@List.take ChangeD x1 x)))) ∧
 ((@Eq (@List ChangeD) (@List.nil ChangeD) (@insS (@List.take ChangeD x1 x))) ∧
 (@Nat.le x1 (@List.length ChangeD x)))))) ∧
 (∀ x2 : Nat,
 ((@Nat.le x2 (@List.length ChangeD x)) →
 ((@LE.le Nat _ (@HMul.hMul _ _ _ _ (@List.length ChangeD x) (32 : Nat)) room47) →
 (br (@Decidable.decide (@LT.lt Int _ (Nat.cast x2 : Int) (Nat.cast (@List.length ChangeD x) : Int)) _)
 ((@LE.le Nat _ (@HMul.hMul _ _ _ _ (@List.length ChangeD (@insS (@List.take ChangeD x2 x))) (32 : Nat)) room47) →
 ((∃ x3 : Nat,
 ((@Eq Int (Nat.cast (@List.length ChangeD (@insS (@List.take ChangeD x2 x))) : Int) (Nat.cast x3 : Int)) ∧
 ((@LE.le Nat _ x3 (@List.length ChangeD (@insS (@List.take ChangeD x2 x)))) ∧
 (∀ x4 : Nat,
 ((@LE.le Nat _ x3 x4) →
 ((@LT.lt Nat _ x4 (@List.length ChangeD (@insS (@List.take ChangeD x2 x)))) →
 (@LT.lt Int _ (@cmpC (@List.getD ChangeD x (@Int.toNat (Nat.cast x2 : Int)) (@ChangeD.mk (@List.nil UInt8) Bool.false (0 : Int))) (@List.getD ChangeD (@insS (@List.take ChangeD x2 x)) x4 (@ChangeD.mk (@List.nil UInt8) Bool.false (0 : Int)))) (0 : Int)))))))) ∧
 (∀ x5 : Nat,
 (((@LE.le Nat _ x5 (@List.length ChangeD (@insS (@List.take ChangeD x2 x)))) ∧
 (∀ x6 : Nat,
 ((@LE.le Nat _ x5 x6) →
 ((@LT.lt Nat _ x6 (@List.length ChangeD (@insS (@List.take ChangeD x2 x)))) →
 (@LT.lt Int _ (@cmpC (@List.getD ChangeD x (@Int.toNat (Nat.cast x2 : Int)) (@ChangeD.mk (@List.nil UInt8) Bool.false (0 : Int))) (@List.getD ChangeD (@insS (@List.take ChangeD x2 x)) x6 (@ChangeD.mk (@List.nil UInt8) Bool.false (0 : Int)))) (0 : Int)))))) →
 (br (@Decidable.decide (@GT.gt Int _ (Nat.cast x5 : Int) (0 : Int)) _)
 (br (@Decidable.decide ((@LE.le Int _ (0 : Int) (@Go.IntKind.wrap Go.IntKind.i64 (@HSub.hSub Int Int Int _ (Nat.cast x5 : Int) (1 : Int)))) ∧
 (@LT.lt Int _ (@Go.IntKind.wrap Go.IntKind.i64 (@HSub.hSub Int Int Int _ (Nat.cast x5 : Int) (1 : Int))) (Nat.cast (@List.length ChangeD (@insS (@List.take ChangeD x2 x))) : Int))) _)
 (br (@Decidable.decide (@LT.lt Nat _ (@HAdd.hAdd _ _ _ _ (0 : Nat) (@Int.toNat (@Go.IntKind.wrap Go.IntKind.i64 (@HSub.hSub Int Int Int _ (Nat.cast x5 : Int) (1 : Int))))) (@List.length ChangeD (@insS (@List.take ChangeD x2 x)))) _)
 (br (@Decidable.decide ((@LE.le Int _ (0 : Int) (Nat.cast x2 : Int)) ∧
 (@LT.lt Int _ (Nat.cast x2 : Int) (Nat.cast (@List.length ChangeD x) : Int))) _)
 (∃ x7 : TwoA,
 ((@Eq Bs (@ChangeD.path (@List.getD ChangeD (@insS (@List.take ChangeD x2 x)) (@HAdd.hAdd _ _ _ _ (0 : Nat) (@Int.toNat (@Go.IntKind.wrap Go.IntKind.i64 (@HSub.hSub Int Int Int _ (Nat.cast x5 : Int) (1 : Int))))) (@ChangeD.mk (@List.nil UInt8) Bool.false (0 : Int)))) (@TwoA.a x7)) ∧
 ((@Eq Bs (@ChangeD.path (@List.getD ChangeD x (@Int.toNat (Nat.cast x2 : Int)) (@ChangeD.mk (@List.nil UInt8) Bool.false (0 : Int)))) (@TwoA.b x7)) ∧
 (((@Eq Bool (@shortB (@TwoA.a x7)) Bool.true) ∧
 (@Eq Bool (@shortB (@TwoA.b x7)) Bool.true)) ∧
 (∀ x8 : Unit,
 (True →
 (br (@Decidable.decide (@GT.gt Int _ (@cmpL (@splitB (@TwoA.a x7)) (@splitB (@TwoA.b x7))) (0 : Int)) _)
 (∃ x9 : Nat,
 ((@Eq Int (@Go.IntKind.wrap Go.IntKind.i64 (@HSub.hSub Int Int Int _ (Nat.cast x5 : Int) (1 : Int))) (Nat.cast x9 : Int)) ∧
 (((@LE.le Nat _ x9 (@List.length ChangeD (@insS (@List.take ChangeD x2 x)))) ∧
 (∀ x10 : Nat,
 ((@LE.le Nat _ x9 x10) →
 ((@LT.lt Nat _ x10 (@List.length ChangeD (@insS (@List.take ChangeD x2 x)))) →
 (@LT.lt Int _ (@cmpC (@List.getD ChangeD x (@Int.toNat (Nat.cast x2 : Int)) (@ChangeD.mk (@List.nil UInt8) Bool.false (0 : Int))) (@List.getD ChangeD (@insS (@List.take ChangeD x2 x)) x10 (@ChangeD.mk (@List.nil UInt8) Bool.false (0 : Int)))) (0 : Int)))))) ∧
 (@LT.lt Nat _ x9 x5))))
 (br (@bndB (@List.length ChangeD (@insS (@List.take ChangeD x2 x))) (@Option.none Int) (@Option.some Int (Nat.cast x5 : Int)) (@Option.none Int))
 (((@Nat.le (@HMul.hMul _ _ _ _ (0 : Nat) (32 : Nat)) room47) ∧
 (@Nat.le (@HMul.hMul _ _ _ _ (@cutN (@List.length ChangeD (@insS (@List.take ChangeD x2 x))) (@Option.none Int) (@Option.some Int (Nat.cast x5 : Int))) (32 : Nat)) room47)) →
 (br (@Bool.and (@Bool.and (@Decidable.decide (@LE.le Nat _ (@HAdd.hAdd _ _ _ _ (@addN (0 : Nat) (@Option.none Int)) (@cutN (@List.length ChangeD (@insS (@List.take ChangeD x2 x))) (@Option.none Int) (@Option.some Int (Nat.cast x5 : Int)))) (@List.length ChangeD (@insS (@List.take ChangeD x2 x)))) _) (@Decidable.decide (@LE.le Nat _ (@HAdd.hAdd _ _ _ _ (0 : Nat) (0 : Nat)) (@List.length ChangeD (@List.nil ChangeD))) _)) (@Decidable.decide (@LE.le Nat _ (@HMul.hMul _ _ _ _ (@HAdd.hAdd _ _ _ _ (0 : Nat) (@List.length ChangeD (@List.take ChangeD (@cutN (@List.length ChangeD (@insS (@List.take ChangeD x2 x))) (@Option.none Int) (@Option.some Int (Nat.cast x5 : Int))) (@List.drop ChangeD (@addN (0 : Nat) (@Option.none Int)) (@insS (@List.take ChangeD x2 x)))))) (32 : Nat)) room47) _))
 (br (@Decidable.decide ((@LE.le Int _ (0 : Int) (Nat.cast x2 : Int)) ∧
 (@LT.lt Int _ (Nat.cast x2 : Int) (Nat.cast (@List.length ChangeD x) : Int))) _)
 (((@Nat.le (@HMul.hMul _ _ _ _ (@HAdd.hAdd _ _ _ _ (0 : Nat) (@List.length ChangeD (@List.take ChangeD (@cutN (@List.length ChangeD (@insS (@List.take ChangeD x2 x))) (@Option.none Int) (@Option.some Int (Nat.cast x5 : Int))) (@List.drop ChangeD (@addN (0 : Nat) (@Option.none Int)) (@insS (@List.take ChangeD x2 x)))))) (32 : Nat)) room47) ∧
 (@Nat.le (@HMul.hMul _ _ _ _ (1 : Nat) (32 : Nat)) room47)) →
 (br (@Bool.and (@Bool.and (@Decidable.decide (@LE.le Nat _ (@HAdd.hAdd _ _ _ _ (0 : Nat) (1 : Nat)) (@List.length ChangeD (@List.cons ChangeD (@ChangeD.mk (@ChangeD.path (@List.getD ChangeD x (@Int.toNat (Nat.cast x2 : Int)) (@ChangeD.mk (@List.nil UInt8) Bool.false (0 : Int)))) (@ChangeD.gone (@List.getD ChangeD x (@Int.toNat (Nat.cast x2 : Int)) (@ChangeD.mk (@List.nil UInt8) Bool.false (0 : Int)))) (@ChangeD.digest (@List.getD ChangeD x (@Int.toNat (Nat.cast x2 : Int)) (@ChangeD.mk (@List.nil UInt8) Bool.false (0 : Int))))) (@List.nil ChangeD)))) _) (@Decidable.decide (@LE.le Nat _ (@HAdd.hAdd _ _ _ _ (0 : Nat) (@HAdd.hAdd _ _ _ _ (0 : Nat) (@List.length ChangeD (@List.take ChangeD (@cutN (@List.length ChangeD (@insS (@List.take ChangeD x2 x))) (@Option.none Int) (@Option.some Int (Nat.cast x5 : Int))) (@List.drop ChangeD (@addN (0 : Nat) (@Option.none Int)) (@insS (@List.take ChangeD x2 x))))))) (@List.length ChangeD (@HAppend.hAppend (@List ChangeD) (@List ChangeD) (@List ChangeD) _ (@List.take ChangeD (0 : Nat) (@List.drop ChangeD (0 : Nat) (@List.nil ChangeD))) (@List.take ChangeD (@cutN (@List.length ChangeD (@insS (@List.take ChangeD x2 x))) (@Option.none Int) (@Option.some Int (Nat.cast x5 : Int))) (@List.drop ChangeD (@addN (0 : Nat) (@Option.none Int)) (@insS (@List.take ChangeD x2 x))))))) _)) (@Decidable.decide (@LE.le Nat _ (@HMul.hMul _ _ _ _ (@HAdd.hAdd _ _ _ _ (@HAdd.hAdd _ _ _ _ (0 : Nat) (@List.length ChangeD (@List.take ChangeD (@cutN (@List.length ChangeD (@insS (@List.take ChangeD x2 x))) (@Option.none Int) (@Option.some Int (Nat.cast x5 : Int))) (@List.drop ChangeD (@addN (0 : Nat) (@Option.none Int)) (@insS (@List.take ChangeD x2 x)))))) (@List.length ChangeD (@List.take ChangeD (1 : Nat) (@List.drop ChangeD (0 : Nat) (@List.cons ChangeD (@ChangeD.mk (@ChangeD.path (@List.getD ChangeD x (@Int.toNat (Nat.cast x2 : Int)) (@ChangeD.mk (@List.nil UInt8) Bool.false (0 : Int)))) (@ChangeD.gone (@List.getD ChangeD x (@Int.toNat (Nat.cast x2 : Int)) (@ChangeD.mk (@List.nil UInt8) Bool.false (0 : Int)))) (@ChangeD.digest (@List.getD ChangeD x (@Int.toNat (Nat.cast x2 : Int)) (@ChangeD.mk (@List.nil UInt8) Bool.false (0 : Int))))) (@List.nil ChangeD)))))) (32 : Nat)) room47) _))
 (br (@bndB (@List.length ChangeD (@insS (@List.take ChangeD x2 x))) (@Option.some Int (Nat.cast x5 : Int)) (@Option.none Int) (@Option.none Int))
 (((@Nat.le (@HMul.hMul _ _ _ _ (@HAdd.hAdd _ _ _ _ (@HAdd.hAdd _ _ _ _ (0 : Nat) (@List.length ChangeD (@List.take ChangeD (@cutN (@List.length ChangeD (@insS (@List.take ChangeD x2 x))) (@Option.none Int) (@Option.some Int (Nat.cast x5 : Int))) (@List.drop ChangeD (@addN (0 : Nat) (@Option.none Int)) (@insS (@List.take ChangeD x2 x)))))) (@List.length ChangeD (@List.take ChangeD (1 : Nat) (@List.drop ChangeD (0 : Nat) (@List.cons ChangeD (@ChangeD.mk (@ChangeD.path (@List.getD ChangeD x (@Int.toNat (Nat.cast x2 : Int)) (@ChangeD.mk (@List.nil UInt8) Bool.false (0 : Int)))) (@ChangeD.gone (@List.getD ChangeD x (@Int.toNat (Nat.cast x2 : Int)) (@ChangeD.mk (@List.nil UInt8) Bool.false (0 : Int)))) (@ChangeD.digest (@List.getD ChangeD x (@Int.toNat (Nat.cast x2 : Int)) (@ChangeD.mk (@List.nil UInt8) Bool.false (0 : Int))))) (@List.nil ChangeD)))))) (32 : Nat)) room47) ∧
 (@Nat.le (@HMul.hMul _ _ _ _ (@cutN (@List.length ChangeD (@insS (@List.take ChangeD x2 x))) (@Option.some Int (Nat.cast x5 : Int)) (@Option.none Int)) (32 : Nat)) room47)) →
 (br (@Bool.and (@Bool.and (@Decidable.decide (@LE.le Nat _ (@HAdd.hAdd _ _ _ _ (@addN (0 : Nat) (@Option.some Int (Nat.cast x5 : Int))) (@cutN (@List.length ChangeD (@insS (@List.take ChangeD x2 x))) (@Option.some Int (Nat.cast x5 : Int)) (@Option.none Int))) (@List.length ChangeD (@insS (@List.take ChangeD x2 x)))) _) (@Decidable.decide (@LE.le Nat _ (@HAdd.hAdd _ _ _ _ (0 : Nat) (@HAdd.hAdd _ _ _ _ (@HAdd.hAdd _ _ _ _ (0 : Nat) (@List.length ChangeD (@List.take ChangeD (@cutN (@List.length ChangeD (@insS (@List.take ChangeD x2 x))) (@Option.none Int) (@Option.some Int (Nat.cast x5 : Int))) (@List.drop ChangeD (@addN (0 : Nat) (@Option.none Int)) (@insS (@List.take ChangeD x2 x)))))) (@List.length ChangeD (@List.take ChangeD (1 : Nat) (@List.drop ChangeD (0 : Nat) (@List.cons ChangeD (@ChangeD.mk (@ChangeD.path (@List.getD ChangeD x (@Int.toNat (Nat.cast x2 : Int)) (@ChangeD.mk (@List.nil UInt8) Bool.false (0 : Int)))) (@ChangeD.gone (@List.getD ChangeD x (@Int.toNat (Nat.cast x2 : Int)) (@ChangeD.mk (@List.nil UInt8) Bool.false (0 : Int)))) (@ChangeD.digest (@List.getD ChangeD x (@Int.toNat (Nat.cast x2 : Int)) (@ChangeD.mk (@List.nil UInt8) Bool.false (0 : Int))))) (@List.nil ChangeD))))))) (@List.length ChangeD (@HAppend.hAppend (@List ChangeD) (@List ChangeD) (@List ChangeD) _ (@List.take ChangeD (@HAdd.hAdd _ _ _ _ (0 : Nat) (@List.length ChangeD (@List.take ChangeD (@cutN (@List.length ChangeD (@insS (@List.take ChangeD x2 x))) (@Option.none Int) (@Option.some Int (Nat.cast x5 : Int))) (@List.drop ChangeD (@addN (0 : Nat) (@Option.none Int)) (@insS (@List.take ChangeD x2 x)))))) (@List.drop ChangeD (0 : Nat) (@HAppend.hAppend (@List ChangeD) (@List ChangeD) (@List ChangeD) _ (@List.take ChangeD (0 : Nat) (@List.drop ChangeD (0 : Nat) (@List.nil ChangeD))) (@List.take ChangeD (@cutN (@List.length ChangeD (@insS (@List.take ChangeD x2 x))) (@Option.none Int) (@Option.some Int (Nat.cast x5 : Int))) (@List.drop ChangeD (@addN (0 : Nat) (@Option.none Int)) (@insS (@List.take ChangeD x2 x))))))) (@List.take ChangeD (1 : Nat) (@List.drop ChangeD (0 : Nat) (@List.cons ChangeD (@ChangeD.mk (@ChangeD.path (@List.getD ChangeD x (@Int.toNat (Nat.cast x2 : Int)) (@ChangeD.mk (@List.nil UInt8) Bool.false (0 : Int)))) (@ChangeD.gone (@List.getD ChangeD x (@Int.toNat (Nat.cast x2 : Int)) (@ChangeD.mk (@List.nil UInt8) Bool.false (0 : Int)))) (@ChangeD.digest (@List.getD ChangeD x (@Int.toNat (Nat.cast x2 : Int)) (@ChangeD.mk (@List.nil UInt8) Bool.false (0 : Int))))) (@List.nil ChangeD))))))) _)) (@Decidable.decide (@LE.le Nat _ (@HMul.hMul _ _ _ _ (@HAdd.hAdd _ _ _ _ (@HAdd.hAdd _ _ _ _ (@HAdd.hAdd _ _ _ _ (0 : Nat) (@List.length ChangeD (@List.take ChangeD (@cutN (@List.length ChangeD (@insS (@List.take ChangeD x2 x))) (@Option.none Int) (@Option.some Int (Nat.cast x5 : Int))) (@List.drop ChangeD (@addN (0 : Nat) (@Option.none Int)) (@insS (@List.take ChangeD x2 x)))))) (@List.length ChangeD (@List.take ChangeD (1 : Nat) (@List.drop ChangeD (0 : Nat) (@List.cons ChangeD (@ChangeD.mk (@ChangeD.path (@List.getD ChangeD x (@Int.toNat (Nat.cast x2 : Int)) (@ChangeD.mk (@List.nil UInt8) Bool.false (0 : Int)))) (@ChangeD.gone (@List.getD ChangeD x (@Int.toNat (Nat.cast x2 : Int)) (@ChangeD.mk (@List.nil UInt8) Bool.false (0 : Int)))) (@ChangeD.digest (@List.getD ChangeD x (@Int.toNat (Nat.cast x2 : Int)) (@ChangeD.mk (@List.nil UInt8) Bool.false (0 : Int))))) (@List.nil ChangeD)))))) (@List.length ChangeD (@List.take ChangeD (@cutN (@List.length ChangeD (@insS (@List.take ChangeD x2 x))) (@Option.some Int (Nat.cast x5 : Int)) (@Option.none Int)) (@List.drop ChangeD (@addN (0 : Nat) (@Option.some Int (Nat.cast x5 : Int))) (@insS (@List.take ChangeD x2 x)))))) (32 : Nat)) room47) _))
 (∃ x11 : Nat,
 ((@Eq Int (@Go.IntKind.wrap Go.IntKind.i64 (@HAdd.hAdd Int Int Int _ (Nat.cast x2 : Int) (1 : Int))) (Nat.cast x11 : Int)) ∧
 ((@Eq Nat (0 : Nat) (0 : Nat)) ∧
 ((@Eq Nat (@HAdd.hAdd _ _ _ _ (@HAdd.hAdd _ _ _ _ (@HAdd.hAdd _ _ _ _ (0 : Nat) (@List.length ChangeD (@List.take ChangeD (@cutN (@List.length ChangeD (@insS (@List.take ChangeD x2 x))) (@Option.none Int) (@Option.some Int (Nat.cast x5 : Int))) (@List.drop ChangeD (@addN (0 : Nat) (@Option.none Int)) (@insS (@List.take ChangeD x2 x)))))) (@List.length ChangeD (@List.take ChangeD (1 : Nat) (@List.drop ChangeD (0 : Nat) (@List.cons ChangeD (@ChangeD.mk (@ChangeD.path (@List.getD ChangeD x (@Int.toNat (Nat.cast x2 : Int)) (@ChangeD.mk (@List.nil UInt8) Bool.false (0 : Int)))) (@ChangeD.gone (@List.getD ChangeD x (@Int.toNat (Nat.cast x2 : Int)) (@ChangeD.mk (@List.nil UInt8) Bool.false (0 : Int)))) (@ChangeD.digest (@List.getD ChangeD x (@Int.toNat (Nat.cast x2 : Int)) (@ChangeD.mk (@List.nil UInt8) Bool.false (0 : Int))))) (@List.nil ChangeD)))))) (@List.length ChangeD (@List.take ChangeD (@cutN (@List.length ChangeD (@insS (@List.take ChangeD x2 x))) (@Option.some Int (Nat.cast x5 : Int)) (@Option.none Int)) (@List.drop ChangeD (@addN (0 : Nat) (@Option.some Int (Nat.cast x5 : Int))) (@insS (@List.take ChangeD x2 x)))))) (@List.length ChangeD (@insS (@List.take ChangeD x11 x)))) ∧
 ((@Eq (@List ChangeD) (@HAppend.hAppend (@List ChangeD) (@List ChangeD) (@List ChangeD) _ (@List.take ChangeD (@HAdd.hAdd _ _ _ _ (@HAdd.hAdd _ _ _ _ (0 : Nat) (@List.length ChangeD (@List.take ChangeD (@cutN (@List.length ChangeD (@insS (@List.take ChangeD x2 x))) (@Option.none Int) (@Option.some Int (Nat.cast x5 : Int))) (@List.drop ChangeD (@addN (0 : Nat) (@Option.none Int)) (@insS (@List.take ChangeD x2 x)))))) (@List.length ChangeD (@List.take ChangeD (1 : Nat) (@List.drop ChangeD (0 : Nat) (@List.cons ChangeD (@ChangeD.mk (@ChangeD.path (@List.getD ChangeD x (@Int.toNat (Nat.cast x2 : Int)) (@ChangeD.mk (@List.nil UInt8) Bool.false (0 : Int)))) (@ChangeD.gone (@List.getD ChangeD x (@Int.toNat (Nat.cast x2 : Int)) (@ChangeD.mk (@List.nil UInt8) Bool.false (0 : Int)))) (@ChangeD.digest (@List.getD ChangeD x (@Int.toNat (Nat.cast x2 : Int)) (@ChangeD.mk (@List.nil UInt8) Bool.false (0 : Int))))) (@List.nil ChangeD)))))) (@List.drop ChangeD (0 : Nat) (@HAppend.hAppend (@List ChangeD) (@List ChangeD) (@List ChangeD) _ (@List.take ChangeD (@HAdd.hAdd _ _ _ _ (0 : Nat) (@List.length ChangeD (@List.take ChangeD (@cutN (@List.length ChangeD (@insS (@List.take ChangeD x2 x))) (@Option.none Int) (@Option.some Int (Nat.cast x5 : Int))) (@List.drop ChangeD (@addN (0 : Nat) (@Option.none Int)) (@insS (@List.take ChangeD x2 x)))))) (@List.drop ChangeD (0 : Nat) (@HAppend.hAppend (@List ChangeD) (@List ChangeD) (@List ChangeD) _ (@List.take ChangeD (0 : Nat) (@List.drop ChangeD (0 : Nat) (@List.nil ChangeD))) (@List.take ChangeD (@cutN (@List.length ChangeD (@insS (@List.take ChangeD x2 x))) (@Option.none Int) (@Option.some Int (Nat.cast x5 : Int))) (@List.drop ChangeD (@addN (0 : Nat) (@Option.none Int)) (@insS (@List.take ChangeD x2 x))))))) (@List.take ChangeD (1 : Nat) (@List.drop ChangeD (0 : Nat) (@List.cons ChangeD (@ChangeD.mk (@ChangeD.path (@List.getD ChangeD x (@Int.toNat (Nat.cast x2 : Int)) (@ChangeD.mk (@List.nil UInt8) Bool.false (0 : Int)))) (@ChangeD.gone (@List.getD ChangeD x (@Int.toNat (Nat.cast x2 : Int)) (@ChangeD.mk (@List.nil UInt8) Bool.false (0 : Int)))) (@ChangeD.digest (@List.getD ChangeD x (@Int.toNat (Nat.cast x2 : Int)) (@ChangeD.mk (@List.nil UInt8) Bool.false (0 : Int))))) (@List.nil ChangeD))))))) (@List.take ChangeD (@cutN (@List.length ChangeD (@insS (@List.take ChangeD x2 x))) (@Option.some Int (Nat.cast x5 : Int)) (@Option.none Int)) (@List.drop ChangeD (@addN (0 : Nat) (@Option.some Int (Nat.cast x5 : Int))) (@insS (@List.take ChangeD x2 x))))) (@insS (@List.take ChangeD x11 x))) ∧
 ((@Nat.le x11 (@List.length ChangeD x)) ∧
 (@LT.lt Nat _ (@Nat.sub (@List.length ChangeD x) x11) (@Nat.sub (@List.length ChangeD x) x2))))))))
 (Bad "check" "ref.go:107")))
 (Bad "check" "ref.go:107"))
 (Bad "check" "ref.go:106")))
 (Bad "check" "ref.go:106"))
 (Bad "check" "ref.go:105")))
 (Bad "check" "ref.go:105")))))))))
 (Bad "check" "ref.go:102"))
 (Bad "check" "ref.go:102"))
 (Bad "check" "ref.go:102"))
 (br (@bndB (@List.length ChangeD (@insS (@List.take ChangeD x2 x))) (@Option.none Int) (@Option.some Int (Nat.cast x5 : Int)) (@Option.none Int))
 (((@Nat.le (@HMul.hMul _ _ _ _ (0 : Nat) (32 : Nat)) room47) ∧
 (@Nat.le (@HMul.hMul _ _ _ _ (@cutN (@List.length ChangeD (@insS (@List.take ChangeD x2 x))) (@Option.none Int) (@Option.some Int (Nat.cast x5 : Int))) (32 : Nat)) room47)) →
 (br (@Bool.and (@Bool.and (@Decidable.decide (@LE.le Nat _ (@HAdd.hAdd _ _ _ _ (@addN (0 : Nat) (@Option.none Int)) (@cutN (@List.length ChangeD (@insS (@List.take ChangeD x2 x))) (@Option.none Int) (@Option.some Int (Nat.cast x5 : Int)))) (@List.length ChangeD (@insS (@List.take ChangeD x2 x)))) _) (@Decidable.decide (@LE.le Nat _ (@HAdd.hAdd _ _ _ _ (0 : Nat) (0 : Nat)) (@List.length ChangeD (@List.nil ChangeD))) _)) (@Decidable.decide (@LE.le Nat _ (@HMul.hMul _ _ _ _ (@HAdd.hAdd _ _ _ _ (0 : Nat) (@List.length ChangeD (@List.take ChangeD (@cutN (@List.length ChangeD (@insS (@List.take ChangeD x2 x))) (@Option.none Int) (@Option.some Int (Nat.cast x5 : Int))) (@List.drop ChangeD (@addN (0 : Nat) (@Option.none Int)) (@insS (@List.take ChangeD x2 x)))))) (32 : Nat)) room47) _))
 (br (@Decidable.decide ((@LE.le Int _ (0 : Int) (Nat.cast x2 : Int)) ∧
 (@LT.lt Int _ (Nat.cast x2 : Int) (Nat.cast (@List.length ChangeD x) : Int))) _)
 (((@Nat.le (@HMul.hMul _ _ _ _ (@HAdd.hAdd _ _ _ _ (0 : Nat) (@List.length ChangeD (@List.take ChangeD (@cutN (@List.length ChangeD (@insS (@List.take ChangeD x2 x))) (@Option.none Int) (@Option.some Int (Nat.cast x5 : Int))) (@List.drop ChangeD (@addN (0 : Nat) (@Option.none Int)) (@insS (@List.take ChangeD x2 x)))))) (32 : Nat)) room47) ∧
 (@Nat.le (@HMul.hMul _ _ _ _ (1 : Nat) (32 : Nat)) room47)) →
 (br (@Bool.and (@Bool.and (@Decidable.decide (@LE.le Nat _ (@HAdd.hAdd _ _ _ _ (0 : Nat) (1 : Nat)) (@List.length ChangeD (@List.cons ChangeD (@ChangeD.mk (@ChangeD.path (@List.getD ChangeD x (@Int.toNat (Nat.cast x2 : Int)) (@ChangeD.mk (@List.nil UInt8) Bool.false (0 : Int)))) (@ChangeD.gone (@List.getD ChangeD x (@Int.toNat (Nat.cast x2 : Int)) (@ChangeD.mk (@List.nil UInt8) Bool.false (0 : Int)))) (@ChangeD.digest (@List.getD ChangeD x (@Int.toNat (Nat.cast x2 : Int)) (@ChangeD.mk (@List.nil UInt8) Bool.false (0 : Int))))) (@List.nil ChangeD)))) _) (@Decidable.decide (@LE.le Nat _ (@HAdd.hAdd _ _ _ _ (0 : Nat) (@HAdd.hAdd _ _ _ _ (0 : Nat) (@List.length ChangeD (@List.take ChangeD (@cutN (@List.length ChangeD (@insS (@List.take ChangeD x2 x))) (@Option.none Int) (@Option.some Int (Nat.cast x5 : Int))) (@List.drop ChangeD (@addN (0 : Nat) (@Option.none Int)) (@insS (@List.take ChangeD x2 x))))))) (@List.length ChangeD (@HAppend.hAppend (@List ChangeD) (@List ChangeD) (@List ChangeD) _ (@List.take ChangeD (0 : Nat) (@List.drop ChangeD (0 : Nat) (@List.nil ChangeD))) (@List.take ChangeD (@cutN (@List.length ChangeD (@insS (@List.take ChangeD x2 x))) (@Option.none Int) (@Option.some Int (Nat.cast x5 : Int))) (@List.drop ChangeD (@addN (0 : Nat) (@Option.none Int)) (@insS (@List.take ChangeD x2 x))))))) _)) (@Decidable.decide (@LE.le Nat _ (@HMul.hMul _ _ _ _ (@HAdd.hAdd _ _ _ _ (@HAdd.hAdd _ _ _ _ (0 : Nat) (@List.length ChangeD (@List.take ChangeD (@cutN (@List.length ChangeD (@insS (@List.take ChangeD x2 x))) (@Option.none Int) (@Option.some Int (Nat.cast x5 : Int))) (@List.drop ChangeD (@addN (0 : Nat) (@Option.none Int)) (@insS (@List.take ChangeD x2 x)))))) (@List.length ChangeD (@List.take ChangeD (1 : Nat) (@List.drop ChangeD (0 : Nat) (@List.cons ChangeD (@ChangeD.mk (@ChangeD.path (@List.getD ChangeD x (@Int.toNat (Nat.cast x2 : Int)) (@ChangeD.mk (@List.nil UInt8) Bool.false (0 : Int)))) (@ChangeD.gone (@List.getD ChangeD x (@Int.toNat (Nat.cast x2 : Int)) (@ChangeD.mk (@List.nil UInt8) Bool.false (0 : Int)))) (@ChangeD.digest (@List.getD ChangeD x (@Int.toNat (Nat.cast x2 : Int)) (@ChangeD.mk (@List.nil UInt8) Bool.false (0 : Int))))) (@List.nil ChangeD)))))) (32 : Nat)) room47) _))
 (br (@bndB (@List.length ChangeD (@insS (@List.take ChangeD x2 x))) (@Option.some Int (Nat.cast x5 : Int)) (@Option.none Int) (@Option.none Int))
 (((@Nat.le (@HMul.hMul _ _ _ _ (@HAdd.hAdd _ _ _ _ (@HAdd.hAdd _ _ _ _ (0 : Nat) (@List.length ChangeD (@List.take ChangeD (@cutN (@List.length ChangeD (@insS (@List.take ChangeD x2 x))) (@Option.none Int) (@Option.some Int (Nat.cast x5 : Int))) (@List.drop ChangeD (@addN (0 : Nat) (@Option.none Int)) (@insS (@List.take ChangeD x2 x)))))) (@List.length ChangeD (@List.take ChangeD (1 : Nat) (@List.drop ChangeD (0 : Nat) (@List.cons ChangeD (@ChangeD.mk (@ChangeD.path (@List.getD ChangeD x (@Int.toNat (Nat.cast x2 : Int)) (@ChangeD.mk (@List.nil UInt8) Bool.false (0 : Int)))) (@ChangeD.gone (@List.getD ChangeD x (@Int.toNat (Nat.cast x2 : Int)) (@ChangeD.mk (@List.nil UInt8) Bool.false (0 : Int)))) (@ChangeD.digest (@List.getD ChangeD x (@Int.toNat (Nat.cast x2 : Int)) (@ChangeD.mk (@List.nil UInt8) Bool.false (0 : Int))))) (@List.nil ChangeD)))))) (32 : Nat)) room47) ∧
 (@Nat.le (@HMul.hMul _ _ _ _ (@cutN (@List.length ChangeD (@insS (@List.take ChangeD x2 x))) (@Option.some Int (Nat.cast x5 : Int)) (@Option.none Int)) (32 : Nat)) room47)) →
 (br (@Bool.and (@Bool.and (@Decidable.decide (@LE.le Nat _ (@HAdd.hAdd _ _ _ _ (@addN (0 : Nat) (@Option.some Int (Nat.cast x5 : Int))) (@cutN (@List.length ChangeD (@insS (@List.take ChangeD x2 x))) (@Option.some Int (Nat.cast x5 : Int)) (@Option.none Int))) (@List.length ChangeD (@insS (@List.take ChangeD x2 x)))) _) (@Decidable.decide (@LE.le Nat _ (@HAdd.hAdd _ _ _ _ (0 : Nat) (@HAdd.hAdd _ _ _ _ (@HAdd.hAdd _ _ _ _ (0 : Nat) (@List.length ChangeD (@List.take ChangeD (@cutN (@List.length ChangeD (@insS (@List.take ChangeD x2 x))) (@Option.none Int) (@Option.some Int (Nat.cast x5 : Int))) (@List.drop ChangeD (@addN (0 : Nat) (@Option.none Int)) (@insS (@List.take ChangeD x2 x)))))) (@List.length ChangeD (@List.take ChangeD (1 : Nat) (@List.drop ChangeD (0 : Nat) (@List.cons ChangeD (@ChangeD.mk (@ChangeD.path (@List.getD ChangeD x (@Int.toNat (Nat.cast x2 : Int)) (@ChangeD.mk (@List.nil UInt8) Bool.false (0 : Int)))) (@ChangeD.gone (@List.getD ChangeD x (@Int.toNat (Nat.cast x2 : Int)) (@ChangeD.mk (@List.nil UInt8) Bool.false (0 : Int)))) (@ChangeD.digest (@List.getD ChangeD x (@Int.toNat (Nat.cast x2 : Int)) (@ChangeD.mk (@List.nil UInt8) Bool.false (0 : Int))))) (@List.nil ChangeD))))))) (@List.length ChangeD (@HAppend.hAppend (@List ChangeD) (@List ChangeD) (@List ChangeD) _ (@List.take ChangeD (@HAdd.hAdd _ _ _ _ (0 : Nat) (@List.length ChangeD (@List.take ChangeD (@cutN (@List.length ChangeD (@insS (@List.take ChangeD x2 x))) (@Option.none Int) (@Option.some Int (Nat.cast x5 : Int))) (@List.drop ChangeD (@addN (0 : Nat) (@Option.none Int)) (@insS (@List.take ChangeD x2 x)))))) (@List.drop ChangeD (0 : Nat) (@HAppend.hAppend (@List ChangeD) (@List ChangeD) (@List ChangeD) _ (@List.take ChangeD (0 : Nat) (@List.drop ChangeD (0 : Nat) (@List.nil ChangeD))) (@List.take ChangeD (@cutN (@List.length ChangeD (@insS (@List.take ChangeD x2 x))) (@Option.none Int) (@Option.some Int (Nat.cast x5 : Int))) (@List.drop ChangeD (@addN (0 : Nat) (@Option.none Int)) (@insS (@List.take ChangeD x2 x))))))) (@List.take ChangeD (1 : Nat) (@List.drop ChangeD (0 : Nat) (@List.cons ChangeD (@ChangeD.mk (@ChangeD.path (@List.getD ChangeD x (@Int.toNat (Nat.cast x2 : Int)) (@ChangeD.mk (@List.nil UInt8) Bool.false (0 : Int)))) (@ChangeD.gone (@List.getD ChangeD x (@Int.toNat (Nat.cast x2 : Int)) (@ChangeD.mk (@List.nil UInt8) Bool.false (0 : Int)))) (@ChangeD.digest (@List.getD ChangeD x (@Int.toNat (Nat.cast x2 : Int)) (@ChangeD.mk (@List.nil UInt8) Bool.false (0 : Int))))) (@List.nil ChangeD))))))) _)) (@Decidable.decide (@LE.le Nat _ (@HMul.hMul _ _ _ _ (@HAdd.hAdd _ _ _ _ (@HAdd.hAdd _ _ _ _ (@HAdd.hAdd _ _ _ _ (0 : Nat) (@List.length ChangeD (@List.take ChangeD (@cutN (@List.length ChangeD (@insS (@List.take ChangeD x2 x))) (@Option.none Int) (@Option.some Int (Nat.cast x5 : Int))) (@List.drop ChangeD (@addN (0 : Nat) (@Option.none Int)) (@insS (@List.take ChangeD x2 x)))))) (@List.length ChangeD (@List.take ChangeD (1 : Nat) (@List.drop ChangeD (0 : Nat) (@List.cons ChangeD (@ChangeD.mk (@ChangeD.path (@List.getD ChangeD x (@Int.toNat (Nat.cast x2 : Int)) (@ChangeD.mk (@List.nil UInt8) Bool.false (0 : Int)))) (@ChangeD.gone (@List.getD ChangeD x (@Int.toNat (Nat.cast x2 : Int)) (@ChangeD.mk (@List.nil UInt8) Bool.false (0 : Int)))) (@ChangeD.digest (@List.getD ChangeD x (@Int.toNat (Nat.cast x2 : Int)) (@ChangeD.mk (@List.nil UInt8) Bool.false (0 : Int))))) (@List.nil ChangeD)))))) (@List.length ChangeD (@List.take ChangeD (@cutN (@List.length ChangeD (@insS (@List.take ChangeD x2 x))) (@Option.some Int (Nat.cast x5 : Int)) (@Option.none Int)) (@List.drop ChangeD (@addN (0 : Nat) (@Option.some Int (Nat.cast x5 : Int))) (@insS (@List.take ChangeD x2 x)))))) (32 : Nat)) room47) _))
 (∃ x12 : Nat,
 ((@Eq Int (@Go.IntKind.wrap Go.IntKind.i64 (@HAdd.hAdd Int Int Int _ (Nat.cast x2 : Int) (1 : Int))) (Nat.cast x12 : Int)) ∧
 ((@Eq Nat (0 : Nat) (0 : Nat)) ∧
 ((@Eq Nat (@HAdd.hAdd _ _ _ _ (@HAdd.hAdd _ _ _ _ (@HAdd.hAdd _ _ _ _ (0 : Nat) (@List.length ChangeD (@List.take ChangeD (@cutN (@List.length ChangeD (@insS (@List.take ChangeD x2 x))) (@Option.none Int) (@Option.some Int (Nat.cast x5 : Int))) (@List.drop ChangeD (@addN (0 : Nat) (@Option.none Int)) (@insS (@List.take ChangeD x2 x)))))) (@List.length ChangeD (@List.take ChangeD (1 : Nat) (@List.drop ChangeD (0 : Nat) (@List.cons ChangeD (@ChangeD.mk (@ChangeD.path (@List.getD ChangeD x (@Int.toNat (Nat.cast x2 : Int)) (@ChangeD.mk (@List.nil UInt8) Bool.false (0 : Int)))) (@ChangeD.gone (@List.getD ChangeD x (@Int.toNat (Nat.cast x2 : Int)) (@ChangeD.mk (@List.nil UInt8) Bool.false (0 : Int)))) (@ChangeD.digest (@List.getD ChangeD x (@Int.toNat (Nat.cast x2 : Int)) (@ChangeD.mk (@List.nil UInt8) Bool.false (0 : Int))))) (@List.nil ChangeD)))))) (@List.length ChangeD (@List.take ChangeD (@cutN (@List.length ChangeD (@insS (@List.take ChangeD x2 x))) (@Option.some Int (Nat.cast x5 : Int)) (@Option.none Int)) (@List.drop ChangeD (@addN (0 : Nat) (@Option.some Int (Nat.cast x5 : Int))) (@insS (@List.take ChangeD x2 x)))))) (@List.length ChangeD (@insS (@List.take ChangeD x12 x)))) ∧
 ((@Eq (@List ChangeD) (@HAppend.hAppend (@List ChangeD) (@List ChangeD) (@List ChangeD) _ (@List.take ChangeD (@HAdd.hAdd _ _ _ _ (@HAdd.hAdd _ _ _ _ (0 : Nat) (@List.length ChangeD (@List.take ChangeD (@cutN (@List.length ChangeD (@insS (@List.take ChangeD x2 x))) (@Option.none Int) (@Option.some Int (Nat.cast x5 : Int))) (@List.drop ChangeD (@addN (0 : Nat) (@Option.none Int)) (@insS (@List.take ChangeD x2 x)))))) (@List.length ChangeD (@List.take ChangeD (1 : Nat) (@List.drop ChangeD (0 : Nat) (@List.cons ChangeD (@ChangeD.mk (@ChangeD.path (@List.getD ChangeD x (@Int.toNat (Nat.cast x2 : Int)) (@ChangeD.mk (@List.nil UInt8) Bool.false (0 : Int)))) (@ChangeD.gone (@List.getD ChangeD x (@Int.toNat (Nat.cast x2 : Int)) (@ChangeD.mk (@List.nil UInt8) Bool.false (0 : Int)))) (@ChangeD.digest (@List.getD ChangeD x (@Int.toNat (Nat.cast x2 : Int)) (@ChangeD.mk (@List.nil UInt8) Bool.false (0 : Int))))) (@List.nil ChangeD)))))) (@List.drop ChangeD (0 : Nat) (@HAppend.hAppend (@List ChangeD) (@List ChangeD) (@List ChangeD) _ (@List.take ChangeD (@HAdd.hAdd _ _ _ _ (0 : Nat) (@List.length ChangeD (@List.take ChangeD (@cutN (@List.length ChangeD (@insS (@List.take ChangeD x2 x))) (@Option.none Int) (@Option.some Int (Nat.cast x5 : Int))) (@List.drop ChangeD (@addN (0 : Nat) (@Option.none Int)) (@insS (@List.take ChangeD x2 x)))))) (@List.drop ChangeD (0 : Nat) (@HAppend.hAppend (@List ChangeD) (@List ChangeD) (@List ChangeD) _ (@List.take ChangeD (0 : Nat) (@List.drop ChangeD (0 : Nat) (@List.nil ChangeD))) (@List.take ChangeD (@cutN (@List.length ChangeD (@insS (@List.take ChangeD x2 x))) (@Option.none Int) (@Option.some Int (Nat.cast x5 : Int))) (@List.drop ChangeD (@addN (0 : Nat) (@Option.none Int)) (@insS (@List.take ChangeD x2 x))))))) (@List.take ChangeD (1 : Nat) (@List.drop ChangeD (0 : Nat) (@List.cons ChangeD (@ChangeD.mk (@ChangeD.path (@List.getD ChangeD x (@Int.toNat (Nat.cast x2 : Int)) (@ChangeD.mk (@List.nil UInt8) Bool.false (0 : Int)))) (@ChangeD.gone (@List.getD ChangeD x (@Int.toNat (Nat.cast x2 : Int)) (@ChangeD.mk (@List.nil UInt8) Bool.false (0 : Int)))) (@ChangeD.digest (@List.getD ChangeD x (@Int.toNat (Nat.cast x2 : Int)) (@ChangeD.mk (@List.nil UInt8) Bool.false (0 : Int))))) (@List.nil ChangeD))))))) (@List.take ChangeD (@cutN (@List.length ChangeD (@insS (@List.take ChangeD x2 x))) (@Option.some Int (Nat.cast x5 : Int)) (@Option.none Int)) (@List.drop ChangeD (@addN (0 : Nat) (@Option.some Int (Nat.cast x5 : Int))) (@insS (@List.take ChangeD x2 x))))) (@insS (@List.take ChangeD x12 x))) ∧
 ((@Nat.le x12 (@List.length ChangeD x)) ∧
 (@LT.lt Nat _ (@Nat.sub (@List.length ChangeD x) x12) (@Nat.sub (@List.length ChangeD x) x2))))))))
 (Bad "check" "ref.go:107")))
 (Bad "check" "ref.go:107"))
 (Bad "check" "ref.go:106")))
 (Bad "check" "ref.go:106"))
 (Bad "check" "ref.go:105")))
 (Bad "check" "ref.go:105")))))))
 (∃ x13 : Unit,
 ((@Eq Nat (0 : Nat) (0 : Nat)) ∧
 ((@Eq Nat (@List.length ChangeD (@insS (@List.take ChangeD x2 x))) (@List.length ChangeD x)) ∧
 ((@Eq (@List ChangeD) (@insS (@List.take ChangeD x2 x)) (@insS x)) ∧
 True)))))))))) := by kernel_rfl

theorem cchk_vc (x : ChkA) : evCall claE (ev claE 1000) 16 (chkArgs x) ⟨[], 0, []⟩ (fun _ _ => False) (fun v _ => TrueV v) = (
(∃ x1 : Unit,
 (True ∧
 (∀ x2 : Unit,
 (True →
 (∃ x3 : (@List ChangeD),
 ((@Eq (@List ChangeD) (@ChkA.l x) x3) ∧
 (True ∧
 (∀ x4 : Unit,
 (True →
 (br (@Bool.not (@roomCB x3))
 (@Eq Bool Bool.true Bool.true)
 (∃ x5 : (@List ChangeD),
 ((@Eq (@List ChangeD) (@ChkA.k x) x5) ∧
 (True ∧
 (∀ x6 : Unit,
 (True →
 (br (@Bool.not (@roomCB x5))
 (@Eq Bool Bool.true Bool.true)
 (∃ x7 : (@List ChangeD),
 ((@Eq (@List ChangeD) (@ChkA.l x) x7) ∧
 ((@Eq Bool (@shortC x7) Bool.true) ∧
 (∀ x8 : Unit,
 (True →
 (∃ x9 : (@List ChangeD),
 ((@Eq (@List ChangeD) (@ChkA.l x) x9) ∧
 ((@Eq Bool (@shortC x9) Bool.true) ∧
 (∀ x10 : Unit,
 (True →
 (br (@BEq.beq Int _ (@chkC x7) (@chkC x9))
 (∃ x11 : (@List ChangeD),
 ((@Eq (@List ChangeD) (@ChkA.l x) x11) ∧
 ((@Eq Bool (@fewX x11) Bool.true) ∧
 (∀ x12 : Unit,
 (True →
 (∃ x13 : (@List ChangeD),
 ((@Eq (@List ChangeD) (@ChkA.l x) x13) ∧
 (((@Eq Bool (@shortC x13) Bool.true) ∧
 (@Eq Bool (@fewX x13) Bool.true)) ∧
 (∀ x14 : Unit,
 (True →
 (∃ x15 : Cha2,
 ((@LE.le Nat _ (@HAdd.hAdd _ _ _ _ (0 : Nat) (@List.length ChangeD x11)) (@List.length ChangeD (@insS x11))) ∧
 ((@Eq (@List ChangeD) (@List.take ChangeD (@List.length ChangeD x11) (@List.drop ChangeD (0 : Nat) (@insS x11))) (@Cha2.a x15)) ∧
 ((@LE.le Nat _ (@HAdd.hAdd _ _ _ _ (0 : Nat) (@List.length ChangeD x13)) (@List.length ChangeD (@insS x13))) ∧
 ((@Eq (@List ChangeD) (@List.take ChangeD (@List.length ChangeD x13) (@List.drop ChangeD (0 : Nat) (@insS x13))) (@Cha2.b x15)) ∧
 (True ∧
 (∀ x16 : Unit,
 (True →
 (br (@sameC (@Cha2.a x15) (@Cha2.b x15))
 (∃ x17 : Cha2,
 ((@Eq (@List ChangeD) (@ChkA.l x) (@Cha2.a x17)) ∧
 ((@Eq (@List ChangeD) (@ChkA.k x) (@Cha2.b x17)) ∧
 (True ∧
 (∀ x18 : Unit,
 (True →
 (∃ x19 : Cha2,
 ((@Eq (@List ChangeD) (@ChkA.l x) (@Cha2.a x19)) ∧
 ((@Eq (@List ChangeD) (@ChkA.k x) (@Cha2.b x19)) ∧
 (True ∧
 (∀ x20 : Unit,
 (True →
 (br (@BEq.beq Bool _ (@sameC (@Cha2.a x17) (@Cha2.b x17)) (@sameC (@Cha2.a x19) (@Cha2.b x19)))
 (∃ x21 : Cha2,
 ((@Eq (@List ChangeD) (@ChkA.l x) (@Cha2.a x21)) ∧
 ((@Eq (@List ChangeD) (@ChkA.l x) (@Cha2.b x21)) ∧
 (True ∧
 (∀ x22 : Unit,
 (True →
 (@Eq Bool (@sameC (@Cha2.a x21) (@Cha2.b x21)) Bool.true)))))))
 (@Eq Bool Bool.false Bool.true))))))))))))))
 (@Eq Bool Bool.false Bool.true))))))))))))))))))))
 (@Eq Bool Bool.false Bool.true))))))))))))))))))))))))))))) := by kernel_rfl

theorem cso_vc (x : ChaL) : evCall csoE (ev csoE 1000) 17 (srtArgs x) ⟨[], 0, []⟩ (fun _ _ => False) (fun v _ => TrueV v) = (
(∃ x1 : Unit,
 (True ∧
 (∀ x2 : Unit,
 (True →
 (∃ x3 : (@List ChangeD),
 ((@Eq (@List ChangeD) x x3) ∧
 (True ∧
 (∀ x4 : Unit,
 (True →
 (br (@Bool.not (@roomCB x3))
 (@Eq Bool Bool.true Bool.true)
 (((@Nat.le (@HMul.hMul _ _ _ _ (0 : Nat) (32 : Nat)) room47) ∧
 (@Nat.le (@HMul.hMul _ _ _ _ (@List.length ChangeD x) (32 : Nat)) room47)) →
 (br (@Bool.and (@Bool.and Bool.true (@Decidable.decide (@LE.le Nat _ (@HAdd.hAdd _ _ _ _ (0 : Nat) (0 : Nat)) (@List.length ChangeD (@List.nil ChangeD))) _)) (@Decidable.decide (@LE.le Nat _ (@HMul.hMul _ _ _ _ (@HAdd.hAdd _ _ _ _ (0 : Nat) (@List.length ChangeD x)) (32 : Nat)) room47) _))
 (∃ x5 : (@List ChangeD),
 ((@Eq (@List ChangeD) x x5) ∧
 ((@Eq Bool (@fewX x5) Bool.true) ∧
 (∀ x6 : Unit,
 (True →
 ((@LE.le Nat _ (@HMul.hMul _ _ _ _ (@List.length ChangeD x5) (32 : Nat)) room47) →
 ((@LE.le Nat _ (@HMul.hMul _ _ _ _ (@List.length ChangeD x) (32 : Nat)) room47) →
 (br (@bne Int _ (Nat.cast (@List.length ChangeD x5) : Int) (Nat.cast (@List.length ChangeD x) : Int))
 (@Eq Bool Bool.false Bool.true)
 (∃ x7 : Cha2,
 ((@Eq (@List ChangeD) x (@Cha2.a x7)) ∧
 ((@LE.le Nat _ (@HAdd.hAdd _ _ _ _ (0 : Nat) (@HAdd.hAdd _ _ _ _ (0 : Nat) (@List.length ChangeD x))) (@List.length ChangeD (@HAppend.hAppend (@List ChangeD) (@List ChangeD) (@List ChangeD) _ (@List.take ChangeD (0 : Nat) (@List.drop ChangeD (0 : Nat) (@List.nil ChangeD))) x))) ∧
 ((@Eq (@List ChangeD) (@List.take ChangeD (@HAdd.hAdd _ _ _ _ (0 : Nat) (@List.length ChangeD x)) (@List.drop ChangeD (0 : Nat) (@HAppend.hAppend (@List ChangeD) (@List ChangeD) (@List ChangeD) _ (@List.take ChangeD (0 : Nat) (@List.drop ChangeD (0 : Nat) (@List.nil ChangeD))) x))) (@Cha2.b x7)) ∧
 (True ∧
 (∀ x8 : Unit,
 (True →
 (br (@Bool.not (@sameC (@Cha2.a x7) (@Cha2.b x7)))
 (@Eq Bool Bool.false Bool.true)
 (∃ x9 : (@List ChangeD),
 ((@Eq (@List ChangeD) x x9) ∧
 ((@Eq Bool (@shortC x9) Bool.true) ∧
 (∀ x10 : Unit,
 (True →
 ((∃ x11 : Nat,
 ((@Eq Int (1 : Int) (Nat.cast x11 : Int)) ∧
 ((@LE.le Nat _ (1 : Nat) x11) ∧
 ((@LE.le Nat _ x11 (@HAdd.hAdd _ _ _ _ (@List.length ChangeD x) (1 : Nat))) ∧
 (@Or (@LE.le Nat _ x11 (@List.length ChangeD x)) (@Eq Nat (@List.length ChangeD x) (0 : Nat))))))) ∧
 (∀ x12 : Nat,
 (((@LE.le Nat _ (1 : Nat) x12) ∧
 ((@LE.le Nat _ x12 (@HAdd.hAdd _ _ _ _ (@List.length ChangeD x) (1 : Nat))) ∧
 (@Or (@LE.le Nat _ x12 (@List.length ChangeD x)) (@Eq Nat (@List.length ChangeD x) (0 : Nat))))) →
 ((@LE.le Nat _ (@HMul.hMul _ _ _ _ (@List.length ChangeD x5) (32 : Nat)) room47) →
 (br (@Decidable.decide (@LT.lt Int _ (Nat.cast x12 : Int) (Nat.cast (@List.length ChangeD x5) : Int)) _)
 (br (@Decidable.decide ((@LE.le Int _ (0 : Int) (@Go.IntKind.wrap Go.IntKind.i64 (@HSub.hSub Int Int Int _ (Nat.cast x12 : Int) (1 : Int)))) ∧
 (@LT.lt Int _ (@Go.IntKind.wrap Go.IntKind.i64 (@HSub.hSub Int Int Int _ (Nat.cast x12 : Int) (1 : Int))) (Nat.cast (@List.length ChangeD x5) : Int))) _)
 (br (@Decidable.decide (@LT.lt Nat _ (@HAdd.hAdd _ _ _ _ (0 : Nat) (@Int.toNat (@Go.IntKind.wrap Go.IntKind.i64 (@HSub.hSub Int Int Int _ (Nat.cast x12 : Int) (1 : Int))))) (@List.length ChangeD (@insS x5))) _)
 (br (@Decidable.decide ((@LE.le Int _ (0 : Int) (Nat.cast x12 : Int)) ∧
 (@LT.lt Int _ (Nat.cast x12 : Int) (Nat.cast (@List.length ChangeD x5) : Int))) _)
 (br (@Decidable.decide (@LT.lt Nat _ (@HAdd.hAdd _ _ _ _ (0 : Nat) (@Int.toNat (Nat.cast x12 : Int))) (@List.length ChangeD (@insS x5))) _)
 (∃ x13 : TwoA,
 ((@Eq Bs (@ChangeD.path (@List.getD ChangeD (@insS x5) (@HAdd.hAdd _ _ _ _ (0 : Nat) (@Int.toNat (@Go.IntKind.wrap Go.IntKind.i64 (@HSub.hSub Int Int Int _ (Nat.cast x12 : Int) (1 : Int))))) (@ChangeD.mk (@List.nil UInt8) Bool.false (0 : Int)))) (@TwoA.a x13)) ∧
 ((@Eq Bs (@ChangeD.path (@List.getD ChangeD (@insS x5) (@HAdd.hAdd _ _ _ _ (0 : Nat) (@Int.toNat (Nat.cast x12 : Int))) (@ChangeD.mk (@List.nil UInt8) Bool.false (0 : Int)))) (@TwoA.b x13)) ∧
 (True ∧
 (∀ x14 : Unit,
 (True →
 (br (@Decidable.decide (@GT.gt Int _ (@cmpL (@splitB (@TwoA.a x13)) (@splitB (@TwoA.b x13))) (0 : Int)) _)
 (@Eq Bool Bool.false Bool.true)
 (br (@BEq.beq Int _ (@chkC x9) (0 : Int))
 (br (@BEq.beq Int _ (@cmpL (@splitB (@TwoA.a x13)) (@splitB (@TwoA.b x13))) (0 : Int))
 (@Eq Bool Bool.false Bool.true)
 (∃ x15 : Nat,
 ((@Eq Int (@Go.IntKind.wrap Go.IntKind.i64 (@HAdd.hAdd Int Int Int _ (Nat.cast x12 : Int) (1 : Int))) (Nat.cast x15 : Int)) ∧
 (((@LE.le Nat _ (1 : Nat) x15) ∧
 ((@LE.le Nat _ x15 (@HAdd.hAdd _ _ _ _ (@List.length ChangeD x) (1 : Nat))) ∧
 (@Or (@LE.le Nat _ x15 (@List.length ChangeD x)) (@Eq Nat (@List.length ChangeD x) (0 : Nat))))) ∧
 (@LT.lt Nat _ (@Nat.sub (@List.length ChangeD x) x15) (@Nat.sub (@List.length ChangeD x) x12))))))
 (∃ x16 : Nat,
 ((@Eq Int (@Go.IntKind.wrap Go.IntKind.i64 (@HAdd.hAdd Int Int Int _ (Nat.cast x12 : Int) (1 : Int))) (Nat.cast x16 : Int)) ∧
 (((@LE.le Nat _ (1 : Nat) x16) ∧
 ((@LE.le Nat _ x16 (@HAdd.hAdd _ _ _ _ (@List.length ChangeD x) (1 : Nat))) ∧
 (@Or (@LE.le Nat _ x16 (@List.length ChangeD x)) (@Eq Nat (@List.length ChangeD x) (0 : Nat))))) ∧
 (@LT.lt Nat _ (@Nat.sub (@List.length ChangeD x) x16) (@Nat.sub (@List.length ChangeD x) x12)))))))))))))
 (Bad "check" "law.go:65"))
 (Bad "check" "law.go:65"))
 (Bad "check" "law.go:65"))
 (Bad "check" "law.go:65"))
 ((∃ x17 : Nat,
 ((@Eq Int (0 : Int) (Nat.cast x17 : Int)) ∧
 ((@Eq Int (0 : Int) (Nat.cast x17 : Int)) ∧
 (@Nat.le x17 (@List.length ChangeD x))))) ∧
 (∀ x18 : Nat,
 ((@Nat.le x18 (@List.length ChangeD x)) →
 ((@LE.le Nat _ (@HMul.hMul _ _ _ _ (@List.length ChangeD x) (32 : Nat)) room47) →
 (br (@Decidable.decide (@LT.lt Int _ (Nat.cast x18 : Int) (Nat.cast (@List.length ChangeD x) : Int)) _)
 ((∃ x19 : Nat,
 ((@Eq Int (0 : Int) (Nat.cast x19 : Int)) ∧
 ((@Eq Int (Nat.cast x18 : Int) (Nat.cast x18 : Int)) ∧
 ((@LE.le Nat _ x19 (@List.length ChangeD (@insS x5))) ∧
 (∀ x20 : Nat,
 ((@LT.lt Nat _ x20 x19) →
 (@Eq Bool (@eqC (@List.getD ChangeD (@insS x5) x20 (@ChangeD.mk (@List.nil UInt8) Bool.false (0 : Int))) (@List.getD ChangeD x (@Int.toNat (Nat.cast x18 : Int)) (@ChangeD.mk (@List.nil UInt8) Bool.false (0 : Int)))) Bool.false))))))) ∧
 (∀ x21 : Nat,
 (((@LE.le Nat _ x21 (@List.length ChangeD (@insS x5))) ∧
 (∀ x22 : Nat,
 ((@LT.lt Nat _ x22 x21) →
 (@Eq Bool (@eqC (@List.getD ChangeD (@insS x5) x22 (@ChangeD.mk (@List.nil UInt8) Bool.false (0 : Int))) (@List.getD ChangeD x (@Int.toNat (Nat.cast x18 : Int)) (@ChangeD.mk (@List.nil UInt8) Bool.false (0 : Int)))) Bool.false)))) →
 ((@LE.le Nat _ (@HMul.hMul _ _ _ _ (@List.length ChangeD x5) (32 : Nat)) room47) →
 (br (@Decidable.decide (@LT.lt Int _ (Nat.cast x21 : Int) (Nat.cast (@List.length ChangeD x5) : Int)) _)
 (br (@Decidable.decide ((@LE.le Int _ (0 : Int) (Nat.cast x21 : Int)) ∧
 (@LT.lt Int _ (Nat.cast x21 : Int) (Nat.cast (@List.length ChangeD x5) : Int))) _)
 (br (@Decidable.decide (@LT.lt Nat _ (@HAdd.hAdd _ _ _ _ (0 : Nat) (@Int.toNat (Nat.cast x21 : Int))) (@List.length ChangeD (@insS x5))) _)
 (br (@Decidable.decide ((@LE.le Int _ (0 : Int) (Nat.cast x18 : Int)) ∧
 (@LT.lt Int _ (Nat.cast x18 : Int) (Nat.cast (@List.length ChangeD x) : Int))) _)
 (br (@Bool.and (@BEq.beq Bs _ (@ChangeD.path (@List.getD ChangeD (@insS x5) (@HAdd.hAdd _ _ _ _ (0 : Nat) (@Int.toNat (Nat.cast x21 : Int))) (@ChangeD.mk (@List.nil UInt8) Bool.false (0 : Int)))) (@ChangeD.path (@List.getD ChangeD x (@Int.toNat (Nat.cast x18 : Int)) (@ChangeD.mk (@List.nil UInt8) Bool.false (0 : Int))))) (@Bool.and (@BEq.beq Bool _ (@ChangeD.gone (@List.getD ChangeD (@insS x5) (@HAdd.hAdd _ _ _ _ (0 : Nat) (@Int.toNat (Nat.cast x21 : Int))) (@ChangeD.mk (@List.nil UInt8) Bool.false (0 : Int)))) (@ChangeD.gone (@List.getD ChangeD x (@Int.toNat (Nat.cast x18 : Int)) (@ChangeD.mk (@List.nil UInt8) Bool.false (0 : Int))))) (@Bool.and (@BEq.beq Int _ (@ChangeD.digest (@List.getD ChangeD (@insS x5) (@HAdd.hAdd _ _ _ _ (0 : Nat) (@Int.toNat (Nat.cast x21 : Int))) (@ChangeD.mk (@List.nil UInt8) Bool.false (0 : Int)))) (@ChangeD.digest (@List.getD ChangeD x (@Int.toNat (Nat.cast x18 : Int)) (@ChangeD.mk (@List.nil UInt8) Bool.false (0 : Int))))) Bool.true)))
 (∃ x23 : Nat,
 ((@Eq Int (@Go.IntKind.wrap Go.IntKind.i64 (@HAdd.hAdd Int Int Int _ (Nat.cast x18 : Int) (1 : Int))) (Nat.cast x23 : Int)) ∧
 ((@Eq Int (@Go.IntKind.wrap Go.IntKind.i64 (@HAdd.hAdd Int Int Int _ (Nat.cast x18 : Int) (1 : Int))) (Nat.cast x23 : Int)) ∧
 ((@Nat.le x23 (@List.length ChangeD x)) ∧
 (@LT.lt Nat _ (@Nat.sub (@List.length ChangeD x) x23) (@Nat.sub (@List.length ChangeD x) x18))))))
 (∃ x24 : Nat,
 ((@Eq Int (@Go.IntKind.wrap Go.IntKind.i64 (@HAdd.hAdd Int Int Int _ (Nat.cast x21 : Int) (1 : Int))) (Nat.cast x24 : Int)) ∧
 ((@Eq Int (Nat.cast x18 : Int) (Nat.cast x18 : Int)) ∧
 (((@LE.le Nat _ x24 (@List.length ChangeD (@insS x5))) ∧
 (∀ x25 : Nat,
 ((@LT.lt Nat _ x25 x24) →
 (@Eq Bool (@eqC (@List.getD ChangeD (@insS x5) x25 (@ChangeD.mk (@List.nil UInt8) Bool.false (0 : Int))) (@List.getD ChangeD x (@Int.toNat (Nat.cast x18 : Int)) (@ChangeD.mk (@List.nil UInt8) Bool.false (0 : Int)))) Bool.false)))) ∧
 (@LT.lt Nat _ (@Nat.sub (@List.length ChangeD (@insS x5)) x24) (@Nat.sub (@List.length ChangeD (@insS x5)) x21)))))))
 (Bad "check" "law.go:73"))
 (Bad "check" "law.go:73"))
 (Bad "check" "law.go:73"))
 (∃ x26 : Nat,
 ((@Eq Int (@Go.IntKind.wrap Go.IntKind.i64 (@HAdd.hAdd Int Int Int _ (Nat.cast x18 : Int) (1 : Int))) (Nat.cast x26 : Int)) ∧
 ((@Eq Int (Nat.cast x18 : Int) (Nat.cast x26 : Int)) ∧
 ((@Nat.le x26 (@List.length ChangeD x)) ∧
 (@LT.lt Nat _ (@Nat.sub (@List.length ChangeD x) x26) (@Nat.sub (@List.length ChangeD x) x18)))))))))))
 ((@LE.le Nat _ (@HMul.hMul _ _ _ _ (@List.length ChangeD x) (32 : Nat)) room47) →
 (br (@BEq.beq Int _ (Nat.cast x18 : Int) (Nat.cast (@List.length ChangeD x) : Int))
 (∃ x27 : (@List ChangeD),
 ((@LE.le Nat _ (@HAdd.hAdd _ _ _ _ (0 : Nat) (@List.length ChangeD x5)) (@List.length ChangeD (@insS x5))) ∧
 ((@Eq (@List ChangeD) (@List.take ChangeD (@List.length ChangeD x5) (@List.drop ChangeD (0 : Nat) (@insS x5))) x27) ∧
 ((@Eq Bool (@shortC x27) Bool.true) ∧
 (∀ x28 : Unit,
 (True →
 (@Eq Bool (@BEq.beq Bool _ (@BEq.beq Int _ (@chkC x9) (0 : Int)) (@BEq.beq Int _ (@chkC x27) (0 : Int))) Bool.true)))))))
 (@Eq Bool Bool.false Bool.true))))))))))))))))))))))))))))))))))
 (Bad "check" "law.go:58")))))))))))))) := by kernel_rfl

end Go.Proofs.Ytkhiifaldbjpbaa.Ses

namespace Go.Proofs.Ytkhiifaldbjpbaa.Ses
open Go Go.Proofs Go.Proofs.Ytkhiifaldbjpbaa.Sx

theorem roomc_ok : SpecOK Try.prog 46 roomCT.spec := by
  refine Tri.ok (E := roomCE) (Env_ok (by decide +kernel) (by simp)) (n := 1000) roomCT fun x hx => ?_
  rw [roomc_vc]
  revert x
  intro (l : List ChangeD) hx
  simp only [br_bad, br_true, br_false, List.length_singleton, and_self, Bool.not_true, Bool.not_false, Bool.not_not, decide_eq_true_eq, Bool.and_eq_true, List.take_zero, List.nil_append, List.drop_zero, Nat.zero_add, Int.toNat_natCast, Nat.sub_eq, true_and, and_true, exists_const, List.length_nil, Nat.zero_le, Nat.zero_mul, Nat.le_refl, List.length_set, List.take_length, Int.natCast_nonneg, forall_const, implies_true, Int.toNat_zero, Nat.le_eq, Int.le_refl, addN, cutN, loN, hiN, bndB, List.length_cons, List.take_succ_cons, List.length_take, List.length_drop, Option.isNone, Nat.add_zero, Nat.min_self]
  try simp only [br_iff, decide_eq_true_eq, decide_eq_false_iff_not, room47, Bool.not_eq_true', Bool.not_eq_false', gt_iff_lt]
  intro hl
  have all_step : ∀ {i : Nat}, (∀ (j : Nat) x, j < i → l[j]? = some x → x.path.length ≤ 300) → i < l.length → (l.getD i noC).path.length ≤ 300 → ∀ (j : Nat) x, j < i + 1 → l[j]? = some x → x.path.length ≤ 300 := by
    intro i h1 h2 h3 j x hj hx
    by_cases e : j < i
    · exact h1 j x e hx
    · have : j = i := by omega
      subst this
      have e2 : l.getD j noC = x := by simp [List.getD, hx]
      rw [← e2]; exact h3
  refine ⟨fun h => ?_, fun h => ⟨⟨0, rfl, by omega, fun j c h => by omega⟩, fun i ⟨h1, h2⟩ _ => ⟨fun h3 => ⟨h3, fun _ => ⟨fun h4 => ?_, fun h4 => ⟨i + 1, by rw [wrap_id (by omega) (by omega)]; rfl, ⟨by omega, all_step h2 (by omega) (show (l.getD i ⟨[], false, 0⟩).path.length ≤ 300 by omega)⟩, by omega⟩⟩⟩, fun h3 => ?_⟩⟩⟩
  · unfold roomCB
    have : decide (l.length ≤ 300) = false := by simp; omega
    rw [this]; rfl
  · unfold roomCB
    have : (l.all fun x => decide (x.path.length ≤ 300)) = false := by
      cases hq : l.all fun x => decide (x.path.length ≤ 300)
      · rfl
      · have := List.all_eq_true.1 hq (l.getD i noC) (getD_mem (by omega))
        simp only [decide_eq_true_eq] at this
        have this : (l.getD i ⟨[], false, 0⟩).path.length ≤ 300 := this
        omega
    rw [this, Bool.and_false]
  · unfold roomCB
    have e1 : decide (l.length ≤ 300) = true := by simp; omega
    have e2 : (l.all fun x => decide (x.path.length ≤ 300)) = true := by
      rw [List.all_eq_true]
      intro x hx
      obtain ⟨j, hj⟩ := List.getElem?_of_mem hx
      have := (List.getElem?_eq_some_iff.1 hj).1
      exact decide_eq_true (h2 j x (by omega) hj)
    rw [e1, e2]; rfl

theorem chk_bad (l : List ChangeD) : chkC l = bif badC l l.length then 1 else 0 := rfl
theorem badC_upto {l : List ChangeD} {i : Nat} (hi : i ≤ l.length) (h : badC l i = true) : badC l l.length = true := by
  unfold badC at h ⊢
  cases ho : okUpto l i
  · rcases Nat.lt_or_ge i l.length with hl | hl
    · cases i with
      | zero => cases ho
      | succ i => rw [okUpto_bad ho l.length (by omega)]; simp
    · rw [show l.length = i by omega, ho]; simp
  · rw [ho] at h
    simp only [Bool.not_true, Bool.or_false] at h
    rw [h]; simp
theorem badC_suc {l : List ChangeD} {i : Nat} (h : badC l i = false) : badC l (i + 1) = (!(goodC (l.getD i noC)) || hasC (l.getD i noC).path (l.take i)) := by
  unfold badC at h ⊢
  simp only [Bool.or_eq_false_iff, Bool.not_eq_false'] at h
  obtain ⟨⟨h1, h2⟩, h3⟩ := h
  have e : okUpto l (i + 1) = (okUpto l i && (goodC (l.getD i noC) && !(hasC (l.getD i noC).path (l.take i)))) := rfl
  rw [h1, h2, e, h3]
  cases goodC (l.getD i noC) <;> cases hasC (l.getD i noC).path (l.take i) <;> rfl
theorem has_suc {l : List ChangeD} {k : Nat} {p : Bs} (h : k < l.length) : hasC p (l.take (k + 1)) = (hasC p (l.take k) || (l.getD k noC).path == p) := by
  unfold hasC
  rw [take_succ_getD noC h, List.any_append]
  simp
set_option maxHeartbeats 0 in
theorem rcheck_ok : SpecOK Try.prog 47 rcheckT.spec := by
  refine Tri.ok (E := rcheckE) (Env_ok (by decide +kernel) (by simp [rnormal_ok])) (n := 1000) rcheckT fun x hx => ?_
  rw [rcheck_vc]
  revert hx
  revert x
  intro (l : List ChangeD) (hx : shortC l = true)
  intro hlen
  have hl : l.length ≤ 4398046511104 := by
    have h5 : l.length * 32 ≤ room47 := hlen
    simp only [room47] at h5
    omega
  have fin : ∀ i, i ≤ l.length → (badC l i = false → i = l.length) → br (badC l i) (∃ _ : Unit, (1 : Int) = chkC l ∧ True) (∃ _ : Unit, (0 : Int) = chkC l ∧ True) := by
    intro i hi hf
    refine br_i (fun h => ⟨(), ?_, trivial⟩) (fun h => ⟨(), ?_, trivial⟩)
    · rw [chk_bad, badC_upto hi h]; rfl
    · rw [chk_bad, ← hf h, h]; rfl
  refine br_i (fun h0 => ?_) (fun h0 => ?_)
  · have h0 : (l.length : Int) = 0 := by simpa using h0
    have hb : ∀ i, badC l i = true := fun i => by
      unfold badC
      rw [show l.length = 0 by omega]; rfl
    exact ⟨⟨0, rfl, (hb 0).symm, Nat.zero_le _⟩, fun i hi _ => by
      have hi : i ≤ l.length := hi
      exact br_f (decide_eq_false (by omega)) (fin i hi (fun h => by rw [hb] at h; cases h))⟩
  · have h0 : ¬ (l.length : Int) = 0 := by simpa using h0
    refine fun _ => ⟨⟨0, rfl, ?_, Nat.zero_le _⟩, fun i hi _ => ?_⟩
    · unfold badC okUpto
      have e0 : Nat.beq l.length 0 = false := by
        cases h' : Nat.beq l.length 0
        · rfl
        · exact absurd (Nat.eq_of_beq_eq_true h') (by omega)
      rw [e0]
      simp only [Bool.false_or, Bool.not_true, Bool.or_false, gt_iff_lt]
      rw [decide_eq_decide]; omega
    have hi : i ≤ l.length := hi
    refine br_i (fun h1 => ?_) (fun h1 => fin i hi fun _ => by have := of_decide_eq_false h1; omega)
    have h1 := of_decide_eq_true h1
    refine br_i (fun h2 => ?_) (fun h2 => fin i hi fun h => by rw [h] at h2; cases h2)
    have h2 : badC l i = false := by simpa using h2
    have hs := badC_suc h2
    have bi : decide ((0 : Int) ≤ (i : Int) ∧ (i : Int) < (l.length : Int)) = true := decide_eq_true ⟨by omega, h1⟩
    have inner : ∀ b0 : Bool, b0 = (!(goodC (l.getD i noC)) || hasC (l.getD i noC).path (l.take 0)) →
        (∃ k : Nat, (0 : Int) = (k : Int) ∧ b0 = (!(goodC (l.getD i noC)) || hasC (l.getD i noC).path (l.take k)) ∧ Nat.le k i) ∧
        (∀ k : Nat, Nat.le k i → br (decide ((k : Int) < (i : Int)))
          (br (!(goodC (l.getD i noC)) || hasC (l.getD i noC).path (l.take k))
            (∃ q : Nat, IntKind.i64.wrap ((k : Int) + 1) = (q : Int) ∧ true = (!(goodC (l.getD i noC)) || hasC (l.getD i noC).path (l.take q)) ∧ Nat.le q i ∧ Nat.sub i q < Nat.sub i k)
            (br (decide ((0 : Int) ≤ (k : Int) ∧ (k : Int) < (l.length : Int))) (br (decide ((0 : Int) ≤ (i : Int) ∧ (i : Int) < (l.length : Int)))
              (∃ q : Nat, IntKind.i64.wrap ((k : Int) + 1) = (q : Int) ∧ ((l.getD k noC).path == (l.getD i noC).path) = (!(goodC (l.getD i noC)) || hasC (l.getD i noC).path (l.take q)) ∧ Nat.le q i ∧ Nat.sub i q < Nat.sub i k) (Bad "check" "ref.go:88")) (Bad "check" "ref.go:88")))
          (∃ q : Nat, IntKind.i64.wrap ((i : Int) + 1) = (q : Int) ∧ (!(goodC (l.getD i noC)) || hasC (l.getD i noC).path (l.take k)) = badC l q ∧ Nat.le q l.length ∧ Nat.sub l.length q < Nat.sub l.length i)) := by
      intro b0 hb0
      refine ⟨⟨0, rfl, hb0, Nat.zero_le _⟩, fun k hk => br_i (fun h4 => ?_) (fun h4 => ?_)⟩
      · have h4 := of_decide_eq_true h4
        have hh := has_suc (l := l) (k := k) (p := (l.getD i noC).path) (by omega)
        refine br_i (fun h5 => ⟨k + 1, by rw [wrap_id (by omega) (by omega)]; rfl, ?_, by show k + 1 ≤ i; omega, by show i - (k + 1) < i - k; omega⟩) (fun h5 => br_t (decide_eq_true ⟨by omega, by omega⟩) (br_t bi ⟨k + 1, by rw [wrap_id (by omega) (by omega)]; rfl, ?_, by show k + 1 ≤ i; omega, by show i - (k + 1) < i - k; omega⟩))
        · rw [hh, ← Bool.or_assoc, h5]; rfl
        · rw [hh, ← Bool.or_assoc, h5]; rfl
      · have h4 := of_decide_eq_false h4
        have hk : k ≤ i := hk
        have : k = i := by omega
        subst this
        exact ⟨k + 1, by rw [wrap_id (by omega) (by omega)]; rfl, hs.symm, by show k + 1 ≤ l.length; omega, by show l.length - (k + 1) < l.length - k; omega⟩
    have has0 : hasC (l.getD i noC).path (l.take 0) = false := rfl
    have hg : goodC (l.getD i noC) = ((normB (l.getD i noC).path == some (l.getD i noC).path) && (!(l.getD i noC).gone || (l.getD i noC).digest == 0)) := rfl
    refine br_t bi ⟨(l.getD i noC).path, rfl, List.all_eq_true.1 hx _ (getD_mem (d := noC) (by omega)), fun _ _ => br_i (fun g1 => inner _ ?_) (fun g1 => br_t bi (br_i (fun g2 => inner _ ?_) (fun g2 => br_t bi (br_i (fun g3 => br_t bi (inner _ ?_)) (fun g3 => inner _ ?_)))))⟩
    · have g1 : normB (l.getD i noC).path = none := by simpa using g1
      rw [hg, has0, g1]; rfl
    all_goals
      have g1 : (normB (l.getD i noC).path).isSome = true := by simpa using g1
      obtain ⟨q, hq⟩ := Option.isSome_iff_exists.1 g1
      rw [hq] at g2
      simp only [Option.getD_some] at g2
      rw [hg, has0, hq]
    · have g2 : (q == (l.getD i noC).path) = false := by simpa using g2
      have : (some q == some (l.getD i noC).path) = false := g2
      rw [this]; rfl
    · have g2 : (q == (l.getD i noC).path) = true := by simpa using g2
      have : (some q == some (l.getD i noC).path) = true := g2
      have g3 : (l.getD i noC).gone = true := g3
      rw [this, g3]
      simp
      rfl
    · have g2 : (q == (l.getD i noC).path) = true := by simpa using g2
      have : (some q == some (l.getD i noC).path) = true := g2
      have g3 : (l.getD i noC).gone = false := g3
      rw [this, g3]
      rfl
theorem rsame_ok : SpecOK Try.prog 48 equalT.spec := by
  refine Tri.ok (E := rsameE) (Env_ok (by decide +kernel) (by simp)) (n := 1000) equalT fun x hx => ?_
  rw [rsame_vc]
  obtain ⟨a, b⟩ := x
  intro ha hb
  have ha5 : a.length * 32 ≤ room47 := ha
  simp only [room47] at ha5
  refine br_i (fun h => ⟨(), ?_, trivial⟩) (fun h => ⟨⟨0, rfl, Nat.zero_le _, rfl⟩, fun i hi _ => br_i (fun h3 => ?_) (fun h3 => ⟨(), ?_, trivial⟩)⟩)
  · have : Nat.beq a.length b.length = false := by
      cases h' : Nat.beq a.length b.length
      · rfl
      · rw [Nat.eq_of_beq_eq_true h'] at h; simp at h
    show false = sameC a b
    unfold sameC
    rw [this]; rfl
  · have he : (a.length : Int) = b.length := by simpa using h
    have h3 : (i : Int) < a.length := of_decide_eq_true h3
    obtain ⟨h1, h2⟩ := hi
    have h2 : sameC (a.drop i) (b.drop i) = sameC a b := h2
    have hs := same_at (a := a) (b := b) (i := i) (by omega) (by omega)
    rw [h2] at hs
    refine br_t (decide_eq_true ⟨by omega, h3⟩) (br_t (decide_eq_true ⟨by omega, by show (i : Int) < b.length; omega⟩) (br_i (fun h4 => ⟨(), ?_, trivial⟩) (fun h4 => ⟨i + 1, by rw [wrap_id (by omega) (by omega)]; rfl, ⟨by show i + 1 ≤ a.length; omega, ?_⟩, by show a.length - (i + 1) < a.length - i; omega⟩)))
    · have h4 : (!(eqC (a.getD i noC) (b.getD i noC))) = true := h4
      show false = sameC a b
      rw [Bool.not_eq_true'] at h4
      rw [hs, h4]; rfl
    · have h4 : (!(eqC (a.getD i noC) (b.getD i noC))) = false := h4
      rw [Bool.not_eq_false'] at h4
      show sameC (a.drop (i + 1)) (b.drop (i + 1)) = sameC a b
      rw [hs, h4]; rfl
  · have he : (a.length : Int) = b.length := by simpa using h
    have h3 : ¬ (i : Int) < a.length := of_decide_eq_false h3
    obtain ⟨h1, h2⟩ := hi
    have h2 : sameC (a.drop i) (b.drop i) = sameC a b := h2
    show true = sameC a b
    rw [← h2, List.drop_of_length_le (by omega : a.length ≤ i), List.drop_of_length_le (by omega : b.length ≤ i)]; rfl
end Go.Proofs.Ytkhiifaldbjpbaa.Ses

namespace Go.Proofs.Ytkhiifaldbjpbaa.Ses
open Go Go.Proofs Go.Proofs.Ytkhiifaldbjpbaa.Sx

theorem rsort_ok : SpecOK Try.prog 50 rsortT.spec := by
  refine Tri.ok (E := rsortE) (Env_ok (by decide +kernel) (by simp [rcompare_ok])) (n := 1000) rsortT fun x hx => ?_
  rw [rsort_vc]
  revert hx
  revert x
  intro (l : List ChangeD) (hx : shortC l = true ∧ fewX l = true)
  obtain ⟨hs, hf⟩ := hx
  have hf : l.length ≤ 100000 := of_decide_eq_true hf
  refine ⟨⟨0, rfl, rfl, rfl, Nat.zero_le _⟩, fun i hi _ => br_i (fun h1 => ?_) (fun h1 => ⟨(), rfl, ?_, ?_, trivial⟩)⟩
  · have h1 := of_decide_eq_true h1
    have hol : (insS (l.take i)).length = i := by rw [insS_len, List.length_take]; omega
    have hnext : insS (l.take (i + 1)) = insR (l.getD i noC) (insS (l.take i)) := by rw [take_succ_getD noC (by omega), insS_snoc]
    have hso : ∀ y, y ∈ insS (l.take i) → shortB y.path = true := fun y hy => List.all_eq_true.1 hs y (List.mem_of_mem_take (mem_insS.1 hy))
    have hsx : shortB (l.getD i noC).path = true := List.all_eq_true.1 hs _ (getD_mem (d := noC) (by omega))
    generalize insS (l.take i) = out at hol hnext hso ⊢
    refine fun _ => ⟨⟨out.length, rfl, Nat.le_refl _, fun j h2 h3 => absurd h3 (by omega)⟩, fun k hk => br_i (fun h2 => ?_) (fun h2 => ?_)⟩
    · have h2 := of_decide_eq_true h2
      obtain ⟨k1, k2⟩ := hk
      have w : IntKind.i64.wrap ((k : Int) - 1) = ((k - 1 : Nat) : Int) := by rw [wrap_id (by omega) (by omega)]; omega
      rw [w]
      have e0 : 0 + ((k - 1 : Nat) : Int).toNat = k - 1 := by simp
      rw [e0]
      refine br_t (decide_eq_true ⟨by omega, by omega⟩) (br_t (decide_eq_true (by omega)) (br_t (decide_eq_true ⟨by omega, by omega⟩) ⟨⟨(out.getD (k - 1) noC).path, (l.getD i noC).path⟩, rfl, rfl, ⟨hso _ (getD_mem (d := noC) (by omega)), hsx⟩, fun _ _ => br_i (fun g => ?_) (fun g => ?_)⟩))
      · have g : cmpC (out.getD (k - 1) noC) (l.getD i noC) > 0 := of_decide_eq_true g
        refine ⟨k - 1, rfl, ⟨by omega, fun j hj1 hj2 => ?_⟩, by omega⟩
        rcases Nat.lt_or_ge (k - 1) j with h | h
        · exact k2 j (by omega) hj2
        · have : j = k - 1 := by omega
          subst this
          show cmpC (l.getD i noC) (out.getD (k - 1) noC) < 0
          rw [cmpC_swap]; omega
      · have g : ¬ cmpC (out.getD (k - 1) noC) (l.getD i noC) > 0 := of_decide_eq_false g
        have hput := insR_put (x := l.getD i noC) (l := out) (k := k) (by omega) (fun _ => by rw [cmpC_swap]; omega) k2
        clear e0 w g h2 k2
        have hlk : (out.take k).length = k := by rw [List.length_take]; omega
        have c1 : cutN out.length none (some (k : Int)) = k := by simp [cutN, loN, hiN]
        have c2 : cutN out.length (some (k : Int)) none = out.length - k := by simp [cutN, loN, hiN]
        have a1 : addN 0 none = 0 := rfl
        have a2 : addN 0 (some (k : Int)) = k := by simp [addN, loN]
        have rm : ∀ n, n ≤ 100002 → decide (n * 32 ≤ room47) = true := fun n hn => by
          have : 100002 * 32 ≤ room47 := by decide
          exact decide_eq_true (Nat.le_trans (Nat.mul_le_mul_right 32 hn) this)
        have t1 : ∀ c : ChangeD, (out.take k ++ [c]).take (k + 1) = out.take k ++ [c] := fun c => List.take_of_length_le (by simp; omega)
        have t2 : (out.drop k).take (out.length - k) = out.drop k := List.take_of_length_le (by simp)
        have l2 : (out.drop k).length = out.length - k := List.length_drop
        simp only [c1, c2, a1, a2, Nat.zero_add, List.drop_zero, List.take_zero, List.nil_append, List.take_succ_cons, List.length_cons, List.length_nil, hlk, List.take_nil, List.drop_nil, t1, t2, l2, List.length_append]
        refine br_t (by simp [bndB]; omega) fun _ => br_t ?_ (br_t (decide_eq_true ⟨by omega, by omega⟩) fun _ => br_t ?_ (br_t (by simp [bndB]; omega) fun _ => br_t ?_ ⟨i + 1, by rw [wrap_id (by omega) (by omega)]; rfl, trivial, ?_, ?_, by show i + 1 ≤ l.length; omega, by show l.length - (i + 1) < l.length - i; omega⟩))
        · rw [rm k (by omega)]; simp; omega
        · rw [rm (k + 1) (by omega)]; simp
        · rw [rm (k + 1 + (out.length - k)) (by omega)]; simp; omega
        · rw [hnext, insR_len]; omega
        · have t3 : (out.take k).take k = out.take k := List.take_of_length_le (by omega)
          rw [hnext, hput, t3]
          show (out.take k ++ [l.getD i noC]).take (k + 1) ++ out.drop k = _
          rw [t1]
          simp
    · have h2 := of_decide_eq_false h2
      obtain ⟨k1, k2⟩ := hk
      have hput := insR_put (x := l.getD i noC) (l := out) (k := k) (by omega) (fun h => absurd h (by omega)) k2
      clear h2 k2
      have hlk : (out.take k).length = k := by rw [List.length_take]; omega
      have c1 : cutN out.length none (some (k : Int)) = k := by simp [cutN, loN, hiN]
      have c2 : cutN out.length (some (k : Int)) none = out.length - k := by simp [cutN, loN, hiN]
      have a1 : addN 0 none = 0 := rfl
      have a2 : addN 0 (some (k : Int)) = k := by simp [addN, loN]
      have rm : ∀ n, n ≤ 100002 → decide (n * 32 ≤ room47) = true := fun n hn => by
        have : 100002 * 32 ≤ room47 := by decide
        exact decide_eq_true (Nat.le_trans (Nat.mul_le_mul_right 32 hn) this)
      have t1 : ∀ c : ChangeD, (out.take k ++ [c]).take (k + 1) = out.take k ++ [c] := fun c => List.take_of_length_le (by simp; omega)
      have t2 : (out.drop k).take (out.length - k) = out.drop k := List.take_of_length_le (by simp)
      have l2 : (out.drop k).length = out.length - k := List.length_drop
      simp only [c1, c2, a1, a2, Nat.zero_add, List.drop_zero, List.take_zero, List.nil_append, List.take_succ_cons, List.length_cons, List.length_nil, hlk, List.take_nil, List.drop_nil, t1, t2, l2, List.length_append]
      refine br_t (by simp [bndB]; omega) fun _ => br_t ?_ (br_t (decide_eq_true ⟨by omega, by omega⟩) fun _ => br_t ?_ (br_t (by simp [bndB]; omega) fun _ => br_t ?_ ⟨i + 1, by rw [wrap_id (by omega) (by omega)]; rfl, trivial, ?_, ?_, by show i + 1 ≤ l.length; omega, by show l.length - (i + 1) < l.length - i; omega⟩))
      · rw [rm k (by omega)]; simp; omega
      · rw [rm (k + 1) (by omega)]; simp
      · rw [rm (k + 1 + (out.length - k)) (by omega)]; simp; omega
      · rw [hnext, insR_len]; omega
      · have t3 : (out.take k).take k = out.take k := List.take_of_length_le (by omega)
        rw [hnext, hput, t3]
        show (out.take k ++ [l.getD i noC]).take (k + 1) ++ out.drop k = _
        rw [t1]
        simp
  · have h1 := of_decide_eq_false h1
    have hi : i ≤ l.length := hi
    rw [insS_len, List.length_take]; omega
  · have h1 := of_decide_eq_false h1
    have hi : i ≤ l.length := hi
    rw [List.take_of_length_le (by omega)]
theorem short_ofC {l : List ChangeD} (h : roomCB l = true) : shortC l = true ∧ fewX l = true ∧ l.length ≤ 300 := by
  unfold roomCB at h
  simp only [Bool.and_eq_true, decide_eq_true_eq, List.all_eq_true] at h
  refine ⟨List.all_eq_true.2 fun x hx => decide_eq_true ?_, decide_eq_true (by omega), h.1⟩
  have := h.2 x hx
  omega
theorem cla_ok {loops : List (Nat × (St → LInv))} : EnvOK (Env Try.prog cod claS loops) := Env_ok (by decide +kernel) (by
  intro p hp
  simp only [claS, List.mem_cons, List.mem_nil_iff, or_false] at hp
  rcases hp with rfl | rfl | rfl | rfl | rfl | rfl | rfl | rfl | rfl
  · exact cawake_ok
  · exact roomc_ok
  · exact check_ok
  · exact rcheck_ok
  · exact sorx_ok
  · exact rsort_ok
  · exact rsame_ok
  · exact same_ok
  · exact compare_ok)
theorem all_lenC {α : Type} (l : List α) {n : Nat} (h : n = l.length) : (l.drop 0).take n = l := by rw [h]; simp
theorem cchk_ok : EnvOK claE := cla_ok
theorem cchk_body (x : ChkA) : evCall claE (ev claE 1000) 16 (chkArgs x) ⟨[], 0, []⟩ (fun _ _ => False) (fun v _ => TrueV v) := by
  rw [cchk_vc]
  obtain ⟨l, k⟩ := x
  refine ⟨(), trivial, fun _ _ => ⟨l, rfl, trivial, fun _ _ => br_i (fun _ => rfl) fun h1 => ⟨k, rfl, trivial, fun _ _ => br_i (fun _ => rfl) fun h2 => ?_⟩⟩⟩
  rw [Bool.not_eq_false'] at h1 h2
  obtain ⟨s1, f1, _⟩ := short_ofC h1
  refine ⟨l, rfl, s1, fun _ _ => ⟨l, rfl, s1, fun _ _ => br_t (by simp) ⟨l, rfl, f1, fun _ _ => ⟨l, rfl, ⟨s1, f1⟩, fun _ _ => ⟨⟨insS l, insS l⟩, by rw [insS_len]; omega, all_lenC _ (insS_len l).symm, by rw [insS_len]; omega, all_lenC _ (insS_len l).symm, trivial, fun _ _ => br_t (sameC_self _) ⟨⟨l, k⟩, rfl, rfl, trivial, fun _ _ => ⟨⟨l, k⟩, rfl, rfl, trivial, fun _ _ => br_t (by simp) ⟨⟨l, l⟩, rfl, rfl, trivial, fun _ _ => sameC_self l⟩⟩⟩⟩⟩⟩⟩⟩
theorem cso_ok : EnvOK csoE := cla_ok
theorem cso_body (l : ChaL) : evCall csoE (ev csoE 1000) 17 (srtArgs l) ⟨[], 0, []⟩ (fun _ _ => False) (fun v _ => TrueV v) := by
  rw [cso_vc]
  revert l
  intro (l : List ChangeD)
  refine ⟨(), trivial, fun _ _ => ⟨l, rfl, trivial, fun _ _ => br_i (fun _ => rfl) fun h1 => ?_⟩⟩
  rw [Bool.not_eq_false'] at h1
  obtain ⟨s1, f1, hl⟩ := short_ofC h1
  have hsl := insS_len l
  have hss : shortC (insS l) = true := List.all_eq_true.2 fun x hx => List.all_eq_true.1 s1 x (mem_insS.1 hx)
  have rm : decide ((0 + l.length) * 32 ≤ room47) = true := by
    have : 301 * 32 ≤ room47 := by decide
    exact decide_eq_true (Nat.le_trans (Nat.mul_le_mul_right 32 (by omega)) this)
  refine fun _ => br_t ?_ ⟨l, rfl, f1, fun _ _ _ _ => br_f (by simp) ⟨⟨l, l⟩, rfl, ?_, ?_, trivial, fun _ _ => br_f (by rw [sameC_self]; rfl) ⟨l, rfl, s1, fun _ _ => ⟨⟨1, rfl, Nat.le_refl _, ?_, ?_⟩, fun i hi _ => br_i (fun h2 => ?_) (fun h2 => ?_)⟩⟩⟩⟩
  · simp only [Bool.and_eq_true]
    exact ⟨⟨trivial, by simp⟩, rm⟩
  · simp
  · simp
  · omega
  · omega
  · obtain ⟨i1, i2, i3⟩ := hi
    have h2 := of_decide_eq_true h2
    obtain ⟨i, rfl⟩ : ∃ k', i = k' + 1 := ⟨i - 1, by omega⟩
    have w : IntKind.i64.wrap (((i + 1 : Nat) : Int) - 1) = (i : Int) := by rw [wrap_id (by omega) (by omega)]; omega
    rw [w]
    have e0 : 0 + (i : Int).toNat = i := by simp
    have e1 : 0 + ((i + 1 : Nat) : Int).toNat = i + 1 := by simp
    rw [e0, e1]
    have srt := pair_at (insS_srt l) (i := i) (j := i + 1) (by omega) (by omega)
    refine br_t (decide_eq_true ⟨by omega, by omega⟩) (br_t (decide_eq_true (by omega)) (br_t (decide_eq_true ⟨by omega, by omega⟩) (br_t (decide_eq_true (by omega)) ⟨⟨((insS l).getD i noC).path, ((insS l).getD (i + 1) noC).path⟩, rfl, rfl, trivial, fun _ _ => br_f (decide_eq_false (by show ¬ cmpC ((insS l).getD i noC) ((insS l).getD (i + 1) noC) > 0; unfold leC at srt; omega)) (br_i (fun hc => br_f ?_ ?_) (fun hc => ?_))⟩)))
    · have hc : chkC l = 0 := by simpa using hc
      have un := pair_at (chk_unlike (l := insS l) (by rw [chk_insS]; exact hc)) (i := i) (j := i + 1) (by omega) (by omega)
      cases hq : cmpL (splitB ((insS l).getD i noC).path) (splitB ((insS l).getD (i + 1) noC).path) == 0
      · rfl
      · exact absurd (cmpC_zero.1 (show cmpC ((insS l).getD i noC) ((insS l).getD (i + 1) noC) = 0 from eq_of_beq hq)) un
    all_goals exact ⟨i + 1 + 1, by rw [wrap_id (by omega) (by omega)]; rfl, ⟨by omega, by omega, .inl (by omega)⟩, by show l.length - (i + 1 + 1) < l.length - (i + 1); omega⟩
  · refine ⟨⟨0, rfl, rfl, Nat.zero_le _⟩, fun j hj _ => br_i (fun h3 => ?_) (fun h3 => ?_)⟩
    · have h3 := of_decide_eq_true h3
      have hmem : l.getD j noC ∈ insS l := mem_insS.2 (getD_mem (d := noC) (by omega))
      refine ⟨⟨0, rfl, rfl, Nat.zero_le _, fun q hq => absurd hq (Nat.not_lt_zero _)⟩, fun k hk _ => br_i (fun h4 => ?_) (fun h4 => ?_)⟩
      · have h4 := of_decide_eq_true h4
        obtain ⟨k1, k2⟩ := hk
        have e0 : 0 + (k : Int).toNat = k := by simp
        rw [e0]
        refine br_t (decide_eq_true ⟨by omega, by omega⟩) (br_t (decide_eq_true (by omega)) (br_t (decide_eq_true ⟨by omega, by omega⟩) (br_i (fun g => ⟨j + 1, by rw [wrap_id (by omega) (by omega)]; rfl, by rw [wrap_id (by omega) (by omega)]; rfl, by show j + 1 ≤ l.length; omega, by show l.length - (j + 1) < l.length - j; omega⟩) (fun g => ⟨k + 1, by rw [wrap_id (by omega) (by omega)]; rfl, rfl, ⟨by omega, fun q hq => ?_⟩, by show (insS l).length - (k + 1) < (insS l).length - k; omega⟩))))
        rcases Nat.lt_or_ge q k with h | h
        · exact k2 q h
        · have : q = k := by omega
          subst this
          exact g
      · have h4 := of_decide_eq_false h4
        obtain ⟨k1, k2⟩ := hk
        exfalso
        obtain ⟨q, hq⟩ := List.mem_iff_getElem?.1 hmem
        have hql : q < (insS l).length := by
          rcases Nat.lt_or_ge q (insS l).length with h | h
          · exact h
          · rw [List.getElem?_eq_none h] at hq; cases hq
        have := k2 q (by omega)
        rw [show (insS l).getD q ⟨[], false, 0⟩ = l.getD j noC by simp [List.getD, hq]] at this
        rw [show eqC (l.getD j noC) (l.getD ((j : Int)).toNat ⟨[], false, 0⟩) = true from eqC_iff.2 rfl] at this
        cases this
    · have h3 := of_decide_eq_false h3
      have hj : j ≤ l.length := hj
      refine fun _ => br_t (by simp; omega) ⟨insS l, by omega, all_lenC _ hsl.symm, hss, fun _ _ => ?_⟩
      rw [chk_insS]; simp
end Go.Proofs.Ytkhiifaldbjpbaa.Ses
