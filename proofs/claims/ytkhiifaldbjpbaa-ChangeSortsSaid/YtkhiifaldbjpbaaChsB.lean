/- What the evaluator leaves of sorting by merging. No condition. -/
import Derived.Test.YtkhiifaldbjpbaaChsA
import Derived.KernelRfl
set_option linter.unusedSimpArgs false
set_option linter.unusedVariables false

namespace Go.Proofs.Ytkhiifaldbjpbaa.Ses
open Go Go.Proofs Go.Proofs.Ytkhiifaldbjpbaa.Sx
set_option maxRecDepth 100000

theorem swp_vc (x : swpT.γ) : evCall swpE (ev swpE 1000) 105 (swpT.args x) ⟨swpT.blks x, swpT.n0, []⟩ (fun _ _ => False) (swpT.ends x) = (
((∃ x1 : Nat,
 ((@Eq Int (0 : Int) (Nat.cast x1 : Int)) ∧
 ((@Eq (@List ChangeD) (@SwpA.l x) (@swpL (@swpOf (@SwpA.l x) (@Int.toNat (Nat.cast (@List.length ChangeD (@SwpA.P x)) : Int)) (@Int.toNat (Nat.cast (@HAdd.hAdd _ _ _ _ (@List.length ChangeD (@SwpA.P x)) (@HAdd.hAdd _ _ _ _ (@List.length ChangeD (@SwpA.U x)) (@List.length ChangeD (@SwpA.W x)))) : Int)) (@Int.toNat (Nat.cast (@List.length ChangeD (@SwpA.U x)) : Int))) x1)) ∧
 (@Nat.le x1 (@Int.toNat (Nat.cast (@List.length ChangeD (@SwpA.U x)) : Int)))))) ∧
 (∀ x2 : Nat,
 ((@Nat.le x2 (@Int.toNat (Nat.cast (@List.length ChangeD (@SwpA.U x)) : Int))) →
 (br (@Decidable.decide (@LT.lt Int _ (Nat.cast x2 : Int) (Nat.cast (@List.length ChangeD (@SwpA.U x)) : Int)) _)
 (br (@Decidable.decide ((@LE.le Int _ (0 : Int) (@Go.IntKind.wrap Go.IntKind.i64 (@HAdd.hAdd Int Int Int _ (Nat.cast (@HAdd.hAdd _ _ _ _ (@List.length ChangeD (@SwpA.P x)) (@HAdd.hAdd _ _ _ _ (@List.length ChangeD (@SwpA.U x)) (@List.length ChangeD (@SwpA.W x)))) : Int) (Nat.cast x2 : Int)))) ∧
 (@LT.lt Int _ (@Go.IntKind.wrap Go.IntKind.i64 (@HAdd.hAdd Int Int Int _ (Nat.cast (@HAdd.hAdd _ _ _ _ (@List.length ChangeD (@SwpA.P x)) (@HAdd.hAdd _ _ _ _ (@List.length ChangeD (@SwpA.U x)) (@List.length ChangeD (@SwpA.W x)))) : Int) (Nat.cast x2 : Int))) (Nat.cast (@List.length ChangeD (@SwpA.l x)) : Int))) _)
 (br (@Decidable.decide (@LT.lt Nat _ (@HAdd.hAdd _ _ _ _ (0 : Nat) (@Int.toNat (@Go.IntKind.wrap Go.IntKind.i64 (@HAdd.hAdd Int Int Int _ (Nat.cast (@HAdd.hAdd _ _ _ _ (@List.length ChangeD (@SwpA.P x)) (@HAdd.hAdd _ _ _ _ (@List.length ChangeD (@SwpA.U x)) (@List.length ChangeD (@SwpA.W x)))) : Int) (Nat.cast x2 : Int))))) (@List.length ChangeD (@swpL (@swpOf (@SwpA.l x) (@Int.toNat (Nat.cast (@List.length ChangeD (@SwpA.P x)) : Int)) (@Int.toNat (Nat.cast (@HAdd.hAdd _ _ _ _ (@List.length ChangeD (@SwpA.P x)) (@HAdd.hAdd _ _ _ _ (@List.length ChangeD (@SwpA.U x)) (@List.length ChangeD (@SwpA.W x)))) : Int)) (@Int.toNat (Nat.cast (@List.length ChangeD (@SwpA.U x)) : Int))) x2))) _)
 (br (@Decidable.decide ((@LE.le Int _ (0 : Int) (@Go.IntKind.wrap Go.IntKind.i64 (@HAdd.hAdd Int Int Int _ (Nat.cast (@List.length ChangeD (@SwpA.P x)) : Int) (Nat.cast x2 : Int)))) ∧
 (@LT.lt Int _ (@Go.IntKind.wrap Go.IntKind.i64 (@HAdd.hAdd Int Int Int _ (Nat.cast (@List.length ChangeD (@SwpA.P x)) : Int) (Nat.cast x2 : Int))) (Nat.cast (@List.length ChangeD (@SwpA.l x)) : Int))) _)
 (br (@Decidable.decide (@LT.lt Nat _ (@HAdd.hAdd _ _ _ _ (0 : Nat) (@Int.toNat (@Go.IntKind.wrap Go.IntKind.i64 (@HAdd.hAdd Int Int Int _ (Nat.cast (@List.length ChangeD (@SwpA.P x)) : Int) (Nat.cast x2 : Int))))) (@List.length ChangeD (@swpL (@swpOf (@SwpA.l x) (@Int.toNat (Nat.cast (@List.length ChangeD (@SwpA.P x)) : Int)) (@Int.toNat (Nat.cast (@HAdd.hAdd _ _ _ _ (@List.length ChangeD (@SwpA.P x)) (@HAdd.hAdd _ _ _ _ (@List.length ChangeD (@SwpA.U x)) (@List.length ChangeD (@SwpA.W x)))) : Int)) (@Int.toNat (Nat.cast (@List.length ChangeD (@SwpA.U x)) : Int))) x2))) _)
 (br (@Decidable.decide ((@LE.le Int _ (0 : Int) (@Go.IntKind.wrap Go.IntKind.i64 (@HAdd.hAdd Int Int Int _ (Nat.cast (@List.length ChangeD (@SwpA.P x)) : Int) (Nat.cast x2 : Int)))) ∧
 (@LT.lt Int _ (@Go.IntKind.wrap Go.IntKind.i64 (@HAdd.hAdd Int Int Int _ (Nat.cast (@List.length ChangeD (@SwpA.P x)) : Int) (Nat.cast x2 : Int))) (Nat.cast (@List.length ChangeD (@SwpA.l x)) : Int))) _)
 (br (@Bool.and Bool.true (@Decidable.decide (@LT.lt Nat _ (@HAdd.hAdd _ _ _ _ (0 : Nat) (@Int.toNat (@Go.IntKind.wrap Go.IntKind.i64 (@HAdd.hAdd Int Int Int _ (Nat.cast (@List.length ChangeD (@SwpA.P x)) : Int) (Nat.cast x2 : Int))))) (@List.length ChangeD (@swpL (@swpOf (@SwpA.l x) (@Int.toNat (Nat.cast (@List.length ChangeD (@SwpA.P x)) : Int)) (@Int.toNat (Nat.cast (@HAdd.hAdd _ _ _ _ (@List.length ChangeD (@SwpA.P x)) (@HAdd.hAdd _ _ _ _ (@List.length ChangeD (@SwpA.U x)) (@List.length ChangeD (@SwpA.W x)))) : Int)) (@Int.toNat (Nat.cast (@List.length ChangeD (@SwpA.U x)) : Int))) x2))) _))
 (br (@Decidable.decide ((@LE.le Int _ (0 : Int) (@Go.IntKind.wrap Go.IntKind.i64 (@HAdd.hAdd Int Int Int _ (Nat.cast (@HAdd.hAdd _ _ _ _ (@List.length ChangeD (@SwpA.P x)) (@HAdd.hAdd _ _ _ _ (@List.length ChangeD (@SwpA.U x)) (@List.length ChangeD (@SwpA.W x)))) : Int) (Nat.cast x2 : Int)))) ∧
 (@LT.lt Int _ (@Go.IntKind.wrap Go.IntKind.i64 (@HAdd.hAdd Int Int Int _ (Nat.cast (@HAdd.hAdd _ _ _ _ (@List.length ChangeD (@SwpA.P x)) (@HAdd.hAdd _ _ _ _ (@List.length ChangeD (@SwpA.U x)) (@List.length ChangeD (@SwpA.W x)))) : Int) (Nat.cast x2 : Int))) (Nat.cast (@List.length ChangeD (@SwpA.l x)) : Int))) _)
 (br (@Bool.and Bool.true (@Decidable.decide (@LT.lt Nat _ (@HAdd.hAdd _ _ _ _ (0 : Nat) (@Int.toNat (@Go.IntKind.wrap Go.IntKind.i64 (@HAdd.hAdd Int Int Int _ (Nat.cast (@HAdd.hAdd _ _ _ _ (@List.length ChangeD (@SwpA.P x)) (@HAdd.hAdd _ _ _ _ (@List.length ChangeD (@SwpA.U x)) (@List.length ChangeD (@SwpA.W x)))) : Int) (Nat.cast x2 : Int))))) (@List.length ChangeD (@List.set ChangeD (@swpL (@swpOf (@SwpA.l x) (@Int.toNat (Nat.cast (@List.length ChangeD (@SwpA.P x)) : Int)) (@Int.toNat (Nat.cast (@HAdd.hAdd _ _ _ _ (@List.length ChangeD (@SwpA.P x)) (@HAdd.hAdd _ _ _ _ (@List.length ChangeD (@SwpA.U x)) (@List.length ChangeD (@SwpA.W x)))) : Int)) (@Int.toNat (Nat.cast (@List.length ChangeD (@SwpA.U x)) : Int))) x2) (@HAdd.hAdd _ _ _ _ (0 : Nat) (@Int.toNat (@Go.IntKind.wrap Go.IntKind.i64 (@HAdd.hAdd Int Int Int _ (Nat.cast (@List.length ChangeD (@SwpA.P x)) : Int) (Nat.cast x2 : Int))))) (@ChangeD.mk (@ChangeD.path (@List.getD ChangeD (@swpL (@swpOf (@SwpA.l x) (@Int.toNat (Nat.cast (@List.length ChangeD (@SwpA.P x)) : Int)) (@Int.toNat (Nat.cast (@HAdd.hAdd _ _ _ _ (@List.length ChangeD (@SwpA.P x)) (@HAdd.hAdd _ _ _ _ (@List.length ChangeD (@SwpA.U x)) (@List.length ChangeD (@SwpA.W x)))) : Int)) (@Int.toNat (Nat.cast (@List.length ChangeD (@SwpA.U x)) : Int))) x2) (@HAdd.hAdd _ _ _ _ (0 : Nat) (@Int.toNat (@Go.IntKind.wrap Go.IntKind.i64 (@HAdd.hAdd Int Int Int _ (Nat.cast (@HAdd.hAdd _ _ _ _ (@List.length ChangeD (@SwpA.P x)) (@HAdd.hAdd _ _ _ _ (@List.length ChangeD (@SwpA.U x)) (@List.length ChangeD (@SwpA.W x)))) : Int) (Nat.cast x2 : Int))))) (@ChangeD.mk (@List.nil UInt8) Bool.false (0 : Int)))) (@ChangeD.gone (@List.getD ChangeD (@swpL (@swpOf (@SwpA.l x) (@Int.toNat (Nat.cast (@List.length ChangeD (@SwpA.P x)) : Int)) (@Int.toNat (Nat.cast (@HAdd.hAdd _ _ _ _ (@List.length ChangeD (@SwpA.P x)) (@HAdd.hAdd _ _ _ _ (@List.length ChangeD (@SwpA.U x)) (@List.length ChangeD (@SwpA.W x)))) : Int)) (@Int.toNat (Nat.cast (@List.length ChangeD (@SwpA.U x)) : Int))) x2) (@HAdd.hAdd _ _ _ _ (0 : Nat) (@Int.toNat (@Go.IntKind.wrap Go.IntKind.i64 (@HAdd.hAdd Int Int Int _ (Nat.cast (@HAdd.hAdd _ _ _ _ (@List.length ChangeD (@SwpA.P x)) (@HAdd.hAdd _ _ _ _ (@List.length ChangeD (@SwpA.U x)) (@List.length ChangeD (@SwpA.W x)))) : Int) (Nat.cast x2 : Int))))) (@ChangeD.mk (@List.nil UInt8) Bool.false (0 : Int)))) (@ChangeD.digest (@List.getD ChangeD (@swpL (@swpOf (@SwpA.l x) (@Int.toNat (Nat.cast (@List.length ChangeD (@SwpA.P x)) : Int)) (@Int.toNat (Nat.cast (@HAdd.hAdd _ _ _ _ (@List.length ChangeD (@SwpA.P x)) (@HAdd.hAdd _ _ _ _ (@List.length ChangeD (@SwpA.U x)) (@List.length ChangeD (@SwpA.W x)))) : Int)) (@Int.toNat (Nat.cast (@List.length ChangeD (@SwpA.U x)) : Int))) x2) (@HAdd.hAdd _ _ _ _ (0 : Nat) (@Int.toNat (@Go.IntKind.wrap Go.IntKind.i64 (@HAdd.hAdd Int Int Int _ (Nat.cast (@HAdd.hAdd _ _ _ _ (@List.length ChangeD (@SwpA.P x)) (@HAdd.hAdd _ _ _ _ (@List.length ChangeD (@SwpA.U x)) (@List.length ChangeD (@SwpA.W x)))) : Int) (Nat.cast x2 : Int))))) (@ChangeD.mk (@List.nil UInt8) Bool.false (0 : Int)))))))) _))
 (∃ x3 : Nat,
 ((@Eq Int (@Go.IntKind.wrap Go.IntKind.i64 (@HAdd.hAdd Int Int Int _ (Nat.cast x2 : Int) (1 : Int))) (Nat.cast x3 : Int)) ∧
 ((@Eq (@List ChangeD) (@List.set ChangeD (@List.set ChangeD (@swpL (@swpOf (@SwpA.l x) (@Int.toNat (Nat.cast (@List.length ChangeD (@SwpA.P x)) : Int)) (@Int.toNat (Nat.cast (@HAdd.hAdd _ _ _ _ (@List.length ChangeD (@SwpA.P x)) (@HAdd.hAdd _ _ _ _ (@List.length ChangeD (@SwpA.U x)) (@List.length ChangeD (@SwpA.W x)))) : Int)) (@Int.toNat (Nat.cast (@List.length ChangeD (@SwpA.U x)) : Int))) x2) (@HAdd.hAdd _ _ _ _ (0 : Nat) (@Int.toNat (@Go.IntKind.wrap Go.IntKind.i64 (@HAdd.hAdd Int Int Int _ (Nat.cast (@List.length ChangeD (@SwpA.P x)) : Int) (Nat.cast x2 : Int))))) (@ChangeD.mk (@ChangeD.path (@List.getD ChangeD (@swpL (@swpOf (@SwpA.l x) (@Int.toNat (Nat.cast (@List.length ChangeD (@SwpA.P x)) : Int)) (@Int.toNat (Nat.cast (@HAdd.hAdd _ _ _ _ (@List.length ChangeD (@SwpA.P x)) (@HAdd.hAdd _ _ _ _ (@List.length ChangeD (@SwpA.U x)) (@List.length ChangeD (@SwpA.W x)))) : Int)) (@Int.toNat (Nat.cast (@List.length ChangeD (@SwpA.U x)) : Int))) x2) (@HAdd.hAdd _ _ _ _ (0 : Nat) (@Int.toNat (@Go.IntKind.wrap Go.IntKind.i64 (@HAdd.hAdd Int Int Int _ (Nat.cast (@HAdd.hAdd _ _ _ _ (@List.length ChangeD (@SwpA.P x)) (@HAdd.hAdd _ _ _ _ (@List.length ChangeD (@SwpA.U x)) (@List.length ChangeD (@SwpA.W x)))) : Int) (Nat.cast x2 : Int))))) (@ChangeD.mk (@List.nil UInt8) Bool.false (0 : Int)))) (@ChangeD.gone (@List.getD ChangeD (@swpL (@swpOf (@SwpA.l x) (@Int.toNat (Nat.cast (@List.length ChangeD (@SwpA.P x)) : Int)) (@Int.toNat (Nat.cast (@HAdd.hAdd _ _ _ _ (@List.length ChangeD (@SwpA.P x)) (@HAdd.hAdd _ _ _ _ (@List.length ChangeD (@SwpA.U x)) (@List.length ChangeD (@SwpA.W x)))) : Int)) (@Int.toNat (Nat.cast (@List.length ChangeD (@SwpA.U x)) : Int))) x2) (@HAdd.hAdd _ _ _ _ (0 : Nat) (@Int.toNat (@Go.IntKind.wrap Go.IntKind.i64 (@HAdd.hAdd Int Int Int _ (Nat.cast (@HAdd.hAdd _ _ _ _ (@List.length ChangeD (@SwpA.P x)) (@HAdd.hAdd _ _ _ _ (@List.length ChangeD (@SwpA.U x)) (@List.length ChangeD (@SwpA.W x)))) : Int) (Nat.cast x2 : Int))))) (@ChangeD.mk (@List.nil UInt8) Bool.false (0 : Int)))) (@ChangeD.digest (@List.getD ChangeD (@swpL (@swpOf (@SwpA.l x) (@Int.toNat (Nat.cast (@List.length ChangeD (@SwpA.P x)) : Int)) (@Int.toNat (Nat.cast (@HAdd.hAdd _ _ _ _ (@List.length ChangeD (@SwpA.P x)) (@HAdd.hAdd _ _ _ _ (@List.length ChangeD (@SwpA.U x)) (@List.length ChangeD (@SwpA.W x)))) : Int)) (@Int.toNat (Nat.cast (@List.length ChangeD (@SwpA.U x)) : Int))) x2) (@HAdd.hAdd _ _ _ _ (0 : Nat) (@Int.toNat (@Go.IntKind.wrap Go.IntKind.i64 (@HAdd.hAdd Int Int Int _ (Nat.cast (@HAdd.hAdd _ _ _ _ (@List.length ChangeD (@SwpA.P x)) (@HAdd.hAdd _ _ _ _ (@List.length ChangeD (@SwpA.U x)) (@List.length ChangeD (@SwpA.W x)))) : Int) (Nat.cast x2 : Int))))) (@ChangeD.mk (@List.nil UInt8) Bool.false (0 : Int)))))) (@HAdd.hAdd _ _ _ _ (0 : Nat) (@Int.toNat (@Go.IntKind.wrap Go.IntKind.i64 (@HAdd.hAdd Int Int Int _ (Nat.cast (@HAdd.hAdd _ _ _ _ (@List.length ChangeD (@SwpA.P x)) (@HAdd.hAdd _ _ _ _ (@List.length ChangeD (@SwpA.U x)) (@List.length ChangeD (@SwpA.W x)))) : Int) (Nat.cast x2 : Int))))) (@ChangeD.mk (@ChangeD.path (@List.getD ChangeD (@swpL (@swpOf (@SwpA.l x) (@Int.toNat (Nat.cast (@List.length ChangeD (@SwpA.P x)) : Int)) (@Int.toNat (Nat.cast (@HAdd.hAdd _ _ _ _ (@List.length ChangeD (@SwpA.P x)) (@HAdd.hAdd _ _ _ _ (@List.length ChangeD (@SwpA.U x)) (@List.length ChangeD (@SwpA.W x)))) : Int)) (@Int.toNat (Nat.cast (@List.length ChangeD (@SwpA.U x)) : Int))) x2) (@HAdd.hAdd _ _ _ _ (0 : Nat) (@Int.toNat (@Go.IntKind.wrap Go.IntKind.i64 (@HAdd.hAdd Int Int Int _ (Nat.cast (@List.length ChangeD (@SwpA.P x)) : Int) (Nat.cast x2 : Int))))) (@ChangeD.mk (@List.nil UInt8) Bool.false (0 : Int)))) (@ChangeD.gone (@List.getD ChangeD (@swpL (@swpOf (@SwpA.l x) (@Int.toNat (Nat.cast (@List.length ChangeD (@SwpA.P x)) : Int)) (@Int.toNat (Nat.cast (@HAdd.hAdd _ _ _ _ (@List.length ChangeD (@SwpA.P x)) (@HAdd.hAdd _ _ _ _ (@List.length ChangeD (@SwpA.U x)) (@List.length ChangeD (@SwpA.W x)))) : Int)) (@Int.toNat (Nat.cast (@List.length ChangeD (@SwpA.U x)) : Int))) x2) (@HAdd.hAdd _ _ _ _ (0 : Nat) (@Int.toNat (@Go.IntKind.wrap Go.IntKind.i64 (@HAdd.hAdd Int Int Int _ (Nat.cast (@List.length ChangeD (@SwpA.P x)) : Int) (Nat.cast x2 : Int))))) (@ChangeD.mk (@List.nil UInt8) Bool.false (0 : Int)))) (@ChangeD.digest (@List.getD ChangeD (@swpL (@swpOf (@SwpA.l x) (@Int.toNat (Nat.cast (@List.length ChangeD (@SwpA.P x)) : Int)) (@Int.toNat (Nat.cast (@HAdd.hAdd _ _ _ _ (@List.length ChangeD (@SwpA.P x)) (@HAdd.hAdd _ _ _ _ (@List.length ChangeD (@SwpA.U x)) (@List.length ChangeD (@SwpA.W x)))) : Int)) (@Int.toNat (Nat.cast (@List.length ChangeD (@SwpA.U x)) : Int))) x2) (@HAdd.hAdd _ _ _ _ (0 : Nat) (@Int.toNat (@Go.IntKind.wrap Go.IntKind.i64 (@HAdd.hAdd Int Int Int _ (Nat.cast (@List.length ChangeD (@SwpA.P x)) : Int) (Nat.cast x2 : Int))))) (@ChangeD.mk (@List.nil UInt8) Bool.false (0 : Int)))))) (@swpL (@swpOf (@SwpA.l x) (@Int.toNat (Nat.cast (@List.length ChangeD (@SwpA.P x)) : Int)) (@Int.toNat (Nat.cast (@HAdd.hAdd _ _ _ _ (@List.length ChangeD (@SwpA.P x)) (@HAdd.hAdd _ _ _ _ (@List.length ChangeD (@SwpA.U x)) (@List.length ChangeD (@SwpA.W x)))) : Int)) (@Int.toNat (Nat.cast (@List.length ChangeD (@SwpA.U x)) : Int))) x3)) ∧
 ((@Nat.le x3 (@Int.toNat (Nat.cast (@List.length ChangeD (@SwpA.U x)) : Int))) ∧
 (@LT.lt Nat _ (@Nat.sub (@Int.toNat (Nat.cast (@List.length ChangeD (@SwpA.U x)) : Int)) x3) (@Nat.sub (@Int.toNat (Nat.cast (@List.length ChangeD (@SwpA.U x)) : Int)) x2))))))
 (Bad "check" "zsortanyfunc.go:331"))
 (Bad "check" "zsortanyfunc.go:331"))
 (Bad "check" "zsortanyfunc.go:331"))
 (Bad "check" "zsortanyfunc.go:331"))
 (Bad "check" "zsortanyfunc.go:331"))
 (Bad "check" "zsortanyfunc.go:331"))
 (Bad "check" "zsortanyfunc.go:331"))
 (Bad "check" "zsortanyfunc.go:331"))
 (∃ x4 : Unit,
 ((@Eq (@List ChangeD) (@swpL (@swpOf (@SwpA.l x) (@Int.toNat (Nat.cast (@List.length ChangeD (@SwpA.P x)) : Int)) (@Int.toNat (Nat.cast (@HAdd.hAdd _ _ _ _ (@List.length ChangeD (@SwpA.P x)) (@HAdd.hAdd _ _ _ _ (@List.length ChangeD (@SwpA.U x)) (@List.length ChangeD (@SwpA.W x)))) : Int)) (@Int.toNat (Nat.cast (@List.length ChangeD (@SwpA.U x)) : Int))) x2) (@HAppend.hAppend (@List ChangeD) (@List ChangeD) (@List ChangeD) _ (@SwpA.P x) (@HAppend.hAppend (@List ChangeD) (@List ChangeD) (@List ChangeD) _ (@SwpA.V x) (@HAppend.hAppend (@List ChangeD) (@List ChangeD) (@List ChangeD) _ (@SwpA.W x) (@HAppend.hAppend (@List ChangeD) (@List ChangeD) (@List ChangeD) _ (@SwpA.U x) (@SwpA.Q x)))))) ∧
 True))))))) := by kernel_rfl

theorem rot_vc (x : rotT.γ) : evCall rotE (ev rotE 1000) 102 (rotT.args x) ⟨rotT.blks x, rotT.n0, []⟩ (fun _ _ => False) (rotT.ends x) = (
((∃ x1 : RotA,
 ((@Eq Int (@Go.IntKind.wrap Go.IntKind.i64 (@HSub.hSub Int Int Int _ (Nat.cast (@HAdd.hAdd _ _ _ _ (@List.length ChangeD (@RotA.P x)) (@List.length ChangeD (@RotA.U x))) : Int) (Nat.cast (@List.length ChangeD (@RotA.P x)) : Int))) (Nat.cast (@List.length ChangeD (@RotA.U x1)) : Int)) ∧
 ((@Eq Int (@Go.IntKind.wrap Go.IntKind.i64 (@HSub.hSub Int Int Int _ (Nat.cast (@HAdd.hAdd _ _ _ _ (@List.length ChangeD (@RotA.P x)) (@HAdd.hAdd _ _ _ _ (@List.length ChangeD (@RotA.U x)) (@List.length ChangeD (@RotA.V x)))) : Int) (Nat.cast (@HAdd.hAdd _ _ _ _ (@List.length ChangeD (@RotA.P x)) (@List.length ChangeD (@RotA.U x))) : Int))) (Nat.cast (@List.length ChangeD (@RotA.V x1)) : Int)) ∧
 ((@Eq (@List ChangeD) (@RotA.l x) (@RotA.l x1)) ∧
 ((@Eq (@List ChangeD) (@RotA.r x1) (@RotA.r (@rotOf (@RotA.l x) (@Int.toNat (Nat.cast (@List.length ChangeD (@RotA.P x)) : Int)) (@Int.toNat (Nat.cast (@HAdd.hAdd _ _ _ _ (@List.length ChangeD (@RotA.P x)) (@List.length ChangeD (@RotA.U x))) : Int)) (@Int.toNat (Nat.cast (@HAdd.hAdd _ _ _ _ (@List.length ChangeD (@RotA.P x)) (@HAdd.hAdd _ _ _ _ (@List.length ChangeD (@RotA.U x)) (@List.length ChangeD (@RotA.V x)))) : Int))))) ∧
 ((@Eq Nat (@HAdd.hAdd _ _ _ _ (@List.length ChangeD (@RotA.P x1)) (@List.length ChangeD (@RotA.U x1))) (@Int.toNat (Nat.cast (@HAdd.hAdd _ _ _ _ (@List.length ChangeD (@RotA.P x)) (@List.length ChangeD (@RotA.U x))) : Int))) ∧
 ((@Ne (@List ChangeD) (@RotA.U x1) (@List.nil ChangeD)) ∧
 (@Ne (@List ChangeD) (@RotA.V x1) (@List.nil ChangeD))))))))) ∧
 (∀ x2 : RotA,
 (((@Eq (@List ChangeD) (@RotA.r x2) (@RotA.r (@rotOf (@RotA.l x) (@Int.toNat (Nat.cast (@List.length ChangeD (@RotA.P x)) : Int)) (@Int.toNat (Nat.cast (@HAdd.hAdd _ _ _ _ (@List.length ChangeD (@RotA.P x)) (@List.length ChangeD (@RotA.U x))) : Int)) (@Int.toNat (Nat.cast (@HAdd.hAdd _ _ _ _ (@List.length ChangeD (@RotA.P x)) (@HAdd.hAdd _ _ _ _ (@List.length ChangeD (@RotA.U x)) (@List.length ChangeD (@RotA.V x)))) : Int))))) ∧
 ((@Eq Nat (@HAdd.hAdd _ _ _ _ (@List.length ChangeD (@RotA.P x2)) (@List.length ChangeD (@RotA.U x2))) (@Int.toNat (Nat.cast (@HAdd.hAdd _ _ _ _ (@List.length ChangeD (@RotA.P x)) (@List.length ChangeD (@RotA.U x))) : Int))) ∧
 ((@Ne (@List ChangeD) (@RotA.U x2) (@List.nil ChangeD)) ∧
 (@Ne (@List ChangeD) (@RotA.V x2) (@List.nil ChangeD))))) →
 (br (@bne Int _ (Nat.cast (@List.length ChangeD (@RotA.U x2)) : Int) (Nat.cast (@List.length ChangeD (@RotA.V x2)) : Int))
 (br (@Decidable.decide (@GT.gt Int _ (Nat.cast (@List.length ChangeD (@RotA.U x2)) : Int) (Nat.cast (@List.length ChangeD (@RotA.V x2)) : Int)) _)
 (∃ x3 : SwpA,
 ((@Eq Nat (0 : Nat) (0 : Nat)) ∧
 ((@Eq Nat (@List.length ChangeD (@RotA.l x)) (@List.length ChangeD (@SwpA.l x3))) ∧
 ((@Eq Int (@Go.IntKind.wrap Go.IntKind.i64 (@HSub.hSub Int Int Int _ (Nat.cast (@HAdd.hAdd _ _ _ _ (@List.length ChangeD (@RotA.P x)) (@List.length ChangeD (@RotA.U x))) : Int) (Nat.cast (@List.length ChangeD (@RotA.U x2)) : Int))) (Nat.cast (@List.length ChangeD (@SwpA.P x3)) : Int)) ∧
 ((@Eq Int (Nat.cast (@HAdd.hAdd _ _ _ _ (@List.length ChangeD (@RotA.P x)) (@List.length ChangeD (@RotA.U x))) : Int) (Nat.cast (@HAdd.hAdd _ _ _ _ (@List.length ChangeD (@SwpA.P x3)) (@HAdd.hAdd _ _ _ _ (@List.length ChangeD (@SwpA.U x3)) (@List.length ChangeD (@SwpA.W x3)))) : Int)) ∧
 ((@Eq Int (Nat.cast (@List.length ChangeD (@RotA.V x2)) : Int) (Nat.cast (@List.length ChangeD (@SwpA.U x3)) : Int)) ∧
 ((@Eq (@List ChangeD) (@RotA.l x2) (@SwpA.l x3)) ∧
 (((@Eq Nat (@List.length ChangeD (@SwpA.U x3)) (@List.length ChangeD (@SwpA.V x3))) ∧
 (@LE.le Nat _ (@List.length ChangeD (@SwpA.l x3)) (100000 : Nat))) ∧
 (∀ x4 : Unit,
 (True →
 (∃ x5 : RotA,
 ((@Eq Int (@Go.IntKind.wrap Go.IntKind.i64 (@HSub.hSub Int Int Int _ (Nat.cast (@List.length ChangeD (@RotA.U x2)) : Int) (Nat.cast (@List.length ChangeD (@RotA.V x2)) : Int))) (Nat.cast (@List.length ChangeD (@RotA.U x5)) : Int)) ∧
 ((@Eq Int (Nat.cast (@List.length ChangeD (@RotA.V x2)) : Int) (Nat.cast (@List.length ChangeD (@RotA.V x5)) : Int)) ∧
 ((@Eq (@List ChangeD) (@HAppend.hAppend (@List ChangeD) (@List ChangeD) (@List ChangeD) _ (@SwpA.P x3) (@HAppend.hAppend (@List ChangeD) (@List ChangeD) (@List ChangeD) _ (@SwpA.V x3) (@HAppend.hAppend (@List ChangeD) (@List ChangeD) (@List ChangeD) _ (@SwpA.W x3) (@HAppend.hAppend (@List ChangeD) (@List ChangeD) (@List ChangeD) _ (@SwpA.U x3) (@SwpA.Q x3))))) (@RotA.l x5)) ∧
 (((@Eq (@List ChangeD) (@RotA.r x5) (@RotA.r (@rotOf (@RotA.l x) (@Int.toNat (Nat.cast (@List.length ChangeD (@RotA.P x)) : Int)) (@Int.toNat (Nat.cast (@HAdd.hAdd _ _ _ _ (@List.length ChangeD (@RotA.P x)) (@List.length ChangeD (@RotA.U x))) : Int)) (@Int.toNat (Nat.cast (@HAdd.hAdd _ _ _ _ (@List.length ChangeD (@RotA.P x)) (@HAdd.hAdd _ _ _ _ (@List.length ChangeD (@RotA.U x)) (@List.length ChangeD (@RotA.V x)))) : Int))))) ∧
 ((@Eq Nat (@HAdd.hAdd _ _ _ _ (@List.length ChangeD (@RotA.P x5)) (@List.length ChangeD (@RotA.U x5))) (@Int.toNat (Nat.cast (@HAdd.hAdd _ _ _ _ (@List.length ChangeD (@RotA.P x)) (@List.length ChangeD (@RotA.U x))) : Int))) ∧
 ((@Ne (@List ChangeD) (@RotA.U x5) (@List.nil ChangeD)) ∧
 (@Ne (@List ChangeD) (@RotA.V x5) (@List.nil ChangeD))))) ∧
 (@LT.lt Nat _ (@Nat.add (@List.length ChangeD (@RotA.U x5)) (@List.length ChangeD (@RotA.V x5))) (@Nat.add (@List.length ChangeD (@RotA.U x2)) (@List.length ChangeD (@RotA.V x2)))))))))))))))))))
 (∃ x6 : SwpA,
 ((@Eq Nat (0 : Nat) (0 : Nat)) ∧
 ((@Eq Nat (@List.length ChangeD (@RotA.l x)) (@List.length ChangeD (@SwpA.l x6))) ∧
 ((@Eq Int (@Go.IntKind.wrap Go.IntKind.i64 (@HSub.hSub Int Int Int _ (Nat.cast (@HAdd.hAdd _ _ _ _ (@List.length ChangeD (@RotA.P x)) (@List.length ChangeD (@RotA.U x))) : Int) (Nat.cast (@List.length ChangeD (@RotA.U x2)) : Int))) (Nat.cast (@List.length ChangeD (@SwpA.P x6)) : Int)) ∧
 ((@Eq Int (@Go.IntKind.wrap Go.IntKind.i64 (@HSub.hSub Int Int Int _ (@Go.IntKind.wrap Go.IntKind.i64 (@HAdd.hAdd Int Int Int _ (Nat.cast (@HAdd.hAdd _ _ _ _ (@List.length ChangeD (@RotA.P x)) (@List.length ChangeD (@RotA.U x))) : Int) (Nat.cast (@List.length ChangeD (@RotA.V x2)) : Int))) (Nat.cast (@List.length ChangeD (@RotA.U x2)) : Int))) (Nat.cast (@HAdd.hAdd _ _ _ _ (@List.length ChangeD (@SwpA.P x6)) (@HAdd.hAdd _ _ _ _ (@List.length ChangeD (@SwpA.U x6)) (@List.length ChangeD (@SwpA.W x6)))) : Int)) ∧
 ((@Eq Int (Nat.cast (@List.length ChangeD (@RotA.U x2)) : Int) (Nat.cast (@List.length ChangeD (@SwpA.U x6)) : Int)) ∧
 ((@Eq (@List ChangeD) (@RotA.l x2) (@SwpA.l x6)) ∧
 (((@Eq Nat (@List.length ChangeD (@SwpA.U x6)) (@List.length ChangeD (@SwpA.V x6))) ∧
 (@LE.le Nat _ (@List.length ChangeD (@SwpA.l x6)) (100000 : Nat))) ∧
 (∀ x7 : Unit,
 (True →
 (∃ x8 : RotA,
 ((@Eq Int (Nat.cast (@List.length ChangeD (@RotA.U x2)) : Int) (Nat.cast (@List.length ChangeD (@RotA.U x8)) : Int)) ∧
 ((@Eq Int (@Go.IntKind.wrap Go.IntKind.i64 (@HSub.hSub Int Int Int _ (Nat.cast (@List.length ChangeD (@RotA.V x2)) : Int) (Nat.cast (@List.length ChangeD (@RotA.U x2)) : Int))) (Nat.cast (@List.length ChangeD (@RotA.V x8)) : Int)) ∧
 ((@Eq (@List ChangeD) (@HAppend.hAppend (@List ChangeD) (@List ChangeD) (@List ChangeD) _ (@SwpA.P x6) (@HAppend.hAppend (@List ChangeD) (@List ChangeD) (@List ChangeD) _ (@SwpA.V x6) (@HAppend.hAppend (@List ChangeD) (@List ChangeD) (@List ChangeD) _ (@SwpA.W x6) (@HAppend.hAppend (@List ChangeD) (@List ChangeD) (@List ChangeD) _ (@SwpA.U x6) (@SwpA.Q x6))))) (@RotA.l x8)) ∧
 (((@Eq (@List ChangeD) (@RotA.r x8) (@RotA.r (@rotOf (@RotA.l x) (@Int.toNat (Nat.cast (@List.length ChangeD (@RotA.P x)) : Int)) (@Int.toNat (Nat.cast (@HAdd.hAdd _ _ _ _ (@List.length ChangeD (@RotA.P x)) (@List.length ChangeD (@RotA.U x))) : Int)) (@Int.toNat (Nat.cast (@HAdd.hAdd _ _ _ _ (@List.length ChangeD (@RotA.P x)) (@HAdd.hAdd _ _ _ _ (@List.length ChangeD (@RotA.U x)) (@List.length ChangeD (@RotA.V x)))) : Int))))) ∧
 ((@Eq Nat (@HAdd.hAdd _ _ _ _ (@List.length ChangeD (@RotA.P x8)) (@List.length ChangeD (@RotA.U x8))) (@Int.toNat (Nat.cast (@HAdd.hAdd _ _ _ _ (@List.length ChangeD (@RotA.P x)) (@List.length ChangeD (@RotA.U x))) : Int))) ∧
 ((@Ne (@List ChangeD) (@RotA.U x8) (@List.nil ChangeD)) ∧
 (@Ne (@List ChangeD) (@RotA.V x8) (@List.nil ChangeD))))) ∧
 (@LT.lt Nat _ (@Nat.add (@List.length ChangeD (@RotA.U x8)) (@List.length ChangeD (@RotA.V x8))) (@Nat.add (@List.length ChangeD (@RotA.U x2)) (@List.length ChangeD (@RotA.V x2))))))))))))))))))))
 (∃ x9 : SwpA,
 ((@Eq Nat (0 : Nat) (0 : Nat)) ∧
 ((@Eq Nat (@List.length ChangeD (@RotA.l x)) (@List.length ChangeD (@SwpA.l x9))) ∧
 ((@Eq Int (@Go.IntKind.wrap Go.IntKind.i64 (@HSub.hSub Int Int Int _ (Nat.cast (@HAdd.hAdd _ _ _ _ (@List.length ChangeD (@RotA.P x)) (@List.length ChangeD (@RotA.U x))) : Int) (Nat.cast (@List.length ChangeD (@RotA.U x2)) : Int))) (Nat.cast (@List.length ChangeD (@SwpA.P x9)) : Int)) ∧
 ((@Eq Int (Nat.cast (@HAdd.hAdd _ _ _ _ (@List.length ChangeD (@RotA.P x)) (@List.length ChangeD (@RotA.U x))) : Int) (Nat.cast (@HAdd.hAdd _ _ _ _ (@List.length ChangeD (@SwpA.P x9)) (@HAdd.hAdd _ _ _ _ (@List.length ChangeD (@SwpA.U x9)) (@List.length ChangeD (@SwpA.W x9)))) : Int)) ∧
 ((@Eq Int (Nat.cast (@List.length ChangeD (@RotA.U x2)) : Int) (Nat.cast (@List.length ChangeD (@SwpA.U x9)) : Int)) ∧
 ((@Eq (@List ChangeD) (@RotA.l x2) (@SwpA.l x9)) ∧
 (((@Eq Nat (@List.length ChangeD (@SwpA.U x9)) (@List.length ChangeD (@SwpA.V x9))) ∧
 (@LE.le Nat _ (@List.length ChangeD (@SwpA.l x9)) (100000 : Nat))) ∧
 (∀ x10 : Unit,
 (True →
 (∃ x11 : Unit,
 ((@Eq (@List ChangeD) (@HAppend.hAppend (@List ChangeD) (@List ChangeD) (@List ChangeD) _ (@SwpA.P x9) (@HAppend.hAppend (@List ChangeD) (@List ChangeD) (@List ChangeD) _ (@SwpA.V x9) (@HAppend.hAppend (@List ChangeD) (@List ChangeD) (@List ChangeD) _ (@SwpA.W x9) (@HAppend.hAppend (@List ChangeD) (@List ChangeD) (@List ChangeD) _ (@SwpA.U x9) (@SwpA.Q x9))))) (@RotA.r x)) ∧
 True))))))))))))))))) := by kernel_rfl

theorem mrg_vc (n : Nat) (x : (mrgS n).γ) : evCall bareE (ev (mrgE n) 1000) 97 ((mrgS n).args x) ⟨(mrgS n).blks x, (mrgS n).n0, []⟩ (fun _ _ => False) ((mrgS n).ends x) = (
(br (@BEq.beq Int _ (@Go.IntKind.wrap Go.IntKind.i64 (@HSub.hSub Int Int Int _ (Nat.cast (@HAdd.hAdd _ _ _ _ (@List.length ChangeD (@MrgA.P x)) (@List.length ChangeD (@MrgA.U x))) : Int) (Nat.cast (@List.length ChangeD (@MrgA.P x)) : Int))) (1 : Int))
 ((∃ x2 : TwoN,
 ((@Eq Int (Nat.cast (@HAdd.hAdd _ _ _ _ (@List.length ChangeD (@MrgA.P x)) (@List.length ChangeD (@MrgA.U x))) : Int) (Nat.cast (@TwoN.i x2) : Int)) ∧
 ((@Eq Int (Nat.cast (@HAdd.hAdd _ _ _ _ (@List.length ChangeD (@MrgA.P x)) (@HAdd.hAdd _ _ _ _ (@List.length ChangeD (@MrgA.U x)) (@List.length ChangeD (@MrgA.V x)))) : Int) (Nat.cast (@TwoN.j x2) : Int)) ∧
 (((@LE.le Nat _ (@Int.toNat (Nat.cast (@HAdd.hAdd _ _ _ _ (@List.length ChangeD (@MrgA.P x)) (@List.length ChangeD (@MrgA.U x))) : Int)) (@TwoN.i x2)) ∧
 ((@LE.le Nat _ (@TwoN.i x2) (@TwoN.j x2)) ∧
 (@LE.le Nat _ (@TwoN.j x2) (@Int.toNat (Nat.cast (@HAdd.hAdd _ _ _ _ (@List.length ChangeD (@MrgA.P x)) (@HAdd.hAdd _ _ _ _ (@List.length ChangeD (@MrgA.U x)) (@List.length ChangeD (@MrgA.V x)))) : Int))))) ∧
 (((@LT.lt Nat _ (@Int.toNat (Nat.cast (@HAdd.hAdd _ _ _ _ (@List.length ChangeD (@MrgA.P x)) (@List.length ChangeD (@MrgA.U x))) : Int)) (@TwoN.i x2)) →
 (@LT.lt Int _ (@cmpC (@List.getD ChangeD (@MrgA.l x) (@HSub.hSub Nat Nat Nat _ (@TwoN.i x2) (1 : Nat)) (@ChangeD.mk (@List.nil UInt8) Bool.false (0 : Int))) (@List.getD ChangeD (@MrgA.l x) (@Int.toNat (Nat.cast (@List.length ChangeD (@MrgA.P x)) : Int)) (@ChangeD.mk (@List.nil UInt8) Bool.false (0 : Int)))) (0 : Int))) ∧
 ((@LT.lt Nat _ (@TwoN.j x2) (@Int.toNat (Nat.cast (@HAdd.hAdd _ _ _ _ (@List.length ChangeD (@MrgA.P x)) (@HAdd.hAdd _ _ _ _ (@List.length ChangeD (@MrgA.U x)) (@List.length ChangeD (@MrgA.V x)))) : Int))) →
 (@Not (@LT.lt Int _ (@cmpC (@List.getD ChangeD (@MrgA.l x) (@TwoN.j x2) (@ChangeD.mk (@List.nil UInt8) Bool.false (0 : Int))) (@List.getD ChangeD (@MrgA.l x) (@Int.toNat (Nat.cast (@List.length ChangeD (@MrgA.P x)) : Int)) (@ChangeD.mk (@List.nil UInt8) Bool.false (0 : Int)))) (0 : Int))))))))) ∧
 (∀ x3 : TwoN,
 ((((@LE.le Nat _ (@Int.toNat (Nat.cast (@HAdd.hAdd _ _ _ _ (@List.length ChangeD (@MrgA.P x)) (@List.length ChangeD (@MrgA.U x))) : Int)) (@TwoN.i x3)) ∧
 ((@LE.le Nat _ (@TwoN.i x3) (@TwoN.j x3)) ∧
 (@LE.le Nat _ (@TwoN.j x3) (@Int.toNat (Nat.cast (@HAdd.hAdd _ _ _ _ (@List.length ChangeD (@MrgA.P x)) (@HAdd.hAdd _ _ _ _ (@List.length ChangeD (@MrgA.U x)) (@List.length ChangeD (@MrgA.V x)))) : Int))))) ∧
 (((@LT.lt Nat _ (@Int.toNat (Nat.cast (@HAdd.hAdd _ _ _ _ (@List.length ChangeD (@MrgA.P x)) (@List.length ChangeD (@MrgA.U x))) : Int)) (@TwoN.i x3)) →
 (@LT.lt Int _ (@cmpC (@List.getD ChangeD (@MrgA.l x) (@HSub.hSub Nat Nat Nat _ (@TwoN.i x3) (1 : Nat)) (@ChangeD.mk (@List.nil UInt8) Bool.false (0 : Int))) (@List.getD ChangeD (@MrgA.l x) (@Int.toNat (Nat.cast (@List.length ChangeD (@MrgA.P x)) : Int)) (@ChangeD.mk (@List.nil UInt8) Bool.false (0 : Int)))) (0 : Int))) ∧
 ((@LT.lt Nat _ (@TwoN.j x3) (@Int.toNat (Nat.cast (@HAdd.hAdd _ _ _ _ (@List.length ChangeD (@MrgA.P x)) (@HAdd.hAdd _ _ _ _ (@List.length ChangeD (@MrgA.U x)) (@List.length ChangeD (@MrgA.V x)))) : Int))) →
 (@Not (@LT.lt Int _ (@cmpC (@List.getD ChangeD (@MrgA.l x) (@TwoN.j x3) (@ChangeD.mk (@List.nil UInt8) Bool.false (0 : Int))) (@List.getD ChangeD (@MrgA.l x) (@Int.toNat (Nat.cast (@List.length ChangeD (@MrgA.P x)) : Int)) (@ChangeD.mk (@List.nil UInt8) Bool.false (0 : Int)))) (0 : Int)))))) →
 (br (@Decidable.decide (@LT.lt Int _ (Nat.cast (@TwoN.i x3) : Int) (Nat.cast (@TwoN.j x3) : Int)) _)
 (br (@Decidable.decide ((@LE.le Int _ (0 : Int) (@Go.IntKind.wrap Go.IntKind.i64 (@Int.fdiv (@Go.IntKind.wrap Go.IntKind.u64 (@Go.IntKind.wrap Go.IntKind.i64 (@HAdd.hAdd Int Int Int _ (Nat.cast (@TwoN.i x3) : Int) (Nat.cast (@TwoN.j x3) : Int)))) (@HPow.hPow Int Nat Int _ (2 : Int) (@Min.min Nat _ (@Int.toNat (1 : Int)) (@Go.IntKind.bits Go.IntKind.u64)))))) ∧
 (@LT.lt Int _ (@Go.IntKind.wrap Go.IntKind.i64 (@Int.fdiv (@Go.IntKind.wrap Go.IntKind.u64 (@Go.IntKind.wrap Go.IntKind.i64 (@HAdd.hAdd Int Int Int _ (Nat.cast (@TwoN.i x3) : Int) (Nat.cast (@TwoN.j x3) : Int)))) (@HPow.hPow Int Nat Int _ (2 : Int) (@Min.min Nat _ (@Int.toNat (1 : Int)) (@Go.IntKind.bits Go.IntKind.u64))))) (Nat.cast (@List.length ChangeD (@MrgA.l x)) : Int))) _)
 (br (@Decidable.decide (@LT.lt Nat _ (@HAdd.hAdd _ _ _ _ (0 : Nat) (@Int.toNat (@Go.IntKind.wrap Go.IntKind.i64 (@Int.fdiv (@Go.IntKind.wrap Go.IntKind.u64 (@Go.IntKind.wrap Go.IntKind.i64 (@HAdd.hAdd Int Int Int _ (Nat.cast (@TwoN.i x3) : Int) (Nat.cast (@TwoN.j x3) : Int)))) (@HPow.hPow Int Nat Int _ (2 : Int) (@Min.min Nat _ (@Int.toNat (1 : Int)) (@Go.IntKind.bits Go.IntKind.u64))))))) (@List.length ChangeD (@MrgA.l x))) _)
 (br (@Decidable.decide ((@LE.le Int _ (0 : Int) (Nat.cast (@List.length ChangeD (@MrgA.P x)) : Int)) ∧
 (@LT.lt Int _ (Nat.cast (@List.length ChangeD (@MrgA.P x)) : Int) (Nat.cast (@List.length ChangeD (@MrgA.l x)) : Int))) _)
 (br (@Decidable.decide (@LT.lt Nat _ (@HAdd.hAdd _ _ _ _ (0 : Nat) (@Int.toNat (Nat.cast (@List.length ChangeD (@MrgA.P x)) : Int))) (@List.length ChangeD (@MrgA.l x))) _)
 (∃ x4 : TwoA,
 ((@Eq Bs (@ChangeD.path (@List.getD ChangeD (@MrgA.l x) (@HAdd.hAdd _ _ _ _ (0 : Nat) (@Int.toNat (@Go.IntKind.wrap Go.IntKind.i64 (@Int.fdiv (@Go.IntKind.wrap Go.IntKind.u64 (@Go.IntKind.wrap Go.IntKind.i64 (@HAdd.hAdd Int Int Int _ (Nat.cast (@TwoN.i x3) : Int) (Nat.cast (@TwoN.j x3) : Int)))) (@HPow.hPow Int Nat Int _ (2 : Int) (@Min.min Nat _ (@Int.toNat (1 : Int)) (@Go.IntKind.bits Go.IntKind.u64))))))) (@ChangeD.mk (@List.nil UInt8) Bool.false (0 : Int)))) (@TwoA.a x4)) ∧
 ((@Eq Bs (@ChangeD.path (@List.getD ChangeD (@MrgA.l x) (@HAdd.hAdd _ _ _ _ (0 : Nat) (@Int.toNat (Nat.cast (@List.length ChangeD (@MrgA.P x)) : Int))) (@ChangeD.mk (@List.nil UInt8) Bool.false (0 : Int)))) (@TwoA.b x4)) ∧
 (True ∧
 (∀ x5 : Unit,
 (True →
 (br (@Decidable.decide (@LT.lt Int _ (@cmpL (@splitB (@TwoA.a x4)) (@splitB (@TwoA.b x4))) (0 : Int)) _)
 (∃ x6 : TwoN,
 ((@Eq Int (@Go.IntKind.wrap Go.IntKind.i64 (@HAdd.hAdd Int Int Int _ (@Go.IntKind.wrap Go.IntKind.i64 (@Int.fdiv (@Go.IntKind.wrap Go.IntKind.u64 (@Go.IntKind.wrap Go.IntKind.i64 (@HAdd.hAdd Int Int Int _ (Nat.cast (@TwoN.i x3) : Int) (Nat.cast (@TwoN.j x3) : Int)))) (@HPow.hPow Int Nat Int _ (2 : Int) (@Min.min Nat _ (@Int.toNat (1 : Int)) (@Go.IntKind.bits Go.IntKind.u64))))) (1 : Int))) (Nat.cast (@TwoN.i x6) : Int)) ∧
 ((@Eq Int (Nat.cast (@TwoN.j x3) : Int) (Nat.cast (@TwoN.j x6) : Int)) ∧
 ((((@LE.le Nat _ (@Int.toNat (Nat.cast (@HAdd.hAdd _ _ _ _ (@List.length ChangeD (@MrgA.P x)) (@List.length ChangeD (@MrgA.U x))) : Int)) (@TwoN.i x6)) ∧
 ((@LE.le Nat _ (@TwoN.i x6) (@TwoN.j x6)) ∧
 (@LE.le Nat _ (@TwoN.j x6) (@Int.toNat (Nat.cast (@HAdd.hAdd _ _ _ _ (@List.length ChangeD (@MrgA.P x)) (@HAdd.hAdd _ _ _ _ (@List.length ChangeD (@MrgA.U x)) (@List.length ChangeD (@MrgA.V x)))) : Int))))) ∧
 (((@LT.lt Nat _ (@Int.toNat (Nat.cast (@HAdd.hAdd _ _ _ _ (@List.length ChangeD (@MrgA.P x)) (@List.length ChangeD (@MrgA.U x))) : Int)) (@TwoN.i x6)) →
 (@LT.lt Int _ (@cmpC (@List.getD ChangeD (@MrgA.l x) (@HSub.hSub Nat Nat Nat _ (@TwoN.i x6) (1 : Nat)) (@ChangeD.mk (@List.nil UInt8) Bool.false (0 : Int))) (@List.getD ChangeD (@MrgA.l x) (@Int.toNat (Nat.cast (@List.length ChangeD (@MrgA.P x)) : Int)) (@ChangeD.mk (@List.nil UInt8) Bool.false (0 : Int)))) (0 : Int))) ∧
 ((@LT.lt Nat _ (@TwoN.j x6) (@Int.toNat (Nat.cast (@HAdd.hAdd _ _ _ _ (@List.length ChangeD (@MrgA.P x)) (@HAdd.hAdd _ _ _ _ (@List.length ChangeD (@MrgA.U x)) (@List.length ChangeD (@MrgA.V x)))) : Int))) →
 (@Not (@LT.lt Int _ (@cmpC (@List.getD ChangeD (@MrgA.l x) (@TwoN.j x6) (@ChangeD.mk (@List.nil UInt8) Bool.false (0 : Int))) (@List.getD ChangeD (@MrgA.l x) (@Int.toNat (Nat.cast (@List.length ChangeD (@MrgA.P x)) : Int)) (@ChangeD.mk (@List.nil UInt8) Bool.false (0 : Int)))) (0 : Int)))))) ∧
 (@LT.lt Nat _ (@Nat.sub (@TwoN.j x6) (@TwoN.i x6)) (@Nat.sub (@TwoN.j x3) (@TwoN.i x3)))))))
 (∃ x7 : TwoN,
 ((@Eq Int (Nat.cast (@TwoN.i x3) : Int) (Nat.cast (@TwoN.i x7) : Int)) ∧
 ((@Eq Int (@Go.IntKind.wrap Go.IntKind.i64 (@Int.fdiv (@Go.IntKind.wrap Go.IntKind.u64 (@Go.IntKind.wrap Go.IntKind.i64 (@HAdd.hAdd Int Int Int _ (Nat.cast (@TwoN.i x3) : Int) (Nat.cast (@TwoN.j x3) : Int)))) (@HPow.hPow Int Nat Int _ (2 : Int) (@Min.min Nat _ (@Int.toNat (1 : Int)) (@Go.IntKind.bits Go.IntKind.u64))))) (Nat.cast (@TwoN.j x7) : Int)) ∧
 ((((@LE.le Nat _ (@Int.toNat (Nat.cast (@HAdd.hAdd _ _ _ _ (@List.length ChangeD (@MrgA.P x)) (@List.length ChangeD (@MrgA.U x))) : Int)) (@TwoN.i x7)) ∧
 ((@LE.le Nat _ (@TwoN.i x7) (@TwoN.j x7)) ∧
 (@LE.le Nat _ (@TwoN.j x7) (@Int.toNat (Nat.cast (@HAdd.hAdd _ _ _ _ (@List.length ChangeD (@MrgA.P x)) (@HAdd.hAdd _ _ _ _ (@List.length ChangeD (@MrgA.U x)) (@List.length ChangeD (@MrgA.V x)))) : Int))))) ∧
 (((@LT.lt Nat _ (@Int.toNat (Nat.cast (@HAdd.hAdd _ _ _ _ (@List.length ChangeD (@MrgA.P x)) (@List.length ChangeD (@MrgA.U x))) : Int)) (@TwoN.i x7)) →
 (@LT.lt Int _ (@cmpC (@List.getD ChangeD (@MrgA.l x) (@HSub.hSub Nat Nat Nat _ (@TwoN.i x7) (1 : Nat)) (@ChangeD.mk (@List.nil UInt8) Bool.false (0 : Int))) (@List.getD ChangeD (@MrgA.l x) (@Int.toNat (Nat.cast (@List.length ChangeD (@MrgA.P x)) : Int)) (@ChangeD.mk (@List.nil UInt8) Bool.false (0 : Int)))) (0 : Int))) ∧
 ((@LT.lt Nat _ (@TwoN.j x7) (@Int.toNat (Nat.cast (@HAdd.hAdd _ _ _ _ (@List.length ChangeD (@MrgA.P x)) (@HAdd.hAdd _ _ _ _ (@List.length ChangeD (@MrgA.U x)) (@List.length ChangeD (@MrgA.V x)))) : Int))) →
 (@Not (@LT.lt Int _ (@cmpC (@List.getD ChangeD (@MrgA.l x) (@TwoN.j x7) (@ChangeD.mk (@List.nil UInt8) Bool.false (0 : Int))) (@List.getD ChangeD (@MrgA.l x) (@Int.toNat (Nat.cast (@List.length ChangeD (@MrgA.P x)) : Int)) (@ChangeD.mk (@List.nil UInt8) Bool.false (0 : Int)))) (0 : Int)))))) ∧
 (@LT.lt Nat _ (@Nat.sub (@TwoN.j x7) (@TwoN.i x7)) (@Nat.sub (@TwoN.j x3) (@TwoN.i x3))))))))))))))
 (Bad "check" "zsortanyfunc.go:390"))
 (Bad "check" "zsortanyfunc.go:390"))
 (Bad "check" "zsortanyfunc.go:390"))
 (Bad "check" "zsortanyfunc.go:390"))
 ((∃ x8 : Nat,
 ((@Eq Int (Nat.cast (@List.length ChangeD (@MrgA.P x)) : Int) (Nat.cast x8 : Int)) ∧
 ((@Eq (@List ChangeD) (@MrgA.l x) (@mrg1 (@MrgA.l x) (@Int.toNat (Nat.cast (@List.length ChangeD (@MrgA.P x)) : Int)) (@Int.toNat (Nat.cast (@HAdd.hAdd _ _ _ _ (@List.length ChangeD (@MrgA.P x)) (@HAdd.hAdd _ _ _ _ (@List.length ChangeD (@MrgA.U x)) (@List.length ChangeD (@MrgA.V x)))) : Int)) x8)) ∧
 ((@LE.le Nat _ (@Int.toNat (Nat.cast (@List.length ChangeD (@MrgA.P x)) : Int)) x8) ∧
 (@LE.le Nat _ (@HAdd.hAdd _ _ _ _ x8 (1 : Nat)) (@Int.toNat (Nat.cast (@TwoN.i x3) : Int))))))) ∧
 (∀ x9 : Nat,
 (((@LE.le Nat _ (@Int.toNat (Nat.cast (@List.length ChangeD (@MrgA.P x)) : Int)) x9) ∧
 (@LE.le Nat _ (@HAdd.hAdd _ _ _ _ x9 (1 : Nat)) (@Int.toNat (Nat.cast (@TwoN.i x3) : Int)))) →
 (br (@Decidable.decide (@LT.lt Int _ (Nat.cast x9 : Int) (@Go.IntKind.wrap Go.IntKind.i64 (@HSub.hSub Int Int Int _ (Nat.cast (@TwoN.i x3) : Int) (1 : Int)))) _)
 (br (@Decidable.decide ((@LE.le Int _ (0 : Int) (@Go.IntKind.wrap Go.IntKind.i64 (@HAdd.hAdd Int Int Int _ (Nat.cast x9 : Int) (1 : Int)))) ∧
 (@LT.lt Int _ (@Go.IntKind.wrap Go.IntKind.i64 (@HAdd.hAdd Int Int Int _ (Nat.cast x9 : Int) (1 : Int))) (Nat.cast (@List.length ChangeD (@MrgA.l x)) : Int))) _)
 (br (@Decidable.decide (@LT.lt Nat _ (@HAdd.hAdd _ _ _ _ (0 : Nat) (@Int.toNat (@Go.IntKind.wrap Go.IntKind.i64 (@HAdd.hAdd Int Int Int _ (Nat.cast x9 : Int) (1 : Int))))) (@List.length ChangeD (@mrg1 (@MrgA.l x) (@Int.toNat (Nat.cast (@List.length ChangeD (@MrgA.P x)) : Int)) (@Int.toNat (Nat.cast (@HAdd.hAdd _ _ _ _ (@List.length ChangeD (@MrgA.P x)) (@HAdd.hAdd _ _ _ _ (@List.length ChangeD (@MrgA.U x)) (@List.length ChangeD (@MrgA.V x)))) : Int)) x9))) _)
 (br (@Decidable.decide ((@LE.le Int _ (0 : Int) (Nat.cast x9 : Int)) ∧
 (@LT.lt Int _ (Nat.cast x9 : Int) (Nat.cast (@List.length ChangeD (@MrgA.l x)) : Int))) _)
 (br (@Decidable.decide (@LT.lt Nat _ (@HAdd.hAdd _ _ _ _ (0 : Nat) (@Int.toNat (Nat.cast x9 : Int))) (@List.length ChangeD (@mrg1 (@MrgA.l x) (@Int.toNat (Nat.cast (@List.length ChangeD (@MrgA.P x)) : Int)) (@Int.toNat (Nat.cast (@HAdd.hAdd _ _ _ _ (@List.length ChangeD (@MrgA.P x)) (@HAdd.hAdd _ _ _ _ (@List.length ChangeD (@MrgA.U x)) (@List.length ChangeD (@MrgA.V x)))) : Int)) x9))) _)
 (br (@Decidable.decide ((@LE.le Int _ (0 : Int) (Nat.cast x9 : Int)) ∧
 (@LT.lt Int _ (Nat.cast x9 : Int) (Nat.cast (@List.length ChangeD (@MrgA.l x)) : Int))) _)
 (br (@Bool.and Bool.true (@Decidable.decide (@LT.lt Nat _ (@HAdd.hAdd _ _ _ _ (0 : Nat) (@Int.toNat (Nat.cast x9 : Int))) (@List.length ChangeD (@mrg1 (@MrgA.l x) (@Int.toNat (Nat.cast (@List.length ChangeD (@MrgA.P x)) : Int)) (@Int.toNat (Nat.cast (@HAdd.hAdd _ _ _ _ (@List.length ChangeD (@MrgA.P x)) (@HAdd.hAdd _ _ _ _ (@List.length ChangeD (@MrgA.U x)) (@List.length ChangeD (@MrgA.V x)))) : Int)) x9))) _))
 (br (@Decidable.decide ((@LE.le Int _ (0 : Int) (@Go.IntKind.wrap Go.IntKind.i64 (@HAdd.hAdd Int Int Int _ (Nat.cast x9 : Int) (1 : Int)))) ∧
 (@LT.lt Int _ (@Go.IntKind.wrap Go.IntKind.i64 (@HAdd.hAdd Int Int Int _ (Nat.cast x9 : Int) (1 : Int))) (Nat.cast (@List.length ChangeD (@MrgA.l x)) : Int))) _)
 (br (@Bool.and Bool.true (@Decidable.decide (@LT.lt Nat _ (@HAdd.hAdd _ _ _ _ (0 : Nat) (@Int.toNat (@Go.IntKind.wrap Go.IntKind.i64 (@HAdd.hAdd Int Int Int _ (Nat.cast x9 : Int) (1 : Int))))) (@List.length ChangeD (@List.set ChangeD (@mrg1 (@MrgA.l x) (@Int.toNat (Nat.cast (@List.length ChangeD (@MrgA.P x)) : Int)) (@Int.toNat (Nat.cast (@HAdd.hAdd _ _ _ _ (@List.length ChangeD (@MrgA.P x)) (@HAdd.hAdd _ _ _ _ (@List.length ChangeD (@MrgA.U x)) (@List.length ChangeD (@MrgA.V x)))) : Int)) x9) (@HAdd.hAdd _ _ _ _ (0 : Nat) (@Int.toNat (Nat.cast x9 : Int))) (@ChangeD.mk (@ChangeD.path (@List.getD ChangeD (@mrg1 (@MrgA.l x) (@Int.toNat (Nat.cast (@List.length ChangeD (@MrgA.P x)) : Int)) (@Int.toNat (Nat.cast (@HAdd.hAdd _ _ _ _ (@List.length ChangeD (@MrgA.P x)) (@HAdd.hAdd _ _ _ _ (@List.length ChangeD (@MrgA.U x)) (@List.length ChangeD (@MrgA.V x)))) : Int)) x9) (@HAdd.hAdd _ _ _ _ (0 : Nat) (@Int.toNat (@Go.IntKind.wrap Go.IntKind.i64 (@HAdd.hAdd Int Int Int _ (Nat.cast x9 : Int) (1 : Int))))) (@ChangeD.mk (@List.nil UInt8) Bool.false (0 : Int)))) (@ChangeD.gone (@List.getD ChangeD (@mrg1 (@MrgA.l x) (@Int.toNat (Nat.cast (@List.length ChangeD (@MrgA.P x)) : Int)) (@Int.toNat (Nat.cast (@HAdd.hAdd _ _ _ _ (@List.length ChangeD (@MrgA.P x)) (@HAdd.hAdd _ _ _ _ (@List.length ChangeD (@MrgA.U x)) (@List.length ChangeD (@MrgA.V x)))) : Int)) x9) (@HAdd.hAdd _ _ _ _ (0 : Nat) (@Int.toNat (@Go.IntKind.wrap Go.IntKind.i64 (@HAdd.hAdd Int Int Int _ (Nat.cast x9 : Int) (1 : Int))))) (@ChangeD.mk (@List.nil UInt8) Bool.false (0 : Int)))) (@ChangeD.digest (@List.getD ChangeD (@mrg1 (@MrgA.l x) (@Int.toNat (Nat.cast (@List.length ChangeD (@MrgA.P x)) : Int)) (@Int.toNat (Nat.cast (@HAdd.hAdd _ _ _ _ (@List.length ChangeD (@MrgA.P x)) (@HAdd.hAdd _ _ _ _ (@List.length ChangeD (@MrgA.U x)) (@List.length ChangeD (@MrgA.V x)))) : Int)) x9) (@HAdd.hAdd _ _ _ _ (0 : Nat) (@Int.toNat (@Go.IntKind.wrap Go.IntKind.i64 (@HAdd.hAdd Int Int Int _ (Nat.cast x9 : Int) (1 : Int))))) (@ChangeD.mk (@List.nil UInt8) Bool.false (0 : Int)))))))) _))
 (∃ x10 : Nat,
 ((@Eq Int (@Go.IntKind.wrap Go.IntKind.i64 (@HAdd.hAdd Int Int Int _ (Nat.cast x9 : Int) (1 : Int))) (Nat.cast x10 : Int)) ∧
 ((@Eq (@List ChangeD) (@List.set ChangeD (@List.set ChangeD (@mrg1 (@MrgA.l x) (@Int.toNat (Nat.cast (@List.length ChangeD (@MrgA.P x)) : Int)) (@Int.toNat (Nat.cast (@HAdd.hAdd _ _ _ _ (@List.length ChangeD (@MrgA.P x)) (@HAdd.hAdd _ _ _ _ (@List.length ChangeD (@MrgA.U x)) (@List.length ChangeD (@MrgA.V x)))) : Int)) x9) (@HAdd.hAdd _ _ _ _ (0 : Nat) (@Int.toNat (Nat.cast x9 : Int))) (@ChangeD.mk (@ChangeD.path (@List.getD ChangeD (@mrg1 (@MrgA.l x) (@Int.toNat (Nat.cast (@List.length ChangeD (@MrgA.P x)) : Int)) (@Int.toNat (Nat.cast (@HAdd.hAdd _ _ _ _ (@List.length ChangeD (@MrgA.P x)) (@HAdd.hAdd _ _ _ _ (@List.length ChangeD (@MrgA.U x)) (@List.length ChangeD (@MrgA.V x)))) : Int)) x9) (@HAdd.hAdd _ _ _ _ (0 : Nat) (@Int.toNat (@Go.IntKind.wrap Go.IntKind.i64 (@HAdd.hAdd Int Int Int _ (Nat.cast x9 : Int) (1 : Int))))) (@ChangeD.mk (@List.nil UInt8) Bool.false (0 : Int)))) (@ChangeD.gone (@List.getD ChangeD (@mrg1 (@MrgA.l x) (@Int.toNat (Nat.cast (@List.length ChangeD (@MrgA.P x)) : Int)) (@Int.toNat (Nat.cast (@HAdd.hAdd _ _ _ _ (@List.length ChangeD (@MrgA.P x)) (@HAdd.hAdd _ _ _ _ (@List.length ChangeD (@MrgA.U x)) (@List.length ChangeD (@MrgA.V x)))) : Int)) x9) (@HAdd.hAdd _ _ _ _ (0 : Nat) (@Int.toNat (@Go.IntKind.wrap Go.IntKind.i64 (@HAdd.hAdd Int Int Int _ (Nat.cast x9 : Int) (1 : Int))))) (@ChangeD.mk (@List.nil UInt8) Bool.false (0 : Int)))) (@ChangeD.digest (@List.getD ChangeD (@mrg1 (@MrgA.l x) (@Int.toNat (Nat.cast (@List.length ChangeD (@MrgA.P x)) : Int)) (@Int.toNat (Nat.cast (@HAdd.hAdd _ _ _ _ (@List.length ChangeD (@MrgA.P x)) (@HAdd.hAdd _ _ _ _ (@List.length ChangeD (@MrgA.U x)) (@List.length ChangeD (@MrgA.V x)))) : Int)) x9) (@HAdd.hAdd _ _ _ _ (0 : Nat) (@Int.toNat (@Go.IntKind.wrap Go.IntKind.i64 (@HAdd.hAdd Int Int Int _ (Nat.cast x9 : Int) (1 : Int))))) (@ChangeD.mk (@List.nil UInt8) Bool.false (0 : Int)))))) (@HAdd.hAdd _ _ _ _ (0 : Nat) (@Int.toNat (@Go.IntKind.wrap Go.IntKind.i64 (@HAdd.hAdd Int Int Int _ (Nat.cast x9 : Int) (1 : Int))))) (@ChangeD.mk (@ChangeD.path (@List.getD ChangeD (@mrg1 (@MrgA.l x) (@Int.toNat (Nat.cast (@List.length ChangeD (@MrgA.P x)) : Int)) (@Int.toNat (Nat.cast (@HAdd.hAdd _ _ _ _ (@List.length ChangeD (@MrgA.P x)) (@HAdd.hAdd _ _ _ _ (@List.length ChangeD (@MrgA.U x)) (@List.length ChangeD (@MrgA.V x)))) : Int)) x9) (@HAdd.hAdd _ _ _ _ (0 : Nat) (@Int.toNat (Nat.cast x9 : Int))) (@ChangeD.mk (@List.nil UInt8) Bool.false (0 : Int)))) (@ChangeD.gone (@List.getD ChangeD (@mrg1 (@MrgA.l x) (@Int.toNat (Nat.cast (@List.length ChangeD (@MrgA.P x)) : Int)) (@Int.toNat (Nat.cast (@HAdd.hAdd _ _ _ _ (@List.length ChangeD (@MrgA.P x)) (@HAdd.hAdd _ _ _ _ (@List.length ChangeD (@MrgA.U x)) (@List.length ChangeD (@MrgA.V x)))) : Int)) x9) (@HAdd.hAdd _ _ _ _ (0 : Nat) (@Int.toNat (Nat.cast x9 : Int))) (@ChangeD.mk (@List.nil UInt8) Bool.false (0 : Int)))) (@ChangeD.digest (@List.getD ChangeD (@mrg1 (@MrgA.l x) (@Int.toNat (Nat.cast (@List.length ChangeD (@MrgA.P x)) : Int)) (@Int.toNat (Nat.cast (@HAdd.hAdd _ _ _ _ (@List.length ChangeD (@MrgA.P x)) (@HAdd.hAdd _ _ _ _ (@List.length ChangeD (@MrgA.U x)) (@List.length ChangeD (@MrgA.V x)))) : Int)) x9) (@HAdd.hAdd _ _ _ _ (0 : Nat) (@Int.toNat (Nat.cast x9 : Int))) (@ChangeD.mk (@List.nil UInt8) Bool.false (0 : Int)))))) (@mrg1 (@MrgA.l x) (@Int.toNat (Nat.cast (@List.length ChangeD (@MrgA.P x)) : Int)) (@Int.toNat (Nat.cast (@HAdd.hAdd _ _ _ _ (@List.length ChangeD (@MrgA.P x)) (@HAdd.hAdd _ _ _ _ (@List.length ChangeD (@MrgA.U x)) (@List.length ChangeD (@MrgA.V x)))) : Int)) x10)) ∧
 (((@LE.le Nat _ (@Int.toNat (Nat.cast (@List.length ChangeD (@MrgA.P x)) : Int)) x10) ∧
 (@LE.le Nat _ (@HAdd.hAdd _ _ _ _ x10 (1 : Nat)) (@Int.toNat (Nat.cast (@TwoN.i x3) : Int)))) ∧
 (@LT.lt Nat _ (@Nat.sub (@Int.toNat (Nat.cast (@TwoN.i x3) : Int)) x10) (@Nat.sub (@Int.toNat (Nat.cast (@TwoN.i x3) : Int)) x9))))))
 (Bad "check" "zsortanyfunc.go:398"))
 (Bad "check" "zsortanyfunc.go:398"))
 (Bad "check" "zsortanyfunc.go:398"))
 (Bad "check" "zsortanyfunc.go:398"))
 (Bad "check" "zsortanyfunc.go:398"))
 (Bad "check" "zsortanyfunc.go:398"))
 (Bad "check" "zsortanyfunc.go:398"))
 (Bad "check" "zsortanyfunc.go:398"))
 (∃ x11 : Unit,
 ((@Eq (@List ChangeD) (@mrg1 (@MrgA.l x) (@Int.toNat (Nat.cast (@List.length ChangeD (@MrgA.P x)) : Int)) (@Int.toNat (Nat.cast (@HAdd.hAdd _ _ _ _ (@List.length ChangeD (@MrgA.P x)) (@HAdd.hAdd _ _ _ _ (@List.length ChangeD (@MrgA.U x)) (@List.length ChangeD (@MrgA.V x)))) : Int)) x9) (@MrgA.r x)) ∧
 True))))))))))
 (br (@BEq.beq Int _ (@Go.IntKind.wrap Go.IntKind.i64 (@HSub.hSub Int Int Int _ (Nat.cast (@HAdd.hAdd _ _ _ _ (@List.length ChangeD (@MrgA.P x)) (@HAdd.hAdd _ _ _ _ (@List.length ChangeD (@MrgA.U x)) (@List.length ChangeD (@MrgA.V x)))) : Int) (Nat.cast (@HAdd.hAdd _ _ _ _ (@List.length ChangeD (@MrgA.P x)) (@List.length ChangeD (@MrgA.U x))) : Int))) (1 : Int))
 ((∃ x12 : TwoN,
 ((@Eq Int (Nat.cast (@List.length ChangeD (@MrgA.P x)) : Int) (Nat.cast (@TwoN.i x12) : Int)) ∧
 ((@Eq Int (Nat.cast (@HAdd.hAdd _ _ _ _ (@List.length ChangeD (@MrgA.P x)) (@List.length ChangeD (@MrgA.U x))) : Int) (Nat.cast (@TwoN.j x12) : Int)) ∧
 (((@LE.le Nat _ (@Int.toNat (Nat.cast (@List.length ChangeD (@MrgA.P x)) : Int)) (@TwoN.i x12)) ∧
 ((@LE.le Nat _ (@TwoN.i x12) (@TwoN.j x12)) ∧
 (@LE.le Nat _ (@TwoN.j x12) (@Int.toNat (Nat.cast (@HAdd.hAdd _ _ _ _ (@List.length ChangeD (@MrgA.P x)) (@List.length ChangeD (@MrgA.U x))) : Int))))) ∧
 (((@LT.lt Nat _ (@Int.toNat (Nat.cast (@List.length ChangeD (@MrgA.P x)) : Int)) (@TwoN.i x12)) →
 (@Not (@LT.lt Int _ (@cmpC (@List.getD ChangeD (@MrgA.l x) (@Int.toNat (Nat.cast (@HAdd.hAdd _ _ _ _ (@List.length ChangeD (@MrgA.P x)) (@List.length ChangeD (@MrgA.U x))) : Int)) (@ChangeD.mk (@List.nil UInt8) Bool.false (0 : Int))) (@List.getD ChangeD (@MrgA.l x) (@HSub.hSub Nat Nat Nat _ (@TwoN.i x12) (1 : Nat)) (@ChangeD.mk (@List.nil UInt8) Bool.false (0 : Int)))) (0 : Int)))) ∧
 ((@LT.lt Nat _ (@TwoN.j x12) (@Int.toNat (Nat.cast (@HAdd.hAdd _ _ _ _ (@List.length ChangeD (@MrgA.P x)) (@List.length ChangeD (@MrgA.U x))) : Int))) →
 (@LT.lt Int _ (@cmpC (@List.getD ChangeD (@MrgA.l x) (@Int.toNat (Nat.cast (@HAdd.hAdd _ _ _ _ (@List.length ChangeD (@MrgA.P x)) (@List.length ChangeD (@MrgA.U x))) : Int)) (@ChangeD.mk (@List.nil UInt8) Bool.false (0 : Int))) (@List.getD ChangeD (@MrgA.l x) (@TwoN.j x12) (@ChangeD.mk (@List.nil UInt8) Bool.false (0 : Int)))) (0 : Int)))))))) ∧
 (∀ x13 : TwoN,
 ((((@LE.le Nat _ (@Int.toNat (Nat.cast (@List.length ChangeD (@MrgA.P x)) : Int)) (@TwoN.i x13)) ∧
 ((@LE.le Nat _ (@TwoN.i x13) (@TwoN.j x13)) ∧
 (@LE.le Nat _ (@TwoN.j x13) (@Int.toNat (Nat.cast (@HAdd.hAdd _ _ _ _ (@List.length ChangeD (@MrgA.P x)) (@List.length ChangeD (@MrgA.U x))) : Int))))) ∧
 (((@LT.lt Nat _ (@Int.toNat (Nat.cast (@List.length ChangeD (@MrgA.P x)) : Int)) (@TwoN.i x13)) →
 (@Not (@LT.lt Int _ (@cmpC (@List.getD ChangeD (@MrgA.l x) (@Int.toNat (Nat.cast (@HAdd.hAdd _ _ _ _ (@List.length ChangeD (@MrgA.P x)) (@List.length ChangeD (@MrgA.U x))) : Int)) (@ChangeD.mk (@List.nil UInt8) Bool.false (0 : Int))) (@List.getD ChangeD (@MrgA.l x) (@HSub.hSub Nat Nat Nat _ (@TwoN.i x13) (1 : Nat)) (@ChangeD.mk (@List.nil UInt8) Bool.false (0 : Int)))) (0 : Int)))) ∧
 ((@LT.lt Nat _ (@TwoN.j x13) (@Int.toNat (Nat.cast (@HAdd.hAdd _ _ _ _ (@List.length ChangeD (@MrgA.P x)) (@List.length ChangeD (@MrgA.U x))) : Int))) →
 (@LT.lt Int _ (@cmpC (@List.getD ChangeD (@MrgA.l x) (@Int.toNat (Nat.cast (@HAdd.hAdd _ _ _ _ (@List.length ChangeD (@MrgA.P x)) (@List.length ChangeD (@MrgA.U x))) : Int)) (@ChangeD.mk (@List.nil UInt8) Bool.false (0 : Int))) (@List.getD ChangeD (@MrgA.l x) (@TwoN.j x13) (@ChangeD.mk (@List.nil UInt8) Bool.false (0 : Int)))) (0 : Int))))) →
 (br (@Decidable.decide (@LT.lt Int _ (Nat.cast (@TwoN.i x13) : Int) (Nat.cast (@TwoN.j x13) : Int)) _)
 (br (@Decidable.decide ((@LE.le Int _ (0 : Int) (Nat.cast (@HAdd.hAdd _ _ _ _ (@List.length ChangeD (@MrgA.P x)) (@List.length ChangeD (@MrgA.U x))) : Int)) ∧
 (@LT.lt Int _ (Nat.cast (@HAdd.hAdd _ _ _ _ (@List.length ChangeD (@MrgA.P x)) (@List.length ChangeD (@MrgA.U x))) : Int) (Nat.cast (@List.length ChangeD (@MrgA.l x)) : Int))) _)
 (br (@Decidable.decide (@LT.lt Nat _ (@HAdd.hAdd _ _ _ _ (0 : Nat) (@Int.toNat (Nat.cast (@HAdd.hAdd _ _ _ _ (@List.length ChangeD (@MrgA.P x)) (@List.length ChangeD (@MrgA.U x))) : Int))) (@List.length ChangeD (@MrgA.l x))) _)
 (br (@Decidable.decide ((@LE.le Int _ (0 : Int) (@Go.IntKind.wrap Go.IntKind.i64 (@Int.fdiv (@Go.IntKind.wrap Go.IntKind.u64 (@Go.IntKind.wrap Go.IntKind.i64 (@HAdd.hAdd Int Int Int _ (Nat.cast (@TwoN.i x13) : Int) (Nat.cast (@TwoN.j x13) : Int)))) (@HPow.hPow Int Nat Int _ (2 : Int) (@Min.min Nat _ (@Int.toNat (1 : Int)) (@Go.IntKind.bits Go.IntKind.u64)))))) ∧
 (@LT.lt Int _ (@Go.IntKind.wrap Go.IntKind.i64 (@Int.fdiv (@Go.IntKind.wrap Go.IntKind.u64 (@Go.IntKind.wrap Go.IntKind.i64 (@HAdd.hAdd Int Int Int _ (Nat.cast (@TwoN.i x13) : Int) (Nat.cast (@TwoN.j x13) : Int)))) (@HPow.hPow Int Nat Int _ (2 : Int) (@Min.min Nat _ (@Int.toNat (1 : Int)) (@Go.IntKind.bits Go.IntKind.u64))))) (Nat.cast (@List.length ChangeD (@MrgA.l x)) : Int))) _)
 (br (@Decidable.decide (@LT.lt Nat _ (@HAdd.hAdd _ _ _ _ (0 : Nat) (@Int.toNat (@Go.IntKind.wrap Go.IntKind.i64 (@Int.fdiv (@Go.IntKind.wrap Go.IntKind.u64 (@Go.IntKind.wrap Go.IntKind.i64 (@HAdd.hAdd Int Int Int _ (Nat.cast (@TwoN.i x13) : Int) (Nat.cast (@TwoN.j x13) : Int)))) (@HPow.hPow Int Nat Int _ (2 : Int) (@Min.min Nat _ (@Int.toNat (1 : Int)) (@Go.IntKind.bits Go.IntKind.u64))))))) (@List.length ChangeD (@MrgA.l x))) _)
 (∃ x14 : TwoA,
 ((@Eq Bs (@ChangeD.path (@List.getD ChangeD (@MrgA.l x) (@HAdd.hAdd _ _ _ _ (0 : Nat) (@Int.toNat (Nat.cast (@HAdd.hAdd _ _ _ _ (@List.length ChangeD (@MrgA.P x)) (@List.length ChangeD (@MrgA.U x))) : Int))) (@ChangeD.mk (@List.nil UInt8) Bool.false (0 : Int)))) (@TwoA.a x14)) ∧
 ((@Eq Bs (@ChangeD.path (@List.getD ChangeD (@MrgA.l x) (@HAdd.hAdd _ _ _ _ (0 : Nat) (@Int.toNat (@Go.IntKind.wrap Go.IntKind.i64 (@Int.fdiv (@Go.IntKind.wrap Go.IntKind.u64 (@Go.IntKind.wrap Go.IntKind.i64 (@HAdd.hAdd Int Int Int _ (Nat.cast (@TwoN.i x13) : Int) (Nat.cast (@TwoN.j x13) : Int)))) (@HPow.hPow Int Nat Int _ (2 : Int) (@Min.min Nat _ (@Int.toNat (1 : Int)) (@Go.IntKind.bits Go.IntKind.u64))))))) (@ChangeD.mk (@List.nil UInt8) Bool.false (0 : Int)))) (@TwoA.b x14)) ∧
 (True ∧
 (∀ x15 : Unit,
 (True →
 (br (@Bool.not (@Decidable.decide (@LT.lt Int _ (@cmpL (@splitB (@TwoA.a x14)) (@splitB (@TwoA.b x14))) (0 : Int)) _))
 (∃ x16 : TwoN,
 ((@Eq Int (@Go.IntKind.wrap Go.IntKind.i64 (@HAdd.hAdd Int Int Int _ (@Go.IntKind.wrap Go.IntKind.i64 (@Int.fdiv (@Go.IntKind.wrap Go.IntKind.u64 (@Go.IntKind.wrap Go.IntKind.i64 (@HAdd.hAdd Int Int Int _ (Nat.cast (@TwoN.i x13) : Int) (Nat.cast (@TwoN.j x13) : Int)))) (@HPow.hPow Int Nat Int _ (2 : Int) (@Min.min Nat _ (@Int.toNat (1 : Int)) (@Go.IntKind.bits Go.IntKind.u64))))) (1 : Int))) (Nat.cast (@TwoN.i x16) : Int)) ∧
 ((@Eq Int (Nat.cast (@TwoN.j x13) : Int) (Nat.cast (@TwoN.j x16) : Int)) ∧
 ((((@LE.le Nat _ (@Int.toNat (Nat.cast (@List.length ChangeD (@MrgA.P x)) : Int)) (@TwoN.i x16)) ∧
 ((@LE.le Nat _ (@TwoN.i x16) (@TwoN.j x16)) ∧
 (@LE.le Nat _ (@TwoN.j x16) (@Int.toNat (Nat.cast (@HAdd.hAdd _ _ _ _ (@List.length ChangeD (@MrgA.P x)) (@List.length ChangeD (@MrgA.U x))) : Int))))) ∧
 (((@LT.lt Nat _ (@Int.toNat (Nat.cast (@List.length ChangeD (@MrgA.P x)) : Int)) (@TwoN.i x16)) →
 (@Not (@LT.lt Int _ (@cmpC (@List.getD ChangeD (@MrgA.l x) (@Int.toNat (Nat.cast (@HAdd.hAdd _ _ _ _ (@List.length ChangeD (@MrgA.P x)) (@List.length ChangeD (@MrgA.U x))) : Int)) (@ChangeD.mk (@List.nil UInt8) Bool.false (0 : Int))) (@List.getD ChangeD (@MrgA.l x) (@HSub.hSub Nat Nat Nat _ (@TwoN.i x16) (1 : Nat)) (@ChangeD.mk (@List.nil UInt8) Bool.false (0 : Int)))) (0 : Int)))) ∧
 ((@LT.lt Nat _ (@TwoN.j x16) (@Int.toNat (Nat.cast (@HAdd.hAdd _ _ _ _ (@List.length ChangeD (@MrgA.P x)) (@List.length ChangeD (@MrgA.U x))) : Int))) →
 (@LT.lt Int _ (@cmpC (@List.getD ChangeD (@MrgA.l x) (@Int.toNat (Nat.cast (@HAdd.hAdd _ _ _ _ (@List.length ChangeD (@MrgA.P x)) (@List.length ChangeD (@MrgA.U x))) : Int)) (@ChangeD.mk (@List.nil UInt8) Bool.false (0 : Int))) (@List.getD ChangeD (@MrgA.l x) (@TwoN.j x16) (@ChangeD.mk (@List.nil UInt8) Bool.false (0 : Int)))) (0 : Int))))) ∧
 (@LT.lt Nat _ (@Nat.sub (@TwoN.j x16) (@TwoN.i x16)) (@Nat.sub (@TwoN.j x13) (@TwoN.i x13)))))))
 (∃ x17 : TwoN,
 ((@Eq Int (Nat.cast (@TwoN.i x13) : Int) (Nat.cast (@TwoN.i x17) : Int)) ∧
 ((@Eq Int (@Go.IntKind.wrap Go.IntKind.i64 (@Int.fdiv (@Go.IntKind.wrap Go.IntKind.u64 (@Go.IntKind.wrap Go.IntKind.i64 (@HAdd.hAdd Int Int Int _ (Nat.cast (@TwoN.i x13) : Int) (Nat.cast (@TwoN.j x13) : Int)))) (@HPow.hPow Int Nat Int _ (2 : Int) (@Min.min Nat _ (@Int.toNat (1 : Int)) (@Go.IntKind.bits Go.IntKind.u64))))) (Nat.cast (@TwoN.j x17) : Int)) ∧
 ((((@LE.le Nat _ (@Int.toNat (Nat.cast (@List.length ChangeD (@MrgA.P x)) : Int)) (@TwoN.i x17)) ∧
 ((@LE.le Nat _ (@TwoN.i x17) (@TwoN.j x17)) ∧
 (@LE.le Nat _ (@TwoN.j x17) (@Int.toNat (Nat.cast (@HAdd.hAdd _ _ _ _ (@List.length ChangeD (@MrgA.P x)) (@List.length ChangeD (@MrgA.U x))) : Int))))) ∧
 (((@LT.lt Nat _ (@Int.toNat (Nat.cast (@List.length ChangeD (@MrgA.P x)) : Int)) (@TwoN.i x17)) →
 (@Not (@LT.lt Int _ (@cmpC (@List.getD ChangeD (@MrgA.l x) (@Int.toNat (Nat.cast (@HAdd.hAdd _ _ _ _ (@List.length ChangeD (@MrgA.P x)) (@List.length ChangeD (@MrgA.U x))) : Int)) (@ChangeD.mk (@List.nil UInt8) Bool.false (0 : Int))) (@List.getD ChangeD (@MrgA.l x) (@HSub.hSub Nat Nat Nat _ (@TwoN.i x17) (1 : Nat)) (@ChangeD.mk (@List.nil UInt8) Bool.false (0 : Int)))) (0 : Int)))) ∧
 ((@LT.lt Nat _ (@TwoN.j x17) (@Int.toNat (Nat.cast (@HAdd.hAdd _ _ _ _ (@List.length ChangeD (@MrgA.P x)) (@List.length ChangeD (@MrgA.U x))) : Int))) →
 (@LT.lt Int _ (@cmpC (@List.getD ChangeD (@MrgA.l x) (@Int.toNat (Nat.cast (@HAdd.hAdd _ _ _ _ (@List.length ChangeD (@MrgA.P x)) (@List.length ChangeD (@MrgA.U x))) : Int)) (@ChangeD.mk (@List.nil UInt8) Bool.false (0 : Int))) (@List.getD ChangeD (@MrgA.l x) (@TwoN.j x17) (@ChangeD.mk (@List.nil UInt8) Bool.false (0 : Int)))) (0 : Int))))) ∧
 (@LT.lt Nat _ (@Nat.sub (@TwoN.j x17) (@TwoN.i x17)) (@Nat.sub (@TwoN.j x13) (@TwoN.i x13))))))))))))))
 (Bad "check" "zsortanyfunc.go:414"))
 (Bad "check" "zsortanyfunc.go:414"))
 (Bad "check" "zsortanyfunc.go:414"))
 (Bad "check" "zsortanyfunc.go:414"))
 ((∃ x18 : Nat,
 ((@Eq Int (Nat.cast (@HAdd.hAdd _ _ _ _ (@List.length ChangeD (@MrgA.P x)) (@List.length ChangeD (@MrgA.U x))) : Int) (Nat.cast x18 : Int)) ∧
 ((@Eq (@List ChangeD) (@MrgA.l x) (@mrg2 (@MrgA.l x) (@Int.toNat (Nat.cast (@List.length ChangeD (@MrgA.P x)) : Int)) (@Int.toNat (Nat.cast (@HAdd.hAdd _ _ _ _ (@List.length ChangeD (@MrgA.P x)) (@List.length ChangeD (@MrgA.U x))) : Int)) x18)) ∧
 ((@LE.le Nat _ (@Int.toNat (Nat.cast (@TwoN.i x13) : Int)) x18) ∧
 (@LE.le Nat _ x18 (@Int.toNat (Nat.cast (@HAdd.hAdd _ _ _ _ (@List.length ChangeD (@MrgA.P x)) (@List.length ChangeD (@MrgA.U x))) : Int))))))) ∧
 (∀ x19 : Nat,
 (((@LE.le Nat _ (@Int.toNat (Nat.cast (@TwoN.i x13) : Int)) x19) ∧
 (@LE.le Nat _ x19 (@Int.toNat (Nat.cast (@HAdd.hAdd _ _ _ _ (@List.length ChangeD (@MrgA.P x)) (@List.length ChangeD (@MrgA.U x))) : Int)))) →
 (br (@Decidable.decide (@GT.gt Int _ (Nat.cast x19 : Int) (Nat.cast (@TwoN.i x13) : Int)) _)
 (br (@Decidable.decide ((@LE.le Int _ (0 : Int) (@Go.IntKind.wrap Go.IntKind.i64 (@HSub.hSub Int Int Int _ (Nat.cast x19 : Int) (1 : Int)))) ∧
 (@LT.lt Int _ (@Go.IntKind.wrap Go.IntKind.i64 (@HSub.hSub Int Int Int _ (Nat.cast x19 : Int) (1 : Int))) (Nat.cast (@List.length ChangeD (@MrgA.l x)) : Int))) _)
 (br (@Decidable.decide (@LT.lt Nat _ (@HAdd.hAdd _ _ _ _ (0 : Nat) (@Int.toNat (@Go.IntKind.wrap Go.IntKind.i64 (@HSub.hSub Int Int Int _ (Nat.cast x19 : Int) (1 : Int))))) (@List.length ChangeD (@mrg2 (@MrgA.l x) (@Int.toNat (Nat.cast (@List.length ChangeD (@MrgA.P x)) : Int)) (@Int.toNat (Nat.cast (@HAdd.hAdd _ _ _ _ (@List.length ChangeD (@MrgA.P x)) (@List.length ChangeD (@MrgA.U x))) : Int)) x19))) _)
 (br (@Decidable.decide ((@LE.le Int _ (0 : Int) (Nat.cast x19 : Int)) ∧
 (@LT.lt Int _ (Nat.cast x19 : Int) (Nat.cast (@List.length ChangeD (@MrgA.l x)) : Int))) _)
 (br (@Decidable.decide (@LT.lt Nat _ (@HAdd.hAdd _ _ _ _ (0 : Nat) (@Int.toNat (Nat.cast x19 : Int))) (@List.length ChangeD (@mrg2 (@MrgA.l x) (@Int.toNat (Nat.cast (@List.length ChangeD (@MrgA.P x)) : Int)) (@Int.toNat (Nat.cast (@HAdd.hAdd _ _ _ _ (@List.length ChangeD (@MrgA.P x)) (@List.length ChangeD (@MrgA.U x))) : Int)) x19))) _)
 (br (@Decidable.decide ((@LE.le Int _ (0 : Int) (Nat.cast x19 : Int)) ∧
 (@LT.lt Int _ (Nat.cast x19 : Int) (Nat.cast (@List.length ChangeD (@MrgA.l x)) : Int))) _)
 (br (@Bool.and Bool.true (@Decidable.decide (@LT.lt Nat _ (@HAdd.hAdd _ _ _ _ (0 : Nat) (@Int.toNat (Nat.cast x19 : Int))) (@List.length ChangeD (@mrg2 (@MrgA.l x) (@Int.toNat (Nat.cast (@List.length ChangeD (@MrgA.P x)) : Int)) (@Int.toNat (Nat.cast (@HAdd.hAdd _ _ _ _ (@List.length ChangeD (@MrgA.P x)) (@List.length ChangeD (@MrgA.U x))) : Int)) x19))) _))
 (br (@Decidable.decide ((@LE.le Int _ (0 : Int) (@Go.IntKind.wrap Go.IntKind.i64 (@HSub.hSub Int Int Int _ (Nat.cast x19 : Int) (1 : Int)))) ∧
 (@LT.lt Int _ (@Go.IntKind.wrap Go.IntKind.i64 (@HSub.hSub Int Int Int _ (Nat.cast x19 : Int) (1 : Int))) (Nat.cast (@List.length ChangeD (@MrgA.l x)) : Int))) _)
 (br (@Bool.and Bool.true (@Decidable.decide (@LT.lt Nat _ (@HAdd.hAdd _ _ _ _ (0 : Nat) (@Int.toNat (@Go.IntKind.wrap Go.IntKind.i64 (@HSub.hSub Int Int Int _ (Nat.cast x19 : Int) (1 : Int))))) (@List.length ChangeD (@List.set ChangeD (@mrg2 (@MrgA.l x) (@Int.toNat (Nat.cast (@List.length ChangeD (@MrgA.P x)) : Int)) (@Int.toNat (Nat.cast (@HAdd.hAdd _ _ _ _ (@List.length ChangeD (@MrgA.P x)) (@List.length ChangeD (@MrgA.U x))) : Int)) x19) (@HAdd.hAdd _ _ _ _ (0 : Nat) (@Int.toNat (Nat.cast x19 : Int))) (@ChangeD.mk (@ChangeD.path (@List.getD ChangeD (@mrg2 (@MrgA.l x) (@Int.toNat (Nat.cast (@List.length ChangeD (@MrgA.P x)) : Int)) (@Int.toNat (Nat.cast (@HAdd.hAdd _ _ _ _ (@List.length ChangeD (@MrgA.P x)) (@List.length ChangeD (@MrgA.U x))) : Int)) x19) (@HAdd.hAdd _ _ _ _ (0 : Nat) (@Int.toNat (@Go.IntKind.wrap Go.IntKind.i64 (@HSub.hSub Int Int Int _ (Nat.cast x19 : Int) (1 : Int))))) (@ChangeD.mk (@List.nil UInt8) Bool.false (0 : Int)))) (@ChangeD.gone (@List.getD ChangeD (@mrg2 (@MrgA.l x) (@Int.toNat (Nat.cast (@List.length ChangeD (@MrgA.P x)) : Int)) (@Int.toNat (Nat.cast (@HAdd.hAdd _ _ _ _ (@List.length ChangeD (@MrgA.P x)) (@List.length ChangeD (@MrgA.U x))) : Int)) x19) (@HAdd.hAdd _ _ _ _ (0 : Nat) (@Int.toNat (@Go.IntKind.wrap Go.IntKind.i64 (@HSub.hSub Int Int Int _ (Nat.cast x19 : Int) (1 : Int))))) (@ChangeD.mk (@List.nil UInt8) Bool.false (0 : Int)))) (@ChangeD.digest (@List.getD ChangeD (@mrg2 (@MrgA.l x) (@Int.toNat (Nat.cast (@List.length ChangeD (@MrgA.P x)) : Int)) (@Int.toNat (Nat.cast (@HAdd.hAdd _ _ _ _ (@List.length ChangeD (@MrgA.P x)) (@List.length ChangeD (@MrgA.U x))) : Int)) x19) (@HAdd.hAdd _ _ _ _ (0 : Nat) (@Int.toNat (@Go.IntKind.wrap Go.IntKind.i64 (@HSub.hSub Int Int Int _ (Nat.cast x19 : Int) (1 : Int))))) (@ChangeD.mk (@List.nil UInt8) Bool.false (0 : Int)))))))) _))
 (∃ x20 : Nat,
 ((@Eq Int (@Go.IntKind.wrap Go.IntKind.i64 (@HSub.hSub Int Int Int _ (Nat.cast x19 : Int) (1 : Int))) (Nat.cast x20 : Int)) ∧
 ((@Eq (@List ChangeD) (@List.set ChangeD (@List.set ChangeD (@mrg2 (@MrgA.l x) (@Int.toNat (Nat.cast (@List.length ChangeD (@MrgA.P x)) : Int)) (@Int.toNat (Nat.cast (@HAdd.hAdd _ _ _ _ (@List.length ChangeD (@MrgA.P x)) (@List.length ChangeD (@MrgA.U x))) : Int)) x19) (@HAdd.hAdd _ _ _ _ (0 : Nat) (@Int.toNat (Nat.cast x19 : Int))) (@ChangeD.mk (@ChangeD.path (@List.getD ChangeD (@mrg2 (@MrgA.l x) (@Int.toNat (Nat.cast (@List.length ChangeD (@MrgA.P x)) : Int)) (@Int.toNat (Nat.cast (@HAdd.hAdd _ _ _ _ (@List.length ChangeD (@MrgA.P x)) (@List.length ChangeD (@MrgA.U x))) : Int)) x19) (@HAdd.hAdd _ _ _ _ (0 : Nat) (@Int.toNat (@Go.IntKind.wrap Go.IntKind.i64 (@HSub.hSub Int Int Int _ (Nat.cast x19 : Int) (1 : Int))))) (@ChangeD.mk (@List.nil UInt8) Bool.false (0 : Int)))) (@ChangeD.gone (@List.getD ChangeD (@mrg2 (@MrgA.l x) (@Int.toNat (Nat.cast (@List.length ChangeD (@MrgA.P x)) : Int)) (@Int.toNat (Nat.cast (@HAdd.hAdd _ _ _ _ (@List.length ChangeD (@MrgA.P x)) (@List.length ChangeD (@MrgA.U x))) : Int)) x19) (@HAdd.hAdd _ _ _ _ (0 : Nat) (@Int.toNat (@Go.IntKind.wrap Go.IntKind.i64 (@HSub.hSub Int Int Int _ (Nat.cast x19 : Int) (1 : Int))))) (@ChangeD.mk (@List.nil UInt8) Bool.false (0 : Int)))) (@ChangeD.digest (@List.getD ChangeD (@mrg2 (@MrgA.l x) (@Int.toNat (Nat.cast (@List.length ChangeD (@MrgA.P x)) : Int)) (@Int.toNat (Nat.cast (@HAdd.hAdd _ _ _ _ (@List.length ChangeD (@MrgA.P x)) (@List.length ChangeD (@MrgA.U x))) : Int)) x19) (@HAdd.hAdd _ _ _ _ (0 : Nat) (@Int.toNat (@Go.IntKind.wrap Go.IntKind.i64 (@HSub.hSub Int Int Int _ (Nat.cast x19 : Int) (1 : Int))))) (@ChangeD.mk (@List.nil UInt8) Bool.false (0 : Int)))))) (@HAdd.hAdd _ _ _ _ (0 : Nat) (@Int.toNat (@Go.IntKind.wrap Go.IntKind.i64 (@HSub.hSub Int Int Int _ (Nat.cast x19 : Int) (1 : Int))))) (@ChangeD.mk (@ChangeD.path (@List.getD ChangeD (@mrg2 (@MrgA.l x) (@Int.toNat (Nat.cast (@List.length ChangeD (@MrgA.P x)) : Int)) (@Int.toNat (Nat.cast (@HAdd.hAdd _ _ _ _ (@List.length ChangeD (@MrgA.P x)) (@List.length ChangeD (@MrgA.U x))) : Int)) x19) (@HAdd.hAdd _ _ _ _ (0 : Nat) (@Int.toNat (Nat.cast x19 : Int))) (@ChangeD.mk (@List.nil UInt8) Bool.false (0 : Int)))) (@ChangeD.gone (@List.getD ChangeD (@mrg2 (@MrgA.l x) (@Int.toNat (Nat.cast (@List.length ChangeD (@MrgA.P x)) : Int)) (@Int.toNat (Nat.cast (@HAdd.hAdd _ _ _ _ (@List.length ChangeD (@MrgA.P x)) (@List.length ChangeD (@MrgA.U x))) : Int)) x19) (@HAdd.hAdd _ _ _ _ (0 : Nat) (@Int.toNat (Nat.cast x19 : Int))) (@ChangeD.mk (@List.nil UInt8) Bool.false (0 : Int)))) (@ChangeD.digest (@List.getD ChangeD (@mrg2 (@MrgA.l x) (@Int.toNat (Nat.cast (@List.length ChangeD (@MrgA.P x)) : Int)) (@Int.toNat (Nat.cast (@HAdd.hAdd _ _ _ _ (@List.length ChangeD (@MrgA.P x)) (@List.length ChangeD (@MrgA.U x))) : Int)) x19) (@HAdd.hAdd _ _ _ _ (0 : Nat) (@Int.toNat (Nat.cast x19 : Int))) (@ChangeD.mk (@List.nil UInt8) Bool.false (0 : Int)))))) (@mrg2 (@MrgA.l x) (@Int.toNat (Nat.cast (@List.length ChangeD (@MrgA.P x)) : Int)) (@Int.toNat (Nat.cast (@HAdd.hAdd _ _ _ _ (@List.length ChangeD (@MrgA.P x)) (@List.length ChangeD (@MrgA.U x))) : Int)) x20)) ∧
 (((@LE.le Nat _ (@Int.toNat (Nat.cast (@TwoN.i x13) : Int)) x20) ∧
 (@LE.le Nat _ x20 (@Int.toNat (Nat.cast (@HAdd.hAdd _ _ _ _ (@List.length ChangeD (@MrgA.P x)) (@List.length ChangeD (@MrgA.U x))) : Int)))) ∧
 (@LT.lt Nat _ x20 x19)))))
 (Bad "check" "zsortanyfunc.go:422"))
 (Bad "check" "zsortanyfunc.go:422"))
 (Bad "check" "zsortanyfunc.go:422"))
 (Bad "check" "zsortanyfunc.go:422"))
 (Bad "check" "zsortanyfunc.go:422"))
 (Bad "check" "zsortanyfunc.go:422"))
 (Bad "check" "zsortanyfunc.go:422"))
 (Bad "check" "zsortanyfunc.go:422"))
 (∃ x21 : Unit,
 ((@Eq (@List ChangeD) (@mrg2 (@MrgA.l x) (@Int.toNat (Nat.cast (@List.length ChangeD (@MrgA.P x)) : Int)) (@Int.toNat (Nat.cast (@HAdd.hAdd _ _ _ _ (@List.length ChangeD (@MrgA.P x)) (@List.length ChangeD (@MrgA.U x))) : Int)) x19) (@MrgA.r x)) ∧
 True))))))))))
 (br (@Decidable.decide (@GT.gt Int _ (Nat.cast (@HAdd.hAdd _ _ _ _ (@List.length ChangeD (@MrgA.P x)) (@List.length ChangeD (@MrgA.U x))) : Int) (@Go.IntKind.wrap Go.IntKind.i64 (@Int.fdiv (@Go.IntKind.wrap Go.IntKind.u64 (@Go.IntKind.wrap Go.IntKind.i64 (@HAdd.hAdd Int Int Int _ (Nat.cast (@List.length ChangeD (@MrgA.P x)) : Int) (Nat.cast (@HAdd.hAdd _ _ _ _ (@List.length ChangeD (@MrgA.P x)) (@HAdd.hAdd _ _ _ _ (@List.length ChangeD (@MrgA.U x)) (@List.length ChangeD (@MrgA.V x)))) : Int)))) (@HPow.hPow Int Nat Int _ (2 : Int) (@Min.min Nat _ (@Int.toNat (1 : Int)) (@Go.IntKind.bits Go.IntKind.u64)))))) _)
 ((∃ x22 : TwoN,
 ((@Eq Int (@Go.IntKind.wrap Go.IntKind.i64 (@HSub.hSub Int Int Int _ (@Go.IntKind.wrap Go.IntKind.i64 (@HAdd.hAdd Int Int Int _ (@Go.IntKind.wrap Go.IntKind.i64 (@Int.fdiv (@Go.IntKind.wrap Go.IntKind.u64 (@Go.IntKind.wrap Go.IntKind.i64 (@HAdd.hAdd Int Int Int _ (Nat.cast (@List.length ChangeD (@MrgA.P x)) : Int) (Nat.cast (@HAdd.hAdd _ _ _ _ (@List.length ChangeD (@MrgA.P x)) (@HAdd.hAdd _ _ _ _ (@List.length ChangeD (@MrgA.U x)) (@List.length ChangeD (@MrgA.V x)))) : Int)))) (@HPow.hPow Int Nat Int _ (2 : Int) (@Min.min Nat _ (@Int.toNat (1 : Int)) (@Go.IntKind.bits Go.IntKind.u64))))) (Nat.cast (@HAdd.hAdd _ _ _ _ (@List.length ChangeD (@MrgA.P x)) (@List.length ChangeD (@MrgA.U x))) : Int))) (Nat.cast (@HAdd.hAdd _ _ _ _ (@List.length ChangeD (@MrgA.P x)) (@HAdd.hAdd _ _ _ _ (@List.length ChangeD (@MrgA.U x)) (@List.length ChangeD (@MrgA.V x)))) : Int))) (Nat.cast (@TwoN.i x22) : Int)) ∧
 ((@Eq Int (@Go.IntKind.wrap Go.IntKind.i64 (@Int.fdiv (@Go.IntKind.wrap Go.IntKind.u64 (@Go.IntKind.wrap Go.IntKind.i64 (@HAdd.hAdd Int Int Int _ (Nat.cast (@List.length ChangeD (@MrgA.P x)) : Int) (Nat.cast (@HAdd.hAdd _ _ _ _ (@List.length ChangeD (@MrgA.P x)) (@HAdd.hAdd _ _ _ _ (@List.length ChangeD (@MrgA.U x)) (@List.length ChangeD (@MrgA.V x)))) : Int)))) (@HPow.hPow Int Nat Int _ (2 : Int) (@Min.min Nat _ (@Int.toNat (1 : Int)) (@Go.IntKind.bits Go.IntKind.u64))))) (Nat.cast (@TwoN.j x22) : Int)) ∧
 (((@LE.le Nat _ (@Int.toNat (@Go.IntKind.wrap Go.IntKind.i64 (@HSub.hSub Int Int Int _ (@Go.IntKind.wrap Go.IntKind.i64 (@HAdd.hAdd Int Int Int _ (@Go.IntKind.wrap Go.IntKind.i64 (@Int.fdiv (@Go.IntKind.wrap Go.IntKind.u64 (@Go.IntKind.wrap Go.IntKind.i64 (@HAdd.hAdd Int Int Int _ (Nat.cast (@List.length ChangeD (@MrgA.P x)) : Int) (Nat.cast (@HAdd.hAdd _ _ _ _ (@List.length ChangeD (@MrgA.P x)) (@HAdd.hAdd _ _ _ _ (@List.length ChangeD (@MrgA.U x)) (@List.length ChangeD (@MrgA.V x)))) : Int)))) (@HPow.hPow Int Nat Int _ (2 : Int) (@Min.min Nat _ (@Int.toNat (1 : Int)) (@Go.IntKind.bits Go.IntKind.u64))))) (Nat.cast (@HAdd.hAdd _ _ _ _ (@List.length ChangeD (@MrgA.P x)) (@List.length ChangeD (@MrgA.U x))) : Int))) (Nat.cast (@HAdd.hAdd _ _ _ _ (@List.length ChangeD (@MrgA.P x)) (@HAdd.hAdd _ _ _ _ (@List.length ChangeD (@MrgA.U x)) (@List.length ChangeD (@MrgA.V x)))) : Int)))) (@TwoN.i x22)) ∧
 ((@LE.le Nat _ (@TwoN.i x22) (@TwoN.j x22)) ∧
 (@LE.le Nat _ (@TwoN.j x22) (@Int.toNat (@Go.IntKind.wrap Go.IntKind.i64 (@Int.fdiv (@Go.IntKind.wrap Go.IntKind.u64 (@Go.IntKind.wrap Go.IntKind.i64 (@HAdd.hAdd Int Int Int _ (Nat.cast (@List.length ChangeD (@MrgA.P x)) : Int) (Nat.cast (@HAdd.hAdd _ _ _ _ (@List.length ChangeD (@MrgA.P x)) (@HAdd.hAdd _ _ _ _ (@List.length ChangeD (@MrgA.U x)) (@List.length ChangeD (@MrgA.V x)))) : Int)))) (@HPow.hPow Int Nat Int _ (2 : Int) (@Min.min Nat _ (@Int.toNat (1 : Int)) (@Go.IntKind.bits Go.IntKind.u64))))))))) ∧
 (((@LT.lt Nat _ (@Int.toNat (@Go.IntKind.wrap Go.IntKind.i64 (@HSub.hSub Int Int Int _ (@Go.IntKind.wrap Go.IntKind.i64 (@HAdd.hAdd Int Int Int _ (@Go.IntKind.wrap Go.IntKind.i64 (@Int.fdiv (@Go.IntKind.wrap Go.IntKind.u64 (@Go.IntKind.wrap Go.IntKind.i64 (@HAdd.hAdd Int Int Int _ (Nat.cast (@List.length ChangeD (@MrgA.P x)) : Int) (Nat.cast (@HAdd.hAdd _ _ _ _ (@List.length ChangeD (@MrgA.P x)) (@HAdd.hAdd _ _ _ _ (@List.length ChangeD (@MrgA.U x)) (@List.length ChangeD (@MrgA.V x)))) : Int)))) (@HPow.hPow Int Nat Int _ (2 : Int) (@Min.min Nat _ (@Int.toNat (1 : Int)) (@Go.IntKind.bits Go.IntKind.u64))))) (Nat.cast (@HAdd.hAdd _ _ _ _ (@List.length ChangeD (@MrgA.P x)) (@List.length ChangeD (@MrgA.U x))) : Int))) (Nat.cast (@HAdd.hAdd _ _ _ _ (@List.length ChangeD (@MrgA.P x)) (@HAdd.hAdd _ _ _ _ (@List.length ChangeD (@MrgA.U x)) (@List.length ChangeD (@MrgA.V x)))) : Int)))) (@TwoN.i x22)) →
 (@Not (@LT.lt Int _ (@cmpC (@List.getD ChangeD (@MrgA.l x) (@HSub.hSub Nat Nat Nat _ (@Int.toNat (@Go.IntKind.wrap Go.IntKind.i64 (@HSub.hSub Int Int Int _ (@Go.IntKind.wrap Go.IntKind.i64 (@HAdd.hAdd Int Int Int _ (@Go.IntKind.wrap Go.IntKind.i64 (@Int.fdiv (@Go.IntKind.wrap Go.IntKind.u64 (@Go.IntKind.wrap Go.IntKind.i64 (@HAdd.hAdd Int Int Int _ (Nat.cast (@List.length ChangeD (@MrgA.P x)) : Int) (Nat.cast (@HAdd.hAdd _ _ _ _ (@List.length ChangeD (@MrgA.P x)) (@HAdd.hAdd _ _ _ _ (@List.length ChangeD (@MrgA.U x)) (@List.length ChangeD (@MrgA.V x)))) : Int)))) (@HPow.hPow Int Nat Int _ (2 : Int) (@Min.min Nat _ (@Int.toNat (1 : Int)) (@Go.IntKind.bits Go.IntKind.u64))))) (Nat.cast (@HAdd.hAdd _ _ _ _ (@List.length ChangeD (@MrgA.P x)) (@List.length ChangeD (@MrgA.U x))) : Int))) (1 : Int)))) (@HSub.hSub Nat Nat Nat _ (@TwoN.i x22) (1 : Nat))) (@ChangeD.mk (@List.nil UInt8) Bool.false (0 : Int))) (@List.getD ChangeD (@MrgA.l x) (@HSub.hSub Nat Nat Nat _ (@TwoN.i x22) (1 : Nat)) (@ChangeD.mk (@List.nil UInt8) Bool.false (0 : Int)))) (0 : Int)))) ∧
 ((@LT.lt Nat _ (@TwoN.j x22) (@Int.toNat (@Go.IntKind.wrap Go.IntKind.i64 (@Int.fdiv (@Go.IntKind.wrap Go.IntKind.u64 (@Go.IntKind.wrap Go.IntKind.i64 (@HAdd.hAdd Int Int Int _ (Nat.cast (@List.length ChangeD (@MrgA.P x)) : Int) (Nat.cast (@HAdd.hAdd _ _ _ _ (@List.length ChangeD (@MrgA.P x)) (@HAdd.hAdd _ _ _ _ (@List.length ChangeD (@MrgA.U x)) (@List.length ChangeD (@MrgA.V x)))) : Int)))) (@HPow.hPow Int Nat Int _ (2 : Int) (@Min.min Nat _ (@Int.toNat (1 : Int)) (@Go.IntKind.bits Go.IntKind.u64))))))) →
 (@LT.lt Int _ (@cmpC (@List.getD ChangeD (@MrgA.l x) (@HSub.hSub Nat Nat Nat _ (@Int.toNat (@Go.IntKind.wrap Go.IntKind.i64 (@HSub.hSub Int Int Int _ (@Go.IntKind.wrap Go.IntKind.i64 (@HAdd.hAdd Int Int Int _ (@Go.IntKind.wrap Go.IntKind.i64 (@Int.fdiv (@Go.IntKind.wrap Go.IntKind.u64 (@Go.IntKind.wrap Go.IntKind.i64 (@HAdd.hAdd Int Int Int _ (Nat.cast (@List.length ChangeD (@MrgA.P x)) : Int) (Nat.cast (@HAdd.hAdd _ _ _ _ (@List.length ChangeD (@MrgA.P x)) (@HAdd.hAdd _ _ _ _ (@List.length ChangeD (@MrgA.U x)) (@List.length ChangeD (@MrgA.V x)))) : Int)))) (@HPow.hPow Int Nat Int _ (2 : Int) (@Min.min Nat _ (@Int.toNat (1 : Int)) (@Go.IntKind.bits Go.IntKind.u64))))) (Nat.cast (@HAdd.hAdd _ _ _ _ (@List.length ChangeD (@MrgA.P x)) (@List.length ChangeD (@MrgA.U x))) : Int))) (1 : Int)))) (@TwoN.j x22)) (@ChangeD.mk (@List.nil UInt8) Bool.false (0 : Int))) (@List.getD ChangeD (@MrgA.l x) (@TwoN.j x22) (@ChangeD.mk (@List.nil UInt8) Bool.false (0 : Int)))) (0 : Int)))))))) ∧
 (∀ x23 : TwoN,
 ((((@LE.le Nat _ (@Int.toNat (@Go.IntKind.wrap Go.IntKind.i64 (@HSub.hSub Int Int Int _ (@Go.IntKind.wrap Go.IntKind.i64 (@HAdd.hAdd Int Int Int _ (@Go.IntKind.wrap Go.IntKind.i64 (@Int.fdiv (@Go.IntKind.wrap Go.IntKind.u64 (@Go.IntKind.wrap Go.IntKind.i64 (@HAdd.hAdd Int Int Int _ (Nat.cast (@List.length ChangeD (@MrgA.P x)) : Int) (Nat.cast (@HAdd.hAdd _ _ _ _ (@List.length ChangeD (@MrgA.P x)) (@HAdd.hAdd _ _ _ _ (@List.length ChangeD (@MrgA.U x)) (@List.length ChangeD (@MrgA.V x)))) : Int)))) (@HPow.hPow Int Nat Int _ (2 : Int) (@Min.min Nat _ (@Int.toNat (1 : Int)) (@Go.IntKind.bits Go.IntKind.u64))))) (Nat.cast (@HAdd.hAdd _ _ _ _ (@List.length ChangeD (@MrgA.P x)) (@List.length ChangeD (@MrgA.U x))) : Int))) (Nat.cast (@HAdd.hAdd _ _ _ _ (@List.length ChangeD (@MrgA.P x)) (@HAdd.hAdd _ _ _ _ (@List.length ChangeD (@MrgA.U x)) (@List.length ChangeD (@MrgA.V x)))) : Int)))) (@TwoN.i x23)) ∧
 ((@LE.le Nat _ (@TwoN.i x23) (@TwoN.j x23)) ∧
 (@LE.le Nat _ (@TwoN.j x23) (@Int.toNat (@Go.IntKind.wrap Go.IntKind.i64 (@Int.fdiv (@Go.IntKind.wrap Go.IntKind.u64 (@Go.IntKind.wrap Go.IntKind.i64 (@HAdd.hAdd Int Int Int _ (Nat.cast (@List.length ChangeD (@MrgA.P x)) : Int) (Nat.cast (@HAdd.hAdd _ _ _ _ (@List.length ChangeD (@MrgA.P x)) (@HAdd.hAdd _ _ _ _ (@List.length ChangeD (@MrgA.U x)) (@List.length ChangeD (@MrgA.V x)))) : Int)))) (@HPow.hPow Int Nat Int _ (2 : Int) (@Min.min Nat _ (@Int.toNat (1 : Int)) (@Go.IntKind.bits Go.IntKind.u64))))))))) ∧
 (((@LT.lt Nat _ (@Int.toNat (@Go.IntKind.wrap Go.IntKind.i64 (@HSub.hSub Int Int Int _ (@Go.IntKind.wrap Go.IntKind.i64 (@HAdd.hAdd Int Int Int _ (@Go.IntKind.wrap Go.IntKind.i64 (@Int.fdiv (@Go.IntKind.wrap Go.IntKind.u64 (@Go.IntKind.wrap Go.IntKind.i64 (@HAdd.hAdd Int Int Int _ (Nat.cast (@List.length ChangeD (@MrgA.P x)) : Int) (Nat.cast (@HAdd.hAdd _ _ _ _ (@List.length ChangeD (@MrgA.P x)) (@HAdd.hAdd _ _ _ _ (@List.length ChangeD (@MrgA.U x)) (@List.length ChangeD (@MrgA.V x)))) : Int)))) (@HPow.hPow Int Nat Int _ (2 : Int) (@Min.min Nat _ (@Int.toNat (1 : Int)) (@Go.IntKind.bits Go.IntKind.u64))))) (Nat.cast (@HAdd.hAdd _ _ _ _ (@List.length ChangeD (@MrgA.P x)) (@List.length ChangeD (@MrgA.U x))) : Int))) (Nat.cast (@HAdd.hAdd _ _ _ _ (@List.length ChangeD (@MrgA.P x)) (@HAdd.hAdd _ _ _ _ (@List.length ChangeD (@MrgA.U x)) (@List.length ChangeD (@MrgA.V x)))) : Int)))) (@TwoN.i x23)) →
 (@Not (@LT.lt Int _ (@cmpC (@List.getD ChangeD (@MrgA.l x) (@HSub.hSub Nat Nat Nat _ (@Int.toNat (@Go.IntKind.wrap Go.IntKind.i64 (@HSub.hSub Int Int Int _ (@Go.IntKind.wrap Go.IntKind.i64 (@HAdd.hAdd Int Int Int _ (@Go.IntKind.wrap Go.IntKind.i64 (@Int.fdiv (@Go.IntKind.wrap Go.IntKind.u64 (@Go.IntKind.wrap Go.IntKind.i64 (@HAdd.hAdd Int Int Int _ (Nat.cast (@List.length ChangeD (@MrgA.P x)) : Int) (Nat.cast (@HAdd.hAdd _ _ _ _ (@List.length ChangeD (@MrgA.P x)) (@HAdd.hAdd _ _ _ _ (@List.length ChangeD (@MrgA.U x)) (@List.length ChangeD (@MrgA.V x)))) : Int)))) (@HPow.hPow Int Nat Int _ (2 : Int) (@Min.min Nat _ (@Int.toNat (1 : Int)) (@Go.IntKind.bits Go.IntKind.u64))))) (Nat.cast (@HAdd.hAdd _ _ _ _ (@List.length ChangeD (@MrgA.P x)) (@List.length ChangeD (@MrgA.U x))) : Int))) (1 : Int)))) (@HSub.hSub Nat Nat Nat _ (@TwoN.i x23) (1 : Nat))) (@ChangeD.mk (@List.nil UInt8) Bool.false (0 : Int))) (@List.getD ChangeD (@MrgA.l x) (@HSub.hSub Nat Nat Nat _ (@TwoN.i x23) (1 : Nat)) (@ChangeD.mk (@List.nil UInt8) Bool.false (0 : Int)))) (0 : Int)))) ∧
 ((@LT.lt Nat _ (@TwoN.j x23) (@Int.toNat (@Go.IntKind.wrap Go.IntKind.i64 (@Int.fdiv (@Go.IntKind.wrap Go.IntKind.u64 (@Go.IntKind.wrap Go.IntKind.i64 (@HAdd.hAdd Int Int Int _ (Nat.cast (@List.length ChangeD (@MrgA.P x)) : Int) (Nat.cast (@HAdd.hAdd _ _ _ _ (@List.length ChangeD (@MrgA.P x)) (@HAdd.hAdd _ _ _ _ (@List.length ChangeD (@MrgA.U x)) (@List.length ChangeD (@MrgA.V x)))) : Int)))) (@HPow.hPow Int Nat Int _ (2 : Int) (@Min.min Nat _ (@Int.toNat (1 : Int)) (@Go.IntKind.bits Go.IntKind.u64))))))) →
 (@LT.lt Int _ (@cmpC (@List.getD ChangeD (@MrgA.l x) (@HSub.hSub Nat Nat Nat _ (@Int.toNat (@Go.IntKind.wrap Go.IntKind.i64 (@HSub.hSub Int Int Int _ (@Go.IntKind.wrap Go.IntKind.i64 (@HAdd.hAdd Int Int Int _ (@Go.IntKind.wrap Go.IntKind.i64 (@Int.fdiv (@Go.IntKind.wrap Go.IntKind.u64 (@Go.IntKind.wrap Go.IntKind.i64 (@HAdd.hAdd Int Int Int _ (Nat.cast (@List.length ChangeD (@MrgA.P x)) : Int) (Nat.cast (@HAdd.hAdd _ _ _ _ (@List.length ChangeD (@MrgA.P x)) (@HAdd.hAdd _ _ _ _ (@List.length ChangeD (@MrgA.U x)) (@List.length ChangeD (@MrgA.V x)))) : Int)))) (@HPow.hPow Int Nat Int _ (2 : Int) (@Min.min Nat _ (@Int.toNat (1 : Int)) (@Go.IntKind.bits Go.IntKind.u64))))) (Nat.cast (@HAdd.hAdd _ _ _ _ (@List.length ChangeD (@MrgA.P x)) (@List.length ChangeD (@MrgA.U x))) : Int))) (1 : Int)))) (@TwoN.j x23)) (@ChangeD.mk (@List.nil UInt8) Bool.false (0 : Int))) (@List.getD ChangeD (@MrgA.l x) (@TwoN.j x23) (@ChangeD.mk (@List.nil UInt8) Bool.false (0 : Int)))) (0 : Int))))) →
 (br (@Decidable.decide (@LT.lt Int _ (Nat.cast (@TwoN.i x23) : Int) (Nat.cast (@TwoN.j x23) : Int)) _)
 (br (@Decidable.decide ((@LE.le Int _ (0 : Int) (@Go.IntKind.wrap Go.IntKind.i64 (@HSub.hSub Int Int Int _ (@Go.IntKind.wrap Go.IntKind.i64 (@HSub.hSub Int Int Int _ (@Go.IntKind.wrap Go.IntKind.i64 (@HAdd.hAdd Int Int Int _ (@Go.IntKind.wrap Go.IntKind.i64 (@Int.fdiv (@Go.IntKind.wrap Go.IntKind.u64 (@Go.IntKind.wrap Go.IntKind.i64 (@HAdd.hAdd Int Int Int _ (Nat.cast (@List.length ChangeD (@MrgA.P x)) : Int) (Nat.cast (@HAdd.hAdd _ _ _ _ (@List.length ChangeD (@MrgA.P x)) (@HAdd.hAdd _ _ _ _ (@List.length ChangeD (@MrgA.U x)) (@List.length ChangeD (@MrgA.V x)))) : Int)))) (@HPow.hPow Int Nat Int _ (2 : Int) (@Min.min Nat _ (@Int.toNat (1 : Int)) (@Go.IntKind.bits Go.IntKind.u64))))) (Nat.cast (@HAdd.hAdd _ _ _ _ (@List.length ChangeD (@MrgA.P x)) (@List.length ChangeD (@MrgA.U x))) : Int))) (1 : Int))) (@Go.IntKind.wrap Go.IntKind.i64 (@Int.fdiv (@Go.IntKind.wrap Go.IntKind.u64 (@Go.IntKind.wrap Go.IntKind.i64 (@HAdd.hAdd Int Int Int _ (Nat.cast (@TwoN.i x23) : Int) (Nat.cast (@TwoN.j x23) : Int)))) (@HPow.hPow Int Nat Int _ (2 : Int) (@Min.min Nat _ (@Int.toNat (1 : Int)) (@Go.IntKind.bits Go.IntKind.u64)))))))) ∧
 (@LT.lt Int _ (@Go.IntKind.wrap Go.IntKind.i64 (@HSub.hSub Int Int Int _ (@Go.IntKind.wrap Go.IntKind.i64 (@HSub.hSub Int Int Int _ (@Go.IntKind.wrap Go.IntKind.i64 (@HAdd.hAdd Int Int Int _ (@Go.IntKind.wrap Go.IntKind.i64 (@Int.fdiv (@Go.IntKind.wrap Go.IntKind.u64 (@Go.IntKind.wrap Go.IntKind.i64 (@HAdd.hAdd Int Int Int _ (Nat.cast (@List.length ChangeD (@MrgA.P x)) : Int) (Nat.cast (@HAdd.hAdd _ _ _ _ (@List.length ChangeD (@MrgA.P x)) (@HAdd.hAdd _ _ _ _ (@List.length ChangeD (@MrgA.U x)) (@List.length ChangeD (@MrgA.V x)))) : Int)))) (@HPow.hPow Int Nat Int _ (2 : Int) (@Min.min Nat _ (@Int.toNat (1 : Int)) (@Go.IntKind.bits Go.IntKind.u64))))) (Nat.cast (@HAdd.hAdd _ _ _ _ (@List.length ChangeD (@MrgA.P x)) (@List.length ChangeD (@MrgA.U x))) : Int))) (1 : Int))) (@Go.IntKind.wrap Go.IntKind.i64 (@Int.fdiv (@Go.IntKind.wrap Go.IntKind.u64 (@Go.IntKind.wrap Go.IntKind.i64 (@HAdd.hAdd Int Int Int _ (Nat.cast (@TwoN.i x23) : Int) (Nat.cast (@TwoN.j x23) : Int)))) (@HPow.hPow Int Nat Int _ (2 : Int) (@Min.min Nat _ (@Int.toNat (1 : Int)) (@Go.IntKind.bits Go.IntKind.u64))))))) (Nat.cast (@List.length ChangeD (@MrgA.l x)) : Int))) _)
 (br (@Decidable.decide (@LT.lt Nat _ (@HAdd.hAdd _ _ _ _ (0 : Nat) (@Int.toNat (@Go.IntKind.wrap Go.IntKind.i64 (@HSub.hSub Int Int Int _ (@Go.IntKind.wrap Go.IntKind.i64 (@HSub.hSub Int Int Int _ (@Go.IntKind.wrap Go.IntKind.i64 (@HAdd.hAdd Int Int Int _ (@Go.IntKind.wrap Go.IntKind.i64 (@Int.fdiv (@Go.IntKind.wrap Go.IntKind.u64 (@Go.IntKind.wrap Go.IntKind.i64 (@HAdd.hAdd Int Int Int _ (Nat.cast (@List.length ChangeD (@MrgA.P x)) : Int) (Nat.cast (@HAdd.hAdd _ _ _ _ (@List.length ChangeD (@MrgA.P x)) (@HAdd.hAdd _ _ _ _ (@List.length ChangeD (@MrgA.U x)) (@List.length ChangeD (@MrgA.V x)))) : Int)))) (@HPow.hPow Int Nat Int _ (2 : Int) (@Min.min Nat _ (@Int.toNat (1 : Int)) (@Go.IntKind.bits Go.IntKind.u64))))) (Nat.cast (@HAdd.hAdd _ _ _ _ (@List.length ChangeD (@MrgA.P x)) (@List.length ChangeD (@MrgA.U x))) : Int))) (1 : Int))) (@Go.IntKind.wrap Go.IntKind.i64 (@Int.fdiv (@Go.IntKind.wrap Go.IntKind.u64 (@Go.IntKind.wrap Go.IntKind.i64 (@HAdd.hAdd Int Int Int _ (Nat.cast (@TwoN.i x23) : Int) (Nat.cast (@TwoN.j x23) : Int)))) (@HPow.hPow Int Nat Int _ (2 : Int) (@Min.min Nat _ (@Int.toNat (1 : Int)) (@Go.IntKind.bits Go.IntKind.u64))))))))) (@List.length ChangeD (@MrgA.l x))) _)
 (br (@Decidable.decide ((@LE.le Int _ (0 : Int) (@Go.IntKind.wrap Go.IntKind.i64 (@Int.fdiv (@Go.IntKind.wrap Go.IntKind.u64 (@Go.IntKind.wrap Go.IntKind.i64 (@HAdd.hAdd Int Int Int _ (Nat.cast (@TwoN.i x23) : Int) (Nat.cast (@TwoN.j x23) : Int)))) (@HPow.hPow Int Nat Int _ (2 : Int) (@Min.min Nat _ (@Int.toNat (1 : Int)) (@Go.IntKind.bits Go.IntKind.u64)))))) ∧
 (@LT.lt Int _ (@Go.IntKind.wrap Go.IntKind.i64 (@Int.fdiv (@Go.IntKind.wrap Go.IntKind.u64 (@Go.IntKind.wrap Go.IntKind.i64 (@HAdd.hAdd Int Int Int _ (Nat.cast (@TwoN.i x23) : Int) (Nat.cast (@TwoN.j x23) : Int)))) (@HPow.hPow Int Nat Int _ (2 : Int) (@Min.min Nat _ (@Int.toNat (1 : Int)) (@Go.IntKind.bits Go.IntKind.u64))))) (Nat.cast (@List.length ChangeD (@MrgA.l x)) : Int))) _)
 (br (@Decidable.decide (@LT.lt Nat _ (@HAdd.hAdd _ _ _ _ (0 : Nat) (@Int.toNat (@Go.IntKind.wrap Go.IntKind.i64 (@Int.fdiv (@Go.IntKind.wrap Go.IntKind.u64 (@Go.IntKind.wrap Go.IntKind.i64 (@HAdd.hAdd Int Int Int _ (Nat.cast (@TwoN.i x23) : Int) (Nat.cast (@TwoN.j x23) : Int)))) (@HPow.hPow Int Nat Int _ (2 : Int) (@Min.min Nat _ (@Int.toNat (1 : Int)) (@Go.IntKind.bits Go.IntKind.u64))))))) (@List.length ChangeD (@MrgA.l x))) _)
 (∃ x24 : TwoA,
 ((@Eq Bs (@ChangeD.path (@List.getD ChangeD (@MrgA.l x) (@HAdd.hAdd _ _ _ _ (0 : Nat) (@Int.toNat (@Go.IntKind.wrap Go.IntKind.i64 (@HSub.hSub Int Int Int _ (@Go.IntKind.wrap Go.IntKind.i64 (@HSub.hSub Int Int Int _ (@Go.IntKind.wrap Go.IntKind.i64 (@HAdd.hAdd Int Int Int _ (@Go.IntKind.wrap Go.IntKind.i64 (@Int.fdiv (@Go.IntKind.wrap Go.IntKind.u64 (@Go.IntKind.wrap Go.IntKind.i64 (@HAdd.hAdd Int Int Int _ (Nat.cast (@List.length ChangeD (@MrgA.P x)) : Int) (Nat.cast (@HAdd.hAdd _ _ _ _ (@List.length ChangeD (@MrgA.P x)) (@HAdd.hAdd _ _ _ _ (@List.length ChangeD (@MrgA.U x)) (@List.length ChangeD (@MrgA.V x)))) : Int)))) (@HPow.hPow Int Nat Int _ (2 : Int) (@Min.min Nat _ (@Int.toNat (1 : Int)) (@Go.IntKind.bits Go.IntKind.u64))))) (Nat.cast (@HAdd.hAdd _ _ _ _ (@List.length ChangeD (@MrgA.P x)) (@List.length ChangeD (@MrgA.U x))) : Int))) (1 : Int))) (@Go.IntKind.wrap Go.IntKind.i64 (@Int.fdiv (@Go.IntKind.wrap Go.IntKind.u64 (@Go.IntKind.wrap Go.IntKind.i64 (@HAdd.hAdd Int Int Int _ (Nat.cast (@TwoN.i x23) : Int) (Nat.cast (@TwoN.j x23) : Int)))) (@HPow.hPow Int Nat Int _ (2 : Int) (@Min.min Nat _ (@Int.toNat (1 : Int)) (@Go.IntKind.bits Go.IntKind.u64))))))))) (@ChangeD.mk (@List.nil UInt8) Bool.false (0 : Int)))) (@TwoA.a x24)) ∧
 ((@Eq Bs (@ChangeD.path (@List.getD ChangeD (@MrgA.l x) (@HAdd.hAdd _ _ _ _ (0 : Nat) (@Int.toNat (@Go.IntKind.wrap Go.IntKind.i64 (@Int.fdiv (@Go.IntKind.wrap Go.IntKind.u64 (@Go.IntKind.wrap Go.IntKind.i64 (@HAdd.hAdd Int Int Int _ (Nat.cast (@TwoN.i x23) : Int) (Nat.cast (@TwoN.j x23) : Int)))) (@HPow.hPow Int Nat Int _ (2 : Int) (@Min.min Nat _ (@Int.toNat (1 : Int)) (@Go.IntKind.bits Go.IntKind.u64))))))) (@ChangeD.mk (@List.nil UInt8) Bool.false (0 : Int)))) (@TwoA.b x24)) ∧
 (True ∧
 (∀ x25 : Unit,
 (True →
 (br (@Bool.not (@Decidable.decide (@LT.lt Int _ (@cmpL (@splitB (@TwoA.a x24)) (@splitB (@TwoA.b x24))) (0 : Int)) _))
 (∃ x26 : TwoN,
 ((@Eq Int (@Go.IntKind.wrap Go.IntKind.i64 (@HAdd.hAdd Int Int Int _ (@Go.IntKind.wrap Go.IntKind.i64 (@Int.fdiv (@Go.IntKind.wrap Go.IntKind.u64 (@Go.IntKind.wrap Go.IntKind.i64 (@HAdd.hAdd Int Int Int _ (Nat.cast (@TwoN.i x23) : Int) (Nat.cast (@TwoN.j x23) : Int)))) (@HPow.hPow Int Nat Int _ (2 : Int) (@Min.min Nat _ (@Int.toNat (1 : Int)) (@Go.IntKind.bits Go.IntKind.u64))))) (1 : Int))) (Nat.cast (@TwoN.i x26) : Int)) ∧
 ((@Eq Int (Nat.cast (@TwoN.j x23) : Int) (Nat.cast (@TwoN.j x26) : Int)) ∧
 ((((@LE.le Nat _ (@Int.toNat (@Go.IntKind.wrap Go.IntKind.i64 (@HSub.hSub Int Int Int _ (@Go.IntKind.wrap Go.IntKind.i64 (@HAdd.hAdd Int Int Int _ (@Go.IntKind.wrap Go.IntKind.i64 (@Int.fdiv (@Go.IntKind.wrap Go.IntKind.u64 (@Go.IntKind.wrap Go.IntKind.i64 (@HAdd.hAdd Int Int Int _ (Nat.cast (@List.length ChangeD (@MrgA.P x)) : Int) (Nat.cast (@HAdd.hAdd _ _ _ _ (@List.length ChangeD (@MrgA.P x)) (@HAdd.hAdd _ _ _ _ (@List.length ChangeD (@MrgA.U x)) (@List.length ChangeD (@MrgA.V x)))) : Int)))) (@HPow.hPow Int Nat Int _ (2 : Int) (@Min.min Nat _ (@Int.toNat (1 : Int)) (@Go.IntKind.bits Go.IntKind.u64))))) (Nat.cast (@HAdd.hAdd _ _ _ _ (@List.length ChangeD (@MrgA.P x)) (@List.length ChangeD (@MrgA.U x))) : Int))) (Nat.cast (@HAdd.hAdd _ _ _ _ (@List.length ChangeD (@MrgA.P x)) (@HAdd.hAdd _ _ _ _ (@List.length ChangeD (@MrgA.U x)) (@List.length ChangeD (@MrgA.V x)))) : Int)))) (@TwoN.i x26)) ∧
 ((@LE.le Nat _ (@TwoN.i x26) (@TwoN.j x26)) ∧
 (@LE.le Nat _ (@TwoN.j x26) (@Int.toNat (@Go.IntKind.wrap Go.IntKind.i64 (@Int.fdiv (@Go.IntKind.wrap Go.IntKind.u64 (@Go.IntKind.wrap Go.IntKind.i64 (@HAdd.hAdd Int Int Int _ (Nat.cast (@List.length ChangeD (@MrgA.P x)) : Int) (Nat.cast (@HAdd.hAdd _ _ _ _ (@List.length ChangeD (@MrgA.P x)) (@HAdd.hAdd _ _ _ _ (@List.length ChangeD (@MrgA.U x)) (@List.length ChangeD (@MrgA.V x)))) : Int)))) (@HPow.hPow Int Nat Int _ (2 : Int) (@Min.min Nat _ (@Int.toNat (1 : Int)) (@Go.IntKind.bits Go.IntKind.u64))))))))) ∧
 (((@LT.lt Nat _ (@Int.toNat (@Go.IntKind.wrap Go.IntKind.i64 (@HSub.hSub Int Int Int _ (@Go.IntKind.wrap Go.IntKind.i64 (@HAdd.hAdd Int Int Int _ (@Go.IntKind.wrap Go.IntKind.i64 (@Int.fdiv (@Go.IntKind.wrap Go.IntKind.u64 (@Go.IntKind.wrap Go.IntKind.i64 (@HAdd.hAdd Int Int Int _ (Nat.cast (@List.length ChangeD (@MrgA.P x)) : Int) (Nat.cast (@HAdd.hAdd _ _ _ _ (@List.length ChangeD (@MrgA.P x)) (@HAdd.hAdd _ _ _ _ (@List.length ChangeD (@MrgA.U x)) (@List.length ChangeD (@MrgA.V x)))) : Int)))) (@HPow.hPow Int Nat Int _ (2 : Int) (@Min.min Nat _ (@Int.toNat (1 : Int)) (@Go.IntKind.bits Go.IntKind.u64))))) (Nat.cast (@HAdd.hAdd _ _ _ _ (@List.length ChangeD (@MrgA.P x)) (@List.length ChangeD (@MrgA.U x))) : Int))) (Nat.cast (@HAdd.hAdd _ _ _ _ (@List.length ChangeD (@MrgA.P x)) (@HAdd.hAdd _ _ _ _ (@List.length ChangeD (@MrgA.U x)) (@List.length ChangeD (@MrgA.V x)))) : Int)))) (@TwoN.i x26)) →
 (@Not (@LT.lt Int _ (@cmpC (@List.getD ChangeD (@MrgA.l x) (@HSub.hSub Nat Nat Nat _ (@Int.toNat (@Go.IntKind.wrap Go.IntKind.i64 (@HSub.hSub Int Int Int _ (@Go.IntKind.wrap Go.IntKind.i64 (@HAdd.hAdd Int Int Int _ (@Go.IntKind.wrap Go.IntKind.i64 (@Int.fdiv (@Go.IntKind.wrap Go.IntKind.u64 (@Go.IntKind.wrap Go.IntKind.i64 (@HAdd.hAdd Int Int Int _ (Nat.cast (@List.length ChangeD (@MrgA.P x)) : Int) (Nat.cast (@HAdd.hAdd _ _ _ _ (@List.length ChangeD (@MrgA.P x)) (@HAdd.hAdd _ _ _ _ (@List.length ChangeD (@MrgA.U x)) (@List.length ChangeD (@MrgA.V x)))) : Int)))) (@HPow.hPow Int Nat Int _ (2 : Int) (@Min.min Nat _ (@Int.toNat (1 : Int)) (@Go.IntKind.bits Go.IntKind.u64))))) (Nat.cast (@HAdd.hAdd _ _ _ _ (@List.length ChangeD (@MrgA.P x)) (@List.length ChangeD (@MrgA.U x))) : Int))) (1 : Int)))) (@HSub.hSub Nat Nat Nat _ (@TwoN.i x26) (1 : Nat))) (@ChangeD.mk (@List.nil UInt8) Bool.false (0 : Int))) (@List.getD ChangeD (@MrgA.l x) (@HSub.hSub Nat Nat Nat _ (@TwoN.i x26) (1 : Nat)) (@ChangeD.mk (@List.nil UInt8) Bool.false (0 : Int)))) (0 : Int)))) ∧
 ((@LT.lt Nat _ (@TwoN.j x26) (@Int.toNat (@Go.IntKind.wrap Go.IntKind.i64 (@Int.fdiv (@Go.IntKind.wrap Go.IntKind.u64 (@Go.IntKind.wrap Go.IntKind.i64 (@HAdd.hAdd Int Int Int _ (Nat.cast (@List.length ChangeD (@MrgA.P x)) : Int) (Nat.cast (@HAdd.hAdd _ _ _ _ (@List.length ChangeD (@MrgA.P x)) (@HAdd.hAdd _ _ _ _ (@List.length ChangeD (@MrgA.U x)) (@List.length ChangeD (@MrgA.V x)))) : Int)))) (@HPow.hPow Int Nat Int _ (2 : Int) (@Min.min Nat _ (@Int.toNat (1 : Int)) (@Go.IntKind.bits Go.IntKind.u64))))))) →
 (@LT.lt Int _ (@cmpC (@List.getD ChangeD (@MrgA.l x) (@HSub.hSub Nat Nat Nat _ (@Int.toNat (@Go.IntKind.wrap Go.IntKind.i64 (@HSub.hSub Int Int Int _ (@Go.IntKind.wrap Go.IntKind.i64 (@HAdd.hAdd Int Int Int _ (@Go.IntKind.wrap Go.IntKind.i64 (@Int.fdiv (@Go.IntKind.wrap Go.IntKind.u64 (@Go.IntKind.wrap Go.IntKind.i64 (@HAdd.hAdd Int Int Int _ (Nat.cast (@List.length ChangeD (@MrgA.P x)) : Int) (Nat.cast (@HAdd.hAdd _ _ _ _ (@List.length ChangeD (@MrgA.P x)) (@HAdd.hAdd _ _ _ _ (@List.length ChangeD (@MrgA.U x)) (@List.length ChangeD (@MrgA.V x)))) : Int)))) (@HPow.hPow Int Nat Int _ (2 : Int) (@Min.min Nat _ (@Int.toNat (1 : Int)) (@Go.IntKind.bits Go.IntKind.u64))))) (Nat.cast (@HAdd.hAdd _ _ _ _ (@List.length ChangeD (@MrgA.P x)) (@List.length ChangeD (@MrgA.U x))) : Int))) (1 : Int)))) (@TwoN.j x26)) (@ChangeD.mk (@List.nil UInt8) Bool.false (0 : Int))) (@List.getD ChangeD (@MrgA.l x) (@TwoN.j x26) (@ChangeD.mk (@List.nil UInt8) Bool.false (0 : Int)))) (0 : Int))))) ∧
 (@LT.lt Nat _ (@Nat.sub (@TwoN.j x26) (@TwoN.i x26)) (@Nat.sub (@TwoN.j x23) (@TwoN.i x23)))))))
 (∃ x27 : TwoN,
 ((@Eq Int (Nat.cast (@TwoN.i x23) : Int) (Nat.cast (@TwoN.i x27) : Int)) ∧
 ((@Eq Int (@Go.IntKind.wrap Go.IntKind.i64 (@Int.fdiv (@Go.IntKind.wrap Go.IntKind.u64 (@Go.IntKind.wrap Go.IntKind.i64 (@HAdd.hAdd Int Int Int _ (Nat.cast (@TwoN.i x23) : Int) (Nat.cast (@TwoN.j x23) : Int)))) (@HPow.hPow Int Nat Int _ (2 : Int) (@Min.min Nat _ (@Int.toNat (1 : Int)) (@Go.IntKind.bits Go.IntKind.u64))))) (Nat.cast (@TwoN.j x27) : Int)) ∧
 ((((@LE.le Nat _ (@Int.toNat (@Go.IntKind.wrap Go.IntKind.i64 (@HSub.hSub Int Int Int _ (@Go.IntKind.wrap Go.IntKind.i64 (@HAdd.hAdd Int Int Int _ (@Go.IntKind.wrap Go.IntKind.i64 (@Int.fdiv (@Go.IntKind.wrap Go.IntKind.u64 (@Go.IntKind.wrap Go.IntKind.i64 (@HAdd.hAdd Int Int Int _ (Nat.cast (@List.length ChangeD (@MrgA.P x)) : Int) (Nat.cast (@HAdd.hAdd _ _ _ _ (@List.length ChangeD (@MrgA.P x)) (@HAdd.hAdd _ _ _ _ (@List.length ChangeD (@MrgA.U x)) (@List.length ChangeD (@MrgA.V x)))) : Int)))) (@HPow.hPow Int Nat Int _ (2 : Int) (@Min.min Nat _ (@Int.toNat (1 : Int)) (@Go.IntKind.bits Go.IntKind.u64))))) (Nat.cast (@HAdd.hAdd _ _ _ _ (@List.length ChangeD (@MrgA.P x)) (@List.length ChangeD (@MrgA.U x))) : Int))) (Nat.cast (@HAdd.hAdd _ _ _ _ (@List.length ChangeD (@MrgA.P x)) (@HAdd.hAdd _ _ _ _ (@List.length ChangeD (@MrgA.U x)) (@List.length ChangeD (@MrgA.V x)))) : Int)))) (@TwoN.i x27)) ∧
 ((@LE.le Nat _ (@TwoN.i x27) (@TwoN.j x27)) ∧
 (@LE.le Nat _ (@TwoN.j x27) (@Int.toNat (@Go.IntKind.wrap Go.IntKind.i64 (@Int.fdiv (@Go.IntKind.wrap Go.IntKind.u64 (@Go.IntKind.wrap Go.IntKind.i64 (@HAdd.hAdd Int Int Int _ (Nat.cast (@List.length ChangeD (@MrgA.P x)) : Int) (Nat.cast (@HAdd.hAdd _ _ _ _ (@List.length ChangeD (@MrgA.P x)) (@HAdd.hAdd _ _ _ _ (@List.length ChangeD (@MrgA.U x)) (@List.length ChangeD (@MrgA.V x)))) : Int)))) (@HPow.hPow Int Nat Int _ (2 : Int) (@Min.min Nat _ (@Int.toNat (1 : Int)) (@Go.IntKind.bits Go.IntKind.u64))))))))) ∧
 (((@LT.lt Nat _ (@Int.toNat (@Go.IntKind.wrap Go.IntKind.i64 (@HSub.hSub Int Int Int _ (@Go.IntKind.wrap Go.IntKind.i64 (@HAdd.hAdd Int Int Int _ (@Go.IntKind.wrap Go.IntKind.i64 (@Int.fdiv (@Go.IntKind.wrap Go.IntKind.u64 (@Go.IntKind.wrap Go.IntKind.i64 (@HAdd.hAdd Int Int Int _ (Nat.cast (@List.length ChangeD (@MrgA.P x)) : Int) (Nat.cast (@HAdd.hAdd _ _ _ _ (@List.length ChangeD (@MrgA.P x)) (@HAdd.hAdd _ _ _ _ (@List.length ChangeD (@MrgA.U x)) (@List.length ChangeD (@MrgA.V x)))) : Int)))) (@HPow.hPow Int Nat Int _ (2 : Int) (@Min.min Nat _ (@Int.toNat (1 : Int)) (@Go.IntKind.bits Go.IntKind.u64))))) (Nat.cast (@HAdd.hAdd _ _ _ _ (@List.length ChangeD (@MrgA.P x)) (@List.length ChangeD (@MrgA.U x))) : Int))) (Nat.cast (@HAdd.hAdd _ _ _ _ (@List.length ChangeD (@MrgA.P x)) (@HAdd.hAdd _ _ _ _ (@List.length ChangeD (@MrgA.U x)) (@List.length ChangeD (@MrgA.V x)))) : Int)))) (@TwoN.i x27)) →
 (@Not (@LT.lt Int _ (@cmpC (@List.getD ChangeD (@MrgA.l x) (@HSub.hSub Nat Nat Nat _ (@Int.toNat (@Go.IntKind.wrap Go.IntKind.i64 (@HSub.hSub Int Int Int _ (@Go.IntKind.wrap Go.IntKind.i64 (@HAdd.hAdd Int Int Int _ (@Go.IntKind.wrap Go.IntKind.i64 (@Int.fdiv (@Go.IntKind.wrap Go.IntKind.u64 (@Go.IntKind.wrap Go.IntKind.i64 (@HAdd.hAdd Int Int Int _ (Nat.cast (@List.length ChangeD (@MrgA.P x)) : Int) (Nat.cast (@HAdd.hAdd _ _ _ _ (@List.length ChangeD (@MrgA.P x)) (@HAdd.hAdd _ _ _ _ (@List.length ChangeD (@MrgA.U x)) (@List.length ChangeD (@MrgA.V x)))) : Int)))) (@HPow.hPow Int Nat Int _ (2 : Int) (@Min.min Nat _ (@Int.toNat (1 : Int)) (@Go.IntKind.bits Go.IntKind.u64))))) (Nat.cast (@HAdd.hAdd _ _ _ _ (@List.length ChangeD (@MrgA.P x)) (@List.length ChangeD (@MrgA.U x))) : Int))) (1 : Int)))) (@HSub.hSub Nat Nat Nat _ (@TwoN.i x27) (1 : Nat))) (@ChangeD.mk (@List.nil UInt8) Bool.false (0 : Int))) (@List.getD ChangeD (@MrgA.l x) (@HSub.hSub Nat Nat Nat _ (@TwoN.i x27) (1 : Nat)) (@ChangeD.mk (@List.nil UInt8) Bool.false (0 : Int)))) (0 : Int)))) ∧
 ((@LT.lt Nat _ (@TwoN.j x27) (@Int.toNat (@Go.IntKind.wrap Go.IntKind.i64 (@Int.fdiv (@Go.IntKind.wrap Go.IntKind.u64 (@Go.IntKind.wrap Go.IntKind.i64 (@HAdd.hAdd Int Int Int _ (Nat.cast (@List.length ChangeD (@MrgA.P x)) : Int) (Nat.cast (@HAdd.hAdd _ _ _ _ (@List.length ChangeD (@MrgA.P x)) (@HAdd.hAdd _ _ _ _ (@List.length ChangeD (@MrgA.U x)) (@List.length ChangeD (@MrgA.V x)))) : Int)))) (@HPow.hPow Int Nat Int _ (2 : Int) (@Min.min Nat _ (@Int.toNat (1 : Int)) (@Go.IntKind.bits Go.IntKind.u64))))))) →
 (@LT.lt Int _ (@cmpC (@List.getD ChangeD (@MrgA.l x) (@HSub.hSub Nat Nat Nat _ (@Int.toNat (@Go.IntKind.wrap Go.IntKind.i64 (@HSub.hSub Int Int Int _ (@Go.IntKind.wrap Go.IntKind.i64 (@HAdd.hAdd Int Int Int _ (@Go.IntKind.wrap Go.IntKind.i64 (@Int.fdiv (@Go.IntKind.wrap Go.IntKind.u64 (@Go.IntKind.wrap Go.IntKind.i64 (@HAdd.hAdd Int Int Int _ (Nat.cast (@List.length ChangeD (@MrgA.P x)) : Int) (Nat.cast (@HAdd.hAdd _ _ _ _ (@List.length ChangeD (@MrgA.P x)) (@HAdd.hAdd _ _ _ _ (@List.length ChangeD (@MrgA.U x)) (@List.length ChangeD (@MrgA.V x)))) : Int)))) (@HPow.hPow Int Nat Int _ (2 : Int) (@Min.min Nat _ (@Int.toNat (1 : Int)) (@Go.IntKind.bits Go.IntKind.u64))))) (Nat.cast (@HAdd.hAdd _ _ _ _ (@List.length ChangeD (@MrgA.P x)) (@List.length ChangeD (@MrgA.U x))) : Int))) (1 : Int)))) (@TwoN.j x27)) (@ChangeD.mk (@List.nil UInt8) Bool.false (0 : Int))) (@List.getD ChangeD (@MrgA.l x) (@TwoN.j x27) (@ChangeD.mk (@List.nil UInt8) Bool.false (0 : Int)))) (0 : Int))))) ∧
 (@LT.lt Nat _ (@Nat.sub (@TwoN.j x27) (@TwoN.i x27)) (@Nat.sub (@TwoN.j x23) (@TwoN.i x23))))))))))))))
 (Bad "check" "zsortanyfunc.go:441"))
 (Bad "check" "zsortanyfunc.go:441"))
 (Bad "check" "zsortanyfunc.go:441"))
 (Bad "check" "zsortanyfunc.go:441"))
 (br (@Decidable.decide (@LT.lt Int _ (Nat.cast (@TwoN.i x23) : Int) (Nat.cast (@HAdd.hAdd _ _ _ _ (@List.length ChangeD (@MrgA.P x)) (@List.length ChangeD (@MrgA.U x))) : Int)) _)
 (br (@Decidable.decide (@LT.lt Int _ (Nat.cast (@HAdd.hAdd _ _ _ _ (@List.length ChangeD (@MrgA.P x)) (@List.length ChangeD (@MrgA.U x))) : Int) (@Go.IntKind.wrap Go.IntKind.i64 (@HSub.hSub Int Int Int _ (@Go.IntKind.wrap Go.IntKind.i64 (@HAdd.hAdd Int Int Int _ (@Go.IntKind.wrap Go.IntKind.i64 (@Int.fdiv (@Go.IntKind.wrap Go.IntKind.u64 (@Go.IntKind.wrap Go.IntKind.i64 (@HAdd.hAdd Int Int Int _ (Nat.cast (@List.length ChangeD (@MrgA.P x)) : Int) (Nat.cast (@HAdd.hAdd _ _ _ _ (@List.length ChangeD (@MrgA.P x)) (@HAdd.hAdd _ _ _ _ (@List.length ChangeD (@MrgA.U x)) (@List.length ChangeD (@MrgA.V x)))) : Int)))) (@HPow.hPow Int Nat Int _ (2 : Int) (@Min.min Nat _ (@Int.toNat (1 : Int)) (@Go.IntKind.bits Go.IntKind.u64))))) (Nat.cast (@HAdd.hAdd _ _ _ _ (@List.length ChangeD (@MrgA.P x)) (@List.length ChangeD (@MrgA.U x))) : Int))) (Nat.cast (@TwoN.i x23) : Int)))) _)
 (∃ x28 : RotA,
 ((@Eq Nat (0 : Nat) (0 : Nat)) ∧
 ((@Eq Nat (@List.length ChangeD (@MrgA.l x)) (@List.length ChangeD (@RotA.l x28))) ∧
 ((@Eq Int (Nat.cast (@TwoN.i x23) : Int) (Nat.cast (@List.length ChangeD (@RotA.P x28)) : Int)) ∧
 ((@Eq Int (Nat.cast (@HAdd.hAdd _ _ _ _ (@List.length ChangeD (@MrgA.P x)) (@List.length ChangeD (@MrgA.U x))) : Int) (Nat.cast (@HAdd.hAdd _ _ _ _ (@List.length ChangeD (@RotA.P x28)) (@List.length ChangeD (@RotA.U x28))) : Int)) ∧
 ((@Eq Int (@Go.IntKind.wrap Go.IntKind.i64 (@HSub.hSub Int Int Int _ (@Go.IntKind.wrap Go.IntKind.i64 (@HAdd.hAdd Int Int Int _ (@Go.IntKind.wrap Go.IntKind.i64 (@Int.fdiv (@Go.IntKind.wrap Go.IntKind.u64 (@Go.IntKind.wrap Go.IntKind.i64 (@HAdd.hAdd Int Int Int _ (Nat.cast (@List.length ChangeD (@MrgA.P x)) : Int) (Nat.cast (@HAdd.hAdd _ _ _ _ (@List.length ChangeD (@MrgA.P x)) (@HAdd.hAdd _ _ _ _ (@List.length ChangeD (@MrgA.U x)) (@List.length ChangeD (@MrgA.V x)))) : Int)))) (@HPow.hPow Int Nat Int _ (2 : Int) (@Min.min Nat _ (@Int.toNat (1 : Int)) (@Go.IntKind.bits Go.IntKind.u64))))) (Nat.cast (@HAdd.hAdd _ _ _ _ (@List.length ChangeD (@MrgA.P x)) (@List.length ChangeD (@MrgA.U x))) : Int))) (Nat.cast (@TwoN.i x23) : Int))) (Nat.cast (@HAdd.hAdd _ _ _ _ (@List.length ChangeD (@RotA.P x28)) (@HAdd.hAdd _ _ _ _ (@List.length ChangeD (@RotA.U x28)) (@List.length ChangeD (@RotA.V x28)))) : Int)) ∧
 ((@Eq (@List ChangeD) (@MrgA.l x) (@RotA.l x28)) ∧
 ((((@Ne (@List ChangeD) (@RotA.U x28) (@List.nil ChangeD)) ∧
 (@Ne (@List ChangeD) (@RotA.V x28) (@List.nil ChangeD))) ∧
 (@LE.le Nat _ (@List.length ChangeD (@RotA.l x28)) (100000 : Nat))) ∧
 (∀ x29 : Unit,
 (True →
 (br (@Decidable.decide (@LT.lt Int _ (Nat.cast (@List.length ChangeD (@MrgA.P x)) : Int) (Nat.cast (@TwoN.i x23) : Int)) _)
 (br (@Decidable.decide (@LT.lt Int _ (Nat.cast (@TwoN.i x23) : Int) (@Go.IntKind.wrap Go.IntKind.i64 (@Int.fdiv (@Go.IntKind.wrap Go.IntKind.u64 (@Go.IntKind.wrap Go.IntKind.i64 (@HAdd.hAdd Int Int Int _ (Nat.cast (@List.length ChangeD (@MrgA.P x)) : Int) (Nat.cast (@HAdd.hAdd _ _ _ _ (@List.length ChangeD (@MrgA.P x)) (@HAdd.hAdd _ _ _ _ (@List.length ChangeD (@MrgA.U x)) (@List.length ChangeD (@MrgA.V x)))) : Int)))) (@HPow.hPow Int Nat Int _ (2 : Int) (@Min.min Nat _ (@Int.toNat (1 : Int)) (@Go.IntKind.bits Go.IntKind.u64)))))) _)
 (∃ x30 : MrgA,
 ((@Eq Nat (0 : Nat) (0 : Nat)) ∧
 ((@Eq Nat (@List.length ChangeD (@MrgA.l x)) (@List.length ChangeD (@MrgA.l x30))) ∧
 ((@Eq Int (Nat.cast (@List.length ChangeD (@MrgA.P x)) : Int) (Nat.cast (@List.length ChangeD (@MrgA.P x30)) : Int)) ∧
 ((@Eq Int (Nat.cast (@TwoN.i x23) : Int) (Nat.cast (@HAdd.hAdd _ _ _ _ (@List.length ChangeD (@MrgA.P x30)) (@List.length ChangeD (@MrgA.U x30))) : Int)) ∧
 ((@Eq Int (@Go.IntKind.wrap Go.IntKind.i64 (@Int.fdiv (@Go.IntKind.wrap Go.IntKind.u64 (@Go.IntKind.wrap Go.IntKind.i64 (@HAdd.hAdd Int Int Int _ (Nat.cast (@List.length ChangeD (@MrgA.P x)) : Int) (Nat.cast (@HAdd.hAdd _ _ _ _ (@List.length ChangeD (@MrgA.P x)) (@HAdd.hAdd _ _ _ _ (@List.length ChangeD (@MrgA.U x)) (@List.length ChangeD (@MrgA.V x)))) : Int)))) (@HPow.hPow Int Nat Int _ (2 : Int) (@Min.min Nat _ (@Int.toNat (1 : Int)) (@Go.IntKind.bits Go.IntKind.u64))))) (Nat.cast (@HAdd.hAdd _ _ _ _ (@List.length ChangeD (@MrgA.P x30)) (@HAdd.hAdd _ _ _ _ (@List.length ChangeD (@MrgA.U x30)) (@List.length ChangeD (@MrgA.V x30)))) : Int)) ∧
 ((@Eq (@List ChangeD) (@RotA.r x28) (@MrgA.l x30)) ∧
 (((((@Ne (@List ChangeD) (@MrgA.U x30) (@List.nil ChangeD)) ∧
 (@Ne (@List ChangeD) (@MrgA.V x30) (@List.nil ChangeD))) ∧
 (@LE.le Nat _ (@List.length ChangeD (@MrgA.l x30)) (100000 : Nat))) ∧
 ((@srtC (@MrgA.U x30)) ∧
 ((@srtC (@MrgA.V x30)) ∧
 (@LT.lt Nat _ (@HAdd.hAdd _ _ _ _ (@List.length ChangeD (@MrgA.U x30)) (@List.length ChangeD (@MrgA.V x30))) n)))) ∧
 (∀ x31 : Unit,
 (True →
 (br (@Decidable.decide (@LT.lt Int _ (@Go.IntKind.wrap Go.IntKind.i64 (@Int.fdiv (@Go.IntKind.wrap Go.IntKind.u64 (@Go.IntKind.wrap Go.IntKind.i64 (@HAdd.hAdd Int Int Int _ (Nat.cast (@List.length ChangeD (@MrgA.P x)) : Int) (Nat.cast (@HAdd.hAdd _ _ _ _ (@List.length ChangeD (@MrgA.P x)) (@HAdd.hAdd _ _ _ _ (@List.length ChangeD (@MrgA.U x)) (@List.length ChangeD (@MrgA.V x)))) : Int)))) (@HPow.hPow Int Nat Int _ (2 : Int) (@Min.min Nat _ (@Int.toNat (1 : Int)) (@Go.IntKind.bits Go.IntKind.u64))))) (@Go.IntKind.wrap Go.IntKind.i64 (@HSub.hSub Int Int Int _ (@Go.IntKind.wrap Go.IntKind.i64 (@HAdd.hAdd Int Int Int _ (@Go.IntKind.wrap Go.IntKind.i64 (@Int.fdiv (@Go.IntKind.wrap Go.IntKind.u64 (@Go.IntKind.wrap Go.IntKind.i64 (@HAdd.hAdd Int Int Int _ (Nat.cast (@List.length ChangeD (@MrgA.P x)) : Int) (Nat.cast (@HAdd.hAdd _ _ _ _ (@List.length ChangeD (@MrgA.P x)) (@HAdd.hAdd _ _ _ _ (@List.length ChangeD (@MrgA.U x)) (@List.length ChangeD (@MrgA.V x)))) : Int)))) (@HPow.hPow Int Nat Int _ (2 : Int) (@Min.min Nat _ (@Int.toNat (1 : Int)) (@Go.IntKind.bits Go.IntKind.u64))))) (Nat.cast (@HAdd.hAdd _ _ _ _ (@List.length ChangeD (@MrgA.P x)) (@List.length ChangeD (@MrgA.U x))) : Int))) (Nat.cast (@TwoN.i x23) : Int)))) _)
 (br (@Decidable.decide (@LT.lt Int _ (@Go.IntKind.wrap Go.IntKind.i64 (@HSub.hSub Int Int Int _ (@Go.IntKind.wrap Go.IntKind.i64 (@HAdd.hAdd Int Int Int _ (@Go.IntKind.wrap Go.IntKind.i64 (@Int.fdiv (@Go.IntKind.wrap Go.IntKind.u64 (@Go.IntKind.wrap Go.IntKind.i64 (@HAdd.hAdd Int Int Int _ (Nat.cast (@List.length ChangeD (@MrgA.P x)) : Int) (Nat.cast (@HAdd.hAdd _ _ _ _ (@List.length ChangeD (@MrgA.P x)) (@HAdd.hAdd _ _ _ _ (@List.length ChangeD (@MrgA.U x)) (@List.length ChangeD (@MrgA.V x)))) : Int)))) (@HPow.hPow Int Nat Int _ (2 : Int) (@Min.min Nat _ (@Int.toNat (1 : Int)) (@Go.IntKind.bits Go.IntKind.u64))))) (Nat.cast (@HAdd.hAdd _ _ _ _ (@List.length ChangeD (@MrgA.P x)) (@List.length ChangeD (@MrgA.U x))) : Int))) (Nat.cast (@TwoN.i x23) : Int))) (Nat.cast (@HAdd.hAdd _ _ _ _ (@List.length ChangeD (@MrgA.P x)) (@HAdd.hAdd _ _ _ _ (@List.length ChangeD (@MrgA.U x)) (@List.length ChangeD (@MrgA.V x)))) : Int)) _)
 (∃ x32 : MrgA,
 ((@Eq Nat (0 : Nat) (0 : Nat)) ∧
 ((@Eq Nat (@List.length ChangeD (@MrgA.l x)) (@List.length ChangeD (@MrgA.l x32))) ∧
 ((@Eq Int (@Go.IntKind.wrap Go.IntKind.i64 (@Int.fdiv (@Go.IntKind.wrap Go.IntKind.u64 (@Go.IntKind.wrap Go.IntKind.i64 (@HAdd.hAdd Int Int Int _ (Nat.cast (@List.length ChangeD (@MrgA.P x)) : Int) (Nat.cast (@HAdd.hAdd _ _ _ _ (@List.length ChangeD (@MrgA.P x)) (@HAdd.hAdd _ _ _ _ (@List.length ChangeD (@MrgA.U x)) (@List.length ChangeD (@MrgA.V x)))) : Int)))) (@HPow.hPow Int Nat Int _ (2 : Int) (@Min.min Nat _ (@Int.toNat (1 : Int)) (@Go.IntKind.bits Go.IntKind.u64))))) (Nat.cast (@List.length ChangeD (@MrgA.P x32)) : Int)) ∧
 ((@Eq Int (@Go.IntKind.wrap Go.IntKind.i64 (@HSub.hSub Int Int Int _ (@Go.IntKind.wrap Go.IntKind.i64 (@HAdd.hAdd Int Int Int _ (@Go.IntKind.wrap Go.IntKind.i64 (@Int.fdiv (@Go.IntKind.wrap Go.IntKind.u64 (@Go.IntKind.wrap Go.IntKind.i64 (@HAdd.hAdd Int Int Int _ (Nat.cast (@List.length ChangeD (@MrgA.P x)) : Int) (Nat.cast (@HAdd.hAdd _ _ _ _ (@List.length ChangeD (@MrgA.P x)) (@HAdd.hAdd _ _ _ _ (@List.length ChangeD (@MrgA.U x)) (@List.length ChangeD (@MrgA.V x)))) : Int)))) (@HPow.hPow Int Nat Int _ (2 : Int) (@Min.min Nat _ (@Int.toNat (1 : Int)) (@Go.IntKind.bits Go.IntKind.u64))))) (Nat.cast (@HAdd.hAdd _ _ _ _ (@List.length ChangeD (@MrgA.P x)) (@List.length ChangeD (@MrgA.U x))) : Int))) (Nat.cast (@TwoN.i x23) : Int))) (Nat.cast (@HAdd.hAdd _ _ _ _ (@List.length ChangeD (@MrgA.P x32)) (@List.length ChangeD (@MrgA.U x32))) : Int)) ∧
 ((@Eq Int (Nat.cast (@HAdd.hAdd _ _ _ _ (@List.length ChangeD (@MrgA.P x)) (@HAdd.hAdd _ _ _ _ (@List.length ChangeD (@MrgA.U x)) (@List.length ChangeD (@MrgA.V x)))) : Int) (Nat.cast (@HAdd.hAdd _ _ _ _ (@List.length ChangeD (@MrgA.P x32)) (@HAdd.hAdd _ _ _ _ (@List.length ChangeD (@MrgA.U x32)) (@List.length ChangeD (@MrgA.V x32)))) : Int)) ∧
 ((@Eq (@List ChangeD) (@MrgA.r x30) (@MrgA.l x32)) ∧
 (((((@Ne (@List ChangeD) (@MrgA.U x32) (@List.nil ChangeD)) ∧
 (@Ne (@List ChangeD) (@MrgA.V x32) (@List.nil ChangeD))) ∧
 (@LE.le Nat _ (@List.length ChangeD (@MrgA.l x32)) (100000 : Nat))) ∧
 ((@srtC (@MrgA.U x32)) ∧
 ((@srtC (@MrgA.V x32)) ∧
 (@LT.lt Nat _ (@HAdd.hAdd _ _ _ _ (@List.length ChangeD (@MrgA.U x32)) (@List.length ChangeD (@MrgA.V x32))) n)))) ∧
 (∀ x33 : Unit,
 (True →
 (∃ x34 : Unit,
 ((@Eq (@List ChangeD) (@MrgA.r x32) (@MrgA.r x)) ∧
 True))))))))))))
 (∃ x35 : Unit,
 ((@Eq (@List ChangeD) (@MrgA.r x30) (@MrgA.r x)) ∧
 True)))
 (∃ x36 : Unit,
 ((@Eq (@List ChangeD) (@MrgA.r x30) (@MrgA.r x)) ∧
 True)))))))))))))
 (br (@Decidable.decide (@LT.lt Int _ (@Go.IntKind.wrap Go.IntKind.i64 (@Int.fdiv (@Go.IntKind.wrap Go.IntKind.u64 (@Go.IntKind.wrap Go.IntKind.i64 (@HAdd.hAdd Int Int Int _ (Nat.cast (@List.length ChangeD (@MrgA.P x)) : Int) (Nat.cast (@HAdd.hAdd _ _ _ _ (@List.length ChangeD (@MrgA.P x)) (@HAdd.hAdd _ _ _ _ (@List.length ChangeD (@MrgA.U x)) (@List.length ChangeD (@MrgA.V x)))) : Int)))) (@HPow.hPow Int Nat Int _ (2 : Int) (@Min.min Nat _ (@Int.toNat (1 : Int)) (@Go.IntKind.bits Go.IntKind.u64))))) (@Go.IntKind.wrap Go.IntKind.i64 (@HSub.hSub Int Int Int _ (@Go.IntKind.wrap Go.IntKind.i64 (@HAdd.hAdd Int Int Int _ (@Go.IntKind.wrap Go.IntKind.i64 (@Int.fdiv (@Go.IntKind.wrap Go.IntKind.u64 (@Go.IntKind.wrap Go.IntKind.i64 (@HAdd.hAdd Int Int Int _ (Nat.cast (@List.length ChangeD (@MrgA.P x)) : Int) (Nat.cast (@HAdd.hAdd _ _ _ _ (@List.length ChangeD (@MrgA.P x)) (@HAdd.hAdd _ _ _ _ (@List.length ChangeD (@MrgA.U x)) (@List.length ChangeD (@MrgA.V x)))) : Int)))) (@HPow.hPow Int Nat Int _ (2 : Int) (@Min.min Nat _ (@Int.toNat (1 : Int)) (@Go.IntKind.bits Go.IntKind.u64))))) (Nat.cast (@HAdd.hAdd _ _ _ _ (@List.length ChangeD (@MrgA.P x)) (@List.length ChangeD (@MrgA.U x))) : Int))) (Nat.cast (@TwoN.i x23) : Int)))) _)
 (br (@Decidable.decide (@LT.lt Int _ (@Go.IntKind.wrap Go.IntKind.i64 (@HSub.hSub Int Int Int _ (@Go.IntKind.wrap Go.IntKind.i64 (@HAdd.hAdd Int Int Int _ (@Go.IntKind.wrap Go.IntKind.i64 (@Int.fdiv (@Go.IntKind.wrap Go.IntKind.u64 (@Go.IntKind.wrap Go.IntKind.i64 (@HAdd.hAdd Int Int Int _ (Nat.cast (@List.length ChangeD (@MrgA.P x)) : Int) (Nat.cast (@HAdd.hAdd _ _ _ _ (@List.length ChangeD (@MrgA.P x)) (@HAdd.hAdd _ _ _ _ (@List.length ChangeD (@MrgA.U x)) (@List.length ChangeD (@MrgA.V x)))) : Int)))) (@HPow.hPow Int Nat Int _ (2 : Int) (@Min.min Nat _ (@Int.toNat (1 : Int)) (@Go.IntKind.bits Go.IntKind.u64))))) (Nat.cast (@HAdd.hAdd _ _ _ _ (@List.length ChangeD (@MrgA.P x)) (@List.length ChangeD (@MrgA.U x))) : Int))) (Nat.cast (@TwoN.i x23) : Int))) (Nat.cast (@HAdd.hAdd _ _ _ _ (@List.length ChangeD (@MrgA.P x)) (@HAdd.hAdd _ _ _ _ (@List.length ChangeD (@MrgA.U x)) (@List.length ChangeD (@MrgA.V x)))) : Int)) _)
 (∃ x37 : MrgA,
 ((@Eq Nat (0 : Nat) (0 : Nat)) ∧
 ((@Eq Nat (@List.length ChangeD (@MrgA.l x)) (@List.length ChangeD (@MrgA.l x37))) ∧
 ((@Eq Int (@Go.IntKind.wrap Go.IntKind.i64 (@Int.fdiv (@Go.IntKind.wrap Go.IntKind.u64 (@Go.IntKind.wrap Go.IntKind.i64 (@HAdd.hAdd Int Int Int _ (Nat.cast (@List.length ChangeD (@MrgA.P x)) : Int) (Nat.cast (@HAdd.hAdd _ _ _ _ (@List.length ChangeD (@MrgA.P x)) (@HAdd.hAdd _ _ _ _ (@List.length ChangeD (@MrgA.U x)) (@List.length ChangeD (@MrgA.V x)))) : Int)))) (@HPow.hPow Int Nat Int _ (2 : Int) (@Min.min Nat _ (@Int.toNat (1 : Int)) (@Go.IntKind.bits Go.IntKind.u64))))) (Nat.cast (@List.length ChangeD (@MrgA.P x37)) : Int)) ∧
 ((@Eq Int (@Go.IntKind.wrap Go.IntKind.i64 (@HSub.hSub Int Int Int _ (@Go.IntKind.wrap Go.IntKind.i64 (@HAdd.hAdd Int Int Int _ (@Go.IntKind.wrap Go.IntKind.i64 (@Int.fdiv (@Go.IntKind.wrap Go.IntKind.u64 (@Go.IntKind.wrap Go.IntKind.i64 (@HAdd.hAdd Int Int Int _ (Nat.cast (@List.length ChangeD (@MrgA.P x)) : Int) (Nat.cast (@HAdd.hAdd _ _ _ _ (@List.length ChangeD (@MrgA.P x)) (@HAdd.hAdd _ _ _ _ (@List.length ChangeD (@MrgA.U x)) (@List.length ChangeD (@MrgA.V x)))) : Int)))) (@HPow.hPow Int Nat Int _ (2 : Int) (@Min.min Nat _ (@Int.toNat (1 : Int)) (@Go.IntKind.bits Go.IntKind.u64))))) (Nat.cast (@HAdd.hAdd _ _ _ _ (@List.length ChangeD (@MrgA.P x)) (@List.length ChangeD (@MrgA.U x))) : Int))) (Nat.cast (@TwoN.i x23) : Int))) (Nat.cast (@HAdd.hAdd _ _ _ _ (@List.length ChangeD (@MrgA.P x37)) (@List.length ChangeD (@MrgA.U x37))) : Int)) ∧
 ((@Eq Int (Nat.cast (@HAdd.hAdd _ _ _ _ (@List.length ChangeD (@MrgA.P x)) (@HAdd.hAdd _ _ _ _ (@List.length ChangeD (@MrgA.U x)) (@List.length ChangeD (@MrgA.V x)))) : Int) (Nat.cast (@HAdd.hAdd _ _ _ _ (@List.length ChangeD (@MrgA.P x37)) (@HAdd.hAdd _ _ _ _ (@List.length ChangeD (@MrgA.U x37)) (@List.length ChangeD (@MrgA.V x37)))) : Int)) ∧
 ((@Eq (@List ChangeD) (@RotA.r x28) (@MrgA.l x37)) ∧
 (((((@Ne (@List ChangeD) (@MrgA.U x37) (@List.nil ChangeD)) ∧
 (@Ne (@List ChangeD) (@MrgA.V x37) (@List.nil ChangeD))) ∧
 (@LE.le Nat _ (@List.length ChangeD (@MrgA.l x37)) (100000 : Nat))) ∧
 ((@srtC (@MrgA.U x37)) ∧
 ((@srtC (@MrgA.V x37)) ∧
 (@LT.lt Nat _ (@HAdd.hAdd _ _ _ _ (@List.length ChangeD (@MrgA.U x37)) (@List.length ChangeD (@MrgA.V x37))) n)))) ∧
 (∀ x38 : Unit,
 (True →
 (∃ x39 : Unit,
 ((@Eq (@List ChangeD) (@MrgA.r x37) (@MrgA.r x)) ∧
 True))))))))))))
 (∃ x40 : Unit,
 ((@Eq (@List ChangeD) (@RotA.r x28) (@MrgA.r x)) ∧
 True)))
 (∃ x41 : Unit,
 ((@Eq (@List ChangeD) (@RotA.r x28) (@MrgA.r x)) ∧
 True))))
 (br (@Decidable.decide (@LT.lt Int _ (@Go.IntKind.wrap Go.IntKind.i64 (@Int.fdiv (@Go.IntKind.wrap Go.IntKind.u64 (@Go.IntKind.wrap Go.IntKind.i64 (@HAdd.hAdd Int Int Int _ (Nat.cast (@List.length ChangeD (@MrgA.P x)) : Int) (Nat.cast (@HAdd.hAdd _ _ _ _ (@List.length ChangeD (@MrgA.P x)) (@HAdd.hAdd _ _ _ _ (@List.length ChangeD (@MrgA.U x)) (@List.length ChangeD (@MrgA.V x)))) : Int)))) (@HPow.hPow Int Nat Int _ (2 : Int) (@Min.min Nat _ (@Int.toNat (1 : Int)) (@Go.IntKind.bits Go.IntKind.u64))))) (@Go.IntKind.wrap Go.IntKind.i64 (@HSub.hSub Int Int Int _ (@Go.IntKind.wrap Go.IntKind.i64 (@HAdd.hAdd Int Int Int _ (@Go.IntKind.wrap Go.IntKind.i64 (@Int.fdiv (@Go.IntKind.wrap Go.IntKind.u64 (@Go.IntKind.wrap Go.IntKind.i64 (@HAdd.hAdd Int Int Int _ (Nat.cast (@List.length ChangeD (@MrgA.P x)) : Int) (Nat.cast (@HAdd.hAdd _ _ _ _ (@List.length ChangeD (@MrgA.P x)) (@HAdd.hAdd _ _ _ _ (@List.length ChangeD (@MrgA.U x)) (@List.length ChangeD (@MrgA.V x)))) : Int)))) (@HPow.hPow Int Nat Int _ (2 : Int) (@Min.min Nat _ (@Int.toNat (1 : Int)) (@Go.IntKind.bits Go.IntKind.u64))))) (Nat.cast (@HAdd.hAdd _ _ _ _ (@List.length ChangeD (@MrgA.P x)) (@List.length ChangeD (@MrgA.U x))) : Int))) (Nat.cast (@TwoN.i x23) : Int)))) _)
 (br (@Decidable.decide (@LT.lt Int _ (@Go.IntKind.wrap Go.IntKind.i64 (@HSub.hSub Int Int Int _ (@Go.IntKind.wrap Go.IntKind.i64 (@HAdd.hAdd Int Int Int _ (@Go.IntKind.wrap Go.IntKind.i64 (@Int.fdiv (@Go.IntKind.wrap Go.IntKind.u64 (@Go.IntKind.wrap Go.IntKind.i64 (@HAdd.hAdd Int Int Int _ (Nat.cast (@List.length ChangeD (@MrgA.P x)) : Int) (Nat.cast (@HAdd.hAdd _ _ _ _ (@List.length ChangeD (@MrgA.P x)) (@HAdd.hAdd _ _ _ _ (@List.length ChangeD (@MrgA.U x)) (@List.length ChangeD (@MrgA.V x)))) : Int)))) (@HPow.hPow Int Nat Int _ (2 : Int) (@Min.min Nat _ (@Int.toNat (1 : Int)) (@Go.IntKind.bits Go.IntKind.u64))))) (Nat.cast (@HAdd.hAdd _ _ _ _ (@List.length ChangeD (@MrgA.P x)) (@List.length ChangeD (@MrgA.U x))) : Int))) (Nat.cast (@TwoN.i x23) : Int))) (Nat.cast (@HAdd.hAdd _ _ _ _ (@List.length ChangeD (@MrgA.P x)) (@HAdd.hAdd _ _ _ _ (@List.length ChangeD (@MrgA.U x)) (@List.length ChangeD (@MrgA.V x)))) : Int)) _)
 (∃ x42 : MrgA,
 ((@Eq Nat (0 : Nat) (0 : Nat)) ∧
 ((@Eq Nat (@List.length ChangeD (@MrgA.l x)) (@List.length ChangeD (@MrgA.l x42))) ∧
 ((@Eq Int (@Go.IntKind.wrap Go.IntKind.i64 (@Int.fdiv (@Go.IntKind.wrap Go.IntKind.u64 (@Go.IntKind.wrap Go.IntKind.i64 (@HAdd.hAdd Int Int Int _ (Nat.cast (@List.length ChangeD (@MrgA.P x)) : Int) (Nat.cast (@HAdd.hAdd _ _ _ _ (@List.length ChangeD (@MrgA.P x)) (@HAdd.hAdd _ _ _ _ (@List.length ChangeD (@MrgA.U x)) (@List.length ChangeD (@MrgA.V x)))) : Int)))) (@HPow.hPow Int Nat Int _ (2 : Int) (@Min.min Nat _ (@Int.toNat (1 : Int)) (@Go.IntKind.bits Go.IntKind.u64))))) (Nat.cast (@List.length ChangeD (@MrgA.P x42)) : Int)) ∧
 ((@Eq Int (@Go.IntKind.wrap Go.IntKind.i64 (@HSub.hSub Int Int Int _ (@Go.IntKind.wrap Go.IntKind.i64 (@HAdd.hAdd Int Int Int _ (@Go.IntKind.wrap Go.IntKind.i64 (@Int.fdiv (@Go.IntKind.wrap Go.IntKind.u64 (@Go.IntKind.wrap Go.IntKind.i64 (@HAdd.hAdd Int Int Int _ (Nat.cast (@List.length ChangeD (@MrgA.P x)) : Int) (Nat.cast (@HAdd.hAdd _ _ _ _ (@List.length ChangeD (@MrgA.P x)) (@HAdd.hAdd _ _ _ _ (@List.length ChangeD (@MrgA.U x)) (@List.length ChangeD (@MrgA.V x)))) : Int)))) (@HPow.hPow Int Nat Int _ (2 : Int) (@Min.min Nat _ (@Int.toNat (1 : Int)) (@Go.IntKind.bits Go.IntKind.u64))))) (Nat.cast (@HAdd.hAdd _ _ _ _ (@List.length ChangeD (@MrgA.P x)) (@List.length ChangeD (@MrgA.U x))) : Int))) (Nat.cast (@TwoN.i x23) : Int))) (Nat.cast (@HAdd.hAdd _ _ _ _ (@List.length ChangeD (@MrgA.P x42)) (@List.length ChangeD (@MrgA.U x42))) : Int)) ∧
 ((@Eq Int (Nat.cast (@HAdd.hAdd _ _ _ _ (@List.length ChangeD (@MrgA.P x)) (@HAdd.hAdd _ _ _ _ (@List.length ChangeD (@MrgA.U x)) (@List.length ChangeD (@MrgA.V x)))) : Int) (Nat.cast (@HAdd.hAdd _ _ _ _ (@List.length ChangeD (@MrgA.P x42)) (@HAdd.hAdd _ _ _ _ (@List.length ChangeD (@MrgA.U x42)) (@List.length ChangeD (@MrgA.V x42)))) : Int)) ∧
 ((@Eq (@List ChangeD) (@RotA.r x28) (@MrgA.l x42)) ∧
 (((((@Ne (@List ChangeD) (@MrgA.U x42) (@List.nil ChangeD)) ∧
 (@Ne (@List ChangeD) (@MrgA.V x42) (@List.nil ChangeD))) ∧
 (@LE.le Nat _ (@List.length ChangeD (@MrgA.l x42)) (100000 : Nat))) ∧
 ((@srtC (@MrgA.U x42)) ∧
 ((@srtC (@MrgA.V x42)) ∧
 (@LT.lt Nat _ (@HAdd.hAdd _ _ _ _ (@List.length ChangeD (@MrgA.U x42)) (@List.length ChangeD (@MrgA.V x42))) n)))) ∧
 (∀ x43 : Unit,
 (True →
 (∃ x44 : Unit,
 ((@Eq (@List ChangeD) (@MrgA.r x42) (@MrgA.r x)) ∧
 True))))))))))))
 (∃ x45 : Unit,
 ((@Eq (@List ChangeD) (@RotA.r x28) (@MrgA.r x)) ∧
 True)))
 (∃ x46 : Unit,
 ((@Eq (@List ChangeD) (@RotA.r x28) (@MrgA.r x)) ∧
 True))))))))))))))
 (br (@Decidable.decide (@LT.lt Int _ (Nat.cast (@List.length ChangeD (@MrgA.P x)) : Int) (Nat.cast (@TwoN.i x23) : Int)) _)
 (br (@Decidable.decide (@LT.lt Int _ (Nat.cast (@TwoN.i x23) : Int) (@Go.IntKind.wrap Go.IntKind.i64 (@Int.fdiv (@Go.IntKind.wrap Go.IntKind.u64 (@Go.IntKind.wrap Go.IntKind.i64 (@HAdd.hAdd Int Int Int _ (Nat.cast (@List.length ChangeD (@MrgA.P x)) : Int) (Nat.cast (@HAdd.hAdd _ _ _ _ (@List.length ChangeD (@MrgA.P x)) (@HAdd.hAdd _ _ _ _ (@List.length ChangeD (@MrgA.U x)) (@List.length ChangeD (@MrgA.V x)))) : Int)))) (@HPow.hPow Int Nat Int _ (2 : Int) (@Min.min Nat _ (@Int.toNat (1 : Int)) (@Go.IntKind.bits Go.IntKind.u64)))))) _)
 (∃ x47 : MrgA,
 ((@Eq Nat (0 : Nat) (0 : Nat)) ∧
 ((@Eq Nat (@List.length ChangeD (@MrgA.l x)) (@List.length ChangeD (@MrgA.l x47))) ∧
 ((@Eq Int (Nat.cast (@List.length ChangeD (@MrgA.P x)) : Int) (Nat.cast (@List.length ChangeD (@MrgA.P x47)) : Int)) ∧
 ((@Eq Int (Nat.cast (@TwoN.i x23) : Int) (Nat.cast (@HAdd.hAdd _ _ _ _ (@List.length ChangeD (@MrgA.P x47)) (@List.length ChangeD (@MrgA.U x47))) : Int)) ∧
 ((@Eq Int (@Go.IntKind.wrap Go.IntKind.i64 (@Int.fdiv (@Go.IntKind.wrap Go.IntKind.u64 (@Go.IntKind.wrap Go.IntKind.i64 (@HAdd.hAdd Int Int Int _ (Nat.cast (@List.length ChangeD (@MrgA.P x)) : Int) (Nat.cast (@HAdd.hAdd _ _ _ _ (@List.length ChangeD (@MrgA.P x)) (@HAdd.hAdd _ _ _ _ (@List.length ChangeD (@MrgA.U x)) (@List.length ChangeD (@MrgA.V x)))) : Int)))) (@HPow.hPow Int Nat Int _ (2 : Int) (@Min.min Nat _ (@Int.toNat (1 : Int)) (@Go.IntKind.bits Go.IntKind.u64))))) (Nat.cast (@HAdd.hAdd _ _ _ _ (@List.length ChangeD (@MrgA.P x47)) (@HAdd.hAdd _ _ _ _ (@List.length ChangeD (@MrgA.U x47)) (@List.length ChangeD (@MrgA.V x47)))) : Int)) ∧
 ((@Eq (@List ChangeD) (@MrgA.l x) (@MrgA.l x47)) ∧
 (((((@Ne (@List ChangeD) (@MrgA.U x47) (@List.nil ChangeD)) ∧
 (@Ne (@List ChangeD) (@MrgA.V x47) (@List.nil ChangeD))) ∧
 (@LE.le Nat _ (@List.length ChangeD (@MrgA.l x47)) (100000 : Nat))) ∧
 ((@srtC (@MrgA.U x47)) ∧
 ((@srtC (@MrgA.V x47)) ∧
 (@LT.lt Nat _ (@HAdd.hAdd _ _ _ _ (@List.length ChangeD (@MrgA.U x47)) (@List.length ChangeD (@MrgA.V x47))) n)))) ∧
 (∀ x48 : Unit,
 (True →
 (br (@Decidable.decide (@LT.lt Int _ (@Go.IntKind.wrap Go.IntKind.i64 (@Int.fdiv (@Go.IntKind.wrap Go.IntKind.u64 (@Go.IntKind.wrap Go.IntKind.i64 (@HAdd.hAdd Int Int Int _ (Nat.cast (@List.length ChangeD (@MrgA.P x)) : Int) (Nat.cast (@HAdd.hAdd _ _ _ _ (@List.length ChangeD (@MrgA.P x)) (@HAdd.hAdd _ _ _ _ (@List.length ChangeD (@MrgA.U x)) (@List.length ChangeD (@MrgA.V x)))) : Int)))) (@HPow.hPow Int Nat Int _ (2 : Int) (@Min.min Nat _ (@Int.toNat (1 : Int)) (@Go.IntKind.bits Go.IntKind.u64))))) (@Go.IntKind.wrap Go.IntKind.i64 (@HSub.hSub Int Int Int _ (@Go.IntKind.wrap Go.IntKind.i64 (@HAdd.hAdd Int Int Int _ (@Go.IntKind.wrap Go.IntKind.i64 (@Int.fdiv (@Go.IntKind.wrap Go.IntKind.u64 (@Go.IntKind.wrap Go.IntKind.i64 (@HAdd.hAdd Int Int Int _ (Nat.cast (@List.length ChangeD (@MrgA.P x)) : Int) (Nat.cast (@HAdd.hAdd _ _ _ _ (@List.length ChangeD (@MrgA.P x)) (@HAdd.hAdd _ _ _ _ (@List.length ChangeD (@MrgA.U x)) (@List.length ChangeD (@MrgA.V x)))) : Int)))) (@HPow.hPow Int Nat Int _ (2 : Int) (@Min.min Nat _ (@Int.toNat (1 : Int)) (@Go.IntKind.bits Go.IntKind.u64))))) (Nat.cast (@HAdd.hAdd _ _ _ _ (@List.length ChangeD (@MrgA.P x)) (@List.length ChangeD (@MrgA.U x))) : Int))) (Nat.cast (@TwoN.i x23) : Int)))) _)
 (br (@Decidable.decide (@LT.lt Int _ (@Go.IntKind.wrap Go.IntKind.i64 (@HSub.hSub Int Int Int _ (@Go.IntKind.wrap Go.IntKind.i64 (@HAdd.hAdd Int Int Int _ (@Go.IntKind.wrap Go.IntKind.i64 (@Int.fdiv (@Go.IntKind.wrap Go.IntKind.u64 (@Go.IntKind.wrap Go.IntKind.i64 (@HAdd.hAdd Int Int Int _ (Nat.cast (@List.length ChangeD (@MrgA.P x)) : Int) (Nat.cast (@HAdd.hAdd _ _ _ _ (@List.length ChangeD (@MrgA.P x)) (@HAdd.hAdd _ _ _ _ (@List.length ChangeD (@MrgA.U x)) (@List.length ChangeD (@MrgA.V x)))) : Int)))) (@HPow.hPow Int Nat Int _ (2 : Int) (@Min.min Nat _ (@Int.toNat (1 : Int)) (@Go.IntKind.bits Go.IntKind.u64))))) (Nat.cast (@HAdd.hAdd _ _ _ _ (@List.length ChangeD (@MrgA.P x)) (@List.length ChangeD (@MrgA.U x))) : Int))) (Nat.cast (@TwoN.i x23) : Int))) (Nat.cast (@HAdd.hAdd _ _ _ _ (@List.length ChangeD (@MrgA.P x)) (@HAdd.hAdd _ _ _ _ (@List.length ChangeD (@MrgA.U x)) (@List.length ChangeD (@MrgA.V x)))) : Int)) _)
 (∃ x49 : MrgA,
 ((@Eq Nat (0 : Nat) (0 : Nat)) ∧
 ((@Eq Nat (@List.length ChangeD (@MrgA.l x)) (@List.length ChangeD (@MrgA.l x49))) ∧
 ((@Eq Int (@Go.IntKind.wrap Go.IntKind.i64 (@Int.fdiv (@Go.IntKind.wrap Go.IntKind.u64 (@Go.IntKind.wrap Go.IntKind.i64 (@HAdd.hAdd Int Int Int _ (Nat.cast (@List.length ChangeD (@MrgA.P x)) : Int) (Nat.cast (@HAdd.hAdd _ _ _ _ (@List.length ChangeD (@MrgA.P x)) (@HAdd.hAdd _ _ _ _ (@List.length ChangeD (@MrgA.U x)) (@List.length ChangeD (@MrgA.V x)))) : Int)))) (@HPow.hPow Int Nat Int _ (2 : Int) (@Min.min Nat _ (@Int.toNat (1 : Int)) (@Go.IntKind.bits Go.IntKind.u64))))) (Nat.cast (@List.length ChangeD (@MrgA.P x49)) : Int)) ∧
 ((@Eq Int (@Go.IntKind.wrap Go.IntKind.i64 (@HSub.hSub Int Int Int _ (@Go.IntKind.wrap Go.IntKind.i64 (@HAdd.hAdd Int Int Int _ (@Go.IntKind.wrap Go.IntKind.i64 (@Int.fdiv (@Go.IntKind.wrap Go.IntKind.u64 (@Go.IntKind.wrap Go.IntKind.i64 (@HAdd.hAdd Int Int Int _ (Nat.cast (@List.length ChangeD (@MrgA.P x)) : Int) (Nat.cast (@HAdd.hAdd _ _ _ _ (@List.length ChangeD (@MrgA.P x)) (@HAdd.hAdd _ _ _ _ (@List.length ChangeD (@MrgA.U x)) (@List.length ChangeD (@MrgA.V x)))) : Int)))) (@HPow.hPow Int Nat Int _ (2 : Int) (@Min.min Nat _ (@Int.toNat (1 : Int)) (@Go.IntKind.bits Go.IntKind.u64))))) (Nat.cast (@HAdd.hAdd _ _ _ _ (@List.length ChangeD (@MrgA.P x)) (@List.length ChangeD (@MrgA.U x))) : Int))) (Nat.cast (@TwoN.i x23) : Int))) (Nat.cast (@HAdd.hAdd _ _ _ _ (@List.length ChangeD (@MrgA.P x49)) (@List.length ChangeD (@MrgA.U x49))) : Int)) ∧
 ((@Eq Int (Nat.cast (@HAdd.hAdd _ _ _ _ (@List.length ChangeD (@MrgA.P x)) (@HAdd.hAdd _ _ _ _ (@List.length ChangeD (@MrgA.U x)) (@List.length ChangeD (@MrgA.V x)))) : Int) (Nat.cast (@HAdd.hAdd _ _ _ _ (@List.length ChangeD (@MrgA.P x49)) (@HAdd.hAdd _ _ _ _ (@List.length ChangeD (@MrgA.U x49)) (@List.length ChangeD (@MrgA.V x49)))) : Int)) ∧
 ((@Eq (@List ChangeD) (@MrgA.r x47) (@MrgA.l x49)) ∧
 (((((@Ne (@List ChangeD) (@MrgA.U x49) (@List.nil ChangeD)) ∧
 (@Ne (@List ChangeD) (@MrgA.V x49) (@List.nil ChangeD))) ∧
 (@LE.le Nat _ (@List.length ChangeD (@MrgA.l x49)) (100000 : Nat))) ∧
 ((@srtC (@MrgA.U x49)) ∧
 ((@srtC (@MrgA.V x49)) ∧
 (@LT.lt Nat _ (@HAdd.hAdd _ _ _ _ (@List.length ChangeD (@MrgA.U x49)) (@List.length ChangeD (@MrgA.V x49))) n)))) ∧
 (∀ x50 : Unit,
 (True →
 (∃ x51 : Unit,
 ((@Eq (@List ChangeD) (@MrgA.r x49) (@MrgA.r x)) ∧
 True))))))))))))
 (∃ x52 : Unit,
 ((@Eq (@List ChangeD) (@MrgA.r x47) (@MrgA.r x)) ∧
 True)))
 (∃ x53 : Unit,
 ((@Eq (@List ChangeD) (@MrgA.r x47) (@MrgA.r x)) ∧
 True)))))))))))))
 (br (@Decidable.decide (@LT.lt Int _ (@Go.IntKind.wrap Go.IntKind.i64 (@Int.fdiv (@Go.IntKind.wrap Go.IntKind.u64 (@Go.IntKind.wrap Go.IntKind.i64 (@HAdd.hAdd Int Int Int _ (Nat.cast (@List.length ChangeD (@MrgA.P x)) : Int) (Nat.cast (@HAdd.hAdd _ _ _ _ (@List.length ChangeD (@MrgA.P x)) (@HAdd.hAdd _ _ _ _ (@List.length ChangeD (@MrgA.U x)) (@List.length ChangeD (@MrgA.V x)))) : Int)))) (@HPow.hPow Int Nat Int _ (2 : Int) (@Min.min Nat _ (@Int.toNat (1 : Int)) (@Go.IntKind.bits Go.IntKind.u64))))) (@Go.IntKind.wrap Go.IntKind.i64 (@HSub.hSub Int Int Int _ (@Go.IntKind.wrap Go.IntKind.i64 (@HAdd.hAdd Int Int Int _ (@Go.IntKind.wrap Go.IntKind.i64 (@Int.fdiv (@Go.IntKind.wrap Go.IntKind.u64 (@Go.IntKind.wrap Go.IntKind.i64 (@HAdd.hAdd Int Int Int _ (Nat.cast (@List.length ChangeD (@MrgA.P x)) : Int) (Nat.cast (@HAdd.hAdd _ _ _ _ (@List.length ChangeD (@MrgA.P x)) (@HAdd.hAdd _ _ _ _ (@List.length ChangeD (@MrgA.U x)) (@List.length ChangeD (@MrgA.V x)))) : Int)))) (@HPow.hPow Int Nat Int _ (2 : Int) (@Min.min Nat _ (@Int.toNat (1 : Int)) (@Go.IntKind.bits Go.IntKind.u64))))) (Nat.cast (@HAdd.hAdd _ _ _ _ (@List.length ChangeD (@MrgA.P x)) (@List.length ChangeD (@MrgA.U x))) : Int))) (Nat.cast (@TwoN.i x23) : Int)))) _)
 (br (@Decidable.decide (@LT.lt Int _ (@Go.IntKind.wrap Go.IntKind.i64 (@HSub.hSub Int Int Int _ (@Go.IntKind.wrap Go.IntKind.i64 (@HAdd.hAdd Int Int Int _ (@Go.IntKind.wrap Go.IntKind.i64 (@Int.fdiv (@Go.IntKind.wrap Go.IntKind.u64 (@Go.IntKind.wrap Go.IntKind.i64 (@HAdd.hAdd Int Int Int _ (Nat.cast (@List.length ChangeD (@MrgA.P x)) : Int) (Nat.cast (@HAdd.hAdd _ _ _ _ (@List.length ChangeD (@MrgA.P x)) (@HAdd.hAdd _ _ _ _ (@List.length ChangeD (@MrgA.U x)) (@List.length ChangeD (@MrgA.V x)))) : Int)))) (@HPow.hPow Int Nat Int _ (2 : Int) (@Min.min Nat _ (@Int.toNat (1 : Int)) (@Go.IntKind.bits Go.IntKind.u64))))) (Nat.cast (@HAdd.hAdd _ _ _ _ (@List.length ChangeD (@MrgA.P x)) (@List.length ChangeD (@MrgA.U x))) : Int))) (Nat.cast (@TwoN.i x23) : Int))) (Nat.cast (@HAdd.hAdd _ _ _ _ (@List.length ChangeD (@MrgA.P x)) (@HAdd.hAdd _ _ _ _ (@List.length ChangeD (@MrgA.U x)) (@List.length ChangeD (@MrgA.V x)))) : Int)) _)
 (∃ x54 : MrgA,
 ((@Eq Nat (0 : Nat) (0 : Nat)) ∧
 ((@Eq Nat (@List.length ChangeD (@MrgA.l x)) (@List.length ChangeD (@MrgA.l x54))) ∧
 ((@Eq Int (@Go.IntKind.wrap Go.IntKind.i64 (@Int.fdiv (@Go.IntKind.wrap Go.IntKind.u64 (@Go.IntKind.wrap Go.IntKind.i64 (@HAdd.hAdd Int Int Int _ (Nat.cast (@List.length ChangeD (@MrgA.P x)) : Int) (Nat.cast (@HAdd.hAdd _ _ _ _ (@List.length ChangeD (@MrgA.P x)) (@HAdd.hAdd _ _ _ _ (@List.length ChangeD (@MrgA.U x)) (@List.length ChangeD (@MrgA.V x)))) : Int)))) (@HPow.hPow Int Nat Int _ (2 : Int) (@Min.min Nat _ (@Int.toNat (1 : Int)) (@Go.IntKind.bits Go.IntKind.u64))))) (Nat.cast (@List.length ChangeD (@MrgA.P x54)) : Int)) ∧
 ((@Eq Int (@Go.IntKind.wrap Go.IntKind.i64 (@HSub.hSub Int Int Int _ (@Go.IntKind.wrap Go.IntKind.i64 (@HAdd.hAdd Int Int Int _ (@Go.IntKind.wrap Go.IntKind.i64 (@Int.fdiv (@Go.IntKind.wrap Go.IntKind.u64 (@Go.IntKind.wrap Go.IntKind.i64 (@HAdd.hAdd Int Int Int _ (Nat.cast (@List.length ChangeD (@MrgA.P x)) : Int) (Nat.cast (@HAdd.hAdd _ _ _ _ (@List.length ChangeD (@MrgA.P x)) (@HAdd.hAdd _ _ _ _ (@List.length ChangeD (@MrgA.U x)) (@List.length ChangeD (@MrgA.V x)))) : Int)))) (@HPow.hPow Int Nat Int _ (2 : Int) (@Min.min Nat _ (@Int.toNat (1 : Int)) (@Go.IntKind.bits Go.IntKind.u64))))) (Nat.cast (@HAdd.hAdd _ _ _ _ (@List.length ChangeD (@MrgA.P x)) (@List.length ChangeD (@MrgA.U x))) : Int))) (Nat.cast (@TwoN.i x23) : Int))) (Nat.cast (@HAdd.hAdd _ _ _ _ (@List.length ChangeD (@MrgA.P x54)) (@List.length ChangeD (@MrgA.U x54))) : Int)) ∧
 ((@Eq Int (Nat.cast (@HAdd.hAdd _ _ _ _ (@List.length ChangeD (@MrgA.P x)) (@HAdd.hAdd _ _ _ _ (@List.length ChangeD (@MrgA.U x)) (@List.length ChangeD (@MrgA.V x)))) : Int) (Nat.cast (@HAdd.hAdd _ _ _ _ (@List.length ChangeD (@MrgA.P x54)) (@HAdd.hAdd _ _ _ _ (@List.length ChangeD (@MrgA.U x54)) (@List.length ChangeD (@MrgA.V x54)))) : Int)) ∧
 ((@Eq (@List ChangeD) (@MrgA.l x) (@MrgA.l x54)) ∧
 (((((@Ne (@List ChangeD) (@MrgA.U x54) (@List.nil ChangeD)) ∧
 (@Ne (@List ChangeD) (@MrgA.V x54) (@List.nil ChangeD))) ∧
 (@LE.le Nat _ (@List.length ChangeD (@MrgA.l x54)) (100000 : Nat))) ∧
 ((@srtC (@MrgA.U x54)) ∧
 ((@srtC (@MrgA.V x54)) ∧
 (@LT.lt Nat _ (@HAdd.hAdd _ _ _ _ (@List.length ChangeD (@MrgA.U x54)) (@List.length ChangeD (@MrgA.V x54))) n)))) ∧
 (∀ x55 : Unit,
 (True →
 (∃ x56 : Unit,
 ((@Eq (@List ChangeD) (@MrgA.r x54) (@MrgA.r x)) ∧
 True))))))))))))
 (∃ x57 : Unit,
 ((@Eq (@List ChangeD) (@MrgA.l x) (@MrgA.r x)) ∧
 True)))
 (∃ x58 : Unit,
 ((@Eq (@List ChangeD) (@MrgA.l x) (@MrgA.r x)) ∧
 True))))
 (br (@Decidable.decide (@LT.lt Int _ (@Go.IntKind.wrap Go.IntKind.i64 (@Int.fdiv (@Go.IntKind.wrap Go.IntKind.u64 (@Go.IntKind.wrap Go.IntKind.i64 (@HAdd.hAdd Int Int Int _ (Nat.cast (@List.length ChangeD (@MrgA.P x)) : Int) (Nat.cast (@HAdd.hAdd _ _ _ _ (@List.length ChangeD (@MrgA.P x)) (@HAdd.hAdd _ _ _ _ (@List.length ChangeD (@MrgA.U x)) (@List.length ChangeD (@MrgA.V x)))) : Int)))) (@HPow.hPow Int Nat Int _ (2 : Int) (@Min.min Nat _ (@Int.toNat (1 : Int)) (@Go.IntKind.bits Go.IntKind.u64))))) (@Go.IntKind.wrap Go.IntKind.i64 (@HSub.hSub Int Int Int _ (@Go.IntKind.wrap Go.IntKind.i64 (@HAdd.hAdd Int Int Int _ (@Go.IntKind.wrap Go.IntKind.i64 (@Int.fdiv (@Go.IntKind.wrap Go.IntKind.u64 (@Go.IntKind.wrap Go.IntKind.i64 (@HAdd.hAdd Int Int Int _ (Nat.cast (@List.length ChangeD (@MrgA.P x)) : Int) (Nat.cast (@HAdd.hAdd _ _ _ _ (@List.length ChangeD (@MrgA.P x)) (@HAdd.hAdd _ _ _ _ (@List.length ChangeD (@MrgA.U x)) (@List.length ChangeD (@MrgA.V x)))) : Int)))) (@HPow.hPow Int Nat Int _ (2 : Int) (@Min.min Nat _ (@Int.toNat (1 : Int)) (@Go.IntKind.bits Go.IntKind.u64))))) (Nat.cast (@HAdd.hAdd _ _ _ _ (@List.length ChangeD (@MrgA.P x)) (@List.length ChangeD (@MrgA.U x))) : Int))) (Nat.cast (@TwoN.i x23) : Int)))) _)
 (br (@Decidable.decide (@LT.lt Int _ (@Go.IntKind.wrap Go.IntKind.i64 (@HSub.hSub Int Int Int _ (@Go.IntKind.wrap Go.IntKind.i64 (@HAdd.hAdd Int Int Int _ (@Go.IntKind.wrap Go.IntKind.i64 (@Int.fdiv (@Go.IntKind.wrap Go.IntKind.u64 (@Go.IntKind.wrap Go.IntKind.i64 (@HAdd.hAdd Int Int Int _ (Nat.cast (@List.length ChangeD (@MrgA.P x)) : Int) (Nat.cast (@HAdd.hAdd _ _ _ _ (@List.length ChangeD (@MrgA.P x)) (@HAdd.hAdd _ _ _ _ (@List.length ChangeD (@MrgA.U x)) (@List.length ChangeD (@MrgA.V x)))) : Int)))) (@HPow.hPow Int Nat Int _ (2 : Int) (@Min.min Nat _ (@Int.toNat (1 : Int)) (@Go.IntKind.bits Go.IntKind.u64))))) (Nat.cast (@HAdd.hAdd _ _ _ _ (@List.length ChangeD (@MrgA.P x)) (@List.length ChangeD (@MrgA.U x))) : Int))) (Nat.cast (@TwoN.i x23) : Int))) (Nat.cast (@HAdd.hAdd _ _ _ _ (@List.length ChangeD (@MrgA.P x)) (@HAdd.hAdd _ _ _ _ (@List.length ChangeD (@MrgA.U x)) (@List.length ChangeD (@MrgA.V x)))) : Int)) _)
 (∃ x59 : MrgA,
 ((@Eq Nat (0 : Nat) (0 : Nat)) ∧
 ((@Eq Nat (@List.length ChangeD (@MrgA.l x)) (@List.length ChangeD (@MrgA.l x59))) ∧
 ((@Eq Int (@Go.IntKind.wrap Go.IntKind.i64 (@Int.fdiv (@Go.IntKind.wrap Go.IntKind.u64 (@Go.IntKind.wrap Go.IntKind.i64 (@HAdd.hAdd Int Int Int _ (Nat.cast (@List.length ChangeD (@MrgA.P x)) : Int) (Nat.cast (@HAdd.hAdd _ _ _ _ (@List.length ChangeD (@MrgA.P x)) (@HAdd.hAdd _ _ _ _ (@List.length ChangeD (@MrgA.U x)) (@List.length ChangeD (@MrgA.V x)))) : Int)))) (@HPow.hPow Int Nat Int _ (2 : Int) (@Min.min Nat _ (@Int.toNat (1 : Int)) (@Go.IntKind.bits Go.IntKind.u64))))) (Nat.cast (@List.length ChangeD (@MrgA.P x59)) : Int)) ∧
 ((@Eq Int (@Go.IntKind.wrap Go.IntKind.i64 (@HSub.hSub Int Int Int _ (@Go.IntKind.wrap Go.IntKind.i64 (@HAdd.hAdd Int Int Int _ (@Go.IntKind.wrap Go.IntKind.i64 (@Int.fdiv (@Go.IntKind.wrap Go.IntKind.u64 (@Go.IntKind.wrap Go.IntKind.i64 (@HAdd.hAdd Int Int Int _ (Nat.cast (@List.length ChangeD (@MrgA.P x)) : Int) (Nat.cast (@HAdd.hAdd _ _ _ _ (@List.length ChangeD (@MrgA.P x)) (@HAdd.hAdd _ _ _ _ (@List.length ChangeD (@MrgA.U x)) (@List.length ChangeD (@MrgA.V x)))) : Int)))) (@HPow.hPow Int Nat Int _ (2 : Int) (@Min.min Nat _ (@Int.toNat (1 : Int)) (@Go.IntKind.bits Go.IntKind.u64))))) (Nat.cast (@HAdd.hAdd _ _ _ _ (@List.length ChangeD (@MrgA.P x)) (@List.length ChangeD (@MrgA.U x))) : Int))) (Nat.cast (@TwoN.i x23) : Int))) (Nat.cast (@HAdd.hAdd _ _ _ _ (@List.length ChangeD (@MrgA.P x59)) (@List.length ChangeD (@MrgA.U x59))) : Int)) ∧
 ((@Eq Int (Nat.cast (@HAdd.hAdd _ _ _ _ (@List.length ChangeD (@MrgA.P x)) (@HAdd.hAdd _ _ _ _ (@List.length ChangeD (@MrgA.U x)) (@List.length ChangeD (@MrgA.V x)))) : Int) (Nat.cast (@HAdd.hAdd _ _ _ _ (@List.length ChangeD (@MrgA.P x59)) (@HAdd.hAdd _ _ _ _ (@List.length ChangeD (@MrgA.U x59)) (@List.length ChangeD (@MrgA.V x59)))) : Int)) ∧
 ((@Eq (@List ChangeD) (@MrgA.l x) (@MrgA.l x59)) ∧
 (((((@Ne (@List ChangeD) (@MrgA.U x59) (@List.nil ChangeD)) ∧
 (@Ne (@List ChangeD) (@MrgA.V x59) (@List.nil ChangeD))) ∧
 (@LE.le Nat _ (@List.length ChangeD (@MrgA.l x59)) (100000 : Nat))) ∧
 ((@srtC (@MrgA.U x59)) ∧
 ((@srtC (@MrgA.V x59)) ∧
 (@LT.lt Nat _ (@HAdd.hAdd _ _ _ _ (@List.length ChangeD (@MrgA.U x59)) (@List.length ChangeD (@MrgA.V x59))) n)))) ∧
 (∀ x60 : Unit,
 (True →
 (∃ x61 : Unit,
 ((@Eq (@List ChangeD) (@MrgA.r x59) (@MrgA.r x)) ∧
 True))))))))))))
 (∃ x62 : Unit,
 ((@Eq (@List ChangeD) (@MrgA.l x) (@MrgA.r x)) ∧
 True)))
 (∃ x63 : Unit,
 ((@Eq (@List ChangeD) (@MrgA.l x) (@MrgA.r x)) ∧
 True)))))
 (br (@Decidable.decide (@LT.lt Int _ (Nat.cast (@List.length ChangeD (@MrgA.P x)) : Int) (Nat.cast (@TwoN.i x23) : Int)) _)
 (br (@Decidable.decide (@LT.lt Int _ (Nat.cast (@TwoN.i x23) : Int) (@Go.IntKind.wrap Go.IntKind.i64 (@Int.fdiv (@Go.IntKind.wrap Go.IntKind.u64 (@Go.IntKind.wrap Go.IntKind.i64 (@HAdd.hAdd Int Int Int _ (Nat.cast (@List.length ChangeD (@MrgA.P x)) : Int) (Nat.cast (@HAdd.hAdd _ _ _ _ (@List.length ChangeD (@MrgA.P x)) (@HAdd.hAdd _ _ _ _ (@List.length ChangeD (@MrgA.U x)) (@List.length ChangeD (@MrgA.V x)))) : Int)))) (@HPow.hPow Int Nat Int _ (2 : Int) (@Min.min Nat _ (@Int.toNat (1 : Int)) (@Go.IntKind.bits Go.IntKind.u64)))))) _)
 (∃ x64 : MrgA,
 ((@Eq Nat (0 : Nat) (0 : Nat)) ∧
 ((@Eq Nat (@List.length ChangeD (@MrgA.l x)) (@List.length ChangeD (@MrgA.l x64))) ∧
 ((@Eq Int (Nat.cast (@List.length ChangeD (@MrgA.P x)) : Int) (Nat.cast (@List.length ChangeD (@MrgA.P x64)) : Int)) ∧
 ((@Eq Int (Nat.cast (@TwoN.i x23) : Int) (Nat.cast (@HAdd.hAdd _ _ _ _ (@List.length ChangeD (@MrgA.P x64)) (@List.length ChangeD (@MrgA.U x64))) : Int)) ∧
 ((@Eq Int (@Go.IntKind.wrap Go.IntKind.i64 (@Int.fdiv (@Go.IntKind.wrap Go.IntKind.u64 (@Go.IntKind.wrap Go.IntKind.i64 (@HAdd.hAdd Int Int Int _ (Nat.cast (@List.length ChangeD (@MrgA.P x)) : Int) (Nat.cast (@HAdd.hAdd _ _ _ _ (@List.length ChangeD (@MrgA.P x)) (@HAdd.hAdd _ _ _ _ (@List.length ChangeD (@MrgA.U x)) (@List.length ChangeD (@MrgA.V x)))) : Int)))) (@HPow.hPow Int Nat Int _ (2 : Int) (@Min.min Nat _ (@Int.toNat (1 : Int)) (@Go.IntKind.bits Go.IntKind.u64))))) (Nat.cast (@HAdd.hAdd _ _ _ _ (@List.length ChangeD (@MrgA.P x64)) (@HAdd.hAdd _ _ _ _ (@List.length ChangeD (@MrgA.U x64)) (@List.length ChangeD (@MrgA.V x64)))) : Int)) ∧
 ((@Eq (@List ChangeD) (@MrgA.l x) (@MrgA.l x64)) ∧
 (((((@Ne (@List ChangeD) (@MrgA.U x64) (@List.nil ChangeD)) ∧
 (@Ne (@List ChangeD) (@MrgA.V x64) (@List.nil ChangeD))) ∧
 (@LE.le Nat _ (@List.length ChangeD (@MrgA.l x64)) (100000 : Nat))) ∧
 ((@srtC (@MrgA.U x64)) ∧
 ((@srtC (@MrgA.V x64)) ∧
 (@LT.lt Nat _ (@HAdd.hAdd _ _ _ _ (@List.length ChangeD (@MrgA.U x64)) (@List.length ChangeD (@MrgA.V x64))) n)))) ∧
 (∀ x65 : Unit,
 (True →
 (br (@Decidable.decide (@LT.lt Int _ (@Go.IntKind.wrap Go.IntKind.i64 (@Int.fdiv (@Go.IntKind.wrap Go.IntKind.u64 (@Go.IntKind.wrap Go.IntKind.i64 (@HAdd.hAdd Int Int Int _ (Nat.cast (@List.length ChangeD (@MrgA.P x)) : Int) (Nat.cast (@HAdd.hAdd _ _ _ _ (@List.length ChangeD (@MrgA.P x)) (@HAdd.hAdd _ _ _ _ (@List.length ChangeD (@MrgA.U x)) (@List.length ChangeD (@MrgA.V x)))) : Int)))) (@HPow.hPow Int Nat Int _ (2 : Int) (@Min.min Nat _ (@Int.toNat (1 : Int)) (@Go.IntKind.bits Go.IntKind.u64))))) (@Go.IntKind.wrap Go.IntKind.i64 (@HSub.hSub Int Int Int _ (@Go.IntKind.wrap Go.IntKind.i64 (@HAdd.hAdd Int Int Int _ (@Go.IntKind.wrap Go.IntKind.i64 (@Int.fdiv (@Go.IntKind.wrap Go.IntKind.u64 (@Go.IntKind.wrap Go.IntKind.i64 (@HAdd.hAdd Int Int Int _ (Nat.cast (@List.length ChangeD (@MrgA.P x)) : Int) (Nat.cast (@HAdd.hAdd _ _ _ _ (@List.length ChangeD (@MrgA.P x)) (@HAdd.hAdd _ _ _ _ (@List.length ChangeD (@MrgA.U x)) (@List.length ChangeD (@MrgA.V x)))) : Int)))) (@HPow.hPow Int Nat Int _ (2 : Int) (@Min.min Nat _ (@Int.toNat (1 : Int)) (@Go.IntKind.bits Go.IntKind.u64))))) (Nat.cast (@HAdd.hAdd _ _ _ _ (@List.length ChangeD (@MrgA.P x)) (@List.length ChangeD (@MrgA.U x))) : Int))) (Nat.cast (@TwoN.i x23) : Int)))) _)
 (br (@Decidable.decide (@LT.lt Int _ (@Go.IntKind.wrap Go.IntKind.i64 (@HSub.hSub Int Int Int _ (@Go.IntKind.wrap Go.IntKind.i64 (@HAdd.hAdd Int Int Int _ (@Go.IntKind.wrap Go.IntKind.i64 (@Int.fdiv (@Go.IntKind.wrap Go.IntKind.u64 (@Go.IntKind.wrap Go.IntKind.i64 (@HAdd.hAdd Int Int Int _ (Nat.cast (@List.length ChangeD (@MrgA.P x)) : Int) (Nat.cast (@HAdd.hAdd _ _ _ _ (@List.length ChangeD (@MrgA.P x)) (@HAdd.hAdd _ _ _ _ (@List.length ChangeD (@MrgA.U x)) (@List.length ChangeD (@MrgA.V x)))) : Int)))) (@HPow.hPow Int Nat Int _ (2 : Int) (@Min.min Nat _ (@Int.toNat (1 : Int)) (@Go.IntKind.bits Go.IntKind.u64))))) (Nat.cast (@HAdd.hAdd _ _ _ _ (@List.length ChangeD (@MrgA.P x)) (@List.length ChangeD (@MrgA.U x))) : Int))) (Nat.cast (@TwoN.i x23) : Int))) (Nat.cast (@HAdd.hAdd _ _ _ _ (@List.length ChangeD (@MrgA.P x)) (@HAdd.hAdd _ _ _ _ (@List.length ChangeD (@MrgA.U x)) (@List.length ChangeD (@MrgA.V x)))) : Int)) _)
 (∃ x66 : MrgA,
 ((@Eq Nat (0 : Nat) (0 : Nat)) ∧
 ((@Eq Nat (@List.length ChangeD (@MrgA.l x)) (@List.length ChangeD (@MrgA.l x66))) ∧
 ((@Eq Int (@Go.IntKind.wrap Go.IntKind.i64 (@Int.fdiv (@Go.IntKind.wrap Go.IntKind.u64 (@Go.IntKind.wrap Go.IntKind.i64 (@HAdd.hAdd Int Int Int _ (Nat.cast (@List.length ChangeD (@MrgA.P x)) : Int) (Nat.cast (@HAdd.hAdd _ _ _ _ (@List.length ChangeD (@MrgA.P x)) (@HAdd.hAdd _ _ _ _ (@List.length ChangeD (@MrgA.U x)) (@List.length ChangeD (@MrgA.V x)))) : Int)))) (@HPow.hPow Int Nat Int _ (2 : Int) (@Min.min Nat _ (@Int.toNat (1 : Int)) (@Go.IntKind.bits Go.IntKind.u64))))) (Nat.cast (@List.length ChangeD (@MrgA.P x66)) : Int)) ∧
 ((@Eq Int (@Go.IntKind.wrap Go.IntKind.i64 (@HSub.hSub Int Int Int _ (@Go.IntKind.wrap Go.IntKind.i64 (@HAdd.hAdd Int Int Int _ (@Go.IntKind.wrap Go.IntKind.i64 (@Int.fdiv (@Go.IntKind.wrap Go.IntKind.u64 (@Go.IntKind.wrap Go.IntKind.i64 (@HAdd.hAdd Int Int Int _ (Nat.cast (@List.length ChangeD (@MrgA.P x)) : Int) (Nat.cast (@HAdd.hAdd _ _ _ _ (@List.length ChangeD (@MrgA.P x)) (@HAdd.hAdd _ _ _ _ (@List.length ChangeD (@MrgA.U x)) (@List.length ChangeD (@MrgA.V x)))) : Int)))) (@HPow.hPow Int Nat Int _ (2 : Int) (@Min.min Nat _ (@Int.toNat (1 : Int)) (@Go.IntKind.bits Go.IntKind.u64))))) (Nat.cast (@HAdd.hAdd _ _ _ _ (@List.length ChangeD (@MrgA.P x)) (@List.length ChangeD (@MrgA.U x))) : Int))) (Nat.cast (@TwoN.i x23) : Int))) (Nat.cast (@HAdd.hAdd _ _ _ _ (@List.length ChangeD (@MrgA.P x66)) (@List.length ChangeD (@MrgA.U x66))) : Int)) ∧
 ((@Eq Int (Nat.cast (@HAdd.hAdd _ _ _ _ (@List.length ChangeD (@MrgA.P x)) (@HAdd.hAdd _ _ _ _ (@List.length ChangeD (@MrgA.U x)) (@List.length ChangeD (@MrgA.V x)))) : Int) (Nat.cast (@HAdd.hAdd _ _ _ _ (@List.length ChangeD (@MrgA.P x66)) (@HAdd.hAdd _ _ _ _ (@List.length ChangeD (@MrgA.U x66)) (@List.length ChangeD (@MrgA.V x66)))) : Int)) ∧
 ((@Eq (@List ChangeD) (@MrgA.r x64) (@MrgA.l x66)) ∧
 (((((@Ne (@List ChangeD) (@MrgA.U x66) (@List.nil ChangeD)) ∧
 (@Ne (@List ChangeD) (@MrgA.V x66) (@List.nil ChangeD))) ∧
 (@LE.le Nat _ (@List.length ChangeD (@MrgA.l x66)) (100000 : Nat))) ∧
 ((@srtC (@MrgA.U x66)) ∧
 ((@srtC (@MrgA.V x66)) ∧
 (@LT.lt Nat _ (@HAdd.hAdd _ _ _ _ (@List.length ChangeD (@MrgA.U x66)) (@List.length ChangeD (@MrgA.V x66))) n)))) ∧
 (∀ x67 : Unit,
 (True →
 (∃ x68 : Unit,
 ((@Eq (@List ChangeD) (@MrgA.r x66) (@MrgA.r x)) ∧
 True))))))))))))
 (∃ x69 : Unit,
 ((@Eq (@List ChangeD) (@MrgA.r x64) (@MrgA.r x)) ∧
 True)))
 (∃ x70 : Unit,
 ((@Eq (@List ChangeD) (@MrgA.r x64) (@MrgA.r x)) ∧
 True)))))))))))))
 (br (@Decidable.decide (@LT.lt Int _ (@Go.IntKind.wrap Go.IntKind.i64 (@Int.fdiv (@Go.IntKind.wrap Go.IntKind.u64 (@Go.IntKind.wrap Go.IntKind.i64 (@HAdd.hAdd Int Int Int _ (Nat.cast (@List.length ChangeD (@MrgA.P x)) : Int) (Nat.cast (@HAdd.hAdd _ _ _ _ (@List.length ChangeD (@MrgA.P x)) (@HAdd.hAdd _ _ _ _ (@List.length ChangeD (@MrgA.U x)) (@List.length ChangeD (@MrgA.V x)))) : Int)))) (@HPow.hPow Int Nat Int _ (2 : Int) (@Min.min Nat _ (@Int.toNat (1 : Int)) (@Go.IntKind.bits Go.IntKind.u64))))) (@Go.IntKind.wrap Go.IntKind.i64 (@HSub.hSub Int Int Int _ (@Go.IntKind.wrap Go.IntKind.i64 (@HAdd.hAdd Int Int Int _ (@Go.IntKind.wrap Go.IntKind.i64 (@Int.fdiv (@Go.IntKind.wrap Go.IntKind.u64 (@Go.IntKind.wrap Go.IntKind.i64 (@HAdd.hAdd Int Int Int _ (Nat.cast (@List.length ChangeD (@MrgA.P x)) : Int) (Nat.cast (@HAdd.hAdd _ _ _ _ (@List.length ChangeD (@MrgA.P x)) (@HAdd.hAdd _ _ _ _ (@List.length ChangeD (@MrgA.U x)) (@List.length ChangeD (@MrgA.V x)))) : Int)))) (@HPow.hPow Int Nat Int _ (2 : Int) (@Min.min Nat _ (@Int.toNat (1 : Int)) (@Go.IntKind.bits Go.IntKind.u64))))) (Nat.cast (@HAdd.hAdd _ _ _ _ (@List.length ChangeD (@MrgA.P x)) (@List.length ChangeD (@MrgA.U x))) : Int))) (Nat.cast (@TwoN.i x23) : Int)))) _)
 (br (@Decidable.decide (@LT.lt Int _ (@Go.IntKind.wrap Go.IntKind.i64 (@HSub.hSub Int Int Int _ (@Go.IntKind.wrap Go.IntKind.i64 (@HAdd.hAdd Int Int Int _ (@Go.IntKind.wrap Go.IntKind.i64 (@Int.fdiv (@Go.IntKind.wrap Go.IntKind.u64 (@Go.IntKind.wrap Go.IntKind.i64 (@HAdd.hAdd Int Int Int _ (Nat.cast (@List.length ChangeD (@MrgA.P x)) : Int) (Nat.cast (@HAdd.hAdd _ _ _ _ (@List.length ChangeD (@MrgA.P x)) (@HAdd.hAdd _ _ _ _ (@List.length ChangeD (@MrgA.U x)) (@List.length ChangeD (@MrgA.V x)))) : Int)))) (@HPow.hPow Int Nat Int _ (2 : Int) (@Min.min Nat _ (@Int.toNat (1 : Int)) (@Go.IntKind.bits Go.IntKind.u64))))) (Nat.cast (@HAdd.hAdd _ _ _ _ (@List.length ChangeD (@MrgA.P x)) (@List.length ChangeD (@MrgA.U x))) : Int))) (Nat.cast (@TwoN.i x23) : Int))) (Nat.cast (@HAdd.hAdd _ _ _ _ (@List.length ChangeD (@MrgA.P x)) (@HAdd.hAdd _ _ _ _ (@List.length ChangeD (@MrgA.U x)) (@List.length ChangeD (@MrgA.V x)))) : Int)) _)
 (∃ x71 : MrgA,
 ((@Eq Nat (0 : Nat) (0 : Nat)) ∧
 ((@Eq Nat (@List.length ChangeD (@MrgA.l x)) (@List.length ChangeD (@MrgA.l x71))) ∧
 ((@Eq Int (@Go.IntKind.wrap Go.IntKind.i64 (@Int.fdiv (@Go.IntKind.wrap Go.IntKind.u64 (@Go.IntKind.wrap Go.IntKind.i64 (@HAdd.hAdd Int Int Int _ (Nat.cast (@List.length ChangeD (@MrgA.P x)) : Int) (Nat.cast (@HAdd.hAdd _ _ _ _ (@List.length ChangeD (@MrgA.P x)) (@HAdd.hAdd _ _ _ _ (@List.length ChangeD (@MrgA.U x)) (@List.length ChangeD (@MrgA.V x)))) : Int)))) (@HPow.hPow Int Nat Int _ (2 : Int) (@Min.min Nat _ (@Int.toNat (1 : Int)) (@Go.IntKind.bits Go.IntKind.u64))))) (Nat.cast (@List.length ChangeD (@MrgA.P x71)) : Int)) ∧
 ((@Eq Int (@Go.IntKind.wrap Go.IntKind.i64 (@HSub.hSub Int Int Int _ (@Go.IntKind.wrap Go.IntKind.i64 (@HAdd.hAdd Int Int Int _ (@Go.IntKind.wrap Go.IntKind.i64 (@Int.fdiv (@Go.IntKind.wrap Go.IntKind.u64 (@Go.IntKind.wrap Go.IntKind.i64 (@HAdd.hAdd Int Int Int _ (Nat.cast (@List.length ChangeD (@MrgA.P x)) : Int) (Nat.cast (@HAdd.hAdd _ _ _ _ (@List.length ChangeD (@MrgA.P x)) (@HAdd.hAdd _ _ _ _ (@List.length ChangeD (@MrgA.U x)) (@List.length ChangeD (@MrgA.V x)))) : Int)))) (@HPow.hPow Int Nat Int _ (2 : Int) (@Min.min Nat _ (@Int.toNat (1 : Int)) (@Go.IntKind.bits Go.IntKind.u64))))) (Nat.cast (@HAdd.hAdd _ _ _ _ (@List.length ChangeD (@MrgA.P x)) (@List.length ChangeD (@MrgA.U x))) : Int))) (Nat.cast (@TwoN.i x23) : Int))) (Nat.cast (@HAdd.hAdd _ _ _ _ (@List.length ChangeD (@MrgA.P x71)) (@List.length ChangeD (@MrgA.U x71))) : Int)) ∧
 ((@Eq Int (Nat.cast (@HAdd.hAdd _ _ _ _ (@List.length ChangeD (@MrgA.P x)) (@HAdd.hAdd _ _ _ _ (@List.length ChangeD (@MrgA.U x)) (@List.length ChangeD (@MrgA.V x)))) : Int) (Nat.cast (@HAdd.hAdd _ _ _ _ (@List.length ChangeD (@MrgA.P x71)) (@HAdd.hAdd _ _ _ _ (@List.length ChangeD (@MrgA.U x71)) (@List.length ChangeD (@MrgA.V x71)))) : Int)) ∧
 ((@Eq (@List ChangeD) (@MrgA.l x) (@MrgA.l x71)) ∧
 (((((@Ne (@List ChangeD) (@MrgA.U x71) (@List.nil ChangeD)) ∧
 (@Ne (@List ChangeD) (@MrgA.V x71) (@List.nil ChangeD))) ∧
 (@LE.le Nat _ (@List.length ChangeD (@MrgA.l x71)) (100000 : Nat))) ∧
 ((@srtC (@MrgA.U x71)) ∧
 ((@srtC (@MrgA.V x71)) ∧
 (@LT.lt Nat _ (@HAdd.hAdd _ _ _ _ (@List.length ChangeD (@MrgA.U x71)) (@List.length ChangeD (@MrgA.V x71))) n)))) ∧
 (∀ x72 : Unit,
 (True →
 (∃ x73 : Unit,
 ((@Eq (@List ChangeD) (@MrgA.r x71) (@MrgA.r x)) ∧
 True))))))))))))
 (∃ x74 : Unit,
 ((@Eq (@List ChangeD) (@MrgA.l x) (@MrgA.r x)) ∧
 True)))
 (∃ x75 : Unit,
 ((@Eq (@List ChangeD) (@MrgA.l x) (@MrgA.r x)) ∧
 True))))
 (br (@Decidable.decide (@LT.lt Int _ (@Go.IntKind.wrap Go.IntKind.i64 (@Int.fdiv (@Go.IntKind.wrap Go.IntKind.u64 (@Go.IntKind.wrap Go.IntKind.i64 (@HAdd.hAdd Int Int Int _ (Nat.cast (@List.length ChangeD (@MrgA.P x)) : Int) (Nat.cast (@HAdd.hAdd _ _ _ _ (@List.length ChangeD (@MrgA.P x)) (@HAdd.hAdd _ _ _ _ (@List.length ChangeD (@MrgA.U x)) (@List.length ChangeD (@MrgA.V x)))) : Int)))) (@HPow.hPow Int Nat Int _ (2 : Int) (@Min.min Nat _ (@Int.toNat (1 : Int)) (@Go.IntKind.bits Go.IntKind.u64))))) (@Go.IntKind.wrap Go.IntKind.i64 (@HSub.hSub Int Int Int _ (@Go.IntKind.wrap Go.IntKind.i64 (@HAdd.hAdd Int Int Int _ (@Go.IntKind.wrap Go.IntKind.i64 (@Int.fdiv (@Go.IntKind.wrap Go.IntKind.u64 (@Go.IntKind.wrap Go.IntKind.i64 (@HAdd.hAdd Int Int Int _ (Nat.cast (@List.length ChangeD (@MrgA.P x)) : Int) (Nat.cast (@HAdd.hAdd _ _ _ _ (@List.length ChangeD (@MrgA.P x)) (@HAdd.hAdd _ _ _ _ (@List.length ChangeD (@MrgA.U x)) (@List.length ChangeD (@MrgA.V x)))) : Int)))) (@HPow.hPow Int Nat Int _ (2 : Int) (@Min.min Nat _ (@Int.toNat (1 : Int)) (@Go.IntKind.bits Go.IntKind.u64))))) (Nat.cast (@HAdd.hAdd _ _ _ _ (@List.length ChangeD (@MrgA.P x)) (@List.length ChangeD (@MrgA.U x))) : Int))) (Nat.cast (@TwoN.i x23) : Int)))) _)
 (br (@Decidable.decide (@LT.lt Int _ (@Go.IntKind.wrap Go.IntKind.i64 (@HSub.hSub Int Int Int _ (@Go.IntKind.wrap Go.IntKind.i64 (@HAdd.hAdd Int Int Int _ (@Go.IntKind.wrap Go.IntKind.i64 (@Int.fdiv (@Go.IntKind.wrap Go.IntKind.u64 (@Go.IntKind.wrap Go.IntKind.i64 (@HAdd.hAdd Int Int Int _ (Nat.cast (@List.length ChangeD (@MrgA.P x)) : Int) (Nat.cast (@HAdd.hAdd _ _ _ _ (@List.length ChangeD (@MrgA.P x)) (@HAdd.hAdd _ _ _ _ (@List.length ChangeD (@MrgA.U x)) (@List.length ChangeD (@MrgA.V x)))) : Int)))) (@HPow.hPow Int Nat Int _ (2 : Int) (@Min.min Nat _ (@Int.toNat (1 : Int)) (@Go.IntKind.bits Go.IntKind.u64))))) (Nat.cast (@HAdd.hAdd _ _ _ _ (@List.length ChangeD (@MrgA.P x)) (@List.length ChangeD (@MrgA.U x))) : Int))) (Nat.cast (@TwoN.i x23) : Int))) (Nat.cast (@HAdd.hAdd _ _ _ _ (@List.length ChangeD (@MrgA.P x)) (@HAdd.hAdd _ _ _ _ (@List.length ChangeD (@MrgA.U x)) (@List.length ChangeD (@MrgA.V x)))) : Int)) _)
 (∃ x76 : MrgA,
 ((@Eq Nat (0 : Nat) (0 : Nat)) ∧
 ((@Eq Nat (@List.length ChangeD (@MrgA.l x)) (@List.length ChangeD (@MrgA.l x76))) ∧
 ((@Eq Int (@Go.IntKind.wrap Go.IntKind.i64 (@Int.fdiv (@Go.IntKind.wrap Go.IntKind.u64 (@Go.IntKind.wrap Go.IntKind.i64 (@HAdd.hAdd Int Int Int _ (Nat.cast (@List.length ChangeD (@MrgA.P x)) : Int) (Nat.cast (@HAdd.hAdd _ _ _ _ (@List.length ChangeD (@MrgA.P x)) (@HAdd.hAdd _ _ _ _ (@List.length ChangeD (@MrgA.U x)) (@List.length ChangeD (@MrgA.V x)))) : Int)))) (@HPow.hPow Int Nat Int _ (2 : Int) (@Min.min Nat _ (@Int.toNat (1 : Int)) (@Go.IntKind.bits Go.IntKind.u64))))) (Nat.cast (@List.length ChangeD (@MrgA.P x76)) : Int)) ∧
 ((@Eq Int (@Go.IntKind.wrap Go.IntKind.i64 (@HSub.hSub Int Int Int _ (@Go.IntKind.wrap Go.IntKind.i64 (@HAdd.hAdd Int Int Int _ (@Go.IntKind.wrap Go.IntKind.i64 (@Int.fdiv (@Go.IntKind.wrap Go.IntKind.u64 (@Go.IntKind.wrap Go.IntKind.i64 (@HAdd.hAdd Int Int Int _ (Nat.cast (@List.length ChangeD (@MrgA.P x)) : Int) (Nat.cast (@HAdd.hAdd _ _ _ _ (@List.length ChangeD (@MrgA.P x)) (@HAdd.hAdd _ _ _ _ (@List.length ChangeD (@MrgA.U x)) (@List.length ChangeD (@MrgA.V x)))) : Int)))) (@HPow.hPow Int Nat Int _ (2 : Int) (@Min.min Nat _ (@Int.toNat (1 : Int)) (@Go.IntKind.bits Go.IntKind.u64))))) (Nat.cast (@HAdd.hAdd _ _ _ _ (@List.length ChangeD (@MrgA.P x)) (@List.length ChangeD (@MrgA.U x))) : Int))) (Nat.cast (@TwoN.i x23) : Int))) (Nat.cast (@HAdd.hAdd _ _ _ _ (@List.length ChangeD (@MrgA.P x76)) (@List.length ChangeD (@MrgA.U x76))) : Int)) ∧
 ((@Eq Int (Nat.cast (@HAdd.hAdd _ _ _ _ (@List.length ChangeD (@MrgA.P x)) (@HAdd.hAdd _ _ _ _ (@List.length ChangeD (@MrgA.U x)) (@List.length ChangeD (@MrgA.V x)))) : Int) (Nat.cast (@HAdd.hAdd _ _ _ _ (@List.length ChangeD (@MrgA.P x76)) (@HAdd.hAdd _ _ _ _ (@List.length ChangeD (@MrgA.U x76)) (@List.length ChangeD (@MrgA.V x76)))) : Int)) ∧
 ((@Eq (@List ChangeD) (@MrgA.l x) (@MrgA.l x76)) ∧
 (((((@Ne (@List ChangeD) (@MrgA.U x76) (@List.nil ChangeD)) ∧
 (@Ne (@List ChangeD) (@MrgA.V x76) (@List.nil ChangeD))) ∧
 (@LE.le Nat _ (@List.length ChangeD (@MrgA.l x76)) (100000 : Nat))) ∧
 ((@srtC (@MrgA.U x76)) ∧
 ((@srtC (@MrgA.V x76)) ∧
 (@LT.lt Nat _ (@HAdd.hAdd _ _ _ _ (@List.length ChangeD (@MrgA.U x76)) (@List.length ChangeD (@MrgA.V x76))) n)))) ∧
 (∀ x77 : Unit,
 (True →
 (∃ x78 : Unit,
 ((@Eq (@List ChangeD) (@MrgA.r x76) (@MrgA.r x)) ∧
 True))))))))))))
 (∃ x79 : Unit,
 ((@Eq (@List ChangeD) (@MrgA.l x) (@MrgA.r x)) ∧
 True)))
 (∃ x80 : Unit,
 ((@Eq (@List ChangeD) (@MrgA.l x) (@MrgA.r x)) ∧
 True)))))))))
 ((∃ x81 : TwoN,
 ((@Eq Int (Nat.cast (@List.length ChangeD (@MrgA.P x)) : Int) (Nat.cast (@TwoN.i x81) : Int)) ∧
 ((@Eq Int (Nat.cast (@HAdd.hAdd _ _ _ _ (@List.length ChangeD (@MrgA.P x)) (@List.length ChangeD (@MrgA.U x))) : Int) (Nat.cast (@TwoN.j x81) : Int)) ∧
 (((@LE.le Nat _ (@Int.toNat (Nat.cast (@List.length ChangeD (@MrgA.P x)) : Int)) (@TwoN.i x81)) ∧
 ((@LE.le Nat _ (@TwoN.i x81) (@TwoN.j x81)) ∧
 (@LE.le Nat _ (@TwoN.j x81) (@Int.toNat (Nat.cast (@HAdd.hAdd _ _ _ _ (@List.length ChangeD (@MrgA.P x)) (@List.length ChangeD (@MrgA.U x))) : Int))))) ∧
 (((@LT.lt Nat _ (@Int.toNat (Nat.cast (@List.length ChangeD (@MrgA.P x)) : Int)) (@TwoN.i x81)) →
 (@Not (@LT.lt Int _ (@cmpC (@List.getD ChangeD (@MrgA.l x) (@HSub.hSub Nat Nat Nat _ (@Int.toNat (@Go.IntKind.wrap Go.IntKind.i64 (@HSub.hSub Int Int Int _ (@Go.IntKind.wrap Go.IntKind.i64 (@HAdd.hAdd Int Int Int _ (@Go.IntKind.wrap Go.IntKind.i64 (@Int.fdiv (@Go.IntKind.wrap Go.IntKind.u64 (@Go.IntKind.wrap Go.IntKind.i64 (@HAdd.hAdd Int Int Int _ (Nat.cast (@List.length ChangeD (@MrgA.P x)) : Int) (Nat.cast (@HAdd.hAdd _ _ _ _ (@List.length ChangeD (@MrgA.P x)) (@HAdd.hAdd _ _ _ _ (@List.length ChangeD (@MrgA.U x)) (@List.length ChangeD (@MrgA.V x)))) : Int)))) (@HPow.hPow Int Nat Int _ (2 : Int) (@Min.min Nat _ (@Int.toNat (1 : Int)) (@Go.IntKind.bits Go.IntKind.u64))))) (Nat.cast (@HAdd.hAdd _ _ _ _ (@List.length ChangeD (@MrgA.P x)) (@List.length ChangeD (@MrgA.U x))) : Int))) (1 : Int)))) (@HSub.hSub Nat Nat Nat _ (@TwoN.i x81) (1 : Nat))) (@ChangeD.mk (@List.nil UInt8) Bool.false (0 : Int))) (@List.getD ChangeD (@MrgA.l x) (@HSub.hSub Nat Nat Nat _ (@TwoN.i x81) (1 : Nat)) (@ChangeD.mk (@List.nil UInt8) Bool.false (0 : Int)))) (0 : Int)))) ∧
 ((@LT.lt Nat _ (@TwoN.j x81) (@Int.toNat (Nat.cast (@HAdd.hAdd _ _ _ _ (@List.length ChangeD (@MrgA.P x)) (@List.length ChangeD (@MrgA.U x))) : Int))) →
 (@LT.lt Int _ (@cmpC (@List.getD ChangeD (@MrgA.l x) (@HSub.hSub Nat Nat Nat _ (@Int.toNat (@Go.IntKind.wrap Go.IntKind.i64 (@HSub.hSub Int Int Int _ (@Go.IntKind.wrap Go.IntKind.i64 (@HAdd.hAdd Int Int Int _ (@Go.IntKind.wrap Go.IntKind.i64 (@Int.fdiv (@Go.IntKind.wrap Go.IntKind.u64 (@Go.IntKind.wrap Go.IntKind.i64 (@HAdd.hAdd Int Int Int _ (Nat.cast (@List.length ChangeD (@MrgA.P x)) : Int) (Nat.cast (@HAdd.hAdd _ _ _ _ (@List.length ChangeD (@MrgA.P x)) (@HAdd.hAdd _ _ _ _ (@List.length ChangeD (@MrgA.U x)) (@List.length ChangeD (@MrgA.V x)))) : Int)))) (@HPow.hPow Int Nat Int _ (2 : Int) (@Min.min Nat _ (@Int.toNat (1 : Int)) (@Go.IntKind.bits Go.IntKind.u64))))) (Nat.cast (@HAdd.hAdd _ _ _ _ (@List.length ChangeD (@MrgA.P x)) (@List.length ChangeD (@MrgA.U x))) : Int))) (1 : Int)))) (@TwoN.j x81)) (@ChangeD.mk (@List.nil UInt8) Bool.false (0 : Int))) (@List.getD ChangeD (@MrgA.l x) (@TwoN.j x81) (@ChangeD.mk (@List.nil UInt8) Bool.false (0 : Int)))) (0 : Int)))))))) ∧
 (∀ x82 : TwoN,
 ((((@LE.le Nat _ (@Int.toNat (Nat.cast (@List.length ChangeD (@MrgA.P x)) : Int)) (@TwoN.i x82)) ∧
 ((@LE.le Nat _ (@TwoN.i x82) (@TwoN.j x82)) ∧
 (@LE.le Nat _ (@TwoN.j x82) (@Int.toNat (Nat.cast (@HAdd.hAdd _ _ _ _ (@List.length ChangeD (@MrgA.P x)) (@List.length ChangeD (@MrgA.U x))) : Int))))) ∧
 (((@LT.lt Nat _ (@Int.toNat (Nat.cast (@List.length ChangeD (@MrgA.P x)) : Int)) (@TwoN.i x82)) →
 (@Not (@LT.lt Int _ (@cmpC (@List.getD ChangeD (@MrgA.l x) (@HSub.hSub Nat Nat Nat _ (@Int.toNat (@Go.IntKind.wrap Go.IntKind.i64 (@HSub.hSub Int Int Int _ (@Go.IntKind.wrap Go.IntKind.i64 (@HAdd.hAdd Int Int Int _ (@Go.IntKind.wrap Go.IntKind.i64 (@Int.fdiv (@Go.IntKind.wrap Go.IntKind.u64 (@Go.IntKind.wrap Go.IntKind.i64 (@HAdd.hAdd Int Int Int _ (Nat.cast (@List.length ChangeD (@MrgA.P x)) : Int) (Nat.cast (@HAdd.hAdd _ _ _ _ (@List.length ChangeD (@MrgA.P x)) (@HAdd.hAdd _ _ _ _ (@List.length ChangeD (@MrgA.U x)) (@List.length ChangeD (@MrgA.V x)))) : Int)))) (@HPow.hPow Int Nat Int _ (2 : Int) (@Min.min Nat _ (@Int.toNat (1 : Int)) (@Go.IntKind.bits Go.IntKind.u64))))) (Nat.cast (@HAdd.hAdd _ _ _ _ (@List.length ChangeD (@MrgA.P x)) (@List.length ChangeD (@MrgA.U x))) : Int))) (1 : Int)))) (@HSub.hSub Nat Nat Nat _ (@TwoN.i x82) (1 : Nat))) (@ChangeD.mk (@List.nil UInt8) Bool.false (0 : Int))) (@List.getD ChangeD (@MrgA.l x) (@HSub.hSub Nat Nat Nat _ (@TwoN.i x82) (1 : Nat)) (@ChangeD.mk (@List.nil UInt8) Bool.false (0 : Int)))) (0 : Int)))) ∧
 ((@LT.lt Nat _ (@TwoN.j x82) (@Int.toNat (Nat.cast (@HAdd.hAdd _ _ _ _ (@List.length ChangeD (@MrgA.P x)) (@List.length ChangeD (@MrgA.U x))) : Int))) →
 (@LT.lt Int _ (@cmpC (@List.getD ChangeD (@MrgA.l x) (@HSub.hSub Nat Nat Nat _ (@Int.toNat (@Go.IntKind.wrap Go.IntKind.i64 (@HSub.hSub Int Int Int _ (@Go.IntKind.wrap Go.IntKind.i64 (@HAdd.hAdd Int Int Int _ (@Go.IntKind.wrap Go.IntKind.i64 (@Int.fdiv (@Go.IntKind.wrap Go.IntKind.u64 (@Go.IntKind.wrap Go.IntKind.i64 (@HAdd.hAdd Int Int Int _ (Nat.cast (@List.length ChangeD (@MrgA.P x)) : Int) (Nat.cast (@HAdd.hAdd _ _ _ _ (@List.length ChangeD (@MrgA.P x)) (@HAdd.hAdd _ _ _ _ (@List.length ChangeD (@MrgA.U x)) (@List.length ChangeD (@MrgA.V x)))) : Int)))) (@HPow.hPow Int Nat Int _ (2 : Int) (@Min.min Nat _ (@Int.toNat (1 : Int)) (@Go.IntKind.bits Go.IntKind.u64))))) (Nat.cast (@HAdd.hAdd _ _ _ _ (@List.length ChangeD (@MrgA.P x)) (@List.length ChangeD (@MrgA.U x))) : Int))) (1 : Int)))) (@TwoN.j x82)) (@ChangeD.mk (@List.nil UInt8) Bool.false (0 : Int))) (@List.getD ChangeD (@MrgA.l x) (@TwoN.j x82) (@ChangeD.mk (@List.nil UInt8) Bool.false (0 : Int)))) (0 : Int))))) →
 (br (@Decidable.decide (@LT.lt Int _ (Nat.cast (@TwoN.i x82) : Int) (Nat.cast (@TwoN.j x82) : Int)) _)
 (br (@Decidable.decide ((@LE.le Int _ (0 : Int) (@Go.IntKind.wrap Go.IntKind.i64 (@HSub.hSub Int Int Int _ (@Go.IntKind.wrap Go.IntKind.i64 (@HSub.hSub Int Int Int _ (@Go.IntKind.wrap Go.IntKind.i64 (@HAdd.hAdd Int Int Int _ (@Go.IntKind.wrap Go.IntKind.i64 (@Int.fdiv (@Go.IntKind.wrap Go.IntKind.u64 (@Go.IntKind.wrap Go.IntKind.i64 (@HAdd.hAdd Int Int Int _ (Nat.cast (@List.length ChangeD (@MrgA.P x)) : Int) (Nat.cast (@HAdd.hAdd _ _ _ _ (@List.length ChangeD (@MrgA.P x)) (@HAdd.hAdd _ _ _ _ (@List.length ChangeD (@MrgA.U x)) (@List.length ChangeD (@MrgA.V x)))) : Int)))) (@HPow.hPow Int Nat Int _ (2 : Int) (@Min.min Nat _ (@Int.toNat (1 : Int)) (@Go.IntKind.bits Go.IntKind.u64))))) (Nat.cast (@HAdd.hAdd _ _ _ _ (@List.length ChangeD (@MrgA.P x)) (@List.length ChangeD (@MrgA.U x))) : Int))) (1 : Int))) (@Go.IntKind.wrap Go.IntKind.i64 (@Int.fdiv (@Go.IntKind.wrap Go.IntKind.u64 (@Go.IntKind.wrap Go.IntKind.i64 (@HAdd.hAdd Int Int Int _ (Nat.cast (@TwoN.i x82) : Int) (Nat.cast (@TwoN.j x82) : Int)))) (@HPow.hPow Int Nat Int _ (2 : Int) (@Min.min Nat _ (@Int.toNat (1 : Int)) (@Go.IntKind.bits Go.IntKind.u64)))))))) ∧
 (@LT.lt Int _ (@Go.IntKind.wrap Go.IntKind.i64 (@HSub.hSub Int Int Int _ (@Go.IntKind.wrap Go.IntKind.i64 (@HSub.hSub Int Int Int _ (@Go.IntKind.wrap Go.IntKind.i64 (@HAdd.hAdd Int Int Int _ (@Go.IntKind.wrap Go.IntKind.i64 (@Int.fdiv (@Go.IntKind.wrap Go.IntKind.u64 (@Go.IntKind.wrap Go.IntKind.i64 (@HAdd.hAdd Int Int Int _ (Nat.cast (@List.length ChangeD (@MrgA.P x)) : Int) (Nat.cast (@HAdd.hAdd _ _ _ _ (@List.length ChangeD (@MrgA.P x)) (@HAdd.hAdd _ _ _ _ (@List.length ChangeD (@MrgA.U x)) (@List.length ChangeD (@MrgA.V x)))) : Int)))) (@HPow.hPow Int Nat Int _ (2 : Int) (@Min.min Nat _ (@Int.toNat (1 : Int)) (@Go.IntKind.bits Go.IntKind.u64))))) (Nat.cast (@HAdd.hAdd _ _ _ _ (@List.length ChangeD (@MrgA.P x)) (@List.length ChangeD (@MrgA.U x))) : Int))) (1 : Int))) (@Go.IntKind.wrap Go.IntKind.i64 (@Int.fdiv (@Go.IntKind.wrap Go.IntKind.u64 (@Go.IntKind.wrap Go.IntKind.i64 (@HAdd.hAdd Int Int Int _ (Nat.cast (@TwoN.i x82) : Int) (Nat.cast (@TwoN.j x82) : Int)))) (@HPow.hPow Int Nat Int _ (2 : Int) (@Min.min Nat _ (@Int.toNat (1 : Int)) (@Go.IntKind.bits Go.IntKind.u64))))))) (Nat.cast (@List.length ChangeD (@MrgA.l x)) : Int))) _)
 (br (@Decidable.decide (@LT.lt Nat _ (@HAdd.hAdd _ _ _ _ (0 : Nat) (@Int.toNat (@Go.IntKind.wrap Go.IntKind.i64 (@HSub.hSub Int Int Int _ (@Go.IntKind.wrap Go.IntKind.i64 (@HSub.hSub Int Int Int _ (@Go.IntKind.wrap Go.IntKind.i64 (@HAdd.hAdd Int Int Int _ (@Go.IntKind.wrap Go.IntKind.i64 (@Int.fdiv (@Go.IntKind.wrap Go.IntKind.u64 (@Go.IntKind.wrap Go.IntKind.i64 (@HAdd.hAdd Int Int Int _ (Nat.cast (@List.length ChangeD (@MrgA.P x)) : Int) (Nat.cast (@HAdd.hAdd _ _ _ _ (@List.length ChangeD (@MrgA.P x)) (@HAdd.hAdd _ _ _ _ (@List.length ChangeD (@MrgA.U x)) (@List.length ChangeD (@MrgA.V x)))) : Int)))) (@HPow.hPow Int Nat Int _ (2 : Int) (@Min.min Nat _ (@Int.toNat (1 : Int)) (@Go.IntKind.bits Go.IntKind.u64))))) (Nat.cast (@HAdd.hAdd _ _ _ _ (@List.length ChangeD (@MrgA.P x)) (@List.length ChangeD (@MrgA.U x))) : Int))) (1 : Int))) (@Go.IntKind.wrap Go.IntKind.i64 (@Int.fdiv (@Go.IntKind.wrap Go.IntKind.u64 (@Go.IntKind.wrap Go.IntKind.i64 (@HAdd.hAdd Int Int Int _ (Nat.cast (@TwoN.i x82) : Int) (Nat.cast (@TwoN.j x82) : Int)))) (@HPow.hPow Int Nat Int _ (2 : Int) (@Min.min Nat _ (@Int.toNat (1 : Int)) (@Go.IntKind.bits Go.IntKind.u64))))))))) (@List.length ChangeD (@MrgA.l x))) _)
 (br (@Decidable.decide ((@LE.le Int _ (0 : Int) (@Go.IntKind.wrap Go.IntKind.i64 (@Int.fdiv (@Go.IntKind.wrap Go.IntKind.u64 (@Go.IntKind.wrap Go.IntKind.i64 (@HAdd.hAdd Int Int Int _ (Nat.cast (@TwoN.i x82) : Int) (Nat.cast (@TwoN.j x82) : Int)))) (@HPow.hPow Int Nat Int _ (2 : Int) (@Min.min Nat _ (@Int.toNat (1 : Int)) (@Go.IntKind.bits Go.IntKind.u64)))))) ∧
 (@LT.lt Int _ (@Go.IntKind.wrap Go.IntKind.i64 (@Int.fdiv (@Go.IntKind.wrap Go.IntKind.u64 (@Go.IntKind.wrap Go.IntKind.i64 (@HAdd.hAdd Int Int Int _ (Nat.cast (@TwoN.i x82) : Int) (Nat.cast (@TwoN.j x82) : Int)))) (@HPow.hPow Int Nat Int _ (2 : Int) (@Min.min Nat _ (@Int.toNat (1 : Int)) (@Go.IntKind.bits Go.IntKind.u64))))) (Nat.cast (@List.length ChangeD (@MrgA.l x)) : Int))) _)
 (br (@Decidable.decide (@LT.lt Nat _ (@HAdd.hAdd _ _ _ _ (0 : Nat) (@Int.toNat (@Go.IntKind.wrap Go.IntKind.i64 (@Int.fdiv (@Go.IntKind.wrap Go.IntKind.u64 (@Go.IntKind.wrap Go.IntKind.i64 (@HAdd.hAdd Int Int Int _ (Nat.cast (@TwoN.i x82) : Int) (Nat.cast (@TwoN.j x82) : Int)))) (@HPow.hPow Int Nat Int _ (2 : Int) (@Min.min Nat _ (@Int.toNat (1 : Int)) (@Go.IntKind.bits Go.IntKind.u64))))))) (@List.length ChangeD (@MrgA.l x))) _)
 (∃ x83 : TwoA,
 ((@Eq Bs (@ChangeD.path (@List.getD ChangeD (@MrgA.l x) (@HAdd.hAdd _ _ _ _ (0 : Nat) (@Int.toNat (@Go.IntKind.wrap Go.IntKind.i64 (@HSub.hSub Int Int Int _ (@Go.IntKind.wrap Go.IntKind.i64 (@HSub.hSub Int Int Int _ (@Go.IntKind.wrap Go.IntKind.i64 (@HAdd.hAdd Int Int Int _ (@Go.IntKind.wrap Go.IntKind.i64 (@Int.fdiv (@Go.IntKind.wrap Go.IntKind.u64 (@Go.IntKind.wrap Go.IntKind.i64 (@HAdd.hAdd Int Int Int _ (Nat.cast (@List.length ChangeD (@MrgA.P x)) : Int) (Nat.cast (@HAdd.hAdd _ _ _ _ (@List.length ChangeD (@MrgA.P x)) (@HAdd.hAdd _ _ _ _ (@List.length ChangeD (@MrgA.U x)) (@List.length ChangeD (@MrgA.V x)))) : Int)))) (@HPow.hPow Int Nat Int _ (2 : Int) (@Min.min Nat _ (@Int.toNat (1 : Int)) (@Go.IntKind.bits Go.IntKind.u64))))) (Nat.cast (@HAdd.hAdd _ _ _ _ (@List.length ChangeD (@MrgA.P x)) (@List.length ChangeD (@MrgA.U x))) : Int))) (1 : Int))) (@Go.IntKind.wrap Go.IntKind.i64 (@Int.fdiv (@Go.IntKind.wrap Go.IntKind.u64 (@Go.IntKind.wrap Go.IntKind.i64 (@HAdd.hAdd Int Int Int _ (Nat.cast (@TwoN.i x82) : Int) (Nat.cast (@TwoN.j x82) : Int)))) (@HPow.hPow Int Nat Int _ (2 : Int) (@Min.min Nat _ (@Int.toNat (1 : Int)) (@Go.IntKind.bits Go.IntKind.u64))))))))) (@ChangeD.mk (@List.nil UInt8) Bool.false (0 : Int)))) (@TwoA.a x83)) ∧
 ((@Eq Bs (@ChangeD.path (@List.getD ChangeD (@MrgA.l x) (@HAdd.hAdd _ _ _ _ (0 : Nat) (@Int.toNat (@Go.IntKind.wrap Go.IntKind.i64 (@Int.fdiv (@Go.IntKind.wrap Go.IntKind.u64 (@Go.IntKind.wrap Go.IntKind.i64 (@HAdd.hAdd Int Int Int _ (Nat.cast (@TwoN.i x82) : Int) (Nat.cast (@TwoN.j x82) : Int)))) (@HPow.hPow Int Nat Int _ (2 : Int) (@Min.min Nat _ (@Int.toNat (1 : Int)) (@Go.IntKind.bits Go.IntKind.u64))))))) (@ChangeD.mk (@List.nil UInt8) Bool.false (0 : Int)))) (@TwoA.b x83)) ∧
 (True ∧
 (∀ x84 : Unit,
 (True →
 (br (@Bool.not (@Decidable.decide (@LT.lt Int _ (@cmpL (@splitB (@TwoA.a x83)) (@splitB (@TwoA.b x83))) (0 : Int)) _))
 (∃ x85 : TwoN,
 ((@Eq Int (@Go.IntKind.wrap Go.IntKind.i64 (@HAdd.hAdd Int Int Int _ (@Go.IntKind.wrap Go.IntKind.i64 (@Int.fdiv (@Go.IntKind.wrap Go.IntKind.u64 (@Go.IntKind.wrap Go.IntKind.i64 (@HAdd.hAdd Int Int Int _ (Nat.cast (@TwoN.i x82) : Int) (Nat.cast (@TwoN.j x82) : Int)))) (@HPow.hPow Int Nat Int _ (2 : Int) (@Min.min Nat _ (@Int.toNat (1 : Int)) (@Go.IntKind.bits Go.IntKind.u64))))) (1 : Int))) (Nat.cast (@TwoN.i x85) : Int)) ∧
 ((@Eq Int (Nat.cast (@TwoN.j x82) : Int) (Nat.cast (@TwoN.j x85) : Int)) ∧
 ((((@LE.le Nat _ (@Int.toNat (Nat.cast (@List.length ChangeD (@MrgA.P x)) : Int)) (@TwoN.i x85)) ∧
 ((@LE.le Nat _ (@TwoN.i x85) (@TwoN.j x85)) ∧
 (@LE.le Nat _ (@TwoN.j x85) (@Int.toNat (Nat.cast (@HAdd.hAdd _ _ _ _ (@List.length ChangeD (@MrgA.P x)) (@List.length ChangeD (@MrgA.U x))) : Int))))) ∧
 (((@LT.lt Nat _ (@Int.toNat (Nat.cast (@List.length ChangeD (@MrgA.P x)) : Int)) (@TwoN.i x85)) →
 (@Not (@LT.lt Int _ (@cmpC (@List.getD ChangeD (@MrgA.l x) (@HSub.hSub Nat Nat Nat _ (@Int.toNat (@Go.IntKind.wrap Go.IntKind.i64 (@HSub.hSub Int Int Int _ (@Go.IntKind.wrap Go.IntKind.i64 (@HAdd.hAdd Int Int Int _ (@Go.IntKind.wrap Go.IntKind.i64 (@Int.fdiv (@Go.IntKind.wrap Go.IntKind.u64 (@Go.IntKind.wrap Go.IntKind.i64 (@HAdd.hAdd Int Int Int _ (Nat.cast (@List.length ChangeD (@MrgA.P x)) : Int) (Nat.cast (@HAdd.hAdd _ _ _ _ (@List.length ChangeD (@MrgA.P x)) (@HAdd.hAdd _ _ _ _ (@List.length ChangeD (@MrgA.U x)) (@List.length ChangeD (@MrgA.V x)))) : Int)))) (@HPow.hPow Int Nat Int _ (2 : Int) (@Min.min Nat _ (@Int.toNat (1 : Int)) (@Go.IntKind.bits Go.IntKind.u64))))) (Nat.cast (@HAdd.hAdd _ _ _ _ (@List.length ChangeD (@MrgA.P x)) (@List.length ChangeD (@MrgA.U x))) : Int))) (1 : Int)))) (@HSub.hSub Nat Nat Nat _ (@TwoN.i x85) (1 : Nat))) (@ChangeD.mk (@List.nil UInt8) Bool.false (0 : Int))) (@List.getD ChangeD (@MrgA.l x) (@HSub.hSub Nat Nat Nat _ (@TwoN.i x85) (1 : Nat)) (@ChangeD.mk (@List.nil UInt8) Bool.false (0 : Int)))) (0 : Int)))) ∧
 ((@LT.lt Nat _ (@TwoN.j x85) (@Int.toNat (Nat.cast (@HAdd.hAdd _ _ _ _ (@List.length ChangeD (@MrgA.P x)) (@List.length ChangeD (@MrgA.U x))) : Int))) →
 (@LT.lt Int _ (@cmpC (@List.getD ChangeD (@MrgA.l x) (@HSub.hSub Nat Nat Nat _ (@Int.toNat (@Go.IntKind.wrap Go.IntKind.i64 (@HSub.hSub Int Int Int _ (@Go.IntKind.wrap Go.IntKind.i64 (@HAdd.hAdd Int Int Int _ (@Go.IntKind.wrap Go.IntKind.i64 (@Int.fdiv (@Go.IntKind.wrap Go.IntKind.u64 (@Go.IntKind.wrap Go.IntKind.i64 (@HAdd.hAdd Int Int Int _ (Nat.cast (@List.length ChangeD (@MrgA.P x)) : Int) (Nat.cast (@HAdd.hAdd _ _ _ _ (@List.length ChangeD (@MrgA.P x)) (@HAdd.hAdd _ _ _ _ (@List.length ChangeD (@MrgA.U x)) (@List.length ChangeD (@MrgA.V x)))) : Int)))) (@HPow.hPow Int Nat Int _ (2 : Int) (@Min.min Nat _ (@Int.toNat (1 : Int)) (@Go.IntKind.bits Go.IntKind.u64))))) (Nat.cast (@HAdd.hAdd _ _ _ _ (@List.length ChangeD (@MrgA.P x)) (@List.length ChangeD (@MrgA.U x))) : Int))) (1 : Int)))) (@TwoN.j x85)) (@ChangeD.mk (@List.nil UInt8) Bool.false (0 : Int))) (@List.getD ChangeD (@MrgA.l x) (@TwoN.j x85) (@ChangeD.mk (@List.nil UInt8) Bool.false (0 : Int)))) (0 : Int))))) ∧
 (@LT.lt Nat _ (@Nat.sub (@TwoN.j x85) (@TwoN.i x85)) (@Nat.sub (@TwoN.j x82) (@TwoN.i x82)))))))
 (∃ x86 : TwoN,
 ((@Eq Int (Nat.cast (@TwoN.i x82) : Int) (Nat.cast (@TwoN.i x86) : Int)) ∧
 ((@Eq Int (@Go.IntKind.wrap Go.IntKind.i64 (@Int.fdiv (@Go.IntKind.wrap Go.IntKind.u64 (@Go.IntKind.wrap Go.IntKind.i64 (@HAdd.hAdd Int Int Int _ (Nat.cast (@TwoN.i x82) : Int) (Nat.cast (@TwoN.j x82) : Int)))) (@HPow.hPow Int Nat Int _ (2 : Int) (@Min.min Nat _ (@Int.toNat (1 : Int)) (@Go.IntKind.bits Go.IntKind.u64))))) (Nat.cast (@TwoN.j x86) : Int)) ∧
 ((((@LE.le Nat _ (@Int.toNat (Nat.cast (@List.length ChangeD (@MrgA.P x)) : Int)) (@TwoN.i x86)) ∧
 ((@LE.le Nat _ (@TwoN.i x86) (@TwoN.j x86)) ∧
 (@LE.le Nat _ (@TwoN.j x86) (@Int.toNat (Nat.cast (@HAdd.hAdd _ _ _ _ (@List.length ChangeD (@MrgA.P x)) (@List.length ChangeD (@MrgA.U x))) : Int))))) ∧
 (((@LT.lt Nat _ (@Int.toNat (Nat.cast (@List.length ChangeD (@MrgA.P x)) : Int)) (@TwoN.i x86)) →
 (@Not (@LT.lt Int _ (@cmpC (@List.getD ChangeD (@MrgA.l x) (@HSub.hSub Nat Nat Nat _ (@Int.toNat (@Go.IntKind.wrap Go.IntKind.i64 (@HSub.hSub Int Int Int _ (@Go.IntKind.wrap Go.IntKind.i64 (@HAdd.hAdd Int Int Int _ (@Go.IntKind.wrap Go.IntKind.i64 (@Int.fdiv (@Go.IntKind.wrap Go.IntKind.u64 (@Go.IntKind.wrap Go.IntKind.i64 (@HAdd.hAdd Int Int Int _ (Nat.cast (@List.length ChangeD (@MrgA.P x)) : Int) (Nat.cast (@HAdd.hAdd _ _ _ _ (@List.length ChangeD (@MrgA.P x)) (@HAdd.hAdd _ _ _ _ (@List.length ChangeD (@MrgA.U x)) (@List.length ChangeD (@MrgA.V x)))) : Int)))) (@HPow.hPow Int Nat Int _ (2 : Int) (@Min.min Nat _ (@Int.toNat (1 : Int)) (@Go.IntKind.bits Go.IntKind.u64))))) (Nat.cast (@HAdd.hAdd _ _ _ _ (@List.length ChangeD (@MrgA.P x)) (@List.length ChangeD (@MrgA.U x))) : Int))) (1 : Int)))) (@HSub.hSub Nat Nat Nat _ (@TwoN.i x86) (1 : Nat))) (@ChangeD.mk (@List.nil UInt8) Bool.false (0 : Int))) (@List.getD ChangeD (@MrgA.l x) (@HSub.hSub Nat Nat Nat _ (@TwoN.i x86) (1 : Nat)) (@ChangeD.mk (@List.nil UInt8) Bool.false (0 : Int)))) (0 : Int)))) ∧
 ((@LT.lt Nat _ (@TwoN.j x86) (@Int.toNat (Nat.cast (@HAdd.hAdd _ _ _ _ (@List.length ChangeD (@MrgA.P x)) (@List.length ChangeD (@MrgA.U x))) : Int))) →
 (@LT.lt Int _ (@cmpC (@List.getD ChangeD (@MrgA.l x) (@HSub.hSub Nat Nat Nat _ (@Int.toNat (@Go.IntKind.wrap Go.IntKind.i64 (@HSub.hSub Int Int Int _ (@Go.IntKind.wrap Go.IntKind.i64 (@HAdd.hAdd Int Int Int _ (@Go.IntKind.wrap Go.IntKind.i64 (@Int.fdiv (@Go.IntKind.wrap Go.IntKind.u64 (@Go.IntKind.wrap Go.IntKind.i64 (@HAdd.hAdd Int Int Int _ (Nat.cast (@List.length ChangeD (@MrgA.P x)) : Int) (Nat.cast (@HAdd.hAdd _ _ _ _ (@List.length ChangeD (@MrgA.P x)) (@HAdd.hAdd _ _ _ _ (@List.length ChangeD (@MrgA.U x)) (@List.length ChangeD (@MrgA.V x)))) : Int)))) (@HPow.hPow Int Nat Int _ (2 : Int) (@Min.min Nat _ (@Int.toNat (1 : Int)) (@Go.IntKind.bits Go.IntKind.u64))))) (Nat.cast (@HAdd.hAdd _ _ _ _ (@List.length ChangeD (@MrgA.P x)) (@List.length ChangeD (@MrgA.U x))) : Int))) (1 : Int)))) (@TwoN.j x86)) (@ChangeD.mk (@List.nil UInt8) Bool.false (0 : Int))) (@List.getD ChangeD (@MrgA.l x) (@TwoN.j x86) (@ChangeD.mk (@List.nil UInt8) Bool.false (0 : Int)))) (0 : Int))))) ∧
 (@LT.lt Nat _ (@Nat.sub (@TwoN.j x86) (@TwoN.i x86)) (@Nat.sub (@TwoN.j x82) (@TwoN.i x82))))))))))))))
 (Bad "check" "zsortanyfunc.go:441"))
 (Bad "check" "zsortanyfunc.go:441"))
 (Bad "check" "zsortanyfunc.go:441"))
 (Bad "check" "zsortanyfunc.go:441"))
 (br (@Decidable.decide (@LT.lt Int _ (Nat.cast (@TwoN.i x82) : Int) (Nat.cast (@HAdd.hAdd _ _ _ _ (@List.length ChangeD (@MrgA.P x)) (@List.length ChangeD (@MrgA.U x))) : Int)) _)
 (br (@Decidable.decide (@LT.lt Int _ (Nat.cast (@HAdd.hAdd _ _ _ _ (@List.length ChangeD (@MrgA.P x)) (@List.length ChangeD (@MrgA.U x))) : Int) (@Go.IntKind.wrap Go.IntKind.i64 (@HSub.hSub Int Int Int _ (@Go.IntKind.wrap Go.IntKind.i64 (@HAdd.hAdd Int Int Int _ (@Go.IntKind.wrap Go.IntKind.i64 (@Int.fdiv (@Go.IntKind.wrap Go.IntKind.u64 (@Go.IntKind.wrap Go.IntKind.i64 (@HAdd.hAdd Int Int Int _ (Nat.cast (@List.length ChangeD (@MrgA.P x)) : Int) (Nat.cast (@HAdd.hAdd _ _ _ _ (@List.length ChangeD (@MrgA.P x)) (@HAdd.hAdd _ _ _ _ (@List.length ChangeD (@MrgA.U x)) (@List.length ChangeD (@MrgA.V x)))) : Int)))) (@HPow.hPow Int Nat Int _ (2 : Int) (@Min.min Nat _ (@Int.toNat (1 : Int)) (@Go.IntKind.bits Go.IntKind.u64))))) (Nat.cast (@HAdd.hAdd _ _ _ _ (@List.length ChangeD (@MrgA.P x)) (@List.length ChangeD (@MrgA.U x))) : Int))) (Nat.cast (@TwoN.i x82) : Int)))) _)
 (∃ x87 : RotA,
 ((@Eq Nat (0 : Nat) (0 : Nat)) ∧
 ((@Eq Nat (@List.length ChangeD (@MrgA.l x)) (@List.length ChangeD (@RotA.l x87))) ∧
 ((@Eq Int (Nat.cast (@TwoN.i x82) : Int) (Nat.cast (@List.length ChangeD (@RotA.P x87)) : Int)) ∧
 ((@Eq Int (Nat.cast (@HAdd.hAdd _ _ _ _ (@List.length ChangeD (@MrgA.P x)) (@List.length ChangeD (@MrgA.U x))) : Int) (Nat.cast (@HAdd.hAdd _ _ _ _ (@List.length ChangeD (@RotA.P x87)) (@List.length ChangeD (@RotA.U x87))) : Int)) ∧
 ((@Eq Int (@Go.IntKind.wrap Go.IntKind.i64 (@HSub.hSub Int Int Int _ (@Go.IntKind.wrap Go.IntKind.i64 (@HAdd.hAdd Int Int Int _ (@Go.IntKind.wrap Go.IntKind.i64 (@Int.fdiv (@Go.IntKind.wrap Go.IntKind.u64 (@Go.IntKind.wrap Go.IntKind.i64 (@HAdd.hAdd Int Int Int _ (Nat.cast (@List.length ChangeD (@MrgA.P x)) : Int) (Nat.cast (@HAdd.hAdd _ _ _ _ (@List.length ChangeD (@MrgA.P x)) (@HAdd.hAdd _ _ _ _ (@List.length ChangeD (@MrgA.U x)) (@List.length ChangeD (@MrgA.V x)))) : Int)))) (@HPow.hPow Int Nat Int _ (2 : Int) (@Min.min Nat _ (@Int.toNat (1 : Int)) (@Go.IntKind.bits Go.IntKind.u64))))) (Nat.cast (@HAdd.hAdd _ _ _ _ (@List.length ChangeD (@MrgA.P x)) (@List.length ChangeD (@MrgA.U x))) : Int))) (Nat.cast (@TwoN.i x82) : Int))) (Nat.cast (@HAdd.hAdd _ _ _ _ (@List.length ChangeD (@RotA.P x87)) (@HAdd.hAdd _ _ _ _ (@List.length ChangeD (@RotA.U x87)) (@List.length ChangeD (@RotA.V x87)))) : Int)) ∧
 ((@Eq (@List ChangeD) (@MrgA.l x) (@RotA.l x87)) ∧
 ((((@Ne (@List ChangeD) (@RotA.U x87) (@List.nil ChangeD)) ∧
 (@Ne (@List ChangeD) (@RotA.V x87) (@List.nil ChangeD))) ∧
 (@LE.le Nat _ (@List.length ChangeD (@RotA.l x87)) (100000 : Nat))) ∧
 (∀ x88 : Unit,
 (True →
 (br (@Decidable.decide (@LT.lt Int _ (Nat.cast (@List.length ChangeD (@MrgA.P x)) : Int) (Nat.cast (@TwoN.i x82) : Int)) _)
 (br (@Decidable.decide (@LT.lt Int _ (Nat.cast (@TwoN.i x82) : Int) (@Go.IntKind.wrap Go.IntKind.i64 (@Int.fdiv (@Go.IntKind.wrap Go.IntKind.u64 (@Go.IntKind.wrap Go.IntKind.i64 (@HAdd.hAdd Int Int Int _ (Nat.cast (@List.length ChangeD (@MrgA.P x)) : Int) (Nat.cast (@HAdd.hAdd _ _ _ _ (@List.length ChangeD (@MrgA.P x)) (@HAdd.hAdd _ _ _ _ (@List.length ChangeD (@MrgA.U x)) (@List.length ChangeD (@MrgA.V x)))) : Int)))) (@HPow.hPow Int Nat Int _ (2 : Int) (@Min.min Nat _ (@Int.toNat (1 : Int)) (@Go.IntKind.bits Go.IntKind.u64)))))) _)
 (∃ x89 : MrgA,
 ((@Eq Nat (0 : Nat) (0 : Nat)) ∧
 ((@Eq Nat (@List.length ChangeD (@MrgA.l x)) (@List.length ChangeD (@MrgA.l x89))) ∧
 ((@Eq Int (Nat.cast (@List.length ChangeD (@MrgA.P x)) : Int) (Nat.cast (@List.length ChangeD (@MrgA.P x89)) : Int)) ∧
 ((@Eq Int (Nat.cast (@TwoN.i x82) : Int) (Nat.cast (@HAdd.hAdd _ _ _ _ (@List.length ChangeD (@MrgA.P x89)) (@List.length ChangeD (@MrgA.U x89))) : Int)) ∧
 ((@Eq Int (@Go.IntKind.wrap Go.IntKind.i64 (@Int.fdiv (@Go.IntKind.wrap Go.IntKind.u64 (@Go.IntKind.wrap Go.IntKind.i64 (@HAdd.hAdd Int Int Int _ (Nat.cast (@List.length ChangeD (@MrgA.P x)) : Int) (Nat.cast (@HAdd.hAdd _ _ _ _ (@List.length ChangeD (@MrgA.P x)) (@HAdd.hAdd _ _ _ _ (@List.length ChangeD (@MrgA.U x)) (@List.length ChangeD (@MrgA.V x)))) : Int)))) (@HPow.hPow Int Nat Int _ (2 : Int) (@Min.min Nat _ (@Int.toNat (1 : Int)) (@Go.IntKind.bits Go.IntKind.u64))))) (Nat.cast (@HAdd.hAdd _ _ _ _ (@List.length ChangeD (@MrgA.P x89)) (@HAdd.hAdd _ _ _ _ (@List.length ChangeD (@MrgA.U x89)) (@List.length ChangeD (@MrgA.V x89)))) : Int)) ∧
 ((@Eq (@List ChangeD) (@RotA.r x87) (@MrgA.l x89)) ∧
 (((((@Ne (@List ChangeD) (@MrgA.U x89) (@List.nil ChangeD)) ∧
 (@Ne (@List ChangeD) (@MrgA.V x89) (@List.nil ChangeD))) ∧
 (@LE.le Nat _ (@List.length ChangeD (@MrgA.l x89)) (100000 : Nat))) ∧
 ((@srtC (@MrgA.U x89)) ∧
 ((@srtC (@MrgA.V x89)) ∧
 (@LT.lt Nat _ (@HAdd.hAdd _ _ _ _ (@List.length ChangeD (@MrgA.U x89)) (@List.length ChangeD (@MrgA.V x89))) n)))) ∧
 (∀ x90 : Unit,
 (True →
 (br (@Decidable.decide (@LT.lt Int _ (@Go.IntKind.wrap Go.IntKind.i64 (@Int.fdiv (@Go.IntKind.wrap Go.IntKind.u64 (@Go.IntKind.wrap Go.IntKind.i64 (@HAdd.hAdd Int Int Int _ (Nat.cast (@List.length ChangeD (@MrgA.P x)) : Int) (Nat.cast (@HAdd.hAdd _ _ _ _ (@List.length ChangeD (@MrgA.P x)) (@HAdd.hAdd _ _ _ _ (@List.length ChangeD (@MrgA.U x)) (@List.length ChangeD (@MrgA.V x)))) : Int)))) (@HPow.hPow Int Nat Int _ (2 : Int) (@Min.min Nat _ (@Int.toNat (1 : Int)) (@Go.IntKind.bits Go.IntKind.u64))))) (@Go.IntKind.wrap Go.IntKind.i64 (@HSub.hSub Int Int Int _ (@Go.IntKind.wrap Go.IntKind.i64 (@HAdd.hAdd Int Int Int _ (@Go.IntKind.wrap Go.IntKind.i64 (@Int.fdiv (@Go.IntKind.wrap Go.IntKind.u64 (@Go.IntKind.wrap Go.IntKind.i64 (@HAdd.hAdd Int Int Int _ (Nat.cast (@List.length ChangeD (@MrgA.P x)) : Int) (Nat.cast (@HAdd.hAdd _ _ _ _ (@List.length ChangeD (@MrgA.P x)) (@HAdd.hAdd _ _ _ _ (@List.length ChangeD (@MrgA.U x)) (@List.length ChangeD (@MrgA.V x)))) : Int)))) (@HPow.hPow Int Nat Int _ (2 : Int) (@Min.min Nat _ (@Int.toNat (1 : Int)) (@Go.IntKind.bits Go.IntKind.u64))))) (Nat.cast (@HAdd.hAdd _ _ _ _ (@List.length ChangeD (@MrgA.P x)) (@List.length ChangeD (@MrgA.U x))) : Int))) (Nat.cast (@TwoN.i x82) : Int)))) _)
 (br (@Decidable.decide (@LT.lt Int _ (@Go.IntKind.wrap Go.IntKind.i64 (@HSub.hSub Int Int Int _ (@Go.IntKind.wrap Go.IntKind.i64 (@HAdd.hAdd Int Int Int _ (@Go.IntKind.wrap Go.IntKind.i64 (@Int.fdiv (@Go.IntKind.wrap Go.IntKind.u64 (@Go.IntKind.wrap Go.IntKind.i64 (@HAdd.hAdd Int Int Int _ (Nat.cast (@List.length ChangeD (@MrgA.P x)) : Int) (Nat.cast (@HAdd.hAdd _ _ _ _ (@List.length ChangeD (@MrgA.P x)) (@HAdd.hAdd _ _ _ _ (@List.length ChangeD (@MrgA.U x)) (@List.length ChangeD (@MrgA.V x)))) : Int)))) (@HPow.hPow Int Nat Int _ (2 : Int) (@Min.min Nat _ (@Int.toNat (1 : Int)) (@Go.IntKind.bits Go.IntKind.u64))))) (Nat.cast (@HAdd.hAdd _ _ _ _ (@List.length ChangeD (@MrgA.P x)) (@List.length ChangeD (@MrgA.U x))) : Int))) (Nat.cast (@TwoN.i x82) : Int))) (Nat.cast (@HAdd.hAdd _ _ _ _ (@List.length ChangeD (@MrgA.P x)) (@HAdd.hAdd _ _ _ _ (@List.length ChangeD (@MrgA.U x)) (@List.length ChangeD (@MrgA.V x)))) : Int)) _)
 (∃ x91 : MrgA,
 ((@Eq Nat (0 : Nat) (0 : Nat)) ∧
 ((@Eq Nat (@List.length ChangeD (@MrgA.l x)) (@List.length ChangeD (@MrgA.l x91))) ∧
 ((@Eq Int (@Go.IntKind.wrap Go.IntKind.i64 (@Int.fdiv (@Go.IntKind.wrap Go.IntKind.u64 (@Go.IntKind.wrap Go.IntKind.i64 (@HAdd.hAdd Int Int Int _ (Nat.cast (@List.length ChangeD (@MrgA.P x)) : Int) (Nat.cast (@HAdd.hAdd _ _ _ _ (@List.length ChangeD (@MrgA.P x)) (@HAdd.hAdd _ _ _ _ (@List.length ChangeD (@MrgA.U x)) (@List.length ChangeD (@MrgA.V x)))) : Int)))) (@HPow.hPow Int Nat Int _ (2 : Int) (@Min.min Nat _ (@Int.toNat (1 : Int)) (@Go.IntKind.bits Go.IntKind.u64))))) (Nat.cast (@List.length ChangeD (@MrgA.P x91)) : Int)) ∧
 ((@Eq Int (@Go.IntKind.wrap Go.IntKind.i64 (@HSub.hSub Int Int Int _ (@Go.IntKind.wrap Go.IntKind.i64 (@HAdd.hAdd Int Int Int _ (@Go.IntKind.wrap Go.IntKind.i64 (@Int.fdiv (@Go.IntKind.wrap Go.IntKind.u64 (@Go.IntKind.wrap Go.IntKind.i64 (@HAdd.hAdd Int Int Int _ (Nat.cast (@List.length ChangeD (@MrgA.P x)) : Int) (Nat.cast (@HAdd.hAdd _ _ _ _ (@List.length ChangeD (@MrgA.P x)) (@HAdd.hAdd _ _ _ _ (@List.length ChangeD (@MrgA.U x)) (@List.length ChangeD (@MrgA.V x)))) : Int)))) (@HPow.hPow Int Nat Int _ (2 : Int) (@Min.min Nat _ (@Int.toNat (1 : Int)) (@Go.IntKind.bits Go.IntKind.u64))))) (Nat.cast (@HAdd.hAdd _ _ _ _ (@List.length ChangeD (@MrgA.P x)) (@List.length ChangeD (@MrgA.U x))) : Int))) (Nat.cast (@TwoN.i x82) : Int))) (Nat.cast (@HAdd.hAdd _ _ _ _ (@List.length ChangeD (@MrgA.P x91)) (@List.length ChangeD (@MrgA.U x91))) : Int)) ∧
 ((@Eq Int (Nat.cast (@HAdd.hAdd _ _ _ _ (@List.length ChangeD (@MrgA.P x)) (@HAdd.hAdd _ _ _ _ (@List.length ChangeD (@MrgA.U x)) (@List.length ChangeD (@MrgA.V x)))) : Int) (Nat.cast (@HAdd.hAdd _ _ _ _ (@List.length ChangeD (@MrgA.P x91)) (@HAdd.hAdd _ _ _ _ (@List.length ChangeD (@MrgA.U x91)) (@List.length ChangeD (@MrgA.V x91)))) : Int)) ∧
 ((@Eq (@List ChangeD) (@MrgA.r x89) (@MrgA.l x91)) ∧
 (((((@Ne (@List ChangeD) (@MrgA.U x91) (@List.nil ChangeD)) ∧
 (@Ne (@List ChangeD) (@MrgA.V x91) (@List.nil ChangeD))) ∧
 (@LE.le Nat _ (@List.length ChangeD (@MrgA.l x91)) (100000 : Nat))) ∧
 ((@srtC (@MrgA.U x91)) ∧
 ((@srtC (@MrgA.V x91)) ∧
 (@LT.lt Nat _ (@HAdd.hAdd _ _ _ _ (@List.length ChangeD (@MrgA.U x91)) (@List.length ChangeD (@MrgA.V x91))) n)))) ∧
 (∀ x92 : Unit,
 (True →
 (∃ x93 : Unit,
 ((@Eq (@List ChangeD) (@MrgA.r x91) (@MrgA.r x)) ∧
 True))))))))))))
 (∃ x94 : Unit,
 ((@Eq (@List ChangeD) (@MrgA.r x89) (@MrgA.r x)) ∧
 True)))
 (∃ x95 : Unit,
 ((@Eq (@List ChangeD) (@MrgA.r x89) (@MrgA.r x)) ∧
 True)))))))))))))
 (br (@Decidable.decide (@LT.lt Int _ (@Go.IntKind.wrap Go.IntKind.i64 (@Int.fdiv (@Go.IntKind.wrap Go.IntKind.u64 (@Go.IntKind.wrap Go.IntKind.i64 (@HAdd.hAdd Int Int Int _ (Nat.cast (@List.length ChangeD (@MrgA.P x)) : Int) (Nat.cast (@HAdd.hAdd _ _ _ _ (@List.length ChangeD (@MrgA.P x)) (@HAdd.hAdd _ _ _ _ (@List.length ChangeD (@MrgA.U x)) (@List.length ChangeD (@MrgA.V x)))) : Int)))) (@HPow.hPow Int Nat Int _ (2 : Int) (@Min.min Nat _ (@Int.toNat (1 : Int)) (@Go.IntKind.bits Go.IntKind.u64))))) (@Go.IntKind.wrap Go.IntKind.i64 (@HSub.hSub Int Int Int _ (@Go.IntKind.wrap Go.IntKind.i64 (@HAdd.hAdd Int Int Int _ (@Go.IntKind.wrap Go.IntKind.i64 (@Int.fdiv (@Go.IntKind.wrap Go.IntKind.u64 (@Go.IntKind.wrap Go.IntKind.i64 (@HAdd.hAdd Int Int Int _ (Nat.cast (@List.length ChangeD (@MrgA.P x)) : Int) (Nat.cast (@HAdd.hAdd _ _ _ _ (@List.length ChangeD (@MrgA.P x)) (@HAdd.hAdd _ _ _ _ (@List.length ChangeD (@MrgA.U x)) (@List.length ChangeD (@MrgA.V x)))) : Int)))) (@HPow.hPow Int Nat Int _ (2 : Int) (@Min.min Nat _ (@Int.toNat (1 : Int)) (@Go.IntKind.bits Go.IntKind.u64))))) (Nat.cast (@HAdd.hAdd _ _ _ _ (@List.length ChangeD (@MrgA.P x)) (@List.length ChangeD (@MrgA.U x))) : Int))) (Nat.cast (@TwoN.i x82) : Int)))) _)
 (br (@Decidable.decide (@LT.lt Int _ (@Go.IntKind.wrap Go.IntKind.i64 (@HSub.hSub Int Int Int _ (@Go.IntKind.wrap Go.IntKind.i64 (@HAdd.hAdd Int Int Int _ (@Go.IntKind.wrap Go.IntKind.i64 (@Int.fdiv (@Go.IntKind.wrap Go.IntKind.u64 (@Go.IntKind.wrap Go.IntKind.i64 (@HAdd.hAdd Int Int Int _ (Nat.cast (@List.length ChangeD (@MrgA.P x)) : Int) (Nat.cast (@HAdd.hAdd _ _ _ _ (@List.length ChangeD (@MrgA.P x)) (@HAdd.hAdd _ _ _ _ (@List.length ChangeD (@MrgA.U x)) (@List.length ChangeD (@MrgA.V x)))) : Int)))) (@HPow.hPow Int Nat Int _ (2 : Int) (@Min.min Nat _ (@Int.toNat (1 : Int)) (@Go.IntKind.bits Go.IntKind.u64))))) (Nat.cast (@HAdd.hAdd _ _ _ _ (@List.length ChangeD (@MrgA.P x)) (@List.length ChangeD (@MrgA.U x))) : Int))) (Nat.cast (@TwoN.i x82) : Int))) (Nat.cast (@HAdd.hAdd _ _ _ _ (@List.length ChangeD (@MrgA.P x)) (@HAdd.hAdd _ _ _ _ (@List.length ChangeD (@MrgA.U x)) (@List.length ChangeD (@MrgA.V x)))) : Int)) _)
 (∃ x96 : MrgA,
 ((@Eq Nat (0 : Nat) (0 : Nat)) ∧
 ((@Eq Nat (@List.length ChangeD (@MrgA.l x)) (@List.length ChangeD (@MrgA.l x96))) ∧
 ((@Eq Int (@Go.IntKind.wrap Go.IntKind.i64 (@Int.fdiv (@Go.IntKind.wrap Go.IntKind.u64 (@Go.IntKind.wrap Go.IntKind.i64 (@HAdd.hAdd Int Int Int _ (Nat.cast (@List.length ChangeD (@MrgA.P x)) : Int) (Nat.cast (@HAdd.hAdd _ _ _ _ (@List.length ChangeD (@MrgA.P x)) (@HAdd.hAdd _ _ _ _ (@List.length ChangeD (@MrgA.U x)) (@List.length ChangeD (@MrgA.V x)))) : Int)))) (@HPow.hPow Int Nat Int _ (2 : Int) (@Min.min Nat _ (@Int.toNat (1 : Int)) (@Go.IntKind.bits Go.IntKind.u64))))) (Nat.cast (@List.length ChangeD (@MrgA.P x96)) : Int)) ∧
 ((@Eq Int (@Go.IntKind.wrap Go.IntKind.i64 (@HSub.hSub Int Int Int _ (@Go.IntKind.wrap Go.IntKind.i64 (@HAdd.hAdd Int Int Int _ (@Go.IntKind.wrap Go.IntKind.i64 (@Int.fdiv (@Go.IntKind.wrap Go.IntKind.u64 (@Go.IntKind.wrap Go.IntKind.i64 (@HAdd.hAdd Int Int Int _ (Nat.cast (@List.length ChangeD (@MrgA.P x)) : Int) (Nat.cast (@HAdd.hAdd _ _ _ _ (@List.length ChangeD (@MrgA.P x)) (@HAdd.hAdd _ _ _ _ (@List.length ChangeD (@MrgA.U x)) (@List.length ChangeD (@MrgA.V x)))) : Int)))) (@HPow.hPow Int Nat Int _ (2 : Int) (@Min.min Nat _ (@Int.toNat (1 : Int)) (@Go.IntKind.bits Go.IntKind.u64))))) (Nat.cast (@HAdd.hAdd _ _ _ _ (@List.length ChangeD (@MrgA.P x)) (@List.length ChangeD (@MrgA.U x))) : Int))) (Nat.cast (@TwoN.i x82) : Int))) (Nat.cast (@HAdd.hAdd _ _ _ _ (@List.length ChangeD (@MrgA.P x96)) (@List.length ChangeD (@MrgA.U x96))) : Int)) ∧
 ((@Eq Int (Nat.cast (@HAdd.hAdd _ _ _ _ (@List.length ChangeD (@MrgA.P x)) (@HAdd.hAdd _ _ _ _ (@List.length ChangeD (@MrgA.U x)) (@List.length ChangeD (@MrgA.V x)))) : Int) (Nat.cast (@HAdd.hAdd _ _ _ _ (@List.length ChangeD (@MrgA.P x96)) (@HAdd.hAdd _ _ _ _ (@List.length ChangeD (@MrgA.U x96)) (@List.length ChangeD (@MrgA.V x96)))) : Int)) ∧
 ((@Eq (@List ChangeD) (@RotA.r x87) (@MrgA.l x96)) ∧
 (((((@Ne (@List ChangeD) (@MrgA.U x96) (@List.nil ChangeD)) ∧
 (@Ne (@List ChangeD) (@MrgA.V x96) (@List.nil ChangeD))) ∧
 (@LE.le Nat _ (@List.length ChangeD (@MrgA.l x96)) (100000 : Nat))) ∧
 ((@srtC (@MrgA.U x96)) ∧
 ((@srtC (@MrgA.V x96)) ∧
 (@LT.lt Nat _ (@HAdd.hAdd _ _ _ _ (@List.length ChangeD (@MrgA.U x96)) (@List.length ChangeD (@MrgA.V x96))) n)))) ∧
 (∀ x97 : Unit,
 (True →
 (∃ x98 : Unit,
 ((@Eq (@List ChangeD) (@MrgA.r x96) (@MrgA.r x)) ∧
 True))))))))))))
 (∃ x99 : Unit,
 ((@Eq (@List ChangeD) (@RotA.r x87) (@MrgA.r x)) ∧
 True)))
 (∃ x100 : Unit,
 ((@Eq (@List ChangeD) (@RotA.r x87) (@MrgA.r x)) ∧
 True))))
 (br (@Decidable.decide (@LT.lt Int _ (@Go.IntKind.wrap Go.IntKind.i64 (@Int.fdiv (@Go.IntKind.wrap Go.IntKind.u64 (@Go.IntKind.wrap Go.IntKind.i64 (@HAdd.hAdd Int Int Int _ (Nat.cast (@List.length ChangeD (@MrgA.P x)) : Int) (Nat.cast (@HAdd.hAdd _ _ _ _ (@List.length ChangeD (@MrgA.P x)) (@HAdd.hAdd _ _ _ _ (@List.length ChangeD (@MrgA.U x)) (@List.length ChangeD (@MrgA.V x)))) : Int)))) (@HPow.hPow Int Nat Int _ (2 : Int) (@Min.min Nat _ (@Int.toNat (1 : Int)) (@Go.IntKind.bits Go.IntKind.u64))))) (@Go.IntKind.wrap Go.IntKind.i64 (@HSub.hSub Int Int Int _ (@Go.IntKind.wrap Go.IntKind.i64 (@HAdd.hAdd Int Int Int _ (@Go.IntKind.wrap Go.IntKind.i64 (@Int.fdiv (@Go.IntKind.wrap Go.IntKind.u64 (@Go.IntKind.wrap Go.IntKind.i64 (@HAdd.hAdd Int Int Int _ (Nat.cast (@List.length ChangeD (@MrgA.P x)) : Int) (Nat.cast (@HAdd.hAdd _ _ _ _ (@List.length ChangeD (@MrgA.P x)) (@HAdd.hAdd _ _ _ _ (@List.length ChangeD (@MrgA.U x)) (@List.length ChangeD (@MrgA.V x)))) : Int)))) (@HPow.hPow Int Nat Int _ (2 : Int) (@Min.min Nat _ (@Int.toNat (1 : Int)) (@Go.IntKind.bits Go.IntKind.u64))))) (Nat.cast (@HAdd.hAdd _ _ _ _ (@List.length ChangeD (@MrgA.P x)) (@List.length ChangeD (@MrgA.U x))) : Int))) (Nat.cast (@TwoN.i x82) : Int)))) _)
 (br (@Decidable.decide (@LT.lt Int _ (@Go.IntKind.wrap Go.IntKind.i64 (@HSub.hSub Int Int Int _ (@Go.IntKind.wrap Go.IntKind.i64 (@HAdd.hAdd Int Int Int _ (@Go.IntKind.wrap Go.IntKind.i64 (@Int.fdiv (@Go.IntKind.wrap Go.IntKind.u64 (@Go.IntKind.wrap Go.IntKind.i64 (@HAdd.hAdd Int Int Int _ (Nat.cast (@List.length ChangeD (@MrgA.P x)) : Int) (Nat.cast (@HAdd.hAdd _ _ _ _ (@List.length ChangeD (@MrgA.P x)) (@HAdd.hAdd _ _ _ _ (@List.length ChangeD (@MrgA.U x)) (@List.length ChangeD (@MrgA.V x)))) : Int)))) (@HPow.hPow Int Nat Int _ (2 : Int) (@Min.min Nat _ (@Int.toNat (1 : Int)) (@Go.IntKind.bits Go.IntKind.u64))))) (Nat.cast (@HAdd.hAdd _ _ _ _ (@List.length ChangeD (@MrgA.P x)) (@List.length ChangeD (@MrgA.U x))) : Int))) (Nat.cast (@TwoN.i x82) : Int))) (Nat.cast (@HAdd.hAdd _ _ _ _ (@List.length ChangeD (@MrgA.P x)) (@HAdd.hAdd _ _ _ _ (@List.length ChangeD (@MrgA.U x)) (@List.length ChangeD (@MrgA.V x)))) : Int)) _)
 (∃ x101 : MrgA,
 ((@Eq Nat (0 : Nat) (0 : Nat)) ∧
 ((@Eq Nat (@List.length ChangeD (@MrgA.l x)) (@List.length ChangeD (@MrgA.l x101))) ∧
 ((@Eq Int (@Go.IntKind.wrap Go.IntKind.i64 (@Int.fdiv (@Go.IntKind.wrap Go.IntKind.u64 (@Go.IntKind.wrap Go.IntKind.i64 (@HAdd.hAdd Int Int Int _ (Nat.cast (@List.length ChangeD (@MrgA.P x)) : Int) (Nat.cast (@HAdd.hAdd _ _ _ _ (@List.length ChangeD (@MrgA.P x)) (@HAdd.hAdd _ _ _ _ (@List.length ChangeD (@MrgA.U x)) (@List.length ChangeD (@MrgA.V x)))) : Int)))) (@HPow.hPow Int Nat Int _ (2 : Int) (@Min.min Nat _ (@Int.toNat (1 : Int)) (@Go.IntKind.bits Go.IntKind.u64))))) (Nat.cast (@List.length ChangeD (@MrgA.P x101)) : Int)) ∧
 ((@Eq Int (@Go.IntKind.wrap Go.IntKind.i64 (@HSub.hSub Int Int Int _ (@Go.IntKind.wrap Go.IntKind.i64 (@HAdd.hAdd Int Int Int _ (@Go.IntKind.wrap Go.IntKind.i64 (@Int.fdiv (@Go.IntKind.wrap Go.IntKind.u64 (@Go.IntKind.wrap Go.IntKind.i64 (@HAdd.hAdd Int Int Int _ (Nat.cast (@List.length ChangeD (@MrgA.P x)) : Int) (Nat.cast (@HAdd.hAdd _ _ _ _ (@List.length ChangeD (@MrgA.P x)) (@HAdd.hAdd _ _ _ _ (@List.length ChangeD (@MrgA.U x)) (@List.length ChangeD (@MrgA.V x)))) : Int)))) (@HPow.hPow Int Nat Int _ (2 : Int) (@Min.min Nat _ (@Int.toNat (1 : Int)) (@Go.IntKind.bits Go.IntKind.u64))))) (Nat.cast (@HAdd.hAdd _ _ _ _ (@List.length ChangeD (@MrgA.P x)) (@List.length ChangeD (@MrgA.U x))) : Int))) (Nat.cast (@TwoN.i x82) : Int))) (Nat.cast (@HAdd.hAdd _ _ _ _ (@List.length ChangeD (@MrgA.P x101)) (@List.length ChangeD (@MrgA.U x101))) : Int)) ∧
 ((@Eq Int (Nat.cast (@HAdd.hAdd _ _ _ _ (@List.length ChangeD (@MrgA.P x)) (@HAdd.hAdd _ _ _ _ (@List.length ChangeD (@MrgA.U x)) (@List.length ChangeD (@MrgA.V x)))) : Int) (Nat.cast (@HAdd.hAdd _ _ _ _ (@List.length ChangeD (@MrgA.P x101)) (@HAdd.hAdd _ _ _ _ (@List.length ChangeD (@MrgA.U x101)) (@List.length ChangeD (@MrgA.V x101)))) : Int)) ∧
 ((@Eq (@List ChangeD) (@RotA.r x87) (@MrgA.l x101)) ∧
 (((((@Ne (@List ChangeD) (@MrgA.U x101) (@List.nil ChangeD)) ∧
 (@Ne (@List ChangeD) (@MrgA.V x101) (@List.nil ChangeD))) ∧
 (@LE.le Nat _ (@List.length ChangeD (@MrgA.l x101)) (100000 : Nat))) ∧
 ((@srtC (@MrgA.U x101)) ∧
 ((@srtC (@MrgA.V x101)) ∧
 (@LT.lt Nat _ (@HAdd.hAdd _ _ _ _ (@List.length ChangeD (@MrgA.U x101)) (@List.length ChangeD (@MrgA.V x101))) n)))) ∧
 (∀ x102 : Unit,
 (True →
 (∃ x103 : Unit,
 ((@Eq (@List ChangeD) (@MrgA.r x101) (@MrgA.r x)) ∧
 True))))))))))))
 (∃ x104 : Unit,
 ((@Eq (@List ChangeD) (@RotA.r x87) (@MrgA.r x)) ∧
 True)))
 (∃ x105 : Unit,
 ((@Eq (@List ChangeD) (@RotA.r x87) (@MrgA.r x)) ∧
 True))))))))))))))
 (br (@Decidable.decide (@LT.lt Int _ (Nat.cast (@List.length ChangeD (@MrgA.P x)) : Int) (Nat.cast (@TwoN.i x82) : Int)) _)
 (br (@Decidable.decide (@LT.lt Int _ (Nat.cast (@TwoN.i x82) : Int) (@Go.IntKind.wrap Go.IntKind.i64 (@Int.fdiv (@Go.IntKind.wrap Go.IntKind.u64 (@Go.IntKind.wrap Go.IntKind.i64 (@HAdd.hAdd Int Int Int _ (Nat.cast (@List.length ChangeD (@MrgA.P x)) : Int) (Nat.cast (@HAdd.hAdd _ _ _ _ (@List.length ChangeD (@MrgA.P x)) (@HAdd.hAdd _ _ _ _ (@List.length ChangeD (@MrgA.U x)) (@List.length ChangeD (@MrgA.V x)))) : Int)))) (@HPow.hPow Int Nat Int _ (2 : Int) (@Min.min Nat _ (@Int.toNat (1 : Int)) (@Go.IntKind.bits Go.IntKind.u64)))))) _)
 (∃ x106 : MrgA,
 ((@Eq Nat (0 : Nat) (0 : Nat)) ∧
 ((@Eq Nat (@List.length ChangeD (@MrgA.l x)) (@List.length ChangeD (@MrgA.l x106))) ∧
 ((@Eq Int (Nat.cast (@List.length ChangeD (@MrgA.P x)) : Int) (Nat.cast (@List.length ChangeD (@MrgA.P x106)) : Int)) ∧
 ((@Eq Int (Nat.cast (@TwoN.i x82) : Int) (Nat.cast (@HAdd.hAdd _ _ _ _ (@List.length ChangeD (@MrgA.P x106)) (@List.length ChangeD (@MrgA.U x106))) : Int)) ∧
 ((@Eq Int (@Go.IntKind.wrap Go.IntKind.i64 (@Int.fdiv (@Go.IntKind.wrap Go.IntKind.u64 (@Go.IntKind.wrap Go.IntKind.i64 (@HAdd.hAdd Int Int Int _ (Nat.cast (@List.length ChangeD (@MrgA.P x)) : Int) (Nat.cast (@HAdd.hAdd _ _ _ _ (@List.length ChangeD (@MrgA.P x)) (@HAdd.hAdd _ _ _ _ (@List.length ChangeD (@MrgA.U x)) (@List.length ChangeD (@MrgA.V x)))) : Int)))) (@HPow.hPow Int Nat Int _ (2 : Int) (@Min.min Nat _ (@Int.toNat (1 : Int)) (@Go.IntKind.bits Go.IntKind.u64))))) (Nat.cast (@HAdd.hAdd _ _ _ _ (@List.length ChangeD (@MrgA.P x106)) (@HAdd.hAdd _ _ _ _ (@List.length ChangeD (@MrgA.U x106)) (@List.length ChangeD (@MrgA.V x106)))) : Int)) ∧
 ((@Eq (@List ChangeD) (@MrgA.l x) (@MrgA.l x106)) ∧
 (((((@Ne (@List ChangeD) (@MrgA.U x106) (@List.nil ChangeD)) ∧
 (@Ne (@List ChangeD) (@MrgA.V x106) (@List.nil ChangeD))) ∧
 (@LE.le Nat _ (@List.length ChangeD (@MrgA.l x106)) (100000 : Nat))) ∧
 ((@srtC (@MrgA.U x106)) ∧
 ((@srtC (@MrgA.V x106)) ∧
 (@LT.lt Nat _ (@HAdd.hAdd _ _ _ _ (@List.length ChangeD (@MrgA.U x106)) (@List.length ChangeD (@MrgA.V x106))) n)))) ∧
 (∀ x107 : Unit,
 (True →
 (br (@Decidable.decide (@LT.lt Int _ (@Go.IntKind.wrap Go.IntKind.i64 (@Int.fdiv (@Go.IntKind.wrap Go.IntKind.u64 (@Go.IntKind.wrap Go.IntKind.i64 (@HAdd.hAdd Int Int Int _ (Nat.cast (@List.length ChangeD (@MrgA.P x)) : Int) (Nat.cast (@HAdd.hAdd _ _ _ _ (@List.length ChangeD (@MrgA.P x)) (@HAdd.hAdd _ _ _ _ (@List.length ChangeD (@MrgA.U x)) (@List.length ChangeD (@MrgA.V x)))) : Int)))) (@HPow.hPow Int Nat Int _ (2 : Int) (@Min.min Nat _ (@Int.toNat (1 : Int)) (@Go.IntKind.bits Go.IntKind.u64))))) (@Go.IntKind.wrap Go.IntKind.i64 (@HSub.hSub Int Int Int _ (@Go.IntKind.wrap Go.IntKind.i64 (@HAdd.hAdd Int Int Int _ (@Go.IntKind.wrap Go.IntKind.i64 (@Int.fdiv (@Go.IntKind.wrap Go.IntKind.u64 (@Go.IntKind.wrap Go.IntKind.i64 (@HAdd.hAdd Int Int Int _ (Nat.cast (@List.length ChangeD (@MrgA.P x)) : Int) (Nat.cast (@HAdd.hAdd _ _ _ _ (@List.length ChangeD (@MrgA.P x)) (@HAdd.hAdd _ _ _ _ (@List.length ChangeD (@MrgA.U x)) (@List.length ChangeD (@MrgA.V x)))) : Int)))) (@HPow.hPow Int Nat Int _ (2 : Int) (@Min.min Nat _ (@Int.toNat (1 : Int)) (@Go.IntKind.bits Go.IntKind.u64))))) (Nat.cast (@HAdd.hAdd _ _ _ _ (@List.length ChangeD (@MrgA.P x)) (@List.length ChangeD (@MrgA.U x))) : Int))) (Nat.cast (@TwoN.i x82) : Int)))) _)
 (br (@Decidable.decide (@LT.lt Int _ (@Go.IntKind.wrap Go.IntKind.i64 (@HSub.hSub Int Int Int _ (@Go.IntKind.wrap Go.IntKind.i64 (@HAdd.hAdd Int Int Int _ (@Go.IntKind.wrap Go.IntKind.i64 (@Int.fdiv (@Go.IntKind.wrap Go.IntKind.u64 (@Go.IntKind.wrap Go.IntKind.i64 (@HAdd.hAdd Int Int Int _ (Nat.cast (@List.length ChangeD (@MrgA.P x)) : Int) (Nat.cast (@HAdd.hAdd _ _ _ _ (@List.length ChangeD (@MrgA.P x)) (@HAdd.hAdd _ _ _ _ (@List.length ChangeD (@MrgA.U x)) (@List.length ChangeD (@MrgA.V x)))) : Int)))) (@HPow.hPow Int Nat Int _ (2 : Int) (@Min.min Nat _ (@Int.toNat (1 : Int)) (@Go.IntKind.bits Go.IntKind.u64))))) (Nat.cast (@HAdd.hAdd _ _ _ _ (@List.length ChangeD (@MrgA.P x)) (@List.length ChangeD (@MrgA.U x))) : Int))) (Nat.cast (@TwoN.i x82) : Int))) (Nat.cast (@HAdd.hAdd _ _ _ _ (@List.length ChangeD (@MrgA.P x)) (@HAdd.hAdd _ _ _ _ (@List.length ChangeD (@MrgA.U x)) (@List.length ChangeD (@MrgA.V x)))) : Int)) _)
 (∃ x108 : MrgA,
 ((@Eq Nat (0 : Nat) (0 : Nat)) ∧
 ((@Eq Nat (@List.length ChangeD (@MrgA.l x)) (@List.length ChangeD (@MrgA.l x108))) ∧
 ((@Eq Int (@Go.IntKind.wrap Go.IntKind.i64 (@Int.fdiv (@Go.IntKind.wrap Go.IntKind.u64 (@Go.IntKind.wrap Go.IntKind.i64 (@HAdd.hAdd Int Int Int _ (Nat.cast (@List.length ChangeD (@MrgA.P x)) : Int) (Nat.cast (@HAdd.hAdd _ _ _ _ (@List.length ChangeD (@MrgA.P x)) (@HAdd.hAdd _ _ _ _ (@List.length ChangeD (@MrgA.U x)) (@List.length ChangeD (@MrgA.V x)))) : Int)))) (@HPow.hPow Int Nat Int _ (2 : Int) (@Min.min Nat _ (@Int.toNat (1 : Int)) (@Go.IntKind.bits Go.IntKind.u64))))) (Nat.cast (@List.length ChangeD (@MrgA.P x108)) : Int)) ∧
 ((@Eq Int (@Go.IntKind.wrap Go.IntKind.i64 (@HSub.hSub Int Int Int _ (@Go.IntKind.wrap Go.IntKind.i64 (@HAdd.hAdd Int Int Int _ (@Go.IntKind.wrap Go.IntKind.i64 (@Int.fdiv (@Go.IntKind.wrap Go.IntKind.u64 (@Go.IntKind.wrap Go.IntKind.i64 (@HAdd.hAdd Int Int Int _ (Nat.cast (@List.length ChangeD (@MrgA.P x)) : Int) (Nat.cast (@HAdd.hAdd _ _ _ _ (@List.length ChangeD (@MrgA.P x)) (@HAdd.hAdd _ _ _ _ (@List.length ChangeD (@MrgA.U x)) (@List.length ChangeD (@MrgA.V x)))) : Int)))) (@HPow.hPow Int Nat Int _ (2 : Int) (@Min.min Nat _ (@Int.toNat (1 : Int)) (@Go.IntKind.bits Go.IntKind.u64))))) (Nat.cast (@HAdd.hAdd _ _ _ _ (@List.length ChangeD (@MrgA.P x)) (@List.length ChangeD (@MrgA.U x))) : Int))) (Nat.cast (@TwoN.i x82) : Int))) (Nat.cast (@HAdd.hAdd _ _ _ _ (@List.length ChangeD (@MrgA.P x108)) (@List.length ChangeD (@MrgA.U x108))) : Int)) ∧
 ((@Eq Int (Nat.cast (@HAdd.hAdd _ _ _ _ (@List.length ChangeD (@MrgA.P x)) (@HAdd.hAdd _ _ _ _ (@List.length ChangeD (@MrgA.U x)) (@List.length ChangeD (@MrgA.V x)))) : Int) (Nat.cast (@HAdd.hAdd _ _ _ _ (@List.length ChangeD (@MrgA.P x108)) (@HAdd.hAdd _ _ _ _ (@List.length ChangeD (@MrgA.U x108)) (@List.length ChangeD (@MrgA.V x108)))) : Int)) ∧
 ((@Eq (@List ChangeD) (@MrgA.r x106) (@MrgA.l x108)) ∧
 (((((@Ne (@List ChangeD) (@MrgA.U x108) (@List.nil ChangeD)) ∧
 (@Ne (@List ChangeD) (@MrgA.V x108) (@List.nil ChangeD))) ∧
 (@LE.le Nat _ (@List.length ChangeD (@MrgA.l x108)) (100000 : Nat))) ∧
 ((@srtC (@MrgA.U x108)) ∧
 ((@srtC (@MrgA.V x108)) ∧
 (@LT.lt Nat _ (@HAdd.hAdd _ _ _ _ (@List.length ChangeD (@MrgA.U x108)) (@List.length ChangeD (@MrgA.V x108))) n)))) ∧
 (∀ x109 : Unit,
 (True →
 (∃ x110 : Unit,
 ((@Eq (@List ChangeD) (@MrgA.r x108) (@MrgA.r x)) ∧
 True))))))))))))
 (∃ x111 : Unit,
 ((@Eq (@List ChangeD) (@MrgA.r x106) (@MrgA.r x)) ∧
 True)))
 (∃ x112 : Unit,
 ((@Eq (@List ChangeD) (@MrgA.r x106) (@MrgA.r x)) ∧
 True)))))))))))))
 (br (@Decidable.decide (@LT.lt Int _ (@Go.IntKind.wrap Go.IntKind.i64 (@Int.fdiv (@Go.IntKind.wrap Go.IntKind.u64 (@Go.IntKind.wrap Go.IntKind.i64 (@HAdd.hAdd Int Int Int _ (Nat.cast (@List.length ChangeD (@MrgA.P x)) : Int) (Nat.cast (@HAdd.hAdd _ _ _ _ (@List.length ChangeD (@MrgA.P x)) (@HAdd.hAdd _ _ _ _ (@List.length ChangeD (@MrgA.U x)) (@List.length ChangeD (@MrgA.V x)))) : Int)))) (@HPow.hPow Int Nat Int _ (2 : Int) (@Min.min Nat _ (@Int.toNat (1 : Int)) (@Go.IntKind.bits Go.IntKind.u64))))) (@Go.IntKind.wrap Go.IntKind.i64 (@HSub.hSub Int Int Int _ (@Go.IntKind.wrap Go.IntKind.i64 (@HAdd.hAdd Int Int Int _ (@Go.IntKind.wrap Go.IntKind.i64 (@Int.fdiv (@Go.IntKind.wrap Go.IntKind.u64 (@Go.IntKind.wrap Go.IntKind.i64 (@HAdd.hAdd Int Int Int _ (Nat.cast (@List.length ChangeD (@MrgA.P x)) : Int) (Nat.cast (@HAdd.hAdd _ _ _ _ (@List.length ChangeD (@MrgA.P x)) (@HAdd.hAdd _ _ _ _ (@List.length ChangeD (@MrgA.U x)) (@List.length ChangeD (@MrgA.V x)))) : Int)))) (@HPow.hPow Int Nat Int _ (2 : Int) (@Min.min Nat _ (@Int.toNat (1 : Int)) (@Go.IntKind.bits Go.IntKind.u64))))) (Nat.cast (@HAdd.hAdd _ _ _ _ (@List.length ChangeD (@MrgA.P x)) (@List.length ChangeD (@MrgA.U x))) : Int))) (Nat.cast (@TwoN.i x82) : Int)))) _)
 (br (@Decidable.decide (@LT.lt Int _ (@Go.IntKind.wrap Go.IntKind.i64 (@HSub.hSub Int Int Int _ (@Go.IntKind.wrap Go.IntKind.i64 (@HAdd.hAdd Int Int Int _ (@Go.IntKind.wrap Go.IntKind.i64 (@Int.fdiv (@Go.IntKind.wrap Go.IntKind.u64 (@Go.IntKind.wrap Go.IntKind.i64 (@HAdd.hAdd Int Int Int _ (Nat.cast (@List.length ChangeD (@MrgA.P x)) : Int) (Nat.cast (@HAdd.hAdd _ _ _ _ (@List.length ChangeD (@MrgA.P x)) (@HAdd.hAdd _ _ _ _ (@List.length ChangeD (@MrgA.U x)) (@List.length ChangeD (@MrgA.V x)))) : Int)))) (@HPow.hPow Int Nat Int _ (2 : Int) (@Min.min Nat _ (@Int.toNat (1 : Int)) (@Go.IntKind.bits Go.IntKind.u64))))) (Nat.cast (@HAdd.hAdd _ _ _ _ (@List.length ChangeD (@MrgA.P x)) (@List.length ChangeD (@MrgA.U x))) : Int))) (Nat.cast (@TwoN.i x82) : Int))) (Nat.cast (@HAdd.hAdd _ _ _ _ (@List.length ChangeD (@MrgA.P x)) (@HAdd.hAdd _ _ _ _ (@List.length ChangeD (@MrgA.U x)) (@List.length ChangeD (@MrgA.V x)))) : Int)) _)
 (∃ x113 : MrgA,
 ((@Eq Nat (0 : Nat) (0 : Nat)) ∧
 ((@Eq Nat (@List.length ChangeD (@MrgA.l x)) (@List.length ChangeD (@MrgA.l x113))) ∧
 ((@Eq Int (@Go.IntKind.wrap Go.IntKind.i64 (@Int.fdiv (@Go.IntKind.wrap Go.IntKind.u64 (@Go.IntKind.wrap Go.IntKind.i64 (@HAdd.hAdd Int Int Int _ (Nat.cast (@List.length ChangeD (@MrgA.P x)) : Int) (Nat.cast (@HAdd.hAdd _ _ _ _ (@List.length ChangeD (@MrgA.P x)) (@HAdd.hAdd _ _ _ _ (@List.length ChangeD (@MrgA.U x)) (@List.length ChangeD (@MrgA.V x)))) : Int)))) (@HPow.hPow Int Nat Int _ (2 : Int) (@Min.min Nat _ (@Int.toNat (1 : Int)) (@Go.IntKind.bits Go.IntKind.u64))))) (Nat.cast (@List.length ChangeD (@MrgA.P x113)) : Int)) ∧
 ((@Eq Int (@Go.IntKind.wrap Go.IntKind.i64 (@HSub.hSub Int Int Int _ (@Go.IntKind.wrap Go.IntKind.i64 (@HAdd.hAdd Int Int Int _ (@Go.IntKind.wrap Go.IntKind.i64 (@Int.fdiv (@Go.IntKind.wrap Go.IntKind.u64 (@Go.IntKind.wrap Go.IntKind.i64 (@HAdd.hAdd Int Int Int _ (Nat.cast (@List.length ChangeD (@MrgA.P x)) : Int) (Nat.cast (@HAdd.hAdd _ _ _ _ (@List.length ChangeD (@MrgA.P x)) (@HAdd.hAdd _ _ _ _ (@List.length ChangeD (@MrgA.U x)) (@List.length ChangeD (@MrgA.V x)))) : Int)))) (@HPow.hPow Int Nat Int _ (2 : Int) (@Min.min Nat _ (@Int.toNat (1 : Int)) (@Go.IntKind.bits Go.IntKind.u64))))) (Nat.cast (@HAdd.hAdd _ _ _ _ (@List.length ChangeD (@MrgA.P x)) (@List.length ChangeD (@MrgA.U x))) : Int))) (Nat.cast (@TwoN.i x82) : Int))) (Nat.cast (@HAdd.hAdd _ _ _ _ (@List.length ChangeD (@MrgA.P x113)) (@List.length ChangeD (@MrgA.U x113))) : Int)) ∧
 ((@Eq Int (Nat.cast (@HAdd.hAdd _ _ _ _ (@List.length ChangeD (@MrgA.P x)) (@HAdd.hAdd _ _ _ _ (@List.length ChangeD (@MrgA.U x)) (@List.length ChangeD (@MrgA.V x)))) : Int) (Nat.cast (@HAdd.hAdd _ _ _ _ (@List.length ChangeD (@MrgA.P x113)) (@HAdd.hAdd _ _ _ _ (@List.length ChangeD (@MrgA.U x113)) (@List.length ChangeD (@MrgA.V x113)))) : Int)) ∧
 ((@Eq (@List ChangeD) (@MrgA.l x) (@MrgA.l x113)) ∧
 (((((@Ne (@List ChangeD) (@MrgA.U x113) (@List.nil ChangeD)) ∧
 (@Ne (@List ChangeD) (@MrgA.V x113) (@List.nil ChangeD))) ∧
 (@LE.le Nat _ (@List.length ChangeD (@MrgA.l x113)) (100000 : Nat))) ∧
 ((@srtC (@MrgA.U x113)) ∧
 ((@srtC (@MrgA.V x113)) ∧
 (@LT.lt Nat _ (@HAdd.hAdd _ _ _ _ (@List.length ChangeD (@MrgA.U x113)) (@List.length ChangeD (@MrgA.V x113))) n)))) ∧
 (∀ x114 : Unit,
 (True →
 (∃ x115 : Unit,
 ((@Eq (@List ChangeD) (@MrgA.r x113) (@MrgA.r x)) ∧
 True))))))))))))
 (∃ x116 : Unit,
 ((@Eq (@List ChangeD) (@MrgA.l x) (@MrgA.r x)) ∧
 True)))
 (∃ x117 : Unit,
 ((@Eq (@List ChangeD) (@MrgA.l x) (@MrgA.r x)) ∧
 True))))
 (br (@Decidable.decide (@LT.lt Int _ (@Go.IntKind.wrap Go.IntKind.i64 (@Int.fdiv (@Go.IntKind.wrap Go.IntKind.u64 (@Go.IntKind.wrap Go.IntKind.i64 (@HAdd.hAdd Int Int Int _ (Nat.cast (@List.length ChangeD (@MrgA.P x)) : Int) (Nat.cast (@HAdd.hAdd _ _ _ _ (@List.length ChangeD (@MrgA.P x)) (@HAdd.hAdd _ _ _ _ (@List.length ChangeD (@MrgA.U x)) (@List.length ChangeD (@MrgA.V x)))) : Int)))) (@HPow.hPow Int Nat Int _ (2 : Int) (@Min.min Nat _ (@Int.toNat (1 : Int)) (@Go.IntKind.bits Go.IntKind.u64))))) (@Go.IntKind.wrap Go.IntKind.i64 (@HSub.hSub Int Int Int _ (@Go.IntKind.wrap Go.IntKind.i64 (@HAdd.hAdd Int Int Int _ (@Go.IntKind.wrap Go.IntKind.i64 (@Int.fdiv (@Go.IntKind.wrap Go.IntKind.u64 (@Go.IntKind.wrap Go.IntKind.i64 (@HAdd.hAdd Int Int Int _ (Nat.cast (@List.length ChangeD (@MrgA.P x)) : Int) (Nat.cast (@HAdd.hAdd _ _ _ _ (@List.length ChangeD (@MrgA.P x)) (@HAdd.hAdd _ _ _ _ (@List.length ChangeD (@MrgA.U x)) (@List.length ChangeD (@MrgA.V x)))) : Int)))) (@HPow.hPow Int Nat Int _ (2 : Int) (@Min.min Nat _ (@Int.toNat (1 : Int)) (@Go.IntKind.bits Go.IntKind.u64))))) (Nat.cast (@HAdd.hAdd _ _ _ _ (@List.length ChangeD (@MrgA.P x)) (@List.length ChangeD (@MrgA.U x))) : Int))) (Nat.cast (@TwoN.i x82) : Int)))) _)
 (br (@Decidable.decide (@LT.lt Int _ (@Go.IntKind.wrap Go.IntKind.i64 (@HSub.hSub Int Int Int _ (@Go.IntKind.wrap Go.IntKind.i64 (@HAdd.hAdd Int Int Int _ (@Go.IntKind.wrap Go.IntKind.i64 (@Int.fdiv (@Go.IntKind.wrap Go.IntKind.u64 (@Go.IntKind.wrap Go.IntKind.i64 (@HAdd.hAdd Int Int Int _ (Nat.cast (@List.length ChangeD (@MrgA.P x)) : Int) (Nat.cast (@HAdd.hAdd _ _ _ _ (@List.length ChangeD (@MrgA.P x)) (@HAdd.hAdd _ _ _ _ (@List.length ChangeD (@MrgA.U x)) (@List.length ChangeD (@MrgA.V x)))) : Int)))) (@HPow.hPow Int Nat Int _ (2 : Int) (@Min.min Nat _ (@Int.toNat (1 : Int)) (@Go.IntKind.bits Go.IntKind.u64))))) (Nat.cast (@HAdd.hAdd _ _ _ _ (@List.length ChangeD (@MrgA.P x)) (@List.length ChangeD (@MrgA.U x))) : Int))) (Nat.cast (@TwoN.i x82) : Int))) (Nat.cast (@HAdd.hAdd _ _ _ _ (@List.length ChangeD (@MrgA.P x)) (@HAdd.hAdd _ _ _ _ (@List.length ChangeD (@MrgA.U x)) (@List.length ChangeD (@MrgA.V x)))) : Int)) _)
 (∃ x118 : MrgA,
 ((@Eq Nat (0 : Nat) (0 : Nat)) ∧
 ((@Eq Nat (@List.length ChangeD (@MrgA.l x)) (@List.length ChangeD (@MrgA.l x118))) ∧
 ((@Eq Int (@Go.IntKind.wrap Go.IntKind.i64 (@Int.fdiv (@Go.IntKind.wrap Go.IntKind.u64 (@Go.IntKind.wrap Go.IntKind.i64 (@HAdd.hAdd Int Int Int _ (Nat.cast (@List.length ChangeD (@MrgA.P x)) : Int) (Nat.cast (@HAdd.hAdd _ _ _ _ (@List.length ChangeD (@MrgA.P x)) (@HAdd.hAdd _ _ _ _ (@List.length ChangeD (@MrgA.U x)) (@List.length ChangeD (@MrgA.V x)))) : Int)))) (@HPow.hPow Int Nat Int _ (2 : Int) (@Min.min Nat _ (@Int.toNat (1 : Int)) (@Go.IntKind.bits Go.IntKind.u64))))) (Nat.cast (@List.length ChangeD (@MrgA.P x118)) : Int)) ∧
 ((@Eq Int (@Go.IntKind.wrap Go.IntKind.i64 (@HSub.hSub Int Int Int _ (@Go.IntKind.wrap Go.IntKind.i64 (@HAdd.hAdd Int Int Int _ (@Go.IntKind.wrap Go.IntKind.i64 (@Int.fdiv (@Go.IntKind.wrap Go.IntKind.u64 (@Go.IntKind.wrap Go.IntKind.i64 (@HAdd.hAdd Int Int Int _ (Nat.cast (@List.length ChangeD (@MrgA.P x)) : Int) (Nat.cast (@HAdd.hAdd _ _ _ _ (@List.length ChangeD (@MrgA.P x)) (@HAdd.hAdd _ _ _ _ (@List.length ChangeD (@MrgA.U x)) (@List.length ChangeD (@MrgA.V x)))) : Int)))) (@HPow.hPow Int Nat Int _ (2 : Int) (@Min.min Nat _ (@Int.toNat (1 : Int)) (@Go.IntKind.bits Go.IntKind.u64))))) (Nat.cast (@HAdd.hAdd _ _ _ _ (@List.length ChangeD (@MrgA.P x)) (@List.length ChangeD (@MrgA.U x))) : Int))) (Nat.cast (@TwoN.i x82) : Int))) (Nat.cast (@HAdd.hAdd _ _ _ _ (@List.length ChangeD (@MrgA.P x118)) (@List.length ChangeD (@MrgA.U x118))) : Int)) ∧
 ((@Eq Int (Nat.cast (@HAdd.hAdd _ _ _ _ (@List.length ChangeD (@MrgA.P x)) (@HAdd.hAdd _ _ _ _ (@List.length ChangeD (@MrgA.U x)) (@List.length ChangeD (@MrgA.V x)))) : Int) (Nat.cast (@HAdd.hAdd _ _ _ _ (@List.length ChangeD (@MrgA.P x118)) (@HAdd.hAdd _ _ _ _ (@List.length ChangeD (@MrgA.U x118)) (@List.length ChangeD (@MrgA.V x118)))) : Int)) ∧
 ((@Eq (@List ChangeD) (@MrgA.l x) (@MrgA.l x118)) ∧
 (((((@Ne (@List ChangeD) (@MrgA.U x118) (@List.nil ChangeD)) ∧
 (@Ne (@List ChangeD) (@MrgA.V x118) (@List.nil ChangeD))) ∧
 (@LE.le Nat _ (@List.length ChangeD (@MrgA.l x118)) (100000 : Nat))) ∧
 ((@srtC (@MrgA.U x118)) ∧
 ((@srtC (@MrgA.V x118)) ∧
 (@LT.lt Nat _ (@HAdd.hAdd _ _ _ _ (@List.length ChangeD (@MrgA.U x118)) (@List.length ChangeD (@MrgA.V x118))) n)))) ∧
 (∀ x119 : Unit,
 (True →
 (∃ x120 : Unit,
 ((@Eq (@List ChangeD) (@MrgA.r x118) (@MrgA.r x)) ∧
 True))))))))))))
 (∃ x121 : Unit,
 ((@Eq (@List ChangeD) (@MrgA.l x) (@MrgA.r x)) ∧
 True)))
 (∃ x122 : Unit,
 ((@Eq (@List ChangeD) (@MrgA.l x) (@MrgA.r x)) ∧
 True)))))
 (br (@Decidable.decide (@LT.lt Int _ (Nat.cast (@List.length ChangeD (@MrgA.P x)) : Int) (Nat.cast (@TwoN.i x82) : Int)) _)
 (br (@Decidable.decide (@LT.lt Int _ (Nat.cast (@TwoN.i x82) : Int) (@Go.IntKind.wrap Go.IntKind.i64 (@Int.fdiv (@Go.IntKind.wrap Go.IntKind.u64 (@Go.IntKind.wrap Go.IntKind.i64 (@HAdd.hAdd Int Int Int _ (Nat.cast (@List.length ChangeD (@MrgA.P x)) : Int) (Nat.cast (@HAdd.hAdd _ _ _ _ (@List.length ChangeD (@MrgA.P x)) (@HAdd.hAdd _ _ _ _ (@List.length ChangeD (@MrgA.U x)) (@List.length ChangeD (@MrgA.V x)))) : Int)))) (@HPow.hPow Int Nat Int _ (2 : Int) (@Min.min Nat _ (@Int.toNat (1 : Int)) (@Go.IntKind.bits Go.IntKind.u64)))))) _)
 (∃ x123 : MrgA,
 ((@Eq Nat (0 : Nat) (0 : Nat)) ∧
 ((@Eq Nat (@List.length ChangeD (@MrgA.l x)) (@List.length ChangeD (@MrgA.l x123))) ∧
 ((@Eq Int (Nat.cast (@List.length ChangeD (@MrgA.P x)) : Int) (Nat.cast (@List.length ChangeD (@MrgA.P x123)) : Int)) ∧
 ((@Eq Int (Nat.cast (@TwoN.i x82) : Int) (Nat.cast (@HAdd.hAdd _ _ _ _ (@List.length ChangeD (@MrgA.P x123)) (@List.length ChangeD (@MrgA.U x123))) : Int)) ∧
 ((@Eq Int (@Go.IntKind.wrap Go.IntKind.i64 (@Int.fdiv (@Go.IntKind.wrap Go.IntKind.u64 (@Go.IntKind.wrap Go.IntKind.i64 (@HAdd.hAdd Int Int Int _ (Nat.cast (@List.length ChangeD (@MrgA.P x)) : Int) (Nat.cast (@HAdd.hAdd _ _ _ _ (@List.length ChangeD (@MrgA.P x)) (@HAdd.hAdd _ _ _ _ (@List.length ChangeD (@MrgA.U x)) (@List.length ChangeD (@MrgA.V x)))) : Int)))) (@HPow.hPow Int Nat Int _ (2 : Int) (@Min.min Nat _ (@Int.toNat (1 : Int)) (@Go.IntKind.bits Go.IntKind.u64))))) (Nat.cast (@HAdd.hAdd _ _ _ _ (@List.length ChangeD (@MrgA.P x123)) (@HAdd.hAdd _ _ _ _ (@List.length ChangeD (@MrgA.U x123)) (@List.length ChangeD (@MrgA.V x123)))) : Int)) ∧
 ((@Eq (@List ChangeD) (@MrgA.l x) (@MrgA.l x123)) ∧
 (((((@Ne (@List ChangeD) (@MrgA.U x123) (@List.nil ChangeD)) ∧
 (@Ne (@List ChangeD) (@MrgA.V x123) (@List.nil ChangeD))) ∧
 (@LE.le Nat _ (@List.length ChangeD (@MrgA.l x123)) (100000 : Nat))) ∧
 ((@srtC (@MrgA.U x123)) ∧
 ((@srtC (@MrgA.V x123)) ∧
 (@LT.lt Nat _ (@HAdd.hAdd _ _ _ _ (@List.length ChangeD (@MrgA.U x123)) (@List.length ChangeD (@MrgA.V x123))) n)))) ∧
 (∀ x124 : Unit,
 (True →
 (br (@Decidable.decide (@LT.lt Int _ (@Go.IntKind.wrap Go.IntKind.i64 (@Int.fdiv (@Go.IntKind.wrap Go.IntKind.u64 (@Go.IntKind.wrap Go.IntKind.i64 (@HAdd.hAdd Int Int Int _ (Nat.cast (@List.length ChangeD (@MrgA.P x)) : Int) (Nat.cast (@HAdd.hAdd _ _ _ _ (@List.length ChangeD (@MrgA.P x)) (@HAdd.hAdd _ _ _ _ (@List.length ChangeD (@MrgA.U x)) (@List.length ChangeD (@MrgA.V x)))) : Int)))) (@HPow.hPow Int Nat Int _ (2 : Int) (@Min.min Nat _ (@Int.toNat (1 : Int)) (@Go.IntKind.bits Go.IntKind.u64))))) (@Go.IntKind.wrap Go.IntKind.i64 (@HSub.hSub Int Int Int _ (@Go.IntKind.wrap Go.IntKind.i64 (@HAdd.hAdd Int Int Int _ (@Go.IntKind.wrap Go.IntKind.i64 (@Int.fdiv (@Go.IntKind.wrap Go.IntKind.u64 (@Go.IntKind.wrap Go.IntKind.i64 (@HAdd.hAdd Int Int Int _ (Nat.cast (@List.length ChangeD (@MrgA.P x)) : Int) (Nat.cast (@HAdd.hAdd _ _ _ _ (@List.length ChangeD (@MrgA.P x)) (@HAdd.hAdd _ _ _ _ (@List.length ChangeD (@MrgA.U x)) (@List.length ChangeD (@MrgA.V x)))) : Int)))) (@HPow.hPow Int Nat Int _ (2 : Int) (@Min.min Nat _ (@Int.toNat (1 : Int)) (@Go.IntKind.bits Go.IntKind.u64))))) (Nat.cast (@HAdd.hAdd _ _ _ _ (@List.length ChangeD (@MrgA.P x)) (@List.length ChangeD (@MrgA.U x))) : Int))) (Nat.cast (@TwoN.i x82) : Int)))) _)
 (br (@Decidable.decide (@LT.lt Int _ (@Go.IntKind.wrap Go.IntKind.i64 (@HSub.hSub Int Int Int _ (@Go.IntKind.wrap Go.IntKind.i64 (@HAdd.hAdd Int Int Int _ (@Go.IntKind.wrap Go.IntKind.i64 (@Int.fdiv (@Go.IntKind.wrap Go.IntKind.u64 (@Go.IntKind.wrap Go.IntKind.i64 (@HAdd.hAdd Int Int Int _ (Nat.cast (@List.length ChangeD (@MrgA.P x)) : Int) (Nat.cast (@HAdd.hAdd _ _ _ _ (@List.length ChangeD (@MrgA.P x)) (@HAdd.hAdd _ _ _ _ (@List.length ChangeD (@MrgA.U x)) (@List.length ChangeD (@MrgA.V x)))) : Int)))) (@HPow.hPow Int Nat Int _ (2 : Int) (@Min.min Nat _ (@Int.toNat (1 : Int)) (@Go.IntKind.bits Go.IntKind.u64))))) (Nat.cast (@HAdd.hAdd _ _ _ _ (@List.length ChangeD (@MrgA.P x)) (@List.length ChangeD (@MrgA.U x))) : Int))) (Nat.cast (@TwoN.i x82) : Int))) (Nat.cast (@HAdd.hAdd _ _ _ _ (@List.length ChangeD (@MrgA.P x)) (@HAdd.hAdd _ _ _ _ (@List.length ChangeD (@MrgA.U x)) (@List.length ChangeD (@MrgA.V x)))) : Int)) _)
 (∃ x125 : MrgA,
 ((@Eq Nat (0 : Nat) (0 : Nat)) ∧
 ((@Eq Nat (@List.length ChangeD (@MrgA.l x)) (@List.length ChangeD (@MrgA.l x125))) ∧
 ((@Eq Int (@Go.IntKind.wrap Go.IntKind.i64 (@Int.fdiv (@Go.IntKind.wrap Go.IntKind.u64 (@Go.IntKind.wrap Go.IntKind.i64 (@HAdd.hAdd Int Int Int _ (Nat.cast (@List.length ChangeD (@MrgA.P x)) : Int) (Nat.cast (@HAdd.hAdd _ _ _ _ (@List.length ChangeD (@MrgA.P x)) (@HAdd.hAdd _ _ _ _ (@List.length ChangeD (@MrgA.U x)) (@List.length ChangeD (@MrgA.V x)))) : Int)))) (@HPow.hPow Int Nat Int _ (2 : Int) (@Min.min Nat _ (@Int.toNat (1 : Int)) (@Go.IntKind.bits Go.IntKind.u64))))) (Nat.cast (@List.length ChangeD (@MrgA.P x125)) : Int)) ∧
 ((@Eq Int (@Go.IntKind.wrap Go.IntKind.i64 (@HSub.hSub Int Int Int _ (@Go.IntKind.wrap Go.IntKind.i64 (@HAdd.hAdd Int Int Int _ (@Go.IntKind.wrap Go.IntKind.i64 (@Int.fdiv (@Go.IntKind.wrap Go.IntKind.u64 (@Go.IntKind.wrap Go.IntKind.i64 (@HAdd.hAdd Int Int Int _ (Nat.cast (@List.length ChangeD (@MrgA.P x)) : Int) (Nat.cast (@HAdd.hAdd _ _ _ _ (@List.length ChangeD (@MrgA.P x)) (@HAdd.hAdd _ _ _ _ (@List.length ChangeD (@MrgA.U x)) (@List.length ChangeD (@MrgA.V x)))) : Int)))) (@HPow.hPow Int Nat Int _ (2 : Int) (@Min.min Nat _ (@Int.toNat (1 : Int)) (@Go.IntKind.bits Go.IntKind.u64))))) (Nat.cast (@HAdd.hAdd _ _ _ _ (@List.length ChangeD (@MrgA.P x)) (@List.length ChangeD (@MrgA.U x))) : Int))) (Nat.cast (@TwoN.i x82) : Int))) (Nat.cast (@HAdd.hAdd _ _ _ _ (@List.length ChangeD (@MrgA.P x125)) (@List.length ChangeD (@MrgA.U x125))) : Int)) ∧
 ((@Eq Int (Nat.cast (@HAdd.hAdd _ _ _ _ (@List.length ChangeD (@MrgA.P x)) (@HAdd.hAdd _ _ _ _ (@List.length ChangeD (@MrgA.U x)) (@List.length ChangeD (@MrgA.V x)))) : Int) (Nat.cast (@HAdd.hAdd _ _ _ _ (@List.length ChangeD (@MrgA.P x125)) (@HAdd.hAdd _ _ _ _ (@List.length ChangeD (@MrgA.U x125)) (@List.length ChangeD (@MrgA.V x125)))) : Int)) ∧
 ((@Eq (@List ChangeD) (@MrgA.r x123) (@MrgA.l x125)) ∧
 (((((@Ne (@List ChangeD) (@MrgA.U x125) (@List.nil ChangeD)) ∧
 (@Ne (@List ChangeD) (@MrgA.V x125) (@List.nil ChangeD))) ∧
 (@LE.le Nat _ (@List.length ChangeD (@MrgA.l x125)) (100000 : Nat))) ∧
 ((@srtC (@MrgA.U x125)) ∧
 ((@srtC (@MrgA.V x125)) ∧
 (@LT.lt Nat _ (@HAdd.hAdd _ _ _ _ (@List.length ChangeD (@MrgA.U x125)) (@List.length ChangeD (@MrgA.V x125))) n)))) ∧
 (∀ x126 : Unit,
 (True →
 (∃ x127 : Unit,
 ((@Eq (@List ChangeD) (@MrgA.r x125) (@MrgA.r x)) ∧
 True))))))))))))
 (∃ x128 : Unit,
 ((@Eq (@List ChangeD) (@MrgA.r x123) (@MrgA.r x)) ∧
 True)))
 (∃ x129 : Unit,
 ((@Eq (@List ChangeD) (@MrgA.r x123) (@MrgA.r x)) ∧
 True)))))))))))))
 (br (@Decidable.decide (@LT.lt Int _ (@Go.IntKind.wrap Go.IntKind.i64 (@Int.fdiv (@Go.IntKind.wrap Go.IntKind.u64 (@Go.IntKind.wrap Go.IntKind.i64 (@HAdd.hAdd Int Int Int _ (Nat.cast (@List.length ChangeD (@MrgA.P x)) : Int) (Nat.cast (@HAdd.hAdd _ _ _ _ (@List.length ChangeD (@MrgA.P x)) (@HAdd.hAdd _ _ _ _ (@List.length ChangeD (@MrgA.U x)) (@List.length ChangeD (@MrgA.V x)))) : Int)))) (@HPow.hPow Int Nat Int _ (2 : Int) (@Min.min Nat _ (@Int.toNat (1 : Int)) (@Go.IntKind.bits Go.IntKind.u64))))) (@Go.IntKind.wrap Go.IntKind.i64 (@HSub.hSub Int Int Int _ (@Go.IntKind.wrap Go.IntKind.i64 (@HAdd.hAdd Int Int Int _ (@Go.IntKind.wrap Go.IntKind.i64 (@Int.fdiv (@Go.IntKind.wrap Go.IntKind.u64 (@Go.IntKind.wrap Go.IntKind.i64 (@HAdd.hAdd Int Int Int _ (Nat.cast (@List.length ChangeD (@MrgA.P x)) : Int) (Nat.cast (@HAdd.hAdd _ _ _ _ (@List.length ChangeD (@MrgA.P x)) (@HAdd.hAdd _ _ _ _ (@List.length ChangeD (@MrgA.U x)) (@List.length ChangeD (@MrgA.V x)))) : Int)))) (@HPow.hPow Int Nat Int _ (2 : Int) (@Min.min Nat _ (@Int.toNat (1 : Int)) (@Go.IntKind.bits Go.IntKind.u64))))) (Nat.cast (@HAdd.hAdd _ _ _ _ (@List.length ChangeD (@MrgA.P x)) (@List.length ChangeD (@MrgA.U x))) : Int))) (Nat.cast (@TwoN.i x82) : Int)))) _)
 (br (@Decidable.decide (@LT.lt Int _ (@Go.IntKind.wrap Go.IntKind.i64 (@HSub.hSub Int Int Int _ (@Go.IntKind.wrap Go.IntKind.i64 (@HAdd.hAdd Int Int Int _ (@Go.IntKind.wrap Go.IntKind.i64 (@Int.fdiv (@Go.IntKind.wrap Go.IntKind.u64 (@Go.IntKind.wrap Go.IntKind.i64 (@HAdd.hAdd Int Int Int _ (Nat.cast (@List.length ChangeD (@MrgA.P x)) : Int) (Nat.cast (@HAdd.hAdd _ _ _ _ (@List.length ChangeD (@MrgA.P x)) (@HAdd.hAdd _ _ _ _ (@List.length ChangeD (@MrgA.U x)) (@List.length ChangeD (@MrgA.V x)))) : Int)))) (@HPow.hPow Int Nat Int _ (2 : Int) (@Min.min Nat _ (@Int.toNat (1 : Int)) (@Go.IntKind.bits Go.IntKind.u64))))) (Nat.cast (@HAdd.hAdd _ _ _ _ (@List.length ChangeD (@MrgA.P x)) (@List.length ChangeD (@MrgA.U x))) : Int))) (Nat.cast (@TwoN.i x82) : Int))) (Nat.cast (@HAdd.hAdd _ _ _ _ (@List.length ChangeD (@MrgA.P x)) (@HAdd.hAdd _ _ _ _ (@List.length ChangeD (@MrgA.U x)) (@List.length ChangeD (@MrgA.V x)))) : Int)) _)
 (∃ x130 : MrgA,
 ((@Eq Nat (0 : Nat) (0 : Nat)) ∧
 ((@Eq Nat (@List.length ChangeD (@MrgA.l x)) (@List.length ChangeD (@MrgA.l x130))) ∧
 ((@Eq Int (@Go.IntKind.wrap Go.IntKind.i64 (@Int.fdiv (@Go.IntKind.wrap Go.IntKind.u64 (@Go.IntKind.wrap Go.IntKind.i64 (@HAdd.hAdd Int Int Int _ (Nat.cast (@List.length ChangeD (@MrgA.P x)) : Int) (Nat.cast (@HAdd.hAdd _ _ _ _ (@List.length ChangeD (@MrgA.P x)) (@HAdd.hAdd _ _ _ _ (@List.length ChangeD (@MrgA.U x)) (@List.length ChangeD (@MrgA.V x)))) : Int)))) (@HPow.hPow Int Nat Int _ (2 : Int) (@Min.min Nat _ (@Int.toNat (1 : Int)) (@Go.IntKind.bits Go.IntKind.u64))))) (Nat.cast (@List.length ChangeD (@MrgA.P x130)) : Int)) ∧
 ((@Eq Int (@Go.IntKind.wrap Go.IntKind.i64 (@HSub.hSub Int Int Int _ (@Go.IntKind.wrap Go.IntKind.i64 (@HAdd.hAdd Int Int Int _ (@Go.IntKind.wrap Go.IntKind.i64 (@Int.fdiv (@Go.IntKind.wrap Go.IntKind.u64 (@Go.IntKind.wrap Go.IntKind.i64 (@HAdd.hAdd Int Int Int _ (Nat.cast (@List.length ChangeD (@MrgA.P x)) : Int) (Nat.cast (@HAdd.hAdd _ _ _ _ (@List.length ChangeD (@MrgA.P x)) (@HAdd.hAdd _ _ _ _ (@List.length ChangeD (@MrgA.U x)) (@List.length ChangeD (@MrgA.V x)))) : Int)))) (@HPow.hPow Int Nat Int _ (2 : Int) (@Min.min Nat _ (@Int.toNat (1 : Int)) (@Go.IntKind.bits Go.IntKind.u64))))) (Nat.cast (@HAdd.hAdd _ _ _ _ (@List.length ChangeD (@MrgA.P x)) (@List.length ChangeD (@MrgA.U x))) : Int))) (Nat.cast (@TwoN.i x82) : Int))) (Nat.cast (@HAdd.hAdd _ _ _ _ (@List.length ChangeD (@MrgA.P x130)) (@List.length ChangeD (@MrgA.U x130))) : Int)) ∧
 ((@Eq Int (Nat.cast (@HAdd.hAdd _ _ _ _ (@List.length ChangeD (@MrgA.P x)) (@HAdd.hAdd _ _ _ _ (@List.length ChangeD (@MrgA.U x)) (@List.length ChangeD (@MrgA.V x)))) : Int) (Nat.cast (@HAdd.hAdd _ _ _ _ (@List.length ChangeD (@MrgA.P x130)) (@HAdd.hAdd _ _ _ _ (@List.length ChangeD (@MrgA.U x130)) (@List.length ChangeD (@MrgA.V x130)))) : Int)) ∧
 ((@Eq (@List ChangeD) (@MrgA.l x) (@MrgA.l x130)) ∧
 (((((@Ne (@List ChangeD) (@MrgA.U x130) (@List.nil ChangeD)) ∧
 (@Ne (@List ChangeD) (@MrgA.V x130) (@List.nil ChangeD))) ∧
 (@LE.le Nat _ (@List.length ChangeD (@MrgA.l x130)) (100000 : Nat))) ∧
 ((@srtC (@MrgA.U x130)) ∧
 ((@srtC (@MrgA.V x130)) ∧
 (@LT.lt Nat _ (@HAdd.hAdd _ _ _ _ (@List.length ChangeD (@MrgA.U x130)) (@List.length ChangeD (@MrgA.V x130))) n)))) ∧
 (∀ x131 : Unit,
 (True →
 (∃ x132 : Unit,
 ((@Eq (@List ChangeD) (@MrgA.r x130) (@MrgA.r x)) ∧
 True))))))))))))
 (∃ x133 : Unit,
 ((@Eq (@List ChangeD) (@MrgA.l x) (@MrgA.r x)) ∧
 True)))
 (∃ x134 : Unit,
 ((@Eq (@List ChangeD) (@MrgA.l x) (@MrgA.r x)) ∧
 True))))
 (br (@Decidable.decide (@LT.lt Int _ (@Go.IntKind.wrap Go.IntKind.i64 (@Int.fdiv (@Go.IntKind.wrap Go.IntKind.u64 (@Go.IntKind.wrap Go.IntKind.i64 (@HAdd.hAdd Int Int Int _ (Nat.cast (@List.length ChangeD (@MrgA.P x)) : Int) (Nat.cast (@HAdd.hAdd _ _ _ _ (@List.length ChangeD (@MrgA.P x)) (@HAdd.hAdd _ _ _ _ (@List.length ChangeD (@MrgA.U x)) (@List.length ChangeD (@MrgA.V x)))) : Int)))) (@HPow.hPow Int Nat Int _ (2 : Int) (@Min.min Nat _ (@Int.toNat (1 : Int)) (@Go.IntKind.bits Go.IntKind.u64))))) (@Go.IntKind.wrap Go.IntKind.i64 (@HSub.hSub Int Int Int _ (@Go.IntKind.wrap Go.IntKind.i64 (@HAdd.hAdd Int Int Int _ (@Go.IntKind.wrap Go.IntKind.i64 (@Int.fdiv (@Go.IntKind.wrap Go.IntKind.u64 (@Go.IntKind.wrap Go.IntKind.i64 (@HAdd.hAdd Int Int Int _ (Nat.cast (@List.length ChangeD (@MrgA.P x)) : Int) (Nat.cast (@HAdd.hAdd _ _ _ _ (@List.length ChangeD (@MrgA.P x)) (@HAdd.hAdd _ _ _ _ (@List.length ChangeD (@MrgA.U x)) (@List.length ChangeD (@MrgA.V x)))) : Int)))) (@HPow.hPow Int Nat Int _ (2 : Int) (@Min.min Nat _ (@Int.toNat (1 : Int)) (@Go.IntKind.bits Go.IntKind.u64))))) (Nat.cast (@HAdd.hAdd _ _ _ _ (@List.length ChangeD (@MrgA.P x)) (@List.length ChangeD (@MrgA.U x))) : Int))) (Nat.cast (@TwoN.i x82) : Int)))) _)
 (br (@Decidable.decide (@LT.lt Int _ (@Go.IntKind.wrap Go.IntKind.i64 (@HSub.hSub Int Int Int _ (@Go.IntKind.wrap Go.IntKind.i64 (@HAdd.hAdd Int Int Int _ (@Go.IntKind.wrap Go.IntKind.i64 (@Int.fdiv (@Go.IntKind.wrap Go.IntKind.u64 (@Go.IntKind.wrap Go.IntKind.i64 (@HAdd.hAdd Int Int Int _ (Nat.cast (@List.length ChangeD (@MrgA.P x)) : Int) (Nat.cast (@HAdd.hAdd _ _ _ _ (@List.length ChangeD (@MrgA.P x)) (@HAdd.hAdd _ _ _ _ (@List.length ChangeD (@MrgA.U x)) (@List.length ChangeD (@MrgA.V x)))) : Int)))) (@HPow.hPow Int Nat Int _ (2 : Int) (@Min.min Nat _ (@Int.toNat (1 : Int)) (@Go.IntKind.bits Go.IntKind.u64))))) (Nat.cast (@HAdd.hAdd _ _ _ _ (@List.length ChangeD (@MrgA.P x)) (@List.length ChangeD (@MrgA.U x))) : Int))) (Nat.cast (@TwoN.i x82) : Int))) (Nat.cast (@HAdd.hAdd _ _ _ _ (@List.length ChangeD (@MrgA.P x)) (@HAdd.hAdd _ _ _ _ (@List.length ChangeD (@MrgA.U x)) (@List.length ChangeD (@MrgA.V x)))) : Int)) _)
 (∃ x135 : MrgA,
 ((@Eq Nat (0 : Nat) (0 : Nat)) ∧
 ((@Eq Nat (@List.length ChangeD (@MrgA.l x)) (@List.length ChangeD (@MrgA.l x135))) ∧
 ((@Eq Int (@Go.IntKind.wrap Go.IntKind.i64 (@Int.fdiv (@Go.IntKind.wrap Go.IntKind.u64 (@Go.IntKind.wrap Go.IntKind.i64 (@HAdd.hAdd Int Int Int _ (Nat.cast (@List.length ChangeD (@MrgA.P x)) : Int) (Nat.cast (@HAdd.hAdd _ _ _ _ (@List.length ChangeD (@MrgA.P x)) (@HAdd.hAdd _ _ _ _ (@List.length ChangeD (@MrgA.U x)) (@List.length ChangeD (@MrgA.V x)))) : Int)))) (@HPow.hPow Int Nat Int _ (2 : Int) (@Min.min Nat _ (@Int.toNat (1 : Int)) (@Go.IntKind.bits Go.IntKind.u64))))) (Nat.cast (@List.length ChangeD (@MrgA.P x135)) : Int)) ∧
 ((@Eq Int (@Go.IntKind.wrap Go.IntKind.i64 (@HSub.hSub Int Int Int _ (@Go.IntKind.wrap Go.IntKind.i64 (@HAdd.hAdd Int Int Int _ (@Go.IntKind.wrap Go.IntKind.i64 (@Int.fdiv (@Go.IntKind.wrap Go.IntKind.u64 (@Go.IntKind.wrap Go.IntKind.i64 (@HAdd.hAdd Int Int Int _ (Nat.cast (@List.length ChangeD (@MrgA.P x)) : Int) (Nat.cast (@HAdd.hAdd _ _ _ _ (@List.length ChangeD (@MrgA.P x)) (@HAdd.hAdd _ _ _ _ (@List.length ChangeD (@MrgA.U x)) (@List.length ChangeD (@MrgA.V x)))) : Int)))) (@HPow.hPow Int Nat Int _ (2 : Int) (@Min.min Nat _ (@Int.toNat (1 : Int)) (@Go.IntKind.bits Go.IntKind.u64))))) (Nat.cast (@HAdd.hAdd _ _ _ _ (@List.length ChangeD (@MrgA.P x)) (@List.length ChangeD (@MrgA.U x))) : Int))) (Nat.cast (@TwoN.i x82) : Int))) (Nat.cast (@HAdd.hAdd _ _ _ _ (@List.length ChangeD (@MrgA.P x135)) (@List.length ChangeD (@MrgA.U x135))) : Int)) ∧
 ((@Eq Int (Nat.cast (@HAdd.hAdd _ _ _ _ (@List.length ChangeD (@MrgA.P x)) (@HAdd.hAdd _ _ _ _ (@List.length ChangeD (@MrgA.U x)) (@List.length ChangeD (@MrgA.V x)))) : Int) (Nat.cast (@HAdd.hAdd _ _ _ _ (@List.length ChangeD (@MrgA.P x135)) (@HAdd.hAdd _ _ _ _ (@List.length ChangeD (@MrgA.U x135)) (@List.length ChangeD (@MrgA.V x135)))) : Int)) ∧
 ((@Eq (@List ChangeD) (@MrgA.l x) (@MrgA.l x135)) ∧
 (((((@Ne (@List ChangeD) (@MrgA.U x135) (@List.nil ChangeD)) ∧
 (@Ne (@List ChangeD) (@MrgA.V x135) (@List.nil ChangeD))) ∧
 (@LE.le Nat _ (@List.length ChangeD (@MrgA.l x135)) (100000 : Nat))) ∧
 ((@srtC (@MrgA.U x135)) ∧
 ((@srtC (@MrgA.V x135)) ∧
 (@LT.lt Nat _ (@HAdd.hAdd _ _ _ _ (@List.length ChangeD (@MrgA.U x135)) (@List.length ChangeD (@MrgA.V x135))) n)))) ∧
 (∀ x136 : Unit,
 (True →
 (∃ x137 : Unit,
 ((@Eq (@List ChangeD) (@MrgA.r x135) (@MrgA.r x)) ∧
 True))))))))))))
 (∃ x138 : Unit,
 ((@Eq (@List ChangeD) (@MrgA.l x) (@MrgA.r x)) ∧
 True)))
 (∃ x139 : Unit,
 ((@Eq (@List ChangeD) (@MrgA.l x) (@MrgA.r x)) ∧
 True))))))))))))) := by kernel_rfl

theorem stb_vc (x : stbT.γ) : evCall stbE (ev stbE 1000) 92 (stbT.args x) ⟨stbT.blks x, stbT.n0, []⟩ (fun _ _ => False) (stbT.ends x) = (
((∃ x1 : StbI,
 ((@Eq Int (0 : Int) (Nat.cast (@HMul.hMul _ _ _ _ (20 : Nat) (@StbI.k x1)) : Int)) ∧
 ((@Eq Int (20 : Int) (Nat.cast (@HAdd.hAdd _ _ _ _ (@HMul.hMul _ _ _ _ (20 : Nat) (@StbI.k x1)) (20 : Nat)) : Int)) ∧
 ((@Eq (@List ChangeD) x (@StbI.l x1)) ∧
 (((@Eq Nat (@List.length ChangeD (@StbI.l x1)) (@List.length ChangeD x)) ∧
 (@LE.le Nat _ (@HMul.hMul _ _ _ _ (20 : Nat) (@StbI.k x1)) (@List.length ChangeD x))) ∧
 ((@Eq (@List ChangeD) (@List.drop ChangeD (@HMul.hMul _ _ _ _ (20 : Nat) (@StbI.k x1)) (@StbI.l x1)) (@List.drop ChangeD (@HMul.hMul _ _ _ _ (20 : Nat) (@StbI.k x1)) x)) ∧
 ((∀ x2 : (@List UInt8),
 (@Eq (@List ChangeD) (@clsC x2 (@StbI.l x1)) (@clsC x2 x))) ∧
 (∀ x3 : Nat,
 ((@LT.lt Nat _ x3 (@StbI.k x1)) →
 (@blkS (@StbI.l x1) (20 : Nat) x3)))))))))) ∧
 (∀ x4 : StbI,
 ((((@Eq Nat (@List.length ChangeD (@StbI.l x4)) (@List.length ChangeD x)) ∧
 (@LE.le Nat _ (@HMul.hMul _ _ _ _ (20 : Nat) (@StbI.k x4)) (@List.length ChangeD x))) ∧
 ((@Eq (@List ChangeD) (@List.drop ChangeD (@HMul.hMul _ _ _ _ (20 : Nat) (@StbI.k x4)) (@StbI.l x4)) (@List.drop ChangeD (@HMul.hMul _ _ _ _ (20 : Nat) (@StbI.k x4)) x)) ∧
 ((∀ x5 : (@List UInt8),
 (@Eq (@List ChangeD) (@clsC x5 (@StbI.l x4)) (@clsC x5 x))) ∧
 (∀ x6 : Nat,
 ((@LT.lt Nat _ x6 (@StbI.k x4)) →
 (@blkS (@StbI.l x4) (20 : Nat) x6)))))) →
 (br (@Decidable.decide (@LE.le Int _ (Nat.cast (@HAdd.hAdd _ _ _ _ (@HMul.hMul _ _ _ _ (20 : Nat) (@StbI.k x4)) (20 : Nat)) : Int) (Nat.cast (@List.length ChangeD x) : Int)) _)
 (∃ x7 : InsA,
 ((@Eq Nat (0 : Nat) (0 : Nat)) ∧
 ((@Eq Nat (@List.length ChangeD x) (@List.length ChangeD (@InsA.l x7))) ∧
 ((@Eq Int (Nat.cast (@HMul.hMul _ _ _ _ (20 : Nat) (@StbI.k x4)) : Int) (Nat.cast (@InsA.a x7) : Int)) ∧
 ((@Eq Int (Nat.cast (@HAdd.hAdd _ _ _ _ (@HMul.hMul _ _ _ _ (20 : Nat) (@StbI.k x4)) (20 : Nat)) : Int) (Nat.cast (@InsA.b x7) : Int)) ∧
 ((@Eq (@List ChangeD) (@StbI.l x4) (@InsA.l x7)) ∧
 (((@LE.le Nat _ (@InsA.a x7) (@InsA.b x7)) ∧
 (@LE.le Nat _ (@InsA.b x7) (@List.length ChangeD (@InsA.l x7)))) ∧
 (∀ x8 : Unit,
 (True →
 (∃ x9 : StbI,
 ((@Eq Int (Nat.cast (@HAdd.hAdd _ _ _ _ (@HMul.hMul _ _ _ _ (20 : Nat) (@StbI.k x4)) (20 : Nat)) : Int) (Nat.cast (@HMul.hMul _ _ _ _ (20 : Nat) (@StbI.k x9)) : Int)) ∧
 ((@Eq Int (@Go.IntKind.wrap Go.IntKind.i64 (@HAdd.hAdd Int Int Int _ (Nat.cast (@HAdd.hAdd _ _ _ _ (@HMul.hMul _ _ _ _ (20 : Nat) (@StbI.k x4)) (20 : Nat)) : Int) (20 : Int))) (Nat.cast (@HAdd.hAdd _ _ _ _ (@HMul.hMul _ _ _ _ (20 : Nat) (@StbI.k x9)) (20 : Nat)) : Int)) ∧
 ((@Eq (@List ChangeD) (@midL (@InsA.l x7) (@InsA.a x7) (@InsA.b x7) (@insS (@sliceL (@InsA.l x7) (@InsA.a x7) (@InsA.b x7)))) (@StbI.l x9)) ∧
 ((((@Eq Nat (@List.length ChangeD (@StbI.l x9)) (@List.length ChangeD x)) ∧
 (@LE.le Nat _ (@HMul.hMul _ _ _ _ (20 : Nat) (@StbI.k x9)) (@List.length ChangeD x))) ∧
 ((@Eq (@List ChangeD) (@List.drop ChangeD (@HMul.hMul _ _ _ _ (20 : Nat) (@StbI.k x9)) (@StbI.l x9)) (@List.drop ChangeD (@HMul.hMul _ _ _ _ (20 : Nat) (@StbI.k x9)) x)) ∧
 ((∀ x10 : (@List UInt8),
 (@Eq (@List ChangeD) (@clsC x10 (@StbI.l x9)) (@clsC x10 x))) ∧
 (∀ x11 : Nat,
 ((@LT.lt Nat _ x11 (@StbI.k x9)) →
 (@blkS (@StbI.l x9) (20 : Nat) x11)))))) ∧
 (@LT.lt Nat _ (@Nat.sub (@List.length ChangeD x) (@HMul.hMul _ _ _ _ (20 : Nat) (@StbI.k x9))) (@Nat.sub (@List.length ChangeD x) (@HMul.hMul _ _ _ _ (20 : Nat) (@StbI.k x4))))))))))))))))))
 (∃ x12 : InsA,
 ((@Eq Nat (0 : Nat) (0 : Nat)) ∧
 ((@Eq Nat (@List.length ChangeD x) (@List.length ChangeD (@InsA.l x12))) ∧
 ((@Eq Int (Nat.cast (@HMul.hMul _ _ _ _ (20 : Nat) (@StbI.k x4)) : Int) (Nat.cast (@InsA.a x12) : Int)) ∧
 ((@Eq Int (Nat.cast (@List.length ChangeD x) : Int) (Nat.cast (@InsA.b x12) : Int)) ∧
 ((@Eq (@List ChangeD) (@StbI.l x4) (@InsA.l x12)) ∧
 (((@LE.le Nat _ (@InsA.a x12) (@InsA.b x12)) ∧
 (@LE.le Nat _ (@InsA.b x12) (@List.length ChangeD (@InsA.l x12)))) ∧
 (∀ x13 : Unit,
 (True →
 ((∃ x14 : StbI,
 ((@Eq Int (20 : Int) (Nat.cast (@StbI.w x14) : Int)) ∧
 ((@Eq (@List ChangeD) (@midL (@InsA.l x12) (@InsA.a x12) (@InsA.b x12) (@insS (@sliceL (@InsA.l x12) (@InsA.a x12) (@InsA.b x12)))) (@StbI.l x14)) ∧
 (((@Eq Nat (@List.length ChangeD (@StbI.l x14)) (@List.length ChangeD (@midL (@InsA.l x12) (@InsA.a x12) (@InsA.b x12) (@insS (@sliceL (@InsA.l x12) (@InsA.a x12) (@InsA.b x12)))))) ∧
 ((@LE.le Nat _ (20 : Nat) (@StbI.w x14)) ∧
 (@LE.le Nat _ (@StbI.w x14) (@HAdd.hAdd _ _ _ _ (20 : Nat) (@HMul.hMul _ _ _ _ (2 : Nat) (@List.length ChangeD (@midL (@InsA.l x12) (@InsA.a x12) (@InsA.b x12) (@insS (@sliceL (@InsA.l x12) (@InsA.a x12) (@InsA.b x12)))))))))) ∧
 ((∀ x15 : (@List UInt8),
 (@Eq (@List ChangeD) (@clsC x15 (@StbI.l x14)) (@clsC x15 (@midL (@InsA.l x12) (@InsA.a x12) (@InsA.b x12) (@insS (@sliceL (@InsA.l x12) (@InsA.a x12) (@InsA.b x12))))))) ∧
 (∀ x16 : Nat,
 (@blkS (@StbI.l x14) (@StbI.w x14) x16))))))) ∧
 (∀ x17 : StbI,
 ((((@Eq Nat (@List.length ChangeD (@StbI.l x17)) (@List.length ChangeD (@midL (@InsA.l x12) (@InsA.a x12) (@InsA.b x12) (@insS (@sliceL (@InsA.l x12) (@InsA.a x12) (@InsA.b x12)))))) ∧
 ((@LE.le Nat _ (20 : Nat) (@StbI.w x17)) ∧
 (@LE.le Nat _ (@StbI.w x17) (@HAdd.hAdd _ _ _ _ (20 : Nat) (@HMul.hMul _ _ _ _ (2 : Nat) (@List.length ChangeD (@midL (@InsA.l x12) (@InsA.a x12) (@InsA.b x12) (@insS (@sliceL (@InsA.l x12) (@InsA.a x12) (@InsA.b x12)))))))))) ∧
 ((∀ x18 : (@List UInt8),
 (@Eq (@List ChangeD) (@clsC x18 (@StbI.l x17)) (@clsC x18 (@midL (@InsA.l x12) (@InsA.a x12) (@InsA.b x12) (@insS (@sliceL (@InsA.l x12) (@InsA.a x12) (@InsA.b x12))))))) ∧
 (∀ x19 : Nat,
 (@blkS (@StbI.l x17) (@StbI.w x17) x19)))) →
 (br (@Decidable.decide (@LT.lt Int _ (Nat.cast (@StbI.w x17) : Int) (Nat.cast (@List.length ChangeD x) : Int)) _)
 ((∃ x20 : StbI,
 ((@Eq Int (0 : Int) (Nat.cast (@HMul.hMul _ _ _ _ (@HMul.hMul _ _ _ _ (2 : Nat) (@Int.toNat (Nat.cast (@StbI.w x17) : Int))) (@StbI.k x20)) : Int)) ∧
 ((@Eq Int (@Go.IntKind.wrap Go.IntKind.i64 (@HMul.hMul Int Int Int _ (2 : Int) (Nat.cast (@StbI.w x17) : Int))) (Nat.cast (@HAdd.hAdd _ _ _ _ (@HMul.hMul _ _ _ _ (@HMul.hMul _ _ _ _ (2 : Nat) (@Int.toNat (Nat.cast (@StbI.w x17) : Int))) (@StbI.k x20)) (@HMul.hMul _ _ _ _ (2 : Nat) (@Int.toNat (Nat.cast (@StbI.w x17) : Int)))) : Int)) ∧
 ((@Eq (@List ChangeD) (@StbI.l x17) (@StbI.l x20)) ∧
 (((@Eq Nat (@List.length ChangeD (@StbI.l x20)) (@List.length ChangeD (@StbI.l x17))) ∧
 (@LE.le Nat _ (@HMul.hMul _ _ _ _ (@HMul.hMul _ _ _ _ (2 : Nat) (@Int.toNat (Nat.cast (@StbI.w x17) : Int))) (@StbI.k x20)) (@List.length ChangeD (@StbI.l x17)))) ∧
 ((∀ x21 : (@List UInt8),
 (@Eq (@List ChangeD) (@clsC x21 (@StbI.l x20)) (@clsC x21 (@StbI.l x17)))) ∧
 ((∀ x22 : Nat,
 ((@LT.lt Nat _ x22 (@StbI.k x20)) →
 (@blkS (@StbI.l x20) (@HMul.hMul _ _ _ _ (2 : Nat) (@Int.toNat (Nat.cast (@StbI.w x17) : Int))) x22))) ∧
 (∀ x23 : Nat,
 ((@LE.le Nat _ (@HMul.hMul _ _ _ _ (2 : Nat) (@StbI.k x20)) x23) →
 (@blkS (@StbI.l x20) (@Int.toNat (Nat.cast (@StbI.w x17) : Int)) x23)))))))))) ∧
 (∀ x24 : StbI,
 ((((@Eq Nat (@List.length ChangeD (@StbI.l x24)) (@List.length ChangeD (@StbI.l x17))) ∧
 (@LE.le Nat _ (@HMul.hMul _ _ _ _ (@HMul.hMul _ _ _ _ (2 : Nat) (@Int.toNat (Nat.cast (@StbI.w x17) : Int))) (@StbI.k x24)) (@List.length ChangeD (@StbI.l x17)))) ∧
 ((∀ x25 : (@List UInt8),
 (@Eq (@List ChangeD) (@clsC x25 (@StbI.l x24)) (@clsC x25 (@StbI.l x17)))) ∧
 ((∀ x26 : Nat,
 ((@LT.lt Nat _ x26 (@StbI.k x24)) →
 (@blkS (@StbI.l x24) (@HMul.hMul _ _ _ _ (2 : Nat) (@Int.toNat (Nat.cast (@StbI.w x17) : Int))) x26))) ∧
 (∀ x27 : Nat,
 ((@LE.le Nat _ (@HMul.hMul _ _ _ _ (2 : Nat) (@StbI.k x24)) x27) →
 (@blkS (@StbI.l x24) (@Int.toNat (Nat.cast (@StbI.w x17) : Int)) x27)))))) →
 (br (@Decidable.decide (@LE.le Int _ (Nat.cast (@HAdd.hAdd _ _ _ _ (@HMul.hMul _ _ _ _ (@HMul.hMul _ _ _ _ (2 : Nat) (@Int.toNat (Nat.cast (@StbI.w x17) : Int))) (@StbI.k x24)) (@HMul.hMul _ _ _ _ (2 : Nat) (@Int.toNat (Nat.cast (@StbI.w x17) : Int)))) : Int) (Nat.cast (@List.length ChangeD x) : Int)) _)
 (∃ x28 : MrgA,
 ((@Eq Nat (0 : Nat) (0 : Nat)) ∧
 ((@Eq Nat (@List.length ChangeD x) (@List.length ChangeD (@MrgA.l x28))) ∧
 ((@Eq Int (Nat.cast (@HMul.hMul _ _ _ _ (@HMul.hMul _ _ _ _ (2 : Nat) (@Int.toNat (Nat.cast (@StbI.w x17) : Int))) (@StbI.k x24)) : Int) (Nat.cast (@List.length ChangeD (@MrgA.P x28)) : Int)) ∧
 ((@Eq Int (@Go.IntKind.wrap Go.IntKind.i64 (@HAdd.hAdd Int Int Int _ (Nat.cast (@HMul.hMul _ _ _ _ (@HMul.hMul _ _ _ _ (2 : Nat) (@Int.toNat (Nat.cast (@StbI.w x17) : Int))) (@StbI.k x24)) : Int) (Nat.cast (@StbI.w x17) : Int))) (Nat.cast (@HAdd.hAdd _ _ _ _ (@List.length ChangeD (@MrgA.P x28)) (@List.length ChangeD (@MrgA.U x28))) : Int)) ∧
 ((@Eq Int (Nat.cast (@HAdd.hAdd _ _ _ _ (@HMul.hMul _ _ _ _ (@HMul.hMul _ _ _ _ (2 : Nat) (@Int.toNat (Nat.cast (@StbI.w x17) : Int))) (@StbI.k x24)) (@HMul.hMul _ _ _ _ (2 : Nat) (@Int.toNat (Nat.cast (@StbI.w x17) : Int)))) : Int) (Nat.cast (@HAdd.hAdd _ _ _ _ (@List.length ChangeD (@MrgA.P x28)) (@HAdd.hAdd _ _ _ _ (@List.length ChangeD (@MrgA.U x28)) (@List.length ChangeD (@MrgA.V x28)))) : Int)) ∧
 ((@Eq (@List ChangeD) (@StbI.l x24) (@MrgA.l x28)) ∧
 (((((@Ne (@List ChangeD) (@MrgA.U x28) (@List.nil ChangeD)) ∧
 (@Ne (@List ChangeD) (@MrgA.V x28) (@List.nil ChangeD))) ∧
 (@LE.le Nat _ (@List.length ChangeD (@MrgA.l x28)) (100000 : Nat))) ∧
 ((@srtC (@MrgA.U x28)) ∧
 ((@srtC (@MrgA.V x28)) ∧
 (@LT.lt Nat _ (@HAdd.hAdd _ _ _ _ (@List.length ChangeD (@MrgA.U x28)) (@List.length ChangeD (@MrgA.V x28))) (200001 : Nat))))) ∧
 (∀ x29 : Unit,
 (True →
 (∃ x30 : StbI,
 ((@Eq Int (Nat.cast (@HAdd.hAdd _ _ _ _ (@HMul.hMul _ _ _ _ (@HMul.hMul _ _ _ _ (2 : Nat) (@Int.toNat (Nat.cast (@StbI.w x17) : Int))) (@StbI.k x24)) (@HMul.hMul _ _ _ _ (2 : Nat) (@Int.toNat (Nat.cast (@StbI.w x17) : Int)))) : Int) (Nat.cast (@HMul.hMul _ _ _ _ (@HMul.hMul _ _ _ _ (2 : Nat) (@Int.toNat (Nat.cast (@StbI.w x17) : Int))) (@StbI.k x30)) : Int)) ∧
 ((@Eq Int (@Go.IntKind.wrap Go.IntKind.i64 (@HAdd.hAdd Int Int Int _ (Nat.cast (@HAdd.hAdd _ _ _ _ (@HMul.hMul _ _ _ _ (@HMul.hMul _ _ _ _ (2 : Nat) (@Int.toNat (Nat.cast (@StbI.w x17) : Int))) (@StbI.k x24)) (@HMul.hMul _ _ _ _ (2 : Nat) (@Int.toNat (Nat.cast (@StbI.w x17) : Int)))) : Int) (@Go.IntKind.wrap Go.IntKind.i64 (@HMul.hMul Int Int Int _ (2 : Int) (Nat.cast (@StbI.w x17) : Int))))) (Nat.cast (@HAdd.hAdd _ _ _ _ (@HMul.hMul _ _ _ _ (@HMul.hMul _ _ _ _ (2 : Nat) (@Int.toNat (Nat.cast (@StbI.w x17) : Int))) (@StbI.k x30)) (@HMul.hMul _ _ _ _ (2 : Nat) (@Int.toNat (Nat.cast (@StbI.w x17) : Int)))) : Int)) ∧
 ((@Eq (@List ChangeD) (@MrgA.r x28) (@StbI.l x30)) ∧
 ((((@Eq Nat (@List.length ChangeD (@StbI.l x30)) (@List.length ChangeD (@StbI.l x17))) ∧
 (@LE.le Nat _ (@HMul.hMul _ _ _ _ (@HMul.hMul _ _ _ _ (2 : Nat) (@Int.toNat (Nat.cast (@StbI.w x17) : Int))) (@StbI.k x30)) (@List.length ChangeD (@StbI.l x17)))) ∧
 ((∀ x31 : (@List UInt8),
 (@Eq (@List ChangeD) (@clsC x31 (@StbI.l x30)) (@clsC x31 (@StbI.l x17)))) ∧
 ((∀ x32 : Nat,
 ((@LT.lt Nat _ x32 (@StbI.k x30)) →
 (@blkS (@StbI.l x30) (@HMul.hMul _ _ _ _ (2 : Nat) (@Int.toNat (Nat.cast (@StbI.w x17) : Int))) x32))) ∧
 (∀ x33 : Nat,
 ((@LE.le Nat _ (@HMul.hMul _ _ _ _ (2 : Nat) (@StbI.k x30)) x33) →
 (@blkS (@StbI.l x30) (@Int.toNat (Nat.cast (@StbI.w x17) : Int)) x33)))))) ∧
 (@LT.lt Nat _ (@Nat.sub (@List.length ChangeD (@StbI.l x17)) (@HMul.hMul _ _ _ _ (@HMul.hMul _ _ _ _ (2 : Nat) (@Int.toNat (Nat.cast (@StbI.w x17) : Int))) (@StbI.k x30))) (@Nat.sub (@List.length ChangeD (@StbI.l x17)) (@HMul.hMul _ _ _ _ (@HMul.hMul _ _ _ _ (2 : Nat) (@Int.toNat (Nat.cast (@StbI.w x17) : Int))) (@StbI.k x24)))))))))))))))))))
 (br (@Decidable.decide (@LT.lt Int _ (@Go.IntKind.wrap Go.IntKind.i64 (@HAdd.hAdd Int Int Int _ (Nat.cast (@HMul.hMul _ _ _ _ (@HMul.hMul _ _ _ _ (2 : Nat) (@Int.toNat (Nat.cast (@StbI.w x17) : Int))) (@StbI.k x24)) : Int) (Nat.cast (@StbI.w x17) : Int))) (Nat.cast (@List.length ChangeD x) : Int)) _)
 (∃ x34 : MrgA,
 ((@Eq Nat (0 : Nat) (0 : Nat)) ∧
 ((@Eq Nat (@List.length ChangeD x) (@List.length ChangeD (@MrgA.l x34))) ∧
 ((@Eq Int (Nat.cast (@HMul.hMul _ _ _ _ (@HMul.hMul _ _ _ _ (2 : Nat) (@Int.toNat (Nat.cast (@StbI.w x17) : Int))) (@StbI.k x24)) : Int) (Nat.cast (@List.length ChangeD (@MrgA.P x34)) : Int)) ∧
 ((@Eq Int (@Go.IntKind.wrap Go.IntKind.i64 (@HAdd.hAdd Int Int Int _ (Nat.cast (@HMul.hMul _ _ _ _ (@HMul.hMul _ _ _ _ (2 : Nat) (@Int.toNat (Nat.cast (@StbI.w x17) : Int))) (@StbI.k x24)) : Int) (Nat.cast (@StbI.w x17) : Int))) (Nat.cast (@HAdd.hAdd _ _ _ _ (@List.length ChangeD (@MrgA.P x34)) (@List.length ChangeD (@MrgA.U x34))) : Int)) ∧
 ((@Eq Int (Nat.cast (@List.length ChangeD x) : Int) (Nat.cast (@HAdd.hAdd _ _ _ _ (@List.length ChangeD (@MrgA.P x34)) (@HAdd.hAdd _ _ _ _ (@List.length ChangeD (@MrgA.U x34)) (@List.length ChangeD (@MrgA.V x34)))) : Int)) ∧
 ((@Eq (@List ChangeD) (@StbI.l x24) (@MrgA.l x34)) ∧
 (((((@Ne (@List ChangeD) (@MrgA.U x34) (@List.nil ChangeD)) ∧
 (@Ne (@List ChangeD) (@MrgA.V x34) (@List.nil ChangeD))) ∧
 (@LE.le Nat _ (@List.length ChangeD (@MrgA.l x34)) (100000 : Nat))) ∧
 ((@srtC (@MrgA.U x34)) ∧
 ((@srtC (@MrgA.V x34)) ∧
 (@LT.lt Nat _ (@HAdd.hAdd _ _ _ _ (@List.length ChangeD (@MrgA.U x34)) (@List.length ChangeD (@MrgA.V x34))) (200001 : Nat))))) ∧
 (∀ x35 : Unit,
 (True →
 (∃ x36 : StbI,
 ((@Eq Int (@Go.IntKind.wrap Go.IntKind.i64 (@HMul.hMul Int Int Int _ (Nat.cast (@StbI.w x17) : Int) (2 : Int))) (Nat.cast (@StbI.w x36) : Int)) ∧
 ((@Eq (@List ChangeD) (@MrgA.r x34) (@StbI.l x36)) ∧
 ((((@Eq Nat (@List.length ChangeD (@StbI.l x36)) (@List.length ChangeD (@midL (@InsA.l x12) (@InsA.a x12) (@InsA.b x12) (@insS (@sliceL (@InsA.l x12) (@InsA.a x12) (@InsA.b x12)))))) ∧
 ((@LE.le Nat _ (20 : Nat) (@StbI.w x36)) ∧
 (@LE.le Nat _ (@StbI.w x36) (@HAdd.hAdd _ _ _ _ (20 : Nat) (@HMul.hMul _ _ _ _ (2 : Nat) (@List.length ChangeD (@midL (@InsA.l x12) (@InsA.a x12) (@InsA.b x12) (@insS (@sliceL (@InsA.l x12) (@InsA.a x12) (@InsA.b x12)))))))))) ∧
 ((∀ x37 : (@List UInt8),
 (@Eq (@List ChangeD) (@clsC x37 (@StbI.l x36)) (@clsC x37 (@midL (@InsA.l x12) (@InsA.a x12) (@InsA.b x12) (@insS (@sliceL (@InsA.l x12) (@InsA.a x12) (@InsA.b x12))))))) ∧
 (∀ x38 : Nat,
 (@blkS (@StbI.l x36) (@StbI.w x36) x38)))) ∧
 (@LT.lt Nat _ (@Nat.sub (@List.length ChangeD (@midL (@InsA.l x12) (@InsA.a x12) (@InsA.b x12) (@insS (@sliceL (@InsA.l x12) (@InsA.a x12) (@InsA.b x12))))) (@StbI.w x36)) (@Nat.sub (@List.length ChangeD (@midL (@InsA.l x12) (@InsA.a x12) (@InsA.b x12) (@insS (@sliceL (@InsA.l x12) (@InsA.a x12) (@InsA.b x12))))) (@StbI.w x17)))))))))))))))))
 (∃ x39 : StbI,
 ((@Eq Int (@Go.IntKind.wrap Go.IntKind.i64 (@HMul.hMul Int Int Int _ (Nat.cast (@StbI.w x17) : Int) (2 : Int))) (Nat.cast (@StbI.w x39) : Int)) ∧
 ((@Eq (@List ChangeD) (@StbI.l x24) (@StbI.l x39)) ∧
 ((((@Eq Nat (@List.length ChangeD (@StbI.l x39)) (@List.length ChangeD (@midL (@InsA.l x12) (@InsA.a x12) (@InsA.b x12) (@insS (@sliceL (@InsA.l x12) (@InsA.a x12) (@InsA.b x12)))))) ∧
 ((@LE.le Nat _ (20 : Nat) (@StbI.w x39)) ∧
 (@LE.le Nat _ (@StbI.w x39) (@HAdd.hAdd _ _ _ _ (20 : Nat) (@HMul.hMul _ _ _ _ (2 : Nat) (@List.length ChangeD (@midL (@InsA.l x12) (@InsA.a x12) (@InsA.b x12) (@insS (@sliceL (@InsA.l x12) (@InsA.a x12) (@InsA.b x12)))))))))) ∧
 ((∀ x40 : (@List UInt8),
 (@Eq (@List ChangeD) (@clsC x40 (@StbI.l x39)) (@clsC x40 (@midL (@InsA.l x12) (@InsA.a x12) (@InsA.b x12) (@insS (@sliceL (@InsA.l x12) (@InsA.a x12) (@InsA.b x12))))))) ∧
 (∀ x41 : Nat,
 (@blkS (@StbI.l x39) (@StbI.w x39) x41)))) ∧
 (@LT.lt Nat _ (@Nat.sub (@List.length ChangeD (@midL (@InsA.l x12) (@InsA.a x12) (@InsA.b x12) (@insS (@sliceL (@InsA.l x12) (@InsA.a x12) (@InsA.b x12))))) (@StbI.w x39)) (@Nat.sub (@List.length ChangeD (@midL (@InsA.l x12) (@InsA.a x12) (@InsA.b x12) (@insS (@sliceL (@InsA.l x12) (@InsA.a x12) (@InsA.b x12))))) (@StbI.w x17))))))))))))
 (∃ x42 : Unit,
 ((@Eq (@List ChangeD) (@StbI.l x17) (@insS x)) ∧
 True)))))))))))))))))))) := by kernel_rfl

theorem ssx_vc (x : ssxT.γ) : evCall ssxE (ev ssxE 1000) 86 (ssxT.args x) ⟨ssxT.blks x, ssxT.n0, []⟩ (fun _ _ => False) (ssxT.ends x) = (
((@LE.le Nat _ (@HMul.hMul _ _ _ _ (@List.length ChangeD x) (32 : Nat)) room47) →
 (∃ x1 : (@List ChangeD),
 ((@Eq Nat (0 : Nat) (0 : Nat)) ∧
 ((@Eq Nat (@List.length ChangeD x) (@List.length ChangeD x1)) ∧
 ((@Eq Int (Nat.cast (@List.length ChangeD x) : Int) (Nat.cast (@List.length ChangeD x1) : Int)) ∧
 ((@Eq (@List ChangeD) x x1) ∧
 ((@Eq Bool (@fewX x1) Bool.true) ∧
 (∀ x2 : Unit,
 (True →
 (∃ x3 : Unit,
 ((@Eq (@List ChangeD) (@insS x1) (@insS x)) ∧
 True)))))))))))) := by kernel_rfl

theorem sorx_vc (x : sorxT.γ) : evCall sorxE (ev sorxE 1000) 49 (sorxT.args x) ⟨sorxT.blks x, sorxT.n0, []⟩ (fun _ _ => False) (sorxT.ends x) = (
(∃ x1 : (@List ChangeD),
 ((@Eq (@List ChangeD) x x1) ∧
 (True ∧
 (∀ x2 : Unit,
 (True →
 (∃ x3 : (@List ChangeD),
 ((@Eq Nat (0 : Nat) (0 : Nat)) ∧
 ((@Eq Nat (@List.length ChangeD x1) (@List.length ChangeD x3)) ∧
 ((@Eq (@List ChangeD) x1 x3) ∧
 ((@Eq Bool (@fewX x3) Bool.true) ∧
 (∀ x4 : Unit,
 (True →
 (∃ x5 : Unit,
 ((@Eq Nat (0 : Nat) (0 : Nat)) ∧
 ((@Eq Nat (@List.length ChangeD x1) (@List.length ChangeD x)) ∧
 ((@Eq (@List ChangeD) (@insS x3) (@insS x)) ∧
 True))))))))))))))))) := by kernel_rfl

end Go.Proofs.Ytkhiifaldbjpbaa.Ses
