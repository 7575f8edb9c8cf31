/- A law of graphs: what the evaluator leaves, and that it holds. No condition. -/
import Derived.Test.YtildflamnehilaaGroB
import Derived.KernelRfl
set_option linter.unusedSimpArgs false
set_option linter.unusedVariables false

namespace Go.Proofs.Ytildflamnehilaa.Ses
open Go Go.Proofs Go.Proofs.Ytildflamnehilaa.Sx Go.Proofs.Ytildflamnehilaa.Trx
set_option maxRecDepth 100000

theorem rds_vc (x : RdsA) : evCall rdsE (ev rdsE 1000) 7 (rdsArgs x) ⟨[], 0, []⟩ (fun _ _ => False) (fun v _ => TrueV v) = (
(∃ x1 : Unit,
 (True ∧
 (∀ x2 : Unit,
 (True →
 (∃ x3 : (@List Deed5D),
 ((@Eq (@List Deed5D) (@RdsA.l x) x3) ∧
 (True ∧
 (∀ x4 : Unit,
 (True →
 (br (@Bool.not (@roomG x3))
 (@Eq Bool Bool.true Bool.true)
 ((@LE.le Nat _ (@List.length UInt8 (@RdsA.p x)) maxI64) →
 (br (@Decidable.decide (@GT.gt Int _ (Nat.cast (@List.length UInt8 (@RdsA.p x)) : Int) (300 : Int)) _)
 (@Eq Bool Bool.true Bool.true)
 (∃ x5 : Unit,
 (True ∧
 (∀ x6 : Unit,
 (True →
 ((∃ x7 : Nat,
 ((@Eq Int (0 : Int) (Nat.cast x7 : Int)) ∧
 ((@Eq Nat (0 : Nat) (0 : Nat)) ∧
 ((@Eq Nat (@List.length CommitD (@List.nil CommitD)) (@List.length CommitD (@goC (@List.take Deed5D x7 (@RdsA.l x))))) ∧
 ((@Eq TreeD (@treeC (@List.nil CommitD)) (@treeC (@goC (@List.take Deed5D x7 (@RdsA.l x))))) ∧
 ((@Eq (@List CommitD) (@List.nil CommitD) (@goC (@List.take Deed5D x7 (@RdsA.l x)))) ∧
 ((@Eq (@List (@Prod Bs Int)) (@kvC (@List.nil CommitD)) (@kvC (@goC (@List.take Deed5D x7 (@RdsA.l x))))) ∧
 (@Nat.le x7 (@List.length Deed5D (@RdsA.l x)))))))))) ∧
 (∀ x8 : Nat,
 ((@Nat.le x8 (@List.length Deed5D (@RdsA.l x))) →
 ((@LE.le Nat _ (@HMul.hMul _ _ _ _ (@List.length Deed5D (@RdsA.l x)) (48 : Nat)) room47) →
 (br (@Decidable.decide (@LT.lt Int _ (Nat.cast x8 : Int) (Nat.cast (@List.length Deed5D (@RdsA.l x)) : Int)) _)
 (br (@Decidable.decide ((@LE.le Int _ (0 : Int) (Nat.cast x8 : Int)) ∧
 (@LT.lt Int _ (Nat.cast x8 : Int) (Nat.cast (@List.length Deed5D (@RdsA.l x)) : Int))) _)
 (br (@Decidable.decide ((@LE.le Int _ (0 : Int) (Nat.cast x8 : Int)) ∧
 (@LT.lt Int _ (Nat.cast x8 : Int) (Nat.cast (@List.length Deed5D (@RdsA.l x)) : Int))) _)
 (br (@Decidable.decide ((@LE.le Int _ (0 : Int) (Nat.cast x8 : Int)) ∧
 (@LT.lt Int _ (Nat.cast x8 : Int) (Nat.cast (@List.length Deed5D (@RdsA.l x)) : Int))) _)
 (∃ x9 : LandA,
 ((@Eq Int (@Deed5D.base (@List.getD Deed5D (@RdsA.l x) (@Int.toNat (Nat.cast x8 : Int)) (@Deed5D.mk (0 : Int) (@List.nil UInt8) (@List.nil ChangeD)))) (@LandA.base x9)) ∧
 ((@Eq Bs (@Deed5D.ref (@List.getD Deed5D (@RdsA.l x) (@Int.toNat (Nat.cast x8 : Int)) (@Deed5D.mk (0 : Int) (@List.nil UInt8) (@List.nil ChangeD)))) (@LandA.ref x9)) ∧
 ((@Eq (@List ChangeD) (@Deed5D.l (@List.getD Deed5D (@RdsA.l x) (@Int.toNat (Nat.cast x8 : Int)) (@Deed5D.mk (0 : Int) (@List.nil UInt8) (@List.nil ChangeD)))) (@LandA.l x9)) ∧
 ((@Eq Nat (0 : Nat) (0 : Nat)) ∧
 ((@Eq Nat (@List.length CommitD (@goC (@List.take Deed5D x8 (@RdsA.l x)))) (@List.length CommitD (@LandA.C x9))) ∧
 ((@Eq TreeD (@treeC (@goC (@List.take Deed5D x8 (@RdsA.l x)))) (@treeC (@LandA.C x9))) ∧
 ((@Eq (@List CommitD) (@goC (@List.take Deed5D x8 (@RdsA.l x))) (@LandA.C x9)) ∧
 ((@Eq (@List (@Prod Bs Int)) (@kvC (@goC (@List.take Deed5D x8 (@RdsA.l x)))) (@kvC (@LandA.C x9))) ∧
 (((@Eq Bool (@fewG (@LandA.C x9)) Bool.true) ∧
 (@Eq Bool (@shortC (@LandA.l x9)) Bool.true)) ∧
 (∀ x10 : Unit,
 (True →
 (∃ x11 : Nat,
 ((@Eq Int (@Go.IntKind.wrap Go.IntKind.i64 (@HAdd.hAdd Int Int Int _ (Nat.cast x8 : Int) (1 : Int))) (Nat.cast x11 : Int)) ∧
 ((@Eq Nat (0 : Nat) (0 : Nat)) ∧
 ((@Eq Nat (@List.length CommitD (@landC x9)) (@List.length CommitD (@goC (@List.take Deed5D x11 (@RdsA.l x))))) ∧
 ((@Eq TreeD (@treeC (@landC x9)) (@treeC (@goC (@List.take Deed5D x11 (@RdsA.l x))))) ∧
 ((@Eq (@List CommitD) (@landC x9) (@goC (@List.take Deed5D x11 (@RdsA.l x)))) ∧
 ((@Eq (@List (@Prod Bs Int)) (@kvC (@landC x9)) (@kvC (@goC (@List.take Deed5D x11 (@RdsA.l x))))) ∧
 ((@Nat.le x11 (@List.length Deed5D (@RdsA.l x))) ∧
 (@LT.lt Nat _ (@Nat.sub (@List.length Deed5D (@RdsA.l x)) x11) (@Nat.sub (@List.length Deed5D (@RdsA.l x)) x8))))))))))))))))))))))
 (Bad "check" "law.go:245"))
 (Bad "check" "law.go:245"))
 (Bad "check" "law.go:245"))
 (∃ x12 : (@List CommitD),
 ((@Eq Nat (0 : Nat) (0 : Nat)) ∧
 ((@Eq Nat (@List.length CommitD (@goC (@List.take Deed5D x8 (@RdsA.l x)))) (@List.length CommitD x12)) ∧
 ((@Eq TreeD (@treeC (@goC (@List.take Deed5D x8 (@RdsA.l x)))) (@treeC x12)) ∧
 ((@Eq (@List CommitD) (@goC (@List.take Deed5D x8 (@RdsA.l x))) x12) ∧
 ((@Eq (@List (@Prod Bs Int)) (@kvC (@goC (@List.take Deed5D x8 (@RdsA.l x)))) (@kvC x12)) ∧
 ((@Eq Bool (@fewG x12) Bool.true) ∧
 (∀ x13 : Unit,
 (True →
 ((∃ x14 : Nat,
 ((@Eq Int (0 : Int) (Nat.cast x14 : Int)) ∧
 ((@Eq Int (10 : Int) (@VerdictD.code (@wantR x12 (@RdsA.p x) x14))) ∧
 ((@Eq Int (0 : Int) (@VerdictD.session (@wantR x12 (@RdsA.p x) x14))) ∧
 ((@Eq Int (0 : Int) (@VerdictD.rev (@wantR x12 (@RdsA.p x) x14))) ∧
 ((@Eq Bs (@RdsA.p x) (@VerdictD.path (@wantR x12 (@RdsA.p x) x14))) ∧
 ((@Eq Int (0 : Int) (@VerdictD.digest (@wantR x12 (@RdsA.p x) x14))) ∧
 ((@Eq (@List CommitD) (@List.nil CommitD) (@VerdictD.commits (@wantR x12 (@RdsA.p x) x14))) ∧
 ((@Eq Int (0 : Int) (@VerdictD.member (@wantR x12 (@RdsA.p x) x14))) ∧
 (@Nat.le x14 (@List.length CommitD x12))))))))))) ∧
 (∀ x15 : Nat,
 ((@Nat.le x15 (@List.length CommitD x12)) →
 ((@LE.le Nat _ (@HMul.hMul _ _ _ _ (@List.length CommitD x12) (56 : Nat)) room47) →
 (br (@Decidable.decide (@LT.lt Int _ (Nat.cast x15 : Int) (Nat.cast (@List.length CommitD x12) : Int)) _)
 ((∃ x16 : Nat,
 ((@Eq Int (0 : Int) (Nat.cast x16 : Int)) ∧
 ((@Eq Int (@VerdictD.code (@wantR x12 (@RdsA.p x) x15)) (@VerdictD.code (@wantJ x12 (@RdsA.p x) (@Int.toNat (Nat.cast x15 : Int)) x16))) ∧
 ((@Eq Int (@VerdictD.session (@wantR x12 (@RdsA.p x) x15)) (@VerdictD.session (@wantJ x12 (@RdsA.p x) (@Int.toNat (Nat.cast x15 : Int)) x16))) ∧
 ((@Eq Int (@VerdictD.rev (@wantR x12 (@RdsA.p x) x15)) (@VerdictD.rev (@wantJ x12 (@RdsA.p x) (@Int.toNat (Nat.cast x15 : Int)) x16))) ∧
 ((@Eq Bs (@VerdictD.path (@wantR x12 (@RdsA.p x) x15)) (@VerdictD.path (@wantJ x12 (@RdsA.p x) (@Int.toNat (Nat.cast x15 : Int)) x16))) ∧
 ((@Eq Int (@VerdictD.digest (@wantR x12 (@RdsA.p x) x15)) (@VerdictD.digest (@wantJ x12 (@RdsA.p x) (@Int.toNat (Nat.cast x15 : Int)) x16))) ∧
 ((@Eq (@List CommitD) (@VerdictD.commits (@wantR x12 (@RdsA.p x) x15)) (@VerdictD.commits (@wantJ x12 (@RdsA.p x) (@Int.toNat (Nat.cast x15 : Int)) x16))) ∧
 ((@Eq Int (@VerdictD.member (@wantR x12 (@RdsA.p x) x15)) (@VerdictD.member (@wantJ x12 (@RdsA.p x) (@Int.toNat (Nat.cast x15 : Int)) x16))) ∧
 (@Nat.le x16 (@List.length ChangeD (@CommitD.changes (@List.getD CommitD x12 (@Int.toNat (Nat.cast x15 : Int)) (@CommitD.mk (0 : Int) (0 : Int) (@List.nil UInt8) (@List.nil ChangeD))))))))))))))) ∧
 (∀ x17 : Nat,
 ((@Nat.le x17 (@List.length ChangeD (@CommitD.changes (@List.getD CommitD x12 (@Int.toNat (Nat.cast x15 : Int)) (@CommitD.mk (0 : Int) (0 : Int) (@List.nil UInt8) (@List.nil ChangeD)))))) →
 (br (@Decidable.decide ((@LE.le Int _ (0 : Int) (Nat.cast x15 : Int)) ∧
 (@LT.lt Int _ (Nat.cast x15 : Int) (Nat.cast (@List.length CommitD x12) : Int))) _)
 ((@LE.le Nat _ (@HMul.hMul _ _ _ _ (@List.length ChangeD (@CommitD.changes (@List.getD CommitD x12 (@Int.toNat (Nat.cast x15 : Int)) (@CommitD.mk (0 : Int) (0 : Int) (@List.nil UInt8) (@List.nil ChangeD))))) (32 : Nat)) room47) →
 (br (@Decidable.decide (@LT.lt Int _ (Nat.cast x17 : Int) (Nat.cast (@List.length ChangeD (@CommitD.changes (@List.getD CommitD x12 (@Int.toNat (Nat.cast x15 : Int)) (@CommitD.mk (0 : Int) (0 : Int) (@List.nil UInt8) (@List.nil ChangeD))))) : Int)) _)
 (br (@Decidable.decide ((@LE.le Int _ (0 : Int) (Nat.cast x15 : Int)) ∧
 (@LT.lt Int _ (Nat.cast x15 : Int) (Nat.cast (@List.length CommitD x12) : Int))) _)
 (br (@Decidable.decide ((@LE.le Int _ (0 : Int) (Nat.cast x17 : Int)) ∧
 (@LT.lt Int _ (Nat.cast x17 : Int) (Nat.cast (@List.length ChangeD (@CommitD.changes (@List.getD CommitD x12 (@Int.toNat (Nat.cast x15 : Int)) (@CommitD.mk (0 : Int) (0 : Int) (@List.nil UInt8) (@List.nil ChangeD))))) : Int))) _)
 (br (@BEq.beq Bs _ (@ChangeD.path (@List.getD ChangeD (@CommitD.changes (@List.getD CommitD x12 (@Int.toNat (Nat.cast x15 : Int)) (@CommitD.mk (0 : Int) (0 : Int) (@List.nil UInt8) (@List.nil ChangeD)))) (@Int.toNat (Nat.cast x17 : Int)) (@ChangeD.mk (@List.nil UInt8) Bool.false (0 : Int)))) (@RdsA.p x))
 (br (@ChangeD.gone (@List.getD ChangeD (@CommitD.changes (@List.getD CommitD x12 (@Int.toNat (Nat.cast x15 : Int)) (@CommitD.mk (0 : Int) (0 : Int) (@List.nil UInt8) (@List.nil ChangeD)))) (@Int.toNat (Nat.cast x17 : Int)) (@ChangeD.mk (@List.nil UInt8) Bool.false (0 : Int))))
 (∃ x18 : Nat,
 ((@Eq Int (@Go.IntKind.wrap Go.IntKind.i64 (@HAdd.hAdd Int Int Int _ (Nat.cast x17 : Int) (1 : Int))) (Nat.cast x18 : Int)) ∧
 ((@Eq Int (10 : Int) (@VerdictD.code (@wantJ x12 (@RdsA.p x) (@Int.toNat (Nat.cast x15 : Int)) x18))) ∧
 ((@Eq Int (0 : Int) (@VerdictD.session (@wantJ x12 (@RdsA.p x) (@Int.toNat (Nat.cast x15 : Int)) x18))) ∧
 ((@Eq Int (0 : Int) (@VerdictD.rev (@wantJ x12 (@RdsA.p x) (@Int.toNat (Nat.cast x15 : Int)) x18))) ∧
 ((@Eq Bs (@RdsA.p x) (@VerdictD.path (@wantJ x12 (@RdsA.p x) (@Int.toNat (Nat.cast x15 : Int)) x18))) ∧
 ((@Eq Int (0 : Int) (@VerdictD.digest (@wantJ x12 (@RdsA.p x) (@Int.toNat (Nat.cast x15 : Int)) x18))) ∧
 ((@Eq (@List CommitD) (@List.nil CommitD) (@VerdictD.commits (@wantJ x12 (@RdsA.p x) (@Int.toNat (Nat.cast x15 : Int)) x18))) ∧
 ((@Eq Int (0 : Int) (@VerdictD.member (@wantJ x12 (@RdsA.p x) (@Int.toNat (Nat.cast x15 : Int)) x18))) ∧
 ((@Nat.le x18 (@List.length ChangeD (@CommitD.changes (@List.getD CommitD x12 (@Int.toNat (Nat.cast x15 : Int)) (@CommitD.mk (0 : Int) (0 : Int) (@List.nil UInt8) (@List.nil ChangeD)))))) ∧
 (@LT.lt Nat _ (@Nat.sub (@List.length ChangeD (@CommitD.changes (@List.getD CommitD x12 (@Int.toNat (Nat.cast x15 : Int)) (@CommitD.mk (0 : Int) (0 : Int) (@List.nil UInt8) (@List.nil ChangeD))))) x18) (@Nat.sub (@List.length ChangeD (@CommitD.changes (@List.getD CommitD x12 (@Int.toNat (Nat.cast x15 : Int)) (@CommitD.mk (0 : Int) (0 : Int) (@List.nil UInt8) (@List.nil ChangeD))))) x17))))))))))))
 (br (@BEq.beq Bs _ (@ChangeD.path (@List.getD ChangeD (@CommitD.changes (@List.getD CommitD x12 (@Int.toNat (Nat.cast x15 : Int)) (@CommitD.mk (0 : Int) (0 : Int) (@List.nil UInt8) (@List.nil ChangeD)))) (@Int.toNat (Nat.cast x17 : Int)) (@ChangeD.mk (@List.nil UInt8) Bool.false (0 : Int)))) (@RdsA.p x))
 (br (@Decidable.decide ((@LE.le Int _ (0 : Int) (Nat.cast x15 : Int)) ∧
 (@LT.lt Int _ (Nat.cast x15 : Int) (Nat.cast (@List.length CommitD x12) : Int))) _)
 (∃ x19 : Nat,
 ((@Eq Int (@Go.IntKind.wrap Go.IntKind.i64 (@HAdd.hAdd Int Int Int _ (Nat.cast x17 : Int) (1 : Int))) (Nat.cast x19 : Int)) ∧
 ((@Eq Int (9 : Int) (@VerdictD.code (@wantJ x12 (@RdsA.p x) (@Int.toNat (Nat.cast x15 : Int)) x19))) ∧
 ((@Eq Int (0 : Int) (@VerdictD.session (@wantJ x12 (@RdsA.p x) (@Int.toNat (Nat.cast x15 : Int)) x19))) ∧
 ((@Eq Int (@CommitD.rev (@List.getD CommitD x12 (@Int.toNat (Nat.cast x15 : Int)) (@CommitD.mk (0 : Int) (0 : Int) (@List.nil UInt8) (@List.nil ChangeD)))) (@VerdictD.rev (@wantJ x12 (@RdsA.p x) (@Int.toNat (Nat.cast x15 : Int)) x19))) ∧
 ((@Eq Bs (@RdsA.p x) (@VerdictD.path (@wantJ x12 (@RdsA.p x) (@Int.toNat (Nat.cast x15 : Int)) x19))) ∧
 ((@Eq Int (@ChangeD.digest (@List.getD ChangeD (@CommitD.changes (@List.getD CommitD x12 (@Int.toNat (Nat.cast x15 : Int)) (@CommitD.mk (0 : Int) (0 : Int) (@List.nil UInt8) (@List.nil ChangeD)))) (@Int.toNat (Nat.cast x17 : Int)) (@ChangeD.mk (@List.nil UInt8) Bool.false (0 : Int)))) (@VerdictD.digest (@wantJ x12 (@RdsA.p x) (@Int.toNat (Nat.cast x15 : Int)) x19))) ∧
 ((@Eq (@List CommitD) (@List.nil CommitD) (@VerdictD.commits (@wantJ x12 (@RdsA.p x) (@Int.toNat (Nat.cast x15 : Int)) x19))) ∧
 ((@Eq Int (0 : Int) (@VerdictD.member (@wantJ x12 (@RdsA.p x) (@Int.toNat (Nat.cast x15 : Int)) x19))) ∧
 ((@Nat.le x19 (@List.length ChangeD (@CommitD.changes (@List.getD CommitD x12 (@Int.toNat (Nat.cast x15 : Int)) (@CommitD.mk (0 : Int) (0 : Int) (@List.nil UInt8) (@List.nil ChangeD)))))) ∧
 (@LT.lt Nat _ (@Nat.sub (@List.length ChangeD (@CommitD.changes (@List.getD CommitD x12 (@Int.toNat (Nat.cast x15 : Int)) (@CommitD.mk (0 : Int) (0 : Int) (@List.nil UInt8) (@List.nil ChangeD))))) x19) (@Nat.sub (@List.length ChangeD (@CommitD.changes (@List.getD CommitD x12 (@Int.toNat (Nat.cast x15 : Int)) (@CommitD.mk (0 : Int) (0 : Int) (@List.nil UInt8) (@List.nil ChangeD))))) x17))))))))))))
 (Bad "check" "law.go:255"))
 (∃ x20 : Nat,
 ((@Eq Int (@Go.IntKind.wrap Go.IntKind.i64 (@HAdd.hAdd Int Int Int _ (Nat.cast x17 : Int) (1 : Int))) (Nat.cast x20 : Int)) ∧
 ((@Eq Int (@VerdictD.code (@wantJ x12 (@RdsA.p x) (@Int.toNat (Nat.cast x15 : Int)) x17)) (@VerdictD.code (@wantJ x12 (@RdsA.p x) (@Int.toNat (Nat.cast x15 : Int)) x20))) ∧
 ((@Eq Int (@VerdictD.session (@wantJ x12 (@RdsA.p x) (@Int.toNat (Nat.cast x15 : Int)) x17)) (@VerdictD.session (@wantJ x12 (@RdsA.p x) (@Int.toNat (Nat.cast x15 : Int)) x20))) ∧
 ((@Eq Int (@VerdictD.rev (@wantJ x12 (@RdsA.p x) (@Int.toNat (Nat.cast x15 : Int)) x17)) (@VerdictD.rev (@wantJ x12 (@RdsA.p x) (@Int.toNat (Nat.cast x15 : Int)) x20))) ∧
 ((@Eq Bs (@VerdictD.path (@wantJ x12 (@RdsA.p x) (@Int.toNat (Nat.cast x15 : Int)) x17)) (@VerdictD.path (@wantJ x12 (@RdsA.p x) (@Int.toNat (Nat.cast x15 : Int)) x20))) ∧
 ((@Eq Int (@VerdictD.digest (@wantJ x12 (@RdsA.p x) (@Int.toNat (Nat.cast x15 : Int)) x17)) (@VerdictD.digest (@wantJ x12 (@RdsA.p x) (@Int.toNat (Nat.cast x15 : Int)) x20))) ∧
 ((@Eq (@List CommitD) (@VerdictD.commits (@wantJ x12 (@RdsA.p x) (@Int.toNat (Nat.cast x15 : Int)) x17)) (@VerdictD.commits (@wantJ x12 (@RdsA.p x) (@Int.toNat (Nat.cast x15 : Int)) x20))) ∧
 ((@Eq Int (@VerdictD.member (@wantJ x12 (@RdsA.p x) (@Int.toNat (Nat.cast x15 : Int)) x17)) (@VerdictD.member (@wantJ x12 (@RdsA.p x) (@Int.toNat (Nat.cast x15 : Int)) x20))) ∧
 ((@Nat.le x20 (@List.length ChangeD (@CommitD.changes (@List.getD CommitD x12 (@Int.toNat (Nat.cast x15 : Int)) (@CommitD.mk (0 : Int) (0 : Int) (@List.nil UInt8) (@List.nil ChangeD)))))) ∧
 (@LT.lt Nat _ (@Nat.sub (@List.length ChangeD (@CommitD.changes (@List.getD CommitD x12 (@Int.toNat (Nat.cast x15 : Int)) (@CommitD.mk (0 : Int) (0 : Int) (@List.nil UInt8) (@List.nil ChangeD))))) x20) (@Nat.sub (@List.length ChangeD (@CommitD.changes (@List.getD CommitD x12 (@Int.toNat (Nat.cast x15 : Int)) (@CommitD.mk (0 : Int) (0 : Int) (@List.nil UInt8) (@List.nil ChangeD))))) x17))))))))))))))
 (br (@BEq.beq Bs _ (@ChangeD.path (@List.getD ChangeD (@CommitD.changes (@List.getD CommitD x12 (@Int.toNat (Nat.cast x15 : Int)) (@CommitD.mk (0 : Int) (0 : Int) (@List.nil UInt8) (@List.nil ChangeD)))) (@Int.toNat (Nat.cast x17 : Int)) (@ChangeD.mk (@List.nil UInt8) Bool.false (0 : Int)))) (@RdsA.p x))
 (br (@Decidable.decide ((@LE.le Int _ (0 : Int) (Nat.cast x15 : Int)) ∧
 (@LT.lt Int _ (Nat.cast x15 : Int) (Nat.cast (@List.length CommitD x12) : Int))) _)
 (∃ x21 : Nat,
 ((@Eq Int (@Go.IntKind.wrap Go.IntKind.i64 (@HAdd.hAdd Int Int Int _ (Nat.cast x17 : Int) (1 : Int))) (Nat.cast x21 : Int)) ∧
 ((@Eq Int (9 : Int) (@VerdictD.code (@wantJ x12 (@RdsA.p x) (@Int.toNat (Nat.cast x15 : Int)) x21))) ∧
 ((@Eq Int (0 : Int) (@VerdictD.session (@wantJ x12 (@RdsA.p x) (@Int.toNat (Nat.cast x15 : Int)) x21))) ∧
 ((@Eq Int (@CommitD.rev (@List.getD CommitD x12 (@Int.toNat (Nat.cast x15 : Int)) (@CommitD.mk (0 : Int) (0 : Int) (@List.nil UInt8) (@List.nil ChangeD)))) (@VerdictD.rev (@wantJ x12 (@RdsA.p x) (@Int.toNat (Nat.cast x15 : Int)) x21))) ∧
 ((@Eq Bs (@RdsA.p x) (@VerdictD.path (@wantJ x12 (@RdsA.p x) (@Int.toNat (Nat.cast x15 : Int)) x21))) ∧
 ((@Eq Int (@ChangeD.digest (@List.getD ChangeD (@CommitD.changes (@List.getD CommitD x12 (@Int.toNat (Nat.cast x15 : Int)) (@CommitD.mk (0 : Int) (0 : Int) (@List.nil UInt8) (@List.nil ChangeD)))) (@Int.toNat (Nat.cast x17 : Int)) (@ChangeD.mk (@List.nil UInt8) Bool.false (0 : Int)))) (@VerdictD.digest (@wantJ x12 (@RdsA.p x) (@Int.toNat (Nat.cast x15 : Int)) x21))) ∧
 ((@Eq (@List CommitD) (@List.nil CommitD) (@VerdictD.commits (@wantJ x12 (@RdsA.p x) (@Int.toNat (Nat.cast x15 : Int)) x21))) ∧
 ((@Eq Int (0 : Int) (@VerdictD.member (@wantJ x12 (@RdsA.p x) (@Int.toNat (Nat.cast x15 : Int)) x21))) ∧
 ((@Nat.le x21 (@List.length ChangeD (@CommitD.changes (@List.getD CommitD x12 (@Int.toNat (Nat.cast x15 : Int)) (@CommitD.mk (0 : Int) (0 : Int) (@List.nil UInt8) (@List.nil ChangeD)))))) ∧
 (@LT.lt Nat _ (@Nat.sub (@List.length ChangeD (@CommitD.changes (@List.getD CommitD x12 (@Int.toNat (Nat.cast x15 : Int)) (@CommitD.mk (0 : Int) (0 : Int) (@List.nil UInt8) (@List.nil ChangeD))))) x21) (@Nat.sub (@List.length ChangeD (@CommitD.changes (@List.getD CommitD x12 (@Int.toNat (Nat.cast x15 : Int)) (@CommitD.mk (0 : Int) (0 : Int) (@List.nil UInt8) (@List.nil ChangeD))))) x17))))))))))))
 (Bad "check" "law.go:255"))
 (∃ x22 : Nat,
 ((@Eq Int (@Go.IntKind.wrap Go.IntKind.i64 (@HAdd.hAdd Int Int Int _ (Nat.cast x17 : Int) (1 : Int))) (Nat.cast x22 : Int)) ∧
 ((@Eq Int (@VerdictD.code (@wantJ x12 (@RdsA.p x) (@Int.toNat (Nat.cast x15 : Int)) x17)) (@VerdictD.code (@wantJ x12 (@RdsA.p x) (@Int.toNat (Nat.cast x15 : Int)) x22))) ∧
 ((@Eq Int (@VerdictD.session (@wantJ x12 (@RdsA.p x) (@Int.toNat (Nat.cast x15 : Int)) x17)) (@VerdictD.session (@wantJ x12 (@RdsA.p x) (@Int.toNat (Nat.cast x15 : Int)) x22))) ∧
 ((@Eq Int (@VerdictD.rev (@wantJ x12 (@RdsA.p x) (@Int.toNat (Nat.cast x15 : Int)) x17)) (@VerdictD.rev (@wantJ x12 (@RdsA.p x) (@Int.toNat (Nat.cast x15 : Int)) x22))) ∧
 ((@Eq Bs (@VerdictD.path (@wantJ x12 (@RdsA.p x) (@Int.toNat (Nat.cast x15 : Int)) x17)) (@VerdictD.path (@wantJ x12 (@RdsA.p x) (@Int.toNat (Nat.cast x15 : Int)) x22))) ∧
 ((@Eq Int (@VerdictD.digest (@wantJ x12 (@RdsA.p x) (@Int.toNat (Nat.cast x15 : Int)) x17)) (@VerdictD.digest (@wantJ x12 (@RdsA.p x) (@Int.toNat (Nat.cast x15 : Int)) x22))) ∧
 ((@Eq (@List CommitD) (@VerdictD.commits (@wantJ x12 (@RdsA.p x) (@Int.toNat (Nat.cast x15 : Int)) x17)) (@VerdictD.commits (@wantJ x12 (@RdsA.p x) (@Int.toNat (Nat.cast x15 : Int)) x22))) ∧
 ((@Eq Int (@VerdictD.member (@wantJ x12 (@RdsA.p x) (@Int.toNat (Nat.cast x15 : Int)) x17)) (@VerdictD.member (@wantJ x12 (@RdsA.p x) (@Int.toNat (Nat.cast x15 : Int)) x22))) ∧
 ((@Nat.le x22 (@List.length ChangeD (@CommitD.changes (@List.getD CommitD x12 (@Int.toNat (Nat.cast x15 : Int)) (@CommitD.mk (0 : Int) (0 : Int) (@List.nil UInt8) (@List.nil ChangeD)))))) ∧
 (@LT.lt Nat _ (@Nat.sub (@List.length ChangeD (@CommitD.changes (@List.getD CommitD x12 (@Int.toNat (Nat.cast x15 : Int)) (@CommitD.mk (0 : Int) (0 : Int) (@List.nil UInt8) (@List.nil ChangeD))))) x22) (@Nat.sub (@List.length ChangeD (@CommitD.changes (@List.getD CommitD x12 (@Int.toNat (Nat.cast x15 : Int)) (@CommitD.mk (0 : Int) (0 : Int) (@List.nil UInt8) (@List.nil ChangeD))))) x17))))))))))))))
 (Bad "check" "law.go:251"))
 (Bad "check" "law.go:251"))
 (∃ x23 : Nat,
 ((@Eq Int (@Go.IntKind.wrap Go.IntKind.i64 (@HAdd.hAdd Int Int Int _ (Nat.cast x15 : Int) (1 : Int))) (Nat.cast x23 : Int)) ∧
 ((@Eq Int (@VerdictD.code (@wantJ x12 (@RdsA.p x) (@Int.toNat (Nat.cast x15 : Int)) x17)) (@VerdictD.code (@wantR x12 (@RdsA.p x) x23))) ∧
 ((@Eq Int (@VerdictD.session (@wantJ x12 (@RdsA.p x) (@Int.toNat (Nat.cast x15 : Int)) x17)) (@VerdictD.session (@wantR x12 (@RdsA.p x) x23))) ∧
 ((@Eq Int (@VerdictD.rev (@wantJ x12 (@RdsA.p x) (@Int.toNat (Nat.cast x15 : Int)) x17)) (@VerdictD.rev (@wantR x12 (@RdsA.p x) x23))) ∧
 ((@Eq Bs (@VerdictD.path (@wantJ x12 (@RdsA.p x) (@Int.toNat (Nat.cast x15 : Int)) x17)) (@VerdictD.path (@wantR x12 (@RdsA.p x) x23))) ∧
 ((@Eq Int (@VerdictD.digest (@wantJ x12 (@RdsA.p x) (@Int.toNat (Nat.cast x15 : Int)) x17)) (@VerdictD.digest (@wantR x12 (@RdsA.p x) x23))) ∧
 ((@Eq (@List CommitD) (@VerdictD.commits (@wantJ x12 (@RdsA.p x) (@Int.toNat (Nat.cast x15 : Int)) x17)) (@VerdictD.commits (@wantR x12 (@RdsA.p x) x23))) ∧
 ((@Eq Int (@VerdictD.member (@wantJ x12 (@RdsA.p x) (@Int.toNat (Nat.cast x15 : Int)) x17)) (@VerdictD.member (@wantR x12 (@RdsA.p x) x23))) ∧
 ((@Nat.le x23 (@List.length CommitD x12)) ∧
 (@LT.lt Nat _ (@Nat.sub (@List.length CommitD x12) x23) (@Nat.sub (@List.length CommitD x12) x15))))))))))))))
 (Bad "check" "law.go:250")))))
 (∃ x24 : ReadA,
 ((@Eq Bs (@RdsA.p x) (@ReadA.p x24)) ∧
 ((@Eq Nat (0 : Nat) (0 : Nat)) ∧
 ((@Eq Nat (@List.length CommitD x12) (@List.length CommitD (@ReadA.C x24))) ∧
 ((@Eq TreeD (@treeC x12) (@treeC (@ReadA.C x24))) ∧
 ((@Eq (@List CommitD) x12 (@ReadA.C x24)) ∧
 ((@Eq (@List (@Prod Bs Int)) (@kvC x12) (@kvC (@ReadA.C x24))) ∧
 ((@Eq Bool (@shortB (@ReadA.p x24)) Bool.true) ∧
 (∀ x25 : Unit,
 (True →
 (br (@bne Int _ (@VerdictD.code (@readV x24)) (5 : Int))
 (∃ x26 : Ver2,
 ((@Eq Int (@VerdictD.code (@readV x24)) (@VerdictD.code (@Ver2.a x26))) ∧
 ((@Eq Int (@VerdictD.session (@readV x24)) (@VerdictD.session (@Ver2.a x26))) ∧
 ((@Eq Int (@VerdictD.rev (@readV x24)) (@VerdictD.rev (@Ver2.a x26))) ∧
 ((@Eq Bs (@VerdictD.path (@readV x24)) (@VerdictD.path (@Ver2.a x26))) ∧
 ((@Eq Int (@VerdictD.digest (@readV x24)) (@VerdictD.digest (@Ver2.a x26))) ∧
 ((@Eq (@List CommitD) (@VerdictD.commits (@readV x24)) (@VerdictD.commits (@Ver2.a x26))) ∧
 ((@Eq Int (@VerdictD.member (@readV x24)) (@VerdictD.member (@Ver2.a x26))) ∧
 ((@Eq Int (@VerdictD.code (@wantR x12 (@RdsA.p x) x15)) (@VerdictD.code (@Ver2.b x26))) ∧
 ((@Eq Int (@VerdictD.session (@wantR x12 (@RdsA.p x) x15)) (@VerdictD.session (@Ver2.b x26))) ∧
 ((@Eq Int (@VerdictD.rev (@wantR x12 (@RdsA.p x) x15)) (@VerdictD.rev (@Ver2.b x26))) ∧
 ((@Eq Bs (@VerdictD.path (@wantR x12 (@RdsA.p x) x15)) (@VerdictD.path (@Ver2.b x26))) ∧
 ((@Eq Int (@VerdictD.digest (@wantR x12 (@RdsA.p x) x15)) (@VerdictD.digest (@Ver2.b x26))) ∧
 ((@Eq (@List CommitD) (@VerdictD.commits (@wantR x12 (@RdsA.p x) x15)) (@VerdictD.commits (@Ver2.b x26))) ∧
 ((@Eq Int (@VerdictD.member (@wantR x12 (@RdsA.p x) x15)) (@VerdictD.member (@Ver2.b x26))) ∧
 (True ∧
 (∀ x27 : Unit,
 (True →
 (br (@Bool.not (@eqV (@Ver2.a x26) (@Ver2.b x26)))
 (@Eq Bool Bool.false Bool.true)
 (∃ x28 : (@List CommitD),
 ((@Eq Nat (0 : Nat) (0 : Nat)) ∧
 ((@Eq Nat (@List.length CommitD (@ReadA.C x24)) (@List.length CommitD x28)) ∧
 ((@Eq TreeD (@treeC (@ReadA.C x24)) (@treeC x28)) ∧
 ((@Eq (@List CommitD) (@ReadA.C x24) x28) ∧
 ((@Eq (@List (@Prod Bs Int)) (@kvC (@ReadA.C x24)) (@kvC x28)) ∧
 ((@Eq Bool (@fewG x28) Bool.true) ∧
 (∀ x29 : Unit,
 (True →
 ((∃ x30 : Nat,
 ((@Eq Int (0 : Int) (Nat.cast x30 : Int)) ∧
 (@Nat.le x30 (@List.length RefD (@refsC x28))))) ∧
 (∀ x31 : Nat,
 ((@Nat.le x31 (@List.length RefD (@refsC x28))) →
 ((@LE.le Nat _ (@HMul.hMul _ _ _ _ (@List.length RefD (@refsC x28)) (24 : Nat)) room47) →
 (br (@Decidable.decide (@LT.lt Int _ (Nat.cast x31 : Int) (Nat.cast (@List.length RefD (@refsC x28)) : Int)) _)
 ((∃ x32 : Nat,
 ((@Eq Int (0 : Int) (Nat.cast x32 : Int)) ∧
 ((@Eq Int (0 : Int) (@lastRef x12 (@RefD.name (@List.getD RefD (@refsC x28) (@Int.toNat (Nat.cast x31 : Int)) (@RefD.mk (@List.nil UInt8) (0 : Int)))) x32)) ∧
 (@Nat.le x32 (@List.length CommitD x12))))) ∧
 (∀ x33 : Nat,
 ((@Nat.le x33 (@List.length CommitD x12)) →
 ((@LE.le Nat _ (@HMul.hMul _ _ _ _ (@List.length CommitD x12) (56 : Nat)) room47) →
 (br (@Decidable.decide (@LT.lt Int _ (Nat.cast x33 : Int) (Nat.cast (@List.length CommitD x12) : Int)) _)
 (br (@Decidable.decide ((@LE.le Int _ (0 : Int) (Nat.cast x33 : Int)) ∧
 (@LT.lt Int _ (Nat.cast x33 : Int) (Nat.cast (@List.length CommitD x12) : Int))) _)
 (br (@Decidable.decide ((@LE.le Int _ (0 : Int) (Nat.cast x31 : Int)) ∧
 (@LT.lt Int _ (Nat.cast x31 : Int) (Nat.cast (@List.length RefD (@refsC x28)) : Int))) _)
 (br (@BEq.beq Bs _ (@CommitD.ref (@List.getD CommitD x12 (@Int.toNat (Nat.cast x33 : Int)) (@CommitD.mk (0 : Int) (0 : Int) (@List.nil UInt8) (@List.nil ChangeD)))) (@RefD.name (@List.getD RefD (@refsC x28) (@Int.toNat (Nat.cast x31 : Int)) (@RefD.mk (@List.nil UInt8) (0 : Int)))))
 (br (@Decidable.decide ((@LE.le Int _ (0 : Int) (Nat.cast x33 : Int)) ∧
 (@LT.lt Int _ (Nat.cast x33 : Int) (Nat.cast (@List.length CommitD x12) : Int))) _)
 (∃ x34 : Nat,
 ((@Eq Int (@Go.IntKind.wrap Go.IntKind.i64 (@HAdd.hAdd Int Int Int _ (Nat.cast x33 : Int) (1 : Int))) (Nat.cast x34 : Int)) ∧
 ((@Eq Int (@CommitD.rev (@List.getD CommitD x12 (@Int.toNat (Nat.cast x33 : Int)) (@CommitD.mk (0 : Int) (0 : Int) (@List.nil UInt8) (@List.nil ChangeD)))) (@lastRef x12 (@RefD.name (@List.getD RefD (@refsC x28) (@Int.toNat (Nat.cast x31 : Int)) (@RefD.mk (@List.nil UInt8) (0 : Int)))) x34)) ∧
 ((@Nat.le x34 (@List.length CommitD x12)) ∧
 (@LT.lt Nat _ (@Nat.sub (@List.length CommitD x12) x34) (@Nat.sub (@List.length CommitD x12) x33))))))
 (Bad "check" "law.go:268"))
 (∃ x35 : Nat,
 ((@Eq Int (@Go.IntKind.wrap Go.IntKind.i64 (@HAdd.hAdd Int Int Int _ (Nat.cast x33 : Int) (1 : Int))) (Nat.cast x35 : Int)) ∧
 ((@Eq Int (@lastRef x12 (@RefD.name (@List.getD RefD (@refsC x28) (@Int.toNat (Nat.cast x31 : Int)) (@RefD.mk (@List.nil UInt8) (0 : Int)))) x33) (@lastRef x12 (@RefD.name (@List.getD RefD (@refsC x28) (@Int.toNat (Nat.cast x31 : Int)) (@RefD.mk (@List.nil UInt8) (0 : Int)))) x35)) ∧
 ((@Nat.le x35 (@List.length CommitD x12)) ∧
 (@LT.lt Nat _ (@Nat.sub (@List.length CommitD x12) x35) (@Nat.sub (@List.length CommitD x12) x33)))))))
 (Bad "check" "law.go:267"))
 (Bad "check" "law.go:267"))
 (br (@Decidable.decide ((@LE.le Int _ (0 : Int) (Nat.cast x31 : Int)) ∧
 (@LT.lt Int _ (Nat.cast x31 : Int) (Nat.cast (@List.length RefD (@refsC x28)) : Int))) _)
 (br (@bne Int _ (@lastRef x12 (@RefD.name (@List.getD RefD (@refsC x28) (@Int.toNat (Nat.cast x31 : Int)) (@RefD.mk (@List.nil UInt8) (0 : Int)))) x33) (@RefD.rev (@List.getD RefD (@refsC x28) (@Int.toNat (Nat.cast x31 : Int)) (@RefD.mk (@List.nil UInt8) (0 : Int)))))
 (@Eq Bool Bool.false Bool.true)
 (br (@Decidable.decide (@GT.gt Int _ (Nat.cast x31 : Int) (0 : Int)) _)
 (br (@Decidable.decide ((@LE.le Int _ (0 : Int) (@Go.IntKind.wrap Go.IntKind.i64 (@HSub.hSub Int Int Int _ (Nat.cast x31 : Int) (1 : Int)))) ∧
 (@LT.lt Int _ (@Go.IntKind.wrap Go.IntKind.i64 (@HSub.hSub Int Int Int _ (Nat.cast x31 : Int) (1 : Int))) (Nat.cast (@List.length RefD (@refsC x28)) : Int))) _)
 (br (@Decidable.decide ((@LE.le Int _ (0 : Int) (Nat.cast x31 : Int)) ∧
 (@LT.lt Int _ (Nat.cast x31 : Int) (Nat.cast (@List.length RefD (@refsC x28)) : Int))) _)
 (br (@Bool.not (@Go.Op.bytesLess (@RefD.name (@List.getD RefD (@refsC x28) (@Int.toNat (@Go.IntKind.wrap Go.IntKind.i64 (@HSub.hSub Int Int Int _ (Nat.cast x31 : Int) (1 : Int)))) (@RefD.mk (@List.nil UInt8) (0 : Int)))) (@RefD.name (@List.getD RefD (@refsC x28) (@Int.toNat (Nat.cast x31 : Int)) (@RefD.mk (@List.nil UInt8) (0 : Int))))))
 (@Eq Bool Bool.false Bool.true)
 (∃ x36 : Nat,
 ((@Eq Int (@Go.IntKind.wrap Go.IntKind.i64 (@HAdd.hAdd Int Int Int _ (Nat.cast x31 : Int) (1 : Int))) (Nat.cast x36 : Int)) ∧
 ((@Nat.le x36 (@List.length RefD (@refsC x28))) ∧
 (@LT.lt Nat _ (@Nat.sub (@List.length RefD (@refsC x28)) x36) (@Nat.sub (@List.length RefD (@refsC x28)) x31))))))
 (Bad "check" "law.go:271"))
 (Bad "check" "law.go:271"))
 (∃ x37 : Nat,
 ((@Eq Int (@Go.IntKind.wrap Go.IntKind.i64 (@HAdd.hAdd Int Int Int _ (Nat.cast x31 : Int) (1 : Int))) (Nat.cast x37 : Int)) ∧
 ((@Nat.le x37 (@List.length RefD (@refsC x28))) ∧
 (@LT.lt Nat _ (@Nat.sub (@List.length RefD (@refsC x28)) x37) (@Nat.sub (@List.length RefD (@refsC x28)) x31)))))))
 (Bad "check" "law.go:271")))))))
 ((∃ x38 : Nat,
 ((@Eq Int (1 : Int) (@HAdd.hAdd Int Int Int _ (1 : Int) (Nat.cast (@HMul.hMul _ _ _ _ x38 (@Int.toNat (@Go.IntKind.wrap Go.IntKind.i64 (@HAdd.hAdd Int Int Int _ (1 : Int) (@Go.IntKind.wrap Go.IntKind.i64 (Nat.cast (@BitVec.toNat (@Go.IntKind.bits Go.IntKind.i64) (@HAnd.hAnd (@BitVec (@Go.IntKind.bits Go.IntKind.i64)) (@BitVec (@Go.IntKind.bits Go.IntKind.i64)) (@BitVec (@Go.IntKind.bits Go.IntKind.i64)) _ (@BitVec.ofInt (@Go.IntKind.bits Go.IntKind.i64) (@RdsA.part x)) (@BitVec.ofInt (@Go.IntKind.bits Go.IntKind.i64) (7 : Int)))) : Int)))))) : Int))) ∧
 ((@Eq Nat (0 : Nat) (@List.length CommitD (@List.take CommitD (@HMul.hMul _ _ _ _ x38 (@Int.toNat (@Go.IntKind.wrap Go.IntKind.i64 (@HAdd.hAdd Int Int Int _ (1 : Int) (@Go.IntKind.wrap Go.IntKind.i64 (Nat.cast (@BitVec.toNat (@Go.IntKind.bits Go.IntKind.i64) (@HAnd.hAnd (@BitVec (@Go.IntKind.bits Go.IntKind.i64)) (@BitVec (@Go.IntKind.bits Go.IntKind.i64)) (@BitVec (@Go.IntKind.bits Go.IntKind.i64)) _ (@BitVec.ofInt (@Go.IntKind.bits Go.IntKind.i64) (@RdsA.part x)) (@BitVec.ofInt (@Go.IntKind.bits Go.IntKind.i64) (7 : Int)))) : Int)))))) x12))) ∧
 ((@Eq (@List CommitD) (@List.nil CommitD) (@List.take CommitD (@HMul.hMul _ _ _ _ x38 (@Int.toNat (@Go.IntKind.wrap Go.IntKind.i64 (@HAdd.hAdd Int Int Int _ (1 : Int) (@Go.IntKind.wrap Go.IntKind.i64 (Nat.cast (@BitVec.toNat (@Go.IntKind.bits Go.IntKind.i64) (@HAnd.hAnd (@BitVec (@Go.IntKind.bits Go.IntKind.i64)) (@BitVec (@Go.IntKind.bits Go.IntKind.i64)) (@BitVec (@Go.IntKind.bits Go.IntKind.i64)) _ (@BitVec.ofInt (@Go.IntKind.bits Go.IntKind.i64) (@RdsA.part x)) (@BitVec.ofInt (@Go.IntKind.bits Go.IntKind.i64) (7 : Int)))) : Int)))))) x12)) ∧
 ((@Eq Nat (0 : Nat) (0 : Nat)) ∧
 ((@Eq Nat (@List.length CommitD x28) (@List.length CommitD x28)) ∧
 ((@Eq TreeD (@treeC x28) (@treeC x28)) ∧
 ((@Eq (@List CommitD) x28 x28) ∧
 ((@Eq (@List (@Prod Bs Int)) (@kvC x28) (@kvC x28)) ∧
 (@Nat.le (@HMul.hMul _ _ _ _ x38 (@Int.toNat (@Go.IntKind.wrap Go.IntKind.i64 (@HAdd.hAdd Int Int Int _ (1 : Int) (@Go.IntKind.wrap Go.IntKind.i64 (Nat.cast (@BitVec.toNat (@Go.IntKind.bits Go.IntKind.i64) (@HAnd.hAnd (@BitVec (@Go.IntKind.bits Go.IntKind.i64)) (@BitVec (@Go.IntKind.bits Go.IntKind.i64)) (@BitVec (@Go.IntKind.bits Go.IntKind.i64)) _ (@BitVec.ofInt (@Go.IntKind.bits Go.IntKind.i64) (@RdsA.part x)) (@BitVec.ofInt (@Go.IntKind.bits Go.IntKind.i64) (7 : Int)))) : Int)))))) (@HAdd.hAdd _ _ _ _ (@List.length CommitD x12) (8 : Nat)))))))))))) ∧
 (∀ x39 : Nat,
 ((@Nat.le (@HMul.hMul _ _ _ _ x39 (@Int.toNat (@Go.IntKind.wrap Go.IntKind.i64 (@HAdd.hAdd Int Int Int _ (1 : Int) (@Go.IntKind.wrap Go.IntKind.i64 (Nat.cast (@BitVec.toNat (@Go.IntKind.bits Go.IntKind.i64) (@HAnd.hAnd (@BitVec (@Go.IntKind.bits Go.IntKind.i64)) (@BitVec (@Go.IntKind.bits Go.IntKind.i64)) (@BitVec (@Go.IntKind.bits Go.IntKind.i64)) _ (@BitVec.ofInt (@Go.IntKind.bits Go.IntKind.i64) (@RdsA.part x)) (@BitVec.ofInt (@Go.IntKind.bits Go.IntKind.i64) (7 : Int)))) : Int)))))) (@HAdd.hAdd _ _ _ _ (@List.length CommitD x12) (8 : Nat))) →
 ((@LE.le Nat _ (@HMul.hMul _ _ _ _ (@List.length CommitD x12) (56 : Nat)) room47) →
 (br (@Decidable.decide (@LE.le Int _ (@HAdd.hAdd Int Int Int _ (1 : Int) (Nat.cast (@HMul.hMul _ _ _ _ x39 (@Int.toNat (@Go.IntKind.wrap Go.IntKind.i64 (@HAdd.hAdd Int Int Int _ (1 : Int) (@Go.IntKind.wrap Go.IntKind.i64 (Nat.cast (@BitVec.toNat (@Go.IntKind.bits Go.IntKind.i64) (@HAnd.hAnd (@BitVec (@Go.IntKind.bits Go.IntKind.i64)) (@BitVec (@Go.IntKind.bits Go.IntKind.i64)) (@BitVec (@Go.IntKind.bits Go.IntKind.i64)) _ (@BitVec.ofInt (@Go.IntKind.bits Go.IntKind.i64) (@RdsA.part x)) (@BitVec.ofInt (@Go.IntKind.bits Go.IntKind.i64) (7 : Int)))) : Int)))))) : Int)) (Nat.cast (@List.length CommitD x12) : Int)) _)
 (∃ x40 : LogA,
 ((@Eq Int (@HAdd.hAdd Int Int Int _ (1 : Int) (Nat.cast (@HMul.hMul _ _ _ _ x39 (@Int.toNat (@Go.IntKind.wrap Go.IntKind.i64 (@HAdd.hAdd Int Int Int _ (1 : Int) (@Go.IntKind.wrap Go.IntKind.i64 (Nat.cast (@BitVec.toNat (@Go.IntKind.bits Go.IntKind.i64) (@HAnd.hAnd (@BitVec (@Go.IntKind.bits Go.IntKind.i64)) (@BitVec (@Go.IntKind.bits Go.IntKind.i64)) (@BitVec (@Go.IntKind.bits Go.IntKind.i64)) _ (@BitVec.ofInt (@Go.IntKind.bits Go.IntKind.i64) (@RdsA.part x)) (@BitVec.ofInt (@Go.IntKind.bits Go.IntKind.i64) (7 : Int)))) : Int)))))) : Int)) (@LogA.frm x40)) ∧
 ((@Eq Int (@Go.IntKind.wrap Go.IntKind.i64 (@HAdd.hAdd Int Int Int _ (1 : Int) (@Go.IntKind.wrap Go.IntKind.i64 (Nat.cast (@BitVec.toNat (@Go.IntKind.bits Go.IntKind.i64) (@HAnd.hAnd (@BitVec (@Go.IntKind.bits Go.IntKind.i64)) (@BitVec (@Go.IntKind.bits Go.IntKind.i64)) (@BitVec (@Go.IntKind.bits Go.IntKind.i64)) _ (@BitVec.ofInt (@Go.IntKind.bits Go.IntKind.i64) (@RdsA.part x)) (@BitVec.ofInt (@Go.IntKind.bits Go.IntKind.i64) (7 : Int)))) : Int)))) (@LogA.many x40)) ∧
 ((@Eq Nat (0 : Nat) (0 : Nat)) ∧
 ((@Eq Nat (@List.length CommitD x28) (@List.length CommitD (@LogA.C x40))) ∧
 ((@Eq TreeD (@treeC x28) (@treeC (@LogA.C x40))) ∧
 ((@Eq (@List CommitD) x28 (@LogA.C x40)) ∧
 ((@Eq (@List (@Prod Bs Int)) (@kvC x28) (@kvC (@LogA.C x40))) ∧
 (((@Eq Bool (@fewG (@LogA.C x40)) Bool.true) ∧
 (@Eq Bool (@inI (@LogA.frm x40)) Bool.true)) ∧
 (∀ x41 : Unit,
 (True →
 (((@Nat.le (@HMul.hMul _ _ _ _ (@List.length CommitD (@List.take CommitD (@HMul.hMul _ _ _ _ x39 (@Int.toNat (@Go.IntKind.wrap Go.IntKind.i64 (@HAdd.hAdd Int Int Int _ (1 : Int) (@Go.IntKind.wrap Go.IntKind.i64 (Nat.cast (@BitVec.toNat (@Go.IntKind.bits Go.IntKind.i64) (@HAnd.hAnd (@BitVec (@Go.IntKind.bits Go.IntKind.i64)) (@BitVec (@Go.IntKind.bits Go.IntKind.i64)) (@BitVec (@Go.IntKind.bits Go.IntKind.i64)) _ (@BitVec.ofInt (@Go.IntKind.bits Go.IntKind.i64) (@RdsA.part x)) (@BitVec.ofInt (@Go.IntKind.bits Go.IntKind.i64) (7 : Int)))) : Int)))))) x12)) (56 : Nat)) room47) ∧
 (@Nat.le (@HMul.hMul _ _ _ _ (@List.length CommitD (@VerdictD.commits (@logV x40))) (56 : Nat)) room47)) →
 (br (@Bool.and (@Bool.and Bool.true (@Decidable.decide (@LE.le Nat _ (@HAdd.hAdd _ _ _ _ (0 : Nat) (@List.length CommitD (@List.take CommitD (@HMul.hMul _ _ _ _ x39 (@Int.toNat (@Go.IntKind.wrap Go.IntKind.i64 (@HAdd.hAdd Int Int Int _ (1 : Int) (@Go.IntKind.wrap Go.IntKind.i64 (Nat.cast (@BitVec.toNat (@Go.IntKind.bits Go.IntKind.i64) (@HAnd.hAnd (@BitVec (@Go.IntKind.bits Go.IntKind.i64)) (@BitVec (@Go.IntKind.bits Go.IntKind.i64)) (@BitVec (@Go.IntKind.bits Go.IntKind.i64)) _ (@BitVec.ofInt (@Go.IntKind.bits Go.IntKind.i64) (@RdsA.part x)) (@BitVec.ofInt (@Go.IntKind.bits Go.IntKind.i64) (7 : Int)))) : Int)))))) x12))) (@List.length CommitD (@List.take CommitD (@HMul.hMul _ _ _ _ x39 (@Int.toNat (@Go.IntKind.wrap Go.IntKind.i64 (@HAdd.hAdd Int Int Int _ (1 : Int) (@Go.IntKind.wrap Go.IntKind.i64 (Nat.cast (@BitVec.toNat (@Go.IntKind.bits Go.IntKind.i64) (@HAnd.hAnd (@BitVec (@Go.IntKind.bits Go.IntKind.i64)) (@BitVec (@Go.IntKind.bits Go.IntKind.i64)) (@BitVec (@Go.IntKind.bits Go.IntKind.i64)) _ (@BitVec.ofInt (@Go.IntKind.bits Go.IntKind.i64) (@RdsA.part x)) (@BitVec.ofInt (@Go.IntKind.bits Go.IntKind.i64) (7 : Int)))) : Int)))))) x12))) _)) (@Decidable.decide (@LE.le Nat _ (@HMul.hMul _ _ _ _ (@HAdd.hAdd _ _ _ _ (@List.length CommitD (@List.take CommitD (@HMul.hMul _ _ _ _ x39 (@Int.toNat (@Go.IntKind.wrap Go.IntKind.i64 (@HAdd.hAdd Int Int Int _ (1 : Int) (@Go.IntKind.wrap Go.IntKind.i64 (Nat.cast (@BitVec.toNat (@Go.IntKind.bits Go.IntKind.i64) (@HAnd.hAnd (@BitVec (@Go.IntKind.bits Go.IntKind.i64)) (@BitVec (@Go.IntKind.bits Go.IntKind.i64)) (@BitVec (@Go.IntKind.bits Go.IntKind.i64)) _ (@BitVec.ofInt (@Go.IntKind.bits Go.IntKind.i64) (@RdsA.part x)) (@BitVec.ofInt (@Go.IntKind.bits Go.IntKind.i64) (7 : Int)))) : Int)))))) x12)) (@List.length CommitD (@VerdictD.commits (@logV x40)))) (56 : Nat)) room47) _))
 (∃ x42 : Nat,
 ((@Eq Int (@Go.IntKind.wrap Go.IntKind.i64 (@HAdd.hAdd Int Int Int _ (@HAdd.hAdd Int Int Int _ (1 : Int) (Nat.cast (@HMul.hMul _ _ _ _ x39 (@Int.toNat (@Go.IntKind.wrap Go.IntKind.i64 (@HAdd.hAdd Int Int Int _ (1 : Int) (@Go.IntKind.wrap Go.IntKind.i64 (Nat.cast (@BitVec.toNat (@Go.IntKind.bits Go.IntKind.i64) (@HAnd.hAnd (@BitVec (@Go.IntKind.bits Go.IntKind.i64)) (@BitVec (@Go.IntKind.bits Go.IntKind.i64)) (@BitVec (@Go.IntKind.bits Go.IntKind.i64)) _ (@BitVec.ofInt (@Go.IntKind.bits Go.IntKind.i64) (@RdsA.part x)) (@BitVec.ofInt (@Go.IntKind.bits Go.IntKind.i64) (7 : Int)))) : Int)))))) : Int)) (@Go.IntKind.wrap Go.IntKind.i64 (@HAdd.hAdd Int Int Int _ (1 : Int) (@Go.IntKind.wrap Go.IntKind.i64 (Nat.cast (@BitVec.toNat (@Go.IntKind.bits Go.IntKind.i64) (@HAnd.hAnd (@BitVec (@Go.IntKind.bits Go.IntKind.i64)) (@BitVec (@Go.IntKind.bits Go.IntKind.i64)) (@BitVec (@Go.IntKind.bits Go.IntKind.i64)) _ (@BitVec.ofInt (@Go.IntKind.bits Go.IntKind.i64) (@RdsA.part x)) (@BitVec.ofInt (@Go.IntKind.bits Go.IntKind.i64) (7 : Int)))) : Int)))))) (@HAdd.hAdd Int Int Int _ (1 : Int) (Nat.cast (@HMul.hMul _ _ _ _ x42 (@Int.toNat (@Go.IntKind.wrap Go.IntKind.i64 (@HAdd.hAdd Int Int Int _ (1 : Int) (@Go.IntKind.wrap Go.IntKind.i64 (Nat.cast (@BitVec.toNat (@Go.IntKind.bits Go.IntKind.i64) (@HAnd.hAnd (@BitVec (@Go.IntKind.bits Go.IntKind.i64)) (@BitVec (@Go.IntKind.bits Go.IntKind.i64)) (@BitVec (@Go.IntKind.bits Go.IntKind.i64)) _ (@BitVec.ofInt (@Go.IntKind.bits Go.IntKind.i64) (@RdsA.part x)) (@BitVec.ofInt (@Go.IntKind.bits Go.IntKind.i64) (7 : Int)))) : Int)))))) : Int))) ∧
 ((@Eq Nat (0 : Nat) (0 : Nat)) ∧
 ((@Eq Nat (@HAdd.hAdd _ _ _ _ (@List.length CommitD (@List.take CommitD (@HMul.hMul _ _ _ _ x39 (@Int.toNat (@Go.IntKind.wrap Go.IntKind.i64 (@HAdd.hAdd Int Int Int _ (1 : Int) (@Go.IntKind.wrap Go.IntKind.i64 (Nat.cast (@BitVec.toNat (@Go.IntKind.bits Go.IntKind.i64) (@HAnd.hAnd (@BitVec (@Go.IntKind.bits Go.IntKind.i64)) (@BitVec (@Go.IntKind.bits Go.IntKind.i64)) (@BitVec (@Go.IntKind.bits Go.IntKind.i64)) _ (@BitVec.ofInt (@Go.IntKind.bits Go.IntKind.i64) (@RdsA.part x)) (@BitVec.ofInt (@Go.IntKind.bits Go.IntKind.i64) (7 : Int)))) : Int)))))) x12)) (@List.length CommitD (@VerdictD.commits (@logV x40)))) (@List.length CommitD (@List.take CommitD (@HMul.hMul _ _ _ _ x42 (@Int.toNat (@Go.IntKind.wrap Go.IntKind.i64 (@HAdd.hAdd Int Int Int _ (1 : Int) (@Go.IntKind.wrap Go.IntKind.i64 (Nat.cast (@BitVec.toNat (@Go.IntKind.bits Go.IntKind.i64) (@HAnd.hAnd (@BitVec (@Go.IntKind.bits Go.IntKind.i64)) (@BitVec (@Go.IntKind.bits Go.IntKind.i64)) (@BitVec (@Go.IntKind.bits Go.IntKind.i64)) _ (@BitVec.ofInt (@Go.IntKind.bits Go.IntKind.i64) (@RdsA.part x)) (@BitVec.ofInt (@Go.IntKind.bits Go.IntKind.i64) (7 : Int)))) : Int)))))) x12))) ∧
 ((@Eq (@List CommitD) (@HAppend.hAppend (@List CommitD) (@List CommitD) (@List CommitD) _ (@List.take CommitD (@List.length CommitD (@List.take CommitD (@HMul.hMul _ _ _ _ x39 (@Int.toNat (@Go.IntKind.wrap Go.IntKind.i64 (@HAdd.hAdd Int Int Int _ (1 : Int) (@Go.IntKind.wrap Go.IntKind.i64 (Nat.cast (@BitVec.toNat (@Go.IntKind.bits Go.IntKind.i64) (@HAnd.hAnd (@BitVec (@Go.IntKind.bits Go.IntKind.i64)) (@BitVec (@Go.IntKind.bits Go.IntKind.i64)) (@BitVec (@Go.IntKind.bits Go.IntKind.i64)) _ (@BitVec.ofInt (@Go.IntKind.bits Go.IntKind.i64) (@RdsA.part x)) (@BitVec.ofInt (@Go.IntKind.bits Go.IntKind.i64) (7 : Int)))) : Int)))))) x12)) (@List.drop CommitD (0 : Nat) (@List.take CommitD (@HMul.hMul _ _ _ _ x39 (@Int.toNat (@Go.IntKind.wrap Go.IntKind.i64 (@HAdd.hAdd Int Int Int _ (1 : Int) (@Go.IntKind.wrap Go.IntKind.i64 (Nat.cast (@BitVec.toNat (@Go.IntKind.bits Go.IntKind.i64) (@HAnd.hAnd (@BitVec (@Go.IntKind.bits Go.IntKind.i64)) (@BitVec (@Go.IntKind.bits Go.IntKind.i64)) (@BitVec (@Go.IntKind.bits Go.IntKind.i64)) _ (@BitVec.ofInt (@Go.IntKind.bits Go.IntKind.i64) (@RdsA.part x)) (@BitVec.ofInt (@Go.IntKind.bits Go.IntKind.i64) (7 : Int)))) : Int)))))) x12))) (@VerdictD.commits (@logV x40))) (@List.take CommitD (@HMul.hMul _ _ _ _ x42 (@Int.toNat (@Go.IntKind.wrap Go.IntKind.i64 (@HAdd.hAdd Int Int Int _ (1 : Int) (@Go.IntKind.wrap Go.IntKind.i64 (Nat.cast (@BitVec.toNat (@Go.IntKind.bits Go.IntKind.i64) (@HAnd.hAnd (@BitVec (@Go.IntKind.bits Go.IntKind.i64)) (@BitVec (@Go.IntKind.bits Go.IntKind.i64)) (@BitVec (@Go.IntKind.bits Go.IntKind.i64)) _ (@BitVec.ofInt (@Go.IntKind.bits Go.IntKind.i64) (@RdsA.part x)) (@BitVec.ofInt (@Go.IntKind.bits Go.IntKind.i64) (7 : Int)))) : Int)))))) x12)) ∧
 ((@Eq Nat (0 : Nat) (0 : Nat)) ∧
 ((@Eq Nat (@List.length CommitD (@LogA.C x40)) (@List.length CommitD x28)) ∧
 ((@Eq TreeD (@treeC (@LogA.C x40)) (@treeC x28)) ∧
 ((@Eq (@List CommitD) (@LogA.C x40) x28) ∧
 ((@Eq (@List (@Prod Bs Int)) (@kvC (@LogA.C x40)) (@kvC x28)) ∧
 ((@Nat.le (@HMul.hMul _ _ _ _ x42 (@Int.toNat (@Go.IntKind.wrap Go.IntKind.i64 (@HAdd.hAdd Int Int Int _ (1 : Int) (@Go.IntKind.wrap Go.IntKind.i64 (Nat.cast (@BitVec.toNat (@Go.IntKind.bits Go.IntKind.i64) (@HAnd.hAnd (@BitVec (@Go.IntKind.bits Go.IntKind.i64)) (@BitVec (@Go.IntKind.bits Go.IntKind.i64)) (@BitVec (@Go.IntKind.bits Go.IntKind.i64)) _ (@BitVec.ofInt (@Go.IntKind.bits Go.IntKind.i64) (@RdsA.part x)) (@BitVec.ofInt (@Go.IntKind.bits Go.IntKind.i64) (7 : Int)))) : Int)))))) (@HAdd.hAdd _ _ _ _ (@List.length CommitD x12) (8 : Nat))) ∧
 (@LT.lt Nat _ (@Nat.sub (@HAdd.hAdd _ _ _ _ (@List.length CommitD x12) (9 : Nat)) x42) (@Nat.sub (@HAdd.hAdd _ _ _ _ (@List.length CommitD x12) (9 : Nat)) x39)))))))))))))
 (Bad "check" "law.go:278"))))))))))))))
 (∃ x43 : Com2,
 ((@LE.le Nat _ (@HAdd.hAdd _ _ _ _ (0 : Nat) (@List.length CommitD (@List.take CommitD (@HMul.hMul _ _ _ _ x39 (@Int.toNat (@Go.IntKind.wrap Go.IntKind.i64 (@HAdd.hAdd Int Int Int _ (1 : Int) (@Go.IntKind.wrap Go.IntKind.i64 (Nat.cast (@BitVec.toNat (@Go.IntKind.bits Go.IntKind.i64) (@HAnd.hAnd (@BitVec (@Go.IntKind.bits Go.IntKind.i64)) (@BitVec (@Go.IntKind.bits Go.IntKind.i64)) (@BitVec (@Go.IntKind.bits Go.IntKind.i64)) _ (@BitVec.ofInt (@Go.IntKind.bits Go.IntKind.i64) (@RdsA.part x)) (@BitVec.ofInt (@Go.IntKind.bits Go.IntKind.i64) (7 : Int)))) : Int)))))) x12))) (@List.length CommitD (@List.take CommitD (@HMul.hMul _ _ _ _ x39 (@Int.toNat (@Go.IntKind.wrap Go.IntKind.i64 (@HAdd.hAdd Int Int Int _ (1 : Int) (@Go.IntKind.wrap Go.IntKind.i64 (Nat.cast (@BitVec.toNat (@Go.IntKind.bits Go.IntKind.i64) (@HAnd.hAnd (@BitVec (@Go.IntKind.bits Go.IntKind.i64)) (@BitVec (@Go.IntKind.bits Go.IntKind.i64)) (@BitVec (@Go.IntKind.bits Go.IntKind.i64)) _ (@BitVec.ofInt (@Go.IntKind.bits Go.IntKind.i64) (@RdsA.part x)) (@BitVec.ofInt (@Go.IntKind.bits Go.IntKind.i64) (7 : Int)))) : Int)))))) x12))) ∧
 ((@Eq (@List CommitD) (@List.take CommitD (@List.length CommitD (@List.take CommitD (@HMul.hMul _ _ _ _ x39 (@Int.toNat (@Go.IntKind.wrap Go.IntKind.i64 (@HAdd.hAdd Int Int Int _ (1 : Int) (@Go.IntKind.wrap Go.IntKind.i64 (Nat.cast (@BitVec.toNat (@Go.IntKind.bits Go.IntKind.i64) (@HAnd.hAnd (@BitVec (@Go.IntKind.bits Go.IntKind.i64)) (@BitVec (@Go.IntKind.bits Go.IntKind.i64)) (@BitVec (@Go.IntKind.bits Go.IntKind.i64)) _ (@BitVec.ofInt (@Go.IntKind.bits Go.IntKind.i64) (@RdsA.part x)) (@BitVec.ofInt (@Go.IntKind.bits Go.IntKind.i64) (7 : Int)))) : Int)))))) x12)) (@List.drop CommitD (0 : Nat) (@List.take CommitD (@HMul.hMul _ _ _ _ x39 (@Int.toNat (@Go.IntKind.wrap Go.IntKind.i64 (@HAdd.hAdd Int Int Int _ (1 : Int) (@Go.IntKind.wrap Go.IntKind.i64 (Nat.cast (@BitVec.toNat (@Go.IntKind.bits Go.IntKind.i64) (@HAnd.hAnd (@BitVec (@Go.IntKind.bits Go.IntKind.i64)) (@BitVec (@Go.IntKind.bits Go.IntKind.i64)) (@BitVec (@Go.IntKind.bits Go.IntKind.i64)) _ (@BitVec.ofInt (@Go.IntKind.bits Go.IntKind.i64) (@RdsA.part x)) (@BitVec.ofInt (@Go.IntKind.bits Go.IntKind.i64) (7 : Int)))) : Int)))))) x12))) (@Com2.a x43)) ∧
 ((@Eq (@List CommitD) x12 (@Com2.b x43)) ∧
 (True ∧
 (∀ x44 : Unit,
 (True →
 (@Eq Bool (@sameM (@Com2.a x43) (@Com2.b x43)) Bool.true))))))))))))))))))))))))))))))))))))))))))))))
 (∃ x45 : (@List CommitD),
 ((@Eq Nat (0 : Nat) (0 : Nat)) ∧
 ((@Eq Nat (@List.length CommitD (@ReadA.C x24)) (@List.length CommitD x45)) ∧
 ((@Eq TreeD (@treeC (@ReadA.C x24)) (@treeC x45)) ∧
 ((@Eq (@List CommitD) (@ReadA.C x24) x45) ∧
 ((@Eq (@List (@Prod Bs Int)) (@kvC (@ReadA.C x24)) (@kvC x45)) ∧
 ((@Eq Bool (@fewG x45) Bool.true) ∧
 (∀ x46 : Unit,
 (True →
 ((∃ x47 : Nat,
 ((@Eq Int (0 : Int) (Nat.cast x47 : Int)) ∧
 (@Nat.le x47 (@List.length RefD (@refsC x45))))) ∧
 (∀ x48 : Nat,
 ((@Nat.le x48 (@List.length RefD (@refsC x45))) →
 ((@LE.le Nat _ (@HMul.hMul _ _ _ _ (@List.length RefD (@refsC x45)) (24 : Nat)) room47) →
 (br (@Decidable.decide (@LT.lt Int _ (Nat.cast x48 : Int) (Nat.cast (@List.length RefD (@refsC x45)) : Int)) _)
 ((∃ x49 : Nat,
 ((@Eq Int (0 : Int) (Nat.cast x49 : Int)) ∧
 ((@Eq Int (0 : Int) (@lastRef x12 (@RefD.name (@List.getD RefD (@refsC x45) (@Int.toNat (Nat.cast x48 : Int)) (@RefD.mk (@List.nil UInt8) (0 : Int)))) x49)) ∧
 (@Nat.le x49 (@List.length CommitD x12))))) ∧
 (∀ x50 : Nat,
 ((@Nat.le x50 (@List.length CommitD x12)) →
 ((@LE.le Nat _ (@HMul.hMul _ _ _ _ (@List.length CommitD x12) (56 : Nat)) room47) →
 (br (@Decidable.decide (@LT.lt Int _ (Nat.cast x50 : Int) (Nat.cast (@List.length CommitD x12) : Int)) _)
 (br (@Decidable.decide ((@LE.le Int _ (0 : Int) (Nat.cast x50 : Int)) ∧
 (@LT.lt Int _ (Nat.cast x50 : Int) (Nat.cast (@List.length CommitD x12) : Int))) _)
 (br (@Decidable.decide ((@LE.le Int _ (0 : Int) (Nat.cast x48 : Int)) ∧
 (@LT.lt Int _ (Nat.cast x48 : Int) (Nat.cast (@List.length RefD (@refsC x45)) : Int))) _)
 (br (@BEq.beq Bs _ (@CommitD.ref (@List.getD CommitD x12 (@Int.toNat (Nat.cast x50 : Int)) (@CommitD.mk (0 : Int) (0 : Int) (@List.nil UInt8) (@List.nil ChangeD)))) (@RefD.name (@List.getD RefD (@refsC x45) (@Int.toNat (Nat.cast x48 : Int)) (@RefD.mk (@List.nil UInt8) (0 : Int)))))
 (br (@Decidable.decide ((@LE.le Int _ (0 : Int) (Nat.cast x50 : Int)) ∧
 (@LT.lt Int _ (Nat.cast x50 : Int) (Nat.cast (@List.length CommitD x12) : Int))) _)
 (∃ x51 : Nat,
 ((@Eq Int (@Go.IntKind.wrap Go.IntKind.i64 (@HAdd.hAdd Int Int Int _ (Nat.cast x50 : Int) (1 : Int))) (Nat.cast x51 : Int)) ∧
 ((@Eq Int (@CommitD.rev (@List.getD CommitD x12 (@Int.toNat (Nat.cast x50 : Int)) (@CommitD.mk (0 : Int) (0 : Int) (@List.nil UInt8) (@List.nil ChangeD)))) (@lastRef x12 (@RefD.name (@List.getD RefD (@refsC x45) (@Int.toNat (Nat.cast x48 : Int)) (@RefD.mk (@List.nil UInt8) (0 : Int)))) x51)) ∧
 ((@Nat.le x51 (@List.length CommitD x12)) ∧
 (@LT.lt Nat _ (@Nat.sub (@List.length CommitD x12) x51) (@Nat.sub (@List.length CommitD x12) x50))))))
 (Bad "check" "law.go:268"))
 (∃ x52 : Nat,
 ((@Eq Int (@Go.IntKind.wrap Go.IntKind.i64 (@HAdd.hAdd Int Int Int _ (Nat.cast x50 : Int) (1 : Int))) (Nat.cast x52 : Int)) ∧
 ((@Eq Int (@lastRef x12 (@RefD.name (@List.getD RefD (@refsC x45) (@Int.toNat (Nat.cast x48 : Int)) (@RefD.mk (@List.nil UInt8) (0 : Int)))) x50) (@lastRef x12 (@RefD.name (@List.getD RefD (@refsC x45) (@Int.toNat (Nat.cast x48 : Int)) (@RefD.mk (@List.nil UInt8) (0 : Int)))) x52)) ∧
 ((@Nat.le x52 (@List.length CommitD x12)) ∧
 (@LT.lt Nat _ (@Nat.sub (@List.length CommitD x12) x52) (@Nat.sub (@List.length CommitD x12) x50)))))))
 (Bad "check" "law.go:267"))
 (Bad "check" "law.go:267"))
 (br (@Decidable.decide ((@LE.le Int _ (0 : Int) (Nat.cast x48 : Int)) ∧
 (@LT.lt Int _ (Nat.cast x48 : Int) (Nat.cast (@List.length RefD (@refsC x45)) : Int))) _)
 (br (@bne Int _ (@lastRef x12 (@RefD.name (@List.getD RefD (@refsC x45) (@Int.toNat (Nat.cast x48 : Int)) (@RefD.mk (@List.nil UInt8) (0 : Int)))) x50) (@RefD.rev (@List.getD RefD (@refsC x45) (@Int.toNat (Nat.cast x48 : Int)) (@RefD.mk (@List.nil UInt8) (0 : Int)))))
 (@Eq Bool Bool.false Bool.true)
 (br (@Decidable.decide (@GT.gt Int _ (Nat.cast x48 : Int) (0 : Int)) _)
 (br (@Decidable.decide ((@LE.le Int _ (0 : Int) (@Go.IntKind.wrap Go.IntKind.i64 (@HSub.hSub Int Int Int _ (Nat.cast x48 : Int) (1 : Int)))) ∧
 (@LT.lt Int _ (@Go.IntKind.wrap Go.IntKind.i64 (@HSub.hSub Int Int Int _ (Nat.cast x48 : Int) (1 : Int))) (Nat.cast (@List.length RefD (@refsC x45)) : Int))) _)
 (br (@Decidable.decide ((@LE.le Int _ (0 : Int) (Nat.cast x48 : Int)) ∧
 (@LT.lt Int _ (Nat.cast x48 : Int) (Nat.cast (@List.length RefD (@refsC x45)) : Int))) _)
 (br (@Bool.not (@Go.Op.bytesLess (@RefD.name (@List.getD RefD (@refsC x45) (@Int.toNat (@Go.IntKind.wrap Go.IntKind.i64 (@HSub.hSub Int Int Int _ (Nat.cast x48 : Int) (1 : Int)))) (@RefD.mk (@List.nil UInt8) (0 : Int)))) (@RefD.name (@List.getD RefD (@refsC x45) (@Int.toNat (Nat.cast x48 : Int)) (@RefD.mk (@List.nil UInt8) (0 : Int))))))
 (@Eq Bool Bool.false Bool.true)
 (∃ x53 : Nat,
 ((@Eq Int (@Go.IntKind.wrap Go.IntKind.i64 (@HAdd.hAdd Int Int Int _ (Nat.cast x48 : Int) (1 : Int))) (Nat.cast x53 : Int)) ∧
 ((@Nat.le x53 (@List.length RefD (@refsC x45))) ∧
 (@LT.lt Nat _ (@Nat.sub (@List.length RefD (@refsC x45)) x53) (@Nat.sub (@List.length RefD (@refsC x45)) x48))))))
 (Bad "check" "law.go:271"))
 (Bad "check" "law.go:271"))
 (∃ x54 : Nat,
 ((@Eq Int (@Go.IntKind.wrap Go.IntKind.i64 (@HAdd.hAdd Int Int Int _ (Nat.cast x48 : Int) (1 : Int))) (Nat.cast x54 : Int)) ∧
 ((@Nat.le x54 (@List.length RefD (@refsC x45))) ∧
 (@LT.lt Nat _ (@Nat.sub (@List.length RefD (@refsC x45)) x54) (@Nat.sub (@List.length RefD (@refsC x45)) x48)))))))
 (Bad "check" "law.go:271")))))))
 ((∃ x55 : Nat,
 ((@Eq Int (1 : Int) (@HAdd.hAdd Int Int Int _ (1 : Int) (Nat.cast (@HMul.hMul _ _ _ _ x55 (@Int.toNat (@Go.IntKind.wrap Go.IntKind.i64 (@HAdd.hAdd Int Int Int _ (1 : Int) (@Go.IntKind.wrap Go.IntKind.i64 (Nat.cast (@BitVec.toNat (@Go.IntKind.bits Go.IntKind.i64) (@HAnd.hAnd (@BitVec (@Go.IntKind.bits Go.IntKind.i64)) (@BitVec (@Go.IntKind.bits Go.IntKind.i64)) (@BitVec (@Go.IntKind.bits Go.IntKind.i64)) _ (@BitVec.ofInt (@Go.IntKind.bits Go.IntKind.i64) (@RdsA.part x)) (@BitVec.ofInt (@Go.IntKind.bits Go.IntKind.i64) (7 : Int)))) : Int)))))) : Int))) ∧
 ((@Eq Nat (0 : Nat) (@List.length CommitD (@List.take CommitD (@HMul.hMul _ _ _ _ x55 (@Int.toNat (@Go.IntKind.wrap Go.IntKind.i64 (@HAdd.hAdd Int Int Int _ (1 : Int) (@Go.IntKind.wrap Go.IntKind.i64 (Nat.cast (@BitVec.toNat (@Go.IntKind.bits Go.IntKind.i64) (@HAnd.hAnd (@BitVec (@Go.IntKind.bits Go.IntKind.i64)) (@BitVec (@Go.IntKind.bits Go.IntKind.i64)) (@BitVec (@Go.IntKind.bits Go.IntKind.i64)) _ (@BitVec.ofInt (@Go.IntKind.bits Go.IntKind.i64) (@RdsA.part x)) (@BitVec.ofInt (@Go.IntKind.bits Go.IntKind.i64) (7 : Int)))) : Int)))))) x12))) ∧
 ((@Eq (@List CommitD) (@List.nil CommitD) (@List.take CommitD (@HMul.hMul _ _ _ _ x55 (@Int.toNat (@Go.IntKind.wrap Go.IntKind.i64 (@HAdd.hAdd Int Int Int _ (1 : Int) (@Go.IntKind.wrap Go.IntKind.i64 (Nat.cast (@BitVec.toNat (@Go.IntKind.bits Go.IntKind.i64) (@HAnd.hAnd (@BitVec (@Go.IntKind.bits Go.IntKind.i64)) (@BitVec (@Go.IntKind.bits Go.IntKind.i64)) (@BitVec (@Go.IntKind.bits Go.IntKind.i64)) _ (@BitVec.ofInt (@Go.IntKind.bits Go.IntKind.i64) (@RdsA.part x)) (@BitVec.ofInt (@Go.IntKind.bits Go.IntKind.i64) (7 : Int)))) : Int)))))) x12)) ∧
 ((@Eq Nat (0 : Nat) (0 : Nat)) ∧
 ((@Eq Nat (@List.length CommitD x45) (@List.length CommitD x45)) ∧
 ((@Eq TreeD (@treeC x45) (@treeC x45)) ∧
 ((@Eq (@List CommitD) x45 x45) ∧
 ((@Eq (@List (@Prod Bs Int)) (@kvC x45) (@kvC x45)) ∧
 (@Nat.le (@HMul.hMul _ _ _ _ x55 (@Int.toNat (@Go.IntKind.wrap Go.IntKind.i64 (@HAdd.hAdd Int Int Int _ (1 : Int) (@Go.IntKind.wrap Go.IntKind.i64 (Nat.cast (@BitVec.toNat (@Go.IntKind.bits Go.IntKind.i64) (@HAnd.hAnd (@BitVec (@Go.IntKind.bits Go.IntKind.i64)) (@BitVec (@Go.IntKind.bits Go.IntKind.i64)) (@BitVec (@Go.IntKind.bits Go.IntKind.i64)) _ (@BitVec.ofInt (@Go.IntKind.bits Go.IntKind.i64) (@RdsA.part x)) (@BitVec.ofInt (@Go.IntKind.bits Go.IntKind.i64) (7 : Int)))) : Int)))))) (@HAdd.hAdd _ _ _ _ (@List.length CommitD x12) (8 : Nat)))))))))))) ∧
 (∀ x56 : Nat,
 ((@Nat.le (@HMul.hMul _ _ _ _ x56 (@Int.toNat (@Go.IntKind.wrap Go.IntKind.i64 (@HAdd.hAdd Int Int Int _ (1 : Int) (@Go.IntKind.wrap Go.IntKind.i64 (Nat.cast (@BitVec.toNat (@Go.IntKind.bits Go.IntKind.i64) (@HAnd.hAnd (@BitVec (@Go.IntKind.bits Go.IntKind.i64)) (@BitVec (@Go.IntKind.bits Go.IntKind.i64)) (@BitVec (@Go.IntKind.bits Go.IntKind.i64)) _ (@BitVec.ofInt (@Go.IntKind.bits Go.IntKind.i64) (@RdsA.part x)) (@BitVec.ofInt (@Go.IntKind.bits Go.IntKind.i64) (7 : Int)))) : Int)))))) (@HAdd.hAdd _ _ _ _ (@List.length CommitD x12) (8 : Nat))) →
 ((@LE.le Nat _ (@HMul.hMul _ _ _ _ (@List.length CommitD x12) (56 : Nat)) room47) →
 (br (@Decidable.decide (@LE.le Int _ (@HAdd.hAdd Int Int Int _ (1 : Int) (Nat.cast (@HMul.hMul _ _ _ _ x56 (@Int.toNat (@Go.IntKind.wrap Go.IntKind.i64 (@HAdd.hAdd Int Int Int _ (1 : Int) (@Go.IntKind.wrap Go.IntKind.i64 (Nat.cast (@BitVec.toNat (@Go.IntKind.bits Go.IntKind.i64) (@HAnd.hAnd (@BitVec (@Go.IntKind.bits Go.IntKind.i64)) (@BitVec (@Go.IntKind.bits Go.IntKind.i64)) (@BitVec (@Go.IntKind.bits Go.IntKind.i64)) _ (@BitVec.ofInt (@Go.IntKind.bits Go.IntKind.i64) (@RdsA.part x)) (@BitVec.ofInt (@Go.IntKind.bits Go.IntKind.i64) (7 : Int)))) : Int)))))) : Int)) (Nat.cast (@List.length CommitD x12) : Int)) _)
 (∃ x57 : LogA,
 ((@Eq Int (@HAdd.hAdd Int Int Int _ (1 : Int) (Nat.cast (@HMul.hMul _ _ _ _ x56 (@Int.toNat (@Go.IntKind.wrap Go.IntKind.i64 (@HAdd.hAdd Int Int Int _ (1 : Int) (@Go.IntKind.wrap Go.IntKind.i64 (Nat.cast (@BitVec.toNat (@Go.IntKind.bits Go.IntKind.i64) (@HAnd.hAnd (@BitVec (@Go.IntKind.bits Go.IntKind.i64)) (@BitVec (@Go.IntKind.bits Go.IntKind.i64)) (@BitVec (@Go.IntKind.bits Go.IntKind.i64)) _ (@BitVec.ofInt (@Go.IntKind.bits Go.IntKind.i64) (@RdsA.part x)) (@BitVec.ofInt (@Go.IntKind.bits Go.IntKind.i64) (7 : Int)))) : Int)))))) : Int)) (@LogA.frm x57)) ∧
 ((@Eq Int (@Go.IntKind.wrap Go.IntKind.i64 (@HAdd.hAdd Int Int Int _ (1 : Int) (@Go.IntKind.wrap Go.IntKind.i64 (Nat.cast (@BitVec.toNat (@Go.IntKind.bits Go.IntKind.i64) (@HAnd.hAnd (@BitVec (@Go.IntKind.bits Go.IntKind.i64)) (@BitVec (@Go.IntKind.bits Go.IntKind.i64)) (@BitVec (@Go.IntKind.bits Go.IntKind.i64)) _ (@BitVec.ofInt (@Go.IntKind.bits Go.IntKind.i64) (@RdsA.part x)) (@BitVec.ofInt (@Go.IntKind.bits Go.IntKind.i64) (7 : Int)))) : Int)))) (@LogA.many x57)) ∧
 ((@Eq Nat (0 : Nat) (0 : Nat)) ∧
 ((@Eq Nat (@List.length CommitD x45) (@List.length CommitD (@LogA.C x57))) ∧
 ((@Eq TreeD (@treeC x45) (@treeC (@LogA.C x57))) ∧
 ((@Eq (@List CommitD) x45 (@LogA.C x57)) ∧
 ((@Eq (@List (@Prod Bs Int)) (@kvC x45) (@kvC (@LogA.C x57))) ∧
 (((@Eq Bool (@fewG (@LogA.C x57)) Bool.true) ∧
 (@Eq Bool (@inI (@LogA.frm x57)) Bool.true)) ∧
 (∀ x58 : Unit,
 (True →
 (((@Nat.le (@HMul.hMul _ _ _ _ (@List.length CommitD (@List.take CommitD (@HMul.hMul _ _ _ _ x56 (@Int.toNat (@Go.IntKind.wrap Go.IntKind.i64 (@HAdd.hAdd Int Int Int _ (1 : Int) (@Go.IntKind.wrap Go.IntKind.i64 (Nat.cast (@BitVec.toNat (@Go.IntKind.bits Go.IntKind.i64) (@HAnd.hAnd (@BitVec (@Go.IntKind.bits Go.IntKind.i64)) (@BitVec (@Go.IntKind.bits Go.IntKind.i64)) (@BitVec (@Go.IntKind.bits Go.IntKind.i64)) _ (@BitVec.ofInt (@Go.IntKind.bits Go.IntKind.i64) (@RdsA.part x)) (@BitVec.ofInt (@Go.IntKind.bits Go.IntKind.i64) (7 : Int)))) : Int)))))) x12)) (56 : Nat)) room47) ∧
 (@Nat.le (@HMul.hMul _ _ _ _ (@List.length CommitD (@VerdictD.commits (@logV x57))) (56 : Nat)) room47)) →
 (br (@Bool.and (@Bool.and Bool.true (@Decidable.decide (@LE.le Nat _ (@HAdd.hAdd _ _ _ _ (0 : Nat) (@List.length CommitD (@List.take CommitD (@HMul.hMul _ _ _ _ x56 (@Int.toNat (@Go.IntKind.wrap Go.IntKind.i64 (@HAdd.hAdd Int Int Int _ (1 : Int) (@Go.IntKind.wrap Go.IntKind.i64 (Nat.cast (@BitVec.toNat (@Go.IntKind.bits Go.IntKind.i64) (@HAnd.hAnd (@BitVec (@Go.IntKind.bits Go.IntKind.i64)) (@BitVec (@Go.IntKind.bits Go.IntKind.i64)) (@BitVec (@Go.IntKind.bits Go.IntKind.i64)) _ (@BitVec.ofInt (@Go.IntKind.bits Go.IntKind.i64) (@RdsA.part x)) (@BitVec.ofInt (@Go.IntKind.bits Go.IntKind.i64) (7 : Int)))) : Int)))))) x12))) (@List.length CommitD (@List.take CommitD (@HMul.hMul _ _ _ _ x56 (@Int.toNat (@Go.IntKind.wrap Go.IntKind.i64 (@HAdd.hAdd Int Int Int _ (1 : Int) (@Go.IntKind.wrap Go.IntKind.i64 (Nat.cast (@BitVec.toNat (@Go.IntKind.bits Go.IntKind.i64) (@HAnd.hAnd (@BitVec (@Go.IntKind.bits Go.IntKind.i64)) (@BitVec (@Go.IntKind.bits Go.IntKind.i64)) (@BitVec (@Go.IntKind.bits Go.IntKind.i64)) _ (@BitVec.ofInt (@Go.IntKind.bits Go.IntKind.i64) (@RdsA.part x)) (@BitVec.ofInt (@Go.IntKind.bits Go.IntKind.i64) (7 : Int)))) : Int)))))) x12))) _)) (@Decidable.decide (@LE.le Nat _ (@HMul.hMul _ _ _ _ (@HAdd.hAdd _ _ _ _ (@List.length CommitD (@List.take CommitD (@HMul.hMul _ _ _ _ x56 (@Int.toNat (@Go.IntKind.wrap Go.IntKind.i64 (@HAdd.hAdd Int Int Int _ (1 : Int) (@Go.IntKind.wrap Go.IntKind.i64 (Nat.cast (@BitVec.toNat (@Go.IntKind.bits Go.IntKind.i64) (@HAnd.hAnd (@BitVec (@Go.IntKind.bits Go.IntKind.i64)) (@BitVec (@Go.IntKind.bits Go.IntKind.i64)) (@BitVec (@Go.IntKind.bits Go.IntKind.i64)) _ (@BitVec.ofInt (@Go.IntKind.bits Go.IntKind.i64) (@RdsA.part x)) (@BitVec.ofInt (@Go.IntKind.bits Go.IntKind.i64) (7 : Int)))) : Int)))))) x12)) (@List.length CommitD (@VerdictD.commits (@logV x57)))) (56 : Nat)) room47) _))
 (∃ x59 : Nat,
 ((@Eq Int (@Go.IntKind.wrap Go.IntKind.i64 (@HAdd.hAdd Int Int Int _ (@HAdd.hAdd Int Int Int _ (1 : Int) (Nat.cast (@HMul.hMul _ _ _ _ x56 (@Int.toNat (@Go.IntKind.wrap Go.IntKind.i64 (@HAdd.hAdd Int Int Int _ (1 : Int) (@Go.IntKind.wrap Go.IntKind.i64 (Nat.cast (@BitVec.toNat (@Go.IntKind.bits Go.IntKind.i64) (@HAnd.hAnd (@BitVec (@Go.IntKind.bits Go.IntKind.i64)) (@BitVec (@Go.IntKind.bits Go.IntKind.i64)) (@BitVec (@Go.IntKind.bits Go.IntKind.i64)) _ (@BitVec.ofInt (@Go.IntKind.bits Go.IntKind.i64) (@RdsA.part x)) (@BitVec.ofInt (@Go.IntKind.bits Go.IntKind.i64) (7 : Int)))) : Int)))))) : Int)) (@Go.IntKind.wrap Go.IntKind.i64 (@HAdd.hAdd Int Int Int _ (1 : Int) (@Go.IntKind.wrap Go.IntKind.i64 (Nat.cast (@BitVec.toNat (@Go.IntKind.bits Go.IntKind.i64) (@HAnd.hAnd (@BitVec (@Go.IntKind.bits Go.IntKind.i64)) (@BitVec (@Go.IntKind.bits Go.IntKind.i64)) (@BitVec (@Go.IntKind.bits Go.IntKind.i64)) _ (@BitVec.ofInt (@Go.IntKind.bits Go.IntKind.i64) (@RdsA.part x)) (@BitVec.ofInt (@Go.IntKind.bits Go.IntKind.i64) (7 : Int)))) : Int)))))) (@HAdd.hAdd Int Int Int _ (1 : Int) (Nat.cast (@HMul.hMul _ _ _ _ x59 (@Int.toNat (@Go.IntKind.wrap Go.IntKind.i64 (@HAdd.hAdd Int Int Int _ (1 : Int) (@Go.IntKind.wrap Go.IntKind.i64 (Nat.cast (@BitVec.toNat (@Go.IntKind.bits Go.IntKind.i64) (@HAnd.hAnd (@BitVec (@Go.IntKind.bits Go.IntKind.i64)) (@BitVec (@Go.IntKind.bits Go.IntKind.i64)) (@BitVec (@Go.IntKind.bits Go.IntKind.i64)) _ (@BitVec.ofInt (@Go.IntKind.bits Go.IntKind.i64) (@RdsA.part x)) (@BitVec.ofInt (@Go.IntKind.bits Go.IntKind.i64) (7 : Int)))) : Int)))))) : Int))) ∧
 ((@Eq Nat (0 : Nat) (0 : Nat)) ∧
 ((@Eq Nat (@HAdd.hAdd _ _ _ _ (@List.length CommitD (@List.take CommitD (@HMul.hMul _ _ _ _ x56 (@Int.toNat (@Go.IntKind.wrap Go.IntKind.i64 (@HAdd.hAdd Int Int Int _ (1 : Int) (@Go.IntKind.wrap Go.IntKind.i64 (Nat.cast (@BitVec.toNat (@Go.IntKind.bits Go.IntKind.i64) (@HAnd.hAnd (@BitVec (@Go.IntKind.bits Go.IntKind.i64)) (@BitVec (@Go.IntKind.bits Go.IntKind.i64)) (@BitVec (@Go.IntKind.bits Go.IntKind.i64)) _ (@BitVec.ofInt (@Go.IntKind.bits Go.IntKind.i64) (@RdsA.part x)) (@BitVec.ofInt (@Go.IntKind.bits Go.IntKind.i64) (7 : Int)))) : Int)))))) x12)) (@List.length CommitD (@VerdictD.commits (@logV x57)))) (@List.length CommitD (@List.take CommitD (@HMul.hMul _ _ _ _ x59 (@Int.toNat (@Go.IntKind.wrap Go.IntKind.i64 (@HAdd.hAdd Int Int Int _ (1 : Int) (@Go.IntKind.wrap Go.IntKind.i64 (Nat.cast (@BitVec.toNat (@Go.IntKind.bits Go.IntKind.i64) (@HAnd.hAnd (@BitVec (@Go.IntKind.bits Go.IntKind.i64)) (@BitVec (@Go.IntKind.bits Go.IntKind.i64)) (@BitVec (@Go.IntKind.bits Go.IntKind.i64)) _ (@BitVec.ofInt (@Go.IntKind.bits Go.IntKind.i64) (@RdsA.part x)) (@BitVec.ofInt (@Go.IntKind.bits Go.IntKind.i64) (7 : Int)))) : Int)))))) x12))) ∧
 ((@Eq (@List CommitD) (@HAppend.hAppend (@List CommitD) (@List CommitD) (@List CommitD) _ (@List.take CommitD (@List.length CommitD (@List.take CommitD (@HMul.hMul _ _ _ _ x56 (@Int.toNat (@Go.IntKind.wrap Go.IntKind.i64 (@HAdd.hAdd Int Int Int _ (1 : Int) (@Go.IntKind.wrap Go.IntKind.i64 (Nat.cast (@BitVec.toNat (@Go.IntKind.bits Go.IntKind.i64) (@HAnd.hAnd (@BitVec (@Go.IntKind.bits Go.IntKind.i64)) (@BitVec (@Go.IntKind.bits Go.IntKind.i64)) (@BitVec (@Go.IntKind.bits Go.IntKind.i64)) _ (@BitVec.ofInt (@Go.IntKind.bits Go.IntKind.i64) (@RdsA.part x)) (@BitVec.ofInt (@Go.IntKind.bits Go.IntKind.i64) (7 : Int)))) : Int)))))) x12)) (@List.drop CommitD (0 : Nat) (@List.take CommitD (@HMul.hMul _ _ _ _ x56 (@Int.toNat (@Go.IntKind.wrap Go.IntKind.i64 (@HAdd.hAdd Int Int Int _ (1 : Int) (@Go.IntKind.wrap Go.IntKind.i64 (Nat.cast (@BitVec.toNat (@Go.IntKind.bits Go.IntKind.i64) (@HAnd.hAnd (@BitVec (@Go.IntKind.bits Go.IntKind.i64)) (@BitVec (@Go.IntKind.bits Go.IntKind.i64)) (@BitVec (@Go.IntKind.bits Go.IntKind.i64)) _ (@BitVec.ofInt (@Go.IntKind.bits Go.IntKind.i64) (@RdsA.part x)) (@BitVec.ofInt (@Go.IntKind.bits Go.IntKind.i64) (7 : Int)))) : Int)))))) x12))) (@VerdictD.commits (@logV x57))) (@List.take CommitD (@HMul.hMul _ _ _ _ x59 (@Int.toNat (@Go.IntKind.wrap Go.IntKind.i64 (@HAdd.hAdd Int Int Int _ (1 : Int) (@Go.IntKind.wrap Go.IntKind.i64 (Nat.cast (@BitVec.toNat (@Go.IntKind.bits Go.IntKind.i64) (@HAnd.hAnd (@BitVec (@Go.IntKind.bits Go.IntKind.i64)) (@BitVec (@Go.IntKind.bits Go.IntKind.i64)) (@BitVec (@Go.IntKind.bits Go.IntKind.i64)) _ (@BitVec.ofInt (@Go.IntKind.bits Go.IntKind.i64) (@RdsA.part x)) (@BitVec.ofInt (@Go.IntKind.bits Go.IntKind.i64) (7 : Int)))) : Int)))))) x12)) ∧
 ((@Eq Nat (0 : Nat) (0 : Nat)) ∧
 ((@Eq Nat (@List.length CommitD (@LogA.C x57)) (@List.length CommitD x45)) ∧
 ((@Eq TreeD (@treeC (@LogA.C x57)) (@treeC x45)) ∧
 ((@Eq (@List CommitD) (@LogA.C x57) x45) ∧
 ((@Eq (@List (@Prod Bs Int)) (@kvC (@LogA.C x57)) (@kvC x45)) ∧
 ((@Nat.le (@HMul.hMul _ _ _ _ x59 (@Int.toNat (@Go.IntKind.wrap Go.IntKind.i64 (@HAdd.hAdd Int Int Int _ (1 : Int) (@Go.IntKind.wrap Go.IntKind.i64 (Nat.cast (@BitVec.toNat (@Go.IntKind.bits Go.IntKind.i64) (@HAnd.hAnd (@BitVec (@Go.IntKind.bits Go.IntKind.i64)) (@BitVec (@Go.IntKind.bits Go.IntKind.i64)) (@BitVec (@Go.IntKind.bits Go.IntKind.i64)) _ (@BitVec.ofInt (@Go.IntKind.bits Go.IntKind.i64) (@RdsA.part x)) (@BitVec.ofInt (@Go.IntKind.bits Go.IntKind.i64) (7 : Int)))) : Int)))))) (@HAdd.hAdd _ _ _ _ (@List.length CommitD x12) (8 : Nat))) ∧
 (@LT.lt Nat _ (@Nat.sub (@HAdd.hAdd _ _ _ _ (@List.length CommitD x12) (9 : Nat)) x59) (@Nat.sub (@HAdd.hAdd _ _ _ _ (@List.length CommitD x12) (9 : Nat)) x56)))))))))))))
 (Bad "check" "law.go:278"))))))))))))))
 (∃ x60 : Com2,
 ((@LE.le Nat _ (@HAdd.hAdd _ _ _ _ (0 : Nat) (@List.length CommitD (@List.take CommitD (@HMul.hMul _ _ _ _ x56 (@Int.toNat (@Go.IntKind.wrap Go.IntKind.i64 (@HAdd.hAdd Int Int Int _ (1 : Int) (@Go.IntKind.wrap Go.IntKind.i64 (Nat.cast (@BitVec.toNat (@Go.IntKind.bits Go.IntKind.i64) (@HAnd.hAnd (@BitVec (@Go.IntKind.bits Go.IntKind.i64)) (@BitVec (@Go.IntKind.bits Go.IntKind.i64)) (@BitVec (@Go.IntKind.bits Go.IntKind.i64)) _ (@BitVec.ofInt (@Go.IntKind.bits Go.IntKind.i64) (@RdsA.part x)) (@BitVec.ofInt (@Go.IntKind.bits Go.IntKind.i64) (7 : Int)))) : Int)))))) x12))) (@List.length CommitD (@List.take CommitD (@HMul.hMul _ _ _ _ x56 (@Int.toNat (@Go.IntKind.wrap Go.IntKind.i64 (@HAdd.hAdd Int Int Int _ (1 : Int) (@Go.IntKind.wrap Go.IntKind.i64 (Nat.cast (@BitVec.toNat (@Go.IntKind.bits Go.IntKind.i64) (@HAnd.hAnd (@BitVec (@Go.IntKind.bits Go.IntKind.i64)) (@BitVec (@Go.IntKind.bits Go.IntKind.i64)) (@BitVec (@Go.IntKind.bits Go.IntKind.i64)) _ (@BitVec.ofInt (@Go.IntKind.bits Go.IntKind.i64) (@RdsA.part x)) (@BitVec.ofInt (@Go.IntKind.bits Go.IntKind.i64) (7 : Int)))) : Int)))))) x12))) ∧
 ((@Eq (@List CommitD) (@List.take CommitD (@List.length CommitD (@List.take CommitD (@HMul.hMul _ _ _ _ x56 (@Int.toNat (@Go.IntKind.wrap Go.IntKind.i64 (@HAdd.hAdd Int Int Int _ (1 : Int) (@Go.IntKind.wrap Go.IntKind.i64 (Nat.cast (@BitVec.toNat (@Go.IntKind.bits Go.IntKind.i64) (@HAnd.hAnd (@BitVec (@Go.IntKind.bits Go.IntKind.i64)) (@BitVec (@Go.IntKind.bits Go.IntKind.i64)) (@BitVec (@Go.IntKind.bits Go.IntKind.i64)) _ (@BitVec.ofInt (@Go.IntKind.bits Go.IntKind.i64) (@RdsA.part x)) (@BitVec.ofInt (@Go.IntKind.bits Go.IntKind.i64) (7 : Int)))) : Int)))))) x12)) (@List.drop CommitD (0 : Nat) (@List.take CommitD (@HMul.hMul _ _ _ _ x56 (@Int.toNat (@Go.IntKind.wrap Go.IntKind.i64 (@HAdd.hAdd Int Int Int _ (1 : Int) (@Go.IntKind.wrap Go.IntKind.i64 (Nat.cast (@BitVec.toNat (@Go.IntKind.bits Go.IntKind.i64) (@HAnd.hAnd (@BitVec (@Go.IntKind.bits Go.IntKind.i64)) (@BitVec (@Go.IntKind.bits Go.IntKind.i64)) (@BitVec (@Go.IntKind.bits Go.IntKind.i64)) _ (@BitVec.ofInt (@Go.IntKind.bits Go.IntKind.i64) (@RdsA.part x)) (@BitVec.ofInt (@Go.IntKind.bits Go.IntKind.i64) (7 : Int)))) : Int)))))) x12))) (@Com2.a x60)) ∧
 ((@Eq (@List CommitD) x12 (@Com2.b x60)) ∧
 (True ∧
 (∀ x61 : Unit,
 (True →
 (@Eq Bool (@sameM (@Com2.a x60) (@Com2.b x60)) Bool.true)))))))))))))))))))))))))))))))))))))))))))))))))))))))))))))))))))))))))) := by kernel_rfl

end Go.Proofs.Ytildflamnehilaa.Ses

namespace Go.Proofs.Ytildflamnehilaa.Ses
open Go Go.Proofs Go.Proofs.Ytildflamnehilaa.Sx Go.Proofs.Ytildflamnehilaa.Trx

theorem rds_ok : EnvOK rdsE := glaw2_ok
set_option maxHeartbeats 0 in
theorem rds_body (x : RdsA) : evCall rdsE (ev rdsE 1000) 7 (rdsArgs x) ⟨[], 0, []⟩ (fun _ _ => False) (fun v _ => TrueV v) := by
  rw [rds_vc]
  obtain ⟨l, p, part⟩ := x
  dsimp only
  refine ⟨(), trivial, fun _ _ => ⟨l, rfl, trivial, fun _ _ => br_i (fun _ => rfl) fun hr _ => br_i (fun _ => rfl) fun hp => ?_⟩⟩
  rw [Bool.not_eq_false'] at hr
  have hp := of_decide_eq_false hp
  have hps : shortB p = true := decide_eq_true (by omega)
  obtain ⟨r1, r2⟩ := roomG_of hr
  refine ⟨(), trivial, fun _ _ => ⟨⟨0, rfl, rfl, rfl, rfl, rfl, rfl, Nat.zero_le _⟩, fun i hi _ => br_i (fun h1 => ?_) (fun h1 => ?_)⟩⟩
  · have h1 := of_decide_eq_true h1
    have bi : decide ((0 : Int) ≤ (i : Int) ∧ (i : Int) < (l.length : Int)) = true := decide_eq_true ⟨by omega, h1⟩
    have hgo : landC ⟨goC (l.take i), (l.getD i noD).base, (l.getD i noD).ref, (l.getD i noD).l⟩ = goC (l.take (i + 1)) := (goC_at (by omega)).symm
    exact br_t bi (br_t bi (br_t bi ⟨⟨goC (l.take i), (l.getD i noD).base, (l.getD i noD).ref, (l.getD i noD).l⟩, rfl, rfl, rfl, rfl, rfl, rfl, rfl, rfl, ⟨go_few r1 i, r2 i (by omega)⟩, fun _ _ => ⟨i + 1, by rw [wrap_id (by omega) (by omega)]; rfl, rfl, congrArg List.length hgo, congrArg treeC hgo, hgo, congrArg kvC hgo, by show i + 1 ≤ l.length; omega, by show l.length - (i + 1) < l.length - i; omega⟩⟩))
  have h1 := of_decide_eq_false h1
  have hi : i ≤ l.length := hi
  have hfew := go_few r1 i
  rw [List.take_of_length_le (by omega)] at hfew ⊢
  have ho := goC_ok l (by omega)
  have hCl := ho.len
  have hok := ho.ok
  clear ho h1 hi r2 hr
  generalize goC l = C at hfew hok hCl ⊢
  obtain ⟨f1, f2, _⟩ := fewG_of hfew
  refine ⟨C, rfl, rfl, rfl, rfl, rfl, hfew, fun _ _ => ⟨⟨0, rfl, rfl, rfl, rfl, rfl, rfl, rfl, rfl, Nat.zero_le _⟩, fun k hk _ => br_i (fun h2 => ?_) (fun h2 => ?_)⟩⟩
  · have hk : k ≤ C.length := hk
    have h2 := of_decide_eq_true h2
    have bk : decide ((0 : Int) ≤ (k : Int) ∧ (k : Int) < (C.length : Int)) = true := decide_eq_true ⟨by omega, h2⟩
    have e0 : (k : Int).toNat = k := rfl
    rw [e0]
    have hch := f2 _ (getD_mem (l := C) (d := noM) (i := k) (by omega))
    refine ⟨⟨0, rfl, rfl, rfl, rfl, rfl, rfl, rfl, rfl, Nat.zero_le _⟩, fun j hj => br_t bk fun _ => br_i (fun h3 => ?_) (fun h3 => ?_)⟩
    · have h3 : (j : Int) < ((C.getD k noM).changes.length : Int) := of_decide_eq_true h3
      have bj : decide ((0 : Int) ≤ (j : Int) ∧ (j : Int) < ((C.getD k noM).changes.length : Int)) = true := decide_eq_true ⟨by omega, h3⟩
      have e1 : (j : Int).toNat = j := rfl
      rw [e1]
      have hs := wantJ_suc (C := C) (p := p) (k := k) (j := j) (by omega)
      have hle : j + 1 ≤ (C.getD k noM).changes.length := by omega
      have hms : (C.getD k noM).changes.length - (j + 1) < (C.getD k noM).changes.length - j := by omega
      have hw : IntKind.i64.wrap ((j : Int) + 1) = ((j + 1 : Nat) : Int) := by rw [wrap_id (by omega) (by omega)]; rfl
      have found : (((C.getD k noM).changes.getD j noC).path == p) = true → ((C.getD k noM).changes.getD j noC).gone = false → wantJ C p k (j + 1) = ⟨9, 0, (C.getD k noM).rev, p, ((C.getD k noM).changes.getD j noC).digest, [], 0⟩ := fun a b => by
        rw [hs, a]
        show (bif ((C.getD k noM).changes.getD j noC).gone then _ else _) = _
        rw [b]; rfl
      have gone : (((C.getD k noM).changes.getD j noC).path == p) = true → ((C.getD k noM).changes.getD j noC).gone = true → wantJ C p k (j + 1) = ⟨10, 0, 0, p, 0, [], 0⟩ := fun a b => by
        rw [hs, a]
        show (bif ((C.getD k noM).changes.getD j noC).gone then _ else _) = _
        rw [b]; rfl
      have miss : (((C.getD k noM).changes.getD j noC).path == p) = false → wantJ C p k (j + 1) = wantJ C p k j := fun a => by rw [hs, a]; rfl
      refine br_t bk (br_t bj (br_i (fun h4 => br_i (fun h5 => ⟨j + 1, hw, ?_⟩) (fun h5 => br_t h4 (br_t bk ⟨j + 1, hw, ?_⟩))) (fun h4 => br_f h4 ⟨j + 1, hw, ?_⟩)))
      · rw [gone h4 h5]
        exact ⟨rfl, rfl, rfl, rfl, rfl, rfl, rfl, hle, hms⟩
      · rw [found h4 h5]
        exact ⟨rfl, rfl, rfl, rfl, rfl, rfl, rfl, hle, hms⟩
      · rw [miss h4]
        exact ⟨rfl, rfl, rfl, rfl, rfl, rfl, rfl, hle, hms⟩
    · have h3 : ¬ (j : Int) < ((C.getD k noM).changes.length : Int) := of_decide_eq_false h3
      have hj : j ≤ (C.getD k noM).changes.length := hj
      have hs := wantR_suc (C := C) (p := p) (k := k) (by omega)
      have : j = (C.getD k noM).changes.length := by omega
      rw [← this] at hs
      refine ⟨k + 1, by rw [wrap_id (by omega) (by omega)]; rfl, ?_⟩
      rw [hs]
      exact ⟨rfl, rfl, rfl, rfl, rfl, rfl, rfl, by show k + 1 ≤ C.length; omega, by show C.length - (k + 1) < C.length - k; omega⟩
  have hk : k ≤ C.length := hk
  have h2 := of_decide_eq_false h2
  have : k = C.length := by omega
  subst this
  refine ⟨⟨C, p⟩, rfl, rfl, rfl, rfl, rfl, rfl, hps, fun _ _ => ?_⟩
  refine (fun tl => br_i (fun h => ⟨⟨readV ⟨C, p⟩, wantR C p C.length⟩, rfl, rfl, rfl, rfl, rfl, rfl, rfl, rfl, rfl, rfl, rfl, rfl, rfl, rfl, trivial, fun _ _ => br_f ?q tl⟩) (fun _ => tl)) ?t
  case q => rw [read_want (by simpa using h), eqV_self]; rfl
  have hrl := refs_len C
  have hnl : (namesK (kvC C)).length = (kvC C).length := by simp [namesK]
  have hkl := kvC_len C
  refine ⟨C, rfl, rfl, rfl, rfl, rfl, hfew, fun _ _ => ⟨⟨0, rfl, Nat.zero_le _⟩, fun i hi _ => br_i (fun h3 => ?_) (fun h3 => ?_)⟩⟩
  · have hi : i ≤ (refsC C).length := hi
    have h3 := of_decide_eq_true h3
    have bi : decide ((0 : Int) ≤ (i : Int) ∧ (i : Int) < ((refsC C).length : Int)) = true := decide_eq_true ⟨by omega, h3⟩
    have e0 : (i : Int).toNat = i := rfl
    rw [e0]
    obtain ⟨a1, a2⟩ := refs_at (C := C) (i := i) (by omega)
    rw [a2, a1]
    refine ⟨⟨0, rfl, rfl, Nat.zero_le _⟩, fun k hk _ => br_i (fun h4 => ?_) (fun h4 => ?_)⟩
    · have hk : k ≤ C.length := hk
      have h4 := of_decide_eq_true h4
      have bk : decide ((0 : Int) ≤ (k : Int) ∧ (k : Int) < (C.length : Int)) = true := decide_eq_true ⟨by omega, h4⟩
      have e1 : (k : Int).toNat = k := rfl
      rw [e1]
      have hw : IntKind.i64.wrap ((k : Int) + 1) = ((k + 1 : Nat) : Int) := by rw [wrap_id (by omega) (by omega)]; rfl
      refine br_t bk (br_t bi (br_i (fun h5 => br_t bk ⟨k + 1, hw, ?_, by show k + 1 ≤ C.length; omega, by show C.length - (k + 1) < C.length - k; omega⟩) (fun h5 => ⟨k + 1, hw, ?_, by show k + 1 ≤ C.length; omega, by show C.length - (k + 1) < C.length - k; omega⟩)))
      · show _ = (bif (C.getD k noM).ref == _ then (C.getD k noM).rev else _)
        rw [h5]; rfl
      · show _ = (bif (C.getD k noM).ref == _ then (C.getD k noM).rev else _)
        rw [h5]; rfl
    · have hk : k ≤ C.length := hk
      have h4 := of_decide_eq_false h4
      have : k = C.length := by omega
      rw [this]
      have hw : IntKind.i64.wrap ((i : Int) + 1) = ((i + 1 : Nat) : Int) := by rw [wrap_id (by omega) (by omega)]; rfl
      have hms : (refsC C).length - (i + 1) < (refsC C).length - i := by omega
      refine br_t bi (br_f (by simp) (br_i (fun h5 => ?_) (fun h5 => ⟨i + 1, hw, by show i + 1 ≤ (refsC C).length; omega, hms⟩)))
      have h5 := of_decide_eq_true h5
      obtain ⟨z, rfl⟩ : ∃ z, i = z + 1 := ⟨i - 1, by omega⟩
      have e2 : IntKind.i64.wrap (((z + 1 : Nat) : Int) - 1) = (z : Int) := by rw [wrap_id (by omega) (by omega)]; omega
      rw [e2]
      have e3 : (z : Int).toNat = z := rfl
      rw [e3]
      obtain ⟨b1, b2⟩ := refs_at (C := C) (i := z) (by omega)
      rw [b1]
      refine br_t (decide_eq_true ⟨by omega, by omega⟩) (br_t bi (br_f ?_ ⟨z + 1 + 1, hw, by show z + 1 + 1 ≤ (refsC C).length; omega, hms⟩))
      rw [names_rise (by omega)]; rfl
  · obtain ⟨P, hP, p1, p2⟩ := part_in part
    rw [hP]
    have e0 : (P : Int).toNat = P := rfl
    rw [e0]
    refine ⟨⟨0, by simp, by simp, by simp, rfl, rfl, rfl, rfl, rfl, by show 0 * P ≤ C.length + 8; simp⟩, fun j hj _ => br_i (fun h4 => ?_) (fun h4 => ?_)⟩
    · have hj : j * P ≤ C.length + 8 := hj
      have h4 := of_decide_eq_true h4
      have hjl : j * P < C.length := by omega
      have hjj : j ≤ j * P := Nat.le_mul_of_pos_right _ p1
      have hs : (j + 1) * P = j * P + P := by rw [Nat.add_mul]; omega
      have hL := log_part (C := C) (j := j) p1 p2
      have e5 : (C.take (j * P)).length = j * P := by simp; omega
      have hap : List.take (j * P) C ++ List.take P (List.drop (j * P) C) = List.take ((j + 1) * P) C := by rw [hs, List.take_add]
      have hdl : (List.take P (List.drop (j * P) C)).length ≤ P := by simp; omega
      refine ⟨⟨C, 1 + ((j * P : Nat) : Int), P⟩, rfl, rfl, rfl, rfl, rfl, rfl, rfl, ⟨hfew, decide_eq_true (by show (1 : Int) + ((j * P : Nat) : Int) ≤ _; omega)⟩, fun _ _ _ => br_t ?_ ⟨j + 1, ?_, rfl, ?_, ?_, rfl, rfl, rfl, rfl, rfl, ?_, ?_⟩⟩
      · rw [hL, e5]
        have hr : 4000 * 60 ≤ room47 := by decide
        simp only [Nat.zero_add, Nat.le_refl, decide_true, Bool.and_self, Bool.true_and, decide_eq_true_eq]
        omega
      · rw [hs, wrap_id (by omega) (by omega)]
        omega
      · rw [hL, e5, ← hap, List.length_append, e5]
      · rw [hL, e5, List.drop_zero, List.take_take, Nat.min_self]
        exact hap
      · show (j + 1) * P ≤ C.length + 8
        omega
      · show C.length + 9 - (j + 1) < C.length + 9 - j
        omega
    · have hj : j * P ≤ C.length + 8 := hj
      have h4 := of_decide_eq_false h4
      have e5 : C.take (j * P) = C := List.take_of_length_le (by omega)
      rw [e5]
      refine ⟨⟨C, C⟩, by omega, by simp, rfl, trivial, fun _ _ => sameM_self C⟩

end Go.Proofs.Ytildflamnehilaa.Ses
