/- A law of trees: what the evaluator leaves, and that it holds. No condition. -/
import Derived.Test.YtkhiifaldbjpbaaTlmA
import Derived.KernelRfl
set_option linter.unusedSimpArgs false
set_option linter.unusedVariables false

namespace Go.Proofs.Ytkhiifaldbjpbaa.Ses
open Go Go.Proofs Go.Proofs.Ytkhiifaldbjpbaa.Sx Go.Proofs.Ytkhiifaldbjpbaa.Trx
set_option maxRecDepth 100000

theorem tord_vc (x : LeaP) : evCall tordE (ev tordE 1000) 6 (leafpArgs x) ⟨[], 0, []⟩ (fun _ _ => False) (fun v _ => TrueV v) = (
(∃ x1 : Unit,
 (True ∧
 (∀ x2 : Unit,
 (True →
 (∃ x3 : (@List LeafD),
 ((@Eq (@List LeafD) (@LeaP.l x) x3) ∧
 (True ∧
 (∀ x4 : Unit,
 (True →
 (br (@Bool.not (@roomB x3))
 (@Eq Bool Bool.true Bool.true)
 ((@LE.le Nat _ (@List.length UInt8 (@LeaP.p x)) maxI64) →
 (br (@Decidable.decide (@GT.gt Int _ (Nat.cast (@List.length UInt8 (@LeaP.p x)) : Int) (300 : Int)) _)
 (@Eq Bool Bool.true Bool.true)
 ((∃ x5 : Nat,
 ((@Eq Int (0 : Int) (Nat.cast x5 : Int)) ∧
 ((@Eq Nat (0 : Nat) (@List.length LeafD (@uniqL (@List.take LeafD x5 (@LeaP.l x))))) ∧
 ((@Eq (@List LeafD) (@List.nil LeafD) (@uniqL (@List.take LeafD x5 (@LeaP.l x)))) ∧
 (@Nat.le x5 (@List.length LeafD (@LeaP.l x))))))) ∧
 (∀ x6 : Nat,
 ((@Nat.le x6 (@List.length LeafD (@LeaP.l x))) →
 ((@LE.le Nat _ (@HMul.hMul _ _ _ _ (@List.length LeafD (@LeaP.l x)) (40 : Nat)) room47) →
 (br (@Decidable.decide (@LT.lt Int _ (Nat.cast x6 : Int) (Nat.cast (@List.length LeafD (@LeaP.l x)) : Int)) _)
 ((∃ x7 : Nat,
 ((@Eq Int (0 : Int) (Nat.cast x7 : Int)) ∧
 ((@Eq Bool Bool.false (@List.any LeafD (@List.take LeafD x7 (@uniqL (@List.take LeafD x6 (@LeaP.l x)))) (fun x8 : LeafD => (@BEq.beq Bs _ (@LeafD.path x8) (@LeafD.path (@List.getD LeafD (@LeaP.l x) (@Int.toNat (Nat.cast x6 : Int)) noL)))))) ∧
 (@Nat.le x7 (@List.length LeafD (@uniqL (@List.take LeafD x6 (@LeaP.l x)))))))) ∧
 (∀ x9 : Nat,
 ((@Nat.le x9 (@List.length LeafD (@uniqL (@List.take LeafD x6 (@LeaP.l x))))) →
 ((@LE.le Nat _ (@HMul.hMul _ _ _ _ (@List.length LeafD (@uniqL (@List.take LeafD x6 (@LeaP.l x)))) (40 : Nat)) room47) →
 (br (@Decidable.decide (@LT.lt Int _ (Nat.cast x9 : Int) (Nat.cast (@List.length LeafD (@uniqL (@List.take LeafD x6 (@LeaP.l x)))) : Int)) _)
 (br (@List.any LeafD (@List.take LeafD x9 (@uniqL (@List.take LeafD x6 (@LeaP.l x)))) (fun x10 : LeafD => (@BEq.beq Bs _ (@LeafD.path x10) (@LeafD.path (@List.getD LeafD (@LeaP.l x) (@Int.toNat (Nat.cast x6 : Int)) noL)))))
 (∃ x11 : Nat,
 ((@Eq Int (@Go.IntKind.wrap Go.IntKind.i64 (@HAdd.hAdd Int Int Int _ (Nat.cast x9 : Int) (1 : Int))) (Nat.cast x11 : Int)) ∧
 ((@Eq Bool Bool.true (@List.any LeafD (@List.take LeafD x11 (@uniqL (@List.take LeafD x6 (@LeaP.l x)))) (fun x12 : LeafD => (@BEq.beq Bs _ (@LeafD.path x12) (@LeafD.path (@List.getD LeafD (@LeaP.l x) (@Int.toNat (Nat.cast x6 : Int)) noL)))))) ∧
 ((@Nat.le x11 (@List.length LeafD (@uniqL (@List.take LeafD x6 (@LeaP.l x))))) ∧
 (@LT.lt Nat _ (@Nat.sub (@List.length LeafD (@uniqL (@List.take LeafD x6 (@LeaP.l x)))) x11) (@Nat.sub (@List.length LeafD (@uniqL (@List.take LeafD x6 (@LeaP.l x)))) x9))))))
 (br (@Decidable.decide ((@LE.le Int _ (0 : Int) (Nat.cast x9 : Int)) ∧
 (@LT.lt Int _ (Nat.cast x9 : Int) (Nat.cast (@List.length LeafD (@uniqL (@List.take LeafD x6 (@LeaP.l x)))) : Int))) _)
 (br (@Decidable.decide (@LT.lt Nat _ (@HAdd.hAdd _ _ _ _ (0 : Nat) (@Int.toNat (Nat.cast x9 : Int))) (@List.length LeafD (@uniqL (@List.take LeafD x6 (@LeaP.l x))))) _)
 (br (@Decidable.decide ((@LE.le Int _ (0 : Int) (Nat.cast x6 : Int)) ∧
 (@LT.lt Int _ (Nat.cast x6 : Int) (Nat.cast (@List.length LeafD (@LeaP.l x)) : Int))) _)
 (∃ x13 : Nat,
 ((@Eq Int (@Go.IntKind.wrap Go.IntKind.i64 (@HAdd.hAdd Int Int Int _ (Nat.cast x9 : Int) (1 : Int))) (Nat.cast x13 : Int)) ∧
 ((@Eq Bool (@BEq.beq Bs _ (@LeafD.path (@List.getD LeafD (@uniqL (@List.take LeafD x6 (@LeaP.l x))) (@HAdd.hAdd _ _ _ _ (0 : Nat) (@Int.toNat (Nat.cast x9 : Int))) (@LeafD.mk (@List.nil UInt8) (0 : Int) (0 : Int) Bool.false))) (@LeafD.path (@List.getD LeafD (@LeaP.l x) (@Int.toNat (Nat.cast x6 : Int)) (@LeafD.mk (@List.nil UInt8) (0 : Int) (0 : Int) Bool.false)))) (@List.any LeafD (@List.take LeafD x13 (@uniqL (@List.take LeafD x6 (@LeaP.l x)))) (fun x14 : LeafD => (@BEq.beq Bs _ (@LeafD.path x14) (@LeafD.path (@List.getD LeafD (@LeaP.l x) (@Int.toNat (Nat.cast x6 : Int)) noL)))))) ∧
 ((@Nat.le x13 (@List.length LeafD (@uniqL (@List.take LeafD x6 (@LeaP.l x))))) ∧
 (@LT.lt Nat _ (@Nat.sub (@List.length LeafD (@uniqL (@List.take LeafD x6 (@LeaP.l x)))) x13) (@Nat.sub (@List.length LeafD (@uniqL (@List.take LeafD x6 (@LeaP.l x)))) x9))))))
 (Bad "check" "law.go:123"))
 (Bad "check" "law.go:123"))
 (Bad "check" "law.go:123")))
 (br (@Bool.not (@List.any LeafD (@List.take LeafD x9 (@uniqL (@List.take LeafD x6 (@LeaP.l x)))) (fun x15 : LeafD => (@BEq.beq Bs _ (@LeafD.path x15) (@LeafD.path (@List.getD LeafD (@LeaP.l x) (@Int.toNat (Nat.cast x6 : Int)) noL))))))
 (br (@Decidable.decide ((@LE.le Int _ (0 : Int) (Nat.cast x6 : Int)) ∧
 (@LT.lt Int _ (Nat.cast x6 : Int) (Nat.cast (@List.length LeafD (@LeaP.l x)) : Int))) _)
 (((@Nat.le (@HMul.hMul _ _ _ _ (@List.length LeafD (@uniqL (@List.take LeafD x6 (@LeaP.l x)))) (40 : Nat)) room47) ∧
 (@Nat.le (@HMul.hMul _ _ _ _ (1 : Nat) (40 : Nat)) room47)) →
 (br (@Bool.and (@Bool.and (@Decidable.decide (@LE.le Nat _ (@HAdd.hAdd _ _ _ _ (0 : Nat) (1 : Nat)) (@List.length LeafD (@List.cons LeafD (@LeafD.mk (@LeafD.path (@List.getD LeafD (@LeaP.l x) (@Int.toNat (Nat.cast x6 : Int)) (@LeafD.mk (@List.nil UInt8) (0 : Int) (0 : Int) Bool.false))) (@LeafD.digest (@List.getD LeafD (@LeaP.l x) (@Int.toNat (Nat.cast x6 : Int)) (@LeafD.mk (@List.nil UInt8) (0 : Int) (0 : Int) Bool.false))) (@LeafD.rev (@List.getD LeafD (@LeaP.l x) (@Int.toNat (Nat.cast x6 : Int)) (@LeafD.mk (@List.nil UInt8) (0 : Int) (0 : Int) Bool.false))) (@LeafD.gone (@List.getD LeafD (@LeaP.l x) (@Int.toNat (Nat.cast x6 : Int)) (@LeafD.mk (@List.nil UInt8) (0 : Int) (0 : Int) Bool.false)))) (@List.nil LeafD)))) _) (@Decidable.decide (@LE.le Nat _ (@HAdd.hAdd _ _ _ _ (0 : Nat) (@List.length LeafD (@uniqL (@List.take LeafD x6 (@LeaP.l x))))) (@List.length LeafD (@uniqL (@List.take LeafD x6 (@LeaP.l x))))) _)) (@Decidable.decide (@LE.le Nat _ (@HMul.hMul _ _ _ _ (@HAdd.hAdd _ _ _ _ (@List.length LeafD (@uniqL (@List.take LeafD x6 (@LeaP.l x)))) (@List.length LeafD (@List.take LeafD (1 : Nat) (@List.drop LeafD (0 : Nat) (@List.cons LeafD (@LeafD.mk (@LeafD.path (@List.getD LeafD (@LeaP.l x) (@Int.toNat (Nat.cast x6 : Int)) (@LeafD.mk (@List.nil UInt8) (0 : Int) (0 : Int) Bool.false))) (@LeafD.digest (@List.getD LeafD (@LeaP.l x) (@Int.toNat (Nat.cast x6 : Int)) (@LeafD.mk (@List.nil UInt8) (0 : Int) (0 : Int) Bool.false))) (@LeafD.rev (@List.getD LeafD (@LeaP.l x) (@Int.toNat (Nat.cast x6 : Int)) (@LeafD.mk (@List.nil UInt8) (0 : Int) (0 : Int) Bool.false))) (@LeafD.gone (@List.getD LeafD (@LeaP.l x) (@Int.toNat (Nat.cast x6 : Int)) (@LeafD.mk (@List.nil UInt8) (0 : Int) (0 : Int) Bool.false)))) (@List.nil LeafD)))))) (40 : Nat)) room47) _))
 (∃ x16 : Nat,
 ((@Eq Int (@Go.IntKind.wrap Go.IntKind.i64 (@HAdd.hAdd Int Int Int _ (Nat.cast x6 : Int) (1 : Int))) (Nat.cast x16 : Int)) ∧
 ((@Eq Nat (0 : Nat) (0 : Nat)) ∧
 ((@Eq Nat (@HAdd.hAdd _ _ _ _ (@List.length LeafD (@uniqL (@List.take LeafD x6 (@LeaP.l x)))) (@List.length LeafD (@List.take LeafD (1 : Nat) (@List.drop LeafD (0 : Nat) (@List.cons LeafD (@LeafD.mk (@LeafD.path (@List.getD LeafD (@LeaP.l x) (@Int.toNat (Nat.cast x6 : Int)) (@LeafD.mk (@List.nil UInt8) (0 : Int) (0 : Int) Bool.false))) (@LeafD.digest (@List.getD LeafD (@LeaP.l x) (@Int.toNat (Nat.cast x6 : Int)) (@LeafD.mk (@List.nil UInt8) (0 : Int) (0 : Int) Bool.false))) (@LeafD.rev (@List.getD LeafD (@LeaP.l x) (@Int.toNat (Nat.cast x6 : Int)) (@LeafD.mk (@List.nil UInt8) (0 : Int) (0 : Int) Bool.false))) (@LeafD.gone (@List.getD LeafD (@LeaP.l x) (@Int.toNat (Nat.cast x6 : Int)) (@LeafD.mk (@List.nil UInt8) (0 : Int) (0 : Int) Bool.false)))) (@List.nil LeafD)))))) (@List.length LeafD (@uniqL (@List.take LeafD x16 (@LeaP.l x))))) ∧
 ((@Eq (@List LeafD) (@HAppend.hAppend (@List LeafD) (@List LeafD) (@List LeafD) _ (@List.take LeafD (@List.length LeafD (@uniqL (@List.take LeafD x6 (@LeaP.l x)))) (@List.drop LeafD (0 : Nat) (@uniqL (@List.take LeafD x6 (@LeaP.l x))))) (@List.take LeafD (1 : Nat) (@List.drop LeafD (0 : Nat) (@List.cons LeafD (@LeafD.mk (@LeafD.path (@List.getD LeafD (@LeaP.l x) (@Int.toNat (Nat.cast x6 : Int)) (@LeafD.mk (@List.nil UInt8) (0 : Int) (0 : Int) Bool.false))) (@LeafD.digest (@List.getD LeafD (@LeaP.l x) (@Int.toNat (Nat.cast x6 : Int)) (@LeafD.mk (@List.nil UInt8) (0 : Int) (0 : Int) Bool.false))) (@LeafD.rev (@List.getD LeafD (@LeaP.l x) (@Int.toNat (Nat.cast x6 : Int)) (@LeafD.mk (@List.nil UInt8) (0 : Int) (0 : Int) Bool.false))) (@LeafD.gone (@List.getD LeafD (@LeaP.l x) (@Int.toNat (Nat.cast x6 : Int)) (@LeafD.mk (@List.nil UInt8) (0 : Int) (0 : Int) Bool.false)))) (@List.nil LeafD))))) (@uniqL (@List.take LeafD x16 (@LeaP.l x)))) ∧
 ((@Nat.le x16 (@List.length LeafD (@LeaP.l x))) ∧
 (@LT.lt Nat _ (@Nat.sub (@List.length LeafD (@LeaP.l x)) x16) (@Nat.sub (@List.length LeafD (@LeaP.l x)) x6))))))))
 (Bad "check" "law.go:126")))
 (Bad "check" "law.go:126"))
 (∃ x17 : Nat,
 ((@Eq Int (@Go.IntKind.wrap Go.IntKind.i64 (@HAdd.hAdd Int Int Int _ (Nat.cast x6 : Int) (1 : Int))) (Nat.cast x17 : Int)) ∧
 ((@Eq Nat (0 : Nat) (0 : Nat)) ∧
 ((@Eq Nat (@List.length LeafD (@uniqL (@List.take LeafD x6 (@LeaP.l x)))) (@List.length LeafD (@uniqL (@List.take LeafD x17 (@LeaP.l x))))) ∧
 ((@Eq (@List LeafD) (@uniqL (@List.take LeafD x6 (@LeaP.l x))) (@uniqL (@List.take LeafD x17 (@LeaP.l x)))) ∧
 ((@Nat.le x17 (@List.length LeafD (@LeaP.l x))) ∧
 (@LT.lt Nat _ (@Nat.sub (@List.length LeafD (@LeaP.l x)) x17) (@Nat.sub (@List.length LeafD (@LeaP.l x)) x6))))))))))))))
 (∃ x18 : Unit,
 (True ∧
 (∀ x19 : Unit,
 (True →
 (∃ x20 : Unit,
 (True ∧
 (∀ x21 : Unit,
 (True →
 ((∃ x22 : Nat,
 ((@Eq Int (0 : Int) (Nat.cast x22 : Int)) ∧
 ((@Eq TreeD (@TreeD.node Bool.false (@LeafD.mk (@List.nil UInt8) (0 : Int) (0 : Int) Bool.false) TreeD.nil TreeD.nil (0 : Int) (0 : Int)) (@putsD (@List.take LeafD x22 (@uniqL (@List.take LeafD x6 (@LeaP.l x)))))) ∧
 ((@Eq TreeD (@TreeD.node Bool.false (@LeafD.mk (@List.nil UInt8) (0 : Int) (0 : Int) Bool.false) TreeD.nil TreeD.nil (0 : Int) (0 : Int)) (@putsD (@List.take LeafD x22 (@List.reverse LeafD (@uniqL (@List.take LeafD x6 (@LeaP.l x))))))) ∧
 (@Nat.le x22 (@List.length LeafD (@uniqL (@List.take LeafD x6 (@LeaP.l x))))))))) ∧
 (∀ x23 : Nat,
 ((@Nat.le x23 (@List.length LeafD (@uniqL (@List.take LeafD x6 (@LeaP.l x))))) →
 ((@LE.le Nat _ (@HMul.hMul _ _ _ _ (@List.length LeafD (@uniqL (@List.take LeafD x6 (@LeaP.l x)))) (40 : Nat)) room47) →
 (br (@Decidable.decide (@LT.lt Int _ (Nat.cast x23 : Int) (Nat.cast (@List.length LeafD (@uniqL (@List.take LeafD x6 (@LeaP.l x)))) : Int)) _)
 (br (@Decidable.decide ((@LE.le Int _ (0 : Int) (Nat.cast x23 : Int)) ∧
 (@LT.lt Int _ (Nat.cast x23 : Int) (Nat.cast (@List.length LeafD (@uniqL (@List.take LeafD x6 (@LeaP.l x)))) : Int))) _)
 (br (@Decidable.decide (@LT.lt Nat _ (@HAdd.hAdd _ _ _ _ (0 : Nat) (@Int.toNat (Nat.cast x23 : Int))) (@List.length LeafD (@uniqL (@List.take LeafD x6 (@LeaP.l x))))) _)
 (∃ x24 : PutA,
 ((@Eq TreeD (@putsD (@List.take LeafD x23 (@uniqL (@List.take LeafD x6 (@LeaP.l x))))) (@PutA.t x24)) ∧
 ((@Eq Bs (@LeafD.path (@List.getD LeafD (@uniqL (@List.take LeafD x6 (@LeaP.l x))) (@HAdd.hAdd _ _ _ _ (0 : Nat) (@Int.toNat (Nat.cast x23 : Int))) (@LeafD.mk (@List.nil UInt8) (0 : Int) (0 : Int) Bool.false))) (@LeafD.path (@PutA.x x24))) ∧
 ((@Eq Int (@LeafD.digest (@List.getD LeafD (@uniqL (@List.take LeafD x6 (@LeaP.l x))) (@HAdd.hAdd _ _ _ _ (0 : Nat) (@Int.toNat (Nat.cast x23 : Int))) (@LeafD.mk (@List.nil UInt8) (0 : Int) (0 : Int) Bool.false))) (@LeafD.digest (@PutA.x x24))) ∧
 ((@Eq Int (@LeafD.rev (@List.getD LeafD (@uniqL (@List.take LeafD x6 (@LeaP.l x))) (@HAdd.hAdd _ _ _ _ (0 : Nat) (@Int.toNat (Nat.cast x23 : Int))) (@LeafD.mk (@List.nil UInt8) (0 : Int) (0 : Int) Bool.false))) (@LeafD.rev (@PutA.x x24))) ∧
 ((@Eq Bool (@LeafD.gone (@List.getD LeafD (@uniqL (@List.take LeafD x6 (@LeaP.l x))) (@HAdd.hAdd _ _ _ _ (0 : Nat) (@Int.toNat (Nat.cast x23 : Int))) (@LeafD.mk (@List.nil UInt8) (0 : Int) (0 : Int) Bool.false))) (@LeafD.gone (@PutA.x x24))) ∧
 (((@putP (@PutA.t x24)) ∧
 (@LT.lt Nat _ (@ht (@PutA.t x24)) (100000 : Nat))) ∧
 (∀ x25 : Unit,
 (True →
 ((@LE.le Nat _ (@HMul.hMul _ _ _ _ (@List.length LeafD (@uniqL (@List.take LeafD x6 (@LeaP.l x)))) (40 : Nat)) room47) →
 (br (@Decidable.decide ((@LE.le Int _ (0 : Int) (@Go.IntKind.wrap Go.IntKind.i64 (@HSub.hSub Int Int Int _ (@Go.IntKind.wrap Go.IntKind.i64 (@HSub.hSub Int Int Int _ (Nat.cast (@List.length LeafD (@uniqL (@List.take LeafD x6 (@LeaP.l x)))) : Int) (1 : Int))) (Nat.cast x23 : Int)))) ∧
 (@LT.lt Int _ (@Go.IntKind.wrap Go.IntKind.i64 (@HSub.hSub Int Int Int _ (@Go.IntKind.wrap Go.IntKind.i64 (@HSub.hSub Int Int Int _ (Nat.cast (@List.length LeafD (@uniqL (@List.take LeafD x6 (@LeaP.l x)))) : Int) (1 : Int))) (Nat.cast x23 : Int))) (Nat.cast (@List.length LeafD (@uniqL (@List.take LeafD x6 (@LeaP.l x)))) : Int))) _)
 (br (@Decidable.decide (@LT.lt Nat _ (@HAdd.hAdd _ _ _ _ (0 : Nat) (@Int.toNat (@Go.IntKind.wrap Go.IntKind.i64 (@HSub.hSub Int Int Int _ (@Go.IntKind.wrap Go.IntKind.i64 (@HSub.hSub Int Int Int _ (Nat.cast (@List.length LeafD (@uniqL (@List.take LeafD x6 (@LeaP.l x)))) : Int) (1 : Int))) (Nat.cast x23 : Int))))) (@List.length LeafD (@uniqL (@List.take LeafD x6 (@LeaP.l x))))) _)
 (∃ x26 : PutA,
 ((@Eq TreeD (@putsD (@List.take LeafD x23 (@List.reverse LeafD (@uniqL (@List.take LeafD x6 (@LeaP.l x)))))) (@PutA.t x26)) ∧
 ((@Eq Bs (@LeafD.path (@List.getD LeafD (@uniqL (@List.take LeafD x6 (@LeaP.l x))) (@HAdd.hAdd _ _ _ _ (0 : Nat) (@Int.toNat (@Go.IntKind.wrap Go.IntKind.i64 (@HSub.hSub Int Int Int _ (@Go.IntKind.wrap Go.IntKind.i64 (@HSub.hSub Int Int Int _ (Nat.cast (@List.length LeafD (@uniqL (@List.take LeafD x6 (@LeaP.l x)))) : Int) (1 : Int))) (Nat.cast x23 : Int))))) (@LeafD.mk (@List.nil UInt8) (0 : Int) (0 : Int) Bool.false))) (@LeafD.path (@PutA.x x26))) ∧
 ((@Eq Int (@LeafD.digest (@List.getD LeafD (@uniqL (@List.take LeafD x6 (@LeaP.l x))) (@HAdd.hAdd _ _ _ _ (0 : Nat) (@Int.toNat (@Go.IntKind.wrap Go.IntKind.i64 (@HSub.hSub Int Int Int _ (@Go.IntKind.wrap Go.IntKind.i64 (@HSub.hSub Int Int Int _ (Nat.cast (@List.length LeafD (@uniqL (@List.take LeafD x6 (@LeaP.l x)))) : Int) (1 : Int))) (Nat.cast x23 : Int))))) (@LeafD.mk (@List.nil UInt8) (0 : Int) (0 : Int) Bool.false))) (@LeafD.digest (@PutA.x x26))) ∧
 ((@Eq Int (@LeafD.rev (@List.getD LeafD (@uniqL (@List.take LeafD x6 (@LeaP.l x))) (@HAdd.hAdd _ _ _ _ (0 : Nat) (@Int.toNat (@Go.IntKind.wrap Go.IntKind.i64 (@HSub.hSub Int Int Int _ (@Go.IntKind.wrap Go.IntKind.i64 (@HSub.hSub Int Int Int _ (Nat.cast (@List.length LeafD (@uniqL (@List.take LeafD x6 (@LeaP.l x)))) : Int) (1 : Int))) (Nat.cast x23 : Int))))) (@LeafD.mk (@List.nil UInt8) (0 : Int) (0 : Int) Bool.false))) (@LeafD.rev (@PutA.x x26))) ∧
 ((@Eq Bool (@LeafD.gone (@List.getD LeafD (@uniqL (@List.take LeafD x6 (@LeaP.l x))) (@HAdd.hAdd _ _ _ _ (0 : Nat) (@Int.toNat (@Go.IntKind.wrap Go.IntKind.i64 (@HSub.hSub Int Int Int _ (@Go.IntKind.wrap Go.IntKind.i64 (@HSub.hSub Int Int Int _ (Nat.cast (@List.length LeafD (@uniqL (@List.take LeafD x6 (@LeaP.l x)))) : Int) (1 : Int))) (Nat.cast x23 : Int))))) (@LeafD.mk (@List.nil UInt8) (0 : Int) (0 : Int) Bool.false))) (@LeafD.gone (@PutA.x x26))) ∧
 (((@putP (@PutA.t x26)) ∧
 (@LT.lt Nat _ (@ht (@PutA.t x26)) (100000 : Nat))) ∧
 (∀ x27 : Unit,
 (True →
 (∃ x28 : Nat,
 ((@Eq Int (@Go.IntKind.wrap Go.IntKind.i64 (@HAdd.hAdd Int Int Int _ (Nat.cast x23 : Int) (1 : Int))) (Nat.cast x28 : Int)) ∧
 ((@Eq TreeD (@putD (@PutA.x x24) (@PutA.t x24)) (@putsD (@List.take LeafD x28 (@uniqL (@List.take LeafD x6 (@LeaP.l x)))))) ∧
 ((@Eq TreeD (@putD (@PutA.x x26) (@PutA.t x26)) (@putsD (@List.take LeafD x28 (@List.reverse LeafD (@uniqL (@List.take LeafD x6 (@LeaP.l x))))))) ∧
 ((@Nat.le x28 (@List.length LeafD (@uniqL (@List.take LeafD x6 (@LeaP.l x))))) ∧
 (@LT.lt Nat _ (@Nat.sub (@List.length LeafD (@uniqL (@List.take LeafD x6 (@LeaP.l x)))) x28) (@Nat.sub (@List.length LeafD (@uniqL (@List.take LeafD x6 (@LeaP.l x)))) x23))))))))))))))))
 (Bad "check" "law.go:133"))
 (Bad "check" "law.go:133"))))))))))))
 (Bad "check" "law.go:132"))
 (Bad "check" "law.go:132"))
 (∃ x29 : TrS,
 ((@Eq TreeD (@putsD (@List.take LeafD x23 (@uniqL (@List.take LeafD x6 (@LeaP.l x))))) (@TrS.t x29)) ∧
 ((@Eq Bs (@LeaP.p x) (@TrS.d x29)) ∧
 ((@Eq Bool (@fewL (@TrS.t x29)) Bool.true) ∧
 (∀ x30 : Unit,
 (True →
 ((∃ x31 : Nat,
 ((@Eq Int (0 : Int) (Nat.cast x31 : Int)) ∧
 (@Nat.le x31 (@List.length LeafD (@undL (@TrS.t x29) (@TrS.d x29)))))) ∧
 (∀ x32 : Nat,
 ((@Nat.le x32 (@List.length LeafD (@undL (@TrS.t x29) (@TrS.d x29)))) →
 ((@LE.le Nat _ (@HMul.hMul _ _ _ _ (@List.length LeafD (@undL (@TrS.t x29) (@TrS.d x29))) (40 : Nat)) room47) →
 (br (@Decidable.decide (@LT.lt Int _ (Nat.cast x32 : Int) (Nat.cast (@List.length LeafD (@undL (@TrS.t x29) (@TrS.d x29))) : Int)) _)
 (br (@Decidable.decide ((@LE.le Int _ (0 : Int) (Nat.cast x32 : Int)) ∧
 (@LT.lt Int _ (Nat.cast x32 : Int) (Nat.cast (@List.length LeafD (@undL (@TrS.t x29) (@TrS.d x29))) : Int))) _)
 (br (@Decidable.decide (@LT.lt Nat _ (@HAdd.hAdd _ _ _ _ (0 : Nat) (@Int.toNat (Nat.cast x32 : Int))) (@List.length LeafD (@undL (@TrS.t x29) (@TrS.d x29)))) _)
 (∃ x33 : TwoA,
 ((@Eq Bs (@LeaP.p x) (@TwoA.a x33)) ∧
 ((@Eq Bs (@LeafD.path (@List.getD LeafD (@undL (@TrS.t x29) (@TrS.d x29)) (@HAdd.hAdd _ _ _ _ (0 : Nat) (@Int.toNat (Nat.cast x32 : Int))) (@LeafD.mk (@List.nil UInt8) (0 : Int) (0 : Int) Bool.false))) (@TwoA.b x33)) ∧
 (True ∧
 (∀ x34 : Unit,
 (True →
 (br (@Bool.not (@withinB (@TwoA.a x33) (@TwoA.b x33)))
 (@Eq Bool Bool.false Bool.true)
 (∃ x35 : Nat,
 ((@Eq Int (@Go.IntKind.wrap Go.IntKind.i64 (@HAdd.hAdd Int Int Int _ (Nat.cast x32 : Int) (1 : Int))) (Nat.cast x35 : Int)) ∧
 ((@Nat.le x35 (@List.length LeafD (@undL (@TrS.t x29) (@TrS.d x29)))) ∧
 (@LT.lt Nat _ (@Nat.sub (@List.length LeafD (@undL (@TrS.t x29) (@TrS.d x29))) x35) (@Nat.sub (@List.length LeafD (@undL (@TrS.t x29) (@TrS.d x29))) x32))))))))))))
 (Bad "check" "law.go:137"))
 (Bad "check" "law.go:137"))
 (∃ x36 : TreeD,
 ((@Eq TreeD (@putsD (@List.take LeafD x23 (@uniqL (@List.take LeafD x6 (@LeaP.l x))))) x36) ∧
 ((@Eq Bool (@fewL x36) Bool.true) ∧
 (∀ x37 : Unit,
 (True →
 (∃ x38 : TreeD,
 ((@Eq TreeD (@putsD (@List.take LeafD x23 (@List.reverse LeafD (@uniqL (@List.take LeafD x6 (@LeaP.l x)))))) x38) ∧
 ((@Eq Bool (@fewL x38) Bool.true) ∧
 (∀ x39 : Unit,
 (True →
 (∃ x40 : Lea2,
 ((@LE.le Nat _ (@HAdd.hAdd _ _ _ _ (0 : Nat) (@List.length LeafD (@TreeD.inorder x36))) (@List.length LeafD (@TreeD.inorder x36))) ∧
 ((@Eq (@List LeafD) (@List.take LeafD (@List.length LeafD (@TreeD.inorder x36)) (@List.drop LeafD (0 : Nat) (@TreeD.inorder x36))) (@Lea2.a x40)) ∧
 ((@LE.le Nat _ (@HAdd.hAdd _ _ _ _ (0 : Nat) (@List.length LeafD (@TreeD.inorder x38))) (@List.length LeafD (@TreeD.inorder x38))) ∧
 ((@Eq (@List LeafD) (@List.take LeafD (@List.length LeafD (@TreeD.inorder x38)) (@List.drop LeafD (0 : Nat) (@TreeD.inorder x38))) (@Lea2.b x40)) ∧
 (True ∧
 (∀ x41 : Unit,
 (True →
 (br (@sameLB (@Lea2.a x40) (@Lea2.b x40))
 (∃ x42 : TrS,
 ((@Eq TreeD (@putsD (@List.take LeafD x23 (@List.reverse LeafD (@uniqL (@List.take LeafD x6 (@LeaP.l x)))))) (@TrS.t x42)) ∧
 ((@Eq Bs (@LeaP.p x) (@TrS.d x42)) ∧
 ((@Eq Bool (@fewL (@TrS.t x42)) Bool.true) ∧
 (∀ x43 : Unit,
 (True →
 (∃ x44 : Lea2,
 ((@LE.le Nat _ (@HAdd.hAdd _ _ _ _ (0 : Nat) (@List.length LeafD (@undL (@TrS.t x29) (@TrS.d x29)))) (@List.length LeafD (@undL (@TrS.t x29) (@TrS.d x29)))) ∧
 ((@Eq (@List LeafD) (@List.take LeafD (@List.length LeafD (@undL (@TrS.t x29) (@TrS.d x29))) (@List.drop LeafD (0 : Nat) (@undL (@TrS.t x29) (@TrS.d x29)))) (@Lea2.a x44)) ∧
 ((@LE.le Nat _ (@HAdd.hAdd _ _ _ _ (0 : Nat) (@List.length LeafD (@undL (@TrS.t x42) (@TrS.d x42)))) (@List.length LeafD (@undL (@TrS.t x42) (@TrS.d x42)))) ∧
 ((@Eq (@List LeafD) (@List.take LeafD (@List.length LeafD (@undL (@TrS.t x42) (@TrS.d x42))) (@List.drop LeafD (0 : Nat) (@undL (@TrS.t x42) (@TrS.d x42)))) (@Lea2.b x44)) ∧
 (True ∧
 (∀ x45 : Unit,
 (True →
 (@Eq Bool (@sameLB (@Lea2.a x44) (@Lea2.b x44)) Bool.true)))))))))))))))
 (@Eq Bool Bool.false Bool.true)))))))))))))))))))))))))))))))))))))))))))))))))))))))))))))) := by kernel_rfl

end Go.Proofs.Ytkhiifaldbjpbaa.Ses

namespace Go.Proofs.Ytkhiifaldbjpbaa.Ses
open Go Go.Proofs Go.Proofs.Ytkhiifaldbjpbaa.Sx Go.Proofs.Ytkhiifaldbjpbaa.Trx

theorem uniq_at {l : List LeafD} {i : Nat} (h : i < l.length) : uniqL (l.take (i + 1)) = bif (uniqL (l.take i)).any (fun y => y.path == (l.getD i noL).path) then uniqL (l.take i) else uniqL (l.take i) ++ [l.getD i noL] := by
  rw [take_succ_getD noL h]
  unfold uniqL
  rw [List.foldl_append]
  rfl
theorem uniq_both (l : List LeafD) : unlikeL (uniqL l) ∧ (uniqL l).length ≤ l.length := by
  refine snocL (p := fun l => unlikeL (uniqL l) ∧ (uniqL l).length ≤ l.length) ⟨List.Pairwise.nil, Nat.le_refl _⟩ (fun l x ih => ?_) l
  have e : uniqL (l ++ [x]) = bif (uniqL l).any (fun y => y.path == x.path) then uniqL l else uniqL l ++ [x] := by
    unfold uniqL
    rw [List.foldl_append]
    rfl
  rw [e]
  cases h : (uniqL l).any (fun y => y.path == x.path)
  · simp only [cond_false]
    refine ⟨List.pairwise_append.2 ⟨ih.1, by simp, fun a ha b hb => ?_⟩, by simp; omega⟩
    have hb : b = x := by simpa using hb
    subst hb
    have := List.any_eq_false.1 h a ha
    simpa using this
  · simp only [cond_true]
    exact ⟨ih.1, by simp; omega⟩
theorem any_take {f : LeafD → Bool} {l : List LeafD} {k : Nat} (h : k < l.length) : (l.take (k + 1)).any f = ((l.take k).any f || f (l.getD k noL)) := by
  rw [take_succ_getD noL h, List.any_append]
  simp
theorem rev_get {l : List LeafD} {k : Nat} (h : k < l.length) : l.reverse.getD k noL = l.getD (l.length - 1 - k) noL := by
  simp only [List.getD]
  rw [List.getElem?_reverse h]
theorem all_lenO {α : Type} (l : List α) : (l.drop 0).take l.length = l := by simp
theorem sameLB_ofO {a b : List LeafD} (h : a = b) : sameLB a b = true := by rw [h]; exact sameLB_self b

theorem tord_ok : EnvOK tordE := tlaw_ok
theorem tord_body (x : LeaP) : evCall tordE (ev tordE 1000) 6 (leafpArgs x) ⟨[], 0, []⟩ (fun _ _ => False) (fun v _ => TrueV v) := by
  rw [tord_vc]
  obtain ⟨l, p⟩ := x
  dsimp only
  refine ⟨(), trivial, fun _ _ => ⟨l, rfl, trivial, fun _ _ => br_i (fun _ => rfl) fun hr hp => br_i (fun _ => rfl) fun hp2 => ⟨⟨0, rfl, rfl, rfl, Nat.zero_le _⟩, fun i hi hl => br_i (fun h1 => ?_) (fun h1 => ?_)⟩⟩⟩
  all_goals have hr := (room_of hr).1
  · have h1 : (i : Int) < l.length := of_decide_eq_true h1
    have hu := uniq_at (l := l) (i := i) (by omega)
    have hul := (uniq_both (l.take i)).2
    rw [List.length_take] at hul
    have hbd1 : decide ((0 : Int) ≤ (i : Int) ∧ (i : Int) < l.length) = true := decide_eq_true ⟨by omega, h1⟩
    have ei : (i : Int).toNat = i := rfl
    rw [ei]
    generalize uniqL (l.take i) = one at hu hul ⊢
    refine ⟨⟨0, rfl, by simp, Nat.zero_le _⟩, fun k hk hl2 => br_i (fun h2 => ?_) (fun h2 => ?_)⟩
    · have h2 : (k : Int) < one.length := of_decide_eq_true h2
      have hat := any_take (f := fun y => y.path == (l.getD i noL).path) (l := one) (k := k) (by omega)
      have hk0 : 0 + (k : Int).toNat = k := by simp
      rw [hk0]
      refine br_i (fun ha => ⟨k + 1, by rw [wrap_id (by omega) (by omega)]; rfl, by rw [hat, ha]; rfl, by show k + 1 ≤ one.length; omega, by show one.length - (k + 1) < one.length - k; omega⟩)
        (fun ha => br_t (decide_eq_true ⟨by omega, h2⟩) (br_t (decide_eq_true (by omega)) (br_t hbd1 ⟨k + 1, by rw [wrap_id (by omega) (by omega)]; rfl, by rw [hat, ha]; rfl, by show k + 1 ≤ one.length; omega, by show one.length - (k + 1) < one.length - k; omega⟩)))
    · have h2 : ¬ (k : Int) < one.length := of_decide_eq_false h2
      have hka : one.take k = one := List.take_of_length_le (by omega)
      rw [hka]
      have room : ∀ x : LeafD, decide ((one.length + ((List.drop 0 [x]).take 1).length) * 40 ≤ room47) = true := fun x => by
        have : (300 + 1) * 40 ≤ room47 := by decide
        exact decide_eq_true (Nat.le_trans (Nat.mul_le_mul_right 40 (by simp; omega)) this)
      refine br_i (fun ha => br_t hbd1 fun hsz => br_t ?_ ⟨i + 1, by rw [wrap_id (by omega) (by omega)]; rfl, rfl, ?_, ?_, by show i + 1 ≤ l.length; omega, by show l.length - (i + 1) < l.length - i; omega⟩)
        (fun ha => ⟨i + 1, by rw [wrap_id (by omega) (by omega)]; rfl, rfl, ?_, ?_, by show i + 1 ≤ l.length; omega, by show l.length - (i + 1) < l.length - i; omega⟩)
      · simp only [Bool.and_eq_true]
        exact ⟨⟨by simp, by simp⟩, room _⟩
      all_goals
        rw [hu]
        simp only [Bool.not_eq_true', Bool.not_eq_false'] at ha
        rw [ha]
        simp
  have h1 : ¬ (i : Int) < l.length := of_decide_eq_false h1
  have hi : i ≤ l.length := hi
  have hil : l.take i = l := List.take_of_length_le (by omega)
  rw [hil]
  obtain ⟨hun, hul⟩ := uniq_both l
  generalize uniqL l = one at hun hul ⊢
  refine ⟨(), trivial, fun _ _ => ⟨(), trivial, fun _ _ => ⟨⟨0, rfl, rfl, rfl, Nat.zero_le _⟩, fun k hk hl2 => br_i (fun h2 => ?_) (fun h2 => ?_)⟩⟩⟩
  · have h2 : (k : Int) < one.length := of_decide_eq_true h2
    have hk0 : 0 + (k : Int).toNat = k := by simp
    have hw : IntKind.i64.wrap (IntKind.i64.wrap ((one.length : Int) - 1) - (k : Int)) = ((one.length - 1 - k : Nat) : Int) := by
      rw [wrap_id (n := (one.length : Int) - 1) (by omega) (by omega), wrap_id (by omega) (by omega)]; omega
    have hk1 : 0 + ((one.length - 1 - k : Nat) : Int).toNat = one.length - 1 - k := by simp
    rw [hk0, hw, hk1]
    have e1 := put_step h2
    have e2 := put_step (l := one.reverse) (i := k) (by rw [List.length_reverse]; exact h2)
    rw [rev_get (by omega)] at e2
    exact br_t (decide_eq_true ⟨by omega, h2⟩) (br_t (decide_eq_true (by omega)) ⟨⟨putsD (one.take k), one.getD k noL⟩, rfl, rfl, rfl, rfl, rfl, take_may (by omega) k, fun _ _ _ => br_t (decide_eq_true ⟨by omega, by omega⟩) (br_t (decide_eq_true (by omega))
      ⟨⟨putsD (one.reverse.take k), one.getD (one.length - 1 - k) noL⟩, rfl, rfl, rfl, rfl, rfl, take_may (by rw [List.length_reverse]; omega) k, fun _ _ => ⟨k + 1, by rw [wrap_id (by omega) (by omega)]; rfl, e1, e2, by show k + 1 ≤ one.length; omega, by show one.length - (k + 1) < one.length - k; omega⟩⟩)⟩)
  · have h2 : ¬ (k : Int) < one.length := of_decide_eq_false h2
    have hk : k ≤ one.length := hk
    rw [List.take_of_length_le (l := one) (by omega), List.take_of_length_le (l := one.reverse) (by rw [List.length_reverse]; omega)]
    have hf1 := puts_few (l := one) (by omega)
    have hf2 := puts_few (l := one.reverse) (by rw [List.length_reverse]; omega)
    have hin : TreeD.inorder (putsD one.reverse) = TreeD.inorder (putsD one) := by rw [(puts_ok one.reverse).ino, (puts_ok one).ino, insLs_rev hun]
    have hund : undL (putsD one) p = undL (putsD one.reverse) p := by unfold undL; rw [hin]
    refine ⟨⟨putsD one, p⟩, rfl, rfl, hf1, fun _ _ => ⟨⟨0, rfl, Nat.zero_le _⟩, fun j hj hl3 => br_i (fun h3 => ?_) (fun h3 => ?_)⟩⟩
    · have h3 : (j : Int) < (undL (putsD one) p).length := of_decide_eq_true h3
      have hj0 : 0 + (j : Int).toNat = j := by simp
      rw [hj0]
      have hwi : withinB p ((undL (putsD one) p).getD j noL).path = true := by
        have hm := getD_mem (l := undL (putsD one) p) (i := j) (d := noL) (by omega)
        exact (List.mem_filter.1 hm).2
      have hul2 : (undL (putsD one) p).length ≤ 300 := by
        have h5 := List.length_filter_le (fun x : LeafD => withinB p x.path) (TreeD.inorder (putsD one))
        have h6 : (undL (putsD one) p).length ≤ (TreeD.inorder (putsD one)).length := h5
        rw [(puts_ok one).ino] at h6
        have := insLs_len one
        omega
      exact br_t (decide_eq_true ⟨by omega, h3⟩) (br_t (decide_eq_true (by show j < (undL (putsD one) p).length; omega)) ⟨⟨p, ((undL (putsD one) p).getD j noL).path⟩, rfl, rfl, trivial, fun _ _ => br_f (by dsimp only; rw [hwi]; rfl) ⟨j + 1, by rw [wrap_id (by omega) (by omega)]; rfl, by show j + 1 ≤ (undL (putsD one) p).length; omega, by show (undL (putsD one) p).length - (j + 1) < (undL (putsD one) p).length - j; omega⟩⟩)
    · exact ⟨putsD one, rfl, hf1, fun _ _ => ⟨putsD one.reverse, rfl, hf2, fun _ _ => ⟨⟨_, _⟩, by omega, all_lenO _, by omega, all_lenO _, trivial, fun _ _ => br_t (sameLB_ofO hin.symm) ⟨⟨putsD one.reverse, p⟩, rfl, rfl, hf2, fun _ _ => ⟨⟨_, _⟩, by omega, all_lenO _, by omega, all_lenO _, trivial, fun _ _ => sameLB_ofO hund⟩⟩⟩⟩⟩
end Go.Proofs.Ytkhiifaldbjpbaa.Ses
