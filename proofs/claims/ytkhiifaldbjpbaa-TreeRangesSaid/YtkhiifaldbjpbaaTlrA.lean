/- A law of trees: what the evaluator leaves, and that it holds. No condition. -/
import Derived.Test.YtkhiifaldbjpbaaTlmA
import Derived.KernelRfl
set_option linter.unusedSimpArgs false
set_option linter.unusedVariables false

namespace Go.Proofs.Ytkhiifaldbjpbaa.Ses
open Go Go.Proofs Go.Proofs.Ytkhiifaldbjpbaa.Sx Go.Proofs.Ytkhiifaldbjpbaa.Trx
set_option maxRecDepth 100000

theorem trng_vc (x : LeaP) : evCall trngE (ev trngE 1000) 7 (leafpArgs x) ⟨[], 0, []⟩ (fun _ _ => False) (fun v _ => TrueV v) = (
(∃ x1 : Unit,
 (True ∧
 (∀ x2 : Unit,
 (True →
 (∃ x3 : (@List LeafD),
 ((@Eq (@List LeafD) (@LeaP.l x) x3) ∧
 (True ∧
 (∀ x4 : Unit,
 (True →
 (br (@Bool.not (@roomB x3))
 (@Eq Bool Bool.true Bool.true)
 ((@LE.le Nat _ (@List.length UInt8 (@LeaP.p x)) maxI64) →
 (br (@Decidable.decide (@GT.gt Int _ (Nat.cast (@List.length UInt8 (@LeaP.p x)) : Int) (300 : Int)) _)
 (@Eq Bool Bool.true Bool.true)
 (br (@BEq.beq Bs _ (@LeaP.p x) (@Array.toList UInt8 (@ByteArray.data (@ByteArray.mk (@List.toArray UInt8 (@List.nil UInt8))))))
 (@Eq Bool Bool.true Bool.true)
 (∃ x5 : Unit,
 (True ∧
 (∀ x6 : Unit,
 (True →
 ((∃ x7 : Nat,
 ((@Eq Int (0 : Int) (Nat.cast x7 : Int)) ∧
 ((@Eq TreeD (@TreeD.node Bool.false (@LeafD.mk (@List.nil UInt8) (0 : Int) (0 : Int) Bool.false) TreeD.nil TreeD.nil (0 : Int) (0 : Int)) (@putsD (@List.take LeafD x7 (@LeaP.l x)))) ∧
 (@Nat.le x7 (@List.length LeafD (@LeaP.l x)))))) ∧
 (∀ x8 : Nat,
 ((@Nat.le x8 (@List.length LeafD (@LeaP.l x))) →
 ((@LE.le Nat _ (@HMul.hMul _ _ _ _ (@List.length LeafD (@LeaP.l x)) (40 : Nat)) room47) →
 (br (@Decidable.decide (@LT.lt Int _ (Nat.cast x8 : Int) (Nat.cast (@List.length LeafD (@LeaP.l x)) : Int)) _)
 (br (@Decidable.decide ((@LE.le Int _ (0 : Int) (Nat.cast x8 : Int)) ∧
 (@LT.lt Int _ (Nat.cast x8 : Int) (Nat.cast (@List.length LeafD (@LeaP.l x)) : Int))) _)
 (∃ x9 : PutA,
 ((@Eq TreeD (@putsD (@List.take LeafD x8 (@LeaP.l x))) (@PutA.t x9)) ∧
 ((@Eq Bs (@LeafD.path (@List.getD LeafD (@LeaP.l x) (@Int.toNat (Nat.cast x8 : Int)) (@LeafD.mk (@List.nil UInt8) (0 : Int) (0 : Int) Bool.false))) (@LeafD.path (@PutA.x x9))) ∧
 ((@Eq Int (@LeafD.digest (@List.getD LeafD (@LeaP.l x) (@Int.toNat (Nat.cast x8 : Int)) (@LeafD.mk (@List.nil UInt8) (0 : Int) (0 : Int) Bool.false))) (@LeafD.digest (@PutA.x x9))) ∧
 ((@Eq Int (@LeafD.rev (@List.getD LeafD (@LeaP.l x) (@Int.toNat (Nat.cast x8 : Int)) (@LeafD.mk (@List.nil UInt8) (0 : Int) (0 : Int) Bool.false))) (@LeafD.rev (@PutA.x x9))) ∧
 ((@Eq Bool (@LeafD.gone (@List.getD LeafD (@LeaP.l x) (@Int.toNat (Nat.cast x8 : Int)) (@LeafD.mk (@List.nil UInt8) (0 : Int) (0 : Int) Bool.false))) (@LeafD.gone (@PutA.x x9))) ∧
 (((@putP (@PutA.t x9)) ∧
 (@LT.lt Nat _ (@ht (@PutA.t x9)) (100000 : Nat))) ∧
 (∀ x10 : Unit,
 (True →
 (∃ x11 : Nat,
 ((@Eq Int (@Go.IntKind.wrap Go.IntKind.i64 (@HAdd.hAdd Int Int Int _ (Nat.cast x8 : Int) (1 : Int))) (Nat.cast x11 : Int)) ∧
 ((@Eq TreeD (@putD (@PutA.x x9) (@PutA.t x9)) (@putsD (@List.take LeafD x11 (@LeaP.l x)))) ∧
 ((@Nat.le x11 (@List.length LeafD (@LeaP.l x))) ∧
 (@LT.lt Nat _ (@Nat.sub (@List.length LeafD (@LeaP.l x)) x11) (@Nat.sub (@List.length LeafD (@LeaP.l x)) x8)))))))))))))))
 (Bad "check" "law.go:154"))
 (∃ x12 : TreeD,
 ((@Eq TreeD (@putsD (@List.take LeafD x8 (@LeaP.l x))) x12) ∧
 ((@Eq Bool (@fewL x12) Bool.true) ∧
 (∀ x13 : Unit,
 (True →
 (∃ x14 : TrR,
 ((@Eq TreeD (@putsD (@List.take LeafD x8 (@LeaP.l x))) (@TrR.t x14)) ∧
 ((@Eq Bs (@Array.toList UInt8 (@ByteArray.data (@ByteArray.mk (@List.toArray UInt8 (@List.nil UInt8))))) (@TrR.a x14)) ∧
 ((@Eq Bs (@LeaP.p x) (@TrR.b x14)) ∧
 ((@Eq Bool (@fewL (@TrR.t x14)) Bool.true) ∧
 (∀ x15 : Unit,
 (True →
 (∃ x16 : TrR,
 ((@Eq TreeD (@putsD (@List.take LeafD x8 (@LeaP.l x))) (@TrR.t x16)) ∧
 ((@Eq Bs (@LeaP.p x) (@TrR.a x16)) ∧
 ((@Eq Bs (@Array.toList UInt8 (@ByteArray.data (@ByteArray.mk (@List.toArray UInt8 (@List.nil UInt8))))) (@TrR.b x16)) ∧
 ((@Eq Bool (@fewL (@TrR.t x16)) Bool.true) ∧
 (∀ x17 : Unit,
 (True →
 (((@Nat.le (@HMul.hMul _ _ _ _ (@List.length LeafD (@rngL (@TrR.t x14) (@TrR.a x14) (@TrR.b x14))) (40 : Nat)) room47) ∧
 (@Nat.le (@HMul.hMul _ _ _ _ (@List.length LeafD (@rngL (@TrR.t x16) (@TrR.a x16) (@TrR.b x16))) (40 : Nat)) room47)) →
 (br (@Bool.and (@Bool.and (@Decidable.decide (@LE.le Nat _ (@HAdd.hAdd _ _ _ _ (0 : Nat) (@List.length LeafD (@rngL (@TrR.t x16) (@TrR.a x16) (@TrR.b x16)))) (@List.length LeafD (@rngL (@TrR.t x16) (@TrR.a x16) (@TrR.b x16)))) _) (@Decidable.decide (@LE.le Nat _ (@HAdd.hAdd _ _ _ _ (0 : Nat) (@List.length LeafD (@rngL (@TrR.t x14) (@TrR.a x14) (@TrR.b x14)))) (@List.length LeafD (@rngL (@TrR.t x14) (@TrR.a x14) (@TrR.b x14)))) _)) (@Decidable.decide (@LE.le Nat _ (@HMul.hMul _ _ _ _ (@HAdd.hAdd _ _ _ _ (@List.length LeafD (@rngL (@TrR.t x14) (@TrR.a x14) (@TrR.b x14))) (@List.length LeafD (@List.take LeafD (@List.length LeafD (@rngL (@TrR.t x16) (@TrR.a x16) (@TrR.b x16))) (@List.drop LeafD (0 : Nat) (@rngL (@TrR.t x16) (@TrR.a x16) (@TrR.b x16)))))) (40 : Nat)) room47) _))
 ((∃ x18 : Nat,
 ((@Eq Int (0 : Int) (Nat.cast x18 : Int)) ∧
 ((@Eq Int (0 : Int) (Nat.cast (@List.length LeafD (@List.filter LeafD (fun x19 : LeafD => (@withinB (@LeaP.p x) (@LeafD.path x19))) (@List.take LeafD x18 (@TreeD.inorder x12)))) : Int)) ∧
 (@Nat.le x18 (@List.length LeafD (@TreeD.inorder x12)))))) ∧
 (∀ x20 : Nat,
 ((@Nat.le x20 (@List.length LeafD (@TreeD.inorder x12))) →
 ((@LE.le Nat _ (@HMul.hMul _ _ _ _ (@List.length LeafD (@TreeD.inorder x12)) (40 : Nat)) room47) →
 (br (@Decidable.decide (@LT.lt Int _ (Nat.cast x20 : Int) (Nat.cast (@List.length LeafD (@TreeD.inorder x12)) : Int)) _)
 (br (@Decidable.decide ((@LE.le Int _ (0 : Int) (Nat.cast x20 : Int)) ∧
 (@LT.lt Int _ (Nat.cast x20 : Int) (Nat.cast (@List.length LeafD (@TreeD.inorder x12)) : Int))) _)
 (br (@Decidable.decide (@LT.lt Nat _ (@HAdd.hAdd _ _ _ _ (0 : Nat) (@Int.toNat (Nat.cast x20 : Int))) (@List.length LeafD (@TreeD.inorder x12))) _)
 (∃ x21 : TwoA,
 ((@Eq Bs (@LeaP.p x) (@TwoA.a x21)) ∧
 ((@Eq Bs (@LeafD.path (@List.getD LeafD (@TreeD.inorder x12) (@HAdd.hAdd _ _ _ _ (0 : Nat) (@Int.toNat (Nat.cast x20 : Int))) (@LeafD.mk (@List.nil UInt8) (0 : Int) (0 : Int) Bool.false))) (@TwoA.b x21)) ∧
 (True ∧
 (∀ x22 : Unit,
 (True →
 (br (@withinB (@TwoA.a x21) (@TwoA.b x21))
 (br (@Decidable.decide (@GT.gt Int _ (Nat.cast x20 : Int) (0 : Int)) _)
 (br (@Decidable.decide ((@LE.le Int _ (0 : Int) (@Go.IntKind.wrap Go.IntKind.i64 (@HSub.hSub Int Int Int _ (Nat.cast x20 : Int) (1 : Int)))) ∧
 (@LT.lt Int _ (@Go.IntKind.wrap Go.IntKind.i64 (@HSub.hSub Int Int Int _ (Nat.cast x20 : Int) (1 : Int))) (Nat.cast (@List.length LeafD (@TreeD.inorder x12)) : Int))) _)
 (br (@Decidable.decide (@LT.lt Nat _ (@HAdd.hAdd _ _ _ _ (0 : Nat) (@Int.toNat (@Go.IntKind.wrap Go.IntKind.i64 (@HSub.hSub Int Int Int _ (Nat.cast x20 : Int) (1 : Int))))) (@List.length LeafD (@TreeD.inorder x12))) _)
 (br (@Decidable.decide ((@LE.le Int _ (0 : Int) (Nat.cast x20 : Int)) ∧
 (@LT.lt Int _ (Nat.cast x20 : Int) (Nat.cast (@List.length LeafD (@TreeD.inorder x12)) : Int))) _)
 (br (@Decidable.decide (@LT.lt Nat _ (@HAdd.hAdd _ _ _ _ (0 : Nat) (@Int.toNat (Nat.cast x20 : Int))) (@List.length LeafD (@TreeD.inorder x12))) _)
 (∃ x23 : TwoA,
 ((@Eq Bs (@LeafD.path (@List.getD LeafD (@TreeD.inorder x12) (@HAdd.hAdd _ _ _ _ (0 : Nat) (@Int.toNat (@Go.IntKind.wrap Go.IntKind.i64 (@HSub.hSub Int Int Int _ (Nat.cast x20 : Int) (1 : Int))))) (@LeafD.mk (@List.nil UInt8) (0 : Int) (0 : Int) Bool.false))) (@TwoA.a x23)) ∧
 ((@Eq Bs (@LeafD.path (@List.getD LeafD (@TreeD.inorder x12) (@HAdd.hAdd _ _ _ _ (0 : Nat) (@Int.toNat (Nat.cast x20 : Int))) (@LeafD.mk (@List.nil UInt8) (0 : Int) (0 : Int) Bool.false))) (@TwoA.b x23)) ∧
 (True ∧
 (∀ x24 : Unit,
 (True →
 (br (@Decidable.decide (@GE.ge Int _ (@cmpL (@splitB (@TwoA.a x23)) (@splitB (@TwoA.b x23))) (0 : Int)) _)
 (@Eq Bool Bool.false Bool.true)
 (∃ x25 : Nat,
 ((@Eq Int (@Go.IntKind.wrap Go.IntKind.i64 (@HAdd.hAdd Int Int Int _ (Nat.cast x20 : Int) (1 : Int))) (Nat.cast x25 : Int)) ∧
 ((@Eq Int (@Go.IntKind.wrap Go.IntKind.i64 (@HAdd.hAdd Int Int Int _ (Nat.cast (@List.length LeafD (@List.filter LeafD (fun x26 : LeafD => (@withinB (@LeaP.p x) (@LeafD.path x26))) (@List.take LeafD x20 (@TreeD.inorder x12)))) : Int) (1 : Int))) (Nat.cast (@List.length LeafD (@List.filter LeafD (fun x27 : LeafD => (@withinB (@LeaP.p x) (@LeafD.path x27))) (@List.take LeafD x25 (@TreeD.inorder x12)))) : Int)) ∧
 ((@Nat.le x25 (@List.length LeafD (@TreeD.inorder x12))) ∧
 (@LT.lt Nat _ (@Nat.sub (@List.length LeafD (@TreeD.inorder x12)) x25) (@Nat.sub (@List.length LeafD (@TreeD.inorder x12)) x20)))))))))))))
 (Bad "check" "law.go:163"))
 (Bad "check" "law.go:163"))
 (Bad "check" "law.go:163"))
 (Bad "check" "law.go:163"))
 (∃ x28 : Nat,
 ((@Eq Int (@Go.IntKind.wrap Go.IntKind.i64 (@HAdd.hAdd Int Int Int _ (Nat.cast x20 : Int) (1 : Int))) (Nat.cast x28 : Int)) ∧
 ((@Eq Int (@Go.IntKind.wrap Go.IntKind.i64 (@HAdd.hAdd Int Int Int _ (Nat.cast (@List.length LeafD (@List.filter LeafD (fun x29 : LeafD => (@withinB (@LeaP.p x) (@LeafD.path x29))) (@List.take LeafD x20 (@TreeD.inorder x12)))) : Int) (1 : Int))) (Nat.cast (@List.length LeafD (@List.filter LeafD (fun x30 : LeafD => (@withinB (@LeaP.p x) (@LeafD.path x30))) (@List.take LeafD x28 (@TreeD.inorder x12)))) : Int)) ∧
 ((@Nat.le x28 (@List.length LeafD (@TreeD.inorder x12))) ∧
 (@LT.lt Nat _ (@Nat.sub (@List.length LeafD (@TreeD.inorder x12)) x28) (@Nat.sub (@List.length LeafD (@TreeD.inorder x12)) x20)))))))
 (br (@Decidable.decide (@GT.gt Int _ (Nat.cast x20 : Int) (0 : Int)) _)
 (br (@Decidable.decide ((@LE.le Int _ (0 : Int) (@Go.IntKind.wrap Go.IntKind.i64 (@HSub.hSub Int Int Int _ (Nat.cast x20 : Int) (1 : Int)))) ∧
 (@LT.lt Int _ (@Go.IntKind.wrap Go.IntKind.i64 (@HSub.hSub Int Int Int _ (Nat.cast x20 : Int) (1 : Int))) (Nat.cast (@List.length LeafD (@TreeD.inorder x12)) : Int))) _)
 (br (@Decidable.decide (@LT.lt Nat _ (@HAdd.hAdd _ _ _ _ (0 : Nat) (@Int.toNat (@Go.IntKind.wrap Go.IntKind.i64 (@HSub.hSub Int Int Int _ (Nat.cast x20 : Int) (1 : Int))))) (@List.length LeafD (@TreeD.inorder x12))) _)
 (br (@Decidable.decide ((@LE.le Int _ (0 : Int) (Nat.cast x20 : Int)) ∧
 (@LT.lt Int _ (Nat.cast x20 : Int) (Nat.cast (@List.length LeafD (@TreeD.inorder x12)) : Int))) _)
 (br (@Decidable.decide (@LT.lt Nat _ (@HAdd.hAdd _ _ _ _ (0 : Nat) (@Int.toNat (Nat.cast x20 : Int))) (@List.length LeafD (@TreeD.inorder x12))) _)
 (∃ x31 : TwoA,
 ((@Eq Bs (@LeafD.path (@List.getD LeafD (@TreeD.inorder x12) (@HAdd.hAdd _ _ _ _ (0 : Nat) (@Int.toNat (@Go.IntKind.wrap Go.IntKind.i64 (@HSub.hSub Int Int Int _ (Nat.cast x20 : Int) (1 : Int))))) (@LeafD.mk (@List.nil UInt8) (0 : Int) (0 : Int) Bool.false))) (@TwoA.a x31)) ∧
 ((@Eq Bs (@LeafD.path (@List.getD LeafD (@TreeD.inorder x12) (@HAdd.hAdd _ _ _ _ (0 : Nat) (@Int.toNat (Nat.cast x20 : Int))) (@LeafD.mk (@List.nil UInt8) (0 : Int) (0 : Int) Bool.false))) (@TwoA.b x31)) ∧
 (True ∧
 (∀ x32 : Unit,
 (True →
 (br (@Decidable.decide (@GE.ge Int _ (@cmpL (@splitB (@TwoA.a x31)) (@splitB (@TwoA.b x31))) (0 : Int)) _)
 (@Eq Bool Bool.false Bool.true)
 (∃ x33 : Nat,
 ((@Eq Int (@Go.IntKind.wrap Go.IntKind.i64 (@HAdd.hAdd Int Int Int _ (Nat.cast x20 : Int) (1 : Int))) (Nat.cast x33 : Int)) ∧
 ((@Eq Int (Nat.cast (@List.length LeafD (@List.filter LeafD (fun x34 : LeafD => (@withinB (@LeaP.p x) (@LeafD.path x34))) (@List.take LeafD x20 (@TreeD.inorder x12)))) : Int) (Nat.cast (@List.length LeafD (@List.filter LeafD (fun x35 : LeafD => (@withinB (@LeaP.p x) (@LeafD.path x35))) (@List.take LeafD x33 (@TreeD.inorder x12)))) : Int)) ∧
 ((@Nat.le x33 (@List.length LeafD (@TreeD.inorder x12))) ∧
 (@LT.lt Nat _ (@Nat.sub (@List.length LeafD (@TreeD.inorder x12)) x33) (@Nat.sub (@List.length LeafD (@TreeD.inorder x12)) x20)))))))))))))
 (Bad "check" "law.go:163"))
 (Bad "check" "law.go:163"))
 (Bad "check" "law.go:163"))
 (Bad "check" "law.go:163"))
 (∃ x36 : Nat,
 ((@Eq Int (@Go.IntKind.wrap Go.IntKind.i64 (@HAdd.hAdd Int Int Int _ (Nat.cast x20 : Int) (1 : Int))) (Nat.cast x36 : Int)) ∧
 ((@Eq Int (Nat.cast (@List.length LeafD (@List.filter LeafD (fun x37 : LeafD => (@withinB (@LeaP.p x) (@LeafD.path x37))) (@List.take LeafD x20 (@TreeD.inorder x12)))) : Int) (Nat.cast (@List.length LeafD (@List.filter LeafD (fun x38 : LeafD => (@withinB (@LeaP.p x) (@LeafD.path x38))) (@List.take LeafD x36 (@TreeD.inorder x12)))) : Int)) ∧
 ((@Nat.le x36 (@List.length LeafD (@TreeD.inorder x12))) ∧
 (@LT.lt Nat _ (@Nat.sub (@List.length LeafD (@TreeD.inorder x12)) x36) (@Nat.sub (@List.length LeafD (@TreeD.inorder x12)) x20))))))))))))))
 (Bad "check" "law.go:160"))
 (Bad "check" "law.go:160"))
 (∃ x39 : Lea2,
 ((@LE.le Nat _ (@HAdd.hAdd _ _ _ _ (0 : Nat) (@List.length LeafD (@TreeD.inorder x12))) (@List.length LeafD (@TreeD.inorder x12))) ∧
 ((@Eq (@List LeafD) (@List.take LeafD (@List.length LeafD (@TreeD.inorder x12)) (@List.drop LeafD (0 : Nat) (@TreeD.inorder x12))) (@Lea2.a x39)) ∧
 ((@LE.le Nat _ (@HAdd.hAdd _ _ _ _ (0 : Nat) (@HAdd.hAdd _ _ _ _ (@List.length LeafD (@rngL (@TrR.t x14) (@TrR.a x14) (@TrR.b x14))) (@List.length LeafD (@List.take LeafD (@List.length LeafD (@rngL (@TrR.t x16) (@TrR.a x16) (@TrR.b x16))) (@List.drop LeafD (0 : Nat) (@rngL (@TrR.t x16) (@TrR.a x16) (@TrR.b x16))))))) (@List.length LeafD (@HAppend.hAppend (@List LeafD) (@List LeafD) (@List LeafD) _ (@List.take LeafD (@List.length LeafD (@rngL (@TrR.t x14) (@TrR.a x14) (@TrR.b x14))) (@List.drop LeafD (0 : Nat) (@rngL (@TrR.t x14) (@TrR.a x14) (@TrR.b x14)))) (@List.take LeafD (@List.length LeafD (@rngL (@TrR.t x16) (@TrR.a x16) (@TrR.b x16))) (@List.drop LeafD (0 : Nat) (@rngL (@TrR.t x16) (@TrR.a x16) (@TrR.b x16))))))) ∧
 ((@Eq (@List LeafD) (@List.take LeafD (@HAdd.hAdd _ _ _ _ (@List.length LeafD (@rngL (@TrR.t x14) (@TrR.a x14) (@TrR.b x14))) (@List.length LeafD (@List.take LeafD (@List.length LeafD (@rngL (@TrR.t x16) (@TrR.a x16) (@TrR.b x16))) (@List.drop LeafD (0 : Nat) (@rngL (@TrR.t x16) (@TrR.a x16) (@TrR.b x16)))))) (@List.drop LeafD (0 : Nat) (@HAppend.hAppend (@List LeafD) (@List LeafD) (@List LeafD) _ (@List.take LeafD (@List.length LeafD (@rngL (@TrR.t x14) (@TrR.a x14) (@TrR.b x14))) (@List.drop LeafD (0 : Nat) (@rngL (@TrR.t x14) (@TrR.a x14) (@TrR.b x14)))) (@List.take LeafD (@List.length LeafD (@rngL (@TrR.t x16) (@TrR.a x16) (@TrR.b x16))) (@List.drop LeafD (0 : Nat) (@rngL (@TrR.t x16) (@TrR.a x16) (@TrR.b x16))))))) (@Lea2.b x39)) ∧
 (True ∧
 (∀ x40 : Unit,
 (True →
 (br (@sameLB (@Lea2.a x39) (@Lea2.b x39))
 (∃ x41 : TrS,
 ((@Eq TreeD (@putsD (@List.take LeafD x8 (@LeaP.l x))) (@TrS.t x41)) ∧
 ((@Eq Bs (@LeaP.p x) (@TrS.d x41)) ∧
 ((@Eq Bool (@fewL (@TrS.t x41)) Bool.true) ∧
 (∀ x42 : Unit,
 (True →
 ((@LE.le Nat _ (@HMul.hMul _ _ _ _ (@List.length LeafD (@undL (@TrS.t x41) (@TrS.d x41))) (40 : Nat)) room47) →
 (br (@BEq.beq Int _ (Nat.cast (@List.length LeafD (@List.filter LeafD (fun x43 : LeafD => (@withinB (@LeaP.p x) (@LeafD.path x43))) (@List.take LeafD x20 (@TreeD.inorder x12)))) : Int) (Nat.cast (@List.length LeafD (@undL (@TrS.t x41) (@TrS.d x41))) : Int))
 (∃ x44 : TrR,
 ((@Eq TreeD (@putsD (@List.take LeafD x8 (@LeaP.l x))) (@TrR.t x44)) ∧
 ((@Eq Bs (@LeaP.p x) (@TrR.a x44)) ∧
 ((@Eq Bs (@LeaP.p x) (@TrR.b x44)) ∧
 ((@Eq Bool (@fewL (@TrR.t x44)) Bool.true) ∧
 (∀ x45 : Unit,
 (True →
 ((@LE.le Nat _ (@HMul.hMul _ _ _ _ (@List.length LeafD (@rngL (@TrR.t x44) (@TrR.a x44) (@TrR.b x44))) (40 : Nat)) room47) →
 (@Eq Bool (@BEq.beq Int _ (Nat.cast (@List.length LeafD (@rngL (@TrR.t x44) (@TrR.a x44) (@TrR.b x44))) : Int) (0 : Int)) Bool.true)))))))))
 (@Eq Bool Bool.false Bool.true)))))))))
 (@Eq Bool Bool.false Bool.true)))))))))))))))
 (Bad "check" "law.go:157"))))))))))))))))))))))))))))))))))))))))))))) := by kernel_rfl

end Go.Proofs.Ytkhiifaldbjpbaa.Ses

namespace Go.Proofs.Ytkhiifaldbjpbaa.Ses
open Go Go.Proofs Go.Proofs.Ytkhiifaldbjpbaa.Sx Go.Proofs.Ytkhiifaldbjpbaa.Trx

theorem all_len' {α : Type} (l : List α) : (l.drop 0).take l.length = l := by simp
theorem ord_at {A : List LeafD} (h : ordL A) {k : Nat} (h0 : 0 < k) (h1 : k < A.length) : cmpL (splitB (A.getD (k - 1) noL).path) (splitB (A.getD k noL).path) < 0 := by
  have := List.pairwise_iff_getElem.1 h (k - 1) k (by omega) h1 (by omega)
  simpa [List.getD, show k - 1 < A.length by omega, h1] using this

theorem trng_ok : EnvOK trngE := tlaw_ok
theorem trng_body (x : LeaP) : evCall trngE (ev trngE 1000) 7 (leafpArgs x) ⟨[], 0, []⟩ (fun _ _ => False) (fun v _ => TrueV v) := by
  rw [trng_vc]
  obtain ⟨l, p⟩ := x
  dsimp only
  refine ⟨(), trivial, fun _ _ => ⟨l, rfl, trivial, fun _ _ => br_i (fun _ => rfl) fun hr hp => br_i (fun _ => rfl) fun hp2 => br_i (fun _ => rfl) fun hc => ⟨(), trivial, fun _ _ => ⟨⟨0, rfl, rfl, Nat.zero_le _⟩, fun i hi hl => br_i (fun h1 => ?_) (fun h1 => ?_)⟩⟩⟩⟩
  all_goals have hr := (room_of hr).1
  · have h1 : (i : Int) < l.length := of_decide_eq_true h1
    have e := put_step h1
    exact br_t (decide_eq_true ⟨by omega, h1⟩) ⟨⟨putsD (l.take i), l.getD i noL⟩, rfl, rfl, rfl, rfl, rfl, take_may hr i, fun _ _ => ⟨i + 1, by rw [wrap_id (by omega) (by omega)]; rfl, e, by show i + 1 ≤ l.length; omega, by show l.length - (i + 1) < l.length - i; omega⟩⟩
  have h1 : ¬ (i : Int) < l.length := of_decide_eq_false h1
  have hi : i ≤ l.length := hi
  have hil : l.take i = l := List.take_of_length_le (by omega)
  rw [hil]
  have hc : p ≠ [] := by simpa using hc
  have hino := (puts_ok l).ino
  have hfew := puts_few (l := l) (by omega)
  have hlen := insLs_len l
  have hord := insLs_ord l
  have hu : undL (putsD l) p = (insLs l).filter fun y => withinB p y.path := by unfold undL; rw [hino]
  have hr1 : ∀ a b, rngL (putsD l) a b = (insLs l).filter fun y => inR a b y.path := fun a b => by unfold rngL; rw [hino]
  have hcut := cut_both hc hord
  have hno : ((insLs l).filter fun y => inR p p y.path) = [] := by
    rw [List.filter_eq_nil_iff]
    intro y _
    rw [inR_none hc]; simp
  refine ⟨putsD l, rfl, hfew, fun _ _ => ⟨⟨putsD l, [], p⟩, rfl, rfl, rfl, hfew, fun _ _ => ⟨⟨putsD l, p, []⟩, rfl, rfl, rfl, hfew, fun _ _ hsz => ?_⟩⟩⟩
  dsimp only
  rw [hino, hr1, hr1]
  generalize insLs l = A at hlen hord hcut hno hu hr1 ⊢
  have l1 := List.length_filter_le (fun y : LeafD => inR [] p y.path) A
  have l2 := List.length_filter_le (fun y : LeafD => inR p [] y.path) A
  rw [all_len', all_len', all_len', hcut]
  have hst : ∀ k, k < A.length → withinB p (A.getD k noL).path = true → (((A.take (k + 1)).filter fun y => withinB p y.path).length : Int) = ((A.take k).filter fun y => withinB p y.path).length + 1 := by
    intro k hk hw
    have := filter_take (f := fun y => withinB p y.path) (l := A) (i := k) hk
    rw [this]
    simp only [hw, cond_true, List.length_append, List.length_singleton]
    omega
  have hsf : ∀ k, k < A.length → withinB p (A.getD k noL).path = false → ((A.take (k + 1)).filter fun y => withinB p y.path) = ((A.take k).filter fun y => withinB p y.path) := by
    intro k hk hw
    have := filter_take (f := fun y => withinB p y.path) (l := A) (i := k) hk
    rw [this]
    simp only [hw, cond_false, List.append_nil]
  have hle : ∀ k, ((A.take k).filter fun y => withinB p y.path).length ≤ 300 := fun k => by
    have h2 := List.length_filter_le (fun y : LeafD => withinB p y.path) (A.take k)
    rw [List.length_take] at h2
    omega
  refine br_t ?_ ⟨⟨0, rfl, rfl, Nat.zero_le _⟩, fun k hk hl2 => br_i (fun h2 => ?_) (fun h2 => ?_)⟩
  · simp only [Bool.and_eq_true, decide_eq_true_eq]
    refine ⟨⟨by omega, by omega⟩, ?_⟩
    have : (300 + 300) * 40 ≤ room47 := by decide
    refine Nat.le_trans (Nat.mul_le_mul_right 40 ?_) this
    omega
  · have h2 : (k : Int) < A.length := of_decide_eq_true h2
    have hbd : decide ((0 : Int) ≤ (k : Int) ∧ (k : Int) < A.length) = true := decide_eq_true ⟨by omega, h2⟩
    have hbe : decide (0 + (k : Int).toNat < A.length) = true := decide_eq_true (by simp; omega)
    have hk0 : 0 + (k : Int).toNat = k := by simp
    rw [hk0] at hbe ⊢
    have key : ∀ (n : Int), (withinB p (A.getD k noL).path = true → n = ((A.take k).filter fun y => withinB p y.path).length + 1) → (withinB p (A.getD k noL).path = false → n = ((A.take k).filter fun y => withinB p y.path).length) →
        ∃ y : Nat, IntKind.i64.wrap ((k : Int) + 1) = (y : Int) ∧ n = (((A.take y).filter fun z => withinB p z.path).length : Int) ∧ y.le A.length ∧ A.length.sub y < A.length.sub k := by
      intro n n1 n2
      refine ⟨k + 1, by rw [wrap_id (by omega) (by omega)]; rfl, ?_, by show k + 1 ≤ A.length; omega, by show A.length - (k + 1) < A.length - k; omega⟩
      cases hw : withinB p (A.getD k noL).path
      · rw [n2 hw, hsf k (by omega) hw]
      · rw [n1 hw, hst k (by omega) hw]
    have cmp : ∀ (n : Int), (withinB p (A.getD k noL).path = true → n = ((A.take k).filter fun y => withinB p y.path).length + 1) → (withinB p (A.getD k noL).path = false → n = ((A.take k).filter fun y => withinB p y.path).length) → (k : Int) > 0 →
        br (decide ((0 : Int) ≤ IntKind.i64.wrap ((k : Int) - 1) ∧ IntKind.i64.wrap ((k : Int) - 1) < A.length)) (br (decide (0 + (IntKind.i64.wrap ((k : Int) - 1)).toNat < A.length)) (br (decide ((0 : Int) ≤ (k : Int) ∧ (k : Int) < A.length)) (br (decide (k < A.length))
          (∃ x23 : TwoA, (A.getD (0 + (IntKind.i64.wrap ((k : Int) - 1)).toNat) ⟨[], 0, 0, false⟩).path = x23.a ∧ (A.getD k ⟨[], 0, 0, false⟩).path = x23.b ∧ True ∧ ∀ (x24 : Unit), True → br (decide (cmpL (splitB x23.a) (splitB x23.b) ≥ 0)) (false = true)
            (∃ y : Nat, IntKind.i64.wrap ((k : Int) + 1) = (y : Int) ∧ n = (((A.take y).filter fun z => withinB p z.path).length : Int) ∧ y.le A.length ∧ A.length.sub y < A.length.sub k))
          (Bad "check" "law.go:163")) (Bad "check" "law.go:163")) (Bad "check" "law.go:163")) (Bad "check" "law.go:163") := by
      intro n n1 n2 h0
      have hw1 : IntKind.i64.wrap ((k : Int) - 1) = ((k - 1 : Nat) : Int) := by rw [wrap_id (by omega) (by omega)]; omega
      rw [hw1]
      have hk1 : 0 + ((k - 1 : Nat) : Int).toNat = k - 1 := by simp
      rw [hk1]
      have ho := ord_at hord (k := k) (by omega) (by omega)
      exact br_t (decide_eq_true ⟨by omega, by omega⟩) (br_t (decide_eq_true (by omega)) (br_t hbd (br_t hbe ⟨⟨_, _⟩, rfl, rfl, trivial, fun _ _ => br_f (decide_eq_false (by show ¬ cmpL (splitB (A.getD (k - 1) noL).path) (splitB (A.getD k noL).path) ≥ 0; omega)) (key n n1 n2)⟩)))
    have hwr : IntKind.i64.wrap (((A.take k).filter fun y => withinB p y.path).length + 1 : Int) = ((A.take k).filter fun y => withinB p y.path).length + 1 := by
      have := hle k
      rw [wrap_id (by omega) (by omega)]
    refine br_t hbd (br_t hbe ⟨⟨p, (A.getD k noL).path⟩, rfl, rfl, trivial, fun _ _ => br_i (fun hw => ?_) (fun hw => ?_)⟩)
    · have hw : withinB p (A.getD k noL).path = true := hw
      rw [hwr]
      exact br_i (fun h0 => cmp _ (fun _ => rfl) (fun h => by rw [hw] at h; cases h) (of_decide_eq_true h0)) (fun _ => key _ (fun _ => rfl) (fun h => by rw [hw] at h; cases h))
    · have hw : withinB p (A.getD k noL).path = false := hw
      exact br_i (fun h0 => cmp _ (fun h => by rw [hw] at h; cases h) (fun _ => rfl) (of_decide_eq_true h0)) (fun _ => key _ (fun h => by rw [hw] at h; cases h) (fun _ => rfl))
  · have h2 : ¬ (k : Int) < A.length := of_decide_eq_false h2
    have hk : k ≤ A.length := hk
    have hka : A.take k = A := List.take_of_length_le (by omega)
    rw [hka]
    refine ⟨⟨A, A⟩, by omega, rfl, ?_, ?_, trivial, fun _ _ => br_t (sameLB_self A) ⟨⟨putsD l, p⟩, rfl, rfl, hfew, fun _ _ _ => br_t ?_ ⟨⟨putsD l, p, p⟩, rfl, rfl, rfl, hfew, fun _ _ _ => ?_⟩⟩⟩
    · have := congrArg List.length hcut
      rw [List.length_append] at this
      omega
    · have := congrArg List.length hcut
      rw [List.length_append] at this
      rw [this]; exact all_len' _
    · dsimp only
      rw [hu]; simp
    · dsimp only
      rw [hr1, hno]; rfl
end Go.Proofs.Ytkhiifaldbjpbaa.Ses
