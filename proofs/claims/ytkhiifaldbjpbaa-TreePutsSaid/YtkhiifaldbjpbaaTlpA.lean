/- A law of trees: what the evaluator leaves, and that it holds. No condition. -/
import Derived.Test.YtkhiifaldbjpbaaTlmA
import Derived.KernelRfl
set_option linter.unusedSimpArgs false
set_option linter.unusedVariables false

namespace Go.Proofs.Ytkhiifaldbjpbaa.Ses
open Go Go.Proofs Go.Proofs.Ytkhiifaldbjpbaa.Sx Go.Proofs.Ytkhiifaldbjpbaa.Trx
set_option maxRecDepth 100000

theorem tputs_vc (x : LeaR) : evCall tputsE (ev tputsE 1000) 9 (leafrArgs x) ⟨[], 0, []⟩ (fun _ _ => False) (fun v _ => TrueV v) = (
(∃ x1 : Unit,
 (True ∧
 (∀ x2 : Unit,
 (True →
 (∃ x3 : (@List LeafD),
 ((@Eq (@List LeafD) (@LeaR.l x) x3) ∧
 (True ∧
 (∀ x4 : Unit,
 (True →
 (br (@Bool.not (@roomB x3))
 (@Eq Bool Bool.true Bool.true)
 ((@LE.le Nat _ (@List.length UInt8 (@LeaR.a x)) maxI64) →
 (br (@Decidable.decide (@GT.gt Int _ (Nat.cast (@List.length UInt8 (@LeaR.a x)) : Int) (300 : Int)) _)
 (@Eq Bool Bool.true Bool.true)
 ((@LE.le Nat _ (@List.length UInt8 (@LeaR.b x)) maxI64) →
 (br (@Decidable.decide (@GT.gt Int _ (Nat.cast (@List.length UInt8 (@LeaR.b x)) : Int) (300 : Int)) _)
 (@Eq Bool Bool.true Bool.true)
 (∃ x5 : Unit,
 (True ∧
 (∀ x6 : Unit,
 (True →
 ((∃ x7 : Nat,
 ((@Eq Int (0 : Int) (Nat.cast x7 : Int)) ∧
 ((@Eq TreeD (@TreeD.node Bool.false (@LeafD.mk (@List.nil UInt8) (0 : Int) (0 : Int) Bool.false) TreeD.nil TreeD.nil (0 : Int) (0 : Int)) (@putsD (@List.take LeafD x7 (@LeaR.l x)))) ∧
 ((@Eq Nat (0 : Nat) (@List.length LeafD (@insLs (@List.take LeafD x7 (@LeaR.l x))))) ∧
 ((@Eq (@List LeafD) (@List.nil LeafD) (@insLs (@List.take LeafD x7 (@LeaR.l x)))) ∧
 (@Nat.le x7 (@List.length LeafD (@LeaR.l x)))))))) ∧
 (∀ x8 : Nat,
 ((@Nat.le x8 (@List.length LeafD (@LeaR.l x))) →
 ((@LE.le Nat _ (@HMul.hMul _ _ _ _ (@List.length LeafD (@LeaR.l x)) (40 : Nat)) room47) →
 (br (@Decidable.decide (@LT.lt Int _ (Nat.cast x8 : Int) (Nat.cast (@List.length LeafD (@LeaR.l x)) : Int)) _)
 (br (@Decidable.decide ((@LE.le Int _ (0 : Int) (Nat.cast x8 : Int)) ∧
 (@LT.lt Int _ (Nat.cast x8 : Int) (Nat.cast (@List.length LeafD (@LeaR.l x)) : Int))) _)
 (∃ x9 : PutA,
 ((@Eq TreeD (@putsD (@List.take LeafD x8 (@LeaR.l x))) (@PutA.t x9)) ∧
 ((@Eq Bs (@LeafD.path (@List.getD LeafD (@LeaR.l x) (@Int.toNat (Nat.cast x8 : Int)) (@LeafD.mk (@List.nil UInt8) (0 : Int) (0 : Int) Bool.false))) (@LeafD.path (@PutA.x x9))) ∧
 ((@Eq Int (@LeafD.digest (@List.getD LeafD (@LeaR.l x) (@Int.toNat (Nat.cast x8 : Int)) (@LeafD.mk (@List.nil UInt8) (0 : Int) (0 : Int) Bool.false))) (@LeafD.digest (@PutA.x x9))) ∧
 ((@Eq Int (@LeafD.rev (@List.getD LeafD (@LeaR.l x) (@Int.toNat (Nat.cast x8 : Int)) (@LeafD.mk (@List.nil UInt8) (0 : Int) (0 : Int) Bool.false))) (@LeafD.rev (@PutA.x x9))) ∧
 ((@Eq Bool (@LeafD.gone (@List.getD LeafD (@LeaR.l x) (@Int.toNat (Nat.cast x8 : Int)) (@LeafD.mk (@List.nil UInt8) (0 : Int) (0 : Int) Bool.false))) (@LeafD.gone (@PutA.x x9))) ∧
 (((@putP (@PutA.t x9)) ∧
 (@LT.lt Nat _ (@ht (@PutA.t x9)) (100000 : Nat))) ∧
 (∀ x10 : Unit,
 (True →
 (br (@Decidable.decide ((@LE.le Int _ (0 : Int) (Nat.cast x8 : Int)) ∧
 (@LT.lt Int _ (Nat.cast x8 : Int) (Nat.cast (@List.length LeafD (@LeaR.l x)) : Int))) _)
 (∃ x11 : LeaX,
 ((@LE.le Nat _ (@HAdd.hAdd _ _ _ _ (0 : Nat) (@List.length LeafD (@insLs (@List.take LeafD x8 (@LeaR.l x))))) (@List.length LeafD (@insLs (@List.take LeafD x8 (@LeaR.l x))))) ∧
 ((@Eq (@List LeafD) (@List.take LeafD (@List.length LeafD (@insLs (@List.take LeafD x8 (@LeaR.l x)))) (@List.drop LeafD (0 : Nat) (@insLs (@List.take LeafD x8 (@LeaR.l x))))) (@LeaX.l x11)) ∧
 ((@Eq Bs (@LeafD.path (@List.getD LeafD (@LeaR.l x) (@Int.toNat (Nat.cast x8 : Int)) (@LeafD.mk (@List.nil UInt8) (0 : Int) (0 : Int) Bool.false))) (@LeafD.path (@LeaX.x x11))) ∧
 ((@Eq Int (@LeafD.digest (@List.getD LeafD (@LeaR.l x) (@Int.toNat (Nat.cast x8 : Int)) (@LeafD.mk (@List.nil UInt8) (0 : Int) (0 : Int) Bool.false))) (@LeafD.digest (@LeaX.x x11))) ∧
 ((@Eq Int (@LeafD.rev (@List.getD LeafD (@LeaR.l x) (@Int.toNat (Nat.cast x8 : Int)) (@LeafD.mk (@List.nil UInt8) (0 : Int) (0 : Int) Bool.false))) (@LeafD.rev (@LeaX.x x11))) ∧
 ((@Eq Bool (@LeafD.gone (@List.getD LeafD (@LeaR.l x) (@Int.toNat (Nat.cast x8 : Int)) (@LeafD.mk (@List.nil UInt8) (0 : Int) (0 : Int) Bool.false))) (@LeafD.gone (@LeaX.x x11))) ∧
 (((@Eq Bool (@shortLf (@LeaX.l x11)) Bool.true) ∧
 ((@Eq Bool (@shortB (@LeafD.path (@LeaX.x x11))) Bool.true) ∧
 (@Eq Bool (@fewLf (@LeaX.l x11)) Bool.true))) ∧
 (∀ x12 : Unit,
 (True →
 ((@LE.le Nat _ (@HMul.hMul _ _ _ _ (@List.length LeafD (@LeaR.l x)) (40 : Nat)) room47) →
 (br (@Decidable.decide ((@LE.le Int _ (0 : Int) (@Go.IntKind.wrap Go.IntKind.i64 (@HSub.hSub Int Int Int _ (@Go.IntKind.wrap Go.IntKind.i64 (@HSub.hSub Int Int Int _ (Nat.cast (@List.length LeafD (@LeaR.l x)) : Int) (1 : Int))) (Nat.cast x8 : Int)))) ∧
 (@LT.lt Int _ (@Go.IntKind.wrap Go.IntKind.i64 (@HSub.hSub Int Int Int _ (@Go.IntKind.wrap Go.IntKind.i64 (@HSub.hSub Int Int Int _ (Nat.cast (@List.length LeafD (@LeaR.l x)) : Int) (1 : Int))) (Nat.cast x8 : Int))) (Nat.cast (@List.length LeafD (@LeaR.l x)) : Int))) _)
 (∃ x13 : TrS,
 ((@Eq TreeD (@putD (@PutA.x x9) (@PutA.t x9)) (@TrS.t x13)) ∧
 ((@Eq Bs (@LeafD.path (@List.getD LeafD (@LeaR.l x) (@Int.toNat (@Go.IntKind.wrap Go.IntKind.i64 (@HSub.hSub Int Int Int _ (@Go.IntKind.wrap Go.IntKind.i64 (@HSub.hSub Int Int Int _ (Nat.cast (@List.length LeafD (@LeaR.l x)) : Int) (1 : Int))) (Nat.cast x8 : Int)))) (@LeafD.mk (@List.nil UInt8) (0 : Int) (0 : Int) Bool.false))) (@TrS.d x13)) ∧
 (True ∧
 (∀ x14 : Unit,
 (True →
 ((@LE.le Nat _ (@HMul.hMul _ _ _ _ (@List.length LeafD (@LeaR.l x)) (40 : Nat)) room47) →
 (br (@Decidable.decide ((@LE.le Int _ (0 : Int) (@Go.IntKind.wrap Go.IntKind.i64 (@HSub.hSub Int Int Int _ (@Go.IntKind.wrap Go.IntKind.i64 (@HSub.hSub Int Int Int _ (Nat.cast (@List.length LeafD (@LeaR.l x)) : Int) (1 : Int))) (Nat.cast x8 : Int)))) ∧
 (@LT.lt Int _ (@Go.IntKind.wrap Go.IntKind.i64 (@HSub.hSub Int Int Int _ (@Go.IntKind.wrap Go.IntKind.i64 (@HSub.hSub Int Int Int _ (Nat.cast (@List.length LeafD (@LeaR.l x)) : Int) (1 : Int))) (Nat.cast x8 : Int))) (Nat.cast (@List.length LeafD (@LeaR.l x)) : Int))) _)
 ((∃ x15 : LeaP,
 ((@LE.le Nat _ (@HAdd.hAdd _ _ _ _ (0 : Nat) (@List.length LeafD (@insL (@LeaX.x x11) (@LeaX.l x11)))) (@List.length LeafD (@insL (@LeaX.x x11) (@LeaX.l x11)))) ∧
 ((@Eq (@List LeafD) (@List.take LeafD (@List.length LeafD (@insL (@LeaX.x x11) (@LeaX.l x11))) (@List.drop LeafD (0 : Nat) (@insL (@LeaX.x x11) (@LeaX.l x11)))) (@LeaP.l x15)) ∧
 ((@Eq Bs (@LeafD.path (@List.getD LeafD (@LeaR.l x) (@Int.toNat (@Go.IntKind.wrap Go.IntKind.i64 (@HSub.hSub Int Int Int _ (@Go.IntKind.wrap Go.IntKind.i64 (@HSub.hSub Int Int Int _ (Nat.cast (@List.length LeafD (@LeaR.l x)) : Int) (1 : Int))) (Nat.cast x8 : Int)))) (@LeafD.mk (@List.nil UInt8) (0 : Int) (0 : Int) Bool.false))) (@LeaP.p x15)) ∧
 (((@Eq Bool (@shortLf (@LeaP.l x15)) Bool.true) ∧
 (@Eq Bool (@shortB (@LeaP.p x15)) Bool.true)) ∧
 (∀ x16 : Unit,
 (True →
 (br (@Bool.not (@Bool.and (@BEq.beq Bs _ (@LeafD.path (@Option.getD LeafD (@getD' (@TrS.d x13) (@TrS.t x13)) (@LeafD.mk (@List.nil UInt8) (0 : Int) (0 : Int) Bool.false))) (@LeafD.path (@Option.getD LeafD (@getL (@LeaP.p x15) (@LeaP.l x15)) (@LeafD.mk (@List.nil UInt8) (0 : Int) (0 : Int) Bool.false)))) (@Bool.and (@BEq.beq Int _ (@LeafD.digest (@Option.getD LeafD (@getD' (@TrS.d x13) (@TrS.t x13)) (@LeafD.mk (@List.nil UInt8) (0 : Int) (0 : Int) Bool.false))) (@LeafD.digest (@Option.getD LeafD (@getL (@LeaP.p x15) (@LeaP.l x15)) (@LeafD.mk (@List.nil UInt8) (0 : Int) (0 : Int) Bool.false)))) (@Bool.and (@BEq.beq Int _ (@LeafD.rev (@Option.getD LeafD (@getD' (@TrS.d x13) (@TrS.t x13)) (@LeafD.mk (@List.nil UInt8) (0 : Int) (0 : Int) Bool.false))) (@LeafD.rev (@Option.getD LeafD (@getL (@LeaP.p x15) (@LeaP.l x15)) (@LeafD.mk (@List.nil UInt8) (0 : Int) (0 : Int) Bool.false)))) (@Bool.and (@BEq.beq Bool _ (@LeafD.gone (@Option.getD LeafD (@getD' (@TrS.d x13) (@TrS.t x13)) (@LeafD.mk (@List.nil UInt8) (0 : Int) (0 : Int) Bool.false))) (@LeafD.gone (@Option.getD LeafD (@getL (@LeaP.p x15) (@LeaP.l x15)) (@LeafD.mk (@List.nil UInt8) (0 : Int) (0 : Int) Bool.false)))) Bool.true)))))
 (@Eq Bool Bool.false Bool.true)
 (br (@Bool.not (@BEq.beq Bool _ (@Option.isSome LeafD (@getD' (@TrS.d x13) (@TrS.t x13))) (@Option.isSome LeafD (@getL (@LeaP.p x15) (@LeaP.l x15)))))
 (@Eq Bool Bool.false Bool.true)
 ((@LE.le Nat _ (@HMul.hMul _ _ _ _ (@List.length LeafD (@insL (@LeaX.x x11) (@LeaX.l x11))) (40 : Nat)) room47) →
 (∃ x17 : TreeD,
 ((@Eq TreeD (@putD (@PutA.x x9) (@PutA.t x9)) x17) ∧
 (True ∧
 (∀ x18 : Unit,
 (True →
 (br (@bne Int _ (@lenD x17) (Nat.cast (@List.length LeafD (@insL (@LeaX.x x11) (@LeaX.l x11))) : Int))
 (@Eq Bool Bool.false Bool.true)
 (∃ x19 : Nat,
 ((@Eq Int (@Go.IntKind.wrap Go.IntKind.i64 (@HAdd.hAdd Int Int Int _ (Nat.cast x8 : Int) (1 : Int))) (Nat.cast x19 : Int)) ∧
 ((@Eq TreeD (@putD (@PutA.x x9) (@PutA.t x9)) (@putsD (@List.take LeafD x19 (@LeaR.l x)))) ∧
 ((@Eq Nat (0 : Nat) (0 : Nat)) ∧
 ((@Eq Nat (@List.length LeafD (@insL (@LeaX.x x11) (@LeaX.l x11))) (@List.length LeafD (@insLs (@List.take LeafD x19 (@LeaR.l x))))) ∧
 ((@Eq (@List LeafD) (@insL (@LeaX.x x11) (@LeaX.l x11)) (@insLs (@List.take LeafD x19 (@LeaR.l x)))) ∧
 ((@Nat.le x19 (@List.length LeafD (@LeaR.l x))) ∧
 (@LT.lt Nat _ (@Nat.sub (@List.length LeafD (@LeaR.l x)) x19) (@Nat.sub (@List.length LeafD (@LeaR.l x)) x8))))))))))))))))))))))))) ∧
 (∃ x20 : LeaP,
 ((@LE.le Nat _ (@HAdd.hAdd _ _ _ _ (0 : Nat) (@List.length LeafD (@insL (@LeaX.x x11) (@LeaX.l x11)))) (@List.length LeafD (@insL (@LeaX.x x11) (@LeaX.l x11)))) ∧
 ((@Eq (@List LeafD) (@List.take LeafD (@List.length LeafD (@insL (@LeaX.x x11) (@LeaX.l x11))) (@List.drop LeafD (0 : Nat) (@insL (@LeaX.x x11) (@LeaX.l x11)))) (@LeaP.l x20)) ∧
 ((@Eq Bs (@LeafD.path (@List.getD LeafD (@LeaR.l x) (@Int.toNat (@Go.IntKind.wrap Go.IntKind.i64 (@HSub.hSub Int Int Int _ (@Go.IntKind.wrap Go.IntKind.i64 (@HSub.hSub Int Int Int _ (Nat.cast (@List.length LeafD (@LeaR.l x)) : Int) (1 : Int))) (Nat.cast x8 : Int)))) (@LeafD.mk (@List.nil UInt8) (0 : Int) (0 : Int) Bool.false))) (@LeaP.p x20)) ∧
 (((@Eq Bool (@shortLf (@LeaP.l x20)) Bool.true) ∧
 (@Eq Bool (@shortB (@LeaP.p x20)) Bool.true)) ∧
 (∀ x21 : Unit,
 (True →
 (br (@Bool.not (@Bool.and (@BEq.beq Bs _ (@LeafD.path (@Option.getD LeafD (@getD' (@TrS.d x13) (@TrS.t x13)) (@LeafD.mk (@List.nil UInt8) (0 : Int) (0 : Int) Bool.false))) (@LeafD.path (@Option.getD LeafD (@getL (@LeaP.p x20) (@LeaP.l x20)) (@LeafD.mk (@List.nil UInt8) (0 : Int) (0 : Int) Bool.false)))) (@Bool.and (@BEq.beq Int _ (@LeafD.digest (@Option.getD LeafD (@getD' (@TrS.d x13) (@TrS.t x13)) (@LeafD.mk (@List.nil UInt8) (0 : Int) (0 : Int) Bool.false))) (@LeafD.digest (@Option.getD LeafD (@getL (@LeaP.p x20) (@LeaP.l x20)) (@LeafD.mk (@List.nil UInt8) (0 : Int) (0 : Int) Bool.false)))) (@Bool.and (@BEq.beq Int _ (@LeafD.rev (@Option.getD LeafD (@getD' (@TrS.d x13) (@TrS.t x13)) (@LeafD.mk (@List.nil UInt8) (0 : Int) (0 : Int) Bool.false))) (@LeafD.rev (@Option.getD LeafD (@getL (@LeaP.p x20) (@LeaP.l x20)) (@LeafD.mk (@List.nil UInt8) (0 : Int) (0 : Int) Bool.false)))) (@Bool.and (@BEq.beq Bool _ (@LeafD.gone (@Option.getD LeafD (@getD' (@TrS.d x13) (@TrS.t x13)) (@LeafD.mk (@List.nil UInt8) (0 : Int) (0 : Int) Bool.false))) (@LeafD.gone (@Option.getD LeafD (@getL (@LeaP.p x20) (@LeaP.l x20)) (@LeafD.mk (@List.nil UInt8) (0 : Int) (0 : Int) Bool.false)))) Bool.true)))))
 (@Eq Bool Bool.false Bool.true)
 (br (@Bool.not (@BEq.beq Bool _ (@Option.isSome LeafD (@getD' (@TrS.d x13) (@TrS.t x13))) (@Option.isSome LeafD (@getL (@LeaP.p x20) (@LeaP.l x20)))))
 (@Eq Bool Bool.false Bool.true)
 ((@LE.le Nat _ (@HMul.hMul _ _ _ _ (@List.length LeafD (@insL (@LeaX.x x11) (@LeaX.l x11))) (40 : Nat)) room47) →
 (∃ x22 : TreeD,
 ((@Eq TreeD (@putD (@PutA.x x9) (@PutA.t x9)) x22) ∧
 (True ∧
 (∀ x23 : Unit,
 (True →
 (br (@bne Int _ (@lenD x22) (Nat.cast (@List.length LeafD (@insL (@LeaX.x x11) (@LeaX.l x11))) : Int))
 (@Eq Bool Bool.false Bool.true)
 (∃ x24 : Nat,
 ((@Eq Int (@Go.IntKind.wrap Go.IntKind.i64 (@HAdd.hAdd Int Int Int _ (Nat.cast x8 : Int) (1 : Int))) (Nat.cast x24 : Int)) ∧
 ((@Eq TreeD (@putD (@PutA.x x9) (@PutA.t x9)) (@putsD (@List.take LeafD x24 (@LeaR.l x)))) ∧
 ((@Eq Nat (0 : Nat) (0 : Nat)) ∧
 ((@Eq Nat (@List.length LeafD (@insL (@LeaX.x x11) (@LeaX.l x11))) (@List.length LeafD (@insLs (@List.take LeafD x24 (@LeaR.l x))))) ∧
 ((@Eq (@List LeafD) (@insL (@LeaX.x x11) (@LeaX.l x11)) (@insLs (@List.take LeafD x24 (@LeaR.l x)))) ∧
 ((@Nat.le x24 (@List.length LeafD (@LeaR.l x))) ∧
 (@LT.lt Nat _ (@Nat.sub (@List.length LeafD (@LeaR.l x)) x24) (@Nat.sub (@List.length LeafD (@LeaR.l x)) x8))))))))))))))))))))))))))
 (Bad "check" "law.go:59")))))))))
 (Bad "check" "law.go:58")))))))))))))
 (Bad "check" "law.go:57")))))))))))
 (Bad "check" "law.go:56"))
 (∃ x25 : TreeD,
 ((@Eq TreeD (@putsD (@List.take LeafD x8 (@LeaR.l x))) x25) ∧
 ((@Eq Bool (@fewL x25) Bool.true) ∧
 (∀ x26 : Unit,
 (True →
 (∃ x27 : Lea2,
 ((@LE.le Nat _ (@HAdd.hAdd _ _ _ _ (0 : Nat) (@List.length LeafD (@TreeD.inorder x25))) (@List.length LeafD (@TreeD.inorder x25))) ∧
 ((@Eq (@List LeafD) (@List.take LeafD (@List.length LeafD (@TreeD.inorder x25)) (@List.drop LeafD (0 : Nat) (@TreeD.inorder x25))) (@Lea2.a x27)) ∧
 ((@LE.le Nat _ (@HAdd.hAdd _ _ _ _ (0 : Nat) (@List.length LeafD (@insLs (@List.take LeafD x8 (@LeaR.l x))))) (@List.length LeafD (@insLs (@List.take LeafD x8 (@LeaR.l x))))) ∧
 ((@Eq (@List LeafD) (@List.take LeafD (@List.length LeafD (@insLs (@List.take LeafD x8 (@LeaR.l x)))) (@List.drop LeafD (0 : Nat) (@insLs (@List.take LeafD x8 (@LeaR.l x))))) (@Lea2.b x27)) ∧
 (True ∧
 (∀ x28 : Unit,
 (True →
 (br (@sameLB (@Lea2.a x27) (@Lea2.b x27))
 (∃ x29 : TrR,
 ((@Eq TreeD (@putsD (@List.take LeafD x8 (@LeaR.l x))) (@TrR.t x29)) ∧
 ((@Eq Bs (@LeaR.a x) (@TrR.a x29)) ∧
 ((@Eq Bs (@LeaR.b x) (@TrR.b x29)) ∧
 ((@Eq Bool (@fewL (@TrR.t x29)) Bool.true) ∧
 (∀ x30 : Unit,
 (True →
 (∃ x31 : LeaR,
 ((@LE.le Nat _ (@HAdd.hAdd _ _ _ _ (0 : Nat) (@List.length LeafD (@insLs (@List.take LeafD x8 (@LeaR.l x))))) (@List.length LeafD (@insLs (@List.take LeafD x8 (@LeaR.l x))))) ∧
 ((@Eq (@List LeafD) (@List.take LeafD (@List.length LeafD (@insLs (@List.take LeafD x8 (@LeaR.l x)))) (@List.drop LeafD (0 : Nat) (@insLs (@List.take LeafD x8 (@LeaR.l x))))) (@LeaR.l x31)) ∧
 ((@Eq Bs (@LeaR.a x) (@LeaR.a x31)) ∧
 ((@Eq Bs (@LeaR.b x) (@LeaR.b x31)) ∧
 (((@Eq Bool (@shortLf (@LeaR.l x31)) Bool.true) ∧
 ((@Eq Bool (@shortB (@LeaR.a x31)) Bool.true) ∧
 ((@Eq Bool (@shortB (@LeaR.b x31)) Bool.true) ∧
 (@Eq Bool (@fewLf (@LeaR.l x31)) Bool.true)))) ∧
 (∀ x32 : Unit,
 (True →
 (∃ x33 : Lea2,
 ((@LE.le Nat _ (@HAdd.hAdd _ _ _ _ (0 : Nat) (@List.length LeafD (@rngL (@TrR.t x29) (@TrR.a x29) (@TrR.b x29)))) (@List.length LeafD (@rngL (@TrR.t x29) (@TrR.a x29) (@TrR.b x29)))) ∧
 ((@Eq (@List LeafD) (@List.take LeafD (@List.length LeafD (@rngL (@TrR.t x29) (@TrR.a x29) (@TrR.b x29))) (@List.drop LeafD (0 : Nat) (@rngL (@TrR.t x29) (@TrR.a x29) (@TrR.b x29)))) (@Lea2.a x33)) ∧
 ((@LE.le Nat _ (@HAdd.hAdd _ _ _ _ (0 : Nat) (@List.length LeafD (@List.filter LeafD (fun x34 : LeafD => (@inR (@LeaR.a x31) (@LeaR.b x31) (@LeafD.path x34))) (@LeaR.l x31)))) (@List.length LeafD (@List.filter LeafD (fun x35 : LeafD => (@inR (@LeaR.a x31) (@LeaR.b x31) (@LeafD.path x35))) (@LeaR.l x31)))) ∧
 ((@Eq (@List LeafD) (@List.take LeafD (@List.length LeafD (@List.filter LeafD (fun x36 : LeafD => (@inR (@LeaR.a x31) (@LeaR.b x31) (@LeafD.path x36))) (@LeaR.l x31))) (@List.drop LeafD (0 : Nat) (@List.filter LeafD (fun x37 : LeafD => (@inR (@LeaR.a x31) (@LeaR.b x31) (@LeafD.path x37))) (@LeaR.l x31)))) (@Lea2.b x33)) ∧
 (True ∧
 (∀ x38 : Unit,
 (True →
 (br (@sameLB (@Lea2.a x33) (@Lea2.b x33))
 (∃ x39 : TrS,
 ((@Eq TreeD (@putsD (@List.take LeafD x8 (@LeaR.l x))) (@TrS.t x39)) ∧
 ((@Eq Bs (@LeaR.a x) (@TrS.d x39)) ∧
 ((@Eq Bool (@fewL (@TrS.t x39)) Bool.true) ∧
 (∀ x40 : Unit,
 (True →
 (∃ x41 : LeaP,
 ((@LE.le Nat _ (@HAdd.hAdd _ _ _ _ (0 : Nat) (@List.length LeafD (@insLs (@List.take LeafD x8 (@LeaR.l x))))) (@List.length LeafD (@insLs (@List.take LeafD x8 (@LeaR.l x))))) ∧
 ((@Eq (@List LeafD) (@List.take LeafD (@List.length LeafD (@insLs (@List.take LeafD x8 (@LeaR.l x)))) (@List.drop LeafD (0 : Nat) (@insLs (@List.take LeafD x8 (@LeaR.l x))))) (@LeaP.l x41)) ∧
 ((@Eq Bs (@LeaR.a x) (@LeaP.p x41)) ∧
 ((@Eq Bool (@fewLf (@LeaP.l x41)) Bool.true) ∧
 (∀ x42 : Unit,
 (True →
 (∃ x43 : Lea2,
 ((@LE.le Nat _ (@HAdd.hAdd _ _ _ _ (0 : Nat) (@List.length LeafD (@undL (@TrS.t x39) (@TrS.d x39)))) (@List.length LeafD (@undL (@TrS.t x39) (@TrS.d x39)))) ∧
 ((@Eq (@List LeafD) (@List.take LeafD (@List.length LeafD (@undL (@TrS.t x39) (@TrS.d x39))) (@List.drop LeafD (0 : Nat) (@undL (@TrS.t x39) (@TrS.d x39)))) (@Lea2.a x43)) ∧
 ((@LE.le Nat _ (@HAdd.hAdd _ _ _ _ (0 : Nat) (@List.length LeafD (@List.filter LeafD (fun x44 : LeafD => (@withinB (@LeaP.p x41) (@LeafD.path x44))) (@LeaP.l x41)))) (@List.length LeafD (@List.filter LeafD (fun x45 : LeafD => (@withinB (@LeaP.p x41) (@LeafD.path x45))) (@LeaP.l x41)))) ∧
 ((@Eq (@List LeafD) (@List.take LeafD (@List.length LeafD (@List.filter LeafD (fun x46 : LeafD => (@withinB (@LeaP.p x41) (@LeafD.path x46))) (@LeaP.l x41))) (@List.drop LeafD (0 : Nat) (@List.filter LeafD (fun x47 : LeafD => (@withinB (@LeaP.p x41) (@LeafD.path x47))) (@LeaP.l x41)))) (@Lea2.b x43)) ∧
 (True ∧
 (∀ x48 : Unit,
 (True →
 (@Eq Bool (@sameLB (@Lea2.a x43) (@Lea2.b x43)) Bool.true))))))))))))))))))))))
 (@Eq Bool Bool.false Bool.true)))))))))))))))))))))))))
 (@Eq Bool Bool.false Bool.true))))))))))))))))))))))))))))))))))))))) := by kernel_rfl

end Go.Proofs.Ytkhiifaldbjpbaa.Ses

namespace Go.Proofs.Ytkhiifaldbjpbaa.Ses
open Go Go.Proofs Go.Proofs.Ytkhiifaldbjpbaa.Sx Go.Proofs.Ytkhiifaldbjpbaa.Trx

theorem short_ins {l : List LeafD} (h : ∀ x, x ∈ l → x.path.length ≤ 300) : shortLf (insLs l) = true := by
  unfold shortLf
  refine List.all_eq_true.2 fun x hx => ?_
  have := (lastOf_some ((mem_insLs x l).1 hx)).1
  exact decide_eq_true (by have := h x this; omega)
theorem short_take {l : List LeafD} (h : ∀ x, x ∈ l → x.path.length ≤ 300) (i : Nat) : shortLf (insLs (l.take i)) = true := short_ins fun x hx => h x (List.mem_of_mem_take hx)
theorem few_ins {l : List LeafD} (h : l.length ≤ 300) : fewLf (insLs l) = true := by
  have := insLs_len l
  exact decide_eq_true (by omega)
theorem sameLB_of {a b : List LeafD} (h : a = b) : sameLB a b = true := by rw [h]; exact sameLB_self b
theorem all_len {α : Type} (l : List α) : (l.drop 0).take l.length = l := by simp

theorem tputs_ok : EnvOK tputsE := tlaw_ok
theorem tputs_body (x : LeaR) : evCall tputsE (ev tputsE 1000) 9 (leafrArgs x) ⟨[], 0, []⟩ (fun _ _ => False) (fun v _ => TrueV v) := by
  rw [tputs_vc]
  obtain ⟨l, a, b⟩ := x
  dsimp only
  refine ⟨(), trivial, fun _ _ => ⟨l, rfl, trivial, fun _ _ => br_i (fun _ => rfl) fun hr ha => br_i (fun _ => rfl) fun ha2 hb => br_i (fun _ => rfl) fun hb2 => ⟨(), trivial, fun _ _ => ⟨⟨0, rfl, rfl, rfl, rfl, Nat.zero_le _⟩, fun i hi hl => br_i (fun h1 => ?_) (fun h1 => ?_)⟩⟩⟩⟩
  all_goals obtain ⟨hr, hp⟩ := room_of hr
  · have h1 : (i : Int) < l.length := of_decide_eq_true h1
    have e := put_step h1
    have e2 : insL (l.getD i noL) (insLs (l.take i)) = insLs (l.take (i + 1)) := (insLs_at (by omega)).symm
    have hlen := insLs_len (l.take (i + 1))
    rw [List.length_take] at hlen
    have hsx : shortB (l.getD i noL).path = true := decide_eq_true (by have := hp _ (getD_mem (l := l) (i := i) (d := noL) (by omega)); omega)
    have hbd : decide ((0 : Int) ≤ (i : Int) ∧ (i : Int) < l.length) = true := decide_eq_true ⟨by omega, h1⟩
    refine br_t hbd ⟨⟨putsD (l.take i), l.getD i noL⟩, rfl, rfl, rfl, rfl, rfl, take_may hr i, fun _ _ => br_t hbd ⟨⟨insLs (l.take i), l.getD i noL⟩, by omega, all_len _, rfl, rfl, rfl, rfl, ⟨short_take hp i, hsx, few_ins (by rw [List.length_take]; omega)⟩, fun _ _ _ => ?_⟩⟩
    have hw : IntKind.i64.wrap (IntKind.i64.wrap ((l.length : Int) - 1) - (i : Int)) = ((l.length - 1 - i : Nat) : Int) := by
      rw [wrap_id (n := (l.length : Int) - 1) (by omega) (by omega), wrap_id (by omega) (by omega)]; omega
    rw [hw]
    have hbd2 : decide ((0 : Int) ≤ ((l.length - 1 - i : Nat) : Int) ∧ ((l.length - 1 - i : Nat) : Int) < l.length) = true := decide_eq_true ⟨by omega, by omega⟩
    have hq := hp _ (getD_mem (l := l) (i := l.length - 1 - i) (d := noL) (by omega))
    have hsq : shortB (l.getD (l.length - 1 - i) noL).path = true := decide_eq_true (by omega)
    refine br_t hbd2 ⟨⟨putsD (l.take (i + 1)), (l.getD (l.length - 1 - i) noL).path⟩, e, rfl, trivial, fun _ _ _ => br_t hbd2 ?_⟩
    have hg : getD' (l.getD (l.length - 1 - i) noL).path (putsD (l.take (i + 1))) = getL (l.getD (l.length - 1 - i) noL).path (insL (l.getD i noL) (insLs (l.take i))) := by rw [puts_get, e2]
    have hs : shortLf (insL (l.getD i noL) (insLs (l.take i))) = true := by rw [e2]; exact short_take hp _
    have hn : lenD (putsD (l.take (i + 1))) = ((insL (l.getD i noL) (insLs (l.take i))).length : Int) := by rw [puts_len, e2]
    dsimp only
    rw [hg]
    refine ⟨⟨⟨insL (l.getD i noL) (insLs (l.take i)), (l.getD (l.length - 1 - i) noL).path⟩, by omega, all_len _, rfl, ⟨hs, hsq⟩, fun _ _ => br_f (by simp) (br_f (by simp) fun _ => ⟨_, e, trivial, fun _ _ => br_f (by rw [hn]; simp) ⟨i + 1, by rw [wrap_id (by omega) (by omega)]; rfl, e, rfl, by rw [e2], e2, by show i + 1 ≤ l.length; omega, by show l.length - (i + 1) < l.length - i; omega⟩⟩)⟩,
      ⟨⟨insL (l.getD i noL) (insLs (l.take i)), (l.getD (l.length - 1 - i) noL).path⟩, by omega, all_len _, rfl, ⟨hs, hsq⟩, fun _ _ => br_f (by simp) (br_f (by simp) fun _ => ⟨_, e, trivial, fun _ _ => br_f (by rw [hn]; simp) ⟨i + 1, by rw [wrap_id (by omega) (by omega)]; rfl, e, rfl, by rw [e2], e2, by show i + 1 ≤ l.length; omega, by show l.length - (i + 1) < l.length - i; omega⟩⟩)⟩⟩
  · have h1 : ¬ (i : Int) < l.length := of_decide_eq_false h1
    have hi : i ≤ l.length := hi
    have hil : l.take i = l := List.take_of_length_le (by omega)
    rw [hil]
    have hino := (puts_ok l).ino
    have hfew := puts_few (l := l) (by omega)
    have hru : rngL (putsD l) a b = (insLs l).filter fun y => inR a b y.path := by unfold rngL; rw [hino]
    have huu : undL (putsD l) a = (insLs l).filter fun y => withinB a y.path := by unfold undL; rw [hino]
    have ha3 : shortB a = true := decide_eq_true (by have := of_decide_eq_false ha2; omega)
    have hb3 : shortB b = true := decide_eq_true (by have := of_decide_eq_false hb2; omega)
    refine ⟨_, rfl, hfew, fun _ _ => ⟨⟨TreeD.inorder (putsD l), insLs l⟩, by omega, all_len _, by omega, all_len _, trivial, fun _ _ => br_t (sameLB_of hino) ⟨⟨putsD l, a, b⟩, rfl, rfl, rfl, hfew, fun _ _ => ⟨⟨insLs l, a, b⟩, by omega, all_len _, rfl, rfl, ⟨short_ins hp, ha3, hb3, few_ins hr⟩, fun _ _ =>
      ⟨⟨rngL (putsD l) a b, (insLs l).filter fun y => inR a b y.path⟩, by omega, all_len _, by omega, all_len _, trivial, fun _ _ => br_t (sameLB_of hru) ⟨⟨putsD l, a⟩, rfl, rfl, hfew, fun _ _ => ⟨⟨insLs l, a⟩, by omega, all_len _, rfl, few_ins hr, fun _ _ => ⟨⟨undL (putsD l) a, (insLs l).filter fun y => withinB a y.path⟩, by omega, all_len _, by omega, all_len _, trivial, fun _ _ => sameLB_of huu⟩⟩⟩⟩⟩⟩⟩⟩
end Go.Proofs.Ytkhiifaldbjpbaa.Ses
