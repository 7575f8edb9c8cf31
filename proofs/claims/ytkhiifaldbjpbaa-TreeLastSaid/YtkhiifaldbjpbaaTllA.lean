/- A law of trees: what the evaluator leaves, and that it holds. No condition. -/
import Derived.Test.YtkhiifaldbjpbaaTlmA
import Derived.KernelRfl
set_option linter.unusedSimpArgs false
set_option linter.unusedVariables false

namespace Go.Proofs.Ytkhiifaldbjpbaa.Ses
open Go Go.Proofs Go.Proofs.Ytkhiifaldbjpbaa.Sx Go.Proofs.Ytkhiifaldbjpbaa.Trx
set_option maxRecDepth 100000

theorem tlast_vc (x : LeaL) : evCall tlastE (ev tlastE 1000) 8 (leafArgs x) ⟨[], 0, []⟩ (fun _ _ => False) (fun v _ => TrueV v) = (
(∃ x1 : Unit,
 (True ∧
 (∀ x2 : Unit,
 (True →
 (∃ x3 : (@List LeafD),
 ((@Eq (@List LeafD) x x3) ∧
 (True ∧
 (∀ x4 : Unit,
 (True →
 (br (@Bool.not (@roomB x3))
 (@Eq Bool Bool.true Bool.true)
 (∃ x5 : Unit,
 (True ∧
 (∀ x6 : Unit,
 (True →
 ((∃ x7 : Nat,
 ((@Eq Int (0 : Int) (Nat.cast x7 : Int)) ∧
 ((@Eq TreeD (@TreeD.node Bool.false (@LeafD.mk (@List.nil UInt8) (0 : Int) (0 : Int) Bool.false) TreeD.nil TreeD.nil (0 : Int) (0 : Int)) (@putsD (@List.take LeafD x7 x))) ∧
 (@Nat.le x7 (@List.length LeafD x))))) ∧
 (∀ x8 : Nat,
 ((@Nat.le x8 (@List.length LeafD x)) →
 ((@LE.le Nat _ (@HMul.hMul _ _ _ _ (@List.length LeafD x) (40 : Nat)) room47) →
 (br (@Decidable.decide (@LT.lt Int _ (Nat.cast x8 : Int) (Nat.cast (@List.length LeafD x) : Int)) _)
 (br (@Decidable.decide ((@LE.le Int _ (0 : Int) (Nat.cast x8 : Int)) ∧
 (@LT.lt Int _ (Nat.cast x8 : Int) (Nat.cast (@List.length LeafD x) : Int))) _)
 (∃ x9 : PutA,
 ((@Eq TreeD (@putsD (@List.take LeafD x8 x)) (@PutA.t x9)) ∧
 ((@Eq Bs (@LeafD.path (@List.getD LeafD x (@Int.toNat (Nat.cast x8 : Int)) (@LeafD.mk (@List.nil UInt8) (0 : Int) (0 : Int) Bool.false))) (@LeafD.path (@PutA.x x9))) ∧
 ((@Eq Int (@LeafD.digest (@List.getD LeafD x (@Int.toNat (Nat.cast x8 : Int)) (@LeafD.mk (@List.nil UInt8) (0 : Int) (0 : Int) Bool.false))) (@LeafD.digest (@PutA.x x9))) ∧
 ((@Eq Int (@LeafD.rev (@List.getD LeafD x (@Int.toNat (Nat.cast x8 : Int)) (@LeafD.mk (@List.nil UInt8) (0 : Int) (0 : Int) Bool.false))) (@LeafD.rev (@PutA.x x9))) ∧
 ((@Eq Bool (@LeafD.gone (@List.getD LeafD x (@Int.toNat (Nat.cast x8 : Int)) (@LeafD.mk (@List.nil UInt8) (0 : Int) (0 : Int) Bool.false))) (@LeafD.gone (@PutA.x x9))) ∧
 (((@putP (@PutA.t x9)) ∧
 (@LT.lt Nat _ (@ht (@PutA.t x9)) (100000 : Nat))) ∧
 (∀ x10 : Unit,
 (True →
 (∃ x11 : Nat,
 ((@Eq Int (@Go.IntKind.wrap Go.IntKind.i64 (@HAdd.hAdd Int Int Int _ (Nat.cast x8 : Int) (1 : Int))) (Nat.cast x11 : Int)) ∧
 ((@Eq TreeD (@putD (@PutA.x x9) (@PutA.t x9)) (@putsD (@List.take LeafD x11 x))) ∧
 ((@Nat.le x11 (@List.length LeafD x)) ∧
 (@LT.lt Nat _ (@Nat.sub (@List.length LeafD x) x11) (@Nat.sub (@List.length LeafD x) x8)))))))))))))))
 (Bad "check" "law.go:180"))
 ((@LE.le Nat _ (@HMul.hMul _ _ _ _ (@List.length LeafD x) (40 : Nat)) room47) →
 ((∃ x12 : Nat,
 ((@Eq Int (@Go.IntKind.wrap Go.IntKind.i64 (@HSub.hSub Int Int Int _ (Nat.cast (@List.length LeafD x) : Int) (1 : Int))) (@HSub.hSub Int Int Int _ (@HSub.hSub Int Int Int _ (Nat.cast (@List.length LeafD x) : Int) (1 : Int)) (Nat.cast x12 : Int))) ∧
 ((@Eq Int (0 : Int) (Nat.cast (@lastU (@List.drop LeafD (@HSub.hSub Nat Nat Nat _ (@List.length LeafD x) x12) x)) : Int)) ∧
 (@Nat.le x12 (@List.length LeafD x))))) ∧
 (∀ x13 : Nat,
 ((@Nat.le x13 (@List.length LeafD x)) →
 (br (@Decidable.decide (@GE.ge Int _ (@HSub.hSub Int Int Int _ (@HSub.hSub Int Int Int _ (Nat.cast (@List.length LeafD x) : Int) (1 : Int)) (Nat.cast x13 : Int)) (0 : Int)) _)
 ((∃ x14 : Nat,
 ((@Eq Int (@Go.IntKind.wrap Go.IntKind.i64 (@HAdd.hAdd Int Int Int _ (@HSub.hSub Int Int Int _ (@HSub.hSub Int Int Int _ (Nat.cast (@List.length LeafD x) : Int) (1 : Int)) (Nat.cast x13 : Int)) (1 : Int))) (Nat.cast x14 : Int)) ∧
 ((@Eq Bool Bool.false (@List.any LeafD (@List.drop LeafD (@HAdd.hAdd _ _ _ _ (@Int.toNat (@HSub.hSub Int Int Int _ (@HSub.hSub Int Int Int _ (Nat.cast (@List.length LeafD x) : Int) (1 : Int)) (Nat.cast x13 : Int))) (1 : Nat)) (@List.take LeafD x14 x)) (fun x15 : LeafD => (@BEq.beq Bs _ (@LeafD.path x15) (@LeafD.path (@List.getD LeafD x (@Int.toNat (@HSub.hSub Int Int Int _ (@HSub.hSub Int Int Int _ (Nat.cast (@List.length LeafD x) : Int) (1 : Int)) (Nat.cast x13 : Int))) noL)))))) ∧
 ((@LE.le Nat _ (@HAdd.hAdd _ _ _ _ (@Int.toNat (@HSub.hSub Int Int Int _ (@HSub.hSub Int Int Int _ (Nat.cast (@List.length LeafD x) : Int) (1 : Int)) (Nat.cast x13 : Int))) (1 : Nat)) x14) ∧
 (@LE.le Nat _ x14 (@List.length LeafD x)))))) ∧
 (∀ x16 : Nat,
 (((@LE.le Nat _ (@HAdd.hAdd _ _ _ _ (@Int.toNat (@HSub.hSub Int Int Int _ (@HSub.hSub Int Int Int _ (Nat.cast (@List.length LeafD x) : Int) (1 : Int)) (Nat.cast x13 : Int))) (1 : Nat)) x16) ∧
 (@LE.le Nat _ x16 (@List.length LeafD x))) →
 ((@LE.le Nat _ (@HMul.hMul _ _ _ _ (@List.length LeafD x) (40 : Nat)) room47) →
 (br (@Decidable.decide (@LT.lt Int _ (Nat.cast x16 : Int) (Nat.cast (@List.length LeafD x) : Int)) _)
 (br (@List.any LeafD (@List.drop LeafD (@HAdd.hAdd _ _ _ _ (@Int.toNat (@HSub.hSub Int Int Int _ (@HSub.hSub Int Int Int _ (Nat.cast (@List.length LeafD x) : Int) (1 : Int)) (Nat.cast x13 : Int))) (1 : Nat)) (@List.take LeafD x16 x)) (fun x17 : LeafD => (@BEq.beq Bs _ (@LeafD.path x17) (@LeafD.path (@List.getD LeafD x (@Int.toNat (@HSub.hSub Int Int Int _ (@HSub.hSub Int Int Int _ (Nat.cast (@List.length LeafD x) : Int) (1 : Int)) (Nat.cast x13 : Int))) noL)))))
 (∃ x18 : Nat,
 ((@Eq Int (@Go.IntKind.wrap Go.IntKind.i64 (@HAdd.hAdd Int Int Int _ (Nat.cast x16 : Int) (1 : Int))) (Nat.cast x18 : Int)) ∧
 ((@Eq Bool Bool.true (@List.any LeafD (@List.drop LeafD (@HAdd.hAdd _ _ _ _ (@Int.toNat (@HSub.hSub Int Int Int _ (@HSub.hSub Int Int Int _ (Nat.cast (@List.length LeafD x) : Int) (1 : Int)) (Nat.cast x13 : Int))) (1 : Nat)) (@List.take LeafD x18 x)) (fun x19 : LeafD => (@BEq.beq Bs _ (@LeafD.path x19) (@LeafD.path (@List.getD LeafD x (@Int.toNat (@HSub.hSub Int Int Int _ (@HSub.hSub Int Int Int _ (Nat.cast (@List.length LeafD x) : Int) (1 : Int)) (Nat.cast x13 : Int))) noL)))))) ∧
 (((@LE.le Nat _ (@HAdd.hAdd _ _ _ _ (@Int.toNat (@HSub.hSub Int Int Int _ (@HSub.hSub Int Int Int _ (Nat.cast (@List.length LeafD x) : Int) (1 : Int)) (Nat.cast x13 : Int))) (1 : Nat)) x18) ∧
 (@LE.le Nat _ x18 (@List.length LeafD x))) ∧
 (@LT.lt Nat _ (@Nat.sub (@List.length LeafD x) x18) (@Nat.sub (@List.length LeafD x) x16))))))
 (br (@Decidable.decide ((@LE.le Int _ (0 : Int) (Nat.cast x16 : Int)) ∧
 (@LT.lt Int _ (Nat.cast x16 : Int) (Nat.cast (@List.length LeafD x) : Int))) _)
 (br (@Decidable.decide ((@LE.le Int _ (0 : Int) (@HSub.hSub Int Int Int _ (@HSub.hSub Int Int Int _ (Nat.cast (@List.length LeafD x) : Int) (1 : Int)) (Nat.cast x13 : Int))) ∧
 (@LT.lt Int _ (@HSub.hSub Int Int Int _ (@HSub.hSub Int Int Int _ (Nat.cast (@List.length LeafD x) : Int) (1 : Int)) (Nat.cast x13 : Int)) (Nat.cast (@List.length LeafD x) : Int))) _)
 (∃ x20 : Nat,
 ((@Eq Int (@Go.IntKind.wrap Go.IntKind.i64 (@HAdd.hAdd Int Int Int _ (Nat.cast x16 : Int) (1 : Int))) (Nat.cast x20 : Int)) ∧
 ((@Eq Bool (@BEq.beq Bs _ (@LeafD.path (@List.getD LeafD x (@Int.toNat (Nat.cast x16 : Int)) (@LeafD.mk (@List.nil UInt8) (0 : Int) (0 : Int) Bool.false))) (@LeafD.path (@List.getD LeafD x (@Int.toNat (@HSub.hSub Int Int Int _ (@HSub.hSub Int Int Int _ (Nat.cast (@List.length LeafD x) : Int) (1 : Int)) (Nat.cast x13 : Int))) (@LeafD.mk (@List.nil UInt8) (0 : Int) (0 : Int) Bool.false)))) (@List.any LeafD (@List.drop LeafD (@HAdd.hAdd _ _ _ _ (@Int.toNat (@HSub.hSub Int Int Int _ (@HSub.hSub Int Int Int _ (Nat.cast (@List.length LeafD x) : Int) (1 : Int)) (Nat.cast x13 : Int))) (1 : Nat)) (@List.take LeafD x20 x)) (fun x21 : LeafD => (@BEq.beq Bs _ (@LeafD.path x21) (@LeafD.path (@List.getD LeafD x (@Int.toNat (@HSub.hSub Int Int Int _ (@HSub.hSub Int Int Int _ (Nat.cast (@List.length LeafD x) : Int) (1 : Int)) (Nat.cast x13 : Int))) noL)))))) ∧
 (((@LE.le Nat _ (@HAdd.hAdd _ _ _ _ (@Int.toNat (@HSub.hSub Int Int Int _ (@HSub.hSub Int Int Int _ (Nat.cast (@List.length LeafD x) : Int) (1 : Int)) (Nat.cast x13 : Int))) (1 : Nat)) x20) ∧
 (@LE.le Nat _ x20 (@List.length LeafD x))) ∧
 (@LT.lt Nat _ (@Nat.sub (@List.length LeafD x) x20) (@Nat.sub (@List.length LeafD x) x16))))))
 (Bad "check" "law.go:186"))
 (Bad "check" "law.go:186")))
 (br (@Decidable.decide ((@LE.le Int _ (0 : Int) (@HSub.hSub Int Int Int _ (@HSub.hSub Int Int Int _ (Nat.cast (@List.length LeafD x) : Int) (1 : Int)) (Nat.cast x13 : Int))) ∧
 (@LT.lt Int _ (@HSub.hSub Int Int Int _ (@HSub.hSub Int Int Int _ (Nat.cast (@List.length LeafD x) : Int) (1 : Int)) (Nat.cast x13 : Int)) (Nat.cast (@List.length LeafD x) : Int))) _)
 (∃ x22 : TrS,
 ((@Eq TreeD (@putsD (@List.take LeafD x8 x)) (@TrS.t x22)) ∧
 ((@Eq Bs (@LeafD.path (@List.getD LeafD x (@Int.toNat (@HSub.hSub Int Int Int _ (@HSub.hSub Int Int Int _ (Nat.cast (@List.length LeafD x) : Int) (1 : Int)) (Nat.cast x13 : Int))) (@LeafD.mk (@List.nil UInt8) (0 : Int) (0 : Int) Bool.false))) (@TrS.d x22)) ∧
 (True ∧
 (∀ x23 : Unit,
 (True →
 (br (@Bool.not (@Option.isSome LeafD (@getD' (@TrS.d x22) (@TrS.t x22))))
 (@Eq Bool Bool.false Bool.true)
 (br (@Bool.not (@List.any LeafD (@List.drop LeafD (@HAdd.hAdd _ _ _ _ (@Int.toNat (@HSub.hSub Int Int Int _ (@HSub.hSub Int Int Int _ (Nat.cast (@List.length LeafD x) : Int) (1 : Int)) (Nat.cast x13 : Int))) (1 : Nat)) (@List.take LeafD x16 x)) (fun x24 : LeafD => (@BEq.beq Bs _ (@LeafD.path x24) (@LeafD.path (@List.getD LeafD x (@Int.toNat (@HSub.hSub Int Int Int _ (@HSub.hSub Int Int Int _ (Nat.cast (@List.length LeafD x) : Int) (1 : Int)) (Nat.cast x13 : Int))) noL))))))
 (br (@Decidable.decide ((@LE.le Int _ (0 : Int) (@HSub.hSub Int Int Int _ (@HSub.hSub Int Int Int _ (Nat.cast (@List.length LeafD x) : Int) (1 : Int)) (Nat.cast x13 : Int))) ∧
 (@LT.lt Int _ (@HSub.hSub Int Int Int _ (@HSub.hSub Int Int Int _ (Nat.cast (@List.length LeafD x) : Int) (1 : Int)) (Nat.cast x13 : Int)) (Nat.cast (@List.length LeafD x) : Int))) _)
 (br (@Bool.not (@Bool.and (@BEq.beq Bs _ (@LeafD.path (@Option.getD LeafD (@getD' (@TrS.d x22) (@TrS.t x22)) (@LeafD.mk (@List.nil UInt8) (0 : Int) (0 : Int) Bool.false))) (@LeafD.path (@List.getD LeafD x (@Int.toNat (@HSub.hSub Int Int Int _ (@HSub.hSub Int Int Int _ (Nat.cast (@List.length LeafD x) : Int) (1 : Int)) (Nat.cast x13 : Int))) (@LeafD.mk (@List.nil UInt8) (0 : Int) (0 : Int) Bool.false)))) (@Bool.and (@BEq.beq Int _ (@LeafD.digest (@Option.getD LeafD (@getD' (@TrS.d x22) (@TrS.t x22)) (@LeafD.mk (@List.nil UInt8) (0 : Int) (0 : Int) Bool.false))) (@LeafD.digest (@List.getD LeafD x (@Int.toNat (@HSub.hSub Int Int Int _ (@HSub.hSub Int Int Int _ (Nat.cast (@List.length LeafD x) : Int) (1 : Int)) (Nat.cast x13 : Int))) (@LeafD.mk (@List.nil UInt8) (0 : Int) (0 : Int) Bool.false)))) (@Bool.and (@BEq.beq Int _ (@LeafD.rev (@Option.getD LeafD (@getD' (@TrS.d x22) (@TrS.t x22)) (@LeafD.mk (@List.nil UInt8) (0 : Int) (0 : Int) Bool.false))) (@LeafD.rev (@List.getD LeafD x (@Int.toNat (@HSub.hSub Int Int Int _ (@HSub.hSub Int Int Int _ (Nat.cast (@List.length LeafD x) : Int) (1 : Int)) (Nat.cast x13 : Int))) (@LeafD.mk (@List.nil UInt8) (0 : Int) (0 : Int) Bool.false)))) (@Bool.and (@BEq.beq Bool _ (@LeafD.gone (@Option.getD LeafD (@getD' (@TrS.d x22) (@TrS.t x22)) (@LeafD.mk (@List.nil UInt8) (0 : Int) (0 : Int) Bool.false))) (@LeafD.gone (@List.getD LeafD x (@Int.toNat (@HSub.hSub Int Int Int _ (@HSub.hSub Int Int Int _ (Nat.cast (@List.length LeafD x) : Int) (1 : Int)) (Nat.cast x13 : Int))) (@LeafD.mk (@List.nil UInt8) (0 : Int) (0 : Int) Bool.false)))) Bool.true)))))
 (@Eq Bool Bool.false Bool.true)
 (br (@Bool.not (@List.any LeafD (@List.drop LeafD (@HAdd.hAdd _ _ _ _ (@Int.toNat (@HSub.hSub Int Int Int _ (@HSub.hSub Int Int Int _ (Nat.cast (@List.length LeafD x) : Int) (1 : Int)) (Nat.cast x13 : Int))) (1 : Nat)) (@List.take LeafD x16 x)) (fun x25 : LeafD => (@BEq.beq Bs _ (@LeafD.path x25) (@LeafD.path (@List.getD LeafD x (@Int.toNat (@HSub.hSub Int Int Int _ (@HSub.hSub Int Int Int _ (Nat.cast (@List.length LeafD x) : Int) (1 : Int)) (Nat.cast x13 : Int))) noL))))))
 (∃ x26 : Nat,
 ((@Eq Int (@Go.IntKind.wrap Go.IntKind.i64 (@HSub.hSub Int Int Int _ (@HSub.hSub Int Int Int _ (@HSub.hSub Int Int Int _ (Nat.cast (@List.length LeafD x) : Int) (1 : Int)) (Nat.cast x13 : Int)) (1 : Int))) (@HSub.hSub Int Int Int _ (@HSub.hSub Int Int Int _ (Nat.cast (@List.length LeafD x) : Int) (1 : Int)) (Nat.cast x26 : Int))) ∧
 ((@Eq Int (@Go.IntKind.wrap Go.IntKind.i64 (@HAdd.hAdd Int Int Int _ (Nat.cast (@lastU (@List.drop LeafD (@HSub.hSub Nat Nat Nat _ (@List.length LeafD x) x13) x)) : Int) (1 : Int))) (Nat.cast (@lastU (@List.drop LeafD (@HSub.hSub Nat Nat Nat _ (@List.length LeafD x) x26) x)) : Int)) ∧
 ((@Nat.le x26 (@List.length LeafD x)) ∧
 (@LT.lt Nat _ (@Nat.sub (@List.length LeafD x) x26) (@Nat.sub (@List.length LeafD x) x13))))))
 (∃ x27 : Nat,
 ((@Eq Int (@Go.IntKind.wrap Go.IntKind.i64 (@HSub.hSub Int Int Int _ (@HSub.hSub Int Int Int _ (@HSub.hSub Int Int Int _ (Nat.cast (@List.length LeafD x) : Int) (1 : Int)) (Nat.cast x13 : Int)) (1 : Int))) (@HSub.hSub Int Int Int _ (@HSub.hSub Int Int Int _ (Nat.cast (@List.length LeafD x) : Int) (1 : Int)) (Nat.cast x27 : Int))) ∧
 ((@Eq Int (Nat.cast (@lastU (@List.drop LeafD (@HSub.hSub Nat Nat Nat _ (@List.length LeafD x) x13) x)) : Int) (Nat.cast (@lastU (@List.drop LeafD (@HSub.hSub Nat Nat Nat _ (@List.length LeafD x) x27) x)) : Int)) ∧
 ((@Nat.le x27 (@List.length LeafD x)) ∧
 (@LT.lt Nat _ (@Nat.sub (@List.length LeafD x) x27) (@Nat.sub (@List.length LeafD x) x13))))))))
 (Bad "check" "law.go:189"))
 (br (@Bool.not (@List.any LeafD (@List.drop LeafD (@HAdd.hAdd _ _ _ _ (@Int.toNat (@HSub.hSub Int Int Int _ (@HSub.hSub Int Int Int _ (Nat.cast (@List.length LeafD x) : Int) (1 : Int)) (Nat.cast x13 : Int))) (1 : Nat)) (@List.take LeafD x16 x)) (fun x28 : LeafD => (@BEq.beq Bs _ (@LeafD.path x28) (@LeafD.path (@List.getD LeafD x (@Int.toNat (@HSub.hSub Int Int Int _ (@HSub.hSub Int Int Int _ (Nat.cast (@List.length LeafD x) : Int) (1 : Int)) (Nat.cast x13 : Int))) noL))))))
 (∃ x29 : Nat,
 ((@Eq Int (@Go.IntKind.wrap Go.IntKind.i64 (@HSub.hSub Int Int Int _ (@HSub.hSub Int Int Int _ (@HSub.hSub Int Int Int _ (Nat.cast (@List.length LeafD x) : Int) (1 : Int)) (Nat.cast x13 : Int)) (1 : Int))) (@HSub.hSub Int Int Int _ (@HSub.hSub Int Int Int _ (Nat.cast (@List.length LeafD x) : Int) (1 : Int)) (Nat.cast x29 : Int))) ∧
 ((@Eq Int (@Go.IntKind.wrap Go.IntKind.i64 (@HAdd.hAdd Int Int Int _ (Nat.cast (@lastU (@List.drop LeafD (@HSub.hSub Nat Nat Nat _ (@List.length LeafD x) x13) x)) : Int) (1 : Int))) (Nat.cast (@lastU (@List.drop LeafD (@HSub.hSub Nat Nat Nat _ (@List.length LeafD x) x29) x)) : Int)) ∧
 ((@Nat.le x29 (@List.length LeafD x)) ∧
 (@LT.lt Nat _ (@Nat.sub (@List.length LeafD x) x29) (@Nat.sub (@List.length LeafD x) x13))))))
 (∃ x30 : Nat,
 ((@Eq Int (@Go.IntKind.wrap Go.IntKind.i64 (@HSub.hSub Int Int Int _ (@HSub.hSub Int Int Int _ (@HSub.hSub Int Int Int _ (Nat.cast (@List.length LeafD x) : Int) (1 : Int)) (Nat.cast x13 : Int)) (1 : Int))) (@HSub.hSub Int Int Int _ (@HSub.hSub Int Int Int _ (Nat.cast (@List.length LeafD x) : Int) (1 : Int)) (Nat.cast x30 : Int))) ∧
 ((@Eq Int (Nat.cast (@lastU (@List.drop LeafD (@HSub.hSub Nat Nat Nat _ (@List.length LeafD x) x13) x)) : Int) (Nat.cast (@lastU (@List.drop LeafD (@HSub.hSub Nat Nat Nat _ (@List.length LeafD x) x30) x)) : Int)) ∧
 ((@Nat.le x30 (@List.length LeafD x)) ∧
 (@LT.lt Nat _ (@Nat.sub (@List.length LeafD x) x30) (@Nat.sub (@List.length LeafD x) x13)))))))))))))))
 (Bad "check" "law.go:188")))))))
 (∃ x31 : TreeD,
 ((@Eq TreeD (@putsD (@List.take LeafD x8 x)) x31) ∧
 (True ∧
 (∀ x32 : Unit,
 (True →
 (@Eq Bool (@BEq.beq Int _ (@lenD x31) (Nat.cast (@lastU (@List.drop LeafD (@HSub.hSub Nat Nat Nat _ (@List.length LeafD x) x13) x)) : Int)) Bool.true))))))))))))))))))))))))))))))) := by kernel_rfl

end Go.Proofs.Ytkhiifaldbjpbaa.Ses

namespace Go.Proofs.Ytkhiifaldbjpbaa.Ses
open Go Go.Proofs Go.Proofs.Ytkhiifaldbjpbaa.Sx Go.Proofs.Ytkhiifaldbjpbaa.Trx

theorem dropLl {l : List LeafD} {i : Nat} (h : i < l.length) : l.drop i = l.getD i noL :: l.drop (i + 1) := by
  rw [List.drop_eq_getElem_cons h]
  simp [List.getD, List.getElem?_eq_getElem h]
theorem lastOf_app (p : Bs) (a b : List LeafD) : lastOf p (a ++ b) = (lastOf p b).or (lastOf p a) := by
  unfold lastOf
  rw [List.reverse_append, List.find?_append]
theorem lastOf_here {l : List LeafD} {i : Nat} (h : i < l.length) (hn : ((l.drop (i + 1)).any fun y => y.path == (l.getD i noL).path) = false) : lastOf (l.getD i noL).path l = some (l.getD i noL) := by
  have e : lastOf (l.getD i noL).path (l.take i ++ l.drop i) = some (l.getD i noL) := by
    rw [lastOf_app, dropLl h, lastOf_cons, lastOf_none.2 hn, if_pos rfl]
    rfl
  rwa [List.take_append_drop] at e
theorem lastOf_is {l : List LeafD} {i : Nat} (h : i < l.length) : (lastOf (l.getD i noL).path l).isSome = true := by
  cases hl : lastOf (l.getD i noL).path l with
  | some x => rfl
  | none =>
    have := lastOf_none.1 hl
    rw [List.any_eq_false] at this
    exact absurd (this _ (getD_mem (d := noL) h)) (by simp)
theorem lastU_at {l : List LeafD} {i : Nat} (h : i < l.length) : lastU (l.drop i) = (bif (l.drop (i + 1)).any (fun y => y.path == (l.getD i noL).path) then 0 else 1) + lastU (l.drop (i + 1)) := by
  rw [dropLl h]
  rfl
theorem any_mid {f : LeafD → Bool} {l : List LeafD} {a k : Nat} (h1 : a ≤ k) (h2 : k < l.length) : ((l.take (k + 1)).drop a).any f = (((l.take k).drop a).any f || f (l.getD k noL)) := by
  rw [take_succ_getD noL h2, List.drop_append_of_le_length (by rw [List.length_take]; omega), List.any_append]
  simp
theorem tlast_ok : EnvOK tlastE := tlaw_ok
theorem tlast_body (l : LeaL) : evCall tlastE (ev tlastE 1000) 8 (leafArgs l) ⟨[], 0, []⟩ (fun _ _ => False) (fun v _ => TrueV v) := by
  rw [tlast_vc]
  refine ⟨(), trivial, fun _ _ => ⟨l, rfl, trivial, fun _ _ => br_i (fun _ => rfl) fun hr => ⟨(), trivial, fun _ _ => ⟨⟨0, rfl, rfl, Nat.zero_le _⟩, fun i hi hl => br_i (fun h1 => ?_) (fun h1 => ?_)⟩⟩⟩⟩
  all_goals have hr := (room_of hr).1
  · have h1 : (i : Int) < l.length := of_decide_eq_true h1
    exact br_t (decide_eq_true ⟨by omega, h1⟩) ⟨⟨putsD (l.take i), l.getD i noL⟩, rfl, rfl, rfl, rfl, rfl, take_may hr i, fun _ _ => ⟨i + 1, by rw [wrap_id (by omega) (by omega)]; rfl, put_step h1, by show i + 1 ≤ l.length; omega, by show l.length - (i + 1) < l.length - i; omega⟩⟩
  have h1 : ¬ (i : Int) < l.length := of_decide_eq_false h1
  have hi : i ≤ l.length := hi
  have hil : l.take i = l := List.take_of_length_le (by omega)
  rw [hil]
  intro _
  refine ⟨⟨0, by rw [wrap_id (by omega) (by omega)]; omega, by rw [show l.length - 0 = l.length by omega, List.drop_length]; rfl, Nat.zero_le _⟩, fun j hj => br_i (fun h2 => ?_) (fun h2 => ?_)⟩
  · have h2 : (l.length : Int) - 1 - (j : Int) ≥ 0 := of_decide_eq_true h2
    obtain ⟨z, hz⟩ : ∃ z : Nat, (l.length : Int) - 1 - (j : Int) = (z : Int) := ⟨((l.length : Int) - 1 - (j : Int)).toNat, by omega⟩
    rw [hz]
    have hz0 : (z : Int).toNat = z := rfl
    rw [hz0]
    have hzl : z < l.length := by omega
    have b1 : decide ((0 : Int) ≤ (z : Int) ∧ (z : Int) < l.length) = true := decide_eq_true ⟨by omega, by omega⟩
    refine ⟨⟨z + 1, by rw [wrap_id (by omega) (by omega)]; rfl, by rw [List.drop_of_length_le (by rw [List.length_take]; omega)]; rfl, Nat.le_refl _, by omega⟩, fun k hk hl2 => br_i (fun h3 => ?_) (fun h3 => ?_)⟩
    · have h3 : (k : Int) < l.length := of_decide_eq_true h3
      have hat := any_mid (f := fun y : LeafD => y.path == (l.getD z noL).path) (l := l) (a := z + 1) (k := k) hk.1 (by omega)
      refine br_i (fun ha => ⟨k + 1, by rw [wrap_id (by omega) (by omega)]; rfl, by rw [hat, ha]; rfl, ⟨by omega, by omega⟩, by show l.length - (k + 1) < l.length - k; omega⟩)
        (fun ha => br_t (decide_eq_true ⟨by omega, h3⟩) (br_t b1 ⟨k + 1, by rw [wrap_id (by omega) (by omega)]; rfl, by rw [hat, ha]; rfl, ⟨by omega, by omega⟩, by show l.length - (k + 1) < l.length - k; omega⟩))
    · have h3 : ¬ (k : Int) < l.length := of_decide_eq_false h3
      have hkl : l.take k = l := List.take_of_length_le (by omega)
      rw [hkl]
      have hg : getD' (l.getD z noL).path (putsD l) = lastOf (l.getD z noL).path l := by rw [puts_get, get_insLs]
      have hU : lastU (l.drop (l.length - (j + 1))) = (bif (l.drop (z + 1)).any (fun y => y.path == (l.getD z noL).path) then 0 else 1) + lastU (l.drop (l.length - j)) := by
        rw [show l.length - (j + 1) = z by omega, lastU_at hzl, show l.length - j = z + 1 by omega]
      have hwrap : IntKind.i64.wrap ((z : Int) - 1) = (l.length : Int) - 1 - ((j + 1 : Nat) : Int) := by rw [wrap_id (by omega) (by omega)]; omega
      have hUl : lastU (l.drop (l.length - j)) ≤ 300 := by
        rw [← lastF_len, lastF_eq]
        have := insLs_len (l.drop (l.length - j))
        rw [List.length_drop] at this
        omega
      refine br_t b1 ⟨⟨putsD l, (l.getD z noL).path⟩, rfl, rfl, trivial, fun _ _ => ?_⟩
      dsimp only
      rw [hg, lastOf_is hzl]
      refine br_f rfl (br_i (fun ha => ?_) fun ha => ?_)
      · have ha : ((l.drop (z + 1)).any fun y => y.path == (l.getD z noL).path) = false := by simpa using ha
        rw [lastOf_here hzl ha]
        refine br_t b1 (br_f (by simp) (br_t (by rw [ha]; rfl) ⟨j + 1, hwrap, ?_, by show j + 1 ≤ l.length; omega, by show l.length - (j + 1) < l.length - j; omega⟩))
        rw [hU, ha, wrap_id (by omega) (by omega)]
        show _ = (((1 : Nat) + lastU (l.drop (l.length - j)) : Nat) : Int)
        omega
      · have ha : ((l.drop (z + 1)).any fun y => y.path == (l.getD z noL).path) = true := by simpa using ha
        refine br_f (by rw [ha]; rfl) ⟨j + 1, hwrap, ?_, by show j + 1 ≤ l.length; omega, by show l.length - (j + 1) < l.length - j; omega⟩
        rw [hU, ha]
        show _ = (((0 : Nat) + lastU (l.drop (l.length - j)) : Nat) : Int)
        omega
  · have h2 : ¬ (l.length : Int) - 1 - (j : Int) ≥ 0 := of_decide_eq_false h2
    have hj : j ≤ l.length := hj
    refine ⟨putsD l, rfl, trivial, fun _ _ => ?_⟩
    rw [show l.length - j = 0 by omega, lastU_len]
    simp
end Go.Proofs.Ytkhiifaldbjpbaa.Ses
