/- A law of trees: what the evaluator leaves, and that it holds. No condition. -/
import Derived.Test.YtkhiifaldbjpbaaTlmA
import Derived.KernelRfl
set_option linter.unusedSimpArgs false
set_option linter.unusedVariables false

namespace Go.Proofs.Ytkhiifaldbjpbaa.Ses
open Go Go.Proofs Go.Proofs.Ytkhiifaldbjpbaa.Sx Go.Proofs.Ytkhiifaldbjpbaa.Trx
set_option maxRecDepth 100000

theorem tkn_vc (x : Unit) : evCall tknE (ev tknE 1000) 5 (noArgs x) ⟨[], 0, []⟩ (fun _ _ => False) (fun v _ => TrueV v) = (
(∃ x1 : Unit,
 (True ∧
 (∀ x2 : Unit,
 (True →
 (∃ x3 : Unit,
 (True ∧
 (∀ x4 : Unit,
 (True →
 (∃ x5 : PutA,
 ((@Eq TreeD (@TreeD.node Bool.false (@LeafD.mk (@List.nil UInt8) (0 : Int) (0 : Int) Bool.false) TreeD.nil TreeD.nil (0 : Int) (0 : Int)) (@PutA.t x5)) ∧
 ((@Eq Bs (@Array.toList UInt8 (@ByteArray.data (@ByteArray.mk (@List.toArray UInt8 (@List.cons UInt8 (97 : UInt8) (@List.nil UInt8)))))) (@LeafD.path (@PutA.x x5))) ∧
 ((@Eq Int (0 : Int) (@LeafD.digest (@PutA.x x5))) ∧
 ((@Eq Int (0 : Int) (@LeafD.rev (@PutA.x x5))) ∧
 ((@Eq Bool Bool.false (@LeafD.gone (@PutA.x x5))) ∧
 (((@putP (@PutA.t x5)) ∧
 (@LT.lt Nat _ (@ht (@PutA.t x5)) (100000 : Nat))) ∧
 (∀ x6 : Unit,
 (True →
 (∃ x7 : PutA,
 ((@Eq TreeD (@putD (@PutA.x x5) (@PutA.t x5)) (@PutA.t x7)) ∧
 ((@Eq Bs (@Array.toList UInt8 (@ByteArray.data (@ByteArray.mk (@List.toArray UInt8 (@List.cons UInt8 (97 : UInt8) (@List.cons UInt8 (47 : UInt8) (@List.cons UInt8 (98 : UInt8) (@List.nil UInt8)))))))) (@LeafD.path (@PutA.x x7))) ∧
 ((@Eq Int (0 : Int) (@LeafD.digest (@PutA.x x7))) ∧
 ((@Eq Int (0 : Int) (@LeafD.rev (@PutA.x x7))) ∧
 ((@Eq Bool Bool.false (@LeafD.gone (@PutA.x x7))) ∧
 (((@putP (@PutA.t x7)) ∧
 (@LT.lt Nat _ (@ht (@PutA.t x7)) (100000 : Nat))) ∧
 (∀ x8 : Unit,
 (True →
 (∃ x9 : PutA,
 ((@Eq TreeD (@putD (@PutA.x x7) (@PutA.t x7)) (@PutA.t x9)) ∧
 ((@Eq Bs (@Array.toList UInt8 (@ByteArray.data (@ByteArray.mk (@List.toArray UInt8 (@List.cons UInt8 (97 : UInt8) (@List.cons UInt8 (98 : UInt8) (@List.nil UInt8))))))) (@LeafD.path (@PutA.x x9))) ∧
 ((@Eq Int (0 : Int) (@LeafD.digest (@PutA.x x9))) ∧
 ((@Eq Int (0 : Int) (@LeafD.rev (@PutA.x x9))) ∧
 ((@Eq Bool Bool.false (@LeafD.gone (@PutA.x x9))) ∧
 (((@putP (@PutA.t x9)) ∧
 (@LT.lt Nat _ (@ht (@PutA.t x9)) (100000 : Nat))) ∧
 (∀ x10 : Unit,
 (True →
 (∃ x11 : TrS,
 ((@Eq TreeD (@putD (@PutA.x x9) (@PutA.t x9)) (@TrS.t x11)) ∧
 ((@Eq Bs (@Array.toList UInt8 (@ByteArray.data (@ByteArray.mk (@List.toArray UInt8 (@List.cons UInt8 (97 : UInt8) (@List.nil UInt8)))))) (@TrS.d x11)) ∧
 ((@Eq Bool (@fewL (@TrS.t x11)) Bool.true) ∧
 (∀ x12 : Unit,
 (True →
 (∃ x13 : PutA,
 ((@Eq TreeD TreeD.nil (@PutA.t x13)) ∧
 ((@Eq Bs (@Array.toList UInt8 (@ByteArray.data (@ByteArray.mk (@List.toArray UInt8 (@List.cons UInt8 (120 : UInt8) (@List.nil UInt8)))))) (@LeafD.path (@PutA.x x13))) ∧
 ((@Eq Int (0 : Int) (@LeafD.digest (@PutA.x x13))) ∧
 ((@Eq Int (0 : Int) (@LeafD.rev (@PutA.x x13))) ∧
 ((@Eq Bool Bool.false (@LeafD.gone (@PutA.x x13))) ∧
 (((@putP (@PutA.t x13)) ∧
 (@LT.lt Nat _ (@ht (@PutA.t x13)) (100000 : Nat))) ∧
 (∀ x14 : Unit,
 (True →
 ((@LE.le Nat _ (@HMul.hMul _ _ _ _ (@List.length LeafD (@undL (@TrS.t x11) (@TrS.d x11))) (40 : Nat)) room47) →
 (br (@BEq.beq Int _ (Nat.cast (@List.length LeafD (@undL (@TrS.t x11) (@TrS.d x11))) : Int) (2 : Int))
 (br (@Decidable.decide ((@LE.le Int _ (0 : Int) (1 : Int)) ∧
 (@LT.lt Int _ (1 : Int) (Nat.cast (@List.length LeafD (@undL (@TrS.t x11) (@TrS.d x11))) : Int))) _)
 (br (@Decidable.decide (@LT.lt Nat _ (@HAdd.hAdd _ _ _ _ (0 : Nat) (@Int.toNat (1 : Int))) (@List.length LeafD (@undL (@TrS.t x11) (@TrS.d x11)))) _)
 (br (@BEq.beq Bs _ (@LeafD.path (@List.getD LeafD (@undL (@TrS.t x11) (@TrS.d x11)) (@HAdd.hAdd _ _ _ _ (0 : Nat) (@Int.toNat (1 : Int))) (@LeafD.mk (@List.nil UInt8) (0 : Int) (0 : Int) Bool.false))) (@Array.toList UInt8 (@ByteArray.data (@ByteArray.mk (@List.toArray UInt8 (@List.cons UInt8 (97 : UInt8) (@List.cons UInt8 (47 : UInt8) (@List.cons UInt8 (98 : UInt8) (@List.nil UInt8)))))))))
 (∃ x15 : TreeD,
 ((@Eq TreeD TreeD.nil x15) ∧
 (True ∧
 (∀ x16 : Unit,
 (True →
 (br (@BEq.beq Int _ (@lenD x15) (0 : Int))
 (∃ x17 : TreeD,
 ((@Eq TreeD TreeD.nil x17) ∧
 (True ∧
 (∀ x18 : Unit,
 (True →
 (br (@BEq.beq Int _ (@depthD x17) (0 : Int))
 (∃ x19 : TreeD,
 ((@Eq TreeD TreeD.nil x19) ∧
 ((@Eq Bool (@fewL x19) Bool.true) ∧
 (∀ x20 : Unit,
 (True →
 ((@LE.le Nat _ (@HMul.hMul _ _ _ _ (@List.length LeafD (@TreeD.inorder x19)) (40 : Nat)) room47) →
 (br (@BEq.beq Int _ (Nat.cast (@List.length LeafD (@TreeD.inorder x19)) : Int) (0 : Int))
 (∃ x21 : TreeD,
 ((@Eq TreeD (@putD (@PutA.x x13) (@PutA.t x13)) x21) ∧
 (True ∧
 (∀ x22 : Unit,
 (True →
 (@Eq Bool (@BEq.beq Int _ (@lenD x21) (1 : Int)) Bool.true))))))
 (@Eq Bool Bool.false Bool.true))))))))
 (@Eq Bool Bool.false Bool.true)))))))
 (@Eq Bool Bool.false Bool.true)))))))
 (@Eq Bool Bool.false Bool.true))
 (Bad "check" "law.go:42"))
 (Bad "check" "law.go:42"))
 (@Eq Bool Bool.false Bool.true)))))))))))))))))))))))))))))))))))))))))))))))))))))) := by kernel_rfl

end Go.Proofs.Ytkhiifaldbjpbaa.Ses

namespace Go.Proofs.Ytkhiifaldbjpbaa.Ses
open Go Go.Proofs Go.Proofs.Ytkhiifaldbjpbaa.Sx Go.Proofs.Ytkhiifaldbjpbaa.Trx
set_option maxRecDepth 100000

theorem tkn_ok : EnvOK tknE := tlaw_ok
theorem tkn_body (x : Unit) : evCall tknE (ev tknE 1000) 5 (noArgs x) ⟨[], 0, []⟩ (fun _ _ => False) (fun v _ => TrueV v) := by
  rw [tkn_vc]
  have p1 : putP newD ∧ ht newD < 100000 := ⟨⟨.inl rfl, by decide⟩, by decide +kernel⟩
  have p2 : putP (putD ⟨[97], 0, 0, false⟩ newD) ∧ ht (putD ⟨[97], 0, 0, false⟩ newD) < 100000 := ⟨⟨.inr (by decide +kernel), by decide +kernel⟩, by decide +kernel⟩
  have p3 : putP (putD ⟨[97, 47, 98], 0, 0, false⟩ (putD ⟨[97], 0, 0, false⟩ newD)) ∧ ht (putD ⟨[97, 47, 98], 0, 0, false⟩ (putD ⟨[97], 0, 0, false⟩ newD)) < 100000 := ⟨⟨.inr (by decide +kernel), by decide +kernel⟩, by decide +kernel⟩
  have p4 : putP .nil ∧ ht .nil < 100000 := ⟨⟨.inl rfl, by decide⟩, by decide +kernel⟩
  refine ⟨(), trivial, fun _ _ => ⟨(), trivial, fun _ _ => ⟨⟨newD, ⟨[97], 0, 0, false⟩⟩, rfl, rfl, rfl, rfl, rfl, p1, fun _ _ => ⟨⟨putD ⟨[97], 0, 0, false⟩ newD, ⟨[97, 47, 98], 0, 0, false⟩⟩, rfl, rfl, rfl, rfl, rfl, p2, fun _ _ =>
    ⟨⟨putD ⟨[97, 47, 98], 0, 0, false⟩ (putD ⟨[97], 0, 0, false⟩ newD), ⟨[97, 98], 0, 0, false⟩⟩, rfl, rfl, rfl, rfl, rfl, p3, fun _ _ => ⟨⟨putD ⟨[97, 98], 0, 0, false⟩ (putD ⟨[97, 47, 98], 0, 0, false⟩ (putD ⟨[97], 0, 0, false⟩ newD)), [97]⟩, rfl, rfl, by decide +kernel, fun _ _ =>
    ⟨⟨.nil, ⟨[120], 0, 0, false⟩⟩, rfl, rfl, rfl, rfl, rfl, p4, fun _ _ _ => br_t (by decide +kernel) (br_t (by decide +kernel) (br_t (by decide +kernel) (br_t (by decide +kernel)
      ⟨.nil, rfl, trivial, fun _ _ => br_t (by decide +kernel) ⟨.nil, rfl, trivial, fun _ _ => br_t (by decide +kernel) ⟨.nil, rfl, by decide +kernel, fun _ _ _ => br_t (by decide +kernel) ⟨_, rfl, trivial, fun _ _ => by decide +kernel⟩⟩⟩⟩)))⟩⟩⟩⟩⟩⟩⟩
end Go.Proofs.Ytkhiifaldbjpbaa.Ses
