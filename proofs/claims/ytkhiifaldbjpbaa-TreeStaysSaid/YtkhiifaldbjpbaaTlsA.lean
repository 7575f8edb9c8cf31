/- A law of trees: what the evaluator leaves, and that it holds. No condition. -/
import Derived.Test.YtkhiifaldbjpbaaTlmA
import Derived.KernelRfl
set_option linter.unusedSimpArgs false
set_option linter.unusedVariables false

namespace Go.Proofs.Ytkhiifaldbjpbaa.Ses
open Go Go.Proofs Go.Proofs.Ytkhiifaldbjpbaa.Sx Go.Proofs.Ytkhiifaldbjpbaa.Trx

noncomputable def stayI : St → LInv := fun s => match getE s.env 0, getE s.env 3 with
  | .rslice _ .leaf l, .mslice _ n _ _ => { σ := Nat, I := fun i => i ≤ l.length, μ := fun i => l.length - i, env := fun i => [(5, .int .i64 i), (3, .mslice .tree s.m.next 0 (treesL l i).length), (4, .mslice .leafs (s.m.next + 1) 0 (wasL l i).length)], blk := fun i => [(s.m.next, .rows .tree (treesL l i)), (s.m.next + 1, .rows .leafs (wasL l i))], fresh := 2, drop := [n] }
  | _, _ => LInv.none
noncomputable def tstayE : Envr := Env Try.prog cod tlawS [(8, stayI), (13, staysI2)]
end Go.Proofs.Ytkhiifaldbjpbaa.Ses

namespace Go.Proofs.Ytkhiifaldbjpbaa.Ses
open Go Go.Proofs Go.Proofs.Ytkhiifaldbjpbaa.Sx Go.Proofs.Ytkhiifaldbjpbaa.Trx
set_option maxRecDepth 100000

theorem tstay_vc (x : LeaL) : evCall tstayE (ev tstayE 1000) 3 (leafArgs x) ⟨[], 0, []⟩ (fun _ _ => False) (fun v _ => TrueV v) = (
(∃ x1 : Unit,
 (True ∧
 (∀ x2 : Unit,
 (True →
 ((@LE.le Nat _ (@HMul.hMul _ _ _ _ (@List.length LeafD x) (40 : Nat)) room47) →
 (br (@Decidable.decide (@GT.gt Int _ (Nat.cast (@List.length LeafD x) : Int) (40 : Int)) _)
 (@Eq Bool Bool.true Bool.true)
 (∃ x3 : (@List LeafD),
 ((@Eq (@List LeafD) x x3) ∧
 (True ∧
 (∀ x4 : Unit,
 (True →
 (br (@Bool.not (@roomB x3))
 (@Eq Bool Bool.true Bool.true)
 (∃ x5 : Unit,
 (True ∧
 (∀ x6 : Unit,
 (True →
 ((∃ x7 : Nat,
 ((@Eq Int (0 : Int) (Nat.cast x7 : Int)) ∧
 ((@Eq Nat (0 : Nat) (0 : Nat)) ∧
 ((@Eq Nat (1 : Nat) (@List.length TreeD (@treesL x x7))) ∧
 ((@Eq Nat (0 : Nat) (@List.length (@List LeafD) (@wasL x x7))) ∧
 ((@Eq (@List TreeD) (@List.cons TreeD (@TreeD.node Bool.false (@LeafD.mk (@List.nil UInt8) (0 : Int) (0 : Int) Bool.false) TreeD.nil TreeD.nil (0 : Int) (0 : Int)) (@List.nil TreeD)) (@treesL x x7)) ∧
 ((@Eq (@List (@List LeafD)) (@List.nil (@List LeafD)) (@wasL x x7)) ∧
 (@Nat.le x7 (@List.length LeafD x))))))))) ∧
 (∀ x8 : Nat,
 ((@Nat.le x8 (@List.length LeafD x)) →
 ((@LE.le Nat _ (@HMul.hMul _ _ _ _ (@List.length LeafD x) (40 : Nat)) room47) →
 (br (@Decidable.decide (@LT.lt Int _ (Nat.cast x8 : Int) (Nat.cast (@List.length LeafD x) : Int)) _)
 (br (@Decidable.decide ((@LE.le Int _ (0 : Int) (Nat.cast x8 : Int)) ∧
 (@LT.lt Int _ (Nat.cast x8 : Int) (Nat.cast (@List.length TreeD (@treesL x x8)) : Int))) _)
 (br (@Decidable.decide (@LT.lt Nat _ (@HAdd.hAdd _ _ _ _ (0 : Nat) (@Int.toNat (Nat.cast x8 : Int))) (@List.length TreeD (@treesL x x8))) _)
 (∃ x9 : TreeD,
 ((@Eq TreeD (@List.getD TreeD (@treesL x x8) (@HAdd.hAdd _ _ _ _ (0 : Nat) (@Int.toNat (Nat.cast x8 : Int))) TreeD.nil) x9) ∧
 ((@Eq Bool (@fewL x9) Bool.true) ∧
 (∀ x10 : Unit,
 (True →
 (br (@Bool.and (@Decidable.decide (@LE.le Nat _ (@HAdd.hAdd _ _ _ _ (0 : Nat) (@List.length LeafD (@TreeD.inorder x9))) (@List.length LeafD (@TreeD.inorder x9))) _) Bool.true)
 (((@Nat.le (@HMul.hMul _ _ _ _ (@List.length (@List LeafD) (@wasL x x8)) (24 : Nat)) room47) ∧
 (@Nat.le (@HMul.hMul _ _ _ _ (1 : Nat) (24 : Nat)) room47)) →
 (br (@Bool.and (@Bool.and (@Decidable.decide (@LE.le Nat _ (@HAdd.hAdd _ _ _ _ (0 : Nat) (1 : Nat)) (@List.length (@List LeafD) (@List.cons (@List LeafD) (@List.take LeafD (@List.length LeafD (@TreeD.inorder x9)) (@List.drop LeafD (0 : Nat) (@TreeD.inorder x9))) (@List.nil (@List LeafD))))) _) (@Decidable.decide (@LE.le Nat _ (@HAdd.hAdd _ _ _ _ (0 : Nat) (@List.length (@List LeafD) (@wasL x x8))) (@List.length (@List LeafD) (@wasL x x8))) _)) (@Decidable.decide (@LE.le Nat _ (@HMul.hMul _ _ _ _ (@HAdd.hAdd _ _ _ _ (@List.length (@List LeafD) (@wasL x x8)) (@List.length (@List LeafD) (@List.take (@List LeafD) (1 : Nat) (@List.drop (@List LeafD) (0 : Nat) (@List.cons (@List LeafD) (@List.take LeafD (@List.length LeafD (@TreeD.inorder x9)) (@List.drop LeafD (0 : Nat) (@TreeD.inorder x9))) (@List.nil (@List LeafD))))))) (24 : Nat)) room47) _))
 (br (@Decidable.decide ((@LE.le Int _ (0 : Int) (Nat.cast x8 : Int)) ∧
 (@LT.lt Int _ (Nat.cast x8 : Int) (Nat.cast (@List.length TreeD (@treesL x x8)) : Int))) _)
 (br (@Decidable.decide (@LT.lt Nat _ (@HAdd.hAdd _ _ _ _ (0 : Nat) (@Int.toNat (Nat.cast x8 : Int))) (@List.length TreeD (@treesL x x8))) _)
 (br (@Decidable.decide ((@LE.le Int _ (0 : Int) (Nat.cast x8 : Int)) ∧
 (@LT.lt Int _ (Nat.cast x8 : Int) (Nat.cast (@List.length LeafD x) : Int))) _)
 (∃ x11 : PutA,
 ((@Eq TreeD (@List.getD TreeD (@treesL x x8) (@HAdd.hAdd _ _ _ _ (0 : Nat) (@Int.toNat (Nat.cast x8 : Int))) TreeD.nil) (@PutA.t x11)) ∧
 ((@Eq Bs (@LeafD.path (@List.getD LeafD x (@Int.toNat (Nat.cast x8 : Int)) (@LeafD.mk (@List.nil UInt8) (0 : Int) (0 : Int) Bool.false))) (@LeafD.path (@PutA.x x11))) ∧
 ((@Eq Int (@LeafD.digest (@List.getD LeafD x (@Int.toNat (Nat.cast x8 : Int)) (@LeafD.mk (@List.nil UInt8) (0 : Int) (0 : Int) Bool.false))) (@LeafD.digest (@PutA.x x11))) ∧
 ((@Eq Int (@LeafD.rev (@List.getD LeafD x (@Int.toNat (Nat.cast x8 : Int)) (@LeafD.mk (@List.nil UInt8) (0 : Int) (0 : Int) Bool.false))) (@LeafD.rev (@PutA.x x11))) ∧
 ((@Eq Bool (@LeafD.gone (@List.getD LeafD x (@Int.toNat (Nat.cast x8 : Int)) (@LeafD.mk (@List.nil UInt8) (0 : Int) (0 : Int) Bool.false))) (@LeafD.gone (@PutA.x x11))) ∧
 (((@putP (@PutA.t x11)) ∧
 (@LT.lt Nat _ (@ht (@PutA.t x11)) (100000 : Nat))) ∧
 (∀ x12 : Unit,
 (True →
 (((@Nat.le (@HMul.hMul _ _ _ _ (@List.length TreeD (@treesL x x8)) (8 : Nat)) room47) ∧
 (@Nat.le (@HMul.hMul _ _ _ _ (1 : Nat) (8 : Nat)) room47)) →
 (br (@Bool.and (@Bool.and (@Decidable.decide (@LE.le Nat _ (@HAdd.hAdd _ _ _ _ (0 : Nat) (1 : Nat)) (@List.length TreeD (@List.cons TreeD (@putD (@PutA.x x11) (@PutA.t x11)) (@List.nil TreeD)))) _) (@Decidable.decide (@LE.le Nat _ (@HAdd.hAdd _ _ _ _ (0 : Nat) (@List.length TreeD (@treesL x x8))) (@List.length TreeD (@treesL x x8))) _)) (@Decidable.decide (@LE.le Nat _ (@HMul.hMul _ _ _ _ (@HAdd.hAdd _ _ _ _ (@List.length TreeD (@treesL x x8)) (@List.length TreeD (@List.take TreeD (1 : Nat) (@List.drop TreeD (0 : Nat) (@List.cons TreeD (@putD (@PutA.x x11) (@PutA.t x11)) (@List.nil TreeD)))))) (8 : Nat)) room47) _))
 (∃ x13 : Nat,
 ((@Eq Int (@Go.IntKind.wrap Go.IntKind.i64 (@HAdd.hAdd Int Int Int _ (Nat.cast x8 : Int) (1 : Int))) (Nat.cast x13 : Int)) ∧
 ((@Eq Nat (0 : Nat) (0 : Nat)) ∧
 ((@Eq Nat (@HAdd.hAdd _ _ _ _ (@List.length TreeD (@treesL x x8)) (@List.length TreeD (@List.take TreeD (1 : Nat) (@List.drop TreeD (0 : Nat) (@List.cons TreeD (@putD (@PutA.x x11) (@PutA.t x11)) (@List.nil TreeD)))))) (@List.length TreeD (@treesL x x13))) ∧
 ((@Eq Nat (0 : Nat) (0 : Nat)) ∧
 ((@Eq Nat (@HAdd.hAdd _ _ _ _ (@List.length (@List LeafD) (@wasL x x8)) (@List.length (@List LeafD) (@List.take (@List LeafD) (1 : Nat) (@List.drop (@List LeafD) (0 : Nat) (@List.cons (@List LeafD) (@List.take LeafD (@List.length LeafD (@TreeD.inorder x9)) (@List.drop LeafD (0 : Nat) (@TreeD.inorder x9))) (@List.nil (@List LeafD))))))) (@List.length (@List LeafD) (@wasL x x13))) ∧
 ((@Eq (@List TreeD) (@HAppend.hAppend (@List TreeD) (@List TreeD) (@List TreeD) _ (@List.take TreeD (@List.length TreeD (@treesL x x8)) (@List.drop TreeD (0 : Nat) (@treesL x x8))) (@List.take TreeD (1 : Nat) (@List.drop TreeD (0 : Nat) (@List.cons TreeD (@putD (@PutA.x x11) (@PutA.t x11)) (@List.nil TreeD))))) (@treesL x x13)) ∧
 ((@Eq (@List (@List LeafD)) (@HAppend.hAppend (@List (@List LeafD)) (@List (@List LeafD)) (@List (@List LeafD)) _ (@List.take (@List LeafD) (@List.length (@List LeafD) (@wasL x x8)) (@List.drop (@List LeafD) (0 : Nat) (@wasL x x8))) (@List.take (@List LeafD) (1 : Nat) (@List.drop (@List LeafD) (0 : Nat) (@List.cons (@List LeafD) (@List.take LeafD (@List.length LeafD (@TreeD.inorder x9)) (@List.drop LeafD (0 : Nat) (@TreeD.inorder x9))) (@List.nil (@List LeafD)))))) (@wasL x x13)) ∧
 ((@Nat.le x13 (@List.length LeafD x)) ∧
 (@LT.lt Nat _ (@Nat.sub (@List.length LeafD x) x13) (@Nat.sub (@List.length LeafD x) x8)))))))))))
 (Bad "check" "law.go:79"))))))))))))
 (Bad "check" "law.go:79"))
 (Bad "check" "law.go:79"))
 (Bad "check" "law.go:79"))
 (Bad "check" "law.go:78")))
 (Bad "check" "law.go:78")))))))
 (Bad "check" "law.go:78"))
 (Bad "check" "law.go:78"))
 ((∃ x14 : Nat,
 ((@Eq Int (0 : Int) (Nat.cast x14 : Int)) ∧
 (@Nat.le x14 (@List.length LeafD x)))) ∧
 (∀ x15 : Nat,
 ((@Nat.le x15 (@List.length LeafD x)) →
 ((@LE.le Nat _ (@HMul.hMul _ _ _ _ (@List.length (@List LeafD) (@wasL x x8)) (24 : Nat)) room47) →
 (br (@Decidable.decide (@LT.lt Int _ (Nat.cast x15 : Int) (Nat.cast (@List.length (@List LeafD) (@wasL x x8)) : Int)) _)
 (br (@Decidable.decide ((@LE.le Int _ (0 : Int) (Nat.cast x15 : Int)) ∧
 (@LT.lt Int _ (Nat.cast x15 : Int) (Nat.cast (@List.length TreeD (@treesL x x8)) : Int))) _)
 (br (@Decidable.decide (@LT.lt Nat _ (@HAdd.hAdd _ _ _ _ (0 : Nat) (@Int.toNat (Nat.cast x15 : Int))) (@List.length TreeD (@treesL x x8))) _)
 (br (@Decidable.decide ((@LE.le Int _ (0 : Int) (Nat.cast x15 : Int)) ∧
 (@LT.lt Int _ (Nat.cast x15 : Int) (Nat.cast (@List.length (@List LeafD) (@wasL x x8)) : Int))) _)
 (br (@Decidable.decide (@LT.lt Nat _ (@HAdd.hAdd _ _ _ _ (0 : Nat) (@Int.toNat (Nat.cast x15 : Int))) (@List.length (@List LeafD) (@wasL x x8))) _)
 (∃ x16 : TreeD,
 ((@Eq TreeD (@List.getD TreeD (@treesL x x8) (@HAdd.hAdd _ _ _ _ (0 : Nat) (@Int.toNat (Nat.cast x15 : Int))) TreeD.nil) x16) ∧
 ((@Eq Bool (@fewL x16) Bool.true) ∧
 (∀ x17 : Unit,
 (True →
 (∃ x18 : Lea2,
 ((@LE.le Nat _ (@HAdd.hAdd _ _ _ _ (0 : Nat) (@List.length LeafD (@TreeD.inorder x16))) (@List.length LeafD (@TreeD.inorder x16))) ∧
 ((@Eq (@List LeafD) (@List.take LeafD (@List.length LeafD (@TreeD.inorder x16)) (@List.drop LeafD (0 : Nat) (@TreeD.inorder x16))) (@Lea2.a x18)) ∧
 ((@Eq (@List LeafD) (@List.getD (@List LeafD) (@wasL x x8) (@HAdd.hAdd _ _ _ _ (0 : Nat) (@Int.toNat (Nat.cast x15 : Int))) (@List.nil LeafD)) (@Lea2.b x18)) ∧
 (True ∧
 (∀ x19 : Unit,
 (True →
 (br (@Bool.not (@sameLB (@Lea2.a x18) (@Lea2.b x18)))
 (@Eq Bool Bool.false Bool.true)
 (br (@Decidable.decide ((@LE.le Int _ (0 : Int) (Nat.cast x15 : Int)) ∧
 (@LT.lt Int _ (Nat.cast x15 : Int) (Nat.cast (@List.length TreeD (@treesL x x8)) : Int))) _)
 (br (@Decidable.decide (@LT.lt Nat _ (@HAdd.hAdd _ _ _ _ (0 : Nat) (@Int.toNat (Nat.cast x15 : Int))) (@List.length TreeD (@treesL x x8))) _)
 (br (@Decidable.decide ((@LE.le Int _ (0 : Int) (Nat.cast x15 : Int)) ∧
 (@LT.lt Int _ (Nat.cast x15 : Int) (Nat.cast (@List.length (@List LeafD) (@wasL x x8)) : Int))) _)
 (br (@Decidable.decide (@LT.lt Nat _ (@HAdd.hAdd _ _ _ _ (0 : Nat) (@Int.toNat (Nat.cast x15 : Int))) (@List.length (@List LeafD) (@wasL x x8))) _)
 ((@LE.le Nat _ (@HMul.hMul _ _ _ _ (@List.length LeafD (@List.getD (@List LeafD) (@wasL x x8) (@HAdd.hAdd _ _ _ _ (0 : Nat) (@Int.toNat (Nat.cast x15 : Int))) (@List.nil LeafD))) (40 : Nat)) room47) →
 (∃ x20 : TreeD,
 ((@Eq TreeD (@List.getD TreeD (@treesL x x8) (@HAdd.hAdd _ _ _ _ (0 : Nat) (@Int.toNat (Nat.cast x15 : Int))) TreeD.nil) x20) ∧
 (True ∧
 (∀ x21 : Unit,
 (True →
 (br (@bne Int _ (@lenD x20) (Nat.cast (@List.length LeafD (@List.getD (@List LeafD) (@wasL x x8) (@HAdd.hAdd _ _ _ _ (0 : Nat) (@Int.toNat (Nat.cast x15 : Int))) (@List.nil LeafD))) : Int))
 (@Eq Bool Bool.false Bool.true)
 (br (@Decidable.decide ((@LE.le Int _ (0 : Int) (Nat.cast x15 : Int)) ∧
 (@LT.lt Int _ (Nat.cast x15 : Int) (Nat.cast (@List.length TreeD (@treesL x x8)) : Int))) _)
 (br (@Decidable.decide (@LT.lt Nat _ (@HAdd.hAdd _ _ _ _ (0 : Nat) (@Int.toNat (Nat.cast x15 : Int))) (@List.length TreeD (@treesL x x8))) _)
 (∃ x22 : PutA,
 ((@Eq TreeD (@List.getD TreeD (@treesL x x8) (@HAdd.hAdd _ _ _ _ (0 : Nat) (@Int.toNat (Nat.cast x15 : Int))) TreeD.nil) (@PutA.t x22)) ∧
 ((@Eq Bs (@Array.toList UInt8 (@ByteArray.data (@ByteArray.mk (@List.toArray UInt8 (@List.cons UInt8 (122 : UInt8) (@List.cons UInt8 (122 : UInt8) (@List.nil UInt8))))))) (@LeafD.path (@PutA.x x22))) ∧
 ((@Eq Int (0 : Int) (@LeafD.digest (@PutA.x x22))) ∧
 ((@Eq Int (Nat.cast x15 : Int) (@LeafD.rev (@PutA.x x22))) ∧
 ((@Eq Bool Bool.false (@LeafD.gone (@PutA.x x22))) ∧
 (((@putP (@PutA.t x22)) ∧
 (@LT.lt Nat _ (@ht (@PutA.t x22)) (100000 : Nat))) ∧
 (∀ x23 : Unit,
 (True →
 (br (@Decidable.decide ((@LE.le Int _ (0 : Int) (Nat.cast x15 : Int)) ∧
 (@LT.lt Int _ (Nat.cast x15 : Int) (Nat.cast (@List.length TreeD (@treesL x x8)) : Int))) _)
 (br (@Decidable.decide (@LT.lt Nat _ (@HAdd.hAdd _ _ _ _ (0 : Nat) (@Int.toNat (Nat.cast x15 : Int))) (@List.length TreeD (@treesL x x8))) _)
 (∃ x24 : TreeD,
 ((@Eq TreeD (@putD (@PutA.x x22) (@PutA.t x22)) x24) ∧
 (True ∧
 (∀ x25 : Unit,
 (True →
 (∃ x26 : TreeD,
 ((@Eq TreeD (@List.getD TreeD (@treesL x x8) (@HAdd.hAdd _ _ _ _ (0 : Nat) (@Int.toNat (Nat.cast x15 : Int))) TreeD.nil) x26) ∧
 (True ∧
 (∀ x27 : Unit,
 (True →
 (br (@Decidable.decide (@LT.lt Int _ (@lenD x24) (@lenD x26)) _)
 (@Eq Bool Bool.false Bool.true)
 (br (@Decidable.decide ((@LE.le Int _ (0 : Int) (Nat.cast x15 : Int)) ∧
 (@LT.lt Int _ (Nat.cast x15 : Int) (Nat.cast (@List.length TreeD (@treesL x x8)) : Int))) _)
 (br (@Decidable.decide (@LT.lt Nat _ (@HAdd.hAdd _ _ _ _ (0 : Nat) (@Int.toNat (Nat.cast x15 : Int))) (@List.length TreeD (@treesL x x8))) _)
 (br (@Decidable.decide ((@LE.le Int _ (0 : Int) (Nat.cast x15 : Int)) ∧
 (@LT.lt Int _ (Nat.cast x15 : Int) (Nat.cast (@List.length (@List LeafD) (@wasL x x8)) : Int))) _)
 (br (@Decidable.decide (@LT.lt Nat _ (@HAdd.hAdd _ _ _ _ (0 : Nat) (@Int.toNat (Nat.cast x15 : Int))) (@List.length (@List LeafD) (@wasL x x8))) _)
 (∃ x28 : TreeD,
 ((@Eq TreeD (@List.getD TreeD (@treesL x x8) (@HAdd.hAdd _ _ _ _ (0 : Nat) (@Int.toNat (Nat.cast x15 : Int))) TreeD.nil) x28) ∧
 ((@Eq Bool (@fewL x28) Bool.true) ∧
 (∀ x29 : Unit,
 (True →
 (∃ x30 : Lea2,
 ((@LE.le Nat _ (@HAdd.hAdd _ _ _ _ (0 : Nat) (@List.length LeafD (@TreeD.inorder x28))) (@List.length LeafD (@TreeD.inorder x28))) ∧
 ((@Eq (@List LeafD) (@List.take LeafD (@List.length LeafD (@TreeD.inorder x28)) (@List.drop LeafD (0 : Nat) (@TreeD.inorder x28))) (@Lea2.a x30)) ∧
 ((@Eq (@List LeafD) (@List.getD (@List LeafD) (@wasL x x8) (@HAdd.hAdd _ _ _ _ (0 : Nat) (@Int.toNat (Nat.cast x15 : Int))) (@List.nil LeafD)) (@Lea2.b x30)) ∧
 (True ∧
 (∀ x31 : Unit,
 (True →
 (br (@Bool.not (@sameLB (@Lea2.a x30) (@Lea2.b x30)))
 (@Eq Bool Bool.false Bool.true)
 (∃ x32 : Nat,
 ((@Eq Int (@Go.IntKind.wrap Go.IntKind.i64 (@HAdd.hAdd Int Int Int _ (Nat.cast x15 : Int) (1 : Int))) (Nat.cast x32 : Int)) ∧
 ((@Nat.le x32 (@List.length LeafD x)) ∧
 (@LT.lt Nat _ (@Nat.sub (@List.length LeafD x) x32) (@Nat.sub (@List.length LeafD x) x15))))))))))))))))))
 (Bad "check" "law.go:86"))
 (Bad "check" "law.go:86"))
 (Bad "check" "law.go:86"))
 (Bad "check" "law.go:86")))))))))))))
 (Bad "check" "law.go:86"))
 (Bad "check" "law.go:86")))))))))))
 (Bad "check" "law.go:85"))
 (Bad "check" "law.go:85")))))))))
 (Bad "check" "law.go:82"))
 (Bad "check" "law.go:82"))
 (Bad "check" "law.go:82"))
 (Bad "check" "law.go:82")))))))))))))))
 (Bad "check" "law.go:82"))
 (Bad "check" "law.go:82"))
 (Bad "check" "law.go:82"))
 (Bad "check" "law.go:82"))
 (@Eq Bool Bool.true Bool.true)))))))))))))))))))))))))))) := by kernel_rfl

end Go.Proofs.Ytkhiifaldbjpbaa.Ses

namespace Go.Proofs.Ytkhiifaldbjpbaa.Ses
open Go Go.Proofs Go.Proofs.Ytkhiifaldbjpbaa.Sx Go.Proofs.Ytkhiifaldbjpbaa.Trx

theorem trees_len (l : List LeafD) (i : Nat) : (treesL l i).length = i + 1 := by simp [treesL]
theorem was_len (l : List LeafD) (i : Nat) : (wasL l i).length = i := by simp [wasL]
theorem trees_get {l : List LeafD} {i j : Nat} (h : j ≤ i) : (treesL l i).getD j .nil = putsD (l.take j) := by
  simp [treesL, List.getD, show j < i + 1 by omega]
theorem was_get {l : List LeafD} {i j : Nat} (h : j < i) : (wasL l i).getD j [] = TreeD.inorder (putsD (l.take j)) := by
  simp [wasL, List.getD, h]
theorem trees_suc (l : List LeafD) (i : Nat) : treesL l (i + 1) = treesL l i ++ [putsD (l.take (i + 1))] := by
  unfold treesL
  rw [List.range_succ, List.map_append]
  rfl
theorem was_suc (l : List LeafD) (i : Nat) : wasL l (i + 1) = wasL l i ++ [TreeD.inorder (putsD (l.take i))] := by
  unfold wasL
  rw [List.range_succ, List.map_append]
  rfl
theorem all_lenS {α : Type} (l : List α) : (l.drop 0).take l.length = l := by simp
theorem put_longer (x : LeafD) (l : List LeafD) : lenD (putsD l) ≤ lenD (putD x (putsD l)) := by
  obtain ⟨h1, _, h3⟩ := tok_put (puts_ok l).tok x
  rw [tok_len (puts_ok l).tok, tok_len h1, h3]
  have := (insL_len x (TreeD.inorder (putsD l))).2
  omega
theorem room_small {n b : Nat} (h : n ≤ 1000) (hb : b ≤ 100) : decide (n * b ≤ room47) = true := by
  have h1 : 1000 * 100 ≤ room47 := by decide
  exact decide_eq_true (Nat.le_trans (Nat.mul_le_mul h hb) h1)

theorem tstay_ok : EnvOK tstayE := tlaw_ok
theorem tstay_body (l : LeaL) : evCall tstayE (ev tstayE 1000) 3 (leafArgs l) ⟨[], 0, []⟩ (fun _ _ => False) (fun v _ => TrueV v) := by
  rw [tstay_vc]
  refine ⟨(), trivial, fun _ _ h40 => br_i (fun _ => rfl) fun hn => ⟨l, rfl, trivial, fun _ _ => br_i (fun _ => rfl) fun hr => ⟨(), trivial, fun _ _ => ⟨⟨0, rfl, rfl, rfl, rfl, rfl, rfl, Nat.zero_le _⟩, fun i hi hl => br_i (fun h1 => ?_) (fun h1 => ?_)⟩⟩⟩⟩
  all_goals have hn : ¬ (l.length : Int) > 40 := of_decide_eq_false hn
  · have h1 : (i : Int) < l.length := of_decide_eq_true h1
    have hk0 : 0 + (i : Int).toNat = i := by simp
    have e := put_step h1
    rw [hk0, trees_len, was_len, trees_get (Nat.le_refl _)]
    have hfew : fewL (putsD (l.take i)) = true := puts_few (by rw [List.length_take]; omega)
    have b1 : decide ((0 : Int) ≤ (i : Int) ∧ (i : Int) < ((i + 1 : Nat) : Int)) = true := decide_eq_true ⟨by omega, by omega⟩
    have b2 : decide (i < i + 1) = true := decide_eq_true (by omega)
    have b3 : decide ((0 : Int) ≤ (i : Int) ∧ (i : Int) < l.length) = true := decide_eq_true ⟨by omega, h1⟩
    refine br_t b1 (br_t b2 ⟨putsD (l.take i), rfl, hfew, fun _ _ => br_t (by simp) fun _ => br_t ?_ (br_t b1 (br_t b2 (br_t b3 ⟨⟨putsD (l.take i), l.getD i noL⟩, rfl, rfl, rfl, rfl, rfl, take_may (by omega) i, fun _ _ _ => br_t ?_ ⟨i + 1, by rw [wrap_id (by omega) (by omega)]; rfl, rfl, ?_, rfl, ?_, ?_, ?_, by show i + 1 ≤ l.length; omega, by show l.length - (i + 1) < l.length - i; omega⟩⟩)))⟩)
    · simp only [Bool.and_eq_true]
      exact ⟨⟨by simp, by simp⟩, room_small (by simp; omega) (by omega)⟩
    · simp only [Bool.and_eq_true]
      exact ⟨⟨by simp, by simp⟩, room_small (by simp; omega) (by omega)⟩
    · rw [trees_len]; simp
    · rw [was_len]; simp
    · rw [trees_suc, ← e]
      have := trees_len l i
      rw [← this, all_lenS]; simp
    · rw [was_suc, all_lenS]
      have := was_len l i
      conv => lhs; lhs; lhs; rw [← this]
      rw [all_lenS]; simp
  · have h1 : ¬ (i : Int) < l.length := of_decide_eq_false h1
    have hi : i ≤ l.length := hi
    refine ⟨⟨0, rfl, Nat.zero_le _⟩, fun j hj hl2 => br_i (fun h2 => ?_) (fun _ => rfl)⟩
    have h2 : (j : Int) < (wasL l i).length := of_decide_eq_true h2
    rw [was_len] at h2
    have hj0 : 0 + (j : Int).toNat = j := by simp
    rw [hj0, trees_len, was_len, trees_get (by omega), was_get (by omega)]
    have hfew : fewL (putsD (l.take j)) = true := puts_few (by rw [List.length_take]; omega)
    have hmay := take_may (l := l) (by omega) j
    have hlong := put_longer ⟨[122, 122], 0, (j : Int), false⟩ (l.take j)
    have hlen : lenD (putsD (l.take j)) = ((TreeD.inorder (putsD (l.take j))).length : Int) := tok_len (puts_ok _).tok
    have b1 : decide ((0 : Int) ≤ (j : Int) ∧ (j : Int) < ((i + 1 : Nat) : Int)) = true := decide_eq_true ⟨by omega, by omega⟩
    have b2 : decide (j < i + 1) = true := decide_eq_true (by omega)
    have b3 : decide ((0 : Int) ≤ (j : Int) ∧ (j : Int) < (i : Int)) = true := decide_eq_true ⟨by omega, by omega⟩
    have b4 : decide (j < i) = true := decide_eq_true (by omega)
    generalize putsD (l.take j) = T at hfew hmay hlong hlen ⊢
    have hsame : (!sameLB (TreeD.inorder T) (TreeD.inorder T)) = false := by rw [sameLB_self]; rfl
    exact br_t b1 (br_t b2 (br_t b3 (br_t b4 ⟨T, rfl, hfew, fun _ _ => ⟨⟨TreeD.inorder T, TreeD.inorder T⟩, by omega, all_lenS _, rfl, trivial, fun _ _ => br_f hsame (br_t b1 (br_t b2 (br_t b3 (br_t b4 fun _ => ⟨T, rfl, trivial, fun _ _ => br_f (by rw [hlen]; simp) (br_t b1 (br_t b2 ⟨⟨T, ⟨[122, 122], 0, (j : Int), false⟩⟩, rfl, rfl, rfl, rfl, rfl, hmay, fun _ _ =>
      br_t b1 (br_t b2 ⟨_, rfl, trivial, fun _ _ => ⟨T, rfl, trivial, fun _ _ => br_f (decide_eq_false (by dsimp only; omega)) (br_t b1 (br_t b2 (br_t b3 (br_t b4 ⟨T, rfl, hfew, fun _ _ => ⟨⟨TreeD.inorder T, TreeD.inorder T⟩, by omega, all_lenS _, rfl, trivial, fun _ _ => br_f hsame ⟨j + 1, by rw [wrap_id (by omega) (by omega)]; rfl, by show j + 1 ≤ l.length; omega, by show l.length - (j + 1) < l.length - j; omega⟩⟩⟩))))⟩⟩)⟩))⟩))))⟩⟩)))
end Go.Proofs.Ytkhiifaldbjpbaa.Ses
