/- A law of graphs: what the evaluator leaves, and that it holds. No condition. -/
import Derived.Test.YtildflamnehilaaGroB
import Derived.KernelRfl
set_option linter.unusedSimpArgs false
set_option linter.unusedVariables false

namespace Go.Proofs.Ytildflamnehilaa.Ses
open Go Go.Proofs Go.Proofs.Ytildflamnehilaa.Sx Go.Proofs.Ytildflamnehilaa.Trx
set_option maxRecDepth 100000

theorem gkn_vc (x : Unit) : evCall gknE (ev gknE 1000) 6 (gknArgs x) ⟨[], 0, []⟩ (fun _ _ => False) (fun v _ => TrueV v) = (
(∃ x1 : Unit,
 (True ∧
 (∀ x2 : Unit,
 (True →
 (∃ x3 : Unit,
 (True ∧
 (∀ x4 : Unit,
 (True →
 (∃ x5 : LandA,
 ((@Eq Int (0 : Int) (@LandA.base x5)) ∧
 ((@Eq Bs (@Array.toList UInt8 (@ByteArray.data (@ByteArray.mk (@List.toArray UInt8 (@List.nil UInt8))))) (@LandA.ref x5)) ∧
 ((@LE.le Nat _ (@HAdd.hAdd _ _ _ _ (0 : Nat) (1 : Nat)) (@List.length ChangeD (@List.cons ChangeD (@ChangeD.mk (@Array.toList UInt8 (@ByteArray.data (@ByteArray.mk (@List.toArray UInt8 (@List.cons UInt8 (97 : UInt8) (@List.nil UInt8)))))) Bool.false (5 : Int)) (@List.nil ChangeD)))) ∧
 ((@Eq (@List ChangeD) (@List.take ChangeD (1 : Nat) (@List.drop ChangeD (0 : Nat) (@List.cons ChangeD (@ChangeD.mk (@Array.toList UInt8 (@ByteArray.data (@ByteArray.mk (@List.toArray UInt8 (@List.cons UInt8 (97 : UInt8) (@List.nil UInt8)))))) Bool.false (5 : Int)) (@List.nil ChangeD)))) (@LandA.l x5)) ∧
 ((@Eq Nat (0 : Nat) (0 : Nat)) ∧
 ((@Eq Nat (@List.length CommitD (@List.nil CommitD)) (@List.length CommitD (@LandA.C x5))) ∧
 ((@Eq TreeD (@treeC (@List.nil CommitD)) (@treeC (@LandA.C x5))) ∧
 ((@Eq (@List CommitD) (@List.nil CommitD) (@LandA.C x5)) ∧
 ((@Eq (@List (@Prod Bs Int)) (@kvC (@List.nil CommitD)) (@kvC (@LandA.C x5))) ∧
 (((@Eq Bool (@fewG (@LandA.C x5)) Bool.true) ∧
 (@Eq Bool (@shortC (@LandA.l x5)) Bool.true)) ∧
 (∀ x6 : Unit,
 (True →
 (∃ x7 : LandA,
 ((@Eq Int (0 : Int) (@LandA.base x7)) ∧
 ((@Eq Bs (@Array.toList UInt8 (@ByteArray.data (@ByteArray.mk (@List.toArray UInt8 (@List.cons UInt8 (109 : UInt8) (@List.cons UInt8 (97 : UInt8) (@List.cons UInt8 (105 : UInt8) (@List.cons UInt8 (110 : UInt8) (@List.nil UInt8))))))))) (@LandA.ref x7)) ∧
 ((@LE.le Nat _ (@HAdd.hAdd _ _ _ _ (0 : Nat) (1 : Nat)) (@List.length ChangeD (@List.cons ChangeD (@ChangeD.mk (@Array.toList UInt8 (@ByteArray.data (@ByteArray.mk (@List.toArray UInt8 (@List.cons UInt8 (98 : UInt8) (@List.nil UInt8)))))) Bool.false (6 : Int)) (@List.nil ChangeD)))) ∧
 ((@Eq (@List ChangeD) (@List.take ChangeD (1 : Nat) (@List.drop ChangeD (0 : Nat) (@List.cons ChangeD (@ChangeD.mk (@Array.toList UInt8 (@ByteArray.data (@ByteArray.mk (@List.toArray UInt8 (@List.cons UInt8 (98 : UInt8) (@List.nil UInt8)))))) Bool.false (6 : Int)) (@List.nil ChangeD)))) (@LandA.l x7)) ∧
 ((@Eq Nat (0 : Nat) (0 : Nat)) ∧
 ((@Eq Nat (@List.length CommitD (@landC x5)) (@List.length CommitD (@LandA.C x7))) ∧
 ((@Eq TreeD (@treeC (@landC x5)) (@treeC (@LandA.C x7))) ∧
 ((@Eq (@List CommitD) (@landC x5) (@LandA.C x7)) ∧
 ((@Eq (@List (@Prod Bs Int)) (@kvC (@landC x5)) (@kvC (@LandA.C x7))) ∧
 (((@Eq Bool (@fewG (@LandA.C x7)) Bool.true) ∧
 (@Eq Bool (@shortC (@LandA.l x7)) Bool.true)) ∧
 (∀ x8 : Unit,
 (True →
 (∃ x9 : LandA,
 ((@Eq Int (1 : Int) (@LandA.base x9)) ∧
 ((@Eq Bs (@Array.toList UInt8 (@ByteArray.data (@ByteArray.mk (@List.toArray UInt8 (@List.nil UInt8))))) (@LandA.ref x9)) ∧
 ((@LE.le Nat _ (@HAdd.hAdd _ _ _ _ (0 : Nat) (1 : Nat)) (@List.length ChangeD (@List.cons ChangeD (@ChangeD.mk (@Array.toList UInt8 (@ByteArray.data (@ByteArray.mk (@List.toArray UInt8 (@List.cons UInt8 (97 : UInt8) (@List.nil UInt8)))))) Bool.false (7 : Int)) (@List.nil ChangeD)))) ∧
 ((@Eq (@List ChangeD) (@List.take ChangeD (1 : Nat) (@List.drop ChangeD (0 : Nat) (@List.cons ChangeD (@ChangeD.mk (@Array.toList UInt8 (@ByteArray.data (@ByteArray.mk (@List.toArray UInt8 (@List.cons UInt8 (97 : UInt8) (@List.nil UInt8)))))) Bool.false (7 : Int)) (@List.nil ChangeD)))) (@LandA.l x9)) ∧
 ((@Eq Nat (0 : Nat) (0 : Nat)) ∧
 ((@Eq Nat (@List.length CommitD (@landC x7)) (@List.length CommitD (@LandA.C x9))) ∧
 ((@Eq TreeD (@treeC (@landC x7)) (@treeC (@LandA.C x9))) ∧
 ((@Eq (@List CommitD) (@landC x7) (@LandA.C x9)) ∧
 ((@Eq (@List (@Prod Bs Int)) (@kvC (@landC x7)) (@kvC (@LandA.C x9))) ∧
 (((@Eq Bool (@fewG (@LandA.C x9)) Bool.true) ∧
 (@Eq Bool (@shortC (@LandA.l x9)) Bool.true)) ∧
 (∀ x10 : Unit,
 (True →
 (∃ x11 : LandA,
 ((@Eq Int (0 : Int) (@LandA.base x11)) ∧
 ((@Eq Bs (@Array.toList UInt8 (@ByteArray.data (@ByteArray.mk (@List.toArray UInt8 (@List.nil UInt8))))) (@LandA.ref x11)) ∧
 ((@LE.le Nat _ (@HAdd.hAdd _ _ _ _ (0 : Nat) (1 : Nat)) (@List.length ChangeD (@List.cons ChangeD (@ChangeD.mk (@Array.toList UInt8 (@ByteArray.data (@ByteArray.mk (@List.toArray UInt8 (@List.cons UInt8 (97 : UInt8) (@List.nil UInt8)))))) Bool.false (8 : Int)) (@List.nil ChangeD)))) ∧
 ((@Eq (@List ChangeD) (@List.take ChangeD (1 : Nat) (@List.drop ChangeD (0 : Nat) (@List.cons ChangeD (@ChangeD.mk (@Array.toList UInt8 (@ByteArray.data (@ByteArray.mk (@List.toArray UInt8 (@List.cons UInt8 (97 : UInt8) (@List.nil UInt8)))))) Bool.false (8 : Int)) (@List.nil ChangeD)))) (@LandA.l x11)) ∧
 ((@Eq Nat (0 : Nat) (0 : Nat)) ∧
 ((@Eq Nat (@List.length CommitD (@landC x9)) (@List.length CommitD (@LandA.C x11))) ∧
 ((@Eq TreeD (@treeC (@landC x9)) (@treeC (@LandA.C x11))) ∧
 ((@Eq (@List CommitD) (@landC x9) (@LandA.C x11)) ∧
 ((@Eq (@List (@Prod Bs Int)) (@kvC (@landC x9)) (@kvC (@LandA.C x11))) ∧
 (((@Eq Bool (@fewG (@LandA.C x11)) Bool.true) ∧
 (@Eq Bool (@shortC (@LandA.l x11)) Bool.true)) ∧
 (∀ x12 : Unit,
 (True →
 (∃ x13 : LandA,
 ((@Eq Int (9 : Int) (@LandA.base x13)) ∧
 ((@Eq Bs (@Array.toList UInt8 (@ByteArray.data (@ByteArray.mk (@List.toArray UInt8 (@List.nil UInt8))))) (@LandA.ref x13)) ∧
 ((@LE.le Nat _ (@HAdd.hAdd _ _ _ _ (0 : Nat) (1 : Nat)) (@List.length ChangeD (@List.cons ChangeD (@ChangeD.mk (@Array.toList UInt8 (@ByteArray.data (@ByteArray.mk (@List.toArray UInt8 (@List.cons UInt8 (97 : UInt8) (@List.nil UInt8)))))) Bool.false (1 : Int)) (@List.nil ChangeD)))) ∧
 ((@Eq (@List ChangeD) (@List.take ChangeD (1 : Nat) (@List.drop ChangeD (0 : Nat) (@List.cons ChangeD (@ChangeD.mk (@Array.toList UInt8 (@ByteArray.data (@ByteArray.mk (@List.toArray UInt8 (@List.cons UInt8 (97 : UInt8) (@List.nil UInt8)))))) Bool.false (1 : Int)) (@List.nil ChangeD)))) (@LandA.l x13)) ∧
 ((@Eq Nat (0 : Nat) (0 : Nat)) ∧
 ((@Eq Nat (@List.length CommitD (@landC x11)) (@List.length CommitD (@LandA.C x13))) ∧
 ((@Eq TreeD (@treeC (@landC x11)) (@treeC (@LandA.C x13))) ∧
 ((@Eq (@List CommitD) (@landC x11) (@LandA.C x13)) ∧
 ((@Eq (@List (@Prod Bs Int)) (@kvC (@landC x11)) (@kvC (@LandA.C x13))) ∧
 (((@Eq Bool (@fewG (@LandA.C x13)) Bool.true) ∧
 (@Eq Bool (@shortC (@LandA.l x13)) Bool.true)) ∧
 (∀ x14 : Unit,
 (True →
 (∃ x15 : ReadA,
 ((@Eq Bs (@Array.toList UInt8 (@ByteArray.data (@ByteArray.mk (@List.toArray UInt8 (@List.cons UInt8 (97 : UInt8) (@List.nil UInt8)))))) (@ReadA.p x15)) ∧
 ((@Eq Nat (0 : Nat) (0 : Nat)) ∧
 ((@Eq Nat (@List.length CommitD (@landC x13)) (@List.length CommitD (@ReadA.C x15))) ∧
 ((@Eq TreeD (@treeC (@landC x13)) (@treeC (@ReadA.C x15))) ∧
 ((@Eq (@List CommitD) (@landC x13) (@ReadA.C x15)) ∧
 ((@Eq (@List (@Prod Bs Int)) (@kvC (@landC x13)) (@kvC (@ReadA.C x15))) ∧
 ((@Eq Bool (@shortB (@ReadA.p x15)) Bool.true) ∧
 (∀ x16 : Unit,
 (True →
 (∃ x17 : ReadA,
 ((@Eq Bs (@Array.toList UInt8 (@ByteArray.data (@ByteArray.mk (@List.toArray UInt8 (@List.cons UInt8 (99 : UInt8) (@List.nil UInt8)))))) (@ReadA.p x17)) ∧
 ((@Eq Nat (0 : Nat) (0 : Nat)) ∧
 ((@Eq Nat (@List.length CommitD (@ReadA.C x15)) (@List.length CommitD (@ReadA.C x17))) ∧
 ((@Eq TreeD (@treeC (@ReadA.C x15)) (@treeC (@ReadA.C x17))) ∧
 ((@Eq (@List CommitD) (@ReadA.C x15) (@ReadA.C x17)) ∧
 ((@Eq (@List (@Prod Bs Int)) (@kvC (@ReadA.C x15)) (@kvC (@ReadA.C x17))) ∧
 ((@Eq Bool (@shortB (@ReadA.p x17)) Bool.true) ∧
 (∀ x18 : Unit,
 (True →
 (∃ x19 : (@List CommitD),
 ((@Eq Nat (0 : Nat) (0 : Nat)) ∧
 ((@Eq Nat (@List.length CommitD (@ReadA.C x17)) (@List.length CommitD x19)) ∧
 ((@Eq TreeD (@treeC (@ReadA.C x17)) (@treeC x19)) ∧
 ((@Eq (@List CommitD) (@ReadA.C x17) x19) ∧
 ((@Eq (@List (@Prod Bs Int)) (@kvC (@ReadA.C x17)) (@kvC x19)) ∧
 ((@Eq Bool (@fewG x19) Bool.true) ∧
 (∀ x20 : Unit,
 (True →
 (br (@BEq.beq Int _ (@VerdictD.rev (@landV x5)) (1 : Int))
 (br (@BEq.beq Int _ (@VerdictD.rev (@landV x7)) (2 : Int))
 (br (@BEq.beq Int _ (@VerdictD.rev (@landV x9)) (3 : Int))
 (br (@BEq.beq Int _ (@VerdictD.code (@landV x11)) (3 : Int))
 (br (@BEq.beq Int _ (@VerdictD.rev (@landV x11)) (3 : Int))
 (br (@BEq.beq Int _ (@VerdictD.code (@landV x13)) (4 : Int))
 (br (@BEq.beq Int _ (@VerdictD.rev (@landV x13)) (3 : Int))
 (br (@BEq.beq Int _ (@VerdictD.code (@readV x15)) (9 : Int))
 (br (@BEq.beq Int _ (@VerdictD.digest (@readV x15)) (7 : Int))
 (br (@BEq.beq Int _ (@VerdictD.rev (@readV x15)) (3 : Int))
 (br (@BEq.beq Int _ (@VerdictD.code (@readV x17)) (10 : Int))
 (br (@BEq.beq Bs _ (@VerdictD.path (@readV x17)) (@Array.toList UInt8 (@ByteArray.data (@ByteArray.mk (@List.toArray UInt8 (@List.cons UInt8 (99 : UInt8) (@List.nil UInt8)))))))
 ((@LE.le Nat _ (@HMul.hMul _ _ _ _ (@List.length RefD (@refsC x19)) (24 : Nat)) room47) →
 (br (@BEq.beq Int _ (Nat.cast (@List.length RefD (@refsC x19)) : Int) (1 : Int))
 (br (@Decidable.decide ((@LE.le Int _ (0 : Int) (0 : Int)) ∧
 (@LT.lt Int _ (0 : Int) (Nat.cast (@List.length RefD (@refsC x19)) : Int))) _)
 (br (@BEq.beq Bs _ (@RefD.name (@List.getD RefD (@refsC x19) (@Int.toNat (0 : Int)) (@RefD.mk (@List.nil UInt8) (0 : Int)))) (@Array.toList UInt8 (@ByteArray.data (@ByteArray.mk (@List.toArray UInt8 (@List.cons UInt8 (109 : UInt8) (@List.cons UInt8 (97 : UInt8) (@List.cons UInt8 (105 : UInt8) (@List.cons UInt8 (110 : UInt8) (@List.nil UInt8))))))))))
 (br (@Decidable.decide ((@LE.le Int _ (0 : Int) (0 : Int)) ∧
 (@LT.lt Int _ (0 : Int) (Nat.cast (@List.length RefD (@refsC x19)) : Int))) _)
 (@Eq Bool (@BEq.beq Int _ (@RefD.rev (@List.getD RefD (@refsC x19) (@Int.toNat (0 : Int)) (@RefD.mk (@List.nil UInt8) (0 : Int)))) (2 : Int)) Bool.true)
 (Bad "check" "law.go:76"))
 (@Eq Bool Bool.false Bool.true))
 (Bad "check" "law.go:76"))
 (@Eq Bool Bool.false Bool.true)))
 (@Eq Bool Bool.false Bool.true))
 (@Eq Bool Bool.false Bool.true))
 (@Eq Bool Bool.false Bool.true))
 (@Eq Bool Bool.false Bool.true))
 (@Eq Bool Bool.false Bool.true))
 (@Eq Bool Bool.false Bool.true))
 (@Eq Bool Bool.false Bool.true))
 (@Eq Bool Bool.false Bool.true))
 (@Eq Bool Bool.false Bool.true))
 (@Eq Bool Bool.false Bool.true))
 (@Eq Bool Bool.false Bool.true))
 (@Eq Bool Bool.false Bool.true))))))))))))))))))))))))))))))))))))))))))))))))))))))))))))))))))))))))))))))))))))))))))))))))))))))))) := by kernel_rfl

end Go.Proofs.Ytildflamnehilaa.Ses

namespace Go.Proofs.Ytildflamnehilaa.Ses
open Go Go.Proofs Go.Proofs.Ytildflamnehilaa.Sx Go.Proofs.Ytildflamnehilaa.Trx
theorem gkn_ok : EnvOK gknE := glaw2_ok
abbrev g1C : List CommitD := [⟨1, 0, [], [⟨[97], false, 5⟩]⟩]
abbrev g2C : List CommitD := g1C ++ [⟨2, 0, [109, 97, 105, 110], [⟨[98], false, 6⟩]⟩]
abbrev g3C : List CommitD := g2C ++ [⟨3, 1, [], [⟨[97], false, 7⟩]⟩]
theorem g_kv : kvC g3C = [([109, 97, 105, 110], 2)] := by decide +kernel
theorem g_refs : refsC g3C = [⟨[109, 97, 105, 110], 2⟩] := by
  unfold refsC namesK
  rw [g_kv]
  simp [refK, lookK]
set_option maxHeartbeats 0 in
theorem gkn_body (x : Unit) : evCall gknE (ev gknE 1000) 6 (gknArgs x) ⟨[], 0, []⟩ (fun _ _ => False) (fun v _ => TrueV v) := by
  rw [gkn_vc]
  have h1 : landC ⟨[], 0, [], [⟨[97], false, 5⟩]⟩ = g1C := by kernel_rfl
  have h2 : landC ⟨g1C, 0, [109, 97, 105, 110], [⟨[98], false, 6⟩]⟩ = g2C := by kernel_rfl
  have h3 : landC ⟨g2C, 1, [], [⟨[97], false, 7⟩]⟩ = g3C := by kernel_rfl
  have h4 : landC ⟨g3C, 0, [], [⟨[97], false, 8⟩]⟩ = g3C := by kernel_rfl
  have h5 : landC ⟨g3C, 9, [], [⟨[97], false, 1⟩]⟩ = g3C := by kernel_rfl
  have e1 : [⟨[97], false, 5⟩] = ([⟨[97], false, 5⟩] : List ChangeD) := rfl
  refine ⟨(), trivial, fun _ _ => ⟨(), trivial, fun _ _ => ⟨⟨[], 0, [], [⟨[97], false, 5⟩]⟩, rfl, rfl, by decide, rfl, rfl, rfl, rfl, rfl, rfl, ⟨by decide +kernel, by decide +kernel⟩, fun _ _ => ?_⟩⟩⟩
  rw [h1]
  refine ⟨⟨g1C, 0, [109, 97, 105, 110], [⟨[98], false, 6⟩]⟩, rfl, rfl, by decide, rfl, rfl, rfl, rfl, rfl, rfl, ⟨by decide +kernel, by decide +kernel⟩, fun _ _ => ?_⟩
  rw [h2]
  refine ⟨⟨g2C, 1, [], [⟨[97], false, 7⟩]⟩, rfl, rfl, by decide, rfl, rfl, rfl, rfl, rfl, rfl, ⟨by decide +kernel, by decide +kernel⟩, fun _ _ => ?_⟩
  rw [h3]
  refine ⟨⟨g3C, 0, [], [⟨[97], false, 8⟩]⟩, rfl, rfl, by decide, rfl, rfl, rfl, rfl, rfl, rfl, ⟨by decide +kernel, by decide +kernel⟩, fun _ _ => ?_⟩
  rw [h4]
  refine ⟨⟨g3C, 9, [], [⟨[97], false, 1⟩]⟩, rfl, rfl, by decide, rfl, rfl, rfl, rfl, rfl, rfl, ⟨by decide +kernel, by decide +kernel⟩, fun _ _ => ?_⟩
  rw [h5]
  refine ⟨⟨g3C, [97]⟩, rfl, rfl, rfl, rfl, rfl, rfl, by decide +kernel, fun _ _ => ⟨⟨g3C, [99]⟩, rfl, rfl, rfl, rfl, rfl, rfl, by decide +kernel, fun _ _ => ⟨g3C, rfl, rfl, rfl, rfl, rfl, by decide +kernel, fun _ _ => ?_⟩⟩⟩
  rw [g_refs]
  exact br_t (by decide +kernel) (br_t (by decide +kernel) (br_t (by decide +kernel) (br_t (by decide +kernel) (br_t (by decide +kernel) (br_t (by decide +kernel) (br_t (by decide +kernel) (br_t (by decide +kernel) (br_t (by decide +kernel) (br_t (by decide +kernel) (br_t (by decide +kernel) (br_t (by decide +kernel) (fun _ => br_t (by decide +kernel) (br_t (by decide +kernel) (br_t (by decide +kernel) (br_t (by decide +kernel) (by decide +kernel))))))))))))))))
end Go.Proofs.Ytildflamnehilaa.Ses
