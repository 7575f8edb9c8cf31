/- The laws of paths: what the evaluator leaves of each, and that it holds. No condition. -/
import Derived.Test.YtkhiifaldbjpbaaPatA
import Derived.KernelRfl
set_option linter.unusedSimpArgs false
set_option linter.unusedVariables false

namespace Go.Proofs.Ytkhiifaldbjpbaa.Ses
open Go Go.Proofs Go.Proofs.Ytkhiifaldbjpbaa.Sx

noncomputable def pawakeT : Tri := { γ := Unit, n0 := 0, args := fun _ => [], blks := fun _ => [], pre := fun _ => True, δ := Unit, post := fun _ _ => True, n1 := 0, res := fun _ _ => .bool true, blks' := fun _ _ => [], scal := true }
noncomputable def pathE : Envr := Env Try.prog cod [(37, normalT.spec), (30, compareT.spec)] []

noncomputable def deepT : Tri := { γ := Bs, n0 := 0, args := fun x => [.str x], blks := fun _ => [], pre := fun x => shortB x = true, δ := Unit, post := fun _ _ => True, n1 := 0, res := fun x _ => .int .i64 (splitB x).length, blks' := fun _ _ => [], scal := true }
noncomputable def deepI : St → LInv := fun s => match getE s.env 0 with
  | .str a => { σ := Nat, I := fun i => i ≤ a.length, μ := fun i => a.length - i, env := fun i => [(4, .int .i64 i), (3, .int .i64 (splitB (a.take i)).length)], blk := fun _ => [], fresh := 0, drop := [] }
  | _ => LInv.none
noncomputable def deepE : Envr := Env Try.prog cod [] [(3, deepI)]

structure ThreeA where
  a : Bs
  b : Bs
  c : Bs
def oneArgs (s : Bs) : List SV := [.str s]
def threeArgs (x : ThreeA) : List SV := [.str x.a, .str x.b, .str x.c]
def noArgs (x : Unit) : List SV := []
noncomputable def plawE : Envr := Env Try.prog cod [(36, pawakeT.spec), (37, normalT.spec), (30, compareT.spec), (38, normalT.spec), (39, rcompareT.spec), (28, withinT.spec), (42, withinT.spec), (41, nameT.spec), (65, wordT.spec), (40, deepT.spec)] []
end Go.Proofs.Ytkhiifaldbjpbaa.Ses

namespace Go.Proofs.Ytkhiifaldbjpbaa.Ses
open Go Go.Proofs Go.Proofs.Ytkhiifaldbjpbaa.Sx
set_option maxRecDepth 100000

theorem pawake_vc (x : pawakeT.γ) : evCall pathE (ev pathE 1000) 36 (pawakeT.args x) ⟨pawakeT.blks x, pawakeT.n0, []⟩ (fun _ _ => False) (pawakeT.ends x) = (
(∃ x1 : (@List UInt8),
 ((@Eq Bs (@Array.toList UInt8 (@ByteArray.data (@ByteArray.mk (@List.toArray UInt8 (@List.cons UInt8 (97 : UInt8) (@List.cons UInt8 (47 : UInt8) (@List.cons UInt8 (47 : UInt8) (@List.cons UInt8 (98 : UInt8) (@List.cons UInt8 (47 : UInt8) (@List.cons UInt8 (46 : UInt8) (@List.cons UInt8 (47 : UInt8) (@List.cons UInt8 (99 : UInt8) (@List.nil UInt8))))))))))))) x1) ∧
 ((@Eq Bool (@shortB x1) Bool.true) ∧
 (∀ x2 : Unit,
 (True →
 (br (@Option.isSome Bs (@normB x1))
 (br (@BEq.beq Bs _ (@Option.getD Bs (@normB x1) (@List.nil UInt8)) (@Array.toList UInt8 (@ByteArray.data (@ByteArray.mk (@List.toArray UInt8 (@List.cons UInt8 (97 : UInt8) (@List.cons UInt8 (47 : UInt8) (@List.cons UInt8 (98 : UInt8) (@List.cons UInt8 (47 : UInt8) (@List.cons UInt8 (99 : UInt8) (@List.nil UInt8)))))))))))
 (∃ x3 : TwoA,
 ((@Eq Bs (@Array.toList UInt8 (@ByteArray.data (@ByteArray.mk (@List.toArray UInt8 (@List.cons UInt8 (97 : UInt8) (@List.cons UInt8 (47 : UInt8) (@List.cons UInt8 (98 : UInt8) (@List.nil UInt8)))))))) (@TwoA.a x3)) ∧
 ((@Eq Bs (@Array.toList UInt8 (@ByteArray.data (@ByteArray.mk (@List.toArray UInt8 (@List.cons UInt8 (97 : UInt8) (@List.cons UInt8 (45 : UInt8) (@List.cons UInt8 (98 : UInt8) (@List.nil UInt8)))))))) (@TwoA.b x3)) ∧
 (True ∧
 (∀ x4 : Unit,
 (True →
 (∃ x5 : Unit,
 ((@Eq Bool (@BEq.beq Int _ (@cmpL (@splitB (@TwoA.a x3)) (@splitB (@TwoA.b x3))) (@Neg.neg Int _ (1 : Int))) Bool.true) ∧
 True))))))))
 (∃ x6 : Unit,
 ((@Eq Bool Bool.false Bool.true) ∧
 True)))
 (∃ x7 : Unit,
 ((@Eq Bool Bool.false Bool.true) ∧
 True))))))))) := by kernel_rfl

theorem deep_vc (x : deepT.γ) : evCall deepE (ev deepE 1000) 40 (deepT.args x) ⟨deepT.blks x, deepT.n0, []⟩ (fun _ _ => False) (deepT.ends x) = (
((∃ x1 : Nat,
 ((@Eq Int (0 : Int) (Nat.cast x1 : Int)) ∧
 ((@Eq Int (1 : Int) (Nat.cast (@List.length Bs (@splitB (@List.take UInt8 x1 x))) : Int)) ∧
 (@Nat.le x1 (@List.length UInt8 x))))) ∧
 (∀ x2 : Nat,
 ((@Nat.le x2 (@List.length UInt8 x)) →
 ((@LE.le Nat _ (@List.length UInt8 x) maxI64) →
 (br (@Decidable.decide (@LT.lt Int _ (Nat.cast x2 : Int) (Nat.cast (@List.length UInt8 x) : Int)) _)
 (br (@Decidable.decide ((@LE.le Int _ (0 : Int) (Nat.cast x2 : Int)) ∧
 (@LT.lt Int _ (Nat.cast x2 : Int) (Nat.cast (@List.length UInt8 x) : Int))) _)
 (br (@BEq.beq Int _ (Nat.cast (@UInt8.toNat (@List.getD UInt8 x (@Int.toNat (Nat.cast x2 : Int)) (0 : UInt8))) : Int) (47 : Int))
 (∃ x3 : Nat,
 ((@Eq Int (@Go.IntKind.wrap Go.IntKind.i64 (@HAdd.hAdd Int Int Int _ (Nat.cast x2 : Int) (1 : Int))) (Nat.cast x3 : Int)) ∧
 ((@Eq Int (@Go.IntKind.wrap Go.IntKind.i64 (@HAdd.hAdd Int Int Int _ (Nat.cast (@List.length Bs (@splitB (@List.take UInt8 x2 x))) : Int) (1 : Int))) (Nat.cast (@List.length Bs (@splitB (@List.take UInt8 x3 x))) : Int)) ∧
 ((@Nat.le x3 (@List.length UInt8 x)) ∧
 (@LT.lt Nat _ (@Nat.sub (@List.length UInt8 x) x3) (@Nat.sub (@List.length UInt8 x) x2))))))
 (∃ x4 : Nat,
 ((@Eq Int (@Go.IntKind.wrap Go.IntKind.i64 (@HAdd.hAdd Int Int Int _ (Nat.cast x2 : Int) (1 : Int))) (Nat.cast x4 : Int)) ∧
 ((@Eq Int (Nat.cast (@List.length Bs (@splitB (@List.take UInt8 x2 x))) : Int) (Nat.cast (@List.length Bs (@splitB (@List.take UInt8 x4 x))) : Int)) ∧
 ((@Nat.le x4 (@List.length UInt8 x)) ∧
 (@LT.lt Nat _ (@Nat.sub (@List.length UInt8 x) x4) (@Nat.sub (@List.length UInt8 x) x2)))))))
 (Bad "check" "law.go:101"))
 (∃ x5 : Unit,
 ((@Eq Int (Nat.cast (@List.length Bs (@splitB (@List.take UInt8 x2 x))) : Int) (Nat.cast (@List.length Bs (@splitB x)) : Int)) ∧
 True)))))))) := by kernel_rfl

theorem normals_vc (x : Bs) : evCall plawE (ev plawE 1000) 10 (oneArgs x) ⟨[], 0, []⟩ (fun _ _ => False) (fun v _ => TrueV v) = (
(∃ x1 : Unit,
 (True ∧
 (∀ x2 : Unit,
 (True →
 ((@LE.le Nat _ (@List.length UInt8 x) maxI64) →
 (br (@Decidable.decide (@GT.gt Int _ (Nat.cast (@List.length UInt8 x) : Int) (20000 : Int)) _)
 (@Eq Bool Bool.true Bool.true)
 (∃ x3 : (@List UInt8),
 ((@Eq Bs x x3) ∧
 ((@Eq Bool (@shortB x3) Bool.true) ∧
 (∀ x4 : Unit,
 (True →
 (∃ x5 : (@List UInt8),
 ((@Eq Bs x x5) ∧
 ((@Eq Bool (@shortB x5) Bool.true) ∧
 (∀ x6 : Unit,
 (True →
 (∃ x7 : (@List UInt8),
 ((@Eq Bs (@Option.getD Bs (@normB x3) (@List.nil UInt8)) x7) ∧
 ((@Eq Bool (@shortB x7) Bool.true) ∧
 (∀ x8 : Unit,
 (True →
 (br (@BEq.beq Bool _ (@Option.isSome Bs (@normB x3)) (@Option.isSome Bs (@normB x5)))
 (br (@BEq.beq Bs _ (@Option.getD Bs (@normB x3) (@List.nil UInt8)) (@Option.getD Bs (@normB x5) (@List.nil UInt8)))
 (br (@Bool.not (@Option.isSome Bs (@normB x3)))
 (@Eq Bool Bool.true Bool.true)
 (br (@Option.isSome Bs (@normB x7))
 (@Eq Bool (@BEq.beq Bs _ (@Option.getD Bs (@normB x7) (@List.nil UInt8)) (@Option.getD Bs (@normB x3) (@List.nil UInt8))) Bool.true)
 (@Eq Bool Bool.false Bool.true)))
 (@Eq Bool Bool.false Bool.true))
 (@Eq Bool Bool.false Bool.true)))))))))))))))))))))))) := by kernel_rfl

theorem orders_vc (x : ThreeA) : evCall plawE (ev plawE 1000) 11 (threeArgs x) ⟨[], 0, []⟩ (fun _ _ => False) (fun v _ => TrueV v) = (
(∃ x1 : Unit,
 (True ∧
 (∀ x2 : Unit,
 (True →
 ((@LE.le Nat _ (@List.length UInt8 (@ThreeA.a x)) maxI64) →
 (br (@Decidable.decide (@GT.gt Int _ (Nat.cast (@List.length UInt8 (@ThreeA.a x)) : Int) (20000 : Int)) _)
 (@Eq Bool Bool.true Bool.true)
 ((@LE.le Nat _ (@List.length UInt8 (@ThreeA.b x)) maxI64) →
 (br (@Decidable.decide (@GT.gt Int _ (Nat.cast (@List.length UInt8 (@ThreeA.b x)) : Int) (20000 : Int)) _)
 (@Eq Bool Bool.true Bool.true)
 ((@LE.le Nat _ (@List.length UInt8 (@ThreeA.c x)) maxI64) →
 (br (@Decidable.decide (@GT.gt Int _ (Nat.cast (@List.length UInt8 (@ThreeA.c x)) : Int) (20000 : Int)) _)
 (@Eq Bool Bool.true Bool.true)
 (∃ x3 : TwoA,
 ((@Eq Bs (@ThreeA.a x) (@TwoA.a x3)) ∧
 ((@Eq Bs (@ThreeA.b x) (@TwoA.b x3)) ∧
 (True ∧
 (∀ x4 : Unit,
 (True →
 (∃ x5 : TwoA,
 ((@Eq Bs (@ThreeA.b x) (@TwoA.a x5)) ∧
 ((@Eq Bs (@ThreeA.c x) (@TwoA.b x5)) ∧
 (True ∧
 (∀ x6 : Unit,
 (True →
 (∃ x7 : TwoA,
 ((@Eq Bs (@ThreeA.a x) (@TwoA.a x7)) ∧
 ((@Eq Bs (@ThreeA.c x) (@TwoA.b x7)) ∧
 (True ∧
 (∀ x8 : Unit,
 (True →
 (∃ x9 : TwoA,
 ((@Eq Bs (@ThreeA.a x) (@TwoA.a x9)) ∧
 ((@Eq Bs (@ThreeA.b x) (@TwoA.b x9)) ∧
 (((@Eq Bool (@shortB (@TwoA.a x9)) Bool.true) ∧
 (@Eq Bool (@shortB (@TwoA.b x9)) Bool.true)) ∧
 (∀ x10 : Unit,
 (True →
 (br (@bne Int _ (@cmpL (@splitB (@TwoA.a x3)) (@splitB (@TwoA.b x3))) (@cmpL (@splitB (@TwoA.a x9)) (@splitB (@TwoA.b x9))))
 (@Eq Bool Bool.false Bool.true)
 (∃ x11 : TwoA,
 ((@Eq Bs (@ThreeA.b x) (@TwoA.a x11)) ∧
 ((@Eq Bs (@ThreeA.a x) (@TwoA.b x11)) ∧
 (True ∧
 (∀ x12 : Unit,
 (True →
 (br (@bne Int _ (@cmpL (@splitB (@TwoA.a x11)) (@splitB (@TwoA.b x11))) (@Go.IntKind.wrap Go.IntKind.i64 (@HSub.hSub Int Int Int _ (0 : Int) (@cmpL (@splitB (@TwoA.a x3)) (@splitB (@TwoA.b x3))))))
 (@Eq Bool Bool.false Bool.true)
 (br (@Bool.not (@BEq.beq Bool _ (@BEq.beq Int _ (@cmpL (@splitB (@TwoA.a x3)) (@splitB (@TwoA.b x3))) (0 : Int)) (@BEq.beq Bs _ (@ThreeA.a x) (@ThreeA.b x))))
 (@Eq Bool Bool.false Bool.true)
 (br (@Decidable.decide (@LE.le Int _ (@cmpL (@splitB (@TwoA.a x3)) (@splitB (@TwoA.b x3))) (0 : Int)) _)
 (br (@Bool.not (@Decidable.decide (@LE.le Int _ (@cmpL (@splitB (@TwoA.a x5)) (@splitB (@TwoA.b x5))) (0 : Int)) _))
 (@Eq Bool Bool.true Bool.true)
 (br (@Decidable.decide (@LE.le Int _ (@cmpL (@splitB (@TwoA.a x7)) (@splitB (@TwoA.b x7))) (0 : Int)) _)
 (br (@Decidable.decide (@LT.lt Int _ (@cmpL (@splitB (@TwoA.a x7)) (@splitB (@TwoA.b x7))) (0 : Int)) _)
 (@Eq Bool Bool.true Bool.true)
 (br (@BEq.beq Int _ (@cmpL (@splitB (@TwoA.a x3)) (@splitB (@TwoA.b x3))) (0 : Int))
 (@Eq Bool (@BEq.beq Int _ (@cmpL (@splitB (@TwoA.a x5)) (@splitB (@TwoA.b x5))) (0 : Int)) Bool.true)
 (@Eq Bool Bool.false Bool.true)))
 (@Eq Bool Bool.false Bool.true)))
 (@Eq Bool Bool.true Bool.true)))))))))))))))))))))))))))))))))))))))))))))) := by kernel_rfl

theorem joins_vc (x : ThreeA) : evCall plawE (ev plawE 1000) 12 (threeArgs x) ⟨[], 0, []⟩ (fun _ _ => False) (fun v _ => TrueV v) = (
(∃ x1 : Unit,
 (True ∧
 (∀ x2 : Unit,
 (True →
 ((@LE.le Nat _ (@List.length UInt8 (@ThreeA.a x)) maxI64) →
 (br (@Decidable.decide (@GT.gt Int _ (Nat.cast (@List.length UInt8 (@ThreeA.a x)) : Int) (3000 : Int)) _)
 (@Eq Bool Bool.true Bool.true)
 ((@LE.le Nat _ (@List.length UInt8 (@ThreeA.b x)) maxI64) →
 (br (@Decidable.decide (@GT.gt Int _ (Nat.cast (@List.length UInt8 (@ThreeA.b x)) : Int) (3000 : Int)) _)
 (@Eq Bool Bool.true Bool.true)
 ((@LE.le Nat _ (@List.length UInt8 (@ThreeA.c x)) maxI64) →
 (br (@Decidable.decide (@GT.gt Int _ (Nat.cast (@List.length UInt8 (@ThreeA.c x)) : Int) (3000 : Int)) _)
 (@Eq Bool Bool.true Bool.true)
 (∃ x3 : (@List UInt8),
 ((@Eq Bs (@ThreeA.a x) x3) ∧
 ((@Eq Bool (@shortB x3) Bool.true) ∧
 (∀ x4 : Unit,
 (True →
 (∃ x5 : (@List UInt8),
 ((@Eq Bs (@ThreeA.b x) x5) ∧
 ((@Eq Bool (@shortB x5) Bool.true) ∧
 (∀ x6 : Unit,
 (True →
 (br (@Bool.not (@Option.isSome Bs (@normB x3)))
 (@Eq Bool Bool.true Bool.true)
 (br (@Bool.not (@Option.isSome Bs (@normB x5)))
 (@Eq Bool Bool.true Bool.true)
 (br (@Decidable.decide (@LE.le Nat _ (@HAdd.hAdd _ _ _ _ (@List.length UInt8 (@Array.toList UInt8 (@ByteArray.data (@ByteArray.mk (@List.toArray UInt8 (@List.cons UInt8 (47 : UInt8) (@List.cons UInt8 (46 : UInt8) (@List.cons UInt8 (47 : UInt8) (@List.nil UInt8))))))))) (@List.length UInt8 (@ThreeA.a x))) maxI64) _)
 (br (@Decidable.decide (@LE.le Nat _ (@HAdd.hAdd _ _ _ _ (@List.length UInt8 (@HAppend.hAppend Go.Proofs.Ytkhiifaldbjpbaa.Sx.Bs Bs Bs _ (@Array.toList UInt8 (@ByteArray.data (@ByteArray.mk (@List.toArray UInt8 (@List.cons UInt8 (47 : UInt8) (@List.cons UInt8 (46 : UInt8) (@List.cons UInt8 (47 : UInt8) (@List.nil UInt8)))))))) (@ThreeA.a x))) (@List.length UInt8 (@Array.toList UInt8 (@ByteArray.data (@ByteArray.mk (@List.toArray UInt8 (@List.cons UInt8 (47 : UInt8) (@List.cons UInt8 (47 : UInt8) (@List.cons UInt8 (46 : UInt8) (@List.cons UInt8 (47 : UInt8) (@List.nil UInt8))))))))))) maxI64) _)
 (br (@Decidable.decide (@LE.le Nat _ (@HAdd.hAdd _ _ _ _ (@List.length UInt8 (@HAppend.hAppend Go.Proofs.Ytkhiifaldbjpbaa.Sx.Bs Bs Bs _ (@HAppend.hAppend Go.Proofs.Ytkhiifaldbjpbaa.Sx.Bs Bs Bs _ (@Array.toList UInt8 (@ByteArray.data (@ByteArray.mk (@List.toArray UInt8 (@List.cons UInt8 (47 : UInt8) (@List.cons UInt8 (46 : UInt8) (@List.cons UInt8 (47 : UInt8) (@List.nil UInt8)))))))) (@ThreeA.a x)) (@Array.toList UInt8 (@ByteArray.data (@ByteArray.mk (@List.toArray UInt8 (@List.cons UInt8 (47 : UInt8) (@List.cons UInt8 (47 : UInt8) (@List.cons UInt8 (46 : UInt8) (@List.cons UInt8 (47 : UInt8) (@List.nil UInt8))))))))))) (@List.length UInt8 (@ThreeA.b x))) maxI64) _)
 (br (@Decidable.decide (@LE.le Nat _ (@HAdd.hAdd _ _ _ _ (@List.length UInt8 (@HAppend.hAppend Go.Proofs.Ytkhiifaldbjpbaa.Sx.Bs Bs Bs _ (@HAppend.hAppend Go.Proofs.Ytkhiifaldbjpbaa.Sx.Bs Bs Bs _ (@HAppend.hAppend Go.Proofs.Ytkhiifaldbjpbaa.Sx.Bs Bs Bs _ (@Array.toList UInt8 (@ByteArray.data (@ByteArray.mk (@List.toArray UInt8 (@List.cons UInt8 (47 : UInt8) (@List.cons UInt8 (46 : UInt8) (@List.cons UInt8 (47 : UInt8) (@List.nil UInt8)))))))) (@ThreeA.a x)) (@Array.toList UInt8 (@ByteArray.data (@ByteArray.mk (@List.toArray UInt8 (@List.cons UInt8 (47 : UInt8) (@List.cons UInt8 (47 : UInt8) (@List.cons UInt8 (46 : UInt8) (@List.cons UInt8 (47 : UInt8) (@List.nil UInt8)))))))))) (@ThreeA.b x))) (@List.length UInt8 (@Array.toList UInt8 (@ByteArray.data (@ByteArray.mk (@List.toArray UInt8 (@List.cons UInt8 (47 : UInt8) (@List.nil UInt8)))))))) maxI64) _)
 (∃ x7 : (@List UInt8),
 ((@Eq Bs (@HAppend.hAppend Go.Proofs.Ytkhiifaldbjpbaa.Sx.Bs Bs Bs _ (@HAppend.hAppend Go.Proofs.Ytkhiifaldbjpbaa.Sx.Bs Bs Bs _ (@HAppend.hAppend Go.Proofs.Ytkhiifaldbjpbaa.Sx.Bs Bs Bs _ (@HAppend.hAppend Go.Proofs.Ytkhiifaldbjpbaa.Sx.Bs Bs Bs _ (@Array.toList UInt8 (@ByteArray.data (@ByteArray.mk (@List.toArray UInt8 (@List.cons UInt8 (47 : UInt8) (@List.cons UInt8 (46 : UInt8) (@List.cons UInt8 (47 : UInt8) (@List.nil UInt8)))))))) (@ThreeA.a x)) (@Array.toList UInt8 (@ByteArray.data (@ByteArray.mk (@List.toArray UInt8 (@List.cons UInt8 (47 : UInt8) (@List.cons UInt8 (47 : UInt8) (@List.cons UInt8 (46 : UInt8) (@List.cons UInt8 (47 : UInt8) (@List.nil UInt8)))))))))) (@ThreeA.b x)) (@Array.toList UInt8 (@ByteArray.data (@ByteArray.mk (@List.toArray UInt8 (@List.cons UInt8 (47 : UInt8) (@List.nil UInt8))))))) x7) ∧
 ((@Eq Bool (@shortB x7) Bool.true) ∧
 (∀ x8 : Unit,
 (True →
 (br (@Decidable.decide (@LE.le Nat _ (@HAdd.hAdd _ _ _ _ (@List.length UInt8 (@Option.getD Bs (@normB x3) (@List.nil UInt8))) (@List.length UInt8 (@Array.toList UInt8 (@ByteArray.data (@ByteArray.mk (@List.toArray UInt8 (@List.cons UInt8 (47 : UInt8) (@List.nil UInt8)))))))) maxI64) _)
 (br (@Decidable.decide (@LE.le Nat _ (@HAdd.hAdd _ _ _ _ (@List.length UInt8 (@HAppend.hAppend Go.Proofs.Ytkhiifaldbjpbaa.Sx.Bs Bs Bs _ (@Option.getD Bs (@normB x3) (@List.nil UInt8)) (@Array.toList UInt8 (@ByteArray.data (@ByteArray.mk (@List.toArray UInt8 (@List.cons UInt8 (47 : UInt8) (@List.nil UInt8)))))))) (@List.length UInt8 (@Option.getD Bs (@normB x5) (@List.nil UInt8)))) maxI64) _)
 (∃ x9 : (@List UInt8),
 ((@Eq Bs (@HAppend.hAppend Go.Proofs.Ytkhiifaldbjpbaa.Sx.Bs Bs Bs _ (@HAppend.hAppend Go.Proofs.Ytkhiifaldbjpbaa.Sx.Bs Bs Bs _ (@Option.getD Bs (@normB x3) (@List.nil UInt8)) (@Array.toList UInt8 (@ByteArray.data (@ByteArray.mk (@List.toArray UInt8 (@List.cons UInt8 (47 : UInt8) (@List.nil UInt8))))))) (@Option.getD Bs (@normB x5) (@List.nil UInt8))) x9) ∧
 ((@Eq Bool (@shortB x9) Bool.true) ∧
 (∀ x10 : Unit,
 (True →
 (br (@Decidable.decide (@LE.le Nat _ (@HAdd.hAdd _ _ _ _ (@List.length UInt8 (@ThreeA.a x)) (@List.length UInt8 (@Array.toList UInt8 (@ByteArray.data (@ByteArray.mk (@List.toArray UInt8 (@List.cons UInt8 (47 : UInt8) (@List.cons UInt8 (120 : UInt8) (@List.cons UInt8 (47 : UInt8) (@List.cons UInt8 (46 : UInt8) (@List.cons UInt8 (46 : UInt8) (@List.cons UInt8 (47 : UInt8) (@List.nil UInt8))))))))))))) maxI64) _)
 (br (@Decidable.decide (@LE.le Nat _ (@HAdd.hAdd _ _ _ _ (@List.length UInt8 (@HAppend.hAppend Go.Proofs.Ytkhiifaldbjpbaa.Sx.Bs Bs Bs _ (@ThreeA.a x) (@Array.toList UInt8 (@ByteArray.data (@ByteArray.mk (@List.toArray UInt8 (@List.cons UInt8 (47 : UInt8) (@List.cons UInt8 (120 : UInt8) (@List.cons UInt8 (47 : UInt8) (@List.cons UInt8 (46 : UInt8) (@List.cons UInt8 (46 : UInt8) (@List.cons UInt8 (47 : UInt8) (@List.nil UInt8))))))))))))) (@List.length UInt8 (@Array.toList UInt8 (@ByteArray.data (@ByteArray.mk (@List.toArray UInt8 (@List.cons UInt8 (121 : UInt8) (@List.cons UInt8 (47 : UInt8) (@List.cons UInt8 (46 : UInt8) (@List.cons UInt8 (46 : UInt8) (@List.nil UInt8))))))))))) maxI64) _)
 (∃ x11 : (@List UInt8),
 ((@Eq Bs (@HAppend.hAppend Go.Proofs.Ytkhiifaldbjpbaa.Sx.Bs Bs Bs _ (@HAppend.hAppend Go.Proofs.Ytkhiifaldbjpbaa.Sx.Bs Bs Bs _ (@ThreeA.a x) (@Array.toList UInt8 (@ByteArray.data (@ByteArray.mk (@List.toArray UInt8 (@List.cons UInt8 (47 : UInt8) (@List.cons UInt8 (120 : UInt8) (@List.cons UInt8 (47 : UInt8) (@List.cons UInt8 (46 : UInt8) (@List.cons UInt8 (46 : UInt8) (@List.cons UInt8 (47 : UInt8) (@List.nil UInt8)))))))))))) (@Array.toList UInt8 (@ByteArray.data (@ByteArray.mk (@List.toArray UInt8 (@List.cons UInt8 (121 : UInt8) (@List.cons UInt8 (47 : UInt8) (@List.cons UInt8 (46 : UInt8) (@List.cons UInt8 (46 : UInt8) (@List.nil UInt8)))))))))) x11) ∧
 ((@Eq Bool (@shortB x11) Bool.true) ∧
 (∀ x12 : Unit,
 (True →
 (br (@BEq.beq Bool _ (@Option.isSome Bs (@normB x7)) (@Option.isSome Bs (@normB x9)))
 (br (@BEq.beq Bs _ (@Option.getD Bs (@normB x7) (@List.nil UInt8)) (@Option.getD Bs (@normB x9) (@List.nil UInt8)))
 (br (@Bool.not (@Option.isSome Bs (@normB x7)))
 (br (@Option.isSome Bs (@normB x11))
 (br (@BEq.beq Bs _ (@Option.getD Bs (@normB x11) (@List.nil UInt8)) (@Option.getD Bs (@normB x3) (@List.nil UInt8)))
 (br (@Option.isSome Bs (@normB x7))
 (@Eq Bool Bool.true Bool.true)
 ((@LE.le Nat _ (@List.length UInt8 (@Option.getD Bs (@normB x3) (@List.nil UInt8))) maxI64) →
 ((@LE.le Nat _ (@List.length UInt8 (@Option.getD Bs (@normB x5) (@List.nil UInt8))) maxI64) →
 (br (@Decidable.decide (@GT.gt Int _ (@Go.IntKind.wrap Go.IntKind.i64 (@HAdd.hAdd Int Int Int _ (@Go.IntKind.wrap Go.IntKind.i64 (@HAdd.hAdd Int Int Int _ (Nat.cast (@List.length UInt8 (@Option.getD Bs (@normB x3) (@List.nil UInt8))) : Int) (1 : Int))) (Nat.cast (@List.length UInt8 (@Option.getD Bs (@normB x5) (@List.nil UInt8))) : Int))) (64 : Int)) _)
 (@Eq Bool Bool.true Bool.true)
 (br (@Decidable.decide (@LE.le Nat _ (@HAdd.hAdd _ _ _ _ (@List.length UInt8 (@Option.getD Bs (@normB x3) (@List.nil UInt8))) (@List.length UInt8 (@Array.toList UInt8 (@ByteArray.data (@ByteArray.mk (@List.toArray UInt8 (@List.cons UInt8 (47 : UInt8) (@List.nil UInt8)))))))) maxI64) _)
 (br (@Decidable.decide (@LE.le Nat _ (@HAdd.hAdd _ _ _ _ (@List.length UInt8 (@HAppend.hAppend Go.Proofs.Ytkhiifaldbjpbaa.Sx.Bs Bs Bs _ (@Option.getD Bs (@normB x3) (@List.nil UInt8)) (@Array.toList UInt8 (@ByteArray.data (@ByteArray.mk (@List.toArray UInt8 (@List.cons UInt8 (47 : UInt8) (@List.nil UInt8)))))))) (@List.length UInt8 (@Option.getD Bs (@normB x5) (@List.nil UInt8)))) maxI64) _)
 (br (@Decidable.decide (@LE.le Nat _ (@HAdd.hAdd _ _ _ _ (@List.length UInt8 (@HAppend.hAppend Go.Proofs.Ytkhiifaldbjpbaa.Sx.Bs Bs Bs _ (@HAppend.hAppend Go.Proofs.Ytkhiifaldbjpbaa.Sx.Bs Bs Bs _ (@Option.getD Bs (@normB x3) (@List.nil UInt8)) (@Array.toList UInt8 (@ByteArray.data (@ByteArray.mk (@List.toArray UInt8 (@List.cons UInt8 (47 : UInt8) (@List.nil UInt8))))))) (@Option.getD Bs (@normB x5) (@List.nil UInt8)))) (@List.length UInt8 (@Array.toList UInt8 (@ByteArray.data (@ByteArray.mk (@List.toArray UInt8 (@List.cons UInt8 (47 : UInt8) (@List.nil UInt8)))))))) maxI64) _)
 (br (@Decidable.decide (@LE.le Nat _ (@HAdd.hAdd _ _ _ _ (@List.length UInt8 (@HAppend.hAppend Go.Proofs.Ytkhiifaldbjpbaa.Sx.Bs Bs Bs _ (@HAppend.hAppend Go.Proofs.Ytkhiifaldbjpbaa.Sx.Bs Bs Bs _ (@HAppend.hAppend Go.Proofs.Ytkhiifaldbjpbaa.Sx.Bs Bs Bs _ (@Option.getD Bs (@normB x3) (@List.nil UInt8)) (@Array.toList UInt8 (@ByteArray.data (@ByteArray.mk (@List.toArray UInt8 (@List.cons UInt8 (47 : UInt8) (@List.nil UInt8))))))) (@Option.getD Bs (@normB x5) (@List.nil UInt8))) (@Array.toList UInt8 (@ByteArray.data (@ByteArray.mk (@List.toArray UInt8 (@List.cons UInt8 (47 : UInt8) (@List.nil UInt8)))))))) (@List.length UInt8 (@ThreeA.c x))) maxI64) _)
 (∃ x13 : TwoA,
 ((@Eq Bs (@Option.getD Bs (@normB x3) (@List.nil UInt8)) (@TwoA.a x13)) ∧
 ((@Eq Bs (@HAppend.hAppend Go.Proofs.Ytkhiifaldbjpbaa.Sx.Bs Bs Bs _ (@HAppend.hAppend Go.Proofs.Ytkhiifaldbjpbaa.Sx.Bs Bs Bs _ (@HAppend.hAppend Go.Proofs.Ytkhiifaldbjpbaa.Sx.Bs Bs Bs _ (@HAppend.hAppend Go.Proofs.Ytkhiifaldbjpbaa.Sx.Bs Bs Bs _ (@Option.getD Bs (@normB x3) (@List.nil UInt8)) (@Array.toList UInt8 (@ByteArray.data (@ByteArray.mk (@List.toArray UInt8 (@List.cons UInt8 (47 : UInt8) (@List.nil UInt8))))))) (@Option.getD Bs (@normB x5) (@List.nil UInt8))) (@Array.toList UInt8 (@ByteArray.data (@ByteArray.mk (@List.toArray UInt8 (@List.cons UInt8 (47 : UInt8) (@List.nil UInt8))))))) (@ThreeA.c x)) (@TwoA.b x13)) ∧
 (True ∧
 (∀ x14 : Unit,
 (True →
 (br (@Bool.not (@withinB (@TwoA.a x13) (@TwoA.b x13)))
 (@Eq Bool Bool.true Bool.true)
 (br (@Decidable.decide (@LE.le Nat _ (@HAdd.hAdd _ _ _ _ (@List.length UInt8 (@Option.getD Bs (@normB x3) (@List.nil UInt8))) (@List.length UInt8 (@Array.toList UInt8 (@ByteArray.data (@ByteArray.mk (@List.toArray UInt8 (@List.cons UInt8 (47 : UInt8) (@List.nil UInt8)))))))) maxI64) _)
 (br (@Decidable.decide (@LE.le Nat _ (@HAdd.hAdd _ _ _ _ (@List.length UInt8 (@HAppend.hAppend Go.Proofs.Ytkhiifaldbjpbaa.Sx.Bs Bs Bs _ (@Option.getD Bs (@normB x3) (@List.nil UInt8)) (@Array.toList UInt8 (@ByteArray.data (@ByteArray.mk (@List.toArray UInt8 (@List.cons UInt8 (47 : UInt8) (@List.nil UInt8)))))))) (@List.length UInt8 (@Option.getD Bs (@normB x5) (@List.nil UInt8)))) maxI64) _)
 (∃ x15 : (@List UInt8),
 ((@Eq Bs (@HAppend.hAppend Go.Proofs.Ytkhiifaldbjpbaa.Sx.Bs Bs Bs _ (@HAppend.hAppend Go.Proofs.Ytkhiifaldbjpbaa.Sx.Bs Bs Bs _ (@Option.getD Bs (@normB x3) (@List.nil UInt8)) (@Array.toList UInt8 (@ByteArray.data (@ByteArray.mk (@List.toArray UInt8 (@List.cons UInt8 (47 : UInt8) (@List.nil UInt8))))))) (@Option.getD Bs (@normB x5) (@List.nil UInt8))) x15) ∧
 ((@Eq Bool (@shortB x15) Bool.true) ∧
 (∀ x16 : Unit,
 (True →
 (@Eq Bool (@Decidable.decide (@GT.gt Int _ (Nat.cast (@List.length Bs (@splitB x15)) : Int) (8 : Int)) _) Bool.true))))))
 (Bad "check" "law.go:94"))
 (Bad "check" "law.go:94")))))))))
 (Bad "check" "law.go:94"))
 (Bad "check" "law.go:94"))
 (Bad "check" "law.go:94"))
 (Bad "check" "law.go:94"))))))
 (@Eq Bool Bool.false Bool.true))
 (@Eq Bool Bool.false Bool.true))
 (br (@Decidable.decide (@LE.le Nat _ (@HAdd.hAdd _ _ _ _ (@List.length UInt8 (@Option.getD Bs (@normB x3) (@List.nil UInt8))) (@List.length UInt8 (@Array.toList UInt8 (@ByteArray.data (@ByteArray.mk (@List.toArray UInt8 (@List.cons UInt8 (47 : UInt8) (@List.nil UInt8)))))))) maxI64) _)
 (br (@Decidable.decide (@LE.le Nat _ (@HAdd.hAdd _ _ _ _ (@List.length UInt8 (@HAppend.hAppend Go.Proofs.Ytkhiifaldbjpbaa.Sx.Bs Bs Bs _ (@Option.getD Bs (@normB x3) (@List.nil UInt8)) (@Array.toList UInt8 (@ByteArray.data (@ByteArray.mk (@List.toArray UInt8 (@List.cons UInt8 (47 : UInt8) (@List.nil UInt8)))))))) (@List.length UInt8 (@Option.getD Bs (@normB x5) (@List.nil UInt8)))) maxI64) _)
 (br (@BEq.beq Bs _ (@Option.getD Bs (@normB x7) (@List.nil UInt8)) (@HAppend.hAppend Go.Proofs.Ytkhiifaldbjpbaa.Sx.Bs Bs Bs _ (@HAppend.hAppend Go.Proofs.Ytkhiifaldbjpbaa.Sx.Bs Bs Bs _ (@Option.getD Bs (@normB x3) (@List.nil UInt8)) (@Array.toList UInt8 (@ByteArray.data (@ByteArray.mk (@List.toArray UInt8 (@List.cons UInt8 (47 : UInt8) (@List.nil UInt8))))))) (@Option.getD Bs (@normB x5) (@List.nil UInt8))))
 (br (@Option.isSome Bs (@normB x11))
 (br (@BEq.beq Bs _ (@Option.getD Bs (@normB x11) (@List.nil UInt8)) (@Option.getD Bs (@normB x3) (@List.nil UInt8)))
 (br (@Option.isSome Bs (@normB x7))
 (@Eq Bool Bool.true Bool.true)
 ((@LE.le Nat _ (@List.length UInt8 (@Option.getD Bs (@normB x3) (@List.nil UInt8))) maxI64) →
 ((@LE.le Nat _ (@List.length UInt8 (@Option.getD Bs (@normB x5) (@List.nil UInt8))) maxI64) →
 (br (@Decidable.decide (@GT.gt Int _ (@Go.IntKind.wrap Go.IntKind.i64 (@HAdd.hAdd Int Int Int _ (@Go.IntKind.wrap Go.IntKind.i64 (@HAdd.hAdd Int Int Int _ (Nat.cast (@List.length UInt8 (@Option.getD Bs (@normB x3) (@List.nil UInt8))) : Int) (1 : Int))) (Nat.cast (@List.length UInt8 (@Option.getD Bs (@normB x5) (@List.nil UInt8))) : Int))) (64 : Int)) _)
 (@Eq Bool Bool.true Bool.true)
 (br (@Decidable.decide (@LE.le Nat _ (@HAdd.hAdd _ _ _ _ (@List.length UInt8 (@Option.getD Bs (@normB x3) (@List.nil UInt8))) (@List.length UInt8 (@Array.toList UInt8 (@ByteArray.data (@ByteArray.mk (@List.toArray UInt8 (@List.cons UInt8 (47 : UInt8) (@List.nil UInt8)))))))) maxI64) _)
 (br (@Decidable.decide (@LE.le Nat _ (@HAdd.hAdd _ _ _ _ (@List.length UInt8 (@HAppend.hAppend Go.Proofs.Ytkhiifaldbjpbaa.Sx.Bs Bs Bs _ (@Option.getD Bs (@normB x3) (@List.nil UInt8)) (@Array.toList UInt8 (@ByteArray.data (@ByteArray.mk (@List.toArray UInt8 (@List.cons UInt8 (47 : UInt8) (@List.nil UInt8)))))))) (@List.length UInt8 (@Option.getD Bs (@normB x5) (@List.nil UInt8)))) maxI64) _)
 (br (@Decidable.decide (@LE.le Nat _ (@HAdd.hAdd _ _ _ _ (@List.length UInt8 (@HAppend.hAppend Go.Proofs.Ytkhiifaldbjpbaa.Sx.Bs Bs Bs _ (@HAppend.hAppend Go.Proofs.Ytkhiifaldbjpbaa.Sx.Bs Bs Bs _ (@Option.getD Bs (@normB x3) (@List.nil UInt8)) (@Array.toList UInt8 (@ByteArray.data (@ByteArray.mk (@List.toArray UInt8 (@List.cons UInt8 (47 : UInt8) (@List.nil UInt8))))))) (@Option.getD Bs (@normB x5) (@List.nil UInt8)))) (@List.length UInt8 (@Array.toList UInt8 (@ByteArray.data (@ByteArray.mk (@List.toArray UInt8 (@List.cons UInt8 (47 : UInt8) (@List.nil UInt8)))))))) maxI64) _)
 (br (@Decidable.decide (@LE.le Nat _ (@HAdd.hAdd _ _ _ _ (@List.length UInt8 (@HAppend.hAppend Go.Proofs.Ytkhiifaldbjpbaa.Sx.Bs Bs Bs _ (@HAppend.hAppend Go.Proofs.Ytkhiifaldbjpbaa.Sx.Bs Bs Bs _ (@HAppend.hAppend Go.Proofs.Ytkhiifaldbjpbaa.Sx.Bs Bs Bs _ (@Option.getD Bs (@normB x3) (@List.nil UInt8)) (@Array.toList UInt8 (@ByteArray.data (@ByteArray.mk (@List.toArray UInt8 (@List.cons UInt8 (47 : UInt8) (@List.nil UInt8))))))) (@Option.getD Bs (@normB x5) (@List.nil UInt8))) (@Array.toList UInt8 (@ByteArray.data (@ByteArray.mk (@List.toArray UInt8 (@List.cons UInt8 (47 : UInt8) (@List.nil UInt8)))))))) (@List.length UInt8 (@ThreeA.c x))) maxI64) _)
 (∃ x17 : TwoA,
 ((@Eq Bs (@Option.getD Bs (@normB x3) (@List.nil UInt8)) (@TwoA.a x17)) ∧
 ((@Eq Bs (@HAppend.hAppend Go.Proofs.Ytkhiifaldbjpbaa.Sx.Bs Bs Bs _ (@HAppend.hAppend Go.Proofs.Ytkhiifaldbjpbaa.Sx.Bs Bs Bs _ (@HAppend.hAppend Go.Proofs.Ytkhiifaldbjpbaa.Sx.Bs Bs Bs _ (@HAppend.hAppend Go.Proofs.Ytkhiifaldbjpbaa.Sx.Bs Bs Bs _ (@Option.getD Bs (@normB x3) (@List.nil UInt8)) (@Array.toList UInt8 (@ByteArray.data (@ByteArray.mk (@List.toArray UInt8 (@List.cons UInt8 (47 : UInt8) (@List.nil UInt8))))))) (@Option.getD Bs (@normB x5) (@List.nil UInt8))) (@Array.toList UInt8 (@ByteArray.data (@ByteArray.mk (@List.toArray UInt8 (@List.cons UInt8 (47 : UInt8) (@List.nil UInt8))))))) (@ThreeA.c x)) (@TwoA.b x17)) ∧
 (True ∧
 (∀ x18 : Unit,
 (True →
 (br (@Bool.not (@withinB (@TwoA.a x17) (@TwoA.b x17)))
 (@Eq Bool Bool.true Bool.true)
 (br (@Decidable.decide (@LE.le Nat _ (@HAdd.hAdd _ _ _ _ (@List.length UInt8 (@Option.getD Bs (@normB x3) (@List.nil UInt8))) (@List.length UInt8 (@Array.toList UInt8 (@ByteArray.data (@ByteArray.mk (@List.toArray UInt8 (@List.cons UInt8 (47 : UInt8) (@List.nil UInt8)))))))) maxI64) _)
 (br (@Decidable.decide (@LE.le Nat _ (@HAdd.hAdd _ _ _ _ (@List.length UInt8 (@HAppend.hAppend Go.Proofs.Ytkhiifaldbjpbaa.Sx.Bs Bs Bs _ (@Option.getD Bs (@normB x3) (@List.nil UInt8)) (@Array.toList UInt8 (@ByteArray.data (@ByteArray.mk (@List.toArray UInt8 (@List.cons UInt8 (47 : UInt8) (@List.nil UInt8)))))))) (@List.length UInt8 (@Option.getD Bs (@normB x5) (@List.nil UInt8)))) maxI64) _)
 (∃ x19 : (@List UInt8),
 ((@Eq Bs (@HAppend.hAppend Go.Proofs.Ytkhiifaldbjpbaa.Sx.Bs Bs Bs _ (@HAppend.hAppend Go.Proofs.Ytkhiifaldbjpbaa.Sx.Bs Bs Bs _ (@Option.getD Bs (@normB x3) (@List.nil UInt8)) (@Array.toList UInt8 (@ByteArray.data (@ByteArray.mk (@List.toArray UInt8 (@List.cons UInt8 (47 : UInt8) (@List.nil UInt8))))))) (@Option.getD Bs (@normB x5) (@List.nil UInt8))) x19) ∧
 ((@Eq Bool (@shortB x19) Bool.true) ∧
 (∀ x20 : Unit,
 (True →
 (@Eq Bool (@Decidable.decide (@GT.gt Int _ (Nat.cast (@List.length Bs (@splitB x19)) : Int) (8 : Int)) _) Bool.true))))))
 (Bad "check" "law.go:94"))
 (Bad "check" "law.go:94")))))))))
 (Bad "check" "law.go:94"))
 (Bad "check" "law.go:94"))
 (Bad "check" "law.go:94"))
 (Bad "check" "law.go:94"))))))
 (@Eq Bool Bool.false Bool.true))
 (@Eq Bool Bool.false Bool.true))
 (@Eq Bool Bool.false Bool.true))
 (Bad "check" "law.go:94"))
 (Bad "check" "law.go:94")))
 (@Eq Bool Bool.false Bool.true))
 (@Eq Bool Bool.false Bool.true)))))))
 (Bad "check" "law.go:93"))
 (Bad "check" "law.go:93")))))))
 (Bad "check" "law.go:92"))
 (Bad "check" "law.go:92")))))))
 (Bad "check" "law.go:91"))
 (Bad "check" "law.go:91"))
 (Bad "check" "law.go:91"))
 (Bad "check" "law.go:91"))))))))))))))))))))))))) := by kernel_rfl

theorem known_vc (x : Unit) : evCall plawE (ev plawE 1000) 13 (noArgs x) ⟨[], 0, []⟩ (fun _ _ => False) (fun v _ => TrueV v) = (
(∃ x1 : Unit,
 (True ∧
 (∀ x2 : Unit,
 (True →
 (∃ x3 : (@List UInt8),
 ((@Eq Bs (@Array.toList UInt8 (@ByteArray.data (@ByteArray.mk (@List.toArray UInt8 (@List.cons UInt8 (97 : UInt8) (@List.cons UInt8 (47 : UInt8) (@List.cons UInt8 (46 : UInt8) (@List.cons UInt8 (46 : UInt8) (@List.cons UInt8 (47 : UInt8) (@List.cons UInt8 (98 : UInt8) (@List.nil UInt8))))))))))) x3) ∧
 ((@Eq Bool (@shortB x3) Bool.true) ∧
 (∀ x4 : Unit,
 (True →
 (∃ x5 : (@List UInt8),
 ((@Eq Bs (@Array.toList UInt8 (@ByteArray.data (@ByteArray.mk (@List.toArray UInt8 (@List.cons UInt8 (46 : UInt8) (@List.cons UInt8 (46 : UInt8) (@List.cons UInt8 (47 : UInt8) (@List.cons UInt8 (97 : UInt8) (@List.nil UInt8))))))))) x5) ∧
 ((@Eq Bool (@shortB x5) Bool.true) ∧
 (∀ x6 : Unit,
 (True →
 (∃ x7 : (@List UInt8),
 ((@Eq Bs (@Array.toList UInt8 (@ByteArray.data (@ByteArray.mk (@List.toArray UInt8 (@List.nil UInt8))))) x7) ∧
 ((@Eq Bool (@shortB x7) Bool.true) ∧
 (∀ x8 : Unit,
 (True →
 (br (@Option.isSome Bs (@normB x3))
 (br (@BEq.beq Bs _ (@Option.getD Bs (@normB x3) (@List.nil UInt8)) (@Array.toList UInt8 (@ByteArray.data (@ByteArray.mk (@List.toArray UInt8 (@List.cons UInt8 (98 : UInt8) (@List.nil UInt8)))))))
 (br (@Bool.not (@Option.isSome Bs (@normB x5)))
 (br (@Bool.not (@Option.isSome Bs (@normB x7)))
 (∃ x9 : TwoA,
 ((@Eq Bs (@Array.toList UInt8 (@ByteArray.data (@ByteArray.mk (@List.toArray UInt8 (@List.cons UInt8 (97 : UInt8) (@List.nil UInt8)))))) (@TwoA.a x9)) ∧
 ((@Eq Bs (@Array.toList UInt8 (@ByteArray.data (@ByteArray.mk (@List.toArray UInt8 (@List.cons UInt8 (97 : UInt8) (@List.cons UInt8 (47 : UInt8) (@List.cons UInt8 (98 : UInt8) (@List.nil UInt8)))))))) (@TwoA.b x9)) ∧
 (True ∧
 (∀ x10 : Unit,
 (True →
 (br (@BEq.beq Int _ (@cmpL (@splitB (@TwoA.a x9)) (@splitB (@TwoA.b x9))) (@Neg.neg Int _ (1 : Int)))
 (∃ x11 : TwoA,
 ((@Eq Bs (@Array.toList UInt8 (@ByteArray.data (@ByteArray.mk (@List.toArray UInt8 (@List.cons UInt8 (97 : UInt8) (@List.nil UInt8)))))) (@TwoA.a x11)) ∧
 ((@Eq Bs (@Array.toList UInt8 (@ByteArray.data (@ByteArray.mk (@List.toArray UInt8 (@List.cons UInt8 (97 : UInt8) (@List.cons UInt8 (98 : UInt8) (@List.nil UInt8))))))) (@TwoA.b x11)) ∧
 (True ∧
 (∀ x12 : Unit,
 (True →
 (br (@Bool.not (@withinB (@TwoA.a x11) (@TwoA.b x11)))
 (∃ x13 : TwoA,
 ((@Eq Bs (@Array.toList UInt8 (@ByteArray.data (@ByteArray.mk (@List.toArray UInt8 (@List.nil UInt8))))) (@TwoA.a x13)) ∧
 ((@Eq Bs (@Array.toList UInt8 (@ByteArray.data (@ByteArray.mk (@List.toArray UInt8 (@List.cons UInt8 (120 : UInt8) (@List.nil UInt8)))))) (@TwoA.b x13)) ∧
 (True ∧
 (∀ x14 : Unit,
 (True →
 (br (@withinB (@TwoA.a x13) (@TwoA.b x13))
 (∃ x15 : (@List UInt8),
 ((@Eq Bs (@Array.toList UInt8 (@ByteArray.data (@ByteArray.mk (@List.toArray UInt8 (@List.cons UInt8 (97 : UInt8) (@List.cons UInt8 (45 : UInt8) (@List.cons UInt8 (49 : UInt8) (@List.nil UInt8)))))))) x15) ∧
 (True ∧
 (∀ x16 : Unit,
 (True →
 (br (@wordOk x15 Bool.false)
 (∃ x17 : (@List UInt8),
 ((@Eq Bs (@Array.toList UInt8 (@ByteArray.data (@ByteArray.mk (@List.toArray UInt8 (@List.cons UInt8 (97 : UInt8) (@List.cons UInt8 (46 : UInt8) (@List.cons UInt8 (98 : UInt8) (@List.nil UInt8)))))))) x17) ∧
 (True ∧
 (∀ x18 : Unit,
 (True →
 (@Eq Bool (@Bool.not (@wordOk x17 Bool.false)) Bool.true))))))
 (@Eq Bool Bool.false Bool.true)))))))
 (@Eq Bool Bool.false Bool.true))))))))
 (@Eq Bool Bool.false Bool.true))))))))
 (@Eq Bool Bool.false Bool.true))))))))
 (@Eq Bool Bool.false Bool.true))
 (@Eq Bool Bool.false Bool.true))
 (@Eq Bool Bool.false Bool.true))
 (@Eq Bool Bool.false Bool.true)))))))))))))))))))))) := by kernel_rfl

theorem withins_vc (x : ThreeA) : evCall plawE (ev plawE 1000) 14 (threeArgs x) ⟨[], 0, []⟩ (fun _ _ => False) (fun v _ => TrueV v) = (
(∃ x1 : Unit,
 (True ∧
 (∀ x2 : Unit,
 (True →
 ((@LE.le Nat _ (@List.length UInt8 (@ThreeA.b x)) maxI64) →
 (br (@Decidable.decide (@GT.gt Int _ (Nat.cast (@List.length UInt8 (@ThreeA.b x)) : Int) (20000 : Int)) _)
 (@Eq Bool Bool.true Bool.true)
 ((@LE.le Nat _ (@List.length UInt8 (@ThreeA.c x)) maxI64) →
 (br (@Decidable.decide (@GT.gt Int _ (Nat.cast (@List.length UInt8 (@ThreeA.c x)) : Int) (20000 : Int)) _)
 (@Eq Bool Bool.true Bool.true)
 ((@LE.le Nat _ (@List.length UInt8 (@ThreeA.a x)) maxI64) →
 (br (@Decidable.decide (@GT.gt Int _ (Nat.cast (@List.length UInt8 (@ThreeA.a x)) : Int) (20000 : Int)) _)
 (@Eq Bool Bool.true Bool.true)
 (∃ x3 : TwoA,
 ((@Eq Bs (@ThreeA.a x) (@TwoA.a x3)) ∧
 ((@Eq Bs (@ThreeA.b x) (@TwoA.b x3)) ∧
 (True ∧
 (∀ x4 : Unit,
 (True →
 (∃ x5 : TwoA,
 ((@Eq Bs (@ThreeA.a x) (@TwoA.a x5)) ∧
 ((@Eq Bs (@ThreeA.b x) (@TwoA.b x5)) ∧
 (True ∧
 (∀ x6 : Unit,
 (True →
 (br (@Bool.not (@BEq.beq Bool _ (@withinB (@TwoA.a x3) (@TwoA.b x3)) (@withinB (@TwoA.a x5) (@TwoA.b x5))))
 (@Eq Bool Bool.false Bool.true)
 (∃ x7 : (@List UInt8),
 ((@Eq Bs (@ThreeA.b x) x7) ∧
 (True ∧
 (∀ x8 : Unit,
 (True →
 (∃ x9 : WordA,
 ((@Eq Bs (@ThreeA.b x) (@WordA.s x9)) ∧
 ((@Eq Bool Bool.false (@WordA.point x9)) ∧
 (True ∧
 (∀ x10 : Unit,
 (True →
 (br (@Bool.not (@BEq.beq Bool _ (@wordOk x7 Bool.false) (@wordOk (@WordA.s x9) (@WordA.point x9))))
 (@Eq Bool Bool.false Bool.true)
 (br (@BEq.beq Bs _ (@ThreeA.a x) (@Array.toList UInt8 (@ByteArray.data (@ByteArray.mk (@List.toArray UInt8 (@List.nil UInt8))))))
 (∃ x11 : TwoA,
 ((@Eq Bs (@ThreeA.a x) (@TwoA.a x11)) ∧
 ((@Eq Bs (@ThreeA.b x) (@TwoA.b x11)) ∧
 (True ∧
 (∀ x12 : Unit,
 (True →
 (@Eq Bool (@withinB (@TwoA.a x11) (@TwoA.b x11)) Bool.true)))))))
 (∃ x13 : TwoA,
 ((@Eq Bs (@ThreeA.a x) (@TwoA.a x13)) ∧
 ((@Eq Bs (@ThreeA.b x) (@TwoA.b x13)) ∧
 (True ∧
 (∀ x14 : Unit,
 (True →
 (br (@withinB (@TwoA.a x13) (@TwoA.b x13))
 (∃ x15 : TwoA,
 ((@Eq Bs (@ThreeA.a x) (@TwoA.a x15)) ∧
 ((@Eq Bs (@ThreeA.b x) (@TwoA.b x15)) ∧
 (True ∧
 (∀ x16 : Unit,
 (True →
 (br (@Decidable.decide (@GT.gt Int _ (@cmpL (@splitB (@TwoA.a x15)) (@splitB (@TwoA.b x15))) (0 : Int)) _)
 (@Eq Bool Bool.false Bool.true)
 (br (@Decidable.decide (@LE.le Nat _ (@HAdd.hAdd _ _ _ _ (@List.length UInt8 (@ThreeA.a x)) (@List.length UInt8 (@Array.toList UInt8 (@ByteArray.data (@ByteArray.mk (@List.toArray UInt8 (@List.cons UInt8 (47 : UInt8) (@List.nil UInt8)))))))) maxI64) _)
 (br (@Decidable.decide (@LE.le Nat _ (@HAdd.hAdd _ _ _ _ (@List.length UInt8 (@HAppend.hAppend Go.Proofs.Ytkhiifaldbjpbaa.Sx.Bs Bs Bs _ (@ThreeA.a x) (@Array.toList UInt8 (@ByteArray.data (@ByteArray.mk (@List.toArray UInt8 (@List.cons UInt8 (47 : UInt8) (@List.nil UInt8)))))))) (@List.length UInt8 (@ThreeA.c x))) maxI64) _)
 (∃ x17 : TwoA,
 ((@Eq Bs (@ThreeA.a x) (@TwoA.a x17)) ∧
 ((@Eq Bs (@ThreeA.b x) (@TwoA.b x17)) ∧
 (True ∧
 (∀ x18 : Unit,
 (True →
 (br (@Decidable.decide (@LE.le Int _ (@cmpL (@splitB (@TwoA.a x17)) (@splitB (@TwoA.b x17))) (0 : Int)) _)
 (∃ x19 : TwoA,
 ((@Eq Bs (@ThreeA.b x) (@TwoA.a x19)) ∧
 ((@Eq Bs (@HAppend.hAppend Go.Proofs.Ytkhiifaldbjpbaa.Sx.Bs Bs Bs _ (@HAppend.hAppend Go.Proofs.Ytkhiifaldbjpbaa.Sx.Bs Bs Bs _ (@ThreeA.a x) (@Array.toList UInt8 (@ByteArray.data (@ByteArray.mk (@List.toArray UInt8 (@List.cons UInt8 (47 : UInt8) (@List.nil UInt8))))))) (@ThreeA.c x)) (@TwoA.b x19)) ∧
 (True ∧
 (∀ x20 : Unit,
 (True →
 (br (@Bool.not (@Decidable.decide (@LE.le Int _ (@cmpL (@splitB (@TwoA.a x19)) (@splitB (@TwoA.b x19))) (0 : Int)) _))
 (@Eq Bool Bool.true Bool.true)
 (∃ x21 : TwoA,
 ((@Eq Bs (@ThreeA.a x) (@TwoA.a x21)) ∧
 ((@Eq Bs (@ThreeA.b x) (@TwoA.b x21)) ∧
 (True ∧
 (∀ x22 : Unit,
 (True →
 (@Eq Bool (@withinB (@TwoA.a x21) (@TwoA.b x21)) Bool.true))))))))))))))
 (@Eq Bool Bool.true Bool.true))))))))
 (Bad "check" "law.go:74"))
 (Bad "check" "law.go:74")))))))))
 (br (@Decidable.decide (@LE.le Nat _ (@HAdd.hAdd _ _ _ _ (@List.length UInt8 (@ThreeA.a x)) (@List.length UInt8 (@Array.toList UInt8 (@ByteArray.data (@ByteArray.mk (@List.toArray UInt8 (@List.cons UInt8 (47 : UInt8) (@List.nil UInt8)))))))) maxI64) _)
 (br (@Decidable.decide (@LE.le Nat _ (@HAdd.hAdd _ _ _ _ (@List.length UInt8 (@HAppend.hAppend Go.Proofs.Ytkhiifaldbjpbaa.Sx.Bs Bs Bs _ (@ThreeA.a x) (@Array.toList UInt8 (@ByteArray.data (@ByteArray.mk (@List.toArray UInt8 (@List.cons UInt8 (47 : UInt8) (@List.nil UInt8)))))))) (@List.length UInt8 (@ThreeA.c x))) maxI64) _)
 (∃ x23 : TwoA,
 ((@Eq Bs (@ThreeA.a x) (@TwoA.a x23)) ∧
 ((@Eq Bs (@ThreeA.b x) (@TwoA.b x23)) ∧
 (True ∧
 (∀ x24 : Unit,
 (True →
 (br (@Decidable.decide (@LE.le Int _ (@cmpL (@splitB (@TwoA.a x23)) (@splitB (@TwoA.b x23))) (0 : Int)) _)
 (∃ x25 : TwoA,
 ((@Eq Bs (@ThreeA.b x) (@TwoA.a x25)) ∧
 ((@Eq Bs (@HAppend.hAppend Go.Proofs.Ytkhiifaldbjpbaa.Sx.Bs Bs Bs _ (@HAppend.hAppend Go.Proofs.Ytkhiifaldbjpbaa.Sx.Bs Bs Bs _ (@ThreeA.a x) (@Array.toList UInt8 (@ByteArray.data (@ByteArray.mk (@List.toArray UInt8 (@List.cons UInt8 (47 : UInt8) (@List.nil UInt8))))))) (@ThreeA.c x)) (@TwoA.b x25)) ∧
 (True ∧
 (∀ x26 : Unit,
 (True →
 (br (@Bool.not (@Decidable.decide (@LE.le Int _ (@cmpL (@splitB (@TwoA.a x25)) (@splitB (@TwoA.b x25))) (0 : Int)) _))
 (@Eq Bool Bool.true Bool.true)
 (∃ x27 : TwoA,
 ((@Eq Bs (@ThreeA.a x) (@TwoA.a x27)) ∧
 ((@Eq Bs (@ThreeA.b x) (@TwoA.b x27)) ∧
 (True ∧
 (∀ x28 : Unit,
 (True →
 (@Eq Bool (@withinB (@TwoA.a x27) (@TwoA.b x27)) Bool.true))))))))))))))
 (@Eq Bool Bool.true Bool.true))))))))
 (Bad "check" "law.go:74"))
 (Bad "check" "law.go:74")))))))))))))))))))))))))))))))))))))))))))))) := by kernel_rfl

end Go.Proofs.Ytkhiifaldbjpbaa.Ses

namespace Go.Proofs.Ytkhiifaldbjpbaa.Ses
open Go Go.Proofs Go.Proofs.Ytkhiifaldbjpbaa.Sx

theorem split_app : ∀ (x y : Bs), splitB (x ++ 47 :: y) = splitB x ++ splitB y
  | [], y => rfl
  | c :: r, y => by
    by_cases h : c = 47
    · subst h; rw [List.cons_append, split_slash, split_slash, split_app r y]; rfl
    · rw [List.cons_append, split_cons (by simpa using h), split_cons (by simpa using h), split_app r y]
      obtain ⟨p, t, e⟩ := List.exists_cons_of_ne_nil (split_ne r)
      rw [e]; rfl

theorem normGo_app : ∀ (l m st : List Bs), normGo (l ++ m) st = (normGo l st).bind (normGo m)
  | [], m, st => rfl
  | p :: r, m, st => by
    rw [List.cons_append]
    conv => lhs; unfold normGo
    conv => rhs; unfold normGo
    cases p == [] || p == [46]
    · simp only [cond_false]
      cases p == [46, 46]
      · simp only [cond_false]; exact normGo_app r m _
      · simp only [cond_true]
        cases st == []
        · exact normGo_app r m _
        · rfl
    · exact normGo_app r m st

theorem normGo_frame : ∀ {l st st' : List Bs} (A : List Bs), normGo l st = some st' → normGo l (A ++ st) = some (A ++ st')
  | [], st, st', A, h => by simp [normGo] at h ⊢; exact h
  | p :: r, st, st', A, h => by
    unfold normGo at h ⊢
    cases h1 : (p == [] || p == [46]) <;> rw [h1] at h
    · simp only [cond_false] at h ⊢
      cases h2 : p == [46, 46] <;> rw [h2] at h
      · simp only [cond_false] at h ⊢
        rw [List.append_assoc]
        exact normGo_frame A h
      · simp only [cond_true] at h ⊢
        cases h3 : st == [] <;> rw [h3] at h
        · simp only [cond_false] at h
          have hne : st ≠ [] := by rintro rfl; cases h3
          have : (A ++ st == []) = false := by
            cases A <;> cases st <;> first | rfl | exact absurd rfl hne
          rw [this, List.dropLast_append_of_ne_nil hne]
          exact normGo_frame A h
        · cases h
    · exact normGo_frame A h

def good (p : Bs) : Prop := p ≠ [] ∧ p ≠ [46] ∧ p ≠ [46, 46]

theorem normGo_good : ∀ {l st st' : List Bs}, normGo l st = some st' → (∀ p, p ∈ st → good p) → ∀ p, p ∈ st' → good p
  | [], st, st', h, hs => by simp [normGo] at h; subst h; exact hs
  | p :: r, st, st', h, hs => by
    unfold normGo at h
    cases h1 : (p == [] || p == [46]) <;> rw [h1] at h
    · simp only [cond_false] at h
      cases h2 : p == [46, 46] <;> rw [h2] at h
      · simp only [cond_false] at h
        refine normGo_good h fun q hq => ?_
        rcases List.mem_append.1 hq with hq | hq
        · exact hs q hq
        · rcases List.mem_singleton.1 hq with rfl
          simp only [Bool.or_eq_false_iff, beq_eq_false_iff_ne] at h1 h2
          exact ⟨h1.1, h1.2, h2⟩
      · simp only [cond_true] at h
        cases h3 : st == [] <;> rw [h3] at h
        · exact normGo_good h fun q hq => hs q (List.dropLast_subset _ hq)
        · cases h
    · exact normGo_good h hs

theorem normGo_id : ∀ {l st : List Bs}, (∀ p, p ∈ l → good p) → normGo l st = some (st ++ l)
  | [], st, _ => by simp [normGo]
  | p :: r, st, h => by
    obtain ⟨h1, h2, h3⟩ := h p (by simp)
    unfold normGo
    have e1 : (p == [] || p == [46]) = false := by rw [Bool.or_eq_false_iff, beq_eq_false_iff_ne, beq_eq_false_iff_ne]; exact ⟨h1, h2⟩
    have e2 : (p == [46, 46]) = false := by rw [beq_eq_false_iff_ne]; exact h3
    rw [e1, e2]
    simp only [cond_false]
    rw [normGo_id fun q hq => h q (by simp [hq])]
    simp

theorem normGo_push {p : Bs} (h : good p) (r st : List Bs) : normGo (p :: r) st = normGo r (st ++ [p]) := by
  obtain ⟨h1, h2, h3⟩ := h
  have e1 : (p == [] || p == [46]) = false := by rw [Bool.or_eq_false_iff, beq_eq_false_iff_ne, beq_eq_false_iff_ne]; exact ⟨h1, h2⟩
  have e2 : (p == [46, 46]) = false := by rw [beq_eq_false_iff_ne]; exact h3
  conv => lhs; unfold normGo
  rw [e1, e2]
  rfl
theorem normGo_pop (r st : List Bs) (p : Bs) : normGo ([46, 46] :: r) (st ++ [p]) = normGo r st := by
  conv => lhs; unfold normGo
  have h3 : (([46, 46] : Bs) == [] || ([46, 46] : Bs) == [46]) = false := rfl
  have h4 : (([46, 46] : Bs) == [46, 46]) = true := rfl
  have h5 : (st ++ [p] == []) = false := by cases st <;> rfl
  rw [h3, h4, h5, List.dropLast_concat]
  rfl

theorem letterP47 : letterP 47 true = false := by decide

theorem part_no {p : Bs} (h : partOk p = true) : ∀ c, c ∈ p → (c == 47) = false := by
  intro c hc
  unfold partOk at h
  rw [Bool.and_eq_true] at h
  have := List.all_eq_true.1 h.1 c hc
  cases he : c == 47
  · rfl
  · rw [eq_of_beq he] at this
    exact absurd this (by decide)

theorem join_two (x : Bs) {r : List Bs} (h : r ≠ []) : Lib.join (x :: r) [47] = x ++ 47 :: Lib.join r [47] := by
  obtain ⟨y, t, rfl⟩ := List.exists_cons_of_ne_nil h
  rw [Lib.join_cons, Lib.join_cons]
  simp [Lib.joinTail]

theorem join_app {A B : List Bs} (hB : B ≠ []) : ∀ (hA : A ≠ []), Lib.join (A ++ B) [47] = Lib.join A [47] ++ 47 :: Lib.join B [47] := by
  induction A with
  | nil => intro h; exact absurd rfl h
  | cons x r ih =>
    intro _
    cases r with
    | nil => rw [Lib.join_one, List.singleton_append, join_two _ hB]
    | cons y t => rw [List.cons_append, join_two _ (by simp), ih (by simp), join_two x (by simp)]; simp

theorem split_join : ∀ {st : List Bs}, st ≠ [] → (∀ p, p ∈ st → ∀ c, c ∈ p → (c == 47) = false) → splitB (Lib.join st [47]) = st
  | [], h, _ => absurd rfl h
  | [p], _, hp => by rw [Lib.join_one]; exact split_no (hp p (by simp))
  | p :: q :: r, _, hp => by
    rw [join_two _ (by simp), split_at47 (hp p (by simp)), split_join (by simp) fun x hx => hp x (by simp [hx])]

theorem normEnd_some {st : List Bs} {p : Bs} (h : normEnd st = some p) : st ≠ [] ∧ ¬ 8 < st.length ∧ (∀ q, q ∈ st → partOk q = true) ∧ ¬ 64 < (Lib.join st [47]).length ∧ p = Lib.join st [47] := by
  unfold normEnd at h
  cases hc : (st == [] || decide (8 < st.length) || !(st.all partOk) || decide (64 < (Lib.join st [47]).length)) <;> rw [hc] at h
  · simp only [cond_false, Option.some.injEq] at h
    simp only [Bool.or_eq_false_iff, decide_eq_false_iff_not, Bool.not_eq_false'] at hc
    obtain ⟨⟨⟨h1, h2⟩, h3⟩, h4⟩ := hc
    exact ⟨(by rintro rfl; cases h1), h2, List.all_eq_true.1 h3, h4, h.symm⟩
  · cases h

structure NormP (p : Bs) (A : List Bs) : Prop where
  ne : A ≠ []
  len : A.length ≤ 8
  part : ∀ q, q ∈ A → partOk q = true
  wide : p.length ≤ 64
  join : p = Lib.join A [47]
  good : ∀ q, q ∈ A → good q
  split : splitB p = A
  fin : normEnd A = some p

theorem norm_parts {s p : Bs} (h : normB s = some p) : ∃ A, normGo (splitB s) [] = some A ∧ NormP p A := by
  unfold normB at h
  split at h
  · cases h
  · rename_i A hA
    obtain ⟨h1, h2, h3, h4, h5⟩ := normEnd_some h
    refine ⟨A, hA, h1, by omega, h3, by rw [h5]; omega, h5, normGo_good hA (fun q hq => by cases hq), ?_, h⟩
    rw [h5]
    exact split_join h1 fun q hq => part_no (h3 q hq)

theorem norm_again {s p : Bs} (h : normB s = some p) : normB p = some p := by
  obtain ⟨A, _, hP⟩ := norm_parts h
  have : normGo (splitB p) [] = some A := by rw [hP.split, normGo_id hP.good]; rfl
  rw [normB_of this]
  exact hP.fin

theorem deep_step {s : Bs} {i : Nat} (hi : i < s.length) : (splitB (s.take (i + 1))).length = (splitB (s.take i)).length + (bif s.getD i 0 == 47 then 1 else 0) := by
  rw [take_succ_getD 0 hi]
  generalize s.take i = t
  generalize s.getD i 0 = c
  by_cases h : c = 47
  · subst h
    rw [split_app]
    simp [splitB]
  · have hb : (c == 47) = false := by simpa using h
    rw [hb]
    simp only [cond_false, Nat.add_zero]
    induction t with
    | nil => simp [split_cons hb, splitB]
    | cons d r ih =>
      by_cases hd : d = 47
      · subst hd; rw [List.cons_append, split_slash, split_slash]; simp [ih]
      · have hd : (d == 47) = false := by simpa using hd
        rw [List.cons_append, split_cons hd, split_cons hd]
        simp [ih]

/-! ### what is within -/

theorem split_inj : ∀ {x y : Bs}, splitB x = splitB y → x = y
  | [], [], _ => rfl
  | [], d :: y, h => by
    by_cases hd : d = 47
    · subst hd; rw [split_slash] at h; simp [splitB, (split_ne y).symm] at h
    · rw [split_cons (by simpa using hd)] at h; simp [splitB] at h
  | c :: x, [], h => by
    by_cases hc : c = 47
    · subst hc; rw [split_slash] at h; simp [splitB, split_ne x] at h
    · rw [split_cons (by simpa using hc)] at h; simp [splitB] at h
  | c :: x, d :: y, h => by
    by_cases hc : c = 47 <;> by_cases hd : d = 47
    · subst hc; subst hd
      rw [split_slash, split_slash] at h
      rw [split_inj (List.cons.inj h).2]
    · subst hc
      rw [split_slash, split_cons (by simpa using hd)] at h
      cases (List.cons.inj h).1
    · subst hd
      rw [split_slash, split_cons (by simpa using hc)] at h
      cases (List.cons.inj h).1
    · rw [split_cons (by simpa using hc), split_cons (by simpa using hd)] at h
      obtain ⟨h1, h2⟩ := List.cons.inj h
      obtain ⟨h3, h4⟩ := List.cons.inj h1
      subst h3
      have : splitB x = splitB y := by
        obtain ⟨p, t, e⟩ := List.exists_cons_of_ne_nil (split_ne x)
        obtain ⟨q, u, f⟩ := List.exists_cons_of_ne_nil (split_ne y)
        rw [e, f] at h2 h4 ⊢
        simp at h2 h4
        rw [h2, h4]
      rw [split_inj this]

theorem within_mk (d p c : Bs) : withinB d (d ++ 47 :: c) = true := by
  unfold withinB
  simp

theorem within_split {d p : Bs} (hd : d ≠ []) : withinB d p = true ↔ ∃ t, splitB p = splitB d ++ t := by
  unfold withinB
  constructor
  · intro h
    have h0 : (d == []) = false := by cases d <;> first | rfl | exact absurd rfl hd
    rw [h0, Bool.false_or, Bool.or_eq_true] at h
    rcases h with h | h
    · rw [eq_of_beq h]; exact ⟨[], by simp⟩
    · simp only [Bool.and_eq_true, decide_eq_true_eq, beq_iff_eq] at h
      obtain ⟨⟨h1, h2⟩, h3⟩ := h
      refine ⟨splitB (p.drop (d.length + 1)), ?_⟩
      rw [← split_app]
      congr 1
      have : p = p.take d.length ++ p.drop d.length := (List.take_append_drop _ _).symm
      rw [h3, List.drop_eq_getElem_cons h1] at this
      rw [List.getElem?_eq_getElem h1] at h2
      rw [Option.some.inj h2] at this
      exact this
  · rintro ⟨t, ht⟩
    cases t with
    | nil =>
      rw [List.append_nil] at ht
      rw [split_inj ht]
      simp
    | cons x r =>
      have hj : ∀ {l : List Bs}, l ≠ [] → ∃ s, splitB s = l ∨ True := fun _ => ⟨[], .inr trivial⟩
      -- the text behind the first parts
      have key : ∀ (d p : Bs), splitB p = splitB d ++ x :: r → ∃ c, p = d ++ 47 :: c := by
        intro d
        induction d with
        | nil =>
          intro p hp
          cases p with
          | nil => simp [splitB] at hp
          | cons e p =>
            by_cases he : e = 47
            · subst he; exact ⟨p, rfl⟩
            · rw [split_cons (by simpa using he)] at hp; simp [splitB] at hp
        | cons e d ih =>
          intro p hp
          cases p with
          | nil =>
            have h1 : (splitB ([] : Bs)).length = 1 := rfl
            rw [hp, List.length_append, List.length_cons] at h1
            have h2 : (splitB (e :: d)).length ≠ 0 := by simp [split_ne]
            omega
          | cons f p =>
            by_cases he : e = 47 <;> by_cases hf : f = 47
            · subst he; subst hf
              rw [split_slash, split_slash] at hp
              obtain ⟨c, hc⟩ := ih p (List.cons.inj hp).2
              exact ⟨c, by rw [hc]; rfl⟩
            · subst he
              rw [split_slash, split_cons (by simpa using hf)] at hp
              cases (List.cons.inj hp).1
            · subst hf
              rw [split_slash, split_cons (by simpa using he)] at hp
              cases (List.cons.inj hp).1
            · rw [split_cons (by simpa using hf), split_cons (by simpa using he)] at hp
              obtain ⟨h1, h2⟩ := List.cons.inj hp
              obtain ⟨h3, h4⟩ := List.cons.inj h1
              subst h3
              have : splitB p = splitB d ++ x :: r := by
                obtain ⟨a, t, e1⟩ := List.exists_cons_of_ne_nil (split_ne p)
                obtain ⟨b, u, e2⟩ := List.exists_cons_of_ne_nil (split_ne d)
                rw [e1, e2] at h2 h4 ⊢
                simp at h2 h4
                rw [h4, h2]; rfl
              obtain ⟨c, hc⟩ := ih p this
              exact ⟨c, by rw [hc]; rfl⟩
      obtain ⟨c, rfl⟩ := key d p ht
      simp

theorem cmpL_pre : ∀ (A t : List Bs), cmpL A (A ++ t) ≤ 0
  | [], [] => by simp [cmpL]
  | [], _ :: _ => by simp [cmpL]
  | x :: A, t => by rw [List.cons_append, cmpL_cons, if_pos rfl]; exact cmpL_pre A t

/-- what stands between begins as both do -/
theorem cmpL_mid : ∀ {A t B : List Bs}, cmpL A B ≤ 0 → cmpL B (A ++ t) ≤ 0 → ∃ u, B = A ++ u
  | [], _, B, _, _ => ⟨B, rfl⟩
  | x :: A, t, [], h, _ => by simp [cmpL] at h
  | x :: A, t, y :: B, h1, h2 => by
    rw [cmpL_cons] at h1
    rw [List.cons_append, cmpL_cons] at h2
    by_cases e : x = y
    · subst e
      rw [if_pos rfl] at h1 h2
      obtain ⟨u, rfl⟩ := cmpL_mid h1 h2
      exact ⟨u, rfl⟩
    · rw [if_neg e] at h1
      rw [if_neg (fun h => e h.symm), cmpB_swap x y] at h2
      have : cmpB x y = 0 := by omega
      exact absurd (cmpB_zero.1 this) e
end Go.Proofs.Ytkhiifaldbjpbaa.Ses

namespace Go.Proofs.Ytkhiifaldbjpbaa.Ses
open Go Go.Proofs Go.Proofs.Ytkhiifaldbjpbaa.Sx

theorem pawake_ok : SpecOK Try.prog 36 pawakeT.spec := by
  refine Tri.ok (E := pathE) (Env_ok (by decide +kernel) (by simp [normal_ok, compare_ok])) (n := 1000) pawakeT fun x hx => ?_
  rw [pawake_vc]
  simp only [br_bad, br_true, br_false, List.length_singleton, and_self, Bool.not_true, Bool.not_false, Bool.not_not, decide_eq_true_eq, Bool.and_eq_true, List.take_zero, List.nil_append, List.drop_zero, Nat.zero_add, Int.toNat_natCast, Nat.sub_eq, true_and, and_true, exists_const, List.length_nil, Nat.zero_le, Nat.zero_mul, Nat.le_refl, List.length_set, List.take_length, Int.natCast_nonneg, forall_const, implies_true, Int.toNat_zero, Nat.le_eq, Int.le_refl, addN, cutN, loN, hiN, bndB, List.length_cons, List.take_succ_cons, List.length_take, List.length_drop, Option.isNone, Nat.add_zero, Nat.min_self]
  try simp only [br_iff, decide_eq_true_eq, decide_eq_false_iff_not, room47, Bool.not_eq_true', Bool.not_eq_false', gt_iff_lt]
  have e : normB [97, 47, 47, 98, 47, 46, 47, 99] = some [97, 47, 98, 47, 99] := by decide +kernel
  refine ⟨_, rfl, rfl, ?_⟩
  rw [e]
  refine ⟨fun _ => ⟨fun _ => ⟨⟨[97, 47, 98], [97, 45, 98]⟩, rfl, rfl, by decide +kernel⟩, fun h => (by cases h)⟩, fun h => (by cases h)⟩

theorem deep_ok : SpecOK Try.prog 40 deepT.spec := by
  refine Tri.ok (E := deepE) (Env_ok (by decide +kernel) (by simp)) (n := 1000) deepT fun x hx => ?_
  rw [deep_vc]
  revert x
  intro (s : Bs) hx
  have hx : s.length ≤ 1000000 := of_decide_eq_true hx
  simp only [br_bad, br_true, br_false, List.length_singleton, and_self, Bool.not_true, Bool.not_false, Bool.not_not, decide_eq_true_eq, Bool.and_eq_true, List.take_zero, List.nil_append, List.drop_zero, Nat.zero_add, Int.toNat_natCast, Nat.sub_eq, true_and, and_true, exists_const, List.length_nil, Nat.zero_le, Nat.zero_mul, Nat.le_refl, List.length_set, List.take_length, Int.natCast_nonneg, forall_const, implies_true, Int.toNat_zero, Nat.le_eq, Int.le_refl, addN, cutN, loN, hiN, bndB, List.length_cons, List.take_succ_cons, List.length_take, List.length_drop, Option.isNone, Nat.add_zero, Nat.min_self]
  try simp only [br_iff, decide_eq_true_eq, decide_eq_false_iff_not, room47, Bool.not_eq_true', Bool.not_eq_false', gt_iff_lt]
  refine ⟨⟨0, rfl, rfl, by omega⟩, fun i hi _ => ⟨fun h1 => ⟨h1, fun h2 => ⟨i + 1, by rw [wrap_id (by omega) (by omega)]; rfl, ?_, by omega, by omega⟩, fun h2 => ⟨i + 1, by rw [wrap_id (by omega) (by omega)]; rfl, ?_, by omega, by omega⟩⟩, fun h1 => ?_⟩⟩
  · have := split_len (s.take i)
    rw [List.length_take] at this
    rw [e47] at h2
    rw [deep_step (by omega), h2, wrap_id (by omega) (by omega)]
    rfl
  · rw [e47] at h2
    rw [deep_step (by omega), h2]
    rfl
  · rw [List.take_of_length_le (by omega)]

theorem plaw_ok : EnvOK plawE := Env_ok (by decide +kernel) (by simp [pawake_ok, normal_ok, compare_ok, rnormal_ok, rcompare_ok, within_ok, rwithin_ok, name_ok, word_ok, deep_ok])

theorem short_of {s : Bs} (h : s.length ≤ 1000000) : shortB s = true := decide_eq_true h

theorem normals_body (x : Bs) : evCall plawE (ev plawE 1000) 10 (oneArgs x) ⟨[], 0, []⟩ (fun _ _ => False) (fun v _ => TrueV v) := by
  rw [normals_vc]
  simp only [br_bad, br_true, br_false, List.length_singleton, and_self, Bool.not_true, Bool.not_false, Bool.not_not, decide_eq_true_eq, Bool.and_eq_true, List.take_zero, List.nil_append, List.drop_zero, Nat.zero_add, Int.toNat_natCast, Nat.sub_eq, true_and, and_true, exists_const, List.length_nil, Nat.zero_le, Nat.zero_mul, Nat.le_refl, List.length_set, List.take_length, Int.natCast_nonneg, forall_const, implies_true, Int.toNat_zero, Nat.le_eq, Int.le_refl, addN, cutN, loN, hiN, bndB, List.length_cons, List.take_succ_cons, List.length_take, List.length_drop, Option.isNone, Nat.add_zero, Nat.min_self]
  try simp only [br_iff, decide_eq_true_eq, decide_eq_false_iff_not, room47, Bool.not_eq_true', Bool.not_eq_false', gt_iff_lt]
  refine fun _ => ⟨fun _ => trivial, fun h => ?_⟩
  have hs : shortB x = true := short_of (by omega)
  refine ⟨x, rfl, hs, x, rfl, hs, _, rfl, ?_⟩
  cases hn : normB x with
  | none => exact ⟨rfl, fun _ => ⟨fun _ => ⟨fun _ => trivial, fun h => (by cases h)⟩, fun h => (by cases h)⟩, fun h => (by cases h)⟩
  | some p =>
    obtain ⟨A, _, hP⟩ := norm_parts hn
    have e := norm_again hn
    have hw := hP.wide
    simp only [Option.getD_some, Option.isSome_some, e]
    simp only [beq_self_eq_true, implies_true, true_and, and_true, forall_const]
    exact ⟨short_of (by omega), by simp⟩

theorem orders_body (x : ThreeA) : evCall plawE (ev plawE 1000) 11 (threeArgs x) ⟨[], 0, []⟩ (fun _ _ => False) (fun v _ => TrueV v) := by
  rw [orders_vc]
  obtain ⟨a, b, c⟩ := x
  simp only [br_bad, br_true, br_false, List.length_singleton, and_self, Bool.not_true, Bool.not_false, Bool.not_not, decide_eq_true_eq, Bool.and_eq_true, List.take_zero, List.nil_append, List.drop_zero, Nat.zero_add, Int.toNat_natCast, Nat.sub_eq, true_and, and_true, exists_const, List.length_nil, Nat.zero_le, Nat.zero_mul, Nat.le_refl, List.length_set, List.take_length, Int.natCast_nonneg, forall_const, implies_true, Int.toNat_zero, Nat.le_eq, Int.le_refl, addN, cutN, loN, hiN, bndB, List.length_cons, List.take_succ_cons, List.length_take, List.length_drop, Option.isNone, Nat.add_zero, Nat.min_self]
  try simp only [br_iff, decide_eq_true_eq, decide_eq_false_iff_not, room47, Bool.not_eq_true', Bool.not_eq_false', gt_iff_lt]
  refine fun _ => ⟨fun _ => trivial, fun ha _ => ⟨fun _ => trivial, fun hb _ => ⟨fun _ => trivial, fun hc => ?_⟩⟩⟩
  refine ⟨⟨a, b⟩, rfl, rfl, ⟨b, c⟩, rfl, rfl, ⟨a, c⟩, rfl, rfl, ⟨a, b⟩, rfl, rfl, ⟨short_of (by dsimp only; omega), short_of (by dsimp only; omega)⟩, fun h => (by simp at h), fun _ => ⟨⟨b, a⟩, rfl, rfl, fun h => ?_, fun _ => ⟨fun h => ?_, fun h => ⟨fun h1 => ⟨fun _ => trivial, fun h2 => ⟨fun h3 => ⟨fun _ => trivial, fun h4 => ⟨fun h5 => ?_, fun h5 => ?_⟩⟩, fun h3 => ?_⟩⟩, fun _ => trivial⟩⟩⟩⟩
  · dsimp only at h
    have hv := cmpL_vals (splitB a) (splitB b)
    rw [wrap_id (by omega) (by omega), cmpL_swap (splitB a) (splitB b)] at h
    simp at h
  · dsimp only at h
    have : (cmpL (splitB a) (splitB b) == 0) = (a == b) := by
      rw [Bool.eq_iff_iff, beq_iff_eq, beq_iff_eq, cmpL_zero]
      exact ⟨split_inj, fun h => by rw [h]⟩
    rw [this] at h
    simp at h
  · dsimp only at h1 h2 h3 h4 h5 ⊢
    have := (cmpL_trans h1 h2).2 (by omega)
    simpa using this.2
  · dsimp only at h1 h2 h3 h4 h5 ⊢
    have := (cmpL_trans h1 h2).2 (by omega)
    rw [this.1] at h5
    simp at h5
  · dsimp only at h1 h2 h3
    exact absurd (cmpL_trans h1 h2).1 h3

theorem joins_body (x : ThreeA) : evCall plawE (ev plawE 1000) 12 (threeArgs x) ⟨[], 0, []⟩ (fun _ _ => False) (fun v _ => TrueV v) := by
  rw [joins_vc]
  obtain ⟨a, b, c⟩ := x
  simp only [br_bad, br_true, br_false, List.length_singleton, and_self, Bool.not_true, Bool.not_false, Bool.not_not, decide_eq_true_eq, Bool.and_eq_true, List.take_zero, List.nil_append, List.drop_zero, Nat.zero_add, Int.toNat_natCast, Nat.sub_eq, true_and, and_true, exists_const, List.length_nil, Nat.zero_le, Nat.zero_mul, Nat.le_refl, List.length_set, List.take_length, Int.natCast_nonneg, forall_const, implies_true, Int.toNat_zero, Nat.le_eq, Int.le_refl, addN, cutN, loN, hiN, bndB, List.length_cons, List.take_succ_cons, List.length_take, List.length_drop, Option.isNone, Nat.add_zero, Nat.min_self]
  try simp only [br_iff, decide_eq_true_eq, decide_eq_false_iff_not, room47, Bool.not_eq_true', Bool.not_eq_false', gt_iff_lt]
  refine fun _ => ⟨fun _ => trivial, fun ha _ => ⟨fun _ => trivial, fun hb _ => ⟨fun _ => trivial, fun hc => ?_⟩⟩⟩
  refine ⟨a, rfl, short_of (by omega), b, rfl, short_of (by omega), ?_⟩
  cases hna : normB a with
  | none => exact ⟨fun _ => trivial, fun h => (by cases h)⟩
  | some p =>
  refine ⟨fun _ => trivial, fun _ => ?_⟩
  cases hnb : normB b with
  | none => exact ⟨fun _ => trivial, fun h => (by cases h)⟩
  | some q =>
  refine ⟨fun _ => trivial, fun _ => ?_⟩
  obtain ⟨A, hA, hPA⟩ := norm_parts hna
  obtain ⟨B, hB, hPB⟩ := norm_parts hnb
  have wp := hPA.wide
  have wq := hPB.wide
  simp only [Option.getD_some, List.length_append, List.length_cons, List.length_nil, maxI64]
  refine ⟨by omega, by omega, by omega, by omega, _, rfl, short_of (by simp only [List.length_append, List.length_cons, List.length_nil]; omega), by omega, by omega, _, rfl, short_of (by simp only [List.length_append, List.length_cons, List.length_nil]; omega), by omega, by omega, _, rfl, short_of (by simp only [List.length_append, List.length_cons, List.length_nil]; omega), ?_⟩
  have ej : normB ([47, 46, 47] ++ a ++ [47, 47, 46, 47] ++ b ++ [47]) = normEnd (A ++ B) := by
    have e : [47, 46, 47] ++ a ++ [47, 47, 46, 47] ++ b ++ [47] = ([] : Bs) ++ 47 :: ([46] ++ 47 :: (a ++ 47 :: ([] ++ 47 :: ([46] ++ 47 :: (b ++ 47 :: []))))) := by simp
    refine normB_of ?_
    rw [e, split_app, split_app, split_app, split_app, split_app, split_app]
    rw [normGo_app, show normGo (splitB []) [] = some [] from rfl, Option.bind_some, normGo_app, show normGo (splitB [46]) [] = some [] from rfl, Option.bind_some, normGo_app, hA, Option.bind_some,
      normGo_app, show normGo (splitB []) A = some A from rfl, Option.bind_some, normGo_app, show normGo (splitB [46]) A = some A from rfl, Option.bind_some, normGo_app]
    have := normGo_frame A hB
    rw [List.append_nil] at this
    rw [this, Option.bind_some]
    rfl
  have ek : normB (p ++ [47] ++ q) = normEnd (A ++ B) := by
    refine normB_of ?_
    rw [List.append_assoc, show [47] ++ q = 47 :: q from rfl, split_app, hPA.split, hPB.split]
    refine normGo_id fun x hx => ?_
    rcases List.mem_append.1 hx with hx | hx
    · exact hPA.good x hx
    · exact hPB.good x hx
  have ex : normB (a ++ [47, 120, 47, 46, 46, 47] ++ [121, 47, 46, 46]) = some p := by
    have e : a ++ [47, 120, 47, 46, 46, 47] ++ [121, 47, 46, 46] = a ++ 47 :: ([120] ++ 47 :: ([46, 46] ++ 47 :: ([121] ++ 47 :: [46, 46]))) := by simp
    have : normGo (splitB (a ++ [47, 120, 47, 46, 46, 47] ++ [121, 47, 46, 46])) [] = some A := by
      rw [e, split_app, split_app, split_app, split_app, normGo_app, hA, Option.bind_some]
      have h1 : splitB [120] ++ (splitB [46, 46] ++ (splitB [121] ++ splitB [46, 46])) = [[120], [46, 46], [121], [46, 46]] := rfl
      rw [h1]
      rw [normGo_push (by refine ⟨?_, ?_, ?_⟩ <;> decide), normGo_pop, normGo_push (by refine ⟨?_, ?_, ?_⟩ <;> decide), normGo_pop]
      rfl
    rw [normB_of this]
    exact hPA.fin
  rw [ej, ek, ex]
  cases hE : normEnd (A ++ B) with
  | some r =>
    obtain ⟨_, _, _, _, hr⟩ := normEnd_some hE
    rw [join_app hPB.ne hPA.ne, ← hPA.join, ← hPB.join] at hr
    subst hr
    simp
    exact ⟨by omega, by omega⟩
  | none =>
    have hor : 64 < p.length + 1 + q.length ∨ 8 < (A ++ B).length := by
      by_cases h1 : 64 < p.length + 1 + q.length
      · exact .inl h1
      · refine .inr ?_
        by_cases h2 : 8 < (A ++ B).length
        · exact h2
        · have hj : Lib.join (A ++ B) [47] = p ++ 47 :: q := by rw [join_app hPB.ne hPA.ne, ← hPA.join, ← hPB.join]
          rw [normEnd_ok (by simp [hPA.ne]) h2 (fun x hx => (List.mem_append.1 hx).elim (hPA.part x) (hPB.part x)) (by rw [hj]; simp; omega)] at hE
          cases hE
    have hd : (splitB (p ++ [47] ++ q)).length = (A ++ B).length := by
      rw [List.append_assoc, show [47] ++ q = 47 :: q from rfl, split_app, hPA.split, hPB.split]
    simp
    intro _ _ h
    rw [wrap_id (n := (p.length : Int) + 1) (by omega) (by omega), wrap_id (by omega) (by omega)] at h
    rw [List.append_assoc, show [47] ++ q = 47 :: q from rfl] at hd
    exact ⟨by omega, by omega, by omega, by omega, ⟨p, p ++ 47 :: (q ++ 47 :: c)⟩, rfl, rfl, fun _ => ⟨by omega, by omega, short_of (by simp; omega), by omega⟩⟩

theorem known_body (x : Unit) : evCall plawE (ev plawE 1000) 13 (noArgs x) ⟨[], 0, []⟩ (fun _ _ => False) (fun v _ => TrueV v) := by
  rw [known_vc]
  simp only [br_bad, br_true, br_false, List.length_singleton, and_self, Bool.not_true, Bool.not_false, Bool.not_not, decide_eq_true_eq, Bool.and_eq_true, List.take_zero, List.nil_append, List.drop_zero, Nat.zero_add, Int.toNat_natCast, Nat.sub_eq, true_and, and_true, exists_const, List.length_nil, Nat.zero_le, Nat.zero_mul, Nat.le_refl, List.length_set, List.take_length, Int.natCast_nonneg, forall_const, implies_true, Int.toNat_zero, Nat.le_eq, Int.le_refl, addN, cutN, loN, hiN, bndB, List.length_cons, List.take_succ_cons, List.length_take, List.length_drop, Option.isNone, Nat.add_zero, Nat.min_self]
  try simp only [br_iff, decide_eq_true_eq, decide_eq_false_iff_not, room47, Bool.not_eq_true', Bool.not_eq_false', gt_iff_lt]
  have e1 : normB [97, 47, 46, 46, 47, 98] = some [98] := by decide +kernel
  have e2 : normB [46, 46, 47, 97] = none := by decide +kernel
  have e3 : normB [] = none := by decide +kernel
  refine ⟨_, rfl, rfl, _, rfl, rfl, _, rfl, rfl, ?_⟩
  rw [e1, e2, e3]
  refine ⟨fun _ => ⟨fun _ => ⟨fun _ => ⟨fun _ => ⟨⟨[97], [97, 47, 98]⟩, rfl, rfl, fun _ => ⟨⟨[97], [97, 98]⟩, rfl, rfl, fun _ => ⟨⟨[], [120]⟩, rfl, rfl, fun _ => ⟨_, rfl, fun _ => ⟨_, rfl, by decide +kernel⟩, fun h => (by revert h; decide +kernel)⟩, fun h => (by revert h; decide +kernel)⟩, fun h => (by revert h; decide +kernel)⟩, fun h => (by revert h; decide +kernel)⟩, fun h => (by cases h)⟩, fun h => (by cases h)⟩, fun h => (by cases h)⟩, fun h => (by cases h)⟩

theorem withins_body (x : ThreeA) : evCall plawE (ev plawE 1000) 14 (threeArgs x) ⟨[], 0, []⟩ (fun _ _ => False) (fun v _ => TrueV v) := by
  rw [withins_vc]
  obtain ⟨a, b, c⟩ := x
  simp only [br_bad, br_true, br_false, List.length_singleton, and_self, Bool.not_true, Bool.not_false, Bool.not_not, decide_eq_true_eq, Bool.and_eq_true, List.take_zero, List.nil_append, List.drop_zero, Nat.zero_add, Int.toNat_natCast, Nat.sub_eq, true_and, and_true, exists_const, List.length_nil, Nat.zero_le, Nat.zero_mul, Nat.le_refl, List.length_set, List.take_length, Int.natCast_nonneg, forall_const, implies_true, Int.toNat_zero, Nat.le_eq, Int.le_refl, addN, cutN, loN, hiN, bndB, List.length_cons, List.take_succ_cons, List.length_take, List.length_drop, Option.isNone, Nat.add_zero, Nat.min_self]
  try simp only [br_iff, decide_eq_true_eq, decide_eq_false_iff_not, room47, Bool.not_eq_true', Bool.not_eq_false', gt_iff_lt]
  refine fun _ => ⟨fun _ => trivial, fun hb _ => ⟨fun _ => trivial, fun hc _ => ⟨fun _ => trivial, fun ha => ?_⟩⟩⟩
  refine ⟨⟨a, b⟩, rfl, rfl, ⟨a, b⟩, rfl, rfl, fun h => (by simp at h), fun _ => ⟨b, rfl, ⟨b, false⟩, rfl, rfl, fun h => (by simp at h), fun _ => ⟨fun h => ⟨⟨a, b⟩, rfl, rfl, ?_⟩, fun h => ?_⟩⟩⟩
  · have : a = [] := by simpa using h
    subst this
    rfl
  have hne : a ≠ [] := by rintro rfl; cases h
  have hl1 : a.length + 1 ≤ maxI64 := by unfold maxI64; omega
  have hl2 : (a ++ [47]).length + c.length ≤ maxI64 := by unfold maxI64; simp; omega
  have hsp : splitB (a ++ [47] ++ c) = splitB a ++ splitB c := by rw [List.append_assoc]; exact split_app a c
  have mid : ∃ x17 : TwoA, a = x17.a ∧ b = x17.b ∧ (cmpL (splitB x17.a) (splitB x17.b) ≤ 0 → ∃ x19 : TwoA, b = x19.a ∧ a ++ [47] ++ c = x19.b ∧ (¬cmpL (splitB x19.a) (splitB x19.b) ≤ 0 → True) ∧ (cmpL (splitB x19.a) (splitB x19.b) ≤ 0 → ∃ x11 : TwoA, a = x11.a ∧ b = x11.b ∧ withinB x11.a x11.b = true)) ∧ (¬cmpL (splitB x17.a) (splitB x17.b) ≤ 0 → True) := by
    refine ⟨⟨a, b⟩, rfl, rfl, fun h1 => ⟨⟨b, a ++ [47] ++ c⟩, rfl, rfl, fun _ => trivial, fun h2 => ⟨⟨a, b⟩, rfl, rfl, ?_⟩⟩, fun _ => trivial⟩
    dsimp only at h1 h2
    rw [hsp] at h2
    exact (within_split hne).2 (cmpL_mid h1 h2)
  refine ⟨⟨a, b⟩, rfl, rfl, fun hw => ⟨⟨a, b⟩, rfl, rfl, fun h1 => ?_, fun h1 => ⟨hl1, hl2, mid⟩⟩, fun hw => ⟨hl1, hl2, mid⟩⟩
  obtain ⟨t, ht⟩ := (within_split hne).1 hw
  dsimp only at h1 ht
  rw [ht] at h1
  have := cmpL_pre (splitB a) t
  omega
end Go.Proofs.Ytkhiifaldbjpbaa.Ses
