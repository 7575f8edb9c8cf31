/- Sorting few changes; the laws ChangeKnown and ChangeLimits: what the evaluator leaves, and that it holds. No condition. -/
import Derived.Test.YtkhiifaldbjpbaaChaA
import Derived.KernelRfl
set_option linter.unusedSimpArgs false
set_option linter.unusedVariables false

namespace Go.Proofs.Ytkhiifaldbjpbaa.Ses
open Go Go.Proofs Go.Proofs.Ytkhiifaldbjpbaa.Sx

structure StaA where
  l : List ChangeD
def fewC (l : List ChangeD) : Bool := decide (l.length ≤ 19)
noncomputable def stabT : Tri := { γ := List ChangeD, n0 := 1, args := fun l => [.mslice .change 0 0 l.length, .int .i64 l.length, .fn 71 [] []], blks := fun l => [(0, .rows .change l)], pre := fun l => fewC l = true, δ := Unit, post := fun _ _ => True, n1 := 0, res := fun x _ => .tuple [], blks' := fun l _ => [(0, .rows .change (insS l))], scal := true }
noncomputable def stabI1 : St → LInv := fun s => { σ := Unit, I := fun _ => True, μ := fun _ => 0, env := fun _ => [(7, .int .i64 0), (8, .int .i64 20)], blk := fun _ => [], fresh := 0, drop := [] }
noncomputable def stabI2 : St → LInv := fun s => { σ := Unit, I := fun _ => True, μ := fun _ => 0, env := fun _ => [(6, .int .i64 20)], blk := fun _ => [], fresh := 0, drop := [] }
noncomputable def stabI3 : St → LInv := fun s => { σ := Unit, I := fun _ => False, μ := fun _ => 0, env := fun _ => [], blk := fun _ => [], fresh := 0, drop := [] }
noncomputable def stabE : Envr := Env Try.prog cod [(96, insT.spec), (97, Tri.spec { γ := Unit, n0 := 0, args := fun _ => [], blks := fun _ => [], pre := fun _ => False, δ := Unit, post := fun _ _ => True, n1 := 0, res := fun _ _ => .tuple [], blks' := fun _ _ => [], scal := true })] [(2, stabI1), (7, stabI2), (9, stabI3)]
noncomputable def ssfT : Tri := { γ := List ChangeD, n0 := 1, args := fun l => [.mslice .change 0 0 l.length, .fn 71 [] []], blks := fun l => [(0, .rows .change l)], pre := fun l => fewC l = true, δ := Unit, post := fun _ _ => True, n1 := 0, res := fun x _ => .tuple [], blks' := fun l _ => [(0, .rows .change (insS l))], scal := true }
noncomputable def ssfE : Envr := Env Try.prog cod [(92, stabT.spec)] []
noncomputable def cloT : Tri := { γ := List ChangeD, n0 := 0, args := fun l => [.rslice false .change l], blks := fun _ => [], pre := fun _ => True, δ := Unit, post := fun _ _ => True, n1 := 1, res := fun l _ => .mslice .change 0 0 l.length, blks' := fun l _ => [(0, .rows .change l)], scal := true }
noncomputable def sortT : Tri := { γ := List ChangeD, n0 := 0, args := fun l => [.rslice false .change l], blks := fun _ => [], pre := fun l => fewC l = true, δ := Unit, post := fun _ _ => True, n1 := 1, res := fun l _ => .mslice .change 0 0 l.length, blks' := fun l _ => [(0, .rows .change (insS l))], scal := true }
noncomputable def sortE : Envr := Env Try.prog cod [(85, cloT.spec), (86, ssfT.spec)] []
noncomputable def cawakeT : Tri := { γ := Unit, n0 := 0, args := fun _ => [], blks := fun _ => [], pre := fun _ => True, δ := Unit, post := fun _ _ => True, n1 := 0, res := fun _ _ => .bool true, blks' := fun _ _ => [], scal := true }
noncomputable def cawakeE : Envr := Env Try.prog cod [(49, sortT.spec), (45, checkT.spec), (51, equalT.spec)] []
noncomputable def clawE : Envr := Env Try.prog cod [(44, cawakeT.spec), (45, checkT.spec)] []

structure LimA where
  n : Nat
  twice : Nat
  turn : Bool
def limArgs (x : LimA) : List SV := [.int .u8 x.n, .int .u8 x.twice, .bool x.turn]
def limC (i : Nat) : ChangeD := ⟨textOf [IntKind.u8.wrap (IntKind.i64.wrap (97 + (i : Int)))], false, IntKind.u64.wrap i⟩
def limL (k : Nat) : List ChangeD := (List.range k).map limC
def limS (k : Nat) : Nat → List ChangeD
  | 0 => limL k
  | i + 1 => ((limS k i).set i ((limS k i).getD (k - 1 - i) ⟨[], false, 0⟩)).set (k - 1 - i) ((limS k i).getD i ⟨[], false, 0⟩)
noncomputable def limI1 : St → LInv := fun s => match getE s.env 7 with
  | .int _ k => { σ := Nat, I := fun i => decide ((i : Int) ≤ k) = true, μ := fun i => k.toNat - i, env := fun i => [(9, .int .i64 i), (8, .mslice .change s.m.next 0 i)], blk := fun i => [(s.m.next, .rows .change (limL i))], fresh := 1, drop := [] }
  | _ => LInv.none
noncomputable def limI2 : St → LInv := fun s => match getE s.env 7, getE s.env 8 with
  | .int _ k, .mslice _ n _ _ => { σ := Nat, I := fun i => decide ((i : Int) + i ≤ k) = true, μ := fun i => k.toNat - i, env := fun i => [(10, .int .i64 i)], blk := fun i => [(n, .rows .change (limS k.toNat i))], fresh := 0, drop := [] }
  | _, _ => LInv.none
noncomputable def limI3 : St → LInv := fun s => match getE s.env 7 with
  | .int _ k => { σ := Nat, I := fun i => decide ((i : Int) ≤ k) = true, μ := fun i => k.toNat - i, env := fun i => [(14, .int .i64 i)], blk := fun _ => [], fresh := 0, drop := [] }
  | _ => LInv.none
noncomputable def limE : Envr := Env Try.prog cod [(44, cawakeT.spec), (45, checkT.spec), (49, sortT.spec)] [(6, limI1), (11, limI2), (23, limI3)]
end Go.Proofs.Ytkhiifaldbjpbaa.Ses

namespace Go.Proofs.Ytkhiifaldbjpbaa.Ses
open Go Go.Proofs Go.Proofs.Ytkhiifaldbjpbaa.Sx
set_option maxRecDepth 100000

theorem stab_vc (x : stabT.γ) : evCall stabE (ev stabE 1000) 92 (stabT.args x) ⟨stabT.blks x, stabT.n0, []⟩ (fun _ _ => False) (stabT.ends x) = (
((∃ x1 : Unit,
 ((@Eq Int (0 : Int) (0 : Int)) ∧
 ((@Eq Int (20 : Int) (20 : Int)) ∧
 True))) ∧
 (∀ x2 : Unit,
 (True →
 (br (@Decidable.decide (@LE.le Int _ (20 : Int) (Nat.cast (@List.length ChangeD x) : Int)) _)
 (∃ x3 : InsA,
 ((@Eq Nat (0 : Nat) (0 : Nat)) ∧
 ((@Eq Nat (@List.length ChangeD x) (@List.length ChangeD (@InsA.l x3))) ∧
 ((@Eq Int (0 : Int) (Nat.cast (@InsA.a x3) : Int)) ∧
 ((@Eq Int (20 : Int) (Nat.cast (@InsA.b x3) : Int)) ∧
 ((@Eq (@List ChangeD) x (@InsA.l x3)) ∧
 (((@LE.le Nat _ (@InsA.a x3) (@InsA.b x3)) ∧
 (@LE.le Nat _ (@InsA.b x3) (@List.length ChangeD (@InsA.l x3)))) ∧
 (∀ x4 : Unit,
 (True →
 (Bad "loop: other regions" ""))))))))))
 (∃ x5 : InsA,
 ((@Eq Nat (0 : Nat) (0 : Nat)) ∧
 ((@Eq Nat (@List.length ChangeD x) (@List.length ChangeD (@InsA.l x5))) ∧
 ((@Eq Int (0 : Int) (Nat.cast (@InsA.a x5) : Int)) ∧
 ((@Eq Int (Nat.cast (@List.length ChangeD x) : Int) (Nat.cast (@InsA.b x5) : Int)) ∧
 ((@Eq (@List ChangeD) x (@InsA.l x5)) ∧
 (((@LE.le Nat _ (@InsA.a x5) (@InsA.b x5)) ∧
 (@LE.le Nat _ (@InsA.b x5) (@List.length ChangeD (@InsA.l x5)))) ∧
 (∀ x6 : Unit,
 (True →
 ((∃ x7 : Unit,
 ((@Eq Int (20 : Int) (20 : Int)) ∧
 True)) ∧
 (∀ x8 : Unit,
 (True →
 (br (@Decidable.decide (@LT.lt Int _ (20 : Int) (Nat.cast (@List.length ChangeD x) : Int)) _)
 ((∃ x9 : Unit,
 False) ∧
 (∀ x10 : Unit,
 (False →
 (Bad "silent" "zsortanyfunc.go:347"))))
 (∃ x11 : Unit,
 ((@Eq (@List ChangeD) (@midL (@InsA.l x5) (@InsA.a x5) (@InsA.b x5) (@insS (@sliceL (@InsA.l x5) (@InsA.a x5) (@InsA.b x5)))) (@insS x)) ∧
 True)))))))))))))))))))) := by kernel_rfl

theorem ssf_vc (x : ssfT.γ) : evCall ssfE (ev ssfE 1000) 86 (ssfT.args x) ⟨ssfT.blks x, ssfT.n0, []⟩ (fun _ _ => False) (ssfT.ends x) = (
((@LE.le Nat _ (@HMul.hMul _ _ _ _ (@List.length ChangeD x) (32 : Nat)) room47) →
 (∃ x1 : (@List ChangeD),
 ((@Eq Nat (0 : Nat) (0 : Nat)) ∧
 ((@Eq Nat (@List.length ChangeD x) (@List.length ChangeD x1)) ∧
 ((@Eq Int (Nat.cast (@List.length ChangeD x) : Int) (Nat.cast (@List.length ChangeD x1) : Int)) ∧
 ((@Eq (@List ChangeD) x x1) ∧
 ((@Eq Bool (@fewC x1) Bool.true) ∧
 (∀ x2 : Unit,
 (True →
 (∃ x3 : Unit,
 ((@Eq (@List ChangeD) (@insS x1) (@insS x)) ∧
 True)))))))))))) := by kernel_rfl

theorem clo_vc (x : cloT.γ) : evCall bareE (ev bareE 1000) 85 (cloT.args x) ⟨cloT.blks x, cloT.n0, []⟩ (fun _ _ => False) (cloT.ends x) = (
(∀ x1 : Bool,
 (((@Eq Bool x1 Bool.true) →
 (@Eq (@List ChangeD) x (@List.nil ChangeD))) →
 (br x1
 (∃ x2 : Unit,
 ((@Eq Nat (0 : Nat) (@List.length ChangeD x)) ∧
 ((@Eq (@List ChangeD) (@List.nil ChangeD) x) ∧
 True)))
 (((@Nat.le (@HMul.hMul _ _ _ _ (0 : Nat) (32 : Nat)) room47) ∧
 (@Nat.le (@HMul.hMul _ _ _ _ (@List.length ChangeD x) (32 : Nat)) room47)) →
 (br (@Bool.and (@Bool.and Bool.true (@Decidable.decide (@LE.le Nat _ (@HAdd.hAdd _ _ _ _ (0 : Nat) (0 : Nat)) (@List.length ChangeD (@List.nil ChangeD))) _)) (@Decidable.decide (@LE.le Nat _ (@HMul.hMul _ _ _ _ (@HAdd.hAdd _ _ _ _ (0 : Nat) (@List.length ChangeD x)) (32 : Nat)) room47) _))
 (∃ x3 : Unit,
 ((@Eq Nat (0 : Nat) (0 : Nat)) ∧
 ((@Eq Nat (@HAdd.hAdd _ _ _ _ (0 : Nat) (@List.length ChangeD x)) (@List.length ChangeD x)) ∧
 ((@Eq (@List ChangeD) (@HAppend.hAppend (@List ChangeD) (@List ChangeD) (@List ChangeD) _ (@List.take ChangeD (0 : Nat) (@List.drop ChangeD (0 : Nat) (@List.nil ChangeD))) x) x) ∧
 True))))
 (Bad "check" "slices.go:362"))))))) := by kernel_rfl

theorem sort_vc (x : sortT.γ) : evCall sortE (ev sortE 1000) 49 (sortT.args x) ⟨sortT.blks x, sortT.n0, []⟩ (fun _ _ => False) (sortT.ends x) = (
(∃ x1 : (@List ChangeD),
 ((@Eq (@List ChangeD) x x1) ∧
 (True ∧
 (∀ x2 : Unit,
 (True →
 (∃ x3 : (@List ChangeD),
 ((@Eq Nat (0 : Nat) (0 : Nat)) ∧
 ((@Eq Nat (@List.length ChangeD x1) (@List.length ChangeD x3)) ∧
 ((@Eq (@List ChangeD) x1 x3) ∧
 ((@Eq Bool (@fewC x3) Bool.true) ∧
 (∀ x4 : Unit,
 (True →
 (∃ x5 : Unit,
 ((@Eq Nat (0 : Nat) (0 : Nat)) ∧
 ((@Eq Nat (@List.length ChangeD x1) (@List.length ChangeD x)) ∧
 ((@Eq (@List ChangeD) (@insS x3) (@insS x)) ∧
 True))))))))))))))))) := by kernel_rfl

theorem cawake_vc (x : cawakeT.γ) : evCall cawakeE (ev cawakeE 1000) 44 (cawakeT.args x) ⟨cawakeT.blks x, cawakeT.n0, []⟩ (fun _ _ => False) (cawakeT.ends x) = (
(∃ x1 : (@List ChangeD),
 ((@LE.le Nat _ (@HAdd.hAdd _ _ _ _ (0 : Nat) (2 : Nat)) (@List.length ChangeD (@List.cons ChangeD (@ChangeD.mk (@Array.toList UInt8 (@ByteArray.data (@ByteArray.mk (@List.toArray UInt8 (@List.cons UInt8 (98 : UInt8) (@List.nil UInt8)))))) Bool.false (1 : Int)) (@List.cons ChangeD (@ChangeD.mk (@Array.toList UInt8 (@ByteArray.data (@ByteArray.mk (@List.toArray UInt8 (@List.cons UInt8 (97 : UInt8) (@List.nil UInt8)))))) Bool.true (0 : Int)) (@List.nil ChangeD))))) ∧
 ((@Eq (@List ChangeD) (@List.take ChangeD (2 : Nat) (@List.drop ChangeD (0 : Nat) (@List.cons ChangeD (@ChangeD.mk (@Array.toList UInt8 (@ByteArray.data (@ByteArray.mk (@List.toArray UInt8 (@List.cons UInt8 (98 : UInt8) (@List.nil UInt8)))))) Bool.false (1 : Int)) (@List.cons ChangeD (@ChangeD.mk (@Array.toList UInt8 (@ByteArray.data (@ByteArray.mk (@List.toArray UInt8 (@List.cons UInt8 (97 : UInt8) (@List.nil UInt8)))))) Bool.true (0 : Int)) (@List.nil ChangeD))))) x1) ∧
 ((@Eq Bool (@fewC x1) Bool.true) ∧
 (∀ x2 : Unit,
 (True →
 (∃ x3 : (@List ChangeD),
 ((@LE.le Nat _ (@HAdd.hAdd _ _ _ _ (0 : Nat) (2 : Nat)) (@List.length ChangeD (@List.cons ChangeD (@ChangeD.mk (@Array.toList UInt8 (@ByteArray.data (@ByteArray.mk (@List.toArray UInt8 (@List.cons UInt8 (98 : UInt8) (@List.nil UInt8)))))) Bool.false (1 : Int)) (@List.cons ChangeD (@ChangeD.mk (@Array.toList UInt8 (@ByteArray.data (@ByteArray.mk (@List.toArray UInt8 (@List.cons UInt8 (97 : UInt8) (@List.nil UInt8)))))) Bool.true (0 : Int)) (@List.nil ChangeD))))) ∧
 ((@Eq (@List ChangeD) (@List.take ChangeD (2 : Nat) (@List.drop ChangeD (0 : Nat) (@List.cons ChangeD (@ChangeD.mk (@Array.toList UInt8 (@ByteArray.data (@ByteArray.mk (@List.toArray UInt8 (@List.cons UInt8 (98 : UInt8) (@List.nil UInt8)))))) Bool.false (1 : Int)) (@List.cons ChangeD (@ChangeD.mk (@Array.toList UInt8 (@ByteArray.data (@ByteArray.mk (@List.toArray UInt8 (@List.cons UInt8 (97 : UInt8) (@List.nil UInt8)))))) Bool.true (0 : Int)) (@List.nil ChangeD))))) x3) ∧
 ((@Eq Bool (@shortC x3) Bool.true) ∧
 (∀ x4 : Unit,
 (True →
 (br (@BEq.beq Int _ (@chkC x3) (0 : Int))
 ((@LE.le Nat _ (@HMul.hMul _ _ _ _ (@List.length ChangeD x1) (32 : Nat)) room47) →
 (br (@BEq.beq Int _ (Nat.cast (@List.length ChangeD x1) : Int) (2 : Int))
 (br (@Decidable.decide ((@LE.le Int _ (0 : Int) (0 : Int)) ∧
 (@LT.lt Int _ (0 : Int) (Nat.cast (@List.length ChangeD x1) : Int))) _)
 (br (@Decidable.decide (@LT.lt Nat _ (@HAdd.hAdd _ _ _ _ (0 : Nat) (@Int.toNat (0 : Int))) (@List.length ChangeD (@insS x1))) _)
 (br (@BEq.beq Bs _ (@ChangeD.path (@List.getD ChangeD (@insS x1) (@HAdd.hAdd _ _ _ _ (0 : Nat) (@Int.toNat (0 : Int))) (@ChangeD.mk (@List.nil UInt8) Bool.false (0 : Int)))) (@Array.toList UInt8 (@ByteArray.data (@ByteArray.mk (@List.toArray UInt8 (@List.cons UInt8 (97 : UInt8) (@List.nil UInt8)))))))
 (∃ x5 : Cha2,
 ((@LE.le Nat _ (@HAdd.hAdd _ _ _ _ (0 : Nat) (@List.length ChangeD x1)) (@List.length ChangeD (@insS x1))) ∧
 ((@Eq (@List ChangeD) (@List.take ChangeD (@List.length ChangeD x1) (@List.drop ChangeD (0 : Nat) (@insS x1))) (@Cha2.a x5)) ∧
 ((@LE.le Nat _ (@HAdd.hAdd _ _ _ _ (0 : Nat) (@List.length ChangeD x1)) (@List.length ChangeD (@insS x1))) ∧
 ((@Eq (@List ChangeD) (@List.take ChangeD (@List.length ChangeD x1) (@List.drop ChangeD (0 : Nat) (@insS x1))) (@Cha2.b x5)) ∧
 (True ∧
 (∀ x6 : Unit,
 (True →
 (br (@sameC (@Cha2.a x5) (@Cha2.b x5))
 (∃ x7 : Cha2,
 ((@LE.le Nat _ (@HAdd.hAdd _ _ _ _ (0 : Nat) (@List.length ChangeD x1)) (@List.length ChangeD (@insS x1))) ∧
 ((@Eq (@List ChangeD) (@List.take ChangeD (@List.length ChangeD x1) (@List.drop ChangeD (0 : Nat) (@insS x1))) (@Cha2.a x7)) ∧
 ((@LE.le Nat _ (@HAdd.hAdd _ _ _ _ (0 : Nat) (2 : Nat)) (@List.length ChangeD (@List.cons ChangeD (@ChangeD.mk (@Array.toList UInt8 (@ByteArray.data (@ByteArray.mk (@List.toArray UInt8 (@List.cons UInt8 (98 : UInt8) (@List.nil UInt8)))))) Bool.false (1 : Int)) (@List.cons ChangeD (@ChangeD.mk (@Array.toList UInt8 (@ByteArray.data (@ByteArray.mk (@List.toArray UInt8 (@List.cons UInt8 (97 : UInt8) (@List.nil UInt8)))))) Bool.true (0 : Int)) (@List.nil ChangeD))))) ∧
 ((@Eq (@List ChangeD) (@List.take ChangeD (2 : Nat) (@List.drop ChangeD (0 : Nat) (@List.cons ChangeD (@ChangeD.mk (@Array.toList UInt8 (@ByteArray.data (@ByteArray.mk (@List.toArray UInt8 (@List.cons UInt8 (98 : UInt8) (@List.nil UInt8)))))) Bool.false (1 : Int)) (@List.cons ChangeD (@ChangeD.mk (@Array.toList UInt8 (@ByteArray.data (@ByteArray.mk (@List.toArray UInt8 (@List.cons UInt8 (97 : UInt8) (@List.nil UInt8)))))) Bool.true (0 : Int)) (@List.nil ChangeD))))) (@Cha2.b x7)) ∧
 (True ∧
 (∀ x8 : Unit,
 (True →
 (∃ x9 : Unit,
 ((@Eq Bool (@Bool.not (@sameC (@Cha2.a x7) (@Cha2.b x7))) Bool.true) ∧
 True))))))))))
 (∃ x10 : Unit,
 ((@Eq Bool Bool.false Bool.true) ∧
 True)))))))))))
 (∃ x11 : Unit,
 ((@Eq Bool Bool.false Bool.true) ∧
 True)))
 (Bad "check" "law.go:15"))
 (Bad "check" "law.go:15"))
 (∃ x12 : Unit,
 ((@Eq Bool Bool.false Bool.true) ∧
 True))))
 (∃ x13 : Unit,
 ((@Eq Bool Bool.false Bool.true) ∧
 True)))))))))))))))) := by kernel_rfl

theorem cknown_vc (x : Unit) : evCall clawE (ev clawE 1000) 15 (noArgs x) ⟨[], 0, []⟩ (fun _ _ => False) (fun v _ => TrueV v) = (
(∃ x1 : Unit,
 (True ∧
 (∀ x2 : Unit,
 (True →
 (∃ x3 : (@List ChangeD),
 ((@Eq (@List ChangeD) (@List.nil ChangeD) x3) ∧
 ((@Eq Bool (@shortC x3) Bool.true) ∧
 (∀ x4 : Unit,
 (True →
 (br (@BEq.beq Int _ (@chkC x3) (1 : Int))
 (∃ x5 : (@List ChangeD),
 ((@LE.le Nat _ (@HAdd.hAdd _ _ _ _ (0 : Nat) (1 : Nat)) (@List.length ChangeD (@List.cons ChangeD (@ChangeD.mk (@Array.toList UInt8 (@ByteArray.data (@ByteArray.mk (@List.toArray UInt8 (@List.cons UInt8 (97 : UInt8) (@List.cons UInt8 (47 : UInt8) (@List.cons UInt8 (46 : UInt8) (@List.cons UInt8 (46 : UInt8) (@List.cons UInt8 (47 : UInt8) (@List.cons UInt8 (98 : UInt8) (@List.nil UInt8))))))))))) Bool.false (0 : Int)) (@List.nil ChangeD)))) ∧
 ((@Eq (@List ChangeD) (@List.take ChangeD (1 : Nat) (@List.drop ChangeD (0 : Nat) (@List.cons ChangeD (@ChangeD.mk (@Array.toList UInt8 (@ByteArray.data (@ByteArray.mk (@List.toArray UInt8 (@List.cons UInt8 (97 : UInt8) (@List.cons UInt8 (47 : UInt8) (@List.cons UInt8 (46 : UInt8) (@List.cons UInt8 (46 : UInt8) (@List.cons UInt8 (47 : UInt8) (@List.cons UInt8 (98 : UInt8) (@List.nil UInt8))))))))))) Bool.false (0 : Int)) (@List.nil ChangeD)))) x5) ∧
 ((@Eq Bool (@shortC x5) Bool.true) ∧
 (∀ x6 : Unit,
 (True →
 (br (@BEq.beq Int _ (@chkC x5) (1 : Int))
 (∃ x7 : (@List ChangeD),
 ((@LE.le Nat _ (@HAdd.hAdd _ _ _ _ (0 : Nat) (1 : Nat)) (@List.length ChangeD (@List.cons ChangeD (@ChangeD.mk (@Array.toList UInt8 (@ByteArray.data (@ByteArray.mk (@List.toArray UInt8 (@List.cons UInt8 (98 : UInt8) (@List.nil UInt8)))))) Bool.true (5 : Int)) (@List.nil ChangeD)))) ∧
 ((@Eq (@List ChangeD) (@List.take ChangeD (1 : Nat) (@List.drop ChangeD (0 : Nat) (@List.cons ChangeD (@ChangeD.mk (@Array.toList UInt8 (@ByteArray.data (@ByteArray.mk (@List.toArray UInt8 (@List.cons UInt8 (98 : UInt8) (@List.nil UInt8)))))) Bool.true (5 : Int)) (@List.nil ChangeD)))) x7) ∧
 ((@Eq Bool (@shortC x7) Bool.true) ∧
 (∀ x8 : Unit,
 (True →
 (@Eq Bool (@BEq.beq Int _ (@chkC x7) (1 : Int)) Bool.true)))))))
 (@Eq Bool Bool.false Bool.true))))))))
 (@Eq Bool Bool.false Bool.true)))))))))))) := by kernel_rfl

theorem limits_vc (x : LimA) : evCall limE (ev limE 1000) 18 (limArgs x) ⟨[], 0, []⟩ (fun _ _ => False) (fun v _ => TrueV v) = (
(∃ x1 : Unit,
 (True ∧
 (∀ x2 : Unit,
 (True →
 ((∃ x3 : Nat,
 ((@Eq Int (0 : Int) (Nat.cast x3 : Int)) ∧
 ((@Eq Nat (0 : Nat) x3) ∧
 ((@Eq (@List ChangeD) (@List.nil ChangeD) (@limL x3)) ∧
 (@Eq Bool (@Decidable.decide (@LE.le Int _ (Nat.cast x3 : Int) (@Int.tmod (@Go.IntKind.wrap Go.IntKind.i64 (Nat.cast (@LimA.n x) : Int)) (20 : Int))) _) Bool.true))))) ∧
 (∀ x4 : Nat,
 ((@Eq Bool (@Decidable.decide (@LE.le Int _ (Nat.cast x4 : Int) (@Int.tmod (@Go.IntKind.wrap Go.IntKind.i64 (Nat.cast (@LimA.n x) : Int)) (20 : Int))) _) Bool.true) →
 (br (@Decidable.decide (@LT.lt Int _ (Nat.cast x4 : Int) (@Int.tmod (@Go.IntKind.wrap Go.IntKind.i64 (Nat.cast (@LimA.n x) : Int)) (20 : Int))) _)
 (((@Nat.le (@HMul.hMul _ _ _ _ x4 (32 : Nat)) room47) ∧
 (@Nat.le (@HMul.hMul _ _ _ _ (1 : Nat) (32 : Nat)) room47)) →
 (br (@Bool.and (@Bool.and (@Decidable.decide (@LE.le Nat _ (@HAdd.hAdd _ _ _ _ (0 : Nat) (1 : Nat)) (@List.length ChangeD (@List.cons ChangeD (@ChangeD.mk (@textOf (@List.take Int (1 : Nat) (@List.drop Int (0 : Nat) (@List.cons Int (@Go.IntKind.wrap Go.IntKind.u8 (@Go.IntKind.wrap Go.IntKind.i64 (@HAdd.hAdd Int Int Int _ (97 : Int) (Nat.cast x4 : Int)))) (@List.nil Int))))) Bool.false (@Go.IntKind.wrap Go.IntKind.u64 (Nat.cast x4 : Int))) (@List.nil ChangeD)))) _) (@Decidable.decide (@LE.le Nat _ (@HAdd.hAdd _ _ _ _ (0 : Nat) x4) (@List.length ChangeD (@limL x4))) _)) (@Decidable.decide (@LE.le Nat _ (@HMul.hMul _ _ _ _ (@HAdd.hAdd _ _ _ _ x4 (@List.length ChangeD (@List.take ChangeD (1 : Nat) (@List.drop ChangeD (0 : Nat) (@List.cons ChangeD (@ChangeD.mk (@textOf (@List.take Int (1 : Nat) (@List.drop Int (0 : Nat) (@List.cons Int (@Go.IntKind.wrap Go.IntKind.u8 (@Go.IntKind.wrap Go.IntKind.i64 (@HAdd.hAdd Int Int Int _ (97 : Int) (Nat.cast x4 : Int)))) (@List.nil Int))))) Bool.false (@Go.IntKind.wrap Go.IntKind.u64 (Nat.cast x4 : Int))) (@List.nil ChangeD)))))) (32 : Nat)) room47) _))
 (∃ x5 : Nat,
 ((@Eq Int (@Go.IntKind.wrap Go.IntKind.i64 (@HAdd.hAdd Int Int Int _ (Nat.cast x4 : Int) (1 : Int))) (Nat.cast x5 : Int)) ∧
 ((@Eq Nat (0 : Nat) (0 : Nat)) ∧
 ((@Eq Nat (@HAdd.hAdd _ _ _ _ x4 (@List.length ChangeD (@List.take ChangeD (1 : Nat) (@List.drop ChangeD (0 : Nat) (@List.cons ChangeD (@ChangeD.mk (@textOf (@List.take Int (1 : Nat) (@List.drop Int (0 : Nat) (@List.cons Int (@Go.IntKind.wrap Go.IntKind.u8 (@Go.IntKind.wrap Go.IntKind.i64 (@HAdd.hAdd Int Int Int _ (97 : Int) (Nat.cast x4 : Int)))) (@List.nil Int))))) Bool.false (@Go.IntKind.wrap Go.IntKind.u64 (Nat.cast x4 : Int))) (@List.nil ChangeD)))))) x5) ∧
 ((@Eq (@List ChangeD) (@HAppend.hAppend (@List ChangeD) (@List ChangeD) (@List ChangeD) _ (@List.take ChangeD x4 (@List.drop ChangeD (0 : Nat) (@limL x4))) (@List.take ChangeD (1 : Nat) (@List.drop ChangeD (0 : Nat) (@List.cons ChangeD (@ChangeD.mk (@textOf (@List.take Int (1 : Nat) (@List.drop Int (0 : Nat) (@List.cons Int (@Go.IntKind.wrap Go.IntKind.u8 (@Go.IntKind.wrap Go.IntKind.i64 (@HAdd.hAdd Int Int Int _ (97 : Int) (Nat.cast x4 : Int)))) (@List.nil Int))))) Bool.false (@Go.IntKind.wrap Go.IntKind.u64 (Nat.cast x4 : Int))) (@List.nil ChangeD))))) (@limL x5)) ∧
 ((@Eq Bool (@Decidable.decide (@LE.le Int _ (Nat.cast x5 : Int) (@Int.tmod (@Go.IntKind.wrap Go.IntKind.i64 (Nat.cast (@LimA.n x) : Int)) (20 : Int))) _) Bool.true) ∧
 (@LT.lt Nat _ (@Nat.sub (@Int.toNat (@Int.tmod (@Go.IntKind.wrap Go.IntKind.i64 (Nat.cast (@LimA.n x) : Int)) (20 : Int))) x5) (@Nat.sub (@Int.toNat (@Int.tmod (@Go.IntKind.wrap Go.IntKind.i64 (Nat.cast (@LimA.n x) : Int)) (20 : Int))) x4))))))))
 (Bad "check" "law.go:90")))
 (br (@LimA.turn x)
 ((∃ x6 : Nat,
 ((@Eq Int (0 : Int) (Nat.cast x6 : Int)) ∧
 ((@Eq (@List ChangeD) (@limL x4) (@limS (@Int.toNat (@Int.tmod (@Go.IntKind.wrap Go.IntKind.i64 (Nat.cast (@LimA.n x) : Int)) (20 : Int))) x6)) ∧
 (@Eq Bool (@Decidable.decide (@LE.le Int _ (@HAdd.hAdd Int Int Int _ (Nat.cast x6 : Int) (Nat.cast x6 : Int)) (@Int.tmod (@Go.IntKind.wrap Go.IntKind.i64 (Nat.cast (@LimA.n x) : Int)) (20 : Int))) _) Bool.true)))) ∧
 (∀ x7 : Nat,
 ((@Eq Bool (@Decidable.decide (@LE.le Int _ (@HAdd.hAdd Int Int Int _ (Nat.cast x7 : Int) (Nat.cast x7 : Int)) (@Int.tmod (@Go.IntKind.wrap Go.IntKind.i64 (Nat.cast (@LimA.n x) : Int)) (20 : Int))) _) Bool.true) →
 (br (@Decidable.decide (@LT.lt Int _ (Nat.cast x7 : Int) (@Go.IntKind.wrap Go.IntKind.i64 (@Int.tdiv (@Int.tmod (@Go.IntKind.wrap Go.IntKind.i64 (Nat.cast (@LimA.n x) : Int)) (20 : Int)) (2 : Int)))) _)
 (br (@Decidable.decide ((@LE.le Int _ (0 : Int) (@Go.IntKind.wrap Go.IntKind.i64 (@HSub.hSub Int Int Int _ (@Go.IntKind.wrap Go.IntKind.i64 (@HSub.hSub Int Int Int _ (@Int.tmod (@Go.IntKind.wrap Go.IntKind.i64 (Nat.cast (@LimA.n x) : Int)) (20 : Int)) (1 : Int))) (Nat.cast x7 : Int)))) ∧
 (@LT.lt Int _ (@Go.IntKind.wrap Go.IntKind.i64 (@HSub.hSub Int Int Int _ (@Go.IntKind.wrap Go.IntKind.i64 (@HSub.hSub Int Int Int _ (@Int.tmod (@Go.IntKind.wrap Go.IntKind.i64 (Nat.cast (@LimA.n x) : Int)) (20 : Int)) (1 : Int))) (Nat.cast x7 : Int))) (Nat.cast x4 : Int))) _)
 (br (@Decidable.decide (@LT.lt Nat _ (@HAdd.hAdd _ _ _ _ (0 : Nat) (@Int.toNat (@Go.IntKind.wrap Go.IntKind.i64 (@HSub.hSub Int Int Int _ (@Go.IntKind.wrap Go.IntKind.i64 (@HSub.hSub Int Int Int _ (@Int.tmod (@Go.IntKind.wrap Go.IntKind.i64 (Nat.cast (@LimA.n x) : Int)) (20 : Int)) (1 : Int))) (Nat.cast x7 : Int))))) (@List.length ChangeD (@limS (@Int.toNat (@Int.tmod (@Go.IntKind.wrap Go.IntKind.i64 (Nat.cast (@LimA.n x) : Int)) (20 : Int))) x7))) _)
 (br (@Decidable.decide ((@LE.le Int _ (0 : Int) (Nat.cast x7 : Int)) ∧
 (@LT.lt Int _ (Nat.cast x7 : Int) (Nat.cast x4 : Int))) _)
 (br (@Decidable.decide (@LT.lt Nat _ (@HAdd.hAdd _ _ _ _ (0 : Nat) (@Int.toNat (Nat.cast x7 : Int))) (@List.length ChangeD (@limS (@Int.toNat (@Int.tmod (@Go.IntKind.wrap Go.IntKind.i64 (Nat.cast (@LimA.n x) : Int)) (20 : Int))) x7))) _)
 (br (@Decidable.decide ((@LE.le Int _ (0 : Int) (Nat.cast x7 : Int)) ∧
 (@LT.lt Int _ (Nat.cast x7 : Int) (Nat.cast x4 : Int))) _)
 (br (@Bool.and Bool.true (@Decidable.decide (@LT.lt Nat _ (@HAdd.hAdd _ _ _ _ (0 : Nat) (@Int.toNat (Nat.cast x7 : Int))) (@List.length ChangeD (@limS (@Int.toNat (@Int.tmod (@Go.IntKind.wrap Go.IntKind.i64 (Nat.cast (@LimA.n x) : Int)) (20 : Int))) x7))) _))
 (br (@Decidable.decide ((@LE.le Int _ (0 : Int) (@Go.IntKind.wrap Go.IntKind.i64 (@HSub.hSub Int Int Int _ (@Go.IntKind.wrap Go.IntKind.i64 (@HSub.hSub Int Int Int _ (@Int.tmod (@Go.IntKind.wrap Go.IntKind.i64 (Nat.cast (@LimA.n x) : Int)) (20 : Int)) (1 : Int))) (Nat.cast x7 : Int)))) ∧
 (@LT.lt Int _ (@Go.IntKind.wrap Go.IntKind.i64 (@HSub.hSub Int Int Int _ (@Go.IntKind.wrap Go.IntKind.i64 (@HSub.hSub Int Int Int _ (@Int.tmod (@Go.IntKind.wrap Go.IntKind.i64 (Nat.cast (@LimA.n x) : Int)) (20 : Int)) (1 : Int))) (Nat.cast x7 : Int))) (Nat.cast x4 : Int))) _)
 (br (@Bool.and Bool.true (@Decidable.decide (@LT.lt Nat _ (@HAdd.hAdd _ _ _ _ (0 : Nat) (@Int.toNat (@Go.IntKind.wrap Go.IntKind.i64 (@HSub.hSub Int Int Int _ (@Go.IntKind.wrap Go.IntKind.i64 (@HSub.hSub Int Int Int _ (@Int.tmod (@Go.IntKind.wrap Go.IntKind.i64 (Nat.cast (@LimA.n x) : Int)) (20 : Int)) (1 : Int))) (Nat.cast x7 : Int))))) (@List.length ChangeD (@List.set ChangeD (@limS (@Int.toNat (@Int.tmod (@Go.IntKind.wrap Go.IntKind.i64 (Nat.cast (@LimA.n x) : Int)) (20 : Int))) x7) (@HAdd.hAdd _ _ _ _ (0 : Nat) (@Int.toNat (Nat.cast x7 : Int))) (@ChangeD.mk (@ChangeD.path (@List.getD ChangeD (@limS (@Int.toNat (@Int.tmod (@Go.IntKind.wrap Go.IntKind.i64 (Nat.cast (@LimA.n x) : Int)) (20 : Int))) x7) (@HAdd.hAdd _ _ _ _ (0 : Nat) (@Int.toNat (@Go.IntKind.wrap Go.IntKind.i64 (@HSub.hSub Int Int Int _ (@Go.IntKind.wrap Go.IntKind.i64 (@HSub.hSub Int Int Int _ (@Int.tmod (@Go.IntKind.wrap Go.IntKind.i64 (Nat.cast (@LimA.n x) : Int)) (20 : Int)) (1 : Int))) (Nat.cast x7 : Int))))) (@ChangeD.mk (@List.nil UInt8) Bool.false (0 : Int)))) (@ChangeD.gone (@List.getD ChangeD (@limS (@Int.toNat (@Int.tmod (@Go.IntKind.wrap Go.IntKind.i64 (Nat.cast (@LimA.n x) : Int)) (20 : Int))) x7) (@HAdd.hAdd _ _ _ _ (0 : Nat) (@Int.toNat (@Go.IntKind.wrap Go.IntKind.i64 (@HSub.hSub Int Int Int _ (@Go.IntKind.wrap Go.IntKind.i64 (@HSub.hSub Int Int Int _ (@Int.tmod (@Go.IntKind.wrap Go.IntKind.i64 (Nat.cast (@LimA.n x) : Int)) (20 : Int)) (1 : Int))) (Nat.cast x7 : Int))))) (@ChangeD.mk (@List.nil UInt8) Bool.false (0 : Int)))) (@ChangeD.digest (@List.getD ChangeD (@limS (@Int.toNat (@Int.tmod (@Go.IntKind.wrap Go.IntKind.i64 (Nat.cast (@LimA.n x) : Int)) (20 : Int))) x7) (@HAdd.hAdd _ _ _ _ (0 : Nat) (@Int.toNat (@Go.IntKind.wrap Go.IntKind.i64 (@HSub.hSub Int Int Int _ (@Go.IntKind.wrap Go.IntKind.i64 (@HSub.hSub Int Int Int _ (@Int.tmod (@Go.IntKind.wrap Go.IntKind.i64 (Nat.cast (@LimA.n x) : Int)) (20 : Int)) (1 : Int))) (Nat.cast x7 : Int))))) (@ChangeD.mk (@List.nil UInt8) Bool.false (0 : Int)))))))) _))
 (∃ x8 : Nat,
 ((@Eq Int (@Go.IntKind.wrap Go.IntKind.i64 (@HAdd.hAdd Int Int Int _ (Nat.cast x7 : Int) (1 : Int))) (Nat.cast x8 : Int)) ∧
 ((@Eq (@List ChangeD) (@List.set ChangeD (@List.set ChangeD (@limS (@Int.toNat (@Int.tmod (@Go.IntKind.wrap Go.IntKind.i64 (Nat.cast (@LimA.n x) : Int)) (20 : Int))) x7) (@HAdd.hAdd _ _ _ _ (0 : Nat) (@Int.toNat (Nat.cast x7 : Int))) (@ChangeD.mk (@ChangeD.path (@List.getD ChangeD (@limS (@Int.toNat (@Int.tmod (@Go.IntKind.wrap Go.IntKind.i64 (Nat.cast (@LimA.n x) : Int)) (20 : Int))) x7) (@HAdd.hAdd _ _ _ _ (0 : Nat) (@Int.toNat (@Go.IntKind.wrap Go.IntKind.i64 (@HSub.hSub Int Int Int _ (@Go.IntKind.wrap Go.IntKind.i64 (@HSub.hSub Int Int Int _ (@Int.tmod (@Go.IntKind.wrap Go.IntKind.i64 (Nat.cast (@LimA.n x) : Int)) (20 : Int)) (1 : Int))) (Nat.cast x7 : Int))))) (@ChangeD.mk (@List.nil UInt8) Bool.false (0 : Int)))) (@ChangeD.gone (@List.getD ChangeD (@limS (@Int.toNat (@Int.tmod (@Go.IntKind.wrap Go.IntKind.i64 (Nat.cast (@LimA.n x) : Int)) (20 : Int))) x7) (@HAdd.hAdd _ _ _ _ (0 : Nat) (@Int.toNat (@Go.IntKind.wrap Go.IntKind.i64 (@HSub.hSub Int Int Int _ (@Go.IntKind.wrap Go.IntKind.i64 (@HSub.hSub Int Int Int _ (@Int.tmod (@Go.IntKind.wrap Go.IntKind.i64 (Nat.cast (@LimA.n x) : Int)) (20 : Int)) (1 : Int))) (Nat.cast x7 : Int))))) (@ChangeD.mk (@List.nil UInt8) Bool.false (0 : Int)))) (@ChangeD.digest (@List.getD ChangeD (@limS (@Int.toNat (@Int.tmod (@Go.IntKind.wrap Go.IntKind.i64 (Nat.cast (@LimA.n x) : Int)) (20 : Int))) x7) (@HAdd.hAdd _ _ _ _ (0 : Nat) (@Int.toNat (@Go.IntKind.wrap Go.IntKind.i64 (@HSub.hSub Int Int Int _ (@Go.IntKind.wrap Go.IntKind.i64 (@HSub.hSub Int Int Int _ (@Int.tmod (@Go.IntKind.wrap Go.IntKind.i64 (Nat.cast (@LimA.n x) : Int)) (20 : Int)) (1 : Int))) (Nat.cast x7 : Int))))) (@ChangeD.mk (@List.nil UInt8) Bool.false (0 : Int)))))) (@HAdd.hAdd _ _ _ _ (0 : Nat) (@Int.toNat (@Go.IntKind.wrap Go.IntKind.i64 (@HSub.hSub Int Int Int _ (@Go.IntKind.wrap Go.IntKind.i64 (@HSub.hSub Int Int Int _ (@Int.tmod (@Go.IntKind.wrap Go.IntKind.i64 (Nat.cast (@LimA.n x) : Int)) (20 : Int)) (1 : Int))) (Nat.cast x7 : Int))))) (@ChangeD.mk (@ChangeD.path (@List.getD ChangeD (@limS (@Int.toNat (@Int.tmod (@Go.IntKind.wrap Go.IntKind.i64 (Nat.cast (@LimA.n x) : Int)) (20 : Int))) x7) (@HAdd.hAdd _ _ _ _ (0 : Nat) (@Int.toNat (Nat.cast x7 : Int))) (@ChangeD.mk (@List.nil UInt8) Bool.false (0 : Int)))) (@ChangeD.gone (@List.getD ChangeD (@limS (@Int.toNat (@Int.tmod (@Go.IntKind.wrap Go.IntKind.i64 (Nat.cast (@LimA.n x) : Int)) (20 : Int))) x7) (@HAdd.hAdd _ _ _ _ (0 : Nat) (@Int.toNat (Nat.cast x7 : Int))) (@ChangeD.mk (@List.nil UInt8) Bool.false (0 : Int)))) (@ChangeD.digest (@List.getD ChangeD (@limS (@Int.toNat (@Int.tmod (@Go.IntKind.wrap Go.IntKind.i64 (Nat.cast (@LimA.n x) : Int)) (20 : Int))) x7) (@HAdd.hAdd _ _ _ _ (0 : Nat) (@Int.toNat (Nat.cast x7 : Int))) (@ChangeD.mk (@List.nil UInt8) Bool.false (0 : Int)))))) (@limS (@Int.toNat (@Int.tmod (@Go.IntKind.wrap Go.IntKind.i64 (Nat.cast (@LimA.n x) : Int)) (20 : Int))) x8)) ∧
 ((@Eq Bool (@Decidable.decide (@LE.le Int _ (@HAdd.hAdd Int Int Int _ (Nat.cast x8 : Int) (Nat.cast x8 : Int)) (@Int.tmod (@Go.IntKind.wrap Go.IntKind.i64 (Nat.cast (@LimA.n x) : Int)) (20 : Int))) _) Bool.true) ∧
 (@LT.lt Nat _ (@Nat.sub (@Int.toNat (@Int.tmod (@Go.IntKind.wrap Go.IntKind.i64 (Nat.cast (@LimA.n x) : Int)) (20 : Int))) x8) (@Nat.sub (@Int.toNat (@Int.tmod (@Go.IntKind.wrap Go.IntKind.i64 (Nat.cast (@LimA.n x) : Int)) (20 : Int))) x7))))))
 (Bad "check" "law.go:94"))
 (Bad "check" "law.go:94"))
 (Bad "check" "law.go:94"))
 (Bad "check" "law.go:94"))
 (Bad "check" "law.go:94"))
 (Bad "check" "law.go:94"))
 (Bad "check" "law.go:94"))
 (Bad "check" "law.go:94"))
 (br (@Decidable.decide (@GE.ge Int _ (@Int.tmod (@Go.IntKind.wrap Go.IntKind.i64 (Nat.cast (@LimA.n x) : Int)) (20 : Int)) (1 : Int)) _)
 (∃ x9 : (@List ChangeD),
 ((@LE.le Nat _ (@HAdd.hAdd _ _ _ _ (0 : Nat) x4) (@List.length ChangeD (@limS (@Int.toNat (@Int.tmod (@Go.IntKind.wrap Go.IntKind.i64 (Nat.cast (@LimA.n x) : Int)) (20 : Int))) x7))) ∧
 ((@Eq (@List ChangeD) (@List.take ChangeD x4 (@List.drop ChangeD (0 : Nat) (@limS (@Int.toNat (@Int.tmod (@Go.IntKind.wrap Go.IntKind.i64 (Nat.cast (@LimA.n x) : Int)) (20 : Int))) x7))) x9) ∧
 ((@Eq Bool (@shortC x9) Bool.true) ∧
 (∀ x10 : Unit,
 (True →
 (br (@Bool.not (@BEq.beq Bool _ (@BEq.beq Int _ (@chkC x9) (0 : Int)) (@Decidable.decide (@LE.le Int _ (@Int.tmod (@Go.IntKind.wrap Go.IntKind.i64 (Nat.cast (@LimA.n x) : Int)) (20 : Int)) (16 : Int)) _)))
 (@Eq Bool Bool.false Bool.true)
 (br (@BEq.beq Int _ (@Int.tmod (@Go.IntKind.wrap Go.IntKind.i64 (Nat.cast (@LimA.n x) : Int)) (20 : Int)) (0 : Int))
 (@Eq Bool Bool.true Bool.true)
 (((@Nat.le (@HMul.hMul _ _ _ _ (0 : Nat) (32 : Nat)) room47) ∧
 (@Nat.le (@HMul.hMul _ _ _ _ x4 (32 : Nat)) room47)) →
 (br (@Bool.and (@Bool.and (@Decidable.decide (@LE.le Nat _ (@HAdd.hAdd _ _ _ _ (0 : Nat) x4) (@List.length ChangeD (@limS (@Int.toNat (@Int.tmod (@Go.IntKind.wrap Go.IntKind.i64 (Nat.cast (@LimA.n x) : Int)) (20 : Int))) x7))) _) (@Decidable.decide (@LE.le Nat _ (@HAdd.hAdd _ _ _ _ (0 : Nat) (0 : Nat)) (@List.length ChangeD (@List.nil ChangeD))) _)) (@Decidable.decide (@LE.le Nat _ (@HMul.hMul _ _ _ _ (@HAdd.hAdd _ _ _ _ (0 : Nat) (@List.length ChangeD (@List.take ChangeD x4 (@List.drop ChangeD (0 : Nat) (@limS (@Int.toNat (@Int.tmod (@Go.IntKind.wrap Go.IntKind.i64 (Nat.cast (@LimA.n x) : Int)) (20 : Int))) x7))))) (32 : Nat)) room47) _))
 (br (@bne Int _ (@Int.tmod (@Go.IntKind.wrap Go.IntKind.i64 (Nat.cast (@LimA.n x) : Int)) (20 : Int)) (0 : Int))
 (br (@bne Int _ (@Int.tmod (@Go.IntKind.wrap Go.IntKind.i64 (Nat.cast (@LimA.n x) : Int)) (20 : Int)) (0 : Int))
 (br (@Decidable.decide ((@LE.le Int _ (0 : Int) (@Int.tmod (@Go.IntKind.wrap Go.IntKind.i64 (@HAdd.hAdd Int Int Int _ (@Go.IntKind.wrap Go.IntKind.i64 (Nat.cast (@LimA.twice x) : Int)) (1 : Int))) (@Int.tmod (@Go.IntKind.wrap Go.IntKind.i64 (Nat.cast (@LimA.n x) : Int)) (20 : Int)))) ∧
 (@LT.lt Int _ (@Int.tmod (@Go.IntKind.wrap Go.IntKind.i64 (@HAdd.hAdd Int Int Int _ (@Go.IntKind.wrap Go.IntKind.i64 (Nat.cast (@LimA.twice x) : Int)) (1 : Int))) (@Int.tmod (@Go.IntKind.wrap Go.IntKind.i64 (Nat.cast (@LimA.n x) : Int)) (20 : Int))) (Nat.cast (@HAdd.hAdd _ _ _ _ (0 : Nat) (@List.length ChangeD (@List.take ChangeD x4 (@List.drop ChangeD (0 : Nat) (@limS (@Int.toNat (@Int.tmod (@Go.IntKind.wrap Go.IntKind.i64 (Nat.cast (@LimA.n x) : Int)) (20 : Int))) x7))))) : Int))) _)
 (br (@Decidable.decide (@LT.lt Nat _ (@HAdd.hAdd _ _ _ _ (0 : Nat) (@Int.toNat (@Int.tmod (@Go.IntKind.wrap Go.IntKind.i64 (@HAdd.hAdd Int Int Int _ (@Go.IntKind.wrap Go.IntKind.i64 (Nat.cast (@LimA.twice x) : Int)) (1 : Int))) (@Int.tmod (@Go.IntKind.wrap Go.IntKind.i64 (Nat.cast (@LimA.n x) : Int)) (20 : Int))))) (@List.length ChangeD (@HAppend.hAppend (@List ChangeD) (@List ChangeD) (@List ChangeD) _ (@List.take ChangeD (0 : Nat) (@List.drop ChangeD (0 : Nat) (@List.nil ChangeD))) (@List.take ChangeD x4 (@List.drop ChangeD (0 : Nat) (@limS (@Int.toNat (@Int.tmod (@Go.IntKind.wrap Go.IntKind.i64 (Nat.cast (@LimA.n x) : Int)) (20 : Int))) x7)))))) _)
 (br (@Decidable.decide ((@LE.le Int _ (0 : Int) (@Int.tmod (@Go.IntKind.wrap Go.IntKind.i64 (Nat.cast (@LimA.twice x) : Int)) (@Int.tmod (@Go.IntKind.wrap Go.IntKind.i64 (Nat.cast (@LimA.n x) : Int)) (20 : Int)))) ∧
 (@LT.lt Int _ (@Int.tmod (@Go.IntKind.wrap Go.IntKind.i64 (Nat.cast (@LimA.twice x) : Int)) (@Int.tmod (@Go.IntKind.wrap Go.IntKind.i64 (Nat.cast (@LimA.n x) : Int)) (20 : Int))) (Nat.cast (@HAdd.hAdd _ _ _ _ (0 : Nat) (@List.length ChangeD (@List.take ChangeD x4 (@List.drop ChangeD (0 : Nat) (@limS (@Int.toNat (@Int.tmod (@Go.IntKind.wrap Go.IntKind.i64 (Nat.cast (@LimA.n x) : Int)) (20 : Int))) x7))))) : Int))) _)
 (br (@Bool.and Bool.true (@Decidable.decide (@LT.lt Nat _ (@HAdd.hAdd _ _ _ _ (0 : Nat) (@Int.toNat (@Int.tmod (@Go.IntKind.wrap Go.IntKind.i64 (Nat.cast (@LimA.twice x) : Int)) (@Int.tmod (@Go.IntKind.wrap Go.IntKind.i64 (Nat.cast (@LimA.n x) : Int)) (20 : Int))))) (@List.length ChangeD (@HAppend.hAppend (@List ChangeD) (@List ChangeD) (@List ChangeD) _ (@List.take ChangeD (0 : Nat) (@List.drop ChangeD (0 : Nat) (@List.nil ChangeD))) (@List.take ChangeD x4 (@List.drop ChangeD (0 : Nat) (@limS (@Int.toNat (@Int.tmod (@Go.IntKind.wrap Go.IntKind.i64 (Nat.cast (@LimA.n x) : Int)) (20 : Int))) x7)))))) _))
 (∃ x11 : (@List ChangeD),
 ((@LE.le Nat _ (@HAdd.hAdd _ _ _ _ (0 : Nat) x4) (@List.length ChangeD (@limS (@Int.toNat (@Int.tmod (@Go.IntKind.wrap Go.IntKind.i64 (Nat.cast (@LimA.n x) : Int)) (20 : Int))) x7))) ∧
 ((@Eq (@List ChangeD) (@List.take ChangeD x4 (@List.drop ChangeD (0 : Nat) (@limS (@Int.toNat (@Int.tmod (@Go.IntKind.wrap Go.IntKind.i64 (Nat.cast (@LimA.n x) : Int)) (20 : Int))) x7))) x11) ∧
 ((@Eq Bool (@fewC x11) Bool.true) ∧
 (∀ x12 : Unit,
 (True →
 ((∃ x13 : Nat,
 ((@Eq Int (0 : Int) (Nat.cast x13 : Int)) ∧
 (@Eq Bool (@Decidable.decide (@LE.le Int _ (Nat.cast x13 : Int) (@Int.tmod (@Go.IntKind.wrap Go.IntKind.i64 (Nat.cast (@LimA.n x) : Int)) (20 : Int))) _) Bool.true))) ∧
 (∀ x14 : Nat,
 ((@Eq Bool (@Decidable.decide (@LE.le Int _ (Nat.cast x14 : Int) (@Int.tmod (@Go.IntKind.wrap Go.IntKind.i64 (Nat.cast (@LimA.n x) : Int)) (20 : Int))) _) Bool.true) →
 (br (@Decidable.decide (@LT.lt Int _ (Nat.cast x14 : Int) (@Int.tmod (@Go.IntKind.wrap Go.IntKind.i64 (Nat.cast (@LimA.n x) : Int)) (20 : Int))) _)
 (br (@Decidable.decide ((@LE.le Int _ (0 : Int) (Nat.cast x14 : Int)) ∧
 (@LT.lt Int _ (Nat.cast x14 : Int) (Nat.cast (@List.length ChangeD x11) : Int))) _)
 (br (@Decidable.decide (@LT.lt Nat _ (@HAdd.hAdd _ _ _ _ (0 : Nat) (@Int.toNat (Nat.cast x14 : Int))) (@List.length ChangeD (@insS x11))) _)
 (br (@Bool.not (@BEq.beq Bs _ (@ChangeD.path (@List.getD ChangeD (@insS x11) (@HAdd.hAdd _ _ _ _ (0 : Nat) (@Int.toNat (Nat.cast x14 : Int))) (@ChangeD.mk (@List.nil UInt8) Bool.false (0 : Int)))) (@textOf (@List.take Int (1 : Nat) (@List.drop Int (0 : Nat) (@List.cons Int (@Go.IntKind.wrap Go.IntKind.u8 (@Go.IntKind.wrap Go.IntKind.i64 (@HAdd.hAdd Int Int Int _ (97 : Int) (Nat.cast x14 : Int)))) (@List.nil Int)))))))
 (@Eq Bool Bool.false Bool.true)
 (∃ x15 : Nat,
 ((@Eq Int (@Go.IntKind.wrap Go.IntKind.i64 (@HAdd.hAdd Int Int Int _ (Nat.cast x14 : Int) (1 : Int))) (Nat.cast x15 : Int)) ∧
 ((@Eq Bool (@Decidable.decide (@LE.le Int _ (Nat.cast x15 : Int) (@Int.tmod (@Go.IntKind.wrap Go.IntKind.i64 (Nat.cast (@LimA.n x) : Int)) (20 : Int))) _) Bool.true) ∧
 (@LT.lt Nat _ (@Nat.sub (@Int.toNat (@Int.tmod (@Go.IntKind.wrap Go.IntKind.i64 (Nat.cast (@LimA.n x) : Int)) (20 : Int))) x15) (@Nat.sub (@Int.toNat (@Int.tmod (@Go.IntKind.wrap Go.IntKind.i64 (Nat.cast (@LimA.n x) : Int)) (20 : Int))) x14))))))
 (Bad "check" "law.go:108"))
 (Bad "check" "law.go:108"))
 (br (@BEq.beq Int _ (@Int.tmod (@Go.IntKind.wrap Go.IntKind.i64 (Nat.cast (@LimA.n x) : Int)) (20 : Int)) (1 : Int))
 (@Eq Bool Bool.true Bool.true)
 (∃ x16 : (@List ChangeD),
 ((@LE.le Nat _ (@HAdd.hAdd _ _ _ _ (0 : Nat) (@HAdd.hAdd _ _ _ _ (0 : Nat) (@List.length ChangeD (@List.take ChangeD x4 (@List.drop ChangeD (0 : Nat) (@limS (@Int.toNat (@Int.tmod (@Go.IntKind.wrap Go.IntKind.i64 (Nat.cast (@LimA.n x) : Int)) (20 : Int))) x7)))))) (@List.length ChangeD (@List.set ChangeD (@HAppend.hAppend (@List ChangeD) (@List ChangeD) (@List ChangeD) _ (@List.take ChangeD (0 : Nat) (@List.drop ChangeD (0 : Nat) (@List.nil ChangeD))) (@List.take ChangeD x4 (@List.drop ChangeD (0 : Nat) (@limS (@Int.toNat (@Int.tmod (@Go.IntKind.wrap Go.IntKind.i64 (Nat.cast (@LimA.n x) : Int)) (20 : Int))) x7)))) (@HAdd.hAdd _ _ _ _ (0 : Nat) (@Int.toNat (@Int.tmod (@Go.IntKind.wrap Go.IntKind.i64 (Nat.cast (@LimA.twice x) : Int)) (@Int.tmod (@Go.IntKind.wrap Go.IntKind.i64 (Nat.cast (@LimA.n x) : Int)) (20 : Int))))) (@ChangeD.mk (@ChangeD.path (@List.getD ChangeD (@HAppend.hAppend (@List ChangeD) (@List ChangeD) (@List ChangeD) _ (@List.take ChangeD (0 : Nat) (@List.drop ChangeD (0 : Nat) (@List.nil ChangeD))) (@List.take ChangeD x4 (@List.drop ChangeD (0 : Nat) (@limS (@Int.toNat (@Int.tmod (@Go.IntKind.wrap Go.IntKind.i64 (Nat.cast (@LimA.n x) : Int)) (20 : Int))) x7)))) (@HAdd.hAdd _ _ _ _ (0 : Nat) (@Int.toNat (@Int.tmod (@Go.IntKind.wrap Go.IntKind.i64 (@HAdd.hAdd Int Int Int _ (@Go.IntKind.wrap Go.IntKind.i64 (Nat.cast (@LimA.twice x) : Int)) (1 : Int))) (@Int.tmod (@Go.IntKind.wrap Go.IntKind.i64 (Nat.cast (@LimA.n x) : Int)) (20 : Int))))) (@ChangeD.mk (@List.nil UInt8) Bool.false (0 : Int)))) (@ChangeD.gone (@List.getD ChangeD (@HAppend.hAppend (@List ChangeD) (@List ChangeD) (@List ChangeD) _ (@List.take ChangeD (0 : Nat) (@List.drop ChangeD (0 : Nat) (@List.nil ChangeD))) (@List.take ChangeD x4 (@List.drop ChangeD (0 : Nat) (@limS (@Int.toNat (@Int.tmod (@Go.IntKind.wrap Go.IntKind.i64 (Nat.cast (@LimA.n x) : Int)) (20 : Int))) x7)))) (@HAdd.hAdd _ _ _ _ (0 : Nat) (@Int.toNat (@Int.tmod (@Go.IntKind.wrap Go.IntKind.i64 (Nat.cast (@LimA.twice x) : Int)) (@Int.tmod (@Go.IntKind.wrap Go.IntKind.i64 (Nat.cast (@LimA.n x) : Int)) (20 : Int))))) (@ChangeD.mk (@List.nil UInt8) Bool.false (0 : Int)))) (@ChangeD.digest (@List.getD ChangeD (@HAppend.hAppend (@List ChangeD) (@List ChangeD) (@List ChangeD) _ (@List.take ChangeD (0 : Nat) (@List.drop ChangeD (0 : Nat) (@List.nil ChangeD))) (@List.take ChangeD x4 (@List.drop ChangeD (0 : Nat) (@limS (@Int.toNat (@Int.tmod (@Go.IntKind.wrap Go.IntKind.i64 (Nat.cast (@LimA.n x) : Int)) (20 : Int))) x7)))) (@HAdd.hAdd _ _ _ _ (0 : Nat) (@Int.toNat (@Int.tmod (@Go.IntKind.wrap Go.IntKind.i64 (Nat.cast (@LimA.twice x) : Int)) (@Int.tmod (@Go.IntKind.wrap Go.IntKind.i64 (Nat.cast (@LimA.n x) : Int)) (20 : Int))))) (@ChangeD.mk (@List.nil UInt8) Bool.false (0 : Int)))))))) ∧
 ((@Eq (@List ChangeD) (@List.take ChangeD (@HAdd.hAdd _ _ _ _ (0 : Nat) (@List.length ChangeD (@List.take ChangeD x4 (@List.drop ChangeD (0 : Nat) (@limS (@Int.toNat (@Int.tmod (@Go.IntKind.wrap Go.IntKind.i64 (Nat.cast (@LimA.n x) : Int)) (20 : Int))) x7))))) (@List.drop ChangeD (0 : Nat) (@List.set ChangeD (@HAppend.hAppend (@List ChangeD) (@List ChangeD) (@List ChangeD) _ (@List.take ChangeD (0 : Nat) (@List.drop ChangeD (0 : Nat) (@List.nil ChangeD))) (@List.take ChangeD x4 (@List.drop ChangeD (0 : Nat) (@limS (@Int.toNat (@Int.tmod (@Go.IntKind.wrap Go.IntKind.i64 (Nat.cast (@LimA.n x) : Int)) (20 : Int))) x7)))) (@HAdd.hAdd _ _ _ _ (0 : Nat) (@Int.toNat (@Int.tmod (@Go.IntKind.wrap Go.IntKind.i64 (Nat.cast (@LimA.twice x) : Int)) (@Int.tmod (@Go.IntKind.wrap Go.IntKind.i64 (Nat.cast (@LimA.n x) : Int)) (20 : Int))))) (@ChangeD.mk (@ChangeD.path (@List.getD ChangeD (@HAppend.hAppend (@List ChangeD) (@List ChangeD) (@List ChangeD) _ (@List.take ChangeD (0 : Nat) (@List.drop ChangeD (0 : Nat) (@List.nil ChangeD))) (@List.take ChangeD x4 (@List.drop ChangeD (0 : Nat) (@limS (@Int.toNat (@Int.tmod (@Go.IntKind.wrap Go.IntKind.i64 (Nat.cast (@LimA.n x) : Int)) (20 : Int))) x7)))) (@HAdd.hAdd _ _ _ _ (0 : Nat) (@Int.toNat (@Int.tmod (@Go.IntKind.wrap Go.IntKind.i64 (@HAdd.hAdd Int Int Int _ (@Go.IntKind.wrap Go.IntKind.i64 (Nat.cast (@LimA.twice x) : Int)) (1 : Int))) (@Int.tmod (@Go.IntKind.wrap Go.IntKind.i64 (Nat.cast (@LimA.n x) : Int)) (20 : Int))))) (@ChangeD.mk (@List.nil UInt8) Bool.false (0 : Int)))) (@ChangeD.gone (@List.getD ChangeD (@HAppend.hAppend (@List ChangeD) (@List ChangeD) (@List ChangeD) _ (@List.take ChangeD (0 : Nat) (@List.drop ChangeD (0 : Nat) (@List.nil ChangeD))) (@List.take ChangeD x4 (@List.drop ChangeD (0 : Nat) (@limS (@Int.toNat (@Int.tmod (@Go.IntKind.wrap Go.IntKind.i64 (Nat.cast (@LimA.n x) : Int)) (20 : Int))) x7)))) (@HAdd.hAdd _ _ _ _ (0 : Nat) (@Int.toNat (@Int.tmod (@Go.IntKind.wrap Go.IntKind.i64 (Nat.cast (@LimA.twice x) : Int)) (@Int.tmod (@Go.IntKind.wrap Go.IntKind.i64 (Nat.cast (@LimA.n x) : Int)) (20 : Int))))) (@ChangeD.mk (@List.nil UInt8) Bool.false (0 : Int)))) (@ChangeD.digest (@List.getD ChangeD (@HAppend.hAppend (@List ChangeD) (@List ChangeD) (@List ChangeD) _ (@List.take ChangeD (0 : Nat) (@List.drop ChangeD (0 : Nat) (@List.nil ChangeD))) (@List.take ChangeD x4 (@List.drop ChangeD (0 : Nat) (@limS (@Int.toNat (@Int.tmod (@Go.IntKind.wrap Go.IntKind.i64 (Nat.cast (@LimA.n x) : Int)) (20 : Int))) x7)))) (@HAdd.hAdd _ _ _ _ (0 : Nat) (@Int.toNat (@Int.tmod (@Go.IntKind.wrap Go.IntKind.i64 (Nat.cast (@LimA.twice x) : Int)) (@Int.tmod (@Go.IntKind.wrap Go.IntKind.i64 (Nat.cast (@LimA.n x) : Int)) (20 : Int))))) (@ChangeD.mk (@List.nil UInt8) Bool.false (0 : Int)))))))) x16) ∧
 ((@Eq Bool (@shortC x16) Bool.true) ∧
 (∀ x17 : Unit,
 (True →
 (@Eq Bool (@bne Int _ (@chkC x16) (0 : Int)) Bool.true))))))))))))))))))
 (Bad "check" "law.go:105"))
 (Bad "check" "law.go:105"))
 (Bad "check" "law.go:105"))
 (Bad "check" "law.go:105"))
 (Bad "check" "law.go:105"))
 (Bad "check" "law.go:105"))
 (Bad "check" "law.go:104")))))))))))
 (∃ x18 : (@List ChangeD),
 ((@LE.le Nat _ (@HAdd.hAdd _ _ _ _ (0 : Nat) x4) (@List.length ChangeD (@limS (@Int.toNat (@Int.tmod (@Go.IntKind.wrap Go.IntKind.i64 (Nat.cast (@LimA.n x) : Int)) (20 : Int))) x7))) ∧
 ((@Eq (@List ChangeD) (@List.take ChangeD x4 (@List.drop ChangeD (0 : Nat) (@limS (@Int.toNat (@Int.tmod (@Go.IntKind.wrap Go.IntKind.i64 (Nat.cast (@LimA.n x) : Int)) (20 : Int))) x7))) x18) ∧
 ((@Eq Bool (@shortC x18) Bool.true) ∧
 (∀ x19 : Unit,
 (True →
 (br (@Bool.not (@BEq.beq Bool _ (@BEq.beq Int _ (@chkC x18) (0 : Int)) Bool.false))
 (@Eq Bool Bool.false Bool.true)
 (br (@BEq.beq Int _ (@Int.tmod (@Go.IntKind.wrap Go.IntKind.i64 (Nat.cast (@LimA.n x) : Int)) (20 : Int)) (0 : Int))
 (@Eq Bool Bool.true Bool.true)
 (((@Nat.le (@HMul.hMul _ _ _ _ (0 : Nat) (32 : Nat)) room47) ∧
 (@Nat.le (@HMul.hMul _ _ _ _ x4 (32 : Nat)) room47)) →
 (br (@Bool.and (@Bool.and (@Decidable.decide (@LE.le Nat _ (@HAdd.hAdd _ _ _ _ (0 : Nat) x4) (@List.length ChangeD (@limS (@Int.toNat (@Int.tmod (@Go.IntKind.wrap Go.IntKind.i64 (Nat.cast (@LimA.n x) : Int)) (20 : Int))) x7))) _) (@Decidable.decide (@LE.le Nat _ (@HAdd.hAdd _ _ _ _ (0 : Nat) (0 : Nat)) (@List.length ChangeD (@List.nil ChangeD))) _)) (@Decidable.decide (@LE.le Nat _ (@HMul.hMul _ _ _ _ (@HAdd.hAdd _ _ _ _ (0 : Nat) (@List.length ChangeD (@List.take ChangeD x4 (@List.drop ChangeD (0 : Nat) (@limS (@Int.toNat (@Int.tmod (@Go.IntKind.wrap Go.IntKind.i64 (Nat.cast (@LimA.n x) : Int)) (20 : Int))) x7))))) (32 : Nat)) room47) _))
 (br (@bne Int _ (@Int.tmod (@Go.IntKind.wrap Go.IntKind.i64 (Nat.cast (@LimA.n x) : Int)) (20 : Int)) (0 : Int))
 (br (@bne Int _ (@Int.tmod (@Go.IntKind.wrap Go.IntKind.i64 (Nat.cast (@LimA.n x) : Int)) (20 : Int)) (0 : Int))
 (br (@Decidable.decide ((@LE.le Int _ (0 : Int) (@Int.tmod (@Go.IntKind.wrap Go.IntKind.i64 (@HAdd.hAdd Int Int Int _ (@Go.IntKind.wrap Go.IntKind.i64 (Nat.cast (@LimA.twice x) : Int)) (1 : Int))) (@Int.tmod (@Go.IntKind.wrap Go.IntKind.i64 (Nat.cast (@LimA.n x) : Int)) (20 : Int)))) ∧
 (@LT.lt Int _ (@Int.tmod (@Go.IntKind.wrap Go.IntKind.i64 (@HAdd.hAdd Int Int Int _ (@Go.IntKind.wrap Go.IntKind.i64 (Nat.cast (@LimA.twice x) : Int)) (1 : Int))) (@Int.tmod (@Go.IntKind.wrap Go.IntKind.i64 (Nat.cast (@LimA.n x) : Int)) (20 : Int))) (Nat.cast (@HAdd.hAdd _ _ _ _ (0 : Nat) (@List.length ChangeD (@List.take ChangeD x4 (@List.drop ChangeD (0 : Nat) (@limS (@Int.toNat (@Int.tmod (@Go.IntKind.wrap Go.IntKind.i64 (Nat.cast (@LimA.n x) : Int)) (20 : Int))) x7))))) : Int))) _)
 (br (@Decidable.decide (@LT.lt Nat _ (@HAdd.hAdd _ _ _ _ (0 : Nat) (@Int.toNat (@Int.tmod (@Go.IntKind.wrap Go.IntKind.i64 (@HAdd.hAdd Int Int Int _ (@Go.IntKind.wrap Go.IntKind.i64 (Nat.cast (@LimA.twice x) : Int)) (1 : Int))) (@Int.tmod (@Go.IntKind.wrap Go.IntKind.i64 (Nat.cast (@LimA.n x) : Int)) (20 : Int))))) (@List.length ChangeD (@HAppend.hAppend (@List ChangeD) (@List ChangeD) (@List ChangeD) _ (@List.take ChangeD (0 : Nat) (@List.drop ChangeD (0 : Nat) (@List.nil ChangeD))) (@List.take ChangeD x4 (@List.drop ChangeD (0 : Nat) (@limS (@Int.toNat (@Int.tmod (@Go.IntKind.wrap Go.IntKind.i64 (Nat.cast (@LimA.n x) : Int)) (20 : Int))) x7)))))) _)
 (br (@Decidable.decide ((@LE.le Int _ (0 : Int) (@Int.tmod (@Go.IntKind.wrap Go.IntKind.i64 (Nat.cast (@LimA.twice x) : Int)) (@Int.tmod (@Go.IntKind.wrap Go.IntKind.i64 (Nat.cast (@LimA.n x) : Int)) (20 : Int)))) ∧
 (@LT.lt Int _ (@Int.tmod (@Go.IntKind.wrap Go.IntKind.i64 (Nat.cast (@LimA.twice x) : Int)) (@Int.tmod (@Go.IntKind.wrap Go.IntKind.i64 (Nat.cast (@LimA.n x) : Int)) (20 : Int))) (Nat.cast (@HAdd.hAdd _ _ _ _ (0 : Nat) (@List.length ChangeD (@List.take ChangeD x4 (@List.drop ChangeD (0 : Nat) (@limS (@Int.toNat (@Int.tmod (@Go.IntKind.wrap Go.IntKind.i64 (Nat.cast (@LimA.n x) : Int)) (20 : Int))) x7))))) : Int))) _)
 (br (@Bool.and Bool.true (@Decidable.decide (@LT.lt Nat _ (@HAdd.hAdd _ _ _ _ (0 : Nat) (@Int.toNat (@Int.tmod (@Go.IntKind.wrap Go.IntKind.i64 (Nat.cast (@LimA.twice x) : Int)) (@Int.tmod (@Go.IntKind.wrap Go.IntKind.i64 (Nat.cast (@LimA.n x) : Int)) (20 : Int))))) (@List.length ChangeD (@HAppend.hAppend (@List ChangeD) (@List ChangeD) (@List ChangeD) _ (@List.take ChangeD (0 : Nat) (@List.drop ChangeD (0 : Nat) (@List.nil ChangeD))) (@List.take ChangeD x4 (@List.drop ChangeD (0 : Nat) (@limS (@Int.toNat (@Int.tmod (@Go.IntKind.wrap Go.IntKind.i64 (Nat.cast (@LimA.n x) : Int)) (20 : Int))) x7)))))) _))
 (∃ x20 : (@List ChangeD),
 ((@LE.le Nat _ (@HAdd.hAdd _ _ _ _ (0 : Nat) x4) (@List.length ChangeD (@limS (@Int.toNat (@Int.tmod (@Go.IntKind.wrap Go.IntKind.i64 (Nat.cast (@LimA.n x) : Int)) (20 : Int))) x7))) ∧
 ((@Eq (@List ChangeD) (@List.take ChangeD x4 (@List.drop ChangeD (0 : Nat) (@limS (@Int.toNat (@Int.tmod (@Go.IntKind.wrap Go.IntKind.i64 (Nat.cast (@LimA.n x) : Int)) (20 : Int))) x7))) x20) ∧
 ((@Eq Bool (@fewC x20) Bool.true) ∧
 (∀ x21 : Unit,
 (True →
 ((∃ x22 : Nat,
 ((@Eq Int (0 : Int) (Nat.cast x22 : Int)) ∧
 (@Eq Bool (@Decidable.decide (@LE.le Int _ (Nat.cast x22 : Int) (@Int.tmod (@Go.IntKind.wrap Go.IntKind.i64 (Nat.cast (@LimA.n x) : Int)) (20 : Int))) _) Bool.true))) ∧
 (∀ x23 : Nat,
 ((@Eq Bool (@Decidable.decide (@LE.le Int _ (Nat.cast x23 : Int) (@Int.tmod (@Go.IntKind.wrap Go.IntKind.i64 (Nat.cast (@LimA.n x) : Int)) (20 : Int))) _) Bool.true) →
 (br (@Decidable.decide (@LT.lt Int _ (Nat.cast x23 : Int) (@Int.tmod (@Go.IntKind.wrap Go.IntKind.i64 (Nat.cast (@LimA.n x) : Int)) (20 : Int))) _)
 (br (@Decidable.decide ((@LE.le Int _ (0 : Int) (Nat.cast x23 : Int)) ∧
 (@LT.lt Int _ (Nat.cast x23 : Int) (Nat.cast (@List.length ChangeD x20) : Int))) _)
 (br (@Decidable.decide (@LT.lt Nat _ (@HAdd.hAdd _ _ _ _ (0 : Nat) (@Int.toNat (Nat.cast x23 : Int))) (@List.length ChangeD (@insS x20))) _)
 (br (@Bool.not (@BEq.beq Bs _ (@ChangeD.path (@List.getD ChangeD (@insS x20) (@HAdd.hAdd _ _ _ _ (0 : Nat) (@Int.toNat (Nat.cast x23 : Int))) (@ChangeD.mk (@List.nil UInt8) Bool.false (0 : Int)))) (@textOf (@List.take Int (1 : Nat) (@List.drop Int (0 : Nat) (@List.cons Int (@Go.IntKind.wrap Go.IntKind.u8 (@Go.IntKind.wrap Go.IntKind.i64 (@HAdd.hAdd Int Int Int _ (97 : Int) (Nat.cast x23 : Int)))) (@List.nil Int)))))))
 (@Eq Bool Bool.false Bool.true)
 (∃ x24 : Nat,
 ((@Eq Int (@Go.IntKind.wrap Go.IntKind.i64 (@HAdd.hAdd Int Int Int _ (Nat.cast x23 : Int) (1 : Int))) (Nat.cast x24 : Int)) ∧
 ((@Eq Bool (@Decidable.decide (@LE.le Int _ (Nat.cast x24 : Int) (@Int.tmod (@Go.IntKind.wrap Go.IntKind.i64 (Nat.cast (@LimA.n x) : Int)) (20 : Int))) _) Bool.true) ∧
 (@LT.lt Nat _ (@Nat.sub (@Int.toNat (@Int.tmod (@Go.IntKind.wrap Go.IntKind.i64 (Nat.cast (@LimA.n x) : Int)) (20 : Int))) x24) (@Nat.sub (@Int.toNat (@Int.tmod (@Go.IntKind.wrap Go.IntKind.i64 (Nat.cast (@LimA.n x) : Int)) (20 : Int))) x23))))))
 (Bad "check" "law.go:108"))
 (Bad "check" "law.go:108"))
 (br (@BEq.beq Int _ (@Int.tmod (@Go.IntKind.wrap Go.IntKind.i64 (Nat.cast (@LimA.n x) : Int)) (20 : Int)) (1 : Int))
 (@Eq Bool Bool.true Bool.true)
 (∃ x25 : (@List ChangeD),
 ((@LE.le Nat _ (@HAdd.hAdd _ _ _ _ (0 : Nat) (@HAdd.hAdd _ _ _ _ (0 : Nat) (@List.length ChangeD (@List.take ChangeD x4 (@List.drop ChangeD (0 : Nat) (@limS (@Int.toNat (@Int.tmod (@Go.IntKind.wrap Go.IntKind.i64 (Nat.cast (@LimA.n x) : Int)) (20 : Int))) x7)))))) (@List.length ChangeD (@List.set ChangeD (@HAppend.hAppend (@List ChangeD) (@List ChangeD) (@List ChangeD) _ (@List.take ChangeD (0 : Nat) (@List.drop ChangeD (0 : Nat) (@List.nil ChangeD))) (@List.take ChangeD x4 (@List.drop ChangeD (0 : Nat) (@limS (@Int.toNat (@Int.tmod (@Go.IntKind.wrap Go.IntKind.i64 (Nat.cast (@LimA.n x) : Int)) (20 : Int))) x7)))) (@HAdd.hAdd _ _ _ _ (0 : Nat) (@Int.toNat (@Int.tmod (@Go.IntKind.wrap Go.IntKind.i64 (Nat.cast (@LimA.twice x) : Int)) (@Int.tmod (@Go.IntKind.wrap Go.IntKind.i64 (Nat.cast (@LimA.n x) : Int)) (20 : Int))))) (@ChangeD.mk (@ChangeD.path (@List.getD ChangeD (@HAppend.hAppend (@List ChangeD) (@List ChangeD) (@List ChangeD) _ (@List.take ChangeD (0 : Nat) (@List.drop ChangeD (0 : Nat) (@List.nil ChangeD))) (@List.take ChangeD x4 (@List.drop ChangeD (0 : Nat) (@limS (@Int.toNat (@Int.tmod (@Go.IntKind.wrap Go.IntKind.i64 (Nat.cast (@LimA.n x) : Int)) (20 : Int))) x7)))) (@HAdd.hAdd _ _ _ _ (0 : Nat) (@Int.toNat (@Int.tmod (@Go.IntKind.wrap Go.IntKind.i64 (@HAdd.hAdd Int Int Int _ (@Go.IntKind.wrap Go.IntKind.i64 (Nat.cast (@LimA.twice x) : Int)) (1 : Int))) (@Int.tmod (@Go.IntKind.wrap Go.IntKind.i64 (Nat.cast (@LimA.n x) : Int)) (20 : Int))))) (@ChangeD.mk (@List.nil UInt8) Bool.false (0 : Int)))) (@ChangeD.gone (@List.getD ChangeD (@HAppend.hAppend (@List ChangeD) (@List ChangeD) (@List ChangeD) _ (@List.take ChangeD (0 : Nat) (@List.drop ChangeD (0 : Nat) (@List.nil ChangeD))) (@List.take ChangeD x4 (@List.drop ChangeD (0 : Nat) (@limS (@Int.toNat (@Int.tmod (@Go.IntKind.wrap Go.IntKind.i64 (Nat.cast (@LimA.n x) : Int)) (20 : Int))) x7)))) (@HAdd.hAdd _ _ _ _ (0 : Nat) (@Int.toNat (@Int.tmod (@Go.IntKind.wrap Go.IntKind.i64 (Nat.cast (@LimA.twice x) : Int)) (@Int.tmod (@Go.IntKind.wrap Go.IntKind.i64 (Nat.cast (@LimA.n x) : Int)) (20 : Int))))) (@ChangeD.mk (@List.nil UInt8) Bool.false (0 : Int)))) (@ChangeD.digest (@List.getD ChangeD (@HAppend.hAppend (@List ChangeD) (@List ChangeD) (@List ChangeD) _ (@List.take ChangeD (0 : Nat) (@List.drop ChangeD (0 : Nat) (@List.nil ChangeD))) (@List.take ChangeD x4 (@List.drop ChangeD (0 : Nat) (@limS (@Int.toNat (@Int.tmod (@Go.IntKind.wrap Go.IntKind.i64 (Nat.cast (@LimA.n x) : Int)) (20 : Int))) x7)))) (@HAdd.hAdd _ _ _ _ (0 : Nat) (@Int.toNat (@Int.tmod (@Go.IntKind.wrap Go.IntKind.i64 (Nat.cast (@LimA.twice x) : Int)) (@Int.tmod (@Go.IntKind.wrap Go.IntKind.i64 (Nat.cast (@LimA.n x) : Int)) (20 : Int))))) (@ChangeD.mk (@List.nil UInt8) Bool.false (0 : Int)))))))) ∧
 ((@Eq (@List ChangeD) (@List.take ChangeD (@HAdd.hAdd _ _ _ _ (0 : Nat) (@List.length ChangeD (@List.take ChangeD x4 (@List.drop ChangeD (0 : Nat) (@limS (@Int.toNat (@Int.tmod (@Go.IntKind.wrap Go.IntKind.i64 (Nat.cast (@LimA.n x) : Int)) (20 : Int))) x7))))) (@List.drop ChangeD (0 : Nat) (@List.set ChangeD (@HAppend.hAppend (@List ChangeD) (@List ChangeD) (@List ChangeD) _ (@List.take ChangeD (0 : Nat) (@List.drop ChangeD (0 : Nat) (@List.nil ChangeD))) (@List.take ChangeD x4 (@List.drop ChangeD (0 : Nat) (@limS (@Int.toNat (@Int.tmod (@Go.IntKind.wrap Go.IntKind.i64 (Nat.cast (@LimA.n x) : Int)) (20 : Int))) x7)))) (@HAdd.hAdd _ _ _ _ (0 : Nat) (@Int.toNat (@Int.tmod (@Go.IntKind.wrap Go.IntKind.i64 (Nat.cast (@LimA.twice x) : Int)) (@Int.tmod (@Go.IntKind.wrap Go.IntKind.i64 (Nat.cast (@LimA.n x) : Int)) (20 : Int))))) (@ChangeD.mk (@ChangeD.path (@List.getD ChangeD (@HAppend.hAppend (@List ChangeD) (@List ChangeD) (@List ChangeD) _ (@List.take ChangeD (0 : Nat) (@List.drop ChangeD (0 : Nat) (@List.nil ChangeD))) (@List.take ChangeD x4 (@List.drop ChangeD (0 : Nat) (@limS (@Int.toNat (@Int.tmod (@Go.IntKind.wrap Go.IntKind.i64 (Nat.cast (@LimA.n x) : Int)) (20 : Int))) x7)))) (@HAdd.hAdd _ _ _ _ (0 : Nat) (@Int.toNat (@Int.tmod (@Go.IntKind.wrap Go.IntKind.i64 (@HAdd.hAdd Int Int Int _ (@Go.IntKind.wrap Go.IntKind.i64 (Nat.cast (@LimA.twice x) : Int)) (1 : Int))) (@Int.tmod (@Go.IntKind.wrap Go.IntKind.i64 (Nat.cast (@LimA.n x) : Int)) (20 : Int))))) (@ChangeD.mk (@List.nil UInt8) Bool.false (0 : Int)))) (@ChangeD.gone (@List.getD ChangeD (@HAppend.hAppend (@List ChangeD) (@List ChangeD) (@List ChangeD) _ (@List.take ChangeD (0 : Nat) (@List.drop ChangeD (0 : Nat) (@List.nil ChangeD))) (@List.take ChangeD x4 (@List.drop ChangeD (0 : Nat) (@limS (@Int.toNat (@Int.tmod (@Go.IntKind.wrap Go.IntKind.i64 (Nat.cast (@LimA.n x) : Int)) (20 : Int))) x7)))) (@HAdd.hAdd _ _ _ _ (0 : Nat) (@Int.toNat (@Int.tmod (@Go.IntKind.wrap Go.IntKind.i64 (Nat.cast (@LimA.twice x) : Int)) (@Int.tmod (@Go.IntKind.wrap Go.IntKind.i64 (Nat.cast (@LimA.n x) : Int)) (20 : Int))))) (@ChangeD.mk (@List.nil UInt8) Bool.false (0 : Int)))) (@ChangeD.digest (@List.getD ChangeD (@HAppend.hAppend (@List ChangeD) (@List ChangeD) (@List ChangeD) _ (@List.take ChangeD (0 : Nat) (@List.drop ChangeD (0 : Nat) (@List.nil ChangeD))) (@List.take ChangeD x4 (@List.drop ChangeD (0 : Nat) (@limS (@Int.toNat (@Int.tmod (@Go.IntKind.wrap Go.IntKind.i64 (Nat.cast (@LimA.n x) : Int)) (20 : Int))) x7)))) (@HAdd.hAdd _ _ _ _ (0 : Nat) (@Int.toNat (@Int.tmod (@Go.IntKind.wrap Go.IntKind.i64 (Nat.cast (@LimA.twice x) : Int)) (@Int.tmod (@Go.IntKind.wrap Go.IntKind.i64 (Nat.cast (@LimA.n x) : Int)) (20 : Int))))) (@ChangeD.mk (@List.nil UInt8) Bool.false (0 : Int)))))))) x25) ∧
 ((@Eq Bool (@shortC x25) Bool.true) ∧
 (∀ x26 : Unit,
 (True →
 (@Eq Bool (@bne Int _ (@chkC x25) (0 : Int)) Bool.true))))))))))))))))))
 (Bad "check" "law.go:105"))
 (Bad "check" "law.go:105"))
 (Bad "check" "law.go:105"))
 (Bad "check" "law.go:105"))
 (Bad "check" "law.go:105"))
 (Bad "check" "law.go:105"))
 (Bad "check" "law.go:104"))))))))))))))))
 (br (@Decidable.decide (@GE.ge Int _ (@Int.tmod (@Go.IntKind.wrap Go.IntKind.i64 (Nat.cast (@LimA.n x) : Int)) (20 : Int)) (1 : Int)) _)
 (∃ x27 : (@List ChangeD),
 ((@LE.le Nat _ (@HAdd.hAdd _ _ _ _ (0 : Nat) x4) (@List.length ChangeD (@limL x4))) ∧
 ((@Eq (@List ChangeD) (@List.take ChangeD x4 (@List.drop ChangeD (0 : Nat) (@limL x4))) x27) ∧
 ((@Eq Bool (@shortC x27) Bool.true) ∧
 (∀ x28 : Unit,
 (True →
 (br (@Bool.not (@BEq.beq Bool _ (@BEq.beq Int _ (@chkC x27) (0 : Int)) (@Decidable.decide (@LE.le Int _ (@Int.tmod (@Go.IntKind.wrap Go.IntKind.i64 (Nat.cast (@LimA.n x) : Int)) (20 : Int)) (16 : Int)) _)))
 (@Eq Bool Bool.false Bool.true)
 (br (@BEq.beq Int _ (@Int.tmod (@Go.IntKind.wrap Go.IntKind.i64 (Nat.cast (@LimA.n x) : Int)) (20 : Int)) (0 : Int))
 (@Eq Bool Bool.true Bool.true)
 (((@Nat.le (@HMul.hMul _ _ _ _ (0 : Nat) (32 : Nat)) room47) ∧
 (@Nat.le (@HMul.hMul _ _ _ _ x4 (32 : Nat)) room47)) →
 (br (@Bool.and (@Bool.and (@Decidable.decide (@LE.le Nat _ (@HAdd.hAdd _ _ _ _ (0 : Nat) x4) (@List.length ChangeD (@limL x4))) _) (@Decidable.decide (@LE.le Nat _ (@HAdd.hAdd _ _ _ _ (0 : Nat) (0 : Nat)) (@List.length ChangeD (@List.nil ChangeD))) _)) (@Decidable.decide (@LE.le Nat _ (@HMul.hMul _ _ _ _ (@HAdd.hAdd _ _ _ _ (0 : Nat) (@List.length ChangeD (@List.take ChangeD x4 (@List.drop ChangeD (0 : Nat) (@limL x4))))) (32 : Nat)) room47) _))
 (br (@bne Int _ (@Int.tmod (@Go.IntKind.wrap Go.IntKind.i64 (Nat.cast (@LimA.n x) : Int)) (20 : Int)) (0 : Int))
 (br (@bne Int _ (@Int.tmod (@Go.IntKind.wrap Go.IntKind.i64 (Nat.cast (@LimA.n x) : Int)) (20 : Int)) (0 : Int))
 (br (@Decidable.decide ((@LE.le Int _ (0 : Int) (@Int.tmod (@Go.IntKind.wrap Go.IntKind.i64 (@HAdd.hAdd Int Int Int _ (@Go.IntKind.wrap Go.IntKind.i64 (Nat.cast (@LimA.twice x) : Int)) (1 : Int))) (@Int.tmod (@Go.IntKind.wrap Go.IntKind.i64 (Nat.cast (@LimA.n x) : Int)) (20 : Int)))) ∧
 (@LT.lt Int _ (@Int.tmod (@Go.IntKind.wrap Go.IntKind.i64 (@HAdd.hAdd Int Int Int _ (@Go.IntKind.wrap Go.IntKind.i64 (Nat.cast (@LimA.twice x) : Int)) (1 : Int))) (@Int.tmod (@Go.IntKind.wrap Go.IntKind.i64 (Nat.cast (@LimA.n x) : Int)) (20 : Int))) (Nat.cast (@HAdd.hAdd _ _ _ _ (0 : Nat) (@List.length ChangeD (@List.take ChangeD x4 (@List.drop ChangeD (0 : Nat) (@limL x4))))) : Int))) _)
 (br (@Decidable.decide (@LT.lt Nat _ (@HAdd.hAdd _ _ _ _ (0 : Nat) (@Int.toNat (@Int.tmod (@Go.IntKind.wrap Go.IntKind.i64 (@HAdd.hAdd Int Int Int _ (@Go.IntKind.wrap Go.IntKind.i64 (Nat.cast (@LimA.twice x) : Int)) (1 : Int))) (@Int.tmod (@Go.IntKind.wrap Go.IntKind.i64 (Nat.cast (@LimA.n x) : Int)) (20 : Int))))) (@List.length ChangeD (@HAppend.hAppend (@List ChangeD) (@List ChangeD) (@List ChangeD) _ (@List.take ChangeD (0 : Nat) (@List.drop ChangeD (0 : Nat) (@List.nil ChangeD))) (@List.take ChangeD x4 (@List.drop ChangeD (0 : Nat) (@limL x4)))))) _)
 (br (@Decidable.decide ((@LE.le Int _ (0 : Int) (@Int.tmod (@Go.IntKind.wrap Go.IntKind.i64 (Nat.cast (@LimA.twice x) : Int)) (@Int.tmod (@Go.IntKind.wrap Go.IntKind.i64 (Nat.cast (@LimA.n x) : Int)) (20 : Int)))) ∧
 (@LT.lt Int _ (@Int.tmod (@Go.IntKind.wrap Go.IntKind.i64 (Nat.cast (@LimA.twice x) : Int)) (@Int.tmod (@Go.IntKind.wrap Go.IntKind.i64 (Nat.cast (@LimA.n x) : Int)) (20 : Int))) (Nat.cast (@HAdd.hAdd _ _ _ _ (0 : Nat) (@List.length ChangeD (@List.take ChangeD x4 (@List.drop ChangeD (0 : Nat) (@limL x4))))) : Int))) _)
 (br (@Bool.and Bool.true (@Decidable.decide (@LT.lt Nat _ (@HAdd.hAdd _ _ _ _ (0 : Nat) (@Int.toNat (@Int.tmod (@Go.IntKind.wrap Go.IntKind.i64 (Nat.cast (@LimA.twice x) : Int)) (@Int.tmod (@Go.IntKind.wrap Go.IntKind.i64 (Nat.cast (@LimA.n x) : Int)) (20 : Int))))) (@List.length ChangeD (@HAppend.hAppend (@List ChangeD) (@List ChangeD) (@List ChangeD) _ (@List.take ChangeD (0 : Nat) (@List.drop ChangeD (0 : Nat) (@List.nil ChangeD))) (@List.take ChangeD x4 (@List.drop ChangeD (0 : Nat) (@limL x4)))))) _))
 (∃ x29 : (@List ChangeD),
 ((@LE.le Nat _ (@HAdd.hAdd _ _ _ _ (0 : Nat) x4) (@List.length ChangeD (@limL x4))) ∧
 ((@Eq (@List ChangeD) (@List.take ChangeD x4 (@List.drop ChangeD (0 : Nat) (@limL x4))) x29) ∧
 ((@Eq Bool (@fewC x29) Bool.true) ∧
 (∀ x30 : Unit,
 (True →
 ((∃ x31 : Nat,
 ((@Eq Int (0 : Int) (Nat.cast x31 : Int)) ∧
 (@Eq Bool (@Decidable.decide (@LE.le Int _ (Nat.cast x31 : Int) (@Int.tmod (@Go.IntKind.wrap Go.IntKind.i64 (Nat.cast (@LimA.n x) : Int)) (20 : Int))) _) Bool.true))) ∧
 (∀ x32 : Nat,
 ((@Eq Bool (@Decidable.decide (@LE.le Int _ (Nat.cast x32 : Int) (@Int.tmod (@Go.IntKind.wrap Go.IntKind.i64 (Nat.cast (@LimA.n x) : Int)) (20 : Int))) _) Bool.true) →
 (br (@Decidable.decide (@LT.lt Int _ (Nat.cast x32 : Int) (@Int.tmod (@Go.IntKind.wrap Go.IntKind.i64 (Nat.cast (@LimA.n x) : Int)) (20 : Int))) _)
 (br (@Decidable.decide ((@LE.le Int _ (0 : Int) (Nat.cast x32 : Int)) ∧
 (@LT.lt Int _ (Nat.cast x32 : Int) (Nat.cast (@List.length ChangeD x29) : Int))) _)
 (br (@Decidable.decide (@LT.lt Nat _ (@HAdd.hAdd _ _ _ _ (0 : Nat) (@Int.toNat (Nat.cast x32 : Int))) (@List.length ChangeD (@insS x29))) _)
 (br (@Bool.not (@BEq.beq Bs _ (@ChangeD.path (@List.getD ChangeD (@insS x29) (@HAdd.hAdd _ _ _ _ (0 : Nat) (@Int.toNat (Nat.cast x32 : Int))) (@ChangeD.mk (@List.nil UInt8) Bool.false (0 : Int)))) (@textOf (@List.take Int (1 : Nat) (@List.drop Int (0 : Nat) (@List.cons Int (@Go.IntKind.wrap Go.IntKind.u8 (@Go.IntKind.wrap Go.IntKind.i64 (@HAdd.hAdd Int Int Int _ (97 : Int) (Nat.cast x32 : Int)))) (@List.nil Int)))))))
 (@Eq Bool Bool.false Bool.true)
 (∃ x33 : Nat,
 ((@Eq Int (@Go.IntKind.wrap Go.IntKind.i64 (@HAdd.hAdd Int Int Int _ (Nat.cast x32 : Int) (1 : Int))) (Nat.cast x33 : Int)) ∧
 ((@Eq Bool (@Decidable.decide (@LE.le Int _ (Nat.cast x33 : Int) (@Int.tmod (@Go.IntKind.wrap Go.IntKind.i64 (Nat.cast (@LimA.n x) : Int)) (20 : Int))) _) Bool.true) ∧
 (@LT.lt Nat _ (@Nat.sub (@Int.toNat (@Int.tmod (@Go.IntKind.wrap Go.IntKind.i64 (Nat.cast (@LimA.n x) : Int)) (20 : Int))) x33) (@Nat.sub (@Int.toNat (@Int.tmod (@Go.IntKind.wrap Go.IntKind.i64 (Nat.cast (@LimA.n x) : Int)) (20 : Int))) x32))))))
 (Bad "check" "law.go:108"))
 (Bad "check" "law.go:108"))
 (br (@BEq.beq Int _ (@Int.tmod (@Go.IntKind.wrap Go.IntKind.i64 (Nat.cast (@LimA.n x) : Int)) (20 : Int)) (1 : Int))
 (@Eq Bool Bool.true Bool.true)
 (∃ x34 : (@List ChangeD),
 ((@LE.le Nat _ (@HAdd.hAdd _ _ _ _ (0 : Nat) (@HAdd.hAdd _ _ _ _ (0 : Nat) (@List.length ChangeD (@List.take ChangeD x4 (@List.drop ChangeD (0 : Nat) (@limL x4)))))) (@List.length ChangeD (@List.set ChangeD (@HAppend.hAppend (@List ChangeD) (@List ChangeD) (@List ChangeD) _ (@List.take ChangeD (0 : Nat) (@List.drop ChangeD (0 : Nat) (@List.nil ChangeD))) (@List.take ChangeD x4 (@List.drop ChangeD (0 : Nat) (@limL x4)))) (@HAdd.hAdd _ _ _ _ (0 : Nat) (@Int.toNat (@Int.tmod (@Go.IntKind.wrap Go.IntKind.i64 (Nat.cast (@LimA.twice x) : Int)) (@Int.tmod (@Go.IntKind.wrap Go.IntKind.i64 (Nat.cast (@LimA.n x) : Int)) (20 : Int))))) (@ChangeD.mk (@ChangeD.path (@List.getD ChangeD (@HAppend.hAppend (@List ChangeD) (@List ChangeD) (@List ChangeD) _ (@List.take ChangeD (0 : Nat) (@List.drop ChangeD (0 : Nat) (@List.nil ChangeD))) (@List.take ChangeD x4 (@List.drop ChangeD (0 : Nat) (@limL x4)))) (@HAdd.hAdd _ _ _ _ (0 : Nat) (@Int.toNat (@Int.tmod (@Go.IntKind.wrap Go.IntKind.i64 (@HAdd.hAdd Int Int Int _ (@Go.IntKind.wrap Go.IntKind.i64 (Nat.cast (@LimA.twice x) : Int)) (1 : Int))) (@Int.tmod (@Go.IntKind.wrap Go.IntKind.i64 (Nat.cast (@LimA.n x) : Int)) (20 : Int))))) (@ChangeD.mk (@List.nil UInt8) Bool.false (0 : Int)))) (@ChangeD.gone (@List.getD ChangeD (@HAppend.hAppend (@List ChangeD) (@List ChangeD) (@List ChangeD) _ (@List.take ChangeD (0 : Nat) (@List.drop ChangeD (0 : Nat) (@List.nil ChangeD))) (@List.take ChangeD x4 (@List.drop ChangeD (0 : Nat) (@limL x4)))) (@HAdd.hAdd _ _ _ _ (0 : Nat) (@Int.toNat (@Int.tmod (@Go.IntKind.wrap Go.IntKind.i64 (Nat.cast (@LimA.twice x) : Int)) (@Int.tmod (@Go.IntKind.wrap Go.IntKind.i64 (Nat.cast (@LimA.n x) : Int)) (20 : Int))))) (@ChangeD.mk (@List.nil UInt8) Bool.false (0 : Int)))) (@ChangeD.digest (@List.getD ChangeD (@HAppend.hAppend (@List ChangeD) (@List ChangeD) (@List ChangeD) _ (@List.take ChangeD (0 : Nat) (@List.drop ChangeD (0 : Nat) (@List.nil ChangeD))) (@List.take ChangeD x4 (@List.drop ChangeD (0 : Nat) (@limL x4)))) (@HAdd.hAdd _ _ _ _ (0 : Nat) (@Int.toNat (@Int.tmod (@Go.IntKind.wrap Go.IntKind.i64 (Nat.cast (@LimA.twice x) : Int)) (@Int.tmod (@Go.IntKind.wrap Go.IntKind.i64 (Nat.cast (@LimA.n x) : Int)) (20 : Int))))) (@ChangeD.mk (@List.nil UInt8) Bool.false (0 : Int)))))))) ∧
 ((@Eq (@List ChangeD) (@List.take ChangeD (@HAdd.hAdd _ _ _ _ (0 : Nat) (@List.length ChangeD (@List.take ChangeD x4 (@List.drop ChangeD (0 : Nat) (@limL x4))))) (@List.drop ChangeD (0 : Nat) (@List.set ChangeD (@HAppend.hAppend (@List ChangeD) (@List ChangeD) (@List ChangeD) _ (@List.take ChangeD (0 : Nat) (@List.drop ChangeD (0 : Nat) (@List.nil ChangeD))) (@List.take ChangeD x4 (@List.drop ChangeD (0 : Nat) (@limL x4)))) (@HAdd.hAdd _ _ _ _ (0 : Nat) (@Int.toNat (@Int.tmod (@Go.IntKind.wrap Go.IntKind.i64 (Nat.cast (@LimA.twice x) : Int)) (@Int.tmod (@Go.IntKind.wrap Go.IntKind.i64 (Nat.cast (@LimA.n x) : Int)) (20 : Int))))) (@ChangeD.mk (@ChangeD.path (@List.getD ChangeD (@HAppend.hAppend (@List ChangeD) (@List ChangeD) (@List ChangeD) _ (@List.take ChangeD (0 : Nat) (@List.drop ChangeD (0 : Nat) (@List.nil ChangeD))) (@List.take ChangeD x4 (@List.drop ChangeD (0 : Nat) (@limL x4)))) (@HAdd.hAdd _ _ _ _ (0 : Nat) (@Int.toNat (@Int.tmod (@Go.IntKind.wrap Go.IntKind.i64 (@HAdd.hAdd Int Int Int _ (@Go.IntKind.wrap Go.IntKind.i64 (Nat.cast (@LimA.twice x) : Int)) (1 : Int))) (@Int.tmod (@Go.IntKind.wrap Go.IntKind.i64 (Nat.cast (@LimA.n x) : Int)) (20 : Int))))) (@ChangeD.mk (@List.nil UInt8) Bool.false (0 : Int)))) (@ChangeD.gone (@List.getD ChangeD (@HAppend.hAppend (@List ChangeD) (@List ChangeD) (@List ChangeD) _ (@List.take ChangeD (0 : Nat) (@List.drop ChangeD (0 : Nat) (@List.nil ChangeD))) (@List.take ChangeD x4 (@List.drop ChangeD (0 : Nat) (@limL x4)))) (@HAdd.hAdd _ _ _ _ (0 : Nat) (@Int.toNat (@Int.tmod (@Go.IntKind.wrap Go.IntKind.i64 (Nat.cast (@LimA.twice x) : Int)) (@Int.tmod (@Go.IntKind.wrap Go.IntKind.i64 (Nat.cast (@LimA.n x) : Int)) (20 : Int))))) (@ChangeD.mk (@List.nil UInt8) Bool.false (0 : Int)))) (@ChangeD.digest (@List.getD ChangeD (@HAppend.hAppend (@List ChangeD) (@List ChangeD) (@List ChangeD) _ (@List.take ChangeD (0 : Nat) (@List.drop ChangeD (0 : Nat) (@List.nil ChangeD))) (@List.take ChangeD x4 (@List.drop ChangeD (0 : Nat) (@limL x4)))) (@HAdd.hAdd _ _ _ _ (0 : Nat) (@Int.toNat (@Int.tmod (@Go.IntKind.wrap Go.IntKind.i64 (Nat.cast (@LimA.twice x) : Int)) (@Int.tmod (@Go.IntKind.wrap Go.IntKind.i64 (Nat.cast (@LimA.n x) : Int)) (20 : Int))))) (@ChangeD.mk (@List.nil UInt8) Bool.false (0 : Int)))))))) x34) ∧
 ((@Eq Bool (@shortC x34) Bool.true) ∧
 (∀ x35 : Unit,
 (True →
 (@Eq Bool (@bne Int _ (@chkC x34) (0 : Int)) Bool.true))))))))))))))))))
 (Bad "check" "law.go:105"))
 (Bad "check" "law.go:105"))
 (Bad "check" "law.go:105"))
 (Bad "check" "law.go:105"))
 (Bad "check" "law.go:105"))
 (Bad "check" "law.go:105"))
 (Bad "check" "law.go:104")))))))))))
 (∃ x36 : (@List ChangeD),
 ((@LE.le Nat _ (@HAdd.hAdd _ _ _ _ (0 : Nat) x4) (@List.length ChangeD (@limL x4))) ∧
 ((@Eq (@List ChangeD) (@List.take ChangeD x4 (@List.drop ChangeD (0 : Nat) (@limL x4))) x36) ∧
 ((@Eq Bool (@shortC x36) Bool.true) ∧
 (∀ x37 : Unit,
 (True →
 (br (@Bool.not (@BEq.beq Bool _ (@BEq.beq Int _ (@chkC x36) (0 : Int)) Bool.false))
 (@Eq Bool Bool.false Bool.true)
 (br (@BEq.beq Int _ (@Int.tmod (@Go.IntKind.wrap Go.IntKind.i64 (Nat.cast (@LimA.n x) : Int)) (20 : Int)) (0 : Int))
 (@Eq Bool Bool.true Bool.true)
 (((@Nat.le (@HMul.hMul _ _ _ _ (0 : Nat) (32 : Nat)) room47) ∧
 (@Nat.le (@HMul.hMul _ _ _ _ x4 (32 : Nat)) room47)) →
 (br (@Bool.and (@Bool.and (@Decidable.decide (@LE.le Nat _ (@HAdd.hAdd _ _ _ _ (0 : Nat) x4) (@List.length ChangeD (@limL x4))) _) (@Decidable.decide (@LE.le Nat _ (@HAdd.hAdd _ _ _ _ (0 : Nat) (0 : Nat)) (@List.length ChangeD (@List.nil ChangeD))) _)) (@Decidable.decide (@LE.le Nat _ (@HMul.hMul _ _ _ _ (@HAdd.hAdd _ _ _ _ (0 : Nat) (@List.length ChangeD (@List.take ChangeD x4 (@List.drop ChangeD (0 : Nat) (@limL x4))))) (32 : Nat)) room47) _))
 (br (@bne Int _ (@Int.tmod (@Go.IntKind.wrap Go.IntKind.i64 (Nat.cast (@LimA.n x) : Int)) (20 : Int)) (0 : Int))
 (br (@bne Int _ (@Int.tmod (@Go.IntKind.wrap Go.IntKind.i64 (Nat.cast (@LimA.n x) : Int)) (20 : Int)) (0 : Int))
 (br (@Decidable.decide ((@LE.le Int _ (0 : Int) (@Int.tmod (@Go.IntKind.wrap Go.IntKind.i64 (@HAdd.hAdd Int Int Int _ (@Go.IntKind.wrap Go.IntKind.i64 (Nat.cast (@LimA.twice x) : Int)) (1 : Int))) (@Int.tmod (@Go.IntKind.wrap Go.IntKind.i64 (Nat.cast (@LimA.n x) : Int)) (20 : Int)))) ∧
 (@LT.lt Int _ (@Int.tmod (@Go.IntKind.wrap Go.IntKind.i64 (@HAdd.hAdd Int Int Int _ (@Go.IntKind.wrap Go.IntKind.i64 (Nat.cast (@LimA.twice x) : Int)) (1 : Int))) (@Int.tmod (@Go.IntKind.wrap Go.IntKind.i64 (Nat.cast (@LimA.n x) : Int)) (20 : Int))) (Nat.cast (@HAdd.hAdd _ _ _ _ (0 : Nat) (@List.length ChangeD (@List.take ChangeD x4 (@List.drop ChangeD (0 : Nat) (@limL x4))))) : Int))) _)
 (br (@Decidable.decide (@LT.lt Nat _ (@HAdd.hAdd _ _ _ _ (0 : Nat) (@Int.toNat (@Int.tmod (@Go.IntKind.wrap Go.IntKind.i64 (@HAdd.hAdd Int Int Int _ (@Go.IntKind.wrap Go.IntKind.i64 (Nat.cast (@LimA.twice x) : Int)) (1 : Int))) (@Int.tmod (@Go.IntKind.wrap Go.IntKind.i64 (Nat.cast (@LimA.n x) : Int)) (20 : Int))))) (@List.length ChangeD (@HAppend.hAppend (@List ChangeD) (@List ChangeD) (@List ChangeD) _ (@List.take ChangeD (0 : Nat) (@List.drop ChangeD (0 : Nat) (@List.nil ChangeD))) (@List.take ChangeD x4 (@List.drop ChangeD (0 : Nat) (@limL x4)))))) _)
 (br (@Decidable.decide ((@LE.le Int _ (0 : Int) (@Int.tmod (@Go.IntKind.wrap Go.IntKind.i64 (Nat.cast (@LimA.twice x) : Int)) (@Int.tmod (@Go.IntKind.wrap Go.IntKind.i64 (Nat.cast (@LimA.n x) : Int)) (20 : Int)))) ∧
 (@LT.lt Int _ (@Int.tmod (@Go.IntKind.wrap Go.IntKind.i64 (Nat.cast (@LimA.twice x) : Int)) (@Int.tmod (@Go.IntKind.wrap Go.IntKind.i64 (Nat.cast (@LimA.n x) : Int)) (20 : Int))) (Nat.cast (@HAdd.hAdd _ _ _ _ (0 : Nat) (@List.length ChangeD (@List.take ChangeD x4 (@List.drop ChangeD (0 : Nat) (@limL x4))))) : Int))) _)
 (br (@Bool.and Bool.true (@Decidable.decide (@LT.lt Nat _ (@HAdd.hAdd _ _ _ _ (0 : Nat) (@Int.toNat (@Int.tmod (@Go.IntKind.wrap Go.IntKind.i64 (Nat.cast (@LimA.twice x) : Int)) (@Int.tmod (@Go.IntKind.wrap Go.IntKind.i64 (Nat.cast (@LimA.n x) : Int)) (20 : Int))))) (@List.length ChangeD (@HAppend.hAppend (@List ChangeD) (@List ChangeD) (@List ChangeD) _ (@List.take ChangeD (0 : Nat) (@List.drop ChangeD (0 : Nat) (@List.nil ChangeD))) (@List.take ChangeD x4 (@List.drop ChangeD (0 : Nat) (@limL x4)))))) _))
 (∃ x38 : (@List ChangeD),
 ((@LE.le Nat _ (@HAdd.hAdd _ _ _ _ (0 : Nat) x4) (@List.length ChangeD (@limL x4))) ∧
 ((@Eq (@List ChangeD) (@List.take ChangeD x4 (@List.drop ChangeD (0 : Nat) (@limL x4))) x38) ∧
 ((@Eq Bool (@fewC x38) Bool.true) ∧
 (∀ x39 : Unit,
 (True →
 ((∃ x40 : Nat,
 ((@Eq Int (0 : Int) (Nat.cast x40 : Int)) ∧
 (@Eq Bool (@Decidable.decide (@LE.le Int _ (Nat.cast x40 : Int) (@Int.tmod (@Go.IntKind.wrap Go.IntKind.i64 (Nat.cast (@LimA.n x) : Int)) (20 : Int))) _) Bool.true))) ∧
 (∀ x41 : Nat,
 ((@Eq Bool (@Decidable.decide (@LE.le Int _ (Nat.cast x41 : Int) (@Int.tmod (@Go.IntKind.wrap Go.IntKind.i64 (Nat.cast (@LimA.n x) : Int)) (20 : Int))) _) Bool.true) →
 (br (@Decidable.decide (@LT.lt Int _ (Nat.cast x41 : Int) (@Int.tmod (@Go.IntKind.wrap Go.IntKind.i64 (Nat.cast (@LimA.n x) : Int)) (20 : Int))) _)
 (br (@Decidable.decide ((@LE.le Int _ (0 : Int) (Nat.cast x41 : Int)) ∧
 (@LT.lt Int _ (Nat.cast x41 : Int) (Nat.cast (@List.length ChangeD x38) : Int))) _)
 (br (@Decidable.decide (@LT.lt Nat _ (@HAdd.hAdd _ _ _ _ (0 : Nat) (@Int.toNat (Nat.cast x41 : Int))) (@List.length ChangeD (@insS x38))) _)
 (br (@Bool.not (@BEq.beq Bs _ (@ChangeD.path (@List.getD ChangeD (@insS x38) (@HAdd.hAdd _ _ _ _ (0 : Nat) (@Int.toNat (Nat.cast x41 : Int))) (@ChangeD.mk (@List.nil UInt8) Bool.false (0 : Int)))) (@textOf (@List.take Int (1 : Nat) (@List.drop Int (0 : Nat) (@List.cons Int (@Go.IntKind.wrap Go.IntKind.u8 (@Go.IntKind.wrap Go.IntKind.i64 (@HAdd.hAdd Int Int Int _ (97 : Int) (Nat.cast x41 : Int)))) (@List.nil Int)))))))
 (@Eq Bool Bool.false Bool.true)
 (∃ x42 : Nat,
 ((@Eq Int (@Go.IntKind.wrap Go.IntKind.i64 (@HAdd.hAdd Int Int Int _ (Nat.cast x41 : Int) (1 : Int))) (Nat.cast x42 : Int)) ∧
 ((@Eq Bool (@Decidable.decide (@LE.le Int _ (Nat.cast x42 : Int) (@Int.tmod (@Go.IntKind.wrap Go.IntKind.i64 (Nat.cast (@LimA.n x) : Int)) (20 : Int))) _) Bool.true) ∧
 (@LT.lt Nat _ (@Nat.sub (@Int.toNat (@Int.tmod (@Go.IntKind.wrap Go.IntKind.i64 (Nat.cast (@LimA.n x) : Int)) (20 : Int))) x42) (@Nat.sub (@Int.toNat (@Int.tmod (@Go.IntKind.wrap Go.IntKind.i64 (Nat.cast (@LimA.n x) : Int)) (20 : Int))) x41))))))
 (Bad "check" "law.go:108"))
 (Bad "check" "law.go:108"))
 (br (@BEq.beq Int _ (@Int.tmod (@Go.IntKind.wrap Go.IntKind.i64 (Nat.cast (@LimA.n x) : Int)) (20 : Int)) (1 : Int))
 (@Eq Bool Bool.true Bool.true)
 (∃ x43 : (@List ChangeD),
 ((@LE.le Nat _ (@HAdd.hAdd _ _ _ _ (0 : Nat) (@HAdd.hAdd _ _ _ _ (0 : Nat) (@List.length ChangeD (@List.take ChangeD x4 (@List.drop ChangeD (0 : Nat) (@limL x4)))))) (@List.length ChangeD (@List.set ChangeD (@HAppend.hAppend (@List ChangeD) (@List ChangeD) (@List ChangeD) _ (@List.take ChangeD (0 : Nat) (@List.drop ChangeD (0 : Nat) (@List.nil ChangeD))) (@List.take ChangeD x4 (@List.drop ChangeD (0 : Nat) (@limL x4)))) (@HAdd.hAdd _ _ _ _ (0 : Nat) (@Int.toNat (@Int.tmod (@Go.IntKind.wrap Go.IntKind.i64 (Nat.cast (@LimA.twice x) : Int)) (@Int.tmod (@Go.IntKind.wrap Go.IntKind.i64 (Nat.cast (@LimA.n x) : Int)) (20 : Int))))) (@ChangeD.mk (@ChangeD.path (@List.getD ChangeD (@HAppend.hAppend (@List ChangeD) (@List ChangeD) (@List ChangeD) _ (@List.take ChangeD (0 : Nat) (@List.drop ChangeD (0 : Nat) (@List.nil ChangeD))) (@List.take ChangeD x4 (@List.drop ChangeD (0 : Nat) (@limL x4)))) (@HAdd.hAdd _ _ _ _ (0 : Nat) (@Int.toNat (@Int.tmod (@Go.IntKind.wrap Go.IntKind.i64 (@HAdd.hAdd Int Int Int _ (@Go.IntKind.wrap Go.IntKind.i64 (Nat.cast (@LimA.twice x) : Int)) (1 : Int))) (@Int.tmod (@Go.IntKind.wrap Go.IntKind.i64 (Nat.cast (@LimA.n x) : Int)) (20 : Int))))) (@ChangeD.mk (@List.nil UInt8) Bool.false (0 : Int)))) (@ChangeD.gone (@List.getD ChangeD (@HAppend.hAppend (@List ChangeD) (@List ChangeD) (@List ChangeD) _ (@List.take ChangeD (0 : Nat) (@List.drop ChangeD (0 : Nat) (@List.nil ChangeD))) (@List.take ChangeD x4 (@List.drop ChangeD (0 : Nat) (@limL x4)))) (@HAdd.hAdd _ _ _ _ (0 : Nat) (@Int.toNat (@Int.tmod (@Go.IntKind.wrap Go.IntKind.i64 (Nat.cast (@LimA.twice x) : Int)) (@Int.tmod (@Go.IntKind.wrap Go.IntKind.i64 (Nat.cast (@LimA.n x) : Int)) (20 : Int))))) (@ChangeD.mk (@List.nil UInt8) Bool.false (0 : Int)))) (@ChangeD.digest (@List.getD ChangeD (@HAppend.hAppend (@List ChangeD) (@List ChangeD) (@List ChangeD) _ (@List.take ChangeD (0 : Nat) (@List.drop ChangeD (0 : Nat) (@List.nil ChangeD))) (@List.take ChangeD x4 (@List.drop ChangeD (0 : Nat) (@limL x4)))) (@HAdd.hAdd _ _ _ _ (0 : Nat) (@Int.toNat (@Int.tmod (@Go.IntKind.wrap Go.IntKind.i64 (Nat.cast (@LimA.twice x) : Int)) (@Int.tmod (@Go.IntKind.wrap Go.IntKind.i64 (Nat.cast (@LimA.n x) : Int)) (20 : Int))))) (@ChangeD.mk (@List.nil UInt8) Bool.false (0 : Int)))))))) ∧
 ((@Eq (@List ChangeD) (@List.take ChangeD (@HAdd.hAdd _ _ _ _ (0 : Nat) (@List.length ChangeD (@List.take ChangeD x4 (@List.drop ChangeD (0 : Nat) (@limL x4))))) (@List.drop ChangeD (0 : Nat) (@List.set ChangeD (@HAppend.hAppend (@List ChangeD) (@List ChangeD) (@List ChangeD) _ (@List.take ChangeD (0 : Nat) (@List.drop ChangeD (0 : Nat) (@List.nil ChangeD))) (@List.take ChangeD x4 (@List.drop ChangeD (0 : Nat) (@limL x4)))) (@HAdd.hAdd _ _ _ _ (0 : Nat) (@Int.toNat (@Int.tmod (@Go.IntKind.wrap Go.IntKind.i64 (Nat.cast (@LimA.twice x) : Int)) (@Int.tmod (@Go.IntKind.wrap Go.IntKind.i64 (Nat.cast (@LimA.n x) : Int)) (20 : Int))))) (@ChangeD.mk (@ChangeD.path (@List.getD ChangeD (@HAppend.hAppend (@List ChangeD) (@List ChangeD) (@List ChangeD) _ (@List.take ChangeD (0 : Nat) (@List.drop ChangeD (0 : Nat) (@List.nil ChangeD))) (@List.take ChangeD x4 (@List.drop ChangeD (0 : Nat) (@limL x4)))) (@HAdd.hAdd _ _ _ _ (0 : Nat) (@Int.toNat (@Int.tmod (@Go.IntKind.wrap Go.IntKind.i64 (@HAdd.hAdd Int Int Int _ (@Go.IntKind.wrap Go.IntKind.i64 (Nat.cast (@LimA.twice x) : Int)) (1 : Int))) (@Int.tmod (@Go.IntKind.wrap Go.IntKind.i64 (Nat.cast (@LimA.n x) : Int)) (20 : Int))))) (@ChangeD.mk (@List.nil UInt8) Bool.false (0 : Int)))) (@ChangeD.gone (@List.getD ChangeD (@HAppend.hAppend (@List ChangeD) (@List ChangeD) (@List ChangeD) _ (@List.take ChangeD (0 : Nat) (@List.drop ChangeD (0 : Nat) (@List.nil ChangeD))) (@List.take ChangeD x4 (@List.drop ChangeD (0 : Nat) (@limL x4)))) (@HAdd.hAdd _ _ _ _ (0 : Nat) (@Int.toNat (@Int.tmod (@Go.IntKind.wrap Go.IntKind.i64 (Nat.cast (@LimA.twice x) : Int)) (@Int.tmod (@Go.IntKind.wrap Go.IntKind.i64 (Nat.cast (@LimA.n x) : Int)) (20 : Int))))) (@ChangeD.mk (@List.nil UInt8) Bool.false (0 : Int)))) (@ChangeD.digest (@List.getD ChangeD (@HAppend.hAppend (@List ChangeD) (@List ChangeD) (@List ChangeD) _ (@List.take ChangeD (0 : Nat) (@List.drop ChangeD (0 : Nat) (@List.nil ChangeD))) (@List.take ChangeD x4 (@List.drop ChangeD (0 : Nat) (@limL x4)))) (@HAdd.hAdd _ _ _ _ (0 : Nat) (@Int.toNat (@Int.tmod (@Go.IntKind.wrap Go.IntKind.i64 (Nat.cast (@LimA.twice x) : Int)) (@Int.tmod (@Go.IntKind.wrap Go.IntKind.i64 (Nat.cast (@LimA.n x) : Int)) (20 : Int))))) (@ChangeD.mk (@List.nil UInt8) Bool.false (0 : Int)))))))) x43) ∧
 ((@Eq Bool (@shortC x43) Bool.true) ∧
 (∀ x44 : Unit,
 (True →
 (@Eq Bool (@bne Int _ (@chkC x43) (0 : Int)) Bool.true))))))))))))))))))
 (Bad "check" "law.go:105"))
 (Bad "check" "law.go:105"))
 (Bad "check" "law.go:105"))
 (Bad "check" "law.go:105"))
 (Bad "check" "law.go:105"))
 (Bad "check" "law.go:105"))
 (Bad "check" "law.go:104")))))))))))))))))))))) := by kernel_rfl

end Go.Proofs.Ytkhiifaldbjpbaa.Ses

namespace Go.Proofs.Ytkhiifaldbjpbaa.Ses
open Go Go.Proofs Go.Proofs.Ytkhiifaldbjpbaa.Sx

theorem never_ok {f : FuncId} : SpecOK Try.prog f (Tri.spec { γ := Unit, n0 := 0, args := fun _ => [], blks := fun _ => [], pre := fun _ => False, δ := Unit, post := fun _ _ => True, n1 := 0, res := fun _ _ => .tuple [], blks' := fun _ _ => [], scal := true }) :=
  Tri.ok' _ fun x hx => hx.elim

theorem stab_ok : SpecOK Try.prog 92 stabT.spec := by
  refine Tri.ok (E := stabE) (Env_ok (by decide +kernel) (by
    intro p hp
    rcases List.mem_cons.1 hp with rfl | hp
    · exact ins_ok
    · rcases List.mem_singleton.1 hp with rfl
      exact never_ok)) (n := 1000) stabT fun x hx => ?_
  rw [stab_vc]
  revert x
  intro (l : List ChangeD) hx
  simp only [br_bad, br_true, br_false, List.length_singleton, and_self, Bool.not_true, Bool.not_false, Bool.not_not, decide_eq_true_eq, Bool.and_eq_true, List.take_zero, List.nil_append, List.drop_zero, Nat.zero_add, Int.toNat_natCast, Nat.sub_eq, true_and, and_true, exists_const, List.length_nil, Nat.zero_le, Nat.zero_mul, Nat.le_refl, List.length_set, List.take_length, Int.natCast_nonneg, forall_const, implies_true, Int.toNat_zero, Nat.le_eq, Int.le_refl, addN, cutN, loN, hiN, bndB, List.length_cons, List.take_succ_cons, List.length_take, List.length_drop, Option.isNone, Nat.add_zero, Nat.min_self]
  try simp only [br_iff, decide_eq_true_eq, decide_eq_false_iff_not, room47, Bool.not_eq_true', Bool.not_eq_false', gt_iff_lt]
  have hx : l.length ≤ 19 := of_decide_eq_true hx
  refine ⟨fun h => by omega, fun _ => ⟨⟨l, 0, l.length⟩, rfl, rfl, rfl, rfl, ⟨Nat.zero_le _, Nat.le_refl _⟩, fun h => by omega, fun _ => ?_⟩⟩
  simp [midL, sliceL]
theorem ssf_ok : SpecOK Try.prog 86 ssfT.spec := by
  refine Tri.ok (E := ssfE) (Env_ok (by decide +kernel) (by simp [stab_ok])) (n := 1000) ssfT fun x hx => ?_
  rw [ssf_vc]
  revert x
  intro (l : List ChangeD) hx
  simp only [br_bad, br_true, br_false, List.length_singleton, and_self, Bool.not_true, Bool.not_false, Bool.not_not, decide_eq_true_eq, Bool.and_eq_true, List.take_zero, List.nil_append, List.drop_zero, Nat.zero_add, Int.toNat_natCast, Nat.sub_eq, true_and, and_true, exists_const, List.length_nil, Nat.zero_le, Nat.zero_mul, Nat.le_refl, List.length_set, List.take_length, Int.natCast_nonneg, forall_const, implies_true, Int.toNat_zero, Nat.le_eq, Int.le_refl, addN, cutN, loN, hiN, bndB, List.length_cons, List.take_succ_cons, List.length_take, List.length_drop, Option.isNone, Nat.add_zero, Nat.min_self]
  try simp only [br_iff, decide_eq_true_eq, decide_eq_false_iff_not, room47, Bool.not_eq_true', Bool.not_eq_false', gt_iff_lt]
  exact fun _ => ⟨l, rfl, rfl, rfl, hx, rfl⟩
theorem clo_ok : SpecOK Try.prog 85 cloT.spec := by
  refine Tri.ok (E := bareE) (Env_ok (by decide +kernel) (by simp)) (n := 1000) cloT fun x hx => ?_
  rw [clo_vc]
  revert x
  intro (l : List ChangeD) hx
  simp only [br_bad, br_true, br_false, List.length_singleton, and_self, Bool.not_true, Bool.not_false, Bool.not_not, decide_eq_true_eq, Bool.and_eq_true, List.take_zero, List.nil_append, List.drop_zero, Nat.zero_add, Int.toNat_natCast, Nat.sub_eq, true_and, and_true, exists_const, List.length_nil, Nat.zero_le, Nat.zero_mul, Nat.le_refl, List.length_set, List.take_length, Int.natCast_nonneg, forall_const, implies_true, Int.toNat_zero, Nat.le_eq, Int.le_refl, addN, cutN, loN, hiN, bndB, List.length_cons, List.take_succ_cons, List.length_take, List.length_drop, Option.isNone, Nat.add_zero, Nat.min_self]
  try simp only [br_iff, decide_eq_true_eq, decide_eq_false_iff_not, room47, Bool.not_eq_true', Bool.not_eq_false', gt_iff_lt]
  intro b hb
  refine ⟨fun h => ?_, fun _ h => h⟩
  rw [hb h]; exact ⟨rfl, rfl⟩
theorem sort_ok : SpecOK Try.prog 49 sortT.spec := by
  refine Tri.ok (E := sortE) (Env_ok (by decide +kernel) (by simp [clo_ok, ssf_ok])) (n := 1000) sortT fun x hx => ?_
  rw [sort_vc]
  revert x
  intro (l : List ChangeD) hx
  simp only [br_bad, br_true, br_false, List.length_singleton, and_self, Bool.not_true, Bool.not_false, Bool.not_not, decide_eq_true_eq, Bool.and_eq_true, List.take_zero, List.nil_append, List.drop_zero, Nat.zero_add, Int.toNat_natCast, Nat.sub_eq, true_and, and_true, exists_const, List.length_nil, Nat.zero_le, Nat.zero_mul, Nat.le_refl, List.length_set, List.take_length, Int.natCast_nonneg, forall_const, implies_true, Int.toNat_zero, Nat.le_eq, Int.le_refl, addN, cutN, loN, hiN, bndB, List.length_cons, List.take_succ_cons, List.length_take, List.length_drop, Option.isNone, Nat.add_zero, Nat.min_self]
  try simp only [br_iff, decide_eq_true_eq, decide_eq_false_iff_not, room47, Bool.not_eq_true', Bool.not_eq_false', gt_iff_lt]
  exact ⟨l, rfl, l, rfl, rfl, hx, rfl, rfl⟩
theorem cawake_ok : SpecOK Try.prog 44 cawakeT.spec := by
  refine Tri.ok (E := cawakeE) (Env_ok (by decide +kernel) (by simp [sort_ok, check_ok, same_ok])) (n := 1000) cawakeT fun x hx => ?_
  rw [cawake_vc]
  simp only [br_bad, br_true, br_false, List.length_singleton, and_self, Bool.not_true, Bool.not_false, Bool.not_not, decide_eq_true_eq, Bool.and_eq_true, List.take_zero, List.nil_append, List.drop_zero, Nat.zero_add, Int.toNat_natCast, Nat.sub_eq, true_and, and_true, exists_const, List.length_nil, Nat.zero_le, Nat.zero_mul, Nat.le_refl, List.length_set, List.take_length, Int.natCast_nonneg, forall_const, implies_true, Int.toNat_zero, Nat.le_eq, Int.le_refl, addN, cutN, loN, hiN, bndB, List.length_cons, List.take_succ_cons, List.length_take, List.length_drop, Option.isNone, Nat.add_zero, Nat.min_self]
  try simp only [br_iff, decide_eq_true_eq, decide_eq_false_iff_not, room47, Bool.not_eq_true', Bool.not_eq_false', gt_iff_lt]
  have e : insS [⟨[98], false, 1⟩, ⟨[97], true, 0⟩] = [⟨[97], true, 0⟩, ⟨[98], false, 1⟩] := rfl
  refine ⟨_, rfl, rfl, _, rfl, rfl, ?_⟩
  rw [e]
  refine ⟨fun _ _ => ⟨fun _ => ⟨by decide, by decide, fun _ => ⟨⟨_, _⟩, by decide, rfl, by decide, rfl, fun _ => ⟨⟨_, _⟩, by decide, rfl, rfl, by decide +kernel⟩, fun h => (by revert h; decide +kernel)⟩, fun h => (by revert h; decide +kernel)⟩, fun h => (by revert h; decide +kernel)⟩, fun h => (by revert h; decide +kernel)⟩
theorem claw_ok : EnvOK clawE := Env_ok (by decide +kernel) (by simp [cawake_ok, check_ok])
theorem lim_ok : EnvOK limE := Env_ok (by decide +kernel) (by simp [cawake_ok, check_ok, sort_ok])
theorem cknown_body (x : Unit) : evCall clawE (ev clawE 1000) 15 (noArgs x) ⟨[], 0, []⟩ (fun _ _ => False) (fun v _ => TrueV v) := by
  rw [cknown_vc]
  simp only [br_bad, br_true, br_false, List.length_singleton, and_self, Bool.not_true, Bool.not_false, Bool.not_not, decide_eq_true_eq, Bool.and_eq_true, List.take_zero, List.nil_append, List.drop_zero, Nat.zero_add, Int.toNat_natCast, Nat.sub_eq, true_and, and_true, exists_const, List.length_nil, Nat.zero_le, Nat.zero_mul, Nat.le_refl, List.length_set, List.take_length, Int.natCast_nonneg, forall_const, implies_true, Int.toNat_zero, Nat.le_eq, Int.le_refl, addN, cutN, loN, hiN, bndB, List.length_cons, List.take_succ_cons, List.length_take, List.length_drop, Option.isNone, Nat.add_zero, Nat.min_self]
  try simp only [br_iff, decide_eq_true_eq, decide_eq_false_iff_not, room47, Bool.not_eq_true', Bool.not_eq_false', gt_iff_lt]
  exact ⟨_, rfl, rfl, fun _ => ⟨_, rfl, rfl, fun _ => ⟨_, rfl, rfl, by decide +kernel⟩, fun h => (by revert h; decide +kernel)⟩, fun h => (by revert h; decide +kernel)⟩
end Go.Proofs.Ytkhiifaldbjpbaa.Ses

namespace Go.Proofs.Ytkhiifaldbjpbaa.Ses
open Go Go.Proofs Go.Proofs.Ytkhiifaldbjpbaa.Sx

def limF (k : Nat) (L : List ChangeD) : Bool := Nat.beq L.length k && shortC L && ((chkC L == 0) == (Nat.ble 1 k && Nat.ble k 16)) && (List.range k).all fun (x : Nat) => ((insS L).getD x noC).path == textOf [IntKind.u8.wrap (IntKind.i64.wrap (97 + (x : Int)))]
theorem limF_all : ∀ k, k < 20 → limF k (limL k) = true ∧ limF k (limS k (k / 2)) = true := by decide +kernel
theorem limS_len (k : Nat) : ∀ i, (limS k i).length = k
  | 0 => by simp [limS, limL]
  | i + 1 => by simp [limS, limS_len k i]
theorem mod_ne {tw k : Nat} (h : 2 ≤ k) : tw % k ≠ (tw + 1) % k := by
  have h1 : tw % k < k := Nat.mod_lt _ (by omega)
  rw [Nat.add_mod, Nat.mod_eq_of_lt (by omega : 1 < k)]
  by_cases e : tw % k + 1 = k
  · rw [e, Nat.mod_self]; omega
  · rw [Nat.mod_eq_of_lt (a := tw % k + 1) (by omega)]; omega
theorem dupC {l : List ChangeD} {i j : Nat} (hi : i < j) (hj : j < l.length) (h : (l.getD i noC).path = (l.getD j noC).path) : chkC l = 1 := by
  refine chkC_bad (i := j) hj ?_
  unfold okUpto
  have : hasC (l.getD j noC).path (l.take j) = true := by
    unfold hasC
    rw [List.any_eq_true]
    refine ⟨l.getD i noC, ?_, by simpa using h⟩
    have : (l.take j).getD i noC = l.getD i noC := by simp [List.getD, hi]
    rw [← this]
    exact getD_mem (by simp; omega)
  rw [show hasC (l.getD j ⟨[], false, 0⟩).path (l.take j) = true from this]
  simp

theorem limits_body (x : LimA) (h1 : x.n < 256) (h2 : x.twice < 256) : evCall limE (ev limE 1000) 18 (limArgs x) ⟨[], 0, []⟩ (fun _ _ => False) (fun v _ => TrueV v) := by
  rw [limits_vc]
  obtain ⟨n, tw, turn⟩ := x
  dsimp only at h1 h2
  simp only [br_bad, br_true, br_false, List.length_singleton, and_self, Bool.not_true, Bool.not_false, Bool.not_not, decide_eq_true_eq, Bool.and_eq_true, List.take_zero, List.nil_append, List.drop_zero, Nat.zero_add, Int.toNat_natCast, Nat.sub_eq, true_and, and_true, exists_const, List.length_nil, Nat.zero_le, Nat.zero_mul, Nat.le_refl, List.length_set, List.take_length, Int.natCast_nonneg, forall_const, implies_true, Int.toNat_zero, Nat.le_eq, Int.le_refl, addN, cutN, loN, hiN, bndB, List.length_cons, List.take_succ_cons, List.length_take, List.length_drop, Option.isNone, Nat.add_zero, Nat.min_self]
  try simp only [br_iff, decide_eq_true_eq, decide_eq_false_iff_not, room47, Bool.not_eq_true', Bool.not_eq_false', gt_iff_lt]
  have ek : (IntKind.i64.wrap (n : Int)).tmod 20 = ((n % 20 : Nat) : Int) := by rw [wrap_id (by omega) (by omega)]; rfl
  have hk : n % 20 < 20 := by omega
  rw [ek]
  generalize n % 20 = k at hk
  have e1 : IntKind.i64.wrap (tw : Int) = tw := wrap_id (by omega) (by omega)
  have e2 : IntKind.i64.wrap ((tw : Int) + 1) = ((tw + 1 : Nat) : Int) := by rw [wrap_id (by omega) (by omega)]; rfl
  have t1 : (tw : Int).tmod (k : Int) = ((tw % k : Nat) : Int) := rfl
  have t2 : ((tw + 1 : Nat) : Int).tmod (k : Int) = (((tw + 1) % k : Nat) : Int) := rfl
  rw [e1, e2, t1, t2]
  have e3 : ((k : Int)).tdiv 2 = ((k / 2 : Nat) : Int) := rfl
  rw [e3, wrap_id (n := ((k / 2 : Nat) : Int)) (by omega) (by omega), wrap_id (n := (k : Int) - 1) (by omega) (by omega)]
  simp only [Int.toNat_natCast]
  refine ⟨⟨0, rfl, rfl, rfl, by omega⟩, fun i hi => ⟨fun h3 _ => ?_, fun h3 => ?_⟩⟩
  · refine ⟨⟨by simp [limL], by omega⟩, i + 1, by rw [wrap_id (by omega) (by omega)]; rfl, rfl, ?_, by omega, by omega⟩
    have : (limL i).take i = limL i := List.take_of_length_le (by simp [limL])
    rw [this]
    simp [limL, List.range_succ, limC]
  have : i = k := by omega
  subst this
  refine ⟨fun ht => ⟨⟨0, rfl, rfl, by omega⟩, fun j hj => ⟨fun h4 => ?_, fun h4 => ?_⟩⟩, fun ht => ?_⟩
  · have hw : IntKind.i64.wrap ((i : Int) - 1 - j) = ((i - 1 - j : Nat) : Int) := by rw [wrap_id (by omega) (by omega)]; omega
    rw [hw, limS_len]
    simp only [Int.toNat_natCast]
    exact ⟨by omega, by omega, by omega, by omega, by omega, by omega, by omega, by omega, j + 1, by rw [wrap_id (by omega) (by omega)]; rfl, rfl, by omega, by omega⟩
  · have hj2 : j = i / 2 := by omega
    subst hj2
    have hF := (limF_all i hk).2
    generalize limS i (i / 2) = L at hF ⊢
    unfold limF at hF
    simp only [Bool.and_eq_true] at hF
    obtain ⟨⟨⟨g1, g2⟩, g3⟩, g4⟩ := hF
    have g1 : L.length = i := Nat.eq_of_beq_eq_true g1
    have gt : L.take i = L := List.take_of_length_le (by omega)
    have hfew : fewC L = true := decide_eq_true (by omega)
    rw [gt, g1]
    refine ⟨fun p1 => ⟨L, Nat.le_refl _, rfl, g2, fun h => ?_, fun _ => ⟨fun _ => trivial, fun p2 _ => ⟨⟨Nat.le_refl _, by omega⟩, ?_, ?_, ⟨by omega, ?_⟩, ?_, ⟨by omega, ?_⟩, ?_, L, Nat.le_refl _, rfl, hfew, ⟨0, rfl, by omega⟩, fun q hq => ⟨fun q1 => ⟨by omega, by rw [insS_len]; omega, fun h => ?_, fun _ => ⟨q + 1, by rw [wrap_id (by omega) (by omega)]; rfl, by omega, by omega⟩⟩, fun q1 => ⟨fun _ => trivial, fun p3 => ⟨_, rfl, ?_, ?_⟩⟩⟩⟩⟩⟩, fun p1 => ⟨L, Nat.le_refl _, rfl, g2, fun h => ?_, fun _ => ⟨fun _ => trivial, fun p2 => ?_⟩⟩⟩
    · have e : (Nat.ble 1 i && Nat.ble i 16) = decide ((i : Int) ≤ 16) := by
        rw [Bool.eq_iff_iff]; simp; omega
      rw [← e, g3] at h; cases h
    · simp; omega
    · simp; omega
    · have := Nat.mod_lt (tw + 1) (by omega : 0 < i); omega
    · have := Nat.mod_lt (tw + 1) (by omega : 0 < i); omega
    · have := Nat.mod_lt tw (by omega : 0 < i); omega
    · have := Nat.mod_lt tw (by omega : 0 < i); omega
    · have := List.all_eq_true.1 g4 q (by simp; omega)
      rw [this] at h; cases h
    · rw [List.take_of_length_le (by simp; omega)]
      have m1 := Nat.mod_lt (tw + 1) (by omega : 0 < i)
      refine List.all_eq_true.2 fun c hc => ?_
      rcases List.mem_or_eq_of_mem_set hc with hc | rfl
      · exact List.all_eq_true.1 g2 c hc
      · exact List.all_eq_true.1 g2 (L.getD ((tw + 1) % i) noC) (getD_mem (by omega))
    · rw [List.take_of_length_le (by simp; omega)]
      have m1 := Nat.mod_lt (tw + 1) (by omega : 0 < i)
      have m2 := Nat.mod_lt tw (by omega : 0 < i)
      have p4 : 2 ≤ i := by
        have : (i : Int) ≠ 1 := by simpa using p3
        omega
      have hne := mod_ne (tw := tw) p4
      generalize (tw + 1) % i = a at m1 hne
      generalize tw % i = b at m2 hne
      generalize hc : ({ path := (L.getD a ⟨[], false, 0⟩).path, gone := (L.getD b ⟨[], false, 0⟩).gone, digest := (L.getD b ⟨[], false, 0⟩).digest } : ChangeD) = c
      have s1 : ((L.set b c).getD b noC).path = (L.getD a noC).path := by
        subst hc
        simp [List.getD, show b < L.length by omega]
      have s2 : ((L.set b c).getD a noC).path = (L.getD a noC).path := by
        simp [List.getD, hne]
      have : chkC (L.set b c) = 1 := by
        rcases Nat.lt_or_gt_of_ne hne with h | h
        · exact dupC h (by simp; omega) (s1.trans s2.symm)
        · exact dupC h (by simp; omega) (s2.trans s1.symm)
      rw [this]; rfl
    · have : i = 0 := by omega
      subst this
      have : (Nat.ble 1 0 && Nat.ble 0 16) = false := rfl
      rw [this] at g3
      rw [g3] at h; cases h
    · have : i = 0 := by omega
      subst this
      cases p2
  · have hF := (limF_all i hk).1
    generalize limL i = L at hF ⊢
    unfold limF at hF
    simp only [Bool.and_eq_true] at hF
    obtain ⟨⟨⟨g1, g2⟩, g3⟩, g4⟩ := hF
    have g1 : L.length = i := Nat.eq_of_beq_eq_true g1
    have gt : L.take i = L := List.take_of_length_le (by omega)
    have hfew : fewC L = true := decide_eq_true (by omega)
    rw [gt, g1]
    refine ⟨fun p1 => ⟨L, Nat.le_refl _, rfl, g2, fun h => ?_, fun _ => ⟨fun _ => trivial, fun p2 _ => ⟨⟨Nat.le_refl _, by omega⟩, ?_, ?_, ⟨by omega, ?_⟩, ?_, ⟨by omega, ?_⟩, ?_, L, Nat.le_refl _, rfl, hfew, ⟨0, rfl, by omega⟩, fun q hq => ⟨fun q1 => ⟨by omega, by rw [insS_len]; omega, fun h => ?_, fun _ => ⟨q + 1, by rw [wrap_id (by omega) (by omega)]; rfl, by omega, by omega⟩⟩, fun q1 => ⟨fun _ => trivial, fun p3 => ⟨_, rfl, ?_, ?_⟩⟩⟩⟩⟩⟩, fun p1 => ⟨L, Nat.le_refl _, rfl, g2, fun h => ?_, fun _ => ⟨fun _ => trivial, fun p2 => ?_⟩⟩⟩
    · have e : (Nat.ble 1 i && Nat.ble i 16) = decide ((i : Int) ≤ 16) := by
        rw [Bool.eq_iff_iff]; simp; omega
      rw [← e, g3] at h; cases h
    · simp; omega
    · simp; omega
    · have := Nat.mod_lt (tw + 1) (by omega : 0 < i); omega
    · have := Nat.mod_lt (tw + 1) (by omega : 0 < i); omega
    · have := Nat.mod_lt tw (by omega : 0 < i); omega
    · have := Nat.mod_lt tw (by omega : 0 < i); omega
    · have := List.all_eq_true.1 g4 q (by simp; omega)
      rw [this] at h; cases h
    · rw [List.take_of_length_le (by simp; omega)]
      have m1 := Nat.mod_lt (tw + 1) (by omega : 0 < i)
      refine List.all_eq_true.2 fun c hc => ?_
      rcases List.mem_or_eq_of_mem_set hc with hc | rfl
      · exact List.all_eq_true.1 g2 c hc
      · exact List.all_eq_true.1 g2 (L.getD ((tw + 1) % i) noC) (getD_mem (by omega))
    · rw [List.take_of_length_le (by simp; omega)]
      have m1 := Nat.mod_lt (tw + 1) (by omega : 0 < i)
      have m2 := Nat.mod_lt tw (by omega : 0 < i)
      have p4 : 2 ≤ i := by
        have : (i : Int) ≠ 1 := by simpa using p3
        omega
      have hne := mod_ne (tw := tw) p4
      generalize (tw + 1) % i = a at m1 hne
      generalize tw % i = b at m2 hne
      generalize hc : ({ path := (L.getD a ⟨[], false, 0⟩).path, gone := (L.getD b ⟨[], false, 0⟩).gone, digest := (L.getD b ⟨[], false, 0⟩).digest } : ChangeD) = c
      have s1 : ((L.set b c).getD b noC).path = (L.getD a noC).path := by
        subst hc
        simp [List.getD, show b < L.length by omega]
      have s2 : ((L.set b c).getD a noC).path = (L.getD a noC).path := by
        simp [List.getD, hne]
      have : chkC (L.set b c) = 1 := by
        rcases Nat.lt_or_gt_of_ne hne with h | h
        · exact dupC h (by simp; omega) (s1.trans s2.symm)
        · exact dupC h (by simp; omega) (s2.trans s1.symm)
      rw [this]; rfl
    · have : i = 0 := by omega
      subst this
      have : (Nat.ble 1 0 && Nat.ble 0 16) = false := rfl
      rw [this] at g3
      rw [g3] at h; cases h
    · have : i = 0 := by omega
      subst this
      cases p2
end Go.Proofs.Ytkhiifaldbjpbaa.Ses
