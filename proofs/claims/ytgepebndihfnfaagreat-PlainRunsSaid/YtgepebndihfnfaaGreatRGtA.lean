/- Trees that stay: a range over the leaves, and what the functions of trees do. No condition. -/
import Derived.Test.YtgepebndihfnfaaGreatRGxA
import Derived.RangeFuncNested
import Derived.RangeFuncBound
import Derived.RangeFuncCalls
import Derived.RangeFuncLeaves
import Derived.RangeFuncBox
import Derived.Shelf.Abstract
import Derived.Shelf.RegionOpen
import Derived.WalkKit
import Derived.OwnWalkIn
import Derived.TacticsInMore
import Derived.LoopNIn
import Derived.LoopIn
import Derived.Maps.AppendAt
import Derived.Test.YtgepebndihfnfaaGreatProg
import Derived.KernelRfl
set_option linter.unusedSimpArgs false
set_option linter.unusedVariables false

namespace Go.Proofs.YtgepebndihfnfaaGreat.Trx
open Go.RowKit Go.Shelf Go.Proofs.YtgepebndihfnfaaGreat.Sx
attribute [local go_sem] Oper.semAt_some
def TreeD.inorder : TreeD → List LeafD
  | .nil => []
  | .node th x l r _ _ => bif th then TreeD.inorder l ++ x :: TreeD.inorder r else []
def leafL (x : LeafD) : List Value := [.string ⟨⟨x.path⟩⟩, .int .u64 x.digest, .int .i64 x.rev, .bool x.gone]
structure KeepB (n : Nat) (w w' : World) : Prop where
  os : w'.os = w.os
  output : w'.output = w.output
  size : w.heap.size ≤ w'.heap.size
  block : ∀ k, k < n → w'.heap[k]? = w.heap[k]?
def IsTree (n₀ : Nat) (W : World) : Option Addr → TreeD → Prop
  | p, .nil => p = none
  | p, .node th x l r d m => ∃ (b o : Nat) (pl pr : Option Addr), p = some ⟨b, o, none⟩ ∧ b < n₀ ∧ x.path.length ≤ maxI64 ∧ W.cell? ⟨b, o, none⟩ = some (.bool th) ∧
      W.cell? ⟨b, o + 1, none⟩ = some (.string ⟨⟨x.path⟩⟩) ∧ W.cell? ⟨b, o + 2, none⟩ = some (.int .u64 x.digest) ∧ W.cell? ⟨b, o + 3, none⟩ = some (.int .i64 x.rev) ∧ W.cell? ⟨b, o + 4, none⟩ = some (.bool x.gone) ∧
      W.cell? ⟨b, o + 5, none⟩ = some (.pointer pl) ∧ W.cell? ⟨b, o + 6, none⟩ = some (.pointer pr) ∧ IsTree n₀ W pl l ∧ IsTree n₀ W pr r
end Go.Proofs.YtgepebndihfnfaaGreat.Trx

namespace Go.Proofs.YtgepebndihfnfaaGreat.Trx
open Go.RowKit Go.Shelf Go.Proofs.YtgepebndihfnfaaGreat.Sx
attribute [local go_sem] Oper.semAt_some
def LBox (W : World) (B : Nat) (x : LeafD) : Prop := W.heap[B]? = some (.cells ⟨leafL x⟩ 174 (0, 0))
end Go.Proofs.YtgepebndihfnfaaGreat.Trx

namespace Go.Proofs.YtgepebndihfnfaaGreat.Ses
open Go Go.Proofs Go.Proofs.YtgepebndihfnfaaGreat.Sx Go.Proofs.YtgepebndihfnfaaGreat.Trx
structure TrS where
  t : TreeD
  d : Bs
structure TrR where
  t : TreeD
  a : Bs
  b : Bs
structure Rg1 where
  p : Bs
  a : Bs
  b : Bs
def depthD (t : TreeD) : Int := bif t.isNil || !t.there then 0 else t.depth
def lenD (t : TreeD) : Int := bif t.isNil || !t.there then 0 else t.many
noncomputable def newT : Tri := { γ := Unit, n0 := 0, args := fun _ => [], blks := fun _ => [], pre := fun _ => True, δ := Unit, post := fun _ _ => True, n1 := 0, res := fun _ _ => .tree (.node false ⟨[], 0, 0, false⟩ .nil .nil 0 0), blks' := fun _ _ => [], scal := false }
noncomputable def emptyT : Tri := { γ := TreeD, n0 := 0, args := fun t => [.tree t], blks := fun _ => [], pre := fun _ => True, δ := Unit, post := fun _ _ => True, n1 := 0, res := fun t _ => .bool (t.isNil || !t.there), blks' := fun _ _ => [], scal := true }
noncomputable def tlenT : Tri := { γ := TreeD, n0 := 0, args := fun t => [.tree t], blks := fun _ => [], pre := fun _ => True, δ := Unit, post := fun _ _ => True, n1 := 0, res := fun t _ => .int .i64 (lenD t), blks' := fun _ _ => [], scal := true }
noncomputable def emptyE : Envr := Env Tryz.prog cod [(188, emptyT.spec)] []
noncomputable def tdepthT : Tri := { γ := TreeD, n0 := 0, args := fun t => [.tree t], blks := fun _ => [], pre := fun _ => True, δ := Unit, post := fun _ _ => True, n1 := 0, res := fun t _ => .int .i64 (depthD t), blks' := fun _ _ => [], scal := true }
def smallT (t : TreeD) : Bool := decide (0 ≤ depthD t) && decide (depthD t ≤ 1000000) && decide (0 ≤ lenD t) && decide (lenD t ≤ 1000000)
def joinD (x : LeafD) (l r : TreeD) : TreeD := .node true x l r (1 + max (depthD l) (depthD r)) (1 + lenD l + lenD r)
structure JoA where
  x : LeafD
  l : TreeD
  r : TreeD
noncomputable def tjoinT : Tri := { γ := JoA, n0 := 0, args := fun x => [.agg (enc .leaf x.x), .tree x.l, .tree x.r], blks := fun _ => [], pre := fun x => smallT x.l = true ∧ smallT x.r = true, δ := Unit, post := fun _ _ => True, n1 := 0, res := fun x _ => .tree (joinD x.x x.l x.r), blks' := fun _ _ => [], scal := false }
noncomputable def tjoinE : Envr := Env Tryz.prog cod [(225, tlenT.spec), (224, tdepthT.spec)] []
end Go.Proofs.YtgepebndihfnfaaGreat.Ses

namespace Go.Proofs.YtgepebndihfnfaaGreat.Ses
open Go Go.Proofs Go.Proofs.YtgepebndihfnfaaGreat.Sx Go.Proofs.YtgepebndihfnfaaGreat.Trx
set_option maxRecDepth 100000
theorem new_vc (x : newT.γ) : evCall bareE (ev bareE 1000) 127 (newT.args x) ⟨newT.blks x, newT.n0, []⟩ (fun _ _ => False) (newT.ends x) = (
∃ x1 : Unit, TreeD.node false (LeafD.mk ([] : List UInt8) (0 : Int) (0 : Int) false) TreeD.nil TreeD.nil (0 : Int) (0 : Int) = TreeD.node false (LeafD.mk ([] : List UInt8) (0 : Int) (0 : Int) false) TreeD.nil TreeD.nil (0 : Int) (0 : Int) ∧
True) := by kernel_rfl
theorem empty_vc (x : emptyT.γ) : evCall bareE (ev bareE 1000) 188 (emptyT.args x) ⟨emptyT.blks x, emptyT.n0, []⟩ (fun _ _ => False) (emptyT.ends x) = (
br (TreeD.isNil x) (∃ x1 : Unit, true = Bool.or (TreeD.isNil x) (TreeD.there x).not ∧
True) (br (TreeD.isNil x).not (∃ x2 : Unit, (TreeD.there x).not = Bool.or (TreeD.isNil x) (TreeD.there x).not ∧
True) (Bad "check" "tree.go:21"))) := by kernel_rfl
theorem tlen_vc (x : tlenT.γ) : evCall emptyE (ev emptyE 1000) 225 (tlenT.args x) ⟨tlenT.blks x, tlenT.n0, []⟩ (fun _ _ => False) (tlenT.ends x) = (
∃ x1 : TreeD, x = x1 ∧
True ∧
∀ x2 : Unit, True →
br (Bool.or (TreeD.isNil x1) (TreeD.there x1).not) (∃ x3 : Unit, (0 : Int) = lenD x ∧
True) (br (TreeD.isNil x).not (∃ x4 : Unit, TreeD.many x = lenD x ∧
True) (Bad "check" "tree.go:28"))) := by kernel_rfl
theorem tdepth_vc (x : tdepthT.γ) : evCall emptyE (ev emptyE 1000) 224 (tdepthT.args x) ⟨tdepthT.blks x, tdepthT.n0, []⟩ (fun _ _ => False) (tdepthT.ends x) = (
∃ x1 : TreeD, x = x1 ∧
True ∧
∀ x2 : Unit, True →
br (Bool.or (TreeD.isNil x1) (TreeD.there x1).not) (∃ x3 : Unit, (0 : Int) = depthD x ∧
True) (br (TreeD.isNil x).not (∃ x4 : Unit, TreeD.depth x = depthD x ∧
True) (Bad "check" "tree.go:36"))) := by kernel_rfl
theorem tjoin_vc (x : tjoinT.γ) : evCall tjoinE (ev tjoinE 1000) 189 (tjoinT.args x) ⟨tjoinT.blks x, tjoinT.n0, []⟩ (fun _ _ => False) (tjoinT.ends x) = (
∃ x1 : TreeD, JoA.l x = x1 ∧
True ∧
∀ x2 : Unit, True →
∃ x3 : TreeD, JoA.r x = x3 ∧
True ∧
∀ x4 : Unit, True →
∃ x5 : TreeD, JoA.l x = x5 ∧
True ∧
∀ x6 : Unit, True →
∃ x7 : TreeD, JoA.r x = x7 ∧
True ∧
∀ x8 : Unit, True →
∃ x9 : Unit, TreeD.node true (LeafD.mk (JoA.x x).path (JoA.x x).digest (JoA.x x).rev (JoA.x x).gone) (JoA.l x) (JoA.r x) (IntKind.wrap IntKind.i64 ((1 : Int) + mmI false (depthD x1) (depthD x3))) (IntKind.wrap IntKind.i64 (IntKind.wrap IntKind.i64 ((1 : Int) + lenD x5) + lenD x7)) = joinD (JoA.x x) (JoA.l x) (JoA.r x) ∧
True) := by kernel_rfl
end Go.Proofs.YtgepebndihfnfaaGreat.Ses

namespace Go.Proofs.YtgepebndihfnfaaGreat.Sx
open Go Go.RowKit
end Go.Proofs.YtgepebndihfnfaaGreat.Sx
namespace Go.Proofs.YtgepebndihfnfaaGreat.Ses
open Go Go.Proofs Go.Proofs.YtgepebndihfnfaaGreat.Sx Go.Proofs.YtgepebndihfnfaaGreat.Trx Go.RowKit
end Go.Proofs.YtgepebndihfnfaaGreat.Ses

namespace Go.Proofs.YtgepebndihfnfaaGreat.Ses
open Go Go.Proofs Go.Proofs.YtgepebndihfnfaaGreat.Sx Go.Proofs.YtgepebndihfnfaaGreat.Trx
theorem new_ok : SpecOK Tryz.prog 127 newT.spec := by
  refine Tri.ok (E := bareE) (Env_ok (by decide +kernel) (by simp)) (n := 1000) newT fun x hx => ?_
  rw [new_vc]
  simp only [br_bad, br_true, br_false, List.length_singleton, and_self, Bool.not_true, Bool.not_false, Bool.not_not, decide_eq_true_eq, Bool.and_eq_true, List.take_zero, List.nil_append, List.drop_zero, Nat.zero_add, Int.toNat_natCast, Nat.sub_eq, true_and, and_true, exists_const, List.length_nil, Nat.zero_le, Nat.zero_mul, Nat.le_refl, List.length_set, List.take_length, Int.natCast_nonneg, forall_const, implies_true, Int.toNat_zero, Nat.le_eq, Int.le_refl, addN, cutN, loN, hiN, bndB, List.length_cons, List.take_succ_cons, List.length_take, List.length_drop, Option.isNone, Nat.add_zero, Nat.min_self]
  try simp only [br_iff, decide_eq_true_eq, decide_eq_false_iff_not, room47, Bool.not_eq_true', Bool.not_eq_false', gt_iff_lt]
theorem empty_ok : SpecOK Tryz.prog 188 emptyT.spec := by
  refine Tri.ok (E := bareE) (Env_ok (by decide +kernel) (by simp)) (n := 1000) emptyT fun x hx => ?_
  rw [empty_vc]
  revert x
  intro (t : TreeD) hx
  simp only [br_bad, br_true, br_false, List.length_singleton, and_self, Bool.not_true, Bool.not_false, Bool.not_not, decide_eq_true_eq, Bool.and_eq_true, List.take_zero, List.nil_append, List.drop_zero, Nat.zero_add, Int.toNat_natCast, Nat.sub_eq, true_and, and_true, exists_const, List.length_nil, Nat.zero_le, Nat.zero_mul, Nat.le_refl, List.length_set, List.take_length, Int.natCast_nonneg, forall_const, implies_true, Int.toNat_zero, Nat.le_eq, Int.le_refl, addN, cutN, loN, hiN, bndB, List.length_cons, List.take_succ_cons, List.length_take, List.length_drop, Option.isNone, Nat.add_zero, Nat.min_self]
  try simp only [br_iff, decide_eq_true_eq, decide_eq_false_iff_not, room47, Bool.not_eq_true', Bool.not_eq_false', gt_iff_lt]
  refine ⟨fun h => by rw [h]; rfl, fun h => ⟨h, by rw [h]; rfl⟩⟩
theorem tlen_ok : SpecOK Tryz.prog 225 tlenT.spec := by
  refine Tri.ok (E := emptyE) (Env_ok (by decide +kernel) (by simp [empty_ok])) (n := 1000) tlenT fun x hx => ?_
  rw [tlen_vc]
  revert x
  intro (t : TreeD) hx
  simp only [br_bad, br_true, br_false, List.length_singleton, and_self, Bool.not_true, Bool.not_false, Bool.not_not, decide_eq_true_eq, Bool.and_eq_true, List.take_zero, List.nil_append, List.drop_zero, Nat.zero_add, Int.toNat_natCast, Nat.sub_eq, true_and, and_true, exists_const, List.length_nil, Nat.zero_le, Nat.zero_mul, Nat.le_refl, List.length_set, List.take_length, Int.natCast_nonneg, forall_const, implies_true, Int.toNat_zero, Nat.le_eq, Int.le_refl, addN, cutN, loN, hiN, bndB, List.length_cons, List.take_succ_cons, List.length_take, List.length_drop, Option.isNone, Nat.add_zero, Nat.min_self]
  try simp only [br_iff, decide_eq_true_eq, decide_eq_false_iff_not, room47, Bool.not_eq_true', Bool.not_eq_false', gt_iff_lt]
  refine ⟨t, rfl, fun h => by unfold lenD; rw [h]; rfl, fun h => ⟨?_, by unfold lenD; rw [h]; rfl⟩⟩
  cases hn : t.isNil
  · rfl
  · rw [hn] at h; cases h
theorem tdepth_ok : SpecOK Tryz.prog 224 tdepthT.spec := by
  refine Tri.ok (E := emptyE) (Env_ok (by decide +kernel) (by simp [empty_ok])) (n := 1000) tdepthT fun x hx => ?_
  rw [tdepth_vc]
  revert x
  intro (t : TreeD) hx
  simp only [br_bad, br_true, br_false, List.length_singleton, and_self, Bool.not_true, Bool.not_false, Bool.not_not, decide_eq_true_eq, Bool.and_eq_true, List.take_zero, List.nil_append, List.drop_zero, Nat.zero_add, Int.toNat_natCast, Nat.sub_eq, true_and, and_true, exists_const, List.length_nil, Nat.zero_le, Nat.zero_mul, Nat.le_refl, List.length_set, List.take_length, Int.natCast_nonneg, forall_const, implies_true, Int.toNat_zero, Nat.le_eq, Int.le_refl, addN, cutN, loN, hiN, bndB, List.length_cons, List.take_succ_cons, List.length_take, List.length_drop, Option.isNone, Nat.add_zero, Nat.min_self]
  try simp only [br_iff, decide_eq_true_eq, decide_eq_false_iff_not, room47, Bool.not_eq_true', Bool.not_eq_false', gt_iff_lt]
  refine ⟨t, rfl, fun h => by unfold depthD; rw [h]; rfl, fun h => ⟨?_, by unfold depthD; rw [h]; rfl⟩⟩
  cases hn : t.isNil
  · rfl
  · rw [hn] at h; cases h
theorem tjoin_ok : SpecOK Tryz.prog 189 tjoinT.spec := by
  refine Tri.ok (E := tjoinE) (Env_ok (by decide +kernel) (by simp [tlen_ok, tdepth_ok])) (n := 1000) tjoinT fun x hx => ?_
  rw [tjoin_vc]
  obtain ⟨x, l, r⟩ := x
  obtain ⟨hl, hr⟩ := hx
  simp only [br_bad, br_true, br_false, List.length_singleton, and_self, Bool.not_true, Bool.not_false, Bool.not_not, decide_eq_true_eq, Bool.and_eq_true, List.take_zero, List.nil_append, List.drop_zero, Nat.zero_add, Int.toNat_natCast, Nat.sub_eq, true_and, and_true, exists_const, List.length_nil, Nat.zero_le, Nat.zero_mul, Nat.le_refl, List.length_set, List.take_length, Int.natCast_nonneg, forall_const, implies_true, Int.toNat_zero, Nat.le_eq, Int.le_refl, addN, cutN, loN, hiN, bndB, List.length_cons, List.take_succ_cons, List.length_take, List.length_drop, Option.isNone, Nat.add_zero, Nat.min_self]
  try simp only [br_iff, decide_eq_true_eq, decide_eq_false_iff_not, room47, Bool.not_eq_true', Bool.not_eq_false', gt_iff_lt]
  refine ⟨l, rfl, r, rfl, l, rfl, r, rfl, ?_⟩
  simp only [smallT, Bool.and_eq_true, decide_eq_true_eq] at hl hr
  have e : mmI false (depthD l) (depthD r) = max (depthD l) (depthD r) := by
    unfold mmI
    simp only [cond_false]
    split <;> omega
  rw [e, wrap_id (n := 1 + lenD l) (by omega) (by omega), wrap_id (n := 1 + lenD l + lenD r) (by omega) (by omega), wrap_id (by omega) (by omega)]
  rfl
end Go.Proofs.YtgepebndihfnfaaGreat.Ses
