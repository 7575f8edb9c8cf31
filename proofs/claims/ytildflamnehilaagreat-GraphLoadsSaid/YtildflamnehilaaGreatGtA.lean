/- Trees that stay: a range over the leaves, and what the functions of trees do. No condition. -/
import Derived.Test.YtildflamnehilaaGreatGxA
import Derived.RangeFuncNested
import Derived.RangeFuncBound
import Derived.RangeFuncCalls
import Derived.RangeFuncLeaves
import Derived.RangeFuncBox
import Derived.Shelf.Abstract
import Derived.Shelf.RegionOpen
import Derived.WalkKit
import Derived.OwnWalkIn
import Derived.TacticsInMore
import Derived.LoopNIn
import Derived.LoopIn
import Derived.Maps.AppendAt
import Derived.Test.YtildflamnehilaaGreatProg
import Derived.KernelRfl
set_option linter.unusedSimpArgs false
set_option linter.unusedVariables false

namespace Go.Proofs.YtildflamnehilaaGreat.Trx
open Go.RowKit Go.Shelf Go.Proofs.YtildflamnehilaaGreat.Sx
attribute [local go_sem] Oper.semAt_some

/-- the leaves, in order -/
def TreeD.inorder : TreeD → List LeafD
  | .nil => []
  | .node th x l r _ _ => bif th then TreeD.inorder l ++ x :: TreeD.inorder r else []

/-- a leaf whose path is a text that can be -/
abbrev LeafX := { x : LeafD // x.path.length ≤ maxI64 }
def leafL (x : LeafD) : List Value := [.string ⟨⟨x.path⟩⟩, .int .u64 x.digest, .int .i64 x.rev, .bool x.gone]
def leafV (x : LeafD) : Value := .agg ⟨leafL x⟩

/-- what lay below n lies as it lay -/
structure KeepB (n : Nat) (w w' : World) : Prop where
  os : w'.os = w.os
  output : w'.output = w.output
  size : w.heap.size ≤ w'.heap.size
  block : ∀ k, k < n → w'.heap[k]? = w.heap[k]?
theorem KeepB.refl (n : Nat) (w : World) : KeepB n w w := ⟨rfl, rfl, Nat.le_refl _, fun _ _ => rfl⟩
theorem KeepB.trans {n : Nat} {a b c : World} (h : KeepB n a b) (k : KeepB n b c) : KeepB n a c := ⟨k.os.trans h.os, k.output.trans h.output, Nat.le_trans h.size k.size, fun i hi => (k.block i hi).trans (h.block i hi)⟩
theorem KeepB.cell {n : Nat} {w w' : World} (h : KeepB n w w') {b : Nat} (hb : b < n) (o : Nat) : w'.cell? ⟨b, o, none⟩ = w.cell? ⟨b, o, none⟩ := cell?_congr (h.block b hb) o
theorem KeepB.of {n : Nat} {w w' : World} (h : Below n w w') : KeepB n w w' := ⟨h.os, h.output, h.size, h.block⟩
theorem KeepB.mono {n m : Nat} {w w' : World} (h : KeepB n w w') (hm : m ≤ n) : KeepB m w w' := ⟨h.os, h.output, h.size, fun k hk => h.block k (Nat.lt_of_lt_of_le hk hm)⟩
theorem KeepB.kept {n : Nat} {w w' : World} (h : Kept w w') (hn : n ≤ w.heap.size) : KeepB n w w' := ⟨h.os, h.out, h.size, fun k hk => h.keep k (by omega)⟩

/-- THE HEAP HOLDS THE TREE T AT p, in blocks below n₀ -/
def IsTree (n₀ : Nat) (W : World) : Option Addr → TreeD → Prop
  | p, .nil => p = none
  | p, .node th x l r d m => ∃ (b o : Nat) (pl pr : Option Addr), p = some ⟨b, o, none⟩ ∧ b < n₀ ∧ x.path.length ≤ maxI64 ∧ W.cell? ⟨b, o, none⟩ = some (.bool th) ∧
      W.cell? ⟨b, o + 1, none⟩ = some (.string ⟨⟨x.path⟩⟩) ∧ W.cell? ⟨b, o + 2, none⟩ = some (.int .u64 x.digest) ∧ W.cell? ⟨b, o + 3, none⟩ = some (.int .i64 x.rev) ∧ W.cell? ⟨b, o + 4, none⟩ = some (.bool x.gone) ∧
      W.cell? ⟨b, o + 5, none⟩ = some (.pointer pl) ∧ W.cell? ⟨b, o + 6, none⟩ = some (.pointer pr) ∧ IsTree n₀ W pl l ∧ IsTree n₀ W pr r

theorem IsTree.below {n₀ : Nat} {A B : World} (h : KeepB n₀ A B) : ∀ {p : Option Addr} {T : TreeD}, IsTree n₀ A p T → IsTree n₀ B p T
  | _, .nil, ht => ht
  | _, .node _ _ _ _ _ _, ⟨b, o, pl, pr, hp, hb, hs, h0, h1, h2, h3, h4, h5, h6, hl, hr⟩ =>
    ⟨b, o, pl, pr, hp, hb, hs, (h.cell hb _).trans h0, (h.cell hb (o + 1)).trans h1, (h.cell hb (o + 2)).trans h2, (h.cell hb (o + 3)).trans h3,
      (h.cell hb (o + 4)).trans h4, (h.cell hb (o + 5)).trans h5, (h.cell hb (o + 6)).trans h6, IsTree.below h hl, IsTree.below h hr⟩

theorem IsTree.paths {n₀ : Nat} {W : World} : ∀ {p : Option Addr} {T : TreeD}, IsTree n₀ W p T → ∀ x ∈ TreeD.inorder T, x.path.length ≤ maxI64
  | _, .nil, _, x, hx => by simp [TreeD.inorder] at hx
  | _, .node th y l r _ _, ⟨b, o, pl, pr, hp, hb, hs, h0, h1, h2, h3, h4, h5, h6, hl, hr⟩, x, hx => by
    unfold TreeD.inorder at hx
    cases th
    · simp at hx
    · simp at hx
      rcases hx with hx | rfl | hx
      · exact IsTree.paths hl x hx
      · exact hs
      · exact IsTree.paths hr x hx

theorem room_of_none {F : Fence} (hd : F.depth = none) (k : Nat) : F.room k := fun d h => by rw [hd] at h; cases h
theorem RoundIn.anyDepth {F : Fence} (hd : F.depth = none) {m m' : Nat} {P : Program} {l : Nat} {f : FuncId} {tmps : Array Value} {assign body : Code} {w : World} {R : Ending → World → Prop}
    (h : RoundIn F m P l f tmps assign body w R) : RoundIn F m' P l f tmps assign body w R := ⟨h.1, fun c cs _ => h.2 c cs (room_of_none hd _)⟩
theorem YieldAt.anyDepth {F : Fence} (hd : F.depth = none) {m : Nat} (m' : Nat) {P : Program} {l : Nat} {args : Array Value} {W : World} {R : Ending → World → Prop} (h : YieldAt F m P l args W R) : YieldAt F m' P l args W R := by
  obtain ⟨fn, tmps, assign, body, hy, hR⟩ := h
  exact ⟨fn, tmps, assign, body, hy, RoundIn.anyDepth hd hR⟩

set_option maxHeartbeats 2000000 in
theorem empty_in (F : Fence) (hf : F.fn 117) (hro : F.round = none) (n n₀ : Nat) (p : Option Addr) (T : TreeD) (W : World) (hT : IsTree n₀ W p T) :
    CallsIn F n Tryz.prog 117 #[.pointer p] W fun e W' => e = .returned (.bool (T.isNil || !T.there)) ∧ W' = W := by
  cases T with
  | nil =>
    obtain rfl : p = none := hT
    refine callsIn_of_wp Tryz.func117 rfl hf ?_ hro
    simp only [Tryz.ntmps117, List.size_toArray, List.length_cons, List.length_nil, Nat.reduceAdd, Nat.reduceSub, Array.replicate_succ, Array.replicate_zero, List.push_toArray, List.append_toArray, List.nil_append, List.cons_append]
    gi_wp2
    go_ret
    exact ⟨rfl, rfl⟩
  | node th x l r d m =>
    obtain ⟨b, o, pl, pr, rfl, hb, hs, h0, h1, h2, h3, h4, h5, h6, hl, hr⟩ := hT
    refine callsIn_of_wp Tryz.func117 rfl hf ?_ hro
    simp only [Tryz.ntmps117, List.size_toArray, List.length_cons, List.length_nil, Nat.reduceAdd, Nat.reduceSub, Array.replicate_succ, Array.replicate_zero, List.push_toArray, List.append_toArray, List.nil_append, List.cons_append]
    gi_wp2
    go_ret
    exact ⟨by simp [TreeD.isNil, TreeD.there], rfl⟩

theorem inorder_node (x : LeafD) (l r : TreeD) (d m : Int) : TreeD.inorder (.node true x l r d m) = TreeD.inorder l ++ x :: TreeD.inorder r := rfl

set_option maxRecDepth 100000 in
set_option maxHeartbeats 4000000 in
theorem walkIn (F : Fence) (hd : F.depth = none) (h54 : F.fn 117) (h88 : F.fn 228) (hro : F.round = none) (l n₀ N : Nat) (J Jx : List LeafX → World → Prop)
    (hY : ∀ m pre (x : LeafX) W, J pre W → pre.length < N → YieldAt F m Tryz.prog l #[leafV x.1] W fun e W' =>
      (e = .returned (.bool true) ∧ J (pre ++ [x]) W' ∧ KeepB n₀ W W') ∨ (e = .returned (.bool false) ∧ Jx (pre ++ [x]) W')) (T : TreeD) :
    ∀ (n : Nat) (p : Option Addr) (pre : List LeafX) (W : World) (X : List LeafX), IsTree n₀ W p T → X.map (·.1) = TreeD.inorder T → J pre W → pre.length + X.length ≤ N →
      CallsIn F n Tryz.prog 228 #[.pointer p, .func (.yield l) #[] #[]] W fun e W' =>
        (e = .returned (.bool true) ∧ J (pre ++ X) W' ∧ KeepB n₀ W W') ∨ (e = .returned (.bool false) ∧ ∃ q, q <+: X ∧ Jx (pre ++ q) W') := by
  induction T with
  | nil =>
    intro n p pre W X ht hX hJ _
    obtain rfl : X = [] := List.map_eq_nil_iff.1 hX
    have hdd : ∀ k : Nat, (F.depth.isSome = true → 1 ≤ k) := fun k h => by rw [hd] at h; cases h
    refine callsIn_of_wp Tryz.func228 rfl h88 ?_ hro
    simp only [Tryz.ntmps228, List.size_toArray, List.length_cons, List.length_nil, Nat.reduceAdd, Nat.reduceSub, Array.replicate_succ, Array.replicate_zero, List.push_toArray, List.append_toArray, List.nil_append, List.cons_append]
    have he := empty_in F h54 hro (n - 1) n₀ p .nil W ht
    simp only [TreeD.isNil, Bool.true_or] at he
    gi_wp2_with ((try refine ⟨hdd _, ?_⟩); gi_at_call 117; refine he.mono ?_; clear he; rintro e W1 ⟨rfl, rfl⟩)
    all_goals try (exact absurd ‹some undef = some (Value.bool _)› (by simp [undef]))
    refine ⟨fun _ h => (by cases h), ?_⟩
    gi_wp2
    all_goals try (exact absurd ‹some undef = some (Value.bool _)› (by simp [undef]))
    go_ret
    exact .inl ⟨rfl, by simpa using hJ, KeepB.refl _ _⟩
  | node th v tl tr d m ihl ihr =>
    intro n p pre W X ht hX hJ hN
    have hdd : ∀ k : Nat, (F.depth.isSome = true → 1 ≤ k) := fun k h => by rw [hd] at h; cases h
    have he := empty_in F h54 hro (n - 1) n₀ p _ W ht
    cases th
    · obtain rfl : X = [] := List.map_eq_nil_iff.1 hX
      refine callsIn_of_wp Tryz.func228 rfl h88 ?_ hro
      simp only [Tryz.ntmps228, List.size_toArray, List.length_cons, List.length_nil, Nat.reduceAdd, Nat.reduceSub, Array.replicate_succ, Array.replicate_zero, List.push_toArray, List.append_toArray, List.nil_append, List.cons_append]
      simp only [TreeD.isNil, TreeD.there, Bool.not_false, Bool.or_true] at he
      gi_wp2_with ((try refine ⟨hdd _, ?_⟩); gi_at_call 117; refine he.mono ?_; clear he; rintro e W1 ⟨rfl, rfl⟩)
      all_goals try (exact absurd ‹some undef = some (Value.bool _)› (by simp [undef]))
      refine ⟨fun _ h => (by cases h), ?_⟩
      gi_wp2
      all_goals try (exact absurd ‹some undef = some (Value.bool _)› (by simp [undef]))
      go_ret
      exact .inl ⟨rfl, by simpa using hJ, KeepB.refl _ _⟩
    · simp only [TreeD.isNil, TreeD.there, Bool.not_true, Bool.or_false] at he
      rw [inorder_node] at hX
      obtain ⟨X1, X2, rfl, hX1, hX2⟩ := List.map_eq_append_iff.1 hX
      obtain ⟨x, X3, rfl, hx, hX3⟩ := List.map_eq_cons_iff.1 hX2
      obtain ⟨b, o, pl, pr, rfl, hb, hs, c0, c1, c2, c3, c4, c5, c6, hl, hr⟩ := ht
      subst hx
      simp only [List.length_append, List.length_cons] at hN
      have hy2 : ∀ W1, J (pre ++ X1) W1 → KeepB n₀ W W1 → YieldAt F (n - 1) Tryz.prog l #[leafV x.1] W1 fun e W2 =>
          (e = .returned (.bool true) ∧ J (pre ++ X1 ++ [x]) W2 ∧ KeepB n₀ W W2 ∧ W2.cell? ⟨b, o + 6, none⟩ = some (.pointer pr) ∧ IsTree n₀ W2 pr tr) ∨ (e = .returned (.bool false) ∧ Jx (pre ++ X1 ++ [x]) W2) := fun W1 hJ1 hb1 =>
        YieldAt.mono (hY (n - 1) _ x W1 hJ1 (by simp; omega)) fun e W2 h => h.elim
          (fun ⟨he, hj, hb2⟩ => .inl ⟨he, hj, hb1.trans hb2, ((hb1.trans hb2).cell hb (o + 6)).trans c6, hr.below (hb1.trans hb2)⟩) .inr
      have ih1 := (ihl (n - 1) pl pre W X1 hl hX1 hJ (by omega)).mono (R' := fun e W1 =>
          (e = .returned (.bool true) ∧ (W1.cell? ⟨b, o + 1, none⟩ = some (.string ⟨⟨x.1.path⟩⟩) ∧ W1.cell? ⟨b, o + 2, none⟩ = some (.int .u64 x.1.digest) ∧ W1.cell? ⟨b, o + 3, none⟩ = some (.int .i64 x.1.rev) ∧ W1.cell? ⟨b, o + 4, none⟩ = some (.bool x.1.gone)) ∧ YieldAt F (n - 1) Tryz.prog l #[leafV x.1] W1 fun e W2 =>
            (e = .returned (.bool true) ∧ J (pre ++ X1 ++ [x]) W2 ∧ KeepB n₀ W W2 ∧ W2.cell? ⟨b, o + 6, none⟩ = some (.pointer pr) ∧ IsTree n₀ W2 pr tr) ∨ (e = .returned (.bool false) ∧ Jx (pre ++ X1 ++ [x]) W2)) ∨
          (e = .returned (.bool false) ∧ ∃ q, q <+: X1 ∧ Jx (pre ++ q) W1))
        (fun e W1 h => h.elim (fun ⟨he, hj, hb1⟩ => .inl ⟨he, ⟨(hb1.cell hb (o + 1)).trans c1, (hb1.cell hb (o + 2)).trans c2, (hb1.cell hb (o + 3)).trans c3, (hb1.cell hb (o + 4)).trans c4⟩, hy2 W1 hj hb1⟩) .inr)
      clear hy2 ihl
      refine callsIn_of_wp Tryz.func228 rfl h88 ?_ hro
      simp only [Tryz.ntmps228, List.size_toArray, List.length_cons, List.length_nil, Nat.reduceAdd, Nat.reduceSub, Array.replicate_succ, Array.replicate_zero, List.push_toArray, List.append_toArray, List.nil_append, List.cons_append]
      gi_wp2_with (first
        | ((try refine ⟨hdd _, ?_⟩); gi_at_call 117; refine he.mono ?_; clear he; rintro e W1 ⟨rfl, rfl⟩)
        | ((try refine ⟨hdd _, ?_⟩); gi_at_call 228; refine ih1.mono ?_; clear ih1; rintro e W1 (⟨rfl, ⟨c1', c2', c3', c4'⟩, fn, tmps, assign, body, hy, hR⟩ | ⟨rfl, q, hq, hx1⟩) <;> (try dsimp only [leafV, leafL] at hy))
        | ((try refine ⟨hdd _, ?_⟩); refine hR.mono ?_; clear hR; rintro e W2 (⟨rfl, hJ2, hb2, c2', hr2⟩ | ⟨rfl, hx2⟩))
        | ((try refine ⟨hdd _, ?_⟩); gi_at_call 228; refine (ihr (n - 1) pr _ _ X3 hr2 hX3 hJ2 (by simp; omega)).mono ?_; rintro e W3 (⟨rfl, hJ3, hb3⟩ | ⟨rfl, q, hq, hx3⟩)))
      · -- all have come
        go_ret
        exact .inl ⟨rfl, by simpa [List.append_assoc] using hJ3, hb2.trans hb3⟩
      · go_ret
        obtain ⟨r, hr'⟩ := hq
        exact .inr ⟨rfl, X1 ++ x :: q, ⟨r, by simp [← hr']⟩, by simpa [List.append_assoc] using hx3⟩
      · go_ret
        exact .inr ⟨rfl, X1 ++ [x], ⟨X3, by simp⟩, by simpa [List.append_assoc] using hx2⟩
      · refine ⟨fun _ h => (by cases h), ?_⟩
        gi_wp2
        go_ret
        exact .inr ⟨rfl, q, hq.trans (by simp), hx1⟩

set_option maxHeartbeats 1000000 in
theorem leaves1_in (F : Fence) (hd : F.depth = none) (n : Nat) (h54 : F.fn 117) (h87 : F.fn 227) (h88 : F.fn 228) (hro : F.round = none) (l Bt n₀ : Nat) (p0 : Option Addr) (T : TreeD) (X : List LeafX) (hX : X.map (·.1) = TreeD.inorder T) (J Jx : List LeafX → World → Prop)
    (hY : ∀ pre (x : LeafX) W, J pre W → pre.length < X.length → YieldAt F (n - 1) Tryz.prog l #[leafV x.1] W fun e W' =>
      (e = .returned (.bool true) ∧ J (pre ++ [x]) W' ∧ KeepB n₀ W W') ∨ (e = .returned (.bool false) ∧ Jx (pre ++ [x]) W'))
    (W : World) (hBt : W.cell? ⟨Bt, 0, none⟩ = some (.pointer p0)) (hT : IsTree n₀ W p0 T) (h0 : J [] W) :
    CallsIn F n Tryz.prog 227 #[.func (.yield l) #[] #[], .pointer (some ⟨Bt, 0, none⟩)] W fun e W' => (∃ v, e = .returned v) ∧
      ((∃ ys, ys = X ∧ J ys W') ∨ (∃ pre, pre <+: X ∧ Jx pre W')) := by
  have hdd : ∀ k : Nat, (F.depth.isSome = true → 1 ≤ k) := fun k h => by rw [hd] at h; cases h
  have hp := walkIn F hd h54 h88 hro l n₀ X.length J Jx (fun m pre x W hj hl => YieldAt.anyDepth hd m (hY pre x W hj hl)) T (n - 1) p0 [] W X hT hX h0 (by simp)
  refine callsIn_of_wp Tryz.func227 rfl h87 ?_ hro
  simp only [Tryz.ntmps227, List.size_toArray, List.length_cons, List.length_nil, Nat.reduceAdd, Nat.reduceSub, Array.replicate_succ, Array.replicate_zero, List.push_toArray, List.append_toArray, List.nil_append, List.cons_append]
  gi_wp2_with ((try refine ⟨hdd _, ?_⟩); gi_at_call 228; refine hp.mono ?_; clear hp; rintro e W1 (⟨rfl, hJ1, _⟩ | ⟨rfl, q, hq, hx⟩))
  · go_end0
    exact ⟨⟨_, rfl⟩, .inl ⟨_, rfl, by simpa using hJ1⟩⟩
  · go_end0
    exact ⟨⟨_, rfl⟩, .inr ⟨q, hq, by simpa using hx⟩⟩

set_option maxHeartbeats 1000000 in
theorem leaves_in (F : Fence) (n : Nat) (h73 : F.fn 204) (hro : F.round = none) (p0 : Option Addr) (w : World) :
    CallsIn F n Tryz.prog 204 #[.pointer p0] w fun e w' => e = .returned (.func (.func 227) #[] #[.pointer (some ⟨w.heap.size, 0, none⟩)]) ∧ w' = w.alloc (.cells #[.pointer p0] 102) := by
  refine callsIn_of_wp Tryz.func204 rfl h73 ?_ hro
  simp only [Tryz.ntmps204, List.size_toArray, List.length_cons, List.length_nil, Nat.reduceAdd, Nat.reduceSub, Array.replicate_succ, Array.replicate_zero, List.push_toArray, List.append_toArray, List.nil_append, List.cons_append]
  gi_wp2
  go_ret
  exact ⟨rfl, rfl⟩

theorem leaves_stops (F : Fence) (hd : F.depth = none) (n : Nat) (h54 : F.fn 117) (h87 : F.fn 227) (h88 : F.fn 228) (hro : F.round = none) (Bt n₀ : Nat) (p0 : Option Addr) (T : TreeD) (X : List LeafX) (hX : X.map (·.1) = TreeD.inorder T) (w : World) (hBt : Bt < w.heap.size) (hn₀ : n₀ ≤ w.heap.size)
    (hc : w.cell? ⟨Bt, 0, none⟩ = some (.pointer p0)) (hT : IsTree n₀ w p0 T) :
    SeqStopsK F n Tryz.prog 227 #[.pointer (some ⟨Bt, 0, none⟩)] (fun x : LeafX => #[leafV x.1]) (KeepB n₀) (fun ys => ys = X) (fun pre => pre <+: X) X.length w := fun l J Jx W hW _ _ hY h0 =>
  leaves1_in F hd n h54 h87 h88 hro l Bt n₀ p0 T X hX J Jx hY W (((KeepB.of hW).cell hBt 0).trans hc) (hT.below ((KeepB.of hW).mono hn₀)) h0
end Go.Proofs.YtildflamnehilaaGreat.Trx

namespace Go.Proofs.YtildflamnehilaaGreat.Trx
open Go.RowKit Go.Shelf Go.Proofs.YtildflamnehilaaGreat.Sx
attribute [local go_sem] Oper.semAt_some

def fltX (pr : LeafD → Bool) (X : List LeafX) : List LeafD := (X.map (·.1)).filter pr
theorem fltX_hit {pr : LeafD → Bool} (pre : List LeafX) {x : LeafX} (h : pr x.1 = true) : fltX pr (pre ++ [x]) = fltX pr pre ++ [x.1] := by simp [fltX, h]
theorem fltX_miss {pr : LeafD → Bool} (pre : List LeafX) {x : LeafX} (h : pr x.1 = false) : fltX pr (pre ++ [x]) = fltX pr pre := by simp [fltX, h]
theorem fltX_len (pr : LeafD → Bool) (pre : List LeafX) : (fltX pr pre).length ≤ pre.length := by
  unfold fltX
  exact Nat.le_trans (List.length_filter_le _ _) (by simp)

/-- a leaf in a block of its own -/
def LBox (W : World) (B : Nat) (x : LeafD) : Prop := W.heap[B]? = some (.cells ⟨leafL x⟩ 111 (0, 0))
theorem LBox.lt {W : World} {B : Nat} {x : LeafD} (h : LBox W B x) : B < W.heap.size := (Array.getElem?_eq_some_iff.1 h).1
theorem LBox.kept {W W' : World} {row : Option Nat} {B : Nat} {x : LeafD} (h : LBox W B x) (hg : W.grownBy W' row) (hne : some B ≠ row) : LBox W' B x := (hg.block B h.lt hne).trans h
theorem LBox.cells {W : World} {B : Nat} {x : LeafD} (h : LBox W B x) : W.cell? ⟨B, 0, none⟩ = some (.string ⟨⟨x.path⟩⟩) ∧ W.cell? ⟨B, 1, none⟩ = some (.int .u64 x.digest) ∧ W.cell? ⟨B, 2, none⟩ = some (.int .i64 x.rev) ∧ W.cell? ⟨B, 3, none⟩ = some (.bool x.gone) := by
  refine ⟨?_, ?_, ?_, ?_⟩ <;> simp [World.cell?, show W.heap[B]? = _ from h, leafL]
theorem lbox_own (B : Nat) (x : LeafD) : Own (fun (_ : Unit) W => LBox W B x) := fun s X Y row hs hg hrow =>
  hs.kept hg (fun e' => by obtain ⟨o, ho, hc⟩ := hrow B e'.symm; rw [show X.heap[B]? = _ from hs] at ho; cases ho; cases hc)
theorem LBox.keep {W W' : World} {B : Nat} {x : LeafD} (h : LBox W B x) (k : Kept W W') : LBox W' B x := (k.keep B h.lt).trans h
theorem boxed_keep {W W' : World} {B : Nat} {t : TypeId} {v : Value} (h : Boxed W B t v) (k : Kept W W') : Boxed W' B t v := (k.keep B h.lt).trans h
theorem KeepsFrom.kept {B : Nat} {W W' : World} (k : Kept W W') : KeepsFrom B W W' := ⟨k.size, fun i o _ h _ => (k.keep i (Array.getElem?_eq_some_iff.1 h).1).trans h⟩
theorem ownsRow_keep {W W' : World} {base : Nat} {e : TypeId} {size : Nat} {v : Value} {n : Nat} {xs : List Value} (h : W.ownsRow base e size v n xs) (k : Kept W W') : W'.ownsRow base e size v n xs := by
  refine ⟨h.1, h.2.imp id ?_⟩
  rintro ⟨g, cap, cur, e1, e2, e3, e4⟩
  exact ⟨g, cap, cur, e1, e2, (k.keep g (Array.getElem?_eq_some_iff.1 e3).1).trans e3, e4⟩
theorem keepB_own {β : Type} (w : World) {B : Nat} (hB : w.heap.size ≤ B) : OwnFrom B (fun (_ : β) W => KeepB w.heap.size w W) := fun s X Y row hs hg hr =>
  ⟨hg.os.trans hs.os, hg.output.trans hs.output, Nat.le_trans hs.size hg.size, fun k hk => (hg.block k (by have := hs.size; omega) (fun e => by have := (hr k e.symm).1; omega)).trans (hs.block k hk)⟩
theorem cell_four_new (w : World) (x : LeafD) (t : TypeId) : ∀ j u, (leafL x)[j]? = some u → (w.alloc (.cells ⟨leafL x⟩ t)).cell? ((⟨w.heap.size, 0, none⟩ : Addr).add j) = some u := by
  intro j u hj
  have hn := World.alloc_heap_new w (.cells ⟨leafL x⟩ t)
  rw [Sx.add_none, Nat.zero_add]
  unfold World.cell?
  dsimp only
  rw [hn]
  simpa using hj
theorem leafL_one (x : LeafD) : ∀ u ∈ leafL x, u.oneCell' = true := by
  intro u hu
  simp [leafL] at hu
  rcases hu with rfl | rfl | rfl | rfl <;> rfl
theorem leaf_info : (Tryz.prog.info? 111).map (fun i => (i.zero, i.size, i.bytes)) = some (some (.agg #[.string ⟨#[]⟩, .int .u64 0, .int .i64 0, .bool false]), 4, 40) := by kernel_rfl

set_option maxRecDepth 100000 in
set_option maxHeartbeats 4000000 in
theorem thoseAll_in (n : Nat) (hn : 3 ≤ n) (p0 : Option Addr) (T : TreeD) (pr : LeafD → Bool) (X : List LeafX) (hX : X.map (·.1) = TreeD.inorder T) (hlen : X.length * 40 ≤ 140737488355328) (w : World) (hT : IsTree w.heap.size w p0 T)
    (hso : ∀ (x : LeafX) (W : World), KeepB w.heap.size w W → Calls Tryz.prog 178 #[.string ⟨⟨x.1.path⟩⟩] W fun e W' => e = .returned (.bool (pr x.1)) ∧ Kept W W') :
    CallsIn Fence.wide n Tryz.prog 177 #[.pointer p0, .func (.func 178) #[] #[]] w fun e W' => ∃ v, e = .returned v ∧ W'.ownsRow w.heap.size 111 4 v (fltX pr X).length ((fltX pr X).flatMap leafL) ∧ KeepB w.heap.size w W' := by
  have h1 : 1 ≤ n := by omega
  have hro : Fence.wide.round = none := rfl
  have hd : Fence.wide.depth = none := rfl
  obtain ⟨i0, hi, hz0, hz1, hz2⟩ := info_parts leaf_info
  refine callsIn_of_wp_marks Tryz.func177 rfl trivial ?_ hro
  simp only [Tryz.ntmps177, List.size_toArray, List.length_cons, List.length_nil, Nat.reduceAdd, Nat.reduceSub, Array.replicate_succ, Array.replicate_zero, List.push_toArray, List.append_toArray, List.nil_append, List.cons_append]
  gi_wp2_with ((refine ⟨trivial, ?_⟩); gi_at_call 204; refine (leaves_in Fence.wide (n - 1) trivial hro _ _).mono ?_; rintro e w' ⟨rfl, rfl⟩)
  have bS := Boxed.new w 113 (.func (.func 178) #[] #[])
  have bO := Boxed.new (w.alloc (.cells #[.func (.func 178) #[] #[]] 113)) 29 (.slice none 0 0)
  rw [World.size_alloc] at bO
  have bN := Boxed.new ((w.alloc (.cells #[.func (.func 178) #[] #[]] 113)).alloc (.cells #[.slice none 0 0] 29)) 102 (.pointer p0)
  rw [World.size_alloc, World.size_alloc] at bN
  have hB0 : Below w.heap.size w (((w.alloc (.cells #[.func (.func 178) #[] #[]] 113)).alloc (.cells #[.slice none 0 0] 29)).alloc (.cells #[.pointer p0] 102)) := (((Below.refl _ w).alloc (Nat.le_refl _) _).alloc (by simp) _).alloc (by simp; omega) _
  have hT2 := hT.below (KeepB.of hB0)
  refine wpIn_rangeFunc_ownH hro h1 (gf := 227) (lb := #[.pointer (some ⟨w.heap.size + 1 + 1, 0, none⟩)]) rfl trivial (enters_of Tryz.func227 (by kernel_rfl) rfl)
    (leaves_stops Fence.wide hd (n - 1) trivial trivial trivial hro (w.heap.size + 1 + 1) w.heap.size p0 T X hX _ (by simp) (by simp; omega) bN.cell hT2) (fun h k => h.trans k) (fun W l o o' hl hk ho _ => KeepB.of (belowK_b (w := w) (Nat.le_refl _) W l o o' (by simp at hl; omega) hk ho ‹_›)) (Below.refl _ _) (fun _ => rfl)
    (fun pre W => ((∃ v, Boxed W (w.heap.size + 1) 29 v ∧ W.ownsRow w.heap.size 111 4 v (fltX pr pre).length ((fltX pr pre).flatMap leafL) ∧ (v = .slice none 0 0 ↔ fltX pr pre = [])) ∧ Boxed W w.heap.size 113 (.func (.func 178) #[] #[])) ∧ KeepB w.heap.size w W)
    (fun _ _ _ => False)
    (OwnFrom.and (OwnFrom.and (Own.from (holdsRow_own w.heap.size (w.heap.size + 1) 29 111 4 (fun pre => (fltX pr pre).length) (fun pre => (fltX pr pre).flatMap leafL) (fun pre v => v = .slice none 0 0 ↔ fltX pr pre = [])) _) (Own.from (boxed_own _ _ _) _)) (keepB_own w (by simp; omega)))
    (fun _ _ _ _ _ hs _ _ => hs)
    ⟨⟨⟨_, bO.alloc _, World.ownsRow_nil _ _ _ _, by simp [fltX]⟩, (bS.alloc _).alloc _⟩, KeepB.of hB0⟩
    (fun x a' W => ∃ Bx, w.heap.size + 1 < Bx ∧ LBox W Bx x.1 ∧ a' = { tmps := #[.pointer p0, .func (.func 178) #[] #[], undef, .pointer (some ⟨w.heap.size, 0, none⟩), .slice none 0 0, .pointer (some ⟨w.heap.size + 1, 0, none⟩), .pointer (some ⟨Bx, 0, none⟩), .pointer p0, .func (.func 227) #[] #[.pointer (some ⟨w.heap.size + 1 + 1, 0, none⟩)], leafV x.1, undef, undef, undef, undef, undef, undef, undef, undef, undef], defers := [] })
    (fun x a' _ X Y row hs hg hr => by obtain ⟨Bx, h1, h2, h3⟩ := hs; exact ⟨Bx, h1, lbox_own Bx x.1 () X Y row h2 hg (fun r e => (hr r e).2), h3⟩)
    ?assign ?body ?done ?stop
  case assign =>
    rintro l pre x W K hI hK
    dsimp only [leafV, leafL]
    gi_wp2
    obtain ⟨⟨⟨v, hv, hrow, hnil⟩, hs⟩, hB⟩ := hI
    exact hK _ _ ((KeepsOthers.alloc _ _).from _) (KeepB.of ((Below.refl _ W).alloc hB.size _)) ⟨⟨⟨v, hv.alloc _, hrow.alloc _, hnil⟩, hs.alloc _⟩, hB.trans (KeepB.of ((Below.refl _ W).alloc hB.size _))⟩ ⟨W.heap.size, hv.lt, World.alloc_heap_new W _, rfl⟩
  case body =>
    rintro l pre x a' W hl ⟨r, hr⟩ ⟨⟨⟨v, hv, hrow, hnil⟩, hs⟩, hB⟩ ⟨Bx, hBx, bX, rfl⟩ hlt
    have hc := hv.cell
    have hcs := hs.cell
    obtain ⟨x0, x1, x2, x3⟩ := bX.cells
    have hpl := fltX_len pr pre
    have hml : X.length ≤ maxLen := by unfold maxLen; omega
    have hsoW := hso x W hB
    have hd1 : w.heap.size ≤ W.heap.size := hB.size
    cases hp : pr x.1
    · rw [hp] at hsoW
      gi_wp2_with ((refine ⟨trivial, ?_⟩); gi_at_call 178; refine (CallsIn.inRound l (callsIn_wide.2 hsoW)).mono ?_; clear hsoW; rintro e W1 ⟨rfl, hk⟩)
      exact ⟨KeepsFrom.kept hk, KeepB.kept hk hd1, ⟨⟨v, boxed_keep hv hk, by rw [fltX_miss pre hp]; exact ownsRow_keep hrow hk, by rw [fltX_miss pre hp]; exact hnil⟩, boxed_keep hs hk⟩, hB.trans (KeepB.kept hk hd1)⟩
    · rw [hp] at hsoW
      gi_wp2_with (first
        | ((refine ⟨trivial, ?_⟩); gi_at_call 178; refine (CallsIn.inRound l (callsIn_wide.2 hsoW)).mono ?_; clear hsoW; rintro e W1 ⟨rfl, hk⟩; have hvk := boxed_keep hv hk; have hck := hvk.cell; have hrk := ownsRow_keep hrow hk; have bXk := bX.keep hk; obtain ⟨y0, y1, y2, y3⟩ := bXk.cells; have hsz : w.heap.size ≤ W1.heap.size := Nat.le_trans hd1 hk.size)
        | (gi_at_builtin; refine wpListIn_append_own _ rfl _ _ 29 rfl w.heap.size 111 i0 (.agg #[.string ⟨#[]⟩, .int .u64 0, .int .i64 0, .bool false]) 4 40 Tryz.underlying29 hi hz0 hz1 hz2 rfl (by decide) _ _ _ rfl (hrk.alloc _) ⟨W1.heap.size, 0, none⟩ 1 1 (leafL x.1) rfl rfl (cell_four_new _ _ _) (leafL_one _) (by omega) (by omega) (by simp; omega) ?_; intro v' w1 hown' hgrow _; obtain ⟨g', cap', rfl⟩ := ownsRow_succ hown'; obtain ⟨hv1, hv2, hr2, hk2, hb2⟩ := hvk.appended (by decide) hrk hsz (by omega) hown' hgrow; have hc1 := hv1.cell; have hf1 := hv1.frozen; have hs2 := (((boxed_keep hs hk).alloc (.cells ⟨leafL x.1⟩ 111)).kept hgrow ((boxed_keep hs hk).not_row (by decide) hrk)).other (B' := w.heap.size + 1) (by omega) (.slice (some ⟨g', 0, none⟩) ((fltX pr pre).length + 1) cap')))
      exact ⟨(KeepsFrom.kept hk).trans (hk2.from _), (KeepB.kept hk hd1).trans (KeepB.of hb2), ⟨⟨_, hv2, by rw [fltX_hit pre hp]; simpa using hr2, by rw [fltX_hit pre hp]; simp⟩, hs2⟩, (hB.trans (KeepB.kept hk hd1)).trans (KeepB.of hb2)⟩
  case done =>
    rintro D ys W hD rfl ⟨⟨⟨v, hv, hrow, hnil⟩, hs⟩, hB⟩ hK
    have hc := hv.cell
    gi_wp2
    refine ⟨by simp, .inl ⟨_, _, rfl, run_takeDeferred hK, ?_⟩⟩
    exact ⟨_, results_tmp rfl _ _ _, v, rfl, ownsRow_putObj hrow _ hK rfl, hB.trans (KeepB.of (belowK_b (w := w) (Nat.le_refl _) W D _ _ (by simp at hD; omega) hK rfl rfl))⟩
  case stop =>
    rintro D c pre W _ _ h _
    exact h.elim

end Go.Proofs.YtildflamnehilaaGreat.Trx

namespace Go.Proofs.YtildflamnehilaaGreat.Ses
open Go Go.Proofs Go.Proofs.YtildflamnehilaaGreat.Sx Go.Proofs.YtildflamnehilaaGreat.Trx

def fewL (t : TreeD) : Bool := decide ((TreeD.inorder t).length * 40 ≤ 140737488355328)
structure TrS where
  t : TreeD
  d : Bs
structure TrR where
  t : TreeD
  a : Bs
  b : Bs
def inR (a b p : Bs) : Bool := decide (cmpL (splitB p) (splitB a) ≥ 0) && (b == [] || decide (cmpL (splitB p) (splitB b) < 0))
noncomputable def under1T : Tri := { γ := TwoA, n0 := 0, args := fun x => [.str x.b, .rptr [.str x.a]], blks := fun _ => [], pre := fun _ => True, δ := Unit, post := fun _ _ => True, n1 := 0, res := fun x _ => .bool (withinB x.a x.b), blks' := fun _ _ => [], scal := true }
structure Rg1 where
  p : Bs
  a : Bs
  b : Bs
noncomputable def range1T : Tri := { γ := Rg1, n0 := 0, args := fun x => [.str x.p, .rptr [.str x.a], .rptr [.str x.b]], blks := fun _ => [], pre := fun _ => True, δ := Unit, post := fun _ _ => True, n1 := 0, res := fun x _ => .bool (inR x.a x.b x.p), blks' := fun _ _ => [], scal := true }
noncomputable def range1E : Envr := Env Tryz.prog cod [(119, compareT.spec)] []
noncomputable def all1T : Tri := { γ := Bs, n0 := 0, args := fun x => [.str x], blks := fun _ => [], pre := fun _ => True, δ := Unit, post := fun _ _ => True, n1 := 0, res := fun x _ => .bool true, blks' := fun _ _ => [], scal := true }

noncomputable def thoseAllT : Tri := { γ := TreeD, n0 := 0, args := fun t => [.tree t, .fn 178 [] []], blks := fun _ => [], pre := fun t => fewL t = true, δ := Unit, post := fun _ _ => True, n1 := 1, res := fun t _ => .mslice .leaf 0 0 (TreeD.inorder t).length, blks' := fun t _ => [(0, .rows .leaf (TreeD.inorder t))], scal := true }
def undL (t : TreeD) (d : Bs) : List LeafD := (TreeD.inorder t).filter fun x => withinB d x.path
def rngL (t : TreeD) (a b : Bs) : List LeafD := (TreeD.inorder t).filter fun x => inR a b x.path
noncomputable def allT : Tri := { γ := TreeD, n0 := 0, args := fun t => [.tree t], blks := fun _ => [], pre := fun t => fewL t = true, δ := Unit, post := fun _ _ => True, n1 := 1, res := fun t _ => .mslice .leaf 0 0 (TreeD.inorder t).length, blks' := fun t _ => [(0, .rows .leaf (TreeD.inorder t))], scal := true }
noncomputable def allE : Envr := Env Tryz.prog cod [(177, thoseAllT.spec)] []
noncomputable def underT : Tri := { γ := TrS, n0 := 0, args := fun x => [.tree x.t, .str x.d], blks := fun _ => [], pre := fun x => fewL x.t = true, δ := Unit, post := fun _ _ => True, n1 := 1, res := fun x _ => .mslice .leaf 0 0 (undL x.t x.d).length, blks' := fun x _ => [(0, .rows .leaf (undL x.t x.d))], scal := true }
noncomputable def rangeT : Tri := { γ := TrR, n0 := 0, args := fun x => [.tree x.t, .str x.a, .str x.b], blks := fun _ => [], pre := fun x => fewL x.t = true, δ := Unit, post := fun _ _ => True, n1 := 1, res := fun x _ => .mslice .leaf 0 0 (rngL x.t x.a x.b).length, blks' := fun x _ => [(0, .rows .leaf (rngL x.t x.a x.b))], scal := true }
/-! ### a tree's own functions -/
def depthD (t : TreeD) : Int := bif t.isNil || !t.there then 0 else t.depth
def lenD (t : TreeD) : Int := bif t.isNil || !t.there then 0 else t.many
noncomputable def newT : Tri := { γ := Unit, n0 := 0, args := fun _ => [], blks := fun _ => [], pre := fun _ => True, δ := Unit, post := fun _ _ => True, n1 := 0, res := fun _ _ => .tree (.node false ⟨[], 0, 0, false⟩ .nil .nil 0 0), blks' := fun _ _ => [], scal := false }
noncomputable def emptyT : Tri := { γ := TreeD, n0 := 0, args := fun t => [.tree t], blks := fun _ => [], pre := fun _ => True, δ := Unit, post := fun _ _ => True, n1 := 0, res := fun t _ => .bool (t.isNil || !t.there), blks' := fun _ _ => [], scal := true }
noncomputable def tlenT : Tri := { γ := TreeD, n0 := 0, args := fun t => [.tree t], blks := fun _ => [], pre := fun _ => True, δ := Unit, post := fun _ _ => True, n1 := 0, res := fun t _ => .int .i64 (lenD t), blks' := fun _ _ => [], scal := true }
noncomputable def emptyE : Envr := Env Tryz.prog cod [(117, emptyT.spec)] []
noncomputable def tdepthT : Tri := { γ := TreeD, n0 := 0, args := fun t => [.tree t], blks := fun _ => [], pre := fun _ => True, δ := Unit, post := fun _ _ => True, n1 := 0, res := fun t _ => .int .i64 (depthD t), blks' := fun _ _ => [], scal := true }

/-- numbers are small -/
def smallT (t : TreeD) : Bool := decide (0 ≤ depthD t) && decide (depthD t ≤ 1000000) && decide (0 ≤ lenD t) && decide (lenD t ≤ 1000000)
def joinD (x : LeafD) (l r : TreeD) : TreeD := .node true x l r (1 + max (depthD l) (depthD r)) (1 + lenD l + lenD r)
structure JoA where
  x : LeafD
  l : TreeD
  r : TreeD
noncomputable def tjoinT : Tri := { γ := JoA, n0 := 0, args := fun x => [.agg (enc .leaf x.x), .tree x.l, .tree x.r], blks := fun _ => [], pre := fun x => smallT x.l = true ∧ smallT x.r = true, δ := Unit, post := fun _ _ => True, n1 := 0, res := fun x _ => .tree (joinD x.x x.l x.r), blks' := fun _ _ => [], scal := false }
noncomputable def tjoinE : Envr := Env Tryz.prog cod [(171, tlenT.spec), (170, tdepthT.spec)] []
end Go.Proofs.YtildflamnehilaaGreat.Ses

namespace Go.Proofs.YtildflamnehilaaGreat.Ses
open Go Go.Proofs Go.Proofs.YtildflamnehilaaGreat.Sx Go.Proofs.YtildflamnehilaaGreat.Trx
set_option maxRecDepth 100000

theorem all1_vc (x : all1T.γ) : evCall bareE (ev bareE 1000) 178 (all1T.args x) ⟨all1T.blks x, all1T.n0, []⟩ (fun _ _ => False) (all1T.ends x) = (
(∃ x1 : Unit,
 ((Bool.true = Bool.true) ∧
 True))) := by kernel_rfl

theorem all_vc (x : allT.γ) : evCall allE (ev allE 1000) 126 (allT.args x) ⟨allT.blks x, allT.n0, []⟩ (fun _ _ => False) (allT.ends x) = (
(∃ x1 : TreeD,
 ((x = x1) ∧
 (((fewL x1) = Bool.true) ∧
 (∀ x2 : Unit,
 (True →
 (∃ x3 : Unit,
 (((0 : Nat) = (0 : Nat)) ∧
 (((List.length (TreeD.inorder x1)) = (List.length (TreeD.inorder x))) ∧
 (((TreeD.inorder x1) = (TreeD.inorder x)) ∧
 True)))))))))) := by kernel_rfl

theorem new_vc (x : newT.γ) : evCall bareE (ev bareE 1000) 61 (newT.args x) ⟨newT.blks x, newT.n0, []⟩ (fun _ _ => False) (newT.ends x) = (
(∃ x1 : Unit,
 (((TreeD.node Bool.false (LeafD.mk (Array.toList (ByteArray.data (ByteArray.mk (List.toArray ([] : List UInt8))))) (0 : Int) (0 : Int) Bool.false) TreeD.nil TreeD.nil (0 : Int) (0 : Int)) = (TreeD.node Bool.false (LeafD.mk ([] : List UInt8) (0 : Int) (0 : Int) Bool.false) TreeD.nil TreeD.nil (0 : Int) (0 : Int))) ∧
 True))) := by kernel_rfl

theorem empty_vc (x : emptyT.γ) : evCall bareE (ev bareE 1000) 117 (emptyT.args x) ⟨emptyT.blks x, emptyT.n0, []⟩ (fun _ _ => False) (emptyT.ends x) = (
(br (TreeD.isNil x)
 (∃ x1 : Unit,
 ((Bool.true = (Bool.or (TreeD.isNil x) (Bool.not (TreeD.there x)))) ∧
 True))
 (br (Bool.not (TreeD.isNil x))
 (∃ x2 : Unit,
 (((Bool.not (TreeD.there x)) = (Bool.or (TreeD.isNil x) (Bool.not (TreeD.there x)))) ∧
 True))
 (Bad "check" "tree.go:21")))) := by kernel_rfl

theorem tlen_vc (x : tlenT.γ) : evCall emptyE (ev emptyE 1000) 171 (tlenT.args x) ⟨tlenT.blks x, tlenT.n0, []⟩ (fun _ _ => False) (tlenT.ends x) = (
(∃ x1 : TreeD,
 ((x = x1) ∧
 (True ∧
 (∀ x2 : Unit,
 (True →
 (br (Bool.or (TreeD.isNil x1) (Bool.not (TreeD.there x1)))
 (∃ x3 : Unit,
 (((0 : Int) = (lenD x)) ∧
 True))
 (br (Bool.not (TreeD.isNil x))
 (∃ x4 : Unit,
 (((TreeD.many x) = (lenD x)) ∧
 True))
 (Bad "check" "tree.go:28"))))))))) := by kernel_rfl

theorem tdepth_vc (x : tdepthT.γ) : evCall emptyE (ev emptyE 1000) 170 (tdepthT.args x) ⟨tdepthT.blks x, tdepthT.n0, []⟩ (fun _ _ => False) (tdepthT.ends x) = (
(∃ x1 : TreeD,
 ((x = x1) ∧
 (True ∧
 (∀ x2 : Unit,
 (True →
 (br (Bool.or (TreeD.isNil x1) (Bool.not (TreeD.there x1)))
 (∃ x3 : Unit,
 (((0 : Int) = (depthD x)) ∧
 True))
 (br (Bool.not (TreeD.isNil x))
 (∃ x4 : Unit,
 (((TreeD.depth x) = (depthD x)) ∧
 True))
 (Bad "check" "tree.go:36"))))))))) := by kernel_rfl

theorem tjoin_vc (x : tjoinT.γ) : evCall tjoinE (ev tjoinE 1000) 118 (tjoinT.args x) ⟨tjoinT.blks x, tjoinT.n0, []⟩ (fun _ _ => False) (tjoinT.ends x) = (
(∃ x1 : TreeD,
 (((JoA.l x) = x1) ∧
 (True ∧
 (∀ x2 : Unit,
 (True →
 (∃ x3 : TreeD,
 (((JoA.r x) = x3) ∧
 (True ∧
 (∀ x4 : Unit,
 (True →
 (∃ x5 : TreeD,
 (((JoA.l x) = x5) ∧
 (True ∧
 (∀ x6 : Unit,
 (True →
 (∃ x7 : TreeD,
 (((JoA.r x) = x7) ∧
 (True ∧
 (∀ x8 : Unit,
 (True →
 (∃ x9 : Unit,
 (((TreeD.node Bool.true (LeafD.mk (LeafD.path (JoA.x x)) (LeafD.digest (JoA.x x)) (LeafD.rev (JoA.x x)) (LeafD.gone (JoA.x x))) (JoA.l x) (JoA.r x) (IntKind.wrap IntKind.i64 ((1 : Int) + (mmI Bool.false (depthD x1) (depthD x3)))) (IntKind.wrap IntKind.i64 ((IntKind.wrap IntKind.i64 ((1 : Int) + (lenD x5))) + (lenD x7)))) = (joinD (JoA.x x) (JoA.l x) (JoA.r x))) ∧
 True))))))))))))))))))))))) := by kernel_rfl

end Go.Proofs.YtildflamnehilaaGreat.Ses

namespace Go.Proofs.YtildflamnehilaaGreat.Sx
open Go Go.RowKit

/-- a block that is there, under the next name -/
theorem Mem.takes {F : Fr} {g : Ctx} {m : MS} {w : World} (h : Mem F g m w) {b : Nat} {cur : Array Value} {T : TypeId} (hb : F.w0.heap.size ≤ b) (hblk : w.heap[b]? = some (.cells cur T (0, 0)))
    (hβ : ∀ n k r, m.blks.get n = some k → g.β[n]? = some (some r) → r.b ≠ b) (hΓ : ∀ o, g.Γ b o = none) (k : Blk) (hk : BlkOK (g.add (some ⟨b, 0, cur.size⟩)) ⟨b, 0, cur.size⟩ w k) :
    Mem F (g.add (some ⟨b, 0, cur.size⟩)) (m.new k) w := by
  have hle := g.le_add (some ⟨b, 0, cur.size⟩)
  have hnx := h.next
  have hget : ∀ n k', Blks.get ((m.next, k) :: m.blks) n = some k' → (n = m.next ∧ k' = k) ∨ (n ≠ m.next ∧ m.blks.get n = some k') := by
    intro n k' hn
    by_cases e : n = m.next
    · subst e; rw [Blks.get_cons_same] at hn; exact .inl ⟨rfl, (Option.some.inj hn).symm⟩
    · rw [Blks.get_cons_other _ _ e] at hn; exact .inr ⟨e, hn⟩
  refine ⟨⟨?_, ?_, h.mem.ro, ?_⟩, by simp [Ctx.add, MS.new, hnx], ?_, h.ext, h.fix⟩
  · intro n k' hn
    rcases hget n k' hn with ⟨rfl, rfl⟩ | ⟨hne, hn⟩
    · exact ⟨some ⟨b, 0, cur.size⟩, by rw [hnx]; exact Ctx.add_get _ _, RegOK.cells hblk (by simp) hk, hk⟩
    · obtain ⟨x, hx, hok⟩ := h.mem.reg n k' hn
      exact ⟨x, hle.β _ _ hx, hok.congr hle fun r e => rfl⟩
  · intro n n' k1 k2 r r' h1 h2 hr hr' hbb
    rcases hget n k1 h1 with ⟨e1, e2⟩ | ⟨hne, g1⟩ <;> rcases hget n' k2 h2 with ⟨e3, e4⟩ | ⟨hne', g2⟩
    · rw [e1, e3]
    · subst e1
      rw [hnx, Ctx.add_get] at hr
      have := hβ n' k2 r' g2 (Ctx.add_get_other (by rw [← hnx]; exact hne') hr')
      cases hr
      exact absurd hbb.symm this
    · subst e3
      rw [hnx, Ctx.add_get] at hr'
      have := hβ n k1 r g1 (Ctx.add_get_other (by rw [← hnx]; exact hne) hr)
      cases hr'
      exact absurd hbb this
    · exact h.mem.inj n n' k1 k2 r r' g1 g2 (Ctx.add_get_other (by rw [← hnx]; exact hne) hr) (Ctx.add_get_other (by rw [← hnx]; exact hne') hr') hbb
  · intro n k' r o hn hr
    rcases hget n k' hn with ⟨e1, _⟩ | ⟨hne, hn⟩
    · subst e1
      rw [hnx, Ctx.add_get] at hr
      cases hr
      exact hΓ o
    · exact h.mem.apart n k' r o hn (Ctx.add_get_other (by rw [← hnx]; exact hne) hr)
  · intro n k' r hn hr
    rcases hget n k' hn with ⟨e1, _⟩ | ⟨hne, hn⟩
    · subst e1
      rw [hnx, Ctx.add_get] at hr
      cases hr
      exact .inl hb
    · exact h.own n k' r hn (Ctx.add_get_other (by rw [← hnx]; exact hne) hr)

/-- a call by a contract, that comes to a truth value and leaves memory as it is -/
theorem SpecOK.bool {P : Program} {f : FuncId} {S : CallSpec} (h : SpecOK P f S) {args : List SV} {b : Bool} (hS : S args ⟨[], 0, []⟩ (fun _ _ => False) (fun v _ => v = .bool b)) {w : World} {vs : List Value} (r : RepL ⟨[], wholeΓ w⟩ args vs) :
    Calls P f ⟨vs⟩ w fun e w' => e = .returned (.bool b) ∧ Kept w w' := by
  refine (h _ _ _ _ hS ⟨w, fun _ => False, wholeΓ w, []⟩ ⟨[], wholeΓ w⟩ w vs r (Mem.whole w [])).mono fun e w' hp => ?_
  cases e with
  | returned v =>
    obtain ⟨g', m', sv, hv, _, _, hm, r⟩ := hp
    subst hv
    cases r
    exact ⟨rfl, kept_of_fix hm.fix⟩
  | panicked chain => obtain ⟨_, _, _, _, hv, _⟩ := hp; exact hv.elim
  | outgrown => exact hp.elim
end Go.Proofs.YtildflamnehilaaGreat.Sx

namespace Go.Proofs.YtildflamnehilaaGreat.Ses
open Go Go.Proofs Go.Proofs.YtildflamnehilaaGreat.Sx Go.Proofs.YtildflamnehilaaGreat.Trx Go.RowKit

theorem tree_of_rep {g : Ctx} {w : World} (hro : ∀ b o v, g.Γ b o = some v → w.cell? ⟨b, o, none⟩ = some v) : ∀ (t : TreeD) (v : Value), Rep g (.tree t) v → ∃ p, v = .pointer p ∧ IsTree w.heap.size w p t
  | .nil, v, r => by
    cases r with
    | treeNil _ _ => exact ⟨none, rfl, rfl⟩
    | tree _ _ _ _ h0 _ _ _ => cases h0
  | .node th x l r' d m, v, r => by
    cases r with
    | treeNil _ h => cases h
    | tree _ b off vs h0 h1 h2 h3 =>
      have rl : RepL g (TreeD.cells (.node th x l r' d m)) vs := ⟨h1, h2⟩
      have hc : ∀ (j : Nat) v, vs[j]? = some v → w.cell? ⟨b, off + j, none⟩ = some v := fun j v hj => hro _ _ _ (h3 j v hj)
      have rl : RepL g [.bool th, .str x.path, .int .u64 x.digest, .int .i64 x.rev, .bool x.gone, .tree l, .tree r', .int .i64 d, .int .i64 m] vs := rl
      obtain ⟨v0, _, rfl, r0, rl⟩ := rl.uncons
      obtain ⟨v1, _, rfl, r1, rl⟩ := rl.uncons
      obtain ⟨v2, _, rfl, r2, rl⟩ := rl.uncons
      obtain ⟨v3, _, rfl, r3, rl⟩ := rl.uncons
      obtain ⟨v4, _, rfl, r4, rl⟩ := rl.uncons
      obtain ⟨v5, _, rfl, r5, rl⟩ := rl.uncons
      obtain ⟨v6, _, rfl, r6, rl⟩ := rl.uncons
      cases r0
      cases r1
      cases r2
      cases r3
      cases r4
      obtain ⟨pl, rfl, hl⟩ := tree_of_rep hro l _ r5
      obtain ⟨pr, rfl, hr⟩ := tree_of_rep hro r' _ r6
      have c0 := hc 0 _ rfl
      exact ⟨some ⟨b, off, none⟩, rfl, b, off, pl, pr, rfl, cell?_lt c0, by assumption, c0, hc 1 _ rfl, hc 2 _ rfl, hc 3 _ rfl, hc 4 _ rfl, hc 5 _ rfl, hc 6 _ rfl, hl, hr⟩

/-- the leaves of a tree, each with a text that can be -/
theorem leafX_of {n : Nat} {w : World} {p : Option Addr} {t : TreeD} (h : IsTree n w p t) : ∃ X : List LeafX, X.map (·.1) = TreeD.inorder t :=
  ⟨(TreeD.inorder t).attachWith _ (IsTree.paths h), (List.attachWith_map_val (f := fun x => x) _).trans (List.map_id' _)⟩

/-- what a slice owns, as a region of leaves -/
theorem leaves_end {F : Fr} {g : Ctx} {m : MS} {w w' : World} (h : Mem F g m w) (hk : KeepB w.heap.size w w') {v : Value} {l : List LeafD} (hp : ∀ x, x ∈ l → x.path.length ≤ maxI64) (hl : l.length * 40 ≤ room47)
    (ho : w'.ownsRow w.heap.size 111 4 v l.length (l.flatMap leafL)) (k : SV → MS → Prop) (hnil : l = [] → k .nils m) (hrow : k (.mslice .leaf m.next 0 l.length) (m.new (.rows .leaf l))) :
    ∃ g' m' sv, k sv m' ∧ g.le g' ∧ Upd m m' ∧ Mem F g' m' w' ∧ Rep g' sv v := by
  have hm' : Mem F g m w' := Mem.grow h (fun b hb => hk.block b hb) hk.size hk.os hk.output
  rcases ho.2 with ⟨rfl, h0⟩ | ⟨q, cap, cur, rfl, hq, hblk, hcap, _, hsz, htake⟩
  · exact ⟨g, m, .nils, hnil (List.eq_nil_of_length_eq_zero h0), Ctx.le.refl g, Upd.refl _, hm', .nils⟩
  · have hcell : ∀ j, j < l.length * 4 → w'.cell? ⟨q, j, none⟩ = (l.flatMap leafL)[j]? := by
      intro j hj
      rw [cell?_of_blk hblk, ← htake, List.getElem?_take_of_lt hj]
      simp
    have hfl : ∀ (l : List LeafD) (i : Nat) x, l[i]? = some x → ∀ j, j < 4 → (l.flatMap leafL)[i * 4 + j]? = (leafL x)[j]? := by
      intro l
      induction l with
      | nil => intro i x hx; simp at hx
      | cons y r ih =>
        intro i x hx j hj
        rw [List.flatMap_cons]
        cases i with
        | zero =>
          simp at hx; subst hx
          rw [List.getElem?_append_left (by simp [leafL]; omega)]
          congr 1; omega
        | succ i =>
          rw [List.getElem?_append_right (by simp [leafL]; omega)]
          rw [← ih i x (by simpa using hx) j hj]
          congr 1
          simp [leafL]; omega
    have hβ : ∀ n k r, m.blks.get n = some k → g.β[n]? = some (some r) → r.b ≠ q := by
      intro n k r hn hr
      have := (h.mem.at_name hn hr).1.lt
      omega
    have hΓ : ∀ o, g.Γ q o = none := by
      intro o
      cases hv : g.Γ q o with
      | none => rfl
      | some v =>
        have := cell?_lt (h.mem.ro _ _ _ hv)
        omega
    have hF : F.w0.heap.size ≤ q := Nat.le_trans h.fix.size hq
    have hok : BlkOK (g.add (some ⟨q, 0, cur.size⟩)) ⟨q, 0, cur.size⟩ w' (.rows .leaf l) := by
      refine ⟨?_, hl, fun i => if h : i < l.length then leafL l[i] else List.replicate 4 undef, fun i => ?_, fun i x hx => ?_, fun i hi j u hu => ?_⟩
      · show l.length * 4 ≤ cur.size
        rw [hsz]; exact Nat.mul_le_mul_right 4 hcap
      · dsimp only; split <;> simp [leafL, Tc.width]
      · obtain ⟨hi, hx'⟩ := List.getElem?_eq_some_iff.1 hx
        dsimp only
        rw [dif_pos hi, hx']
        exact .cons (.str _ (hp x (List.mem_of_getElem? hx))) (.cons (.int _ _) (.cons (.int _ _) (.cons (.bool _) (RepL.nil _))))
      · dsimp only at hu
        rw [dif_pos hi] at hu
        have hj : j < 4 := by
          have := (List.getElem?_eq_some_iff.1 hu).1
          simpa [leafL] using this
        show w'.cell? ⟨q, 0 + (i * 4 + j), none⟩ = _
        rw [Nat.zero_add, hcell _ (by omega), hfl l i l[i] (by simp [hi]) j hj]
        exact hu
    have hA := Mem.takes hm' hF hblk hβ hΓ (.rows .leaf l) hok
    refine ⟨_, _, .mslice .leaf m.next 0 l.length, hrow, g.le_add _, Upd.new m _, hA, ?_⟩
    have := Rep.mslice (g := g.add (some ⟨q, 0, cur.size⟩)) .leaf m.next 0 l.length cap 0 ⟨q, 0, cur.size⟩ (by rw [h.next]; exact Ctx.add_get _ _) hcap hl (.inr ⟨by simp [Tc.width], by show (0 + cap) * 4 ≤ cur.size; rw [hsz]; omega⟩)
    exact this

theorem all1_ok : SpecOK Tryz.prog 178 all1T.spec := by
  refine Tri.ok (E := bareE) (Env_ok (by decide +kernel) (by simp)) (n := 1000) all1T fun x hx => ?_
  rw [all1_vc]
  exact ⟨(), rfl, trivial⟩
theorem cell_rptr {w W : World} (hk : KeepB w.heap.size w W) {g : Ctx} {B : Blks} (hm : Mem0 g B w) {n : Nat} {s : Bs} (hn : B.get n = some (.cells [.str s])) {r : Reg} (hr : g.β[n]? = some (some r)) :
    Rep ⟨[], wholeΓ W⟩ (.rptr [.str s]) (.pointer (some ⟨r.b, r.base + 0, none⟩)) := by
  obtain ⟨_, _, vs, hvs, hc⟩ := hm.at_name hn hr
  obtain ⟨v0, _, rfl, r0, rl⟩ := hvs.uncons
  rw [rl.eq_nil] at hc
  cases r0
  have h0 := hc 0 _ rfl
  refine .rptr [.str s] r.b (r.base + 0) [.string ⟨⟨s⟩⟩] rfl (fun j sv v a b => ?_) (fun j v hj => ?_)
  · cases j with
    | zero => simp at a b; subst a; subst b; exact .str _ (by assumption)
    | succ j => simp at a
  · cases j with
    | zero =>
      simp at hj
      subst hj
      show W.cell? ⟨r.b, r.base + 0 + 0, none⟩ = _
      rw [Nat.add_zero, hk.cell (cell?_lt h0)]
      exact h0
    | succ j => simp at hj

theorem thoseAll_ok : SpecOK Tryz.prog 177 thoseAllT.spec := by
  refine Tri.ok' thoseAllT fun t hx F g w vs hargs hm => ?_
  have hargs : RepL g [.tree t, .fn 178 [] []] vs := hargs
  obtain ⟨v0, _, rfl, r0, rl⟩ := hargs.uncons
  obtain ⟨v1, _, rfl, r1, rl⟩ := rl.uncons
  rw [rl.eq_nil]
  obtain ⟨p, rfl, hT⟩ := tree_of_rep hm.mem.ro t v0 r0
  obtain ⟨X, hX⟩ := leafX_of hT
  cases r1 with
  | fn _ _ _ us cs h1 h2 h3 h4 =>
  obtain rfl : us = [] := by cases us <;> simp at h1 ⊢
  obtain rfl : cs = [] := by cases cs <;> simp at h2 ⊢
  have hfew : (TreeD.inorder t).length * 40 ≤ 140737488355328 := of_decide_eq_true hx
  have hlen : X.length = (TreeD.inorder t).length := by rw [← hX]; simp
  have hf : fltX (fun _ => true) X = TreeD.inorder t := by unfold fltX; rw [hX]; simp
  have hmain := callsIn_wide.1 (thoseAll_in 3 (by omega) p t (fun _ => true) X hX (by omega) w hT (fun x W hk => all1_ok.bool (args := [.str x.1.path]) ⟨x.1.path, rfl, trivial, fun _ _ => rfl⟩ (.cons (.str _ x.2) (RepL.nil _))))
  rw [hf] at hmain
  refine hmain.mono fun e w' ⟨v, he, ho, hk⟩ => ?_
  subst he
  refine leaves_end hm hk (IsTree.paths hT) hfew ho _ (fun h => ?_) ?_
  · refine ⟨(), ?_⟩
    show matchTo _ _ _ _ [.mslice .leaf 0 0 (TreeD.inorder t).length] _ [(0, .rows .leaf (TreeD.inorder t))] _
    rw [h]
    exact ⟨rfl, rfl, trivial⟩
  · exact ⟨(), rfl, rfl, rfl, trivial⟩
end Go.Proofs.YtildflamnehilaaGreat.Ses

namespace Go.Proofs.YtildflamnehilaaGreat.Ses
open Go Go.Proofs Go.Proofs.YtildflamnehilaaGreat.Sx Go.Proofs.YtildflamnehilaaGreat.Trx

theorem all_ok : SpecOK Tryz.prog 126 allT.spec := by
  refine Tri.ok (E := allE) (Env_ok (by decide +kernel) (by simp [thoseAll_ok])) (n := 1000) allT fun x hx => ?_
  rw [all_vc]
  revert x
  intro (t : TreeD) hx
  simp only [br_bad, br_true, br_false, List.length_singleton, and_self, Bool.not_true, Bool.not_false, Bool.not_not, decide_eq_true_eq, Bool.and_eq_true, List.take_zero, List.nil_append, List.drop_zero, Nat.zero_add, Int.toNat_natCast, Nat.sub_eq, true_and, and_true, exists_const, List.length_nil, Nat.zero_le, Nat.zero_mul, Nat.le_refl, List.length_set, List.take_length, Int.natCast_nonneg, forall_const, implies_true, Int.toNat_zero, Nat.le_eq, Int.le_refl, addN, cutN, loN, hiN, bndB, List.length_cons, List.take_succ_cons, List.length_take, List.length_drop, Option.isNone, Nat.add_zero, Nat.min_self]
  try simp only [br_iff, decide_eq_true_eq, decide_eq_false_iff_not, room47, Bool.not_eq_true', Bool.not_eq_false', gt_iff_lt]
  exact ⟨t, rfl, hx, rfl, rfl⟩
theorem new_ok : SpecOK Tryz.prog 61 newT.spec := by
  refine Tri.ok (E := bareE) (Env_ok (by decide +kernel) (by simp)) (n := 1000) newT fun x hx => ?_
  rw [new_vc]
  simp only [br_bad, br_true, br_false, List.length_singleton, and_self, Bool.not_true, Bool.not_false, Bool.not_not, decide_eq_true_eq, Bool.and_eq_true, List.take_zero, List.nil_append, List.drop_zero, Nat.zero_add, Int.toNat_natCast, Nat.sub_eq, true_and, and_true, exists_const, List.length_nil, Nat.zero_le, Nat.zero_mul, Nat.le_refl, List.length_set, List.take_length, Int.natCast_nonneg, forall_const, implies_true, Int.toNat_zero, Nat.le_eq, Int.le_refl, addN, cutN, loN, hiN, bndB, List.length_cons, List.take_succ_cons, List.length_take, List.length_drop, Option.isNone, Nat.add_zero, Nat.min_self]
  try simp only [br_iff, decide_eq_true_eq, decide_eq_false_iff_not, room47, Bool.not_eq_true', Bool.not_eq_false', gt_iff_lt]
theorem empty_ok : SpecOK Tryz.prog 117 emptyT.spec := by
  refine Tri.ok (E := bareE) (Env_ok (by decide +kernel) (by simp)) (n := 1000) emptyT fun x hx => ?_
  rw [empty_vc]
  revert x
  intro (t : TreeD) hx
  simp only [br_bad, br_true, br_false, List.length_singleton, and_self, Bool.not_true, Bool.not_false, Bool.not_not, decide_eq_true_eq, Bool.and_eq_true, List.take_zero, List.nil_append, List.drop_zero, Nat.zero_add, Int.toNat_natCast, Nat.sub_eq, true_and, and_true, exists_const, List.length_nil, Nat.zero_le, Nat.zero_mul, Nat.le_refl, List.length_set, List.take_length, Int.natCast_nonneg, forall_const, implies_true, Int.toNat_zero, Nat.le_eq, Int.le_refl, addN, cutN, loN, hiN, bndB, List.length_cons, List.take_succ_cons, List.length_take, List.length_drop, Option.isNone, Nat.add_zero, Nat.min_self]
  try simp only [br_iff, decide_eq_true_eq, decide_eq_false_iff_not, room47, Bool.not_eq_true', Bool.not_eq_false', gt_iff_lt]
  refine ⟨fun h => by rw [h]; rfl, fun h => ⟨h, by rw [h]; rfl⟩⟩
theorem tlen_ok : SpecOK Tryz.prog 171 tlenT.spec := by
  refine Tri.ok (E := emptyE) (Env_ok (by decide +kernel) (by simp [empty_ok])) (n := 1000) tlenT fun x hx => ?_
  rw [tlen_vc]
  revert x
  intro (t : TreeD) hx
  simp only [br_bad, br_true, br_false, List.length_singleton, and_self, Bool.not_true, Bool.not_false, Bool.not_not, decide_eq_true_eq, Bool.and_eq_true, List.take_zero, List.nil_append, List.drop_zero, Nat.zero_add, Int.toNat_natCast, Nat.sub_eq, true_and, and_true, exists_const, List.length_nil, Nat.zero_le, Nat.zero_mul, Nat.le_refl, List.length_set, List.take_length, Int.natCast_nonneg, forall_const, implies_true, Int.toNat_zero, Nat.le_eq, Int.le_refl, addN, cutN, loN, hiN, bndB, List.length_cons, List.take_succ_cons, List.length_take, List.length_drop, Option.isNone, Nat.add_zero, Nat.min_self]
  try simp only [br_iff, decide_eq_true_eq, decide_eq_false_iff_not, room47, Bool.not_eq_true', Bool.not_eq_false', gt_iff_lt]
  refine ⟨t, rfl, fun h => by unfold lenD; rw [h]; rfl, fun h => ⟨?_, by unfold lenD; rw [h]; rfl⟩⟩
  cases hn : t.isNil
  · rfl
  · rw [hn] at h; cases h
theorem tdepth_ok : SpecOK Tryz.prog 170 tdepthT.spec := by
  refine Tri.ok (E := emptyE) (Env_ok (by decide +kernel) (by simp [empty_ok])) (n := 1000) tdepthT fun x hx => ?_
  rw [tdepth_vc]
  revert x
  intro (t : TreeD) hx
  simp only [br_bad, br_true, br_false, List.length_singleton, and_self, Bool.not_true, Bool.not_false, Bool.not_not, decide_eq_true_eq, Bool.and_eq_true, List.take_zero, List.nil_append, List.drop_zero, Nat.zero_add, Int.toNat_natCast, Nat.sub_eq, true_and, and_true, exists_const, List.length_nil, Nat.zero_le, Nat.zero_mul, Nat.le_refl, List.length_set, List.take_length, Int.natCast_nonneg, forall_const, implies_true, Int.toNat_zero, Nat.le_eq, Int.le_refl, addN, cutN, loN, hiN, bndB, List.length_cons, List.take_succ_cons, List.length_take, List.length_drop, Option.isNone, Nat.add_zero, Nat.min_self]
  try simp only [br_iff, decide_eq_true_eq, decide_eq_false_iff_not, room47, Bool.not_eq_true', Bool.not_eq_false', gt_iff_lt]
  refine ⟨t, rfl, fun h => by unfold depthD; rw [h]; rfl, fun h => ⟨?_, by unfold depthD; rw [h]; rfl⟩⟩
  cases hn : t.isNil
  · rfl
  · rw [hn] at h; cases h
theorem tjoin_ok : SpecOK Tryz.prog 118 tjoinT.spec := by
  refine Tri.ok (E := tjoinE) (Env_ok (by decide +kernel) (by simp [tlen_ok, tdepth_ok])) (n := 1000) tjoinT fun x hx => ?_
  rw [tjoin_vc]
  obtain ⟨x, l, r⟩ := x
  obtain ⟨hl, hr⟩ := hx
  simp only [br_bad, br_true, br_false, List.length_singleton, and_self, Bool.not_true, Bool.not_false, Bool.not_not, decide_eq_true_eq, Bool.and_eq_true, List.take_zero, List.nil_append, List.drop_zero, Nat.zero_add, Int.toNat_natCast, Nat.sub_eq, true_and, and_true, exists_const, List.length_nil, Nat.zero_le, Nat.zero_mul, Nat.le_refl, List.length_set, List.take_length, Int.natCast_nonneg, forall_const, implies_true, Int.toNat_zero, Nat.le_eq, Int.le_refl, addN, cutN, loN, hiN, bndB, List.length_cons, List.take_succ_cons, List.length_take, List.length_drop, Option.isNone, Nat.add_zero, Nat.min_self]
  try simp only [br_iff, decide_eq_true_eq, decide_eq_false_iff_not, room47, Bool.not_eq_true', Bool.not_eq_false', gt_iff_lt]
  refine ⟨l, rfl, r, rfl, l, rfl, r, rfl, ?_⟩
  simp only [smallT, Bool.and_eq_true, decide_eq_true_eq] at hl hr
  have e : mmI false (depthD l) (depthD r) = max (depthD l) (depthD r) := by
    unfold mmI
    simp only [cond_false]
    split <;> omega
  rw [e, wrap_id (n := 1 + lenD l) (by omega) (by omega), wrap_id (n := 1 + lenD l + lenD r) (by omega) (by omega), wrap_id (by omega) (by omega)]
  rfl
end Go.Proofs.YtildflamnehilaaGreat.Ses
