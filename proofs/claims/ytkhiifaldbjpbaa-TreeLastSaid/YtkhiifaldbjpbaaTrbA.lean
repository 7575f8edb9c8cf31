/- Trees that are put together: balanced, in order. No condition. -/
import Derived.Test.YtkhiifaldbjpbaaTreA
import Derived.KernelRfl
set_option linter.unusedSimpArgs false
set_option linter.unusedVariables false

namespace Go.Proofs.Ytkhiifaldbjpbaa.Ses
open Go Go.Proofs Go.Proofs.Ytkhiifaldbjpbaa.Sx Go.Proofs.Ytkhiifaldbjpbaa.Trx

def ht : TreeD → Nat
  | .nil => 0
  | .node _ _ l r _ _ => max (ht l) (ht r) + 1
/-- balanced, and the numbers are right -/
def wfT : TreeD → Bool
  | .nil => true
  | .node th x l r d m => th && (wfT l && (wfT r && (decide (d = 1 + max (depthD l) (depthD r)) && (decide (m = 1 + lenD l + lenD r) && (decide (depthD l ≤ depthD r + 1) && decide (depthD r ≤ depthD l + 1))))))
def turnL (t : TreeD) : TreeD := joinD t.right.leaf (joinD t.leaf t.left t.right.left) t.right.right
def turnR (t : TreeD) : TreeD := joinD t.left.leaf t.left.left (joinD t.leaf t.left.right t.right)
def levelD (t : TreeD) : TreeD :=
  bif decide (depthD t.left - depthD t.right > 1) then
    bif decide (depthD t.left.left < depthD t.left.right) then turnR (joinD t.leaf (turnL t.left) t.right) else turnR t
  else bif decide (depthD t.left - depthD t.right < -1) then
    bif decide (depthD t.right.right < depthD t.right.left) then turnL (joinD t.leaf t.left (turnR t.right)) else turnL t
  else t
/-- what may be levelled -/
def lvlP (t : TreeD) : Prop := ∃ x l r, t = joinD x l r ∧ wfT l = true ∧ wfT r = true ∧ depthD l ≤ depthD r + 2 ∧ depthD r ≤ depthD l + 2 ∧ lenD l + lenD r ≤ 900000
/-- what may be turned -/
def turnLP (t : TreeD) : Prop := t.isNil = false ∧ t.right.isNil = false ∧ smallT t.left = true ∧ smallT t.right.left = true ∧ smallT t.right.right = true ∧ smallT (joinD t.leaf t.left t.right.left) = true
def turnRP (t : TreeD) : Prop := t.isNil = false ∧ t.left.isNil = false ∧ smallT t.right = true ∧ smallT t.left.left = true ∧ smallT t.left.right = true ∧ smallT (joinD t.leaf t.left.right t.right) = true
def cmpX (p : Bs) (t : TreeD) : Int := cmpL (splitB p) (splitB t.leaf.path)
def putD (x : LeafD) : TreeD → TreeD
  | .nil => joinD x .nil .nil
  | .node th y l r d m => bif th then
      (bif decide (cmpL (splitB x.path) (splitB y.path) < 0) then levelD (joinD y (putD x l) r)
       else bif decide (0 < cmpL (splitB x.path) (splitB y.path)) then levelD (joinD y l (putD x r)) else joinD x l r)
    else joinD x .nil .nil
def getD' (p : Bs) : TreeD → Option LeafD
  | .nil => none
  | .node th y l r d m => bif th then
      (bif cmpL (splitB p) (splitB y.path) == 0 then some y else bif decide (cmpL (splitB p) (splitB y.path) < 0) then getD' p l else getD' p r)
    else none
/-- what may be put into -/
def putP (t : TreeD) : Prop := ((t.isNil || !t.there) = true ∨ wfT t = true) ∧ lenD t ≤ 800000

noncomputable def turnLT : Tri := { γ := TreeD, n0 := 0, args := fun t => [.tree t], blks := fun _ => [], pre := turnLP, δ := Unit, post := fun _ _ => True, n1 := 0, res := fun t _ => .tree (turnL t), blks' := fun _ _ => [], scal := false }
noncomputable def turnE : Envr := Env Try.prog cod [(55, tjoinT.spec)] []
noncomputable def turnRT : Tri := { γ := TreeD, n0 := 0, args := fun t => [.tree t], blks := fun _ => [], pre := turnRP, δ := Unit, post := fun _ _ => True, n1 := 0, res := fun t _ => .tree (turnR t), blks' := fun _ _ => [], scal := false }
noncomputable def levelT : Tri := { γ := TreeD, n0 := 0, args := fun t => [.tree t], blks := fun _ => [], pre := lvlP, δ := Unit, post := fun _ _ => True, n1 := 0, res := fun t _ => .tree (levelD t), blks' := fun _ _ => [], scal := false }
noncomputable def levelE : Envr := Env Try.prog cod [(55, tjoinT.spec), (26, tdepthT.spec), (75, turnLT.spec), (76, turnRT.spec)] []
structure PutA where
  t : TreeD
  x : LeafD
noncomputable def putT (n : Nat) : Tri := { γ := PutA, n0 := 0, args := fun a => [.tree a.t, .agg (enc .leaf a.x)], blks := fun _ => [], pre := fun a => putP a.t ∧ ht a.t < n, δ := Unit, post := fun _ _ => True, n1 := 0, res := fun a _ => .tree (putD a.x a.t), blks' := fun _ _ => [], scal := false }
noncomputable def putE (n : Nat) : Envr := Env Try.prog cod [(54, emptyT.spec), (55, tjoinT.spec), (56, levelT.spec), (30, compareT.spec), (23, (putT n).spec)] []
noncomputable def putS (n : Nat) : Tri := putT (n + 1)
-- VP put putS putE 23 joinD smallT lvlP levelD putP putD cmpL splitB ht
noncomputable def getT : Tri := { γ := TrS, n0 := 0, args := fun a => [.tree a.t, .str a.d], blks := fun _ => [], pre := fun a => True, δ := Unit, post := fun _ _ => True, n1 := 0, res := fun a _ => .tuple [.agg (enc .leaf ((getD' a.d a.t).getD ⟨[], 0, 0, false⟩)), .bool (getD' a.d a.t).isSome], blks' := fun _ _ => [], scal := false }
noncomputable def getI : St → LInv := fun s => match getE s.env 0, getE s.env 1 with
  | .tree t, .str p => { σ := TreeD, I := fun t' => getD' p t' = getD' p t, μ := ht, env := fun t' => [(0, .tree t')], blk := fun _ => [], fresh := 0, drop := [] }
  | _, _ => LInv.none
noncomputable def getEn : Envr := Env Try.prog cod [(54, emptyT.spec), (30, compareT.spec)] [(1, getI)]
end Go.Proofs.Ytkhiifaldbjpbaa.Ses

namespace Go.Proofs.Ytkhiifaldbjpbaa.Ses
open Go Go.Proofs Go.Proofs.Ytkhiifaldbjpbaa.Sx Go.Proofs.Ytkhiifaldbjpbaa.Trx

theorem depth_join (x : LeafD) (l r : TreeD) : depthD (joinD x l r) = 1 + max (depthD l) (depthD r) := rfl
theorem len_join (x : LeafD) (l r : TreeD) : lenD (joinD x l r) = 1 + lenD l + lenD r := rfl
theorem in_join (x : LeafD) (l r : TreeD) : TreeD.inorder (joinD x l r) = TreeD.inorder l ++ x :: TreeD.inorder r := rfl
theorem nil_join (x : LeafD) (l r : TreeD) : (joinD x l r).isNil = false := rfl
theorem left_join (x : LeafD) (l r : TreeD) : (joinD x l r).left = l := rfl
theorem right_join (x : LeafD) (l r : TreeD) : (joinD x l r).right = r := rfl
theorem leaf_join (x : LeafD) (l r : TreeD) : (joinD x l r).leaf = x := rfl

theorem wf_cases : ∀ {t : TreeD}, wfT t = true → t = .nil ∨ ∃ x l r, t = joinD x l r ∧ wfT l = true ∧ wfT r = true ∧ depthD l ≤ depthD r + 1 ∧ depthD r ≤ depthD l + 1
  | .nil, _ => .inl rfl
  | .node th x l r d m, h => by
    simp only [wfT, Bool.and_eq_true, decide_eq_true_eq] at h
    obtain ⟨h1, h2, h3, h4, h5, h6, h7⟩ := h
    subst h1 h4 h5
    exact .inr ⟨x, l, r, rfl, h2, h3, h6, h7⟩
theorem wf_join {x : LeafD} {l r : TreeD} (hl : wfT l = true) (hr : wfT r = true) (h1 : depthD l ≤ depthD r + 1) (h2 : depthD r ≤ depthD l + 1) : wfT (joinD x l r) = true := by
  simp [joinD, wfT, hl, hr, h1, h2]

theorem wf_num : ∀ (t : TreeD), wfT t = true → 0 ≤ depthD t ∧ depthD t ≤ lenD t ∧ lenD t = (TreeD.inorder t).length
  | .nil, _ => by simp [depthD, lenD, TreeD.isNil, TreeD.inorder]
  | .node th x l r d m, h => by
    simp only [wfT, Bool.and_eq_true, decide_eq_true_eq] at h
    obtain ⟨h1, h2, h3, h4, h5, h6, h7⟩ := h
    subst h1 h4 h5
    have hl := wf_num l h2
    have hr := wf_num r h3
    show 0 ≤ depthD (joinD x l r) ∧ depthD (joinD x l r) ≤ lenD (joinD x l r) ∧ lenD (joinD x l r) = (TreeD.inorder (joinD x l r)).length
    rw [depth_join, len_join, in_join, List.length_append, List.length_cons]
    omega

theorem wf_pos {t : TreeD} (h : wfT t = true) (hp : 0 < depthD t) : ∃ x l r, t = joinD x l r ∧ wfT l = true ∧ wfT r = true ∧ depthD l ≤ depthD r + 1 ∧ depthD r ≤ depthD l + 1 := by
  rcases wf_cases h with rfl | h
  · simp [depthD, TreeD.isNil] at hp
  · exact h

theorem small_of {t : TreeD} (h : wfT t = true) (hl : lenD t ≤ 1000000) : smallT t = true := by
  have := wf_num t h
  simp only [smallT, Bool.and_eq_true, decide_eq_true_eq]
  omega

/-- how two sides are levelled -/
inductive Lev (x : LeafD) (l r : TreeD) : Prop
  | same (h1 : depthD l ≤ depthD r + 1) (h2 : depthD r ≤ depthD l + 1) (he : levelD (joinD x l r) = joinD x l r)
  | r1 (y : LeafD) (a b : TreeD) (hd : depthD l = depthD r + 2) (hl : l = joinD y a b) (ha : wfT a = true) (hb : wfT b = true) (h1 : depthD b ≤ depthD a) (h2 : depthD a ≤ depthD b + 1) (he : levelD (joinD x l r) = joinD y a (joinD x b r))
  | r2 (y z : LeafD) (a b c : TreeD) (hd : depthD l = depthD r + 2) (hl : l = joinD y a (joinD z b c)) (ha : wfT a = true) (hb : wfT b = true) (hc : wfT c = true) (h1 : depthD a + 1 = depthD (joinD z b c)) (h2 : depthD b ≤ depthD c + 1) (h3 : depthD c ≤ depthD b + 1) (he : levelD (joinD x l r) = joinD z (joinD y a b) (joinD x c r))
  | l1 (y : LeafD) (a b : TreeD) (hd : depthD r = depthD l + 2) (hr : r = joinD y a b) (ha : wfT a = true) (hb : wfT b = true) (h1 : depthD a ≤ depthD b) (h2 : depthD b ≤ depthD a + 1) (he : levelD (joinD x l r) = joinD y (joinD x l a) b)
  | l2 (y z : LeafD) (a b c : TreeD) (hd : depthD r = depthD l + 2) (hr : r = joinD y (joinD z a b) c) (ha : wfT a = true) (hb : wfT b = true) (hc : wfT c = true) (h1 : depthD c + 1 = depthD (joinD z a b)) (h2 : depthD a ≤ depthD b + 1) (h3 : depthD b ≤ depthD a + 1) (he : levelD (joinD x l r) = joinD z (joinD x l a) (joinD y b c))

theorem lev_of (x : LeafD) {l r : TreeD} (hl : wfT l = true) (hr : wfT r = true) (h1 : depthD l ≤ depthD r + 2) (h2 : depthD r ≤ depthD l + 2) : Lev x l r := by
  have nl := wf_num l hl
  have nr := wf_num r hr
  by_cases g1 : depthD l - depthD r > 1
  · obtain ⟨y, a, b, rfl, ha, hb, b1, b2⟩ := wf_pos hl (by omega)
    rw [depth_join] at g1 h1 h2
    have e1 : decide (depthD (joinD y a b) - depthD r > 1) = true := by rw [depth_join]; simpa using g1
    by_cases g2 : depthD a < depthD b
    · have na := wf_num a ha
      obtain ⟨z, p, q, rfl, hp, hq, c1, c2⟩ := wf_pos hb (by omega)
      refine .r2 y z a p q (by rw [depth_join]; omega) rfl ha hp hq (by omega) c1 c2 ?_
      unfold levelD
      rw [left_join, right_join, e1, left_join, right_join, show decide (depthD a < depthD (joinD z p q)) = true by simpa using g2]
      rfl
    · refine .r1 y a b (by rw [depth_join]; omega) rfl ha hb (by omega) b1 ?_
      unfold levelD
      rw [left_join, right_join, e1, left_join, right_join, show decide (depthD a < depthD b) = false by simpa using g2]
      rfl
  · by_cases g3 : depthD l - depthD r < -1
    · obtain ⟨y, a, b, rfl, ha, hb, b1, b2⟩ := wf_pos hr (by omega)
      rw [depth_join] at g1 g3 h1 h2
      have e1 : decide (depthD l - depthD (joinD y a b) > 1) = false := by rw [depth_join]; simpa using g1
      have e3 : decide (depthD l - depthD (joinD y a b) < -1) = true := by rw [depth_join]; simpa using g3
      by_cases g2 : depthD b < depthD a
      · have nb := wf_num b hb
        obtain ⟨z, p, q, rfl, hp, hq, c1, c2⟩ := wf_pos ha (by omega)
        refine .l2 y z p q b (by rw [depth_join]; omega) rfl hp hq hb (by omega) c1 c2 ?_
        unfold levelD
        rw [left_join, right_join, e1, e3, left_join, right_join, show decide (depthD b < depthD (joinD z p q)) = true by simpa using g2]
        rfl
      · refine .l1 y a b (by rw [depth_join]; omega) rfl ha hb (by omega) b2 ?_
        unfold levelD
        rw [left_join, right_join, e1, e3, left_join, right_join, show decide (depthD b < depthD a) = false by simpa using g2]
        rfl
    · refine .same (by omega) (by omega) ?_
      unfold levelD
      rw [left_join, right_join, show decide (depthD l - depthD r > 1) = false by simpa using g1, show decide (depthD l - depthD r < -1) = false by simpa using g3]
      rfl

theorem level_wf (x : LeafD) {l r : TreeD} (hl : wfT l = true) (hr : wfT r = true) (h1 : depthD l ≤ depthD r + 2) (h2 : depthD r ≤ depthD l + 2) :
    wfT (levelD (joinD x l r)) = true ∧ max (depthD l) (depthD r) ≤ depthD (levelD (joinD x l r)) ∧ depthD (levelD (joinD x l r)) ≤ 1 + max (depthD l) (depthD r) ∧
    TreeD.inorder (levelD (joinD x l r)) = TreeD.inorder l ++ x :: TreeD.inorder r ∧ (depthD l ≤ depthD r + 1 → depthD r ≤ depthD l + 1 → levelD (joinD x l r) = joinD x l r) := by
  cases lev_of x hl hr h1 h2 with
  | same g1 g2 he => rw [he]; exact ⟨wf_join hl hr g1 g2, by rw [depth_join]; omega, by rw [depth_join]; omega, rfl, fun _ _ => rfl⟩
  | r1 y a b hd hl' ha hb g1 g2 he =>
    subst hl'
    rw [depth_join] at hd
    rw [he]
    refine ⟨wf_join ha (wf_join hb hr (by omega) (by omega)) (by rw [depth_join]; omega) (by rw [depth_join]; omega), ?_, ?_, ?_, fun g _ => ?_⟩
    · rw [depth_join, depth_join, depth_join]; omega
    · rw [depth_join, depth_join, depth_join]; omega
    · simp [in_join]
    · rw [depth_join] at g; omega
  | r2 y z a b c hd hl' ha hb hc g1 g2 g3 he =>
    subst hl'
    rw [depth_join] at g1
    rw [depth_join, depth_join] at hd
    rw [he]
    refine ⟨wf_join (wf_join ha hb (by omega) (by omega)) (wf_join hc hr (by omega) (by omega)) (by rw [depth_join, depth_join]; omega) (by rw [depth_join, depth_join]; omega), ?_, ?_, ?_, fun g _ => ?_⟩
    · simp only [depth_join]; omega
    · simp only [depth_join]; omega
    · simp [in_join]
    · rw [depth_join, depth_join] at g; omega
  | l1 y a b hd hr' ha hb g1 g2 he =>
    subst hr'
    rw [depth_join] at hd
    rw [he]
    refine ⟨wf_join (wf_join hl ha (by omega) (by omega)) hb (by rw [depth_join]; omega) (by rw [depth_join]; omega), ?_, ?_, ?_, fun _ g => ?_⟩
    · simp only [depth_join]; omega
    · simp only [depth_join]; omega
    · simp [in_join]
    · rw [depth_join] at g; omega
  | l2 y z a b c hd hr' ha hb hc g1 g2 g3 he =>
    subst hr'
    rw [depth_join] at g1
    rw [depth_join, depth_join] at hd
    rw [he]
    refine ⟨wf_join (wf_join hl ha (by omega) (by omega)) (wf_join hb hc (by omega) (by omega)) (by rw [depth_join, depth_join]; omega) (by rw [depth_join, depth_join]; omega), ?_, ?_, ?_, fun _ g => ?_⟩
    · simp only [depth_join]; omega
    · simp only [depth_join]; omega
    · simp [in_join]
    · rw [depth_join, depth_join] at g; omega

/-- put into a row of leaves, by a walk down a tree -/
theorem put_wf (x : LeafD) : ∀ (t : TreeD), wfT t = true → wfT (putD x t) = true ∧ depthD t ≤ depthD (putD x t) ∧ depthD (putD x t) ≤ depthD t + 1 ∧ lenD t ≤ lenD (putD x t) ∧ lenD (putD x t) ≤ lenD t + 1
  | .nil, _ => by
    refine ⟨wf_join rfl rfl (by omega) (by omega), ?_⟩
    show depthD .nil ≤ depthD (joinD x .nil .nil) ∧ depthD (joinD x .nil .nil) ≤ depthD .nil + 1 ∧ lenD .nil ≤ lenD (joinD x .nil .nil) ∧ lenD (joinD x .nil .nil) ≤ lenD .nil + 1
    rw [depth_join, len_join]
    simp [depthD, lenD, TreeD.isNil]
  | .node th y l r d m, h => by
    simp only [wfT, Bool.and_eq_true, decide_eq_true_eq] at h
    obtain ⟨h1, h2, h3, h4, h5, h6, h7⟩ := h
    subst h1 h4 h5
    have il := put_wf x l h2
    have ir := put_wf x r h3
    show wfT (putD x (joinD y l r)) = true ∧ depthD (joinD y l r) ≤ depthD (putD x (joinD y l r)) ∧ depthD (putD x (joinD y l r)) ≤ depthD (joinD y l r) + 1 ∧ lenD (joinD y l r) ≤ lenD (putD x (joinD y l r)) ∧ lenD (putD x (joinD y l r)) ≤ lenD (joinD y l r) + 1
    have e : putD x (joinD y l r) = (bif decide (cmpL (splitB x.path) (splitB y.path) < 0) then levelD (joinD y (putD x l) r)
       else bif decide (0 < cmpL (splitB x.path) (splitB y.path)) then levelD (joinD y l (putD x r)) else joinD x l r) := rfl
    rw [e, depth_join, len_join]
    cases decide (cmpL (splitB x.path) (splitB y.path) < 0)
    · cases decide (0 < cmpL (splitB x.path) (splitB y.path))
      · simp only [cond_false]
        exact ⟨wf_join h2 h3 h6 h7, by rw [depth_join]; omega, by rw [depth_join]; omega, by rw [len_join]; omega, by rw [len_join]; omega⟩
      · simp only [cond_false, cond_true]
        obtain ⟨w1, w2, w3, w4, w5⟩ := level_wf y h2 ir.1 (by omega) (by omega)
        have hlen := (wf_num _ w1).2.2
        rw [w4, List.length_append, List.length_cons] at hlen
        have n1 := (wf_num _ h2).2.2
        have n2 := (wf_num _ ir.1).2.2
        by_cases g : depthD (putD x r) ≤ depthD l + 1
        · refine ⟨w1, ?_, ?_, by omega, by omega⟩
          · rw [w5 (by omega) g, depth_join]; omega
          · rw [w5 (by omega) g, depth_join]; omega
        · exact ⟨w1, by omega, by omega, by omega, by omega⟩
    · simp only [cond_true]
      obtain ⟨w1, w2, w3, w4, w5⟩ := level_wf y il.1 h3 (by omega) (by omega)
      have hlen := (wf_num _ w1).2.2
      rw [w4, List.length_append, List.length_cons] at hlen
      have n1 := (wf_num _ h3).2.2
      have n2 := (wf_num _ il.1).2.2
      by_cases g : depthD (putD x l) ≤ depthD r + 1
      · refine ⟨w1, ?_, ?_, by omega, by omega⟩
        · rw [w5 g (by omega), depth_join]; omega
        · rw [w5 g (by omega), depth_join]; omega
      · exact ⟨w1, by omega, by omega, by omega, by omega⟩

end Go.Proofs.Ytkhiifaldbjpbaa.Ses

namespace Go.Proofs.Ytkhiifaldbjpbaa.Ses
open Go Go.Proofs Go.Proofs.Ytkhiifaldbjpbaa.Sx Go.Proofs.Ytkhiifaldbjpbaa.Trx
set_option maxRecDepth 100000

theorem turnl_vc (x : turnLT.γ) : evCall turnE (ev turnE 1000) 75 (turnLT.args x) ⟨turnLT.blks x, turnLT.n0, []⟩ (fun _ _ => False) (turnLT.ends x) = (
(br (@Bool.not (@TreeD.isNil x))
 (br (@Bool.not (@TreeD.isNil (@TreeD.right x)))
 (br (@Bool.not (@TreeD.isNil x))
 (br (@Bool.not (@TreeD.isNil x))
 (br (@Bool.not (@TreeD.isNil (@TreeD.right x)))
 (br (@Bool.not (@TreeD.isNil (@TreeD.right x)))
 (∃ x1 : JoA,
 ((@Eq Bs (@LeafD.path (@TreeD.leaf x)) (@LeafD.path (@JoA.x x1))) ∧
 ((@Eq Int (@LeafD.digest (@TreeD.leaf x)) (@LeafD.digest (@JoA.x x1))) ∧
 ((@Eq Int (@LeafD.rev (@TreeD.leaf x)) (@LeafD.rev (@JoA.x x1))) ∧
 ((@Eq Bool (@LeafD.gone (@TreeD.leaf x)) (@LeafD.gone (@JoA.x x1))) ∧
 ((@Eq TreeD (@TreeD.left x) (@JoA.l x1)) ∧
 ((@Eq TreeD (@TreeD.left (@TreeD.right x)) (@JoA.r x1)) ∧
 (((@Eq Bool (@smallT (@JoA.l x1)) Bool.true) ∧
 (@Eq Bool (@smallT (@JoA.r x1)) Bool.true)) ∧
 (∀ x2 : Unit,
 (True →
 (∃ x3 : JoA,
 ((@Eq Bs (@LeafD.path (@TreeD.leaf (@TreeD.right x))) (@LeafD.path (@JoA.x x3))) ∧
 ((@Eq Int (@LeafD.digest (@TreeD.leaf (@TreeD.right x))) (@LeafD.digest (@JoA.x x3))) ∧
 ((@Eq Int (@LeafD.rev (@TreeD.leaf (@TreeD.right x))) (@LeafD.rev (@JoA.x x3))) ∧
 ((@Eq Bool (@LeafD.gone (@TreeD.leaf (@TreeD.right x))) (@LeafD.gone (@JoA.x x3))) ∧
 ((@Eq TreeD (@joinD (@JoA.x x1) (@JoA.l x1) (@JoA.r x1)) (@JoA.l x3)) ∧
 ((@Eq TreeD (@TreeD.right (@TreeD.right x)) (@JoA.r x3)) ∧
 (((@Eq Bool (@smallT (@JoA.l x3)) Bool.true) ∧
 (@Eq Bool (@smallT (@JoA.r x3)) Bool.true)) ∧
 (∀ x4 : Unit,
 (True →
 (∃ x5 : Unit,
 ((@Eq TreeD (@joinD (@JoA.x x3) (@JoA.l x3) (@JoA.r x3)) (@turnL x)) ∧
 True))))))))))))))))))))))
 (Bad "check" "tree.go:47"))
 (Bad "check" "tree.go:47"))
 (Bad "check" "tree.go:47"))
 (Bad "check" "tree.go:47"))
 (Bad "check" "tree.go:47"))
 (Bad "check" "tree.go:46"))) := by kernel_rfl

theorem turnr_vc (x : turnRT.γ) : evCall turnE (ev turnE 1000) 76 (turnRT.args x) ⟨turnRT.blks x, turnRT.n0, []⟩ (fun _ _ => False) (turnRT.ends x) = (
(br (@Bool.not (@TreeD.isNil x))
 (br (@Bool.not (@TreeD.isNil (@TreeD.left x)))
 (br (@Bool.not (@TreeD.isNil (@TreeD.left x)))
 (br (@Bool.not (@TreeD.isNil x))
 (br (@Bool.not (@TreeD.isNil (@TreeD.left x)))
 (br (@Bool.not (@TreeD.isNil x))
 (∃ x1 : JoA,
 ((@Eq Bs (@LeafD.path (@TreeD.leaf x)) (@LeafD.path (@JoA.x x1))) ∧
 ((@Eq Int (@LeafD.digest (@TreeD.leaf x)) (@LeafD.digest (@JoA.x x1))) ∧
 ((@Eq Int (@LeafD.rev (@TreeD.leaf x)) (@LeafD.rev (@JoA.x x1))) ∧
 ((@Eq Bool (@LeafD.gone (@TreeD.leaf x)) (@LeafD.gone (@JoA.x x1))) ∧
 ((@Eq TreeD (@TreeD.right (@TreeD.left x)) (@JoA.l x1)) ∧
 ((@Eq TreeD (@TreeD.right x) (@JoA.r x1)) ∧
 (((@Eq Bool (@smallT (@JoA.l x1)) Bool.true) ∧
 (@Eq Bool (@smallT (@JoA.r x1)) Bool.true)) ∧
 (∀ x2 : Unit,
 (True →
 (∃ x3 : JoA,
 ((@Eq Bs (@LeafD.path (@TreeD.leaf (@TreeD.left x))) (@LeafD.path (@JoA.x x3))) ∧
 ((@Eq Int (@LeafD.digest (@TreeD.leaf (@TreeD.left x))) (@LeafD.digest (@JoA.x x3))) ∧
 ((@Eq Int (@LeafD.rev (@TreeD.leaf (@TreeD.left x))) (@LeafD.rev (@JoA.x x3))) ∧
 ((@Eq Bool (@LeafD.gone (@TreeD.leaf (@TreeD.left x))) (@LeafD.gone (@JoA.x x3))) ∧
 ((@Eq TreeD (@TreeD.left (@TreeD.left x)) (@JoA.l x3)) ∧
 ((@Eq TreeD (@joinD (@JoA.x x1) (@JoA.l x1) (@JoA.r x1)) (@JoA.r x3)) ∧
 (((@Eq Bool (@smallT (@JoA.l x3)) Bool.true) ∧
 (@Eq Bool (@smallT (@JoA.r x3)) Bool.true)) ∧
 (∀ x4 : Unit,
 (True →
 (∃ x5 : Unit,
 ((@Eq TreeD (@joinD (@JoA.x x3) (@JoA.l x3) (@JoA.r x3)) (@turnR x)) ∧
 True))))))))))))))))))))))
 (Bad "check" "tree.go:53"))
 (Bad "check" "tree.go:53"))
 (Bad "check" "tree.go:53"))
 (Bad "check" "tree.go:53"))
 (Bad "check" "tree.go:53"))
 (Bad "check" "tree.go:52"))) := by kernel_rfl

theorem level_vc (x : levelT.γ) : evCall levelE (ev levelE 1000) 56 (levelT.args x) ⟨levelT.blks x, levelT.n0, []⟩ (fun _ _ => False) (levelT.ends x) = (
(br (@Bool.not (@TreeD.isNil x))
 (br (@Bool.not (@TreeD.isNil x))
 (∃ x1 : TreeD,
 ((@Eq TreeD (@TreeD.left x) x1) ∧
 (True ∧
 (∀ x2 : Unit,
 (True →
 (∃ x3 : TreeD,
 ((@Eq TreeD (@TreeD.right x) x3) ∧
 (True ∧
 (∀ x4 : Unit,
 (True →
 (br (@Decidable.decide (@GT.gt Int _ (@Go.IntKind.wrap Go.IntKind.i64 (@HSub.hSub Int Int Int _ (@depthD x1) (@depthD x3))) (1 : Int)) _)
 (br (@Bool.not (@TreeD.isNil x))
 (br (@Bool.not (@TreeD.isNil (@TreeD.left x)))
 (br (@Bool.not (@TreeD.isNil x))
 (br (@Bool.not (@TreeD.isNil (@TreeD.left x)))
 (∃ x5 : TreeD,
 ((@Eq TreeD (@TreeD.left (@TreeD.left x)) x5) ∧
 (True ∧
 (∀ x6 : Unit,
 (True →
 (∃ x7 : TreeD,
 ((@Eq TreeD (@TreeD.right (@TreeD.left x)) x7) ∧
 (True ∧
 (∀ x8 : Unit,
 (True →
 (br (@Decidable.decide (@LT.lt Int _ (@depthD x5) (@depthD x7)) _)
 (br (@Bool.not (@TreeD.isNil x))
 (br (@Bool.not (@TreeD.isNil x))
 (br (@Bool.not (@TreeD.isNil x))
 (∃ x9 : TreeD,
 ((@Eq TreeD (@TreeD.left x) x9) ∧
 (((@Eq Bool (@TreeD.isNil x9) Bool.false) ∧
 ((@Eq Bool (@TreeD.isNil (@TreeD.right x9)) Bool.false) ∧
 ((@Eq Bool (@smallT (@TreeD.left x9)) Bool.true) ∧
 ((@Eq Bool (@smallT (@TreeD.left (@TreeD.right x9))) Bool.true) ∧
 ((@Eq Bool (@smallT (@TreeD.right (@TreeD.right x9))) Bool.true) ∧
 (@Eq Bool (@smallT (@joinD (@TreeD.leaf x9) (@TreeD.left x9) (@TreeD.left (@TreeD.right x9)))) Bool.true)))))) ∧
 (∀ x10 : Unit,
 (True →
 (∃ x11 : JoA,
 ((@Eq Bs (@LeafD.path (@TreeD.leaf x)) (@LeafD.path (@JoA.x x11))) ∧
 ((@Eq Int (@LeafD.digest (@TreeD.leaf x)) (@LeafD.digest (@JoA.x x11))) ∧
 ((@Eq Int (@LeafD.rev (@TreeD.leaf x)) (@LeafD.rev (@JoA.x x11))) ∧
 ((@Eq Bool (@LeafD.gone (@TreeD.leaf x)) (@LeafD.gone (@JoA.x x11))) ∧
 ((@Eq TreeD (@turnL x9) (@JoA.l x11)) ∧
 ((@Eq TreeD (@TreeD.right x) (@JoA.r x11)) ∧
 (((@Eq Bool (@smallT (@JoA.l x11)) Bool.true) ∧
 (@Eq Bool (@smallT (@JoA.r x11)) Bool.true)) ∧
 (∀ x12 : Unit,
 (True →
 (∃ x13 : TreeD,
 ((@Eq TreeD (@joinD (@JoA.x x11) (@JoA.l x11) (@JoA.r x11)) x13) ∧
 (((@Eq Bool (@TreeD.isNil x13) Bool.false) ∧
 ((@Eq Bool (@TreeD.isNil (@TreeD.left x13)) Bool.false) ∧
 ((@Eq Bool (@smallT (@TreeD.right x13)) Bool.true) ∧
 ((@Eq Bool (@smallT (@TreeD.left (@TreeD.left x13))) Bool.true) ∧
 ((@Eq Bool (@smallT (@TreeD.right (@TreeD.left x13))) Bool.true) ∧
 (@Eq Bool (@smallT (@joinD (@TreeD.leaf x13) (@TreeD.right (@TreeD.left x13)) (@TreeD.right x13))) Bool.true)))))) ∧
 (∀ x14 : Unit,
 (True →
 (∃ x15 : Unit,
 ((@Eq TreeD (@turnR x13) (@levelD x)) ∧
 True))))))))))))))))))))))
 (Bad "check" "tree.go:62"))
 (Bad "check" "tree.go:62"))
 (Bad "check" "tree.go:62"))
 (∃ x16 : TreeD,
 ((@Eq TreeD x x16) ∧
 (((@Eq Bool (@TreeD.isNil x16) Bool.false) ∧
 ((@Eq Bool (@TreeD.isNil (@TreeD.left x16)) Bool.false) ∧
 ((@Eq Bool (@smallT (@TreeD.right x16)) Bool.true) ∧
 ((@Eq Bool (@smallT (@TreeD.left (@TreeD.left x16))) Bool.true) ∧
 ((@Eq Bool (@smallT (@TreeD.right (@TreeD.left x16))) Bool.true) ∧
 (@Eq Bool (@smallT (@joinD (@TreeD.leaf x16) (@TreeD.right (@TreeD.left x16)) (@TreeD.right x16))) Bool.true)))))) ∧
 (∀ x17 : Unit,
 (True →
 (∃ x18 : Unit,
 ((@Eq TreeD (@turnR x16) (@levelD x)) ∧
 True))))))))))))))))))
 (Bad "check" "tree.go:61"))
 (Bad "check" "tree.go:61"))
 (Bad "check" "tree.go:61"))
 (Bad "check" "tree.go:61"))
 (br (@Decidable.decide (@LT.lt Int _ (@Go.IntKind.wrap Go.IntKind.i64 (@HSub.hSub Int Int Int _ (@depthD x1) (@depthD x3))) (@Neg.neg Int _ (1 : Int))) _)
 (br (@Bool.not (@TreeD.isNil x))
 (br (@Bool.not (@TreeD.isNil (@TreeD.right x)))
 (br (@Bool.not (@TreeD.isNil x))
 (br (@Bool.not (@TreeD.isNil (@TreeD.right x)))
 (∃ x19 : TreeD,
 ((@Eq TreeD (@TreeD.right (@TreeD.right x)) x19) ∧
 (True ∧
 (∀ x20 : Unit,
 (True →
 (∃ x21 : TreeD,
 ((@Eq TreeD (@TreeD.left (@TreeD.right x)) x21) ∧
 (True ∧
 (∀ x22 : Unit,
 (True →
 (br (@Decidable.decide (@LT.lt Int _ (@depthD x19) (@depthD x21)) _)
 (br (@Bool.not (@TreeD.isNil x))
 (br (@Bool.not (@TreeD.isNil x))
 (br (@Bool.not (@TreeD.isNil x))
 (∃ x23 : TreeD,
 ((@Eq TreeD (@TreeD.right x) x23) ∧
 (((@Eq Bool (@TreeD.isNil x23) Bool.false) ∧
 ((@Eq Bool (@TreeD.isNil (@TreeD.left x23)) Bool.false) ∧
 ((@Eq Bool (@smallT (@TreeD.right x23)) Bool.true) ∧
 ((@Eq Bool (@smallT (@TreeD.left (@TreeD.left x23))) Bool.true) ∧
 ((@Eq Bool (@smallT (@TreeD.right (@TreeD.left x23))) Bool.true) ∧
 (@Eq Bool (@smallT (@joinD (@TreeD.leaf x23) (@TreeD.right (@TreeD.left x23)) (@TreeD.right x23))) Bool.true)))))) ∧
 (∀ x24 : Unit,
 (True →
 (∃ x25 : JoA,
 ((@Eq Bs (@LeafD.path (@TreeD.leaf x)) (@LeafD.path (@JoA.x x25))) ∧
 ((@Eq Int (@LeafD.digest (@TreeD.leaf x)) (@LeafD.digest (@JoA.x x25))) ∧
 ((@Eq Int (@LeafD.rev (@TreeD.leaf x)) (@LeafD.rev (@JoA.x x25))) ∧
 ((@Eq Bool (@LeafD.gone (@TreeD.leaf x)) (@LeafD.gone (@JoA.x x25))) ∧
 ((@Eq TreeD (@TreeD.left x) (@JoA.l x25)) ∧
 ((@Eq TreeD (@turnR x23) (@JoA.r x25)) ∧
 (((@Eq Bool (@smallT (@JoA.l x25)) Bool.true) ∧
 (@Eq Bool (@smallT (@JoA.r x25)) Bool.true)) ∧
 (∀ x26 : Unit,
 (True →
 (∃ x27 : TreeD,
 ((@Eq TreeD (@joinD (@JoA.x x25) (@JoA.l x25) (@JoA.r x25)) x27) ∧
 (((@Eq Bool (@TreeD.isNil x27) Bool.false) ∧
 ((@Eq Bool (@TreeD.isNil (@TreeD.right x27)) Bool.false) ∧
 ((@Eq Bool (@smallT (@TreeD.left x27)) Bool.true) ∧
 ((@Eq Bool (@smallT (@TreeD.left (@TreeD.right x27))) Bool.true) ∧
 ((@Eq Bool (@smallT (@TreeD.right (@TreeD.right x27))) Bool.true) ∧
 (@Eq Bool (@smallT (@joinD (@TreeD.leaf x27) (@TreeD.left x27) (@TreeD.left (@TreeD.right x27)))) Bool.true)))))) ∧
 (∀ x28 : Unit,
 (True →
 (∃ x29 : Unit,
 ((@Eq TreeD (@turnL x27) (@levelD x)) ∧
 True))))))))))))))))))))))
 (Bad "check" "tree.go:67"))
 (Bad "check" "tree.go:67"))
 (Bad "check" "tree.go:67"))
 (∃ x30 : TreeD,
 ((@Eq TreeD x x30) ∧
 (((@Eq Bool (@TreeD.isNil x30) Bool.false) ∧
 ((@Eq Bool (@TreeD.isNil (@TreeD.right x30)) Bool.false) ∧
 ((@Eq Bool (@smallT (@TreeD.left x30)) Bool.true) ∧
 ((@Eq Bool (@smallT (@TreeD.left (@TreeD.right x30))) Bool.true) ∧
 ((@Eq Bool (@smallT (@TreeD.right (@TreeD.right x30))) Bool.true) ∧
 (@Eq Bool (@smallT (@joinD (@TreeD.leaf x30) (@TreeD.left x30) (@TreeD.left (@TreeD.right x30)))) Bool.true)))))) ∧
 (∀ x31 : Unit,
 (True →
 (∃ x32 : Unit,
 ((@Eq TreeD (@turnL x30) (@levelD x)) ∧
 True))))))))))))))))))
 (Bad "check" "tree.go:66"))
 (Bad "check" "tree.go:66"))
 (Bad "check" "tree.go:66"))
 (Bad "check" "tree.go:66"))
 (∃ x33 : Unit,
 ((@Eq TreeD x (@levelD x)) ∧
 True))))))))))))))
 (Bad "check" "tree.go:59"))
 (Bad "check" "tree.go:59"))) := by kernel_rfl

theorem put_vc (n : Nat) (x : (putS n).γ) : evCall bareE (ev (putE n) 1000) 23 ((putS n).args x) ⟨(putS n).blks x, (putS n).n0, []⟩ (fun _ _ => False) ((putS n).ends x) = (
(∃ x2 : TreeD,
 ((@Eq TreeD (@PutA.t x) x2) ∧
 (True ∧
 (∀ x3 : Unit,
 (True →
 (br (@Bool.or (@TreeD.isNil x2) (@Bool.not (@TreeD.there x2)))
 (∃ x4 : JoA,
 ((@Eq Bs (@LeafD.path (@PutA.x x)) (@LeafD.path (@JoA.x x4))) ∧
 ((@Eq Int (@LeafD.digest (@PutA.x x)) (@LeafD.digest (@JoA.x x4))) ∧
 ((@Eq Int (@LeafD.rev (@PutA.x x)) (@LeafD.rev (@JoA.x x4))) ∧
 ((@Eq Bool (@LeafD.gone (@PutA.x x)) (@LeafD.gone (@JoA.x x4))) ∧
 ((@Eq TreeD TreeD.nil (@JoA.l x4)) ∧
 ((@Eq TreeD TreeD.nil (@JoA.r x4)) ∧
 (((@Eq Bool (@smallT (@JoA.l x4)) Bool.true) ∧
 (@Eq Bool (@smallT (@JoA.r x4)) Bool.true)) ∧
 (∀ x5 : Unit,
 (True →
 (∃ x6 : Unit,
 ((@Eq TreeD (@joinD (@JoA.x x4) (@JoA.l x4) (@JoA.r x4)) (@putD (@PutA.x x) (@PutA.t x))) ∧
 True))))))))))))
 (br (@Bool.not (@TreeD.isNil (@PutA.t x)))
 (∃ x7 : TwoA,
 ((@Eq Bs (@LeafD.path (@PutA.x x)) (@TwoA.a x7)) ∧
 ((@Eq Bs (@LeafD.path (@TreeD.leaf (@PutA.t x))) (@TwoA.b x7)) ∧
 (True ∧
 (∀ x8 : Unit,
 (True →
 (br (@Decidable.decide (@LT.lt Int _ (@cmpL (@splitB (@TwoA.a x7)) (@splitB (@TwoA.b x7))) (0 : Int)) _)
 (br (@Bool.not (@TreeD.isNil (@PutA.t x)))
 (br (@Bool.not (@TreeD.isNil (@PutA.t x)))
 (br (@Bool.not (@TreeD.isNil (@PutA.t x)))
 (∃ x9 : PutA,
 ((@Eq TreeD (@TreeD.left (@PutA.t x)) (@PutA.t x9)) ∧
 ((@Eq Bs (@LeafD.path (@PutA.x x)) (@LeafD.path (@PutA.x x9))) ∧
 ((@Eq Int (@LeafD.digest (@PutA.x x)) (@LeafD.digest (@PutA.x x9))) ∧
 ((@Eq Int (@LeafD.rev (@PutA.x x)) (@LeafD.rev (@PutA.x x9))) ∧
 ((@Eq Bool (@LeafD.gone (@PutA.x x)) (@LeafD.gone (@PutA.x x9))) ∧
 (((@putP (@PutA.t x9)) ∧
 (@LT.lt Nat _ (@ht (@PutA.t x9)) n)) ∧
 (∀ x10 : Unit,
 (True →
 (∃ x11 : JoA,
 ((@Eq Bs (@LeafD.path (@TreeD.leaf (@PutA.t x))) (@LeafD.path (@JoA.x x11))) ∧
 ((@Eq Int (@LeafD.digest (@TreeD.leaf (@PutA.t x))) (@LeafD.digest (@JoA.x x11))) ∧
 ((@Eq Int (@LeafD.rev (@TreeD.leaf (@PutA.t x))) (@LeafD.rev (@JoA.x x11))) ∧
 ((@Eq Bool (@LeafD.gone (@TreeD.leaf (@PutA.t x))) (@LeafD.gone (@JoA.x x11))) ∧
 ((@Eq TreeD (@putD (@PutA.x x9) (@PutA.t x9)) (@JoA.l x11)) ∧
 ((@Eq TreeD (@TreeD.right (@PutA.t x)) (@JoA.r x11)) ∧
 (((@Eq Bool (@smallT (@JoA.l x11)) Bool.true) ∧
 (@Eq Bool (@smallT (@JoA.r x11)) Bool.true)) ∧
 (∀ x12 : Unit,
 (True →
 (∃ x13 : TreeD,
 ((@Eq TreeD (@joinD (@JoA.x x11) (@JoA.l x11) (@JoA.r x11)) x13) ∧
 ((∃ x14 : LeafD,
 (∃ x15 : TreeD,
 (∃ x16 : TreeD,
 ((@Eq TreeD x13 (@joinD x14 x15 x16)) ∧
 ((@Eq Bool (@wfT x15) Bool.true) ∧
 ((@Eq Bool (@wfT x16) Bool.true) ∧
 ((@LE.le Int _ (@depthD x15) (@HAdd.hAdd Int Int Int _ (@depthD x16) (2 : Int))) ∧
 ((@LE.le Int _ (@depthD x16) (@HAdd.hAdd Int Int Int _ (@depthD x15) (2 : Int))) ∧
 (@LE.le Int _ (@HAdd.hAdd Int Int Int _ (@lenD x15) (@lenD x16)) (900000 : Int)))))))))) ∧
 (∀ x17 : Unit,
 (True →
 (∃ x18 : Unit,
 ((@Eq TreeD (@levelD x13) (@putD (@PutA.x x) (@PutA.t x))) ∧
 True))))))))))))))))))))))))))
 (Bad "check" "tree.go:81"))
 (Bad "check" "tree.go:81"))
 (Bad "check" "tree.go:81"))
 (br (@Decidable.decide (@GT.gt Int _ (@cmpL (@splitB (@TwoA.a x7)) (@splitB (@TwoA.b x7))) (0 : Int)) _)
 (br (@Bool.not (@TreeD.isNil (@PutA.t x)))
 (br (@Bool.not (@TreeD.isNil (@PutA.t x)))
 (br (@Bool.not (@TreeD.isNil (@PutA.t x)))
 (∃ x19 : PutA,
 ((@Eq TreeD (@TreeD.right (@PutA.t x)) (@PutA.t x19)) ∧
 ((@Eq Bs (@LeafD.path (@PutA.x x)) (@LeafD.path (@PutA.x x19))) ∧
 ((@Eq Int (@LeafD.digest (@PutA.x x)) (@LeafD.digest (@PutA.x x19))) ∧
 ((@Eq Int (@LeafD.rev (@PutA.x x)) (@LeafD.rev (@PutA.x x19))) ∧
 ((@Eq Bool (@LeafD.gone (@PutA.x x)) (@LeafD.gone (@PutA.x x19))) ∧
 (((@putP (@PutA.t x19)) ∧
 (@LT.lt Nat _ (@ht (@PutA.t x19)) n)) ∧
 (∀ x20 : Unit,
 (True →
 (∃ x21 : JoA,
 ((@Eq Bs (@LeafD.path (@TreeD.leaf (@PutA.t x))) (@LeafD.path (@JoA.x x21))) ∧
 ((@Eq Int (@LeafD.digest (@TreeD.leaf (@PutA.t x))) (@LeafD.digest (@JoA.x x21))) ∧
 ((@Eq Int (@LeafD.rev (@TreeD.leaf (@PutA.t x))) (@LeafD.rev (@JoA.x x21))) ∧
 ((@Eq Bool (@LeafD.gone (@TreeD.leaf (@PutA.t x))) (@LeafD.gone (@JoA.x x21))) ∧
 ((@Eq TreeD (@TreeD.left (@PutA.t x)) (@JoA.l x21)) ∧
 ((@Eq TreeD (@putD (@PutA.x x19) (@PutA.t x19)) (@JoA.r x21)) ∧
 (((@Eq Bool (@smallT (@JoA.l x21)) Bool.true) ∧
 (@Eq Bool (@smallT (@JoA.r x21)) Bool.true)) ∧
 (∀ x22 : Unit,
 (True →
 (∃ x23 : TreeD,
 ((@Eq TreeD (@joinD (@JoA.x x21) (@JoA.l x21) (@JoA.r x21)) x23) ∧
 ((∃ x24 : LeafD,
 (∃ x25 : TreeD,
 (∃ x26 : TreeD,
 ((@Eq TreeD x23 (@joinD x24 x25 x26)) ∧
 ((@Eq Bool (@wfT x25) Bool.true) ∧
 ((@Eq Bool (@wfT x26) Bool.true) ∧
 ((@LE.le Int _ (@depthD x25) (@HAdd.hAdd Int Int Int _ (@depthD x26) (2 : Int))) ∧
 ((@LE.le Int _ (@depthD x26) (@HAdd.hAdd Int Int Int _ (@depthD x25) (2 : Int))) ∧
 (@LE.le Int _ (@HAdd.hAdd Int Int Int _ (@lenD x25) (@lenD x26)) (900000 : Int)))))))))) ∧
 (∀ x27 : Unit,
 (True →
 (∃ x28 : Unit,
 ((@Eq TreeD (@levelD x23) (@putD (@PutA.x x) (@PutA.t x))) ∧
 True))))))))))))))))))))))))))
 (Bad "check" "tree.go:83"))
 (Bad "check" "tree.go:83"))
 (Bad "check" "tree.go:83"))
 (br (@Bool.not (@TreeD.isNil (@PutA.t x)))
 (br (@Bool.not (@TreeD.isNil (@PutA.t x)))
 (∃ x29 : JoA,
 ((@Eq Bs (@LeafD.path (@PutA.x x)) (@LeafD.path (@JoA.x x29))) ∧
 ((@Eq Int (@LeafD.digest (@PutA.x x)) (@LeafD.digest (@JoA.x x29))) ∧
 ((@Eq Int (@LeafD.rev (@PutA.x x)) (@LeafD.rev (@JoA.x x29))) ∧
 ((@Eq Bool (@LeafD.gone (@PutA.x x)) (@LeafD.gone (@JoA.x x29))) ∧
 ((@Eq TreeD (@TreeD.left (@PutA.t x)) (@JoA.l x29)) ∧
 ((@Eq TreeD (@TreeD.right (@PutA.t x)) (@JoA.r x29)) ∧
 (((@Eq Bool (@smallT (@JoA.l x29)) Bool.true) ∧
 (@Eq Bool (@smallT (@JoA.r x29)) Bool.true)) ∧
 (∀ x30 : Unit,
 (True →
 (∃ x31 : Unit,
 ((@Eq TreeD (@joinD (@JoA.x x29) (@JoA.l x29) (@JoA.r x29)) (@putD (@PutA.x x) (@PutA.t x))) ∧
 True))))))))))))
 (Bad "check" "tree.go:85"))
 (Bad "check" "tree.go:85"))))))))))
 (Bad "check" "tree.go:79"))))))))) := by kernel_rfl

theorem get_vc (x : getT.γ) : evCall getEn (ev getEn 1000) 31 (getT.args x) ⟨getT.blks x, getT.n0, []⟩ (fun _ _ => False) (getT.ends x) = (
((∃ x1 : TreeD,
 ((@Eq TreeD (@TrS.t x) x1) ∧
 (@Eq (@Option LeafD) (@getD' (@TrS.d x) x1) (@getD' (@TrS.d x) (@TrS.t x))))) ∧
 (∀ x2 : TreeD,
 ((@Eq (@Option LeafD) (@getD' (@TrS.d x) x2) (@getD' (@TrS.d x) (@TrS.t x))) →
 (∃ x3 : TreeD,
 ((@Eq TreeD x2 x3) ∧
 (True ∧
 (∀ x4 : Unit,
 (True →
 (br (@Bool.not (@Bool.or (@TreeD.isNil x3) (@Bool.not (@TreeD.there x3))))
 (br (@Bool.not (@TreeD.isNil x2))
 (∃ x5 : TwoA,
 ((@Eq Bs (@TrS.d x) (@TwoA.a x5)) ∧
 ((@Eq Bs (@LeafD.path (@TreeD.leaf x2)) (@TwoA.b x5)) ∧
 (True ∧
 (∀ x6 : Unit,
 (True →
 (br (@BEq.beq Int _ (@cmpL (@splitB (@TwoA.a x5)) (@splitB (@TwoA.b x5))) (0 : Int))
 (br (@Bool.not (@TreeD.isNil x2))
 (∃ x7 : Unit,
 ((@Eq Bs (@LeafD.path (@TreeD.leaf x2)) (@LeafD.path (@Option.getD LeafD (@getD' (@TrS.d x) (@TrS.t x)) (@LeafD.mk (@List.nil UInt8) (0 : Int) (0 : Int) Bool.false)))) ∧
 ((@Eq Int (@LeafD.digest (@TreeD.leaf x2)) (@LeafD.digest (@Option.getD LeafD (@getD' (@TrS.d x) (@TrS.t x)) (@LeafD.mk (@List.nil UInt8) (0 : Int) (0 : Int) Bool.false)))) ∧
 ((@Eq Int (@LeafD.rev (@TreeD.leaf x2)) (@LeafD.rev (@Option.getD LeafD (@getD' (@TrS.d x) (@TrS.t x)) (@LeafD.mk (@List.nil UInt8) (0 : Int) (0 : Int) Bool.false)))) ∧
 ((@Eq Bool (@LeafD.gone (@TreeD.leaf x2)) (@LeafD.gone (@Option.getD LeafD (@getD' (@TrS.d x) (@TrS.t x)) (@LeafD.mk (@List.nil UInt8) (0 : Int) (0 : Int) Bool.false)))) ∧
 ((@Eq Bool Bool.true (@Option.isSome LeafD (@getD' (@TrS.d x) (@TrS.t x)))) ∧
 True))))))
 (Bad "check" "tree.go:93"))
 (br (@Decidable.decide (@LT.lt Int _ (@cmpL (@splitB (@TwoA.a x5)) (@splitB (@TwoA.b x5))) (0 : Int)) _)
 (br (@Bool.not (@TreeD.isNil x2))
 (∃ x8 : TreeD,
 ((@Eq TreeD (@TreeD.left x2) x8) ∧
 ((@Eq (@Option LeafD) (@getD' (@TrS.d x) x8) (@getD' (@TrS.d x) (@TrS.t x))) ∧
 (@LT.lt Nat _ (@ht x8) (@ht x2)))))
 (Bad "check" "tree.go:96"))
 (br (@Bool.not (@TreeD.isNil x2))
 (∃ x9 : TreeD,
 ((@Eq TreeD (@TreeD.right x2) x9) ∧
 ((@Eq (@Option LeafD) (@getD' (@TrS.d x) x9) (@getD' (@TrS.d x) (@TrS.t x))) ∧
 (@LT.lt Nat _ (@ht x9) (@ht x2)))))
 (Bad "check" "tree.go:98"))))))))))
 (Bad "check" "tree.go:91"))
 (∃ x10 : Unit,
 ((@Eq Bs (@Array.toList UInt8 (@ByteArray.data (@ByteArray.mk (@List.toArray UInt8 (@List.nil UInt8))))) (@LeafD.path (@Option.getD LeafD (@getD' (@TrS.d x) (@TrS.t x)) (@LeafD.mk (@List.nil UInt8) (0 : Int) (0 : Int) Bool.false)))) ∧
 ((@Eq Int (0 : Int) (@LeafD.digest (@Option.getD LeafD (@getD' (@TrS.d x) (@TrS.t x)) (@LeafD.mk (@List.nil UInt8) (0 : Int) (0 : Int) Bool.false)))) ∧
 ((@Eq Int (0 : Int) (@LeafD.rev (@Option.getD LeafD (@getD' (@TrS.d x) (@TrS.t x)) (@LeafD.mk (@List.nil UInt8) (0 : Int) (0 : Int) Bool.false)))) ∧
 ((@Eq Bool Bool.false (@LeafD.gone (@Option.getD LeafD (@getD' (@TrS.d x) (@TrS.t x)) (@LeafD.mk (@List.nil UInt8) (0 : Int) (0 : Int) Bool.false)))) ∧
 ((@Eq Bool Bool.false (@Option.isSome LeafD (@getD' (@TrS.d x) (@TrS.t x)))) ∧
 True)))))))))))))))) := by kernel_rfl

end Go.Proofs.Ytkhiifaldbjpbaa.Ses

namespace Go.Proofs.Ytkhiifaldbjpbaa.Ses
open Go Go.Proofs Go.Proofs.Ytkhiifaldbjpbaa.Sx Go.Proofs.Ytkhiifaldbjpbaa.Trx

theorem small_num {t : TreeD} (h : 0 ≤ depthD t ∧ depthD t ≤ 1000000 ∧ 0 ≤ lenD t ∧ lenD t ≤ 1000000) : smallT t = true := by
  simp only [smallT, Bool.and_eq_true, decide_eq_true_eq]
  omega

theorem turnl_ok : SpecOK Try.prog 75 turnLT.spec := by
  refine Tri.ok (E := turnE) (Env_ok (by decide +kernel) (by simp [tjoin_ok])) (n := 1000) turnLT fun x hx => ?_
  rw [turnl_vc]
  revert x
  intro (t : TreeD) hx
  obtain ⟨h1, h2, h3, h4, h5, h6⟩ := hx
  simp only [br_bad, br_true, br_false, List.length_singleton, and_self, Bool.not_true, Bool.not_false, Bool.not_not, decide_eq_true_eq, Bool.and_eq_true, List.take_zero, List.nil_append, List.drop_zero, Nat.zero_add, Int.toNat_natCast, Nat.sub_eq, true_and, and_true, exists_const, List.length_nil, Nat.zero_le, Nat.zero_mul, Nat.le_refl, List.length_set, List.take_length, Int.natCast_nonneg, forall_const, implies_true, Int.toNat_zero, Nat.le_eq, Int.le_refl, addN, cutN, loN, hiN, bndB, List.length_cons, List.take_succ_cons, List.length_take, List.length_drop, Option.isNone, Nat.add_zero, Nat.min_self]
  try simp only [br_iff, decide_eq_true_eq, decide_eq_false_iff_not, room47, Bool.not_eq_true', Bool.not_eq_false', gt_iff_lt]
  exact ⟨h1, h2, h1, h1, h2, h2, ⟨t.leaf, t.left, t.right.left⟩, rfl, rfl, rfl, rfl, rfl, rfl, ⟨h3, h4⟩, ⟨t.right.leaf, _, t.right.right⟩, rfl, rfl, rfl, rfl, rfl, rfl, ⟨h6, h5⟩, rfl⟩
theorem turnr_ok : SpecOK Try.prog 76 turnRT.spec := by
  refine Tri.ok (E := turnE) (Env_ok (by decide +kernel) (by simp [tjoin_ok])) (n := 1000) turnRT fun x hx => ?_
  rw [turnr_vc]
  revert x
  intro (t : TreeD) hx
  obtain ⟨h1, h2, h3, h4, h5, h6⟩ := hx
  simp only [br_bad, br_true, br_false, List.length_singleton, and_self, Bool.not_true, Bool.not_false, Bool.not_not, decide_eq_true_eq, Bool.and_eq_true, List.take_zero, List.nil_append, List.drop_zero, Nat.zero_add, Int.toNat_natCast, Nat.sub_eq, true_and, and_true, exists_const, List.length_nil, Nat.zero_le, Nat.zero_mul, Nat.le_refl, List.length_set, List.take_length, Int.natCast_nonneg, forall_const, implies_true, Int.toNat_zero, Nat.le_eq, Int.le_refl, addN, cutN, loN, hiN, bndB, List.length_cons, List.take_succ_cons, List.length_take, List.length_drop, Option.isNone, Nat.add_zero, Nat.min_self]
  try simp only [br_iff, decide_eq_true_eq, decide_eq_false_iff_not, room47, Bool.not_eq_true', Bool.not_eq_false', gt_iff_lt]
  refine ⟨h1, h2, h2, h1, h2, h1, ⟨t.leaf, t.left.right, t.right⟩, rfl, rfl, rfl, rfl, rfl, rfl, ⟨h5, h3⟩, ⟨t.left.leaf, t.left.left, _⟩, rfl, rfl, rfl, rfl, rfl, rfl, ⟨h4, h6⟩, rfl⟩

theorem level_ok : SpecOK Try.prog 56 levelT.spec := by
  refine Tri.ok (E := levelE) (Env_ok (by decide +kernel) (by simp [tjoin_ok, tdepth_ok, turnl_ok, turnr_ok])) (n := 1000) levelT fun x hx => ?_
  rw [level_vc]
  revert x
  intro (t : TreeD) hx
  obtain ⟨x, l, r, rfl, hl, hr, h1, h2, hlen⟩ := hx
  have nl := wf_num l hl
  have nr := wf_num r hr
  simp only [br_bad, br_true, br_false, List.length_singleton, and_self, Bool.not_true, Bool.not_false, Bool.not_not, decide_eq_true_eq, Bool.and_eq_true, List.take_zero, List.nil_append, List.drop_zero, Nat.zero_add, Int.toNat_natCast, Nat.sub_eq, true_and, and_true, exists_const, List.length_nil, Nat.zero_le, Nat.zero_mul, Nat.le_refl, List.length_set, List.take_length, Int.natCast_nonneg, forall_const, implies_true, Int.toNat_zero, Nat.le_eq, Int.le_refl, addN, cutN, loN, hiN, bndB, List.length_cons, List.take_succ_cons, List.length_take, List.length_drop, Option.isNone, Nat.add_zero, Nat.min_self]
  try simp only [br_iff, decide_eq_true_eq, decide_eq_false_iff_not, room47, Bool.not_eq_true', Bool.not_eq_false', gt_iff_lt]
  simp only [left_join, right_join, leaf_join, nil_join, true_and]
  refine ⟨l, rfl, r, rfl, ?_⟩
  rw [wrap_id (by omega) (by omega)]
  cases lev_of x hl hr h1 h2 with
  | same g1 g2 he => exact ⟨fun g => by omega, fun _ => ⟨fun g => by omega, fun _ => he.symm⟩⟩
  | r1 y a b hd hl' ha hb g1 g2 he =>
    subst hl'
    have na := wf_num a ha
    have nb := wf_num b hb
    simp only [depth_join, len_join] at *
    refine ⟨fun _ => ⟨rfl, rfl, a, rfl, b, rfl, fun g => by omega, fun _ => ⟨_, rfl, ⟨rfl, rfl, ?_, ?_, ?_, ?_⟩, ?_⟩⟩, fun g => by omega⟩
    · exact small_num (t := r) (by omega)
    · exact small_num (t := a) (by omega)
    · exact small_num (t := b) (by omega)
    · exact small_num (t := joinD x b r) (by simp only [depth_join, len_join]; omega)
    · exact he.symm
  | r2 y z a b c hd hl' ha hb hc g1 g2 g3 he =>
    subst hl'
    have na := wf_num a ha
    have nb := wf_num b hb
    have nc := wf_num c hc
    simp only [depth_join, len_join] at *
    refine ⟨fun _ => ⟨rfl, rfl, a, rfl, joinD z b c, rfl, fun _ => ⟨_, rfl, ⟨rfl, rfl, ?_, ?_, ?_, ?_⟩, ⟨x, turnL (joinD y a (joinD z b c)), r⟩, rfl, rfl, rfl, rfl, rfl, rfl, ⟨?_, ?_⟩, _, rfl, ⟨rfl, rfl, ?_, ?_, ?_, ?_⟩, ?_⟩, fun g => by rw [depth_join] at g; omega⟩, fun g => by omega⟩
    · exact small_num (t := a) (by omega)
    · exact small_num (t := b) (by omega)
    · exact small_num (t := c) (by omega)
    · exact small_num (t := joinD y a b) (by simp only [depth_join, len_join]; omega)
    · exact small_num (t := joinD z (joinD y a b) c) (by simp only [depth_join, len_join]; omega)
    · exact small_num (t := r) (by omega)
    · exact small_num (t := r) (by omega)
    · exact small_num (t := joinD y a b) (by simp only [depth_join, len_join]; omega)
    · exact small_num (t := c) (by omega)
    · exact small_num (t := joinD x c r) (by simp only [depth_join, len_join]; omega)
    · exact he.symm
  | l1 y a b hd hr' ha hb g1 g2 he =>
    subst hr'
    have na := wf_num a ha
    have nb := wf_num b hb
    simp only [depth_join, len_join] at *
    refine ⟨fun g => by omega, fun _ => ⟨fun _ => ⟨rfl, rfl, b, rfl, a, rfl, fun g => by omega, fun _ => ⟨_, rfl, ⟨rfl, rfl, ?_, ?_, ?_, ?_⟩, ?_⟩⟩, fun g => by omega⟩⟩
    · exact small_num (t := l) (by omega)
    · exact small_num (t := a) (by omega)
    · exact small_num (t := b) (by omega)
    · exact small_num (t := joinD x l a) (by simp only [depth_join, len_join]; omega)
    · exact he.symm
  | l2 y z a b c hd hr' ha hb hc g1 g2 g3 he =>
    subst hr'
    have na := wf_num a ha
    have nb := wf_num b hb
    have nc := wf_num c hc
    simp only [depth_join, len_join] at *
    refine ⟨fun g => by omega, fun _ => ⟨fun _ => ⟨rfl, rfl, c, rfl, joinD z a b, rfl, fun _ => ⟨_, rfl, ⟨rfl, rfl, ?_, ?_, ?_, ?_⟩, ⟨x, l, turnR (joinD y (joinD z a b) c)⟩, rfl, rfl, rfl, rfl, rfl, rfl, ⟨?_, ?_⟩, _, rfl, ⟨rfl, rfl, ?_, ?_, ?_, ?_⟩, ?_⟩, fun g => by rw [depth_join] at g; omega⟩, fun g => by omega⟩⟩
    · exact small_num (t := c) (by omega)
    · exact small_num (t := a) (by omega)
    · exact small_num (t := b) (by omega)
    · exact small_num (t := joinD y b c) (by simp only [depth_join, len_join]; omega)
    · exact small_num (t := l) (by omega)
    · exact small_num (t := joinD z a (joinD y b c)) (by simp only [depth_join, len_join]; omega)
    · exact small_num (t := l) (by omega)
    · exact small_num (t := a) (by omega)
    · exact small_num (t := joinD y b c) (by simp only [depth_join, len_join]; omega)
    · exact small_num (t := joinD x l a) (by simp only [depth_join, len_join]; omega)
    · exact he.symm

theorem put_body (n : Nat) (x : PutA) (hx : (putS n).pre x) : evCall bareE (ev (putE n) 1000) 23 ((putS n).args x) ⟨(putS n).blks x, (putS n).n0, []⟩ (fun _ _ => False) ((putS n).ends x) := by
  have hvc := put_vc n x
  rw [hvc]
  clear hvc
  obtain ⟨t, x⟩ := x
  obtain ⟨⟨hp, hlen⟩, hht⟩ := hx
  dsimp only at hp hlen hht
  simp only [lvlP, putP]
  simp only [br_bad, br_true, br_false, List.length_singleton, and_self, Bool.not_true, Bool.not_false, Bool.not_not, decide_eq_true_eq, Bool.and_eq_true, List.take_zero, List.nil_append, List.drop_zero, Nat.zero_add, Int.toNat_natCast, Nat.sub_eq, true_and, and_true, exists_const, List.length_nil, Nat.zero_le, Nat.zero_mul, Nat.le_refl, List.length_set, List.take_length, Int.natCast_nonneg, forall_const, implies_true, Int.toNat_zero, Nat.le_eq, Int.le_refl, addN, cutN, loN, hiN, bndB, List.length_cons, List.take_succ_cons, List.length_take, List.length_drop, Option.isNone, Nat.add_zero, Nat.min_self]
  try simp only [br_iff, decide_eq_true_eq, decide_eq_false_iff_not, room47, Bool.not_eq_true', Bool.not_eq_false', gt_iff_lt]
  refine ⟨t, rfl, fun h => ?_, fun h => ?_⟩
  · have e : putD x t = joinD x .nil .nil := by
      cases t with
      | nil => rfl
      | node th y l r d m =>
        have : th = false := by simpa [TreeD.isNil, TreeD.there] using h
        subst this
        rfl
    exact ⟨⟨x, .nil, .nil⟩, rfl, rfl, rfl, rfl, rfl, rfl, ⟨small_num (by simp [depthD, lenD, TreeD.isNil]), small_num (by simp [depthD, lenD, TreeD.isNil])⟩, e.symm⟩
  · have hw : wfT t = true := by
      rcases hp with hp | hp
      · rw [h] at hp; cases hp
      · exact hp
    rcases wf_cases hw with rfl | ⟨y, l, r, rfl, hl, hr, b1, b2⟩
    · cases h
    have hht : max (ht l) (ht r) + 1 < n + 1 := hht
    have nl := wf_num l hl
    have nr := wf_num r hr
    rw [len_join] at hlen
    have il := put_wf x l hl
    have ir := put_wf x r hr
    have e : putD x (joinD y l r) = (bif decide (cmpL (splitB x.path) (splitB y.path) < 0) then levelD (joinD y (putD x l) r)
       else bif decide (0 < cmpL (splitB x.path) (splitB y.path)) then levelD (joinD y l (putD x r)) else joinD x l r) := rfl
    refine ⟨rfl, ⟨x.path, y.path⟩, rfl, rfl, fun h1 => ⟨rfl, rfl, rfl, ⟨l, x⟩, rfl, rfl, rfl, rfl, rfl, ⟨⟨.inr hl, by dsimp only; omega⟩, by dsimp only; omega⟩, ⟨y, putD x l, r⟩, rfl, rfl, rfl, rfl, rfl, rfl, ⟨?_, ?_⟩, _, rfl, ⟨y, putD x l, r, rfl, il.1, hr, by omega, by omega, by omega⟩, ?_⟩, fun h1 => ⟨fun h2 => ⟨rfl, rfl, rfl, ⟨r, x⟩, rfl, rfl, rfl, rfl, rfl, ⟨⟨.inr hr, by dsimp only; omega⟩, by dsimp only; omega⟩, ⟨y, l, putD x r⟩, rfl, rfl, rfl, rfl, rfl, rfl, ⟨?_, ?_⟩, _, rfl, ⟨y, l, putD x r, rfl, hl, ir.1, by omega, by omega, by omega⟩, ?_⟩, fun h2 => ⟨rfl, rfl, ⟨x, l, r⟩, rfl, rfl, rfl, rfl, rfl, rfl, ⟨?_, ?_⟩, ?_⟩⟩⟩
    · exact small_of (t := putD x l) il.1 (by omega)
    · exact small_of (t := r) hr (by omega)
    · rw [e, decide_eq_true h1]; rfl
    · exact small_of (t := l) hl (by omega)
    · exact small_of (t := putD x r) ir.1 (by omega)
    · rw [e, decide_eq_false h1, decide_eq_true h2]; rfl
    · exact small_of (t := l) hl (by omega)
    · exact small_of (t := r) hr (by omega)
    · rw [e, decide_eq_false h1, decide_eq_false h2]; rfl

/-- the same where the function's own contract is there for calls further in -/
theorem tri_ok2 {E0 E : Envr} (hE0 : EnvOK E0) (hE : EnvOK E) (hP : E.P = E0.P) {n : Nat} (T : Tri) {f : FuncId} (hbody : ∀ x, T.pre x → evCall E0 (ev E n) f (T.args x) ⟨T.blks x, T.n0, []⟩ (fun _ _ => False) (T.ends x)) : SpecOK E0.P f T.spec :=
  Tri.ok' T fun x hx F g w vs hargs hm => (evCall_sound hE0 (fun c => hP ▸ (ev_sound hE n).1 c) (hbody x hx) hargs hm).2

theorem bare_env : EnvOK bareE := Env_ok (by decide +kernel) (by simp)
set_option maxRecDepth 100000 in
theorem put_env {n : Nat} (h : SpecOK Try.prog 23 (putT n).spec) : EnvOK (putE n) := Env_ok (by decide +kernel) (by
  intro p hp
  simp only [List.mem_cons, List.mem_nil_iff, or_false] at hp
  rcases hp with rfl | rfl | rfl | rfl | rfl
  · exact empty_ok
  · exact tjoin_ok
  · exact level_ok
  · exact compare_ok
  · exact h)
set_option maxRecDepth 100000 in
theorem put_ok (n : Nat) : SpecOK Try.prog 23 (putT n).spec := by
  induction n with
  | zero =>
    refine Tri.ok' (putT 0) fun x hx => ?_
    obtain ⟨_, h⟩ := hx
    exact absurd h (Nat.not_lt_zero _)
  | succ n ih => exact tri_ok2 (E0 := bareE) (E := putE n) bare_env (put_env ih) rfl (n := 1000) (putS n) (fun x hx => put_body n x hx)

theorem getD_nil {p : Bs} {t : TreeD} (h : (t.isNil || !t.there) = true) : getD' p t = none := by
  cases t with
  | nil => rfl
  | node th y l r d m =>
    have : th = false := by simpa [TreeD.isNil, TreeD.there] using h
    subst this
    rfl
theorem get_ok : SpecOK Try.prog 31 getT.spec := by
  refine Tri.ok (E := getEn) (Env_ok (by decide +kernel) (by simp [empty_ok, compare_ok])) (n := 1000) getT fun x hx => ?_
  rw [get_vc]
  obtain ⟨t, p⟩ := x
  simp only [br_bad, br_true, br_false, List.length_singleton, and_self, Bool.not_true, Bool.not_false, Bool.not_not, decide_eq_true_eq, Bool.and_eq_true, List.take_zero, List.nil_append, List.drop_zero, Nat.zero_add, Int.toNat_natCast, Nat.sub_eq, true_and, and_true, exists_const, List.length_nil, Nat.zero_le, Nat.zero_mul, Nat.le_refl, List.length_set, List.take_length, Int.natCast_nonneg, forall_const, implies_true, Int.toNat_zero, Nat.le_eq, Int.le_refl, addN, cutN, loN, hiN, bndB, List.length_cons, List.take_succ_cons, List.length_take, List.length_drop, Option.isNone, Nat.add_zero, Nat.min_self]
  try simp only [br_iff, decide_eq_true_eq, decide_eq_false_iff_not, room47, Bool.not_eq_true', Bool.not_eq_false', gt_iff_lt]
  refine ⟨⟨t, rfl, rfl⟩, fun t' hI => ⟨t', rfl, fun h => ?_, fun h => ?_⟩⟩
  · rw [← hI]
    cases t' with
    | nil => cases h
    | node th y l r d m =>
      have : th = true := by simpa [TreeD.isNil, TreeD.there] using h
      subst this
      have e : getD' p (.node true y l r d m) = (bif cmpL (splitB p) (splitB y.path) == 0 then some y else bif decide (cmpL (splitB p) (splitB y.path) < 0) then getD' p l else getD' p r) := rfl
      rw [e]
      refine ⟨rfl, ⟨p, y.path⟩, rfl, rfl, fun h1 => ?_, fun h1 => ⟨fun h2 => ⟨rfl, l, rfl, ?_, ?_⟩, fun h2 => ⟨rfl, r, rfl, ?_, ?_⟩⟩⟩
      · rw [show (cmpL (splitB p) (splitB y.path) == 0) = true from h1]
        exact ⟨rfl, rfl, rfl, rfl, rfl, rfl⟩
      · rw [show (cmpL (splitB p) (splitB y.path) == 0) = false from h1, decide_eq_true h2]; rfl
      · show ht l < max (ht l) (ht r) + 1; omega
      · rw [show (cmpL (splitB p) (splitB y.path) == 0) = false from h1, decide_eq_false h2]; rfl
      · show ht r < max (ht l) (ht r) + 1; omega
  · rw [← hI, getD_nil h]
    exact ⟨rfl, rfl, rfl, rfl, rfl⟩
end Go.Proofs.Ytkhiifaldbjpbaa.Ses
