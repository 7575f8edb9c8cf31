/- Laws of graphs, in plain words. No condition. -/
import Derived.Test.YtildflamnehilaaGreatGrcA
set_option linter.unusedSimpArgs false
set_option linter.unusedVariables false

namespace Go.Proofs.YtildflamnehilaaGreat.Ses
open Go Go.Proofs Go.Proofs.YtildflamnehilaaGreat.Sx Go.Proofs.YtildflamnehilaaGreat.Trx

/-! ### conflicts -/

structure ConA where
  l : List Deed5D
  base : Int
  ch : List ChangeD
/-- the last commit from a base on, up to a number, that changed a path -/
def hitC (C : List CommitD) (base : Int) (p : Bs) : Nat → Option Int
  | 0 => none
  | k + 1 => bif decide (base ≤ k) && hasP p (C.getD k ⟨0, 0, [], []⟩) then some (C.getD k ⟨0, 0, [], []⟩).rev else hitC C base p k
structure KVer where
  k : Nat
  w : VerdictD
/-! ### legal -/

def lastK (C : List CommitD) (p : Bs) (k : Nat) : Int := (hitC C 0 p k).getD 0
def lastJ (c : CommitD) (p : Bs) (j : Nat) (w : Int) : Int := bif (c.changes.take j).any fun x => x.path == p then c.rev else w
/-! ### beginnings -/

structure PreA where
  l : List Deed5D
  n : Int
end Go.Proofs.YtildflamnehilaaGreat.Ses

namespace Go.Proofs.YtildflamnehilaaGreat.Ses
open Go Go.Proofs Go.Proofs.YtildflamnehilaaGreat.Sx Go.Proofs.YtildflamnehilaaGreat.Trx

theorem getM {C : List CommitD} {i : Nat} (h : i < C.length) : C.getD i noM = C[i] := by simp [List.getD, h]
theorem hit_suc (C : List CommitD) (b : Int) (p : Bs) (k : Nat) : hitC C b p (k + 1) = bif decide (b ≤ k) && hasP p (C.getD k noM) then some (C.getD k noM).rev else hitC C b p k := rfl
theorem hit_low {C : List CommitD} {b : Int} {p : Bs} : ∀ {k : Nat}, (k : Int) ≤ b → hitC C b p k = none
  | 0, _ => rfl
  | k + 1, h => by
    rw [hit_suc, decide_eq_false (by omega)]
    exact hit_low (k := k) (by omega)
theorem hit_above {C : List CommitD} {b : Int} {p : Bs} {i : Nat} : ∀ d : Nat, (∀ j, i ≤ j → j < i + d → hasP p (C.getD j noM) = false) → hitC C b p (i + d) = hitC C b p i
  | 0, _ => rfl
  | d + 1, h => by
    have e : i + (d + 1) = (i + d) + 1 := by omega
    rw [e, hit_suc, h (i + d) (by omega) (by omega), Bool.and_false]
    exact hit_above d fun j h1 h2 => h j h1 (by omega)
theorem hit_row {C : List CommitD} (h : OkC C) (b : Int) (p : Bs) : hitC C b p C.length = match getL p (rowC C) with
    | some x => bif decide (x.rev > b) then some x.rev else none
    | none => none := by
  rw [rowC_get]
  rcases last_at h.rev p with ⟨h1, h2⟩ | ⟨i, hi, x, h1, h2, h3, h4, _⟩
  · rw [h1]
    have := hit_above (C := C) (b := b) (p := p) (i := 0) C.length fun j _ hj => by
      rw [getM (by omega)]
      exact h2 j (by omega)
    rw [Nat.zero_add] at this
    rw [this]
    rfl
  · rw [h1]
    have e : i + 1 + (C.length - (i + 1)) = C.length := by omega
    have := hit_above (C := C) (b := b) (p := p) (i := i + 1) (C.length - (i + 1)) fun j h5 h6 => by
      rw [getM (by omega)]
      exact h4 j (by omega) (by omega)
    rw [e] at this
    rw [this]
    dsimp only
    by_cases hb : b ≤ (i : Int)
    · rw [hit_suc, getM hi, h3, decide_eq_true hb, decide_eq_true (show x.rev > b by omega), h.rev i hi, h2]
      rfl
    · rw [hit_low (by omega), decide_eq_false (show ¬ x.rev > b by omega)]
      rfl
theorem unlikeC_eq {l : List ChangeD} (h : unlikeC l) {a b : ChangeD} (ha : a ∈ l) (hb : b ∈ l) (e : a.path = b.path) : a = b := by
  induction l with
  | nil => cases ha
  | cons y r ih =>
    have hh := (List.pairwise_cons.1 h).1
    have ht := (List.pairwise_cons.1 h).2
    rcases List.mem_cons.1 ha with rfl | ha' <;> rcases List.mem_cons.1 hb with rfl | hb'
    · rfl
    · exact absurd e (hh b hb')
    · exact absurd e.symm (hh a ha')
    · exact ih ht ha' hb'
/-- what a leaf of the row says of the commits -/
theorem leaf_at {C : List CommitD} (h : OkC C) {x : LeafD} (hx : x ∈ rowC C) : hitC C 0 x.path C.length = some x.rev ∧ x.rev ≠ 0 ∧
    ∀ k, k < C.length → (C.getD k noM).rev = x.rev → ∀ c, c ∈ (C.getD k noM).changes → c.path = x.path → c.digest = x.digest ∧ c.gone = x.gone := by
  have hg : getL x.path (rowC C) = some x := (getL_iff (insLs_ord _)).2 ⟨hx, rfl⟩
  have h0 := hit_row h 0 x.path
  rw [hg] at h0
  rw [rowC_get] at hg
  rcases last_at h.rev x.path with ⟨h1, _⟩ | ⟨i, hi, y, h1, h2, h3, h4, h5⟩
  · rw [h1] at hg; cases hg
  · rw [h1] at hg
    have hxy : y = x := Option.some.inj hg
    subst hxy
    dsimp only at h0
    rw [decide_eq_true (show y.rev > 0 by omega)] at h0
    refine ⟨h0, by omega, fun k hk hr c hc hp => ?_⟩
    rw [getM hk] at hr hc
    have hki := h.rev k hk
    have : k = i := by omega
    subst this
    have h6 := lastOf_some h5
    obtain ⟨c', hc', rfl⟩ := List.mem_map.1 h6.1
    have e : c' = c := unlikeC_eq (h.unlike k hk) hc' hc (by rw [hp]; rfl)
    subst e
    exact ⟨rfl, rfl⟩
theorem lastJ_suc {c : CommitD} {p : Bs} {j : Nat} {w : Int} (h : j < c.changes.length) : lastJ c p (j + 1) w = bif (c.changes.getD j noC).path == p then c.rev else lastJ c p j w := by
  unfold lastJ
  rw [take_succ_getD noC h, List.any_append]
  simp only [List.any_cons, List.any_nil, Bool.or_false]
  cases ((c.changes.getD j noC).path == p) <;> cases (c.changes.take j).any (fun x => x.path == p) <;> rfl
theorem lastK_suc {C : List CommitD} {p : Bs} {k : Nat} : lastK C p (k + 1) = lastJ (C.getD k noM) p (C.getD k noM).changes.length (lastK C p k) := by
  unfold lastK lastJ
  rw [hit_suc, decide_eq_true (by omega), Bool.true_and, List.take_length]
  show _ = bif hasP p (C.getD k noM) then _ else _
  cases hasP p (C.getD k noM) <;> rfl

/-! ### deeds that may be -/

theorem roomG_of {l : List Deed5D} (h : roomG l = true) : l.length ≤ 100 ∧ ∀ i, i < l.length → shortC (l.getD i noD).l = true := by
  unfold roomG at h
  simp only [Bool.and_eq_true, decide_eq_true_eq, List.all_eq_true] at h
  refine ⟨h.1, fun i hi => ?_⟩
  have := h.2 _ (getD_mem (d := noD) hi)
  unfold okD at this
  simp only [Bool.and_eq_true, decide_eq_true_eq, List.all_eq_true] at this
  exact List.all_eq_true.2 fun c hc => decide_eq_true (by have := this.2.2 c hc; omega)
theorem go_few {l : List Deed5D} (h : l.length ≤ 100) (i : Nat) : fewG (goC (l.take i)) = true := by
  have hl : (l.take i).length ≤ 100 := by rw [List.length_take]; omega
  have ho := goC_ok (l.take i) (by omega)
  unfold fewG
  simp only [Bool.and_eq_true, decide_eq_true_eq, List.all_eq_true]
  exact ⟨by have := ho.len; omega, ho.ch⟩
end Go.Proofs.YtildflamnehilaaGreat.Ses

namespace Go.Proofs.YtildflamnehilaaGreat.Ses
open Go Go.Proofs Go.Proofs.YtildflamnehilaaGreat.Sx Go.Proofs.YtildflamnehilaaGreat.Trx

theorem eqM_self (c : CommitD) : eqM c c = true := by
  unfold eqM
  rw [sameC_self]; simp
theorem sameM_self (l : List CommitD) : sameM l l = true := by
  unfold sameM
  have h1 : Nat.beq l.length l.length = true := by simp
  rw [h1, Bool.true_and, List.all_eq_true]
  intro x hx
  obtain ⟨i, hi⟩ := List.mem_iff_getElem?.1 hx
  rw [List.getElem?_zipWith] at hi
  cases hl : l[i]? with
  | none => rw [hl] at hi; cases hi
  | some y =>
    rw [hl] at hi
    have hi : eqM y y = x := by simpa using hi
    show x = true
    rw [← hi]
    exact eqM_self y
theorem eqV_self (v : VerdictD) : eqV v v = true := by
  unfold eqV
  rw [sameM_self]; simp
end Go.Proofs.YtildflamnehilaaGreat.Ses
