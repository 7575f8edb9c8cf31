/- The epochs of the reference. No condition. -/
import Derived.Test.YtgepebndihfnfaaGreatGMgB
import Derived.KernelRfl
set_option linter.unusedSimpArgs false
set_option linter.unusedVariables false

namespace Go.Proofs.YtgepebndihfnfaaGreat.Ses
open Go Go.Proofs Go.Proofs.YtgepebndihfnfaaGreat.Sx
structure HasA where
  l : List Int
  n : Int
noncomputable def hasT : Tri := { γ := HasA, n0 := 0, args := fun x => [.rslice false .int x.l, .int .i64 x.n], blks := fun _ => [], pre := fun _ => True, δ := Unit, post := fun _ _ => True, n1 := 0, res := fun x _ => .bool (x.l.contains x.n), blks' := fun _ _ => [], scal := true }
noncomputable def hasI : St → LInv := fun s => match getE s.env 0, getE s.env 1 with
  | .rslice _ .int l, .int _ n => { σ := Nat, I := fun i => i ≤ l.length ∧ (l.take i).contains n = false, μ := fun i => l.length - i, env := fun i => [(5, .int .i64 i)], blk := fun _ => [], fresh := 0, drop := [] }
  | _, _ => LInv.none
noncomputable def hasE : Envr := Env Tryz.prog cod [] [(2, hasI)]
end Go.Proofs.YtgepebndihfnfaaGreat.Ses

namespace Go.Proofs.YtgepebndihfnfaaGreat.Ses
open Go Go.Proofs Go.Proofs.YtgepebndihfnfaaGreat.Sx
theorem upE_lt : ∀ {M : List Int} {a : Int}, upE a M = true → M.Pairwise (· < ·) ∧ ∀ x, x ∈ M → a < x ∧ x < 15
  | [], a, _ => ⟨List.Pairwise.nil, fun x hx => by cases hx⟩
  | m :: r, a, h => by
    unfold upE at h
    simp only [Bool.and_eq_true, decide_eq_true_eq] at h
    obtain ⟨p1, p2⟩ := upE_lt h.2.2
    refine ⟨List.pairwise_cons.2 ⟨fun x hx => (p2 x hx).1, p1⟩, fun x hx => ?_⟩
    rcases List.mem_cons.1 hx with rfl | hx
    · exact ⟨h.1, h.2.1⟩
    · have := p2 x hx
      exact ⟨by omega, this.2⟩
theorem nums_ups (k : Nat) : ((List.range k).map fun (n : Nat) => (n : Int)).Pairwise (· < ·) := by
  rw [List.pairwise_map]
  exact List.pairwise_lt_range.imp fun h => by omega
theorem mem_nums {k : Nat} {n : Int} : n ∈ ((List.range k).map fun (n : Nat) => (n : Int)) ↔ 0 ≤ n ∧ n < k := by
  rw [List.mem_map]
  constructor
  · rintro ⟨j, hj, rfl⟩
    have := List.mem_range.1 hj
    omega
  · rintro ⟨h1, h2⟩
    exact ⟨n.toNat, List.mem_range.2 (by omega), by omega⟩
theorem contains_suc {l : List Int} {n : Int} {i : Nat} (h : i < l.length) : (l.take (i + 1)).contains n = ((l.take i).contains n || (l.getD i 0 == n)) := by
  rw [take_succ_getD 0 h]
  rw [Bool.eq_iff_iff, Bool.or_eq_true, List.contains_iff_mem, List.contains_iff_mem, List.mem_append, List.mem_singleton, beq_iff_eq]
  exact ⟨fun q => q.imp id Eq.symm, fun q => q.imp id Eq.symm⟩
end Go.Proofs.YtgepebndihfnfaaGreat.Ses

namespace Go.Proofs.YtgepebndihfnfaaGreat.Ses
open Go Go.Proofs Go.Proofs.YtgepebndihfnfaaGreat.Sx
set_option maxRecDepth 100000
abbrev hasQ1 (x1 : Nat) (x : hasT.γ) := x1 ≤ (HasA.l x).length ∧
@List.contains Int _ (List.take x1 (HasA.l x)) (HasA.n x) = false
theorem has_vc (x : hasT.γ) : evCall hasE (ev hasE 1000) 55 (hasT.args x) ⟨hasT.blks x, hasT.n0, []⟩ (fun _ _ => False) (hasT.ends x) = (
(∃ x1 : Nat, (0 : Int) = (↑x1 : Int) ∧
hasQ1 x1 x) ∧
∀ x2 : Nat, hasQ1 x2 x →
(HasA.l x).length * 8 ≤ room47 →
br (decide ((↑x2 : Int) < (↑(HasA.l x).length : Int))) (br (decide ((0 : Int) ≤ (↑x2 : Int) ∧
(↑x2 : Int) < (↑(HasA.l x).length : Int))) (br (List.getD (HasA.l x) (↑x2 : Int).toNat (Int.ofNat 0) == HasA.n x) (∃ x3 : Unit, true = @List.contains Int _ (HasA.l x) (HasA.n x) ∧
True) (∃ x4 : Nat, IntKind.wrap IntKind.i64 ((↑x2 : Int) + (1 : Int)) = (↑x4 : Int) ∧
hasQ1 x4 x ∧
Nat.sub (HasA.l x).length x4 < Nat.sub (HasA.l x).length x2)) (Bad "check" "ref.go:152")) (∃ x5 : Unit, false = @List.contains Int _ (HasA.l x) (HasA.n x) ∧
True)) := by kernel_rfl
end Go.Proofs.YtgepebndihfnfaaGreat.Ses

namespace Go.Proofs.YtgepebndihfnfaaGreat.Ses
open Go Go.Proofs Go.Proofs.YtgepebndihfnfaaGreat.Sx
theorem has_ok : SpecOK Tryz.prog 55 hasT.spec := by
  refine Tri.ok (E := hasE) (Env_ok (by decide +kernel) (by simp)) (n := 1000) hasT fun x _ => ?_
  rw [has_vc]
  delta hasQ1
  obtain ⟨l, n⟩ := x
  dsimp only
  refine ⟨⟨0, rfl, Nat.zero_le _, rfl⟩, fun i hi hr => br_i (fun h1 => ?_) (fun h1 => ?_)⟩
  · have h1 := of_decide_eq_true h1
    have hlt : i < l.length := by omega
    have e0 : (i : Int).toNat = i := rfl
    rw [e0]
    have ed : l.getD i (Int.ofNat 0) = l.getD i 0 := rfl
    rw [ed]
    refine br_t (decide_eq_true ⟨by omega, h1⟩) (br_i (fun q => ⟨(), ?_, trivial⟩) (fun q => ⟨i + 1, by rw [wrap_id (by unfold room47 at hr; omega) (by unfold room47 at hr; omega)]; rfl, ⟨by omega, ?_⟩, by show l.length - (i + 1) < l.length - i; omega⟩))
    · rw [beq_iff_eq] at q
      exact (List.contains_iff_mem.2 (q ▸ getD_mem hlt)).symm
    · rw [contains_suc hlt, hi.2, q]; rfl
  · have h1 := of_decide_eq_false h1
    have : i = l.length := by have := hi.1; omega
    subst this
    have := hi.2
    rw [List.take_length] at this
    exact ⟨(), this.symm, trivial⟩
end Go.Proofs.YtgepebndihfnfaaGreat.Ses

namespace Go.Proofs.YtgepebndihfnfaaGreat.Ses
open Go Go.Proofs Go.Proofs.YtgepebndihfnfaaGreat.Sx
end Go.Proofs.YtgepebndihfnfaaGreat.Ses
