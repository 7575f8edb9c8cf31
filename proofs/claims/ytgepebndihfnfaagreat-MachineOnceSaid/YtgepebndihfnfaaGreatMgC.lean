/- The epochs of the reference. No condition. -/
import Derived.Test.YtgepebndihfnfaaGreatMgB
import Derived.KernelRfl
set_option linter.unusedSimpArgs false
set_option linter.unusedVariables false

namespace Go.Proofs.YtgepebndihfnfaaGreat.Ses
open Go Go.Proofs Go.Proofs.YtgepebndihfnfaaGreat.Sx

/-! ### the reference's epochs -/

structure HasA where
  l : List Int
  n : Int
end Go.Proofs.YtgepebndihfnfaaGreat.Ses

namespace Go.Proofs.YtgepebndihfnfaaGreat.Ses
open Go Go.Proofs Go.Proofs.YtgepebndihfnfaaGreat.Sx

/-! ### members, told by the numbers that there may be -/

theorem upE_lt : ∀ {M : List Int} {a : Int}, upE a M = true → M.Pairwise (· < ·) ∧ ∀ x, x ∈ M → a < x ∧ x < 15
  | [], a, _ => ⟨List.Pairwise.nil, fun x hx => by cases hx⟩
  | m :: r, a, h => by
    unfold upE at h
    simp only [Bool.and_eq_true, decide_eq_true_eq] at h
    obtain ⟨p1, p2⟩ := upE_lt h.2.2
    refine ⟨List.pairwise_cons.2 ⟨fun x hx => (p2 x hx).1, p1⟩, fun x hx => ?_⟩
    rcases List.mem_cons.1 hx with rfl | hx
    · exact ⟨h.1, h.2.1⟩
    · have := p2 x hx
      exact ⟨by omega, this.2⟩
theorem nums_ups (k : Nat) : ((List.range k).map fun (n : Nat) => (n : Int)).Pairwise (· < ·) := by
  rw [List.pairwise_map]
  exact List.pairwise_lt_range.imp fun h => by omega
theorem mem_nums {k : Nat} {n : Int} : n ∈ ((List.range k).map fun (n : Nat) => (n : Int)) ↔ 0 ≤ n ∧ n < k := by
  rw [List.mem_map]
  constructor
  · rintro ⟨j, hj, rfl⟩
    have := List.mem_range.1 hj
    omega
  · rintro ⟨h1, h2⟩
    exact ⟨n.toNat, List.mem_range.2 (by omega), by omega⟩
end Go.Proofs.YtgepebndihfnfaaGreat.Ses

namespace Go.Proofs.YtgepebndihfnfaaGreat.Ses
open Go Go.Proofs Go.Proofs.YtgepebndihfnfaaGreat.Sx
set_option maxRecDepth 100000

end Go.Proofs.YtgepebndihfnfaaGreat.Ses

namespace Go.Proofs.YtgepebndihfnfaaGreat.Ses
open Go Go.Proofs Go.Proofs.YtgepebndihfnfaaGreat.Sx

end Go.Proofs.YtgepebndihfnfaaGreat.Ses

namespace Go.Proofs.YtgepebndihfnfaaGreat.Ses
open Go Go.Proofs Go.Proofs.YtgepebndihfnfaaGreat.Sx

end Go.Proofs.YtgepebndihfnfaaGreat.Ses
