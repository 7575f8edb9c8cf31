/- Refs and logs in plain words. No condition. -/
import Derived.Test.YtgepebndihfnfaaGreatLGrsA
set_option linter.unusedSimpArgs false
set_option linter.unusedVariables false

namespace Go.Proofs.YtgepebndihfnfaaGreat.Ses
open Go Go.Proofs Go.Proofs.YtgepebndihfnfaaGreat.Sx Go.Proofs.YtgepebndihfnfaaGreat.Trx
structure RdsA where
  l : List Deed5D
  p : Bs
  part : Int
end Go.Proofs.YtgepebndihfnfaaGreat.Ses

namespace Go.Proofs.YtgepebndihfnfaaGreat.Ses
open Go Go.Proofs Go.Proofs.YtgepebndihfnfaaGreat.Sx Go.Proofs.YtgepebndihfnfaaGreat.Trx
theorem lookK_put : ∀ (K : List (Bs × Int)) (s : Bs) (v : Int) (n : Bs), lookK (putK K s v) n = bif s == n then some v else lookK K n
  | [], s, v, n => by simp [putK, lookK]
  | (k, x) :: r, s, v, n => by
    have ih := lookK_put r s v n
    unfold putK
    cases h : (k == s)
    · simp only [cond_false, lookK, ih]
      cases h1 : (k == n)
      · rfl
      · have : (s == n) = false := by
          have h1 := beq_iff_eq.1 h1
          subst h1
          rw [Bool.eq_false_iff] at h ⊢
          intro e
          exact h (by rw [beq_iff_eq] at e ⊢; exact e.symm)
        rw [this]
        simp
    · have h := beq_iff_eq.1 h
      subst h
      simp only [cond_true, lookK]
      cases h1 : (k == n) <;> rfl
end Go.Proofs.YtgepebndihfnfaaGreat.Ses
