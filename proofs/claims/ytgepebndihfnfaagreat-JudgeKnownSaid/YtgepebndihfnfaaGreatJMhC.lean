/- The laws PlainFirst, PlainRuns, PlainParts: what the evaluator leaves, and that it holds. No condition. -/
import Derived.Test.YtgepebndihfnfaaGreatJMhB
import Derived.KernelRfl
set_option linter.unusedSimpArgs false
set_option linter.unusedVariables false

namespace Go.Proofs.YtgepebndihfnfaaGreat.Ses
open Go Go.Proofs Go.Proofs.YtgepebndihfnfaaGreat.Sx
structure PfiA where
  l:List RequestD
  r:RequestD
structure PruA where
  c:CfgD
  l:List RequestD
  r:RequestD
structure PpaA where
  l:List RequestD
  k:Int
set_option maxRecDepth 100000
theorem eqR_self (r:RequestD):eqR r r=true:=by
  unfold eqR
  rw [sameC_self]
  simp
theorem idxR_spec (r:RequestD):∀l:List RequestD,(idxR r l = -1 ∧ ∀j,j<l.length→eqR (l.getD j RequestD.dflt) r=false) ∨ ∃k:Nat,k<l.length∧idxR r l=k∧eqR (l.getD k RequestD.dflt) r=true ∧ ∀j,j<k→eqR (l.getD j RequestD.dflt) r=false
  | []=>.inl ⟨rfl,fun j h=>absurd h (Nat.not_lt_zero _)⟩
  | x::t=>by
    cases h:eqR x r
    · rcases idxR_spec r t with ⟨h1,h2⟩ | ⟨k,h1,h2,h3,h4⟩
      · refine .inl ⟨by unfold idxR;rw [h,h1];rfl,fun j hj=>?_⟩
        cases j with
        | zero=>exact h
        | succ j=>exact h2 j (by simpa using hj)
      · refine .inr ⟨k+1,by simpa using h1,?_,h3,fun j hj=>?_⟩
        · unfold idxR
          rw [h,h2]
          dsimp only [cond_false]
          rw [decide_eq_false (by omega:¬((k:Int)<0))]
          rfl
        · cases j with
          | zero=>exact h
          | succ j=>exact h4 j (by omega)
    · exact .inr ⟨0,by simp,by unfold idxR;rw [h];rfl,h,fun j hj=>absurd hj (Nat.not_lt_zero _)⟩
theorem cut_in {n:Nat} (k:Int) (h0:0<n) (h1:n≤100):∃a:Nat,a<n∧Int.tmod (IntKind.wrap IntKind.i64 (Int.tmod k n+n)) n=(a:Int):=by
  have b1:Int.tmod k n<n:=Int.tmod_lt_of_pos k (by omega)
  have b0:-(n:Int)<Int.tmod k n:=by
    have:=Int.lt_tmod_of_pos k (b:=(n:Int)) (by omega)
    omega
  rw [wrap_id (by omega) (by omega)]
  have c0:0≤Int.tmod (Int.tmod k n+n) n:=Int.tmod_nonneg _ (by omega)
  have c1:Int.tmod (Int.tmod k n+n) n<n:=Int.tmod_lt_of_pos _ (by omega)
  exact⟨(Int.tmod (Int.tmod k n+n) n).toNat,by omega,by omega⟩
end Go.Proofs.YtgepebndihfnfaaGreat.Ses
