/- The laws MachineOnce and MachineApplies: what the evaluator leaves, and that it holds. No condition. -/
import Derived.Test.YtgepebndihfnfaaGreatGMgF
import Derived.KernelRfl
set_option linter.unusedSimpArgs false
set_option linter.unusedVariables false

namespace Go.Proofs.YtgepebndihfnfaaGreat.Ses
open Go Go.Proofs Go.Proofs.YtgepebndihfnfaaGreat.Sx
structure OncA where
  l : List RequestD
  q : RequestD
structure AppA where
  c : CfgD
  l : List RequestD
end Go.Proofs.YtgepebndihfnfaaGreat.Ses

namespace Go.Proofs.YtgepebndihfnfaaGreat.Ses
open Go Go.Proofs Go.Proofs.YtgepebndihfnfaaGreat.Sx
set_option maxRecDepth 100000
end Go.Proofs.YtgepebndihfnfaaGreat.Ses

namespace Go.Proofs.YtgepebndihfnfaaGreat.Ses
open Go Go.Proofs Go.Proofs.YtgepebndihfnfaaGreat.Sx
theorem MOk.el {a z : Int} {n : Nat} {x : MacS} (h : MOk a z n x) (hn : n ≤ 4000) : okEl x.E = true := by
  have h1 := h.e1
  have h2 := h.eM
  unfold okEl
  rw [decide_eq_true h1, decide_eq_true (by omega), List.all_eq_true.2 fun p hp => (h.em p hp).1]; rfl
theorem MOk.lk {a z : Int} {n : Nat} {x : MacS} (h : MOk a z n x) (hn : n ≤ 4000) : okLk x = true := by
  unfold okLk
  rw [h.ok hn, h.el hn]; rfl
theorem runD0 (l : List RequestD) (h : l.length ≤ 4000) : MDs 2 3 l.length (runF fresh0 l) := runZD_ok (M := [0, 1, 2]) (by decide) l h
theorem take_le (l : List RequestD) (i : Nat) : (l.take i).length ≤ l.length := by rw [List.length_take]; omega
end Go.Proofs.YtgepebndihfnfaaGreat.Ses
