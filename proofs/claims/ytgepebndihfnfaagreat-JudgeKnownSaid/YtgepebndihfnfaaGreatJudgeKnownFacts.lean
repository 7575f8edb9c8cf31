/- What the row of 'JudgeKnown' says of the program's text. No condition. -/
import Derived.Test.YtgepebndihfnfaaGreatRows
import Derived.Test.YtgepebndihfnfaaGreatChecked
import Derived.ProofKit
import Derived.OpenShut
import Derived.KernelRfl
namespace Go.Proofs.YtgepebndihfnfaaGreat.JudgeKnown
open Go.ChangeShapes Go.WideShapes Go.ChangeAt Go.RowKit

theorem and2 {a b : Bool} (h1 : a = true) (h2 : b = true) : (a && b) = true := by rw [h1, h2]; rfl
set_option maxRecDepth 100000 in
set_option maxHeartbeats 0 in
theorem closed : joinedFacts Tryz.prog 9 Tryz.f9 Rows.judgeKnownSpec Rows.judgeKnownRow = true := by
  unfold joinedFacts
  iterate 40 (with_reducible (first | refine and2 ?_ (by as_aux_lemma => kernel_rfl) | (as_aux_lemma => kernel_rfl) | done))
end Go.Proofs.YtgepebndihfnfaaGreat.JudgeKnown
