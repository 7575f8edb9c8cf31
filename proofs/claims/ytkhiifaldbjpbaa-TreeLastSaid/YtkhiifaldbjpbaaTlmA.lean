/- Leaves as arguments. No condition. -/
import Derived.Test.YtkhiifaldbjpbaaTrlA
import Derived.KernelRfl
set_option linter.unusedSimpArgs false
set_option linter.unusedVariables false

namespace Go.Proofs.Ytkhiifaldbjpbaa.Ses
open Go Go.Proofs Go.Proofs.Ytkhiifaldbjpbaa.Sx Go.Proofs.Ytkhiifaldbjpbaa.Trx

section
variable {H : Type} {en : TypeId × Value → H} {w : World}

theorem op_leaf : Opens en Try.prog w 33 (enc .leaf) :=
  (opens_struct Try.underlying33 (by kernel_rfl) (opensF_cons (sz := 1) rfl (by kernel_rfl) (opens_str Try.underlying9) (opensF_cons (sz := 1) rfl (by kernel_rfl) (opens_int Try.underlying31) (opensF_cons (sz := 1) rfl (by kernel_rfl) (opens_int Try.underlying3) (opensF_cons (sz := 1) rfl (by kernel_rfl) (opens_bool Try.underlying4) opensF_nil))))).map
    (fun a => (⟨a.1, a.2.1, a.2.2.1, a.2.2.2.1⟩ : LeafD)) (fun _ => rfl)
theorem op_leaves : Opens en Try.prog w 22 (fun l : List LeafD => [.rslice false .leaf l]) := opens_slice Try.underlying22 op_leaf (by kernel_rfl) (by kernel_rfl)
end
end Go.Proofs.Ytkhiifaldbjpbaa.Ses
