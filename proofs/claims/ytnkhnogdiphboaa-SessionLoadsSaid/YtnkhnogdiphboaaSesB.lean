/- Arguments of the laws of sessions, as data. No condition. -/
import Derived.Test.YtnkhnogdiphboaaSesA
set_option linter.unusedSimpArgs false
set_option linter.unusedVariables false

namespace Go.Proofs.Ytnkhnogdiphboaa.Ses
open Go Go.Proofs Go.Proofs.Ytnkhnogdiphboaa.Sx

section
variable {H : Type} {en : TypeId × Value → H} {w : World}

theorem op_change : Opens en Try.prog w 82 (enc .change) :=
  (opens_struct Try.underlying82 (by kernel_rfl) (opensF_cons (sz := 1) rfl (by kernel_rfl) (opens_str Try.underlying9) (opensF_cons (sz := 1) rfl (by kernel_rfl) (opens_bool Try.underlying4) (opensF_cons (sz := 1) rfl (by kernel_rfl) (opens_int Try.underlying28) opensF_nil)))).map
    (fun a => (⟨a.1, a.2.1, a.2.2.1⟩ : ChangeD)) (fun _ => rfl)
theorem op_changes : Opens en Try.prog w 52 (fun l : List ChangeD => [.rslice false .change l]) := opens_slice Try.underlying52 op_change (by kernel_rfl) (by kernel_rfl)
theorem op_commit : Opens en Try.prog w 54 (enc .commit) :=
  (opens_struct Try.underlying54 (by kernel_rfl) (opensF_cons (sz := 1) rfl (by kernel_rfl) (opens_int Try.underlying3) (opensF_cons (sz := 1) rfl (by kernel_rfl) (opens_int Try.underlying3) (opensF_cons (sz := 1) rfl (by kernel_rfl) (opens_str Try.underlying9) (opensF_cons (sz := 1) rfl (by kernel_rfl) op_changes opensF_nil))))).map
    (fun a => (⟨a.1, a.2.1, a.2.2.1, a.2.2.2.1⟩ : CommitD)) (fun _ => rfl)
theorem op_commits : Opens en Try.prog w 29 (fun l : List CommitD => [.rslice false .commit l]) := opens_slice Try.underlying29 op_commit (by kernel_rfl) (by kernel_rfl)
theorem op_verdict : Opens en Try.prog w 31 VerdictD.enc :=
  (opens_struct Try.underlying31 (by kernel_rfl) (opensF_cons (sz := 1) rfl (by kernel_rfl) (opens_int Try.underlying3) (opensF_cons (sz := 1) rfl (by kernel_rfl) (opens_int Try.underlying3) (opensF_cons (sz := 1) rfl (by kernel_rfl) (opens_int Try.underlying3) (opensF_cons (sz := 1) rfl (by kernel_rfl) (opens_str Try.underlying9)
    (opensF_cons (sz := 1) rfl (by kernel_rfl) (opens_int Try.underlying28) (opensF_cons (sz := 1) rfl (by kernel_rfl) op_commits (opensF_cons (sz := 1) rfl (by kernel_rfl) (opens_int Try.underlying3) opensF_nil)))))))).map
    (fun a => (⟨a.1, a.2.1, a.2.2.1, a.2.2.2.1, a.2.2.2.2.1, a.2.2.2.2.2.1, a.2.2.2.2.2.2.1⟩ : VerdictD)) (fun _ => rfl)
theorem op_session : Opens en Try.prog w 46 (enc .session) :=
  (opens_struct Try.underlying46 (by kernel_rfl) (opensF_cons (sz := 1) rfl (by kernel_rfl) (opens_int Try.underlying3) (opensF_cons (sz := 1) rfl (by kernel_rfl) (opens_int Try.underlying3) (opensF_cons (sz := 1) rfl (by kernel_rfl) (opens_str Try.underlying9) (opensF_cons (sz := 7) rfl (by kernel_rfl) op_verdict opensF_nil))))).map
    (fun a => (⟨a.1, a.2.1, a.2.2.1, a.2.2.2.1⟩ : SessionD)) (fun _ => rfl)
theorem op_sessions : Opens en Try.prog w 43 (fun l : List SessionD => [.rslice false .session l]) := opens_slice Try.underlying43 op_session (by kernel_rfl) (by kernel_rfl)
theorem op_deed : Opens en Try.prog w 42 (enc .deed6) :=
  (opens_struct Try.underlying42 (by kernel_rfl) (opensF_cons (sz := 1) rfl (by kernel_rfl) (opens_int Try.underlying3) (opensF_cons (sz := 1) rfl (by kernel_rfl) (opens_int Try.underlying3) (opensF_cons (sz := 1) rfl (by kernel_rfl) (opens_int Try.underlying3) (opensF_cons (sz := 1) rfl (by kernel_rfl) (opens_str Try.underlying9)
    (opensF_cons (sz := 7) rfl (by kernel_rfl) op_verdict opensF_nil)))))).map
    (fun a => (⟨a.1, a.2.1, a.2.2.1, a.2.2.2.1, a.2.2.2.2.1⟩ : Deed6D)) (fun _ => rfl)
theorem op_deeds : Opens en Try.prog w 39 (fun l : List Deed6D => [.rslice false .deed6 l]) := opens_slice Try.underlying39 op_deed (by kernel_rfl) (by kernel_rfl)
end
end Go.Proofs.Ytnkhnogdiphboaa.Ses
