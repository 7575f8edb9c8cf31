/- A graph loaded; legal chains; the reference for changes: what the evaluator leaves of each, and that it holds. No condition. -/
import Derived.Test.YtgepebndihfnfaaGreatLGraA
import Derived.KernelRfl
set_option linter.unusedSimpArgs false
set_option linter.unusedVariables false

namespace Go.Proofs.YtgepebndihfnfaaGreat.Ses
open Go Go.Proofs Go.Proofs.YtgepebndihfnfaaGreat.Sx Go.Proofs.YtgepebndihfnfaaGreat.Trx
def fewX (l : List ChangeD) : Bool := decide (l.length ≤ 100000)
def gcell (C : List CommitD) (n m : Nat) : Blk := .cells [.mslice .commit n 0 C.length, .tree (treeC C), .mmap m]
def loadA (raw : List CommitD) (i : Nat) : LandA := ⟨raw.take i, (raw.getD i ⟨0, 0, [], []⟩).base, (raw.getD i ⟨0, 0, [], []⟩).ref, (raw.getD i ⟨0, 0, [], []⟩).changes⟩
end Go.Proofs.YtgepebndihfnfaaGreat.Ses

namespace Go.Proofs.YtgepebndihfnfaaGreat.Ses
open Go Go.Proofs Go.Proofs.YtgepebndihfnfaaGreat.Sx Go.Proofs.YtgepebndihfnfaaGreat.Trx
set_option maxRecDepth 100000
end Go.Proofs.YtgepebndihfnfaaGreat.Ses

namespace Go.Proofs.YtgepebndihfnfaaGreat.Ses
open Go Go.Proofs Go.Proofs.YtgepebndihfnfaaGreat.Sx Go.Proofs.YtgepebndihfnfaaGreat.Trx
structure StepOK (raw : List CommitD) (i : Nat) : Prop where
  code : (landV (loadA raw i)).code = 2
  rev : (landV (loadA raw i)).rev = (raw.getD i noM).rev
  same : insS (raw.getD i noM).changes = (raw.getD i noM).changes
end Go.Proofs.YtgepebndihfnfaaGreat.Ses

namespace Go.Proofs.YtgepebndihfnfaaGreat.Ses
open Go Go.Proofs Go.Proofs.YtgepebndihfnfaaGreat.Sx Go.Proofs.YtgepebndihfnfaaGreat.Trx
section
variable {H : Type} {en : TypeId × Value → H} {w : World}
theorem op_change : Opens en Tryz.prog w 111 (enc .change) :=
  (opens_struct Tryz.underlying111 (by kernel_rfl) (opensF_cons (sz := 1) rfl (by kernel_rfl) (opens_str Tryz.underlying9) (opensF_cons (sz := 1) rfl (by kernel_rfl) (opens_bool Tryz.underlying4) (opensF_cons (sz := 1) rfl (by kernel_rfl) (opens_int Tryz.underlying35) opensF_nil)))).map
    (fun a => (⟨a.1, a.2.1, a.2.2.1⟩ : ChangeD)) (fun _ => rfl)
theorem op_changes : Opens en Tryz.prog w 40 (fun l : List ChangeD => [.rslice false .change l]) := opens_slice Tryz.underlying40 op_change (by kernel_rfl) (by kernel_rfl)
end
end Go.Proofs.YtgepebndihfnfaaGreat.Ses
