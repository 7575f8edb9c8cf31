/- Who only looks; the machine of the reference. No condition. -/
import Derived.Test.YtgepebndihfnfaaGreatLMgC
import Derived.KernelRfl
set_option linter.unusedSimpArgs false
set_option linter.unusedVariables false

namespace Go.Proofs.YtgepebndihfnfaaGreat.Ses
open Go Go.Proofs Go.Proofs.YtgepebndihfnfaaGreat.Sx
end Go.Proofs.YtgepebndihfnfaaGreat.Ses

namespace Go.Proofs.YtgepebndihfnfaaGreat.Ses
open Go Go.Proofs Go.Proofs.YtgepebndihfnfaaGreat.Sx
set_option maxRecDepth 100000
end Go.Proofs.YtgepebndihfnfaaGreat.Ses

namespace Go.Proofs.YtgepebndihfnfaaGreat.Ses
open Go Go.Proofs Go.Proofs.YtgepebndihfnfaaGreat.Sx
end Go.Proofs.YtgepebndihfnfaaGreat.Ses

namespace Go.Proofs.YtgepebndihfnfaaGreat.Ses
open Go Go.Proofs Go.Proofs.YtgepebndihfnfaaGreat.Sx
structure MvmA where
  x : MacS
  L : List LeafD
  R : List RefD
  n : Bs
  v : Int
structure LndM where
  x : MacS
  base : Int
  ref : Bs
  l : List ChangeD
def LndM.a (y : LndM) : LandA := ⟨y.x.C, y.base, y.ref, y.l⟩
def okRm (x : MacS) (r : RequestD) : Bool := okMS x && (okRq r && (shortM x.C && (fewX r.changes && decide ((x.S.length : Int) ≤ x.size))))
end Go.Proofs.YtgepebndihfnfaaGreat.Ses

namespace Go.Proofs.YtgepebndihfnfaaGreat.Ses
open Go Go.Proofs Go.Proofs.YtgepebndihfnfaaGreat.Sx
set_option maxRecDepth 100000
end Go.Proofs.YtgepebndihfnfaaGreat.Ses

namespace Go.Proofs.YtgepebndihfnfaaGreat.Ses
open Go Go.Proofs Go.Proofs.YtgepebndihfnfaaGreat.Sx
theorem okRm_mk {x : MacS} {r : RequestD} (h1 : okMS x = true) (h2 : okRq r = true) (h3 : shortM x.C = true) (h4 : fewX r.changes = true) (h5 : (x.S.length : Int) ≤ x.size) : okRm x r = true := by
  unfold okRm
  rw [h1, h2, h3, h4, decide_eq_true h5]; rfl
end Go.Proofs.YtgepebndihfnfaaGreat.Ses
