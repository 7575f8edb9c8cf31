/- A machine's clone; the law MachineMembers: what the evaluator leaves, and that it holds. No condition. -/
import Derived.Test.YtgepebndihfnfaaGreatKMhA
import Derived.Shelf.SlMaps.Clone
import Derived.KernelRfl
set_option linter.unusedSimpArgs false
set_option linter.unusedVariables false

namespace Go.Proofs.YtgepebndihfnfaaGreat.Sx
open Go Go.MapKept
end Go.Proofs.YtgepebndihfnfaaGreat.Sx
namespace Go.Proofs.YtgepebndihfnfaaGreat.Ses
open Go Go.Proofs Go.Proofs.YtgepebndihfnfaaGreat.Sx
open Go.Shelf
set_option maxRecDepth 100000
structure MmbA where
  l:List RequestD
  k:List RequestD
set_option maxRecDepth 100000
end Go.Proofs.YtgepebndihfnfaaGreat.Ses
