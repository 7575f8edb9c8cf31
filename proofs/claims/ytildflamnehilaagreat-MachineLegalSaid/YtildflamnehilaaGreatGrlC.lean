/- Laws of graphs, in plain words. No condition. -/
import Derived.Test.YtildflamnehilaaGreatGrcA
set_option linter.unusedSimpArgs false
set_option linter.unusedVariables false

namespace Go.Proofs.YtildflamnehilaaGreat.Ses
open Go Go.Proofs Go.Proofs.YtildflamnehilaaGreat.Sx Go.Proofs.YtildflamnehilaaGreat.Trx

/-! ### conflicts -/

structure ConA where
  l : List Deed5D
  base : Int
  ch : List ChangeD
structure KVer where
  k : Nat
  w : VerdictD
/-! ### legal -/

/-! ### beginnings -/

structure PreA where
  l : List Deed5D
  n : Int
end Go.Proofs.YtildflamnehilaaGreat.Ses

namespace Go.Proofs.YtildflamnehilaaGreat.Ses
open Go Go.Proofs Go.Proofs.YtildflamnehilaaGreat.Sx Go.Proofs.YtildflamnehilaaGreat.Trx

/-! ### deeds that may be -/

end Go.Proofs.YtildflamnehilaaGreat.Ses

namespace Go.Proofs.YtildflamnehilaaGreat.Ses
open Go Go.Proofs Go.Proofs.YtildflamnehilaaGreat.Sx Go.Proofs.YtildflamnehilaaGreat.Trx

end Go.Proofs.YtildflamnehilaaGreat.Ses
