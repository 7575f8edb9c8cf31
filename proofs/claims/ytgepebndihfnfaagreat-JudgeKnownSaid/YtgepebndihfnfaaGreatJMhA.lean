/- The laws MachineOnce and MachineApplies: what the evaluator leaves, and that it holds. No condition. -/
import Derived.Test.YtgepebndihfnfaaGreatJMgF
import Derived.KernelRfl
set_option linter.unusedSimpArgs false
set_option linter.unusedVariables false

namespace Go.Proofs.YtgepebndihfnfaaGreat.Ses
open Go Go.Proofs Go.Proofs.YtgepebndihfnfaaGreat.Sx
structure OncA where
  l:List RequestD
  q:RequestD
structure AppA where
  c:CfgD
  l:List RequestD
set_option maxRecDepth 100000
theorem MOk.el {a z:Int} {n:Nat} {x:MacS} (h:MOk a z n x) (hn:n≤4000):okEl x.E=true:=by
  have h1:=h.e1
  have h2:=h.eM
  unfold okEl
  rw [decide_eq_true h1,decide_eq_true (by omega),List.all_eq_true.2 fun p hp=>(h.em p hp).1];rfl
theorem MOk.lk {a z:Int} {n:Nat} {x:MacS} (h:MOk a z n x) (hn:n≤4000):okLk x=true:=by
  unfold okLk
  rw [h.ok hn,h.el hn];rfl
theorem room_okL {l:List RequestD} {m:Int} (h:roomM l m=true) (hm:m≤4000) (hi:∀r,r∈l→inI r.from_=true):okL l=true:=by
  obtain⟨h1,h2⟩:=roomM_of h
  unfold okL
  rw [decide_eq_true (by omega:l.length≤4000),List.all_eq_true.2 fun r hr=>by
    obtain⟨a,b⟩:=okR_of (h2 r hr) (hi r hr)
    rw [a,b];rfl];rfl
end Go.Proofs.YtgepebndihfnfaaGreat.Ses
