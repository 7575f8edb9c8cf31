/- The reference's clone; the law MachineClones: what the evaluator leaves, and that it holds. No condition. -/
import Derived.Test.YtgepebndihfnfaaGreatKMhG
import Derived.KernelRfl
set_option linter.unusedSimpArgs false
set_option linter.unusedVariables false

namespace Go.Proofs.YtgepebndihfnfaaGreat.Ses
open Go Go.Proofs Go.Proofs.YtgepebndihfnfaaGreat.Sx
structure GclA where
  C:List CommitD
  L:List LeafD
  R:List RefD
structure TclA where
  size:Int
  S:List SessionD
set_option maxRecDepth 100000
structure MkkA where
  l:List RequestD
  k:List RequestD
noncomputable def twoI (is ms rs ls:Nat):St→LInv:=fun s=>match macAt s ms,rmcAt s rs,getE s.env ls with
  | some ⟨x,m,g,c,k,t,sr,e,er⟩,some ⟨_,m',a',b',c',t',sr',e',er'⟩,.rslice _ .request l=>{σ:=Nat,I:=fun i=>i≤l.length,μ:=fun i=>l.length-i,env:=fun i=>[(is,.int .i64 i)],blk:=fun i=>mB (runF x (l.take i)) m g s.m.next k t (s.m.next+1) e (s.m.next+2)++rmB (runF x (l.take i)) m' (s.m.next+3) (s.m.next+4) (s.m.next+5) t' (s.m.next+6) e' (s.m.next+7),fresh:=8,drop:=[c,sr,er,a',b',c',sr',er']}
  | _,_,_=>LInv.none
set_option maxRecDepth 100000
theorem okL_app {l k:List RequestD} (h1:okL l=true) (h2:okL k=true) (h:l.length+k.length≤4000):okL (l++k)=true:=by
  obtain⟨_,a⟩:=okL_of h1
  obtain⟨_,b⟩:=okL_of h2
  unfold okL
  rw [decide_eq_true (by rw [List.length_append];exact h:(l++k).length≤4000),List.all_eq_true.2 fun r hr=>by
    rcases List.mem_append.1 hr with hr | hr
    · obtain⟨p,q⟩:=a r hr
      rw [p,q];rfl
    · obtain⟨p,q⟩:=b r hr
      rw [p,q];rfl];rfl
end Go.Proofs.YtgepebndihfnfaaGreat.Ses
