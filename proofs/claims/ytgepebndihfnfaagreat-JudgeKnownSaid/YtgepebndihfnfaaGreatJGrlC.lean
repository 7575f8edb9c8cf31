/- Laws of graphs, in plain words. No condition. -/
import Derived.Test.YtgepebndihfnfaaGreatJGrcA
set_option linter.unusedSimpArgs false
set_option linter.unusedVariables false

namespace Go.Proofs.YtgepebndihfnfaaGreat.Ses
open Go Go.Proofs Go.Proofs.YtgepebndihfnfaaGreat.Sx Go.Proofs.YtgepebndihfnfaaGreat.Trx
structure ConA where
  l:List Deed5D
  base:Int
  ch:List ChangeD
structure KVer where
  k:Nat
  w:VerdictD
structure PreA where
  l:List Deed5D
  n:Int
theorem eqM_self (c:CommitD):eqM c c=true:=by
  unfold eqM
  rw [sameC_self];simp
theorem sameM_self (l:List CommitD):sameM l l=true:=by
  unfold sameM
  have h1:Nat.beq l.length l.length=true:=by simp
  rw [h1,Bool.true_and,List.all_eq_true]
  intro x hx
  obtain⟨i,hi⟩:=List.mem_iff_getElem?.1 hx
  rw [List.getElem?_zipWith] at hi
  cases hl:l[i]? with
  | none=>rw [hl] at hi;cases hi
  | some y=>
    rw [hl] at hi
    have hi:eqM y y=x:=by simpa using hi
    show x=true
    rw [←hi]
    exact eqM_self y
theorem eqV_self (v:VerdictD):eqV v v=true:=by
  unfold eqV
  rw [sameM_self];simp
end Go.Proofs.YtgepebndihfnfaaGreat.Ses
