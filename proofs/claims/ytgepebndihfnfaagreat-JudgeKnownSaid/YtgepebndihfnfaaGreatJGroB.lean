/- Refs and logs in plain words. No condition. -/
import Derived.Test.YtgepebndihfnfaaGreatJGrsA
set_option linter.unusedSimpArgs false
set_option linter.unusedVariables false

namespace Go.Proofs.YtgepebndihfnfaaGreat.Ses
open Go Go.Proofs Go.Proofs.YtgepebndihfnfaaGreat.Sx Go.Proofs.YtgepebndihfnfaaGreat.Trx
structure RdsA where
  l:List Deed5D
  p:Bs
  part:Int
theorem lookK_put:∀(K:List (Bs × Int)) (s:Bs) (v:Int) (n:Bs),lookK (putK K s v) n=bif s==n then some v else lookK K n
  | [],s,v,n=>by simp [putK,lookK]
  | (k,x)::r,s,v,n=>by
    have ih:=lookK_put r s v n
    unfold putK
    cases h:(k==s)
    · simp only [cond_false,lookK,ih]
      cases h1:(k==n)
      · rfl
      · have:(s==n)=false:=by
          have h1:=beq_iff_eq.1 h1
          subst h1
          rw [Bool.eq_false_iff] at h ⊢
          intro e
          exact h (by rw [beq_iff_eq] at e ⊢;exact e.symm)
        rw [this]
        simp
    · have h:=beq_iff_eq.1 h
      subst h
      simp only [cond_true,lookK]
      cases h1:(k==n)<;>rfl
theorem putK_keys:∀(K:List (Bs × Int)) (s:Bs) (v:Int) n,n∈(putK K s v).map (·.1)↔n=s∨n∈K.map (·.1)
  | [],s,v,n=>by simp [putK]
  | (k,x)::r,s,v,n=>by
    have ih:=putK_keys r s v n
    unfold putK
    cases h:(k==s)
    · simp only [cond_false,List.map_cons,List.mem_cons,ih]
      constructor
      · rintro (h | h | h)
        · exact .inr (.inl h)
        · exact .inl h
        · exact .inr (.inr h)
      · rintro (h | h | h)
        · exact .inr (.inl h)
        · exact .inl h
        · exact .inr (.inr h)
    · have h:=beq_iff_eq.1 h
      subst h
      simp
theorem putK_nodup:∀(K:List (Bs × Int)) (s:Bs) (v:Int),(K.map (·.1)).Nodup→((putK K s v).map (·.1)).Nodup
  | [],s,v,_=>by simp [putK]
  | (k,x)::r,s,v,h=>by
    simp only [List.map_cons,List.nodup_cons] at h
    unfold putK
    cases hk:(k==s)
    · simp only [cond_false,List.map_cons,List.nodup_cons]
      refine⟨fun e=>?_,putK_nodup r s v h.2⟩
      rcases (putK_keys r s v k).1 e with e | e
      · rw [e] at hk;simp at hk
      · exact h.1 e
    · have hk:=beq_iff_eq.1 hk
      subst hk
      simpa using h
theorem kv_keys (C:List CommitD):((kvC C).map (·.1)).Nodup ∧ ∀n,n∈(kvC C).map (·.1)→n≠[]:=by
  refine snocL (p:=fun C=>((kvC C).map (·.1)).Nodup ∧ ∀n,n∈(kvC C).map (·.1)→n≠[]) (by simp [kvC]) (fun C c ih=>?_) C
  rw [kvC_snoc]
  cases h:(c.ref==[])
  · simp only [cond_false]
    refine⟨putK_nodup _ _ _ ih.1,fun n hn=>?_⟩
    rcases (putK_keys _ _ _ n).1 hn with e | e
    · subst e;simpa using h
    · exact ih.2 n e
  · exact ih
theorem names_perm (C:List CommitD):(namesK (kvC C)).Perm ((kvC C).map (·.1)):=List.mergeSort_perm _ _
theorem refs_len (C:List CommitD):(refsC C).length=(namesK (kvC C)).length:=by simp [refsC]
end Go.Proofs.YtgepebndihfnfaaGreat.Ses
