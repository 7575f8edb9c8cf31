/- A machine of any configuration in plain words; a request asked again. No condition. -/
import Derived.Test.YtgepebndihfnfaaGreatJMsC
set_option linter.unusedSimpArgs false
set_option linter.unusedVariables false

namespace Go.Proofs.YtgepebndihfnfaaGreat.Ses
open Go Go.Proofs Go.Proofs.YtgepebndihfnfaaGreat.Sx
theorem upE_len:∀ {M:List Int} {a:Int},upE a M=true → -1≤a→a≤14→(M.length:Int)≤14-a
  | [],a,_,_,h2=>by simp;omega
  | m::r,a,h,h1,h2=>by
    unfold upE at h
    simp only [Bool.and_eq_true,decide_eq_true_eq] at h
    have:=upE_len (M:=r) (a:=m) h.2.2 (by omega) (by omega)
    simp only [List.length_cons]
    omega
theorem upE_low {M:List Int} {a b:Int} (h:upE a M=true) (hb:b≤a):upE b M=true:=by
  cases M with
  | nil=>rfl
  | cons m r=>
    unfold upE at h ⊢
    simp only [Bool.and_eq_true,decide_eq_true_eq] at h ⊢
    exact⟨by omega,h.2⟩
theorem upE_del:∀ {M:List Int} {a:Int} (k:Nat),upE a M=true→upE a (M.take k++M.drop (k+1))=true
  | [],a,k,h=>by simpa using h
  | m::r,a,0,h=>by
    unfold upE at h
    simp only [Bool.and_eq_true,decide_eq_true_eq] at h
    show upE a r=true
    exact upE_low h.2.2 (by omega)
  | m::r,a,k+1,h=>by
    unfold upE at h
    simp only [Bool.and_eq_true,decide_eq_true_eq] at h
    show upE a (m::(r.take k++r.drop (k+1)))=true
    unfold upE
    simp only [Bool.and_eq_true,decide_eq_true_eq]
    exact⟨h.1,h.2.1,upE_del k h.2.2⟩
theorem cnt_zero {r:List Int} {y m:Int} (h:upE y r=true) (hm:m≤y):r.countP (· < m)=0:=by
  rw [List.countP_eq_zero]
  intro z hz
  have:=(upE_all h).1 z hz
  simp
  omega
theorem upE_ins:∀ {M:List Int} {a m:Int},upE a M=true→a<m→m<15→m ∉ M→upE a (insM M m)=true
  | [],a,m,_,h1,h2,_=>by
    show upE a [m]=true
    unfold upE upE
    simp only [Bool.and_eq_true,decide_eq_true_eq]
    exact⟨h1,h2,trivial⟩
  | y::r,a,m,h,h1,h2,h3=>by
    unfold upE at h
    simp only [Bool.and_eq_true,decide_eq_true_eq] at h
    have hne:y≠m:=fun e=>h3 (by rw [e];exact List.mem_cons_self ..)
    rcases Int.lt_or_le y m with hlt | hge
    · have e:insM (y::r) m=y::insM r m:=by
        unfold insM
        rw [List.countP_cons_of_pos (by simpa using hlt)]
        rfl
      rw [e]
      unfold upE
      simp only [Bool.and_eq_true,decide_eq_true_eq]
      exact⟨h.1,h.2.1,upE_ins h.2.2 hlt h2 fun hm=>h3 (List.mem_cons_of_mem _ hm)⟩
    · have e:insM (y::r) m=m::y::r:=by
        unfold insM
        rw [List.countP_cons_of_neg (by simp;omega),cnt_zero h.2.2 (by omega)]
        rfl
      rw [e]
      unfold upE upE
      simp only [Bool.and_eq_true,decide_eq_true_eq]
      exact⟨h1,h2,by omega,h.2.1,h.2.2⟩
theorem mayE_mk {M:List Int} (h1:1≤M.length) (h:upE (-1) M=true):mayE M=true:=by
  unfold mayE
  have:=upE_len h (by omega) (by omega)
  rw [h,decide_eq_true h1,decide_eq_true (by omega:M.length≤15)];rfl
theorem mayE_up {M:List Int} (h:mayE M=true):upE (-1) M=true:=by
  unfold mayE at h
  simp only [Bool.and_eq_true] at h
  exact h.2.2
theorem chg_may {x:ChgA} (h:∀p,p∈x.E→mayE p.members=true) (h1:1≤x.E.length) {B:Int} (hf:∀p,p∈x.E→p.from_≤B) (hs:x.slot+x.alpha≤B):∀p,p∈(chgE x).2→mayE p.members=true∧p.from_≤B:=by
  have hold:∀p,p∈x.E→mayE p.members=true∧p.from_≤B:=fun p hp=>⟨h p hp,hf p hp⟩
  have hl:lastEp x.E∈x.E:=getD_mem (by omega)
  have hlm:=mayE_up (h _ hl)
  have hlk:=mayE_of (h _ hl)
  unfold chgE
  dsimp only
  cases q1:(decide (x.slot<0)||(decide (x.slot>1099511627776-x.alpha)||(decide (x.member<0)||decide (x.member≥15))))
  · cases q2:decide ((lastEp x.E).from_>x.slot)
    · cases q3:(x.add&&(lastEp x.E).members.contains x.member)
      · cases q4:(!x.add && !((lastEp x.E).members.contains x.member))
        · cases q5:(!x.add&&decide ((lastEp x.E).members.length=1))
          · simp only [Bool.or_eq_false_iff,decide_eq_false_iff_not] at q1
            intro p hp
            simp only [cond_false] at hp
            rcases List.mem_append.1 hp with hp | hp
            · exact hold p hp
            · have:p=⟨x.slot+x.alpha,bif x.add then insM (lastEp x.E).members x.member else delM (lastEp x.E).members x.member⟩:=by simpa using hp
              subst this
              refine⟨?_,hs⟩
              cases ha:x.add
              · rw [ha] at q5
                simp only [Bool.not_false,Bool.true_and,decide_eq_false_iff_not] at q5
                show mayE (delM (lastEp x.E).members x.member)=true
                refine mayE_mk ?_ (upE_del _ hlm)
                unfold delM
                rw [List.length_append,List.length_take,List.length_drop]
                omega
              · rw [ha] at q3
                simp only [Bool.true_and] at q3
                have hni:x.member ∉ (lastEp x.E).members:=fun hm=>by
                  rw [List.contains_iff_mem.2 hm] at q3
                  cases q3
                show mayE (insM (lastEp x.E).members x.member)=true
                refine mayE_mk ?_ (upE_ins hlm (by omega) (by omega) hni)
                unfold insM
                rw [List.length_append,List.length_cons]
                omega
          · exact hold
        · exact hold
      · exact hold
    · exact hold
  · exact hold
theorem cut_mem {E:List EpochD} {s:Int} {p:EpochD} (h:p∈cutE E s):p∈E:=List.mem_of_mem_drop h
theorem cut_len {E:List EpochD} {s:Int} (h:1≤E.length):1≤(cutE E s).length∧(cutE E s).length≤E.length:=by
  have:=atN_lt E s E.length (by omega)
  unfold cutE
  rw [List.length_drop]
  omega
theorem open_len {x:OpenA} (h0:0<x.size) (h:(x.l.length:Int)≤x.size):((openL x).2.length:Int)≤x.size:=by
  have b1:=idxF_lt (nameIs x.name) x.l
  have b2:=idxF_lt (idIs x.id) x.l
  unfold openL
  dsimp only
  by_cases q:idxF (nameIs x.name) x.l<0
  · rw [decide_eq_true q]
    simp only [cond_true]
    rw [List.length_append]
    generalize hl1:(bif decide (idxF (idIs x.id) x.l<0) then x.l else outL x.l (idxF (idIs x.id) x.l))=l1
    have h1:(l1.length:Int)≤x.size:=by
      rw [←hl1]
      by_cases q2:idxF (idIs x.id) x.l<0
      · rw [decide_eq_true q2];exact h
      · rw [decide_eq_false q2]
        show ((outL x.l (idxF (idIs x.id) x.l)).length:Int)≤x.size
        rw [outL_length ⟨by omega,b2.2⟩]
        omega
    by_cases q3:(l1.length:Int)=x.size
    · rw [decide_eq_true q3]
      show ((outL l1 0).length+1:Int)≤x.size
      rw [outL_length ⟨by omega,by omega⟩]
      omega
    · rw [decide_eq_false q3]
      show ((l1.length+1:Nat):Int)≤x.size
      omega
  · rw [decide_eq_false q]
    show ((usedL x.l (idxF (nameIs x.name) x.l)).length:Int)≤x.size
    rw [usedL_length ⟨by omega,b1.2⟩]
    exact h
theorem done_len {x:DoneA}:(doneL x).2.length=x.l.length:=by
  unfold doneL
  dsimp only
  cases (decide (idxF (idIs x.id) x.l<0)||decide (x.seq≤(atL x.l (idxF (idIs x.id) x.l)).seq))
  · simp
  · rfl
def noR0:RequestD:=⟨0,[],0,0,0,[],[],[],0,0,0⟩
structure MOk (a z:Int) (n:Nat) (x:MacS):Prop where
  a1:1≤a∧a≤8
  z1:1≤z∧z≤16
  al:x.alpha=a
  sz:x.size=z
  ap:x.applied=n
  c:∃d:List Deed5D,d.length≤n∧x.C=goC d
  s:(x.S.length:Int)≤z
  e1:1≤x.E.length
  eM:x.E.length≤n+1
  em:∀p,p∈x.E→mayE p.members=true∧p.from_≤(n:Int)+a-1
def freshM (a z:Int) (M:List Int):MacS:=⟨a,z,0,[],[],[⟨0,M⟩]⟩
def okCf (a z:Int) (M:List Int):Bool:=mayE M&&(decide (1≤a)&&(decide (a≤8)&&(decide (1≤z)&&decide (z≤16))))
theorem okCf_of {a z:Int} {M:List Int} (h:okCf a z M=true):mayE M=true∧(1≤a∧a≤8)∧1≤z∧z≤16:=by
  unfold okCf at h
  simp only [Bool.and_eq_true,decide_eq_true_eq] at h
  exact⟨h.1,⟨h.2.1,h.2.2.1⟩,h.2.2.2⟩
theorem mok_new {a z:Int} {M:List Int} (h:okCf a z M=true):MOk a z 0 (freshM a z M):=by
  obtain⟨hM,ha,hz⟩:=okCf_of h
  refine⟨ha,hz,rfl,rfl,rfl,⟨[],Nat.le_refl _,rfl⟩,?_,?_,?_,fun p hp=>?_⟩
  · show (([]:List SessionD).length:Int)≤z
    simp;omega
  · exact Nat.le_refl 1
  · exact Nat.le_refl 1
  · have:p=⟨0,M⟩:=by simpa [freshM] using hp
    subst this
    exact⟨hM,by show (0:Int)≤_;omega⟩
structure DoOk (a z:Int) (n:Nat) (y:MacS):Prop where
  c:∃d:List Deed5D,d.length≤n+1∧y.C=goC d
  s:(y.S.length:Int)≤z
  e1:1≤y.E.length
  eM:y.E.length≤n+2
  em:∀p,p∈y.E→mayE p.members=true∧p.from_≤(n:Int)+a
theorem MOk.toDo {a z:Int} {n:Nat} {x:MacS} (h:MOk a z n x):DoOk a z n x:=by
  obtain⟨d,h1,h2⟩:=h.c
  exact⟨⟨d,by omega,h2⟩,h.s,h.e1,by have:=h.eM;omega,fun p hp=>⟨(h.em p hp).1,by have:=(h.em p hp).2;omega⟩⟩
theorem how_do {a z:Int} {n:Nat} {x:MacS} (h:MOk a z n x) (S:List SessionD) (hS:(S.length:Int)≤z) (r:RequestD):DoOk a z n (howM (withS x S) r).2:=by
  obtain⟨d,d1,d2⟩:=h.c
  have h0:DoOk a z n (withS x S):=⟨h.toDo.c,hS,h.toDo.e1,h.toDo.eM,h.toDo.em⟩
  have hchg:∀add code,DoOk a z n (chgM (withS x S) r add code).2:=fun add code=>by
    have hl:=chg_len ⟨x.alpha,x.E,x.applied,r.member,add⟩
    have hm:=chg_may (x:=⟨x.alpha,x.E,x.applied,r.member,add⟩) (B:=(n:Int)+a) (fun p hp=>(h.em p hp).1) h.e1 (fun p hp=>by have:=(h.em p hp).2;omega) (by
      show x.applied+x.alpha≤(n:Int)+a
      rw [h.ap,h.al];omega)
    exact⟨h.toDo.c,hS,Nat.le_trans h.e1 hl.1,Nat.le_trans hl.2 (by have:=h.eM;show x.E.length+1≤n+2;omega),hm⟩
  unfold howM
  cases r.kind==2
  · cases r.kind==3
    · cases r.kind==4
      · cases r.kind==5
        · cases r.kind==6
          · cases r.kind==7
            · exact h0
            · exact hchg _ _
          · exact hchg _ _
        · exact h0
      · exact h0
    · exact h0
  · refine⟨⟨d++[⟨r.base,r.ref,r.changes⟩],by simp;omega,?_⟩,hS,h.toDo.e1,h.toDo.eM,h.toDo.em⟩
    show landC ⟨x.C,r.base,r.ref,r.changes⟩=_
    rw [d2]
    simp [goC,oneC]
theorem do_do {a z:Int} {n:Nat} {x:MacS} (h:MOk a z n x) (r:RequestD):DoOk a z n (doM x r).2:=by
  have hask:((askM x r).2.length:Int)≤z:=by
    unfold askM
    rw [ask_len]
    exact h.s
  have h0:=h.toDo
  unfold doM
  cases r.kind==0
  · cases r.kind==1
    · cases (askM x r).1.2
      · have hh:=how_do h _ hask r
        refine⟨hh.c,?_,hh.e1,hh.eM,hh.em⟩
        show ((doneL _).2.length:Int)≤z
        rw [done_len]
        exact hask
      · exact⟨h0.c,hask,h0.e1,h0.eM,h0.em⟩
    · cases wordOk r.name false
      · exact h0
      · refine⟨h0.c,?_,h0.e1,h0.eM,h0.em⟩
        have hs:=h.s
        have hz:=h.sz
        have hz1:=h.z1
        have:=open_len (x:=⟨x.size,x.S,r.name,x.applied+1⟩) (by show 0<x.size;omega) (by show (x.S.length:Int)≤x.size;omega)
        have this:((openL ⟨x.size,x.S,r.name,x.applied+1⟩).2.length:Int)≤x.size:=this
        show ((openL ⟨x.size,x.S,r.name,x.applied+1⟩).2.length:Int)≤z
        omega
  · exact h0
theorem apply_eq {a z:Int} {n:Nat} {x:MacS} (h:MOk a z n x) (hn:n<1099511627776) (r:RequestD):applyM x r=((doM x r).1,⟨x.alpha,x.size,x.applied+1,(doM x r).2.C,(doM x r).2.S,cutE (doM x r).2.E (x.applied+1)⟩):=by
  unfold applyM
  rw [decide_eq_false (by rw [h.ap];omega)]
  rfl
theorem MOk.step {a z:Int} {n:Nat} {x:MacS} (h:MOk a z n x) (hn:n<1099511627776) (r:RequestD):MOk a z (n+1) (applyM x r).2:=by
  have hd:=do_do h r
  rw [apply_eq h hn r]
  have hc:=cut_len (s:=x.applied+1) hd.e1
  refine⟨h.a1,h.z1,h.al,h.sz,by show x.applied+1=_;rw [h.ap];omega,hd.c,hd.s,hc.1,Nat.le_trans hc.2 hd.eM,fun p hp=>?_⟩
  have:=hd.em p (cut_mem hp)
  exact⟨this.1,by have:=this.2;omega⟩
theorem MOk.ok {a z:Int} {n:Nat} {x:MacS} (h:MOk a z n x) (hn:n≤4000):okMS x=true:=by
  obtain⟨d,d1,d2⟩:=h.c
  have hg:=goC_ok d (by omega)
  have ha:=h.a1
  have hz:=h.z1
  unfold okMS okEp fewG
  simp only [Bool.and_eq_true,decide_eq_true_eq,List.all_eq_true]
  rw [d2,h.sz,h.al,h.ap]
  have:=hg.len
  have:=h.s
  have:=h.eM
  exact⟨⟨by omega,hg.ch⟩,by omega,by omega,⟨by omega,by omega,h.e1,by omega,fun p hp=>(h.em p hp).1⟩,by omega,by omega⟩
theorem MOk.few {a z:Int} {n:Nat} {x:MacS} (h:MOk a z n x) (hn:n≤4000):fewG x.C=true:=(okMS_of (h.ok hn)).1
def ids (S:List SessionD):List Int:=S.map (·.id)
theorem out_sub (l:List SessionD) (i:Int):(outL l i).Sublist l:=by
  unfold outL
  have h1:(l.drop (i.toNat+1)).Sublist (l.drop i.toNat):=by
    rw [←List.drop_drop]
    exact List.drop_sublist _ _
  have h2:=(List.Sublist.refl (l.take i.toNat)).append h1
  rwa [List.take_append_drop] at h2
theorem used_perm {l:List SessionD} {i:Int} (h:0≤i∧i<l.length):(usedL l i).Perm l:=by
  have hi:i.toNat<l.length:=by omega
  have e:atL l i=l[i.toNat]:=by unfold atL;simp [List.getD,hi]
  have e2:l=l.take i.toNat++l[i.toNat]::l.drop (i.toNat+1):=by
    rw [←List.drop_eq_getElem_cons hi,List.take_append_drop]
  unfold usedL outL
  rw [e]
  have h1:(l.take i.toNat++l.drop (i.toNat+1)++[l[i.toNat]]).Perm (l.take i.toNat++(l[i.toNat]::l.drop (i.toNat+1))):=by
    rw [List.append_assoc]
    exact (List.perm_append_comm (l₁:=l.drop (i.toNat+1)) (l₂:=[l[i.toNat]])).append_left _
  exact h1.trans (by rw [←e2])
theorem ids_out {l:List SessionD} (i:Int) (h:(ids l).Nodup):(ids (outL l i)).Nodup:=h.sublist ((out_sub l i).map _)
theorem ids_used {l:List SessionD} {i:Int} (hi:0≤i∧i<l.length) (h:(ids l).Nodup):(ids (usedL l i)).Nodup:=((used_perm hi).map _).nodup_iff.2 h
theorem ids_new {l:List SessionD} {s:SessionD} (h:(ids l).Nodup) (hn:s.id ∉ ids l):(ids (l++[s])).Nodup:=by
  unfold ids at h hn ⊢
  rw [List.map_append,List.nodup_append]
  refine⟨h,by simp,fun a ha b hb e=>?_⟩
  have:b=s.id:=by simpa using hb
  subst this
  exact hn (e ▸ ha)
theorem ids_none {l:List SessionD} {n:Int} (h:idxF (idIs n) l<0):n ∉ ids l:=by
  intro hm
  obtain⟨s,hs,e⟩:=List.mem_map.1 hm
  induction l with
  | nil=>cases hs
  | cons x r ih=>
    unfold idxF at h
    cases hx:idIs n x
    · rw [hx] at h
      simp only [cond_false] at h
      by_cases q:idxF (idIs n) r<0
      · rcases List.mem_cons.1 hs with rfl | hs
        · unfold idIs at hx
          simp at hx
          exact hx e
        · exact ih q (List.mem_map.2 ⟨s,hs,e⟩) hs
      · rw [decide_eq_false q] at h
        simp only [cond_false] at h
        omega
    · rw [hx] at h
      simp at h
theorem ids_at {l:List SessionD} {n:Int} (h:¬idxF (idIs n) l<0):(atL l (idxF (idIs n) l)).id=n:=by
  induction l with
  | nil=>exact absurd (show (-1:Int)<0 by decide) h
  | cons x r ih=>
    unfold idxF at h ⊢
    cases hx:idIs n x
    · rw [hx] at h
      simp only [cond_false] at h ⊢
      by_cases q:idxF (idIs n) r<0
      · rw [decide_eq_true q] at h
        exact absurd (show (-1:Int)<0 by decide) h
      · rw [decide_eq_false q]
        simp only [cond_false]
        have e:(idxF (idIs n) r+1).toNat=(idxF (idIs n) r).toNat+1:=by omega
        have:=ih q
        unfold atL at this ⊢
        rw [e]
        simpa [List.getD] using this
    · simp only [cond_true]
      unfold idIs at hx
      show x.id=n
      simpa using hx
theorem ids_gone {l:List SessionD} {n:Int} (h:(ids l).Nodup) (hn:¬idxF (idIs n) l<0):n ∉ ids (outL l (idxF (idIs n) l)):=by
  have b:=idxF_lt (idIs n) l
  have hp:(ids (usedL l (idxF (idIs n) l))).Nodup:=ids_used ⟨by omega,b.2⟩ h
  unfold ids usedL at hp
  rw [List.map_append,List.nodup_append] at hp
  intro hm
  exact hp.2.2 n hm n (by simp [ids_at hn]) rfl
theorem ids_open {x:OpenA} (h:(ids x.l).Nodup):(ids (openL x).2).Nodup:=by
  have b1:=idxF_lt (nameIs x.name) x.l
  have b2:=idxF_lt (idIs x.id) x.l
  unfold openL
  dsimp only
  by_cases q:idxF (nameIs x.name) x.l<0
  · rw [decide_eq_true q]
    simp only [cond_true]
    generalize hl1:(bif decide (idxF (idIs x.id) x.l<0) then x.l else outL x.l (idxF (idIs x.id) x.l))=l1
    have h1:(ids l1).Nodup∧x.id ∉ ids l1:=by
      rw [←hl1]
      by_cases q2:idxF (idIs x.id) x.l<0
      · rw [decide_eq_true q2]
        exact⟨h,ids_none q2⟩
      · rw [decide_eq_false q2]
        exact⟨ids_out _ h,ids_gone h q2⟩
    cases decide ((l1.length:Int)=x.size)
    · exact ids_new h1.1 h1.2
    · exact ids_new (ids_out _ h1.1) fun hm=>h1.2 (((out_sub l1 0).map _).subset hm)
  · rw [decide_eq_false q]
    exact ids_used ⟨by omega,b1.2⟩ h
theorem ids_ask {x:AskA} (h:(ids x.l).Nodup):(ids (askL x).2).Nodup:=by
  have b1:=idxF_lt (idIs x.id) x.l
  unfold askL
  dsimp only
  by_cases q:idxF (idIs x.id) x.l<0
  · rw [decide_eq_true q];exact h
  · rw [decide_eq_false q]
    exact ids_used ⟨by omega,b1.2⟩ h
theorem ids_done {x:DoneA} (h:(ids x.l).Nodup):(ids (doneL x).2).Nodup:=by
  have b1:=idxF_lt (idIs x.id) x.l
  unfold doneL
  dsimp only
  by_cases q:idxF (idIs x.id) x.l<0
  · rw [decide_eq_true q];exact h
  · rw [decide_eq_false q]
    cases decide (x.seq≤(atL x.l (idxF (idIs x.id) x.l)).seq)
    · have hi:(idxF (idIs x.id) x.l).toNat<x.l.length:=by omega
      have e:ids (x.l.set (idxF (idIs x.id) x.l).toNat ⟨(atL x.l (idxF (idIs x.id) x.l)).id,x.seq,(atL x.l (idxF (idIs x.id) x.l)).name,x.v⟩)=ids x.l:=by
        unfold ids
        rw [List.map_set]
        refine set_self (d:=0) (by simpa using hi) ?_
        unfold atL
        simp [List.getD,hi]
      show (ids (x.l.set _ _)).Nodup
      rw [e]
      exact h
    · exact h
theorem ids_do {x:MacS} (h:(ids x.S).Nodup) (r:RequestD):(ids (doM x r).2.S).Nodup:=by
  have ha:(ids (askM x r).2).Nodup:=ids_ask (x:=⟨x.size,x.S,r.session,r.seq⟩) h
  unfold doM
  cases r.kind==0
  · cases r.kind==1
    · cases (askM x r).1.2
      · exact ids_done (x:=⟨x.size,(askM x r).2,r.session,r.seq,_⟩) ha
      · exact ha
    · cases wordOk r.name false
      · exact h
      · exact ids_open (x:=⟨x.size,x.S,r.name,x.applied+1⟩) h
  · exact h
def stepM (x:MacS) (r:RequestD):MacS:=(applyM x r).2
def runF (x:MacS) (l:List RequestD):MacS:=l.foldl stepM x
def verdF:MacS→List RequestD→List VerdictD
  | _,[]=>[]
  | x,r::l=>(applyM x r).1::verdF (stepM x r) l
theorem run_snoc (x:MacS) (l:List RequestD) (r:RequestD):runF x (l++[r])=stepM (runF x l) r:=by
  unfold runF
  rw [List.foldl_append]
  rfl
theorem run_at {x:MacS} {l:List RequestD} {i:Nat} (h:i<l.length):runF x (l.take (i+1))=(applyM (runF x (l.take i)) (l.getD i noR0)).2:=by
  rw [take_succ_getD noR0 h,run_snoc]
  rfl
theorem verd_snoc (x:MacS) (l:List RequestD) (r:RequestD):verdF x (l++[r])=verdF x l++[(applyM (runF x l) r).1]:=by
  induction l generalizing x with
  | nil=>rfl
  | cons q l ih=>
    show (applyM x q).1::verdF (stepM x q) (l++[r])=_
    rw [ih]
    rfl
theorem verd_len (x:MacS) (l:List RequestD):(verdF x l).length=l.length:=by
  induction l generalizing x with
  | nil=>rfl
  | cons q l ih=>show (verdF (stepM x q) l).length+1=l.length+1;rw [ih]
theorem verd_take {x:MacS} {l:List RequestD} {i:Nat} (h:i<l.length):verdF x (l.take (i+1))=verdF x (l.take i)++[(applyM (runF x (l.take i)) (l.getD i noR0)).1]:=by
  rw [take_succ_getD noR0 h,verd_snoc]
theorem okQ_of {r:RequestD} (h:okQ r=true) (hi:inI r.from_=true):okRq r=true:=by
  unfold okQ at h
  simp only [Bool.and_eq_true,decide_eq_true_eq,List.all_eq_true] at h
  unfold okRq
  have e1:shortC r.changes=true:=List.all_eq_true.2 fun c hc=>decide_eq_true (by have:=h.2.2.2.2 c hc;omega)
  have e2:shortB r.path=true:=decide_eq_true (by omega)
  rw [hi,e1,e2]
  rfl
theorem roomM_of {l:List RequestD} {m:Int} (h:roomM l m=true):(l.length:Int)≤m ∧ ∀r,r∈l→okQ r=true:=by
  unfold roomM at h
  simp only [Bool.and_eq_true,decide_eq_true_eq,List.all_eq_true] at h
  exact h
structure MDs (a z:Int) (n:Nat) (x:MacS):Prop where
  ok:MOk a z n x
  ds:(ids x.S).Nodup
theorem MDs.step {a z:Int} {n:Nat} {x:MacS} (h:MDs a z n x) (hn:n<1099511627776) (r:RequestD):MDs a z (n+1) (applyM x r).2:=by
  refine⟨h.ok.step hn r,?_⟩
  rw [apply_eq h.ok hn r]
  exact ids_do h.ds r
theorem runD_ok {a z:Int}:∀(l:List RequestD) {n:Nat} {x:MacS},MDs a z n x→n+l.length≤4000→MDs a z (n+l.length) (runF x l)
  | [],n,x,h,_=>h
  | r::l,n,x,h,hn=>by
    have h1:=h.step (by simp at hn;omega) r
    have:=runD_ok l (n:=n+1) (x:=stepM x r) h1 (by simp at hn ⊢;omega)
    rw [show n+(r::l).length=n+1+l.length by simp;omega]
    exact this
theorem runZD_ok {a z:Int} {M:List Int} (hc:okCf a z M=true) (l:List RequestD) (hn:l.length≤4000):MDs a z l.length (runF (freshM a z M) l):=by
  have:=runD_ok l (n:=0) (x:=freshM a z M) ⟨mok_new hc,List.nodup_nil⟩ (by omega)
  rwa [Nat.zero_add] at this
end Go.Proofs.YtgepebndihfnfaaGreat.Ses
