/- The epochs of the reference. No condition. -/
import Derived.Test.YtgepebndihfnfaaGreatJMgB
import Derived.KernelRfl
set_option linter.unusedSimpArgs false
set_option linter.unusedVariables false

namespace Go.Proofs.YtgepebndihfnfaaGreat.Ses
open Go Go.Proofs Go.Proofs.YtgepebndihfnfaaGreat.Sx
structure HasA where
  l:List Int
  n:Int
noncomputable def hasT:Tri:={γ:=HasA,n0:=0,args:=fun x=>[.rslice false .int x.l,.int .i64 x.n],blks:=fun _=>[],pre:=fun _=>True,δ:=Unit,post:=fun _ _=>True,n1:=0,res:=fun x _=>.bool (x.l.contains x.n),blks':=fun _ _=>[],scal:=true}
noncomputable def hasI:St→LInv:=fun s=>match getE s.env 0,getE s.env 1 with
  | .rslice _ .int l,.int _ n=>{σ:=Nat,I:=fun i=>i≤l.length∧(l.take i).contains n=false,μ:=fun i=>l.length-i,env:=fun i=>[(5,.int .i64 i)],blk:=fun _=>[],fresh:=0,drop:=[]}
  | _,_=>LInv.none
noncomputable def hasE:Envr:=Env Tryz.prog cod [] [(2,hasI)]
noncomputable def rmayT:Tri:={γ:=List Int,n0:=0,args:=fun M=>[.rslice false .int M],blks:=fun _=>[],pre:=fun _=>True,δ:=Unit,post:=fun _ _=>True,n1:=0,res:=fun M _=>.bool (mayE M),blks':=fun _ _=>[],scal:=true}
noncomputable def rmayI:St→LInv:=fun s=>match getE s.env 0 with
  | .rslice _ .int M=>{σ:=Nat,I:=fun i=>i≤M.length ∧ -1≤lastE M i∧upE (lastE M i) (M.drop i)=upE (-1) M,μ:=fun i=>M.length-i,env:=fun i=>[(3,.int .i64 i)],blk:=fun _=>[],fresh:=0,drop:=[]}
  | _=>LInv.none
noncomputable def rmayE:Envr:=Env Tryz.prog cod [] [(4,rmayI)]
noncomputable def cepI:St→LInv:=fun s=>match getE s.env 0 with
  | .mslice _ n lo len=>match s.m.blks.get n with
    | some (.rows .epoch E)=>{σ:=Nat,I:=fun i=>i≤len,μ:=fun i=>len-i,env:=fun i=>[(4,.int .i64 i),(3,.mslice .epoch s.m.next 0 i)],blk:=fun i=>[(s.m.next,.rows .epoch ((E.drop lo).take i))],fresh:=1,drop:=[]}
    | _=>LInv.none
  | .rslice _ .epoch E=>{σ:=Nat,I:=fun i=>i≤E.length,μ:=fun i=>E.length-i,env:=fun i=>[(4,.int .i64 i),(3,.mslice .epoch s.m.next 0 i)],blk:=fun i=>[(s.m.next,.rows .epoch (E.take i))],fresh:=1,drop:=[]}
  | _=>LInv.none
noncomputable def cepE:Envr:=Env Tryz.prog cod [] [(3,cepI)]
noncomputable def cepT:Tri:={γ:=EoA,n0:=1,args:=fun x=>[.mslice .epoch 0 x.lo (x.E.length-x.lo)],blks:=fun x=>[(0,.rows .epoch x.E)],pre:=fun x=>decide (x.lo≤x.E.length)=true,δ:=Unit,post:=fun _ _=>True,n1:=1,res:=fun x _=>.mslice .epoch 1 0 (x.E.drop x.lo).length,blks':=fun x _=>[(0,.rows .epoch x.E),(1,.rows .epoch (x.E.drop x.lo))],scal:=false}
noncomputable def ratI:St→LInv:=fun s=>match getE s.env 1,getE s.env 0 with
  | .int _ slot,.mptr q _=>match s.m.blks.get q with
    | some (.cells [_,.mslice _ n _ _])=>match s.m.blks.get n with
      | some (.rows .epoch E)=>{σ:=Nat,I:=fun i=>i≤E.length,μ:=fun i=>E.length-i,env:=fun i=>[(6,.int .i64 i),(5,.int .i64 (atN E slot i))],blk:=fun _=>[],fresh:=0,drop:=[]}
      | _=>LInv.none
    | _=>LInv.none
  | _,_=>LInv.none
noncomputable def rcutE:Envr:=Env Tryz.prog cod [(117,cepT.spec)] [(3,ratI)]
noncomputable def rcutT:Tri:={γ:=EpA,n0:=2,args:=fun x=>[.mptr 0 0,.int .i64 x.slot],blks:=fun x=>epB x.alpha x.E 0 1,pre:=fun x=>decide (1≤x.E.length)=true,δ:=Unit,post:=fun _ _=>True,n1:=1,res:=fun _ _=>.tuple [],blks':=fun x _=>epB x.alpha (cutE x.E x.slot) 0 2,scal:=false}
def memI (M:List Int) (m:Int) (add:Bool) (i:Nat):List Int:=((List.range i).map fun (n:Nat)=>(n:Int)).filter fun n=>((n==m)&&add)||(!(n==m)&&M.contains n)
noncomputable def rchgI:St→LInv:=fun s=>match getE s.env 2,getE s.env 3,getE s.env 9 with
  | .int _ m,.bool add,.mptr q _=>match s.m.blks.get q with
    | some (.cells [_,.rslice _ .int M])=>{σ:=Nat,I:=fun i=>i≤15,μ:=fun i=>15-i,env:=fun i=>[(11,.int .i64 i),(10,.mslice .int s.m.next 0 (memI M m add i).length)],blk:=fun i=>[(s.m.next,.rows .int (memI M m add i))],fresh:=1,drop:=[]}
    | _=>LInv.none
  | _,_,_=>LInv.none
noncomputable def rchgE:Envr:=Env Tryz.prog cod [(55,hasT.spec)] [(14,rchgI)]
theorem upE_lt:∀ {M:List Int} {a:Int},upE a M=true→M.Pairwise (· < ·) ∧ ∀x,x∈M→a<x∧x<15
  | [],a,_=>⟨List.Pairwise.nil,fun x hx=>by cases hx⟩
  | m::r,a,h=>by
    unfold upE at h
    simp only [Bool.and_eq_true,decide_eq_true_eq] at h
    obtain⟨p1,p2⟩:=upE_lt h.2.2
    refine⟨List.pairwise_cons.2 ⟨fun x hx=>(p2 x hx).1,p1⟩,fun x hx=>?_⟩
    rcases List.mem_cons.1 hx with rfl | hx
    · exact⟨h.1,h.2.1⟩
    · have:=p2 x hx
      exact⟨by omega,this.2⟩
theorem nums_ups (k:Nat):((List.range k).map fun (n:Nat)=>(n:Int)).Pairwise (· < ·):=by
  rw [List.pairwise_map]
  exact List.pairwise_lt_range.imp fun h=>by omega
theorem mem_nums {k:Nat} {n:Int}:n∈((List.range k).map fun (n:Nat)=>(n:Int))↔0≤n∧n<k:=by
  rw [List.mem_map]
  constructor
  · rintro ⟨j,hj,rfl⟩
    have:=List.mem_range.1 hj
    omega
  · rintro ⟨h1,h2⟩
    exact⟨n.toNat,List.mem_range.2 (by omega),by omega⟩
theorem memI_ups (M:List Int) (m:Int) (add:Bool) (k:Nat):(memI M m add k).Pairwise (· < ·):=(nums_ups k).filter _
theorem mem_memI {M:List Int} {m:Int} {add:Bool} {k:Nat} {n:Int}:n∈memI M m add k↔(0≤n∧n<k)∧((n=m∧add=true)∨(n≠m∧n∈M)):=by
  unfold memI
  rw [List.mem_filter,mem_nums]
  simp
theorem mem_insM {M:List Int} {m n:Int}:n∈insM M m↔n=m∨n∈M:=by
  unfold insM
  have:n∈M↔n∈M.take (M.countP (· < m))∨n∈M.drop (M.countP (· < m)):=by
    rw [←List.mem_append,List.take_append_drop]
  rw [this]
  simp only [List.mem_append,List.mem_cons]
  constructor
  · rintro (h | h | h)<;>simp [h]
  · rintro (h | h | h)<;>simp [h]
theorem mem_delM:∀ {M:List Int} {a m n:Int},upE a M=true→m∈M→(n∈delM M m↔n∈M∧n≠m)
  | [],a,m,n,_,h=>by cases h
  | y::r,a,m,n,hu,h=>by
    unfold upE at hu
    simp only [Bool.and_eq_true,decide_eq_true_eq] at hu
    obtain⟨p1,p2⟩:=upE_lt hu.2.2
    rcases Int.lt_or_le y m with hlt | hge
    · have hm:m∈r:=by
        rcases List.mem_cons.1 h with e | e
        · omega
        · exact e
      have e:delM (y::r) m=y::delM r m:=by
        unfold delM
        rw [List.countP_cons_of_pos (by simpa using hlt)]
        rfl
      rw [e,List.mem_cons,mem_delM hu.2.2 hm,List.mem_cons]
      constructor
      · rintro (rfl | ⟨h1,h2⟩)
        · exact⟨.inl rfl,by omega⟩
        · exact⟨.inr h1,h2⟩
      · rintro ⟨rfl | h1,h2⟩
        · exact .inl rfl
        · exact .inr ⟨h1,h2⟩
    · have hym:y=m:=by
        rcases List.mem_cons.1 h with e | e
        · exact e.symm
        · have:=(p2 m e).1;omega
      subst hym
      have e:delM (y::r) y=r:=by
        unfold delM
        rw [List.countP_cons_of_neg (by simp),cnt_zero hu.2.2 (by omega)]
        rfl
      rw [e,List.mem_cons]
      constructor
      · intro hn
        exact⟨.inr hn,by have:=(p2 n hn).1;omega⟩
      · rintro ⟨rfl | h1,h2⟩
        · exact absurd rfl h2
        · exact h1
theorem memI_add {M:List Int} {m:Int} (h:mayE M=true) (h1:0≤m) (h2:m<15) (h3:m ∉ M):memI M m true 15=insM M m:=by
  have hu:=mayE_up h
  refine ups_eq (memI_ups _ _ _ _) (upE_lt (upE_ins hu (by omega) h2 h3)).1 fun n=>?_
  rw [mem_memI,mem_insM]
  constructor
  · rintro ⟨_,⟨e,_⟩ | ⟨_,e⟩⟩
    · exact .inl e
    · exact .inr e
  · rintro (e | e)
    · subst e;exact⟨⟨h1,by omega⟩,.inl ⟨rfl,rfl⟩⟩
    · have:=(upE_lt hu).2 n e
      exact⟨⟨by omega,by omega⟩,.inr ⟨fun q=>h3 (q ▸ e),e⟩⟩
theorem memI_del {M:List Int} {m:Int} (h:mayE M=true) (h3:m∈M):memI M m false 15=delM M m:=by
  have hu:=mayE_up h
  refine ups_eq (memI_ups _ _ _ _) (upE_lt (upE_del _ hu)).1 fun n=>?_
  show _↔n∈delM M m
  rw [mem_memI,mem_delM hu h3]
  constructor
  · rintro ⟨_,⟨_,e⟩ | ⟨e1,e⟩⟩
    · cases e
    · exact⟨e,e1⟩
  · rintro ⟨e1,e2⟩
    have:=(upE_lt hu).2 n e1
    exact⟨⟨by omega,by omega⟩,.inr ⟨e2,e1⟩⟩
theorem memI_suc {M:List Int} {m:Int} {add:Bool} {k:Nat}:memI M m add (k+1)=memI M m add k++(bif (((k:Int)==m)&&add)||(!((k:Int)==m)&&M.contains k) then [(k:Int)] else []):=by
  unfold memI
  rw [List.range_succ,List.map_append,List.filter_append]
  congr 1
theorem memI_len (M:List Int) (m:Int) (add:Bool) (k:Nat):(memI M m add k).length≤k:=by
  unfold memI
  refine Nat.le_trans (List.length_filter_le _ _) (by simp)
theorem contains_suc {l:List Int} {n:Int} {i:Nat} (h:i<l.length):(l.take (i+1)).contains n=((l.take i).contains n||(l.getD i 0==n)):=by
  rw [take_succ_getD 0 h]
  rw [Bool.eq_iff_iff,Bool.or_eq_true,List.contains_iff_mem,List.contains_iff_mem,List.mem_append,List.mem_singleton,beq_iff_eq]
  exact⟨fun q=>q.imp id Eq.symm,fun q=>q.imp id Eq.symm⟩
set_option maxRecDepth 100000
abbrev hasQ1 (x1:Nat) (x:hasT.γ):=x1≤(HasA.l x).length∧
@List.contains Int _ (List.take x1 (HasA.l x)) (HasA.n x)=false
theorem has_vc (x:hasT.γ):evCall hasE (ev hasE 1000) 55 (hasT.args x) ⟨hasT.blks x,hasT.n0,[]⟩ (fun _ _=>False) (hasT.ends x)=(
(∃x1:Nat,(0:Int)=(↑x1:Int)∧
hasQ1 x1 x)∧
∀x2:Nat,hasQ1 x2 x→
(HasA.l x).length*8≤room47→
br (decide ((↑x2:Int)<(↑(HasA.l x).length:Int))) (br (decide ((0:Int)≤(↑x2:Int)∧
(↑x2:Int)<(↑(HasA.l x).length:Int))) (br (List.getD (HasA.l x) (↑x2:Int).toNat (Int.ofNat 0)==HasA.n x) (∃x3:Unit,true = @List.contains Int _ (HasA.l x) (HasA.n x)∧
True) (∃x4:Nat,IntKind.wrap IntKind.i64 ((↑x2:Int)+(1:Int))=(↑x4:Int)∧
hasQ1 x4 x∧
Nat.sub (HasA.l x).length x4<Nat.sub (HasA.l x).length x2)) (Bad "check" "ref.go:152")) (∃x5:Unit,false = @List.contains Int _ (HasA.l x) (HasA.n x)∧
True)):=by kernel_rfl
abbrev rmayQ1 (x:rmayT.γ):=∃x1:Unit,false=mayE x∧
True
abbrev rmayQ2 (x3:Nat) (x:rmayT.γ):=x3≤List.length x∧
@Neg.neg Int _ (1:Int)≤lastE x x3∧
upE (lastE x x3) (List.drop x3 x)=upE (@Neg.neg Int _ (1:Int)) x
abbrev rmayQ3 (x4:Nat) (x:rmayT.γ):=decide ((0:Int)≤(↑x4:Int)∧
(↑x4:Int)<(↑(List.length x):Int))
abbrev rmayQ4 (x:rmayT.γ) (x4:Nat):=List.getD x (↑x4:Int).toNat (Int.ofNat 0)
abbrev rmayQ5 (x4:Nat):=IntKind.wrap IntKind.i64 ((↑x4:Int)-(1:Int))
abbrev rmayQ6 (x4:Nat) (x:rmayT.γ):=∃x8:Nat,IntKind.wrap IntKind.i64 ((↑x4:Int)+(1:Int))=(↑x8:Int)∧
rmayQ2 x8 x∧
Nat.sub (List.length x) x8<Nat.sub (List.length x) x4
theorem rmay_vc (x:rmayT.γ):evCall rmayE (ev rmayE 1000) 170 (rmayT.args x) ⟨rmayT.blks x,rmayT.n0,[]⟩ (fun _ _=>False) (rmayT.ends x)=(
List.length x*8≤room47→
br (decide ((↑(List.length x):Int)<(1:Int))) (rmayQ1 x) (List.length x*8≤room47→
br (decide ((↑(List.length x):Int)>(15:Int))) (rmayQ1 x) ((∃x3:Nat,(0:Int)=(↑x3:Int)∧
rmayQ2 x3 x)∧
∀x4:Nat,rmayQ2 x4 x→
List.length x*8≤room47→
br (decide ((↑x4:Int)<(↑(List.length x):Int))) (br (rmayQ3 x4 x) (br (decide (rmayQ4 x x4<(0:Int))) (rmayQ1 x) (br (rmayQ3 x4 x) (br (decide (@GE.ge Int _ (rmayQ4 x x4) (15:Int))) (rmayQ1 x) (br (decide ((↑x4:Int)>(0:Int))) (br (rmayQ3 x4 x) (br (decide ((0:Int)≤rmayQ5 x4∧
rmayQ5 x4<(↑(List.length x):Int))) (br (decide (rmayQ4 x x4≤List.getD x (rmayQ5 x4).toNat (Int.ofNat 0))) (rmayQ1 x) (rmayQ6 x4 x)) (Bad "check" "ref.go:165")) (Bad "check" "ref.go:165")) (rmayQ6 x4 x))) (Bad "check" "ref.go:165"))) (Bad "check" "ref.go:165")) (∃x10:Unit,true=mayE x∧
True)))):=by kernel_rfl
abbrev cepQ1 (x:cepT.γ):=List.drop (EoA.lo x) (EoA.E x)
abbrev cepQ2 (x1:Nat) (x:cepT.γ):=Nat.le x1 ((EoA.E x).length-EoA.lo x)
abbrev cepQ3 (x2:Nat) (x:cepT.γ):=decide ((0:Int)≤(↑x2:Int)∧
(↑x2:Int)<(↑((EoA.E x).length-EoA.lo x):Int))
abbrev cepQ4 (x:cepT.γ) (x2:Nat):=List.getD (EoA.E x) (EoA.lo x+(↑x2:Int).toNat) (EpochD.mk (0:Int) ([]:List Int))
abbrev cepQ5 (x:cepT.γ) (x2:Nat):=@HAppend.hAppend (List Int) (List Int) (List Int) _ (List.take 0 (List.drop 0 ([]:List Int))) (cepQ4 x x2).members
abbrev cepQ6 (x:cepT.γ) (x2:Nat):=[EpochD.mk (cepQ4 x x2).from_ (List.take (0+(cepQ4 x x2).members.length) (List.drop 0 (cepQ5 x x2)))]
theorem cep_vc (x:cepT.γ):evCall cepE (ev cepE 1000) 117 (cepT.args x) ⟨cepT.blks x,cepT.n0,[]⟩ (fun _ _=>False) (cepT.ends x)=(
(∃x1:Nat,(0:Int)=(↑x1:Int)∧
0=x1∧
([]:List EpochD)=List.take x1 (cepQ1 x)∧
cepQ2 x1 x)∧
∀x2:Nat,cepQ2 x2 x→
((EoA.E x).length-EoA.lo x)*32≤room47→
br (decide ((↑x2:Int)<(↑((EoA.E x).length-EoA.lo x):Int))) (br (cepQ3 x2 x) (br (decide (EoA.lo x+(↑x2:Int).toNat<(EoA.E x).length)) (br (cepQ3 x2 x) (br (decide (EoA.lo x+(↑x2:Int).toNat<(EoA.E x).length)) (Nat.le (0*8) room47∧
Nat.le ((cepQ4 x x2).members.length*8) room47→
br (Bool.and (Bool.and true (decide (0+0≤([]:List Int).length))) (decide ((0+(cepQ4 x x2).members.length)*8≤room47))) (br (Bool.and (decide (0+(0+(cepQ4 x x2).members.length)≤(cepQ5 x x2).length)) true) (Nat.le (x2*32) room47∧
Nat.le (1*32) room47→
br (Bool.and (Bool.and (decide (0+1≤(cepQ6 x x2).length)) (decide (0+x2≤(List.take x2 (cepQ1 x)).length))) (decide ((x2+(List.take 1 (List.drop 0 (cepQ6 x x2))).length)*32≤room47))) (∃x3:Nat,IntKind.wrap IntKind.i64 ((↑x2:Int)+(1:Int))=(↑x3:Int)∧
0=0∧
x2+(List.take 1 (List.drop 0 (cepQ6 x x2))).length=x3∧
@HAppend.hAppend (List EpochD) (List EpochD) (List EpochD) _ (List.take x2 (List.drop 0 (List.take x2 (cepQ1 x)))) (List.take 1 (List.drop 0 (cepQ6 x x2)))=List.take x3 (cepQ1 x)∧
cepQ2 x3 x∧
Nat.sub ((EoA.E x).length-EoA.lo x) x3<Nat.sub ((EoA.E x).length-EoA.lo x) x2) (Bad "check" "ref.go:182")) (Bad "check" "ref.go:182")) (Bad "check" "ref.go:182")) (Bad "check" "ref.go:182")) (Bad "check" "ref.go:182")) (Bad "check" "ref.go:182")) (Bad "check" "ref.go:182")) (∃x4:Unit,0=0∧
x2=(cepQ1 x).length∧
EoA.E x=EoA.E x∧
List.take x2 (cepQ1 x)=cepQ1 x∧
True)):=by kernel_rfl
abbrev rcutQ1 (x:rcutT.γ) (x1:Nat):=(↑(atN (EpA.E x) (EpA.slot x) x1):Int)
abbrev rcutQ2 (x2:Nat) (x3:Nat):=IntKind.wrap IntKind.i64 ((↑x2:Int)+(1:Int))=(↑x3:Int)
abbrev rcutQ3 (x3:Nat) (x:rcutT.γ) (x2:Nat):=Nat.le x3 (EpA.E x).length∧
Nat.sub (EpA.E x).length x3<Nat.sub (EpA.E x).length x2
theorem rcut_vc (x:rcutT.γ):evCall rcutE (ev rcutE 1000) 99 (rcutT.args x) ⟨rcutT.blks x,rcutT.n0,[]⟩ (fun _ _=>False) (rcutT.ends x)=(
(∃x1:Nat,(0:Int)=(↑x1:Int)∧
(0:Int)=rcutQ1 x x1∧
Nat.le x1 (EpA.E x).length)∧
∀x2:Nat,Nat.le x2 (EpA.E x).length→
(EpA.E x).length*32≤room47→
br (decide ((↑x2:Int)<(↑(EpA.E x).length:Int))) (br (decide ((0:Int)≤(↑x2:Int)∧
(↑x2:Int)<(↑(EpA.E x).length:Int))) (br (decide (0+(↑x2:Int).toNat<(EpA.E x).length)) (br (decide ((List.getD (EpA.E x) (0+(↑x2:Int).toNat) (EpochD.mk (0:Int) ([]:List Int))).from_≤EpA.slot x)) (∃x3:Nat,rcutQ2 x2 x3∧
(↑x2:Int)=rcutQ1 x x3∧
rcutQ3 x3 x x2) (∃x4:Nat,rcutQ2 x2 x4∧
rcutQ1 x x2=rcutQ1 x x4∧
rcutQ3 x4 x x2)) (Bad "check" "ref.go:241")) (Bad "check" "ref.go:241")) (br (bndB (EpA.E x).length (Option.some (rcutQ1 x x2)) (none:Option Int) (none:Option Int)) (∃x5:EoA,addN 0 (Option.some (rcutQ1 x x2))=x5.lo∧
cutN (EpA.E x).length (Option.some (rcutQ1 x x2)) (none:Option Int)=x5.E.length-x5.lo∧
EpA.E x=x5.E∧
decide (x5.lo≤x5.E.length)=true∧
∀x6:Unit,True→
∃x7:Unit,EqT (EpA.alpha x) (EpA.alpha x) (List.drop x5.lo x5.E) (cutE (EpA.E x) (EpA.slot x)) True) (Bad "check" "ref.go:277"))):=by kernel_rfl
abbrev rchtQ1 (x:echtT.γ):=IntKind.wrap IntKind.i64 ((↑(ChgB.E x).length:Int)-(1:Int))
abbrev rchtQ2 (x:echtT.γ):=EqT (ChgB.alpha x) (ChgB.alpha x) (ChgB.E x) (chgE (toA x true)).2 True
abbrev rchtQ3 (x:echtT.γ):=∃x1:Unit,(1:Int)=(chgE (toA x true)).1∧
rchtQ2 x
abbrev rchtQ4 (x:echtT.γ):=List.getD (ChgB.E x) (0+(rchtQ1 x).toNat) (EpochD.mk (0:Int) ([]:List Int))
abbrev rchtQ5 (x:echtT.γ) (x9:Nat):=memI (rchtQ4 x).members (ChgB.member x) true x9
abbrev rchtQ6 (x:echtT.γ) (x10:Nat):=(rchtQ5 x x10).length+(List.take 1 (List.drop 0 [(↑x10:Int)])).length
abbrev rchtQ7 (x:echtT.γ) (x10:Nat):=Nat.le ((rchtQ5 x x10).length*8) room47∧
Nat.le (1*8) room47→
br (Bool.and (Bool.and (decide (0+1≤[(↑x10:Int)].length)) (decide (0+(rchtQ5 x x10).length≤(rchtQ5 x x10).length))) (decide (rchtQ6 x x10*8≤room47))) (∃x11:Nat,IntKind.wrap IntKind.i64 ((↑x10:Int)+(1:Int))=(↑x11:Int)∧
0=0∧
rchtQ6 x x10=(rchtQ5 x x11).length∧
@HAppend.hAppend (List Int) (List Int) (List Int) _ (List.take (rchtQ5 x x10).length (List.drop 0 (rchtQ5 x x10))) (List.take 1 (List.drop 0 [(↑x10:Int)]))=rchtQ5 x x11∧
Nat.le x11 15∧
Nat.sub 15 x11<Nat.sub 15 x10) (Bad "check" "ref.go:269")
abbrev rchtQ8 (x10:Nat) (x:echtT.γ):=∃x15:Nat,EqT (IntKind.wrap IntKind.i64 ((↑x10:Int)+(1:Int))) (↑x15:Int) (rchtQ5 x x10) (rchtQ5 x x15) (Nat.le x15 15∧
Nat.sub 15 x15<Nat.sub 15 x10)
abbrev rchtQ9 (x:echtT.γ) (x10:Nat):=[EpochD.mk (IntKind.wrap IntKind.i64 (ChgB.slot x+ChgB.alpha x)) (List.take (rchtQ5 x x10).length (List.drop 0 (rchtQ5 x x10)))]
theorem rcht_vc (x:echtT.γ):evCall rchgE (ev rchgE 1000) 210 (echtT.args x) ⟨echtT.blks x,echtT.n0,[]⟩ (fun _ _=>False) (echtT.ends x)=(
(ChgB.E x).length*32≤room47→
br (decide ((0:Int)≤rchtQ1 x∧
rchtQ1 x<(↑(ChgB.E x).length:Int))) (br (decide (0+(rchtQ1 x).toNat<(ChgB.E x).length)) (br (decide (ChgB.slot x<(0:Int))) (rchtQ3 x) (br (decide (ChgB.slot x>IntKind.wrap IntKind.i64 ((1099511627776:Int)-ChgB.alpha x))) (rchtQ3 x) (br (decide (ChgB.member x<(0:Int))) (rchtQ3 x) (br (decide (@GE.ge Int _ (ChgB.member x) (15:Int))) (rchtQ3 x) (br (decide ((rchtQ4 x).from_>ChgB.slot x)) (∃x5:Unit,(12:Int)=(chgE (toA x true)).1∧
rchtQ2 x) (∃x6:HasA,(rchtQ4 x).members=x6.l∧
ChgB.member x=x6.n∧
True∧
∀x7:Unit,True→
br (@List.contains Int _ x6.l x6.n) (∃x8:Unit,(9:Int)=(chgE (toA x true)).1∧
rchtQ2 x) ((∃x9:Nat,(0:Int)=(↑x9:Int)∧
0=(rchtQ5 x x9).length∧
([]:List Int)=rchtQ5 x x9∧
Nat.le x9 15)∧
∀x10:Nat,Nat.le x10 15→
br (decide ((↑x10:Int)<(15:Int))) (br ((↑x10:Int)==ChgB.member x) (rchtQ7 x x10) (br ((↑x10:Int) != ChgB.member x) (∃x12:HasA,(rchtQ4 x).members=x12.l∧
(↑x10:Int)=x12.n∧
True∧
∀x13:Unit,True→
br (@List.contains Int _ x12.l x12.n) (rchtQ7 x x10) (rchtQ8 x10 x)) (rchtQ8 x10 x))) (br (Bool.and (decide (0+(rchtQ5 x x10).length≤(rchtQ5 x x10).length)) true) (Nat.le ((ChgB.E x).length*32) room47∧
Nat.le (1*32) room47→
br (Bool.and (Bool.and (decide (0+1≤(rchtQ9 x x10).length)) (decide (0+(ChgB.E x).length≤(ChgB.E x).length))) (decide (((ChgB.E x).length+(List.take 1 (List.drop 0 (rchtQ9 x x10))).length)*32≤room47))) (∃x17:Unit,(0:Int)=(chgE (toA x true)).1∧
ChgB.alpha x=ChgB.alpha x∧
0=0∧
(ChgB.E x).length+(List.take 1 (List.drop 0 (rchtQ9 x x10))).length=(chgE (toA x true)).2.length∧
@HAppend.hAppend (List EpochD) (List EpochD) (List EpochD) _ (List.take (ChgB.E x).length (List.drop 0 (ChgB.E x))) (List.take 1 (List.drop 0 (rchtQ9 x x10)))=(chgE (toA x true)).2∧
True) (Bad "check" "ref.go:272")) (Bad "check" "ref.go:272"))))))))) (Bad "check" "ref.go:253")) (Bad "check" "ref.go:253")):=by kernel_rfl
abbrev rchfQ1 (x:echfT.γ):=IntKind.wrap IntKind.i64 ((↑(ChgB.E x).length:Int)-(1:Int))
abbrev rchfQ2 (x:echfT.γ):=EqT (ChgB.alpha x) (ChgB.alpha x) (ChgB.E x) (chgE (toA x false)).2 True
abbrev rchfQ3 (x:echfT.γ):=∃x1:Unit,(1:Int)=(chgE (toA x false)).1∧
rchfQ2 x
abbrev rchfQ4 (x:echfT.γ):=List.getD (ChgB.E x) (0+(rchfQ1 x).toNat) (EpochD.mk (0:Int) ([]:List Int))
abbrev rchfQ5 (x:echfT.γ) (x10:Nat):=memI (rchfQ4 x).members (ChgB.member x) false x10
abbrev rchfQ6 (x:echfT.γ) (x11:Nat):=(rchfQ5 x x11).length+(List.take 1 (List.drop 0 [(↑x11:Int)])).length
abbrev rchfQ7 (x11:Nat) (x:echfT.γ):=∃x15:Nat,EqT (IntKind.wrap IntKind.i64 ((↑x11:Int)+(1:Int))) (↑x15:Int) (rchfQ5 x x11) (rchfQ5 x x15) (Nat.le x15 15∧
Nat.sub 15 x15<Nat.sub 15 x11)
abbrev rchfQ8 (x11:Nat) (x:echfT.γ):=br ((↑x11:Int) != ChgB.member x) (∃x12:HasA,(rchfQ4 x).members=x12.l∧
(↑x11:Int)=x12.n∧
True∧
∀x13:Unit,True→
br (@List.contains Int _ x12.l x12.n) (Nat.le ((rchfQ5 x x11).length*8) room47∧
Nat.le (1*8) room47→
br (Bool.and (Bool.and (decide (0+1≤[(↑x11:Int)].length)) (decide (0+(rchfQ5 x x11).length≤(rchfQ5 x x11).length))) (decide (rchfQ6 x x11*8≤room47))) (∃x14:Nat,IntKind.wrap IntKind.i64 ((↑x11:Int)+(1:Int))=(↑x14:Int)∧
0=0∧
rchfQ6 x x11=(rchfQ5 x x14).length∧
@HAppend.hAppend (List Int) (List Int) (List Int) _ (List.take (rchfQ5 x x11).length (List.drop 0 (rchfQ5 x x11))) (List.take 1 (List.drop 0 [(↑x11:Int)]))=rchfQ5 x x14∧
Nat.le x14 15∧
Nat.sub 15 x14<Nat.sub 15 x11) (Bad "check" "ref.go:269")) (rchfQ7 x11 x)) (rchfQ7 x11 x)
abbrev rchfQ9 (x:echfT.γ) (x11:Nat):=[EpochD.mk (IntKind.wrap IntKind.i64 (ChgB.slot x+ChgB.alpha x)) (List.take (rchfQ5 x x11).length (List.drop 0 (rchfQ5 x x11)))]
theorem rchf_vc (x:echfT.γ):evCall rchgE (ev rchgE 1000) 210 (echfT.args x) ⟨echfT.blks x,echfT.n0,[]⟩ (fun _ _=>False) (echfT.ends x)=(
(ChgB.E x).length*32≤room47→
br (decide ((0:Int)≤rchfQ1 x∧
rchfQ1 x<(↑(ChgB.E x).length:Int))) (br (decide (0+(rchfQ1 x).toNat<(ChgB.E x).length)) (br (decide (ChgB.slot x<(0:Int))) (rchfQ3 x) (br (decide (ChgB.slot x>IntKind.wrap IntKind.i64 ((1099511627776:Int)-ChgB.alpha x))) (rchfQ3 x) (br (decide (ChgB.member x<(0:Int))) (rchfQ3 x) (br (decide (@GE.ge Int _ (ChgB.member x) (15:Int))) (rchfQ3 x) (br (decide ((rchfQ4 x).from_>ChgB.slot x)) (∃x5:Unit,(12:Int)=(chgE (toA x false)).1∧
rchfQ2 x) (∃x6:HasA,(rchfQ4 x).members=x6.l∧
ChgB.member x=x6.n∧
True∧
∀x7:Unit,True→
br (@List.contains Int _ x6.l x6.n).not (∃x8:Unit,(8:Int)=(chgE (toA x false)).1∧
rchfQ2 x) ((rchfQ4 x).members.length*8≤room47→
br ((↑(rchfQ4 x).members.length:Int)==(1:Int)) (rchfQ3 x) ((∃x10:Nat,(0:Int)=(↑x10:Int)∧
0=(rchfQ5 x x10).length∧
([]:List Int)=rchfQ5 x x10∧
Nat.le x10 15)∧
∀x11:Nat,Nat.le x11 15→
br (decide ((↑x11:Int)<(15:Int))) (br ((↑x11:Int)==ChgB.member x) (rchfQ8 x11 x) (rchfQ8 x11 x)) (br (Bool.and (decide (0+(rchfQ5 x x11).length≤(rchfQ5 x x11).length)) true) (Nat.le ((ChgB.E x).length*32) room47∧
Nat.le (1*32) room47→
br (Bool.and (Bool.and (decide (0+1≤(rchfQ9 x x11).length)) (decide (0+(ChgB.E x).length≤(ChgB.E x).length))) (decide (((ChgB.E x).length+(List.take 1 (List.drop 0 (rchfQ9 x x11))).length)*32≤room47))) (∃x22:Unit,(0:Int)=(chgE (toA x false)).1∧
ChgB.alpha x=ChgB.alpha x∧
0=0∧
(ChgB.E x).length+(List.take 1 (List.drop 0 (rchfQ9 x x11))).length=(chgE (toA x false)).2.length∧
@HAppend.hAppend (List EpochD) (List EpochD) (List EpochD) _ (List.take (ChgB.E x).length (List.drop 0 (ChgB.E x))) (List.take 1 (List.drop 0 (rchfQ9 x x11)))=(chgE (toA x false)).2∧
True) (Bad "check" "ref.go:272")) (Bad "check" "ref.go:272")))))))))) (Bad "check" "ref.go:253")) (Bad "check" "ref.go:253")):=by kernel_rfl
theorem has_ok:SpecOK Tryz.prog 55 hasT.spec:=by
  refine Tri.ok (E:=hasE) (Env_ok (by decide +kernel) (by simp)) (n:=1000) hasT fun x _=>?_
  rw [has_vc]
  delta hasQ1
  obtain⟨l,n⟩:=x
  dsimp only
  refine⟨⟨0,rfl,Nat.zero_le _,rfl⟩,fun i hi hr=>br_i (fun h1=>?_) (fun h1=>?_)⟩
  · have h1:=of_decide_eq_true h1
    have hlt:i<l.length:=by omega
    have e0:(i:Int).toNat=i:=rfl
    rw [e0]
    have ed:l.getD i (Int.ofNat 0)=l.getD i 0:=rfl
    rw [ed]
    refine br_t (decide_eq_true ⟨by omega,h1⟩) (br_i (fun q=>⟨(),?_,trivial⟩) (fun q=>⟨i+1,by rw [wrap_id (by unfold room47 at hr;omega) (by unfold room47 at hr;omega)];rfl,⟨by omega,?_⟩,by show l.length-(i+1)<l.length-i;omega⟩))
    · rw [beq_iff_eq] at q
      exact (List.contains_iff_mem.2 (q ▸ getD_mem hlt)).symm
    · rw [contains_suc hlt,hi.2,q];rfl
  · have h1:=of_decide_eq_false h1
    have:i=l.length:=by have:=hi.1;omega
    subst this
    have:=hi.2
    rw [List.take_length] at this
    exact⟨(),this.symm,trivial⟩
theorem rmay_ok:SpecOK Tryz.prog 170 rmayT.spec:=by
  refine Tri.ok (E:=rmayE) (Env_ok (by decide +kernel) (by simp)) (n:=1000) rmayT fun x _=>?_
  rw [rmay_vc]
  delta rmayQ6 rmayQ5 rmayQ4 rmayQ3 rmayQ2 rmayQ1
  revert x
  intro (M:List Int) _
  intro hr
  refine br_i (fun h1=>?_) fun h1 hr2=>br_i (fun h2=>?_) fun h2=>?_
  · have h1:=of_decide_eq_true h1
    refine⟨(),?_,trivial⟩
    unfold mayE
    rw [decide_eq_false (by omega:¬1≤M.length)];rfl
  · have h2:=of_decide_eq_true h2
    refine⟨(),?_,trivial⟩
    unfold mayE
    rw [decide_eq_false (by omega:¬M.length≤15),Bool.false_and,Bool.and_false]
  have h1:=of_decide_eq_false h1
  have h2:=of_decide_eq_false h2
  have hmay:mayE M=upE (-1) M:=by
    unfold mayE
    rw [decide_eq_true (by omega:1≤M.length),decide_eq_true (by omega:M.length≤15)];rfl
  rw [hmay]
  refine⟨⟨0,rfl,Nat.zero_le _,by show -1≤(-1:Int);omega,rfl⟩,fun i hi hr=>br_i (fun h3=>?_) (fun h3=>?_)⟩
  · have h3:=of_decide_eq_true h3
    obtain⟨i1,i2,i3⟩:=hi
    have hlt:i<M.length:=by omega
    have e0:(i:Int).toNat=i:=rfl
    have ed:∀k,M.getD k (Int.ofNat 0)=M.getD k 0:=fun _=>rfl
    have hup:upE (lastE M i) (M.drop i)=(decide (lastE M i<M.getD i 0)&&(decide (M.getD i 0<15)&&upE (M.getD i 0) (M.drop (i+1)))):=by
      have:M.drop i=M.getD i 0::M.drop (i+1):=by
        rw [List.drop_eq_getElem_cons hlt];simp [List.getD,hlt]
      rw [this];rfl
    rw [hup] at i3
    have hb:decide ((0:Int)≤(i:Int)∧(i:Int)<(M.length:Int))=true:=decide_eq_true ⟨by omega,h3⟩
    have hw:IntKind.i64.wrap ((i:Int)+1)=((i+1:Nat):Int):=by rw [wrap_id (by omega) (by omega)];rfl
    rw [e0,ed]
    refine br_t hb (br_i (fun q=>⟨(),?_,trivial⟩) fun q=>br_t hb (br_i (fun q2=>⟨(),?_,trivial⟩) fun q2=>br_i (fun q3=>br_t hb ?_) fun q3=>?_))
    · have q:=of_decide_eq_true q
      rw [←i3,decide_eq_false (by omega:¬lastE M i<M.getD i 0)];rfl
    · have q2:=of_decide_eq_true q2
      rw [←i3,decide_eq_false (by omega:¬M.getD i 0<15),Bool.false_and,Bool.and_false]
    · have q:=of_decide_eq_false q
      have q2:=of_decide_eq_false q2
      have q3:=of_decide_eq_true q3
      have e4:IntKind.i64.wrap ((i:Int)-1)=((i-1:Nat):Int):=by rw [wrap_id (by omega) (by omega)];omega
      rw [e4]
      have e5:((i-1:Nat):Int).toNat=i-1:=rfl
      rw [e5,ed]
      have el:lastE M i=M.getD (i-1) 0:=by
        obtain⟨k,rfl⟩:∃k,i=k+1:=⟨i-1,by omega⟩
        rfl
      rw [el] at i3 i2
      refine br_t (decide_eq_true ⟨by omega,by omega⟩) (br_i (fun q4=>⟨(),?_,trivial⟩) fun q4=>⟨i+1,hw,⟨by omega,?_,?_⟩,by show M.length-(i+1)<M.length-i;omega⟩)
      · have q4:=of_decide_eq_true q4
        rw [←i3,decide_eq_false (by omega:¬M.getD (i-1) 0<M.getD i 0)];rfl
      · show -1≤M.getD i 0
        omega
      · have q4:=of_decide_eq_false q4
        rw [←i3,decide_eq_true (by omega:M.getD (i-1) 0<M.getD i 0),decide_eq_true (by omega:M.getD i 0<15)]
        rfl
    · have q:=of_decide_eq_false q
      have q2:=of_decide_eq_false q2
      have q3:=of_decide_eq_false q3
      have:i=0:=by omega
      subst this
      refine⟨1,hw,⟨by omega,?_,?_⟩,by show M.length-1<M.length-0;omega⟩
      · show -1≤M.getD 0 0
        omega
      · rw [←i3,decide_eq_true (by show (-1:Int)<M.getD 0 0;omega),decide_eq_true (by omega:M.getD 0 0<15)]
        rfl
  · have h3:=of_decide_eq_false h3
    obtain⟨i1,i2,i3⟩:=hi
    have:i=M.length:=by omega
    subst this
    rw [List.drop_length] at i3
    exact⟨(),i3,trivial⟩
theorem cep_ok:SpecOK Tryz.prog 117 cepT.spec:=by
  refine Tri.ok (E:=cepE) (Env_ok (by decide +kernel) (by simp)) (n:=1000) cepT fun x hx=>?_
  rw [cep_vc]
  delta cepQ6 cepQ5 cepQ4 cepQ3 cepQ2 cepQ1
  obtain⟨E,lo⟩:=x
  have hx:decide (lo≤E.length)=true:=hx
  have hx:=of_decide_eq_true hx
  dsimp only
  refine⟨⟨0,rfl,rfl,rfl,Nat.zero_le _⟩,fun i hi hr=>br_i (fun h1=>?_) (fun h1=>?_)⟩
  · have h1:=of_decide_eq_true h1
    have hlt:lo+i<E.length:=by omega
    have hsm:E.length-lo≤4398046511104:=by unfold room47 at hr;omega
    have e0:lo+(i:Int).toNat=lo+i:=rfl
    try rw [e0]
    generalize hp:E.getD (lo+i) ⟨0,[]⟩=p
    have ep:EpochD.mk p.from_ (List.take (0+p.members.length) (List.drop 0 (List.take 0 (List.drop 0 ([]:List Int))++p.members)))=p:=by simp
    rw [ep]
    refine br_t (decide_eq_true ⟨by omega,h1⟩) (br_t (decide_eq_true hlt) (br_t (decide_eq_true ⟨by omega,h1⟩) (br_t (decide_eq_true hlt) (?_))))
    intro hz
    have hz2:p.members.length*8≤room47:=hz.2
    refine br_t (by simp only [Bool.and_eq_true,decide_eq_true_eq,Nat.zero_add,List.length_nil];exact⟨⟨trivial,Nat.le_refl _⟩,hz2⟩) (br_t (by simp) fun hz3=>br_t ?_ ?_)
    · simp only [Bool.and_eq_true,decide_eq_true_eq,List.drop_zero,List.take_succ_cons,List.take_zero,List.length_cons,List.length_nil,List.length_take,List.length_drop,Nat.zero_add]
      unfold room47 at hr ⊢
      omega
    · refine⟨i+1,by rw [wrap_id (by omega) (by omega)];rfl,rfl,by simp,?_,by show i+1≤_;omega,by show (E.length-lo)-(i+1)<(E.length-lo)-i;omega⟩
      have e2:(E.drop lo).getD i ⟨0,[]⟩=p:=by rw [←hp];simp [List.getD,List.getElem?_drop]
      have e3:(E.drop lo).take (i+1)=(E.drop lo).take i++[p]:=by rw [take_succ_getD ⟨0,[]⟩ (by rw [List.length_drop];omega),e2]
      rw [e3,List.drop_zero,List.take_take,Nat.min_self]
      rfl
  · have h1:=of_decide_eq_false h1
    have hi:i≤E.length-lo:=hi
    have:i=E.length-lo:=by omega
    subst this
    refine⟨(),rfl,by rw [List.length_drop],rfl,?_,trivial⟩
    rw [List.take_of_length_le (by rw [List.length_drop];omega)]
theorem rcut_ok:SpecOK Tryz.prog 99 rcutT.spec:=by
  refine Tri.ok (E:=rcutE) (Env_ok (by decide +kernel) (by simp [cep_ok])) (n:=1000) rcutT fun x hx=>?_
  rw [rcut_vc]
  delta rcutQ3 rcutQ2 rcutQ1 EqT
  obtain⟨alpha,E,slot⟩:=x
  have hx:decide (1≤E.length)=true:=hx
  have hx:=of_decide_eq_true hx
  dsimp only
  refine⟨⟨0,rfl,rfl,Nat.zero_le _⟩,fun i hi hr=>br_i (fun h3=>?_) (fun h3=>?_)⟩
  · have h3:=of_decide_eq_true h3
    have hsm:E.length≤4398046511104:=by unfold room47 at hr;omega
    have hlt:i<E.length:=by omega
    have e0:0+(i:Int).toNat=i:=by simp
    rw [e0]
    refine br_t (decide_eq_true ⟨by omega,h3⟩) (br_t (decide_eq_true hlt) (br_i (fun h4=>?_) (fun h4=>?_)))
    · exact⟨i+1,by rw [wrap_id (by omega) (by omega)];rfl,by rw [eat_step,h4];rfl,by show i+1≤_;omega,by show E.length-(i+1)<E.length-i;omega⟩
    · exact⟨i+1,by rw [wrap_id (by omega) (by omega)];rfl,by rw [eat_step,h4];rfl,by show i+1≤_;omega,by show E.length-(i+1)<E.length-i;omega⟩
  · have h3:=of_decide_eq_false h3
    have hi:i≤E.length:=hi
    have:i=E.length:=by omega
    subst this
    have hat:=atN_lt E slot E.length (by omega)
    generalize hA:atN E slot E.length=A at hat ⊢
    refine br_t (by simp [bndB];omega) ⟨⟨E,A⟩,by simp [addN,loN],by simp [cutN,loN,hiN],rfl,decide_eq_true (by show A≤E.length;omega),fun _ _=>⟨(),rfl,rfl,?_,?_,trivial⟩⟩
    · unfold cutE;rw [hA]
    · unfold cutE;rw [hA]
theorem rchgE_ok:EnvOK rchgE:=Env_ok (by decide +kernel) (by simp [has_ok])
theorem rchg_false (y:echfT.γ):(evCall rchgE (ev rchgE 1000) 210 (echgT.args (toA y false)) ⟨echgT.blks (toA y false),echgT.n0,[]⟩ (fun _ _=>False) (echgT.ends (toA y false)))=(evCall rchgE (ev rchgE 1000) 210 (echfT.args y) ⟨echfT.blks y,echfT.n0,[]⟩ (fun _ _=>False) (echfT.ends y)):=by kernel_rfl
theorem rchg_true (y:echtT.γ):(evCall rchgE (ev rchgE 1000) 210 (echgT.args (toA y true)) ⟨echgT.blks (toA y true),echgT.n0,[]⟩ (fun _ _=>False) (echgT.ends (toA y true)))=(evCall rchgE (ev rchgE 1000) 210 (echtT.args y) ⟨echtT.blks y,echtT.n0,[]⟩ (fun _ _=>False) (echtT.ends y)):=by kernel_rfl
set_option maxRecDepth 100000 in
set_option maxHeartbeats 0 in
theorem rchg_ok:SpecOK Tryz.prog 210 echgT.spec:=by
  refine Tri.ok (E:=rchgE) rchgE_ok (n:=1000) echgT (echg_split _ (fun y hx=>?_) (fun y hx=>?_))
  · rw [rchg_false y,rchf_vc y]
    delta rchfQ9 rchfQ8 rchfQ7 rchfQ6 rchfQ5 rchfQ4 rchfQ3 rchfQ2 rchfQ1 EqT
    have hx2:okEp y.alpha y.E=true∧(0≤y.slot∧y.slot≤2199023255552):=hx
    clear hx
    obtain⟨alpha,E,slot,member⟩:=y
    obtain⟨k1,k2,k3,k4,k5,k6,k7,k8,k9⟩:=chgK (x:=ChgB.mk alpha E slot member) hx2
    have hmay:mayE (lastEp E).members=true:=(okEp_of hx2.1).2.2.2.2 _ (getD_mem (by show E.length-1<E.length;have:1≤E.length:=k3;omega))
    clear hx2
    have k1:1≤alpha:=k1
    have k2:alpha≤8:=k2
    have k3:1≤E.length:=k3
    have k4:E.length≤1000000:=k4
    have k5:0≤slot:=k5
    have k6:slot≤2199023255552:=k6
    dsimp only at *
    rw [last_ix k3 k4]
    have ei:0+((E.length-1:Nat):Int).toNat=E.length-1:=by simp
    rw [ei]
    have el:E.getD (E.length-1) ⟨0,[]⟩=lastEp E:=rfl
    rw [el]
    have hch:chgE (toA ⟨alpha,E,slot,member⟩ false)=(bif decide (slot<0)||(decide (slot>1099511627776-alpha)||(decide (member<0)||decide (member≥15))) then (1,E)
      else bif decide ((lastEp E).from_>slot) then (12,E)
      else bif false&&(lastEp E).members.contains member then (9,E)
      else bif !false && !((lastEp E).members.contains member) then (8,E)
      else bif !false&&decide ((lastEp E).members.length=1) then (1,E)
      else (0,E++[⟨slot+alpha,bif false then insM (lastEp E).members member else delM (lastEp E).members member⟩])):=rfl
    generalize hM:(lastEp E).members=M at *
    generalize (lastEp E).from_=fr at *
    have wa:IntKind.i64.wrap (1099511627776-alpha)=1099511627776-alpha:=wrap_id (by omega) (by omega)
    have ws:IntKind.i64.wrap (slot+alpha)=slot+alpha:=wrap_id (by omega) (by omega)
    rw [wa,ws]
    refine fun hr=>br_t (decide_eq_true ⟨by omega,by omega⟩) (br_t (decide_eq_true (by omega)) ?_)
    refine br_i (fun q=>?_) fun q1=>br_i (fun q=>?_) fun q2=>br_i (fun q=>?_) fun q3=>br_i (fun q=>?_) fun q4=>br_i (fun q=>?_) fun q5=>⟨⟨M,member⟩,rfl,rfl,trivial,fun _ _=>?_⟩
    · have e:chgE (toA ⟨alpha,E,slot,member⟩ false)=(1,E):=by rw [hch,q];rfl
      rw [e];exact⟨(),rfl,rfl,rfl,rfl,rfl,trivial⟩
    · have e:chgE (toA ⟨alpha,E,slot,member⟩ false)=(1,E):=by rw [hch,q1,q];rfl
      rw [e];exact⟨(),rfl,rfl,rfl,rfl,rfl,trivial⟩
    · have e:chgE (toA ⟨alpha,E,slot,member⟩ false)=(1,E):=by rw [hch,q1,q2,q];rfl
      rw [e];exact⟨(),rfl,rfl,rfl,rfl,rfl,trivial⟩
    · have e:chgE (toA ⟨alpha,E,slot,member⟩ false)=(1,E):=by rw [hch,q1,q2,q3,q];rfl
      rw [e];exact⟨(),rfl,rfl,rfl,rfl,rfl,trivial⟩
    · have e:chgE (toA ⟨alpha,E,slot,member⟩ false)=(12,E):=by rw [hch,q1,q2,q3,q4,q];rfl
      rw [e];exact⟨(),rfl,rfl,rfl,rfl,rfl,trivial⟩
    have m0:0≤member:=by have:=of_decide_eq_false q3;omega
    have m15:member<15:=by have:=of_decide_eq_false q4;omega
    dsimp only
    refine br_i (fun q=>?_) fun q6 hz0=>br_i (fun q=>?_) fun q7=>⟨⟨0,rfl,rfl,rfl,Nat.zero_le _⟩,fun i hi=>br_i (fun h1=>?_) (fun h1=>?_)⟩
    · have e:chgE (toA ⟨alpha,E,slot,member⟩ false)=(8,E):=by rw [hch,q1,q2,q3,q4,q5,q];rfl
      rw [e];exact⟨(),rfl,rfl,rfl,rfl,rfl,trivial⟩
    · have q8:decide (M.length=1)=true:=decide_eq_true (by rw [beq_iff_eq] at q;omega)
      have e:chgE (toA ⟨alpha,E,slot,member⟩ false)=(1,E):=by rw [hch,q1,q2,q3,q4,q5,q6,q8];rfl
      rw [e];exact⟨(),rfl,rfl,rfl,rfl,rfl,trivial⟩
    · have h1:=of_decide_eq_true h1
      have hw:IntKind.i64.wrap ((i:Int)+1)=((i+1:Nat):Int):=by rw [wrap_id (by omega) (by omega)];rfl
      have hl:=memI_len M member false i
      refine br_i (fun p=>br_i (fun p2=>?_) fun p2=>?_) fun p=>br_i (fun p2=>⟨⟨M,i⟩,rfl,rfl,trivial,fun _ _=>br_i (fun p3=>?_) fun p3=>?_⟩) fun p2=>?_
      · exfalso
        have p2:(!((i:Int)==member))=true:=p2
        rw [p] at p2;cases p2
      · have hc:((((i:Int)==member)&&false)||(!((i:Int)==member)&&M.contains (i:Int)))=false:=by rw [p];rfl
        exact⟨i+1,hw,rfl,by rw [memI_suc,hc];simp,by rw [memI_suc,hc];simp,by show i+1≤15;omega,by show 15-(i+1)<15-i;omega⟩
      · have hc:((((i:Int)==member)&&false)||(!((i:Int)==member)&&M.contains (i:Int)))=true:=by rw [p];exact p3
        exact (fun hz=>br_t (by
        simp only [Bool.and_eq_true,decide_eq_true_eq,List.drop_zero,List.take_succ_cons,List.take_zero,List.length_cons,List.length_nil,Nat.zero_add]
        unfold room47
        omega) ⟨i+1,hw,rfl,by rw [memI_suc,hc];simp,by rw [memI_suc,hc,List.drop_zero,List.take_length];rfl,by show i+1≤15;omega,by show 15-(i+1)<15-i;omega⟩)
      · have hc:((((i:Int)==member)&&false)||(!((i:Int)==member)&&M.contains (i:Int)))=false:=by rw [p];exact p3
        exact⟨i+1,hw,rfl,by rw [memI_suc,hc];simp,by rw [memI_suc,hc];simp,by show i+1≤15;omega,by show 15-(i+1)<15-i;omega⟩
      · exfalso
        have p2:(!((i:Int)==member))=false:=p2
        rw [p] at p2;cases p2
    · have h1:=of_decide_eq_false h1
      have hi:i≤15:=hi
      have:i=15:=by omega
      subst this
      have hl:=memI_len M member false 15
      have hin:member∈M:=by
        cases hc:M.contains member
        · rw [hc] at q6;cases q6
        · exact List.contains_iff_mem.1 hc
      have q8:decide (M.length=1)=false:=decide_eq_false (by intro e;rw [e] at q7;cases q7)
      have e:chgE (toA ⟨alpha,E,slot,member⟩ false)=(0,E++[⟨slot+alpha,memI M member false 15⟩]):=by
        rw [hch,q1,q2,q3,q4,q5,q6,q8,memI_del hmay hin];rfl
      rw [e]
      generalize memI M member false 15=N at hl ⊢
      refine br_t (by simp) fun hz=>br_t ?_ ⟨(),rfl,rfl,rfl,by simp,?_,trivial⟩
      · simp only [Bool.and_eq_true,decide_eq_true_eq,List.drop_zero,List.take_succ_cons,List.take_zero,List.length_cons,List.length_nil,Nat.zero_add]
        unfold room47
        omega
      · rw [List.drop_zero,List.drop_zero,List.take_length,List.drop_zero,List.take_length];rfl
  · rw [rchg_true y,rcht_vc y]
    delta rchtQ9 rchtQ8 rchtQ7 rchtQ6 rchtQ5 rchtQ4 rchtQ3 rchtQ2 rchtQ1 EqT
    have hx2:okEp y.alpha y.E=true∧(0≤y.slot∧y.slot≤2199023255552):=hx
    clear hx
    obtain⟨alpha,E,slot,member⟩:=y
    obtain⟨k1,k2,k3,k4,k5,k6,k7,k8,k9⟩:=chgK (x:=ChgB.mk alpha E slot member) hx2
    have hmay:mayE (lastEp E).members=true:=(okEp_of hx2.1).2.2.2.2 _ (getD_mem (by show E.length-1<E.length;have:1≤E.length:=k3;omega))
    clear hx2
    have k1:1≤alpha:=k1
    have k2:alpha≤8:=k2
    have k3:1≤E.length:=k3
    have k4:E.length≤1000000:=k4
    have k5:0≤slot:=k5
    have k6:slot≤2199023255552:=k6
    dsimp only at *
    rw [last_ix k3 k4]
    have ei:0+((E.length-1:Nat):Int).toNat=E.length-1:=by simp
    rw [ei]
    have el:E.getD (E.length-1) ⟨0,[]⟩=lastEp E:=rfl
    rw [el]
    have hch:chgE (toA ⟨alpha,E,slot,member⟩ true)=(bif decide (slot<0)||(decide (slot>1099511627776-alpha)||(decide (member<0)||decide (member≥15))) then (1,E)
      else bif decide ((lastEp E).from_>slot) then (12,E)
      else bif true&&(lastEp E).members.contains member then (9,E)
      else bif !true && !((lastEp E).members.contains member) then (8,E)
      else bif !true&&decide ((lastEp E).members.length=1) then (1,E)
      else (0,E++[⟨slot+alpha,bif true then insM (lastEp E).members member else delM (lastEp E).members member⟩])):=rfl
    generalize hM:(lastEp E).members=M at *
    generalize (lastEp E).from_=fr at *
    have wa:IntKind.i64.wrap (1099511627776-alpha)=1099511627776-alpha:=wrap_id (by omega) (by omega)
    have ws:IntKind.i64.wrap (slot+alpha)=slot+alpha:=wrap_id (by omega) (by omega)
    rw [wa,ws]
    refine fun hr=>br_t (decide_eq_true ⟨by omega,by omega⟩) (br_t (decide_eq_true (by omega)) ?_)
    refine br_i (fun q=>?_) fun q1=>br_i (fun q=>?_) fun q2=>br_i (fun q=>?_) fun q3=>br_i (fun q=>?_) fun q4=>br_i (fun q=>?_) fun q5=>⟨⟨M,member⟩,rfl,rfl,trivial,fun _ _=>?_⟩
    · have e:chgE (toA ⟨alpha,E,slot,member⟩ true)=(1,E):=by rw [hch,q];rfl
      rw [e];exact⟨(),rfl,rfl,rfl,rfl,rfl,trivial⟩
    · have e:chgE (toA ⟨alpha,E,slot,member⟩ true)=(1,E):=by rw [hch,q1,q];rfl
      rw [e];exact⟨(),rfl,rfl,rfl,rfl,rfl,trivial⟩
    · have e:chgE (toA ⟨alpha,E,slot,member⟩ true)=(1,E):=by rw [hch,q1,q2,q];rfl
      rw [e];exact⟨(),rfl,rfl,rfl,rfl,rfl,trivial⟩
    · have e:chgE (toA ⟨alpha,E,slot,member⟩ true)=(1,E):=by rw [hch,q1,q2,q3,q];rfl
      rw [e];exact⟨(),rfl,rfl,rfl,rfl,rfl,trivial⟩
    · have e:chgE (toA ⟨alpha,E,slot,member⟩ true)=(12,E):=by rw [hch,q1,q2,q3,q4,q];rfl
      rw [e];exact⟨(),rfl,rfl,rfl,rfl,rfl,trivial⟩
    have m0:0≤member:=by have:=of_decide_eq_false q3;omega
    have m15:member<15:=by have:=of_decide_eq_false q4;omega
    dsimp only
    refine br_i (fun q=>?_) fun q6=>⟨⟨0,rfl,rfl,rfl,Nat.zero_le _⟩,fun i hi=>br_i (fun h1=>?_) (fun h1=>?_)⟩
    · have e:chgE (toA ⟨alpha,E,slot,member⟩ true)=(9,E):=by rw [hch,q1,q2,q3,q4,q5,q];rfl
      rw [e];exact⟨(),rfl,rfl,rfl,rfl,rfl,trivial⟩
    · have h1:=of_decide_eq_true h1
      have hw:IntKind.i64.wrap ((i:Int)+1)=((i+1:Nat):Int):=by rw [wrap_id (by omega) (by omega)];rfl
      have hl:=memI_len M member true i
      refine br_i (fun p=>?_) fun p=>br_i (fun p2=>⟨⟨M,i⟩,rfl,rfl,trivial,fun _ _=>br_i (fun p3=>?_) fun p3=>?_⟩) fun p2=>?_
      · have hc:((((i:Int)==member)&&true)||(!((i:Int)==member)&&M.contains (i:Int)))=true:=by rw [p];rfl
        exact (fun hz=>br_t (by
        simp only [Bool.and_eq_true,decide_eq_true_eq,List.drop_zero,List.take_succ_cons,List.take_zero,List.length_cons,List.length_nil,Nat.zero_add]
        unfold room47
        omega) ⟨i+1,hw,rfl,by rw [memI_suc,hc];simp,by rw [memI_suc,hc,List.drop_zero,List.take_length];rfl,by show i+1≤15;omega,by show 15-(i+1)<15-i;omega⟩)
      · have hc:((((i:Int)==member)&&true)||(!((i:Int)==member)&&M.contains (i:Int)))=true:=by rw [p];exact p3
        exact (fun hz=>br_t (by
        simp only [Bool.and_eq_true,decide_eq_true_eq,List.drop_zero,List.take_succ_cons,List.take_zero,List.length_cons,List.length_nil,Nat.zero_add]
        unfold room47
        omega) ⟨i+1,hw,rfl,by rw [memI_suc,hc];simp,by rw [memI_suc,hc,List.drop_zero,List.take_length];rfl,by show i+1≤15;omega,by show 15-(i+1)<15-i;omega⟩)
      · have hc:((((i:Int)==member)&&true)||(!((i:Int)==member)&&M.contains (i:Int)))=false:=by rw [p];exact p3
        exact⟨i+1,hw,rfl,by rw [memI_suc,hc];simp,by rw [memI_suc,hc];simp,by show i+1≤15;omega,by show 15-(i+1)<15-i;omega⟩
      · exfalso
        have p2:(!((i:Int)==member))=false:=p2
        rw [p] at p2;cases p2
    · have h1:=of_decide_eq_false h1
      have hi:i≤15:=hi
      have:i=15:=by omega
      subst this
      have hl:=memI_len M member true 15
      have hni:member ∉ M:=fun hm=>by rw [List.contains_iff_mem.2 hm] at q6;cases q6
      have e:chgE (toA ⟨alpha,E,slot,member⟩ true)=(0,E++[⟨slot+alpha,memI M member true 15⟩]):=by
        rw [hch,q1,q2,q3,q4,q5,q6,memI_add hmay m0 m15 hni];rfl
      rw [e]
      generalize memI M member true 15=N at hl ⊢
      refine br_t (by simp) fun hz=>br_t ?_ ⟨(),rfl,rfl,rfl,by simp,?_,trivial⟩
      · simp only [Bool.and_eq_true,decide_eq_true_eq,List.drop_zero,List.take_succ_cons,List.take_zero,List.length_cons,List.length_nil,Nat.zero_add]
        unfold room47
        omega
      · rw [List.drop_zero,List.drop_zero,List.take_length,List.drop_zero,List.take_length];rfl
end Go.Proofs.YtgepebndihfnfaaGreat.Ses
