/- Epochs, sessions, commits, loaded; what a machine tells may be loaded. No condition. -/
import Derived.Test.YtgepebndihfnfaaGreatKMhH
import Derived.KernelRfl
set_option linter.unusedSimpArgs false
set_option linter.unusedVariables false

namespace Go.Proofs.YtgepebndihfnfaaGreat.Ses
open Go Go.Proofs Go.Proofs.YtgepebndihfnfaaGreat.Sx Go.Proofs.YtgepebndihfnfaaGreat.Trx
def scanE:Int→List EpochD→Bool
  | _,[]=>true
  | last,p::t=>mayE p.members&&(decide (last<p.from_)&&(decide (p.from_≤1099511627776)&&scanE p.from_ t))
def eloC (a:Int) (E:List EpochD):Int:=bif decide (a<1)||decide (a>8) then 1 else bif scanE (-1) E&&decide (1≤E.length) then 0 else 4
def fromL (E:List EpochD):Nat→Int
  | 0=>-1
  | i+1=>(E.getD i ⟨0,[]⟩).from_
structure EloA where
  a:Int
  E:List EpochD
noncomputable def eowqT:Tri:={γ:=List EpochD,n0:=0,args:=fun E=>[.rslice false .epoch E],blks:=fun _=>[],pre:=fun _=>True,δ:=Unit,post:=fun _ _=>True,n1:=1,res:=fun E _=>.mslice .epoch 0 0 E.length,blks':=fun E _=>[(0,.rows .epoch E)],scal:=false}
noncomputable def eloI:St→LInv:=fun s=>match getE s.env 15 with
  | .rslice _ .epoch E=>{σ:=Nat,I:=fun i=>i≤E.length∧scanE (fromL E i) (E.drop i)=scanE (-1) E,μ:=fun i=>E.length-i,env:=fun i=>[(17,.int .i64 i),(6,.int .i64 (fromL E i))],blk:=fun _=>[],fresh:=0,drop:=[]}
  | _=>LInv.none
noncomputable def eloE:Envr:=Env Tryz.prog cod [(169,emayT.spec),(151,eowqT.spec)] [(5,eloI)]
noncomputable def elo1T:Tri:={γ:=EloA,n0:=0,args:=fun x=>[.int .i64 x.a,.rslice false .epoch x.E],blks:=fun _=>[],pre:=fun x=>eloC x.a x.E=0,δ:=Unit,post:=fun _ _=>True,n1:=2,res:=fun _ _=>.tuple [.mptr 0 0,.int .i64 0],blks':=fun x _=>epB x.a x.E 0 1,scal:=false}
noncomputable def elo2T:Tri:={γ:=EloA,n0:=0,args:=fun x=>[.int .i64 x.a,.rslice false .epoch x.E],blks:=fun _=>[],pre:=fun x=>(eloC x.a x.E==0)=false,δ:=Unit,post:=fun _ _=>True,n1:=0,res:=fun x _=>.tuple [.nilp,.int .i64 (eloC x.a x.E)],blks':=fun _ _=>[],scal:=false}
set_option maxRecDepth 100000
abbrev eowqQ1 (x:eowqT.γ):=@HAppend.hAppend (List EpochD) (List EpochD) (List EpochD) _ (List.take 0 (List.drop 0 ([]:List EpochD))) x
abbrev eowqQ2 (x6:Nat) (x:eowqT.γ):=decide ((0:Int)≤(↑x6:Int)∧
(↑x6:Int)<(↑(0+List.length x):Int))
abbrev eowqQ3 (x:eowqT.γ) (x6:Nat):=List.getD (eowqQ1 x) (0+(↑x6:Int).toNat) (EpochD.mk (0:Int) ([]:List Int))
theorem eowq_vc (x:eowqT.γ):evCall eownE (ev eownE 1000) 151 (eowqT.args x) ⟨eowqT.blks x,eowqT.n0,[]⟩ (fun _ _=>False) (eowqT.ends x)=(
∀x1:Bool,(x1=true→
x=([]:List EpochD))→
br x1 ((∃x2:Unit,(0:Int)=(0:Int)∧
True)∧
∀x3:Unit,True→
∃x4:Unit,0=List.length x∧
([]:List EpochD)=x∧
True) (Nat.le (0*32) room47∧
Nat.le (List.length x*32) room47→
br (Bool.and (Bool.and true (decide (0+0≤([]:List EpochD).length))) (decide ((0+List.length x)*32≤room47))) ((0+List.length x)*32≤room47→
(∃x5:Nat,(0:Int)=(↑x5:Int)∧
eowqQ1 x=eowqQ1 x∧
Nat.le x5 (eowqQ1 x).length)∧
∀x6:Nat,Nat.le x6 (eowqQ1 x).length→
br (decide ((↑x6:Int)<(↑(0+List.length x):Int))) (br (eowqQ2 x6 x) (br (decide (0+(↑x6:Int).toNat<(eowqQ1 x).length)) (∃x7:(List Int),(eowqQ3 x x6).members=x7∧
True∧
∀x8:Unit,True→
br (eowqQ2 x6 x) (br (Bool.and true (decide (0+(↑x6:Int).toNat<(eowqQ1 x).length))) (∃x9:Nat,IntKind.wrap IntKind.i64 ((↑x6:Int)+(1:Int))=(↑x9:Int)∧
List.set (eowqQ1 x) (0+(↑x6:Int).toNat) (EpochD.mk (eowqQ3 x x6).from_ x7)=eowqQ1 x∧
Nat.le x9 (eowqQ1 x).length∧
Nat.sub (eowqQ1 x).length x9<Nat.sub (eowqQ1 x).length x6) (Bad "check" "epoch.go:61")) (Bad "check" "epoch.go:61")) (Bad "check" "epoch.go:61")) (Bad "check" "epoch.go:61")) (∃x10:Unit,0=0∧
0+List.length x=List.length x∧
eowqQ1 x=x∧
True)) (Bad "check" "slices.go:362"))):=by kernel_rfl
abbrev elo1Q1  := ∃x1:Unit,Bad "match: mptr" ""
abbrev elo1Q2 (x3:Nat) (x:elo1T.γ):=x3≤(EloA.E x).length∧
scanE (fromL (EloA.E x) x3) (List.drop x3 (EloA.E x))=scanE (@Neg.neg Int _ (1:Int)) (EloA.E x)
abbrev elo1Q3 (x:elo1T.γ) (x4:Nat):=List.getD (EloA.E x) (↑x4:Int).toNat (EpochD.mk (0:Int) ([]:List Int))
theorem elo1_vc (x:elo1T.γ):evCall eloE (ev eloE 1000) 119 (elo1T.args x) ⟨elo1T.blks x,elo1T.n0,[]⟩ (fun _ _=>False) (elo1T.ends x)=(
br (decide (EloA.a x<(1:Int))) elo1Q1 (br (decide (EloA.a x>(8:Int))) elo1Q1 ((EloA.E x).length*32≤room47→
(∃x3:Nat,(0:Int)=(↑x3:Int)∧
@Neg.neg Int _ (1:Int)=fromL (EloA.E x) x3∧
elo1Q2 x3 x)∧
∀x4:Nat,elo1Q2 x4 x→
br (decide ((↑x4:Int)<(↑(EloA.E x).length:Int))) (br (decide ((0:Int)≤(↑x4:Int)∧
(↑x4:Int)<(↑(EloA.E x).length:Int))) (∃x5:(List Int),(elo1Q3 x x4).members=x5∧
True∧
∀x6:Unit,True→
br (mayE x5).not elo1Q1 (br (decide ((elo1Q3 x x4).from_≤fromL (EloA.E x) x4)) elo1Q1 (br (decide ((elo1Q3 x x4).from_>(1099511627776:Int))) elo1Q1 (∃x10:Nat,IntKind.wrap IntKind.i64 ((↑x4:Int)+(1:Int))=(↑x10:Int)∧
(elo1Q3 x x4).from_=fromL (EloA.E x) x10∧
elo1Q2 x10 x∧
Nat.sub (EloA.E x).length x10<Nat.sub (EloA.E x).length x4)))) (Bad "check" "epoch.go:45")) ((EloA.E x).length*32≤room47→
br ((↑(EloA.E x).length:Int)==(0:Int)) elo1Q1 (∃x12:(List EpochD),EloA.E x=x12∧
True∧
∀x13:Unit,True→
∃x14:Unit,(0:Int)=(0:Int)∧
EqT (EloA.a x) (EloA.a x) x12 (EloA.E x) True))))):=by kernel_rfl
abbrev elo2Q1 (x:elo2T.γ):=∃x1:Unit,(1:Int)=eloC (EloA.a x) (EloA.E x)∧
True
abbrev elo2Q2 (x3:Nat) (x:elo2T.γ):=x3≤(EloA.E x).length∧
scanE (fromL (EloA.E x) x3) (List.drop x3 (EloA.E x))=scanE (@Neg.neg Int _ (1:Int)) (EloA.E x)
abbrev elo2Q3 (x:elo2T.γ) (x4:Nat):=List.getD (EloA.E x) (↑x4:Int).toNat (EpochD.mk (0:Int) ([]:List Int))
abbrev elo2Q4 (x:elo2T.γ):=∃x7:Unit,(4:Int)=eloC (EloA.a x) (EloA.E x)∧
True
theorem elo2_vc (x:elo2T.γ):evCall eloE (ev eloE 1000) 119 (elo2T.args x) ⟨elo2T.blks x,elo2T.n0,[]⟩ (fun _ _=>False) (elo2T.ends x)=(
br (decide (EloA.a x<(1:Int))) (elo2Q1 x) (br (decide (EloA.a x>(8:Int))) (elo2Q1 x) ((EloA.E x).length*32≤room47→
(∃x3:Nat,(0:Int)=(↑x3:Int)∧
@Neg.neg Int _ (1:Int)=fromL (EloA.E x) x3∧
elo2Q2 x3 x)∧
∀x4:Nat,elo2Q2 x4 x→
br (decide ((↑x4:Int)<(↑(EloA.E x).length:Int))) (br (decide ((0:Int)≤(↑x4:Int)∧
(↑x4:Int)<(↑(EloA.E x).length:Int))) (∃x5:(List Int),(elo2Q3 x x4).members=x5∧
True∧
∀x6:Unit,True→
br (mayE x5).not (elo2Q4 x) (br (decide ((elo2Q3 x x4).from_≤fromL (EloA.E x) x4)) (elo2Q4 x) (br (decide ((elo2Q3 x x4).from_>(1099511627776:Int))) (elo2Q4 x) (∃x10:Nat,IntKind.wrap IntKind.i64 ((↑x4:Int)+(1:Int))=(↑x10:Int)∧
(elo2Q3 x x4).from_=fromL (EloA.E x) x10∧
elo2Q2 x10 x∧
Nat.sub (EloA.E x).length x10<Nat.sub (EloA.E x).length x4)))) (Bad "check" "epoch.go:45")) ((EloA.E x).length*32≤room47→
br ((↑(EloA.E x).length:Int)==(0:Int)) (elo2Q4 x) (∃x12:(List EpochD),EloA.E x=x12∧
True∧
∀x13:Unit,True→
∃x14:Unit,Bad "match: nilp" ""))))):=by kernel_rfl
theorem eowq_ok:SpecOK Tryz.prog 151 eowqT.spec:=by
  refine Tri.ok (E:=eownE) (Env_ok (by decide +kernel) (by simp [icln_ok])) (n:=1000) eowqT fun E hp=>?_
  rw [eowq_vc]
  delta eowqQ3 eowqQ2 eowqQ1
  clear hp
  revert E
  intro (E:List EpochD)
  simp only [List.take_zero,List.nil_append,Nat.zero_add]
  refine fun b hb=>br_i (fun h=>?_) fun _ hm=>br_t ?_ fun hr=>⟨⟨0,by trivial,by trivial,Nat.zero_le _⟩,fun i hi=>br_i (fun h3=>?_) (fun h3=>⟨(),by trivial,by trivial,by trivial,trivial⟩)⟩
  · have he:E=[]:=hb h
    rw [he]
    exact⟨⟨(),by trivial,trivial⟩,fun _ _=>⟨(),by trivial,by trivial,trivial⟩⟩
  · have hm2:E.length*32≤room47:=hm.2
    simp only [Bool.and_eq_true]
    exact⟨⟨by trivial,decide_eq_true (by simp)⟩,decide_eq_true hm2⟩
  · have h3:=of_decide_eq_true h3
    have hlt:i<E.length:=by omega
    have e0:(i:Int).toNat=i:=rfl
    rw [e0]
    have bi:decide ((0:Int)≤(i:Int)∧(i:Int)<(E.length:Int))=true:=decide_eq_true ⟨by omega,h3⟩
    have br47:E.length*32≤room47:=hr
    have hsm:E.length≤4398046511104:=by unfold room47 at br47;omega
    have hset:List.set E i ⟨(E.getD i ⟨0,[]⟩).from_,(E.getD i ⟨0,[]⟩).members⟩=E:=by
      have e:(⟨(E.getD i ⟨0,[]⟩).from_,(E.getD i ⟨0,[]⟩).members⟩:EpochD)=E[i]:=by
        rw [List.getD_eq_getElem?_getD,List.getElem?_eq_getElem hlt];rfl
      rw [e];exact List.set_getElem_self ..
    exact br_t bi (br_t (decide_eq_true hlt) ⟨_,rfl,trivial,fun _ _=>br_t bi (br_t (by rw [decide_eq_true hlt];rfl) ⟨i+1,by rw [wrap_id (by omega) (by omega)];rfl,hset,hlt,by show E.length-(i+1)<E.length-i;omega⟩)⟩)
theorem scan_step {E:List EpochD} {i:Nat} (h:i<E.length):scanE (fromL E i) (E.drop i)=(mayE (E.getD i ⟨0,[]⟩).members&&(decide (fromL E i<(E.getD i ⟨0,[]⟩).from_)&&(decide ((E.getD i ⟨0,[]⟩).from_≤1099511627776)&&scanE (fromL E (i+1)) (E.drop (i+1))))):=by
  rw [drop_getD ⟨0,[]⟩ h];rfl
theorem elo1_ok:SpecOK Tryz.prog 119 elo1T.spec:=by
  refine Tri.ok (E:=eloE) (Env_ok (by decide +kernel) (by simp [emay_ok,eowq_ok])) (n:=1000) elo1T fun x hx=>?_
  rw [elo1_vc]
  delta elo1Q3 elo1Q2 elo1Q1 EqT
  obtain⟨a,E⟩:=x
  have hx:eloC a E=0:=hx
  dsimp only
  have hx':(¬a<1∧¬a>8)∧scanE (-1) E=true∧1≤E.length:=by
    unfold eloC at hx
    cases h1:decide (a<1)||decide (a>8)
    · rw [h1] at hx
      rw [Bool.or_eq_false_iff] at h1
      cases h2:scanE (-1) E&&decide (1≤E.length)
      · rw [h2] at hx
        have hx:(4:Int)=0:=hx
        omega
      · rw [Bool.and_eq_true] at h2
        exact⟨⟨of_decide_eq_false h1.1,of_decide_eq_false h1.2⟩,h2.1,of_decide_eq_true h2.2⟩
    · rw [h1] at hx
      have hx:(1:Int)=0:=hx
      omega
  obtain⟨⟨a1,a2⟩,hs,hl⟩:=hx'
  refine br_f (decide_eq_false a1) (br_f (decide_eq_false a2) fun hr=>⟨⟨0,rfl,rfl,Nat.zero_le _,rfl⟩,fun i hi=>br_i (fun h1=>?_) (fun h1 _=>br_f ?_ ⟨E,rfl,trivial,fun _ _=>⟨(),rfl,rfl,rfl,rfl,rfl,trivial⟩⟩)⟩)
  · have h1:(i:Int)<(E.length:Int):=of_decide_eq_true h1
    have hsm:E.length≤4398046511104:=by unfold room47 at hr;omega
    obtain⟨i1,i2⟩:=hi
    have e0:(i:Int).toNat=i:=rfl
    rw [e0]
    have hst:=scan_step (by omega:i<E.length)
    rw [i2,hs] at hst
    have hst:=hst.symm
    simp only [Bool.and_eq_true,decide_eq_true_eq] at hst
    obtain⟨s1,s2,s3,s4⟩:=hst
    exact br_t (decide_eq_true ⟨by omega,h1⟩) ⟨_,rfl,trivial,fun _ _=>br_f (by rw [s1];rfl) (br_f (decide_eq_false (by omega)) (br_f (decide_eq_false (by omega)) ⟨i+1,by rw [wrap_id (by omega) (by omega)];rfl,rfl,⟨by omega,by rw [s4,hs]⟩,by show E.length-(i+1)<E.length-i;omega⟩))⟩
  · exact beq_eq_false_iff_ne.2 (by omega)
theorem elo2_ok:SpecOK Tryz.prog 119 elo2T.spec:=by
  refine Tri.ok (E:=eloE) (Env_ok (by decide +kernel) (by simp [emay_ok,eowq_ok])) (n:=1000) elo2T fun x hx=>?_
  rw [elo2_vc]
  delta elo2Q4 elo2Q3 elo2Q2 elo2Q1
  obtain⟨a,E⟩:=x
  have hx:(eloC a E==0)=false:=hx
  dsimp only
  have h1:a<1∨a>8→(1:Int)=eloC a E:=fun h=>by
    unfold eloC
    have:(decide (a<1)||decide (a>8))=true:=by
      rw [Bool.or_eq_true,decide_eq_true_eq,decide_eq_true_eq];exact h
    rw [this];rfl
  have h4:¬a<1→¬a>8→(scanE (-1) E&&decide (1≤E.length))=false→(4:Int)=eloC a E:=fun p q h=>by
    unfold eloC
    rw [decide_eq_false p,decide_eq_false q,h];rfl
  refine br_i (fun p=>⟨(),h1 (.inl (of_decide_eq_true p)),trivial⟩) fun p=>br_i (fun q=>⟨(),h1 (.inr (of_decide_eq_true q)),trivial⟩) fun q hr=>⟨⟨0,rfl,rfl,Nat.zero_le _,rfl⟩,fun i hi=>br_i (fun g=>?_) (fun g _=>br_i (fun e=>⟨(),h4 (of_decide_eq_false p) (of_decide_eq_false q) ?_,trivial⟩) (fun e=>?_))⟩
  · have g:(i:Int)<(E.length:Int):=of_decide_eq_true g
    have hsm:E.length≤4398046511104:=by unfold room47 at hr;omega
    obtain⟨i1,i2⟩:=hi
    have e0:(i:Int).toNat=i:=rfl
    rw [e0]
    have hst:=scan_step (by omega:i<E.length)
    rw [i2] at hst
    have bad:scanE (-1) E=false→(4:Int)=eloC a E:=fun h=>h4 (of_decide_eq_false p) (of_decide_eq_false q) (by rw [h];rfl)
    refine br_t (decide_eq_true ⟨by omega,g⟩) ⟨_,rfl,trivial,fun _ _=>br_i (fun c1=>⟨(),bad ?_,trivial⟩) fun c1=>br_i (fun c2=>⟨(),bad ?_,trivial⟩) fun c2=>br_i (fun c3=>⟨(),bad ?_,trivial⟩) fun c3=>⟨i+1,by rw [wrap_id (by omega) (by omega)];rfl,rfl,⟨by omega,?_⟩,by show E.length-(i+1)<E.length-i;omega⟩⟩
    · rw [Bool.not_eq_true'] at c1
      rw [hst,c1];rfl
    · have c2:=of_decide_eq_true c2
      rw [hst,decide_eq_false (by omega:¬fromL E i<(E.getD i ⟨0,[]⟩).from_)];simp
    · have c3:=of_decide_eq_true c3
      rw [hst,decide_eq_false (by omega:¬(E.getD i ⟨0,[]⟩).from_≤1099511627776)];simp
    · have c2:=of_decide_eq_false c2
      have c3:=of_decide_eq_false c3
      rw [Bool.not_eq_false'] at c1
      rw [hst,c1,decide_eq_true (by omega:fromL E i<(E.getD i ⟨0,[]⟩).from_),decide_eq_true (by omega:(E.getD i ⟨0,[]⟩).from_≤1099511627776)];rfl
  · have e:(E.length:Int)=0:=eq_of_beq e
    rw [decide_eq_false (by omega:¬1≤E.length),Bool.and_false]
  · have g:¬(i:Int)<(E.length:Int):=of_decide_eq_false g
    have e:¬(E.length:Int)=0:=beq_eq_false_iff_ne.1 e
    obtain⟨i1,i2⟩:=hi
    rw [List.drop_of_length_le (by omega)] at i2
    have:eloC a E=0:=by
      unfold eloC
      rw [p,q,←i2,decide_eq_true (by omega:1≤E.length)];rfl
    rw [this] at hx
    cases hx
noncomputable def elrI:St→LInv:=fun s=>match getE s.env 1 with
  | .rslice _ .epoch E=>{σ:=Nat,I:=fun i=>i≤E.length ∧ -1≤fromL E i∧scanE (fromL E i) (E.drop i)=scanE (-1) E,μ:=fun i=>E.length-i,env:=fun i=>[(6,.int .i64 i)],blk:=fun _=>[],fresh:=0,drop:=[]}
  | _=>LInv.none
noncomputable def elrE:Envr:=Env Tryz.prog cod [(170,rmayT.spec),(117,ceqT.spec)] [(6,elrI)]
set_option maxRecDepth 100000
abbrev elr1Q1  := ∃x1:Unit,Bad "match: mptr" ""
abbrev elr1Q2 (x4:Nat) (x:elo1T.γ):=x4≤(EloA.E x).length∧
@Neg.neg Int _ (1:Int)≤fromL (EloA.E x) x4∧
scanE (fromL (EloA.E x) x4) (List.drop x4 (EloA.E x))=scanE (@Neg.neg Int _ (1:Int)) (EloA.E x)
abbrev elr1Q3 (x5:Nat) (x:elo1T.γ):=decide ((0:Int)≤(↑x5:Int)∧
(↑x5:Int)<(↑(EloA.E x).length:Int))
abbrev elr1Q4  := EpochD.mk (0:Int) ([]:List Int)
abbrev elr1Q5 (x:elo1T.γ) (x5:Nat):=(List.getD (EloA.E x) (↑x5:Int).toNat elr1Q4).from_
abbrev elr1Q6 (x5:Nat):=IntKind.wrap IntKind.i64 ((↑x5:Int)-(1:Int))
abbrev elr1Q7 (x5:Nat) (x:elo1T.γ):=∃x12:Nat,IntKind.wrap IntKind.i64 ((↑x5:Int)+(1:Int))=(↑x12:Int)∧
elr1Q2 x12 x∧
Nat.sub (EloA.E x).length x12<Nat.sub (EloA.E x).length x5
theorem elr1_vc (x:elo1T.γ):evCall elrE (ev elrE 1000) 124 (elo1T.args x) ⟨elo1T.blks x,elo1T.n0,[]⟩ (fun _ _=>False) (elo1T.ends x)=(
br (decide (EloA.a x<(1:Int))) elr1Q1 (br (decide (EloA.a x>(8:Int))) elr1Q1 ((EloA.E x).length*32≤room47→
br ((↑(EloA.E x).length:Int)==(0:Int)) elr1Q1 ((∃x4:Nat,(0:Int)=(↑x4:Int)∧
elr1Q2 x4 x)∧
∀x5:Nat,elr1Q2 x5 x→
(EloA.E x).length*32≤room47→
br (decide ((↑x5:Int)<(↑(EloA.E x).length:Int))) (br (elr1Q3 x5 x) (∃x6:(List Int),(List.getD (EloA.E x) (↑x5:Int).toNat elr1Q4).members=x6∧
True∧
∀x7:Unit,True→
br (mayE x6).not elr1Q1 (br (elr1Q3 x5 x) (br (decide (elr1Q5 x x5<(0:Int))) elr1Q1 (br (elr1Q3 x5 x) (br (decide (elr1Q5 x x5>(1099511627776:Int))) elr1Q1 (br (decide ((↑x5:Int)>(0:Int))) (br (elr1Q3 x5 x) (br (decide ((0:Int)≤elr1Q6 x5∧
elr1Q6 x5<(↑(EloA.E x).length:Int))) (br (decide (elr1Q5 x x5≤(List.getD (EloA.E x) (elr1Q6 x5).toNat elr1Q4).from_)) elr1Q1 (elr1Q7 x5 x)) (Bad "check" "ref.go:230")) (Bad "check" "ref.go:230")) (elr1Q7 x5 x))) (Bad "check" "ref.go:230"))) (Bad "check" "ref.go:230"))) (Bad "check" "ref.go:230")) (∃x14:(List EpochD),EloA.E x=x14∧
True∧
∀x15:Unit,True→
∃x16:Unit,(0:Int)=(0:Int)∧
EqT (EloA.a x) (EloA.a x) x14 (EloA.E x) True))))):=by kernel_rfl
abbrev elr2Q1 (x:elo2T.γ):=∃x1:Unit,(1:Int)=eloC (EloA.a x) (EloA.E x)∧
True
abbrev elr2Q2 (x:elo2T.γ):=∃x3:Unit,(4:Int)=eloC (EloA.a x) (EloA.E x)∧
True
abbrev elr2Q3 (x4:Nat) (x:elo2T.γ):=x4≤(EloA.E x).length∧
@Neg.neg Int _ (1:Int)≤fromL (EloA.E x) x4∧
scanE (fromL (EloA.E x) x4) (List.drop x4 (EloA.E x))=scanE (@Neg.neg Int _ (1:Int)) (EloA.E x)
abbrev elr2Q4 (x5:Nat) (x:elo2T.γ):=decide ((0:Int)≤(↑x5:Int)∧
(↑x5:Int)<(↑(EloA.E x).length:Int))
abbrev elr2Q5  := EpochD.mk (0:Int) ([]:List Int)
abbrev elr2Q6 (x:elo2T.γ) (x5:Nat):=(List.getD (EloA.E x) (↑x5:Int).toNat elr2Q5).from_
abbrev elr2Q7 (x5:Nat):=IntKind.wrap IntKind.i64 ((↑x5:Int)-(1:Int))
abbrev elr2Q8 (x5:Nat) (x:elo2T.γ):=∃x12:Nat,IntKind.wrap IntKind.i64 ((↑x5:Int)+(1:Int))=(↑x12:Int)∧
elr2Q3 x12 x∧
Nat.sub (EloA.E x).length x12<Nat.sub (EloA.E x).length x5
theorem elr2_vc (x:elo2T.γ):evCall elrE (ev elrE 1000) 124 (elo2T.args x) ⟨elo2T.blks x,elo2T.n0,[]⟩ (fun _ _=>False) (elo2T.ends x)=(
br (decide (EloA.a x<(1:Int))) (elr2Q1 x) (br (decide (EloA.a x>(8:Int))) (elr2Q1 x) ((EloA.E x).length*32≤room47→
br ((↑(EloA.E x).length:Int)==(0:Int)) (elr2Q2 x) ((∃x4:Nat,(0:Int)=(↑x4:Int)∧
elr2Q3 x4 x)∧
∀x5:Nat,elr2Q3 x5 x→
(EloA.E x).length*32≤room47→
br (decide ((↑x5:Int)<(↑(EloA.E x).length:Int))) (br (elr2Q4 x5 x) (∃x6:(List Int),(List.getD (EloA.E x) (↑x5:Int).toNat elr2Q5).members=x6∧
True∧
∀x7:Unit,True→
br (mayE x6).not (elr2Q2 x) (br (elr2Q4 x5 x) (br (decide (elr2Q6 x x5<(0:Int))) (elr2Q2 x) (br (elr2Q4 x5 x) (br (decide (elr2Q6 x x5>(1099511627776:Int))) (elr2Q2 x) (br (decide ((↑x5:Int)>(0:Int))) (br (elr2Q4 x5 x) (br (decide ((0:Int)≤elr2Q7 x5∧
elr2Q7 x5<(↑(EloA.E x).length:Int))) (br (decide (elr2Q6 x x5≤(List.getD (EloA.E x) (elr2Q7 x5).toNat elr2Q5).from_)) (elr2Q2 x) (elr2Q8 x5 x)) (Bad "check" "ref.go:230")) (Bad "check" "ref.go:230")) (elr2Q8 x5 x))) (Bad "check" "ref.go:230"))) (Bad "check" "ref.go:230"))) (Bad "check" "ref.go:230")) (∃x14:(List EpochD),EloA.E x=x14∧
True∧
∀x15:Unit,True→
∃x16:Unit,Bad "match: nilp" ""))))):=by kernel_rfl
theorem from_pos {E:List EpochD} {i:Nat} (h:0<i):fromL E i=(E.getD (i-1) ⟨0,[]⟩).from_:=by
  cases i with
  | zero=>omega
  | succ i=>rfl
theorem elr1_ok:SpecOK Tryz.prog 124 elo1T.spec:=by
  refine Tri.ok (E:=elrE) (Env_ok (by decide +kernel) (by simp [rmay_ok,ceq_ok])) (n:=1000) elo1T fun x hx=>?_
  rw [elr1_vc]
  delta elr1Q7 elr1Q6 elr1Q5 elr1Q4 elr1Q3 elr1Q2 elr1Q1 EqT
  obtain⟨a,E⟩:=x
  have hx:eloC a E=0:=hx
  dsimp only
  have hx':(¬a<1∧¬a>8)∧scanE (-1) E=true∧1≤E.length:=by
    unfold eloC at hx
    cases h1:decide (a<1)||decide (a>8)
    · rw [h1] at hx
      rw [Bool.or_eq_false_iff] at h1
      cases h2:scanE (-1) E&&decide (1≤E.length)
      · rw [h2] at hx
        have hx:(4:Int)=0:=hx
        omega
      · rw [Bool.and_eq_true] at h2
        exact⟨⟨of_decide_eq_false h1.1,of_decide_eq_false h1.2⟩,h2.1,of_decide_eq_true h2.2⟩
    · rw [h1] at hx
      have hx:(1:Int)=0:=hx
      omega
  obtain⟨⟨a1,a2⟩,hs,hl⟩:=hx'
  refine br_f (decide_eq_false a1) (br_f (decide_eq_false a2) fun hr=>br_f (beq_eq_false_iff_ne.2 (by omega)) ⟨⟨0,rfl,Nat.zero_le _,by show (-1:Int) ≤ -1;omega,rfl⟩,fun i hi _=>br_i (fun h1=>?_) (fun h1=>⟨E,rfl,trivial,fun _ _=>⟨(),rfl,rfl,rfl,rfl,rfl,trivial⟩⟩)⟩)
  have h1:(i:Int)<(E.length:Int):=of_decide_eq_true h1
  have hsm:E.length≤4398046511104:=by unfold room47 at hr;omega
  obtain⟨i1,i3,i2⟩:=hi
  have e0:(i:Int).toNat=i:=rfl
  rw [e0]
  have hst:=scan_step (by omega:i<E.length)
  rw [i2,hs] at hst
  have hst:=hst.symm
  simp only [Bool.and_eq_true,decide_eq_true_eq] at hst
  obtain⟨s1,s2,s3,s4⟩:=hst
  have bi:decide ((0:Int)≤(i:Int)∧(i:Int)<(E.length:Int))=true:=decide_eq_true ⟨by omega,h1⟩
  have nx:∃x12:Nat,IntKind.i64.wrap ((i:Int)+1)=(x12:Int)∧(x12≤E.length ∧ -1≤fromL E x12∧scanE (fromL E x12) (E.drop x12)=scanE (-1) E)∧Nat.sub E.length x12<Nat.sub E.length i:=⟨i+1,by rw [wrap_id (by omega) (by omega)];rfl,⟨by omega,by show -1≤(E.getD i ⟨0,[]⟩).from_;omega,by rw [s4,hs]⟩,by show E.length-(i+1)<E.length-i;omega⟩
  refine br_t bi ⟨_,rfl,trivial,fun _ _=>br_f (by rw [s1];rfl) (br_t bi (br_f (decide_eq_false (by omega)) (br_t bi (br_f (decide_eq_false (by omega)) (br_i (fun g=>br_t bi ?_) (fun _=>nx))))))⟩
  have g:=of_decide_eq_true g
  have hw:IntKind.i64.wrap ((i:Int)-1)=((i-1:Nat):Int):=by rw [wrap_id (by omega) (by omega)];omega
  rw [hw]
  have e1:((i-1:Nat):Int).toNat=i-1:=rfl
  rw [e1,←from_pos (by omega:0<i)]
  exact br_t (decide_eq_true ⟨by omega,by omega⟩) (br_f (decide_eq_false (by omega)) nx)
theorem elr2_ok:SpecOK Tryz.prog 124 elo2T.spec:=by
  refine Tri.ok (E:=elrE) (Env_ok (by decide +kernel) (by simp [rmay_ok,ceq_ok])) (n:=1000) elo2T fun x hx=>?_
  rw [elr2_vc]
  delta elr2Q8 elr2Q7 elr2Q6 elr2Q5 elr2Q4 elr2Q3 elr2Q2 elr2Q1
  obtain⟨a,E⟩:=x
  have hx:(eloC a E==0)=false:=hx
  dsimp only
  have h1:a<1∨a>8→(1:Int)=eloC a E:=fun h=>by
    unfold eloC
    have:(decide (a<1)||decide (a>8))=true:=by
      rw [Bool.or_eq_true,decide_eq_true_eq,decide_eq_true_eq];exact h
    rw [this];rfl
  have h4:¬a<1→¬a>8→(scanE (-1) E&&decide (1≤E.length))=false→(4:Int)=eloC a E:=fun p q h=>by
    unfold eloC
    rw [decide_eq_false p,decide_eq_false q,h];rfl
  refine br_i (fun p=>⟨(),h1 (.inl (of_decide_eq_true p)),trivial⟩) fun p=>br_i (fun q=>⟨(),h1 (.inr (of_decide_eq_true q)),trivial⟩) fun q hr=>br_i (fun e=>⟨(),h4 (of_decide_eq_false p) (of_decide_eq_false q) ?_,trivial⟩) fun e=>⟨⟨0,rfl,Nat.zero_le _,by show (-1:Int) ≤ -1;omega,rfl⟩,fun i hi _=>br_i (fun g=>?_) (fun g=>?_)⟩
  · have e:(E.length:Int)=0:=eq_of_beq e
    rw [decide_eq_false (by omega:¬1≤E.length),Bool.and_false]
  · have g:(i:Int)<(E.length:Int):=of_decide_eq_true g
    have hsm:E.length≤4398046511104:=by unfold room47 at hr;omega
    obtain⟨i1,i3,i2⟩:=hi
    have e0:(i:Int).toNat=i:=rfl
    rw [e0]
    have hst:=scan_step (by omega:i<E.length)
    rw [i2] at hst
    have bad:scanE (-1) E=false→(4:Int)=eloC a E:=fun h=>h4 (of_decide_eq_false p) (of_decide_eq_false q) (by rw [h];rfl)
    have bi:decide ((0:Int)≤(i:Int)∧(i:Int)<(E.length:Int))=true:=decide_eq_true ⟨by omega,g⟩
    have nx:mayE (E.getD i ⟨0,[]⟩).members=true→fromL E i<(E.getD i ⟨0,[]⟩).from_→(E.getD i ⟨0,[]⟩).from_≤1099511627776 → ∃x12:Nat,IntKind.i64.wrap ((i:Int)+1)=(x12:Int)∧(x12≤E.length ∧ -1≤fromL E x12∧scanE (fromL E x12) (E.drop x12)=scanE (-1) E)∧Nat.sub E.length x12<Nat.sub E.length i:=fun c1 c2 c3=>⟨i+1,by rw [wrap_id (by omega) (by omega)];rfl,⟨by omega,by show -1≤(E.getD i ⟨0,[]⟩).from_;omega,by rw [hst,c1,decide_eq_true c2,decide_eq_true c3];rfl⟩,by show E.length-(i+1)<E.length-i;omega⟩
    refine br_t bi ⟨_,rfl,trivial,fun _ _=>br_i (fun c1=>⟨(),bad ?_,trivial⟩) fun c1=>br_t bi (br_i (fun c2=>⟨(),bad ?_,trivial⟩) fun c2=>br_t bi (br_i (fun c3=>⟨(),bad ?_,trivial⟩) fun c3=>br_i (fun g0=>br_t bi ?_) (fun g0=>?_)))⟩
    · rw [Bool.not_eq_true'] at c1
      rw [hst,c1];rfl
    · have c2:=of_decide_eq_true c2
      rw [hst,decide_eq_false (by omega:¬fromL E i<(E.getD i ⟨0,[]⟩).from_)];simp
    · have c3:=of_decide_eq_true c3
      rw [hst,decide_eq_false (by omega:¬(E.getD i ⟨0,[]⟩).from_≤1099511627776)];simp
    · have c3:=of_decide_eq_false c3
      rw [Bool.not_eq_false'] at c1
      have g0:=of_decide_eq_true g0
      have hw:IntKind.i64.wrap ((i:Int)-1)=((i-1:Nat):Int):=by rw [wrap_id (by omega) (by omega)];omega
      rw [hw]
      have e1:((i-1:Nat):Int).toNat=i-1:=rfl
      rw [e1,←from_pos (by omega:0<i)]
      refine br_t (decide_eq_true ⟨by omega,by omega⟩) (br_i (fun c4=>⟨(),bad ?_,trivial⟩) (fun c4=>nx c1 (by have:=of_decide_eq_false c4;omega) (by omega)))
      have c4:=of_decide_eq_true c4
      rw [hst,decide_eq_false (by omega:¬fromL E i<(E.getD i ⟨0,[]⟩).from_)];simp
    · have c2:=of_decide_eq_false c2
      have c3:=of_decide_eq_false c3
      rw [Bool.not_eq_false'] at c1
      have g0:=of_decide_eq_false g0
      have:i=0:=by omega
      subst this
      exact nx c1 (by show (-1:Int)<_;omega) (by omega)
  · have g:¬(i:Int)<(E.length:Int):=of_decide_eq_false g
    have e:¬(E.length:Int)=0:=beq_eq_false_iff_ne.1 e
    obtain⟨i1,_,i2⟩:=hi
    rw [List.drop_of_length_le (by omega)] at i2
    have:eloC a E=0:=by
      unfold eloC
      rw [p,q,←i2,decide_eq_true (by omega:1≤E.length)];rfl
    rw [this] at hx
    cases hx
def noS:SessionD:=⟨0,0,[],VerdictD.dflt⟩
def sameS (a b:SessionD):Bool:=a.id==b.id||a.name==b.name
def rowS (l:List SessionD) (i:Nat):Bool:=decide (0≤(l.getD i noS).seq)&&(List.range i).all fun k=>!(sameS (l.getD k noS) (l.getD i noS))
def scanS (l:List SessionD):Bool:=(List.range l.length).all (rowS l)
def sloC (z:Int) (l:List SessionD):Int:=bif decide (z<1)||decide (z>16) then 1 else bif decide ((l.length:Int)>z) then 4 else bif scanS l then 0 else 4
structure SloA where
  z:Int
  l:List SessionD
noncomputable def sloI7:St→LInv:=fun s=>match getE s.env 22 with
  | .rslice _ .session l=>{σ:=Nat,I:=fun i=>i≤l.length ∧ ∀j,j<i→rowS l j=true,μ:=fun i=>l.length-i,env:=fun i=>[(24,.int .i64 i)],blk:=fun _=>[],fresh:=0,drop:=[]}
  | _=>LInv.none
noncomputable def sloI2:St→LInv:=fun s=>match getE s.env 0,getE s.env 1 with
  | .rslice _ .session l,.fn _ _ [.mptr k _]=>match s.m.blks.get k with
    | some (.cells cs)=>match dec .session cs with
      | some (e:SessionD)=>{σ:=Nat,I:=fun i=>i≤l.length ∧ ∀j,j<i→sameS (l.getD j noS) e=false,μ:=fun i=>l.length-i,env:=fun i=>[(8,.int .i64 i)],blk:=fun _=>[],fresh:=0,drop:=[]}
      | none=>LInv.none
    | _=>LInv.none
  | _,_=>LInv.none
noncomputable def cpqT:Tri:={γ:=List SessionD,n0:=0,args:=fun l=>[.rslice false .session l],blks:=fun _=>[],pre:=fun _=>True,δ:=Unit,post:=fun _ _=>True,n1:=1,res:=fun l _=>.mslice .session 0 0 l.length,blks':=fun l _=>[(0,.rows .session l)],scal:=false}
noncomputable def sloE:Envr:=Env Tryz.prog cod [(167,cpqT.spec)] [(7,sloI7),(2,sloI2)]
noncomputable def slo1T:Tri:={γ:=SloA,n0:=0,args:=fun x=>[.int .i64 x.z,.rslice false .session x.l],blks:=fun _=>[],pre:=fun x=>sloC x.z x.l=0,δ:=Unit,post:=fun _ _=>True,n1:=2,res:=fun _ _=>.tuple [.mptr 0 0,.int .i64 0],blks':=fun x _=>[(0,.cells [.int .i64 x.z,.mslice .session 1 0 x.l.length]),(1,.rows .session x.l)],scal:=false}
noncomputable def slo2T:Tri:={γ:=SloA,n0:=0,args:=fun x=>[.int .i64 x.z,.rslice false .session x.l],blks:=fun _=>[],pre:=fun x=>(sloC x.z x.l==0)=false,δ:=Unit,post:=fun _ _=>True,n1:=0,res:=fun x _=>.tuple [.nilp,.int .i64 (sloC x.z x.l)],blks':=fun _ _=>[],scal:=false}
set_option maxRecDepth 100000
abbrev cpqQ1 (x:cpqT.γ):=@HAppend.hAppend (List SessionD) (List SessionD) (List SessionD) _ (List.take 0 (List.drop 0 ([]:List SessionD))) x
abbrev cpqQ2 (x6:Nat) (x:cpqT.γ):=decide ((0:Int)≤(↑x6:Int)∧
(↑x6:Int)<(↑(0+List.length x):Int))
abbrev cpqQ3 (x:cpqT.γ) (x6:Nat):=List.getD (cpqQ1 x) (0+(↑x6:Int).toNat) (SessionD.mk (0:Int) (0:Int) ([]:List UInt8) VerdictD.dflt)
theorem cpq_vc (x:cpqT.γ):evCall cpE (ev cpE 1000) 167 (cpqT.args x) ⟨cpqT.blks x,cpqT.n0,[]⟩ (fun _ _=>False) (cpqT.ends x)=(
∀x1:Bool,(x1=true→
x=([]:List SessionD))→
br x1 ((∃x2:Unit,(0:Int)=(0:Int)∧
True)∧
∀x3:Unit,True→
∃x4:Unit,0=List.length x∧
([]:List SessionD)=x∧
True) (Nat.le (0*112) room47∧
Nat.le (List.length x*112) room47→
br (Bool.and (Bool.and true (decide (0+0≤([]:List SessionD).length))) (decide ((0+List.length x)*112≤room47))) ((0+List.length x)*112≤room47→
(∃x5:Nat,(0:Int)=(↑x5:Int)∧
cpqQ1 x=cpqQ1 x∧
Nat.le x5 (cpqQ1 x).length)∧
∀x6:Nat,Nat.le x6 (cpqQ1 x).length→
br (decide ((↑x6:Int)<(↑(0+List.length x):Int))) (br (cpqQ2 x6 x) (br (decide (0+(↑x6:Int).toNat<(cpqQ1 x).length)) (∃x7:VerdictD,EqV (cpqQ3 x x6).last x7 (True∧
∀x8:Unit,True→
br (cpqQ2 x6 x) (br (Bool.and true (decide (0+(↑x6:Int).toNat<(cpqQ1 x).length))) (∃x9:Nat,IntKind.wrap IntKind.i64 ((↑x6:Int)+(1:Int))=(↑x9:Int)∧
List.set (cpqQ1 x) (0+(↑x6:Int).toNat) (SessionD.mk (cpqQ3 x x6).id (cpqQ3 x x6).seq (cpqQ3 x x6).name x7)=cpqQ1 x∧
Nat.le x9 (cpqQ1 x).length∧
Nat.sub (cpqQ1 x).length x9<Nat.sub (cpqQ1 x).length x6) (Bad "check" "session.go:40")) (Bad "check" "session.go:40"))) (Bad "check" "session.go:40")) (Bad "check" "session.go:40")) (∃x10:Unit,0=0∧
0+List.length x=List.length x∧
cpqQ1 x=x∧
True)) (Bad "check" "slices.go:362"))):=by kernel_rfl
abbrev slo1Q1  := ∃x1:Unit,Bad "match: mptr" ""
abbrev slo1Q2 (x4:Nat) (x:slo1T.γ):=x4≤(SloA.l x).length∧
∀x5:Nat,x5<x4→
rowS (SloA.l x) x5=true
abbrev slo1Q3  := SessionD.mk (0:Int) (0:Int) ([]:List UInt8) VerdictD.dflt
abbrev slo1Q4 (x:slo1T.γ) (x6:Nat):=List.getD (SloA.l x) (↑x6:Int).toNat slo1Q3
abbrev slo1Q5 (x:slo1T.γ) (x6:Nat):=@cutL SessionD (SloA.l x) (none:Option Int) (Option.some (↑x6:Int))
abbrev slo1Q6 (x9:Nat) (x:slo1T.γ) (x6:Nat):=x9≤(slo1Q5 x x6).length∧
∀x10:Nat,x10<x9→
sameS (List.getD (slo1Q5 x x6) x10 noS) (slo1Q4 x x6)=false
theorem slo1_vc (x:slo1T.γ):evCall sloE (ev sloE 1000) 120 (slo1T.args x) ⟨slo1T.blks x,slo1T.n0,[]⟩ (fun _ _=>False) (slo1T.ends x)=(
br (decide (SloA.z x<(1:Int))) slo1Q1 (br (decide (SloA.z x>(16:Int))) slo1Q1 ((SloA.l x).length*112≤room47→
br (decide ((↑(SloA.l x).length:Int)>SloA.z x)) slo1Q1 ((SloA.l x).length*112≤room47→
(∃x4:Nat,(0:Int)=(↑x4:Int)∧
slo1Q2 x4 x)∧
∀x6:Nat,slo1Q2 x6 x→
br (decide ((↑x6:Int)<(↑(SloA.l x).length:Int))) (br (decide ((0:Int)≤(↑x6:Int)∧
(↑x6:Int)<(↑(SloA.l x).length:Int))) (br (decide ((slo1Q4 x x6).seq<(0:Int))) slo1Q1 (br (bndB (SloA.l x).length (none:Option Int) (Option.some (↑x6:Int)) (none:Option Int)) ((slo1Q5 x x6).length*112≤room47→
(∃x9:Nat,(0:Int)=(↑x9:Int)∧
slo1Q6 x9 x x6)∧
∀x11:Nat,slo1Q6 x11 x x6→
br (decide ((↑x11:Int)<(↑(slo1Q5 x x6).length:Int))) (br (decide ((0:Int)≤(↑x11:Int)∧
(↑x11:Int)<(↑(slo1Q5 x x6).length:Int))) (br ((List.getD (slo1Q5 x x6) (↑x11:Int).toNat slo1Q3).id==(slo1Q4 x x6).id) slo1Q1 (br ((List.getD (slo1Q5 x x6) (↑x11:Int).toNat slo1Q3).name==(slo1Q4 x x6).name) slo1Q1 (∃x15:Nat,IntKind.wrap IntKind.i64 ((↑x11:Int)+(1:Int))=(↑x15:Int)∧
slo1Q6 x15 x x6∧
Nat.sub (slo1Q5 x x6).length x15<Nat.sub (slo1Q5 x x6).length x11))) (Bad "check" "slices.go:109")) (∃x17:Nat,IntKind.wrap IntKind.i64 ((↑x6:Int)+(1:Int))=(↑x17:Int)∧
slo1Q2 x17 x∧
Nat.sub (SloA.l x).length x17<Nat.sub (SloA.l x).length x6)) (Bad "check" "session.go:159"))) (Bad "check" "session.go:158")) (∃x19:(List SessionD),SloA.l x=x19∧
True∧
∀x20:Unit,True→
∃x21:Unit,(0:Int)=(0:Int)∧
EqT (SloA.z x) (SloA.z x) x19 (SloA.l x) True))))):=by kernel_rfl
abbrev slo2Q1 (x:slo2T.γ):=∃x1:Unit,(1:Int)=sloC (SloA.z x) (SloA.l x)∧
True
abbrev slo2Q2 (x:slo2T.γ):=∃x3:Unit,(4:Int)=sloC (SloA.z x) (SloA.l x)∧
True
abbrev slo2Q3 (x4:Nat) (x:slo2T.γ):=x4≤(SloA.l x).length∧
∀x5:Nat,x5<x4→
rowS (SloA.l x) x5=true
abbrev slo2Q4  := SessionD.mk (0:Int) (0:Int) ([]:List UInt8) VerdictD.dflt
abbrev slo2Q5 (x:slo2T.γ) (x6:Nat):=List.getD (SloA.l x) (↑x6:Int).toNat slo2Q4
abbrev slo2Q6 (x:slo2T.γ) (x6:Nat):=@cutL SessionD (SloA.l x) (none:Option Int) (Option.some (↑x6:Int))
abbrev slo2Q7 (x9:Nat) (x:slo2T.γ) (x6:Nat):=x9≤(slo2Q6 x x6).length∧
∀x10:Nat,x10<x9→
sameS (List.getD (slo2Q6 x x6) x10 noS) (slo2Q5 x x6)=false
theorem slo2_vc (x:slo2T.γ):evCall sloE (ev sloE 1000) 120 (slo2T.args x) ⟨slo2T.blks x,slo2T.n0,[]⟩ (fun _ _=>False) (slo2T.ends x)=(
br (decide (SloA.z x<(1:Int))) (slo2Q1 x) (br (decide (SloA.z x>(16:Int))) (slo2Q1 x) ((SloA.l x).length*112≤room47→
br (decide ((↑(SloA.l x).length:Int)>SloA.z x)) (slo2Q2 x) ((SloA.l x).length*112≤room47→
(∃x4:Nat,(0:Int)=(↑x4:Int)∧
slo2Q3 x4 x)∧
∀x6:Nat,slo2Q3 x6 x→
br (decide ((↑x6:Int)<(↑(SloA.l x).length:Int))) (br (decide ((0:Int)≤(↑x6:Int)∧
(↑x6:Int)<(↑(SloA.l x).length:Int))) (br (decide ((slo2Q5 x x6).seq<(0:Int))) (slo2Q2 x) (br (bndB (SloA.l x).length (none:Option Int) (Option.some (↑x6:Int)) (none:Option Int)) ((slo2Q6 x x6).length*112≤room47→
(∃x9:Nat,(0:Int)=(↑x9:Int)∧
slo2Q7 x9 x x6)∧
∀x11:Nat,slo2Q7 x11 x x6→
br (decide ((↑x11:Int)<(↑(slo2Q6 x x6).length:Int))) (br (decide ((0:Int)≤(↑x11:Int)∧
(↑x11:Int)<(↑(slo2Q6 x x6).length:Int))) (br ((List.getD (slo2Q6 x x6) (↑x11:Int).toNat slo2Q4).id==(slo2Q5 x x6).id) (slo2Q2 x) (br ((List.getD (slo2Q6 x x6) (↑x11:Int).toNat slo2Q4).name==(slo2Q5 x x6).name) (slo2Q2 x) (∃x15:Nat,IntKind.wrap IntKind.i64 ((↑x11:Int)+(1:Int))=(↑x15:Int)∧
slo2Q7 x15 x x6∧
Nat.sub (slo2Q6 x x6).length x15<Nat.sub (slo2Q6 x x6).length x11))) (Bad "check" "slices.go:109")) (∃x17:Nat,IntKind.wrap IntKind.i64 ((↑x6:Int)+(1:Int))=(↑x17:Int)∧
slo2Q3 x17 x∧
Nat.sub (SloA.l x).length x17<Nat.sub (SloA.l x).length x6)) (Bad "check" "session.go:159"))) (Bad "check" "session.go:158")) (∃x19:(List SessionD),SloA.l x=x19∧
True∧
∀x20:Unit,True→
∃x21:Unit,Bad "match: nilp" ""))))):=by kernel_rfl
theorem cpq_ok:SpecOK Tryz.prog 167 cpqT.spec:=by
  refine Tri.ok (E:=cpE) (Env_ok (by decide +kernel) (by simp [vown_ok])) (n:=1000) cpqT fun l hp=>?_
  rw [cpq_vc]
  delta cpqQ3 cpqQ2 cpqQ1 EqV
  clear hp
  revert l
  intro (l:List SessionD)
  simp only [List.drop_zero,List.take_zero,List.nil_append,Nat.zero_add]
  refine fun b hb=>br_i (fun h=>?_) fun _ hm=>br_t ?_ fun hr=>⟨⟨0,by trivial,by trivial,Nat.zero_le _⟩,fun i hi=>br_i (fun h3=>?_) (fun h3=>⟨(),by trivial,by trivial,by trivial,trivial⟩)⟩
  · have he:l=[]:=hb h
    rw [he]
    exact⟨⟨(),by trivial,trivial⟩,fun _ _=>⟨(),by trivial,by trivial,trivial⟩⟩
  · have hm2:l.length*112≤room47:=hm.2
    simp only [Bool.and_eq_true]
    exact⟨⟨by trivial,decide_eq_true (by simp)⟩,decide_eq_true hm2⟩
  · have h3:=of_decide_eq_true h3
    have hlt:i<l.length:=by omega
    have e0:(i:Int).toNat=i:=rfl
    rw [e0]
    have bi:decide ((0:Int)≤(i:Int)∧(i:Int)<(l.length:Int))=true:=decide_eq_true ⟨by omega,h3⟩
    have br47:l.length*112≤room47:=hr
    have hsm:l.length≤4398046511104:=by unfold room47 at br47;omega
    have hset:List.set l i ⟨(l.getD i ⟨0,0,[],.dflt⟩).id,(l.getD i ⟨0,0,[],.dflt⟩).seq,(l.getD i ⟨0,0,[],.dflt⟩).name,(l.getD i ⟨0,0,[],.dflt⟩).last⟩=l:=by
      refine set_self (d:=⟨0,0,[],.dflt⟩) hlt rfl
    exact br_t bi (br_t (decide_eq_true hlt) ⟨(l.getD i ⟨0,0,[],.dflt⟩).last,rfl,rfl,rfl,rfl,rfl,rfl,rfl,trivial,fun _ _=>br_t bi (br_t (by rw [decide_eq_true hlt];rfl) ⟨i+1,by rw [wrap_id (by omega) (by omega)];rfl,hset,hlt,by show l.length-(i+1)<l.length-i;omega⟩)⟩)
theorem take_getS {l:List SessionD} {i k:Nat} (h:k<i):(l.take i).getD k noS=l.getD k noS:=by
  simp [List.getD,h]
theorem row_of {l:List SessionD} {i:Nat} (h:rowS l i=true):0≤(l.getD i noS).seq ∧ ∀k,k<i→sameS (l.getD k noS) (l.getD i noS)=false:=by
  unfold rowS at h
  rw [Bool.and_eq_true,List.all_eq_true] at h
  refine⟨of_decide_eq_true h.1,fun k hk=>?_⟩
  have:=h.2 k (List.mem_range.2 hk)
  rwa [Bool.not_eq_true'] at this
theorem row_mk {l:List SessionD} {i:Nat} (h0:0≤(l.getD i noS).seq) (h:∀k,k<i→sameS (l.getD k noS) (l.getD i noS)=false):rowS l i=true:=by
  unfold rowS
  rw [Bool.and_eq_true,List.all_eq_true]
  refine⟨decide_eq_true h0,fun k hk=>?_⟩
  rw [h k (List.mem_range.1 hk)];rfl
theorem scan_of {l:List SessionD} (h:scanS l=true):∀i,i<l.length→rowS l i=true:=fun i hi=>
  List.all_eq_true.1 h i (List.mem_range.2 hi)
theorem scan_mk {l:List SessionD} (h:∀i,i<l.length→rowS l i=true):scanS l=true:=
  List.all_eq_true.2 fun i hi=>h i (List.mem_range.1 hi)
theorem sloC_ok {z:Int} {l:List SessionD} (hx:sloC z l=0):(¬z<1∧¬z>16)∧(¬(l.length:Int)>z) ∧ ∀i,i<l.length→rowS l i=true:=by
  unfold sloC at hx
  cases h1:decide (z<1)||decide (z>16)
  · rw [h1] at hx
    rw [Bool.or_eq_false_iff] at h1
    cases h2:decide ((l.length:Int)>z)
    · rw [h2] at hx
      cases h3:scanS l
      · rw [h3] at hx
        have hx:(4:Int)=0:=hx
        omega
      · exact⟨⟨of_decide_eq_false h1.1,of_decide_eq_false h1.2⟩,of_decide_eq_false h2,scan_of h3⟩
    · rw [h2] at hx
      have hx:(4:Int)=0:=hx
      omega
  · rw [h1] at hx
    have hx:(1:Int)=0:=hx
    omega
theorem sloC_1 {z:Int} {l:List SessionD} (h:z<1∨z>16):(1:Int)=sloC z l:=by
  unfold sloC
  have:(decide (z<1)||decide (z>16))=true:=by
    rw [Bool.or_eq_true,decide_eq_true_eq,decide_eq_true_eq];exact h
  rw [this];rfl
theorem sloC_4 {z:Int} {l:List SessionD} (p:¬z<1) (q:¬z>16) (h:(l.length:Int)>z∨scanS l=false):(4:Int)=sloC z l:=by
  unfold sloC
  rw [decide_eq_false p,decide_eq_false q]
  rcases h with h | h
  · rw [decide_eq_true h];rfl
  · rw [h]
    cases decide ((l.length:Int)>z)<;>rfl
theorem scan_bad {l:List SessionD} {i:Nat} (hi:i<l.length) (h:rowS l i=false):scanS l=false:=by
  cases hs:scanS l
  · rfl
  · rw [scan_of hs i hi] at h;cases h
theorem slo1_ok:SpecOK Tryz.prog 120 slo1T.spec:=by
  refine Tri.ok (E:=sloE) (Env_ok (by decide +kernel) (by simp [cpq_ok])) (n:=1000) slo1T fun x hx=>?_
  rw [slo1_vc]
  delta slo1Q6 slo1Q5 slo1Q4 slo1Q3 slo1Q2 slo1Q1 EqT
  obtain⟨z,l⟩:=x
  have hx:sloC z l=0:=hx
  dsimp only
  obtain⟨⟨z1,z2⟩,z3,hs⟩:=sloC_ok hx
  refine br_f (decide_eq_false z1) (br_f (decide_eq_false z2) fun hr=>br_f (decide_eq_false z3) fun _=>⟨⟨0,rfl,Nat.zero_le _,fun j h=>absurd h (Nat.not_lt_zero _)⟩,fun i hi=>br_i (fun h1=>?_) (fun h1=>⟨l,rfl,trivial,fun _ _=>⟨(),rfl,rfl,rfl,rfl,rfl,trivial⟩⟩)⟩)
  have h1:(i:Int)<(l.length:Int):=of_decide_eq_true h1
  have hsm:l.length≤4398046511104:=by unfold room47 at hr;omega
  obtain⟨i1,i2⟩:=hi
  have e0:(i:Int).toNat=i:=rfl
  rw [e0]
  have ecut:cutL l none (some (i:Int))=l.take i:=rfl
  rw [ecut]
  have hl:(l.take i).length=i:=by rw [List.length_take];omega
  rw [hl]
  have hrow:=hs i (by omega)
  obtain⟨q0,qs⟩:=row_of hrow
  have eg2:l.getD i ⟨0,0,[],VerdictD.dflt⟩=l.getD i noS:=rfl
  rw [eg2]
  have bi:decide ((0:Int)≤(i:Int)∧(i:Int)<(l.length:Int))=true:=decide_eq_true ⟨by omega,h1⟩
  have bb:bndB l.length none (some (i:Int)) none=true:=by
    simp [bndB];omega
  refine br_t bi (br_f (decide_eq_false (by omega)) (br_t bb fun _=>⟨⟨0,rfl,Nat.zero_le _,fun j h=>absurd h (Nat.not_lt_zero _)⟩,fun k hk=>br_i (fun g1=>?_) (fun g1=>⟨i+1,by rw [wrap_id (by omega) (by omega)];rfl,⟨by omega,fun j hj=>hs j (by omega)⟩,by show l.length-(i+1)<l.length-i;omega⟩)⟩))
  have g1:(k:Int)<(i:Int):=of_decide_eq_true g1
  have e1:(k:Int).toNat=k:=rfl
  rw [e1]
  have eg:(l.take i).getD k ⟨0,0,[],VerdictD.dflt⟩=l.getD k noS:=take_getS (by omega)
  rw [eg]
  have hne:=qs k (by omega)
  unfold sameS at hne
  rw [Bool.or_eq_false_iff] at hne
  exact br_t (decide_eq_true ⟨by omega,g1⟩) (br_f hne.1 (br_f hne.2 ⟨k+1,by rw [wrap_id (by omega) (by omega)];rfl,⟨by omega,fun j hj=>by rw [take_getS (by omega)];exact qs j (by omega)⟩,by show i-(k+1)<i-k;omega⟩))
theorem slo2_ok:SpecOK Tryz.prog 120 slo2T.spec:=by
  refine Tri.ok (E:=sloE) (Env_ok (by decide +kernel) (by simp [cpq_ok])) (n:=1000) slo2T fun x hx=>?_
  rw [slo2_vc]
  delta slo2Q7 slo2Q6 slo2Q5 slo2Q4 slo2Q3 slo2Q2 slo2Q1
  obtain⟨z,l⟩:=x
  have hx:(sloC z l==0)=false:=hx
  dsimp only
  refine br_i (fun p=>⟨(),sloC_1 (.inl (of_decide_eq_true p)),trivial⟩) fun p=>br_i (fun q=>⟨(),sloC_1 (.inr (of_decide_eq_true q)),trivial⟩) fun q hr=>br_i (fun t=>⟨(),sloC_4 (of_decide_eq_false p) (of_decide_eq_false q) (.inl (of_decide_eq_true t)),trivial⟩) fun t _=>⟨⟨0,rfl,Nat.zero_le _,fun j h=>absurd h (Nat.not_lt_zero _)⟩,fun i hi=>br_i (fun h1=>?_) (fun h1=>?_)⟩
  · have h1:(i:Int)<(l.length:Int):=of_decide_eq_true h1
    have hsm:l.length≤4398046511104:=by unfold room47 at hr;omega
    obtain⟨i1,i2⟩:=hi
    have e0:(i:Int).toNat=i:=rfl
    rw [e0]
    have ecut:cutL l none (some (i:Int))=l.take i:=rfl
    rw [ecut]
    have hl:(l.take i).length=i:=by rw [List.length_take];omega
    rw [hl]
    have eg2:l.getD i ⟨0,0,[],VerdictD.dflt⟩=l.getD i noS:=rfl
    rw [eg2]
    have bad:rowS l i=false→(4:Int)=sloC z l:=fun h=>sloC_4 (of_decide_eq_false p) (of_decide_eq_false q) (.inr (scan_bad (by omega) h))
    have bi:decide ((0:Int)≤(i:Int)∧(i:Int)<(l.length:Int))=true:=decide_eq_true ⟨by omega,h1⟩
    have bb:bndB l.length none (some (i:Int)) none=true:=by
      simp [bndB];omega
    refine br_t bi (br_i (fun c1=>⟨(),bad ?_,trivial⟩) fun c1=>br_t bb fun _=>⟨⟨0,rfl,Nat.zero_le _,fun j h=>absurd h (Nat.not_lt_zero _)⟩,fun k hk=>br_i (fun g1=>?_) (fun g1=>⟨i+1,by rw [wrap_id (by omega) (by omega)];rfl,⟨by omega,fun j hj=>?_⟩,by show l.length-(i+1)<l.length-i;omega⟩)⟩)
    · have c1:=of_decide_eq_true c1
      cases hr:rowS l i
      · rfl
      · have:=(row_of hr).1
        omega
    · have g1:(k:Int)<(i:Int):=of_decide_eq_true g1
      have e1:(k:Int).toNat=k:=rfl
      rw [e1]
      have eg:(l.take i).getD k ⟨0,0,[],VerdictD.dflt⟩=l.getD k noS:=take_getS (by omega)
      rw [eg]
      obtain⟨k1,k2⟩:=hk
      have same:sameS (l.getD k noS) (l.getD i noS)=true→rowS l i=false:=fun hs=>by
        cases hr:rowS l i
        · rfl
        · rw [(row_of hr).2 k (by omega)] at hs;cases hs
      refine br_t (decide_eq_true ⟨by omega,g1⟩) (br_i (fun c2=>⟨(),bad (same ?_),trivial⟩) fun c2=>br_i (fun c3=>⟨(),bad (same ?_),trivial⟩) fun c3=>⟨k+1,by rw [wrap_id (by omega) (by omega)];rfl,⟨by omega,fun j hj=>?_⟩,by show i-(k+1)<i-k;omega⟩)
      · unfold sameS;rw [c2];rfl
      · unfold sameS;rw [c3,Bool.or_true]
      · by_cases e:j<k
        · exact k2 j e
        · have:j=k:=by omega
          subst this
          rw [take_getS (by omega)]
          unfold sameS
          rw [c2,c3];rfl
    · obtain⟨k1,k2⟩:=hk
      have g1:¬(k:Int)<(i:Int):=of_decide_eq_false g1
      have c1:=of_decide_eq_false c1
      by_cases e:j<i
      · exact i2 j e
      · have:j=i:=by omega
        subst this
        exact row_mk (by omega) fun m hm=>by
          have:=k2 m (by omega)
          rwa [take_getS (by omega)] at this
  · obtain⟨i1,i2⟩:=hi
    have h1:¬(i:Int)<(l.length:Int):=of_decide_eq_false h1
    have:sloC z l=0:=by
      unfold sloC
      rw [p,q,t,scan_mk fun j hj=>i2 j (by omega)];rfl
    rw [this] at hx
    cases hx
noncomputable def lotI7:St→LInv:=fun s=>match getE s.env 1,getE s.env 6 with
  | .rslice _ .session l,.mptr q _=>match s.m.blks.get q with
    | some (.cells [.int _ z,_])=>{σ:=Nat,I:=fun i=>i≤l.length ∧ ∀j,j<i→rowS l j=true,μ:=fun i=>l.length-i,env:=fun i=>[(8,.int .i64 i)],blk:=fun i=>[(q,.cells [.int .i64 z,.mslice .session s.m.next 0 i]),(s.m.next,.rows .session (l.take i))],fresh:=1,drop:=[]}
    | _=>LInv.none
  | _,_=>LInv.none
noncomputable def lotI12:St→LInv:=fun s=>match getE s.env 1,getE s.env 8 with
  | .rslice _ .session l,.int _ i=>{σ:=Nat,I:=fun k=>k≤i.toNat ∧ ∀j,j<k→sameS (l.getD j noS) (l.getD i.toNat noS)=false,μ:=fun k=>i.toNat-k,env:=fun k=>[(9,.int .i64 k)],blk:=fun _=>[],fresh:=0,drop:=[]}
  | _,_=>LInv.none
noncomputable def lotE:Envr:=Env Tryz.prog cod [(179,csesT.spec)] [(7,lotI7),(12,lotI12)]
set_option maxRecDepth 100000
abbrev lot1Q1  := ∃x1:Unit,Bad "match: mptr" ""
abbrev lot1Q2 (x4:Nat) (x:slo1T.γ):=x4≤(SloA.l x).length∧
∀x5:Nat,x5<x4→
rowS (SloA.l x) x5=true
abbrev lot1Q3 (x6:Nat) (x:slo1T.γ):=decide ((0:Int)≤(↑x6:Int)∧
(↑x6:Int)<(↑(SloA.l x).length:Int))
abbrev lot1Q4 (x:slo1T.γ) (x6:Nat):=List.getD (SloA.l x) (↑x6:Int).toNat (SessionD.mk (0:Int) (0:Int) ([]:List UInt8) VerdictD.dflt)
abbrev lot1Q5 (x9:Nat) (x6:Nat) (x:slo1T.γ):=x9≤(↑x6:Int).toNat∧
∀x10:Nat,x10<x9→
sameS (List.getD (SloA.l x) x10 noS) (List.getD (SloA.l x) (↑x6:Int).toNat noS)=false
theorem lot1_vc (x:slo1T.γ):evCall lotE (ev lotE 1000) 125 (slo1T.args x) ⟨slo1T.blks x,slo1T.n0,[]⟩ (fun _ _=>False) (slo1T.ends x)=(
br (decide (SloA.z x<(1:Int))) lot1Q1 (br (decide (SloA.z x>(16:Int))) lot1Q1 ((SloA.l x).length*112≤room47→
br (decide ((↑(SloA.l x).length:Int)>SloA.z x)) lot1Q1 ((∃x4:Nat,(0:Int)=(↑x4:Int)∧
SloA.z x=SloA.z x∧
0=x4∧
([]:List SessionD)=List.take x4 (SloA.l x)∧
lot1Q2 x4 x)∧
∀x6:Nat,lot1Q2 x6 x→
(SloA.l x).length*112≤room47→
br (decide ((↑x6:Int)<(↑(SloA.l x).length:Int))) (br (lot1Q3 x6 x) (br (decide ((lot1Q4 x x6).seq<(0:Int))) lot1Q1 ((∃x9:Nat,(0:Int)=(↑x9:Int)∧
lot1Q5 x9 x6 x)∧
∀x11:Nat,lot1Q5 x11 x6 x→
br (decide ((↑x11:Int)<(↑x6:Int))) (br (lot1Q3 x11 x) (br (lot1Q3 x6 x) (br ((lot1Q4 x x11).id==(lot1Q4 x x6).id) lot1Q1 (br (lot1Q3 x11 x) (br (lot1Q3 x6 x) (br ((lot1Q4 x x11).name==(lot1Q4 x x6).name) lot1Q1 (∃x15:Nat,IntKind.wrap IntKind.i64 ((↑x11:Int)+(1:Int))=(↑x15:Int)∧
lot1Q5 x15 x6 x∧
Nat.sub (↑x6:Int).toNat x15<Nat.sub (↑x6:Int).toNat x11)) (Bad "check" "ref.go:140")) (Bad "check" "ref.go:140"))) (Bad "check" "ref.go:140")) (Bad "check" "ref.go:140")) (br (lot1Q3 x6 x) (∃x17:SessionD,(lot1Q4 x x6).id=x17.id∧
(lot1Q4 x x6).seq=x17.seq∧
(lot1Q4 x x6).name=x17.name∧
EqV (lot1Q4 x x6).last x17.last (True∧
∀x18:Unit,True→
Nat.le (x6*112) room47∧
Nat.le (1*112) room47→
br (Bool.and (Bool.and (decide (0+1≤[x17].length)) (decide (0+x6≤(List.take x6 (SloA.l x)).length))) (decide ((x6+(List.take 1 (List.drop 0 [x17])).length)*112≤room47))) (∃x19:Nat,IntKind.wrap IntKind.i64 ((↑x6:Int)+(1:Int))=(↑x19:Int)∧
SloA.z x=SloA.z x∧
0=0∧
x6+(List.take 1 (List.drop 0 [x17])).length=x19∧
@HAppend.hAppend (List SessionD) (List SessionD) (List SessionD) _ (List.take x6 (List.drop 0 (List.take x6 (SloA.l x)))) (List.take 1 (List.drop 0 [x17]))=List.take x19 (SloA.l x)∧
lot1Q2 x19 x∧
Nat.sub (SloA.l x).length x19<Nat.sub (SloA.l x).length x6) (Bad "check" "ref.go:144"))) (Bad "check" "ref.go:144")))) (Bad "check" "ref.go:136")) (∃x21:Unit,(0:Int)=(0:Int)∧
SloA.z x=SloA.z x∧
0=0∧
x6=(SloA.l x).length∧
List.take x6 (SloA.l x)=SloA.l x∧
True))))):=by kernel_rfl
abbrev lot2Q1 (x:slo2T.γ):=∃x1:Unit,(1:Int)=sloC (SloA.z x) (SloA.l x)∧
True
abbrev lot2Q2 (x:slo2T.γ):=∃x3:Unit,(4:Int)=sloC (SloA.z x) (SloA.l x)∧
True
abbrev lot2Q3 (x4:Nat) (x:slo2T.γ):=x4≤(SloA.l x).length∧
∀x5:Nat,x5<x4→
rowS (SloA.l x) x5=true
abbrev lot2Q4 (x6:Nat) (x:slo2T.γ):=decide ((0:Int)≤(↑x6:Int)∧
(↑x6:Int)<(↑(SloA.l x).length:Int))
abbrev lot2Q5 (x:slo2T.γ) (x6:Nat):=List.getD (SloA.l x) (↑x6:Int).toNat (SessionD.mk (0:Int) (0:Int) ([]:List UInt8) VerdictD.dflt)
abbrev lot2Q6 (x9:Nat) (x6:Nat) (x:slo2T.γ):=x9≤(↑x6:Int).toNat∧
∀x10:Nat,x10<x9→
sameS (List.getD (SloA.l x) x10 noS) (List.getD (SloA.l x) (↑x6:Int).toNat noS)=false
theorem lot2_vc (x:slo2T.γ):evCall lotE (ev lotE 1000) 125 (slo2T.args x) ⟨slo2T.blks x,slo2T.n0,[]⟩ (fun _ _=>False) (slo2T.ends x)=(
br (decide (SloA.z x<(1:Int))) (lot2Q1 x) (br (decide (SloA.z x>(16:Int))) (lot2Q1 x) ((SloA.l x).length*112≤room47→
br (decide ((↑(SloA.l x).length:Int)>SloA.z x)) (lot2Q2 x) ((∃x4:Nat,(0:Int)=(↑x4:Int)∧
SloA.z x=SloA.z x∧
0=x4∧
([]:List SessionD)=List.take x4 (SloA.l x)∧
lot2Q3 x4 x)∧
∀x6:Nat,lot2Q3 x6 x→
(SloA.l x).length*112≤room47→
br (decide ((↑x6:Int)<(↑(SloA.l x).length:Int))) (br (lot2Q4 x6 x) (br (decide ((lot2Q5 x x6).seq<(0:Int))) (lot2Q2 x) ((∃x9:Nat,(0:Int)=(↑x9:Int)∧
lot2Q6 x9 x6 x)∧
∀x11:Nat,lot2Q6 x11 x6 x→
br (decide ((↑x11:Int)<(↑x6:Int))) (br (lot2Q4 x11 x) (br (lot2Q4 x6 x) (br ((lot2Q5 x x11).id==(lot2Q5 x x6).id) (lot2Q2 x) (br (lot2Q4 x11 x) (br (lot2Q4 x6 x) (br ((lot2Q5 x x11).name==(lot2Q5 x x6).name) (lot2Q2 x) (∃x15:Nat,IntKind.wrap IntKind.i64 ((↑x11:Int)+(1:Int))=(↑x15:Int)∧
lot2Q6 x15 x6 x∧
Nat.sub (↑x6:Int).toNat x15<Nat.sub (↑x6:Int).toNat x11)) (Bad "check" "ref.go:140")) (Bad "check" "ref.go:140"))) (Bad "check" "ref.go:140")) (Bad "check" "ref.go:140")) (br (lot2Q4 x6 x) (∃x17:SessionD,(lot2Q5 x x6).id=x17.id∧
(lot2Q5 x x6).seq=x17.seq∧
(lot2Q5 x x6).name=x17.name∧
EqV (lot2Q5 x x6).last x17.last (True∧
∀x18:Unit,True→
Nat.le (x6*112) room47∧
Nat.le (1*112) room47→
br (Bool.and (Bool.and (decide (0+1≤[x17].length)) (decide (0+x6≤(List.take x6 (SloA.l x)).length))) (decide ((x6+(List.take 1 (List.drop 0 [x17])).length)*112≤room47))) (∃x19:Nat,IntKind.wrap IntKind.i64 ((↑x6:Int)+(1:Int))=(↑x19:Int)∧
SloA.z x=SloA.z x∧
0=0∧
x6+(List.take 1 (List.drop 0 [x17])).length=x19∧
@HAppend.hAppend (List SessionD) (List SessionD) (List SessionD) _ (List.take x6 (List.drop 0 (List.take x6 (SloA.l x)))) (List.take 1 (List.drop 0 [x17]))=List.take x19 (SloA.l x)∧
lot2Q3 x19 x∧
Nat.sub (SloA.l x).length x19<Nat.sub (SloA.l x).length x6) (Bad "check" "ref.go:144"))) (Bad "check" "ref.go:144")))) (Bad "check" "ref.go:136")) (∃x21:Unit,Bad "match: nilp" ""))))):=by kernel_rfl
theorem pushS_c {L:List SessionD} {i:Nat} (s:SessionD) (hi:i≤L.length) (hb:(i+1)*112≤room47):((decide (0+1≤[s].length)&&decide (0+i≤(L.take i).length))&&decide ((i+(List.take 1 (List.drop 0 [s])).length)*112≤room47))=true:=by
  have h1:(L.take i).length=i:=by rw [List.length_take];omega
  rw [h1,decide_eq_true (by omega:0+i≤i)]
  show (true&&true&&decide ((i+1)*112≤room47))=true
  rw [decide_eq_true hb];rfl
theorem pushS_any {L:List SessionD} {i:Nat} (hi:i<L.length):List.take i (List.drop 0 (L.take i))++List.take 1 (List.drop 0 [L.getD i noS])=L.take (i+1):=by
  rw [List.drop_zero,List.take_of_length_le (by rw [List.length_take];omega),take_succ_getD noS hi]
  rfl
theorem lot1_ok:SpecOK Tryz.prog 125 slo1T.spec:=by
  refine Tri.ok (E:=lotE) (Env_ok (by decide +kernel) (by simp [cses_ok])) (n:=1000) slo1T fun x hx=>?_
  rw [lot1_vc]
  delta lot1Q5 lot1Q4 lot1Q3 lot1Q2 lot1Q1 EqV
  obtain⟨z,l⟩:=x
  have hx:sloC z l=0:=hx
  dsimp only
  obtain⟨⟨z1,z2⟩,z3,hs⟩:=sloC_ok hx
  refine br_f (decide_eq_false z1) (br_f (decide_eq_false z2) fun hr=>br_f (decide_eq_false z3) ⟨⟨0,rfl,rfl,rfl,rfl,Nat.zero_le _,fun j h=>absurd h (Nat.not_lt_zero _)⟩,fun i hi _=>br_i (fun h1=>?_) (fun h1=>?_)⟩)
  · have h1:(i:Int)<(l.length:Int):=of_decide_eq_true h1
    have hr:l.length*112≤room47:=hr
    have hsm:l.length≤4398046511104:=by unfold room47 at hr;omega
    obtain⟨i1,i2⟩:=hi
    have e0:(i:Int).toNat=i:=rfl
    rw [e0]
    obtain⟨q0,qs⟩:=row_of (hs i (by omega))
    have eg2:l.getD i ⟨0,0,[],VerdictD.dflt⟩=l.getD i noS:=rfl
    rw [eg2]
    have bi:decide ((0:Int)≤(i:Int)∧(i:Int)<(l.length:Int))=true:=decide_eq_true ⟨by omega,h1⟩
    refine br_t bi (br_f (decide_eq_false (by omega)) ⟨⟨0,rfl,Nat.zero_le _,fun j h=>absurd h (Nat.not_lt_zero _)⟩,fun k hk=>br_i (fun g1=>?_) (fun g1=>?_)⟩)
    · have g1:(k:Int)<(i:Int):=of_decide_eq_true g1
      have e1:(k:Int).toNat=k:=rfl
      rw [e1]
      have eg:l.getD k ⟨0,0,[],VerdictD.dflt⟩=l.getD k noS:=rfl
      rw [eg]
      have hne:=qs k (by omega)
      unfold sameS at hne
      rw [Bool.or_eq_false_iff] at hne
      have bk:decide ((0:Int)≤(k:Int)∧(k:Int)<(l.length:Int))=true:=decide_eq_true ⟨by omega,by omega⟩
      exact br_t bk (br_t bi (br_f hne.1 (br_t bk (br_t bi (br_f hne.2 ⟨k+1,by rw [wrap_id (by omega) (by omega)];rfl,⟨by omega,fun j hj=>qs j (by omega)⟩,by show i-(k+1)<i-k;omega⟩)))))
    · refine br_t bi ⟨l.getD i noS,rfl,rfl,rfl,rfl,rfl,rfl,rfl,rfl,rfl,rfl,trivial,fun _ _ _=>br_t (pushS_c _ i1 (by unfold room47 at hr ⊢;omega)) ⟨i+1,by rw [wrap_id (by omega) (by omega)];rfl,rfl,rfl,rfl,pushS_any (by omega),⟨by omega,fun j hj=>hs j (by omega)⟩,by show l.length-(i+1)<l.length-i;omega⟩⟩
  · have h1:¬(i:Int)<(l.length:Int):=of_decide_eq_false h1
    obtain⟨i1,i2⟩:=hi
    exact⟨(),rfl,rfl,rfl,by omega,List.take_of_length_le (by omega),trivial⟩
theorem lot2_ok:SpecOK Tryz.prog 125 slo2T.spec:=by
  refine Tri.ok (E:=lotE) (Env_ok (by decide +kernel) (by simp [cses_ok])) (n:=1000) slo2T fun x hx=>?_
  rw [lot2_vc]
  delta lot2Q6 lot2Q5 lot2Q4 lot2Q3 lot2Q2 lot2Q1 EqV
  obtain⟨z,l⟩:=x
  have hx:(sloC z l==0)=false:=hx
  dsimp only
  refine br_i (fun p=>⟨(),sloC_1 (.inl (of_decide_eq_true p)),trivial⟩) fun p=>br_i (fun q=>⟨(),sloC_1 (.inr (of_decide_eq_true q)),trivial⟩) fun q hr=>br_i (fun t=>⟨(),sloC_4 (of_decide_eq_false p) (of_decide_eq_false q) (.inl (of_decide_eq_true t)),trivial⟩) fun t=>⟨⟨0,rfl,rfl,rfl,rfl,Nat.zero_le _,fun j h=>absurd h (Nat.not_lt_zero _)⟩,fun i hi _=>br_i (fun h1=>?_) (fun h1=>?_)⟩
  · have h1:(i:Int)<(l.length:Int):=of_decide_eq_true h1
    have hr:l.length*112≤room47:=hr
    have hsm:l.length≤4398046511104:=by unfold room47 at hr;omega
    obtain⟨i1,i2⟩:=hi
    have e0:(i:Int).toNat=i:=rfl
    rw [e0]
    have eg2:l.getD i ⟨0,0,[],VerdictD.dflt⟩=l.getD i noS:=rfl
    rw [eg2]
    have bad:rowS l i=false→(4:Int)=sloC z l:=fun h=>sloC_4 (of_decide_eq_false p) (of_decide_eq_false q) (.inr (scan_bad (by omega) h))
    have bi:decide ((0:Int)≤(i:Int)∧(i:Int)<(l.length:Int))=true:=decide_eq_true ⟨by omega,h1⟩
    refine br_t bi (br_i (fun c1=>⟨(),bad ?_,trivial⟩) fun c1=>⟨⟨0,rfl,Nat.zero_le _,fun j h=>absurd h (Nat.not_lt_zero _)⟩,fun k hk=>br_i (fun g1=>?_) (fun g1=>?_)⟩)
    · have c1:=of_decide_eq_true c1
      cases hr:rowS l i
      · rfl
      · have:=(row_of hr).1
        omega
    · have g1:(k:Int)<(i:Int):=of_decide_eq_true g1
      have e1:(k:Int).toNat=k:=rfl
      rw [e1]
      have eg:l.getD k ⟨0,0,[],VerdictD.dflt⟩=l.getD k noS:=rfl
      rw [eg]
      obtain⟨k1,k2⟩:=hk
      have same:sameS (l.getD k noS) (l.getD i noS)=true→rowS l i=false:=fun hs=>by
        cases hr:rowS l i
        · rfl
        · rw [(row_of hr).2 k (by omega)] at hs;cases hs
      have bk:decide ((0:Int)≤(k:Int)∧(k:Int)<(l.length:Int))=true:=decide_eq_true ⟨by omega,by omega⟩
      refine br_t bk (br_t bi (br_i (fun c2=>⟨(),bad (same ?_),trivial⟩) fun c2=>br_t bk (br_t bi (br_i (fun c3=>⟨(),bad (same ?_),trivial⟩) fun c3=>⟨k+1,by rw [wrap_id (by omega) (by omega)];rfl,⟨by omega,fun j hj=>?_⟩,by show i-(k+1)<i-k;omega⟩))))
      · unfold sameS;rw [c2];rfl
      · unfold sameS;rw [c3,Bool.or_true]
      · by_cases e:j<k
        · exact k2 j e
        · have:j=k:=by omega
          subst this
          unfold sameS
          rw [c2,c3];rfl
    · obtain⟨k1,k2⟩:=hk
      have g1:¬(k:Int)<(i:Int):=of_decide_eq_false g1
      have c1:=of_decide_eq_false c1
      have hrow:rowS l i=true:=row_mk (by omega) fun m hm=>k2 m (by omega)
      refine br_t bi ⟨l.getD i noS,rfl,rfl,rfl,rfl,rfl,rfl,rfl,rfl,rfl,rfl,trivial,fun _ _ _=>br_t (pushS_c _ i1 (by unfold room47 at hr ⊢;omega)) ⟨i+1,by rw [wrap_id (by omega) (by omega)];rfl,rfl,rfl,rfl,pushS_any (by omega),⟨by omega,fun j hj=>?_⟩,by show l.length-(i+1)<l.length-i;omega⟩⟩
      by_cases e:j<i
      · exact i2 j e
      · have:j=i:=by omega
        subst this
        exact hrow
  · obtain⟨i1,i2⟩:=hi
    have h1:¬(i:Int)<(l.length:Int):=of_decide_eq_false h1
    have:sloC z l=0:=by
      unfold sloC
      rw [p,q,t,scan_mk fun j hj=>i2 j (by omega)];rfl
    rw [this] at hx
    cases hx
theorem land_not {x:LandA} (h:¬(landV x).code=2):landC x=x.C:=by
  cases hb:badLd x
  · by_cases ha:x.base>x.C.length
    · exact (land_ahead hb ha).2
    · cases hc:confA x with
      | none=>exact absurd (by rw [(land_in hb ha hc).1];rfl) h
      | some q=>exact (land_conf hb ha hc).2
  · exact (land_bad hb).2
theorem stepB_congr {a b:List CommitD} {j:Nat} (h1:a.take j=b.take j) (h2:a.getD j noM=b.getD j noM):stepB a j=stepB b j:=by
  unfold stepB loadA
  rw [h1,h2]
theorem insS_twice (l:List ChangeD):insS (insS l)=insS l:=insS_self (insS_srt l)
theorem land_again {x:LandA} (h:(landV x).code=2):landV ⟨x.C,x.base,x.ref,insS x.l⟩=landV x:=by
  unfold landV badLd confA
  dsimp only
  rw [chk_insS,insS_twice]
structure GoMore (l:List Deed5D):Prop where
  loads:∀j,j<(goC l).length→stepB (goC l) j=true
  short:(∀i,i<l.length→shortC (l.getD i noD).l=true) → ∀c,c∈goC l→shortC c.changes=true
theorem go_more (l:List Deed5D):GoMore l:=by
  refine snocL (p:=GoMore) ⟨fun j hj=>by simp [goC] at hj,fun _ c hc=>by simp [goC] at hc⟩ (fun l d h=>?_) l
  have e:goC (l++[d])=landC ⟨goC l,d.base,d.ref,d.l⟩:=by simp [goC,oneC]
  have hshort:(∀i,i<(l++[d]).length→shortC ((l++[d]).getD i noD).l=true)→(∀c,c∈goC l→shortC c.changes=true)∧shortC d.l=true:=by
    intro hs
    refine⟨h.short fun i hi=>?_,?_⟩
    · have:=hs i (by simp;omega)
      rwa [show (l++[d]).getD i noD=l.getD i noD by simp [List.getD,List.getElem?_append_left hi]] at this
    · have:=hs l.length (by simp)
      rwa [show (l++[d]).getD l.length noD=d by simp [List.getD]] at this
  by_cases hc:(landV ⟨goC l,d.base,d.ref,d.l⟩).code=2
  · obtain⟨hb,hV,hC⟩:=land_two hc
    have hC:landC ⟨goC l,d.base,d.ref,d.l⟩=goC l++[newC ⟨goC l,d.base,d.ref,d.l⟩]:=hC
    have hV:landV ⟨goC l,d.base,d.ref,d.l⟩=vC 2 (((goC l).length:Int)+1) []:=hV
    refine⟨fun j hj=>?_,fun hs c hc=>?_⟩
    · rw [e,hC] at hj ⊢
      rcases Nat.lt_or_ge j (goC l).length with hj2 | hj2
      · rw [←h.loads j hj2]
        exact stepB_congr (List.take_append_of_le_length (by omega)) (by simp [List.getD,List.getElem?_append_left hj2])
      · have:j=(goC l).length:=by simp at hj;omega
        subst this
        have eA:loadA (goC l++[newC ⟨goC l,d.base,d.ref,d.l⟩]) (goC l).length=⟨goC l,d.base,d.ref,insS d.l⟩:=by
          unfold loadA
          rw [List.take_left]
          have eg:(goC l++[newC ⟨goC l,d.base,d.ref,d.l⟩]).getD (goC l).length ⟨0,0,[],[]⟩=newC ⟨goC l,d.base,d.ref,d.l⟩:=by simp [List.getD]
          rw [eg]
          rfl
        have eg:(goC l++[newC ⟨goC l,d.base,d.ref,d.l⟩]).getD (goC l).length ⟨0,0,[],[]⟩=newC ⟨goC l,d.base,d.ref,d.l⟩:=by simp [List.getD]
        have hag:landV ⟨goC l,d.base,d.ref,insS d.l⟩=vC 2 (((goC l).length:Int)+1) []:=(land_again (x:=⟨goC l,d.base,d.ref,d.l⟩) hc).trans hV
        unfold stepB
        rw [eA,eg,hag]
        show ((2:Int)==2&&((((goC l).length:Int)+1==((goC l).length:Int)+1)&&sameC (insS (insS d.l)) (insS d.l)))=true
        rw [insS_twice,sameC_self]
        simp
    · obtain⟨s1,s2⟩:=hshort hs
      rw [e,hC] at hc
      rcases List.mem_append.1 hc with hc | hc
      · exact s1 c hc
      · have:c=newC ⟨goC l,d.base,d.ref,d.l⟩:=by simpa using hc
        rw [this]
        exact List.all_eq_true.2 fun y hy=>List.all_eq_true.1 s2 y (mem_insS.1 hy)
  · have hC:=land_not hc
    have hC:landC ⟨goC l,d.base,d.ref,d.l⟩=goC l:=hC
    refine⟨fun j hj=>?_,fun hs c hc=>?_⟩
    · rw [e,hC] at hj ⊢
      exact h.loads j hj
    · rw [e,hC] at hc
      exact (hshort hs).1 c hc
def fewM (C:List CommitD):Bool:=C.all fun c=>fewX c.changes
noncomputable def rload1T:Tri:={γ:=ComL,n0:=0,args:=fun raw=>[.rslice false .commit raw],blks:=fun _=>[],pre:=fun raw=>(mayM raw=true∧fewM raw=true)∧LoadsTo raw raw.length,δ:=Unit,post:=fun _ _=>True,n1:=3,res:=fun raw _=>.tuple [rargs raw (rowC raw) (refsR raw),.int .i64 0],blks':=fun raw _=>rrows raw (rowC raw) (refsR raw),scal:=false}
noncomputable def rloadI:St→LInv:=fun s=>match getE s.env 0,getE s.env 4 with
  | .rslice _ .commit raw,.mptr q _=>{σ:=Nat,I:=fun i=>i≤raw.length∧LoadsTo raw i,μ:=fun i=>raw.length-i,env:=fun i=>[(5,.int .i64 i)],blk:=fun i=>[(q,rcell (raw.take i) s.m.next (s.m.next+1) (s.m.next+2)),(s.m.next,.rows .commit (raw.take i)),(s.m.next+1,.rows .leaf (rowC (raw.take i))),(s.m.next+2,.rows .ref (refsR (raw.take i)))],fresh:=3,drop:=[]}
  | _,_=>LInv.none
noncomputable def rloadE:Envr:=Env Tryz.prog cod [(73,rlandT.spec),(118,scomT.spec)] [(3,rloadI)]
set_option maxRecDepth 100000
abbrev rload1Q1 (x2:Nat) (x:rload1T.γ):=decide ((0:Int)≤(↑x2:Int)∧
(↑x2:Int)<(↑(List.length x):Int))
abbrev rload1Q2  := CommitD.mk (0:Int) (0:Int) ([]:List UInt8) ([]:List ChangeD)
abbrev rload1Q3 (x:rload1T.γ) (x2:Nat):=List.getD x (↑x2:Int).toNat rload1Q2
abbrev rload1Q4 (x:rload1T.γ):=∃x5:Unit,0=List.length x∧
0=(rowC x).length∧
0=(refsR x).length∧
(4:Int)=(0:Int)∧
([]:List CommitD)=x∧
([]:List LeafD)=rowC x∧
([]:List RefD)=refsR x∧
True
abbrev rload1Q5 (x:rload1T.γ) (x2:Nat):=∃x3:LandA,(rload1Q3 x x2).base=x3.base∧
(rload1Q3 x x2).ref=x3.ref∧
(rload1Q3 x x2).changes=x3.l∧
EqR (List.take x2 x) x3.C (((fewG x3.C=true∧
shortM x3.C=true)∧
shortC x3.l=true∧
fewX x3.l=true)∧
∀x4:Unit,True→
br ((landV x3).code != (2:Int)) (rload1Q4 x) (br (decide ((0:Int)≤(↑x2:Int)∧
(↑x2:Int)<(↑(landC x3).length:Int))) (br (decide (0+(↑x2:Int).toNat<(landC x3).length)) (br (rload1Q1 x2 x) (∃x6:Cmt2,EqC (List.getD (landC x3) (0+(↑x2:Int).toNat) rload1Q2) x6.a (EqC (rload1Q3 x x2) x6.b (True∧
∀x7:Unit,True→
br (eqM x6.a x6.b).not (rload1Q4 x) (∃x9:Nat,IntKind.wrap IntKind.i64 ((↑x2:Int)+(1:Int))=(↑x9:Int)∧
EqR (landC x3) (List.take x9 x) ((x9≤List.length x∧
LoadsTo x x9)∧
Nat.sub (List.length x) x9<Nat.sub (List.length x) x2))))) (Bad "check" "ref.go:251")) (Bad "check" "ref.go:251")) (Bad "check" "ref.go:251")))
theorem rload1_vc (x:rload1T.γ):evCall rloadE (ev rloadE 1000) 126 (rload1T.args x) ⟨rload1T.blks x,rload1T.n0,[]⟩ (fun _ _=>False) (rload1T.ends x)=(
(∃x1:Nat,(0:Int)=(↑x1:Int)∧
0=(List.take x1 x).length∧
0=(rowC (List.take x1 x)).length∧
0=(refsR (List.take x1 x)).length∧
([]:List CommitD)=List.take x1 x∧
([]:List LeafD)=rowC (List.take x1 x)∧
([]:List RefD)=refsR (List.take x1 x)∧
x1≤List.length x∧
LoadsTo x x1)∧
∀x2:Nat,x2≤List.length x∧
LoadsTo x x2→
List.length x*56≤room47→
br (decide ((↑x2:Int)<(↑(List.length x):Int))) (br (rload1Q1 x2 x) (br (rload1Q1 x2 x) (br (rload1Q1 x2 x) (rload1Q5 x x2∧
rload1Q5 x x2) (Bad "check" "ref.go:250")) (Bad "check" "ref.go:250")) (Bad "check" "ref.go:250")) (∃x17:Unit,0=0∧
(List.take x2 x).length=List.length x∧
0=0∧
(rowC (List.take x2 x)).length=(rowC x).length∧
0=0∧
(refsR (List.take x2 x)).length=(refsR x).length∧
(0:Int)=(0:Int)∧
List.take x2 x=x∧
rowC (List.take x2 x)=rowC x∧
refsR (List.take x2 x)=refsR x∧
True)):=by kernel_rfl
theorem rloadE_ok:EnvOK rloadE:=Env_ok (by decide +kernel) (by
  intro p hp
  simp only [List.mem_cons,List.mem_nil_iff,or_false] at hp
  rcases hp with rfl | rfl
  · exact rland_ok
  · exact scom_ok)
theorem fewM_of {raw:List CommitD} (h:fewM raw=true):∀i,i<raw.length→fewX (raw.getD i noM).changes=true:=by
  unfold fewM at h
  rw [List.all_eq_true] at h
  exact fun i hi=>h _ (getD_mem hi)
theorem shortM_take {raw:List CommitD} (h:mayM raw=true) (i:Nat):shortM (raw.take i)=true:=by
  unfold mayM at h
  simp only [Bool.and_eq_true,decide_eq_true_eq,List.all_eq_true] at h
  unfold shortM
  rw [List.all_eq_true]
  exact fun c hc=>h.2 c (List.mem_of_mem_take hc)
theorem load_new {x:List CommitD} {i:Nat} (hi:i<x.length) (g1:(landV (loadA x i)).code=2) :
    (landC (loadA x i)).length=i+1∧(landC (loadA x i)).getD i noM=newC (loadA x i)∧(landV (loadA x i)).rev=(i:Int)+1∧(newC (loadA x i)).rev=(i:Int)+1∧(newC (loadA x i)).changes=insS (x.getD i noM).changes:=by
  obtain⟨hb,hV,hC⟩:=land_two g1
  have hl:(loadA x i).C.length=i:=by show (x.take i).length=i;rw [List.length_take];omega
  refine⟨by rw [hC,List.length_append,hl];rfl,?_,by rw [hV,hl];rfl,?_,rfl⟩
  · rw [hC]
    have e:=get_mid (loadA x i).C (newC (loadA x i)) [] noM
    rw [hl] at e
    exact e
  · show ((loadA x i).C.length:Int)+1=_
    rw [hl]
set_option maxHeartbeats 0 in
theorem rload1_ok:SpecOK Tryz.prog 126 rload1T.spec:=by
  refine Tri.ok (E:=rloadE) rloadE_ok (n:=1000) rload1T fun x hx=>?_
  rw [rload1_vc]
  delta rload1Q5 rload1Q4 rload1Q3 rload1Q2 rload1Q1 EqR EqC EqR6
  revert hx
  revert x
  intro (x:List CommitD) (hx:(mayM x=true∧fewM x=true)∧LoadsTo x x.length)
  obtain⟨⟨hm,hf⟩,hL⟩:=hx
  obtain⟨m1,m2⟩:=mayM_of hm
  have m3:=fewM_of hf
  refine⟨⟨0,rfl,rfl,rfl,rfl,rfl,rfl,rfl,Nat.zero_le _,fun j hj=>absurd hj (Nat.not_lt_zero _)⟩,fun i hi _=>br_i (fun h1=>?_) (fun h1=>?_)⟩
  · obtain⟨i1,i2⟩:=hi
    have h1:=of_decide_eq_true h1
    have hs:=step_of (hL i (by omega))
    obtain⟨s1,s2,s3⟩:=step_land (by omega) hs
    have bi:decide ((0:Int)≤(i:Int)∧(i:Int)<(x.length:Int))=true:=decide_eq_true ⟨by omega,h1⟩
    obtain⟨n1,n2,n3,n4,n5⟩:=load_new (x:=x) (i:=i) (by omega) hs.code
    refine br_t bi (br_t bi (br_t bi (dup ⟨loadA x i,rfl,rfl,rfl,rfl,rfl,rfl,rfl,rfl,rfl,rfl,rfl,rfl,⟨⟨loads_few i1 m1 i2,shortM_take hm i⟩,m2 i (by omega),m3 i (by omega)⟩,fun _ _=>?_⟩)))
    have e0:0+(i:Int).toNat=i:=by simp
    rw [e0,hs.code]
    have hg:(landC (loadA x i)).getD i noM=x.getD i noM:=by
      rw [s1];simp [List.getD,List.getElem?_take]
    rw [s1]
    have tl:(x.take (i+1)).length=i+1:=by rw [List.length_take];omega
    have tg:(x.take (i+1)).getD i ⟨0,0,[],[]⟩=x.getD i noM:=by simp [List.getD,List.getElem?_take]
    have e1:(i:Int).toNat=i:=rfl
    rw [tg,e1]
    refine br_f (by decide) (br_t (decide_eq_true ⟨by omega,by omega⟩) (br_t (decide_eq_true (by omega)) (br_t bi ⟨⟨x.getD i noM,x.getD i noM⟩,rfl,rfl,rfl,rfl,rfl,rfl,rfl,rfl,trivial,fun _ _=>br_f (by rw [eqM_self];rfl) ?_⟩)))
    exact⟨i+1,by rw [wrap_id (by omega) (by omega)];rfl,rfl,rfl,rfl,rfl,rfl,rfl,rfl,rfl,rfl,⟨by omega,loads_suc i2 (hL i (by omega))⟩,by show x.length-(i+1)<x.length-i;omega⟩
  · obtain⟨i1,i2⟩:=hi
    have h1:=of_decide_eq_false h1
    rw [List.take_of_length_le (by omega)]
    exact⟨(),rfl,rfl,rfl,rfl,rfl,rfl,rfl,rfl,rfl,rfl,trivial⟩
def nms (S:List SessionD):List Bs:=S.map (·.name)
structure SOk (S:List SessionD):Prop where
  ns:(nms S).Nodup
  q0:∀s,s∈S→0≤s.seq
theorem nms_none {l:List SessionD} {n:Bs} (h:idxF (nameIs n) l<0):n ∉ nms l:=by
  intro hm
  obtain⟨s,hs,e⟩:=List.mem_map.1 hm
  induction l with
  | nil=>cases hs
  | cons x r ih=>
    unfold idxF at h
    cases hx:nameIs n x
    · rw [hx] at h
      simp only [cond_false] at h
      by_cases q:idxF (nameIs n) r<0
      · rcases List.mem_cons.1 hs with rfl | hs
        · unfold nameIs at hx
          rw [beq_eq_false_iff_ne] at hx
          exact hx e
        · exact ih q (List.mem_map.2 ⟨s,hs,e⟩) hs
      · rw [decide_eq_false q] at h
        simp only [cond_false] at h
        omega
    · rw [hx] at h
      simp at h
theorem sok_out {l:List SessionD} (i:Int) (h:SOk l):SOk (outL l i):=
  ⟨h.ns.sublist ((out_sub l i).map _),fun s hs=>h.q0 s ((out_sub l i).subset hs)⟩
theorem sok_used {l:List SessionD} {i:Int} (hi:0≤i∧i<l.length) (h:SOk l):SOk (usedL l i):=
  ⟨((used_perm hi).map _).nodup_iff.2 h.ns,fun s hs=>h.q0 s ((used_perm hi).mem_iff.1 hs)⟩
theorem sok_new {l:List SessionD} {s:SessionD} (h:SOk l) (hn:s.name ∉ nms l) (h0:0≤s.seq):SOk (l++[s]):=by
  refine⟨?_,fun y hy=>?_⟩
  · unfold nms at hn ⊢
    rw [List.map_append,List.nodup_append]
    refine⟨h.ns,by simp,fun a ha b hb e=>?_⟩
    have:b=s.name:=by simpa using hb
    subst this
    exact hn (e ▸ ha)
  · rcases List.mem_append.1 hy with hy | hy
    · exact h.q0 y hy
    · have:y=s:=by simpa using hy
      subst this
      exact h0
theorem sok_open {x:OpenA} (h:SOk x.l):SOk (openL x).2:=by
  have b1:=idxF_lt (nameIs x.name) x.l
  have b2:=idxF_lt (idIs x.id) x.l
  unfold openL
  dsimp only
  by_cases q:idxF (nameIs x.name) x.l<0
  · rw [decide_eq_true q]
    simp only [cond_true]
    generalize hl1:(bif decide (idxF (idIs x.id) x.l<0) then x.l else outL x.l (idxF (idIs x.id) x.l))=l1
    have h1:SOk l1∧x.name ∉ nms l1:=by
      rw [←hl1]
      by_cases q2:idxF (idIs x.id) x.l<0
      · rw [decide_eq_true q2]
        exact⟨h,nms_none q⟩
      · rw [decide_eq_false q2]
        exact⟨sok_out _ h,fun hm=>nms_none q (((out_sub x.l _).map _).subset hm)⟩
    cases decide ((l1.length:Int)=x.size)
    · exact sok_new (s:=⟨x.id,0,x.name,.dflt⟩) h1.1 h1.2 (Int.le_refl 0)
    · exact sok_new (s:=⟨x.id,0,x.name,.dflt⟩) (sok_out _ h1.1) (fun hm=>h1.2 (((out_sub l1 0).map _).subset hm)) (Int.le_refl 0)
  · rw [decide_eq_false q]
    exact sok_used ⟨by omega,b1.2⟩ h
theorem sok_ask {x:AskA} (h:SOk x.l):SOk (askL x).2:=by
  have b1:=idxF_lt (idIs x.id) x.l
  unfold askL
  dsimp only
  by_cases q:idxF (idIs x.id) x.l<0
  · rw [decide_eq_true q];exact h
  · rw [decide_eq_false q]
    exact sok_used ⟨by omega,b1.2⟩ h
theorem sok_done {x:DoneA} (h:SOk x.l):SOk (doneL x).2:=by
  have b1:=idxF_lt (idIs x.id) x.l
  unfold doneL
  dsimp only
  by_cases q:idxF (idIs x.id) x.l<0
  · rw [decide_eq_true q];exact h
  · rw [decide_eq_false q]
    by_cases q2:x.seq≤(atL x.l (idxF (idIs x.id) x.l)).seq
    · rw [decide_eq_true q2]
      exact h
    · rw [decide_eq_false q2]
      have hi:(idxF (idIs x.id) x.l).toNat<x.l.length:=by omega
      have hm:atL x.l (idxF (idIs x.id) x.l)∈x.l:=by
        unfold atL
        exact getD_mem hi
      have h0:=h.q0 _ hm
      have e:nms (x.l.set (idxF (idIs x.id) x.l).toNat ⟨(atL x.l (idxF (idIs x.id) x.l)).id,x.seq,(atL x.l (idxF (idIs x.id) x.l)).name,x.v⟩)=nms x.l:=by
        unfold nms
        rw [List.map_set]
        refine set_self (d:=[]) (by simpa using hi) ?_
        unfold atL
        simp [List.getD,hi]
      show SOk (x.l.set _ _)
      refine⟨by rw [e];exact h.ns,fun s hs=>?_⟩
      rcases List.mem_or_eq_of_mem_set hs with hs | rfl
      · exact h.q0 s hs
      · show 0≤x.seq
        omega
theorem sok_do {x:MacS} (h:SOk x.S) (r:RequestD):SOk (doM x r).2.S:=by
  have ha:SOk (askM x r).2:=sok_ask (x:=⟨x.size,x.S,r.session,r.seq⟩) h
  unfold doM
  cases r.kind==0
  · cases r.kind==1
    · cases (askM x r).1.2
      · exact sok_done (x:=⟨x.size,(askM x r).2,r.session,r.seq,_⟩) ha
      · exact ha
    · cases wordOk r.name false
      · exact h
      · exact sok_open (x:=⟨x.size,x.S,r.name,x.applied+1⟩) h
  · exact h
structure EOk (E:List EpochD):Prop where
  up:E.Pairwise fun p q=>p.from_<q.from_
  f0:∀p,p∈E→0≤p.from_
theorem chg_app (x:ChgA):(chgE x).2=x.E∨0≤x.slot ∧ ∃M,(chgE x).2=x.E++[⟨x.slot+x.alpha,M⟩]:=by
  unfold chgE
  dsimp only
  by_cases q0:x.slot<0
  · rw [decide_eq_true q0]
    exact .inl rfl
  · cases (decide (x.slot<0)||(decide (x.slot>1099511627776-x.alpha)||(decide (x.member<0)||decide (x.member≥15))))
    · cases decide ((lastEp x.E).from_>x.slot)
      · cases (x.add&&(lastEp x.E).members.contains x.member)
        · cases (!x.add && !((lastEp x.E).members.contains x.member))
          · cases (!x.add&&decide ((lastEp x.E).members.length=1))
            · exact .inr ⟨by omega,_,rfl⟩
            · exact .inl rfl
          · exact .inl rfl
        · exact .inl rfl
      · exact .inl rfl
    · exact .inl rfl
theorem eok_chg {x:ChgA} (h:EOk x.E) (ha:1≤x.alpha) (hf:∀p,p∈x.E→p.from_<x.slot+x.alpha):EOk (chgE x).2:=by
  rcases chg_app x with e | ⟨h0,M,e⟩
  · rw [e];exact h
  · rw [e]
    refine⟨List.pairwise_append.2 ⟨h.up,by simp,fun p hp q hq=>?_⟩,fun p hp=>?_⟩
    · have:q=⟨x.slot+x.alpha,M⟩:=by simpa using hq
      subst this
      exact hf p hp
    · rcases List.mem_append.1 hp with hp | hp
      · exact h.f0 p hp
      · have:p=⟨x.slot+x.alpha,M⟩:=by simpa using hp
        subst this
        show 0≤x.slot+x.alpha
        omega
theorem eok_cut {E:List EpochD} (h:EOk E) (s:Int):EOk (cutE E s):=
  ⟨h.up.sublist (List.drop_sublist _ _),fun p hp=>h.f0 p (cut_mem hp)⟩
theorem eok_how {a z:Int} {n:Nat} {x:MacS} (h:MOk a z n x) (he:EOk x.E) (S:List SessionD) (r:RequestD):EOk (howM (withS x S) r).2.E:=by
  have hchg:∀add code,EOk (chgM (withS x S) r add code).2.E:=fun add code=>
    eok_chg (x:=⟨x.alpha,x.E,x.applied,r.member,add⟩) he (by show 1≤x.alpha;rw [h.al];have:=h.a1;omega) fun p hp=>by
      show p.from_<x.applied+x.alpha
      rw [h.ap,h.al]
      have:=(h.em p hp).2
      omega
  unfold howM
  cases r.kind==2
  · cases r.kind==3
    · cases r.kind==4
      · cases r.kind==5
        · cases r.kind==6
          · cases r.kind==7
            · exact he
            · exact hchg _ _
          · exact hchg _ _
        · exact he
      · exact he
    · exact he
  · exact he
theorem eok_do {a z:Int} {n:Nat} {x:MacS} (h:MOk a z n x) (he:EOk x.E) (r:RequestD):EOk (doM x r).2.E:=by
  unfold doM
  cases r.kind==0
  · cases r.kind==1
    · cases (askM x r).1.2
      · exact eok_how h he (askM x r).2 r
      · exact he
    · cases wordOk r.name false
      · exact he
      · exact he
  · exact he
theorem atN_above {E:List EpochD} {s:Int}:∀ {k j:Nat},atN E s k<j→j<k→¬(E.getD j ⟨0,[]⟩).from_≤s:=by
  intro k
  induction k with
  | zero=>intro j _ h;omega
  | succ k ih=>
    intro j h1 h2
    by_cases hk:(E.getD k ⟨0,[]⟩).from_≤s
    · have e:atN E s (k+1)=k:=by
        show (bif decide ((E.getD k ⟨0,[]⟩).from_≤s) then k else atN E s k)=_
        rw [decide_eq_true hk];rfl
      omega
    · have e:atN E s (k+1)=atN E s k:=by
        show (bif decide ((E.getD k ⟨0,[]⟩).from_≤s) then k else atN E s k)=_
        rw [decide_eq_false hk];rfl
      rw [e] at h1
      by_cases ej:j=k
      · subst ej;exact hk
      · exact ih h1 (by omega)
theorem atN_zero {E:List EpochD} {s:Int}:∀ {k:Nat},(∀j,0<j→j<k→¬(E.getD j ⟨0,[]⟩).from_≤s)→atN E s k=0:=by
  intro k
  induction k with
  | zero=>intro _;rfl
  | succ k ih=>
    intro h
    show (bif decide ((E.getD k ⟨0,[]⟩).from_≤s) then k else atN E s k)=0
    rcases Nat.eq_zero_or_pos k with e | e
    · subst e
      cases decide ((E.getD 0 ⟨0,[]⟩).from_≤s)<;>rfl
    · rw [decide_eq_false (h k e (by omega))]
      exact ih fun j a b=>h j a (by omega)
theorem cut_cut (E:List EpochD) (s:Int):cutE (cutE E s) s=cutE E s:=by
  have hz:atN (cutE E s) s (cutE E s).length=0:=atN_zero fun j h0 hj=>by
    unfold cutE at hj ⊢
    rw [List.length_drop] at hj
    have e:(E.drop (atN E s E.length)).getD j ⟨0,[]⟩=E.getD (atN E s E.length+j) ⟨0,[]⟩:=by
      simp only [List.getD,List.getElem?_drop]
    rw [e]
    exact atN_above (k:=E.length) (by omega) (by omega)
  show (cutE E s).drop (atN (cutE E s) s (cutE E s).length)=_
  rw [hz]
  rfl
structure MLd (a z:Int) (n:Nat) (x:MacS):Prop where
  ds:MDs a z n x
  so:SOk x.S
  eo:EOk x.E
  cut:cutE x.E x.applied=x.E
theorem MLd.step {a z:Int} {n:Nat} {x:MacS} (h:MLd a z n x) (hn:n<1099511627776) (r:RequestD):MLd a z (n+1) (applyM x r).2:=by
  refine⟨h.ds.step hn r,?_,?_,?_⟩
  · rw [apply_eq h.ds.ok hn r];exact sok_do h.so r
  · rw [apply_eq h.ds.ok hn r];exact eok_cut (eok_do h.ds.ok h.eo r) _
  · rw [apply_eq h.ds.ok hn r];exact cut_cut _ _
theorem mld_new {a z:Int} {M:List Int} (hc:okCf a z M=true):MLd a z 0 (freshM a z M):=by
  refine⟨⟨mok_new hc,List.nodup_nil⟩,⟨List.nodup_nil,fun s hs=>by cases hs⟩,⟨List.pairwise_singleton _ _,fun p hp=>?_⟩,rfl⟩
  have:p=⟨0,M⟩:=by simpa [freshM] using hp
  subst this
  exact Int.le_refl 0
theorem runLd_ok {a z:Int}:∀(l:List RequestD) {n:Nat} {x:MacS},MLd a z n x→n+l.length≤4000→MLd a z (n+l.length) (runF x l)
  | [],n,x,h,_=>h
  | r::l,n,x,h,hn=>by
    have h1:=h.step (by simp at hn;omega) r
    have:=runLd_ok l (n:=n+1) (x:=stepM x r) h1 (by simp at hn ⊢;omega)
    rw [show n+(r::l).length=n+1+l.length by simp;omega]
    exact this
theorem scanE_mk:∀ {E:List EpochD} {a:Int},(E.Pairwise fun p q=>p.from_<q.from_)→(∀p,p∈E→a<p.from_∧p.from_≤1099511627776∧mayE p.members=true)→scanE a E=true
  | [],_,_,_=>rfl
  | p::t,a,hp,h=>by
    obtain⟨h1,h2,h3⟩:=h p (List.mem_cons_self ..)
    rw [List.pairwise_cons] at hp
    unfold scanE
    rw [h3,decide_eq_true h1,decide_eq_true h2,scanE_mk hp.2 fun q hq=>⟨hp.1 q hq,(h q (List.mem_cons_of_mem _ hq)).2⟩]
    rfl
theorem MLd.elo {a z:Int} {n:Nat} {x:MacS} (h:MLd a z n x) (hn:n≤4000) (b:Int):eloC b x.E=bif decide (b<1)||decide (b>8) then 1 else 0:=by
  have ha:=h.ds.ok.a1
  have hs:scanE (-1) x.E=true:=scanE_mk h.eo.up fun p hp=>⟨by have:=h.eo.f0 p hp;omega,by have:=(h.ds.ok.em p hp).2;omega,(h.ds.ok.em p hp).1⟩
  unfold eloC
  rw [hs,decide_eq_true h.ds.ok.e1]
  rfl
theorem MLd.slo {a z:Int} {n:Nat} {x:MacS} (h:MLd a z n x) (b:Int):sloC b x.S=bif decide (b<1)||decide (b>16) then 1 else bif decide ((x.S.length:Int)>b) then 4 else 0:=by
  have hs:scanS x.S=true:=by
    unfold scanS
    rw [List.all_eq_true]
    intro i hi
    have hi:=List.mem_range.1 hi
    unfold rowS
    rw [decide_eq_true (h.so.q0 _ (getD_mem hi)),Bool.true_and,List.all_eq_true]
    intro k hk
    have hk:=List.mem_range.1 hk
    have hne1:(x.S.getD k noS).id≠(x.S.getD i noS).id:=fun e=>by
      have:=(List.pairwise_iff_getElem.1 h.ds.ds) k i (by simp [ids];omega) (by simp [ids];omega) hk
      exact this (by simpa [ids,List.getD,hi,(by omega:k<x.S.length)] using e)
    have hne2:(x.S.getD k noS).name≠(x.S.getD i noS).name:=fun e=>by
      have:=(List.pairwise_iff_getElem.1 h.so.ns) k i (by simp [nms];omega) (by simp [nms];omega) hk
      exact this (by simpa [nms,List.getD,hi,(by omega:k<x.S.length)] using e)
    unfold sameS
    rw [beq_eq_false_iff_ne.2 hne1,beq_eq_false_iff_ne.2 hne2]
    rfl
  unfold sloC
  rw [hs]
  rfl
theorem MLd.lod {a z:Int} {n:Nat} {x:MacS} (h:MLd a z n x) (hn:n≤4000) (hs:shortM x.C=true):(mayM x.C=true∧fewM x.C=true)∧LoadsTo x.C x.C.length:=by
  obtain⟨d,d1,d2⟩:=h.ds.ok.c
  have hf:=fewG_of (h.ds.ok.few hn)
  refine⟨⟨?_,?_⟩,?_⟩
  · unfold mayM
    rw [decide_eq_true hf.1]
    exact hs
  · unfold fewM fewX
    rw [List.all_eq_true]
    intro c hc
    have:=hf.2.1 c hc
    exact decide_eq_true (by omega)
  · rw [d2]
    exact (go_more d).loads
end Go.Proofs.YtgepebndihfnfaaGreat.Ses
