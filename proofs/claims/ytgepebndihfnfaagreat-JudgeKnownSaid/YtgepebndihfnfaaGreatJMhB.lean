/- Rows of numbers that are alike; who is awake; a machine told what is none of its own. No condition. -/
import Derived.Test.YtgepebndihfnfaaGreatJMhA
import Derived.KernelRfl
set_option linter.unusedSimpArgs false
set_option linter.unusedVariables false

namespace Go.Proofs.YtgepebndihfnfaaGreat.Ses
open Go Go.Proofs Go.Proofs.YtgepebndihfnfaaGreat.Sx
structure Req2 where
  a:RequestD
  b:RequestD
def eqR (a b:RequestD):Bool:=a.kind==b.kind&&(a.name==b.name&&(a.session==b.session&&(a.seq==b.seq&&(a.base==b.base&&(a.ref==b.ref&&(a.path==b.path&&(a.from_==b.from_&&(a.many==b.many&&(a.member==b.member&&sameC a.changes b.changes)))))))))
noncomputable def esameT:Tri:={γ:=Req2,n0:=0,args:=fun x=>[.agg x.a.enc,.agg x.b.enc],blks:=fun _=>[],pre:=fun _=>True,δ:=Unit,post:=fun _ _=>True,n1:=0,res:=fun x _=>.bool (eqR x.a x.b),blks':=fun _ _=>[],scal:=true}
noncomputable def esameE:Envr:=Env Tryz.prog cod [(206,equalT.spec)] []
noncomputable def esarE:Envr:=Env Tryz.prog cod [(85,equalT.spec)] []
noncomputable def ealiI:St→LInv:=fun s=>match getE s.env 15,getE s.env 1 with
  | .rslice _ .commit a,.rslice _ .commit b=>{σ:=Nat,I:=fun i=>i≤a.length∧sameM (a.drop i) (b.drop i)=sameM a b,μ:=fun i=>a.length-i,env:=fun i=>[(17,.int .i64 i)],blk:=fun _=>[],fresh:=0,drop:=[]}
  | _,_=>LInv.none
noncomputable def ealiE:Envr:=Env Tryz.prog cod [(206,equalT.spec)] [(4,ealiI)]
def idxR (r:RequestD):List RequestD→Int
  | []=>-1
  | x::t=>bif eqR x r then 0 else let i:=idxR r t;bif decide (i<0) then -1 else i+1
structure FirA where
  l:List RequestD
  r:RequestD
noncomputable def firT:Tri:={γ:=FirA,n0:=0,args:=fun x=>[.rslice false .request x.l,.agg x.r.enc],blks:=fun _=>[],pre:=fun _=>True,δ:=Unit,post:=fun _ _=>True,n1:=0,res:=fun x _=>.int .i64 (idxR x.r x.l),blks':=fun _ _=>[],scal:=true}
noncomputable def rfirI:St→LInv:=fun s=>match getE s.env 0,getE s.env 3 with
  | .rslice _ .request l,.mptr k _=>match s.m.blks.get k with
    | some (.cells cs)=>match dec .request cs with
      | some (r:RequestD)=>{σ:=Nat,I:=fun i=>i≤l.length ∧ ∀j,j<i→eqR (l.getD j RequestD.dflt) r=false,μ:=fun i=>l.length-i,env:=fun i=>[(5,.int .i64 i)],blk:=fun _=>[],fresh:=0,drop:=[]}
      | none=>LInv.none
    | _=>LInv.none
  | _,_=>LInv.none
noncomputable def rfirE:Envr:=Env Tryz.prog cod [(27,esameT.spec)] [(2,rfirI)]
set_option maxRecDepth 100000
abbrev esameQ1 (x:esameT.γ):=∃x4:Unit,false=eqR (Req2.a x) (Req2.b x)∧
True
theorem esame_vc (x:esameT.γ):evCall esameE (ev esameE 1000) 84 (esameT.args x) ⟨esameT.blks x,esameT.n0,[]⟩ (fun _ _=>False) (esameT.ends x)=(
br ((Req2.a x).kind==(Req2.b x).kind) (br ((Req2.a x).name==(Req2.b x).name) (br ((Req2.a x).session==(Req2.b x).session) (br ((Req2.a x).seq==(Req2.b x).seq) (br ((Req2.a x).base==(Req2.b x).base) (br ((Req2.a x).ref==(Req2.b x).ref) (br ((Req2.a x).path==(Req2.b x).path) (br ((Req2.a x).from_==(Req2.b x).from_) (br ((Req2.a x).many==(Req2.b x).many) (br ((Req2.a x).member==(Req2.b x).member) (∃x1:Cha2,(Req2.a x).changes=x1.a∧
(Req2.b x).changes=x1.b∧
True∧
∀x2:Unit,True→
∃x3:Unit,sameC x1.a x1.b=eqR (Req2.a x) (Req2.b x)∧
True) (esameQ1 x)) (esameQ1 x)) (esameQ1 x)) (esameQ1 x)) (esameQ1 x)) (esameQ1 x)) (esameQ1 x)) (esameQ1 x)) (esameQ1 x)) (esameQ1 x)):=by kernel_rfl
abbrev esarQ1 (x:esameT.γ):=∃x4:Unit,false=eqR (Req2.a x) (Req2.b x)∧
True
theorem esar_vc (x:esameT.γ):evCall esarE (ev esarE 1000) 27 (esameT.args x) ⟨esameT.blks x,esameT.n0,[]⟩ (fun _ _=>False) (esameT.ends x)=(
br ((Req2.a x).kind==(Req2.b x).kind) (br ((Req2.a x).name==(Req2.b x).name) (br ((Req2.a x).session==(Req2.b x).session) (br ((Req2.a x).seq==(Req2.b x).seq) (br ((Req2.a x).base==(Req2.b x).base) (br ((Req2.a x).ref==(Req2.b x).ref) (br ((Req2.a x).path==(Req2.b x).path) (br ((Req2.a x).from_==(Req2.b x).from_) (br ((Req2.a x).many==(Req2.b x).many) (br ((Req2.a x).member==(Req2.b x).member) (∃x1:Cha2,(Req2.a x).changes=x1.a∧
(Req2.b x).changes=x1.b∧
True∧
∀x2:Unit,True→
∃x3:Unit,sameC x1.a x1.b=eqR (Req2.a x) (Req2.b x)∧
True) (esarQ1 x)) (esarQ1 x)) (esarQ1 x)) (esarQ1 x)) (esarQ1 x)) (esarQ1 x)) (esarQ1 x)) (esarQ1 x)) (esarQ1 x)) (esarQ1 x)):=by kernel_rfl
abbrev ealiQ1 (x:alikeT.γ):=∃x1:Unit,false=eqV (Ver2.a x) (Ver2.b x)∧
True
abbrev ealiQ2 (x2:Nat) (x:alikeT.γ):=x2≤(Ver2.a x).commits.length∧
sameM (List.drop x2 (Ver2.a x).commits) (List.drop x2 (Ver2.b x).commits)=sameM (Ver2.a x).commits (Ver2.b x).commits
abbrev ealiQ3  := CommitD.mk (0:Int) (0:Int) ([]:List UInt8) ([]:List ChangeD)
abbrev ealiQ4 (x:alikeT.γ) (x3:Nat):=List.getD (Ver2.a x).commits (↑x3:Int).toNat ealiQ3
abbrev ealiQ5 (x:alikeT.γ) (x3:Nat):=List.getD (Ver2.b x).commits (↑x3:Int).toNat ealiQ3
theorem eali_vc (x:alikeT.γ):evCall ealiE (ev ealiE 1000) 90 (alikeT.args x) ⟨alikeT.blks x,alikeT.n0,[]⟩ (fun _ _=>False) (alikeT.ends x)=(
br ((Ver2.a x).code==(Ver2.b x).code) (br ((Ver2.a x).session==(Ver2.b x).session) (br ((Ver2.a x).rev==(Ver2.b x).rev) (br ((Ver2.a x).path==(Ver2.b x).path) (br ((Ver2.a x).digest==(Ver2.b x).digest) (br ((Ver2.a x).member==(Ver2.b x).member) ((Ver2.a x).commits.length*56≤room47→
(Ver2.b x).commits.length*56≤room47→
br ((↑(Ver2.a x).commits.length:Int) != (↑(Ver2.b x).commits.length:Int)) (ealiQ1 x) ((Ver2.a x).commits.length*56≤room47→
(∃x2:Nat,(0:Int)=(↑x2:Int)∧
ealiQ2 x2 x)∧
∀x3:Nat,ealiQ2 x3 x→
br (decide ((↑x3:Int)<(↑(Ver2.a x).commits.length:Int))) (br (decide ((0:Int)≤(↑x3:Int)∧
(↑x3:Int)<(↑(Ver2.a x).commits.length:Int))) (br (decide ((0:Int)≤(↑x3:Int)∧
(↑x3:Int)<(↑(Ver2.b x).commits.length:Int))) (br ((ealiQ4 x x3).rev==(ealiQ5 x x3).rev) (br ((ealiQ4 x x3).base==(ealiQ5 x x3).base) (br ((ealiQ4 x x3).ref==(ealiQ5 x x3).ref) (∃x4:Cha2,(ealiQ4 x x3).changes=x4.a∧
(ealiQ5 x x3).changes=x4.b∧
True∧
∀x5:Unit,True→
br (sameC x4.a x4.b).not (ealiQ1 x) (∃x7:Nat,IntKind.wrap IntKind.i64 ((↑x3:Int)+(1:Int))=(↑x7:Int)∧
ealiQ2 x7 x∧
Nat.sub (Ver2.a x).commits.length x7<Nat.sub (Ver2.a x).commits.length x3)) (ealiQ1 x)) (ealiQ1 x)) (ealiQ1 x)) (Bad "check" "slices.go:42")) (Bad "check" "slices.go:41")) (∃x11:Unit,true=eqV (Ver2.a x) (Ver2.b x)∧
True))) (ealiQ1 x)) (ealiQ1 x)) (ealiQ1 x)) (ealiQ1 x)) (ealiQ1 x)) (ealiQ1 x)):=by kernel_rfl
abbrev rfirQ1 (x1:Nat) (x:firT.γ):=x1≤(FirA.l x).length∧
∀x2:Nat,x2<x1→
eqR (List.getD (FirA.l x) x2 RequestD.dflt) (FirA.r x)=false
theorem rfir_vc (x:firT.γ):evCall rfirE (ev rfirE 1000) 34 (firT.args x) ⟨firT.blks x,firT.n0,[]⟩ (fun _ _=>False) (firT.ends x)=(
(∃x1:Nat,(0:Int)=(↑x1:Int)∧
rfirQ1 x1 x)∧
∀x3:Nat,rfirQ1 x3 x→
(FirA.l x).length*128≤room47→
br (decide ((↑x3:Int)<(↑(FirA.l x).length:Int))) (br (decide ((0:Int)≤(↑x3:Int)∧
(↑x3:Int)<(↑(FirA.l x).length:Int))) (∃x5:Req2,EqQ (List.getD (FirA.l x) (↑x3:Int).toNat RequestD.dflt) x5.a (EqQ (FirA.r x) x5.b (True∧
∀x6:Unit,True→
br (eqR x5.a x5.b) (∃x7:Unit,(↑x3:Int)=idxR (FirA.r x) (FirA.l x)∧
True) (∃x8:Nat,IntKind.wrap IntKind.i64 ((↑x3:Int)+(1:Int))=(↑x8:Int)∧
rfirQ1 x8 x∧
Nat.sub (FirA.l x).length x8<Nat.sub (FirA.l x).length x3)))) (Bad "check" "ref.go:257")) (∃x10:Unit,@Neg.neg Int _ (1:Int)=idxR (FirA.r x) (FirA.l x)∧
True)):=by kernel_rfl
theorem esame_ok:SpecOK Tryz.prog 84 esameT.spec:=by
  refine Tri.ok (E:=esameE) (Env_ok (by decide +kernel) (by simp [equal_ok])) (n:=1000) esameT fun x _=>?_
  rw [esame_vc]
  delta esameQ1
  obtain⟨a,b⟩:=x
  dsimp only
  exact br_i (fun p0=>br_i (fun p1=>br_i (fun p2=>br_i (fun p3=>br_i (fun p4=>br_i (fun p5=>br_i (fun p6=>br_i (fun p7=>br_i (fun p8=>br_i (fun p9=>⟨⟨a.changes,b.changes⟩,rfl,rfl,trivial,fun _ _=>⟨(),by unfold eqR;rw [p0,p1,p2,p3,p4,p5,p6,p7,p8,p9];rfl,trivial⟩⟩) (fun q=>⟨(),by unfold eqR;rw [p0,p1,p2,p3,p4,p5,p6,p7,p8,q];rfl,trivial⟩)) (fun q=>⟨(),by unfold eqR;rw [p0,p1,p2,p3,p4,p5,p6,p7,q];rfl,trivial⟩)) (fun q=>⟨(),by unfold eqR;rw [p0,p1,p2,p3,p4,p5,p6,q];rfl,trivial⟩)) (fun q=>⟨(),by unfold eqR;rw [p0,p1,p2,p3,p4,p5,q];rfl,trivial⟩)) (fun q=>⟨(),by unfold eqR;rw [p0,p1,p2,p3,p4,q];rfl,trivial⟩)) (fun q=>⟨(),by unfold eqR;rw [p0,p1,p2,p3,q];rfl,trivial⟩)) (fun q=>⟨(),by unfold eqR;rw [p0,p1,p2,q];rfl,trivial⟩)) (fun q=>⟨(),by unfold eqR;rw [p0,p1,q];rfl,trivial⟩)) (fun q=>⟨(),by unfold eqR;rw [p0,q];rfl,trivial⟩)) (fun q=>⟨(),by unfold eqR;rw [q];rfl,trivial⟩)
theorem esar_ok:SpecOK Tryz.prog 27 esameT.spec:=by
  refine Tri.ok (E:=esarE) (Env_ok (by decide +kernel) (by simp [gsame_ok])) (n:=1000) esameT fun x _=>?_
  rw [esar_vc]
  delta esarQ1
  obtain⟨a,b⟩:=x
  dsimp only
  exact br_i (fun p0=>br_i (fun p1=>br_i (fun p2=>br_i (fun p3=>br_i (fun p4=>br_i (fun p5=>br_i (fun p6=>br_i (fun p7=>br_i (fun p8=>br_i (fun p9=>⟨⟨a.changes,b.changes⟩,rfl,rfl,trivial,fun _ _=>⟨(),by unfold eqR;rw [p0,p1,p2,p3,p4,p5,p6,p7,p8,p9];rfl,trivial⟩⟩) (fun q=>⟨(),by unfold eqR;rw [p0,p1,p2,p3,p4,p5,p6,p7,p8,q];rfl,trivial⟩)) (fun q=>⟨(),by unfold eqR;rw [p0,p1,p2,p3,p4,p5,p6,p7,q];rfl,trivial⟩)) (fun q=>⟨(),by unfold eqR;rw [p0,p1,p2,p3,p4,p5,p6,q];rfl,trivial⟩)) (fun q=>⟨(),by unfold eqR;rw [p0,p1,p2,p3,p4,p5,q];rfl,trivial⟩)) (fun q=>⟨(),by unfold eqR;rw [p0,p1,p2,p3,p4,q];rfl,trivial⟩)) (fun q=>⟨(),by unfold eqR;rw [p0,p1,p2,p3,q];rfl,trivial⟩)) (fun q=>⟨(),by unfold eqR;rw [p0,p1,p2,q];rfl,trivial⟩)) (fun q=>⟨(),by unfold eqR;rw [p0,p1,q];rfl,trivial⟩)) (fun q=>⟨(),by unfold eqR;rw [p0,q];rfl,trivial⟩)) (fun q=>⟨(),by unfold eqR;rw [q];rfl,trivial⟩)
theorem eali_ok:SpecOK Tryz.prog 90 alikeT.spec:=by
  refine Tri.ok (E:=ealiE) (Env_ok (by decide +kernel) (by simp [equal_ok])) (n:=1000) alikeT fun x _=>?_
  rw [eali_vc]
  delta ealiQ5 ealiQ4 ealiQ3 ealiQ2 ealiQ1
  obtain⟨x,y⟩:=x
  dsimp only
  refine br_i (fun p0=>br_i (fun p1=>br_i (fun p2=>br_i (fun p3=>br_i (fun p4=>br_i (fun p5=>?_) (fun q=>⟨(),by unfold eqV;rw [p0,p1,p2,p3,p4,q];rfl,trivial⟩)) (fun q=>⟨(),by unfold eqV;rw [p0,p1,p2,p3,q];rfl,trivial⟩)) (fun q=>⟨(),by unfold eqV;rw [p0,p1,p2,q];rfl,trivial⟩)) (fun q=>⟨(),by unfold eqV;rw [p0,p1,q];rfl,trivial⟩)) (fun q=>⟨(),by unfold eqV;rw [p0,q];rfl,trivial⟩)) (fun q=>⟨(),by unfold eqV;rw [q];rfl,trivial⟩)
  have ev:eqV x y=sameM x.commits y.commits:=by unfold eqV;rw [p0,p1,p2,p3,p4,p5];rfl
  rw [ev]
  generalize x.commits=a
  generalize y.commits=b
  intro ha hb
  have ha5:a.length*56≤room47:=ha
  simp only [room47] at ha5
  refine br_i (fun h=>⟨(),?_,trivial⟩) (fun h _=>⟨⟨0,rfl,Nat.zero_le _,rfl⟩,fun i hi=>br_i (fun h3=>?_) (fun h3=>⟨(),?_,trivial⟩)⟩)
  · have:Nat.beq a.length b.length=false:=by
      cases h':Nat.beq a.length b.length
      · rfl
      · rw [Nat.eq_of_beq_eq_true h'] at h;simp at h
    unfold sameM
    rw [this];rfl
  · have he:(a.length:Int)=b.length:=by simpa using h
    have h3:(i:Int)<a.length:=of_decide_eq_true h3
    obtain⟨h1,h2⟩:=hi
    have hs:=sameM_at (a:=a) (b:=b) (i:=i) (by omega) (by omega)
    rw [h2] at hs
    have e0:(i:Int).toNat=i:=rfl
    rw [e0]
    have ed:∀l:List CommitD,l.getD i ⟨0,0,[],[]⟩=l.getD i noM:=fun _=>rfl
    rw [ed,ed]
    generalize a.getD i noM=c at hs ⊢
    generalize b.getD i noM=d at hs ⊢
    have bad:eqM c d=false→false=sameM a b:=fun h=>by rw [hs,h];rfl
    refine br_t (decide_eq_true ⟨by omega,h3⟩) (br_t (decide_eq_true ⟨by omega,by omega⟩) (br_i (fun c0=>br_i (fun c1=>br_i (fun c2=>⟨⟨c.changes,d.changes⟩,rfl,rfl,trivial,fun _ _=>br_i (fun c3=>?_) (fun c3=>?_)⟩)
      (fun q=>⟨(),bad (by unfold eqM;rw [c0,c1,q];rfl),trivial⟩)) (fun q=>⟨(),bad (by unfold eqM;rw [c0,q];rfl),trivial⟩)) (fun q=>⟨(),bad (by unfold eqM;rw [q];rfl),trivial⟩)))
    · have c3:sameC c.changes d.changes=false:=by rw [Bool.not_eq_true'] at c3;exact c3
      exact⟨(),bad (by unfold eqM;rw [c0,c1,c2,c3];rfl),trivial⟩
    · have c3:sameC c.changes d.changes=true:=by rw [Bool.not_eq_false'] at c3;exact c3
      refine⟨i+1,by rw [wrap_id (by omega) (by omega)];rfl,⟨by omega,?_⟩,by show a.length-(i+1)<a.length-i;omega⟩
      rw [hs]
      have:eqM c d=true:=by unfold eqM;rw [c0,c1,c2,c3];rfl
      rw [this];rfl
  · have he:(a.length:Int)=b.length:=by simpa using h
    have h3:¬(i:Int)<a.length:=of_decide_eq_false h3
    obtain⟨h1,h2⟩:=hi
    rw [←h2,List.drop_of_length_le (by omega:a.length≤i),List.drop_of_length_le (by omega:b.length≤i)];rfl
theorem idxR_at {r:RequestD}:∀ {l:List RequestD} {i:Nat},i<l.length→eqR (l.getD i RequestD.dflt) r=true→(∀j,j<i→eqR (l.getD j RequestD.dflt) r=false)→idxR r l=i
  | [],i,h,_,_=>absurd h (Nat.not_lt_zero _)
  | x::t,0,_,h,_=>by
    have h:eqR x r=true:=h
    unfold idxR
    rw [h];rfl
  | x::t,i+1,h0,h,hb=>by
    have h1:eqR x r=false:=hb 0 (by omega)
    have:=idxR_at (l:=t) (i:=i) (by simpa using h0) h fun j hj=>hb (j+1) (by omega)
    unfold idxR
    rw [h1,this]
    dsimp only [cond_false]
    rw [decide_eq_false (by omega:¬((i:Int)<0))]
    rfl
theorem idxR_no {r:RequestD}:∀ {l:List RequestD},(∀j,j<l.length→eqR (l.getD j RequestD.dflt) r=false)→idxR r l = -1
  | [],_=>rfl
  | x::t,h=>by
    have h1:eqR x r=false:=h 0 (by simp)
    have:=idxR_no (l:=t) fun j hj=>h (j+1) (by simpa using hj)
    unfold idxR
    rw [h1,this]
    rfl
theorem rfir_ok:SpecOK Tryz.prog 34 firT.spec:=by
  refine Tri.ok (E:=rfirE) (Env_ok (by decide +kernel) (by simp [esar_ok])) (n:=1000) firT fun x _=>?_
  rw [rfir_vc]
  delta rfirQ1 EqQ
  obtain⟨l,r⟩:=x
  dsimp only
  refine⟨⟨0,rfl,Nat.zero_le _,fun j hj=>absurd hj (Nat.not_lt_zero _)⟩,fun i hi hr=>br_i (fun h1=>?_) (fun h1=>?_)⟩
  · have h1:=of_decide_eq_true h1
    have hsm:l.length≤1099511627776:=by unfold room47 at hr;omega
    obtain⟨i1,i2⟩:=hi
    have e0:(i:Int).toNat=i:=rfl
    rw [e0]
    refine br_t (decide_eq_true ⟨by omega,h1⟩) ⟨⟨l.getD i RequestD.dflt,r⟩,rfl,rfl,rfl,rfl,rfl,rfl,rfl,rfl,rfl,rfl,rfl,rfl,rfl,rfl,rfl,rfl,rfl,rfl,rfl,rfl,rfl,rfl,trivial,fun _ _=>br_i (fun q=>⟨(),(idxR_at (by omega) q i2).symm,trivial⟩) (fun q=>⟨i+1,by rw [wrap_id (by omega) (by omega)];rfl,⟨by omega,fun j hj=>?_⟩,by show l.length-(i+1)<l.length-i;omega⟩)⟩
    by_cases e:j=i
    · subst e;exact q
    · exact i2 j (by omega)
  · have h1:=of_decide_eq_false h1
    exact⟨(),(idxR_no fun j hj=>hi.2 j (by omega)).symm,trivial⟩
def cf0:CfgD:=⟨[0,1,2],2,3,0,0,0,0,0,0⟩
theorem cf0_ok {l:List RequestD} (h:okL l=true):RunA.ok ⟨cf0,l⟩=true:=by
  show (okCf 2 3 [0,1,2]&&okL l)=true
  rw [h];rfl
end Go.Proofs.YtgepebndihfnfaaGreat.Ses
