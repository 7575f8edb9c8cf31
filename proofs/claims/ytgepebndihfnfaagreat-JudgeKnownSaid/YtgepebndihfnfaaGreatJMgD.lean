/- Who only looks; the machine of the reference. No condition. -/
import Derived.Test.YtgepebndihfnfaaGreatJMgC
import Derived.KernelRfl
set_option linter.unusedSimpArgs false
set_option linter.unusedVariables false

namespace Go.Proofs.YtgepebndihfnfaaGreat.Ses
open Go Go.Proofs Go.Proofs.YtgepebndihfnfaaGreat.Sx
def peekM (x:MacS) (r:RequestD):VerdictD:=bif r.kind==3 then ⟨8,0,x.C.length,[],0,[],0⟩ else bif r.kind==4 then readV ⟨x.C,r.path⟩ else bif r.kind==5 then logV ⟨x.C,r.from_,r.many⟩ else vd 5
noncomputable def peekT:Tri:={γ:=MacA,n0:=8,args:=fun a=>[.mptr 0 0,.agg a.r.enc],blks:=fun a=>mB a.x 0 1 2 3 4 5 6 7,pre:=fun a=>fewG a.x.C=true∧okRq a.r=true,δ:=Unit,post:=fun _ _=>True,n1:=0,res:=fun a _=>.agg (peekM a.x a.r).enc,blks':=fun a _=>mB a.x 0 1 2 3 4 5 6 7,scal:=false}
noncomputable def peekE:Envr:=Env Tryz.prog cod [(72,landT.spec),(102,gheadT.spec),(214,readT.spec),(215,logT.spec),(253,echgT.spec)] []
set_option maxRecDepth 100000
abbrev peekQ1 (x:peekT.γ):=(MacA.x x).alpha=(MacA.x x).alpha
abbrev peekQ2 (x:peekT.γ):=(MacA.x x).size=(MacA.x x).size
abbrev peekQ3 (x:peekT.γ):=(MacA.x x).applied=(MacA.x x).applied
abbrev peekQ4 (x:peekT.γ):=EqT (MacA.x x).size (MacA.x x).size (MacA.x x).S (MacA.x x).S (EqT (MacA.x x).alpha (MacA.x x).alpha (MacA.x x).E (MacA.x x).E True)
abbrev peekQ5 (x13:ChgA):=okEp x13.alpha x13.E=true∧
(0:Int)≤x13.slot∧
x13.slot≤(2199023255552:Int)
abbrev peekQ6 (x:peekT.γ) (x13:ChgA):=peekQ1 x∧
peekQ2 x∧
peekQ3 x∧
EqG (MacA.x x).C (MacA.x x).C (EqT (MacA.x x).size (MacA.x x).size (MacA.x x).S (MacA.x x).S (x13.alpha=(MacA.x x).alpha∧
Bad "match: another name" ""))
abbrev peekQ7 (x:peekT.γ) (x13:ChgA):=∃x15:Unit,EqV7 (14:Int) (0:Int) (0:Int) ([]:List UInt8) (0:Int) ([]:List CommitD) (MacA.r x).member (peekM (MacA.x x) (MacA.r x)) (peekQ6 x x13)
abbrev peekQ8 (x:peekT.γ):=∃x21:Unit,EqV7 (5:Int) (0:Int) (0:Int) ([]:List UInt8) (0:Int) ([]:List CommitD) (0:Int) (peekM (MacA.x x) (MacA.r x)) (EqM (MacA.x x) (MacA.x x) True)
abbrev peekQ9 (x:peekT.γ):=br ((MacA.r x).kind==(2:Int)) (∃x1:LandA,(MacA.r x).base=x1.base∧
(MacA.r x).ref=x1.ref∧
(MacA.r x).changes=x1.l∧
EqG (MacA.x x).C x1.C ((fewG x1.C=true∧
shortC x1.l=true)∧
∀x2:Unit,True→
∃x3:Unit,EqV (landV x1) (peekM (MacA.x x) (MacA.r x)) (peekQ1 x∧
peekQ2 x∧
peekQ3 x∧
Bad "match: another name" ""))) (br ((MacA.r x).kind==(3:Int)) (∃x4:(List CommitD),EqG (MacA.x x).C x4 (True∧
∀x5:Unit,True→
∃x6:Unit,EqV7 (8:Int) (0:Int) (↑x4.length:Int) ([]:List UInt8) (0:Int) ([]:List CommitD) (0:Int) (peekM (MacA.x x) (MacA.r x)) (peekQ1 x∧
peekQ2 x∧
peekQ3 x∧
EqG x4 (MacA.x x).C (peekQ4 x)))) (br ((MacA.r x).kind==(4:Int)) (∃x7:ReadA,(MacA.r x).path=x7.p∧
EqG (MacA.x x).C x7.C (shortB x7.p=true∧
∀x8:Unit,True→
∃x9:Unit,EqV (readV x7) (peekM (MacA.x x) (MacA.r x)) (peekQ1 x∧
peekQ2 x∧
peekQ3 x∧
EqG x7.C (MacA.x x).C (peekQ4 x)))) (br ((MacA.r x).kind==(5:Int)) (∃x10:LogA,(MacA.r x).from_=x10.frm∧
(MacA.r x).many=x10.many∧
EqG (MacA.x x).C x10.C ((fewG x10.C=true∧
inI x10.frm=true)∧
∀x11:Unit,True→
∃x12:Unit,EqV (logV x10) (peekM (MacA.x x) (MacA.r x)) (peekQ1 x∧
peekQ2 x∧
peekQ3 x∧
EqG x10.C (MacA.x x).C (peekQ4 x)))) (br ((MacA.r x).kind==(6:Int)) (∃x13:ChgA,(MacA.x x).applied=x13.slot∧
(MacA.r x).member=x13.member∧
true=x13.add∧
EqT (MacA.x x).alpha x13.alpha (MacA.x x).E x13.E (peekQ5 x13∧
∀x14:Unit,True→
br ((chgE x13).1 != (0:Int)) (peekQ7 x x13) (∃x16:Unit,EqV7 (12:Int) (0:Int) (0:Int) ([]:List UInt8) (0:Int) ([]:List CommitD) (MacA.r x).member (peekM (MacA.x x) (MacA.r x)) (peekQ6 x x13)))) (br ((MacA.r x).kind==(7:Int)) (∃x17:ChgA,(MacA.x x).applied=x17.slot∧
(MacA.r x).member=x17.member∧
false=x17.add∧
EqT (MacA.x x).alpha x17.alpha (MacA.x x).E x17.E (peekQ5 x17∧
∀x18:Unit,True→
br ((chgE x17).1 != (0:Int)) (peekQ7 x x17) (∃x20:Unit,EqV7 (13:Int) (0:Int) (0:Int) ([]:List UInt8) (0:Int) ([]:List CommitD) (MacA.r x).member (peekM (MacA.x x) (MacA.r x)) (peekQ6 x x17)))) (peekQ8 x))))))
theorem peek_vc (x:peekT.γ):evCall peekE (ev peekE 1000) 58 (peekT.args x) ⟨peekT.blks x,peekT.n0,[]⟩ (fun _ _=>False) (peekT.ends x)=(
br ((MacA.r x).kind==(3:Int)) (peekQ9 x) (br ((MacA.r x).kind==(4:Int)) (peekQ9 x) (br ((MacA.r x).kind==(5:Int)) (peekQ9 x) (peekQ8 x)))):=by kernel_rfl
theorem kind_other {k a b:Int} (h:(k==a)=true) (hne:a≠b):(k==b)=false:=by
  have:=eq_of_beq h
  subst this
  simpa using hne
set_option maxHeartbeats 0 in
theorem peek_ok:SpecOK Tryz.prog 58 peekT.spec:=by
  refine Tri.ok (E:=peekE) (Env_ok (by decide +kernel) (by
    intro p hp
    simp only [List.mem_cons,List.mem_nil_iff,or_false] at hp
    rcases hp with rfl | rfl | rfl | rfl | rfl
    · exact land_ok
    · exact ghead_ok
    · exact read_ok
    · exact log_ok
    · exact echg_ok)) (n:=1000) peekT fun a ha=>?_
  rw [peek_vc]
  delta peekQ9 peekQ8 peekQ7 peekQ6 peekQ5 peekQ4 peekQ3 peekQ2 peekQ1 EqM EqG EqT EqV EqV7
  obtain⟨x,r⟩:=a
  obtain⟨p1,h2⟩:fewG x.C=true∧okRq r=true:=ha
  obtain⟨q1,q2,q3⟩:=okRq_of h2
  dsimp only
  refine br_i (fun k3=>?_) fun k3=>br_i (fun k4=>?_) fun k4=>br_i (fun k5=>?_) fun k5=>?_
  · have hp:peekM x r=⟨8,0,x.C.length,[],0,[],0⟩:=by unfold peekM;rw [k3];rfl
    rw [hp]
    exact br_f (kind_other k3 (by decide)) (br_t k3 ⟨x.C,rfl,rfl,rfl,rfl,rfl,trivial,fun _ _=>⟨(),(by repeat' (first | exact trivial | refine And.intro ?_ ?_ | rfl))⟩⟩)
  · have hp:peekM x r=readV ⟨x.C,r.path⟩:=by unfold peekM;rw [k3,k4];rfl
    rw [hp]
    exact br_f (kind_other k4 (by decide)) (br_f k3 (br_t k4 ⟨⟨x.C,r.path⟩,rfl,rfl,rfl,rfl,rfl,rfl,q2,fun _ _=>⟨(),(by repeat' (first | exact trivial | refine And.intro ?_ ?_ | rfl))⟩⟩))
  · have hp:peekM x r=logV ⟨x.C,r.from_,r.many⟩:=by unfold peekM;rw [k3,k4,k5];rfl
    rw [hp]
    exact br_f (kind_other k5 (by decide)) (br_f k3 (br_f k4 (br_t k5 ⟨⟨x.C,r.from_,r.many⟩,rfl,rfl,rfl,rfl,rfl,rfl,rfl,⟨p1,q3⟩,fun _ _=>⟨(),(by repeat' (first | exact trivial | refine And.intro ?_ ?_ | rfl))⟩⟩)))
  · have hp:peekM x r=vd 5:=by unfold peekM;rw [k3,k4,k5];rfl
    rw [hp]
    exact⟨(),(by repeat' (first | exact trivial | refine And.intro ?_ ?_ | rfl))⟩
abbrev EqN (a b:MacS) (P:Prop):Prop:=a.applied=b.applied∧EqR a.C b.C (EqT a.size b.size a.S b.S (EqT a.alpha b.alpha a.E b.E P))
def rmG (x:MacS) (L:List LeafD) (R:List RefD) (m a b c t sr e er:Nat):Blks:=[(m,.cells [.int .i64 x.applied,.mslice .commit a 0 x.C.length,.mslice .leaf b 0 L.length,.mslice .ref c 0 R.length,.mptr t 0,.mptr e 0]),(a,.rows .commit x.C),(b,.rows .leaf L),(c,.rows .ref R),(t,.cells [.int .i64 x.size,.mslice .session sr 0 x.S.length]),(sr,.rows .session x.S),(e,.cells [.int .i64 x.alpha,.mslice .epoch er 0 x.E.length]),(er,.rows .epoch x.E)]
def rmB (x:MacS) (m a b c t sr e er:Nat):Blks:=rmG x (rowC x.C) (refsR x.C) m a b c t sr e er
structure MvmA where
  x:MacS
  L:List LeafD
  R:List RefD
  n:Bs
  v:Int
noncomputable def movmT:Tri:={γ:=MvmA,n0:=8,args:=fun a=>[.mptr 0 1,.str a.n,.int .i64 a.v],blks:=fun a=>rmG a.x a.L a.R 0 1 2 3 4 5 6 7,pre:=fun a=>decide (a.R.length≤4000)=true,δ:=Unit,post:=fun _ _=>True,n1:=1,res:=fun _ _=>.tuple [],blks':=fun a _=>rmG a.x a.L (moveR a.R a.n a.v) 0 1 2 8 4 5 6 7,scal:=false}
noncomputable def movmI:St→LInv:=fun s=>match getE s.env 0,getE s.env 1,getE s.env 2 with
  | .mptr q _,.str n,.int _ v=>(match s.m.blks.get q with
    | some (.cells [_,_,_,.mslice _ c _ _,_,_])=>(match s.m.blks.get c with
      | some (.rows .ref R)=>{σ:=Nat,I:=fun i=>i≤R.length,μ:=fun i=>R.length-i,env:=fun i=>[(8,.int .i64 i),(7,.bool (foldR n v (R.take i)).put),(6,.mslice .ref s.m.next 0 (foldR n v (R.take i)).out.length)],blk:=fun i=>[(s.m.next,.rows .ref (foldR n v (R.take i)).out)],fresh:=1,drop:=[]}
      | _=>LInv.none)
    | _=>LInv.none)
  | _,_,_=>LInv.none
noncomputable def movmE:Envr:=Env Tryz.prog cod [] [(3,movmI)]
structure LndM where
  x:MacS
  base:Int
  ref:Bs
  l:List ChangeD
def LndM.a (y:LndM):LandA:=⟨y.x.C,y.base,y.ref,y.l⟩
def okLm (y:LndM):Bool:=fewG y.x.C&&(shortM y.x.C&&(shortC y.l&&fewX y.l))
noncomputable def rlamT:Tri:={γ:=LndM,n0:=8,args:=fun y=>[.mptr 0 1,.int .i64 y.base,.str y.ref,.rslice false .change y.l],blks:=fun y=>rmB y.x 0 1 2 3 4 5 6 7,pre:=fun y=>okLm y=true,δ:=Unit,post:=fun _ _=>True,n1:=3,res:=fun y _=>.agg (landV y.a).enc,blks':=fun y _=>rmB (withC y.x (landC y.a)) 0 8 9 10 4 5 6 7,scal:=false}
noncomputable def rlamI7:St→LInv:=fun s=>match getE s.env 9,getE s.env 1,getE s.env 0 with
  | .rslice _ .change l,.int _ b,.mptr q _=>(match s.m.blks.get q with
    | some (.cells [_,_,.mslice _ n _ _,_,_,_])=>(match s.m.blks.get n with
      | some (.rows .leaf L)=>{σ:=Nat,I:=fun i=>i≤l.length∧confL L b (l.drop i)=confL L b l,μ:=fun i=>l.length-i,env:=fun i=>[(10,.int .i64 i)],blk:=fun _=>[],fresh:=0,drop:=[]}
      | _=>LInv.none)
    | _=>LInv.none)
  | _,_,_=>LInv.none
noncomputable def rlamI15:St→LInv:=fun s=>match getE s.env 9,getE s.env 13,getE s.env 0 with
  | .rslice _ .change l,.int _ rev,.mptr q _=>(match s.m.blks.get q with
    | some (.cells [z,x,.mslice _ n _ _,y,t,e])=>(match s.m.blks.get n with
      | some (.rows .leaf L)=>{σ:=Nat,I:=fun i=>i≤l.length,μ:=fun i=>l.length-i,env:=fun i=>[(14,.int .i64 i)],blk:=fun i=>[(q,.cells [z,x,.mslice .leaf s.m.next 0 (putsL L ((l.take i).map (leafC rev))).length,y,t,e]),(s.m.next,.rows .leaf (putsL L ((l.take i).map (leafC rev))))],fresh:=1,drop:=[n]}
      | _=>LInv.none)
    | _=>LInv.none)
  | _,_,_=>LInv.none
noncomputable def rlamE:Envr:=Env Tryz.prog cod [(132,rcheckT.spec),(192,wordT.spec),(134,rsrtT.spec),(135,rgetT.spec),(136,rputT.spec),(137,movmT.spec)] [(7,rlamI7),(15,rlamI15)]
def okRm (x:MacS) (r:RequestD):Bool:=okMS x&&(okRq r&&(shortM x.C&&(fewX r.changes&&decide ((x.S.length:Int)≤x.size))))
noncomputable def rpeekT:Tri:={γ:=MacA,n0:=8,args:=fun a=>[.mptr 0 0,.agg a.r.enc],blks:=fun a=>rmB a.x 0 1 2 3 4 5 6 7,pre:=fun a=>okRm a.x a.r=true,δ:=Unit,post:=fun _ _=>True,n1:=0,res:=fun a _=>.agg (peekM a.x a.r).enc,blks':=fun a _=>rmB a.x 0 1 2 3 4 5 6 7,scal:=false}
noncomputable def rpeekE:Envr:=Env Tryz.prog cod [(96,rreadT.spec),(97,rlogT.spec)] []
noncomputable def rdoT:Tri:={γ:=MacA,n0:=8,args:=fun a=>[.mptr 0 0,.agg a.r.enc],blks:=fun a=>rmB a.x 0 1 2 3 4 5 6 7,pre:=fun a=>okRm a.x a.r=true,δ:=Unit,post:=fun _ _=>True,n1:=4,res:=fun a _=>.agg (howM a.x a.r).1.enc,blks':=fun a _=>rmB (howM a.x a.r).2 0 8 9 10 4 5 6 11,scal:=false}
noncomputable def rdoE:Envr:=Env Tryz.prog cod [(73,rlamT.spec),(210,echgT.spec),(47,rpeekT.spec)] []
noncomputable def rverT:Tri:={γ:=MacA,n0:=8,args:=fun a=>[.mptr 0 0,.agg a.r.enc],blks:=fun a=>rmB a.x 0 1 2 3 4 5 6 7,pre:=fun a=>okRm a.x a.r=true,δ:=Unit,post:=fun _ _=>True,n1:=5,res:=fun a _=>.agg (doM a.x a.r).1.enc,blks':=fun a _=>rmB (doM a.x a.r).2 0 8 9 10 4 11 6 12,scal:=false}
noncomputable def rverE:Envr:=Env Tryz.prog cod [(192,wordT.spec),(158,ropenT.spec),(159,raskT.spec),(160,rdoT.spec),(161,rdoneT.spec)] []
noncomputable def rappT:Tri:={γ:=MacA,n0:=8,args:=fun a=>[.mptr 0 0,.agg a.r.enc],blks:=fun a=>rmB a.x 0 1 2 3 4 5 6 7,pre:=fun a=>okRm a.x a.r=true,δ:=Unit,post:=fun _ _=>True,n1:=5,res:=fun a _=>.agg (applyM a.x a.r).1.enc,blks':=fun a _=>rmB (applyM a.x a.r).2 0 8 9 10 4 11 6 12,scal:=false}
noncomputable def rappE:Envr:=Env Tryz.prog cod [(98,rverT.spec),(99,rcutT.spec),(100,cverT.spec)] []
set_option maxRecDepth 100000
abbrev movmQ1 (x:movmT.γ) (x1:Nat):=(foldR (MvmA.n x) (MvmA.v x) (List.take x1 (MvmA.R x))).put
abbrev movmQ2 (x:movmT.γ) (x1:Nat):=(foldR (MvmA.n x) (MvmA.v x) (List.take x1 (MvmA.R x))).out
abbrev movmQ3 (x2:Nat) (x:movmT.γ):=decide ((0:Int)≤(↑x2:Int)∧
(↑x2:Int)<(↑(MvmA.R x).length:Int))
abbrev movmQ4 (x2:Nat) (x:movmT.γ):=decide (0+(↑x2:Int).toNat<(MvmA.R x).length)
abbrev movmQ5 (x:movmT.γ) (x2:Nat):=List.getD (MvmA.R x) (0+(↑x2:Int).toNat) (RefD.mk ([]:List UInt8) (0:Int))
abbrev movmQ6 (x:movmT.γ) (x2:Nat):=Nat.le ((movmQ2 x x2).length*24) room47∧
Nat.le (1*24) room47
abbrev movmQ7 (x:movmT.γ):=List.take 1 (List.drop 0 [RefD.mk (MvmA.n x) (MvmA.v x)])
abbrev movmQ8 (x:movmT.γ) (x2:Nat):=(movmQ2 x x2).length+(movmQ7 x).length
abbrev movmQ9 (x:movmT.γ) (x2:Nat):=Bool.and (Bool.and (decide (0+1≤[RefD.mk (MvmA.n x) (MvmA.v x)].length)) (decide (0+(movmQ2 x x2).length≤(movmQ2 x x2).length))) (decide (movmQ8 x x2*24≤room47))
abbrev movmQ10 (x:movmT.γ) (x2:Nat):=decide (0+1≤[RefD.mk (movmQ5 x x2).name (movmQ5 x x2).rev].length)
abbrev movmQ11 (x:movmT.γ) (x2:Nat):=@HAppend.hAppend (List RefD) (List RefD) (List RefD) _ (List.take (movmQ2 x x2).length (List.drop 0 (movmQ2 x x2))) (movmQ7 x)
abbrev movmQ12 (x:movmT.γ) (x2:Nat):=List.take 1 (List.drop 0 [RefD.mk (movmQ5 x x2).name (movmQ5 x x2).rev])
abbrev movmQ13 (x2:Nat) (x3:Nat):=IntKind.wrap IntKind.i64 ((↑x2:Int)+(1:Int))=(↑x3:Int)
abbrev movmQ14 (x3:Nat) (x:movmT.γ) (x2:Nat):=Nat.le x3 (MvmA.R x).length∧
Nat.sub (MvmA.R x).length x3<Nat.sub (MvmA.R x).length x2
abbrev movmQ15 (x2:Nat) (x:movmT.γ):=br (movmQ3 x2 x) (br (movmQ4 x2 x) (br ((movmQ5 x x2).name==MvmA.n x).not (br (movmQ3 x2 x) (br (movmQ4 x2 x) (movmQ6 x x2→
br (Bool.and (Bool.and (movmQ10 x x2) (decide (0+(movmQ2 x x2).length≤(movmQ2 x x2).length))) (decide (((movmQ2 x x2).length+(movmQ12 x x2).length)*24≤room47))) (∃x5:Nat,movmQ13 x2 x5∧
movmQ1 x x2=movmQ1 x x5∧
0=0∧
(movmQ2 x x2).length+(movmQ12 x x2).length=(movmQ2 x x5).length∧
@HAppend.hAppend (List RefD) (List RefD) (List RefD) _ (List.take (movmQ2 x x2).length (List.drop 0 (movmQ2 x x2))) (movmQ12 x x2)=movmQ2 x x5∧
movmQ14 x5 x x2) (Bad "check" "ref.go:186")) (Bad "check" "ref.go:186")) (Bad "check" "ref.go:186")) (∃x6:Nat,movmQ13 x2 x6∧
EqT (movmQ1 x x2) (movmQ1 x x6) (movmQ2 x x2) (movmQ2 x x6) (movmQ14 x6 x x2))) (Bad "check" "ref.go:185")) (Bad "check" "ref.go:185")
abbrev movmQ16 (x:movmT.γ):=moveR (MvmA.R x) (MvmA.n x) (MvmA.v x)
abbrev movmQ17 (x:movmT.γ):=EqT (MvmA.x x).size (MvmA.x x).size (MvmA.x x).S (MvmA.x x).S (EqT (MvmA.x x).alpha (MvmA.x x).alpha (MvmA.x x).E (MvmA.x x).E True)
theorem movm_vc (x:movmT.γ):evCall movmE (ev movmE 1000) 137 (movmT.args x) ⟨movmT.blks x,movmT.n0,[]⟩ (fun _ _=>False) (movmT.ends x)=(
(∃x1:Nat,(0:Int)=(↑x1:Int)∧
false=movmQ1 x x1∧
0=(movmQ2 x x1).length∧
([]:List RefD)=movmQ2 x x1∧
Nat.le x1 (MvmA.R x).length)∧
∀x2:Nat,Nat.le x2 (MvmA.R x).length→
(MvmA.R x).length*24≤room47→
br (decide ((↑x2:Int)<(↑(MvmA.R x).length:Int))) (br (movmQ1 x x2).not (br (movmQ3 x2 x) (br (movmQ4 x2 x) (br (Op.bytesLess (movmQ5 x x2).name (MvmA.n x)).not (movmQ6 x x2→
br (movmQ9 x x2) (br (movmQ3 x2 x) (br (movmQ4 x2 x) (br ((movmQ5 x x2).name==MvmA.n x).not (br (movmQ3 x2 x) (br (movmQ4 x2 x) (Nat.le (movmQ8 x x2*24) room47∧
Nat.le (1*24) room47→
br (Bool.and (Bool.and (movmQ10 x x2) (decide (0+movmQ8 x x2≤(movmQ11 x x2).length))) (decide ((movmQ8 x x2+(movmQ12 x x2).length)*24≤room47))) (∃x3:Nat,movmQ13 x2 x3∧
true=movmQ1 x x3∧
0=0∧
movmQ8 x x2+(movmQ12 x x2).length=(movmQ2 x x3).length∧
@HAppend.hAppend (List RefD) (List RefD) (List RefD) _ (List.take (movmQ8 x x2) (List.drop 0 (movmQ11 x x2))) (movmQ12 x x2)=movmQ2 x x3∧
movmQ14 x3 x x2) (Bad "check" "ref.go:186")) (Bad "check" "ref.go:186")) (Bad "check" "ref.go:186")) (∃x4:Nat,movmQ13 x2 x4∧
true=movmQ1 x x4∧
0=0∧
movmQ8 x x2=(movmQ2 x x4).length∧
movmQ11 x x2=movmQ2 x x4∧
movmQ14 x4 x x2)) (Bad "check" "ref.go:185")) (Bad "check" "ref.go:185")) (Bad "check" "ref.go:182")) (movmQ15 x2 x)) (Bad "check" "ref.go:181")) (Bad "check" "ref.go:181")) (movmQ15 x2 x)) (br (movmQ1 x x2).not (movmQ6 x x2→
br (movmQ9 x x2) (∃x9:Unit,(MvmA.x x).applied=(MvmA.x x).applied∧
0=0∧
(MvmA.x x).C.length=(MvmA.x x).C.length∧
0=0∧
(MvmA.L x).length=(MvmA.L x).length∧
0=0∧
movmQ8 x x2=(movmQ16 x).length∧
(MvmA.x x).C=(MvmA.x x).C∧
MvmA.L x=MvmA.L x∧
movmQ11 x x2=movmQ16 x∧
movmQ17 x) (Bad "check" "ref.go:190")) (∃x10:Unit,(MvmA.x x).applied=(MvmA.x x).applied∧
EqR6 (MvmA.x x).C (MvmA.x x).C (MvmA.L x) (MvmA.L x) (movmQ2 x x2) (movmQ16 x) (movmQ17 x)))):=by kernel_rfl
abbrev rlamQ1 (x:rlamT.γ):=withC (LndM.x x) (landC (LndM.a x))
abbrev rlamQ2 (x:rlamT.γ):=EqN (LndM.x x) (rlamQ1 x) True
abbrev rlamQ3 (x:rlamT.γ):=∃x3:Unit,EqV7 (5:Int) (0:Int) (0:Int) ([]:List UInt8) (0:Int) ([]:List CommitD) (0:Int) (landV (LndM.a x)) (rlamQ2 x)
abbrev rlamQ4 (x:rlamT.γ):=(LndM.x x).C.length*56≤room47
abbrev rlamQ5 (x:rlamT.γ):=(↑(LndM.x x).C.length:Int)
abbrev rlamQ6 (x11:Nat) (x9:List ChangeD) (x:rlamT.γ):=x11≤(insS x9).length∧
confL (rowC (LndM.x x).C) (LndM.base x) (List.drop x11 (insS x9))=confL (rowC (LndM.x x).C) (LndM.base x) (insS x9)
abbrev rlamQ7 (x12:Nat) (x9:List ChangeD):=decide ((0:Int)≤(↑x12:Int)∧
(↑x12:Int)<(↑(insS x9).length:Int))
abbrev rlamQ8 (x9:List ChangeD) (x12:Nat):=List.getD (insS x9) (↑x12:Int).toNat (ChangeD.mk ([]:List UInt8) false (0:Int))
abbrev rlamQ9 (x13:LeaP):=(Option.getD (getL x13.p x13.l) (LeafD.mk ([]:List UInt8) (0:Int) (0:Int) false)).rev
abbrev rlamQ10 (x12:Nat) (x9:List ChangeD) (x:rlamT.γ):=∃x16:Nat,IntKind.wrap IntKind.i64 ((↑x12:Int)+(1:Int))=(↑x16:Int)∧
rlamQ6 x16 x9 x∧
Nat.sub (insS x9).length x16<Nat.sub (insS x9).length x12
abbrev rlamQ11 (x:rlamT.γ):=IntKind.wrap IntKind.i64 (rlamQ5 x+(1:Int))
abbrev rlamQ12 (x:rlamT.γ) (x9:List ChangeD):=List.take 1 (List.drop 0 [CommitD.mk (rlamQ11 x) (LndM.base x) (LndM.ref x) (insS x9)])
abbrev rlamQ13 (x:rlamT.γ) (x9:List ChangeD):=(LndM.x x).C.length+(rlamQ12 x x9).length
abbrev rlamQ14 (x:rlamT.γ) (x18:Nat) (x9:List ChangeD):=putsL (rowC (LndM.x x).C) (List.map (leafC (rlamQ11 x)) (List.take x18 (insS x9)))
abbrev rlamQ15 (x:rlamT.γ):=(refsR (LndM.x x).C).length=(refsR (LndM.x x).C).length
abbrev rlamQ16 (x:rlamT.γ) (x9:List ChangeD):=@HAppend.hAppend (List CommitD) (List CommitD) (List CommitD) _ (List.take (LndM.x x).C.length (List.drop 0 (LndM.x x).C)) (rlamQ12 x x9)
abbrev rlamQ17 (x:rlamT.γ):=br (decide (LndM.base x<(0:Int))) (rlamQ3 x) (rlamQ4 x→
br (decide (LndM.base x>rlamQ5 x)) (rlamQ4 x→
∃x8:Unit,EqV7 (4:Int) (0:Int) (rlamQ5 x) ([]:List UInt8) (0:Int) ([]:List CommitD) (0:Int) (landV (LndM.a x)) (rlamQ2 x)) (∃x9:(List ChangeD),LndM.l x=x9∧
(shortC x9=true∧
fewX x9=true)∧
∀x10:Unit,True→
(∃x11:Nat,(0:Int)=(↑x11:Int)∧
rlamQ6 x11 x9 x)∧
∀x12:Nat,rlamQ6 x12 x9 x→
(insS x9).length*32≤room47→
br (decide ((↑x12:Int)<(↑(insS x9).length:Int))) (br (rlamQ7 x12 x9) (Twice (∃x13:LeaP,0+(rowC (LndM.x x).C).length≤(rowC (LndM.x x).C).length∧
List.take (rowC (LndM.x x).C).length (List.drop 0 (rowC (LndM.x x).C))=x13.l∧
(rlamQ8 x9 x12).path=x13.p∧
(shortLf x13.l=true∧
shortB x13.p=true)∧
∀x14:Unit,True→
br (getL x13.p x13.l).isSome (br (decide (rlamQ9 x13>LndM.base x)) (br (rlamQ7 x12 x9) (∃x15:Unit,EqV7 (3:Int) (0:Int) (rlamQ9 x13) (rlamQ8 x9 x12).path (0:Int) ([]:List CommitD) (0:Int) (landV (LndM.a x)) (rlamQ2 x)) (Bad "check" "ref.go:207")) (rlamQ10 x12 x9 x)) (rlamQ10 x12 x9 x))) (Bad "check" "ref.go:205")) (rlamQ4 x→
Nat.le ((LndM.x x).C.length*56) room47∧
Nat.le (1*56) room47→
br (Bool.and (Bool.and (decide (0+1≤[CommitD.mk (rlamQ11 x) (LndM.base x) (LndM.ref x) (insS x9)].length)) (decide (0+(LndM.x x).C.length≤(LndM.x x).C.length))) (decide (rlamQ13 x x9*56≤room47))) ((∃x18:Nat,(0:Int)=(↑x18:Int)∧
(LndM.x x).applied=(LndM.x x).applied∧
0=0∧
rlamQ13 x x9=rlamQ13 x x9∧
0=0∧
(rowC (LndM.x x).C).length=(rlamQ14 x x18 x9).length∧
0=0∧
rlamQ15 x∧
rowC (LndM.x x).C=rlamQ14 x x18 x9∧
Nat.le x18 (insS x9).length)∧
∀x19:Nat,Nat.le x19 (insS x9).length→
(insS x9).length*32≤room47→
br (decide ((↑x19:Int)<(↑(insS x9).length:Int))) (br (rlamQ7 x19 x9) (br (rlamQ7 x19 x9) (br (rlamQ7 x19 x9) (∃x20:LeaX,0+(rlamQ14 x x19 x9).length≤(rlamQ14 x x19 x9).length∧
List.take (rlamQ14 x x19 x9).length (List.drop 0 (rlamQ14 x x19 x9))=x20.l∧
(rlamQ8 x9 x19).path=x20.x.path∧
(rlamQ8 x9 x19).digest=x20.x.digest∧
rlamQ11 x=x20.x.rev∧
(rlamQ8 x9 x19).gone=x20.x.gone∧
(shortLf x20.l=true∧
shortB x20.x.path=true∧
fewLf x20.l=true)∧
∀x21:Unit,True→
∃x22:Nat,IntKind.wrap IntKind.i64 ((↑x19:Int)+(1:Int))=(↑x22:Int)∧
(LndM.x x).applied=(LndM.x x).applied∧
0=0∧
rlamQ13 x x9=rlamQ13 x x9∧
0=0∧
(insL x20.x x20.l).length=(rlamQ14 x x22 x9).length∧
0=0∧
rlamQ15 x∧
insL x20.x x20.l=rlamQ14 x x22 x9∧
Nat.le x22 (insS x9).length∧
Nat.sub (insS x9).length x22<Nat.sub (insS x9).length x19) (Bad "check" "ref.go:213")) (Bad "check" "ref.go:213")) (Bad "check" "ref.go:213")) (br (LndM.ref x==([]:List UInt8)).not (∃x23:MvmA,LndM.ref x=x23.n∧
rlamQ11 x=x23.v∧
(LndM.x x).applied=x23.x.applied∧
0=0∧
rlamQ13 x x9=x23.x.C.length∧
0=0∧
(rlamQ14 x x19 x9).length=x23.L.length∧
0=0∧
(refsR (LndM.x x).C).length=x23.R.length∧
rlamQ16 x x9=x23.x.C∧
rlamQ14 x x19 x9=x23.L∧
refsR (LndM.x x).C=x23.R∧
EqT (LndM.x x).size x23.x.size (LndM.x x).S x23.x.S (EqT (LndM.x x).alpha x23.x.alpha (LndM.x x).E x23.x.E (decide (x23.R.length≤4000)=true∧
∀x24:Unit,True→
∃x25:Unit,EqV7 (2:Int) (0:Int) (rlamQ11 x) ([]:List UInt8) (0:Int) ([]:List CommitD) (0:Int) (landV (LndM.a x)) (x23.x.applied=(rlamQ1 x).applied∧
EqR6 x23.x.C (rlamQ1 x).C x23.L (rowC (rlamQ1 x).C) (moveR x23.R x23.n x23.v) (refsR (rlamQ1 x).C) (EqT x23.x.size (rlamQ1 x).size x23.x.S (rlamQ1 x).S (EqT x23.x.alpha (rlamQ1 x).alpha x23.x.E (rlamQ1 x).E True)))))) (∃x26:Unit,EqV7 (2:Int) (0:Int) (rlamQ11 x) ([]:List UInt8) (0:Int) ([]:List CommitD) (0:Int) (landV (LndM.a x)) ((LndM.x x).applied=(rlamQ1 x).applied∧
0=0∧
rlamQ13 x x9=(rlamQ1 x).C.length∧
0=0∧
(rlamQ14 x x19 x9).length=(rowC (rlamQ1 x).C).length∧
0=0∧
(refsR (LndM.x x).C).length=(refsR (rlamQ1 x).C).length∧
rlamQ16 x x9=(rlamQ1 x).C∧
rlamQ14 x x19 x9=rowC (rlamQ1 x).C∧
refsR (LndM.x x).C=refsR (rlamQ1 x).C∧
EqT (LndM.x x).size (rlamQ1 x).size (LndM.x x).S (rlamQ1 x).S (EqT (LndM.x x).alpha (rlamQ1 x).alpha (LndM.x x).E (rlamQ1 x).E True))))) (Bad "check" "ref.go:211"))))
theorem rlam_vc (x:rlamT.γ):evCall rlamE (ev rlamE 1000) 73 (rlamT.args x) ⟨rlamT.blks x,rlamT.n0,[]⟩ (fun _ _=>False) (rlamT.ends x)=(
∃x1:(List ChangeD),LndM.l x=x1∧
shortC x1=true∧
∀x2:Unit,True→
br (chkC x1 != (0:Int)) (rlamQ3 x) (br (LndM.ref x==([]:List UInt8)).not (∃x4:WordA,LndM.ref x=x4.s∧
false=x4.point∧
True∧
∀x5:Unit,True→
br (wordOk x4.s x4.point).not (rlamQ3 x) (rlamQ17 x)) (rlamQ17 x))):=by kernel_rfl
abbrev rpeekQ1 (x:rpeekT.γ):=(refsR (MacA.x x).C).length=(refsR (MacA.x x).C).length
abbrev rpeekQ2 (x:rpeekT.γ):=EqT (MacA.x x).size (MacA.x x).size (MacA.x x).S (MacA.x x).S (EqT (MacA.x x).alpha (MacA.x x).alpha (MacA.x x).E (MacA.x x).E True)
theorem rpeek_vc (x:rpeekT.γ):evCall rpeekE (ev rpeekE 1000) 47 (rpeekT.args x) ⟨rpeekT.blks x,rpeekT.n0,[]⟩ (fun _ _=>False) (rpeekT.ends x)=(
br ((MacA.r x).kind==(3:Int)) ((MacA.x x).C.length*56≤room47→
∃x1:Unit,EqV7 (8:Int) (0:Int) (↑(MacA.x x).C.length:Int) ([]:List UInt8) (0:Int) ([]:List CommitD) (0:Int) (peekM (MacA.x x) (MacA.r x)) (EqN (MacA.x x) (MacA.x x) True)) (br ((MacA.r x).kind==(4:Int)) (∃x2:RRdA,0=0∧
(MacA.x x).C.length=x2.C.length∧
0=0∧
(rowC (MacA.x x).C).length=x2.L.length∧
0=0∧
(refsR (MacA.x x).C).length=x2.R.length∧
(MacA.r x).path=x2.p∧
(MacA.x x).C=x2.C∧
rowC (MacA.x x).C=x2.L∧
refsR (MacA.x x).C=x2.R∧
(shortB x2.p=true∧
shortLf x2.L=true)∧
∀x3:Unit,True→
∃x4:Unit,EqV (readL x2.L x2.p) (peekM (MacA.x x) (MacA.r x)) ((MacA.x x).applied=(MacA.x x).applied∧
0=0∧
(MacA.x x).C.length=(MacA.x x).C.length∧
0=0∧
(rowC (MacA.x x).C).length=(rowC (MacA.x x).C).length∧
0=0∧
rpeekQ1 x∧
x2.C=(MacA.x x).C∧
x2.L=rowC (MacA.x x).C∧
x2.R=refsR (MacA.x x).C∧
rpeekQ2 x)) (br ((MacA.r x).kind==(5:Int)) (∃x5:RLgA,0=0∧
(MacA.x x).C.length=x5.C.length∧
0=0∧
(rowC (MacA.x x).C).length=x5.L.length∧
0=0∧
(refsR (MacA.x x).C).length=x5.R.length∧
(MacA.r x).from_=x5.frm∧
(MacA.r x).many=x5.many∧
(MacA.x x).C=x5.C∧
rowC (MacA.x x).C=x5.L∧
refsR (MacA.x x).C=x5.R∧
(fewG x5.C=true∧
inI x5.frm=true)∧
∀x6:Unit,True→
∃x7:Unit,EqV (logV (LogA.mk x5.C x5.frm x5.many)) (peekM (MacA.x x) (MacA.r x)) ((MacA.x x).applied=(MacA.x x).applied∧
0=0∧
(MacA.x x).C.length=(MacA.x x).C.length∧
0=0∧
(rowC (MacA.x x).C).length=(rowC (MacA.x x).C).length∧
0=0∧
rpeekQ1 x∧
x5.C=(MacA.x x).C∧
x5.L=rowC (MacA.x x).C∧
x5.R=refsR (MacA.x x).C∧
rpeekQ2 x)) (∃x8:Unit,EqV7 (5:Int) (0:Int) (0:Int) ([]:List UInt8) (0:Int) ([]:List CommitD) (0:Int) (peekM (MacA.x x) (MacA.r x)) (EqN (MacA.x x) (MacA.x x) True))))):=by kernel_rfl
abbrev rdoQ1 (x:rdoT.γ):=(howM (MacA.x x) (MacA.r x)).1
abbrev rdoQ2 (x:rdoT.γ):=(howM (MacA.x x) (MacA.r x)).2
abbrev rdoQ3 (x:rdoT.γ) (x4:ChgA):=(MacA.x x).applied=(rdoQ2 x).applied∧
EqR (MacA.x x).C (rdoQ2 x).C (EqT (MacA.x x).size (rdoQ2 x).size (MacA.x x).S (rdoQ2 x).S (EqT x4.alpha (rdoQ2 x).alpha (chgE x4).2 (rdoQ2 x).E True))
abbrev rdoQ4 (x:rdoT.γ):=∃x4:ChgA,(MacA.x x).applied=x4.slot∧
(MacA.r x).member=x4.member∧
((MacA.r x).kind==(6:Int))=x4.add∧
EqT (MacA.x x).alpha x4.alpha (MacA.x x).E x4.E ((okEp x4.alpha x4.E=true∧
(0:Int)≤x4.slot∧
x4.slot≤(2199023255552:Int))∧
∀x5:Unit,True→
br ((chgE x4).1 != (0:Int)) (∃x6:Unit,EqV7 (14:Int) (0:Int) (0:Int) ([]:List UInt8) (0:Int) ([]:List CommitD) (MacA.r x).member (rdoQ1 x) (rdoQ3 x x4)) (br ((MacA.r x).kind==(6:Int)) (∃x7:Unit,EqV7 (12:Int) (0:Int) (0:Int) ([]:List UInt8) (0:Int) ([]:List CommitD) (MacA.r x).member (rdoQ1 x) (rdoQ3 x x4)) (∃x8:Unit,EqV7 (13:Int) (0:Int) (0:Int) ([]:List UInt8) (0:Int) ([]:List CommitD) (MacA.r x).member (rdoQ1 x) (rdoQ3 x x4))))
theorem rdo_vc (x:rdoT.γ):evCall rdoE (ev rdoE 1000) 160 (rdoT.args x) ⟨rdoT.blks x,rdoT.n0,[]⟩ (fun _ _=>False) (rdoT.ends x)=(
br ((MacA.r x).kind==(2:Int)) (∃x1:LndM,(MacA.r x).base=x1.base∧
(MacA.r x).ref=x1.ref∧
(MacA.r x).changes=x1.l∧
EqN (MacA.x x) x1.x (okLm x1=true∧
∀x2:Unit,True→
∃x3:Unit,EqV (landV x1.a) (rdoQ1 x) (EqN (withC x1.x (landC x1.a)) (rdoQ2 x) True))) (br ((MacA.r x).kind==(6:Int)) (rdoQ4 x) (br ((MacA.r x).kind==(7:Int)) (rdoQ4 x) (∃x14:MacA,EqQ (MacA.r x) x14.r (EqN (MacA.x x) x14.x (okRm x14.x x14.r=true∧
∀x15:Unit,True→
∃x16:Unit,EqV (peekM x14.x x14.r) (rdoQ1 x) (EqN x14.x (rdoQ2 x) True))))))):=by kernel_rfl
abbrev rverQ1 (x:rverT.γ):=(MacA.x x).applied=(doM (MacA.x x) (MacA.r x)).2.applied
abbrev rverQ2 (x:rverT.γ):=(doM (MacA.x x) (MacA.r x)).2.C
abbrev rverQ3 (x:rverT.γ):=(doM (MacA.x x) (MacA.r x)).2.size
abbrev rverQ4 (x:rverT.γ):=(doM (MacA.x x) (MacA.r x)).2.S
abbrev rverQ5 (x:rverT.γ):=EqT (MacA.x x).alpha (doM (MacA.x x) (MacA.r x)).2.alpha (MacA.x x).E (doM (MacA.x x) (MacA.r x)).2.E True
theorem rver_vc (x:rverT.γ):evCall rverE (ev rverE 1000) 98 (rverT.args x) ⟨rverT.blks x,rverT.n0,[]⟩ (fun _ _=>False) (rverT.ends x)=(
br ((MacA.r x).kind==(0:Int)) (∃x1:Unit,EqV7 (0:Int) (0:Int) (0:Int) ([]:List UInt8) (0:Int) ([]:List CommitD) (0:Int) (doM (MacA.x x) (MacA.r x)).1 (EqN (MacA.x x) (doM (MacA.x x) (MacA.r x)).2 True)) (br ((MacA.r x).kind==(1:Int)) (∃x2:WordA,(MacA.r x).name=x2.s∧
false=x2.point∧
True∧
∀x3:Unit,True→
br (wordOk x2.s x2.point).not (∃x4:Unit,EqV7 (5:Int) (0:Int) (0:Int) ([]:List UInt8) (0:Int) ([]:List CommitD) (0:Int) (doM (MacA.x x) (MacA.r x)).1 (EqN (MacA.x x) (doM (MacA.x x) (MacA.r x)).2 True)) (∃x5:OpenA,(MacA.r x).name=x5.name∧
IntKind.wrap IntKind.i64 ((MacA.x x).applied+(1:Int))=x5.id∧
EqT (MacA.x x).size x5.size (MacA.x x).S x5.l ((decide ((0:Int)<x5.size)=true∧
decide (x5.l.length≤1024)=true∧
decide ((↑x5.l.length:Int)≤x5.size)=true)∧
∀x6:Unit,True→
∃x7:Unit,EqV7 (1:Int) (openL x5).1 (0:Int) ([]:List UInt8) (0:Int) ([]:List CommitD) (0:Int) (doM (MacA.x x) (MacA.r x)).1 (rverQ1 x∧
EqR (MacA.x x).C (rverQ2 x) (EqT x5.size (rverQ3 x) (openL x5).2 (rverQ4 x) (rverQ5 x)))))) (Twice (∃x8:AskA,(MacA.r x).session=x8.id∧
(MacA.r x).seq=x8.seq∧
EqT (MacA.x x).size x8.size (MacA.x x).S x8.l (decide (x8.l.length≤1024)=true∧
∀x9:Unit,True→
br (askL x8).1.2.not (∃x10:MacA,EqQ (MacA.r x) x10.r ((MacA.x x).applied=x10.x.applied∧
EqR (MacA.x x).C x10.x.C (EqT x8.size x10.x.size (askL x8).2 x10.x.S (EqT (MacA.x x).alpha x10.x.alpha (MacA.x x).E x10.x.E (okRm x10.x x10.r=true∧
∀x11:Unit,True→
∃x12:DoneA,(MacA.r x).session=x12.id∧
(MacA.r x).seq=x12.seq∧
EqV (howM x10.x x10.r).1 x12.v (EqT (howM x10.x x10.r).2.size x12.size (howM x10.x x10.r).2.S x12.l (True∧
∀x13:Unit,True→
∃x14:Unit,EqV (howM x10.x x10.r).1 (doM (MacA.x x) (MacA.r x)).1 ((howM x10.x x10.r).2.applied=(doM (MacA.x x) (MacA.r x)).2.applied∧
EqR (howM x10.x x10.r).2.C (rverQ2 x) (EqT x12.size (rverQ3 x) (doneL x12).2 (rverQ4 x) (EqT (howM x10.x x10.r).2.alpha (doM (MacA.x x) (MacA.r x)).2.alpha (howM x10.x x10.r).2.E (doM (MacA.x x) (MacA.r x)).2.E True)))))))))) (∃x15:Unit,EqV (askL x8).1.1 (doM (MacA.x x) (MacA.r x)).1 (rverQ1 x∧
EqR (MacA.x x).C (rverQ2 x) (EqT x8.size (rverQ3 x) (askL x8).2 (rverQ4 x) (rverQ5 x))))))))):=by kernel_rfl
abbrev rappQ1 (x:rappT.γ):=(applyM (MacA.x x) (MacA.r x)).2
abbrev rappQ2 (x2:MacA):=IntKind.wrap IntKind.i64 ((doM x2.x x2.r).2.applied+(1:Int))
theorem rapp_vc (x:rappT.γ):evCall rappE (ev rappE 1000) 48 (rappT.args x) ⟨rappT.blks x,rappT.n0,[]⟩ (fun _ _=>False) (rappT.ends x)=(
br (decide (@GE.ge Int _ (MacA.x x).applied (1099511627776:Int))) (∃x1:Unit,EqV7 (5:Int) (0:Int) (0:Int) ([]:List UInt8) (0:Int) ([]:List CommitD) (0:Int) (applyM (MacA.x x) (MacA.r x)).1 (EqN (MacA.x x) (rappQ1 x) True)) (∃x2:MacA,EqQ (MacA.r x) x2.r (EqN (MacA.x x) x2.x (okRm x2.x x2.r=true∧
∀x3:Unit,True→
∃x4:EpA,rappQ2 x2=x4.slot∧
EqT (doM x2.x x2.r).2.alpha x4.alpha (doM x2.x x2.r).2.E x4.E (decide (1≤x4.E.length)=true∧
∀x5:Unit,True→
∃x6:VerdictD,EqV (doM x2.x x2.r).1 x6 (True∧
∀x7:Unit,True→
∃x8:Unit,EqV x6 (applyM (MacA.x x) (MacA.r x)).1 (rappQ2 x2=(rappQ1 x).applied∧
EqR (doM x2.x x2.r).2.C (rappQ1 x).C (EqT (doM x2.x x2.r).2.size (rappQ1 x).size (doM x2.x x2.r).2.S (rappQ1 x).S (EqT x4.alpha (rappQ1 x).alpha (cutE x4.E x4.slot) (rappQ1 x).E True))))))))):=by kernel_rfl
theorem movm_ok:SpecOK Tryz.prog 137 movmT.spec:=by
  refine Tri.ok (E:=movmE) (Env_ok (by decide +kernel) (by simp)) (n:=1000) movmT fun x hx=>?_
  rw [movm_vc]
  delta movmQ17 movmQ16 movmQ15 movmQ14 movmQ13 movmQ12 movmQ11 movmQ10 movmQ9 movmQ8 movmQ7 movmQ6 movmQ5 movmQ4 movmQ3 movmQ2 movmQ1 EqR6 EqT
  obtain⟨x,L,R,n,v⟩:=x
  have hx:R.length≤4000:=of_decide_eq_true hx
  dsimp only
  have hr:9000*24≤room47:=by decide
  have hfl:∀i,(foldR n v (R.take i)).out.length≤8000:=fun i=>by
    have h1:=foldR_len n v (R.take i)
    have h2:(R.take i).length≤R.length:=by simp;omega
    omega
  refine⟨⟨0,rfl,rfl,rfl,rfl,Nat.zero_le _⟩,fun i hi _=>br_i (fun h1=>?_) (fun h1=>?_)⟩
  · have hi:i≤R.length:=hi
    have h1:=of_decide_eq_true h1
    have e0:0+(i:Int).toNat=i:=by simp
    rw [e0]
    have bi:decide ((0:Int)≤(i:Int)∧(i:Int)<(R.length:Int))=true:=decide_eq_true ⟨by omega,h1⟩
    have bl:decide (i<R.length)=true:=decide_eq_true (by omega)
    have hw:IntKind.i64.wrap ((i:Int)+1)=((i+1:Nat):Int):=by rw [wrap_id (by omega) (by omega)];rfl
    have hst:=foldR_suc (n:=n) (v:=v) (R:=R) (i:=i) (by omega)
    have hms:R.length-(i+1)<R.length-i:=by omega
    have hle:i+1≤R.length:=by omega
    have hl8:=hfl i
    have heta:∀r:RefD,(⟨r.name,r.rev⟩:RefD)=r:=fun r=>by cases r;rfl
    show br (!(foldR n v (R.take i)).put) _ _
    have hgd:R.getD i ⟨[],0⟩=R.getD i noR:=rfl
    rw [hgd,heta]
    generalize R.getD i noR=r at hst ⊢
    generalize foldR n v (R.take i)=s at hst hl8 ⊢
    obtain⟨out,put⟩:=s
    dsimp only at hst hl8 ⊢
    have rm1:(decide (0+1≤([⟨n,v⟩]:List RefD).length)&&decide (0+out.length≤out.length)&&decide ((out.length+(List.take 1 (List.drop 0 ([⟨n,v⟩]:List RefD))).length)*24≤room47))=true:=by
      simp;omega
    have rm2:(decide (0+1≤([r]:List RefD).length)&&decide (0+out.length≤out.length)&&decide ((out.length+(List.take 1 (List.drop 0 ([r]:List RefD))).length)*24≤room47))=true:=by
      simp;omega
    have fin:∀(o:List RefD) (p:Bool),foldR n v (R.take (i+1))=⟨o,p⟩ → ∀(k:Nat) (o':List RefD) (p':Bool),p'=p→o'=o→k=o.length → ∃x3:Nat,IntKind.i64.wrap ((i:Int)+1)=(x3:Int)∧p'=(foldR n v (R.take x3)).put∧(0:Nat)=0∧k=(foldR n v (R.take x3)).out.length∧o'=(foldR n v (R.take x3)).out∧Nat.le x3 R.length∧Nat.sub R.length x3<Nat.sub R.length i:=by
      intro o p h k o' p' hp ho hk
      refine⟨i+1,hw,?_,rfl,?_,?_,hle,hms⟩
      · rw [h,hp]
      · rw [h,hk]
      · rw [h,ho]
    have tk:List.take out.length (List.drop 0 out)=out:=by simp
    refine (fun (tl:(!put && !(Op.bytesLess r.name n))=false→_)=>br_i (fun h2=>br_t bi (br_t bl (br_i (fun h3=>fun _=>br_t rm1 (br_t bi (br_t bl (br_i (fun h4=>br_t bi (br_t bl fun _=>br_t ?g1 (fin (out++[⟨n,v⟩]++[r]) true ?g2 _ _ _ rfl ?g3 ?g4))) (fun h4=>fin (out++[⟨n,v⟩]) true ?g5 _ _ _ rfl (by rw [tk];rfl) (by simp)))))) (fun h3=>tl (by rw [h3,Bool.and_false]))))) (fun h2=>tl (by rw [h2];rfl))) ?tl
    case tl=>
      intro hq
      have hpp:(put || !(Op.bytesLess r.name n))=put:=by
        revert hq
        cases put<;>cases Op.bytesLess r.name n<;>simp
      refine br_t bi (br_t bl (br_i (fun h3=>br_t bi (br_t bl fun _=>br_t rm2 (fin (out++[r]) put ?_ _ _ _ rfl (by rw [tk];rfl) (by simp)))) (fun h3=>fin out put ?_ _ _ _ rfl rfl rfl)))
      · rw [hst]
        unfold stepR
        dsimp only
        rw [hpp,hq]
        have:(r.name==n)=false:=by rw [←Bool.not_eq_true'];exact h3
        rw [this];rfl
      · rw [hst]
        unfold stepR
        dsimp only
        rw [hpp,hq]
        have:(r.name==n)=true:=by rw [←Bool.not_eq_false'];exact h3
        rw [this];rfl
    case g1=>
      have h24:(out.length+1+1)*24≤room47:=Nat.le_trans (Nat.mul_le_mul_right 24 (show out.length+1+1≤9000 by omega)) hr
      have e5:0+(out.length+(List.take 1 (List.drop 0 ([⟨n,v⟩]:List RefD))).length)=(out++List.take 1 (List.drop 0 ([⟨n,v⟩]:List RefD))).length:=by rw [List.length_append,Nat.zero_add]
      refine Bool.and_eq_true_iff.2 ⟨Bool.and_eq_true_iff.2 ⟨decide_eq_true (Nat.le_refl 1),decide_eq_true ?_⟩,decide_eq_true h24⟩
      rw [tk]
      exact Nat.le_of_eq e5
    case g2=>
      have:put=false:=by rw [←Bool.not_eq_true'];exact h2
      have h4:(r.name==n)=false:=by rw [←Bool.not_eq_true'];exact h4
      rw [hst]
      unfold stepR
      dsimp only
      rw [this,h3,h4];rfl
    case g3=>
      rw [tk]
      have e:(out++List.take 1 (List.drop 0 [(⟨n,v⟩:RefD)]))=out++[(⟨n,v⟩:RefD)]:=rfl
      rw [e]
      have e2:out.length+(List.take 1 (List.drop 0 ([⟨n,v⟩]:List RefD))).length=(out++[(⟨n,v⟩:RefD)]).length:=by simp
      rw [e2,List.drop_zero,List.take_length]
      rfl
    case g4=>simp
    case g5=>
      have:put=false:=by rw [←Bool.not_eq_true'];exact h2
      have h4:(r.name==n)=true:=by rw [←Bool.not_eq_false'];exact h4
      rw [hst]
      unfold stepR
      dsimp only
      rw [this,h3,h4];rfl
  · have hi:i≤R.length:=hi
    have h1:=of_decide_eq_false h1
    have e:R.take i=R:=List.take_of_length_le (by omega)
    have hl8:=hfl i
    rw [e] at hl8 ⊢
    have tk:List.take (foldR n v R).out.length (List.drop 0 (foldR n v R).out)=(foldR n v R).out:=by simp
    refine br_i (fun h2=>fun _=>br_t ?_ ⟨(),rfl,rfl,rfl,rfl,rfl,rfl,?_,rfl,rfl,?_,rfl,rfl,rfl,rfl,rfl,rfl,rfl,rfl,trivial⟩) (fun h2=>⟨(),rfl,rfl,rfl,rfl,rfl,rfl,?_,rfl,rfl,?_,rfl,rfl,rfl,rfl,rfl,rfl,rfl,rfl,trivial⟩)
    · simp;omega
    all_goals
      have hp:(foldR n v R).put = !(!(foldR n v R).put):=by simp
      rw [h2] at hp
      unfold moveR
      rw [hp]
    · simp
    · rw [tk];rfl
    · rfl
    · rfl
theorem rfinM (m:MacS) {x:LandA} {v:VerdictD} (h:landV x=v∧landC x=x.C):∃_:Unit,v.code=(landV x).code∧v.session=(landV x).session∧v.rev=(landV x).rev∧v.path=(landV x).path∧v.digest=(landV x).digest∧v.commits=(landV x).commits∧v.member=(landV x).member∧
    m.applied=(withC m (landC x)).applied∧(0:Nat)=0∧x.C.length=(withC m (landC x)).C.length∧(0:Nat)=0∧(rowC x.C).length=(rowC (withC m (landC x)).C).length∧(0:Nat)=0∧(refsR x.C).length=(refsR (withC m (landC x)).C).length∧x.C=(withC m (landC x)).C∧rowC x.C=rowC (withC m (landC x)).C∧refsR x.C=refsR (withC m (landC x)).C∧
    m.size=(withC m (landC x)).size∧(0:Nat)=0∧m.S.length=(withC m (landC x)).S.length∧m.S=(withC m (landC x)).S∧m.alpha=(withC m (landC x)).alpha∧(0:Nat)=0∧m.E.length=(withC m (landC x)).E.length∧m.E=(withC m (landC x)).E∧True:=by
  obtain⟨h1,h2⟩:=h
  rw [h1,h2]
  exact⟨(),(by repeat' (first | exact trivial | refine And.intro ?_ ?_ | rfl))⟩
theorem rlam_ok:SpecOK Tryz.prog 73 rlamT.spec:=by
  refine Tri.ok (E:=rlamE) (Env_ok (by decide +kernel) (by
    intro p hp
    simp only [List.mem_cons,List.mem_nil_iff,or_false] at hp
    rcases hp with rfl | rfl | rfl | rfl | rfl | rfl
    · exact rcheck_ok
    · exact word_ok
    · exact rsrt_ok
    · exact rget_ok
    · exact rput_ok
    · exact movm_ok)) (n:=1000) rlamT fun y hy=>?_
  rw [rlam_vc]
  delta rlamQ17 rlamQ16 rlamQ15 rlamQ14 rlamQ13 rlamQ12 rlamQ11 rlamQ10 rlamQ9 rlamQ8 rlamQ7 rlamQ6 rlamQ5 rlamQ4 rlamQ3 rlamQ2 rlamQ1 EqN EqR EqR6 EqT EqV7
  obtain⟨m,base,ref,l⟩:=y
  obtain⟨x,rfl,rfl,rfl,hC⟩:∃x:LandA,x.base=base∧x.ref=ref∧x.l=l∧x.C=m.C:=⟨⟨m.C,base,ref,l⟩,rfl,rfl,rfl,rfl⟩
  have ea:LndM.a ⟨m,x.base,x.ref,x.l⟩=x:=by
    obtain⟨a,b,c,d⟩:=x
    show (⟨m.C,b,c,d⟩:LandA)=⟨a,b,c,d⟩
    have hC:a=m.C:=hC
    rw [←hC]
  obtain⟨hf,hm,hs,hfx⟩:fewG m.C=true∧shortM m.C=true∧shortC x.l=true∧fewX x.l=true:=by
    have hy:okLm ⟨m,x.base,x.ref,x.l⟩=true:=hy
    unfold okLm at hy
    simp only [Bool.and_eq_true] at hy
    exact⟨hy.1,hy.2.1,hy.2.2.1,hy.2.2.2⟩
  dsimp only
  rw [ea,←hC]
  rw [←hC] at hf hm
  obtain⟨f1,f2,f3⟩:=fewG_of hf
  have hsl:=short_leaf hm
  have hrl:=few_leaf hf
  have hrr:=refsR_len x.C
  have hcu:4001*56≤room47:=by decide
  refine⟨x.l,rfl,hs,fun _ _=>br_i (fun hc=>rfinM m (v:=vC 5 0 []) (land_bad ?_)) (fun hc=>?_)⟩
  · unfold badLd
    have:(chkC x.l==0)=false:=by
      have:(!(chkC x.l==0))=true:=hc
      rw [←Bool.not_eq_true'];exact this
    rw [this];rfl
  have hck:chkC x.l=0:=by
    have hc:(!(chkC x.l==0))=false:=hc
    rw [Bool.not_eq_false'] at hc
    exact beq_iff_eq.1 hc
  refine (fun (tl:(x.ref=[]∨wordOk x.ref false=true)→_)=>br_i (fun h=>⟨⟨x.ref,false⟩,rfl,rfl,trivial,fun _ _=>br_i (fun g=>rfinM m (v:=vC 5 0 []) (land_bad ?g1)) (fun g=>tl (.inr (by rw [←Bool.not_eq_false'];exact g)))⟩) (fun h=>tl (.inl ?g2))) ?tl
  case g1=>
    unfold badLd
    have h:(!(x.ref==[]))=true:=h
    rw [h,g]
    simp
  case g2=>
    have h:(!(x.ref==[]))=false:=h
    rw [Bool.not_eq_false'] at h
    exact beq_iff_eq.1 h
  case tl=>
    intro hr
    refine br_i (fun hb=>rfinM m (v:=vC 5 0 []) (land_bad ?_)) (fun hb=>fun _=>?_)
    · unfold badLd
      rw [hb];simp
    have hb:=of_decide_eq_false hb
    have hbad:badLd x=false:=by
      unfold badLd
      rw [hck,decide_eq_false hb]
      rcases hr with h | h
      · rw [h];rfl
      · rw [h];simp
    refine br_i (fun ha=>fun _=>rfinM m (v:=vC 4 x.C.length []) (land_ahead hbad (of_decide_eq_true ha))) (fun ha=>?_)
    have ha:=of_decide_eq_false ha
    have hch:=(chk_few hck).1
    have hil:(insS x.l).length=x.l.length:=insS_len _
    have hss:shortC (insS x.l)=true:=by
      unfold shortC at hs ⊢
      rw [List.all_eq_true] at hs ⊢
      exact fun y hy=>hs y (mem_insS.1 hy)
    refine⟨x.l,rfl,⟨hs,hfx⟩,fun _ _=>⟨⟨0,rfl,Nat.zero_le _,rfl⟩,fun i hi _=>br_i (fun h1=>br_t ?_ (dup ?_)) (fun h1=>?_)⟩⟩
    · exact decide_eq_true ⟨by omega,of_decide_eq_true h1⟩
    · obtain⟨i1,i2⟩:=hi
      have h1:=of_decide_eq_true h1
      have hd:(insS x.l).drop i=(insS x.l).getD i noC::(insS x.l).drop (i+1):=dropC (by omega)
      rw [hd] at i2
      have e0:(i:Int).toNat=i:=rfl
      rw [e0]
      have hsp:shortB ((insS x.l).getD i noC).path=true:=List.all_eq_true.1 hss _ (getD_mem (d:=noC) (by omega))
      have bi:decide ((0:Int)≤(i:Int)∧(i:Int)<((insS x.l).length:Int))=true:=decide_eq_true ⟨by omega,h1⟩
      have hw:IntKind.i64.wrap ((i:Int)+1)=((i+1:Nat):Int):=by rw [wrap_id (by omega) (by omega)];rfl
      refine⟨⟨rowC x.C,((insS x.l).getD i noC).path⟩,by omega,by simp,rfl,⟨hsl,hsp⟩,fun _ _=>?_⟩
      dsimp only
      conv at i2=>lhs;unfold confL
      cases hg:getL ((insS x.l).getD i noC).path (rowC x.C) with
      | none=>
        rw [hg] at i2
        exact br_f rfl ⟨i+1,hw,⟨by omega,i2⟩,by show (insS x.l).length-(i+1)<(insS x.l).length-i;omega⟩
      | some y=>
        rw [hg] at i2
        dsimp only at i2
        refine br_t rfl (br_i (fun h3=>br_t bi ?_) (fun h3=>⟨i+1,hw,⟨by omega,?_⟩,by show (insS x.l).length-(i+1)<(insS x.l).length-i;omega⟩))
        · have h3:decide (y.rev>x.base)=true:=h3
          rw [h3] at i2
          have hc:confA x=some (((insS x.l).getD i noC).path,y.rev):=by
            unfold confA
            rw [←i2];rfl
          exact rfinM m (v:=vC 3 y.rev ((insS x.l).getD i noC).path) (land_conf hbad ha hc)
        · have h3:decide (y.rev>x.base)=false:=h3
          rw [h3] at i2
          exact i2
    · obtain⟨i1,i2⟩:=hi
      have h1:=of_decide_eq_false h1
      have hie:i=(insS x.l).length:=by omega
      have hconf:confA x=none:=by
        unfold confA
        rw [←i2,hie,List.drop_length];rfl
      obtain⟨g1,g2⟩:=land_in hbad ha hconf
      have hwr:IntKind.i64.wrap ((x.C.length:Int)+1)=(x.C.length:Int)+1:=wrap_id (by omega) (by omega)
      rw [hwr]
      have eC:List.take x.C.length (List.drop 0 x.C)++List.take 1 (List.drop 0 ([⟨(x.C.length:Int)+1,x.base,x.ref,insS x.l⟩]:List CommitD))=landC x:=by
        rw [List.drop_zero,List.take_length,g2];rfl
      have eL:x.C.length+(List.take 1 (List.drop 0 ([⟨(x.C.length:Int)+1,x.base,x.ref,insS x.l⟩]:List CommitD))).length=(landC x).length:=by
        rw [g2,List.length_append];rfl
      have eRow:rowC (landC x)=putsL (rowC x.C) ((insS x.l).map (leafC ((x.C.length:Int)+1))):=by
        rw [g2,putsL_row]
        unfold rowC
        rw [leavesC_snoc]
        rfl
      have eRef:refsR (landC x)=bif x.ref==[] then refsR x.C else moveR (refsR x.C) x.ref ((x.C.length:Int)+1):=by
        rw [g2]
        unfold refsR
        rw [List.foldl_append]
        rfl
      have hlc:(landC x).length≤4001:=by rw [g2];simp;omega
      refine fun _ _=>br_t ?_ ⟨⟨0,rfl,rfl,rfl,rfl,rfl,rfl,rfl,rfl,rfl,Nat.zero_le _⟩,fun j hj _=>br_i (fun h2=>?_) (fun h2=>?_)⟩
      · rw [eL]
        refine Bool.and_eq_true_iff.2 ⟨Bool.and_eq_true_iff.2 ⟨decide_eq_true (Nat.le_refl 1),decide_eq_true (by omega)⟩,decide_eq_true (Nat.le_trans (Nat.mul_le_mul_right 56 hlc) hcu)⟩
      · have hj:j≤(insS x.l).length:=hj
        have h2:=of_decide_eq_true h2
        have bj:decide ((0:Int)≤(j:Int)∧(j:Int)<((insS x.l).length:Int))=true:=decide_eq_true ⟨by omega,h2⟩
        have e0:(j:Int).toNat=j:=rfl
        rw [e0]
        have hps:=putsL_short hsl hss (rev:=(x.C.length:Int)+1) rfl hm j
        have hsp:shortB ((insS x.l).getD j noC).path=true:=List.all_eq_true.1 hss _ (getD_mem (d:=noC) (by omega))
        have hpl:(putsL (rowC x.C) (((insS x.l).take j).map (leafC ((x.C.length:Int)+1)))).length≤100000:=by
          rw [putsL_row]
          have h5:=insLs_len (leavesC x.C++((insS x.l).take j).map (leafC ((x.C.length:Int)+1)))
          have h6:(leavesC x.C++((insS x.l).take j).map (leafC ((x.C.length:Int)+1))).length≤64000+(insS x.l).length:=by
            rw [List.length_append,List.length_map,List.length_take];omega
          omega
        have hsuc:=putsL_suc (T:=rowC x.C) (l:=insS x.l) (rev:=(x.C.length:Int)+1) (i:=j) (by omega)
        refine br_t bj (br_t bj (br_t bj ⟨⟨putsL (rowC x.C) (((insS x.l).take j).map (leafC ((x.C.length:Int)+1))),leafC ((x.C.length:Int)+1) ((insS x.l).getD j noC)⟩,by omega,by rw [List.drop_zero,List.take_length],rfl,rfl,rfl,rfl,⟨hps,hsp,decide_eq_true hpl⟩,fun _ _=>⟨j+1,by rw [wrap_id (by omega) (by omega)];rfl,rfl,rfl,rfl,rfl,?_,rfl,rfl,?_,by show j+1≤(insS x.l).length;omega,by show (insS x.l).length-(j+1)<(insS x.l).length-j;omega⟩⟩))
        · exact congrArg List.length hsuc.symm
        · exact hsuc.symm
      · have hj:j≤(insS x.l).length:=hj
        have h2:=of_decide_eq_false h2
        have hje:(insS x.l).take j=insS x.l:=List.take_of_length_le (by omega)
        rw [hje,eL,eC,←eRow]
        have h7:landV x=vC 2 ((x.C.length:Int)+1) []:=g1
        refine br_i (fun h8=>⟨⟨withC m (landC x),rowC (landC x),refsR x.C,x.ref,(x.C.length:Int)+1⟩,rfl,rfl,rfl,rfl,rfl,rfl,rfl,rfl,rfl,rfl,rfl,rfl,rfl,rfl,rfl,rfl,rfl,rfl,rfl,rfl,decide_eq_true (by show (refsR x.C).length≤4000;omega),fun _ _=>?_⟩) (fun h8=>?_)
        · have h8:(!(x.ref==[]))=true:=h8
          have h9:(x.ref==[])=false:=by rw [←Bool.not_eq_true'];exact h8
          rw [h9] at eRef
          have eRef:refsR (landC x)=moveR (refsR x.C) x.ref ((x.C.length:Int)+1):=eRef
          have ew:(withC m (landC x)).C=landC x:=rfl
          rw [ew,h7,eRef]
          exact⟨(),(by repeat' (first | exact trivial | refine And.intro ?_ ?_ | rfl))⟩
        · have h8:(!(x.ref==[]))=false:=h8
          have h9:(x.ref==[])=true:=by rw [←Bool.not_eq_false'];exact h8
          rw [h9] at eRef
          have eRef:refsR (landC x)=refsR x.C:=eRef
          have ew:(withC m (landC x)).C=landC x:=rfl
          rw [ew,h7,eRef]
          exact⟨(),(by repeat' (first | exact trivial | refine And.intro ?_ ?_ | rfl))⟩
theorem okRm_of {x:MacS} {r:RequestD} (h:okRm x r=true):okMS x=true∧okRq r=true∧shortM x.C=true∧fewX r.changes=true∧(x.S.length:Int)≤x.size:=by
  unfold okRm at h
  simp only [Bool.and_eq_true,decide_eq_true_eq] at h
  exact⟨h.1,h.2.1,h.2.2.1,h.2.2.2.1,h.2.2.2.2⟩
theorem okRm_mk {x:MacS} {r:RequestD} (h1:okMS x=true) (h2:okRq r=true) (h3:shortM x.C=true) (h4:fewX r.changes=true) (h5:(x.S.length:Int)≤x.size):okRm x r=true:=by
  unfold okRm
  rw [h1,h2,h3,h4,decide_eq_true h5];rfl
set_option maxHeartbeats 0 in
theorem rpeek_ok:SpecOK Tryz.prog 47 rpeekT.spec:=by
  refine Tri.ok (E:=rpeekE) (Env_ok (by decide +kernel) (by
    intro p hp
    simp only [List.mem_cons,List.mem_nil_iff,or_false] at hp
    rcases hp with rfl | rfl
    · exact rread_ok
    · exact rlog_ok)) (n:=1000) rpeekT fun a ha=>?_
  rw [rpeek_vc]
  delta rpeekQ2 rpeekQ1 EqN EqR EqT EqV EqV7 EqR6
  obtain⟨x,r⟩:=a
  obtain⟨h1,h2,h3,h4,h5⟩:=okRm_of (x:=x) (r:=r) ha
  obtain⟨p1,p2,p3,p4,p5,p6⟩:=okMS_of h1
  obtain⟨q1,q2,q3⟩:=okRq_of h2
  dsimp only
  refine br_i (fun k3=>?_) fun k3=>br_i (fun k4=>?_) fun k4=>br_i (fun k5=>?_) fun k5=>?_
  · have hp:peekM x r=⟨8,0,x.C.length,[],0,[],0⟩:=by unfold peekM;rw [k3];rfl
    rw [hp]
    exact fun _=>⟨(),(by repeat' (first | exact trivial | refine And.intro ?_ ?_ | rfl))⟩
  · have hp:peekM x r=readL (rowC x.C) r.path:=by rw [readL_eq];unfold peekM;rw [k3,k4];rfl
    rw [hp]
    exact⟨⟨x.C,rowC x.C,refsR x.C,r.path⟩,rfl,rfl,rfl,rfl,rfl,rfl,rfl,rfl,rfl,rfl,⟨q2,short_leaf h3⟩,fun _ _=>⟨(),(by repeat' (first | exact trivial | refine And.intro ?_ ?_ | rfl))⟩⟩
  · have hp:peekM x r=logV ⟨x.C,r.from_,r.many⟩:=by unfold peekM;rw [k3,k4,k5];rfl
    rw [hp]
    exact⟨⟨x.C,rowC x.C,refsR x.C,r.from_,r.many⟩,rfl,rfl,rfl,rfl,rfl,rfl,rfl,rfl,rfl,rfl,rfl,⟨p1,q3⟩,fun _ _=>⟨(),(by repeat' (first | exact trivial | refine And.intro ?_ ?_ | rfl))⟩⟩
  · have hp:peekM x r=vd 5:=by unfold peekM;rw [k3,k4,k5];rfl
    rw [hp]
    exact⟨(),(by repeat' (first | exact trivial | refine And.intro ?_ ?_ | rfl))⟩
set_option maxHeartbeats 0 in
theorem rdo_ok:SpecOK Tryz.prog 160 rdoT.spec:=by
  refine Tri.ok (E:=rdoE) (Env_ok (by decide +kernel) (by
    intro p hp
    simp only [List.mem_cons,List.mem_nil_iff,or_false] at hp
    rcases hp with rfl | rfl | rfl
    · exact rlam_ok
    · exact rchg_ok
    · exact rpeek_ok)) (n:=1000) rdoT fun a ha=>?_
  rw [rdo_vc]
  delta rdoQ4 rdoQ3 rdoQ2 rdoQ1 EqN EqR EqQ EqT EqV EqV7 EqR6
  obtain⟨x,r⟩:=a
  obtain⟨h1,h2,h3,h4,h5⟩:=okRm_of (x:=x) (r:=r) ha
  obtain⟨p1,p2,p3,p4,p5,p6⟩:=okMS_of h1
  obtain⟨q1,q2,q3⟩:=okRq_of h2
  dsimp only
  refine br_i (fun k2=>?_) fun k2=>br_i (fun k6=>?_) fun k6=>br_i (fun k7=>?_) fun k7=>?_
  · have hh:howM x r=(landV ⟨x.C,r.base,r.ref,r.changes⟩,withC x (landC ⟨x.C,r.base,r.ref,r.changes⟩)):=by unfold howM;rw [k2];rfl
    rw [hh]
    exact⟨⟨x,r.base,r.ref,r.changes⟩,rfl,rfl,rfl,rfl,rfl,rfl,rfl,rfl,rfl,rfl,rfl,rfl,rfl,rfl,rfl,rfl,rfl,rfl,rfl,rfl,rfl,(by unfold okLm;rw [p1,h3,q1,h4];rfl),fun _ _=>⟨(),(by repeat' (first | exact trivial | refine And.intro ?_ ?_ | rfl))⟩⟩
  · have k3:(r.kind==3)=false:=kind_other k6 (by decide)
    have k4:(r.kind==4)=false:=kind_other k6 (by decide)
    have k5:(r.kind==5)=false:=kind_other k6 (by decide)
    have hh:howM x r=chgM x r true 12:=by unfold howM;rw [k2,k3,k4,k5,k6];rfl
    rw [hh]
    refine⟨⟨x.alpha,x.E,x.applied,r.member,true⟩,rfl,rfl,k6,rfl,rfl,rfl,rfl,⟨p4,p5,by show x.applied≤2199023255552;omega⟩,fun _ _=>br_i (fun e=>?_) fun e=>br_t k6 ?_⟩
    · have hg:chgM x r true 12=(⟨14,0,0,[],0,[],r.member⟩,withE x (chgE ⟨x.alpha,x.E,x.applied,r.member,true⟩).2):=by unfold chgM;dsimp only;rw [e];rfl
      rw [hg]
      exact⟨(),(by repeat' (first | exact trivial | refine And.intro ?_ ?_ | rfl))⟩
    · have hg:chgM x r true 12=(⟨12,0,0,[],0,[],r.member⟩,withE x (chgE ⟨x.alpha,x.E,x.applied,r.member,true⟩).2):=by unfold chgM;dsimp only;rw [e];rfl
      rw [hg]
      exact⟨(),(by repeat' (first | exact trivial | refine And.intro ?_ ?_ | rfl))⟩
  · have k3:(r.kind==3)=false:=kind_other k7 (by decide)
    have k4:(r.kind==4)=false:=kind_other k7 (by decide)
    have k5:(r.kind==5)=false:=kind_other k7 (by decide)
    have hh:howM x r=chgM x r false 13:=by unfold howM;rw [k2,k3,k4,k5,k6,k7];rfl
    rw [hh]
    refine⟨⟨x.alpha,x.E,x.applied,r.member,false⟩,rfl,rfl,k6,rfl,rfl,rfl,rfl,⟨p4,p5,by show x.applied≤2199023255552;omega⟩,fun _ _=>br_i (fun e=>?_) fun e=>br_f k6 ?_⟩
    · have hg:chgM x r false 13=(⟨14,0,0,[],0,[],r.member⟩,withE x (chgE ⟨x.alpha,x.E,x.applied,r.member,false⟩).2):=by unfold chgM;dsimp only;rw [e];rfl
      rw [hg]
      exact⟨(),(by repeat' (first | exact trivial | refine And.intro ?_ ?_ | rfl))⟩
    · have hg:chgM x r false 13=(⟨13,0,0,[],0,[],r.member⟩,withE x (chgE ⟨x.alpha,x.E,x.applied,r.member,false⟩).2):=by unfold chgM;dsimp only;rw [e];rfl
      rw [hg]
      exact⟨(),(by repeat' (first | exact trivial | refine And.intro ?_ ?_ | rfl))⟩
  · have hh:howM x r=(peekM x r,x):=by
      unfold howM peekM
      rw [k2,k6,k7]
      cases r.kind==3<;>cases r.kind==4<;>cases r.kind==5<;>rfl
    rw [hh]
    exact⟨⟨x,r⟩,rfl,rfl,rfl,rfl,rfl,rfl,rfl,rfl,rfl,rfl,rfl,rfl,rfl,rfl,rfl,rfl,rfl,rfl,rfl,rfl,rfl,rfl,rfl,rfl,rfl,rfl,rfl,rfl,rfl,ha,fun _ _=>⟨(),(by repeat' (first | exact trivial | refine And.intro ?_ ?_ | rfl))⟩⟩
theorem howS (x:MacS) (r:RequestD):(howM x r).2.S=x.S:=by
  unfold howM
  cases r.kind==2<;>cases r.kind==3<;>cases r.kind==4<;>cases r.kind==5<;>cases r.kind==6<;>cases r.kind==7<;>rfl
set_option maxHeartbeats 0 in
theorem rver_ok:SpecOK Tryz.prog 98 rverT.spec:=by
  refine Tri.ok (E:=rverE) (Env_ok (by decide +kernel) (by
    intro p hp
    simp only [List.mem_cons,List.mem_nil_iff,or_false] at hp
    rcases hp with rfl | rfl | rfl | rfl | rfl
    · exact word_ok
    · exact ropen_ok
    · exact rask_ok
    · exact rdo_ok
    · exact rdone_ok)) (n:=1000) rverT fun a ha=>?_
  rw [rver_vc]
  delta rverQ5 rverQ4 rverQ3 rverQ2 rverQ1 EqN EqR EqQ EqT EqV EqV7 EqR6
  obtain⟨x,r⟩:=a
  obtain⟨h1,h2,h3,h4,h5⟩:=okRm_of (x:=x) (r:=r) ha
  obtain⟨p1,p2,p3,p4,p5,p6⟩:=okMS_of h1
  dsimp only
  refine br_i (fun k0=>?_) fun k0=>br_i (fun k1=>?_) fun k1=>twice ?_
  · have hd:doM x r=(vd 0,x):=by unfold doM;rw [k0];rfl
    rw [hd]
    exact⟨(),(by repeat' (first | exact trivial | refine And.intro ?_ ?_ | rfl))⟩
  · refine⟨⟨r.name,false⟩,rfl,rfl,trivial,fun _ _=>br_i (fun g=>?_) fun g=>?_⟩
    · have g:wordOk r.name false=false:=by rw [Bool.not_eq_true'] at g;exact g
      have hd:doM x r=(vd 5,x):=by unfold doM;rw [k0,k1,g];rfl
      rw [hd]
      exact⟨(),(by repeat' (first | exact trivial | refine And.intro ?_ ?_ | rfl))⟩
    · have g:wordOk r.name false=true:=by rw [Bool.not_eq_false'] at g;exact g
      have hd:doM x r=(⟨1,(openL ⟨x.size,x.S,r.name,x.applied+1⟩).1,0,[],0,[],0⟩,withS x (openL ⟨x.size,x.S,r.name,x.applied+1⟩).2):=by unfold doM;rw [k0,k1,g];rfl
      rw [hd]
      exact⟨⟨x.size,x.S,r.name,x.applied+1⟩,rfl,wrap_id (by omega) (by omega),rfl,rfl,rfl,rfl,⟨decide_eq_true p2,decide_eq_true p3,decide_eq_true h5⟩,fun _ _=>⟨(),(by repeat' (first | exact trivial | refine And.intro ?_ ?_ | rfl))⟩⟩
  refine⟨⟨x.size,x.S,r.session,r.seq⟩,rfl,rfl,rfl,rfl,rfl,rfl,decide_eq_true p3,fun _ _=>br_i (fun g=>?_) fun g=>?_⟩
  · have g:(askM x r).1.2=false:=by rw [Bool.not_eq_true'] at g;exact g
    have hd:doM x r=doneM x r (howM (withS x (askM x r).2) r):=by unfold doM;rw [k0,k1,g];rfl
    have hl:(askM x r).2.length=x.S.length:=ask_len
    have ha2:okRm (withS x (askM x r).2) r=true:=by
      refine okRm_mk ?_ h2 h3 h4 (by show ((askM x r).2.length:Int)≤x.size;rw [hl];exact h5)
      unfold okMS at h1 ⊢
      show (fewG x.C&&(decide (0<x.size)&&(decide ((askM x r).2.length≤1024)&&(okEp x.alpha x.E&&(decide (0≤x.applied)&&decide (x.applied≤1099511627776))))))=true
      rw [hl];exact h1
    rw [hd]
    refine⟨⟨withS x (askM x r).2,r⟩,rfl,rfl,rfl,rfl,rfl,rfl,rfl,rfl,rfl,rfl,rfl,rfl,rfl,rfl,rfl,rfl,rfl,rfl,rfl,rfl,rfl,rfl,rfl,rfl,rfl,rfl,rfl,rfl,rfl,ha2,fun _ _=>?_⟩
    have hS:=howS (withS x (askM x r).2) r
    have hz:=how_size (withS x (askM x r).2) r
    have hS:(howM (withS x (askM x r).2) r).2.S=(askM x r).2:=hS
    have hz:(howM (withS x (askM x r).2) r).2.size=x.size:=hz
    dsimp only
    generalize howM (withS x (askM x r).2) r=h at hS hz ⊢
    exact⟨⟨x.size,(askM x r).2,r.session,r.seq,h.1⟩,rfl,rfl,rfl,rfl,rfl,rfl,rfl,rfl,rfl,hz,rfl,congrArg List.length hS,hS,trivial,fun _ _=>⟨(),rfl,rfl,rfl,rfl,rfl,rfl,rfl,rfl,rfl,rfl,rfl,rfl,rfl,rfl,rfl,rfl,rfl,hz.symm,(by repeat' (first | exact trivial | refine And.intro ?_ ?_ | rfl))⟩⟩
  · have g:(askM x r).1.2=true:=by rw [Bool.not_eq_false'] at g;exact g
    have hd:doM x r=((askM x r).1.1,withS x (askM x r).2):=by unfold doM;rw [k0,k1,g];rfl
    rw [hd]
    exact⟨(),(by repeat' (first | exact trivial | refine And.intro ?_ ?_ | rfl))⟩
set_option maxHeartbeats 0 in
theorem rapp_ok:SpecOK Tryz.prog 48 rappT.spec:=by
  refine Tri.ok (E:=rappE) (Env_ok (by decide +kernel) (by
    intro p hp
    simp only [List.mem_cons,List.mem_nil_iff,or_false] at hp
    rcases hp with rfl | rfl | rfl
    · exact rver_ok
    · exact rcut_ok
    · exact cver_ok)) (n:=1000) rappT fun a ha=>?_
  rw [rapp_vc]
  delta rappQ2 rappQ1 EqN EqR EqQ EqT EqV EqV7 EqR6
  obtain⟨x,r⟩:=a
  obtain⟨h1,h2,h3,h4,h5⟩:=okRm_of (x:=x) (r:=r) ha
  obtain⟨p1,p2,p3,p4,p5,p6⟩:=okMS_of h1
  dsimp only
  refine br_i (fun k=>?_) fun k=>?_
  · have hd:applyM x r=(vd 5,x):=by unfold applyM;rw [k];rfl
    rw [hd]
    exact⟨(),(by repeat' (first | exact trivial | refine And.intro ?_ ?_ | rfl))⟩
  · have hd:applyM x r=((doM x r).1,⟨x.alpha,x.size,x.applied+1,(doM x r).2.C,(doM x r).2.S,cutE (doM x r).2.E (x.applied+1)⟩):=by unfold applyM;rw [k];rfl
    obtain⟨s1,s2,s3⟩:=do_same x r
    have s4:IntKind.i64.wrap ((doM x r).2.applied+1)=x.applied+1:=by rw [s3];exact wrap_id (by omega) (by omega)
    have s5:1≤(doM x r).2.E.length:=Nat.le_trans (okEp_of p4).2.2.1 (do_E x r).1
    rw [hd]
    refine⟨⟨x,r⟩,rfl,rfl,rfl,rfl,rfl,rfl,rfl,rfl,rfl,rfl,rfl,rfl,rfl,rfl,rfl,rfl,rfl,rfl,rfl,rfl,rfl,rfl,rfl,rfl,rfl,rfl,rfl,rfl,rfl,ha,fun _ _=>?_⟩
    dsimp only
    rw [s4,s1,s2]
    exact⟨⟨x.alpha,(doM x r).2.E,x.applied+1⟩,rfl,rfl,rfl,rfl,rfl,decide_eq_true s5,fun _ _=>⟨(doM x r).1,rfl,rfl,rfl,rfl,rfl,rfl,rfl,trivial,fun _ _=>⟨(),(by repeat' (first | exact trivial | refine And.intro ?_ ?_ | rfl))⟩⟩⟩
end Go.Proofs.YtgepebndihfnfaaGreat.Ses
