/- What the functions of sessions and epochs do: what the evaluator leaves of each, and that it holds. No condition. -/
import Derived.Test.YtgepebndihfnfaaGreatJGrvA
import Derived.KernelRfl
set_option linter.unusedSimpArgs false
set_option linter.unusedVariables false

namespace Go.Proofs.YtgepebndihfnfaaGreat.Ses
open Go Go.Proofs Go.Proofs.YtgepebndihfnfaaGreat.Sx
def Twice (A:Prop):Prop:=A∧A
theorem twice {A:Prop} (h:A):Twice A:=⟨h,h⟩
noncomputable def vownT:Tri:={γ:=VerdictD,n0:=0,args:=fun v=>[.agg v.enc],blks:=fun _=>[],pre:=fun _=>True,δ:=Unit,post:=fun _ _=>True,n1:=0,res:=fun v _=>.agg v.enc,blks':=fun _ _=>[],scal:=false}
noncomputable def vownI:St→LInv:=fun s=>match s.m.blks.get 3 with
  | some (.rows .commit l)=>{σ:=Nat,I:=fun i=>i≤l.length,μ:=fun i=>l.length-i,env:=fun i=>[(11,.int .i64 i)],blk:=fun _=>[(3,.rows .commit l)],fresh:=0,drop:=[]}
  | _=>{σ:=Unit,I:=fun i=>True,μ:=fun i=>0,env:=fun i=>[(11,.int .i64 0)],blk:=fun _=>[],fresh:=0,drop:=[]}
noncomputable def vownE:Envr:=Env Tryz.prog cod [] [(3,vownI)]
def tabB (size:Int) (l:List SessionD) (n:Nat):Blks:=[(0,.cells [.int .i64 size,.mslice .session n 0 l.length]),(n,.rows .session l)]
def idxF (p:SessionD→Bool):List SessionD→Int
  | []=>-1
  | x::r=>bif p x then 0 else let i:=idxF p r;bif decide (i<0) then -1 else i+1
def idIs (n:Int) (s:SessionD):Bool:=s.id==n
def nameIs (n:Bs) (s:SessionD):Bool:=s.name==n
noncomputable def idxI:St→LInv:=fun s=>match getE s.env 0,getE s.env 1 with
  | .mslice _ n lo len,.fn f _ [.mptr k _]=>match s.m.blks.get n,s.m.blks.get k with
    | some (.rows .session l),some (.cells [key])=>
      {σ:=Nat,I:=fun i=>i≤l.length ∧ ∀(j:Nat) x,j<i→l[j]?=some x→(match key with | .int _ n=>idIs n x | .str n=>nameIs n x | _=>false)=false,
        μ:=fun i=>l.length-i,env:=fun i=>[(8,.int .i64 i)],blk:=fun _=>[],fresh:=0,drop:=[]}
    | _,_=>LInv.none
  | _,_=>LInv.none
structure TabI where
  size:Int
  l:List SessionD
  n:Int
structure TabN where
  size:Int
  l:List SessionD
  name:Bs
structure OpenA where
  size:Int
  l:List SessionD
  name:Bs
  id:Int
structure AskA where
  size:Int
  l:List SessionD
  id:Int
  seq:Int
structure DoneA where
  size:Int
  l:List SessionD
  id:Int
  seq:Int
  v:VerdictD
structure TabA where
  size:Int
  l:List SessionD
noncomputable def idE:Envr:=Env Tryz.prog cod [] [(2,idxI)]
noncomputable def idT:Tri:={γ:=TabI,n0:=2,args:=fun x=>[.mptr 0 0,.int .i64 x.n],blks:=fun x=>tabB x.size x.l 1,pre:=fun x=>decide (0<x.size)=true,δ:=Unit,post:=fun _ _=>True,n1:=0,res:=fun x _=>.int .i64 (idxF (idIs x.n) x.l),blks':=fun x _=>tabB x.size x.l 1,scal:=false}
noncomputable def snmT:Tri:={γ:=TabN,n0:=3,args:=fun x=>[.mptr 0 0,.fn 238 [] [.mptr 2 0]],blks:=fun x=>tabB x.size x.l 1++[(2,.cells [.str x.name])],pre:=fun x=>decide (0<x.size)=true,δ:=Unit,post:=fun _ _=>True,n1:=0,res:=fun x _=>.int .i64 (idxF (nameIs x.name) x.l),blks':=fun x _=>tabB x.size x.l 1++[(2,.cells [.str x.name])],scal:=false}
def outL (l:List SessionD) (i:Int):List SessionD:=l.take i.toNat++l.drop (i.toNat+1)
def atL (l:List SessionD) (i:Int):SessionD:=l.getD i.toNat ⟨0,0,[],.dflt⟩
def usedL (l:List SessionD) (i:Int):List SessionD:=outL l i++[atL l i]
def openL (x:OpenA):Int × List SessionD:=
  let i:=idxF (nameIs x.name) x.l
  bif decide (i<0) then
    let j:=idxF (idIs x.id) x.l
    let l1:=bif decide (j<0) then x.l else outL x.l j
    let l2:=bif decide ((l1.length:Int)=x.size) then outL l1 0 else l1
    (x.id,l2++[⟨x.id,0,x.name,.dflt⟩])
  else ((atL x.l i).id,usedL x.l i)
def vd (c:Int):VerdictD:=⟨c,0,0,[],0,[],0⟩
def askL (x:AskA):(VerdictD × Bool) × List SessionD:=
  let i:=idxF (idIs x.id) x.l
  bif decide (i<0) then ((vd 6,true),x.l) else
    let s:=atL x.l i
    (bif decide (x.seq<1) then (vd 5,true) else bif decide (x.seq<s.seq) then (vd 7,true) else bif decide (x.seq=s.seq) then (s.last,true) else (vd 0,false),usedL x.l i)
def doneL (x:DoneA):Bool × List SessionD:=
  let i:=idxF (idIs x.id) x.l
  let s:=atL x.l i
  bif decide (i<0)||decide (x.seq≤s.seq) then (false,x.l) else (true,x.l.set i.toNat ⟨s.id,x.seq,s.name,x.v⟩)
noncomputable def noE:Envr:=Env Tryz.prog cod [] []
noncomputable def leaveT:Tri:={γ:=TabI,n0:=2,args:=fun x=>[.mptr 0 0,.int .i64 x.n],blks:=fun x=>tabB x.size x.l 1,pre:=fun x=>decide (0≤x.n∧x.n<x.l.length)=true,δ:=Unit,post:=fun _ _=>True,n1:=1,res:=fun x _=>.agg (enc .session (atL x.l x.n)),blks':=fun x _=>tabB x.size (outL x.l x.n) 2,scal:=false}
noncomputable def useE:Envr:=Env Tryz.prog cod [(239,leaveT.spec)] []
noncomputable def useT:Tri:={γ:=TabI,n0:=2,args:=fun x=>[.mptr 0 0,.int .i64 x.n],blks:=fun x=>tabB x.size x.l 1,pre:=fun x=>decide (0≤x.n∧x.n<x.l.length)=true∧decide (x.l.length≤1024)=true,δ:=Unit,post:=fun _ _=>True,n1:=1,res:=fun x _=>.agg (enc .session (atL x.l x.n)),blks':=fun x _=>tabB x.size (usedL x.l x.n) 2,scal:=false}
noncomputable def opE:Envr:=Env Tryz.prog cod [(201,idT.spec),(237,snmT.spec),(203,vownT.spec),(239,leaveT.spec),(202,useT.spec)] []
noncomputable def openT:Tri:={γ:=OpenA,n0:=2,args:=fun x=>[.mptr 0 0,.str x.name,.int .i64 x.id],blks:=fun x=>tabB x.size x.l 1,pre:=fun x=>decide (0<x.size)=true∧decide (x.l.length≤1024)=true,δ:=Unit,post:=fun _ _=>True,n1:=1,res:=fun x _=>.int .i64 (openL x).1,blks':=fun x _=>tabB x.size (openL x).2 2,scal:=false}
noncomputable def askT:Tri:={γ:=AskA,n0:=2,args:=fun x=>[.mptr 0 0,.int .i64 x.id,.int .i64 x.seq],blks:=fun x=>tabB x.size x.l 1,pre:=fun x=>decide (0<x.size)=true∧decide (x.l.length≤1024)=true,δ:=Unit,post:=fun _ _=>True,n1:=1,res:=fun x _=>.tuple [.agg (askL x).1.1.enc,.bool (askL x).1.2],blks':=fun x _=>tabB x.size (askL x).2 2,scal:=false}
noncomputable def doneT:Tri:={γ:=DoneA,n0:=2,args:=fun x=>[.mptr 0 0,.int .i64 x.id,.int .i64 x.seq,.agg x.v.enc],blks:=fun x=>tabB x.size x.l 1,pre:=fun x=>decide (0<x.size)=true,δ:=Unit,post:=fun _ _=>True,n1:=1,res:=fun x _=>.bool (doneL x).1,blks':=fun x _=>tabB x.size (doneL x).2 2,scal:=false}
noncomputable def keepI (ix sl:Nat):St→LInv:=fun s=>match getE s.env sl with
  | .mslice _ n _ _=>match s.m.blks.get n with
    | some (.rows c l)=>{σ:=Nat,I:=fun i=>i≤l.length,μ:=fun i=>l.length-i,env:=fun i=>[(ix,.int .i64 i)],blk:=fun _=>[(n,.rows c l)],fresh:=0,drop:=[]}
    | _=>LInv.none
  | _=>{σ:=Unit,I:=fun i=>True,μ:=fun i=>0,env:=fun i=>[(ix,.int .i64 0)],blk:=fun _=>[],fresh:=0,drop:=[]}
set_option maxRecDepth 100000
abbrev vownQ1 (x:vownT.γ):=0+(VerdictD.commits x).length
abbrev vownQ2 (x:vownT.γ):=@HAppend.hAppend (List CommitD) (List CommitD) (List CommitD) _ (List.take 0 (List.drop 0 ([]:List CommitD))) (VerdictD.commits x)
abbrev vownQ3 (x6:Nat) (x:vownT.γ):=decide ((0:Int)≤(↑x6:Int)∧
(↑x6:Int)<(↑(vownQ1 x):Int))
abbrev vownQ4 (x6:Nat) (x:vownT.γ):=decide (0+(↑x6:Int).toNat<(vownQ2 x).length)
abbrev vownQ5 (x:vownT.γ) (x6:Nat):=List.getD (vownQ2 x) (0+(↑x6:Int).toNat) (CommitD.mk (0:Int) (0:Int) ([]:List UInt8) ([]:List ChangeD))
abbrev vownQ6 (x6:Nat) (x8:Nat):=IntKind.wrap IntKind.i64 ((↑x6:Int)+(1:Int))=(↑x8:Int)
abbrev vownQ7 (x8:Nat) (x:vownT.γ) (x6:Nat):=Nat.le x8 (vownQ2 x).length∧
Nat.sub (vownQ2 x).length x8<Nat.sub (vownQ2 x).length x6
abbrev vownQ8 (x:vownT.γ) (x6:Nat):=@HAppend.hAppend (List ChangeD) (List ChangeD) (List ChangeD) _ (List.take 0 (List.drop 0 ([]:List ChangeD))) (vownQ5 x x6).changes
theorem vown_vc (x:vownT.γ):evCall vownE (ev vownE 1000) 203 (vownT.args x) ⟨vownT.blks x,vownT.n0,[]⟩ (fun _ _=>False) (vownT.ends x)=(
∀x1:Bool,(x1=true→
VerdictD.commits x=([]:List CommitD))→
br x1 ((∃x2:Unit,(0:Int)=(0:Int)∧
True)∧
∀x3:Unit,True→
∃x4:Unit,EqV7 (VerdictD.code x) (VerdictD.session x) (VerdictD.rev x) (VerdictD.path x) (VerdictD.digest x) ([]:List CommitD) (VerdictD.member x) x True) (Nat.le (0*56) room47∧
Nat.le ((VerdictD.commits x).length*56) room47→
br (Bool.and (Bool.and true (decide (0+0≤([]:List CommitD).length))) (decide (vownQ1 x*56≤room47))) (vownQ1 x*56≤room47→
(∃x5:Nat,(0:Int)=(↑x5:Int)∧
vownQ2 x=vownQ2 x∧
Nat.le x5 (vownQ2 x).length)∧
∀x6:Nat,Nat.le x6 (vownQ2 x).length→
br (decide ((↑x6:Int)<(↑(vownQ1 x):Int))) (br (vownQ3 x6 x) (br (vownQ4 x6 x) (∀x7:Bool,(x7=true→
(vownQ5 x x6).changes=([]:List ChangeD))→
br x7 (br (vownQ3 x6 x) (br (Bool.and true (vownQ4 x6 x)) (∃x8:Nat,vownQ6 x6 x8∧
List.set (vownQ2 x) (0+(↑x6:Int).toNat) (CommitD.mk (vownQ5 x x6).rev (vownQ5 x x6).base (vownQ5 x x6).ref ([]:List ChangeD))=vownQ2 x∧
vownQ7 x8 x x6) (Bad "check" "session.go:31")) (Bad "check" "session.go:31")) (Nat.le (0*32) room47∧
Nat.le ((vownQ5 x x6).changes.length*32) room47→
br (Bool.and (Bool.and true (decide (0+0≤([]:List ChangeD).length))) (decide ((0+(vownQ5 x x6).changes.length)*32≤room47))) (br (vownQ3 x6 x) (br (Bool.and (Bool.and (decide (0+(0+(vownQ5 x x6).changes.length)≤(vownQ8 x x6).length)) true) (vownQ4 x6 x)) (∃x9:Nat,vownQ6 x6 x9∧
List.set (vownQ2 x) (0+(↑x6:Int).toNat) (CommitD.mk (vownQ5 x x6).rev (vownQ5 x x6).base (vownQ5 x x6).ref (List.take (0+(vownQ5 x x6).changes.length) (List.drop 0 (vownQ8 x x6))))=vownQ2 x∧
vownQ7 x9 x x6) (Bad "check" "session.go:31")) (Bad "check" "session.go:31")) (Bad "check" "slices.go:362"))) (Bad "check" "session.go:31")) (Bad "check" "session.go:31")) (∃x10:Unit,VerdictD.code x=VerdictD.code x∧
VerdictD.session x=VerdictD.session x∧
VerdictD.rev x=VerdictD.rev x∧
VerdictD.path x=VerdictD.path x∧
VerdictD.digest x=VerdictD.digest x∧
0+vownQ1 x≤(vownQ2 x).length∧
List.take (vownQ1 x) (List.drop 0 (vownQ2 x))=VerdictD.commits x∧
VerdictD.member x=VerdictD.member x∧
True)) (Bad "check" "slices.go:362"))):=by kernel_rfl
abbrev idQ1 (x:idT.γ):=EqT (TabI.size x) (TabI.size x) (TabI.l x) (TabI.l x) True
abbrev idQ2 (x:idT.γ):=∃x1:Unit,@Neg.neg Int _ (1:Int)=idxF (idIs (TabI.n x)) (TabI.l x)∧
idQ1 x
abbrev idQ3 (x2:Nat) (x:idT.γ):=x2≤(TabI.l x).length∧
∀x3:Nat,∀x4:SessionD,x3<x2→
@GetElem?.getElem? (List SessionD) Nat SessionD (fun x5:(List SessionD)=>fun x6:Nat=>x6<x5.length) _ (TabI.l x) x3=Option.some x4→
idIs (TabI.n x) x4=false
theorem id_vc (x:idT.γ):evCall idE (ev idE 1000) 201 (idT.args x) ⟨idT.blks x,idT.n0,[]⟩ (fun _ _=>False) (idT.ends x)=(
br (decide (TabI.size x>(0:Int))).not (idQ2 x) ((TabI.l x).length*112≤room47→
(∃x2:Nat,(0:Int)=(↑x2:Int)∧
idQ3 x2 x)∧
∀x7:Nat,idQ3 x7 x→
br (decide ((↑x7:Int)<(↑(TabI.l x).length:Int))) (br (decide ((0:Int)≤(↑x7:Int)∧
(↑x7:Int)<(↑(TabI.l x).length:Int))) (br (decide (0+(↑x7:Int).toNat<(TabI.l x).length)) (br ((List.getD (TabI.l x) (0+(↑x7:Int).toNat) (SessionD.mk (0:Int) (0:Int) ([]:List UInt8) VerdictD.dflt)).id==TabI.n x) (∃x12:Unit,(↑x7:Int)=idxF (idIs (TabI.n x)) (TabI.l x)∧
idQ1 x) (∃x13:Nat,IntKind.wrap IntKind.i64 ((↑x7:Int)+(1:Int))=(↑x13:Int)∧
idQ3 x13 x∧
Nat.sub (TabI.l x).length x13<Nat.sub (TabI.l x).length x7)) (Bad "check" "slices.go:109")) (Bad "check" "slices.go:109")) (idQ2 x))):=by kernel_rfl
abbrev snmQ1 (x:snmT.γ):=EqT (TabN.size x) (TabN.size x) (TabN.l x) (TabN.l x) (TabN.name x=TabN.name x∧
True)
abbrev snmQ2 (x:snmT.γ):=∃x1:Unit,@Neg.neg Int _ (1:Int)=idxF (nameIs (TabN.name x)) (TabN.l x)∧
snmQ1 x
abbrev snmQ3 (x2:Nat) (x:snmT.γ):=x2≤(TabN.l x).length∧
∀x3:Nat,∀x4:SessionD,x3<x2→
@GetElem?.getElem? (List SessionD) Nat SessionD (fun x5:(List SessionD)=>fun x6:Nat=>x6<x5.length) _ (TabN.l x) x3=Option.some x4→
nameIs (TabN.name x) x4=false
theorem snm_vc (x:snmT.γ):evCall idE (ev idE 1000) 237 (snmT.args x) ⟨snmT.blks x,snmT.n0,[]⟩ (fun _ _=>False) (snmT.ends x)=(
br (decide (TabN.size x>(0:Int))).not (snmQ2 x) ((TabN.l x).length*112≤room47→
(∃x2:Nat,(0:Int)=(↑x2:Int)∧
snmQ3 x2 x)∧
∀x7:Nat,snmQ3 x7 x→
br (decide ((↑x7:Int)<(↑(TabN.l x).length:Int))) (br (decide ((0:Int)≤(↑x7:Int)∧
(↑x7:Int)<(↑(TabN.l x).length:Int))) (br (decide (0+(↑x7:Int).toNat<(TabN.l x).length)) (br ((List.getD (TabN.l x) (0+(↑x7:Int).toNat) (SessionD.mk (0:Int) (0:Int) ([]:List UInt8) VerdictD.dflt)).name==TabN.name x) (∃x12:Unit,(↑x7:Int)=idxF (nameIs (TabN.name x)) (TabN.l x)∧
snmQ1 x) (∃x13:Nat,IntKind.wrap IntKind.i64 ((↑x7:Int)+(1:Int))=(↑x13:Int)∧
snmQ3 x13 x∧
Nat.sub (TabN.l x).length x13<Nat.sub (TabN.l x).length x7)) (Bad "check" "slices.go:109")) (Bad "check" "slices.go:109")) (snmQ2 x))):=by kernel_rfl
abbrev leaveQ1 (x:leaveT.γ):=Option.some (IntKind.wrap IntKind.i64 (TabI.n x+(1:Int)))
abbrev leaveQ2 (x:leaveT.γ):=Option.some (↑(TabI.l x).length:Int)
abbrev leaveQ3 (x:leaveT.γ):=cutN (TabI.l x).length (none:Option Int) (Option.some (TabI.n x))
abbrev leaveQ4 (x:leaveT.γ):=cutN (TabI.l x).length (leaveQ1 x) (leaveQ2 x)
abbrev leaveQ5 (x:leaveT.γ):=List.take (leaveQ4 x) (List.drop (addN 0 (leaveQ1 x)) (TabI.l x))
abbrev leaveQ6 (x:leaveT.γ):=List.getD (TabI.l x) (0+(TabI.n x).toNat) (SessionD.mk (0:Int) (0:Int) ([]:List UInt8) VerdictD.dflt)
theorem leave_vc (x:leaveT.γ):evCall noE (ev noE 1000) 239 (leaveT.args x) ⟨leaveT.blks x,leaveT.n0,[]⟩ (fun _ _=>False) (leaveT.ends x)=(
br (decide ((0:Int)≤TabI.n x∧
TabI.n x<(↑(TabI.l x).length:Int))) (br (decide (0+(TabI.n x).toNat<(TabI.l x).length)) (br (bndB (TabI.l x).length (none:Option Int) (Option.some (TabI.n x)) (Option.some (TabI.n x))) ((TabI.l x).length*112≤room47→
(TabI.l x).length*112≤room47→
br (bndB (TabI.l x).length (leaveQ1 x) (leaveQ2 x) (leaveQ2 x)) (Nat.le (leaveQ3 x*112) room47∧
Nat.le (leaveQ4 x*112) room47→
br (Bool.and (Bool.and (decide (addN 0 (leaveQ1 x)+leaveQ4 x≤(TabI.l x).length)) (decide (addN 0 (none:Option Int)+leaveQ3 x≤(TabI.l x).length))) (decide ((leaveQ3 x+(leaveQ5 x).length)*112≤room47))) (∃x1:Unit,(leaveQ6 x).id=(atL (TabI.l x) (TabI.n x)).id∧
(leaveQ6 x).seq=(atL (TabI.l x) (TabI.n x)).seq∧
(leaveQ6 x).name=(atL (TabI.l x) (TabI.n x)).name∧
EqV (leaveQ6 x).last (atL (TabI.l x) (TabI.n x)).last (TabI.size x=TabI.size x∧
0=0∧
leaveQ3 x+(leaveQ5 x).length=(outL (TabI.l x) (TabI.n x)).length∧
@HAppend.hAppend (List SessionD) (List SessionD) (List SessionD) _ (List.take (leaveQ3 x) (List.drop (addN 0 (none:Option Int)) (TabI.l x))) (leaveQ5 x)=outL (TabI.l x) (TabI.n x)∧
True)) (Bad "check" "session.go:61")) (Bad "check" "session.go:61")) (Bad "check" "session.go:61")) (Bad "check" "session.go:60")) (Bad "check" "session.go:60")):=by kernel_rfl
abbrev useQ1 (x1:TabI):=[SessionD.mk (atL x1.l x1.n).id (atL x1.l x1.n).seq (atL x1.l x1.n).name (VerdictD.mk (atL x1.l x1.n).last.code (atL x1.l x1.n).last.session (atL x1.l x1.n).last.rev (atL x1.l x1.n).last.path (atL x1.l x1.n).last.digest (atL x1.l x1.n).last.commits (atL x1.l x1.n).last.member)]
abbrev useQ2 (x1:TabI):=(outL x1.l x1.n).length+(List.take 1 (List.drop 0 (useQ1 x1))).length
abbrev useQ3 (x:useT.γ):=(atL (TabI.l x) (TabI.n x)).id
abbrev useQ4 (x:useT.γ):=(atL (TabI.l x) (TabI.n x)).seq
abbrev useQ5 (x:useT.γ):=(atL (TabI.l x) (TabI.n x)).name
abbrev useQ6 (x:useT.γ):=(atL (TabI.l x) (TabI.n x)).last
theorem use_vc (x:useT.γ):evCall useE (ev useE 1000) 202 (useT.args x) ⟨useT.blks x,useT.n0,[]⟩ (fun _ _=>False) (useT.ends x)=(
∃x1:TabI,TabI.n x=x1.n∧
EqT (TabI.size x) x1.size (TabI.l x) x1.l (decide ((0:Int)≤x1.n∧
x1.n<(↑x1.l.length:Int))=true∧
∀x2:Unit,True→
Nat.le ((outL x1.l x1.n).length*112) room47∧
Nat.le (1*112) room47→
br (Bool.and (Bool.and (decide (0+1≤(useQ1 x1).length)) (decide (0+(outL x1.l x1.n).length≤(outL x1.l x1.n).length))) (decide (useQ2 x1*112≤room47))) (∃x3:Unit,(atL x1.l x1.n).id=useQ3 x∧
(atL x1.l x1.n).seq=useQ4 x∧
(atL x1.l x1.n).name=useQ5 x∧
EqV (atL x1.l x1.n).last (useQ6 x) (x1.size=TabI.size x∧
0=0∧
useQ2 x1=(usedL (TabI.l x) (TabI.n x)).length∧
@HAppend.hAppend (List SessionD) (List SessionD) (List SessionD) _ (List.take (outL x1.l x1.n).length (List.drop 0 (outL x1.l x1.n))) (List.take 1 (List.drop 0 (useQ1 x1)))=usedL (TabI.l x) (TabI.n x)∧
True)) (Bad "check" "session.go:68"))):=by kernel_rfl
abbrev openQ1 (x4:TabI):=decide ((0:Int)≤x4.n∧
x4.n<(↑x4.l.length:Int))=true
abbrev openQ2 (x:openT.γ) (x2:TabN):=[SessionD.mk (OpenA.id x) (0:Int) x2.name (VerdictD.mk (0:Int) (0:Int) (0:Int) ([]:List UInt8) (0:Int) ([]:List CommitD) (0:Int))]
abbrev openQ3 (x11:TabI) (x:openT.γ) (x2:TabN):=Nat.le ((outL x11.l x11.n).length*112) room47∧
Nat.le (1*112) room47→
br (Bool.and (Bool.and (decide (0+1≤(openQ2 x x2).length)) (decide (0+(outL x11.l x11.n).length≤(outL x11.l x11.n).length))) (decide (((outL x11.l x11.n).length+(List.take 1 (List.drop 0 (openQ2 x x2))).length)*112≤room47))) (∃x13:Unit,OpenA.id x=(openL x).1∧
x11.size=OpenA.size x∧
0=0∧
(outL x11.l x11.n).length+(List.take 1 (List.drop 0 (openQ2 x x2))).length=(openL x).2.length∧
@HAppend.hAppend (List SessionD) (List SessionD) (List SessionD) _ (List.take (outL x11.l x11.n).length (List.drop 0 (outL x11.l x11.n))) (List.take 1 (List.drop 0 (openQ2 x x2)))=(openL x).2∧
True) (Bad "check" "session.go:86")
theorem open_vc (x:openT.γ):evCall opE (ev opE 1000) 200 (openT.args x) ⟨openT.blks x,openT.n0,[]⟩ (fun _ _=>False) (openT.ends x)=(
br (decide (OpenA.size x>(0:Int))).not (∃x1:Unit,(0:Int)=(openL x).1∧
EqT (OpenA.size x) (OpenA.size x) (OpenA.l x) (openL x).2 True) (∃x2:TabN,EqT (OpenA.size x) x2.size (OpenA.l x) x2.l (OpenA.name x=x2.name∧
decide ((0:Int)<x2.size)=true∧
∀x3:Unit,True→
br (decide (@GE.ge Int _ (idxF (nameIs x2.name) x2.l) (0:Int))) (∃x4:TabI,idxF (nameIs x2.name) x2.l=x4.n∧
EqT x2.size x4.size x2.l x4.l ((openQ1 x4∧
decide (x4.l.length≤1024)=true)∧
∀x5:Unit,True→
∃x6:Unit,(atL x4.l x4.n).id=(openL x).1∧
EqT x4.size (OpenA.size x) (usedL x4.l x4.n) (openL x).2 True)) (∃x7:TabI,OpenA.id x=x7.n∧
EqT x2.size x7.size x2.l x7.l (decide ((0:Int)<x7.size)=true∧
∀x8:Unit,True→
br (decide (@GE.ge Int _ (idxF (idIs x7.n) x7.l) (0:Int))) (∃x9:TabI,idxF (idIs x7.n) x7.l=x9.n∧
EqT x7.size x9.size x7.l x9.l (openQ1 x9∧
∀x10:Unit,True→
(outL x9.l x9.n).length*112≤room47→
br ((↑(outL x9.l x9.n).length:Int)==x9.size) (∃x11:TabI,(0:Int)=x11.n∧
EqT x9.size x11.size (outL x9.l x9.n) x11.l (openQ1 x11∧
∀x12:Unit,True→
openQ3 x11 x x2)) (openQ3 x9 x x2))) (x7.l.length*112≤room47→
br ((↑x7.l.length:Int)==x7.size) (∃x15:TabI,(0:Int)=x15.n∧
EqT x7.size x15.size x7.l x15.l (openQ1 x15∧
∀x16:Unit,True→
openQ3 x15 x x2)) (Nat.le (x7.l.length*112) room47∧
Nat.le (1*112) room47→
br (Bool.and (Bool.and (decide (0+1≤(openQ2 x x2).length)) (decide (0+x7.l.length≤x7.l.length))) (decide ((x7.l.length+(List.take 1 (List.drop 0 (openQ2 x x2))).length)*112≤room47))) (∃x18:Unit,OpenA.id x=(openL x).1∧
x7.size=OpenA.size x∧
0=0∧
x7.l.length+(List.take 1 (List.drop 0 (openQ2 x x2))).length=(openL x).2.length∧
@HAppend.hAppend (List SessionD) (List SessionD) (List SessionD) _ (List.take x7.l.length (List.drop 0 x7.l)) (List.take 1 (List.drop 0 (openQ2 x x2)))=(openL x).2∧
True) (Bad "check" "session.go:86")))))))):=by kernel_rfl
abbrev askQ1 (x:askT.γ) (x5:TabI):=true=(askL x).1.2∧
EqT x5.size (AskA.size x) (usedL x5.l x5.n) (askL x).2 True
theorem ask_vc (x:askT.γ):evCall opE (ev opE 1000) 148 (askT.args x) ⟨askT.blks x,askT.n0,[]⟩ (fun _ _=>False) (askT.ends x)=(
br (decide (AskA.size x>(0:Int))).not (∃x1:Unit,EqV7 (0:Int) (0:Int) (0:Int) ([]:List UInt8) (0:Int) ([]:List CommitD) (0:Int) (askL x).1.1 (false=(askL x).1.2∧
EqT (AskA.size x) (AskA.size x) (AskA.l x) (askL x).2 True)) (∃x2:TabI,AskA.id x=x2.n∧
EqT (AskA.size x) x2.size (AskA.l x) x2.l (decide ((0:Int)<x2.size)=true∧
∀x3:Unit,True→
br (decide (idxF (idIs x2.n) x2.l<(0:Int))) (∃x4:Unit,EqV7 (6:Int) (0:Int) (0:Int) ([]:List UInt8) (0:Int) ([]:List CommitD) (0:Int) (askL x).1.1 (true=(askL x).1.2∧
EqT x2.size (AskA.size x) x2.l (askL x).2 True)) (∃x5:TabI,idxF (idIs x2.n) x2.l=x5.n∧
EqT x2.size x5.size x2.l x5.l ((decide ((0:Int)≤x5.n∧
x5.n<(↑x5.l.length:Int))=true∧
decide (x5.l.length≤1024)=true)∧
∀x6:Unit,True→
br (decide (AskA.seq x<(1:Int))) (∃x7:Unit,EqV7 (5:Int) (0:Int) (0:Int) ([]:List UInt8) (0:Int) ([]:List CommitD) (0:Int) (askL x).1.1 (askQ1 x x5)) (br (decide (AskA.seq x<(atL x5.l x5.n).seq)) (∃x8:Unit,EqV7 (7:Int) (0:Int) (0:Int) ([]:List UInt8) (0:Int) ([]:List CommitD) (0:Int) (askL x).1.1 (askQ1 x x5)) (br (AskA.seq x==(atL x5.l x5.n).seq) (∃x9:VerdictD,EqV (atL x5.l x5.n).last x9 (True∧
∀x10:Unit,True→
∃x11:Unit,EqV x9 (askL x).1.1 (askQ1 x x5))) (∃x12:Unit,EqV7 (0:Int) (0:Int) (0:Int) ([]:List UInt8) (0:Int) ([]:List CommitD) (0:Int) (askL x).1.1 (false=(askL x).1.2∧
EqT x5.size (AskA.size x) (usedL x5.l x5.n) (askL x).2 True))))))))):=by kernel_rfl
abbrev doneQ1 (x:doneT.γ) (x1:TabI):=∃x3:Unit,false=(doneL x).1∧
EqT x1.size (DoneA.size x) x1.l (doneL x).2 True
abbrev doneQ2 (x1:TabI):=0+(idxF (idIs x1.n) x1.l).toNat
abbrev doneQ3  := SessionD.mk (0:Int) (0:Int) ([]:List UInt8) VerdictD.dflt
abbrev doneQ4 (x1:TabI):=0+(List.take x1.l.length (List.drop 0 x1.l)).length
abbrev doneQ5 (x1:TabI):=decide ((0:Int)≤idxF (idIs x1.n) x1.l∧
idxF (idIs x1.n) x1.l<(↑(doneQ4 x1):Int))
abbrev doneQ6 (x1:TabI):=@HAppend.hAppend (List SessionD) (List SessionD) (List SessionD) _ (List.take 0 (List.drop 0 ([]:List SessionD))) (List.take x1.l.length (List.drop 0 x1.l))
abbrev doneQ7 (x1:TabI):=List.getD (doneQ6 x1) (doneQ2 x1) doneQ3
abbrev doneQ8 (x1:TabI) (x:doneT.γ):=List.set (doneQ6 x1) (doneQ2 x1) (SessionD.mk (doneQ7 x1).id (DoneA.seq x) (doneQ7 x1).name (VerdictD.mk (doneQ7 x1).last.code (doneQ7 x1).last.session (doneQ7 x1).last.rev (doneQ7 x1).last.path (doneQ7 x1).last.digest (doneQ7 x1).last.commits (doneQ7 x1).last.member))
abbrev doneQ9 (x1:TabI) (x:doneT.γ):=List.getD (doneQ8 x1 x) (doneQ2 x1) doneQ3
theorem done_vc (x:doneT.γ):evCall opE (ev opE 1000) 149 (doneT.args x) ⟨doneT.blks x,doneT.n0,[]⟩ (fun _ _=>False) (doneT.ends x)=(
∃x1:TabI,DoneA.id x=x1.n∧
EqT (DoneA.size x) x1.size (DoneA.l x) x1.l (decide ((0:Int)<x1.size)=true∧
∀x2:Unit,True→
br (decide (idxF (idIs x1.n) x1.l<(0:Int))) (doneQ1 x x1) (br (decide ((0:Int)≤idxF (idIs x1.n) x1.l∧
idxF (idIs x1.n) x1.l<(↑x1.l.length:Int))) (br (decide (doneQ2 x1<x1.l.length)) (br (decide (DoneA.seq x≤(List.getD x1.l (doneQ2 x1) doneQ3).seq)) (doneQ1 x x1) (∀x5:Bool,(x5=true→
x1.l.length=0)→
br x5 (∃x6:VerdictD,EqV (DoneA.v x) x6 (True∧
∀x7:Unit,True→
Bad "silent" "session.go:129")) (Nat.le (0*112) room47∧
Nat.le (x1.l.length*112) room47→
br (Bool.and (Bool.and (decide (0+x1.l.length≤x1.l.length)) (decide (0+0≤([]:List SessionD).length))) (decide (doneQ4 x1*112≤room47))) (∃x8:VerdictD,EqV (DoneA.v x) x8 (True∧
∀x9:Unit,True→
br (doneQ5 x1) (br (Bool.and true (decide (doneQ2 x1<(doneQ6 x1).length))) (br (doneQ5 x1) (br (Bool.and true (decide (doneQ2 x1<(doneQ8 x1 x).length))) (∃x10:Unit,true=(doneL x).1∧
x1.size=DoneA.size x∧
0=0∧
doneQ4 x1=(doneL x).2.length∧
List.set (doneQ8 x1 x) (doneQ2 x1) (SessionD.mk (doneQ9 x1 x).id (doneQ9 x1 x).seq (doneQ9 x1 x).name (VerdictD.mk x8.code x8.session x8.rev x8.path x8.digest x8.commits x8.member))=(doneL x).2∧
True) (Bad "check" "session.go:129")) (Bad "check" "session.go:129")) (Bad "check" "session.go:129")) (Bad "check" "session.go:129"))) (Bad "check" "slices.go:362")))) (Bad "check" "session.go:125")) (Bad "check" "session.go:125")))):=by kernel_rfl
theorem vown_ok:SpecOK Tryz.prog 203 vownT.spec:=by
  refine Tri.ok (E:=vownE) (Env_ok (by decide +kernel) (by simp)) (n:=1000) vownT fun x hx=>?_
  rw [vown_vc]
  delta vownQ8 vownQ7 vownQ6 vownQ5 vownQ4 vownQ3 vownQ2 vownQ1 EqV7
  simp only [br_bad,decide_eq_true_eq,Bool.and_eq_true,List.take_zero,List.nil_append,List.drop_zero,Nat.zero_add,Int.toNat_natCast,Nat.sub_eq,true_and,and_true,exists_const,List.length_nil,Nat.zero_le,Nat.zero_mul,Nat.le_refl,List.length_set,List.take_length,Int.natCast_nonneg,forall_const,implies_true,Int.toNat_zero,Nat.le_eq,Int.le_refl,addN,cutN,loN,hiN,bndB,Option.getD,List.length_cons,List.take_succ_cons,List.length_take,List.length_drop,Option.isNone,Nat.add_zero,Nat.min_self]
  simp only [br_iff,decide_eq_true_eq,decide_eq_false_iff_not,room47,Bool.not_eq_true',Bool.not_eq_false',gt_iff_lt]
  intro b hb
  refine⟨fun h=>(hb h).symm,fun h1 h2=>⟨h2,fun _=>⟨⟨0,rfl,by omega⟩,fun i hi=>⟨fun h3=>⟨h3,by omega,fun c hc=>?_⟩,?_⟩⟩⟩⟩
  · have hlt:i<x.commits.length:=by omega
    refine⟨fun h4=>⟨h3,hlt,i+1,by rw [wrap_id (by omega) (by omega)];rfl,set_self (d:=⟨0,0,[],[]⟩) hlt ?_,by omega,by omega⟩,fun h4 h5=>?_⟩
    · have:=hc h4
      revert this
      generalize x.commits.getD i _=y
      intro e
      cases y
      simp at e
      subst e
      rfl
    · exact⟨h5,h3,hlt,i+1,by rw [wrap_id (by omega) (by omega)];rfl,set_self (d:=⟨0,0,[],[]⟩) hlt rfl,by omega,by omega⟩
  · exact fun _=>trivial
theorem idxF_lt (p:SessionD→Bool):∀l,-1≤idxF p l∧idxF p l<l.length
  | []=>by simp [idxF]
  | x::r=>by
    have:=idxF_lt p r
    simp only [idxF,List.length_cons]
    cases p x<;>simp only [cond_true,cond_false]
    · by_cases h:idxF p r<0<;>simp [h]<;>omega
    · omega
theorem idxF_no {p:SessionD→Bool}:∀ {l:List SessionD},(∀(j:Nat) x,l[j]?=some x→p x=false)→idxF p l = -1
  | [],_=>rfl
  | x::r,h=>by
    have h0:=h 0 x rfl
    have:=idxF_no (l:=r) (fun j y hj=>h (j+1) y (by simpa using hj))
    simp [idxF,h0,this]
theorem idxF_at {p:SessionD→Bool}:∀ {l:List SessionD} {i:Nat} {x:SessionD},l[i]?=some x→p x=true→(∀(j:Nat) y,j<i→l[j]?=some y→p y=false)→idxF p l=i
  | [],i,x,hx,_,_=>by simp at hx
  | z::r,0,x,hx,hp,h=>by simp at hx;subst hx;simp [idxF,hp]
  | z::r,i+1,x,hx,hp,h=>by
    have h0:=h 0 z (by omega) rfl
    have:=idxF_at (l:=r) (i:=i) (by simpa using hx) hp (fun j y hj hy=>h (j+1) y (by omega) (by simpa using hy))
    simp only [idxF,h0,cond_false,this]
    have:¬((i:Int)<0):=by omega
    simp [this]
theorem id_ok:SpecOK Tryz.prog 201 idT.spec:=by
  refine Tri.ok (E:=idE) (Env_ok (by decide +kernel) (by simp)) (n:=1000) idT fun x hx=>?_
  rw [id_vc]
  delta idQ3 idQ2 idQ1 EqT
  simp only [br_bad,decide_eq_true_eq,Bool.and_eq_true,List.take_zero,List.nil_append,List.drop_zero,Nat.zero_add,Int.toNat_natCast,Nat.sub_eq,true_and,and_true,exists_const,List.length_nil,Nat.zero_le,Nat.zero_mul,Nat.le_refl,List.length_set,List.take_length,Int.natCast_nonneg,forall_const,implies_true,Int.toNat_zero,Nat.le_eq,Int.le_refl,addN,cutN,loN,hiN,bndB,Option.getD,List.length_cons,List.take_succ_cons,List.length_take,List.length_drop,Option.isNone,Nat.add_zero,Nat.min_self]
  simp only [br_iff,decide_eq_true_eq,decide_eq_false_iff_not,room47,Bool.not_eq_true',Bool.not_eq_false',gt_iff_lt]
  obtain⟨size,l,id⟩:=x
  have hx:decide (0<size)=true:=hx
  have hx:=of_decide_eq_true hx
  dsimp only
  refine⟨fun h=>absurd hx h,fun _ h1=>⟨⟨0,rfl,by omega,by omega⟩,fun i ⟨h2,h3⟩=>⟨fun h4=>⟨h4,by omega,fun h5=>?_,fun h5=>⟨i+1,?_,⟨by omega,?_⟩,by omega⟩⟩,fun h4=>(idxF_no fun j x hj=>h3 j x ?_ hj).symm⟩⟩⟩
  · have:i<l.length:=by omega
    refine (idxF_at (i:=i) (x:=l[i]) (by simp) ?_ h3).symm
    simpa [this,idIs,nameIs] using h5
  · rw [wrap_id (by omega) (by omega)];rfl
  · intro j x hj hx
    have hlt:i<l.length:=by omega
    by_cases e:j=i
    · subst e
      simp only [hlt,List.getElem?_eq_getElem,Option.some.injEq] at hx
      subst hx
      simpa [hlt,idIs,nameIs] using h5
    · exact h3 j x (by omega) hx
  · have:=(List.getElem?_eq_some_iff.1 hj).1
    omega
theorem snm_ok:SpecOK Tryz.prog 237 snmT.spec:=by
  refine Tri.ok (E:=idE) (Env_ok (by decide +kernel) (by simp)) (n:=1000) snmT fun x hx=>?_
  rw [snm_vc]
  delta snmQ3 snmQ2 snmQ1 EqT
  simp only [br_bad,decide_eq_true_eq,Bool.and_eq_true,List.take_zero,List.nil_append,List.drop_zero,Nat.zero_add,Int.toNat_natCast,Nat.sub_eq,true_and,and_true,exists_const,List.length_nil,Nat.zero_le,Nat.zero_mul,Nat.le_refl,List.length_set,List.take_length,Int.natCast_nonneg,forall_const,implies_true,Int.toNat_zero,Nat.le_eq,Int.le_refl,addN,cutN,loN,hiN,bndB,Option.getD,List.length_cons,List.take_succ_cons,List.length_take,List.length_drop,Option.isNone,Nat.add_zero,Nat.min_self]
  simp only [br_iff,decide_eq_true_eq,decide_eq_false_iff_not,room47,Bool.not_eq_true',Bool.not_eq_false',gt_iff_lt]
  obtain⟨size,l,name⟩:=x
  have hx:decide (0<size)=true:=hx
  have hx:=of_decide_eq_true hx
  dsimp only
  refine⟨fun h=>absurd hx h,fun _ h1=>⟨⟨0,rfl,by omega,by omega⟩,fun i ⟨h2,h3⟩=>⟨fun h4=>⟨h4,by omega,fun h5=>?_,fun h5=>⟨i+1,?_,⟨by omega,?_⟩,by omega⟩⟩,fun h4=>(idxF_no fun j x hj=>h3 j x ?_ hj).symm⟩⟩⟩
  · have:i<l.length:=by omega
    refine (idxF_at (i:=i) (x:=l[i]) (by simp) ?_ h3).symm
    simpa [this,idIs,nameIs] using h5
  · rw [wrap_id (by omega) (by omega)];rfl
  · intro j x hj hx
    have hlt:i<l.length:=by omega
    by_cases e:j=i
    · subst e
      simp only [hlt,List.getElem?_eq_getElem,Option.some.injEq] at hx
      subst hx
      simpa [hlt,idIs,nameIs] using h5
    · exact h3 j x (by omega) hx
  · have:=(List.getElem?_eq_some_iff.1 hj).1
    omega
theorem outL_length {l:List SessionD} {i:Int} (h:0≤i∧i<l.length):(outL l i).length=l.length-1:=by
  simp [outL];omega
theorem usedL_length {l:List SessionD} {i:Int} (h:0≤i∧i<l.length):(usedL l i).length=l.length:=by
  simp [usedL,outL_length h];omega
theorem leave_ok:SpecOK Tryz.prog 239 leaveT.spec:=by
  refine Tri.ok (E:=noE) (Env_ok (by decide +kernel) (by simp)) (n:=1000) leaveT fun x hx=>?_
  rw [leave_vc]
  delta leaveQ6 leaveQ5 leaveQ4 leaveQ3 leaveQ2 leaveQ1 EqV
  simp only [br_bad,decide_eq_true_eq,Bool.and_eq_true,List.take_zero,List.nil_append,List.drop_zero,Nat.zero_add,Int.toNat_natCast,Nat.sub_eq,true_and,and_true,exists_const,List.length_nil,Nat.zero_le,Nat.zero_mul,Nat.le_refl,List.length_set,List.take_length,Int.natCast_nonneg,forall_const,implies_true,Int.toNat_zero,Nat.le_eq,Int.le_refl,addN,cutN,loN,hiN,bndB,Option.getD,List.length_cons,List.take_succ_cons,List.length_take,List.length_drop,Option.isNone,Nat.add_zero,Nat.min_self]
  simp only [br_iff,decide_eq_true_eq,decide_eq_false_iff_not,room47,Bool.not_eq_true',Bool.not_eq_false',gt_iff_lt]
  obtain⟨size,l,n⟩:=x
  have hx:decide (0≤n∧n<l.length)=true:=hx
  have hx:=of_decide_eq_true hx
  dsimp only
  have e:∀h:l.length*112≤140737488355328,IntKind.i64.wrap (n+1)=n+1:=fun h=>wrap_id (by omega) (by omega)
  refine⟨hx,by omega,⟨by omega,by omega⟩,fun h _=>?_⟩
  rw [e h,show (n+1).toNat=n.toNat+1 by omega]
  refine⟨by omega,fun h2=>⟨by omega,rfl,rfl,rfl,rfl,rfl,rfl,rfl,rfl,rfl,rfl,?_,?_⟩⟩
  · rw [outL_length hx];omega
  · rw [outL,List.take_of_length_le (l:=l.drop _) (by simp)]
theorem use_ok:SpecOK Tryz.prog 202 useT.spec:=by
  refine Tri.ok (E:=useE) (Env_ok (by decide +kernel) (by simp [leave_ok])) (n:=1000) useT fun x hx=>?_
  rw [use_vc]
  delta useQ6 useQ5 useQ4 useQ3 useQ2 useQ1 EqT EqV
  simp only [br_bad,decide_eq_true_eq,Bool.and_eq_true,List.take_zero,List.nil_append,List.drop_zero,Nat.zero_add,Int.toNat_natCast,Nat.sub_eq,true_and,and_true,exists_const,List.length_nil,Nat.zero_le,Nat.zero_mul,Nat.le_refl,List.length_set,List.take_length,Int.natCast_nonneg,forall_const,implies_true,Int.toNat_zero,Nat.le_eq,Int.le_refl,addN,cutN,loN,hiN,bndB,Option.getD,List.length_cons,List.take_succ_cons,List.length_take,List.length_drop,Option.isNone,Nat.add_zero,Nat.min_self]
  simp only [br_iff,decide_eq_true_eq,decide_eq_false_iff_not,room47,Bool.not_eq_true',Bool.not_eq_false',gt_iff_lt]
  obtain⟨size,l,n⟩:=x
  have hx:decide (0≤n∧n<l.length)=true∧decide (l.length≤1024)=true:=hx
  have h0:=of_decide_eq_true hx.1
  have h1:=of_decide_eq_true hx.2
  refine⟨⟨size,l,n⟩,rfl,rfl,rfl,rfl,h0,fun h2=>⟨?_,rfl,rfl,rfl,rfl,rfl,rfl,rfl,rfl,rfl,rfl,rfl,?_,rfl⟩⟩
  · dsimp only;rw [outL_length h0];omega
  · dsimp only;rw [outL_length h0,usedL_length h0];omega
theorem open_ok:SpecOK Tryz.prog 200 openT.spec:=by
  refine Tri.ok (E:=opE) (Env_ok (by decide +kernel) (by simp [leave_ok,id_ok,snm_ok,vown_ok,use_ok])) (n:=1000) openT fun x hx=>?_
  rw [open_vc]
  delta openQ3 openQ2 openQ1 EqT
  simp only [br_bad,decide_eq_true_eq,Bool.and_eq_true,List.take_zero,List.nil_append,List.drop_zero,Nat.zero_add,Int.toNat_natCast,Nat.sub_eq,true_and,and_true,exists_const,List.length_nil,Nat.zero_le,Nat.zero_mul,Nat.le_refl,List.length_set,List.take_length,Int.natCast_nonneg,forall_const,implies_true,Int.toNat_zero,Nat.le_eq,Int.le_refl,addN,cutN,loN,hiN,bndB,Option.getD,List.length_cons,List.take_succ_cons,List.length_take,List.length_drop,Option.isNone,Nat.add_zero,Nat.min_self]
  simp only [br_iff,decide_eq_true_eq,decide_eq_false_iff_not,room47,Bool.not_eq_true',Bool.not_eq_false',gt_iff_lt]
  obtain⟨size,l,name,id⟩:=x
  have hx:decide (0<size)=true∧decide (l.length≤1024)=true:=hx
  have h0:=of_decide_eq_true hx.1
  have h1:=of_decide_eq_true hx.2
  have b1:=idxF_lt (nameIs name) l
  have b2:=idxF_lt (idIs id) l
  dsimp only
  refine⟨fun h=>absurd h0 h,fun _=>⟨⟨size,l,name⟩,rfl,rfl,rfl,rfl,h0,fun hi=>?_,fun hi=>⟨⟨size,l,id⟩,rfl,rfl,rfl,rfl,h0,fun hj=>?_,fun hj h2=>?_⟩⟩⟩<;>dsimp only at *
  · refine⟨⟨size,l,_⟩,rfl,rfl,rfl,rfl,?_,?_⟩
    · simp [h1];omega
    · simp [openL,show ¬idxF (nameIs name) l<0 by omega]
  · have ho:(outL l (idxF (idIs id) l)).length=l.length-1:=outL_length (by omega)
    refine⟨⟨size,l,_⟩,rfl,rfl,rfl,rfl,by dsimp only;omega,fun h2=>⟨fun h3=>?_,fun h3 h4=>?_⟩⟩<;>dsimp only at *
    · simp only [beq_iff_eq] at h3
      have ho2:(outL (outL l (idxF (idIs id) l)) 0).length=l.length-1-1:=by rw [outL_length (by omega),ho]
      refine⟨⟨size,outL l (idxF (idIs id) l),0⟩,rfl,rfl,rfl,rfl,by dsimp only;omega,fun h4=>?_⟩
      dsimp only
      simp only [openL,show idxF (nameIs name) l<0 by omega,decide_true,cond_true,show ¬idxF (idIs id) l<0 by omega,decide_false,cond_false,h3]
      simp [ho2,VerdictD.dflt]
      omega
    · simp only [beq_eq_false_iff_ne,ne_eq,ho] at h3
      simp [openL,show idxF (nameIs name) l<0 by omega,show ¬idxF (idIs id) l<0 by omega,h3,VerdictD.dflt,ho]
      omega
  · refine⟨fun h3=>?_,fun h3 h4=>?_⟩
    · simp only [beq_iff_eq] at h3
      have ho2:(outL l 0).length=l.length-1:=outL_length (by omega)
      refine⟨⟨size,l,0⟩,rfl,rfl,rfl,rfl,by dsimp only;omega,fun h4=>?_⟩
      dsimp only
      simp only [openL,show idxF (nameIs name) l<0 by omega,decide_true,cond_true,show idxF (idIs id) l<0 by omega,h3]
      simp [ho2,VerdictD.dflt]
      omega
    · simp only [beq_eq_false_iff_ne,ne_eq] at h3
      simp [openL,show idxF (nameIs name) l<0 by omega,show idxF (idIs id) l<0 by omega,h3,VerdictD.dflt]
      omega
theorem ask_ok:SpecOK Tryz.prog 148 askT.spec:=by
  refine Tri.ok (E:=opE) (Env_ok (by decide +kernel) (by simp [leave_ok,id_ok,snm_ok,vown_ok,use_ok])) (n:=1000) askT fun x hx=>?_
  rw [ask_vc]
  delta askQ1 EqT EqV EqV7
  simp only [br_bad,decide_eq_true_eq,Bool.and_eq_true,List.take_zero,List.nil_append,List.drop_zero,Nat.zero_add,Int.toNat_natCast,Nat.sub_eq,true_and,and_true,exists_const,List.length_nil,Nat.zero_le,Nat.zero_mul,Nat.le_refl,List.length_set,List.take_length,Int.natCast_nonneg,forall_const,implies_true,Int.toNat_zero,Nat.le_eq,Int.le_refl,addN,cutN,loN,hiN,bndB,Option.getD,List.length_cons,List.take_succ_cons,List.length_take,List.length_drop,Option.isNone,Nat.add_zero,Nat.min_self]
  simp only [br_iff,decide_eq_true_eq,decide_eq_false_iff_not,room47,Bool.not_eq_true',Bool.not_eq_false',gt_iff_lt]
  obtain⟨size,l,id,seq⟩:=x
  have hx:decide (0<size)=true∧decide (l.length≤1024)=true:=hx
  have h0:=of_decide_eq_true hx.1
  have h1:=of_decide_eq_true hx.2
  have b1:=idxF_lt (idIs id) l
  dsimp only
  refine⟨fun h=>absurd h0 h,fun _=>⟨⟨size,l,id⟩,rfl,rfl,rfl,rfl,h0,fun hi=>?_,fun hi=>⟨⟨size,l,_⟩,rfl,rfl,rfl,rfl,by dsimp only at *;omega,fun h2=>?_,fun h2=>⟨fun h3=>?_,fun h3=>⟨fun h4=>⟨(atL l (idxF (idIs id) l)).last,rfl,rfl,rfl,rfl,rfl,rfl,rfl,?_⟩,fun h4=>?_⟩⟩⟩⟩⟩<;>dsimp only at *
  · simp [askL,hi,vd]
  · simp [askL,hi,h2,vd]
  · simp [askL,hi,h2,h3,vd]
  · simp only [beq_iff_eq] at h4
    simp [askL,hi,h2,←h4,vd]
  · simp only [beq_eq_false_iff_ne,ne_eq] at h4
    simp [askL,hi,h2,h3,h4,vd]
theorem done_ok:SpecOK Tryz.prog 149 doneT.spec:=by
  refine Tri.ok (E:=opE) (Env_ok (by decide +kernel) (by simp [leave_ok,id_ok,snm_ok,vown_ok,use_ok])) (n:=1000) doneT fun x hx=>?_
  rw [done_vc]
  delta doneQ9 doneQ8 doneQ7 doneQ6 doneQ5 doneQ4 doneQ3 doneQ2 doneQ1 EqT EqV
  simp only [br_bad,decide_eq_true_eq,Bool.and_eq_true,List.take_zero,List.nil_append,List.drop_zero,Nat.zero_add,Int.toNat_natCast,Nat.sub_eq,true_and,and_true,exists_const,List.length_nil,Nat.zero_le,Nat.zero_mul,Nat.le_refl,List.length_set,List.take_length,Int.natCast_nonneg,forall_const,implies_true,Int.toNat_zero,Nat.le_eq,Int.le_refl,addN,cutN,loN,hiN,bndB,Option.getD,List.length_cons,List.take_succ_cons,List.length_take,List.length_drop,Option.isNone,Nat.add_zero,Nat.min_self]
  simp only [br_iff,decide_eq_true_eq,decide_eq_false_iff_not,room47,Bool.not_eq_true',Bool.not_eq_false',gt_iff_lt]
  obtain⟨size,l,id,seq,v⟩:=x
  have hx:decide (0<size)=true:=hx
  have h0:=of_decide_eq_true hx
  have b1:=idxF_lt (idIs id) l
  dsimp only
  refine⟨⟨size,l,id⟩,rfl,rfl,rfl,rfl,h0,fun hi=>?_,fun hi=>⟨by dsimp only at *;omega,by dsimp only at *;omega,fun h2=>?_,fun h2 b hb=>⟨fun h3=>?_,fun h3 h4=>⟨h4,v,rfl,rfl,rfl,rfl,rfl,rfl,rfl,?_,?_,?_,?_,?_⟩⟩⟩⟩<;>dsimp only at *
  · simp [doneL,hi]
  · have h2:seq≤(atL l (idxF (idIs id) l)).seq:=h2
    simp [doneL,hi,h2]
  · have:=hb h3;omega
  · omega
  · omega
  · omega
  · omega
  · have h2:¬seq≤(atL l (idxF (idIs id) l)).seq:=h2
    have hi':(idxF (idIs id) l).toNat<l.length:=by omega
    simp only [doneL,hi,h2,decide_false,Bool.or_false,cond_false,List.length_set,true_and]
    simp [hi',atL]
def upE:Int→List Int→Bool
  | _,[]=>true
  | a,m::r=>decide (a<m)&&(decide (m<15)&&upE m r)
def mayE (M:List Int):Bool:=decide (1≤M.length)&&(decide (M.length≤15)&&upE (-1) M)
def lastE (M:List Int):Nat→Int
  | 0=>-1
  | i+1=>M.getD i 0
noncomputable def emayT:Tri:={γ:=List Int,n0:=0,args:=fun M=>[.rslice false .int M],blks:=fun _=>[],pre:=fun _=>True,δ:=Unit,post:=fun _ _=>True,n1:=0,res:=fun M _=>.bool (mayE M),blks':=fun _ _=>[],scal:=true}
noncomputable def emayI:St→LInv:=fun s=>match getE s.env 0 with
  | .rslice _ .int M=>{σ:=Nat,I:=fun i=>i≤M.length∧upE (lastE M i) (M.drop i)=upE (-1) M,μ:=fun i=>M.length-i,env:=fun i=>[(16,.int .i64 i),(3,.int .i64 (lastE M i))],blk:=fun _=>[],fresh:=0,drop:=[]}
  | _=>LInv.none
noncomputable def emayE:Envr:=Env Tryz.prog cod [] [(5,emayI)]
noncomputable def iclnT:Tri:={γ:=List Int,n0:=0,args:=fun l=>[.rslice false .int l],blks:=fun _=>[],pre:=fun _=>True,δ:=Unit,post:=fun _ _=>True,n1:=0,res:=fun l _=>.rslice false .int l,blks':=fun _ _=>[],scal:=false}
def epB (alpha:Int) (E:List EpochD) (a n:Nat):Blks:=[(a,.cells [.int .i64 alpha,.mslice .epoch n 0 E.length]),(n,.rows .epoch E)]
def atN (E:List EpochD) (slot:Int):Nat→Nat
  | 0=>0
  | i+1=>bif decide ((E.getD i ⟨0,[]⟩).from_≤slot) then i else atN E slot i
structure EpA where
  alpha:Int
  E:List EpochD
  slot:Int
noncomputable def eatI:St→LInv:=fun s=>match getE s.env 1,getE s.env 11 with
  | .int _ slot,.mslice _ n _ _=>match s.m.blks.get n with
    | some (.rows .epoch E)=>{σ:=Nat,I:=fun i=>i≤E.length,μ:=fun i=>E.length-i,env:=fun i=>[(13,.int .i64 i),(5,.int .i64 (atN E slot i))],blk:=fun _=>[],fresh:=0,drop:=[]}
    | _=>LInv.none
  | _,_=>LInv.none
structure EoA where
  E:List EpochD
  lo:Nat
noncomputable def eownT:Tri:={γ:=EoA,n0:=1,args:=fun x=>[.mslice .epoch 0 x.lo (x.E.length-x.lo)],blks:=fun x=>[(0,.rows .epoch x.E)],pre:=fun x=>decide (x.lo≤x.E.length)=true,δ:=Unit,post:=fun _ _=>True,n1:=1,res:=fun x _=>.mslice .epoch 1 0 (x.E.drop x.lo).length,blks':=fun x _=>[(0,.rows .epoch x.E),(1,.rows .epoch (x.E.drop x.lo))],scal:=false}
noncomputable def eownE:Envr:=Env Tryz.prog cod [(168,iclnT.spec)] [(3,keepI 9 3)]
def cutE (E:List EpochD) (slot:Int):List EpochD:=E.drop (atN E slot E.length)
noncomputable def ecutT:Tri:={γ:=EpA,n0:=2,args:=fun x=>[.mptr 0 0,.int .i64 x.slot],blks:=fun x=>epB x.alpha x.E 0 1,pre:=fun x=>decide (1≤x.E.length)=true,δ:=Unit,post:=fun _ _=>True,n1:=1,res:=fun _ _=>.tuple [],blks':=fun x _=>epB x.alpha (cutE x.E x.slot) 0 2,scal:=false}
noncomputable def ecutE:Envr:=Env Tryz.prog cod [(151,eownT.spec)] [(3,eatI)]
set_option maxRecDepth 100000
abbrev emayQ1 (x:emayT.γ):=∃x1:Unit,false=mayE x∧
True
abbrev emayQ2 (x3:Nat) (x:emayT.γ):=x3≤List.length x∧
upE (lastE x x3) (List.drop x3 x)=upE (@Neg.neg Int _ (1:Int)) x
abbrev emayQ3 (x:emayT.γ) (x4:Nat):=List.getD x (↑x4:Int).toNat (Int.ofNat 0)
theorem emay_vc (x:emayT.γ):evCall emayE (ev emayE 1000) 169 (emayT.args x) ⟨emayT.blks x,emayT.n0,[]⟩ (fun _ _=>False) (emayT.ends x)=(
List.length x*8≤room47→
br (decide ((↑(List.length x):Int)<(1:Int))) (emayQ1 x) (List.length x*8≤room47→
br (decide ((↑(List.length x):Int)>(15:Int))) (emayQ1 x) (List.length x*8≤room47→
(∃x3:Nat,(0:Int)=(↑x3:Int)∧
@Neg.neg Int _ (1:Int)=lastE x x3∧
emayQ2 x3 x)∧
∀x4:Nat,emayQ2 x4 x→
br (decide ((↑x4:Int)<(↑(List.length x):Int))) (br (decide ((0:Int)≤(↑x4:Int)∧
(↑x4:Int)<(↑(List.length x):Int))) (br (decide (emayQ3 x x4≤lastE x x4)) (emayQ1 x) (br (decide (@GE.ge Int _ (emayQ3 x x4) (15:Int))) (emayQ1 x) (∃x7:Nat,IntKind.wrap IntKind.i64 ((↑x4:Int)+(1:Int))=(↑x7:Int)∧
emayQ3 x x4=lastE x x7∧
emayQ2 x7 x∧
Nat.sub (List.length x) x7<Nat.sub (List.length x) x4))) (Bad "check" "epoch.go:22")) (∃x8:Unit,true=mayE x∧
True)))):=by kernel_rfl
abbrev iclnQ1 (x:iclnT.γ):=@HAppend.hAppend (List Int) (List Int) (List Int) _ (List.take 0 (List.drop 0 ([]:List Int))) x
theorem icln_vc (x:iclnT.γ):evCall noE (ev noE 1000) 168 (iclnT.args x) ⟨iclnT.blks x,iclnT.n0,[]⟩ (fun _ _=>False) (iclnT.ends x)=(
∀x1:Bool,(x1=true→
x=([]:List Int))→
br x1 (∃x2:Unit,([]:List Int)=x∧
True) (Nat.le (0*8) room47∧
Nat.le (List.length x*8) room47→
br (Bool.and (Bool.and true (decide (0+0≤([]:List Int).length))) (decide ((0+List.length x)*8≤room47))) (∃x3:Unit,0+(0+List.length x)≤(iclnQ1 x).length∧
List.take (0+List.length x) (List.drop 0 (iclnQ1 x))=x∧
True) (Bad "check" "slices.go:362"))):=by kernel_rfl
abbrev eownQ1 (x:eownT.γ):=List.drop (EoA.lo x) (EoA.E x)
abbrev eownQ2 (x:eownT.γ):=0+(List.take ((EoA.E x).length-EoA.lo x) (eownQ1 x)).length
abbrev eownQ3 (x:eownT.γ):=@HAppend.hAppend (List EpochD) (List EpochD) (List EpochD) _ (List.take 0 (List.drop 0 ([]:List EpochD))) (List.take ((EoA.E x).length-EoA.lo x) (eownQ1 x))
abbrev eownQ4 (x6:Nat) (x:eownT.γ):=decide ((0:Int)≤(↑x6:Int)∧
(↑x6:Int)<(↑(eownQ2 x):Int))
abbrev eownQ5 (x:eownT.γ) (x6:Nat):=List.getD (eownQ3 x) (0+(↑x6:Int).toNat) (EpochD.mk (0:Int) ([]:List Int))
theorem eown_vc (x:eownT.γ):evCall eownE (ev eownE 1000) 151 (eownT.args x) ⟨eownT.blks x,eownT.n0,[]⟩ (fun _ _=>False) (eownT.ends x)=(
∀x1:Bool,(x1=true→
(EoA.E x).length-EoA.lo x=0)→
br x1 ((∃x2:Unit,(0:Int)=(0:Int)∧
True)∧
∀x3:Unit,True→
∃x4:Unit,0=(eownQ1 x).length∧
EoA.E x=EoA.E x∧
([]:List EpochD)=eownQ1 x∧
True) (Nat.le (0*32) room47∧
Nat.le (((EoA.E x).length-EoA.lo x)*32) room47→
br (Bool.and (Bool.and (decide (EoA.lo x+((EoA.E x).length-EoA.lo x)≤(EoA.E x).length)) (decide (0+0≤([]:List EpochD).length))) (decide (eownQ2 x*32≤room47))) (eownQ2 x*32≤room47→
(∃x5:Nat,(0:Int)=(↑x5:Int)∧
eownQ3 x=eownQ3 x∧
Nat.le x5 (eownQ3 x).length)∧
∀x6:Nat,Nat.le x6 (eownQ3 x).length→
br (decide ((↑x6:Int)<(↑(eownQ2 x):Int))) (br (eownQ4 x6 x) (br (decide (0+(↑x6:Int).toNat<(eownQ3 x).length)) (∃x7:(List Int),(eownQ5 x x6).members=x7∧
True∧
∀x8:Unit,True→
br (eownQ4 x6 x) (br (Bool.and true (decide (0+(↑x6:Int).toNat<(eownQ3 x).length))) (∃x9:Nat,IntKind.wrap IntKind.i64 ((↑x6:Int)+(1:Int))=(↑x9:Int)∧
List.set (eownQ3 x) (0+(↑x6:Int).toNat) (EpochD.mk (eownQ5 x x6).from_ x7)=eownQ3 x∧
Nat.le x9 (eownQ3 x).length∧
Nat.sub (eownQ3 x).length x9<Nat.sub (eownQ3 x).length x6) (Bad "check" "epoch.go:61")) (Bad "check" "epoch.go:61")) (Bad "check" "epoch.go:61")) (Bad "check" "epoch.go:61")) (∃x10:Unit,0=0∧
eownQ2 x=(eownQ1 x).length∧
EoA.E x=EoA.E x∧
eownQ3 x=eownQ1 x∧
True)) (Bad "check" "slices.go:362"))):=by kernel_rfl
abbrev ecutQ1 (x:ecutT.γ) (x1:Nat):=(↑(atN (EpA.E x) (EpA.slot x) x1):Int)
abbrev ecutQ2 (x2:Nat) (x3:Nat):=IntKind.wrap IntKind.i64 ((↑x2:Int)+(1:Int))=(↑x3:Int)
abbrev ecutQ3 (x3:Nat) (x:ecutT.γ) (x2:Nat):=Nat.le x3 (EpA.E x).length∧
Nat.sub (EpA.E x).length x3<Nat.sub (EpA.E x).length x2
theorem ecut_vc (x:ecutT.γ):evCall ecutE (ev ecutE 1000) 81 (ecutT.args x) ⟨ecutT.blks x,ecutT.n0,[]⟩ (fun _ _=>False) (ecutT.ends x)=(
(EpA.E x).length*32≤room47→
br (decide ((↑(EpA.E x).length:Int)>(0:Int))) ((EpA.E x).length*32≤room47→
(∃x1:Nat,(0:Int)=(↑x1:Int)∧
(0:Int)=ecutQ1 x x1∧
Nat.le x1 (EpA.E x).length)∧
∀x2:Nat,Nat.le x2 (EpA.E x).length→
br (decide ((↑x2:Int)<(↑(EpA.E x).length:Int))) (br (decide ((0:Int)≤(↑x2:Int)∧
(↑x2:Int)<(↑(EpA.E x).length:Int))) (br (decide (0+(↑x2:Int).toNat<(EpA.E x).length)) (br (decide ((List.getD (EpA.E x) (0+(↑x2:Int).toNat) (EpochD.mk (0:Int) ([]:List Int))).from_≤EpA.slot x)) (∃x3:Nat,ecutQ2 x2 x3∧
(↑x2:Int)=ecutQ1 x x3∧
ecutQ3 x3 x x2) (∃x4:Nat,ecutQ2 x2 x4∧
ecutQ1 x x2=ecutQ1 x x4∧
ecutQ3 x4 x x2)) (Bad "check" "epoch.go:72")) (Bad "check" "epoch.go:72")) (br (bndB (EpA.E x).length (Option.some (ecutQ1 x x2)) (none:Option Int) (none:Option Int)) (∃x5:EoA,addN 0 (Option.some (ecutQ1 x x2))=x5.lo∧
cutN (EpA.E x).length (Option.some (ecutQ1 x x2)) (none:Option Int)=x5.E.length-x5.lo∧
EpA.E x=x5.E∧
decide (x5.lo≤x5.E.length)=true∧
∀x6:Unit,True→
∃x7:Unit,EqT (EpA.alpha x) (EpA.alpha x) (List.drop x5.lo x5.E) (cutE (EpA.E x) (EpA.slot x)) True) (Bad "check" "epoch.go:120"))) (∃x8:Unit,EqT (EpA.alpha x) (EpA.alpha x) (EpA.E x) (cutE (EpA.E x) (EpA.slot x)) True)):=by kernel_rfl
theorem upE_step {M:List Int} {i:Nat} (h:i<M.length):upE (lastE M i) (M.drop i)=(decide (lastE M i<M.getD i 0)&&(decide (M.getD i 0<15)&&upE (lastE M (i+1)) (M.drop (i+1)))):=by
  rw [List.drop_eq_getElem_cons h]
  have e:M.getD i 0=M[i]:=by simp [List.getD,h]
  show (decide (lastE M i<M[i])&&(decide (M[i]<15)&&upE M[i] (M.drop (i+1))))=_
  show _=(decide (lastE M i<M.getD i 0)&&(decide (M.getD i 0<15)&&upE (M.getD i 0) (M.drop (i+1))))
  rw [e]
theorem emay_ok:SpecOK Tryz.prog 169 emayT.spec:=by
  refine Tri.ok (E:=emayE) (Env_ok (by decide +kernel) (by simp)) (n:=1000) emayT fun x hx=>?_
  rw [emay_vc]
  delta emayQ3 emayQ2 emayQ1
  clear hx
  revert x
  intro (x:List Int)
  refine fun hl=>br_i (fun h=>⟨(),?_,trivial⟩) fun h1 _=>br_i (fun h=>⟨(),?_,trivial⟩) fun h2 _=>⟨⟨0,rfl,rfl,Nat.zero_le _,rfl⟩,fun i hi=>br_i (fun h3=>?_) (fun h3=>?_)⟩
  · have:=of_decide_eq_true h
    unfold mayE
    rw [decide_eq_false (by omega:¬1≤x.length)];rfl
  · have:=of_decide_eq_true h
    unfold mayE
    rw [decide_eq_false (by omega:¬x.length≤15)];simp
  · have h3:=of_decide_eq_true h3
    have hlt:i<x.length:=by omega
    obtain⟨i1,i2⟩:=hi
    have e0:(i:Int).toNat=i:=rfl
    have hz:(Int.ofNat 0)=(0:Int):=rfl
    have hst:=upE_step hlt
    have h2:=of_decide_eq_false h2
    rw [e0,hz]
    have i2:upE (lastE x i) (x.drop i)=upE (-1) x:=i2
    have hbad:upE (lastE x i) (x.drop i)=false→false=mayE x:=fun e=>by
      unfold mayE
      rw [←i2,e];simp
    refine br_t (decide_eq_true ⟨by omega,h3⟩) (br_i (fun h4=>⟨(),hbad ?_,trivial⟩) fun h4=>br_i (fun h5=>⟨(),hbad ?_,trivial⟩) fun h5=>⟨i+1,by rw [wrap_id (by omega) (by omega)];rfl,rfl,⟨by omega,?_⟩,by show x.length-(i+1)<x.length-i;omega⟩)
    · have h4:=of_decide_eq_true h4
      rw [hst,decide_eq_false (by omega:¬lastE x i<x.getD i 0)];rfl
    · have h5:=of_decide_eq_true h5
      rw [hst,decide_eq_false (by omega:¬x.getD i 0<15)];simp
    · have h4:=of_decide_eq_false h4
      have h5:=of_decide_eq_false h5
      show upE (lastE x (i+1)) (x.drop (i+1))=upE (-1) x
      rw [←i2,hst,decide_eq_true (by omega:lastE x i<x.getD i 0),decide_eq_true (by omega:x.getD i 0<15)];rfl
  · have h3:=of_decide_eq_false h3
    obtain⟨i1,i2⟩:=hi
    have:i=x.length:=by omega
    subst this
    have h1:=of_decide_eq_false h1
    have h2:=of_decide_eq_false h2
    refine⟨(),?_,trivial⟩
    have i2:upE (lastE x x.length) (x.drop x.length)=upE (-1) x:=i2
    rw [List.drop_length] at i2
    unfold mayE
    rw [←i2,decide_eq_true (by omega:1≤x.length),decide_eq_true (by omega:x.length≤15)];rfl
theorem icln_ok:SpecOK Tryz.prog 168 iclnT.spec:=by
  refine Tri.ok (E:=noE) (Env_ok (by decide +kernel) (by simp)) (n:=1000) iclnT fun x hx=>?_
  rw [icln_vc]
  delta iclnQ1
  clear hx
  revert x
  intro (x:List Int)
  refine fun b hb=>br_i (fun h=>⟨(),(hb h).symm,trivial⟩) fun _ h=>br_t ?_ ⟨(),by simp,by simp,trivial⟩
  have h2:x.length*8≤room47:=h.2
  simp only [Nat.zero_add,Bool.true_and,Bool.and_eq_true]
  exact⟨rfl,decide_eq_true h2⟩
theorem atN_lt (E:List EpochD) (slot:Int):∀i,0<i→atN E slot i<i
  | i+1,_=>by
    unfold atN
    cases decide ((E.getD i ⟨0,[]⟩).from_≤slot)
    · rcases Nat.eq_zero_or_pos i with e | e
      · subst e;exact Nat.zero_lt_one
      · have:=atN_lt E slot i e
        show atN E slot i<i+1
        omega
    · show i<i+1
      omega
theorem eown_ok:SpecOK Tryz.prog 151 eownT.spec:=by
  refine Tri.ok (E:=eownE) (Env_ok (by decide +kernel) (by simp [icln_ok])) (n:=1000) eownT fun x hx=>?_
  rw [eown_vc]
  delta eownQ5 eownQ4 eownQ3 eownQ2 eownQ1
  obtain⟨E,lo⟩:=x
  have hx:decide (lo≤E.length)=true:=hx
  have hx:=of_decide_eq_true hx
  dsimp only
  have hd:(List.take (E.length-lo) (List.drop lo E))=E.drop lo:=List.take_of_length_le (by rw [List.length_drop];exact Nat.le_refl _)
  rw [hd]
  simp only [List.take_zero,List.nil_append,Nat.zero_add]
  have hlen:(E.drop lo).length=E.length-lo:=List.length_drop
  rw [hlen]
  refine fun b hb=>br_i (fun h=>?_) fun _ hm=>br_t ?_ fun hr=>⟨⟨0,by trivial,by trivial,Nat.zero_le _⟩,fun i hi=>br_i (fun h3=>?_) (fun h3=>⟨(),by trivial,by trivial,by trivial,by trivial,trivial⟩)⟩
  · have h0:=hb h
    have he:E.drop lo=[]:=List.eq_nil_of_length_eq_zero (by rw [hlen];exact h0)
    rw [he,h0]
    exact⟨⟨(),by trivial,trivial⟩,fun _ _=>⟨(),by trivial,by trivial,by trivial,trivial⟩⟩
  · have hm2:(E.length-lo)*32≤room47:=hm.2
    simp only [Bool.and_eq_true]
    exact⟨⟨decide_eq_true (by omega),rfl⟩,decide_eq_true hm2⟩
  · have h3:=of_decide_eq_true h3
    have hlt:i<E.length-lo:=by omega
    have e0:(i:Int).toNat=i:=rfl
    rw [e0]
    have bi:decide ((0:Int)≤(i:Int)∧(i:Int)<((E.length-lo:Nat):Int))=true:=decide_eq_true ⟨by omega,h3⟩
    have br47:(E.length-lo)*32≤room47:=hr
    have hsm:E.length-lo≤4398046511104:=by unfold room47 at br47;omega
    refine br_t bi (br_t (decide_eq_true hlt) ⟨_,rfl,trivial,fun _ _=>br_t bi (br_t (by rw [Bool.true_and];exact decide_eq_true hlt) ⟨i+1,by rw [wrap_id (by omega) (by omega)];rfl,?_,by show i+1≤_;omega,by show (E.length-lo)-(i+1)<(E.length-lo)-i;omega⟩)⟩)
    exact set_self (d:=⟨0,[]⟩) (by rw [hlen];exact hlt) rfl
theorem eat_step {E:List EpochD} {slot:Int} {i:Nat}:atN E slot (i+1)=bif decide ((E.getD i ⟨0,[]⟩).from_≤slot) then i else atN E slot i:=rfl
theorem ecut_ok:SpecOK Tryz.prog 81 ecutT.spec:=by
  refine Tri.ok (E:=ecutE) (Env_ok (by decide +kernel) (by simp [eown_ok])) (n:=1000) ecutT fun x hx=>?_
  rw [ecut_vc]
  delta ecutQ3 ecutQ2 ecutQ1 EqT
  obtain⟨alpha,E,slot⟩:=x
  have hx:decide (1≤E.length)=true:=hx
  have hx:=of_decide_eq_true hx
  dsimp only
  refine fun hr=>br_i (fun _=>?_) fun h=>absurd (of_decide_eq_false h) (by omega)
  have hsm:E.length≤4398046511104:=by unfold room47 at hr;omega
  refine fun _=>⟨⟨0,rfl,rfl,Nat.zero_le _⟩,fun i hi=>br_i (fun h3=>?_) (fun h3=>?_)⟩
  · have h3:=of_decide_eq_true h3
    have hlt:i<E.length:=by omega
    have e0:0+(i:Int).toNat=i:=by simp
    rw [e0]
    refine br_t (decide_eq_true ⟨by omega,h3⟩) (br_t (decide_eq_true hlt) (br_i (fun h4=>?_) (fun h4=>?_)))
    · exact⟨i+1,by rw [wrap_id (by omega) (by omega)];rfl,by rw [eat_step,h4];rfl,by show i+1≤_;omega,by show E.length-(i+1)<E.length-i;omega⟩
    · exact⟨i+1,by rw [wrap_id (by omega) (by omega)];rfl,by rw [eat_step,h4];rfl,by show i+1≤_;omega,by show E.length-(i+1)<E.length-i;omega⟩
  · have h3:=of_decide_eq_false h3
    have hi:i≤E.length:=hi
    have:i=E.length:=by omega
    subst this
    have hat:=atN_lt E slot E.length (by omega)
    generalize hA:atN E slot E.length=A at hat ⊢
    refine br_t (by simp [bndB];omega) ⟨⟨E,A⟩,by simp [addN,loN],by simp [cutN,loN,hiN],rfl,decide_eq_true (by show A≤E.length;omega),fun _ _=>⟨(),rfl,rfl,?_,?_,trivial⟩⟩
    · unfold cutE;rw [hA]
    · unfold cutE;rw [hA]
end Go.Proofs.YtgepebndihfnfaaGreat.Ses
