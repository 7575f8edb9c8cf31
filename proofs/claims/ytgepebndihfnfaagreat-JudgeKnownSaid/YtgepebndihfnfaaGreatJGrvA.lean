/- The reference for graphs: what the evaluator leaves of each function, and that it holds. No condition. -/
import Derived.Test.YtgepebndihfnfaaGreatJGroB
import Derived.KernelRfl
set_option linter.unusedSimpArgs false
set_option linter.unusedVariables false

namespace Go.Proofs.YtgepebndihfnfaaGreat.Ses
open Go Go.Proofs Go.Proofs.YtgepebndihfnfaaGreat.Sx Go.Proofs.YtgepebndihfnfaaGreat.Trx
noncomputable def rputE:Envr:=Env Tryz.prog cod [(194,placeT.spec)] []
structure Ref2 where
  a:List RefD
  b:List RefD
structure MovS where
  out:List RefD
  put:Bool
def stepR (n:Bs) (v:Int) (s:MovS) (r:RefD):MovS:=
  let o:=bif !s.put && !(Op.bytesLess r.name n) then s.out++[⟨n,v⟩] else s.out
  ⟨bif r.name==n then o else o++[r],s.put || !(Op.bytesLess r.name n)⟩
def foldR (n:Bs) (v:Int) (R:List RefD):MovS:=R.foldl (stepR n v) ⟨[],false⟩
def moveR (R:List RefD) (n:Bs) (v:Int):List RefD:=bif (foldR n v R).put then (foldR n v R).out else (foldR n v R).out++[⟨n,v⟩]
structure MovA where
  C:List CommitD
  L:List LeafD
  R:List RefD
  n:Bs
  v:Int
noncomputable def rsrtT:Tri:={γ:=List ChangeD,n0:=0,args:=fun l=>[.rslice false .change l],blks:=fun _=>[],pre:=fun l=>shortC l=true∧fewX l=true,δ:=Unit,post:=fun _ _=>True,n1:=0,res:=fun l _=>.rslice false .change (insS l),blks':=fun _ _=>[],scal:=false}
def refsR (C:List CommitD):List RefD:=C.foldl (fun R c=>bif c.ref==[] then R else moveR R c.ref c.rev) []
abbrev EqR6 {α β γ:Type} (C D:List α) (L M:List β) (R S:List γ) (P:Prop):Prop:=0=0∧C.length=D.length∧0=0∧L.length=M.length∧0=0∧R.length=S.length∧C=D∧L=M∧R=S∧P
abbrev EqR (C D:List CommitD) (P:Prop):Prop:=EqR6 C D (rowC C) (rowC D) (refsR C) (refsR D) P
def putsL (T:List LeafD) (l:List LeafD):List LeafD:=l.foldl (fun T x=>insL x T) T
def shortM (C:List CommitD):Bool:=C.all fun c=>shortC c.changes
structure RRdA where
  C:List CommitD
  L:List LeafD
  R:List RefD
  p:Bs
def rargs (C:List CommitD) (L:List LeafD) (R:List RefD):SV:=.agg [.mslice .commit 0 0 C.length,.mslice .leaf 1 0 L.length,.mslice .ref 2 0 R.length]
def rrows (C:List CommitD) (L:List LeafD) (R:List RefD):Blks:=[(0,.rows .commit C),(1,.rows .leaf L),(2,.rows .ref R)]
def readL (L:List LeafD) (p:Bs):VerdictD:=
  bif !(normB p==some p) then ⟨5,0,0,[],0,[],0⟩ else match getL p L with
    | none=>⟨10,0,0,p,0,[],0⟩
    | some y=>bif y.gone then ⟨10,0,0,p,0,[],0⟩ else ⟨9,0,y.rev,p,y.digest,[],0⟩
noncomputable def rreadT:Tri:={γ:=RRdA,n0:=3,args:=fun x=>[rargs x.C x.L x.R,.str x.p],blks:=fun x=>rrows x.C x.L x.R,pre:=fun x=>shortB x.p=true∧shortLf x.L=true,δ:=Unit,post:=fun _ _=>True,n1:=0,res:=fun x _=>.agg (readL x.L x.p).enc,blks':=fun x _=>rrows x.C x.L x.R,scal:=false}
noncomputable def rreadE:Envr:=Env Tryz.prog cod [(156,normalT.spec),(135,rgetT.spec)] []
structure RLgA where
  C:List CommitD
  L:List LeafD
  R:List RefD
  frm:Int
  many:Int
noncomputable def rlogT:Tri:={γ:=RLgA,n0:=3,args:=fun x=>[rargs x.C x.L x.R,.int .i64 x.frm,.int .i64 x.many],blks:=fun x=>rrows x.C x.L x.R,pre:=fun x=>fewG x.C=true∧inI x.frm=true,δ:=Unit,post:=fun _ _=>True,n1:=0,res:=fun x _=>.agg (logV ⟨x.C,x.frm,x.many⟩).enc,blks':=fun x _=>rrows x.C x.L x.R,scal:=false}
noncomputable def rlogI:St→LInv:=fun s=>match getE s.env 1,getE s.env 2,getE s.env 3 with
  | .int _ frm,.int _ many,.mptr q _=>(match s.m.blks.get q with
    | some (.cells [.mslice _ n _ _,_,_])=>(match s.m.blks.get n with
      | some (.rows .commit C)=>{σ:=Nat,I:=fun k=>(((C.drop (frm-1).toNat).take k).length=k∧k≤32∧(k:Int)≤many),μ:=fun k=>33-k,env:=fun k=>[(8,.int .i64 (frm-1+k)),(7,.mslice .commit s.m.next 0 ((C.drop (frm-1).toNat).take k).length)],blk:=fun k=>[(s.m.next,.rows .commit ((C.drop (frm-1).toNat).take k))],fresh:=1,drop:=[]}
      | _=>LInv.none)
    | _=>LInv.none)
  | _,_,_=>LInv.none
noncomputable def rlogE:Envr:=Env Tryz.prog cod [] [(5,rlogI)]
set_option maxRecDepth 100000
abbrev placeQ1 (x1:Nat) (x:placeT.γ):=x1≤(LeaP.l x).length∧
(placeL (LeaP.p x) (List.drop x1 (LeaP.l x))).1+x1=(placeL (LeaP.p x) (LeaP.l x)).1∧
(placeL (LeaP.p x) (List.drop x1 (LeaP.l x))).2=(placeL (LeaP.p x) (LeaP.l x)).2
theorem place_vc (x:placeT.γ):evCall placeE (ev placeE 1000) 194 (placeT.args x) ⟨placeT.blks x,placeT.n0,[]⟩ (fun _ _=>False) (placeT.ends x)=(
(∃x1:Nat,(0:Int)=(↑x1:Int)∧
placeQ1 x1 x)∧
∀x2:Nat,placeQ1 x2 x→
(LeaP.l x).length*40≤room47→
br (decide ((↑x2:Int)<(↑(LeaP.l x).length:Int))) (br (decide ((0:Int)≤(↑x2:Int)∧
(↑x2:Int)<(↑(LeaP.l x).length:Int))) (∃x3:TwoA,LeaP.p x=x3.a∧
(List.getD (LeaP.l x) (↑x2:Int).toNat (LeafD.mk ([]:List UInt8) (0:Int) (0:Int) false)).path=x3.b∧
(shortB x3.a=true∧
shortB x3.b=true)∧
∀x4:Unit,True→
br (cmpL (splitB x3.a) (splitB x3.b)==(0:Int)) (∃x5:Unit,(↑x2:Int)=(↑(placeL (LeaP.p x) (LeaP.l x)).1:Int)∧
true=(placeL (LeaP.p x) (LeaP.l x)).2∧
True) (br (decide (cmpL (splitB x3.a) (splitB x3.b)<(0:Int))) (∃x6:Unit,(↑x2:Int)=(↑(placeL (LeaP.p x) (LeaP.l x)).1:Int)∧
false=(placeL (LeaP.p x) (LeaP.l x)).2∧
True) (∃x7:Nat,IntKind.wrap IntKind.i64 ((↑x2:Int)+(1:Int))=(↑x7:Int)∧
placeQ1 x7 x∧
Nat.sub (LeaP.l x).length x7<Nat.sub (LeaP.l x).length x2))) (Bad "check" "ref.go:15")) ((LeaP.l x).length*40≤room47→
∃x8:Unit,(↑(LeaP.l x).length:Int)=(↑(placeL (LeaP.p x) (LeaP.l x)).1:Int)∧
false=(placeL (LeaP.p x) (LeaP.l x)).2∧
True)):=by kernel_rfl
abbrev rputQ1 (x1:LeaP):=Option.some (↑(placeL x1.p x1.l).1:Int)
abbrev rputQ2 (x:rputT.γ) (x1:LeaP):=0+(@cutL LeafD (LeaX.l x) (none:Option Int) (rputQ1 x1)).length
abbrev rputQ3 (x:rputT.γ):=[LeafD.mk (LeaX.x x).path (LeaX.x x).digest (LeaX.x x).rev (LeaX.x x).gone]
abbrev rputQ4 (x:rputT.γ) (x1:LeaP):=@HAppend.hAppend (List LeafD) (List LeafD) (List LeafD) _ (List.take 0 (List.drop 0 ([]:List LeafD))) (@cutL LeafD (LeaX.l x) (none:Option Int) (rputQ1 x1))
abbrev rputQ5 (x:rputT.γ) (x1:LeaP):=rputQ2 x x1+(List.take 1 (List.drop 0 (rputQ3 x))).length
abbrev rputQ6 (x1:LeaP):=Option.some (IntKind.wrap IntKind.i64 ((↑(placeL x1.p x1.l).1:Int)+(1:Int)))
abbrev rputQ7 (x:rputT.γ) (x1:LeaP):=@HAppend.hAppend (List LeafD) (List LeafD) (List LeafD) _ (List.take (rputQ2 x x1) (List.drop 0 (rputQ4 x x1))) (List.take 1 (List.drop 0 (rputQ3 x)))
abbrev rputQ8 (x:rputT.γ) (x1:LeaP):=rputQ5 x x1+(@cutL LeafD (LeaX.l x) (rputQ6 x1) (none:Option Int)).length
abbrev rputQ9 (x:rputT.γ) (x1:LeaP):=rputQ5 x x1+(@cutL LeafD (LeaX.l x) (rputQ1 x1) (none:Option Int)).length
theorem rput_vc (x:rputT.γ):evCall rputE (ev rputE 1000) 136 (rputT.args x) ⟨rputT.blks x,rputT.n0,[]⟩ (fun _ _=>False) (rputT.ends x)=(
∃x1:LeaP,LeaX.l x=x1.l∧
(LeaX.x x).path=x1.p∧
(shortLf x1.l=true∧
shortB x1.p=true)∧
∀x2:Unit,True→
br (bndB (LeaX.l x).length (none:Option Int) (rputQ1 x1) (none:Option Int)) (Nat.le (0*40) room47∧
Nat.le ((@cutL LeafD (LeaX.l x) (none:Option Int) (rputQ1 x1)).length*40) room47→
br (Bool.and (Bool.and true (decide (0+0≤([]:List LeafD).length))) (decide (rputQ2 x x1*40≤room47))) (Nat.le (rputQ2 x x1*40) room47∧
Nat.le (1*40) room47→
br (Bool.and (Bool.and (decide (0+1≤(rputQ3 x).length)) (decide (0+rputQ2 x x1≤(rputQ4 x x1).length))) (decide (rputQ5 x x1*40≤room47))) (br (placeL x1.p x1.l).2 (br (bndB (LeaX.l x).length (rputQ6 x1) (none:Option Int) (none:Option Int)) (Nat.le (rputQ5 x x1*40) room47∧
Nat.le ((@cutL LeafD (LeaX.l x) (rputQ6 x1) (none:Option Int)).length*40) room47→
br (Bool.and (Bool.and true (decide (0+rputQ5 x x1≤(rputQ7 x x1).length))) (decide (rputQ8 x x1*40≤room47))) (∃x3:Unit,0=0∧
rputQ8 x x1=(insL (LeaX.x x) (LeaX.l x)).length∧
@HAppend.hAppend (List LeafD) (List LeafD) (List LeafD) _ (List.take (rputQ5 x x1) (List.drop 0 (rputQ7 x x1))) (@cutL LeafD (LeaX.l x) (rputQ6 x1) (none:Option Int))=insL (LeaX.x x) (LeaX.l x)∧
True) (Bad "check" "ref.go:34")) (Bad "check" "ref.go:34")) (br (bndB (LeaX.l x).length (rputQ1 x1) (none:Option Int) (none:Option Int)) (Nat.le (rputQ5 x x1*40) room47∧
Nat.le ((@cutL LeafD (LeaX.l x) (rputQ1 x1) (none:Option Int)).length*40) room47→
br (Bool.and (Bool.and true (decide (0+rputQ5 x x1≤(rputQ7 x x1).length))) (decide (rputQ9 x x1*40≤room47))) (∃x4:Unit,0=0∧
rputQ9 x x1=(insL (LeaX.x x) (LeaX.l x)).length∧
@HAppend.hAppend (List LeafD) (List LeafD) (List LeafD) _ (List.take (rputQ5 x x1) (List.drop 0 (rputQ7 x x1))) (@cutL LeafD (LeaX.l x) (rputQ1 x1) (none:Option Int))=insL (LeaX.x x) (LeaX.l x)∧
True) (Bad "check" "ref.go:34")) (Bad "check" "ref.go:34"))) (Bad "check" "ref.go:30")) (Bad "check" "ref.go:29")) (Bad "check" "ref.go:29")):=by kernel_rfl
abbrev rgetQ1  := LeafD.mk ([]:List UInt8) (0:Int) (0:Int) false
abbrev rgetQ2 (x:rgetT.γ):=Option.getD (getL (LeaP.p x) (LeaP.l x)) rgetQ1
abbrev rgetQ3 (x1:LeaP):=(↑(placeL x1.p x1.l).1:Int)
abbrev rgetQ4 (x:rgetT.γ) (x1:LeaP):=List.getD (LeaP.l x) (rgetQ3 x1).toNat rgetQ1
theorem rget_vc (x:rgetT.γ):evCall rputE (ev rputE 1000) 135 (rgetT.args x) ⟨rgetT.blks x,rgetT.n0,[]⟩ (fun _ _=>False) (rgetT.ends x)=(
∃x1:LeaP,LeaP.l x=x1.l∧
LeaP.p x=x1.p∧
(shortLf x1.l=true∧
shortB x1.p=true)∧
∀x2:Unit,True→
br (placeL x1.p x1.l).2.not (∃x3:Unit,([]:List UInt8)=(rgetQ2 x).path∧
(0:Int)=(rgetQ2 x).digest∧
(0:Int)=(rgetQ2 x).rev∧
false=(rgetQ2 x).gone∧
false=(getL (LeaP.p x) (LeaP.l x)).isSome∧
True) (br (decide ((0:Int)≤rgetQ3 x1∧
rgetQ3 x1<(↑(LeaP.l x).length:Int))) (∃x4:Unit,(rgetQ4 x x1).path=(rgetQ2 x).path∧
(rgetQ4 x x1).digest=(rgetQ2 x).digest∧
(rgetQ4 x x1).rev=(rgetQ2 x).rev∧
(rgetQ4 x x1).gone=(rgetQ2 x).gone∧
true=(getL (LeaP.p x) (LeaP.l x)).isSome∧
True) (Bad "check" "ref.go:43"))):=by kernel_rfl
abbrev rsrtQ1 (x1:Nat) (x:rsrtT.γ):=(insS (List.take x1 x)).length
abbrev rsrtQ2  := ChangeD.mk ([]:List UInt8) false (0:Int)
abbrev rsrtQ3 (x:rsrtT.γ) (x2:Nat):=List.getD x (↑x2:Int).toNat rsrtQ2
abbrev rsrtQ4 (x3:Nat) (x2:Nat) (x:rsrtT.γ):=x3≤rsrtQ1 x2 x∧
∀x4:Nat,x3≤x4→
x4<rsrtQ1 x2 x→
cmpC (rsrtQ3 x x2) (List.getD (insS (List.take x2 x)) x4 rsrtQ2)<(0:Int)
abbrev rsrtQ5 (x5:Nat):=IntKind.wrap IntKind.i64 ((↑x5:Int)-(1:Int))
abbrev rsrtQ6 (x2:Nat) (x:rsrtT.γ):=decide ((0:Int)≤(↑x2:Int)∧
(↑x2:Int)<(↑(List.length x):Int))
abbrev rsrtQ7 (x2:Nat) (x:rsrtT.γ) (x5:Nat):=cutN (rsrtQ1 x2 x) (none:Option Int) (Option.some (↑x5:Int))
abbrev rsrtQ8 (x2:Nat) (x:rsrtT.γ) (x5:Nat):=List.take (rsrtQ7 x2 x x5) (List.drop (addN 0 (none:Option Int)) (insS (List.take x2 x)))
abbrev rsrtQ9 (x:rsrtT.γ) (x2:Nat):=[ChangeD.mk (rsrtQ3 x x2).path (rsrtQ3 x x2).gone (rsrtQ3 x x2).digest]
abbrev rsrtQ10 (x2:Nat) (x:rsrtT.γ) (x5:Nat):=@HAppend.hAppend (List ChangeD) (List ChangeD) (List ChangeD) _ (List.take 0 (List.drop 0 ([]:List ChangeD))) (rsrtQ8 x2 x x5)
abbrev rsrtQ11 (x2:Nat) (x:rsrtT.γ) (x5:Nat):=0+(rsrtQ8 x2 x x5).length+(List.take 1 (List.drop 0 (rsrtQ9 x x2))).length
abbrev rsrtQ12 (x2:Nat) (x:rsrtT.γ) (x5:Nat):=cutN (rsrtQ1 x2 x) (Option.some (↑x5:Int)) (none:Option Int)
abbrev rsrtQ13 (x2:Nat) (x:rsrtT.γ) (x5:Nat):=@HAppend.hAppend (List ChangeD) (List ChangeD) (List ChangeD) _ (List.take (0+(rsrtQ8 x2 x x5).length) (List.drop 0 (rsrtQ10 x2 x x5))) (List.take 1 (List.drop 0 (rsrtQ9 x x2)))
abbrev rsrtQ14 (x2:Nat) (x:rsrtT.γ) (x5:Nat):=List.take (rsrtQ12 x2 x x5) (List.drop (addN 0 (Option.some (↑x5:Int))) (insS (List.take x2 x)))
abbrev rsrtQ15 (x2:Nat) (x:rsrtT.γ) (x5:Nat):=br (bndB (rsrtQ1 x2 x) (none:Option Int) (Option.some (↑x5:Int)) (none:Option Int)) (Nat.le (0*32) room47∧
Nat.le (rsrtQ7 x2 x x5*32) room47→
br (Bool.and (Bool.and (decide (addN 0 (none:Option Int)+rsrtQ7 x2 x x5≤rsrtQ1 x2 x)) (decide (0+0≤([]:List ChangeD).length))) (decide ((0+(rsrtQ8 x2 x x5).length)*32≤room47))) (br (rsrtQ6 x2 x) (Nat.le ((0+(rsrtQ8 x2 x x5).length)*32) room47∧
Nat.le (1*32) room47→
br (Bool.and (Bool.and (decide (0+1≤(rsrtQ9 x x2).length)) (decide (0+(0+(rsrtQ8 x2 x x5).length)≤(rsrtQ10 x2 x x5).length))) (decide (rsrtQ11 x2 x x5*32≤room47))) (br (bndB (rsrtQ1 x2 x) (Option.some (↑x5:Int)) (none:Option Int) (none:Option Int)) (Nat.le (rsrtQ11 x2 x x5*32) room47∧
Nat.le (rsrtQ12 x2 x x5*32) room47→
br (Bool.and (Bool.and (decide (addN 0 (Option.some (↑x5:Int))+rsrtQ12 x2 x x5≤rsrtQ1 x2 x)) (decide (0+rsrtQ11 x2 x x5≤(rsrtQ13 x2 x x5).length))) (decide ((rsrtQ11 x2 x x5+(rsrtQ14 x2 x x5).length)*32≤room47))) (∃x11:Nat,IntKind.wrap IntKind.i64 ((↑x2:Int)+(1:Int))=(↑x11:Int)∧
0=0∧
rsrtQ11 x2 x x5+(rsrtQ14 x2 x x5).length=rsrtQ1 x11 x∧
@HAppend.hAppend (List ChangeD) (List ChangeD) (List ChangeD) _ (List.take (rsrtQ11 x2 x x5) (List.drop 0 (rsrtQ13 x2 x x5))) (rsrtQ14 x2 x x5)=insS (List.take x11 x)∧
Nat.le x11 (List.length x)∧
Nat.sub (List.length x) x11<Nat.sub (List.length x) x2) (Bad "check" "ref.go:107")) (Bad "check" "ref.go:107")) (Bad "check" "ref.go:106")) (Bad "check" "ref.go:106")) (Bad "check" "ref.go:105")) (Bad "check" "ref.go:105")
theorem rsrt_vc (x:rsrtT.γ):evCall rsortE (ev rsortE 1000) 134 (rsrtT.args x) ⟨rsrtT.blks x,rsrtT.n0,[]⟩ (fun _ _=>False) (rsrtT.ends x)=(
(∃x1:Nat,(0:Int)=(↑x1:Int)∧
0=rsrtQ1 x1 x∧
([]:List ChangeD)=insS (List.take x1 x)∧
Nat.le x1 (List.length x))∧
∀x2:Nat,Nat.le x2 (List.length x)→
List.length x*32≤room47→
br (decide ((↑x2:Int)<(↑(List.length x):Int))) (rsrtQ1 x2 x*32≤room47→
(∃x3:Nat,(↑(rsrtQ1 x2 x):Int)=(↑x3:Int)∧
rsrtQ4 x3 x2 x)∧
∀x5:Nat,rsrtQ4 x5 x2 x→
br (decide ((↑x5:Int)>(0:Int))) (br (decide ((0:Int)≤rsrtQ5 x5∧
rsrtQ5 x5<(↑(rsrtQ1 x2 x):Int))) (br (decide (0+(rsrtQ5 x5).toNat<rsrtQ1 x2 x)) (br (rsrtQ6 x2 x) (∃x7:TwoA,(List.getD (insS (List.take x2 x)) (0+(rsrtQ5 x5).toNat) rsrtQ2).path=x7.a∧
(rsrtQ3 x x2).path=x7.b∧
(shortB x7.a=true∧
shortB x7.b=true)∧
∀x8:Unit,True→
br (decide (cmpL (splitB x7.a) (splitB x7.b)>(0:Int))) (∃x9:Nat,rsrtQ5 x5=(↑x9:Int)∧
rsrtQ4 x9 x2 x∧
x9<x5) (rsrtQ15 x2 x x5)) (Bad "check" "ref.go:102")) (Bad "check" "ref.go:102")) (Bad "check" "ref.go:102")) (rsrtQ15 x2 x x5)) (∃x13:Unit,0+rsrtQ1 x2 x≤rsrtQ1 x2 x∧
List.take (rsrtQ1 x2 x) (List.drop 0 (insS (List.take x2 x)))=insS x∧
True)):=by kernel_rfl
set_option maxRecDepth 100000
abbrev rreadQ1 (x:rreadT.γ):=RRdA.C x=RRdA.C x∧
RRdA.L x=RRdA.L x∧
RRdA.R x=RRdA.R x∧
True
abbrev rreadQ2 (x:rreadT.γ):=∃x3:Unit,EqV7 (5:Int) (0:Int) (0:Int) ([]:List UInt8) (0:Int) ([]:List CommitD) (0:Int) (readL (RRdA.L x) (RRdA.p x)) (rreadQ1 x)
abbrev rreadQ3 (x:rreadT.γ):=∃x7:Unit,EqV7 (10:Int) (0:Int) (0:Int) (RRdA.p x) (0:Int) ([]:List CommitD) (0:Int) (readL (RRdA.L x) (RRdA.p x)) (rreadQ1 x)
abbrev rreadQ4 (x5:LeaP):=Option.getD (getL x5.p x5.l) (LeafD.mk ([]:List UInt8) (0:Int) (0:Int) false)
theorem rread_vc (x:rreadT.γ):evCall rreadE (ev rreadE 1000) 96 (rreadT.args x) ⟨rreadT.blks x,rreadT.n0,[]⟩ (fun _ _=>False) (rreadT.ends x)=(
∃x1:(List UInt8),RRdA.p x=x1∧
shortB x1=true∧
∀x2:Unit,True→
br (normB x1).isSome.not (rreadQ2 x) (br (Option.getD (normB x1) ([]:List UInt8)==RRdA.p x).not (rreadQ2 x) (∃x5:LeaP,0+(RRdA.L x).length≤(RRdA.L x).length∧
List.take (RRdA.L x).length (List.drop 0 (RRdA.L x))=x5.l∧
RRdA.p x=x5.p∧
(shortLf x5.l=true∧
shortB x5.p=true)∧
∀x6:Unit,True→
br (getL x5.p x5.l).isSome.not (rreadQ3 x) (br (rreadQ4 x5).gone (rreadQ3 x) (∃x9:Unit,EqV7 (9:Int) (0:Int) (rreadQ4 x5).rev (RRdA.p x) (rreadQ4 x5).digest ([]:List CommitD) (0:Int) (readL (RRdA.L x) (RRdA.p x)) (rreadQ1 x)))))):=by kernel_rfl
abbrev rlogQ1 (x:rlogT.γ):=logV (LogA.mk (RLgA.C x) (RLgA.frm x) (RLgA.many x))
abbrev rlogQ2 (x:rlogT.γ):=RLgA.C x=RLgA.C x∧
RLgA.L x=RLgA.L x∧
RLgA.R x=RLgA.R x∧
True
abbrev rlogQ3 (x:rlogT.γ):=∃x1:Unit,EqV7 (5:Int) (0:Int) (0:Int) ([]:List UInt8) (0:Int) ([]:List CommitD) (0:Int) (rlogQ1 x) (rlogQ2 x)
abbrev rlogQ4 (x:rlogT.γ) (x3:Nat):=RLgA.frm x-(1:Int)+(↑x3:Int)
abbrev rlogQ5 (x3:Nat) (x:rlogT.γ):=List.take x3 (List.drop (RLgA.frm x-(1:Int)).toNat (RLgA.C x))
abbrev rlogQ6 (x3:Nat) (x:rlogT.γ):=(rlogQ5 x3 x).length=x3∧
x3≤32∧
(↑x3:Int)≤RLgA.many x
abbrev rlogQ7 (x:rlogT.γ) (x4:Nat):=List.getD (RLgA.C x) (0+(rlogQ4 x x4).toNat) (CommitD.mk (0:Int) (0:Int) ([]:List UInt8) ([]:List ChangeD))
abbrev rlogQ8 (x:rlogT.γ) (x4:Nat):=@HAppend.hAppend (List ChangeD) (List ChangeD) (List ChangeD) _ (List.take 0 (List.drop 0 ([]:List ChangeD))) (rlogQ7 x x4).changes
abbrev rlogQ9 (x:rlogT.γ) (x4:Nat):=[CommitD.mk (rlogQ7 x x4).rev (rlogQ7 x x4).base (rlogQ7 x x4).ref (List.take (0+(rlogQ7 x x4).changes.length) (List.drop 0 (rlogQ8 x x4)))]
abbrev rlogQ10 (x4:Nat) (x:rlogT.γ):=(rlogQ5 x4 x).length+(List.take 1 (List.drop 0 (rlogQ9 x x4))).length
abbrev rlogQ11 (x:rlogT.γ) (x4:Nat):=∃x6:Unit,(11:Int)=(rlogQ1 x).code∧
(0:Int)=(rlogQ1 x).session∧
(0:Int)=(rlogQ1 x).rev∧
([]:List UInt8)=(rlogQ1 x).path∧
(0:Int)=(rlogQ1 x).digest∧
0+(rlogQ5 x4 x).length≤(rlogQ5 x4 x).length∧
List.take (rlogQ5 x4 x).length (List.drop 0 (rlogQ5 x4 x))=(rlogQ1 x).commits∧
(0:Int)=(rlogQ1 x).member∧
rlogQ2 x
theorem rlog_vc (x:rlogT.γ):evCall rlogE (ev rlogE 1000) 97 (rlogT.args x) ⟨rlogT.blks x,rlogT.n0,[]⟩ (fun _ _=>False) (rlogT.ends x)=(
br (decide (RLgA.frm x<(1:Int))) (rlogQ3 x) (br (decide (RLgA.many x<(1:Int))) (rlogQ3 x) ((∃x3:Nat,IntKind.wrap IntKind.i64 (RLgA.frm x-(1:Int))=rlogQ4 x x3∧
0=(rlogQ5 x3 x).length∧
([]:List CommitD)=rlogQ5 x3 x∧
rlogQ6 x3 x)∧
∀x4:Nat,rlogQ6 x4 x→
(RLgA.C x).length*56≤room47→
br (decide (rlogQ4 x x4<(↑(RLgA.C x).length:Int))) ((rlogQ5 x4 x).length*56≤room47→
br (decide ((↑(rlogQ5 x4 x).length:Int)<RLgA.many x)) ((rlogQ5 x4 x).length*56≤room47→
br (decide ((↑(rlogQ5 x4 x).length:Int)<(32:Int))) (br (decide ((0:Int)≤rlogQ4 x x4∧
rlogQ4 x x4<(↑(RLgA.C x).length:Int))) (br (decide (0+(rlogQ4 x x4).toNat<(RLgA.C x).length)) (Nat.le (0*32) room47∧
Nat.le ((rlogQ7 x x4).changes.length*32) room47→
br (Bool.and (Bool.and true (decide (0+0≤([]:List ChangeD).length))) (decide ((0+(rlogQ7 x x4).changes.length)*32≤room47))) (br (Bool.and (decide (0+(0+(rlogQ7 x x4).changes.length)≤(rlogQ8 x x4).length)) true) (Nat.le ((rlogQ5 x4 x).length*56) room47∧
Nat.le (1*56) room47→
br (Bool.and (Bool.and (decide (0+1≤(rlogQ9 x x4).length)) (decide (0+(rlogQ5 x4 x).length≤(rlogQ5 x4 x).length))) (decide (rlogQ10 x4 x*56≤room47))) (∃x5:Nat,IntKind.wrap IntKind.i64 (rlogQ4 x x4+(1:Int))=rlogQ4 x x5∧
0=0∧
rlogQ10 x4 x=(rlogQ5 x5 x).length∧
@HAppend.hAppend (List CommitD) (List CommitD) (List CommitD) _ (List.take (rlogQ5 x4 x).length (List.drop 0 (rlogQ5 x4 x))) (List.take 1 (List.drop 0 (rlogQ9 x x4)))=rlogQ5 x5 x∧
rlogQ6 x5 x∧
Nat.sub 33 x5<Nat.sub 33 x4) (Bad "check" "ref.go:241")) (Bad "check" "ref.go:241")) (Bad "check" "ref.go:140")) (Bad "check" "ref.go:241")) (Bad "check" "ref.go:241")) (rlogQ11 x x4)) (rlogQ11 x x4)) (rlogQ11 x x4)))):=by kernel_rfl
abbrev noR:RefD:=⟨[],0⟩
def riseR (R:List RefD):Prop:=R.Pairwise fun a b=>a.name<b.name
theorem lt_of_not {a b:Bs} (h:¬a<b):b=a∨b<a:=by
  rcases List.le_iff_lt_or_eq.1 (List.not_lt.1 h) with h | h
  · exact .inr h
  · exact .inl h
theorem foldR_low {n:Bs} {v:Int}:∀(R:List RefD),(∀r,r∈R→r.name<n) → ∀s:MovS,s.put=false→R.foldl (stepR n v) s=⟨s.out++R,false⟩
  | [],_,s,h=>by cases s;simp at h;simp [h]
  | r::R,h,s,hs=>by
    have h1:r.name<n:=h r (by simp)
    have e:stepR n v s r=⟨s.out++[r],false⟩:=by
      unfold stepR
      have hb:Op.bytesLess r.name n=true:=by rw [bytesLess_eq,decide_eq_true_eq];exact h1
      have hne:(r.name==n)=false:=by
        rw [Bool.eq_false_iff];intro e;rw [beq_iff_eq.1 e] at h1;exact List.lt_irrefl _ h1
      rw [hb,hne,hs];rfl
    rw [List.foldl_cons,e,foldR_low R (fun x hx=>h x (by simp [hx])) _ rfl]
    simp
theorem foldR_high {n:Bs} {v:Int}:∀(R:List RefD),(∀r,r∈R→n<r.name) → ∀s:MovS,s.put=true→R.foldl (stepR n v) s=⟨s.out++R,true⟩
  | [],_,s,h=>by cases s;simp at h;simp [h]
  | r::R,h,s,hs=>by
    have h1:n<r.name:=h r (by simp)
    have e:stepR n v s r=⟨s.out++[r],true⟩:=by
      unfold stepR
      have hne:(r.name==n)=false:=by
        rw [Bool.eq_false_iff];intro e;rw [beq_iff_eq.1 e] at h1;exact List.lt_irrefl _ h1
      rw [hne,hs];rfl
    rw [List.foldl_cons,e,foldR_high R (fun x hx=>h x (by simp [hx])) _ rfl]
    simp
def insRf (n:Bs) (v:Int):List RefD→List RefD
  | []=>[⟨n,v⟩]
  | r::R=>bif Op.bytesLess r.name n then r::insRf n v R else bif r.name==n then ⟨n,v⟩::R else ⟨n,v⟩::r::R
theorem move_split {n:Bs} {v:Int} {A B:List RefD} (hA:∀r,r∈A→r.name<n) (s:RefD) (hs:¬s.name<n) (hB:∀r,r∈B→s.name<r.name) :
    moveR (A++s::B) n v=A++(bif s.name==n then ⟨n,v⟩::B else ⟨n,v⟩::s::B):=by
  have hlt:∀r,r∈B→n<r.name:=fun r hr=>by
    rcases lt_of_not hs with h | h
    · rw [h];exact hB r hr
    · exact List.lt_trans h (hB r hr)
  have hb:Op.bytesLess s.name n=false:=by rw [bytesLess_eq,decide_eq_false_iff_not];exact hs
  have e:foldR n v (A++s::B)=⟨A++(bif s.name==n then ⟨n,v⟩::B else ⟨n,v⟩::s::B),true⟩:=by
    unfold foldR
    rw [List.foldl_append,foldR_low A hA _ rfl,List.foldl_cons,foldR_high B hlt _ (by unfold stepR;rw [hb];rfl)]
    unfold stepR
    rw [hb]
    cases (s.name==n)<;>simp
  unfold moveR
  rw [e];rfl
theorem move_ins {n:Bs} {v:Int}:∀ {R:List RefD},riseR R→moveR R n v=insRf n v R:=by
  have key:∀(R A:List RefD),riseR (A++R)→(∀r,r∈A→r.name<n)→moveR (A++R) n v=A++insRf n v R:=by
    intro R
    induction R with
    | nil=>
      intro A _ hA
      have e:foldR n v A=⟨A,false⟩:=by
        unfold foldR
        rw [foldR_low A hA _ rfl];simp
      unfold moveR
      rw [List.append_nil,e];rfl
    | cons s B ih=>
      intro A hr hA
      by_cases h:s.name<n
      · have hb:Op.bytesLess s.name n=true:=by rw [bytesLess_eq,decide_eq_true_eq];exact h
        have:=ih (A++[s]) (by simpa using hr) (fun r hx=>by
          rcases List.mem_append.1 hx with hx | hx
          · exact hA r hx
          · have:r=s:=by simpa using hx
            rw [this];exact h)
        unfold insRf
        rw [hb]
        simpa using this
      · have hb:Op.bytesLess s.name n=false:=by rw [bytesLess_eq,decide_eq_false_iff_not];exact h
        have hB:=(List.pairwise_cons.1 (List.pairwise_append.1 hr).2.1).1
        rw [move_split hA s h hB]
        unfold insRf
        rw [hb]
        rfl
  intro R hR
  exact key R [] hR (by simp)
theorem insRf_mem {n:Bs} {v:Int}:∀ {R:List RefD},riseR R → ∀x,x∈insRf n v R↔x=⟨n,v⟩∨(x∈R∧x.name≠n)
  | [],_,x=>by simp [insRf]
  | r::R,h,x=>by
    have hp:=List.pairwise_cons.1 h
    have ih:=insRf_mem (n:=n) (v:=v) hp.2 x
    unfold insRf
    cases hb:Op.bytesLess r.name n
    · rw [bytesLess_eq,decide_eq_false_iff_not] at hb
      have hhi:∀y,y∈R→y.name≠n:=fun y hy e=>by
        have h1:=hp.1 y hy
        rw [e] at h1
        exact hb h1
      cases he:(r.name==n)
      · have he:r.name≠n:=by simpa using he
        simp only [cond_false,List.mem_cons]
        constructor
        · rintro (h | h | h)
          · exact .inl h
          · exact .inr ⟨.inl h,by rw [h];exact he⟩
          · exact .inr ⟨.inr h,hhi x h⟩
        · rintro (h | ⟨h | h,_⟩)
          · exact .inl h
          · exact .inr (.inl h)
          · exact .inr (.inr h)
      · have he:=beq_iff_eq.1 he
        simp only [cond_false,cond_true,List.mem_cons]
        constructor
        · rintro (h | h)
          · exact .inl h
          · exact .inr ⟨.inr h,hhi x h⟩
        · rintro (h | ⟨h | h,h2⟩)
          · exact .inl h
          · rw [h] at h2;exact absurd he h2
          · exact .inr h
    · rw [bytesLess_eq,decide_eq_true_eq] at hb
      simp only [cond_true,List.mem_cons,ih]
      have hne:r.name≠n:=fun e=>by rw [e] at hb;exact List.lt_irrefl _ hb
      constructor
      · rintro (h | h | ⟨h,h2⟩)
        · exact .inr ⟨.inl h,by rw [h];exact hne⟩
        · exact .inl h
        · exact .inr ⟨.inr h,h2⟩
      · rintro (h | ⟨h | h,h2⟩)
        · exact .inr (.inl h)
        · exact .inl h
        · exact .inr (.inr ⟨h,h2⟩)
theorem insRf_rise {n:Bs} {v:Int}:∀ {R:List RefD},riseR R→riseR (insRf n v R)
  | [],_=>by simp [insRf,riseR]
  | r::R,h=>by
    have hp:=List.pairwise_cons.1 h
    have ih:=insRf_rise (n:=n) (v:=v) hp.2
    have hm:=insRf_mem (n:=n) (v:=v) hp.2
    unfold insRf
    cases hb:Op.bytesLess r.name n
    · rw [bytesLess_eq,decide_eq_false_iff_not] at hb
      cases he:(r.name==n)
      · have he:r.name≠n:=by simpa using he
        have hlt:n<r.name:=by
          rcases lt_of_not hb with h | h
          · exact absurd h.symm he
          · exact h
        refine List.pairwise_cons.2 ⟨fun y hy=>?_,h⟩
        rcases List.mem_cons.1 hy with rfl | hy
        · exact hlt
        · exact List.lt_trans hlt (hp.1 y hy)
      · have he:=beq_iff_eq.1 he
        refine List.pairwise_cons.2 ⟨fun y hy=>?_,hp.2⟩
        show n<y.name
        rw [←he];exact hp.1 y hy
    · rw [bytesLess_eq,decide_eq_true_eq] at hb
      refine List.pairwise_cons.2 ⟨fun y hy=>?_,ih⟩
      rcases (hm y).1 hy with rfl | ⟨hy,_⟩
      · exact hb
      · exact hp.1 y hy
theorem rise_ext {A B:List RefD} (hA:riseR A) (hB:riseR B) (h:∀x,x∈A↔x∈B):A=B:=by
  have nd:∀ {R:List RefD},riseR R→R.Nodup:=fun h=>h.imp fun {a b} hab e=>by rw [e] at hab;exact List.lt_irrefl _ hab
  refine List.Perm.eq_of_pairwise (le:=fun (a b:RefD)=>a.name<b.name) (fun a b _ _ h1 h2=>absurd h2 (List.lt_asymm h1)) hA hB ((List.perm_ext_iff_of_nodup (nd hA) (nd hB)).2 h)
theorem refsC_rise (C:List CommitD):riseR (refsC C):=by
  unfold riseR refsC
  rw [List.pairwise_map]
  have tr:∀a b c:List UInt8,leB a b=true→leB b c=true→leB a c=true:=fun a b c h1 h2=>by simp only [leB,decide_eq_true_eq] at *;exact List.le_trans h1 h2
  have to:∀a b:List UInt8,(leB a b||leB b a)=true:=fun a b=>by simp only [leB,Bool.or_eq_true,decide_eq_true_eq];exact List.le_total a b
  have hp:(namesK (kvC C)).Pairwise fun a b=>leB a b=true:=List.pairwise_mergeSort tr to _
  have hn:(namesK (kvC C)).Pairwise fun a b=>a≠b:=(names_perm C).nodup_iff.2 (kv_keys C).1
  refine (hp.and hn).imp fun {a b} h=>?_
  have h1:a≤b:=of_decide_eq_true h.1
  rcases List.le_iff_lt_or_eq.1 h1 with h2 | h2
  · exact h2
  · exact absurd h2 h.2
theorem refsC_mem (C:List CommitD) (x:RefD):x∈refsC C↔x.name∈(kvC C).map (·.1)∧x.rev=(lookK (kvC C) x.name).getD 0:=by
  unfold refsC
  rw [List.mem_map]
  constructor
  · rintro ⟨n,hn,rfl⟩
    exact⟨(names_perm C).mem_iff.1 hn,rfl⟩
  · rintro ⟨h1,h2⟩
    refine⟨x.name,(names_perm C).mem_iff.2 h1,?_⟩
    cases x
    simp only [refK] at h2 ⊢
    rw [←h2]
theorem refsR_eq (C:List CommitD):refsR C=refsC C:=by
  refine snocL (p:=fun C=>refsR C=refsC C) ?_ (fun C c ih=>?_) C
  · simp [refsR,refsC,namesK,kvC]
  · have e:refsR (C++[c])=bif c.ref==[] then refsR C else moveR (refsR C) c.ref c.rev:=by simp [refsR]
    rw [e,ih]
    cases hc:(c.ref==[])
    · simp only [cond_false]
      rw [move_ins (refsC_rise C)]
      refine rise_ext (insRf_rise (refsC_rise C)) (refsC_rise _) fun x=>?_
      rw [insRf_mem (refsC_rise C),refsC_mem,refsC_mem,kvC_snoc,hc]
      simp only [cond_false,putK_keys,lookK_put]
      constructor
      · rintro (rfl | ⟨⟨h1,h2⟩,h3⟩)
        · exact⟨.inl rfl,by simp⟩
        · refine⟨.inr h1,?_⟩
          have:(c.ref==x.name)=false:=by rw [Bool.eq_false_iff];intro e;exact h3 (beq_iff_eq.1 e).symm
          rw [this];exact h2
      · rintro ⟨h1,h2⟩
        by_cases e:x.name=c.ref
        · left
          rw [e] at h2
          simp at h2
          cases x
          simp at e h2
          rw [e,h2]
        · right
          have:(c.ref==x.name)=false:=by rw [Bool.eq_false_iff];intro e2;exact e (beq_iff_eq.1 e2).symm
          rw [this] at h2
          rcases h1 with h1 | h1
          · exact absurd h1 e
          · exact⟨⟨h1,h2⟩,e⟩
    · simp only [cond_true]
      unfold refsC
      rw [kvC_snoc,hc]
      rfl
theorem foldR_suc {n:Bs} {v:Int} {R:List RefD} {i:Nat} (h:i<R.length):foldR n v (R.take (i+1))=stepR n v (foldR n v (R.take i)) (R.getD i noR):=by
  rw [take_succ_getD noR h]
  simp [foldR]
theorem foldR_len (n:Bs) (v:Int) (R:List RefD):(foldR n v R).out.length≤2*R.length:=by
  refine snocL (p:=fun R=>(foldR n v R).out.length≤2*R.length) (by simp [foldR]) (fun R r ih=>?_) R
  have e:foldR n v (R++[r])=stepR n v (foldR n v R) r:=by simp [foldR]
  rw [e]
  unfold stepR
  cases (r.name==n)<;>cases (!(foldR n v R).put && !(Op.bytesLess r.name n))<;>simp<;>omega
theorem refsR_len (C:List CommitD):(refsR C).length≤C.length:=by
  rw [refsR_eq,refs_len]
  have h2:(namesK (kvC C)).length=(kvC C).length:=by simp [namesK]
  have:=kvC_len C
  omega
theorem place_ok:SpecOK Tryz.prog 194 placeT.spec:=by
  refine Tri.ok (E:=placeE) (Env_ok (by decide +kernel) (by simp [rcompare_ok])) (n:=1000) placeT fun x hx=>?_
  rw [place_vc]
  delta placeQ1
  obtain⟨l,p⟩:=x
  obtain⟨h1,h2⟩:=hx
  simp only [br_bad,br_true,br_false,List.length_singleton,and_self,Bool.not_true,Bool.not_false,Bool.not_not,decide_eq_true_eq,Bool.and_eq_true,List.take_zero,List.nil_append,List.drop_zero,Nat.zero_add,Int.toNat_natCast,Nat.sub_eq,true_and,and_true,exists_const,List.length_nil,Nat.zero_le,Nat.zero_mul,Nat.le_refl,List.length_set,List.take_length,Int.natCast_nonneg,forall_const,implies_true,Int.toNat_zero,Nat.le_eq,Int.le_refl,addN,cutN,loN,hiN,bndB,List.length_cons,List.take_succ_cons,List.length_take,List.length_drop,Option.isNone,Nat.add_zero,Nat.min_self]
  try simp only [br_iff,decide_eq_true_eq,decide_eq_false_iff_not,room47,Bool.not_eq_true',Bool.not_eq_false',gt_iff_lt]
  refine⟨⟨0,rfl,by omega,rfl,rfl⟩,fun i ⟨g1,g2,g3⟩ hl=>⟨fun g4=>⟨g4,⟨p,(l.getD i noL).path⟩,rfl,rfl,⟨h2,List.all_eq_true.1 h1 _ (getD_mem (show i<l.length by omega))⟩,fun g5=>?_,fun g5=>⟨fun g6=>?_,fun g6=>⟨i+1,by rw [wrap_id (by omega) (by omega)];rfl,⟨by omega,?_⟩,by omega⟩⟩⟩,fun g4 _=>?_⟩⟩
  · rw [drop_getD noL (by omega),placeL_cons,show (cmpP p (l.getD i noL)==0)=true from g5] at g2 g3
    simp only [cond_true] at g2 g3
    exact⟨by omega,g3⟩
  · rw [drop_getD noL (by omega),placeL_cons,show (cmpP p (l.getD i noL)==0)=false from g5,show decide (cmpP p (l.getD i noL)<0)=true from decide_eq_true g6] at g2 g3
    simp only [cond_true,cond_false] at g2 g3
    exact⟨by omega,g3⟩
  · rw [drop_getD noL (by omega),placeL_cons,show (cmpP p (l.getD i noL)==0)=false from g5,show decide (cmpP p (l.getD i noL)<0)=false from decide_eq_false g6] at g2 g3
    simp only [cond_false] at g2 g3
    exact⟨by omega,g3⟩
  · rw [List.drop_of_length_le (by omega:l.length≤i)] at g2 g3
    have:(placeL p []).1=0:=rfl
    rw [this] at g2
    exact⟨by omega,g3⟩
theorem rput_ok:SpecOK Tryz.prog 136 rputT.spec:=by
  refine Tri.ok (E:=rputE) (Env_ok (by decide +kernel) (by simp [place_ok])) (n:=1000) rputT fun x hx=>?_
  rw [rput_vc]
  delta rputQ9 rputQ8 rputQ7 rputQ6 rputQ5 rputQ4 rputQ3 rputQ2 rputQ1
  obtain⟨l,x⟩:=x
  obtain⟨h1,h2,h3⟩:=hx
  simp only [br_bad,br_true,br_false,List.length_singleton,and_self,Bool.not_true,Bool.not_false,Bool.not_not,decide_eq_true_eq,Bool.and_eq_true,List.take_zero,List.nil_append,List.drop_zero,Nat.zero_add,Int.toNat_natCast,Nat.sub_eq,true_and,and_true,exists_const,List.length_nil,Nat.zero_le,Nat.zero_mul,Nat.le_refl,List.length_set,List.take_length,Int.natCast_nonneg,forall_const,implies_true,Int.toNat_zero,Nat.le_eq,Int.le_refl,addN,cutN,loN,hiN,bndB,List.length_cons,List.take_succ_cons,List.length_take,List.length_drop,Option.isNone,Nat.add_zero,Nat.min_self]
  try simp only [br_iff,decide_eq_true_eq,decide_eq_false_iff_not,room47,Bool.not_eq_true',Bool.not_eq_false',gt_iff_lt]
  have h3:l.length≤100000:=of_decide_eq_true h3
  refine⟨⟨l,x.path⟩,rfl,rfl,⟨h1,h2⟩,?_⟩
  have hp:=placeL_le x.path l
  have hi:=insL_place x l
  dsimp only
  generalize (placeL x.path l).1=k at hp hi ⊢
  generalize (placeL x.path l).2=b at hp hi ⊢
  have c1:cutL l none (some (k:Int))=l.take k:=by simp [cutL,loN,hiN]
  have c2:cutL l (some (k:Int)) none=l.drop k:=by simp [cutL,loN,hiN]
  have c3:cutL l (some ((k+1:Nat):Int)) none=l.drop (k+1):=by simp [cutL,loN,hiN]
  have hw:IntKind.i64.wrap ((k:Int)+1)=((k+1:Nat):Int):=by rw [wrap_id (by omega) (by omega)];rfl
  rw [hw,c1,c2,c3]
  have l1:(l.take k).length=k:=by rw [List.length_take];omega
  have l2:(l.drop (k+1)).length=l.length-(k+1):=List.length_drop
  have l3:(l.drop k).length=l.length-k:=List.length_drop
  have tk:(l.take k++[x]).take (k+1)=l.take k++[x]:=List.take_of_length_le (by simp;omega)
  rw [l1,l2,l3]
  refine⟨by simp;omega,fun _=>⟨by omega,fun _=>⟨by omega,fun hb=>⟨by simp;have:=hp.2 hb;omega,fun _=>⟨⟨by simp;omega,by omega⟩,?_,?_⟩⟩,fun hb=>⟨by simp;omega,fun _=>⟨⟨by simp;omega,by omega⟩,?_,?_⟩⟩⟩⟩⟩
  · rw [hi,hb];simp;have:=hp.2 hb;omega
  · rw [hi,hb]
    show (l.take k++[x]).take (k+1)++_=_
    rw [tk];simp
  · rw [hi,hb];simp;omega
  · rw [hi,hb]
    show (l.take k++[x]).take (k+1)++_=_
    rw [tk];simp
theorem rget_ok:SpecOK Tryz.prog 135 rgetT.spec:=by
  refine Tri.ok (E:=rputE) (Env_ok (by decide +kernel) (by simp [place_ok])) (n:=1000) rgetT fun x hx=>?_
  rw [rget_vc]
  delta rgetQ4 rgetQ3 rgetQ2 rgetQ1
  obtain⟨l,p⟩:=x
  obtain⟨h1,h2⟩:=hx
  simp only [br_bad,br_true,br_false,List.length_singleton,and_self,Bool.not_true,Bool.not_false,Bool.not_not,decide_eq_true_eq,Bool.and_eq_true,List.take_zero,List.nil_append,List.drop_zero,Nat.zero_add,Int.toNat_natCast,Nat.sub_eq,true_and,and_true,exists_const,List.length_nil,Nat.zero_le,Nat.zero_mul,Nat.le_refl,List.length_set,List.take_length,Int.natCast_nonneg,forall_const,implies_true,Int.toNat_zero,Nat.le_eq,Int.le_refl,addN,cutN,loN,hiN,bndB,List.length_cons,List.take_succ_cons,List.length_take,List.length_drop,Option.isNone,Nat.add_zero,Nat.min_self]
  try simp only [br_iff,decide_eq_true_eq,decide_eq_false_iff_not,room47,Bool.not_eq_true',Bool.not_eq_false',gt_iff_lt]
  have hp:=placeL_le p l
  refine⟨⟨l,p⟩,rfl,rfl,⟨h1,h2⟩,fun hb=>?_,fun hb=>⟨by have:=hp.2 hb;dsimp only;omega,?_⟩⟩
  · rw [getL_place,show (placeL p l).2=false from hb]
    exact⟨rfl,rfl,rfl,rfl,rfl⟩
  · rw [getL_place,show (placeL p l).2=true from hb]
    exact⟨rfl,rfl,rfl,rfl,rfl⟩
theorem rsrt_ok:SpecOK Tryz.prog 134 rsrtT.spec:=by
  refine Tri.ok (E:=rsortE) (Env_ok (by decide +kernel) (by simp [rcompare_ok])) (n:=1000) rsrtT fun x hx=>?_
  rw [rsrt_vc]
  delta rsrtQ15 rsrtQ14 rsrtQ13 rsrtQ12 rsrtQ11 rsrtQ10 rsrtQ9 rsrtQ8 rsrtQ7 rsrtQ6 rsrtQ5 rsrtQ4 rsrtQ3 rsrtQ2 rsrtQ1
  revert hx
  revert x
  intro (l:List ChangeD) (hx:shortC l=true∧fewX l=true)
  obtain⟨hs,hf⟩:=hx
  have hf:l.length≤100000:=of_decide_eq_true hf
  refine⟨⟨0,rfl,rfl,rfl,Nat.zero_le _⟩,fun i hi _=>br_i (fun h1=>?_) (fun h1=>⟨(),by omega,?_,trivial⟩)⟩
  · have h1:=of_decide_eq_true h1
    have hol:(insS (l.take i)).length=i:=by rw [insS_len,List.length_take];omega
    have hnext:insS (l.take (i+1))=insR (l.getD i noC) (insS (l.take i)):=by rw [take_succ_getD noC (by omega),insS_snoc]
    have hso:∀y,y∈insS (l.take i)→shortB y.path=true:=fun y hy=>List.all_eq_true.1 hs y (List.mem_of_mem_take (mem_insS.1 hy))
    have hsx:shortB (l.getD i noC).path=true:=List.all_eq_true.1 hs _ (getD_mem (d:=noC) (by omega))
    generalize insS (l.take i)=out at hol hnext hso ⊢
    refine fun _=>⟨⟨out.length,rfl,Nat.le_refl _,fun j h2 h3=>absurd h3 (by omega)⟩,fun k hk=>br_i (fun h2=>?_) (fun h2=>?_)⟩
    · have h2:=of_decide_eq_true h2
      obtain⟨k1,k2⟩:=hk
      have w:IntKind.i64.wrap ((k:Int)-1)=((k-1:Nat):Int):=by rw [wrap_id (by omega) (by omega)];omega
      rw [w]
      have e0:0+((k-1:Nat):Int).toNat=k-1:=by simp
      rw [e0]
      refine br_t (decide_eq_true ⟨by omega,by omega⟩) (br_t (decide_eq_true (by omega)) (br_t (decide_eq_true ⟨by omega,by omega⟩) ⟨⟨(out.getD (k-1) noC).path,(l.getD i noC).path⟩,rfl,rfl,⟨hso _ (getD_mem (d:=noC) (by omega)),hsx⟩,fun _ _=>br_i (fun g=>?_) (fun g=>?_)⟩))
      · have g:cmpC (out.getD (k-1) noC) (l.getD i noC)>0:=of_decide_eq_true g
        refine⟨k-1,rfl,⟨by omega,fun j hj1 hj2=>?_⟩,by omega⟩
        rcases Nat.lt_or_ge (k-1) j with h | h
        · exact k2 j (by omega) hj2
        · have:j=k-1:=by omega
          subst this
          show cmpC (l.getD i noC) (out.getD (k-1) noC)<0
          rw [cmpC_swap];omega
      · have g:¬cmpC (out.getD (k-1) noC) (l.getD i noC)>0:=of_decide_eq_false g
        have hput:=insR_put (x:=l.getD i noC) (l:=out) (k:=k) (by omega) (fun _=>by rw [cmpC_swap];omega) k2
        clear e0 w g h2 k2
        have hlk:(out.take k).length=k:=by rw [List.length_take];omega
        have c1:cutN out.length none (some (k:Int))=k:=by simp [cutN,loN,hiN]
        have c2:cutN out.length (some (k:Int)) none=out.length-k:=by simp [cutN,loN,hiN]
        have a1:addN 0 none=0:=rfl
        have a2:addN 0 (some (k:Int))=k:=by simp [addN,loN]
        have rm:∀n,n≤100002→decide (n*32≤room47)=true:=fun n hn=>by
          have:100002*32≤room47:=by decide
          exact decide_eq_true (Nat.le_trans (Nat.mul_le_mul_right 32 hn) this)
        have t1:∀c:ChangeD,(out.take k++[c]).take (k+1)=out.take k++[c]:=fun c=>List.take_of_length_le (by simp;omega)
        have t2:(out.drop k).take (out.length-k)=out.drop k:=List.take_of_length_le (by simp)
        have l2:(out.drop k).length=out.length-k:=List.length_drop
        simp only [c1,c2,a1,a2,Nat.zero_add,List.drop_zero,List.take_zero,List.nil_append,List.take_succ_cons,List.length_cons,List.length_nil,hlk,List.take_nil,List.drop_nil,t1,t2,l2,List.length_append]
        refine br_t (by simp [bndB];omega) fun _=>br_t ?_ (br_t (decide_eq_true ⟨by omega,by omega⟩) fun _=>br_t ?_ (br_t (by simp [bndB];omega) fun _=>br_t ?_ ⟨i+1,by rw [wrap_id (by omega) (by omega)];rfl,trivial,?_,?_,by show i+1≤l.length;omega,by show l.length-(i+1)<l.length-i;omega⟩))
        · rw [rm k (by omega)];simp;omega
        · rw [rm (k+1) (by omega)];simp
        · rw [rm (k+1+(out.length-k)) (by omega)];simp;omega
        · rw [hnext,insR_len];omega
        · have t3:(out.take k).take k=out.take k:=List.take_of_length_le (by omega)
          rw [hnext,hput,t3]
          show (out.take k++[l.getD i noC]).take (k+1)++out.drop k=_
          rw [t1]
          simp
    · have h2:=of_decide_eq_false h2
      obtain⟨k1,k2⟩:=hk
      have hput:=insR_put (x:=l.getD i noC) (l:=out) (k:=k) (by omega) (fun h=>absurd h (by omega)) k2
      clear h2 k2
      have hlk:(out.take k).length=k:=by rw [List.length_take];omega
      have c1:cutN out.length none (some (k:Int))=k:=by simp [cutN,loN,hiN]
      have c2:cutN out.length (some (k:Int)) none=out.length-k:=by simp [cutN,loN,hiN]
      have a1:addN 0 none=0:=rfl
      have a2:addN 0 (some (k:Int))=k:=by simp [addN,loN]
      have rm:∀n,n≤100002→decide (n*32≤room47)=true:=fun n hn=>by
        have:100002*32≤room47:=by decide
        exact decide_eq_true (Nat.le_trans (Nat.mul_le_mul_right 32 hn) this)
      have t1:∀c:ChangeD,(out.take k++[c]).take (k+1)=out.take k++[c]:=fun c=>List.take_of_length_le (by simp;omega)
      have t2:(out.drop k).take (out.length-k)=out.drop k:=List.take_of_length_le (by simp)
      have l2:(out.drop k).length=out.length-k:=List.length_drop
      simp only [c1,c2,a1,a2,Nat.zero_add,List.drop_zero,List.take_zero,List.nil_append,List.take_succ_cons,List.length_cons,List.length_nil,hlk,List.take_nil,List.drop_nil,t1,t2,l2,List.length_append]
      refine br_t (by simp [bndB];omega) fun _=>br_t ?_ (br_t (decide_eq_true ⟨by omega,by omega⟩) fun _=>br_t ?_ (br_t (by simp [bndB];omega) fun _=>br_t ?_ ⟨i+1,by rw [wrap_id (by omega) (by omega)];rfl,trivial,?_,?_,by show i+1≤l.length;omega,by show l.length-(i+1)<l.length-i;omega⟩))
      · rw [rm k (by omega)];simp;omega
      · rw [rm (k+1) (by omega)];simp
      · rw [rm (k+1+(out.length-k)) (by omega)];simp;omega
      · rw [hnext,insR_len];omega
      · have t3:(out.take k).take k=out.take k:=List.take_of_length_le (by omega)
        rw [hnext,hput,t3]
        show (out.take k++[l.getD i noC]).take (k+1)++out.drop k=_
        rw [t1]
        simp
  · have h1:=of_decide_eq_false h1
    have hi:i≤l.length:=hi
    rw [List.drop_zero,List.take_length,List.take_of_length_le (by omega)]
theorem readL_eq (C:List CommitD) (p:Bs):readL (rowC C) p=readV ⟨C,p⟩:=rfl
theorem rread_ok:SpecOK Tryz.prog 96 rreadT.spec:=by
  refine Tri.ok (E:=rreadE) (Env_ok (by decide +kernel) (by
    intro p hp
    simp only [List.mem_cons,List.mem_nil_iff,or_false] at hp
    rcases hp with rfl | rfl
    · exact rnormal_ok
    · exact rget_ok)) (n:=1000) rreadT fun x hx=>?_
  rw [rread_vc]
  delta rreadQ4 rreadQ3 rreadQ2 rreadQ1 EqV7
  obtain⟨C,L,R,p⟩:=x
  obtain⟨h1,h2⟩:=hx
  refine⟨p,rfl,h1,fun _ _=>?_⟩
  dsimp only
  have bad:(normB p==some p)=false→readL L p=⟨5,0,0,[],0,[],0⟩:=fun h=>by unfold readL;rw [h];rfl
  refine br_i (fun h=>?_) (fun h=>br_i (fun g=>?_) (fun g=>?_))
  · rw [bad (by cases hn:normB p<;>rw [hn] at h<;>first | rfl | simp at h)]
    exact⟨(),rfl,rfl,rfl,rfl,rfl,rfl,rfl,rfl,rfl,rfl,trivial⟩
  · rw [bad (by
      cases hn:normB p with
      | none=>rfl
      | some q=>
        rw [hn] at g
        simpa using g)]
    exact⟨(),rfl,rfl,rfl,rfl,rfl,rfl,rfl,rfl,rfl,rfl,trivial⟩
  · have good:readL L p=match getL p L with
        | none=>⟨10,0,0,p,0,[],0⟩
        | some y=>bif y.gone then ⟨10,0,0,p,0,[],0⟩ else ⟨9,0,y.rev,p,y.digest,[],0⟩:=by
      have:(normB p==some p)=true:=by
        cases hn:normB p with
        | none=>rw [hn] at h;simp at h
        | some q=>rw [hn] at g;simpa using g
      unfold readL
      rw [this];rfl
    rw [good]
    refine⟨⟨L,p⟩,by omega,by simp,rfl,⟨h2,h1⟩,fun _ _=>?_⟩
    dsimp only
    cases hg:getL p L with
    | none=>exact br_t rfl ⟨(),rfl,rfl,rfl,rfl,rfl,rfl,rfl,rfl,rfl,rfl,trivial⟩
    | some y=>
      refine br_f rfl (br_i (fun k=>?_) (fun k=>?_))
      · have k:y.gone=true:=k
        dsimp only
        rw [k]
        exact⟨(),rfl,rfl,rfl,rfl,rfl,rfl,rfl,rfl,rfl,rfl,trivial⟩
      · have k:y.gone=false:=k
        dsimp only
        rw [k]
        exact⟨(),rfl,rfl,rfl,rfl,rfl,rfl,rfl,rfl,rfl,rfl,trivial⟩
theorem short_leaf {C:List CommitD} (h:shortM C=true):shortLf (rowC C)=true:=by
  unfold shortLf
  rw [List.all_eq_true]
  intro x hx
  have h1:getL x.path (rowC C)=some x:=(getL_iff (insLs_ord _)).2 ⟨hx,rfl⟩
  rw [rowC_get] at h1
  unfold lastOf at h1
  have h2:=List.mem_of_find?_eq_some h1
  rw [List.mem_reverse] at h2
  unfold leavesC at h2
  rw [List.mem_flatMap] at h2
  obtain⟨c,hc,h3⟩:=h2
  obtain⟨y,hy,rfl⟩:=List.mem_map.1 h3
  have h4:=List.all_eq_true.1 h c hc
  exact List.all_eq_true.1 h4 y hy
theorem few_leaf {C:List CommitD} (h:fewG C=true):(rowC C).length≤64000:=by
  obtain⟨_,_,h3⟩:=fewG_of h
  exact Nat.le_trans (insLs_len _) h3
theorem putsL_row (C:List CommitD) (l:List LeafD):putsL (rowC C) l=insLs (leavesC C++l):=by
  unfold putsL rowC insLs
  rw [List.foldl_append]
theorem putsL_suc {T:List LeafD} {l:List ChangeD} {rev:Int} {i:Nat} (h:i<l.length):putsL T ((l.take (i+1)).map (leafC rev))=insL (leafC rev (l.getD i noC)) (putsL T ((l.take i).map (leafC rev))):=by
  rw [take_succ_getD noC h]
  simp [putsL]
theorem putsL_short {T:List LeafD} (hT:shortLf T=true) {l:List ChangeD} (hl:shortC l=true) {rev:Int} {C:List CommitD} (hC:T=rowC C) (hm:shortM C=true) (i:Nat):shortLf (putsL T ((l.take i).map (leafC rev)))=true:=by
  subst hC
  rw [putsL_row]
  have e:rowC (C++[⟨rev,0,[],l.take i⟩])=insLs (leavesC C++(l.take i).map (leafC rev)):=by
    unfold rowC
    rw [leavesC_snoc]
  rw [←e]
  refine short_leaf ?_
  unfold shortM
  rw [List.all_append]
  have h1:(C.all fun c=>shortC c.changes)=true:=hm
  rw [h1]
  have h2:shortC (l.take i)=true:=by
    unfold shortC at hl ⊢
    rw [List.all_eq_true] at hl ⊢
    exact fun x hx=>hl x (List.mem_of_mem_take hx)
  simp [h2]
set_option maxHeartbeats 0 in
theorem rlog_ok:SpecOK Tryz.prog 97 rlogT.spec:=by
  refine Tri.ok (E:=rlogE) (Env_ok (by decide +kernel) (by simp)) (n:=1000) rlogT fun x hx=>?_
  rw [rlog_vc]
  delta rlogQ11 rlogQ10 rlogQ9 rlogQ8 rlogQ7 rlogQ6 rlogQ5 rlogQ4 rlogQ3 rlogQ2 rlogQ1 EqV7
  obtain⟨C,L,R,frm,many⟩:=x
  obtain⟨hf,hi⟩:=hx
  have hi:frm≤9223372036854775807:=of_decide_eq_true hi
  obtain⟨f1,f2,_⟩:=fewG_of hf
  dsimp only
  dsimp only at f1 f2
  have hr:4000*60≤room47:=by decide
  have hbad:∀h:frm<1∨many<1,logV ⟨C,frm,many⟩=⟨5,0,0,[],0,[],0⟩:=fun h=>by
    unfold logV
    have:(decide (frm<1)||decide (many<1))=true:=by simpa using h
    dsimp only
    rw [this];rfl
  refine br_i (fun h=>?_) (fun h1=>br_i (fun h=>?_) (fun h2=>?_))
  · rw [hbad (.inl (of_decide_eq_true h))]
    exact⟨(),rfl,rfl,rfl,rfl,rfl,rfl,rfl,rfl,rfl,rfl,trivial⟩
  · rw [hbad (.inr (of_decide_eq_true h))]
    exact⟨(),rfl,rfl,rfl,rfl,rfl,rfl,rfl,rfl,rfl,rfl,trivial⟩
  have h1:=of_decide_eq_false h1
  have h2:=of_decide_eq_false h2
  have hv:logV ⟨C,frm,many⟩=⟨11,0,0,[],0,(C.drop (frm-1).toNat).take (min many 32).toNat,0⟩:=by
    unfold logV
    dsimp only
    rw [decide_eq_false h1,decide_eq_false h2];rfl
  rw [hv]
  obtain⟨F,hF⟩:∃F:Nat,frm-1=(F:Int):=⟨(frm-1).toNat,by omega⟩
  rw [hF]
  have e0:(F:Int).toNat=F:=rfl
  rw [e0]
  generalize hD:List.drop F C=D
  have hDl:D.length=C.length-F:=by rw [←hD];simp
  have done_:∀k:Nat,(D.take k).length=k→(D.take k=D.take (min many 32).toNat)→(0+(D.take k).length≤(D.take k).length)∧List.take (D.take k).length (List.drop 0 (D.take k))=D.take (min many 32).toNat:=fun k _ hk=>⟨by omega,by rw [List.drop_zero,List.take_length];exact hk⟩
  refine⟨⟨0,by rw [wrap_id (by omega) (by omega)];simp,rfl,rfl,rfl,Nat.zero_le _,by show ((0:Nat):Int)≤many;omega⟩,fun k hk _=>br_i (fun h3=>fun _=>br_i (fun h4=>fun _=>br_i (fun h5=>?_) (fun h5=>?_)) (fun h4=>?_)) (fun h3=>?_)⟩
  · obtain⟨k1,k2,k3⟩:=hk
    have h3:=of_decide_eq_true h3
    have h4:=of_decide_eq_true h4
    have h5:=of_decide_eq_true h5
    rw [k1] at h4 h5 ⊢
    have e1:0+((F:Int)+(k:Int)).toNat=F+k:=by omega
    rw [e1]
    have hlt:F+k<C.length:=by omega
    have hkD:k<D.length:=by omega
    have eD:C.getD (F+k) ⟨0,0,[],[]⟩=D[k]:=by
      have:D[k]=C[F+k]:=by subst hD;simp
      rw [this]
      simp [List.getD,hlt]
    rw [eD]
    have hch:=f2 D[k] (by subst hD;exact List.mem_of_mem_drop (List.getElem_mem hkD))
    have eM:(⟨(D[k]).rev,(D[k]).base,(D[k]).ref,List.take (0+(D[k]).changes.length) (List.drop 0 (List.take 0 (List.drop 0 ([]:List ChangeD))++(D[k]).changes))⟩:CommitD)=D[k]:=by
      simp
    rw [eM]
    have t1:List.take 1 (List.drop 0 [D[k]])=[D[k]]:=rfl
    rw [t1]
    have tk:List.take k (List.drop 0 (D.take k))=D.take k:=by rw [List.drop_zero,List.take_of_length_le (by omega)]
    rw [tk]
    have hn:D.take k++[D[k]]=D.take (k+1):=(List.take_succ_eq_append_getElem hkD).symm
    refine br_t (decide_eq_true ⟨by omega,by omega⟩) (br_t (decide_eq_true hlt) fun _=>br_t ?_ (br_t ?_ fun _=>br_t ?_ ⟨k+1,?_,rfl,?_,hn,⟨?_,?_,?_⟩,?_⟩))
    · refine Bool.and_eq_true_iff.2 ⟨rfl,decide_eq_true (Nat.le_trans (Nat.mul_le_mul_right 32 (show 0+(D[k]).changes.length≤4000 by omega)) (by omega))⟩
    · refine Bool.and_eq_true_iff.2 ⟨decide_eq_true (by simp),rfl⟩
    · refine Bool.and_eq_true_iff.2 ⟨Bool.and_eq_true_iff.2 ⟨decide_eq_true (Nat.le_refl 1),decide_eq_true (by omega)⟩,decide_eq_true (Nat.le_trans (Nat.mul_le_mul_right 56 (show k+([D[k]]:List CommitD).length≤4000 by show k+1≤4000;omega)) (by omega))⟩
    · rw [wrap_id (by omega) (by omega)];omega
    · rw [List.length_take]
      show k+1=_
      omega
    · rw [List.length_take];omega
    · omega
    · show ((k+1:Nat):Int)≤many
      omega
    · show 33-(k+1)<33-k
      omega
  all_goals
    obtain⟨k1,k2,k3⟩:=hk
    have hfin:D.take k=D.take (min many 32).toNat:=by
      have k1':=k1
      rw [List.length_take] at k1'
      first
        | (have h5:=of_decide_eq_false h5
           rw [k1] at h5
           have:(min many 32).toNat=k:=by omega
           rw [this])
        | (have h4:=of_decide_eq_false h4
           rw [k1] at h4
           have:(min many 32).toNat=k:=by omega
           rw [this])
        | (have h3:=of_decide_eq_false h3
           rw [List.take_of_length_le (by omega),List.take_of_length_le (by omega)])
    obtain⟨d1,d2⟩:=done_ k k1 hfin
    exact⟨(),rfl,rfl,rfl,rfl,rfl,d1,d2,rfl,rfl,rfl,rfl,trivial⟩
end Go.Proofs.YtgepebndihfnfaaGreat.Ses
