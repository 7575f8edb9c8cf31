/- What one machine could have told: what the evaluator leaves, and that it holds. No condition. -/
import Derived.Test.YtgepebndihfnfaaGreatJMhC
import Derived.KernelRfl
set_option linter.unusedSimpArgs false
set_option linter.unusedVariables false

namespace Go.Proofs.YtgepebndihfnfaaGreat.Ses
open Go Go.Proofs Go.Proofs.YtgepebndihfnfaaGreat.Sx
def firstN (p:Nat→Bool) (n:Nat):Int:=match (List.range n).find? p with
  | some k=>k
  | none=>-1
def noJ:DeedD:=⟨0,false,RequestD.dflt,⟨0,0,0,[],0,[],0⟩,0,0,0⟩
def cntD (d:DeedD):Bool:=decide (d.told≥0)&&(!d.loc||d.verdict.code != 0)
def logD (d:DeedD):Bool:=cntD d && !d.loc
def hitD (l:List RequestD) (v:List VerdictD) (d:DeedD) (j:Nat):Bool:=eqR (l.getD j RequestD.dflt) d.value&&eqV (v.getD j ⟨0,0,0,[],0,[],0⟩) d.verdict
def findD (l:List RequestD) (v:List VerdictD) (d:DeedD):Int:=firstN (hitD l v d) v.length
def slotD (l:List RequestD) (v:List VerdictD) (d:DeedD):Int:=bif logD d then findD l v d else -1
def slotsD (l:List RequestD) (v:List VerdictD) (ds:List DeedD):List Int:=ds.map (slotD l v)
def runV (c:CfgD) (l:List RequestD):List VerdictD:=bif okCf c.a c.z c.M then verdF (RunA.f ⟨c,l⟩) l else []
def condD (ds:List DeedD) (S:List Int) (i k:Nat):Bool:=k != i&&(logD (ds.getD k noJ)&&(decide ((ds.getD k noJ).told≤(ds.getD i noJ).sent)&&decide (S.getD k 0≥S.getD i 0)))
def badD (ds:List DeedD) (S:List Int) (i:Nat):Bool:=logD (ds.getD i noJ)&&(decide (S.getD i 0<0)||(decide (S.getD i 0≥(ds.getD i noJ).row)||(List.range ds.length).any (condD ds S i)))
def loggedD (ds:List DeedD) (S:List Int):Int:=firstN (badD ds S) ds.length
structure JdA where
  c:CfgD
  l:List RequestD
  ds:List DeedD
def rowAt (c:Tc) (s:St) (n:Nat):Option (List c.den):=match getE s.env n with
  | .mptr k _=>match s.m.blks.get k with
    | some (.cells [v])=>asL c v
    | _=>none
  | _=>none
noncomputable def jslI:St→LInv:=fun s=>match rowAt .request s 4,rowAt .verdict s 8,getE s.env 23 with
  | some (l:List RequestD),some (v:List VerdictD),.rslice _ .deed ds=>{σ:=Nat,I:=fun i=>i≤ds.length,μ:=fun i=>ds.length-i,env:=fun i=>[(25,.int .i64 i),(11,.mslice .int s.m.next 0 i)],blk:=fun i=>[(s.m.next,.rows .int (slotsD l v (ds.take i)))],fresh:=1,drop:=[]}
  | _,_,_=>LInv.none
noncomputable def jfiI:St→LInv:=fun s=>match rowAt .request s 2,asL .verdict (getE s.env 7),getE s.env 3 with
  | some (l:List RequestD),some (v:List VerdictD),.mptr k _=>match s.m.blks.get k with
    | some (.cells cs)=>match dec .deed cs with
      | some (d:DeedD)=>{σ:=Nat,I:=fun i=>i≤v.length ∧ ∀j,j<i→hitD l v d j=false,μ:=fun i=>v.length-i,env:=fun i=>[(9,.int .i64 i)],blk:=fun _=>[],fresh:=0,drop:=[]}
      | none=>LInv.none
    | _=>LInv.none
  | _,_,_=>LInv.none
noncomputable def jslT:Tri:={γ:=JdA,n0:=0,args:=fun x=>[x.c.sv,.rslice false .request x.l,.rslice false .deed x.ds],blks:=fun _=>[],pre:=fun x=>okL x.l=true,δ:=Unit,post:=fun _ _=>True,n1:=0,res:=fun x _=>.rslice false .int (slotsD x.l (runV x.c x.l) x.ds),blks':=fun _ _=>[],scal:=false}
noncomputable def jslE:Envr:=Env Tryz.prog cod [(21,altSpec prun1T prun2T),(84,esameT.spec),(90,alikeT.spec)] [(5,jslI),(2,jfiI)]
noncomputable def jlgI:St→LInv:=fun s=>match getE s.env 7,getE s.env 18 with
  | .rslice _ .int S,.rslice _ .deed ds=>{σ:=Nat,I:=fun i=>i≤ds.length ∧ ∀j,j<i→badD ds S j=false,μ:=fun i=>ds.length-i,env:=fun i=>[(20,.int .i64 i)],blk:=fun _=>[],fresh:=0,drop:=[]}
  | _,_=>LInv.none
noncomputable def jlkI:St→LInv:=fun s=>match getE s.env 7,getE s.env 44,getE s.env 9 with
  | .rslice _ .int S,.rslice _ .deed ds,.int _ a=>{σ:=Nat,I:=fun i=>i≤ds.length ∧ ∀j,j<i→condD ds S a.toNat j=false,μ:=fun i=>ds.length-i,env:=fun i=>[(46,.int .i64 i)],blk:=fun _=>[],fresh:=0,drop:=[]}
  | _,_,_=>LInv.none
noncomputable def jlgT:Tri:={γ:=JdA,n0:=0,args:=fun x=>[x.c.sv,.rslice false .request x.l,.rslice false .deed x.ds],blks:=fun _=>[],pre:=fun x=>okL x.l=true,δ:=Unit,post:=fun _ _=>True,n1:=0,res:=fun x _=>.int .i64 (loggedD x.ds (slotsD x.l (runV x.c x.l) x.ds)),blks':=fun _ _=>[],scal:=true}
noncomputable def jlgE:Envr:=Env Tryz.prog cod [(36,jslT.spec)] [(4,jlgI),(10,jlkI)]
set_option maxRecDepth 100000
abbrev jslQ1 (x:jslT.γ) (x1:RunA) (x3:Nat):=slotsD (JdA.l x) (verdF (RunA.f x1) (RunA.l x1)) (List.take x3 (JdA.ds x))
abbrev jslQ2 (x4:Nat) (x:jslT.γ):=decide ((0:Int)≤(↑x4:Int)∧
(↑x4:Int)<(↑(JdA.ds x).length:Int))
abbrev jslQ3 (x:jslT.γ) (x4:Nat):=List.getD (JdA.ds x) (↑x4:Int).toNat (DeedD.mk (0:Int) false RequestD.dflt VerdictD.dflt (0:Int) (0:Int) (0:Int))
abbrev jslQ4 (x1:RunA):=(verdF (RunA.f x1) (RunA.l x1)).length
abbrev jslQ5 (x5:Nat) (x1:RunA) (x:jslT.γ) (x4:Nat):=x5≤jslQ4 x1∧
∀x6:Nat,x6<x5→
hitD (JdA.l x) (verdF (RunA.f x1) (RunA.l x1)) (jslQ3 x x4) x6=false
abbrev jslQ6 (x4:Nat):=Nat.le (x4*8) room47∧
Nat.le (1*8) room47
abbrev jslQ7 (x4:Nat) (x13:Nat):=IntKind.wrap IntKind.i64 ((↑x4:Int)+(1:Int))=(↑x13:Int)
abbrev jslQ8 (x13:Nat) (x:jslT.γ) (x4:Nat):=Nat.le x13 (JdA.ds x).length∧
Nat.sub (JdA.ds x).length x13<Nat.sub (JdA.ds x).length x4
abbrev jslQ9 (x7:Nat) (x1:RunA) (x:jslT.γ) (x4:Nat):=∃x14:Nat,jslQ7 x7 x14∧
jslQ5 x14 x1 x x4∧
Nat.sub (jslQ4 x1) x14<Nat.sub (jslQ4 x1) x7
abbrev jslQ10  := decide (0+1≤[@Neg.neg Int _ (1:Int)].length)
abbrev jslQ11  := List.take 1 (List.drop 0 [@Neg.neg Int _ (1:Int)])
abbrev jslQ12 (x4:Nat) (x:jslT.γ) (x1:RunA):=jslQ6 x4→
br (Bool.and (Bool.and jslQ10 (decide (0+x4≤(jslQ1 x x1 x4).length))) (decide ((x4+jslQ11.length)*8≤room47))) (∃x18:Nat,jslQ7 x4 x18∧
0=0∧
x4+jslQ11.length=x18∧
@HAppend.hAppend (List Int) (List Int) (List Int) _ (List.take x4 (List.drop 0 (jslQ1 x x1 x4))) jslQ11=jslQ1 x x1 x18∧
jslQ8 x18 x x4) (Bad "check" "judge.go:33")
abbrev jslQ13 (x:jslT.γ) (x4:Nat) (x1:RunA):=br (jslQ3 x x4).loc.not (jslQ4 x1*80≤room47→
(∃x5:Nat,(0:Int)=(↑x5:Int)∧
jslQ5 x5 x1 x x4)∧
∀x7:Nat,jslQ5 x7 x1 x x4→
br (decide ((↑x7:Int)<(↑(jslQ4 x1):Int))) (br (decide ((0:Int)≤(↑x7:Int)∧
(↑x7:Int)<(↑(jslQ4 x1):Int))) (br (decide ((0:Int)≤(↑x7:Int)∧
(↑x7:Int)<(↑(JdA.l x).length:Int))) (∃x9:Req2,EqQ (List.getD (JdA.l x) (↑x7:Int).toNat RequestD.dflt) x9.a (EqQ (jslQ3 x x4).value x9.b (True∧
∀x10:Unit,True→
br (eqR x9.a x9.b) (∃x11:Ver2,EqV (List.getD (verdF (RunA.f x1) (RunA.l x1)) (↑x7:Int).toNat (VerdictD.mk (0:Int) (0:Int) (0:Int) ([]:List UInt8) (0:Int) ([]:List CommitD) (0:Int))) x11.a (EqV (jslQ3 x x4).verdict x11.b (True∧
∀x12:Unit,True→
br (eqV x11.a x11.b) (jslQ6 x4→
br (Bool.and (Bool.and (decide (0+1≤[(↑x7:Int)].length)) (decide (0+x4≤(jslQ1 x x1 x4).length))) (decide ((x4+(List.take 1 (List.drop 0 [(↑x7:Int)])).length)*8≤room47))) (∃x13:Nat,jslQ7 x4 x13∧
0=0∧
x4+(List.take 1 (List.drop 0 [(↑x7:Int)])).length=x13∧
@HAppend.hAppend (List Int) (List Int) (List Int) _ (List.take x4 (List.drop 0 (jslQ1 x x1 x4))) (List.take 1 (List.drop 0 [(↑x7:Int)]))=jslQ1 x x1 x13∧
jslQ8 x13 x x4) (Bad "check" "judge.go:33")) (jslQ9 x7 x1 x x4)))) (jslQ9 x7 x1 x x4)))) (Bad "check" "judge.go:21")) (Bad "check" "judge.go:20")) (jslQ12 x4 x x1)) (jslQ12 x4 x x1)
abbrev jslQ14 (x:jslT.γ):=slotsD (JdA.l x) (runV (JdA.c x) (JdA.l x)) (JdA.ds x)
abbrev jslQ15 (x:jslT.γ) (x40:Nat):=slotsD (JdA.l x) ([]:List VerdictD) (List.take x40 (JdA.ds x))
abbrev jslQ16 (x42:Nat) (x:jslT.γ) (x41:Nat):=x42≤([]:List VerdictD).length∧
∀x43:Nat,x43<x42→
hitD (JdA.l x) ([]:List VerdictD) (jslQ3 x x41) x43=false
abbrev jslQ17 (x41:Nat) (x:jslT.γ):=jslQ6 x41→
br (Bool.and (Bool.and jslQ10 (decide (0+x41≤(jslQ15 x x41).length))) (decide ((x41+jslQ11.length)*8≤room47))) (∃x46:Nat,jslQ7 x41 x46∧
0=0∧
x41+jslQ11.length=x46∧
@HAppend.hAppend (List Int) (List Int) (List Int) _ (List.take x41 (List.drop 0 (jslQ15 x x41))) jslQ11=jslQ15 x x46∧
jslQ8 x46 x x41) (Bad "check" "judge.go:33")
abbrev jslQ18 (x:jslT.γ) (x41:Nat):=br (jslQ3 x x41).loc.not (([]:List VerdictD).length*80≤room47→
(∃x42:Nat,(0:Int)=(↑x42:Int)∧
jslQ16 x42 x x41)∧
∀x44:Nat,jslQ16 x44 x x41→
jslQ17 x41 x) (jslQ17 x41 x)
theorem jsl_vc (x:jslT.γ):evCall jslE (ev jslE 1000) 36 (jslT.args x) ⟨jslT.blks x,jslT.n0,[]⟩ (fun _ _=>False) (jslT.ends x)=(
Or (∃x1:RunA,EqF (JdA.c x) (RunA.c x1) (JdA.l x=RunA.l x1∧
RunA.ok x1=true∧
∀x2:Unit,True→
(JdA.ds x).length*248≤room47→
(∃x3:Nat,(0:Int)=(↑x3:Int)∧
0=x3∧
([]:List Int)=jslQ1 x x1 x3∧
Nat.le x3 (JdA.ds x).length)∧
∀x4:Nat,Nat.le x4 (JdA.ds x).length→
br (decide ((↑x4:Int)<(↑(JdA.ds x).length:Int))) (br (jslQ2 x4 x) (br (decide (@GE.ge Int _ (jslQ3 x x4).told (0:Int))) (br (jslQ3 x x4).loc.not (jslQ13 x x4 x1) (br ((jslQ3 x x4).verdict.code != (0:Int)) (jslQ13 x x4 x1) (jslQ12 x4 x x1))) (jslQ12 x4 x x1)) (Bad "check" "judge.go:28")) (∃x37:Unit,0+x4≤(jslQ1 x x1 x4).length∧
List.take x4 (List.drop 0 (jslQ1 x x1 x4))=jslQ14 x∧
True))) (∃x38:RunA,EqF (JdA.c x) (RunA.c x38) (JdA.l x=RunA.l x38∧
okCf (CfgD.a (RunA.c x38)) (CfgD.z (RunA.c x38)) (CfgD.M (RunA.c x38))=false∧
∀x39:Unit,True→
(JdA.ds x).length*248≤room47→
(∃x40:Nat,(0:Int)=(↑x40:Int)∧
0=x40∧
([]:List Int)=jslQ15 x x40∧
Nat.le x40 (JdA.ds x).length)∧
∀x41:Nat,Nat.le x41 (JdA.ds x).length→
br (decide ((↑x41:Int)<(↑(JdA.ds x).length:Int))) (br (jslQ2 x41 x) (br (decide (@GE.ge Int _ (jslQ3 x x41).told (0:Int))) (br (jslQ3 x x41).loc.not (jslQ18 x x41) (br ((jslQ3 x x41).verdict.code != (0:Int)) (jslQ18 x x41) (jslQ17 x41 x))) (jslQ17 x41 x)) (Bad "check" "judge.go:28")) (∃x56:Unit,0+x41≤(jslQ15 x x41).length∧
List.take x41 (List.drop 0 (jslQ15 x x41))=jslQ14 x∧
True)))):=by kernel_rfl
abbrev jlgQ1 (x1:JdA):=slotsD x1.l (runV x1.c x1.l) x1.ds
abbrev jlgQ2 (x3:Nat) (x:jlgT.γ) (x1:JdA):=x3≤(JdA.ds x).length∧
∀x4:Nat,x4<x3→
badD (JdA.ds x) (jlgQ1 x1) x4=false
abbrev jlgQ3 (x5:Nat) (x:jlgT.γ):=decide ((0:Int)≤(↑x5:Int)∧
(↑x5:Int)<(↑(JdA.ds x).length:Int))
abbrev jlgQ4 (x:jlgT.γ) (x5:Nat):=List.getD (JdA.ds x) (↑x5:Int).toNat (DeedD.mk (0:Int) false RequestD.dflt VerdictD.dflt (0:Int) (0:Int) (0:Int))
abbrev jlgQ5 (x5:Nat) (x7:Nat):=IntKind.wrap IntKind.i64 ((↑x5:Int)+(1:Int))=(↑x7:Int)
abbrev jlgQ6 (x5:Nat) (x:jlgT.γ) (x1:JdA):=∃x7:Nat,jlgQ5 x5 x7∧
jlgQ2 x7 x x1∧
Nat.sub (JdA.ds x).length x7<Nat.sub (JdA.ds x).length x5
abbrev jlgQ7 (x5:Nat) (x1:JdA):=decide ((0:Int)≤(↑x5:Int)∧
(↑x5:Int)<(↑(jlgQ1 x1).length:Int))
abbrev jlgQ8 (x1:JdA) (x5:Nat):=List.getD (jlgQ1 x1) (↑x5:Int).toNat (Int.ofNat 0)
abbrev jlgQ9 (x5:Nat) (x:jlgT.γ):=∃x9:Unit,(↑x5:Int)=loggedD (JdA.ds x) (jlgQ1 x)∧
True
abbrev jlgQ10 (x11:Nat) (x:jlgT.γ) (x1:JdA) (x5:Nat):=x11≤(JdA.ds x).length∧
∀x12:Nat,x12<x11→
condD (JdA.ds x) (jlgQ1 x1) (↑x5:Int).toNat x12=false
abbrev jlgQ11 (x13:Nat) (x:jlgT.γ) (x1:JdA) (x5:Nat):=∃x16:Nat,jlgQ5 x13 x16∧
jlgQ10 x16 x x1 x5∧
Nat.sub (JdA.ds x).length x16<Nat.sub (JdA.ds x).length x13
abbrev jlgQ12 (x13:Nat) (x:jlgT.γ) (x5:Nat) (x1:JdA):=br (jlgQ3 x13 x) (br (jlgQ4 x x13).loc.not (br (decide ((jlgQ4 x x13).told≤(jlgQ4 x x5).sent)) (br (jlgQ7 x13 x1) (br (jlgQ7 x5 x1) (br (decide (@GE.ge Int _ (jlgQ8 x1 x13) (jlgQ8 x1 x5))) (jlgQ9 x5 x) (jlgQ11 x13 x x1 x5)) (Bad "check" "judge.go:50")) (Bad "check" "judge.go:50")) (jlgQ11 x13 x x1 x5)) (jlgQ11 x13 x x1 x5)) (Bad "check" "judge.go:41")
abbrev jlgQ13 (x5:Nat) (x:jlgT.γ) (x1:JdA):=br (jlgQ3 x5 x) (br (jlgQ4 x x5).loc.not.not (jlgQ6 x5 x x1) (br (jlgQ7 x5 x1) (br (decide (jlgQ8 x1 x5<(0:Int))) (jlgQ9 x5 x) (br (jlgQ7 x5 x1) (br (decide (@GE.ge Int _ (jlgQ8 x1 x5) (jlgQ4 x x5).row)) (jlgQ9 x5 x) ((JdA.ds x).length*248≤room47→
(∃x11:Nat,(0:Int)=(↑x11:Int)∧
jlgQ10 x11 x x1 x5)∧
∀x13:Nat,jlgQ10 x13 x x1 x5→
br (decide ((↑x13:Int)<(↑(JdA.ds x).length:Int))) (br (jlgQ3 x13 x) (br ((↑x13:Int) != (↑x5:Int)) (br (jlgQ3 x13 x) (br (decide (@GE.ge Int _ (jlgQ4 x x13).told (0:Int))) (br (jlgQ4 x x13).loc.not (jlgQ12 x13 x x5 x1) (br ((jlgQ4 x x13).verdict.code != (0:Int)) (jlgQ12 x13 x x5 x1) (jlgQ11 x13 x x1 x5))) (jlgQ11 x13 x x1 x5)) (Bad "check" "judge.go:41")) (jlgQ11 x13 x x1 x5)) (Bad "check" "judge.go:49")) (jlgQ6 x5 x x1))) (Bad "check" "judge.go:46"))) (Bad "check" "judge.go:46"))) (Bad "check" "judge.go:41")
theorem jlg_vc (x:jlgT.γ):evCall jlgE (ev jlgE 1000) 35 (jlgT.args x) ⟨jlgT.blks x,jlgT.n0,[]⟩ (fun _ _=>False) (jlgT.ends x)=(
∃x1:JdA,EqF (JdA.c x) x1.c (JdA.l x=x1.l∧
JdA.ds x=x1.ds∧
okL x1.l=true∧
∀x2:Unit,True→
(JdA.ds x).length*248≤room47→
(∃x3:Nat,(0:Int)=(↑x3:Int)∧
jlgQ2 x3 x x1)∧
∀x5:Nat,jlgQ2 x5 x x1→
br (decide ((↑x5:Int)<(↑(JdA.ds x).length:Int))) (br (jlgQ3 x5 x) (br (jlgQ3 x5 x) (br (decide (@GE.ge Int _ (jlgQ4 x x5).told (0:Int))) (br (jlgQ4 x x5).loc.not (jlgQ13 x5 x x1) (br ((jlgQ4 x x5).verdict.code != (0:Int)) (jlgQ13 x5 x x1) (jlgQ6 x5 x x1))) (jlgQ6 x5 x x1)) (Bad "check" "judge.go:41")) (Bad "check" "judge.go:42")) (∃x71:Unit,@Neg.neg Int _ (1:Int)=loggedD (JdA.ds x) (jlgQ1 x)∧
True))):=by kernel_rfl
theorem firstN_spec (p:Nat→Bool) (n:Nat):(firstN p n = -1 ∧ ∀j,j<n→p j=false) ∨ ∃k:Nat,k<n∧firstN p n=k∧p k=true ∧ ∀j,j<k→p j=false:=by
  unfold firstN
  cases h:(List.range n).find? p with
  | none=>
    refine .inl ⟨rfl,fun j hj=>?_⟩
    have:=List.find?_eq_none.1 h j (List.mem_range.2 hj)
    simpa using this
  | some k=>
    obtain⟨h1,h2,h3⟩:=List.find?_range_eq_some.1 h
    refine .inr ⟨k,List.mem_range.1 h2,rfl,h1,fun j hj=>?_⟩
    have:=h3 j hj
    simpa using this
theorem firstN_at {p:Nat→Bool} {n i:Nat} (h:i<n) (hp:p i=true) (hb:∀j,j<i→p j=false):firstN p n=i:=by
  rcases firstN_spec p n with ⟨_,h2⟩ | ⟨k,_,h2,h3,h4⟩
  · rw [h2 i h] at hp;cases hp
  · rw [h2]
    rcases Nat.lt_trichotomy i k with c | c | c
    · rw [h4 i c] at hp;cases hp
    · rw [c]
    · rw [hb k c] at h3;cases h3
theorem firstN_no {p:Nat→Bool} {n:Nat} (h:∀j,j<n→p j=false):firstN p n = -1:=by
  rcases firstN_spec p n with ⟨h1,_⟩ | ⟨k,h1,_,h3,_⟩
  · exact h1
  · rw [h k h1] at h3;cases h3
theorem slots_at {l:List RequestD} {v:List VerdictD} {ds:List DeedD} {i:Nat} (h:i<ds.length):slotsD l v (ds.take (i+1))=slotsD l v (ds.take i)++[slotD l v (ds.getD i noJ)]:=by
  unfold slotsD
  rw [take_succ_getD noJ h,List.map_append];rfl
theorem slots_len (l:List RequestD) (v:List VerdictD) (ds:List DeedD):(slotsD l v ds).length=ds.length:=List.length_map ..
theorem push_d {l:List RequestD} {v:List VerdictD} {ds:List DeedD} {i:Nat} {z:Int} {B:Prop} (h:i<ds.length) (hl:ds.length*248≤room47) (hz:z=slotD l v (ds.getD i noJ)) :
    (Nat.le (i*8) room47∧Nat.le (1*8) room47)→br (((decide (0+1≤[z].length))&&decide (0+i≤(slotsD l v (ds.take i)).length))&&decide ((i+(List.take 1 (List.drop 0 [z])).length)*8≤room47)) (∃x:Nat,IntKind.i64.wrap ((i:Int)+1)=(x:Int)∧0=0∧i+(List.take 1 (List.drop 0 [z])).length=x∧List.take i (List.drop 0 (slotsD l v (ds.take i)))++List.take 1 (List.drop 0 [z])=slotsD l v (ds.take x)∧Nat.le x ds.length∧ds.length.sub x<ds.length.sub i) B:=by
  intro _
  have hn:(slotsD l v (ds.take i)).length=i:=by rw [slots_len,List.length_take];omega
  have h9:(i+1)*8≤room47:=by omega
  have hsm:ds.length≤1099511627776:=by unfold room47 at hl;omega
  refine br_t ?_ ⟨i+1,by rw [wrap_id (by omega) (by omega)];rfl,rfl,rfl,?_,h,by show ds.length-(i+1)<ds.length-i;omega⟩
  · rw [hn,decide_eq_true (by omega:0+i≤i)]
    show (true&&true&&decide ((i+1)*8≤room47))=true
    rw [decide_eq_true h9];rfl
  · rw [slots_at h,←hz,List.drop_zero,List.take_of_length_le (by omega)];rfl
theorem slot_no {l:List RequestD} {v:List VerdictD} {d:DeedD} (h:logD d=false):-1=slotD l v d:=by
  unfold slotD;rw [h];rfl
theorem log_told {d:DeedD} (h:decide (d.told≥0)=false):logD d=false:=by
  unfold logD cntD;rw [h];rfl
theorem log_loc {d:DeedD} (h:(!d.loc)=false):logD d=false:=by
  unfold logD;rw [h,Bool.and_false]
theorem log_yes {d:DeedD} (h:decide (d.told≥0)=true) (h2:(!d.loc)=true):logD d=true:=by
  unfold logD cntD;rw [h,h2];rfl
theorem runV_ok {c:CfgD} (l:List RequestD) (h:okCf c.a c.z c.M=true):runV c l=verdF (RunA.f ⟨c,l⟩) l:=by unfold runV;rw [h];rfl
theorem runV_no {c:CfgD} (l:List RequestD) (h:okCf c.a c.z c.M=false):runV c l=[]:=by unfold runV;rw [h];rfl
theorem slots_end {l:List RequestD} {v w:List VerdictD} {ds:List DeedD} {i:Nat} (hi:i≤ds.length) (h:¬(i:Int)<(ds.length:Int)) (hv:w=v):∃x:Unit,0+i≤(slotsD l v (ds.take i)).length∧List.take i (List.drop 0 (slotsD l v (ds.take i)))=slotsD l w ds∧True:=by
  subst hv
  have:i=ds.length:=by omega
  subst this
  have hn:=slots_len l w ds
  rw [List.take_length]
  exact⟨(),by omega,by rw [List.drop_zero,List.take_of_length_le (by omega)],trivial⟩
set_option maxHeartbeats 0 in
theorem jsl_ok:SpecOK Tryz.prog 36 jslT.spec:=by
  refine Tri.ok (E:=jslE) (Env_ok (by decide +kernel) (by
    intro p hp
    simp only [List.mem_cons,List.mem_nil_iff,or_false] at hp
    rcases hp with rfl | rfl | rfl
    · exact altSpec_ok prun1_ok prun2_ok
    · exact esame_ok
    · exact eali_ok)) (n:=1000) jslT fun x hx=>?_
  rw [jsl_vc]
  delta jslQ18 jslQ17 jslQ16 jslQ15 jslQ14 jslQ13 jslQ12 jslQ11 jslQ10 jslQ9 jslQ8 jslQ7 jslQ6 jslQ5 jslQ4 jslQ3 jslQ2 jslQ1 EqF EqQ EqV
  obtain⟨c,l,ds⟩:=x
  have hL:okL l=true:=hx
  dsimp only
  cases hcf:okCf c.a c.z c.M
  · refine .inr ⟨⟨c,l⟩,rfl,rfl,rfl,rfl,rfl,rfl,rfl,rfl,rfl,rfl,hcf,fun _ _ hl=>⟨⟨0,rfl,rfl,rfl,Nat.zero_le _⟩,fun i hi=>br_i (fun h1=>?_) (fun h1=>slots_end hi (of_decide_eq_false h1) (runV_no l hcf))⟩⟩
    have h1:(i:Int)<(ds.length:Int):=of_decide_eq_true h1
    have hlt:i<ds.length:=by omega
    have e0:(i:Int).toNat=i:=rfl
    rw [e0]
    have ed:ds.getD i ⟨0,false,RequestD.dflt,VerdictD.dflt,0,0,0⟩=ds.getD i noJ:=rfl
    rw [ed]
    have pu:=fun (z:Int) (hz:z=slotD l ([]) (ds.getD i noJ))=>fun (B:Prop)=>push_d (B:=B) hlt hl hz
    generalize ds.getD i noJ=d at pu ⊢
    exact br_t (decide_eq_true ⟨by omega,h1⟩) (br_i (fun t=>br_i (fun n1=>br_t n1 (fun _=>⟨⟨0,rfl,Nat.zero_le _,fun j hj=>absurd hj (Nat.not_lt_zero _)⟩,fun k hk=>pu _ (by unfold slotD;rw [log_yes t n1];rfl) _⟩)) (fun n1=>br_i (fun _=>br_f n1 (pu _ (slot_no (log_loc n1)) _)) (fun _=>pu _ (slot_no (log_loc n1)) _))) (fun t=>pu _ (slot_no (log_told t)) _))
  · have hok:RunA.ok ⟨c,l⟩=true:=by
      show (okCf c.a c.z c.M&&okL l)=true
      rw [hcf,hL];rfl
    refine .inl ⟨⟨c,l⟩,rfl,rfl,rfl,rfl,rfl,rfl,rfl,rfl,rfl,rfl,hok,fun _ _ hl=>⟨⟨0,rfl,rfl,rfl,Nat.zero_le _⟩,fun i hi=>br_i (fun h1=>?_) (fun h1=>slots_end hi (of_decide_eq_false h1) (runV_ok l hcf))⟩⟩
    have hvl:(verdF (RunA.f ⟨c,l⟩) l).length=l.length:=verd_len _ _
    have l4:=(okL_of hL).1
    dsimp only at hl ⊢
    generalize verdF (RunA.f ⟨c,l⟩) l=v at hvl ⊢
    have h1:(i:Int)<(ds.length:Int):=of_decide_eq_true h1
    have hlt:i<ds.length:=by omega
    have e0:(i:Int).toNat=i:=rfl
    rw [e0]
    have ed:ds.getD i ⟨0,false,RequestD.dflt,VerdictD.dflt,0,0,0⟩=ds.getD i noJ:=rfl
    rw [ed]
    have pu:=fun (z:Int) (hz:z=slotD l (v) (ds.getD i noJ))=>fun (B:Prop)=>push_d (B:=B) hlt hl hz
    generalize ds.getD i noJ=d at pu ⊢
    refine br_t (decide_eq_true ⟨by omega,h1⟩) (br_i (fun t=>br_i (fun n1=>br_t n1 (fun _=>⟨⟨0,rfl,Nat.zero_le _,fun j hj=>absurd hj (Nat.not_lt_zero _)⟩,fun k hk=>br_i (fun h2=>?_) (fun h2=>pu _ (by unfold slotD;rw [log_yes t n1];exact (firstN_no fun j hj=>hk.2 j (by have:=of_decide_eq_false h2;omega)).symm) _)⟩)) (fun n1=>br_i (fun _=>br_f n1 (pu _ (slot_no (log_loc n1)) _)) (fun _=>pu _ (slot_no (log_loc n1)) _))) (fun t=>pu _ (slot_no (log_told t)) _))
    have h2:(k:Int)<(v.length:Int):=of_decide_eq_true h2
    obtain⟨k1,k2⟩:=hk
    have ek:(k:Int).toNat=k:=rfl
    rw [ek]
    have hw:IntKind.i64.wrap ((k:Int)+1)=((k+1:Nat):Int):=by rw [wrap_id (by omega) (by omega)];rfl
    have next:hitD l v d k=false → ∃x:Nat,IntKind.i64.wrap ((k:Int)+1)=(x:Int)∧(x≤v.length ∧ ∀j,j<x→hitD l v d j=false)∧Nat.sub v.length x<Nat.sub v.length k:=fun hh=>⟨k+1,hw,⟨by omega,fun j hj=>by
      by_cases e:j=k
      · rw [e];exact hh
      · exact k2 j (by omega)⟩,by show v.length-(k+1)<v.length-k;omega⟩
    exact br_t (decide_eq_true ⟨by omega,h2⟩) (br_t (decide_eq_true ⟨by omega,by omega⟩) ⟨⟨l.getD k RequestD.dflt,d.value⟩,rfl,rfl,rfl,rfl,rfl,rfl,rfl,rfl,rfl,rfl,rfl,rfl,rfl,rfl,rfl,rfl,rfl,rfl,rfl,rfl,rfl,rfl,trivial,fun _ _=>br_i (fun e1=>⟨⟨v.getD k ⟨0,0,0,[],0,[],0⟩,d.verdict⟩,rfl,rfl,rfl,rfl,rfl,rfl,rfl,rfl,rfl,rfl,rfl,rfl,rfl,rfl,trivial,fun _ _=>br_i (fun e2=>pu _ (by unfold slotD;rw [log_yes t n1];exact (firstN_at (by omega) (by show (_&&_)=true;rw [e1,e2];rfl) k2).symm) _) (fun e2=>next (by show (_&&_)=false;rw [e2,Bool.and_false]))⟩) (fun e1=>next (by show (_&&_)=false;rw [e1];rfl))⟩)
theorem int_bne (k i:Nat):((k:Int) != (i:Int))=(k != i):=by
  by_cases h:k=i
  · subst h;simp
  · rw [bne_iff_ne.2 h,bne_iff_ne.2 (by omega)]
set_option maxHeartbeats 0 in
theorem jlg_ok:SpecOK Tryz.prog 35 jlgT.spec:=by
  refine Tri.ok (E:=jlgE) (Env_ok (by decide +kernel) (by simp [jsl_ok])) (n:=1000) jlgT fun x hx=>?_
  rw [jlg_vc]
  delta jlgQ13 jlgQ12 jlgQ11 jlgQ10 jlgQ9 jlgQ8 jlgQ7 jlgQ6 jlgQ5 jlgQ4 jlgQ3 jlgQ2 jlgQ1 EqF
  obtain⟨c,l,ds⟩:=x
  have hL:okL l=true:=hx
  dsimp only
  refine⟨⟨c,l,ds⟩,rfl,rfl,rfl,rfl,rfl,rfl,rfl,rfl,rfl,rfl,rfl,hL,fun _ _ hl=>?_⟩
  have hS:(slotsD l (runV c l) ds).length=ds.length:=slots_len _ _ _
  dsimp only at hl ⊢
  generalize slotsD l (runV c l) ds=S at hS ⊢
  have hsm:ds.length≤1099511627776:=by unfold room47 at hl;omega
  refine⟨⟨0,rfl,Nat.zero_le _,fun j hj=>absurd hj (Nat.not_lt_zero _)⟩,fun i hi=>br_i (fun h1=>?_) (fun h1=>⟨(),?_,trivial⟩)⟩
  · have h1:(i:Int)<(ds.length:Int):=of_decide_eq_true h1
    have hlt:i<ds.length:=by omega
    obtain⟨i1,i2⟩:=hi
    have e0:(i:Int).toNat=i:=rfl
    rw [e0]
    have ed:∀j,ds.getD j ⟨0,false,RequestD.dflt,VerdictD.dflt,0,0,0⟩=ds.getD j noJ:=fun _=>rfl
    rw [ed]
    have hb:badD ds S i=(logD (ds.getD i noJ)&&(decide (S.getD i 0<0)||(decide (S.getD i 0≥(ds.getD i noJ).row)||(List.range ds.length).any (condD ds S i)))):=rfl
    have hcd:∀k,condD ds S i k=(k != i&&(logD (ds.getD k noJ)&&(decide ((ds.getD k noJ).told≤(ds.getD i noJ).sent)&&decide (S.getD k 0≥S.getD i 0)))):=fun _=>rfl
    have nx:badD ds S i=false → ∃x:Nat,IntKind.i64.wrap ((i:Int)+1)=(x:Int)∧(x≤ds.length ∧ ∀j,j<x→badD ds S j=false)∧Nat.sub ds.length x<Nat.sub ds.length i:=fun hh=>⟨i+1,by rw [wrap_id (by omega) (by omega)];rfl,⟨by omega,fun j hj=>by
      by_cases e:j=i
      · rw [e];exact hh
      · exact i2 j (by omega)⟩,by show ds.length-(i+1)<ds.length-i;omega⟩
    have rt:badD ds S i=true → ∃x:Unit,(i:Int)=loggedD ds S∧True:=fun hh=>⟨(),(firstN_at hlt hh i2).symm,trivial⟩
    have bi:decide ((0:Int)≤(i:Int)∧(i:Int)<(ds.length:Int))=true:=decide_eq_true ⟨by omega,h1⟩
    have bS:decide ((0:Int)≤(i:Int)∧(i:Int)<(S.length:Int))=true:=decide_eq_true ⟨by omega,by omega⟩
    generalize ds.getD i noJ=d at hb hcd ⊢
    have nl:logD d=false → ∃x:Nat,IntKind.i64.wrap ((i:Int)+1)=(x:Int)∧(x≤ds.length ∧ ∀j,j<x→badD ds S j=false)∧Nat.sub ds.length x<Nat.sub ds.length i:=fun hh=>nx (by rw [hb,hh];rfl)
    refine br_t bi (br_t bi (br_i (fun t=>br_i (fun n1=>br_t bi (br_f (by rw [n1];rfl) ?_)) (fun n1=>br_i (fun _=>br_t bi (br_t (by rw [n1];rfl) (nl (log_loc n1)))) (fun _=>nl (log_loc n1)))) (fun t=>nl (log_told t))))
    have ly:=log_yes t n1
    refine br_t bS (br_i (fun s0=>rt ?_) fun s0=>br_t bS (br_i (fun s1=>rt ?_) fun s1 _=>⟨⟨0,rfl,Nat.zero_le _,fun j hj=>absurd hj (Nat.not_lt_zero _)⟩,fun k hk=>br_i (fun h2=>?_) (fun h2=>nx ?_)⟩))
    · have s0:decide (S.getD i 0<0)=true:=s0
      rw [hb,ly,s0];rfl
    · have s0:decide (S.getD i 0<0)=false:=s0
      have s1:decide (S.getD i 0≥d.row)=true:=s1
      rw [hb,ly,s0,s1];rfl
    · have h2:(k:Int)<(ds.length:Int):=of_decide_eq_true h2
      obtain⟨k1,k2⟩:=hk
      have ek:(k:Int).toNat=k:=rfl
      rw [ek,ed]
      have hck:=hcd k
      have nk:condD ds S i k=false → ∃x:Nat,IntKind.i64.wrap ((k:Int)+1)=(x:Int)∧(x≤ds.length ∧ ∀j,j<x→condD ds S i j=false)∧Nat.sub ds.length x<Nat.sub ds.length k:=fun hh=>⟨k+1,by rw [wrap_id (by omega) (by omega)];rfl,⟨by omega,fun j hj=>by
        by_cases e:j=k
        · rw [e];exact hh
        · exact k2 j (by omega)⟩,by show ds.length-(k+1)<ds.length-k;omega⟩
      have bk:decide ((0:Int)≤(k:Int)∧(k:Int)<(ds.length:Int))=true:=decide_eq_true ⟨by omega,h2⟩
      have bK:decide ((0:Int)≤(k:Int)∧(k:Int)<(S.length:Int))=true:=decide_eq_true ⟨by omega,by omega⟩
      generalize ds.getD k noJ=o at hck ⊢
      have no:logD o=false → ∃x:Nat,IntKind.i64.wrap ((k:Int)+1)=(x:Int)∧(x≤ds.length ∧ ∀j,j<x→condD ds S i j=false)∧Nat.sub ds.length x<Nat.sub ds.length k:=fun hh=>nk (by rw [hck,hh];simp)
      refine br_t bk (br_i (fun ne=>br_t bk (br_i (fun t2=>br_i (fun n2=>br_t bk (br_t n2 (br_i (fun w=>br_t bK (br_t bS (br_i (fun g=>rt ?_) (fun g=>nk ?_)))) (fun w=>nk ?_)))) (fun n2=>br_i (fun _=>br_t bk (br_f n2 (no (log_loc n2)))) (fun _=>no (log_loc n2)))) (fun t2=>no (log_told t2)))) (fun ne=>nk ?_))
      · rw [int_bne] at ne
        have g:decide (S.getD k 0≥S.getD i 0)=true:=g
        have s0:decide (S.getD i 0<0)=false:=s0
        have s1:decide (S.getD i 0≥d.row)=false:=s1
        have:condD ds S i k=true:=by rw [hck,ne,log_yes t2 n2,w,g];rfl
        rw [hb,ly,s0,s1,List.any_eq_true.2 ⟨k,List.mem_range.2 (by omega),this⟩];rfl
      · have g:decide (S.getD k 0≥S.getD i 0)=false:=g
        rw [hck,g];simp
      · rw [hck,w];simp
      · rw [int_bne] at ne
        rw [hck,ne];rfl
    · have h2:¬(k:Int)<(ds.length:Int):=of_decide_eq_false h2
      have s0:decide (S.getD i 0<0)=false:=s0
      have s1:decide (S.getD i 0≥d.row)=false:=s1
      have:(List.range ds.length).any (condD ds S i)=false:=List.any_eq_false.2 fun j hj=>by
        have:=hk.2 j (by have:=List.mem_range.1 hj;omega)
        have this:condD ds S i j=false:=this
        rw [this];decide
      rw [hb,s0,s1,this];simp
  · have h1:¬(i:Int)<(ds.length:Int):=of_decide_eq_false h1
    exact (firstN_no fun j hj=>hi.2 j (by omega)).symm
end Go.Proofs.YtgepebndihfnfaaGreat.Ses
