/- Numbers sorted, each once; the sessions of the reference. No condition. -/
import Derived.Test.YtgepebndihfnfaaGreatJMgA
import Derived.Shelf.SortM.Plain
import Derived.Shelf.Slices.CompactI
import Derived.Lib.SlicesCompact
import Derived.KernelRfl
set_option linter.unusedSimpArgs false
set_option linter.unusedVariables false

namespace Go.Proofs.YtgepebndihfnfaaGreat.Ses
open Go Go.Proofs Go.Proofs.YtgepebndihfnfaaGreat.Sx
open Go.Shelf
open Go
theorem ups_eq:∀ {a b:List Int},a.Pairwise (· < ·)→b.Pairwise (· < ·)→(∀n,n∈a↔n∈b)→a=b
  | [],[],_,_,_=>rfl
  | [],y::r,_,_,h=>absurd ((h y).2 (by simp)) (by simp)
  | x::r,[],_,_,h=>absurd ((h x).1 (by simp)) (by simp)
  | x::r,y::s,ha,hb,h=>by
    obtain⟨a1,a2⟩:=List.pairwise_cons.1 ha
    obtain⟨b1,b2⟩:=List.pairwise_cons.1 hb
    have e:x=y:=by
      rcases List.mem_cons.1 ((h x).1 (by simp)) with e | e
      · exact e
      · rcases List.mem_cons.1 ((h y).2 (by simp)) with e2 | e2
        · exact e2.symm
        · have:=a1 y e2;have:=b1 x e;omega
    subst e
    congr 1
    refine ups_eq a2 b2 fun n=>⟨fun hn=>?_,fun hn=>?_⟩
    · rcases List.mem_cons.1 ((h n).1 (List.mem_cons_of_mem _ hn)) with e | e
      · subst e;have:=a1 n hn;omega
      · exact e
    · rcases List.mem_cons.1 ((h n).2 (List.mem_cons_of_mem _ hn)) with e | e
      · subst e;have:=b1 n hn;omega
      · exact e
end Go.Proofs.YtgepebndihfnfaaGreat.Ses

namespace Go.Proofs.YtgepebndihfnfaaGreat.Sx
open Go Go.Sort
end Go.Proofs.YtgepebndihfnfaaGreat.Sx
namespace Go.Proofs.YtgepebndihfnfaaGreat.Ses
open Go Go.Proofs Go.Proofs.YtgepebndihfnfaaGreat.Sx Go.Shelf Go.Sort
open Go Go.Proofs Go.Proofs.YtgepebndihfnfaaGreat.Sx
noncomputable def ccomT:Tri:={γ:=CommitD,n0:=0,args:=fun c=>[.agg (enc .commit c)],blks:=fun _=>[],pre:=fun _=>True,δ:=Unit,post:=fun _ _=>True,n1:=0,res:=fun c _=>.agg (enc .commit c),blks':=fun _ _=>[],scal:=false}
noncomputable def ccomsI:St→LInv:=fun s=>match getE s.env 0 with
  | .rslice _ .commit l=>{σ:=Nat,I:=fun i=>i≤l.length,μ:=fun i=>l.length-i,env:=fun i=>[(4,.int .i64 i),(3,.mslice .commit s.m.next 0 i)],blk:=fun i=>[(s.m.next,.rows .commit (l.take i))],fresh:=1,drop:=[]}
  | _=>LInv.none
noncomputable def ccomsE:Envr:=Env Tryz.prog cod [(157,ccomT.spec)] [(3,ccomsI)]
noncomputable def ccomsT:Tri:={γ:=List CommitD,n0:=0,args:=fun l=>[.rslice false .commit l],blks:=fun _=>[],pre:=fun _=>True,δ:=Unit,post:=fun _ _=>True,n1:=0,res:=fun l _=>.rslice false .commit l,blks':=fun _ _=>[],scal:=false}
noncomputable def cverE:Envr:=Env Tryz.prog cod [(141,ccomsT.spec)] []
noncomputable def cverT:Tri:={γ:=VerdictD,n0:=0,args:=fun v=>[.agg v.enc],blks:=fun _=>[],pre:=fun _=>True,δ:=Unit,post:=fun _ _=>True,n1:=0,res:=fun v _=>.agg v.enc,blks':=fun _ _=>[],scal:=false}
noncomputable def seekI (ix key:Nat):St→LInv:=fun s=>match getE s.env 0,getE s.env key with
  | .mptr n _,k=>match s.m.blks.get n with
    | some (.cells [_,.mslice _ q _ _])=>match s.m.blks.get q with
      | some (.rows .session l)=>
        {σ:=Nat,I:=fun i=>i≤l.length ∧ ∀(j:Nat) x,j<i→l[j]?=some x→(match k with | .int _ n=>idIs n x | .str n=>nameIs n x | _=>false)=false,
          μ:=fun i=>l.length-i,env:=fun i=>[(ix,.int .i64 i)],blk:=fun _=>[],fresh:=0,drop:=[]}
      | _=>LInv.none
    | _=>LInv.none
  | _,_=>LInv.none
noncomputable def rfindE:Envr:=Env Tryz.prog cod [] [(2,seekI 5 1)]
noncomputable def rfindT:Tri:={γ:=TabI,n0:=2,args:=fun x=>[.mptr 0 0,.int .i64 x.n],blks:=fun x=>tabB x.size x.l 1,pre:=fun x=>True,δ:=Unit,post:=fun _ _=>True,n1:=0,res:=fun x _=>.int .i64 (idxF (idIs x.n) x.l),blks':=fun x _=>tabB x.size x.l 1,scal:=false}
noncomputable def rlastT:Tri:={γ:=TabI,n0:=2,args:=fun x=>[.mptr 0 0,.int .i64 x.n],blks:=fun x=>tabB x.size x.l 1,pre:=fun x=>decide (0≤x.n∧x.n<x.l.length)=true∧decide (x.l.length≤1024)=true,δ:=Unit,post:=fun _ _=>True,n1:=1,res:=fun x _=>.tuple [],blks':=fun x _=>tabB x.size (usedL x.l x.n) 2,scal:=false}
noncomputable def ropenE:Envr:=Env Tryz.prog cod [(209,rfindT.spec),(208,rlastT.spec)] [(2,seekI 7 1)]
noncomputable def ropenT:Tri:={γ:=OpenA,n0:=2,args:=fun x=>[.mptr 0 0,.str x.name,.int .i64 x.id],blks:=fun x=>tabB x.size x.l 1,pre:=fun x=>decide (0<x.size)=true∧decide (x.l.length≤1024)=true∧decide ((x.l.length:Int)≤x.size)=true,δ:=Unit,post:=fun _ _=>True,n1:=1,res:=fun x _=>.int .i64 (openL x).1,blks':=fun x _=>tabB x.size (openL x).2 2,scal:=false}
noncomputable def raskE:Envr:=Env Tryz.prog cod [(209,rfindT.spec),(208,rlastT.spec),(100,cverT.spec)] []
noncomputable def raskT:Tri:={γ:=AskA,n0:=2,args:=fun x=>[.mptr 0 0,.int .i64 x.id,.int .i64 x.seq],blks:=fun x=>tabB x.size x.l 1,pre:=fun x=>decide (x.l.length≤1024)=true,δ:=Unit,post:=fun _ _=>True,n1:=1,res:=fun x _=>.tuple [.agg (askL x).1.1.enc,.bool (askL x).1.2],blks':=fun x _=>tabB x.size (askL x).2 2,scal:=false}
noncomputable def rdoneT:Tri:={γ:=DoneA,n0:=2,args:=fun x=>[.mptr 0 0,.int .i64 x.id,.int .i64 x.seq,.agg x.v.enc],blks:=fun x=>tabB x.size x.l 1,pre:=fun x=>True,δ:=Unit,post:=fun _ _=>True,n1:=1,res:=fun x _=>.bool (doneL x).1,blks':=fun x _=>tabB x.size (doneL x).2 2,scal:=false}
set_option maxRecDepth 100000
abbrev ccomQ1 (x:ccomT.γ):=0+(CommitD.changes x).length
abbrev ccomQ2 (x:ccomT.γ):=@HAppend.hAppend (List ChangeD) (List ChangeD) (List ChangeD) _ (List.take 0 (List.drop 0 ([]:List ChangeD))) (CommitD.changes x)
theorem ccom_vc (x:ccomT.γ):evCall noE (ev noE 1000) 157 (ccomT.args x) ⟨ccomT.blks x,ccomT.n0,[]⟩ (fun _ _=>False) (ccomT.ends x)=(
Nat.le (0*32) room47∧
Nat.le ((CommitD.changes x).length*32) room47→
br (Bool.and (Bool.and true (decide (0+0≤([]:List ChangeD).length))) (decide (ccomQ1 x*32≤room47))) (∃x1:Unit,CommitD.rev x=CommitD.rev x∧
CommitD.base x=CommitD.base x∧
CommitD.ref x=CommitD.ref x∧
0+ccomQ1 x≤(ccomQ2 x).length∧
List.take (ccomQ1 x) (List.drop 0 (ccomQ2 x))=CommitD.changes x∧
True) (Bad "check" "ref.go:140")):=by kernel_rfl
abbrev ccomsQ1 (x3:CommitD):=List.take 1 (List.drop 0 [CommitD.mk x3.rev x3.base x3.ref x3.changes])
theorem ccoms_vc (x:ccomsT.γ):evCall ccomsE (ev ccomsE 1000) 141 (ccomsT.args x) ⟨ccomsT.blks x,ccomsT.n0,[]⟩ (fun _ _=>False) (ccomsT.ends x)=(
(∃x1:Nat,(0:Int)=(↑x1:Int)∧
0=x1∧
([]:List CommitD)=List.take x1 x∧
Nat.le x1 (List.length x))∧
∀x2:Nat,Nat.le x2 (List.length x)→
List.length x*56≤room47→
br (decide ((↑x2:Int)<(↑(List.length x):Int))) (br (decide ((0:Int)≤(↑x2:Int)∧
(↑x2:Int)<(↑(List.length x):Int))) (∃x3:CommitD,EqC (List.getD x (↑x2:Int).toNat (CommitD.mk (0:Int) (0:Int) ([]:List UInt8) ([]:List ChangeD))) x3 (True∧
∀x4:Unit,True→
Nat.le (x2*56) room47∧
Nat.le (1*56) room47→
br (Bool.and (Bool.and (decide (0+1≤[CommitD.mk x3.rev x3.base x3.ref x3.changes].length)) (decide (0+x2≤(List.take x2 x).length))) (decide ((x2+(ccomsQ1 x3).length)*56≤room47))) (∃x5:Nat,IntKind.wrap IntKind.i64 ((↑x2:Int)+(1:Int))=(↑x5:Int)∧
0=0∧
x2+(ccomsQ1 x3).length=x5∧
@HAppend.hAppend (List CommitD) (List CommitD) (List CommitD) _ (List.take x2 (List.drop 0 (List.take x2 x))) (ccomsQ1 x3)=List.take x5 x∧
Nat.le x5 (List.length x)∧
Nat.sub (List.length x) x5<Nat.sub (List.length x) x2) (Bad "check" "ref.go:148"))) (Bad "check" "ref.go:148")) (∃x6:Unit,0+x2≤(List.take x2 x).length∧
List.take x2 (List.drop 0 (List.take x2 x))=x∧
True)):=by kernel_rfl
theorem cver_vc (x:cverT.γ):evCall cverE (ev cverE 1000) 100 (cverT.args x) ⟨cverT.blks x,cverT.n0,[]⟩ (fun _ _=>False) (cverT.ends x)=(
∃x1:(List CommitD),VerdictD.commits x=x1∧
True∧
∀x2:Unit,True→
∃x3:Unit,EqV7 (VerdictD.code x) (VerdictD.session x) (VerdictD.rev x) (VerdictD.path x) (VerdictD.digest x) x1 (VerdictD.member x) x True):=by kernel_rfl
abbrev rfindQ1 (x1:Nat) (x:rfindT.γ):=x1≤(TabI.l x).length∧
∀x2:Nat,∀x3:SessionD,x2<x1→
@GetElem?.getElem? (List SessionD) Nat SessionD (fun x4:(List SessionD)=>fun x5:Nat=>x5<x4.length) _ (TabI.l x) x2=Option.some x3→
idIs (TabI.n x) x3=false
abbrev rfindQ2 (x:rfindT.γ):=EqT (TabI.size x) (TabI.size x) (TabI.l x) (TabI.l x) True
theorem rfind_vc (x:rfindT.γ):evCall rfindE (ev rfindE 1000) 209 (rfindT.args x) ⟨rfindT.blks x,rfindT.n0,[]⟩ (fun _ _=>False) (rfindT.ends x)=(
(∃x1:Nat,(0:Int)=(↑x1:Int)∧
rfindQ1 x1 x)∧
∀x6:Nat,rfindQ1 x6 x→
(TabI.l x).length*112≤room47→
br (decide ((↑x6:Int)<(↑(TabI.l x).length:Int))) (br (decide ((0:Int)≤(↑x6:Int)∧
(↑x6:Int)<(↑(TabI.l x).length:Int))) (br (decide (0+(↑x6:Int).toNat<(TabI.l x).length)) (br ((List.getD (TabI.l x) (0+(↑x6:Int).toNat) (SessionD.mk (0:Int) (0:Int) ([]:List UInt8) VerdictD.dflt)).id==TabI.n x) (∃x11:Unit,(↑x6:Int)=idxF (idIs (TabI.n x)) (TabI.l x)∧
rfindQ2 x) (∃x12:Nat,IntKind.wrap IntKind.i64 ((↑x6:Int)+(1:Int))=(↑x12:Int)∧
rfindQ1 x12 x∧
Nat.sub (TabI.l x).length x12<Nat.sub (TabI.l x).length x6)) (Bad "check" "ref.go:68")) (Bad "check" "ref.go:68")) (∃x17:Unit,@Neg.neg Int _ (1:Int)=idxF (idIs (TabI.n x)) (TabI.l x)∧
rfindQ2 x)):=by kernel_rfl
abbrev rlastQ1 (x:rlastT.γ):=cutN (TabI.l x).length (none:Option Int) (Option.some (TabI.n x))
abbrev rlastQ2 (x:rlastT.γ):=List.take (rlastQ1 x) (List.drop (addN 0 (none:Option Int)) (TabI.l x))
abbrev rlastQ3 (x:rlastT.γ):=Option.some (IntKind.wrap IntKind.i64 (TabI.n x+(1:Int)))
abbrev rlastQ4 (x:rlastT.γ):=cutN (TabI.l x).length (rlastQ3 x) (none:Option Int)
abbrev rlastQ5 (x:rlastT.γ):=@HAppend.hAppend (List SessionD) (List SessionD) (List SessionD) _ (List.take 0 (List.drop 0 ([]:List SessionD))) (rlastQ2 x)
abbrev rlastQ6 (x:rlastT.γ):=List.take (rlastQ4 x) (List.drop (addN 0 (rlastQ3 x)) (TabI.l x))
abbrev rlastQ7 (x:rlastT.γ):=0+(rlastQ2 x).length+(rlastQ6 x).length
abbrev rlastQ8 (x:rlastT.γ):=List.getD (TabI.l x) (0+(TabI.n x).toNat) (SessionD.mk (0:Int) (0:Int) ([]:List UInt8) VerdictD.dflt)
abbrev rlastQ9 (x:rlastT.γ):=[SessionD.mk (rlastQ8 x).id (rlastQ8 x).seq (rlastQ8 x).name (VerdictD.mk (rlastQ8 x).last.code (rlastQ8 x).last.session (rlastQ8 x).last.rev (rlastQ8 x).last.path (rlastQ8 x).last.digest (rlastQ8 x).last.commits (rlastQ8 x).last.member)]
abbrev rlastQ10 (x:rlastT.γ):=@HAppend.hAppend (List SessionD) (List SessionD) (List SessionD) _ (List.take (0+(rlastQ2 x).length) (List.drop 0 (rlastQ5 x))) (rlastQ6 x)
abbrev rlastQ11 (x:rlastT.γ):=rlastQ7 x+(List.take 1 (List.drop 0 (rlastQ9 x))).length
theorem rlast_vc (x:rlastT.γ):evCall noE (ev noE 1000) 208 (rlastT.args x) ⟨rlastT.blks x,rlastT.n0,[]⟩ (fun _ _=>False) (rlastT.ends x)=(
br (decide ((0:Int)≤TabI.n x∧
TabI.n x<(↑(TabI.l x).length:Int))) (br (decide (0+(TabI.n x).toNat<(TabI.l x).length)) (br (bndB (TabI.l x).length (none:Option Int) (Option.some (TabI.n x)) (none:Option Int)) (Nat.le (0*112) room47∧
Nat.le (rlastQ1 x*112) room47→
br (Bool.and (Bool.and (decide (addN 0 (none:Option Int)+rlastQ1 x≤(TabI.l x).length)) (decide (0+0≤([]:List SessionD).length))) (decide ((0+(rlastQ2 x).length)*112≤room47))) (br (bndB (TabI.l x).length (rlastQ3 x) (none:Option Int) (none:Option Int)) (Nat.le ((0+(rlastQ2 x).length)*112) room47∧
Nat.le (rlastQ4 x*112) room47→
br (Bool.and (Bool.and (decide (addN 0 (rlastQ3 x)+rlastQ4 x≤(TabI.l x).length)) (decide (0+(0+(rlastQ2 x).length)≤(rlastQ5 x).length))) (decide (rlastQ7 x*112≤room47))) (Nat.le (rlastQ7 x*112) room47∧
Nat.le (1*112) room47→
br (Bool.and (Bool.and (decide (0+1≤(rlastQ9 x).length)) (decide (0+rlastQ7 x≤(rlastQ10 x).length))) (decide (rlastQ11 x*112≤room47))) (∃x1:Unit,TabI.size x=TabI.size x∧
0=0∧
rlastQ11 x=(usedL (TabI.l x) (TabI.n x)).length∧
@HAppend.hAppend (List SessionD) (List SessionD) (List SessionD) _ (List.take (rlastQ7 x) (List.drop 0 (rlastQ10 x))) (List.take 1 (List.drop 0 (rlastQ9 x)))=usedL (TabI.l x) (TabI.n x)∧
True) (Bad "check" "ref.go:62")) (Bad "check" "ref.go:61")) (Bad "check" "ref.go:61")) (Bad "check" "ref.go:60")) (Bad "check" "ref.go:60")) (Bad "check" "ref.go:59")) (Bad "check" "ref.go:59")):=by kernel_rfl
abbrev ropenQ1 (x1:Nat) (x:ropenT.γ):=x1≤(OpenA.l x).length∧
∀x2:Nat,∀x3:SessionD,x2<x1→
@GetElem?.getElem? (List SessionD) Nat SessionD (fun x4:(List SessionD)=>fun x5:Nat=>x5<x4.length) _ (OpenA.l x) x2=Option.some x3→
nameIs (OpenA.name x) x3=false
abbrev ropenQ2 (x6:Nat) (x:ropenT.γ):=decide ((0:Int)≤(↑x6:Int)∧
(↑x6:Int)<(↑(OpenA.l x).length:Int))
abbrev ropenQ3 (x:ropenT.γ) (x6:Nat):=List.getD (OpenA.l x) (0+(↑x6:Int).toNat) (SessionD.mk (0:Int) (0:Int) ([]:List UInt8) VerdictD.dflt)
abbrev ropenQ4 (x19:TabI):=cutN x19.l.length (none:Option Int) (Option.some (idxF (idIs x19.n) x19.l))
abbrev ropenQ5  := decide (0+0≤([]:List SessionD).length)
abbrev ropenQ6 (x19:TabI):=List.take (ropenQ4 x19) (List.drop (addN 0 (none:Option Int)) x19.l)
abbrev ropenQ7 (x19:TabI):=Option.some (IntKind.wrap IntKind.i64 (idxF (idIs x19.n) x19.l+(1:Int)))
abbrev ropenQ8 (x19:TabI):=cutN x19.l.length (ropenQ7 x19) (none:Option Int)
abbrev ropenQ9  := List.take 0 (List.drop 0 ([]:List SessionD))
abbrev ropenQ10 (x19:TabI):=@HAppend.hAppend (List SessionD) (List SessionD) (List SessionD) _ ropenQ9 (ropenQ6 x19)
abbrev ropenQ11 (x19:TabI):=List.take (ropenQ8 x19) (List.drop (addN 0 (ropenQ7 x19)) x19.l)
abbrev ropenQ12 (x19:TabI):=0+(ropenQ6 x19).length+(ropenQ11 x19).length
abbrev ropenQ13 (x19:TabI):=cutN (ropenQ12 x19) (Option.some (1:Int)) (none:Option Int)
abbrev ropenQ14  := addN 0 (Option.some (1:Int))
abbrev ropenQ15 (x19:TabI):=@HAppend.hAppend (List SessionD) (List SessionD) (List SessionD) _ (List.take (0+(ropenQ6 x19).length) (List.drop 0 (ropenQ10 x19))) (ropenQ11 x19)
abbrev ropenQ16 (x19:TabI):=List.take (ropenQ13 x19) (List.drop ropenQ14 (ropenQ15 x19))
abbrev ropenQ17 (x:ropenT.γ):=[SessionD.mk (OpenA.id x) (0:Int) (OpenA.name x) (VerdictD.mk (0:Int) (0:Int) (0:Int) ([]:List UInt8) (0:Int) ([]:List CommitD) (0:Int))]
abbrev ropenQ18 (x:ropenT.γ):=decide (0+1≤(ropenQ17 x).length)
abbrev ropenQ19 (x19:TabI):=@HAppend.hAppend (List SessionD) (List SessionD) (List SessionD) _ ropenQ9 (ropenQ16 x19)
abbrev ropenQ20 (x:ropenT.γ):=List.take 1 (List.drop 0 (ropenQ17 x))
abbrev ropenQ21 (x19:TabI):=cutN x19.l.length (Option.some (1:Int)) (none:Option Int)
abbrev ropenQ22 (x19:TabI):=0+(List.take (ropenQ21 x19) (List.drop ropenQ14 x19.l)).length
abbrev ropenQ23 (x19:TabI):=@HAppend.hAppend (List SessionD) (List SessionD) (List SessionD) _ ropenQ9 (List.take (ropenQ21 x19) (List.drop ropenQ14 x19.l))
theorem ropen_vc (x:ropenT.γ):evCall ropenE (ev ropenE 1000) 158 (ropenT.args x) ⟨ropenT.blks x,ropenT.n0,[]⟩ (fun _ _=>False) (ropenT.ends x)=(
(∃x1:Nat,(0:Int)=(↑x1:Int)∧
ropenQ1 x1 x)∧
∀x6:Nat,ropenQ1 x6 x→
(OpenA.l x).length*112≤room47→
br (decide ((↑x6:Int)<(↑(OpenA.l x).length:Int))) (br (ropenQ2 x6 x) (br (decide (0+(↑x6:Int).toNat<(OpenA.l x).length)) (br ((ropenQ3 x x6).name==OpenA.name x) (br (ropenQ2 x6 x) (br (decide (0+(↑x6:Int).toNat<(OpenA.l x).length)) (∃x11:TabI,(↑x6:Int)=x11.n∧
EqT (OpenA.size x) x11.size (OpenA.l x) x11.l ((decide ((0:Int)≤x11.n∧
x11.n<(↑x11.l.length:Int))=true∧
decide (x11.l.length≤1024)=true)∧
∀x12:Unit,True→
∃x13:Unit,(ropenQ3 x x6).id=(openL x).1∧
EqT x11.size (OpenA.size x) (usedL x11.l x11.n) (openL x).2 True)) (Bad "check" "ref.go:79")) (Bad "check" "ref.go:79")) (∃x14:Nat,IntKind.wrap IntKind.i64 ((↑x6:Int)+(1:Int))=(↑x14:Int)∧
ropenQ1 x14 x∧
Nat.sub (OpenA.l x).length x14<Nat.sub (OpenA.l x).length x6)) (Bad "check" "ref.go:78")) (Bad "check" "ref.go:78")) (∃x19:TabI,OpenA.id x=x19.n∧
EqT (OpenA.size x) x19.size (OpenA.l x) x19.l (True∧
∀x20:Unit,True→
br (decide (@GE.ge Int _ (idxF (idIs x19.n) x19.l) (0:Int))) (br (bndB x19.l.length (none:Option Int) (Option.some (idxF (idIs x19.n) x19.l)) (none:Option Int)) (Nat.le (0*112) room47∧
Nat.le (ropenQ4 x19*112) room47→
br (Bool.and (Bool.and (decide (addN 0 (none:Option Int)+ropenQ4 x19≤x19.l.length)) ropenQ5) (decide ((0+(ropenQ6 x19).length)*112≤room47))) (br (bndB x19.l.length (ropenQ7 x19) (none:Option Int) (none:Option Int)) (Nat.le ((0+(ropenQ6 x19).length)*112) room47∧
Nat.le (ropenQ8 x19*112) room47→
br (Bool.and (Bool.and (decide (addN 0 (ropenQ7 x19)+ropenQ8 x19≤x19.l.length)) (decide (0+(0+(ropenQ6 x19).length)≤(ropenQ10 x19).length))) (decide (ropenQ12 x19*112≤room47))) (ropenQ12 x19*112≤room47→
br (decide (@GE.ge Int _ (↑(ropenQ12 x19):Int) x19.size)) (br (bndB (ropenQ12 x19) (Option.some (1:Int)) (none:Option Int) (none:Option Int)) (Nat.le (0*112) room47∧
Nat.le (ropenQ13 x19*112) room47→
br (Bool.and (Bool.and (decide (ropenQ14+ropenQ13 x19≤(ropenQ15 x19).length)) ropenQ5) (decide ((0+(ropenQ16 x19).length)*112≤room47))) (Nat.le ((0+(ropenQ16 x19).length)*112) room47∧
Nat.le (1*112) room47→
br (Bool.and (Bool.and (ropenQ18 x) (decide (0+(0+(ropenQ16 x19).length)≤(ropenQ19 x19).length))) (decide ((0+(ropenQ16 x19).length+(ropenQ20 x).length)*112≤room47))) (∃x21:Unit,OpenA.id x=(openL x).1∧
x19.size=OpenA.size x∧
0=0∧
0+(ropenQ16 x19).length+(ropenQ20 x).length=(openL x).2.length∧
@HAppend.hAppend (List SessionD) (List SessionD) (List SessionD) _ (List.take (0+(ropenQ16 x19).length) (List.drop 0 (ropenQ19 x19))) (ropenQ20 x)=(openL x).2∧
True) (Bad "check" "ref.go:92")) (Bad "check" "ref.go:90")) (Bad "check" "ref.go:90")) (Nat.le (ropenQ12 x19*112) room47∧
Nat.le (1*112) room47→
br (Bool.and (Bool.and (ropenQ18 x) (decide (0+ropenQ12 x19≤(ropenQ15 x19).length))) (decide ((ropenQ12 x19+(ropenQ20 x).length)*112≤room47))) (∃x22:Unit,OpenA.id x=(openL x).1∧
x19.size=OpenA.size x∧
0=0∧
ropenQ12 x19+(ropenQ20 x).length=(openL x).2.length∧
@HAppend.hAppend (List SessionD) (List SessionD) (List SessionD) _ (List.take (ropenQ12 x19) (List.drop 0 (ropenQ15 x19))) (ropenQ20 x)=(openL x).2∧
True) (Bad "check" "ref.go:92"))) (Bad "check" "ref.go:87")) (Bad "check" "ref.go:87")) (Bad "check" "ref.go:86")) (Bad "check" "ref.go:86")) (x19.l.length*112≤room47→
br (decide (@GE.ge Int _ (↑x19.l.length:Int) x19.size)) (br (bndB x19.l.length (Option.some (1:Int)) (none:Option Int) (none:Option Int)) (Nat.le (0*112) room47∧
Nat.le (ropenQ21 x19*112) room47→
br (Bool.and (Bool.and (decide (ropenQ14+ropenQ21 x19≤x19.l.length)) ropenQ5) (decide (ropenQ22 x19*112≤room47))) (Nat.le (ropenQ22 x19*112) room47∧
Nat.le (1*112) room47→
br (Bool.and (Bool.and (ropenQ18 x) (decide (0+ropenQ22 x19≤(ropenQ23 x19).length))) (decide ((ropenQ22 x19+(ropenQ20 x).length)*112≤room47))) (∃x23:Unit,OpenA.id x=(openL x).1∧
x19.size=OpenA.size x∧
0=0∧
ropenQ22 x19+(ropenQ20 x).length=(openL x).2.length∧
@HAppend.hAppend (List SessionD) (List SessionD) (List SessionD) _ (List.take (ropenQ22 x19) (List.drop 0 (ropenQ23 x19))) (ropenQ20 x)=(openL x).2∧
True) (Bad "check" "ref.go:92")) (Bad "check" "ref.go:90")) (Bad "check" "ref.go:90")) (Nat.le (x19.l.length*112) room47∧
Nat.le (1*112) room47→
br (Bool.and (Bool.and (ropenQ18 x) (decide (0+x19.l.length≤x19.l.length))) (decide ((x19.l.length+(ropenQ20 x).length)*112≤room47))) (∃x24:Unit,OpenA.id x=(openL x).1∧
x19.size=OpenA.size x∧
0=0∧
x19.l.length+(ropenQ20 x).length=(openL x).2.length∧
@HAppend.hAppend (List SessionD) (List SessionD) (List SessionD) _ (List.take x19.l.length (List.drop 0 x19.l)) (ropenQ20 x)=(openL x).2∧
True) (Bad "check" "ref.go:92")))))):=by kernel_rfl
abbrev raskQ1 (x:raskT.γ) (x4:TabI):=true=(askL x).1.2∧
EqT x4.size (AskA.size x) (usedL x4.l x4.n) (askL x).2 True
abbrev raskQ2 (x1:TabI):=List.getD x1.l (0+(idxF (idIs x1.n) x1.l).toNat) (SessionD.mk (0:Int) (0:Int) ([]:List UInt8) VerdictD.dflt)
theorem rask_vc (x:raskT.γ):evCall raskE (ev raskE 1000) 159 (raskT.args x) ⟨raskT.blks x,raskT.n0,[]⟩ (fun _ _=>False) (raskT.ends x)=(
∃x1:TabI,AskA.id x=x1.n∧
EqT (AskA.size x) x1.size (AskA.l x) x1.l (True∧
∀x2:Unit,True→
br (decide (idxF (idIs x1.n) x1.l<(0:Int))) (∃x3:Unit,EqV7 (6:Int) (0:Int) (0:Int) ([]:List UInt8) (0:Int) ([]:List CommitD) (0:Int) (askL x).1.1 (true=(askL x).1.2∧
EqT x1.size (AskA.size x) x1.l (askL x).2 True)) (br (decide ((0:Int)≤idxF (idIs x1.n) x1.l∧
idxF (idIs x1.n) x1.l<(↑x1.l.length:Int))) (br (decide (0+(idxF (idIs x1.n) x1.l).toNat<x1.l.length)) (∃x4:TabI,idxF (idIs x1.n) x1.l=x4.n∧
EqT x1.size x4.size x1.l x4.l ((decide ((0:Int)≤x4.n∧
x4.n<(↑x4.l.length:Int))=true∧
decide (x4.l.length≤1024)=true)∧
∀x5:Unit,True→
br (decide (AskA.seq x<(1:Int))) (∃x6:Unit,EqV7 (5:Int) (0:Int) (0:Int) ([]:List UInt8) (0:Int) ([]:List CommitD) (0:Int) (askL x).1.1 (raskQ1 x x4)) (br (decide (AskA.seq x<(raskQ2 x1).seq)) (∃x7:Unit,EqV7 (7:Int) (0:Int) (0:Int) ([]:List UInt8) (0:Int) ([]:List CommitD) (0:Int) (askL x).1.1 (raskQ1 x x4)) (br (AskA.seq x==(raskQ2 x1).seq) (∃x8:VerdictD,EqV (raskQ2 x1).last x8 (True∧
∀x9:Unit,True→
∃x10:Unit,EqV x8 (askL x).1.1 (raskQ1 x x4))) (∃x11:Unit,EqV7 (0:Int) (0:Int) (0:Int) ([]:List UInt8) (0:Int) ([]:List CommitD) (0:Int) (askL x).1.1 (false=(askL x).1.2∧
EqT x4.size (AskA.size x) (usedL x4.l x4.n) (askL x).2 True)))))) (Bad "check" "ref.go:102")) (Bad "check" "ref.go:102")))):=by kernel_rfl
abbrev rdoneQ1 (x:rdoneT.γ) (x1:TabI):=∃x3:Unit,false=(doneL x).1∧
EqT x1.size (DoneA.size x) x1.l (doneL x).2 True
abbrev rdoneQ2 (x1:TabI):=decide ((0:Int)≤idxF (idIs x1.n) x1.l∧
idxF (idIs x1.n) x1.l<(↑x1.l.length:Int))
abbrev rdoneQ3 (x1:TabI):=0+(idxF (idIs x1.n) x1.l).toNat
abbrev rdoneQ4  := SessionD.mk (0:Int) (0:Int) ([]:List UInt8) VerdictD.dflt
abbrev rdoneQ5 (x1:TabI):=List.getD x1.l (rdoneQ3 x1) rdoneQ4
abbrev rdoneQ6 (x1:TabI) (x:rdoneT.γ):=List.set x1.l (rdoneQ3 x1) (SessionD.mk (rdoneQ5 x1).id (DoneA.seq x) (rdoneQ5 x1).name (VerdictD.mk (rdoneQ5 x1).last.code (rdoneQ5 x1).last.session (rdoneQ5 x1).last.rev (rdoneQ5 x1).last.path (rdoneQ5 x1).last.digest (rdoneQ5 x1).last.commits (rdoneQ5 x1).last.member))
abbrev rdoneQ7 (x1:TabI) (x:rdoneT.γ):=List.getD (rdoneQ6 x1 x) (rdoneQ3 x1) rdoneQ4
theorem rdone_vc (x:rdoneT.γ):evCall raskE (ev raskE 1000) 161 (rdoneT.args x) ⟨rdoneT.blks x,rdoneT.n0,[]⟩ (fun _ _=>False) (rdoneT.ends x)=(
∃x1:TabI,DoneA.id x=x1.n∧
EqT (DoneA.size x) x1.size (DoneA.l x) x1.l (True∧
∀x2:Unit,True→
br (decide (idxF (idIs x1.n) x1.l<(0:Int))) (rdoneQ1 x x1) (br (rdoneQ2 x1) (br (decide (rdoneQ3 x1<x1.l.length)) (br (decide (DoneA.seq x≤(rdoneQ5 x1).seq)) (rdoneQ1 x x1) (br (rdoneQ2 x1) (br (Bool.and true (decide (rdoneQ3 x1<x1.l.length))) (∃x5:VerdictD,EqV (DoneA.v x) x5 (True∧
∀x6:Unit,True→
br (rdoneQ2 x1) (br (Bool.and true (decide (rdoneQ3 x1<(rdoneQ6 x1 x).length))) (∃x7:Unit,true=(doneL x).1∧
x1.size=DoneA.size x∧
0=0∧
x1.l.length=(doneL x).2.length∧
List.set (rdoneQ6 x1 x) (rdoneQ3 x1) (SessionD.mk (rdoneQ7 x1 x).id (rdoneQ7 x1 x).seq (rdoneQ7 x1 x).name (VerdictD.mk x5.code x5.session x5.rev x5.path x5.digest x5.commits x5.member))=(doneL x).2∧
True) (Bad "check" "ref.go:122")) (Bad "check" "ref.go:122"))) (Bad "check" "ref.go:121")) (Bad "check" "ref.go:121"))) (Bad "check" "ref.go:118")) (Bad "check" "ref.go:118")))):=by kernel_rfl
theorem ccom_ok:SpecOK Tryz.prog 157 ccomT.spec:=by
  refine Tri.ok (E:=noE) (Env_ok (by decide +kernel) (by simp)) (n:=1000) ccomT fun x hx=>?_
  rw [ccom_vc]
  delta ccomQ2 ccomQ1
  clear hx
  revert x
  intro (x:CommitD)
  try simp only [br_bad,decide_eq_true_eq,Bool.and_eq_true,List.take_zero,List.nil_append,List.drop_zero,Nat.zero_add,Int.toNat_natCast,Nat.sub_eq,true_and,and_true,exists_const,List.length_nil,Nat.zero_le,Nat.zero_mul,Nat.le_refl,List.length_set,List.take_length,Int.natCast_nonneg,forall_const,implies_true,Int.toNat_zero,Nat.le_eq,Int.le_refl,addN,cutN,loN,hiN,bndB,Option.getD,List.length_cons,List.take_succ_cons,List.length_take,List.length_drop,Option.isNone,Nat.add_zero,Nat.min_self]
  try simp only [br_iff,decide_eq_true_eq,decide_eq_false_iff_not,room47,Bool.not_eq_true',Bool.not_eq_false',gt_iff_lt]
  exact fun h=>h
theorem ccoms_ok:SpecOK Tryz.prog 141 ccomsT.spec:=by
  refine Tri.ok (E:=ccomsE) (Env_ok (by decide +kernel) (by simp [ccom_ok])) (n:=1000) ccomsT fun x hx=>?_
  rw [ccoms_vc]
  delta ccomsQ1 EqC
  clear hx
  revert x
  intro (x:List CommitD)
  try simp only [br_bad,decide_eq_true_eq,Bool.and_eq_true,List.take_zero,List.nil_append,List.drop_zero,Nat.zero_add,Int.toNat_natCast,Nat.sub_eq,true_and,and_true,exists_const,List.length_nil,Nat.zero_le,Nat.zero_mul,Nat.le_refl,List.length_set,List.take_length,Int.natCast_nonneg,forall_const,implies_true,Int.toNat_zero,Nat.le_eq,Int.le_refl,addN,cutN,loN,hiN,bndB,Option.getD,List.length_cons,List.take_succ_cons,List.length_take,List.length_drop,Option.isNone,Nat.add_zero,Nat.min_self]
  try simp only [br_iff,decide_eq_true_eq,decide_eq_false_iff_not,room47,Bool.not_eq_true',Bool.not_eq_false',gt_iff_lt]
  refine⟨⟨0,rfl,rfl,rfl,by omega⟩,fun i hi b=>⟨fun h=>⟨h,x.getD i _,rfl,rfl,rfl,rfl,fun _=>⟨⟨by omega,by omega⟩,i+1,by rw [wrap_id (by omega) (by omega)];rfl,rfl,?_,by omega,by omega⟩⟩,fun h=>⟨by omega,?_⟩⟩⟩
  · have hlt:i<x.length:=by omega
    rw [List.take_of_length_le (l:=x.take i) (by simp;omega)]
    have h2:x.take (i+1)=x.take i++[x[i]]:=by simp
    rw [h2]
    have h3:x.getD i ⟨0,0,[],[]⟩=x[i]:=by simp [hlt]
    rw [h3]
  · rw [List.take_of_length_le (l:=x.take i) (by simp;omega),List.take_of_length_le (by omega)]
theorem cver_ok:SpecOK Tryz.prog 100 cverT.spec:=by
  refine Tri.ok (E:=cverE) (Env_ok (by decide +kernel) (by simp [ccoms_ok])) (n:=1000) cverT fun x hx=>?_
  rw [cver_vc]
  delta EqV7
  clear hx
  revert x
  intro (x:VerdictD)
  try simp only [br_bad,decide_eq_true_eq,Bool.and_eq_true,List.take_zero,List.nil_append,List.drop_zero,Nat.zero_add,Int.toNat_natCast,Nat.sub_eq,true_and,and_true,exists_const,List.length_nil,Nat.zero_le,Nat.zero_mul,Nat.le_refl,List.length_set,List.take_length,Int.natCast_nonneg,forall_const,implies_true,Int.toNat_zero,Nat.le_eq,Int.le_refl,addN,cutN,loN,hiN,bndB,Option.getD,List.length_cons,List.take_succ_cons,List.length_take,List.length_drop,Option.isNone,Nat.add_zero,Nat.min_self]
  try simp only [br_iff,decide_eq_true_eq,decide_eq_false_iff_not,room47,Bool.not_eq_true',Bool.not_eq_false',gt_iff_lt]
  exact⟨_,rfl,rfl⟩
theorem rfind_ok:SpecOK Tryz.prog 209 rfindT.spec:=by
  refine Tri.ok (E:=rfindE) (Env_ok (by decide +kernel) (by simp)) (n:=1000) rfindT fun x hx=>?_
  rw [rfind_vc]
  delta rfindQ2 rfindQ1 EqT
  try simp only [br_bad,decide_eq_true_eq,Bool.and_eq_true,List.take_zero,List.nil_append,List.drop_zero,Nat.zero_add,Int.toNat_natCast,Nat.sub_eq,true_and,and_true,exists_const,List.length_nil,Nat.zero_le,Nat.zero_mul,Nat.le_refl,List.length_set,List.take_length,Int.natCast_nonneg,forall_const,implies_true,Int.toNat_zero,Nat.le_eq,Int.le_refl,addN,cutN,loN,hiN,bndB,Option.getD,List.length_cons,List.take_succ_cons,List.length_take,List.length_drop,Option.isNone,Nat.add_zero,Nat.min_self]
  try simp only [br_iff,decide_eq_true_eq,decide_eq_false_iff_not,room47,Bool.not_eq_true',Bool.not_eq_false',gt_iff_lt]
  obtain⟨size,l,n⟩:=x
  dsimp only
  refine⟨⟨0,rfl,by omega,by omega⟩,fun i ⟨h2,h3⟩ h1=>⟨fun h4=>⟨h4,by omega,fun h5=>?_,fun h5=>⟨i+1,?_,⟨by omega,?_⟩,by omega⟩⟩,fun h4=>(idxF_no fun j x hj=>h3 j x ?_ hj).symm⟩⟩
  · have:i<l.length:=by omega
    refine (idxF_at (i:=i) (x:=l[i]) (by simp) ?_ h3).symm
    simpa [this,idIs,nameIs] using h5
  · rw [wrap_id (by omega) (by omega)];rfl
  · intro j x hj hx
    have hlt:i<l.length:=by omega
    by_cases e:j=i
    · subst e
      simp only [hlt,List.getElem?_eq_getElem,Option.some.injEq] at hx
      subst hx
      simpa [hlt,idIs,nameIs] using h5
    · exact h3 j x (by omega) hx
  · have:=(List.getElem?_eq_some_iff.1 hj).1
    omega
theorem rlast_ok:SpecOK Tryz.prog 208 rlastT.spec:=by
  refine Tri.ok (E:=noE) (Env_ok (by decide +kernel) (by simp)) (n:=1000) rlastT fun x hx=>?_
  rw [rlast_vc]
  delta rlastQ11 rlastQ10 rlastQ9 rlastQ8 rlastQ7 rlastQ6 rlastQ5 rlastQ4 rlastQ3 rlastQ2 rlastQ1
  try simp only [br_bad,decide_eq_true_eq,Bool.and_eq_true,List.take_zero,List.nil_append,List.drop_zero,Nat.zero_add,Int.toNat_natCast,Nat.sub_eq,true_and,and_true,exists_const,List.length_nil,Nat.zero_le,Nat.zero_mul,Nat.le_refl,List.length_set,List.take_length,Int.natCast_nonneg,forall_const,implies_true,Int.toNat_zero,Nat.le_eq,Int.le_refl,addN,cutN,loN,hiN,bndB,Option.getD,List.length_cons,List.take_succ_cons,List.length_take,List.length_drop,Option.isNone,Nat.add_zero,Nat.min_self]
  try simp only [br_iff,decide_eq_true_eq,decide_eq_false_iff_not,room47,Bool.not_eq_true',Bool.not_eq_false',gt_iff_lt]
  obtain⟨size,l,n⟩:=x
  have hx:decide (0≤n∧n<l.length)=true∧decide (l.length≤1024)=true:=hx
  have h0:=of_decide_eq_true hx.1
  have h1:=of_decide_eq_true hx.2
  dsimp only
  rw [wrap_id (by omega) (by omega),show (n+1).toNat=n.toNat+1 by omega,show min n.toNat l.length=n.toNat by omega]
  refine⟨h0,by omega,⟨by omega,by omega⟩,fun _=>⟨⟨by omega,by omega⟩,⟨by omega,by omega⟩,fun _=>⟨⟨by omega,by omega⟩,fun _=>⟨⟨by simp;omega,by omega⟩,?_,?_⟩⟩⟩⟩
  · rw [usedL_length h0];omega
  · have e1:List.take (l.length-(n.toNat+1)) (List.drop (n.toNat+1) l)=List.drop (n.toNat+1) l:=List.take_of_length_le (by simp)
    have e2:List.take n.toNat (List.take n.toNat l)=List.take n.toNat l:=List.take_of_length_le (by simp;omega)
    rw [e1,e2,List.take_of_length_le (by simp;omega)]
    rfl
theorem ropen_ok:SpecOK Tryz.prog 158 ropenT.spec:=by
  refine Tri.ok (E:=ropenE) (Env_ok (by decide +kernel) (by simp [rfind_ok,rlast_ok])) (n:=1000) ropenT fun x hx=>?_
  rw [ropen_vc]
  delta ropenQ23 ropenQ22 ropenQ21 ropenQ20 ropenQ19 ropenQ18 ropenQ17 ropenQ16 ropenQ15 ropenQ14 ropenQ13 ropenQ12 ropenQ11 ropenQ10 ropenQ9 ropenQ8 ropenQ7 ropenQ6 ropenQ5 ropenQ4 ropenQ3 ropenQ2 ropenQ1 EqT
  try simp only [br_bad,decide_eq_true_eq,Bool.and_eq_true,List.take_zero,List.nil_append,List.drop_zero,Nat.zero_add,Int.toNat_natCast,Nat.sub_eq,true_and,and_true,exists_const,List.length_nil,Nat.zero_le,Nat.zero_mul,Nat.le_refl,List.length_set,List.take_length,Int.natCast_nonneg,forall_const,implies_true,Int.toNat_zero,Nat.le_eq,Int.le_refl,addN,cutN,loN,hiN,bndB,Option.getD,List.length_cons,List.take_succ_cons,List.length_take,List.length_drop,Option.isNone,Nat.add_zero,Nat.min_self]
  try simp only [br_iff,decide_eq_true_eq,decide_eq_false_iff_not,room47,Bool.not_eq_true',Bool.not_eq_false',gt_iff_lt]
  obtain⟨size,l,name,id⟩:=x
  have hx:decide (0<size)=true∧decide (l.length≤1024)=true∧decide ((l.length:Int)≤size)=true:=hx
  have h0:=of_decide_eq_true hx.1
  have h1:=of_decide_eq_true hx.2.1
  have h2:=of_decide_eq_true hx.2.2
  have b2:=idxF_lt (idIs id) l
  dsimp only
  refine⟨⟨0,rfl,by omega,by omega⟩,fun i ⟨hi,hn⟩ _=>⟨fun h4=>⟨h4,by omega,fun h5=>⟨h4,by omega,⟨size,l,i⟩,rfl,rfl,rfl,rfl,⟨⟨by dsimp only;omega,by dsimp only;omega⟩,by dsimp only;omega⟩,?_⟩,fun h5=>⟨i+1,?_,⟨by omega,?_⟩,by omega⟩⟩,fun h4=>⟨⟨size,l,id⟩,rfl,rfl,rfl,rfl,fun hj=>?_,fun hj _=>⟨fun h6=>?_,fun h6 _=>?_⟩⟩⟩⟩<;>try dsimp only at *
  · have hlt:i<l.length:=by omega
    have hidx:idxF (nameIs name) l=(i:Int):=idxF_at (i:=i) (x:=l[i]) (by simp) (by simpa [hlt,nameIs] using h5) hn
    have ho:openL ⟨size,l,name,id⟩=((atL l (i:Int)).id,usedL l (i:Int)):=by
      unfold openL
      dsimp only
      rw [hidx,show decide ((i:Int)<0)=false by simp,cond_false]
    rw [ho]
    exact⟨rfl,rfl,rfl,rfl⟩
  · rw [wrap_id (by omega) (by omega)];rfl
  · intro j x hj hx
    have hlt:i<l.length:=by omega
    by_cases e:j=i
    · subst e
      simp only [hlt,List.getElem?_eq_getElem,Option.some.injEq] at hx
      subst hx
      simpa [hlt,nameIs] using h5
    · exact hn j x (by omega) hx
  · have hidx:idxF (nameIs name) l = -1:=idxF_no fun j x hj=>hn j x (by have:=(List.getElem?_eq_some_iff.1 hj).1;omega) hj
    have e1:List.take (l.length-((idxF (idIs id) l).toNat+1)) (List.drop ((idxF (idIs id) l).toNat+1) l)=List.drop ((idxF (idIs id) l).toNat+1) l:=List.take_of_length_le (by simp)
    have e2:List.take (idxF (idIs id) l).toNat (List.take (idxF (idIs id) l).toNat l)=List.take (idxF (idIs id) l).toNat l:=List.take_of_length_le (by simp;omega)
    have e3:List.take (idxF (idIs id) l).toNat l++List.drop ((idxF (idIs id) l).toNat+1) l=outL l (idxF (idIs id) l):=rfl
    have e4:=outL_length (l:=l) (i:=idxF (idIs id) l) (by omega)
    have ho:openL ⟨size,l,name,id⟩=(id,outL l (idxF (idIs id) l)++[⟨id,0,name,.dflt⟩]):=by
      unfold openL
      dsimp only
      rw [hidx,show decide ((-1:Int)<0)=true by decide,cond_true,show decide (idxF (idIs id) l<0)=false by simp;omega,cond_false,e4,show decide (((l.length-1:Nat):Int)=size)=false by simp;omega,cond_false]
    rw [wrap_id (by omega) (by omega),show (idxF (idIs id) l+1).toNat=(idxF (idIs id) l).toNat+1 by omega,show min (idxF (idIs id) l).toNat l.length=(idxF (idIs id) l).toNat by omega,e1,e2,e3,ho,e4]
    refine⟨⟨by omega,by omega⟩,fun _=>⟨⟨by omega,by omega⟩,⟨by omega,by omega⟩,fun _=>⟨⟨by omega,by omega⟩,fun _=>⟨fun h6=>absurd h6 (by omega),fun _ _=>⟨⟨by omega,by omega⟩,rfl,rfl,by simp [e4];omega,?_⟩⟩⟩⟩⟩
    rw [List.take_of_length_le (by rw [e4];omega)]
    rfl
  · have hidx:idxF (nameIs name) l = -1:=idxF_no fun j x hj=>hn j x (by have:=(List.getElem?_eq_some_iff.1 hj).1;omega) hj
    have e4:=outL_length (l:=l) (i:=0) (by omega)
    have ho:openL ⟨size,l,name,id⟩=(id,outL l 0++[⟨id,0,name,.dflt⟩]):=by
      unfold openL
      dsimp only
      rw [hidx,show decide ((-1:Int)<0)=true by decide,cond_true,show decide (idxF (idIs id) l<0)=true by simp;omega,cond_true,show decide ((l.length:Int)=size)=true by simp;omega,cond_true]
    rw [ho]
    refine⟨⟨by omega,by omega⟩,fun _=>⟨⟨by simp;omega,by simp;omega⟩,fun _=>⟨by simp;omega,rfl,rfl,by simp [e4],?_⟩⟩⟩
    have e1:∀n,l.length-1≤n→List.take n (List.drop (Int.toNat 1) l)=List.drop 1 l:=fun n h=>List.take_of_length_le (by simpa using h)
    rw [e1 _ (by simp),List.take_of_length_le (by simp)]
    simp [outL,VerdictD.dflt]
  · have hidx:idxF (nameIs name) l = -1:=idxF_no fun j x hj=>hn j x (by have:=(List.getElem?_eq_some_iff.1 hj).1;omega) hj
    have ho:openL ⟨size,l,name,id⟩=(id,l++[⟨id,0,name,.dflt⟩]):=by
      unfold openL
      dsimp only
      rw [hidx,show decide ((-1:Int)<0)=true by decide,cond_true,show decide (idxF (idIs id) l<0)=true by simp;omega,cond_true,show decide ((l.length:Int)=size)=false by simp;omega,cond_false]
    rw [ho]
    exact⟨by omega,rfl,rfl,by simp,rfl⟩
theorem rask_ok:SpecOK Tryz.prog 159 raskT.spec:=by
  refine Tri.ok (E:=raskE) (Env_ok (by decide +kernel) (by simp [rfind_ok,rlast_ok,cver_ok])) (n:=1000) raskT fun x hx=>?_
  rw [rask_vc]
  delta raskQ2 raskQ1 EqT EqV EqV7
  try simp only [br_bad,decide_eq_true_eq,Bool.and_eq_true,List.take_zero,List.nil_append,List.drop_zero,Nat.zero_add,Int.toNat_natCast,Nat.sub_eq,true_and,and_true,exists_const,List.length_nil,Nat.zero_le,Nat.zero_mul,Nat.le_refl,List.length_set,List.take_length,Int.natCast_nonneg,forall_const,implies_true,Int.toNat_zero,Nat.le_eq,Int.le_refl,addN,cutN,loN,hiN,bndB,Option.getD,List.length_cons,List.take_succ_cons,List.length_take,List.length_drop,Option.isNone,Nat.add_zero,Nat.min_self]
  try simp only [br_iff,decide_eq_true_eq,decide_eq_false_iff_not,room47,Bool.not_eq_true',Bool.not_eq_false',gt_iff_lt]
  obtain⟨size,l,id,seq⟩:=x
  have hx:decide (l.length≤1024)=true:=hx
  have h1:=of_decide_eq_true hx
  have b1:=idxF_lt (idIs id) l
  dsimp only
  refine⟨⟨size,l,id⟩,rfl,rfl,rfl,rfl,fun hi=>?_,fun hi=>⟨by dsimp only at *;omega,by dsimp only at *;omega,⟨size,l,_⟩,rfl,rfl,rfl,rfl,by dsimp only at *;omega,fun h2=>?_,fun h2=>⟨fun h3=>?_,fun h3=>⟨fun h4=>⟨(atL l (idxF (idIs id) l)).last,rfl,rfl,rfl,rfl,rfl,rfl,rfl,?_⟩,fun h4=>?_⟩⟩⟩⟩<;>try dsimp only at *
  · simp [askL,hi,vd]
  · simp [askL,hi,h2,vd]
  · have h3:seq<(atL l (idxF (idIs id) l)).seq:=h3
    simp [askL,hi,h2,h3,vd]
  · simp only [beq_iff_eq] at h4
    have h4:seq=(atL l (idxF (idIs id) l)).seq:=h4
    simp [askL,hi,h2,←h4,vd]
  · simp only [beq_eq_false_iff_ne,ne_eq] at h4
    have h4:¬seq=(atL l (idxF (idIs id) l)).seq:=h4
    have h3:¬seq<(atL l (idxF (idIs id) l)).seq:=h3
    simp [askL,hi,h2,h3,h4,vd]
theorem rdone_ok:SpecOK Tryz.prog 161 rdoneT.spec:=by
  refine Tri.ok (E:=raskE) (Env_ok (by decide +kernel) (by simp [rfind_ok,rlast_ok,cver_ok])) (n:=1000) rdoneT fun x hx=>?_
  rw [rdone_vc]
  delta rdoneQ7 rdoneQ6 rdoneQ5 rdoneQ4 rdoneQ3 rdoneQ2 rdoneQ1 EqT EqV
  try simp only [br_bad,decide_eq_true_eq,Bool.and_eq_true,List.take_zero,List.nil_append,List.drop_zero,Nat.zero_add,Int.toNat_natCast,Nat.sub_eq,true_and,and_true,exists_const,List.length_nil,Nat.zero_le,Nat.zero_mul,Nat.le_refl,List.length_set,List.take_length,Int.natCast_nonneg,forall_const,implies_true,Int.toNat_zero,Nat.le_eq,Int.le_refl,addN,cutN,loN,hiN,bndB,Option.getD,List.length_cons,List.take_succ_cons,List.length_take,List.length_drop,Option.isNone,Nat.add_zero,Nat.min_self]
  try simp only [br_iff,decide_eq_true_eq,decide_eq_false_iff_not,room47,Bool.not_eq_true',Bool.not_eq_false',gt_iff_lt]
  obtain⟨size,l,id,seq,v⟩:=x
  have b1:=idxF_lt (idIs id) l
  dsimp only
  refine⟨⟨size,l,id⟩,rfl,rfl,rfl,rfl,fun hi=>?_,fun hi=>⟨by dsimp only at *;omega,by dsimp only at *;omega,fun h2=>?_,fun h2=>⟨by dsimp only at *;omega,by dsimp only at *;omega,v,rfl,rfl,rfl,rfl,rfl,rfl,rfl,by dsimp only at *;omega,by dsimp only at *;omega,?_⟩⟩⟩<;>try dsimp only at *
  · simp [doneL,hi]
  · have h2:seq≤(atL l (idxF (idIs id) l)).seq:=h2
    simp [doneL,hi,h2]
  · have h2:¬seq≤(atL l (idxF (idIs id) l)).seq:=h2
    have hi':(idxF (idIs id) l).toNat<l.length:=by omega
    simp only [doneL,hi,h2,decide_false,Bool.or_false,cond_false,List.length_set,true_and]
    simp [hi',atL]
end Go.Proofs.YtgepebndihfnfaaGreat.Ses
