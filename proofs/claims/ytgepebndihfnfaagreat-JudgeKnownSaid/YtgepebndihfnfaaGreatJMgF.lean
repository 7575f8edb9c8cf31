/- A row of requests, run; arguments as data. No condition. -/
import Derived.Test.YtgepebndihfnfaaGreatJMgE
import Derived.KernelRfl
set_option linter.unusedSimpArgs false
set_option linter.unusedVariables false

namespace Go.Proofs.YtgepebndihfnfaaGreat.Ses
open Go Go.Proofs Go.Proofs.YtgepebndihfnfaaGreat.Sx
structure MacW where
  x:MacS
  m:Nat
  g:Nat
  c:Nat
  k:Nat
  t:Nat
  sr:Nat
  e:Nat
  er:Nat
def macOf (B:Blks) (q:Nat):Option MacW:=match B.get q with
  | some (.cells [.int _ a,.int _ b,.int _ d,.mptr g _,.mptr t _,.mptr e _])=>match B.get g,B.get t,B.get e with
    | some (.cells [.mslice _ c _ _,_,.mmap k]),some (.cells [_,.mslice _ sr _ _]),some (.cells [_,.mslice _ er _ _])=>match B.get c,B.get sr,B.get er with
      | some (.rows .commit C),some (.rows .session S),some (.rows .epoch E)=>some ⟨⟨a,b,d,C,S,E⟩,q,g,c,k,t,sr,e,er⟩
      | _,_,_=>none
    | _,_,_=>none
  | _=>none
def macAt (s:St) (ms:Nat):Option MacW:=match getE s.env ms with
  | .mptr q _=>macOf s.m.blks q
  | _=>none
structure RmcW where
  x:MacS
  m:Nat
  a:Nat
  b:Nat
  c:Nat
  t:Nat
  sr:Nat
  e:Nat
  er:Nat
def rmcOf (B:Blks) (q:Nat):Option RmcW:=match B.get q with
  | some (.cells [.int _ d,.mslice _ a _ _,.mslice _ b _ _,.mslice _ c _ _,.mptr t _,.mptr e _])=>match B.get t,B.get e,B.get a with
    | some (.cells [.int _ z,.mslice _ sr _ _]),some (.cells [.int _ al,.mslice _ er _ _]),some (.rows .commit C)=>match B.get sr,B.get er with
      | some (.rows .session S),some (.rows .epoch E)=>some ⟨⟨al,z,d,C,S,E⟩,q,a,b,c,t,sr,e,er⟩
      | _,_=>none
    | _,_,_=>none
  | _=>none
def rmcAt (s:St) (ms:Nat):Option RmcW:=match getE s.env ms with
  | .mptr q _=>rmcOf s.m.blks q
  | _=>none
structure CfgD where
  M:List Int
  a:Int
  z:Int
  keep:Int
  beat:Int
  term:Int
  lease:Int
  num:Int
  den:Int
def CfgD.sv (c:CfgD):SV:=.agg [.rslice false .int c.M,.int .i64 c.a,.int .i64 c.z,.int .i64 c.keep,.int .i64 c.beat,.int .i64 c.term,.int .i64 c.lease,.int .i64 c.num,.int .i64 c.den]
abbrev EqF (a b:CfgD) (P:Prop):Prop:=a.M=b.M∧a.a=b.a∧a.z=b.z∧a.keep=b.keep∧a.beat=b.beat∧a.term=b.term∧a.lease=b.lease∧a.num=b.num∧a.den=b.den∧P
structure RunA where
  c:CfgD
  l:List RequestD
def okL (l:List RequestD):Bool:=decide (l.length≤4000)&&l.all fun r=>okRq r&&fewX r.changes
def RunA.ok (x:RunA):Bool:=okCf x.c.a x.c.z x.c.M&&okL x.l
def RunA.f (x:RunA):MacS:=freshM x.c.a x.c.z x.c.M
noncomputable def toldI:St→LInv:=fun s=>match getE s.env 6,getE s.env 2,nilAt s.m.blks with
  | .rslice _ .request l,.mptr bq _,some o=>match s.m.blks.get bq with
    | some (.cells [.mptr q _])=>match macOf s.m.blks q with
      | some ⟨x,m,g,c,k,t,sr,e,er⟩=>{σ:=Nat,I:=fun i=>i≤l.length,μ:=fun i=>l.length-i,env:=fun i=>[(8,.int .i64 i)],blk:=fun i=>(o,.cells [.mslice .verdict (s.m.next+3) 0 i])::(s.m.next+3,.rows .verdict (verdF x (l.take i)))::mB (runF x (l.take i)) m g s.m.next k t (s.m.next+1) e (s.m.next+2),fresh:=4,drop:=[c,sr,er]}
      | _=>LInv.none
    | _=>LInv.none
  | _,_,_=>LInv.none
noncomputable def prunE:Envr:=Env Tryz.prog cod [(24,applyT.spec),(56,new1T.spec)] [(1,toldI)]
noncomputable def prunF:Envr:=Env Tryz.prog cod [(56,new2T.spec)] []
noncomputable def prun1T:Tri:={γ:=RunA,n0:=0,args:=fun x=>[x.c.sv,.rslice false .request x.l],blks:=fun _=>[],pre:=fun x=>x.ok=true,δ:=Unit,post:=fun _ _=>True,n1:=8,res:=fun x _=>.tuple [.mptr 0 0,.rslice false .verdict (verdF x.f x.l),.int .i64 0],blks':=fun x _=>mB (runF x.f x.l) 0 1 2 3 4 5 6 7,scal:=false}
noncomputable def prun2T:Tri:={γ:=RunA,n0:=0,args:=fun x=>[x.c.sv,.rslice false .request x.l],blks:=fun _=>[],pre:=fun x=>okCf x.c.a x.c.z x.c.M=false,δ:=Unit,post:=fun _ _=>True,n1:=0,res:=fun x _=>.tuple [.nilp,.rslice false .verdict [],.int .i64 1],blks':=fun _ _=>[],scal:=false}
noncomputable def rrunI:St→LInv:=fun s=>match rmcAt s 7,getE s.env 1 with
  | some ⟨x,m,a,b,c,t,sr,e,er⟩,.rslice _ .request l=>{σ:=Nat,I:=fun i=>i≤l.length,μ:=fun i=>l.length-i,env:=fun i=>[(10,.int .i64 i),(9,.mslice .verdict (s.m.next+5) 0 i)],blk:=fun i=>(s.m.next+5,.rows .verdict (verdF x (l.take i)))::rmB (runF x (l.take i)) m s.m.next (s.m.next+1) (s.m.next+2) t (s.m.next+3) e (s.m.next+4),fresh:=6,drop:=[a,b,c,sr,er]}
  | _,_=>LInv.none
noncomputable def rrunE:Envr:=Env Tryz.prog cod [(48,rappT.spec),(57,rnew1T.spec)] [(6,rrunI)]
noncomputable def rrun1T:Tri:={γ:=RunA,n0:=0,args:=fun x=>[x.c.sv,.rslice false .request x.l],blks:=fun _=>[],pre:=fun x=>x.ok=true,δ:=Unit,post:=fun _ _=>True,n1:=8,res:=fun x _=>.tuple [.mptr 0 0,.rslice false .verdict (verdF x.f x.l),.int .i64 0],blks':=fun x _=>rmB (runF x.f x.l) 0 1 2 3 4 5 6 7,scal:=false}
set_option maxRecDepth 100000
abbrev prun1Q1 (x1:CfA) (x4:Nat) (x:prun1T.γ):=verdF (freshM x1.a x1.z x1.M) (List.take x4 (RunA.l x))
abbrev prun1Q2 (x1:CfA) (x4:Nat) (x:prun1T.γ):=runF (freshM x1.a x1.z x1.M) (List.take x4 (RunA.l x))
abbrev prun1Q3  := SV.tuple [SV.mptr 1 0,SV.int IntKind.i64 (0:Int)]
abbrev prun1Q4  := (none:Option (Prod Nat Bool))
theorem prun1_vc (x:prun1T.γ):evCallR prunE 1000 21 (prun1T.args x) ⟨prun1T.blks x,prun1T.n0,[]⟩ (prun1T.ends x)=(
∃x1:CfA,CfgD.M (RunA.c x)=x1.M∧
CfgD.a (RunA.c x)=x1.a∧
CfgD.z (RunA.c x)=x1.z∧
okCf x1.a x1.z x1.M=true∧
∀x2:Unit,True→
∀x3:Nat,(RunA.l x).length*128≤room47→
(∃x4:Nat,(0:Int)=(↑x4:Int)∧
0=x4∧
([]:List VerdictD)=prun1Q1 x1 x4 x∧
EqM (freshM x1.a x1.z x1.M) (prun1Q2 x1 x4 x) (Nat.le x4 (RunA.l x).length))∧
∀x5:Nat,Nat.le x5 (RunA.l x).length→
br (decide ((↑x5:Int)<(↑(RunA.l x).length:Int))) (br (decide ((0:Int)≤(↑x5:Int)∧
(↑x5:Int)<(↑(RunA.l x).length:Int))) (∃x6:MacA,EqQ (List.getD (RunA.l x) (↑x5:Int).toNat RequestD.dflt) x6.r (EqM (prun1Q2 x1 x5 x) x6.x ((okMS x6.x=true∧
okRq x6.r=true)∧
∀x7:Unit,True→
x3=Yd.l (Yd.mk x3 [@Prod.mk Nat SV 26 (SV.fn 146 ([]:List SV) [SV.mptr 11 0,SV.mptr 10 0]),@Prod.mk Nat SV 25 (SV.rslice false Tc.request (RunA.l x)),@Prod.mk Nat SV 24 (SV.mptr 1 0),@Prod.mk Nat SV 9 (SV.mptr 9 0),@Prod.mk Nat SV 22 (SV.bool false),@Prod.mk Nat SV 21 (SV.int IntKind.i64 (0:Int)),@Prod.mk Nat SV 8 (SV.int IntKind.i64 (0:Int)),@Prod.mk Nat SV 7 (SV.mptr 1 0),@Prod.mk Nat SV 20 (SV.int IntKind.i64 (0:Int)),@Prod.mk Nat SV 19 (SV.mptr 1 0),@Prod.mk Nat SV 11 prun1Q3,@Prod.mk Nat SV 18 prun1Q3,@Prod.mk Nat SV 17 (SV.int IntKind.i64 (CfgD.z (RunA.c x))),@Prod.mk Nat SV 16 (SV.mptr 0 (0+2)),@Prod.mk Nat SV 15 (SV.int IntKind.i64 (CfgD.a (RunA.c x))),@Prod.mk Nat SV 14 (SV.mptr 0 (0+1)),@Prod.mk Nat SV 13 (SV.rslice false Tc.int (CfgD.M (RunA.c x))),@Prod.mk Nat SV 12 (SV.mptr 0 (0+0)),@Prod.mk Nat SV 6 (SV.int IntKind.i64 (0:Int)),@Prod.mk Nat SV 5 SV.nils,@Prod.mk Nat SV 4 SV.nilp,@Prod.mk Nat SV 2 (SV.mptr 0 0),@Prod.mk Nat SV 0 (SV.agg [SV.rslice false Tc.int (CfgD.M (RunA.c x)),SV.int IntKind.i64 (CfgD.a (RunA.c x)),SV.int IntKind.i64 (CfgD.z (RunA.c x)),SV.int IntKind.i64 (CfgD.keep (RunA.c x)),SV.int IntKind.i64 (CfgD.beat (RunA.c x)),SV.int IntKind.i64 (CfgD.term (RunA.c x)),SV.int IntKind.i64 (CfgD.lease (RunA.c x)),SV.int IntKind.i64 (CfgD.num (RunA.c x)),SV.int IntKind.i64 (CfgD.den (RunA.c x))]),@Prod.mk Nat SV (0+1) (SV.rslice false Tc.request (RunA.l x))] 34 (Array.toList (List.toArray [27])) (Code.region 6 (List.toArray [Oper.mk (Option.some 10) (Op.alloc 38) 0 "plain.go:30" (List.toArray ([]:List Edge)) prun1Q4,Oper.mk (none:Option Nat) (Op.store 38 (Operand.tmp 10) (Operand.tmp 27)) 0 "plain.go:30" (List.toArray [Edge.mk 0 Ground.data,Edge.mk 0 Ground.phase]) prun1Q4]) false) (Code.block 1 (Code.region 7 (List.toArray [Oper.mk (Option.some 28) (Op.load 26 (Operand.tmp 9)) 26 "plain.go:31" (List.toArray ([]:List Edge)) prun1Q4,Oper.mk (Option.some 29) (Op.load 38 (Operand.tmp 10)) 38 "plain.go:31" (List.toArray ([]:List Edge)) prun1Q4,Oper.mk (Option.some 30) (Op.buildSlice 26 1 (List.toArray [@Prod.mk Nat Operand 0 (Operand.tmp 29)])) 26 "plain.go:31" (List.toArray [Edge.mk 1 Ground.data]) prun1Q4,Oper.mk (Option.some 31) (Op.call (Call.mk (Callee.builtin Builtin.append) (List.toArray [Operand.tmp 28,Operand.tmp 30]) (List.toArray [26,26]))) 26 "plain.go:31" (List.toArray [Edge.mk 0 Ground.data,Edge.mk 2 Ground.data]) prun1Q4,Oper.mk (none:Option Nat) (Op.store 26 (Operand.tmp 9) (Operand.tmp 31)) 0 "plain.go:31" (List.toArray [Edge.mk 3 Ground.data,Edge.mk 3 Ground.chain,Edge.mk 0 Ground.phase,Edge.mk 1 Ground.phase,Edge.mk 2 Ground.phase,Edge.mk 3 Ground.phase]) prun1Q4]) false)))∧
(Nat.le (x5*80) room47∧
Nat.le (1*80) room47→
br (Bool.and (Bool.and (decide (0+1≤[(applyM x6.x x6.r).1].length)) (decide (0+x5≤(prun1Q1 x1 x5 x).length))) (decide ((x5+(List.take 1 (List.drop 0 [(applyM x6.x x6.r).1])).length)*80≤room47))) (∃x8:Nat,IntKind.wrap IntKind.i64 ((↑x5:Int)+(1:Int))=(↑x8:Int)∧
0=0∧
x5+(List.take 1 (List.drop 0 [(applyM x6.x x6.r).1])).length=x8∧
@HAppend.hAppend (List VerdictD) (List VerdictD) (List VerdictD) _ (List.take x5 (List.drop 0 (prun1Q1 x1 x5 x))) (List.take 1 (List.drop 0 [(applyM x6.x x6.r).1]))=prun1Q1 x1 x8 x∧
EqM (applyM x6.x x6.r).2 (prun1Q2 x1 x8 x) (Nat.le x8 (RunA.l x).length∧
Nat.sub (RunA.l x).length x8<Nat.sub (RunA.l x).length x5)) (Bad "check" "plain.go:31"))))) (Bad "check" "plain.go:15")) (∃x9:Unit,0+x5≤(prun1Q1 x1 x5 x).length∧
List.take x5 (List.drop 0 (prun1Q1 x1 x5 x))=verdF (RunA.f x) (RunA.l x)∧
(0:Int)=(0:Int)∧
EqM (prun1Q2 x1 x5 x) (runF (RunA.f x) (RunA.l x)) True)):=by kernel_rfl
theorem prun2_vc (x:prun2T.γ):evCallR prunF 1000 21 (prun2T.args x) ⟨prun2T.blks x,prun2T.n0,[]⟩ (prun2T.ends x)=(
∃x1:CfA,CfgD.M (RunA.c x)=x1.M∧
CfgD.a (RunA.c x)=x1.a∧
CfgD.z (RunA.c x)=x1.z∧
okCf x1.a x1.z x1.M=false∧
∀x2:Unit,True→
∃x3:Unit,([]:List VerdictD)=([]:List VerdictD)∧
(1:Int)=(1:Int)∧
True):=by kernel_rfl
abbrev rrun1Q1 (x1:CfA) (x3:Nat) (x:rrun1T.γ):=verdF (freshM x1.a x1.z x1.M) (List.take x3 (RunA.l x))
abbrev rrun1Q2 (x1:CfA) (x3:Nat) (x:rrun1T.γ):=runF (freshM x1.a x1.z x1.M) (List.take x3 (RunA.l x))
theorem rrun1_vc (x:rrun1T.γ):evCall rrunE (ev rrunE 1000) 32 (rrun1T.args x) ⟨rrun1T.blks x,rrun1T.n0,[]⟩ (fun _ _=>False) (rrun1T.ends x)=(
∃x1:CfA,CfgD.M (RunA.c x)=x1.M∧
CfgD.a (RunA.c x)=x1.a∧
CfgD.z (RunA.c x)=x1.z∧
okCf x1.a x1.z x1.M=true∧
∀x2:Unit,True→
(∃x3:Nat,(0:Int)=(↑x3:Int)∧
0=x3∧
([]:List VerdictD)=rrun1Q1 x1 x3 x∧
EqN (freshM x1.a x1.z x1.M) (rrun1Q2 x1 x3 x) (Nat.le x3 (RunA.l x).length))∧
∀x4:Nat,Nat.le x4 (RunA.l x).length→
(RunA.l x).length*128≤room47→
br (decide ((↑x4:Int)<(↑(RunA.l x).length:Int))) (br (decide ((0:Int)≤(↑x4:Int)∧
(↑x4:Int)<(↑(RunA.l x).length:Int))) (∃x5:MacA,EqQ (List.getD (RunA.l x) (↑x4:Int).toNat RequestD.dflt) x5.r (EqN (rrun1Q2 x1 x4 x) x5.x (okRm x5.x x5.r=true∧
∀x6:Unit,True→
Nat.le (x4*80) room47∧
Nat.le (1*80) room47→
br (Bool.and (Bool.and (decide (0+1≤[(applyM x5.x x5.r).1].length)) (decide (0+x4≤(rrun1Q1 x1 x4 x).length))) (decide ((x4+(List.take 1 (List.drop 0 [(applyM x5.x x5.r).1])).length)*80≤room47))) (∃x7:Nat,IntKind.wrap IntKind.i64 ((↑x4:Int)+(1:Int))=(↑x7:Int)∧
0=0∧
x4+(List.take 1 (List.drop 0 [(applyM x5.x x5.r).1])).length=x7∧
@HAppend.hAppend (List VerdictD) (List VerdictD) (List VerdictD) _ (List.take x4 (List.drop 0 (rrun1Q1 x1 x4 x))) (List.take 1 (List.drop 0 [(applyM x5.x x5.r).1]))=rrun1Q1 x1 x7 x∧
EqN (applyM x5.x x5.r).2 (rrun1Q2 x1 x7 x) (Nat.le x7 (RunA.l x).length∧
Nat.sub (RunA.l x).length x7<Nat.sub (RunA.l x).length x4)) (Bad "check" "ref.go:249")))) (Bad "check" "ref.go:249")) (∃x8:Unit,0+x4≤(rrun1Q1 x1 x4 x).length∧
List.take x4 (List.drop 0 (rrun1Q1 x1 x4 x))=verdF (RunA.f x) (RunA.l x)∧
(0:Int)=(0:Int)∧
EqN (rrun1Q2 x1 x4 x) (runF (RunA.f x) (RunA.l x)) True)):=by kernel_rfl
theorem okL_of {l:List RequestD} (h:okL l=true):l.length≤4000 ∧ ∀r,r∈l→okRq r=true∧fewX r.changes=true:=by
  unfold okL at h
  simp only [Bool.and_eq_true,decide_eq_true_eq,List.all_eq_true] at h
  exact h
theorem ok_of {x:RunA} (h:x.ok=true):okCf x.c.a x.c.z x.c.M=true∧okL x.l=true:=by
  unfold RunA.ok at h
  simpa only [Bool.and_eq_true] using h
theorem how_short {x:MacS} (h:shortM x.C=true) {r:RequestD} (hr:okRq r=true):shortM (howM x r).2.C=true:=by
  have q1:=(okRq_of hr).1
  have hl:shortM (landC ⟨x.C,r.base,r.ref,r.changes⟩)=true:=by
    unfold landC
    cases isLd ⟨x.C,r.base,r.ref,r.changes⟩
    · exact h
    · have hss:shortC (insS r.changes)=true:=by
        unfold shortC at q1 ⊢
        rw [List.all_eq_true] at q1 ⊢
        exact fun y hy=>q1 y (mem_insS.1 hy)
      unfold shortM at h ⊢
      simp only [cond_true]
      rw [List.all_append,h]
      show (true&&(shortC (insS r.changes)&&true))=true
      rw [hss];rfl
  unfold howM
  cases r.kind==2
  · cases r.kind==3<;>cases r.kind==4<;>cases r.kind==5<;>cases r.kind==6<;>cases r.kind==7<;>exact h
  · exact hl
theorem apply_short {x:MacS} (h:shortM x.C=true) {r:RequestD} (hr:okRq r=true):shortM (applyM x r).2.C=true:=by
  unfold applyM
  cases decide (x.applied≥1099511627776)
  · show shortM (doM x r).2.C=true
    unfold doM
    cases r.kind==0
    · cases r.kind==1
      · cases (askM x r).1.2
        · exact how_short (x:=withS x (askM x r).2) h hr
        · exact h
      · cases wordOk r.name false<;>exact h
    · exact h
  · exact h
theorem run_short:∀(l:List RequestD) {x:MacS},shortM x.C=true→(∀r,r∈l→okRq r=true)→shortM (runF x l).C=true
  | [],_,h,_=>h
  | r::l,x,h,hr=>run_short l (x:=stepM x r) (apply_short h (hr r (List.mem_cons_self ..))) fun q hq=>hr q (List.mem_cons_of_mem _ hq)
theorem MOk.okr {a z:Int} {n:Nat} {x:MacS} (h:MOk a z n x) (hn:n≤4000) (hs:shortM x.C=true) {r:RequestD} (hr:okRq r=true) (hf:fewX r.changes=true):okRm x r=true:=
  okRm_mk (h.ok hn) hr hs hf (by rw [h.sz];exact h.s)
theorem okR_of {r:RequestD} (h:okQ r=true) (hi:inI r.from_=true):okRq r=true∧fewX r.changes=true:=by
  refine⟨okQ_of h hi,?_⟩
  unfold okQ at h
  simp only [Bool.and_eq_true,decide_eq_true_eq] at h
  exact decide_eq_true (by have:=h.2.2.2.1;omega)
theorem runZ_in {a z:Int} {M:List Int} (hc:okCf a z M=true) {l:List RequestD} (h:okL l=true) (i:Nat):(∃n,n≤l.length∧MDs a z n (runF (freshM a z M) (l.take i)))∧shortM (runF (freshM a z M) (l.take i)).C=true:=by
  obtain⟨h4,hq⟩:=okL_of h
  have hl:(l.take i).length≤l.length:=by rw [List.length_take];omega
  exact⟨⟨_,hl,runZD_ok hc _ (by omega)⟩,run_short _ (x:=freshM a z M) rfl fun r hr=>(hq r (List.mem_of_mem_take hr)).1⟩
theorem prunE_ok:EnvOK prunE:=Env_ok (by decide +kernel) (by
  intro p hp
  simp only [List.mem_cons,List.mem_nil_iff,or_false] at hp
  rcases hp with rfl | rfl
  · exact apply_ok echg_ok
  · exact new1_ok)
theorem rrunE_ok:EnvOK rrunE:=Env_ok (by decide +kernel) (by
  intro p hp
  simp only [List.mem_cons,List.mem_nil_iff,or_false] at hp
  rcases hp with rfl | rfl
  · exact rapp_ok
  · exact rnew1_ok)
set_option maxHeartbeats 0 in
theorem prun1_ok:SpecOK Tryz.prog 21 prun1T.spec:=by
  refine Tri.okR (E:=prunE) prunE_ok (N:=1000) prun1T fun x hx=>?_
  rw [prun1_vc]
  delta prun1Q4 prun1Q3 prun1Q2 prun1Q1 EqM EqQ EqG EqT
  obtain⟨c,l⟩:=x
  obtain⟨hcf,hl⟩:=ok_of hx
  have hcf:okCf c.a c.z c.M=true:=hcf
  have hl:okL l=true:=hl
  obtain⟨l4,lQ⟩:=okL_of hl
  refine⟨⟨c.M,c.a,c.z⟩,rfl,rfl,rfl,hcf,fun _ _ y hroom=>?_⟩
  have ef:RunA.f ⟨c,l⟩=freshM c.a c.z c.M:=rfl
  dsimp only
  rw [ef]
  generalize hF:freshM c.a c.z c.M=F
  refine⟨⟨0,(by repeat' (first | exact Nat.zero_le _ | refine And.intro ?_ ?_ | rfl))⟩,fun i hi=>br_i (fun h1=>?_) (fun h1=>?_)⟩
  · have h1:=of_decide_eq_true h1
    have bi:decide ((0:Int)≤(i:Int)∧(i:Int)<(l.length:Int))=true:=decide_eq_true ⟨by omega,h1⟩
    have e0:(i:Int).toNat=i:=rfl
    rw [e0]
    have eg:l.getD i RequestD.dflt=l.getD i noR0:=rfl
    rw [eg]
    have hgo:=run_at (x:=F) (l:=l) (i:=i) (by omega)
    have hve:=verd_take (x:=F) (l:=l) (i:=i) (by omega)
    have hvl:=verd_len F (l.take i)
    have htl:(l.take i).length=i:=by rw [List.length_take];omega
    rw [htl] at hvl
    obtain⟨⟨n,hn,hG⟩,_⟩:=runZ_in hcf hl i
    have okr:=(lQ (l.getD i noR0) (getD_mem (by omega))).1
    have okm:=hG.ok.ok (by omega)
    rw [hF] at okm
    generalize l.getD i noR0=r at hgo okr hve ⊢
    generalize runF F (l.take i)=y at hgo okm hve ⊢
    generalize verdF F (l.take i)=V at hve hvl ⊢
    have hw:IntKind.i64.wrap ((i:Int)+1)=((i+1:Nat):Int):=by rw [wrap_id (by omega) (by omega)];rfl
    have hle:(i+1).le l.length:=by show i+1≤l.length;omega
    have hms:l.length.sub (i+1)<l.length.sub i:=by show l.length-(i+1)<l.length-i;omega
    refine br_t bi ⟨⟨y,r⟩,rfl,rfl,rfl,rfl,rfl,rfl,rfl,rfl,rfl,rfl,rfl,rfl,rfl,rfl,rfl,rfl,rfl,rfl,rfl,rfl,rfl,rfl,rfl,rfl,rfl,rfl,rfl,⟨okm,okr⟩,fun _ _=>⟨rfl,fun _=>br_t ?_ ⟨i+1,hw,rfl,rfl,?_,?_⟩⟩⟩
    · simp only [Bool.and_eq_true,decide_eq_true_eq]
      refine⟨⟨by simp,by omega⟩,?_⟩
      show (i+1)*80≤room47
      unfold room47
      omega
    · rw [hve,List.drop_zero,←hvl,List.take_length]
      rfl
    · rw [hgo]
      exact (by repeat' (first | exact hle | exact hms | refine And.intro ?_ ?_ | rfl))
  · have h1:=of_decide_eq_false h1
    have hi:i≤l.length:=hi
    rw [List.take_of_length_le (by omega)]
    have hvl:=verd_len F l
    refine⟨(),by omega,?_,(by repeat' (first | exact trivial | refine And.intro ?_ ?_ | rfl))⟩
    rw [List.drop_zero,List.take_of_length_le (by omega)]
theorem prun2_ok:SpecOK Tryz.prog 21 prun2T.spec:=by
  refine Tri.okR (E:=prunF) (Env_ok (by decide +kernel) (by simp [new2_ok])) (N:=1000) prun2T fun x hx=>?_
  rw [prun2_vc]
  exact⟨⟨x.c.M,x.c.a,x.c.z⟩,rfl,rfl,rfl,hx,fun _ _=>⟨(),rfl,rfl,trivial⟩⟩
set_option maxHeartbeats 0 in
theorem rrun1_ok:SpecOK Tryz.prog 32 rrun1T.spec:=by
  refine Tri.ok (E:=rrunE) rrunE_ok (n:=1000) rrun1T fun x hx=>?_
  rw [rrun1_vc]
  delta rrun1Q2 rrun1Q1 EqN EqR EqQ EqR6 EqT
  obtain⟨c,l⟩:=x
  obtain⟨hcf,hl⟩:=ok_of hx
  have hcf:okCf c.a c.z c.M=true:=hcf
  have hl:okL l=true:=hl
  obtain⟨l4,lQ⟩:=okL_of hl
  refine⟨⟨c.M,c.a,c.z⟩,rfl,rfl,rfl,hcf,fun _ _=>?_⟩
  have ef:RunA.f ⟨c,l⟩=freshM c.a c.z c.M:=rfl
  dsimp only
  rw [ef]
  generalize hF:freshM c.a c.z c.M=F
  refine⟨⟨0,(by repeat' (first | exact Nat.zero_le _ | refine And.intro ?_ ?_ | rfl))⟩,fun i hi _=>br_i (fun h1=>?_) (fun h1=>?_)⟩
  · have h1:=of_decide_eq_true h1
    have bi:decide ((0:Int)≤(i:Int)∧(i:Int)<(l.length:Int))=true:=decide_eq_true ⟨by omega,h1⟩
    have e0:(i:Int).toNat=i:=rfl
    rw [e0]
    have eg:l.getD i RequestD.dflt=l.getD i noR0:=rfl
    rw [eg]
    have hgo:=run_at (x:=F) (l:=l) (i:=i) (by omega)
    have hve:=verd_take (x:=F) (l:=l) (i:=i) (by omega)
    have hvl:=verd_len F (l.take i)
    have htl:(l.take i).length=i:=by rw [List.length_take];omega
    rw [htl] at hvl
    obtain⟨⟨n,hn,hG⟩,hS⟩:=runZ_in hcf hl i
    obtain⟨okr,okf⟩:=lQ (l.getD i noR0) (getD_mem (by omega))
    have okm:=hG.ok.okr (by omega) hS okr okf
    rw [hF] at okm
    generalize l.getD i noR0=r at hgo okm hve ⊢
    generalize runF F (l.take i)=y at hgo okm hve ⊢
    generalize verdF F (l.take i)=V at hve hvl ⊢
    have hw:IntKind.i64.wrap ((i:Int)+1)=((i+1:Nat):Int):=by rw [wrap_id (by omega) (by omega)];rfl
    have hle:(i+1).le l.length:=by show i+1≤l.length;omega
    have hms:l.length.sub (i+1)<l.length.sub i:=by show l.length-(i+1)<l.length-i;omega
    refine br_t bi ⟨⟨y,r⟩,rfl,rfl,rfl,rfl,rfl,rfl,rfl,rfl,rfl,rfl,rfl,rfl,rfl,rfl,rfl,rfl,rfl,rfl,rfl,rfl,rfl,rfl,rfl,rfl,rfl,rfl,rfl,rfl,rfl,okm,fun _ _ _=>br_t ?_ ⟨i+1,hw,rfl,rfl,?_,?_⟩⟩
    · simp only [Bool.and_eq_true,decide_eq_true_eq]
      refine⟨⟨by simp,by omega⟩,?_⟩
      show (i+1)*80≤room47
      unfold room47
      omega
    · rw [hve,List.drop_zero,←hvl,List.take_length]
      rfl
    · rw [hgo]
      exact (by repeat' (first | exact hle | exact hms | refine And.intro ?_ ?_ | rfl))
  · have h1:=of_decide_eq_false h1
    have hi:i≤l.length:=hi
    rw [List.take_of_length_le (by omega)]
    have hvl:=verd_len F l
    refine⟨(),by omega,?_,(by repeat' (first | exact trivial | refine And.intro ?_ ?_ | rfl))⟩
    rw [List.drop_zero,List.take_of_length_le (by omega)]
end Go.Proofs.YtgepebndihfnfaaGreat.Ses

namespace Go.Proofs.YtgepebndihfnfaaGreat.Sx
open Go Go.RowKit Go.ChangeShapes Go.WideShapes
section
variable {H : Type} {en : TypeId × Value → H} {P : Program} {w : World}
theorem opens_sliceP {t e:TypeId} {c:Tc} {ok:c.den→Prop} (ht:P.underlying t=some (.slice e)) (he:Opens en P w e (fun a:{a:c.den // ok a}=>Sx.enc c a.1)) (hc:P.cellsOf e=c.width) (hb:P.bytesOf e=c.bytes) :
    Opens en P w t (fun l:{l:List c.den // ∀x,x∈l→ok x}=>[.rslice false c l.1]):=by
  intro m cs x hx hw
  have hc0:0<c.width:=by cases c<;>decide
  rcases DataW.trod_slice ht hx with ⟨rfl,rfl⟩ | ⟨a,len,cap,elems,rest,n,rfl,rfl,rfl,_,hle,_,hel,helem,hspare,_⟩
  · exact⟨⟨[],fun x hx=>(nomatch hx)⟩,fun β=>.cons (.rnil _ _) (RepL.nil _)⟩
  · simp only [DataW.weights,ht,List.all_cons,List.all_append,Bool.and_eq_true,decide_eq_true_eq,List.length_map] at hw
    obtain⟨hw0,hw1,_⟩:=hw
    have hbytes:len*c.bytes≤room47:=by
      have h1:len*P.bytesOf e≤(elems.length+rest.length)*P.bytesOf e:=Nat.mul_le_mul_right _ (by omega)
      have h2:reachBytes<2 ^ 47:=reachBytes_lt
      rw [←hb]
      have:room47=2 ^ 47:=rfl
      omega
    rcases Nat.eq_zero_or_pos cap with h0 | hpos
    · have:len=0:=by omega
      subst this
      subst h0
      exact⟨⟨[],fun x hx=>(nomatch hx)⟩,fun β=>.cons (.rnil _ _) (RepL.nil _)⟩
    · have hread:∃y,(w.cells? 0 a (P.cellsOf e)).bind (DataW.trod en P w 0 (fun _=>true) true n e)=some y:=by
        rcases Nat.eq_zero_or_pos len with h1 | h1
        · obtain⟨hrl,hr⟩:=hspare rfl
          have:=hr 0 (by omega)
          have hlt:0<rest.length:=by omega
          rw [List.getElem?_eq_getElem hlt] at this
          subst h1
          simp [Addr.add] at this
          exact⟨_,this⟩
        · have:=helem 0 h1
          have hlt:0<elems.length:=by omega
          rw [List.getElem?_eq_getElem hlt] at this
          simp [Addr.add] at this
          exact⟨_,this⟩
      have hsp:a=⟨a.block,a.off,none⟩:=by
        obtain⟨y,hy⟩:=hread
        cases hcs:w.cells? 0 a (P.cellsOf e) with
        | none=>rw [hcs] at hy;simp at hy
        | some l0=>
          obtain⟨_,hl,hg⟩:=World.cells?_some hcs
          have h1:=hg 0 (by omega)
          have hlt:0<l0.length:=by omega
          rw [List.getElem?_eq_getElem hlt] at h1
          simp only [Addr.add,if_true] at h1
          unfold World.cell? at h1
          obtain⟨b,o,s⟩:=a
          cases s with
          | none=>rfl
          | some s=>
            simp only at h1
            split at h1<;>simp at h1
      have hadd:∀k,a.add k=⟨a.block,a.off+k,none⟩:=by
        intro k
        unfold Addr.add
        split
        · rename_i hk;subst hk;exact hsp
        · rfl
      have each:∀i,i<len → ∃(p:{a:c.den // ok a} × List Value),p.2.length=c.width∧(∀β,RepL ⟨β,wholeΓ w⟩ (Sx.enc c p.1.1) p.2) ∧ ∀(j:Nat) v,p.2[j]?=some v→w.cell? ⟨a.block,a.off+(i*c.width+j),none⟩=some v:=by
        intro i hi
        have h1:=helem i hi
        have hlt:i<elems.length:=by omega
        rw [List.getElem?_eq_getElem hlt] at h1
        cases hcs:w.cells? 0 (a.add (i*P.cellsOf e)) (P.cellsOf e) with
        | none=>rw [hcs] at h1;simp at h1
        | some l0=>
          rw [hcs] at h1
          simp only [Option.bind_some] at h1
          obtain⟨_,hl,hg⟩:=World.cells?_some hcs
          obtain⟨d,hd⟩:=he n l0 _ h1 (weightsAll_mem hw1 _ (List.mem_map.2 ⟨elems[i],List.getElem_mem hlt,rfl⟩))
          refine⟨(d,l0),by rw [←hc];exact hl,hd,fun j v hv=>?_⟩
          have hj:j<l0.length:=(List.getElem?_eq_some_iff.1 hv).1
          have:=hg j (by omega)
          rw [hv,hadd] at this
          unfold Addr.add at this
          split at this
          · rename_i hj0;subst hj0;rw [hc] at this;simpa using this
          · rw [hc] at this
            simp only at this
            rw [←this,Nat.add_assoc]
      obtain⟨ps,hpl,hp⟩:=choose_list (β:=Unit) len each
      refine⟨⟨ps.map (·.1.1),fun x hx=>by obtain⟨p,_,rfl⟩:=List.mem_map.1 hx;exact p.1.2⟩,fun β=>.cons ?_ (RepL.nil _)⟩
      dsimp only
      rw [hsp]
      have:=Rep.rslice (g:=⟨β,wholeΓ w⟩) false c (ps.map (·.1.1)) a.block a.off cap (fun i=>match ps[i]? with | some p=>p.2 | none=>List.replicate c.width undef) (by simp [hpl];exact hle) (by simp [hpl];exact hbytes) (fun i=>by
        cases hi:ps[i]? with
        | none=>simp
        | some p=>exact (hp i p hi).1) (fun i x hx j sv v h1 h2=>by
        rw [List.getElem?_map] at hx
        cases hi:ps[i]? with
        | none=>rw [hi] at hx;simp at hx
        | some p=>
          rw [hi] at hx h2
          simp at hx
          subst hx
          exact ((hp i p hi).2.1 β).2 j sv v h1 h2) (fun i hi j v h1=>by
        cases hq:ps[i]? with
        | none=>rw [List.getElem?_eq_none_iff] at hq;simp at hi;omega
        | some p=>
          rw [hq] at h1
          exact (hp i p hq).2.2 j v h1)
      simp only [List.length_map,hpl] at this
      exact this
theorem opens_intw {t:TypeId} {k:IntKind} (ht:P.underlying t=some (.int k)):Opens en P w t (fun n:{n:Int // (Lit.int k n).wf=true}=>[.int k n.1]):=by
  intro m cs x hx _
  obtain⟨n,rfl,_,hw⟩:=DataW.trod_int ht hx
  exact⟨⟨n,hw⟩,fun β=>.cons (.int k n) (RepL.nil _)⟩
theorem arg_sliceP {H:Type} {en:TypeId × Value→H} {P:Program} {w:World} {t e:TypeId} {c:Tc} {ok:c.den→Prop} {v:Value} {d:DataW H} {ps:List MemPlace} {r:Reach} {b0:Nat} (ht:P.underlying t=some (.slice e))
    (ho:Opens en P w t (fun l:{l:List c.den // ∀x,x∈l→ok x}=>[.rslice false c l.1])) (hval:Value.okWide P w r b0 t v) (hd:DataW.Trod en P w 0 (fun _=>true) true t v d ps) (hw:(d.weights P t).all (· ≤ reachBytes)=true) :
    ∃l:{l:List c.den // ∀x,x∈l→ok x},∀β,Rep ⟨β,wholeΓ w⟩ (.rslice false c l.1) v:=by
  obtain⟨a,len,cap,rfl⟩:=okWide_slice ht hval
  obtain⟨fuel,hf⟩:=hd
  obtain⟨l,hl⟩:=ho fuel _ _ hf hw
  exact⟨l,fun β=>(hl β).2 0 _ _ rfl rfl⟩
end
end Go.Proofs.YtgepebndihfnfaaGreat.Sx
namespace Go.Proofs.YtgepebndihfnfaaGreat.Ses
open Go Go.Proofs Go.Proofs.YtgepebndihfnfaaGreat.Sx
theorem inI_wf {n:Int} (h:(Lit.int .i64 n).wf=true):inI n=true:=by
  simp [Lit.wf,IntKind.min,IntKind.max,IntKind.signed,IntKind.bits] at h
  exact decide_eq_true h.2
section
variable {H : Type} {en : TypeId × Value → H} {w : World}
theorem opens_in {t:TypeId} (ht:Tryz.prog.underlying t=some (.int .i64)):Opens en Tryz.prog w t (fun n:{n:Int // inI n=true}=>[.int .i64 n.1]):=
  (opens_intw ht).map (fun a=>⟨a.1,inI_wf a.2⟩) (fun _=>rfl)
abbrev RqIn:={r:RequestD // inI r.from_=true}
theorem op_request:Opens en Tryz.prog w 42 (fun r:RqIn=>enc .request r.1):=
  (opens_struct Tryz.underlying42 (by kernel_rfl) (opensF_cons (sz:=1) rfl (by kernel_rfl) (opens_int Tryz.underlying3) (opensF_cons (sz:=1) rfl (by kernel_rfl) (opens_str Tryz.underlying9) (opensF_cons (sz:=1) rfl (by kernel_rfl) (opens_int Tryz.underlying3) (opensF_cons (sz:=1) rfl (by kernel_rfl) (opens_int Tryz.underlying3) (opensF_cons (sz:=1) rfl (by kernel_rfl) (opens_int Tryz.underlying3)
    (opensF_cons (sz:=1) rfl (by kernel_rfl) (opens_str Tryz.underlying9) (opensF_cons (sz:=1) rfl (by kernel_rfl) op_changes (opensF_cons (sz:=1) rfl (by kernel_rfl) (opens_str Tryz.underlying9) (opensF_cons (sz:=1) rfl (by kernel_rfl) (opens_in Tryz.underlying3) (opensF_cons (sz:=1) rfl (by kernel_rfl) (opens_int Tryz.underlying3) (opensF_cons (sz:=1) rfl (by kernel_rfl) (opens_int Tryz.underlying3) opensF_nil)))))))))))).map
    (fun a=>(⟨⟨a.1,a.2.1,a.2.2.1,a.2.2.2.1,a.2.2.2.2.1,a.2.2.2.2.2.1,a.2.2.2.2.2.2.1,a.2.2.2.2.2.2.2.1,a.2.2.2.2.2.2.2.2.1.1,a.2.2.2.2.2.2.2.2.2.1,a.2.2.2.2.2.2.2.2.2.2.1⟩,a.2.2.2.2.2.2.2.2.1.2⟩:RqIn)) (fun _=>rfl)
theorem op_requests:Opens en Tryz.prog w 22 (fun l:{l:List RequestD // ∀x,x∈l→inI x.from_=true}=>[.rslice false .request l.1]):=opens_sliceP (c:=.request) (ok:=fun r:RequestD=>inI r.from_=true) Tryz.underlying22 op_request (by kernel_rfl) (by kernel_rfl)
end
section
variable {H : Type} {en : TypeId × Value → H} {w : World}
def CfgD.enc (c:CfgD):List SV:=[.rslice false .int c.M,.int .i64 c.a,.int .i64 c.z,.int .i64 c.keep,.int .i64 c.beat,.int .i64 c.term,.int .i64 c.lease,.int .i64 c.num,.int .i64 c.den]
end
end Go.Proofs.YtgepebndihfnfaaGreat.Ses
