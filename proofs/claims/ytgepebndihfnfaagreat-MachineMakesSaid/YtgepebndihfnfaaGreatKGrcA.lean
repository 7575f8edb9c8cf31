/- A graph loaded; legal chains; the reference for changes: what the evaluator leaves of each, and that it holds. No condition. -/
import Derived.Test.YtgepebndihfnfaaGreatKGraA
import Derived.KernelRfl
set_option linter.unusedSimpArgs false
set_option linter.unusedVariables false

namespace Go.Proofs.YtgepebndihfnfaaGreat.Ses
open Go Go.Proofs Go.Proofs.YtgepebndihfnfaaGreat.Sx Go.Proofs.YtgepebndihfnfaaGreat.Trx
def fewX (l:List ChangeD):Bool:=decide (l.length≤100000)
def badC (l:List ChangeD) (i:Nat):Bool:=Nat.beq l.length 0||decide (16<l.length) || !(okUpto l i)
noncomputable def rcheckT:Tri:={γ:=List ChangeD,n0:=0,args:=fun x=>[.rslice false .change x],blks:=fun _=>[],pre:=fun x=>shortC x=true,δ:=Unit,post:=fun _ _=>True,n1:=0,res:=fun x _=>.int .i64 (chkC x),blks':=fun _ _=>[],scal:=true}
noncomputable def rcheckI:St→LInv:=fun s=>match getE s.env 0 with
  | .rslice _ .change l=>{σ:=Nat,I:=fun i=>i≤l.length,μ:=fun i=>l.length-i,env:=fun i=>[(4,.int .i64 i),(3,.bool (badC l i))],blk:=fun _=>[],fresh:=0,drop:=[]}
  | _=>LInv.none
noncomputable def rcheckJ:St→LInv:=fun s=>match getE s.env 0,getE s.env 4 with
  | .rslice _ .change l,.int _ i=>{σ:=Nat,I:=fun k=>k≤i.toNat,μ:=fun k=>i.toNat-k,env:=fun k=>[(7,.int .i64 k),(3,.bool (!(goodC (l.getD i.toNat ⟨[],false,0⟩))||hasC (l.getD i.toNat ⟨[],false,0⟩).path (l.take k)))],blk:=fun _=>[],fresh:=0,drop:=[]}
  | _,_=>LInv.none
noncomputable def rcheckE:Envr:=Env Tryz.prog cod [(156,normalT.spec)] [(3,rcheckI),(8,rcheckJ)]
noncomputable def rsortI:St→LInv:=fun s=>match getE s.env 0 with
  | .rslice _ .change l=>{σ:=Nat,I:=fun i=>i≤l.length,μ:=fun i=>l.length-i,env:=fun i=>[(4,.int .i64 i),(3,.mslice .change s.m.next 0 (insS (l.take i)).length)],blk:=fun i=>[(s.m.next,.rows .change (insS (l.take i)))],fresh:=1,drop:=[]}
  | _=>LInv.none
noncomputable def rsortJ:St→LInv:=fun s=>match getE s.env 0,getE s.env 3,getE s.env 4 with
  | .rslice _ .change l,.mslice _ n _ _,.int _ i=>(match s.m.blks.get n with
    | some (.rows .change out)=>{σ:=Nat,I:=fun k=>k≤out.length ∧ ∀j,k≤j→j<out.length→cmpC (l.getD i.toNat ⟨[],false,0⟩) (out.getD j ⟨[],false,0⟩)<0,μ:=fun k=>k,env:=fun k=>[(5,.int .i64 k)],blk:=fun _=>[],fresh:=0,drop:=[]}
    | _=>LInv.none)
  | _,_,_=>LInv.none
noncomputable def rsortE:Envr:=Env Tryz.prog cod [(193,rcompareT.spec)] [(3,rsortI),(6,rsortJ)]
def gcell (C:List CommitD) (n m:Nat):Blk:=.cells [.mslice .commit n 0 C.length,.tree (treeC C),.mmap m]
def loadA (raw:List CommitD) (i:Nat):LandA:=⟨raw.take i,(raw.getD i ⟨0,0,[],[]⟩).base,(raw.getD i ⟨0,0,[],[]⟩).ref,(raw.getD i ⟨0,0,[],[]⟩).changes⟩
def stepB (raw:List CommitD) (i:Nat):Bool:=(landV (loadA raw i)).code==2&&((landV (loadA raw i)).rev==(raw.getD i ⟨0,0,[],[]⟩).rev&&sameC (insS (raw.getD i ⟨0,0,[],[]⟩).changes) (raw.getD i ⟨0,0,[],[]⟩).changes)
def LoadsTo (raw:List CommitD) (i:Nat):Prop:=∀j,j<i→stepB raw j=true
def mayM (raw:List CommitD):Bool:=decide (raw.length≤4000)&&raw.all fun c=>shortC c.changes
noncomputable def load1T:Tri:={γ:=ComL,n0:=0,args:=fun raw=>[.rslice false .commit raw],blks:=fun _=>[],pre:=fun raw=>mayM raw=true∧LoadsTo raw raw.length,δ:=Unit,post:=fun _ _=>True,n1:=3,res:=fun _ _=>.tuple [.mptr 0 0,.int .i64 0],blks':=fun raw _=>gB raw 1,scal:=false}
noncomputable def loadI:St→LInv:=fun s=>match getE s.env 0,getE s.env 4 with
  | .rslice _ .commit raw,.mptr q _=>(match s.m.blks.get q with
    | some (.cells [.mslice _ n _ _,_,.mmap k])=>{σ:=Nat,I:=fun i=>i≤raw.length∧LoadsTo raw i,μ:=fun i=>raw.length-i,env:=fun i=>[(11,.int .i64 i)],blk:=fun i=>[(q,gcell (raw.take i) s.m.next k),(s.m.next,.rows .commit (raw.take i)),(k,.kv (kvC (raw.take i)))],fresh:=1,drop:=[n]}
    | _=>LInv.none)
  | _,_=>LInv.none
noncomputable def loadE:Envr:=Env Tryz.prog cod [(71,gnewT.spec),(72,landT.spec),(182,equalT.spec)] [(3,loadI)]
def altSpec (T1 T2:Tri):CallSpec:=fun args m kp k=>T1.spec args m kp k∨T2.spec args m kp k
theorem altSpec_ok {P:Program} {f:FuncId} {T1 T2:Tri} (h1:SpecOK P f T1.spec) (h2:SpecOK P f T2.spec):SpecOK P f (altSpec T1 T2):=by
  intro args m kp k h
  rcases h with h | h
  · exact h1 args m kp k h
  · exact h2 args m kp k h
set_option maxRecDepth 100000
abbrev rcheckQ1 (x2:Nat) (x:rcheckT.γ):=decide ((0:Int)≤(↑x2:Int)∧
(↑x2:Int)<(↑(List.length x):Int))
abbrev rcheckQ2 (x:rcheckT.γ) (x2:Nat):=List.getD x (↑x2:Int).toNat (ChangeD.mk ([]:List UInt8) false (0:Int))
abbrev rcheckQ3 (x:rcheckT.γ) (x2:Nat) (x5:Nat):=Bool.or (goodC (rcheckQ2 x x2)).not (hasC (rcheckQ2 x x2).path (List.take x5 x))
abbrev rcheckQ4 (x6:Nat) (x7:Nat):=IntKind.wrap IntKind.i64 ((↑x6:Int)+(1:Int))=(↑x7:Int)
abbrev rcheckQ5 (x7:Nat) (x2:Nat) (x6:Nat):=Nat.le x7 (↑x2:Int).toNat∧
Nat.sub (↑x2:Int).toNat x7<Nat.sub (↑x2:Int).toNat x6
abbrev rcheckQ6 (x2:Nat) (x:rcheckT.γ):=∀x6:Nat,Nat.le x6 (↑x2:Int).toNat→
br (decide ((↑x6:Int)<(↑x2:Int))) (br (rcheckQ3 x x2 x6) (∃x7:Nat,rcheckQ4 x6 x7∧
true=rcheckQ3 x x2 x7∧
rcheckQ5 x7 x2 x6) (br (rcheckQ1 x6 x) (br (rcheckQ1 x2 x) (∃x8:Nat,rcheckQ4 x6 x8∧
((rcheckQ2 x x6).path==(rcheckQ2 x x2).path)=rcheckQ3 x x2 x8∧
rcheckQ5 x8 x2 x6) (Bad "check" "ref.go:88")) (Bad "check" "ref.go:88"))) (∃x9:Nat,rcheckQ4 x2 x9∧
rcheckQ3 x x2 x6=badC x x9∧
Nat.le x9 (List.length x)∧
Nat.sub (List.length x) x9<Nat.sub (List.length x) x2)
abbrev rcheckQ7 (x:rcheckT.γ) (x2:Nat):=(∃x5:Nat,(0:Int)=(↑x5:Int)∧
true=rcheckQ3 x x2 x5∧
Nat.le x5 (↑x2:Int).toNat)∧
rcheckQ6 x2 x
abbrev rcheckQ8 (x:rcheckT.γ) (x2:Nat):=br (badC x x2) (∃x25:Unit,(1:Int)=chkC x∧
True) (∃x26:Unit,(0:Int)=chkC x∧
True)
abbrev rcheckQ9 (x:rcheckT.γ):=∀x2:Nat,Nat.le x2 (List.length x)→
List.length x*32≤room47→
br (decide ((↑x2:Int)<(↑(List.length x):Int))) (br (badC x x2).not (br (rcheckQ1 x2 x) (∃x3:(List UInt8),(rcheckQ2 x x2).path=x3∧
shortB x3=true∧
∀x4:Unit,True→
br (normB x3).isSome.not (rcheckQ7 x x2) (br (rcheckQ1 x2 x) (br (Option.getD (normB x3) ([]:List UInt8)==(rcheckQ2 x x2).path).not (rcheckQ7 x x2) (br (rcheckQ1 x2 x) (br (rcheckQ2 x x2).gone (br (rcheckQ1 x2 x) ((∃x15:Nat,(0:Int)=(↑x15:Int)∧
((rcheckQ2 x x2).digest != (0:Int))=rcheckQ3 x x2 x15∧
Nat.le x15 (↑x2:Int).toNat)∧
rcheckQ6 x2 x) (Bad "check" "ref.go:86")) ((∃x20:Nat,(0:Int)=(↑x20:Int)∧
false=rcheckQ3 x x2 x20∧
Nat.le x20 (↑x2:Int).toNat)∧
rcheckQ6 x2 x)) (Bad "check" "ref.go:86"))) (Bad "check" "ref.go:86"))) (Bad "check" "ref.go:85")) (rcheckQ8 x x2)) (rcheckQ8 x x2)
theorem rcheck_vc (x:rcheckT.γ):evCall rcheckE (ev rcheckE 1000) 132 (rcheckT.args x) ⟨rcheckT.blks x,rcheckT.n0,[]⟩ (fun _ _=>False) (rcheckT.ends x)=(
List.length x*32≤room47→
br ((↑(List.length x):Int)==(0:Int)) ((∃x1:Nat,(0:Int)=(↑x1:Int)∧
true=badC x x1∧
Nat.le x1 (List.length x))∧
rcheckQ9 x) (List.length x*32≤room47→
(∃x29:Nat,(0:Int)=(↑x29:Int)∧
decide ((↑(List.length x):Int)>(16:Int))=badC x x29∧
Nat.le x29 (List.length x))∧
rcheckQ9 x)):=by kernel_rfl
abbrev load1Q1  := CommitD.mk (0:Int) (0:Int) ([]:List UInt8) ([]:List ChangeD)
abbrev load1Q2 (x:load1T.γ) (x4:Nat):=List.getD x (↑x4:Int).toNat load1Q1
abbrev load1Q3  := ∃x7:Unit,Bad "match: mptr" ""
abbrev load1Q4 (x5:LandA):=IntKind.wrap IntKind.i64 ((landV x5).rev-(1:Int))
theorem load1_vc (x:load1T.γ):evCall loadE (ev loadE 1000) 121 (load1T.args x) ⟨load1T.blks x,load1T.n0,[]⟩ (fun _ _=>False) (load1T.ends x)=(
∃x1:Unit,True∧
∀x2:Unit,True→
List.length x*56≤room47→
(∃x3:Nat,(0:Int)=(↑x3:Int)∧
EqG ([]:List CommitD) (List.take x3 x) (x3≤List.length x∧
LoadsTo x x3))∧
∀x4:Nat,x4≤List.length x∧
LoadsTo x x4→
br (decide ((↑x4:Int)<(↑(List.length x):Int))) (br (decide ((0:Int)≤(↑x4:Int)∧
(↑x4:Int)<(↑(List.length x):Int))) (∃x5:LandA,(load1Q2 x x4).base=x5.base∧
(load1Q2 x x4).ref=x5.ref∧
(load1Q2 x x4).changes=x5.l∧
EqG (List.take x4 x) x5.C ((fewG x5.C=true∧
shortC x5.l=true)∧
∀x6:Unit,True→
br ((landV x5).code != (2:Int)) load1Q3 (br ((landV x5).rev != (load1Q2 x x4).rev) load1Q3 (br (decide ((0:Int)≤load1Q4 x5∧
load1Q4 x5<(↑(landC x5).length:Int))) (br (decide (0+(load1Q4 x5).toNat<(landC x5).length)) (∃x9:Cha2,(List.getD (landC x5) (0+(load1Q4 x5).toNat) load1Q1).changes=x9.a∧
(load1Q2 x x4).changes=x9.b∧
True∧
∀x10:Unit,True→
br (sameC x9.a x9.b).not load1Q3 (∃x12:Nat,IntKind.wrap IntKind.i64 ((↑x4:Int)+(1:Int))=(↑x12:Int)∧
EqG (landC x5) (List.take x12 x) ((x12≤List.length x∧
LoadsTo x x12)∧
Nat.sub (List.length x) x12<Nat.sub (List.length x) x4))) (Bad "check" "graph.go:163")) (Bad "check" "graph.go:163"))))) (Bad "check" "graph.go:161")) (∃x13:Unit,(0:Int)=(0:Int)∧
EqG (List.take x4 x) x True)):=by kernel_rfl
theorem chk_bad (l:List ChangeD):chkC l=bif badC l l.length then 1 else 0:=rfl
theorem badC_upto {l:List ChangeD} {i:Nat} (hi:i≤l.length) (h:badC l i=true):badC l l.length=true:=by
  unfold badC at h ⊢
  cases ho:okUpto l i
  · rcases Nat.lt_or_ge i l.length with hl | hl
    · cases i with
      | zero=>cases ho
      | succ i=>rw [okUpto_bad ho l.length (by omega)];simp
    · rw [show l.length=i by omega,ho];simp
  · rw [ho] at h
    simp only [Bool.not_true,Bool.or_false] at h
    rw [h];simp
theorem badC_suc {l:List ChangeD} {i:Nat} (h:badC l i=false):badC l (i+1)=(!(goodC (l.getD i noC))||hasC (l.getD i noC).path (l.take i)):=by
  unfold badC at h ⊢
  simp only [Bool.or_eq_false_iff,Bool.not_eq_false'] at h
  obtain⟨⟨h1,h2⟩,h3⟩:=h
  have e:okUpto l (i+1)=(okUpto l i&&(goodC (l.getD i noC) && !(hasC (l.getD i noC).path (l.take i)))):=rfl
  rw [h1,h2,e,h3]
  cases goodC (l.getD i noC)<;>cases hasC (l.getD i noC).path (l.take i)<;>rfl
theorem has_suc {l:List ChangeD} {k:Nat} {p:Bs} (h:k<l.length):hasC p (l.take (k+1))=(hasC p (l.take k)||(l.getD k noC).path==p):=by
  unfold hasC
  rw [take_succ_getD noC h,List.any_append]
  simp
set_option maxHeartbeats 0 in
theorem rcheck_ok:SpecOK Tryz.prog 132 rcheckT.spec:=by
  refine Tri.ok (E:=rcheckE) (Env_ok (by decide +kernel) (by simp [rnormal_ok])) (n:=1000) rcheckT fun x hx=>?_
  rw [rcheck_vc]
  delta rcheckQ9 rcheckQ8 rcheckQ7 rcheckQ6 rcheckQ5 rcheckQ4 rcheckQ3 rcheckQ2 rcheckQ1
  revert hx
  revert x
  intro (l:List ChangeD) (hx:shortC l=true)
  intro hlen
  have hl:l.length≤4398046511104:=by
    have h5:l.length*32≤room47:=hlen
    simp only [room47] at h5
    omega
  have fin:∀i,i≤l.length→(badC l i=false→i=l.length)→br (badC l i) (∃_:Unit,(1:Int)=chkC l∧True) (∃_:Unit,(0:Int)=chkC l∧True):=by
    intro i hi hf
    refine br_i (fun h=>⟨(),?_,trivial⟩) (fun h=>⟨(),?_,trivial⟩)
    · rw [chk_bad,badC_upto hi h];rfl
    · rw [chk_bad,←hf h,h];rfl
  refine br_i (fun h0=>?_) (fun h0=>?_)
  · have h0:(l.length:Int)=0:=by simpa using h0
    have hb:∀i,badC l i=true:=fun i=>by
      unfold badC
      rw [show l.length=0 by omega];rfl
    exact⟨⟨0,rfl,(hb 0).symm,Nat.zero_le _⟩,fun i hi _=>by
      have hi:i≤l.length:=hi
      exact br_f (decide_eq_false (by omega)) (fin i hi (fun h=>by rw [hb] at h;cases h))⟩
  · have h0:¬(l.length:Int)=0:=by simpa using h0
    refine fun _=>⟨⟨0,rfl,?_,Nat.zero_le _⟩,fun i hi _=>?_⟩
    · unfold badC okUpto
      have e0:Nat.beq l.length 0=false:=by
        cases h':Nat.beq l.length 0
        · rfl
        · exact absurd (Nat.eq_of_beq_eq_true h') (by omega)
      rw [e0]
      simp only [Bool.false_or,Bool.not_true,Bool.or_false,gt_iff_lt]
      rw [decide_eq_decide];omega
    have hi:i≤l.length:=hi
    refine br_i (fun h1=>?_) (fun h1=>fin i hi fun _=>by have:=of_decide_eq_false h1;omega)
    have h1:=of_decide_eq_true h1
    refine br_i (fun h2=>?_) (fun h2=>fin i hi fun h=>by rw [h] at h2;cases h2)
    have h2:badC l i=false:=by simpa using h2
    have hs:=badC_suc h2
    have bi:decide ((0:Int)≤(i:Int)∧(i:Int)<(l.length:Int))=true:=decide_eq_true ⟨by omega,h1⟩
    have inner:∀b0:Bool,b0=(!(goodC (l.getD i noC))||hasC (l.getD i noC).path (l.take 0))→
        (∃k:Nat,(0:Int)=(k:Int)∧b0=(!(goodC (l.getD i noC))||hasC (l.getD i noC).path (l.take k))∧Nat.le k i)∧
        (∀k:Nat,Nat.le k i→br (decide ((k:Int)<(i:Int)))
          (br (!(goodC (l.getD i noC))||hasC (l.getD i noC).path (l.take k))
            (∃q:Nat,IntKind.i64.wrap ((k:Int)+1)=(q:Int)∧true=(!(goodC (l.getD i noC))||hasC (l.getD i noC).path (l.take q))∧Nat.le q i∧Nat.sub i q<Nat.sub i k)
            (br (decide ((0:Int)≤(k:Int)∧(k:Int)<(l.length:Int))) (br (decide ((0:Int)≤(i:Int)∧(i:Int)<(l.length:Int)))
              (∃q:Nat,IntKind.i64.wrap ((k:Int)+1)=(q:Int)∧((l.getD k noC).path==(l.getD i noC).path)=(!(goodC (l.getD i noC))||hasC (l.getD i noC).path (l.take q))∧Nat.le q i∧Nat.sub i q<Nat.sub i k) (Bad "check" "ref.go:88")) (Bad "check" "ref.go:88")))
          (∃q:Nat,IntKind.i64.wrap ((i:Int)+1)=(q:Int)∧(!(goodC (l.getD i noC))||hasC (l.getD i noC).path (l.take k))=badC l q∧Nat.le q l.length∧Nat.sub l.length q<Nat.sub l.length i)):=by
      intro b0 hb0
      refine⟨⟨0,rfl,hb0,Nat.zero_le _⟩,fun k hk=>br_i (fun h4=>?_) (fun h4=>?_)⟩
      · have h4:=of_decide_eq_true h4
        have hh:=has_suc (l:=l) (k:=k) (p:=(l.getD i noC).path) (by omega)
        refine br_i (fun h5=>⟨k+1,by rw [wrap_id (by omega) (by omega)];rfl,?_,by show k+1≤i;omega,by show i-(k+1)<i-k;omega⟩) (fun h5=>br_t (decide_eq_true ⟨by omega,by omega⟩) (br_t bi ⟨k+1,by rw [wrap_id (by omega) (by omega)];rfl,?_,by show k+1≤i;omega,by show i-(k+1)<i-k;omega⟩))
        · rw [hh,←Bool.or_assoc,h5];rfl
        · rw [hh,←Bool.or_assoc,h5];rfl
      · have h4:=of_decide_eq_false h4
        have hk:k≤i:=hk
        have:k=i:=by omega
        subst this
        exact⟨k+1,by rw [wrap_id (by omega) (by omega)];rfl,hs.symm,by show k+1≤l.length;omega,by show l.length-(k+1)<l.length-k;omega⟩
    have has0:hasC (l.getD i noC).path (l.take 0)=false:=rfl
    have hg:goodC (l.getD i noC)=((normB (l.getD i noC).path==some (l.getD i noC).path)&&(!(l.getD i noC).gone||(l.getD i noC).digest==0)):=rfl
    refine br_t bi ⟨(l.getD i noC).path,rfl,List.all_eq_true.1 hx _ (getD_mem (d:=noC) (by omega)),fun _ _=>br_i (fun g1=>inner _ ?_) (fun g1=>br_t bi (br_i (fun g2=>inner _ ?_) (fun g2=>br_t bi (br_i (fun g3=>br_t bi (inner _ ?_)) (fun g3=>inner _ ?_)))))⟩
    · have g1:normB (l.getD i noC).path=none:=by simpa using g1
      rw [hg,has0,g1];rfl
    all_goals
      have g1:(normB (l.getD i noC).path).isSome=true:=by simpa using g1
      obtain⟨q,hq⟩:=Option.isSome_iff_exists.1 g1
      rw [hq] at g2
      simp only [Option.getD_some] at g2
      rw [hg,has0,hq]
    · have g2:(q==(l.getD i noC).path)=false:=by simpa using g2
      have:(some q==some (l.getD i noC).path)=false:=g2
      rw [this];rfl
    · have g2:(q==(l.getD i noC).path)=true:=by simpa using g2
      have:(some q==some (l.getD i noC).path)=true:=g2
      have g3:(l.getD i noC).gone=true:=g3
      rw [this,g3]
      simp
      rfl
    · have g2:(q==(l.getD i noC).path)=true:=by simpa using g2
      have:(some q==some (l.getD i noC).path)=true:=g2
      have g3:(l.getD i noC).gone=false:=g3
      rw [this,g3]
      rfl
theorem land_two {x:LandA} (h:(landV x).code=2):badLd x=false∧landV x=vC 2 ((x.C.length:Int)+1) []∧landC x=x.C++[newC x]:=by
  cases hb:badLd x
  · by_cases ha:x.base>x.C.length
    · rw [(land_ahead hb ha).1] at h;cases h
    · cases hc:confA x with
      | none=>exact⟨rfl,land_in hb ha hc⟩
      | some q=>rw [(land_conf hb ha hc).1] at h;cases h
  · rw [(land_bad hb).1] at h;cases h
theorem sameC_eq:∀ {a b:List ChangeD},sameC a b=true→a=b
  | [],[],_=>rfl
  | [],y::r,h=>by cases h
  | x::r,[],h=>by cases h
  | x::a,y::b,h=>by
    have h0:=same_at (a:=x::a) (b:=y::b) (i:=0) (by simp) (by simp)
    have h1:(eqC x y&&sameC a b)=true:=by
      have e:sameC (x::a) (y::b)=(eqC x y&&sameC a b):=h0
      rw [←e];exact h
    rw [Bool.and_eq_true] at h1
    rw [eqC_iff.1 h1.1,sameC_eq h1.2]
structure StepOK (raw:List CommitD) (i:Nat):Prop where
  code:(landV (loadA raw i)).code=2
  rev:(landV (loadA raw i)).rev=(raw.getD i noM).rev
  same:insS (raw.getD i noM).changes=(raw.getD i noM).changes
theorem step_of {raw:List CommitD} {i:Nat} (h:stepB raw i=true):StepOK raw i:=by
  unfold stepB at h
  simp only [Bool.and_eq_true] at h
  exact⟨eq_of_beq h.1,eq_of_beq h.2.1,sameC_eq h.2.2⟩
theorem step_land {raw:List CommitD} {i:Nat} (hi:i<raw.length) (h:StepOK raw i):landC (loadA raw i)=raw.take (i+1)∧(landV (loadA raw i)).rev=(i:Int)+1∧(raw.getD i noM).changes.length≤16:=by
  obtain⟨hb,hV,hC⟩:=land_two h.code
  have hl:(loadA raw i).C.length=i:=by show (raw.take i).length=i;rw [List.length_take];omega
  have hrev:(landV (loadA raw i)).rev=(i:Int)+1:=by rw [hV,hl];rfl
  refine⟨?_,hrev,?_⟩
  · rw [hC,take_succ_getD noM hi]
    show raw.take i++[newC (loadA raw i)]=_
    have e:newC (loadA raw i)=raw.getD i noM:=by
      have e1:((loadA raw i).C.length:Int)+1=(raw.getD i noM).rev:=by rw [hl,←hrev];exact h.rev
      have e2:insS (loadA raw i).l=(raw.getD i noM).changes:=h.same
      unfold newC
      rw [e1,e2]
      rfl
    rw [e]
  · exact (chk_few (chk_of_bad hb).1).1
theorem loads_few {raw:List CommitD} {i:Nat} (hi:i≤raw.length) (hl:raw.length≤4000) (h:LoadsTo raw i):fewG (raw.take i)=true:=by
  unfold fewG
  simp only [Bool.and_eq_true,decide_eq_true_eq,List.all_eq_true]
  refine⟨by rw [List.length_take];omega,fun c hc=>?_⟩
  obtain⟨j,hj⟩:=List.mem_iff_getElem?.1 hc
  rw [List.getElem?_take] at hj
  by_cases hji:j<i
  · rw [if_pos hji] at hj
    have e:raw.getD j noM=c:=by simp [List.getD,hj]
    rw [←e]
    exact (step_land (by omega) (step_of (h j hji))).2.2
  · rw [if_neg hji] at hj;cases hj
theorem mayM_of {raw:List CommitD} (h:mayM raw=true):raw.length≤4000 ∧ ∀i,i<raw.length→shortC (raw.getD i noM).changes=true:=by
  unfold mayM at h
  simp only [Bool.and_eq_true,decide_eq_true_eq,List.all_eq_true] at h
  exact⟨h.1,fun i hi=>h.2 _ (getD_mem hi)⟩
theorem loads_suc {raw:List CommitD} {i:Nat} (h:LoadsTo raw i) (h1:stepB raw i=true):LoadsTo raw (i+1):=fun j hj=>by
  by_cases e:j<i
  · exact h j e
  · have:j=i:=by omega
    subst this
    exact h1
theorem loadE_ok:EnvOK loadE:=Env_ok (by decide +kernel) (by
  intro p hp
  simp only [List.mem_cons,List.mem_nil_iff,or_false] at hp
  rcases hp with rfl | rfl | rfl
  · exact gnew_ok
  · exact land_ok
  · exact same_ok)
theorem load1_ok:SpecOK Tryz.prog 121 load1T.spec:=by
  refine Tri.ok (E:=loadE) loadE_ok (n:=1000) load1T fun x hx=>?_
  rw [load1_vc]
  delta load1Q4 load1Q3 load1Q2 load1Q1 EqG
  revert hx
  revert x
  intro (x:List CommitD) (hx:mayM x=true∧LoadsTo x x.length)
  obtain⟨hm,hL⟩:=hx
  obtain⟨m1,m2⟩:=mayM_of hm
  refine⟨(),trivial,fun _ _ _=>⟨⟨0,rfl,rfl,rfl,rfl,rfl,rfl,Nat.zero_le _,fun j hj=>absurd hj (Nat.not_lt_zero _)⟩,fun i hi=>br_i (fun h1=>?_) (fun h1=>?_)⟩⟩
  · obtain⟨i1,i2⟩:=hi
    have h1:=of_decide_eq_true h1
    have hs:=step_of (hL i (by omega))
    obtain⟨s1,s2,s3⟩:=step_land (by omega) hs
    refine br_t (decide_eq_true ⟨by omega,h1⟩) ⟨loadA x i,rfl,rfl,rfl,rfl,rfl,rfl,rfl,rfl,⟨loads_few i1 m1 i2,m2 i (by omega)⟩,fun _ _=>?_⟩
    rw [s1,s2,hs.code]
    have hr:(x.getD i noM).rev=(i:Int)+1:=by rw [←hs.rev,s2]
    have w:IntKind.i64.wrap ((i:Int)+1-1)=(i:Int):=by rw [wrap_id (by omega) (by omega)];omega
    rw [w]
    have e0:0+(i:Int).toNat=i:=by simp
    rw [e0]
    have tl:(x.take (i+1)).length=i+1:=by rw [List.length_take];omega
    have tg:(x.take (i+1)).getD i noM=x.getD i noM:=by simp [List.getD,List.getElem?_take]
    refine br_f (by decide) (br_f ?_ (br_t (decide_eq_true ⟨by omega,by omega⟩) (br_t (decide_eq_true (by omega)) ⟨⟨(x.getD i noM).changes,(x.getD i noM).changes⟩,congrArg CommitD.changes tg,rfl,trivial,fun _ _=>br_f (by rw [sameC_self];rfl) ⟨i+1,by rw [wrap_id (by omega) (by omega)];rfl,rfl,rfl,rfl,rfl,rfl,⟨by omega,loads_suc i2 (hL i (by omega))⟩,by show x.length-(i+1)<x.length-i;omega⟩⟩)))
    show ((i:Int)+1 != (x.getD i noM).rev)=false
    rw [hr];simp
  · obtain⟨i1,i2⟩:=hi
    have h1:=of_decide_eq_false h1
    rw [List.take_of_length_le (by omega)]
    exact⟨(),rfl,rfl,rfl,rfl,rfl,rfl,trivial⟩
section
variable {H : Type} {en : TypeId × Value → H} {w : World}
theorem op_change:Opens en Tryz.prog w 111 (enc .change):=
  (opens_struct Tryz.underlying111 (by kernel_rfl) (opensF_cons (sz:=1) rfl (by kernel_rfl) (opens_str Tryz.underlying9) (opensF_cons (sz:=1) rfl (by kernel_rfl) (opens_bool Tryz.underlying4) (opensF_cons (sz:=1) rfl (by kernel_rfl) (opens_int Tryz.underlying35) opensF_nil)))).map
    (fun a=>(⟨a.1,a.2.1,a.2.2.1⟩:ChangeD)) (fun _=>rfl)
theorem op_changes:Opens en Tryz.prog w 40 (fun l:List ChangeD=>[.rslice false .change l]):=opens_slice Tryz.underlying40 op_change (by kernel_rfl) (by kernel_rfl)
end
end Go.Proofs.YtgepebndihfnfaaGreat.Ses
