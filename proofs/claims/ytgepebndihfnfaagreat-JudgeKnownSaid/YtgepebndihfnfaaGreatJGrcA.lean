/- A graph loaded; legal chains; the reference for changes: what the evaluator leaves of each, and that it holds. No condition. -/
import Derived.Test.YtgepebndihfnfaaGreatJGraA
import Derived.KernelRfl
set_option linter.unusedSimpArgs false
set_option linter.unusedVariables false

namespace Go.Proofs.YtgepebndihfnfaaGreat.Ses
open Go Go.Proofs Go.Proofs.YtgepebndihfnfaaGreat.Sx Go.Proofs.YtgepebndihfnfaaGreat.Trx
def fewX (l:List ChangeD):Bool:=decide (l.length≤100000)
def badC (l:List ChangeD) (i:Nat):Bool:=Nat.beq l.length 0||decide (16<l.length) || !(okUpto l i)
noncomputable def rcheckT:Tri:={γ:=List ChangeD,n0:=0,args:=fun x=>[.rslice false .change x],blks:=fun _=>[],pre:=fun x=>shortC x=true,δ:=Unit,post:=fun _ _=>True,n1:=0,res:=fun x _=>.int .i64 (chkC x),blks':=fun _ _=>[],scal:=true}
noncomputable def rcheckI:St→LInv:=fun s=>match getE s.env 0 with
  | .rslice _ .change l=>{σ:=Nat,I:=fun i=>i≤l.length,μ:=fun i=>l.length-i,env:=fun i=>[(4,.int .i64 i),(3,.bool (badC l i))],blk:=fun _=>[],fresh:=0,drop:=[]}
  | _=>LInv.none
noncomputable def rcheckJ:St→LInv:=fun s=>match getE s.env 0,getE s.env 4 with
  | .rslice _ .change l,.int _ i=>{σ:=Nat,I:=fun k=>k≤i.toNat,μ:=fun k=>i.toNat-k,env:=fun k=>[(7,.int .i64 k),(3,.bool (!(goodC (l.getD i.toNat ⟨[],false,0⟩))||hasC (l.getD i.toNat ⟨[],false,0⟩).path (l.take k)))],blk:=fun _=>[],fresh:=0,drop:=[]}
  | _,_=>LInv.none
noncomputable def rcheckE:Envr:=Env Tryz.prog cod [(156,normalT.spec)] [(3,rcheckI),(8,rcheckJ)]
noncomputable def rsortI:St→LInv:=fun s=>match getE s.env 0 with
  | .rslice _ .change l=>{σ:=Nat,I:=fun i=>i≤l.length,μ:=fun i=>l.length-i,env:=fun i=>[(4,.int .i64 i),(3,.mslice .change s.m.next 0 (insS (l.take i)).length)],blk:=fun i=>[(s.m.next,.rows .change (insS (l.take i)))],fresh:=1,drop:=[]}
  | _=>LInv.none
noncomputable def rsortJ:St→LInv:=fun s=>match getE s.env 0,getE s.env 3,getE s.env 4 with
  | .rslice _ .change l,.mslice _ n _ _,.int _ i=>(match s.m.blks.get n with
    | some (.rows .change out)=>{σ:=Nat,I:=fun k=>k≤out.length ∧ ∀j,k≤j→j<out.length→cmpC (l.getD i.toNat ⟨[],false,0⟩) (out.getD j ⟨[],false,0⟩)<0,μ:=fun k=>k,env:=fun k=>[(5,.int .i64 k)],blk:=fun _=>[],fresh:=0,drop:=[]}
    | _=>LInv.none)
  | _,_,_=>LInv.none
noncomputable def rsortE:Envr:=Env Tryz.prog cod [(193,rcompareT.spec)] [(3,rsortI),(6,rsortJ)]
def gcell (C:List CommitD) (n m:Nat):Blk:=.cells [.mslice .commit n 0 C.length,.tree (treeC C),.mmap m]
def loadA (raw:List CommitD) (i:Nat):LandA:=⟨raw.take i,(raw.getD i ⟨0,0,[],[]⟩).base,(raw.getD i ⟨0,0,[],[]⟩).ref,(raw.getD i ⟨0,0,[],[]⟩).changes⟩
def altSpec (T1 T2:Tri):CallSpec:=fun args m kp k=>T1.spec args m kp k∨T2.spec args m kp k
theorem altSpec_ok {P:Program} {f:FuncId} {T1 T2:Tri} (h1:SpecOK P f T1.spec) (h2:SpecOK P f T2.spec):SpecOK P f (altSpec T1 T2):=by
  intro args m kp k h
  rcases h with h | h
  · exact h1 args m kp k h
  · exact h2 args m kp k h
set_option maxRecDepth 100000
abbrev rcheckQ1 (x2:Nat) (x:rcheckT.γ):=decide ((0:Int)≤(↑x2:Int)∧
(↑x2:Int)<(↑(List.length x):Int))
abbrev rcheckQ2 (x:rcheckT.γ) (x2:Nat):=List.getD x (↑x2:Int).toNat (ChangeD.mk ([]:List UInt8) false (0:Int))
abbrev rcheckQ3 (x:rcheckT.γ) (x2:Nat) (x5:Nat):=Bool.or (goodC (rcheckQ2 x x2)).not (hasC (rcheckQ2 x x2).path (List.take x5 x))
abbrev rcheckQ4 (x6:Nat) (x7:Nat):=IntKind.wrap IntKind.i64 ((↑x6:Int)+(1:Int))=(↑x7:Int)
abbrev rcheckQ5 (x7:Nat) (x2:Nat) (x6:Nat):=Nat.le x7 (↑x2:Int).toNat∧
Nat.sub (↑x2:Int).toNat x7<Nat.sub (↑x2:Int).toNat x6
abbrev rcheckQ6 (x2:Nat) (x:rcheckT.γ):=∀x6:Nat,Nat.le x6 (↑x2:Int).toNat→
br (decide ((↑x6:Int)<(↑x2:Int))) (br (rcheckQ3 x x2 x6) (∃x7:Nat,rcheckQ4 x6 x7∧
true=rcheckQ3 x x2 x7∧
rcheckQ5 x7 x2 x6) (br (rcheckQ1 x6 x) (br (rcheckQ1 x2 x) (∃x8:Nat,rcheckQ4 x6 x8∧
((rcheckQ2 x x6).path==(rcheckQ2 x x2).path)=rcheckQ3 x x2 x8∧
rcheckQ5 x8 x2 x6) (Bad "check" "ref.go:88")) (Bad "check" "ref.go:88"))) (∃x9:Nat,rcheckQ4 x2 x9∧
rcheckQ3 x x2 x6=badC x x9∧
Nat.le x9 (List.length x)∧
Nat.sub (List.length x) x9<Nat.sub (List.length x) x2)
abbrev rcheckQ7 (x:rcheckT.γ) (x2:Nat):=(∃x5:Nat,(0:Int)=(↑x5:Int)∧
true=rcheckQ3 x x2 x5∧
Nat.le x5 (↑x2:Int).toNat)∧
rcheckQ6 x2 x
abbrev rcheckQ8 (x:rcheckT.γ) (x2:Nat):=br (badC x x2) (∃x25:Unit,(1:Int)=chkC x∧
True) (∃x26:Unit,(0:Int)=chkC x∧
True)
abbrev rcheckQ9 (x:rcheckT.γ):=∀x2:Nat,Nat.le x2 (List.length x)→
List.length x*32≤room47→
br (decide ((↑x2:Int)<(↑(List.length x):Int))) (br (badC x x2).not (br (rcheckQ1 x2 x) (∃x3:(List UInt8),(rcheckQ2 x x2).path=x3∧
shortB x3=true∧
∀x4:Unit,True→
br (normB x3).isSome.not (rcheckQ7 x x2) (br (rcheckQ1 x2 x) (br (Option.getD (normB x3) ([]:List UInt8)==(rcheckQ2 x x2).path).not (rcheckQ7 x x2) (br (rcheckQ1 x2 x) (br (rcheckQ2 x x2).gone (br (rcheckQ1 x2 x) ((∃x15:Nat,(0:Int)=(↑x15:Int)∧
((rcheckQ2 x x2).digest != (0:Int))=rcheckQ3 x x2 x15∧
Nat.le x15 (↑x2:Int).toNat)∧
rcheckQ6 x2 x) (Bad "check" "ref.go:86")) ((∃x20:Nat,(0:Int)=(↑x20:Int)∧
false=rcheckQ3 x x2 x20∧
Nat.le x20 (↑x2:Int).toNat)∧
rcheckQ6 x2 x)) (Bad "check" "ref.go:86"))) (Bad "check" "ref.go:86"))) (Bad "check" "ref.go:85")) (rcheckQ8 x x2)) (rcheckQ8 x x2)
theorem rcheck_vc (x:rcheckT.γ):evCall rcheckE (ev rcheckE 1000) 132 (rcheckT.args x) ⟨rcheckT.blks x,rcheckT.n0,[]⟩ (fun _ _=>False) (rcheckT.ends x)=(
List.length x*32≤room47→
br ((↑(List.length x):Int)==(0:Int)) ((∃x1:Nat,(0:Int)=(↑x1:Int)∧
true=badC x x1∧
Nat.le x1 (List.length x))∧
rcheckQ9 x) (List.length x*32≤room47→
(∃x29:Nat,(0:Int)=(↑x29:Int)∧
decide ((↑(List.length x):Int)>(16:Int))=badC x x29∧
Nat.le x29 (List.length x))∧
rcheckQ9 x)):=by kernel_rfl
theorem chk_bad (l:List ChangeD):chkC l=bif badC l l.length then 1 else 0:=rfl
theorem badC_upto {l:List ChangeD} {i:Nat} (hi:i≤l.length) (h:badC l i=true):badC l l.length=true:=by
  unfold badC at h ⊢
  cases ho:okUpto l i
  · rcases Nat.lt_or_ge i l.length with hl | hl
    · cases i with
      | zero=>cases ho
      | succ i=>rw [okUpto_bad ho l.length (by omega)];simp
    · rw [show l.length=i by omega,ho];simp
  · rw [ho] at h
    simp only [Bool.not_true,Bool.or_false] at h
    rw [h];simp
theorem badC_suc {l:List ChangeD} {i:Nat} (h:badC l i=false):badC l (i+1)=(!(goodC (l.getD i noC))||hasC (l.getD i noC).path (l.take i)):=by
  unfold badC at h ⊢
  simp only [Bool.or_eq_false_iff,Bool.not_eq_false'] at h
  obtain⟨⟨h1,h2⟩,h3⟩:=h
  have e:okUpto l (i+1)=(okUpto l i&&(goodC (l.getD i noC) && !(hasC (l.getD i noC).path (l.take i)))):=rfl
  rw [h1,h2,e,h3]
  cases goodC (l.getD i noC)<;>cases hasC (l.getD i noC).path (l.take i)<;>rfl
theorem has_suc {l:List ChangeD} {k:Nat} {p:Bs} (h:k<l.length):hasC p (l.take (k+1))=(hasC p (l.take k)||(l.getD k noC).path==p):=by
  unfold hasC
  rw [take_succ_getD noC h,List.any_append]
  simp
set_option maxHeartbeats 0 in
theorem rcheck_ok:SpecOK Tryz.prog 132 rcheckT.spec:=by
  refine Tri.ok (E:=rcheckE) (Env_ok (by decide +kernel) (by simp [rnormal_ok])) (n:=1000) rcheckT fun x hx=>?_
  rw [rcheck_vc]
  delta rcheckQ9 rcheckQ8 rcheckQ7 rcheckQ6 rcheckQ5 rcheckQ4 rcheckQ3 rcheckQ2 rcheckQ1
  revert hx
  revert x
  intro (l:List ChangeD) (hx:shortC l=true)
  intro hlen
  have hl:l.length≤4398046511104:=by
    have h5:l.length*32≤room47:=hlen
    simp only [room47] at h5
    omega
  have fin:∀i,i≤l.length→(badC l i=false→i=l.length)→br (badC l i) (∃_:Unit,(1:Int)=chkC l∧True) (∃_:Unit,(0:Int)=chkC l∧True):=by
    intro i hi hf
    refine br_i (fun h=>⟨(),?_,trivial⟩) (fun h=>⟨(),?_,trivial⟩)
    · rw [chk_bad,badC_upto hi h];rfl
    · rw [chk_bad,←hf h,h];rfl
  refine br_i (fun h0=>?_) (fun h0=>?_)
  · have h0:(l.length:Int)=0:=by simpa using h0
    have hb:∀i,badC l i=true:=fun i=>by
      unfold badC
      rw [show l.length=0 by omega];rfl
    exact⟨⟨0,rfl,(hb 0).symm,Nat.zero_le _⟩,fun i hi _=>by
      have hi:i≤l.length:=hi
      exact br_f (decide_eq_false (by omega)) (fin i hi (fun h=>by rw [hb] at h;cases h))⟩
  · have h0:¬(l.length:Int)=0:=by simpa using h0
    refine fun _=>⟨⟨0,rfl,?_,Nat.zero_le _⟩,fun i hi _=>?_⟩
    · unfold badC okUpto
      have e0:Nat.beq l.length 0=false:=by
        cases h':Nat.beq l.length 0
        · rfl
        · exact absurd (Nat.eq_of_beq_eq_true h') (by omega)
      rw [e0]
      simp only [Bool.false_or,Bool.not_true,Bool.or_false,gt_iff_lt]
      rw [decide_eq_decide];omega
    have hi:i≤l.length:=hi
    refine br_i (fun h1=>?_) (fun h1=>fin i hi fun _=>by have:=of_decide_eq_false h1;omega)
    have h1:=of_decide_eq_true h1
    refine br_i (fun h2=>?_) (fun h2=>fin i hi fun h=>by rw [h] at h2;cases h2)
    have h2:badC l i=false:=by simpa using h2
    have hs:=badC_suc h2
    have bi:decide ((0:Int)≤(i:Int)∧(i:Int)<(l.length:Int))=true:=decide_eq_true ⟨by omega,h1⟩
    have inner:∀b0:Bool,b0=(!(goodC (l.getD i noC))||hasC (l.getD i noC).path (l.take 0))→
        (∃k:Nat,(0:Int)=(k:Int)∧b0=(!(goodC (l.getD i noC))||hasC (l.getD i noC).path (l.take k))∧Nat.le k i)∧
        (∀k:Nat,Nat.le k i→br (decide ((k:Int)<(i:Int)))
          (br (!(goodC (l.getD i noC))||hasC (l.getD i noC).path (l.take k))
            (∃q:Nat,IntKind.i64.wrap ((k:Int)+1)=(q:Int)∧true=(!(goodC (l.getD i noC))||hasC (l.getD i noC).path (l.take q))∧Nat.le q i∧Nat.sub i q<Nat.sub i k)
            (br (decide ((0:Int)≤(k:Int)∧(k:Int)<(l.length:Int))) (br (decide ((0:Int)≤(i:Int)∧(i:Int)<(l.length:Int)))
              (∃q:Nat,IntKind.i64.wrap ((k:Int)+1)=(q:Int)∧((l.getD k noC).path==(l.getD i noC).path)=(!(goodC (l.getD i noC))||hasC (l.getD i noC).path (l.take q))∧Nat.le q i∧Nat.sub i q<Nat.sub i k) (Bad "check" "ref.go:88")) (Bad "check" "ref.go:88")))
          (∃q:Nat,IntKind.i64.wrap ((i:Int)+1)=(q:Int)∧(!(goodC (l.getD i noC))||hasC (l.getD i noC).path (l.take k))=badC l q∧Nat.le q l.length∧Nat.sub l.length q<Nat.sub l.length i)):=by
      intro b0 hb0
      refine⟨⟨0,rfl,hb0,Nat.zero_le _⟩,fun k hk=>br_i (fun h4=>?_) (fun h4=>?_)⟩
      · have h4:=of_decide_eq_true h4
        have hh:=has_suc (l:=l) (k:=k) (p:=(l.getD i noC).path) (by omega)
        refine br_i (fun h5=>⟨k+1,by rw [wrap_id (by omega) (by omega)];rfl,?_,by show k+1≤i;omega,by show i-(k+1)<i-k;omega⟩) (fun h5=>br_t (decide_eq_true ⟨by omega,by omega⟩) (br_t bi ⟨k+1,by rw [wrap_id (by omega) (by omega)];rfl,?_,by show k+1≤i;omega,by show i-(k+1)<i-k;omega⟩))
        · rw [hh,←Bool.or_assoc,h5];rfl
        · rw [hh,←Bool.or_assoc,h5];rfl
      · have h4:=of_decide_eq_false h4
        have hk:k≤i:=hk
        have:k=i:=by omega
        subst this
        exact⟨k+1,by rw [wrap_id (by omega) (by omega)];rfl,hs.symm,by show k+1≤l.length;omega,by show l.length-(k+1)<l.length-k;omega⟩
    have has0:hasC (l.getD i noC).path (l.take 0)=false:=rfl
    have hg:goodC (l.getD i noC)=((normB (l.getD i noC).path==some (l.getD i noC).path)&&(!(l.getD i noC).gone||(l.getD i noC).digest==0)):=rfl
    refine br_t bi ⟨(l.getD i noC).path,rfl,List.all_eq_true.1 hx _ (getD_mem (d:=noC) (by omega)),fun _ _=>br_i (fun g1=>inner _ ?_) (fun g1=>br_t bi (br_i (fun g2=>inner _ ?_) (fun g2=>br_t bi (br_i (fun g3=>br_t bi (inner _ ?_)) (fun g3=>inner _ ?_)))))⟩
    · have g1:normB (l.getD i noC).path=none:=by simpa using g1
      rw [hg,has0,g1];rfl
    all_goals
      have g1:(normB (l.getD i noC).path).isSome=true:=by simpa using g1
      obtain⟨q,hq⟩:=Option.isSome_iff_exists.1 g1
      rw [hq] at g2
      simp only [Option.getD_some] at g2
      rw [hg,has0,hq]
    · have g2:(q==(l.getD i noC).path)=false:=by simpa using g2
      have:(some q==some (l.getD i noC).path)=false:=g2
      rw [this];rfl
    · have g2:(q==(l.getD i noC).path)=true:=by simpa using g2
      have:(some q==some (l.getD i noC).path)=true:=g2
      have g3:(l.getD i noC).gone=true:=g3
      rw [this,g3]
      simp
      rfl
    · have g2:(q==(l.getD i noC).path)=true:=by simpa using g2
      have:(some q==some (l.getD i noC).path)=true:=g2
      have g3:(l.getD i noC).gone=false:=g3
      rw [this,g3]
      rfl
structure StepOK (raw:List CommitD) (i:Nat):Prop where
  code:(landV (loadA raw i)).code=2
  rev:(landV (loadA raw i)).rev=(raw.getD i noM).rev
  same:insS (raw.getD i noM).changes=(raw.getD i noM).changes
section
variable {H : Type} {en : TypeId × Value → H} {w : World}
theorem op_change:Opens en Tryz.prog w 111 (enc .change):=
  (opens_struct Tryz.underlying111 (by kernel_rfl) (opensF_cons (sz:=1) rfl (by kernel_rfl) (opens_str Tryz.underlying9) (opensF_cons (sz:=1) rfl (by kernel_rfl) (opens_bool Tryz.underlying4) (opensF_cons (sz:=1) rfl (by kernel_rfl) (opens_int Tryz.underlying35) opensF_nil)))).map
    (fun a=>(⟨a.1,a.2.1,a.2.2.1⟩:ChangeD)) (fun _=>rfl)
theorem op_changes:Opens en Tryz.prog w 40 (fun l:List ChangeD=>[.rslice false .change l]):=opens_slice Tryz.underlying40 op_change (by kernel_rfl) (by kernel_rfl)
end
end Go.Proofs.YtgepebndihfnfaaGreat.Ses
