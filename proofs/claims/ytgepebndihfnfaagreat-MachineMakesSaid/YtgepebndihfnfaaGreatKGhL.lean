/- A machine of its parts; the law MachineMakes: what the evaluator leaves, and that it holds. No condition. -/
import Derived.Test.YtgepebndihfnfaaGreatKGhK
import Derived.KernelRfl
set_option linter.unusedSimpArgs false
set_option linter.unusedVariables false

namespace Go.Proofs.YtgepebndihfnfaaGreat.Ses
open Go Go.Proofs Go.Proofs.YtgepebndihfnfaaGreat.Sx Go.Proofs.YtgepebndihfnfaaGreat.Trx
structure MkmA where
  a:Int
  z:Int
  p:Int
  E:List EpochD
  S:List SessionD
  C:List CommitD
def mkmC (x:MkmA):Int:=bif eloC x.a x.E==0 then (bif sloC x.z x.S==0 then (bif decide (x.p<0)||decide (x.p>1099511627776) then 4 else 0) else sloC x.z x.S) else eloC x.a x.E
def mkmM (x:MkmA):MacS:=⟨x.a,x.z,x.p,x.C,x.S,cutE x.E x.p⟩
def mkmL (C:List CommitD):Prop:=(mayM C=true∧fewM C=true)∧LoadsTo C C.length
def mkmArgs (x:MkmA):List SV:=[.int .i64 x.a,.int .i64 x.z,.int .i64 x.p,.rslice false .epoch x.E,.rslice false .session x.S,.rslice false .commit x.C]
noncomputable def mkmE:Envr:=Env Tryz.prog cod [(119,altSpec elo1T elo2T),(120,altSpec slo1T slo2T),(121,load1T.spec),(81,ecutT.spec)] []
noncomputable def mkm1T:Tri:={γ:=MkmA,n0:=0,args:=mkmArgs,blks:=fun _=>[],pre:=fun x=>mkmC x=0∧mkmL x.C,δ:=Unit,post:=fun _ _=>True,n1:=8,res:=fun _ _=>.tuple [.mptr 0 0,.int .i64 0],blks':=fun x _=>mB (mkmM x) 0 1 2 3 4 5 6 7,scal:=false}
noncomputable def mkm2T:Tri:={γ:=MkmA,n0:=0,args:=mkmArgs,blks:=fun _=>[],pre:=fun x=>(mkmC x==0)=false∧mkmL x.C,δ:=Unit,post:=fun _ _=>True,n1:=0,res:=fun x _=>.tuple [.nilp,.int .i64 (mkmC x)],blks':=fun _ _=>[],scal:=false}
noncomputable def rmkE:Envr:=Env Tryz.prog cod [(124,altSpec elo1T elo2T),(125,altSpec slo1T slo2T),(126,rload1T.spec),(99,rcutT.spec)] []
noncomputable def rmk1T:Tri:={γ:=MkmA,n0:=0,args:=mkmArgs,blks:=fun _=>[],pre:=fun x=>mkmC x=0∧mkmL x.C,δ:=Unit,post:=fun _ _=>True,n1:=8,res:=fun _ _=>.tuple [.mptr 0 0,.int .i64 0],blks':=fun x _=>rmB (mkmM x) 0 1 2 3 4 5 6 7,scal:=false}
set_option maxRecDepth 100000
abbrev mkm1Q1 (x5:List CommitD):=mayM x5=true∧
LoadsTo x5 x5.length
abbrev mkm1Q2  := ∃x7:Unit,Bad "match: mptr" ""
abbrev mkm1Q3 (x:mkm1T.γ):=decide (MkmA.p x>(1099511627776:Int))
abbrev mkm1Q4 (x:mkm1T.γ):=∃x27:(List CommitD),MkmA.C x=x27∧
mkm1Q1 x27∧
∀x28:Unit,True→
br (decide (MkmA.p x<(0:Int))) mkm1Q2 (br (mkm1Q3 x) mkm1Q2 (∃x31:EpA,Bad "match: mptr" ""))
theorem mkm1_vc (x:mkm1T.γ):evCall mkmE (ev mkmE 1000) 62 (mkm1T.args x) ⟨mkm1T.blks x,mkm1T.n0,[]⟩ (fun _ _=>False) (mkm1T.ends x)=(
Or (∃x1:EloA,MkmA.a x=x1.a∧
MkmA.E x=x1.E∧
eloC x1.a x1.E=(0:Int)∧
∀x2:Unit,True→
Or (∃x3:SloA,MkmA.z x=x3.z∧
MkmA.S x=x3.l∧
sloC x3.z x3.l=(0:Int)∧
∀x4:Unit,True→
∃x5:(List CommitD),MkmA.C x=x5∧
mkm1Q1 x5∧
∀x6:Unit,True→
br (decide (MkmA.p x<(0:Int))) mkm1Q2 (br (mkm1Q3 x) mkm1Q2 (∃x9:EpA,MkmA.p x=x9.slot∧
EqT x1.a x9.alpha x1.E x9.E (decide (1≤x9.E.length)=true∧
∀x10:Unit,True→
∃x11:Unit,(0:Int)=(0:Int)∧
MkmA.a x=(mkmM x).alpha∧
MkmA.z x=(mkmM x).size∧
MkmA.p x=(mkmM x).applied∧
EqG x5 (mkmM x).C (EqT x3.z (mkmM x).size x3.l (mkmM x).S (EqT x9.alpha (mkmM x).alpha (cutE x9.E x9.slot) (mkmM x).E True)))))) (∃x12:SloA,MkmA.z x=x12.z∧
MkmA.S x=x12.l∧
(sloC x12.z x12.l==(0:Int))=false∧
∀x13:Unit,True→
br (sloC x12.z x12.l != (0:Int)) mkm1Q2 (∃x15:(List CommitD),MkmA.C x=x15∧
mkm1Q1 x15∧
∀x16:Unit,True→
br (decide (MkmA.p x<(0:Int))) mkm1Q2 (br (mkm1Q3 x) mkm1Q2 (∃x19:EpA,MkmA.p x=x19.slot∧
EqT x1.a x19.alpha x1.E x19.E (decide (1≤x19.E.length)=true∧
∀x20:Unit,True→
∃x21:Unit,(0:Int)=(0:Int)∧
MkmA.a x=(mkmM x).alpha∧
MkmA.z x=(mkmM x).size∧
MkmA.p x=(mkmM x).applied∧
Bad "match: mptr" "")))))) (∃x22:EloA,MkmA.a x=x22.a∧
MkmA.E x=x22.E∧
(eloC x22.a x22.E==(0:Int))=false∧
∀x23:Unit,True→
br (eloC x22.a x22.E != (0:Int)) mkm1Q2 (Or (∃x25:SloA,MkmA.z x=x25.z∧
MkmA.S x=x25.l∧
sloC x25.z x25.l=(0:Int)∧
∀x26:Unit,True→
mkm1Q4 x) (∃x32:SloA,MkmA.z x=x32.z∧
MkmA.S x=x32.l∧
(sloC x32.z x32.l==(0:Int))=false∧
∀x33:Unit,True→
br (sloC x32.z x32.l != (0:Int)) mkm1Q2 (mkm1Q4 x))))):=by kernel_rfl
abbrev mkm2Q1 (x:mkm2T.γ):=∃x7:Unit,(4:Int)=mkmC x∧
True
abbrev mkm2Q2 (x:mkm2T.γ) (x1:EloA):=∃x5:(List CommitD),MkmA.C x=x5∧
(mayM x5=true∧
LoadsTo x5 x5.length)∧
∀x6:Unit,True→
br (decide (MkmA.p x<(0:Int))) (mkm2Q1 x) (br (decide (MkmA.p x>(1099511627776:Int))) (mkm2Q1 x) (∃x9:EpA,MkmA.p x=x9.slot∧
EqT x1.a x9.alpha x1.E x9.E (decide (1≤x9.E.length)=true∧
∀x10:Unit,True→
∃x11:Unit,Bad "match: nilp" "")))
abbrev mkm2Q3 (x:mkm2T.γ):=∃x27:(List CommitD),MkmA.C x=x27∧
(mayM x27=true∧
LoadsTo x27 x27.length)∧
∀x28:Unit,True→
br (decide (MkmA.p x<(0:Int))) (mkm2Q1 x) (br (decide (MkmA.p x>(1099511627776:Int))) (mkm2Q1 x) (∃x31:EpA,Bad "match: mptr" ""))
theorem mkm2_vc (x:mkm2T.γ):evCall mkmE (ev mkmE 1000) 62 (mkm2T.args x) ⟨mkm2T.blks x,mkm2T.n0,[]⟩ (fun _ _=>False) (mkm2T.ends x)=(
Or (∃x1:EloA,MkmA.a x=x1.a∧
MkmA.E x=x1.E∧
eloC x1.a x1.E=(0:Int)∧
∀x2:Unit,True→
Or (∃x3:SloA,MkmA.z x=x3.z∧
MkmA.S x=x3.l∧
sloC x3.z x3.l=(0:Int)∧
∀x4:Unit,True→
mkm2Q2 x x1) (∃x12:SloA,MkmA.z x=x12.z∧
MkmA.S x=x12.l∧
(sloC x12.z x12.l==(0:Int))=false∧
∀x13:Unit,True→
br (sloC x12.z x12.l != (0:Int)) (∃x14:Unit,sloC x12.z x12.l=mkmC x∧
True) (mkm2Q2 x x1))) (∃x22:EloA,MkmA.a x=x22.a∧
MkmA.E x=x22.E∧
(eloC x22.a x22.E==(0:Int))=false∧
∀x23:Unit,True→
br (eloC x22.a x22.E != (0:Int)) (∃x24:Unit,eloC x22.a x22.E=mkmC x∧
True) (Or (∃x25:SloA,MkmA.z x=x25.z∧
MkmA.S x=x25.l∧
sloC x25.z x25.l=(0:Int)∧
∀x26:Unit,True→
mkm2Q3 x) (∃x32:SloA,MkmA.z x=x32.z∧
MkmA.S x=x32.l∧
(sloC x32.z x32.l==(0:Int))=false∧
∀x33:Unit,True→
br (sloC x32.z x32.l != (0:Int)) (∃x34:Unit,sloC x32.z x32.l=mkmC x∧
True) (mkm2Q3 x))))):=by kernel_rfl
abbrev rmk1Q1 (x5:List CommitD):=(mayM x5=true∧
fewM x5=true)∧
LoadsTo x5 x5.length
abbrev rmk1Q2  := ∃x7:Unit,Bad "match: mptr" ""
abbrev rmk1Q3 (x:rmk1T.γ):=decide (MkmA.p x>(1099511627776:Int))
abbrev rmk1Q4 (x:rmk1T.γ):=∃x27:(List CommitD),MkmA.C x=x27∧
rmk1Q1 x27∧
∀x28:Unit,True→
br (decide (MkmA.p x<(0:Int))) rmk1Q2 (br (rmk1Q3 x) rmk1Q2 (∃x31:EpA,Bad "match: mptr" ""))
theorem rmk1_vc (x:rmk1T.γ):evCall rmkE (ev rmkE 1000) 68 (rmk1T.args x) ⟨rmk1T.blks x,rmk1T.n0,[]⟩ (fun _ _=>False) (rmk1T.ends x)=(
Or (∃x1:EloA,MkmA.a x=x1.a∧
MkmA.E x=x1.E∧
eloC x1.a x1.E=(0:Int)∧
∀x2:Unit,True→
Or (∃x3:SloA,MkmA.z x=x3.z∧
MkmA.S x=x3.l∧
sloC x3.z x3.l=(0:Int)∧
∀x4:Unit,True→
∃x5:(List CommitD),MkmA.C x=x5∧
rmk1Q1 x5∧
∀x6:Unit,True→
br (decide (MkmA.p x<(0:Int))) rmk1Q2 (br (rmk1Q3 x) rmk1Q2 (∃x9:EpA,MkmA.p x=x9.slot∧
EqT x1.a x9.alpha x1.E x9.E (decide (1≤x9.E.length)=true∧
∀x10:Unit,True→
∃x11:Unit,(0:Int)=(0:Int)∧
MkmA.p x=(mkmM x).applied∧
EqR x5 (mkmM x).C (EqT x3.z (mkmM x).size x3.l (mkmM x).S (EqT x9.alpha (mkmM x).alpha (cutE x9.E x9.slot) (mkmM x).E True)))))) (∃x12:SloA,MkmA.z x=x12.z∧
MkmA.S x=x12.l∧
(sloC x12.z x12.l==(0:Int))=false∧
∀x13:Unit,True→
br (sloC x12.z x12.l != (0:Int)) rmk1Q2 (∃x15:(List CommitD),MkmA.C x=x15∧
rmk1Q1 x15∧
∀x16:Unit,True→
br (decide (MkmA.p x<(0:Int))) rmk1Q2 (br (rmk1Q3 x) rmk1Q2 (∃x19:EpA,MkmA.p x=x19.slot∧
EqT x1.a x19.alpha x1.E x19.E (decide (1≤x19.E.length)=true∧
∀x20:Unit,True→
∃x21:Unit,(0:Int)=(0:Int)∧
MkmA.p x=(mkmM x).applied∧
0=0∧
x15.length=(mkmM x).C.length∧
0=0∧
(rowC x15).length=(rowC (mkmM x).C).length∧
0=0∧
(refsR x15).length=(refsR (mkmM x).C).length∧
Bad "match: mptr" "")))))) (∃x22:EloA,MkmA.a x=x22.a∧
MkmA.E x=x22.E∧
(eloC x22.a x22.E==(0:Int))=false∧
∀x23:Unit,True→
br (eloC x22.a x22.E != (0:Int)) rmk1Q2 (Or (∃x25:SloA,MkmA.z x=x25.z∧
MkmA.S x=x25.l∧
sloC x25.z x25.l=(0:Int)∧
∀x26:Unit,True→
rmk1Q4 x) (∃x32:SloA,MkmA.z x=x32.z∧
MkmA.S x=x32.l∧
(sloC x32.z x32.l==(0:Int))=false∧
∀x33:Unit,True→
br (sloC x32.z x32.l != (0:Int)) rmk1Q2 (rmk1Q4 x))))):=by kernel_rfl
abbrev rmk2Q1 (x5:List CommitD):=(mayM x5=true∧
fewM x5=true)∧
LoadsTo x5 x5.length
abbrev rmk2Q2 (x:mkm2T.γ):=∃x7:Unit,(4:Int)=mkmC x∧
True
abbrev rmk2Q3 (x:mkm2T.γ) (x1:EloA):=∃x5:(List CommitD),MkmA.C x=x5∧
rmk2Q1 x5∧
∀x6:Unit,True→
br (decide (MkmA.p x<(0:Int))) (rmk2Q2 x) (br (decide (MkmA.p x>(1099511627776:Int))) (rmk2Q2 x) (∃x9:EpA,MkmA.p x=x9.slot∧
EqT x1.a x9.alpha x1.E x9.E (decide (1≤x9.E.length)=true∧
∀x10:Unit,True→
∃x11:Unit,Bad "match: nilp" "")))
abbrev rmk2Q4 (x:mkm2T.γ):=∃x27:(List CommitD),MkmA.C x=x27∧
rmk2Q1 x27∧
∀x28:Unit,True→
br (decide (MkmA.p x<(0:Int))) (rmk2Q2 x) (br (decide (MkmA.p x>(1099511627776:Int))) (rmk2Q2 x) (∃x31:EpA,Bad "match: mptr" ""))
theorem rmk2_vc (x:mkm2T.γ):evCall rmkE (ev rmkE 1000) 68 (mkm2T.args x) ⟨mkm2T.blks x,mkm2T.n0,[]⟩ (fun _ _=>False) (mkm2T.ends x)=(
Or (∃x1:EloA,MkmA.a x=x1.a∧
MkmA.E x=x1.E∧
eloC x1.a x1.E=(0:Int)∧
∀x2:Unit,True→
Or (∃x3:SloA,MkmA.z x=x3.z∧
MkmA.S x=x3.l∧
sloC x3.z x3.l=(0:Int)∧
∀x4:Unit,True→
rmk2Q3 x x1) (∃x12:SloA,MkmA.z x=x12.z∧
MkmA.S x=x12.l∧
(sloC x12.z x12.l==(0:Int))=false∧
∀x13:Unit,True→
br (sloC x12.z x12.l != (0:Int)) (∃x14:Unit,sloC x12.z x12.l=mkmC x∧
True) (rmk2Q3 x x1))) (∃x22:EloA,MkmA.a x=x22.a∧
MkmA.E x=x22.E∧
(eloC x22.a x22.E==(0:Int))=false∧
∀x23:Unit,True→
br (eloC x22.a x22.E != (0:Int)) (∃x24:Unit,eloC x22.a x22.E=mkmC x∧
True) (Or (∃x25:SloA,MkmA.z x=x25.z∧
MkmA.S x=x25.l∧
sloC x25.z x25.l=(0:Int)∧
∀x26:Unit,True→
rmk2Q4 x) (∃x32:SloA,MkmA.z x=x32.z∧
MkmA.S x=x32.l∧
(sloC x32.z x32.l==(0:Int))=false∧
∀x33:Unit,True→
br (sloC x32.z x32.l != (0:Int)) (∃x34:Unit,sloC x32.z x32.l=mkmC x∧
True) (rmk2Q4 x))))):=by kernel_rfl
theorem elo_len {a:Int} {E:List EpochD} (h:eloC a E=0):1≤E.length:=by
  unfold eloC at h
  cases h1:decide (a<1)||decide (a>8)
  · rw [h1] at h
    cases h2:scanE (-1) E&&decide (1≤E.length)
    · rw [h2] at h
      have h:(4:Int)=0:=h
      omega
    · rw [Bool.and_eq_true] at h2
      exact of_decide_eq_true h2.2
  · rw [h1] at h
    have h:(1:Int)=0:=h
    omega
theorem mkmC_ok {x:MkmA} (h:mkmC x=0):eloC x.a x.E=0∧sloC x.z x.S=0∧¬x.p<0∧¬x.p>1099511627776:=by
  unfold mkmC at h
  cases h1:eloC x.a x.E==0
  · rw [h1] at h
    have h:eloC x.a x.E=0:=h
    rw [h] at h1
    cases h1
  · rw [h1] at h
    refine⟨eq_of_beq h1,?_⟩
    cases h2:sloC x.z x.S==0
    · rw [h2] at h
      have h:sloC x.z x.S=0:=h
      rw [h] at h2
      cases h2
    · rw [h2] at h
      refine⟨eq_of_beq h2,?_⟩
      cases h3:decide (x.p<0)||decide (x.p>1099511627776)
      · rw [Bool.or_eq_false_iff] at h3
        exact⟨of_decide_eq_false h3.1,of_decide_eq_false h3.2⟩
      · rw [h3] at h
        have h:(4:Int)=0:=h
        omega
theorem mkmC_e {x:MkmA} (h:(eloC x.a x.E==0)=false):eloC x.a x.E=mkmC x:=by
  unfold mkmC;rw [h];rfl
theorem mkmC_s {x:MkmA} (h1:(eloC x.a x.E==0)=true) (h:(sloC x.z x.S==0)=false):sloC x.z x.S=mkmC x:=by
  unfold mkmC;rw [h1,h];rfl
theorem mkmC_p {x:MkmA} (h1:(eloC x.a x.E==0)=true) (h2:(sloC x.z x.S==0)=true) (h:x.p<0∨x.p>1099511627776):(4:Int)=mkmC x:=by
  unfold mkmC
  have:(decide (x.p<0)||decide (x.p>1099511627776))=true:=by
    rw [Bool.or_eq_true,decide_eq_true_eq,decide_eq_true_eq];exact h
  rw [h1,h2,this];rfl
theorem mkmC_0 {x:MkmA} (h1:(eloC x.a x.E==0)=true) (h2:(sloC x.z x.S==0)=true) (h3:¬x.p<0) (h4:¬x.p>1099511627776):mkmC x=0:=by
  unfold mkmC
  rw [h1,h2,decide_eq_false h3,decide_eq_false h4];rfl
theorem mkmE_ok:EnvOK mkmE:=Env_ok (by decide +kernel) (by
  intro p hp
  simp only [List.mem_cons,List.mem_nil_iff,or_false] at hp
  rcases hp with rfl | rfl | rfl | rfl
  · exact altSpec_ok elo1_ok elo2_ok
  · exact altSpec_ok slo1_ok slo2_ok
  · exact load1_ok
  · exact ecut_ok)
theorem rmkE_ok:EnvOK rmkE:=Env_ok (by decide +kernel) (by
  intro p hp
  simp only [List.mem_cons,List.mem_nil_iff,or_false] at hp
  rcases hp with rfl | rfl | rfl | rfl
  · exact altSpec_ok elr1_ok elr2_ok
  · exact altSpec_ok lot1_ok lot2_ok
  · exact rload1_ok
  · exact rcut_ok)
theorem mkm1_ok:SpecOK Tryz.prog 62 mkm1T.spec:=by
  refine Tri.ok (E:=mkmE) mkmE_ok (n:=1000) mkm1T fun x hx=>?_
  rw [mkm1_vc]
  delta mkm1Q4 mkm1Q3 mkm1Q2 mkm1Q1 EqG EqT
  obtain⟨hx,hL⟩:mkmC x=0∧mkmL x.C:=hx
  obtain⟨h1,h2,h3,h4⟩:=mkmC_ok hx
  have hl:=elo_len h1
  exact .inl ⟨⟨x.a,x.E⟩,rfl,rfl,h1,fun _ _=>.inl ⟨⟨x.z,x.S⟩,rfl,rfl,h2,fun _ _=>⟨x.C,rfl,⟨hL.1.1,hL.2⟩,fun _ _=>br_f (decide_eq_false h3) (br_f (decide_eq_false h4) ⟨⟨x.a,x.E,x.p⟩,rfl,rfl,rfl,rfl,rfl,decide_eq_true hl,fun _ _=>⟨(),by repeat' (first | rfl | trivial | refine And.intro ?_ ?_)⟩⟩)⟩⟩⟩
theorem rmk1_ok:SpecOK Tryz.prog 68 rmk1T.spec:=by
  refine Tri.ok (E:=rmkE) rmkE_ok (n:=1000) rmk1T fun x hx=>?_
  rw [rmk1_vc]
  delta rmk1Q4 rmk1Q3 rmk1Q2 rmk1Q1 EqR EqT EqR6
  obtain⟨hx,hL⟩:mkmC x=0∧mkmL x.C:=hx
  obtain⟨h1,h2,h3,h4⟩:=mkmC_ok hx
  have hl:=elo_len h1
  exact .inl ⟨⟨x.a,x.E⟩,rfl,rfl,h1,fun _ _=>.inl ⟨⟨x.z,x.S⟩,rfl,rfl,h2,fun _ _=>⟨x.C,rfl,hL,fun _ _=>br_f (decide_eq_false h3) (br_f (decide_eq_false h4) ⟨⟨x.a,x.E,x.p⟩,rfl,rfl,rfl,rfl,rfl,decide_eq_true hl,fun _ _=>⟨(),by repeat' (first | rfl | trivial | refine And.intro ?_ ?_)⟩⟩)⟩⟩⟩
theorem mkm2_ok:SpecOK Tryz.prog 62 mkm2T.spec:=by
  refine Tri.ok (E:=mkmE) mkmE_ok (n:=1000) mkm2T fun x hx=>?_
  rw [mkm2_vc]
  delta mkm2Q3 mkm2Q2 mkm2Q1 EqT
  obtain⟨hx,hL⟩:(mkmC x==0)=false∧mkmL x.C:=hx
  cases h1:eloC x.a x.E==0
  · exact .inr ⟨⟨x.a,x.E⟩,rfl,rfl,h1,fun _ _=>br_t (by unfold bne;rw [h1];rfl) ⟨(),mkmC_e h1,trivial⟩⟩
  · refine .inl ⟨⟨x.a,x.E⟩,rfl,rfl,eq_of_beq h1,fun _ _=>?_⟩
    cases h2:sloC x.z x.S==0
    · exact .inr ⟨⟨x.z,x.S⟩,rfl,rfl,h2,fun _ _=>br_t (by unfold bne;rw [h2];rfl) ⟨(),mkmC_s h1 h2,trivial⟩⟩
    · refine .inl ⟨⟨x.z,x.S⟩,rfl,rfl,eq_of_beq h2,fun _ _=>⟨x.C,rfl,⟨hL.1.1,hL.2⟩,fun _ _=>br_i (fun h3=>⟨(),mkmC_p h1 h2 (.inl (of_decide_eq_true h3)),trivial⟩) fun h3=>br_i (fun h4=>⟨(),mkmC_p h1 h2 (.inr (of_decide_eq_true h4)),trivial⟩) fun h4=>?_⟩⟩
      rw [mkmC_0 h1 h2 (of_decide_eq_false h3) (of_decide_eq_false h4)] at hx
      cases hx
theorem rmk2_ok:SpecOK Tryz.prog 68 mkm2T.spec:=by
  refine Tri.ok (E:=rmkE) rmkE_ok (n:=1000) mkm2T fun x hx=>?_
  rw [rmk2_vc]
  delta rmk2Q4 rmk2Q3 rmk2Q2 rmk2Q1 EqT
  obtain⟨hx,hL⟩:(mkmC x==0)=false∧mkmL x.C:=hx
  cases h1:eloC x.a x.E==0
  · exact .inr ⟨⟨x.a,x.E⟩,rfl,rfl,h1,fun _ _=>br_t (by unfold bne;rw [h1];rfl) ⟨(),mkmC_e h1,trivial⟩⟩
  · refine .inl ⟨⟨x.a,x.E⟩,rfl,rfl,eq_of_beq h1,fun _ _=>?_⟩
    cases h2:sloC x.z x.S==0
    · exact .inr ⟨⟨x.z,x.S⟩,rfl,rfl,h2,fun _ _=>br_t (by unfold bne;rw [h2];rfl) ⟨(),mkmC_s h1 h2,trivial⟩⟩
    · refine .inl ⟨⟨x.z,x.S⟩,rfl,rfl,eq_of_beq h2,fun _ _=>⟨x.C,rfl,hL,fun _ _=>br_i (fun h3=>⟨(),mkmC_p h1 h2 (.inl (of_decide_eq_true h3)),trivial⟩) fun h3=>br_i (fun h4=>⟨(),mkmC_p h1 h2 (.inr (of_decide_eq_true h4)),trivial⟩) fun h4=>?_⟩⟩
      rw [mkmC_0 h1 h2 (of_decide_eq_false h3) (of_decide_eq_false h4)] at hx
      cases hx
structure MmsA where
  l:List RequestD
  k:List RequestD
  c:CfgD
def mmsArgs (x:MmsA):List SV:=[.rslice false .request x.l,.rslice false .request x.k,x.c.sv]
noncomputable def mmsE:Envr:=Env Tryz.prog cod [(49,aw8T.spec),(20,mroomT.spec),(50,freshT.spec),(57,rnew1T.spec),(24,applyT.spec),(48,rappT.spec),(25,appMT.spec),(65,epMT.spec),(66,sesMT.spec),(67,comMT.spec),(62,altSpec mkm1T mkm2T),(68,altSpec rmk1T mkm2T),(59,looks8T.spec),(23,alikeT.spec)] [(10,twoI 10 7 8 0),(18,twoI 13 11 8 1)]
set_option maxRecDepth 100000
abbrev mmsQ1  := [(0:Int),(1:Int),(2:Int)]
abbrev mmsQ2 (x11:Nat) (x:MmsA):=runF fresh0 (List.take x11 (MmsA.l x))
abbrev mmsQ3 (x12:Nat) (x:MmsA):=decide ((0:Int)≤(↑x12:Int)∧
(↑x12:Int)<(↑(MmsA.l x).length:Int))
abbrev mmsQ4 (x22:MacS):=decide ((0:Int)<x22.size)=true
abbrev mmsQ5 (x26:MkmA):=mkmC x26=(0:Int)∧
mkmL x26.C
abbrev mmsQ6 (x28:MacS) (x30:Nat) (x:MmsA):=runF x28 (List.take x30 (MmsA.k x))
abbrev mmsQ7 (x31:Nat) (x:MmsA):=decide ((0:Int)≤(↑x31:Int)∧
(↑x31:Int)<(↑(MmsA.k x).length:Int))
abbrev mmsQ8 (x59:MkmA):=(mkmC x59==(0:Int))=false∧
mkmL x59.C
abbrev mmsQ9  := ∃x63:MacS,Bad "match: mptr" ""
abbrev mmsQ10 (x59:MkmA):=br (mkmC x59==(0:Int)) mmsQ9 (false=true)
theorem mms_vc (x:MmsA):evCall mmsE (ev mmsE 1000) 17 (mmsArgs x) ⟨[],0,[]⟩ (fun _ _=>False) (fun v _=>TrueV v)=(
∃x1:Unit,True∧
∀x2:Unit,True→
∃x3:RmA,MmsA.l x=x3.l∧
(60:Int)=x3.most∧
True∧
∀x4:Unit,True→
br (roomM x3.l x3.most).not (true=true) (∃x5:RmA,MmsA.k x=x5.l∧
(60:Int)=x5.most∧
True∧
∀x6:Unit,True→
br (roomM x5.l x5.most).not (true=true) (∃x7:Unit,True∧
∀x8:Unit,True→
∃x9:CfA,0+3≤mmsQ1.length∧
List.take 3 (List.drop 0 mmsQ1)=x9.M∧
(2:Int)=x9.a∧
(3:Int)=x9.z∧
okCf x9.a x9.z x9.M=true∧
∀x10:Unit,True→
(∃x11:Nat,(0:Int)=(↑x11:Int)∧
EqM fresh0 (mmsQ2 x11 x) (EqN (freshM x9.a x9.z x9.M) (mmsQ2 x11 x) (Nat.le x11 (MmsA.l x).length)))∧
∀x12:Nat,Nat.le x12 (MmsA.l x).length→
(MmsA.l x).length*128≤room47→
br (decide ((↑x12:Int)<(↑(MmsA.l x).length:Int))) (br (mmsQ3 x12 x) (∃x13:MacA,EqQ (List.getD (MmsA.l x) (↑x12:Int).toNat RequestD.dflt) x13.r (EqM (mmsQ2 x12 x) x13.x ((okMS x13.x=true∧
okRq x13.r=true)∧
∀x14:Unit,True→
br (mmsQ3 x12 x) (∃x15:MacA,EqQ (List.getD (MmsA.l x) (↑x12:Int).toNat RequestD.dflt) x15.r (EqN (mmsQ2 x12 x) x15.x (okRm x15.x x15.r=true∧
∀x16:Unit,True→
∃x17:Nat,IntKind.wrap IntKind.i64 ((↑x12:Int)+(1:Int))=(↑x17:Int)∧
EqM (applyM x13.x x13.r).2 (mmsQ2 x17 x) (EqN (applyM x15.x x15.r).2 (mmsQ2 x17 x) (Nat.le x17 (MmsA.l x).length∧
Nat.sub (MmsA.l x).length x17<Nat.sub (MmsA.l x).length x12))))) (Bad "check" "law.go:173")))) (Bad "check" "law.go:172")) (∃x18:MacS,EqM (mmsQ2 x12 x) x18 (True∧
∀x19:Unit,True→
∃x20:MacS,EqM x18 x20 (okEl x20.E=true∧
∀x21:Unit,True→
∃x22:MacS,EqM x20 x22 (mmsQ4 x22∧
∀x23:Unit,True→
∃x24:MacS,EqM x22 x24 (fewG x24.C=true∧
∀x25:Unit,True→
Or (∃x26:MkmA,(mmsQ2 x12 x).alpha=x26.a∧
(mmsQ2 x12 x).size=x26.z∧
x18.applied=x26.p∧
x20.E=x26.E∧
x22.S=x26.S∧
x24.C=x26.C∧
mmsQ5 x26∧
∀x27:Unit,True→
∃x28:MacS,EqM (mkmM x26) x28 (EqN (mmsQ2 x12 x) x28 (okLk x28=true∧
∀x29:Unit,True→
(∃x30:Nat,(0:Int)=(↑x30:Int)∧
EqM x28 (mmsQ6 x28 x30 x) (EqN x28 (mmsQ6 x28 x30 x) (Nat.le x30 (MmsA.k x).length)))∧
∀x31:Nat,Nat.le x31 (MmsA.k x).length→
(MmsA.k x).length*128≤room47→
br (decide ((↑x31:Int)<(↑(MmsA.k x).length:Int))) (br (mmsQ7 x31 x) (br (mmsQ7 x31 x) (∃x32:MacA,EqQ (List.getD (MmsA.k x) (↑x31:Int).toNat RequestD.dflt) x32.r (EqM (mmsQ6 x28 x31 x) x32.x ((okMS x32.x=true∧
okRq x32.r=true)∧
∀x33:Unit,True→
∃x34:MacA,EqQ (List.getD (MmsA.k x) (↑x31:Int).toNat RequestD.dflt) x34.r (EqN (mmsQ6 x28 x31 x) x34.x (okRm x34.x x34.r=true∧
∀x35:Unit,True→
∃x36:Ver2,EqV (applyM x32.x x32.r).1 x36.a (EqV (applyM x34.x x34.r).1 x36.b (True∧
∀x37:Unit,True→
br (eqV x36.a x36.b).not (false=true) (∃x38:Nat,IntKind.wrap IntKind.i64 ((↑x31:Int)+(1:Int))=(↑x38:Int)∧
EqM (applyM x32.x x32.r).2 (mmsQ6 x28 x38 x) (EqN (applyM x34.x x34.r).2 (mmsQ6 x28 x38 x) (Nat.le x38 (MmsA.k x).length∧
Nat.sub (MmsA.k x).length x38<Nat.sub (MmsA.k x).length x31)))))))))) (Bad "check" "law.go:180")) (Bad "check" "law.go:180")) (∃x39:MacS,EqM x24 x39 (okEl x39.E=true∧
∀x40:Unit,True→
∃x41:MacS,EqM x39 x41 (mmsQ4 x41∧
∀x42:Unit,True→
∃x43:MacS,EqM x41 x43 (fewG x43.C=true∧
∀x44:Unit,True→
Or (∃x45:MkmA,CfgD.a (MmsA.c x)=x45.a∧
CfgD.z (MmsA.c x)=x45.z∧
CfgD.keep (MmsA.c x)=x45.p∧
x39.E=x45.E∧
x41.S=x45.S∧
x43.C=x45.C∧
mmsQ5 x45∧
∀x46:Unit,True→
∃x47:MacS,EqM x43 x47 (okEl x47.E=true∧
∀x48:Unit,True→
∃x49:MacS,EqM x47 x49 (mmsQ4 x49∧
∀x50:Unit,True→
∃x51:MacS,EqM x49 x51 (fewG x51.C=true∧
∀x52:Unit,True→
Or (∃x53:MkmA,CfgD.a (MmsA.c x)=x53.a∧
CfgD.z (MmsA.c x)=x53.z∧
CfgD.keep (MmsA.c x)=x53.p∧
x47.E=x53.E∧
x49.S=x53.S∧
x51.C=x53.C∧
mmsQ5 x53∧
∀x54:Unit,True→
∃x55:MacS,EqM (mmsQ6 x28 x31 x) x55 (EqN (mmsQ6 x28 x31 x) x55 (okLk x55=true∧
∀x56:Unit,True→
∃x57:MacS,EqM (mkmM x45) x57 (EqN (mkmM x53) x57 (okLk x57=true∧
∀x58:Unit,True→
true=true))))) (∃x59:MkmA,CfgD.a (MmsA.c x)=x59.a∧
CfgD.z (MmsA.c x)=x59.z∧
CfgD.keep (MmsA.c x)=x59.p∧
x47.E=x59.E∧
x49.S=x59.S∧
x51.C=x59.C∧
mmsQ8 x59∧
∀x60:Unit,True→
br ((0:Int)==mkmC x59) (∃x61:MacS,EqM (mmsQ6 x28 x31 x) x61 (EqN (mmsQ6 x28 x31 x) x61 (okLk x61=true∧
∀x62:Unit,True→
br (mkmC x59 != (0:Int)) (mmsQ10 x59) (mmsQ10 x59)))) (false=true)))))) (∃x65:MkmA,CfgD.a (MmsA.c x)=x65.a∧
CfgD.z (MmsA.c x)=x65.z∧
CfgD.keep (MmsA.c x)=x65.p∧
x39.E=x65.E∧
x41.S=x65.S∧
x43.C=x65.C∧
mmsQ8 x65∧
∀x66:Unit,True→
∃x67:MacS,EqM x43 x67 (okEl x67.E=true∧
∀x68:Unit,True→
∃x69:MacS,EqM x67 x69 (mmsQ4 x69∧
∀x70:Unit,True→
∃x71:MacS,EqM x69 x71 (fewG x71.C=true∧
∀x72:Unit,True→
Or (∃x73:MkmA,CfgD.a (MmsA.c x)=x73.a∧
CfgD.z (MmsA.c x)=x73.z∧
CfgD.keep (MmsA.c x)=x73.p∧
x67.E=x73.E∧
x69.S=x73.S∧
x71.C=x73.C∧
mmsQ5 x73∧
∀x74:Unit,True→
br (mkmC x65==(0:Int)) (∃x75:MacS,EqM (mmsQ6 x28 x31 x) x75 (EqN (mmsQ6 x28 x31 x) x75 (okLk x75=true∧
∀x76:Unit,True→
mmsQ9))) (false=true)) (∃x78:MkmA,CfgD.a (MmsA.c x)=x78.a∧
CfgD.z (MmsA.c x)=x78.z∧
CfgD.keep (MmsA.c x)=x78.p∧
x67.E=x78.E∧
x69.S=x78.S∧
x71.C=x78.C∧
mmsQ8 x78∧
∀x79:Unit,True→
br (mkmC x65==mkmC x78) (∃x80:MacS,EqM (mmsQ6 x28 x31 x) x80 (EqN (mmsQ6 x28 x31 x) x80 (okLk x80=true∧
∀x81:Unit,True→
br (mkmC x78 != (0:Int)) (true=true) (mmsQ10 x78)))) (false=true))))))))))))) (∃x83:MkmA,(mmsQ2 x12 x).alpha=x83.a∧
(mmsQ2 x12 x).size=x83.z∧
x18.applied=x83.p∧
x20.E=x83.E∧
x22.S=x83.S∧
x24.C=x83.C∧
mmsQ8 x83∧
∀x84:Unit,True→
br (mkmC x83 != (0:Int)) (false=true) mmsQ9))))))))):=by kernel_rfl
theorem elo_a {a:Int} {E:List EpochD} (h:eloC a E=0):¬a<1∧¬a>8:=by
  unfold eloC at h
  cases h1:decide (a<1)||decide (a>8)
  · rw [Bool.or_eq_false_iff] at h1
    exact⟨of_decide_eq_false h1.1,of_decide_eq_false h1.2⟩
  · rw [h1] at h
    have h:(1:Int)=0:=h
    omega
theorem lk_make {a z:Int} {n:Nat} {x:MacS} (h:MLd a z n x) (hn:n≤4000) {A Z p:Int} (h0:mkmC ⟨A,Z,p,x.E,x.S,x.C⟩=0):okLk (mkmM ⟨A,Z,p,x.E,x.S,x.C⟩)=true:=by
  obtain⟨e1,e2,e3,e4⟩:=mkmC_ok h0
  obtain⟨a1,a2⟩:=elo_a e1
  obtain⟨⟨z1,z2⟩,z3,_⟩:=sloC_ok e2
  dsimp only at a1 a2 z1 z2 z3 e3 e4
  have hc:=cut_len (s:=p) h.ds.ok.e1
  have hm:∀q,q∈cutE x.E p→mayE q.members=true:=fun q hq=>(h.ds.ok.em q (cut_mem hq)).1
  have heM:=h.ds.ok.eM
  have hf:=h.ds.ok.few hn
  unfold okLk okMS okEl okEp mkmM
  dsimp only
  simp only [Bool.and_eq_true,decide_eq_true_eq,List.all_eq_true]
  exact⟨⟨hf,by omega,by omega,⟨by omega,by omega,hc.1,by omega,hm⟩,by omega,by omega⟩,hc.1,by omega,hm⟩
theorem mkm_self {a z:Int} {n:Nat} {x:MacS} (h:MLd a z n x) (hn:n≤4000) (ha:a≤8) (hz:z≤16):mkmC ⟨x.alpha,x.size,x.applied,x.E,x.S,x.C⟩=0∧mkmM ⟨x.alpha,x.size,x.applied,x.E,x.S,x.C⟩=x:=by
  have hal:=h.ds.ok.al
  have hsz:=h.ds.ok.sz
  have hap:=h.ds.ok.ap
  have a1:=h.ds.ok.a1
  have z1:=h.ds.ok.z1
  have hs:=h.ds.ok.s
  refine⟨mkmC_0 ?_ ?_ (by show ¬x.applied<0;omega) (by show ¬x.applied>1099511627776;omega),?_⟩
  · show (eloC x.alpha x.E==0)=true
    rw [h.elo hn,decide_eq_false (by omega),decide_eq_false (by omega)];rfl
  · show (sloC x.size x.S==0)=true
    rw [h.slo,decide_eq_false (by omega),decide_eq_false (by omega),decide_eq_false (by omega)];rfl
  · show (⟨x.alpha,x.size,x.applied,x.C,x.S,cutE x.E x.applied⟩:MacS)=x
    rw [h.cut]
theorem mms_ok:EnvOK mmsE:=Env_ok (by decide +kernel) (by
  intro p hp
  simp only [List.mem_cons,List.mem_nil_iff,or_false] at hp
  rcases hp with rfl | rfl | rfl | rfl | rfl | rfl | rfl | rfl | rfl | rfl | rfl | rfl | rfl | rfl
  · exact aw8_ok
  · exact mroom_ok
  · exact fresh_ok
  · exact rnew1_ok
  · exact apply_ok echg_ok
  · exact rapp_ok
  · exact appM_ok
  · exact epM_ok
  · exact sesM_ok
  · exact comM_ok
  · exact altSpec_ok mkm1_ok mkm2_ok
  · exact altSpec_ok rmk1_ok rmk2_ok
  · exact looks8_ok
  · exact alike_ok)
set_option maxHeartbeats 0 in
theorem mms_body (x:MmsA) (hl:∀r,r∈x.l→inI r.from_=true) (hk:∀r,r∈x.k→inI r.from_=true):evCall mmsE (ev mmsE 1000) 17 (mmsArgs x) ⟨[],0,[]⟩ (fun _ _=>False) (fun v _=>TrueV v):=by
  rw [mms_vc]
  delta mmsQ10 mmsQ9 mmsQ8 mmsQ7 mmsQ6 mmsQ5 mmsQ4 mmsQ3 mmsQ2 mmsQ1 EqM EqN EqR EqQ EqV EqG EqT EqR6
  obtain⟨l,k,c⟩:=x
  dsimp only at *
  refine⟨(),trivial,fun _ _=>⟨⟨l,60⟩,rfl,rfl,trivial,fun _ _=>br_i (fun _=>rfl) fun hr=>⟨⟨k,60⟩,rfl,rfl,trivial,fun _ _=>br_i (fun _=>rfl) fun hr'=>⟨(),trivial,fun _ _=>?_⟩⟩⟩⟩
  rw [Bool.not_eq_false'] at hr hr'
  have hL:okL l=true:=room_okL hr (by show (60:Int)≤4000;omega) hl
  have hK:okL k=true:=room_okL hr' (by show (60:Int)≤4000;omega) hk
  obtain⟨l60,_⟩:=roomM_of hr
  have l60:(l.length:Int)≤60:=l60
  obtain⟨k60,_⟩:=roomM_of hr'
  have k60:(k.length:Int)≤60:=k60
  have hcf:okCf 2 3 [0,1,2]=true:=by decide
  have hin:∀i,(∃n,n≤l.length∧MDs 2 3 n (runF fresh0 (l.take i)))∧shortM (runF fresh0 (l.take i)).C=true:=fun i=>runZ_in hcf hL i
  have hin2:∀i,(∃n,n≤120∧MDs 2 3 n (runF (runF fresh0 l) (k.take i)))∧shortM (runF (runF fresh0 l) (k.take i)).C=true:=fun i=>by
    obtain⟨⟨n,hn,a⟩,b⟩:=runZ_in hcf (okL_app hL hK (by omega)) (l.length+i)
    have e:(l++k).take (l.length+i)=l++k.take i:=by rw [List.take_append,List.take_of_length_le (by omega),Nat.add_sub_cancel_left]
    have e2:runF (freshM 2 3 [0,1,2]) (l++k.take i)=runF (runF fresh0 l) (k.take i):=run_app _ _ _
    rw [e,e2] at a b
    exact⟨⟨n,by rw [List.length_append] at hn;omega,a⟩,b⟩
  have hld:MLd 2 3 (0+l.length) (runF fresh0 l):=runLd_ok l (mld_new hcf) (by omega)
  refine⟨⟨[0,1,2],2,3⟩,Nat.le_refl 3,rfl,rfl,rfl,hcf,fun _ _=>⟨⟨0,(by repeat' (first | exact Nat.zero_le _ | refine And.intro ?_ ?_ | rfl))⟩,fun i hi _=>br_i (fun h1=>?_) (fun h1=>?_)⟩⟩
  · have h1:=of_decide_eq_true h1
    have bi:decide ((0:Int)≤(i:Int)∧(i:Int)<(l.length:Int))=true:=decide_eq_true ⟨by omega,h1⟩
    have e0:(i:Int).toNat=i:=rfl
    rw [e0]
    have eg:l.getD i RequestD.dflt=l.getD i noR0:=rfl
    rw [eg]
    have hgo:=run_at (x:=fresh0) (l:=l) (i:=i) (by omega)
    obtain⟨⟨n,hn,hG⟩,hS⟩:=hin i
    obtain⟨okr,okf⟩:=(okL_of hL).2 (l.getD i noR0) (getD_mem (by omega))
    have okm:=hG.ok.ok (by omega)
    have okR:=hG.ok.okr (by omega) hS okr okf
    generalize l.getD i noR0=r at hgo okr okR ⊢
    generalize runF fresh0 (l.take i)=y at hgo okm okR ⊢
    have hw:IntKind.i64.wrap ((i:Int)+1)=((i+1:Nat):Int):=by rw [wrap_id (by omega) (by omega)];rfl
    have hle:(i+1).le l.length:=by show i+1≤l.length;omega
    have hms:l.length.sub (i+1)<l.length.sub i:=by show l.length-(i+1)<l.length-i;omega
    refine br_t bi ⟨⟨y,r⟩,rfl,rfl,rfl,rfl,rfl,rfl,rfl,rfl,rfl,rfl,rfl,rfl,rfl,rfl,rfl,rfl,rfl,rfl,rfl,rfl,rfl,rfl,rfl,rfl,rfl,rfl,rfl,⟨okm,okr⟩,fun _ _=>br_t bi ⟨⟨y,r⟩,rfl,rfl,rfl,rfl,rfl,rfl,rfl,rfl,rfl,rfl,rfl,rfl,rfl,rfl,rfl,rfl,rfl,rfl,rfl,rfl,rfl,rfl,rfl,rfl,rfl,rfl,rfl,rfl,rfl,okR,fun _ _=>⟨i+1,hw,?_⟩⟩⟩
    rw [hgo]
    exact (by repeat' (first | exact hle | exact hms | refine And.intro ?_ ?_ | rfl))
  · have h1:=of_decide_eq_false h1
    rw [List.take_of_length_le (by omega)]
    obtain⟨_,hsX⟩:=hin l.length
    rw [List.take_length] at hsX
    generalize runF fresh0 l=X at hld hsX hin2 ⊢
    have hn:0+l.length≤4000:=by omega
    have okX:=hld.ds.ok.ok hn
    have lkX:=hld.ds.ok.lk hn
    have elX:okEl X.E=true:=by unfold okLk at lkX;rw [Bool.and_eq_true] at lkX;exact lkX.2
    have szX:decide (0<X.size)=true:=decide_eq_true (by rw [hld.ds.ok.sz];omega)
    have fwX:=hld.ds.ok.few hn
    have hLX:mkmL X.C:=hld.lod hn hsX
    obtain⟨hC0,hM⟩:=mkm_self hld hn (by omega) (by omega)
    refine⟨X,rfl,rfl,rfl,rfl,rfl,rfl,rfl,rfl,rfl,rfl,rfl,rfl,rfl,rfl,rfl,rfl,trivial,fun _ _=>⟨X,rfl,rfl,rfl,rfl,rfl,rfl,rfl,rfl,rfl,rfl,rfl,rfl,rfl,rfl,rfl,rfl,elX,fun _ _=>⟨X,rfl,rfl,rfl,rfl,rfl,rfl,rfl,rfl,rfl,rfl,rfl,rfl,rfl,rfl,rfl,rfl,szX,fun _ _=>⟨X,rfl,rfl,rfl,rfl,rfl,rfl,rfl,rfl,rfl,rfl,rfl,rfl,rfl,rfl,rfl,rfl,fwX,fun _ _=>.inl ⟨⟨X.alpha,X.size,X.applied,X.E,X.S,X.C⟩,rfl,rfl,rfl,rfl,rfl,rfl,⟨hC0,hLX⟩,fun _ _=>?_⟩⟩⟩⟩⟩
    rw [hM]
    refine⟨X,rfl,rfl,rfl,rfl,rfl,rfl,rfl,rfl,rfl,rfl,rfl,rfl,rfl,rfl,rfl,rfl,rfl,rfl,rfl,rfl,rfl,rfl,rfl,rfl,rfl,rfl,rfl,rfl,rfl,rfl,rfl,rfl,rfl,rfl,lkX,fun _ _=>⟨⟨0,(by repeat' (first | exact Nat.zero_le _ | refine And.intro ?_ ?_ | rfl))⟩,fun i hi _=>br_i (fun h1=>?_) (fun h1=>?_)⟩⟩
    · have h1:=of_decide_eq_true h1
      have bi:decide ((0:Int)≤(i:Int)∧(i:Int)<(k.length:Int))=true:=decide_eq_true ⟨by omega,h1⟩
      have e0:(i:Int).toNat=i:=rfl
      rw [e0]
      have eg:k.getD i RequestD.dflt=k.getD i noR0:=rfl
      rw [eg]
      have hgo:=run_at (x:=X) (l:=k) (i:=i) (by omega)
      obtain⟨⟨n,hn,hG⟩,hS⟩:=hin2 i
      obtain⟨okr,okf⟩:=(okL_of hK).2 (k.getD i noR0) (getD_mem (by omega))
      have okm:=hG.ok.ok (by omega)
      have okR:=hG.ok.okr (by omega) hS okr okf
      generalize k.getD i noR0=r at hgo okr okR ⊢
      generalize runF X (k.take i)=y at hgo okm okR ⊢
      have hw:IntKind.i64.wrap ((i:Int)+1)=((i+1:Nat):Int):=by rw [wrap_id (by omega) (by omega)];rfl
      have hle:(i+1).le k.length:=by show i+1≤k.length;omega
      have hms:k.length.sub (i+1)<k.length.sub i:=by show k.length-(i+1)<k.length-i;omega
      refine br_t bi (br_t bi ⟨⟨y,r⟩,rfl,rfl,rfl,rfl,rfl,rfl,rfl,rfl,rfl,rfl,rfl,rfl,rfl,rfl,rfl,rfl,rfl,rfl,rfl,rfl,rfl,rfl,rfl,rfl,rfl,rfl,rfl,⟨okm,okr⟩,fun _ _=>⟨⟨y,r⟩,rfl,rfl,rfl,rfl,rfl,rfl,rfl,rfl,rfl,rfl,rfl,rfl,rfl,rfl,rfl,rfl,rfl,rfl,rfl,rfl,rfl,rfl,rfl,rfl,rfl,rfl,rfl,rfl,rfl,okR,fun _ _=>⟨⟨(applyM y r).1,(applyM y r).1⟩,rfl,rfl,rfl,rfl,rfl,rfl,rfl,rfl,rfl,rfl,rfl,rfl,rfl,rfl,trivial,fun _ _=>br_f (by rw [eqV_self];rfl) ⟨i+1,hw,?_⟩⟩⟩⟩)
      rw [hgo]
      exact (by repeat' (first | exact hle | exact hms | refine And.intro ?_ ?_ | rfl))
    · have h1:=of_decide_eq_false h1
      rw [List.take_of_length_le (by omega)]
      obtain⟨⟨n1,hn1,hY⟩,_⟩:=hin2 k.length
      rw [List.take_length] at hY
      generalize runF X k=Y at hY ⊢
      have lkY:=hY.ok.lk (by omega)
      refine⟨X,rfl,rfl,rfl,rfl,rfl,rfl,rfl,rfl,rfl,rfl,rfl,rfl,rfl,rfl,rfl,rfl,elX,fun _ _=>⟨X,rfl,rfl,rfl,rfl,rfl,rfl,rfl,rfl,rfl,rfl,rfl,rfl,rfl,rfl,rfl,rfl,szX,fun _ _=>⟨X,rfl,rfl,rfl,rfl,rfl,rfl,rfl,rfl,rfl,rfl,rfl,rfl,rfl,rfl,rfl,rfl,fwX,fun _ _=>?_⟩⟩⟩
      cases hc:mkmC ⟨c.a,c.z,c.keep,X.E,X.S,X.C⟩==0
      · exact .inr ⟨⟨c.a,c.z,c.keep,X.E,X.S,X.C⟩,rfl,rfl,rfl,rfl,rfl,rfl,⟨hc,hLX⟩,fun _ _=>⟨X,rfl,rfl,rfl,rfl,rfl,rfl,rfl,rfl,rfl,rfl,rfl,rfl,rfl,rfl,rfl,rfl,elX,fun _ _=>⟨X,rfl,rfl,rfl,rfl,rfl,rfl,rfl,rfl,rfl,rfl,rfl,rfl,rfl,rfl,rfl,rfl,szX,fun _ _=>⟨X,rfl,rfl,rfl,rfl,rfl,rfl,rfl,rfl,rfl,rfl,rfl,rfl,rfl,rfl,rfl,rfl,fwX,fun _ _=>.inr ⟨⟨c.a,c.z,c.keep,X.E,X.S,X.C⟩,rfl,rfl,rfl,rfl,rfl,rfl,⟨hc,hLX⟩,fun _ _=>br_t (beq_self_eq_true _) ⟨Y,rfl,rfl,rfl,rfl,rfl,rfl,rfl,rfl,rfl,rfl,rfl,rfl,rfl,rfl,rfl,rfl,rfl,rfl,rfl,rfl,rfl,rfl,rfl,rfl,rfl,rfl,rfl,rfl,rfl,rfl,rfl,rfl,rfl,rfl,lkY,fun _ _=>br_t (by unfold bne;rw [hc];rfl) rfl⟩⟩⟩⟩⟩⟩
      · have hc:=eq_of_beq hc
        have lkR:=lk_make hld hn hc
        exact .inl ⟨⟨c.a,c.z,c.keep,X.E,X.S,X.C⟩,rfl,rfl,rfl,rfl,rfl,rfl,⟨hc,hLX⟩,fun _ _=>⟨X,rfl,rfl,rfl,rfl,rfl,rfl,rfl,rfl,rfl,rfl,rfl,rfl,rfl,rfl,rfl,rfl,elX,fun _ _=>⟨X,rfl,rfl,rfl,rfl,rfl,rfl,rfl,rfl,rfl,rfl,rfl,rfl,rfl,rfl,rfl,rfl,szX,fun _ _=>⟨X,rfl,rfl,rfl,rfl,rfl,rfl,rfl,rfl,rfl,rfl,rfl,rfl,rfl,rfl,rfl,rfl,fwX,fun _ _=>.inl ⟨⟨c.a,c.z,c.keep,X.E,X.S,X.C⟩,rfl,rfl,rfl,rfl,rfl,rfl,⟨hc,hLX⟩,fun _ _=>⟨Y,rfl,rfl,rfl,rfl,rfl,rfl,rfl,rfl,rfl,rfl,rfl,rfl,rfl,rfl,rfl,rfl,rfl,rfl,rfl,rfl,rfl,rfl,rfl,rfl,rfl,rfl,rfl,rfl,rfl,rfl,rfl,rfl,rfl,rfl,lkY,fun _ _=>⟨mkmM ⟨c.a,c.z,c.keep,X.E,X.S,X.C⟩,rfl,rfl,rfl,rfl,rfl,rfl,rfl,rfl,rfl,rfl,rfl,rfl,rfl,rfl,rfl,rfl,rfl,rfl,rfl,rfl,rfl,rfl,rfl,rfl,rfl,rfl,rfl,rfl,rfl,rfl,rfl,rfl,rfl,rfl,lkR,fun _ _=>rfl⟩⟩⟩⟩⟩⟩⟩
end Go.Proofs.YtgepebndihfnfaaGreat.Ses
