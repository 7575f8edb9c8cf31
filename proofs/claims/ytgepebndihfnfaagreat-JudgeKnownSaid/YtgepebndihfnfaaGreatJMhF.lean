/- The laws JudgeWrong and JudgeOrders: what the evaluator leaves, and that it holds. No condition. -/
import Derived.Test.YtgepebndihfnfaaGreatJMhE
import Derived.KernelRfl
set_option linter.unusedSimpArgs false
set_option linter.unusedVariables false

namespace Go.Proofs.YtgepebndihfnfaaGreat.Ses
open Go Go.Proofs Go.Proofs.YtgepebndihfnfaaGreat.Sx
noncomputable def jawT:Tri:={γ:=Unit,n0:=0,args:=fun _=>[],blks:=fun _=>[],pre:=fun _=>True,δ:=Unit,post:=fun _ _=>True,n1:=0,res:=fun _ _=>.bool true,blks':=fun _ _=>[],scal:=true}
noncomputable def jawE:Envr:=Env Tryz.prog cod [(35,jlgT.spec)] []
structure JwrA where
  l:List RequestD
  k:Int
  v:VerdictD
set_option maxRecDepth 100000
abbrev jawQ1  := [(0:Int),(1:Int),(2:Int)]
abbrev jawQ2  := [RequestD.mk (1:Int) (Array.toList (ByteArray.data (ByteArray.mk (List.toArray [(99:UInt8)])))) (0:Int) (0:Int) (0:Int) ([]:List UInt8) ([]:List ChangeD) ([]:List UInt8) (0:Int) (0:Int) (0:Int),RequestD.mk (2:Int) ([]:List UInt8) (1:Int) (1:Int) (0:Int) ([]:List UInt8) (List.take 1 (List.drop 0 [ChangeD.mk (Array.toList (ByteArray.data (ByteArray.mk (List.toArray [(97:UInt8)])))) false (5:Int)])) ([]:List UInt8) (0:Int) (0:Int) (0:Int),RequestD.mk (3:Int) ([]:List UInt8) (1:Int) (2:Int) (0:Int) ([]:List UInt8) ([]:List ChangeD) ([]:List UInt8) (0:Int) (0:Int) (0:Int)]
abbrev jawQ3  := DeedD.mk (0:Int) false (List.getD jawQ2 (0+(1:Int).toNat) RequestD.dflt) (VerdictD.mk (2:Int) (0:Int) (1:Int) ([]:List UInt8) (0:Int) ([]:List CommitD) (0:Int)) (1:Int) (IntKind.wrap IntKind.i64 ((1:Int)+(9:Int))) (3:Int)
abbrev jawQ4  := List.getD jawQ2 (0+(2:Int).toNat) RequestD.dflt
abbrev jawQ5  := IntKind.wrap IntKind.i64 ((2:Int)+(9:Int))
abbrev jawQ6  := [jawQ3,DeedD.mk (0:Int) false jawQ4 (VerdictD.mk (8:Int) (0:Int) (1:Int) ([]:List UInt8) (0:Int) ([]:List CommitD) (0:Int)) (2:Int) jawQ5 (3:Int)]
abbrev jawQ7 (x1:JdA):=loggedD x1.ds (slotsD x1.l (runV x1.c x1.l) x1.ds)
abbrev jawQ8  := [jawQ3,DeedD.mk (0:Int) false jawQ4 (VerdictD.mk (8:Int) (0:Int) (0:Int) ([]:List UInt8) (0:Int) ([]:List CommitD) (0:Int)) (2:Int) jawQ5 (3:Int)]
theorem jaw_vc (x:jawT.γ):evCall jawE (ev jawE 1000) 31 (jawT.args x) ⟨jawT.blks x,jawT.n0,[]⟩ (fun _ _=>False) (jawT.ends x)=(
∃x1:JdA,0+3≤jawQ1.length∧
List.take 3 (List.drop 0 jawQ1)=CfgD.M x1.c∧
(2:Int)=CfgD.a x1.c∧
(3:Int)=CfgD.z x1.c∧
(0:Int)=CfgD.keep x1.c∧
(0:Int)=CfgD.beat x1.c∧
(0:Int)=CfgD.term x1.c∧
(0:Int)=CfgD.lease x1.c∧
(0:Int)=CfgD.num x1.c∧
(0:Int)=CfgD.den x1.c∧
0+3≤jawQ2.length∧
List.take 3 (List.drop 0 jawQ2)=x1.l∧
0+2≤jawQ6.length∧
List.take 2 (List.drop 0 jawQ6)=x1.ds∧
okL x1.l=true∧
∀x2:Unit,True→
br (jawQ7 x1 == @Neg.neg Int _ (1:Int)) (∃x3:JdA,0+3≤jawQ1.length∧
List.take 3 (List.drop 0 jawQ1)=CfgD.M x3.c∧
(2:Int)=CfgD.a x3.c∧
(3:Int)=CfgD.z x3.c∧
(0:Int)=CfgD.keep x3.c∧
(0:Int)=CfgD.beat x3.c∧
(0:Int)=CfgD.term x3.c∧
(0:Int)=CfgD.lease x3.c∧
(0:Int)=CfgD.num x3.c∧
(0:Int)=CfgD.den x3.c∧
0+3≤jawQ2.length∧
List.take 3 (List.drop 0 jawQ2)=x3.l∧
0+2≤jawQ8.length∧
List.take 2 (List.drop 0 jawQ8)=x3.ds∧
okL x3.l=true∧
∀x4:Unit,True→
∃x5:Unit,(jawQ7 x3==(1:Int))=true∧
True) (∃x6:Unit,false=true∧
True)):=by kernel_rfl
theorem jaw_ok:SpecOK Tryz.prog 31 jawT.spec:=by
  refine Tri.ok (E:=jawE) (Env_ok (by decide +kernel) (by simp [jlg_ok])) (n:=1000) jawT fun x _=>?_
  rw [jaw_vc]
  delta jawQ8 jawQ7 jawQ6 jawQ5 jawQ4 jawQ3 jawQ2 jawQ1
  exact⟨⟨cf0,_,_⟩,Nat.le_refl 3,rfl,rfl,rfl,rfl,rfl,rfl,rfl,rfl,rfl,Nat.le_refl 3,rfl,Nat.le_refl 2,rfl,by decide +kernel,fun _ _=>br_t (by decide +kernel) ⟨⟨cf0,_,_⟩,Nat.le_refl 3,rfl,rfl,rfl,rfl,rfl,rfl,rfl,rfl,rfl,Nat.le_refl 3,rfl,Nat.le_refl 2,rfl,by decide +kernel,fun _ _=>⟨(),by decide +kernel,trivial⟩⟩⟩
structure JorA where
  l:List RequestD
  a:Int
  b:Int
set_option maxRecDepth 100000
section
variable {H : Type} {en : TypeId × Value → H} {w : World}
end
end Go.Proofs.YtgepebndihfnfaaGreat.Ses
