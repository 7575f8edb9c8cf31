/- Trees that are put together; the graph by its commits, in plain words. No condition. -/
import Derived.Test.YtgepebndihfnfaaGreatJGtA
import Derived.KernelRfl
set_option linter.unusedSimpArgs false
set_option linter.unusedVariables false

namespace Go.Proofs.YtgepebndihfnfaaGreat.Ses
open Go Go.Proofs Go.Proofs.YtgepebndihfnfaaGreat.Sx Go.Proofs.YtgepebndihfnfaaGreat.Trx
def ht:TreeD→Nat
  | .nil=>0
  | .node _ _ l r _ _=>max (ht l) (ht r)+1
def wfT:TreeD→Bool
  | .nil=>true
  | .node th x l r d m=>th&&(wfT l&&(wfT r&&(decide (d=1+max (depthD l) (depthD r))&&(decide (m=1+lenD l+lenD r)&&(decide (depthD l≤depthD r+1)&&decide (depthD r≤depthD l+1))))))
def turnL (t:TreeD):TreeD:=joinD t.right.leaf (joinD t.leaf t.left t.right.left) t.right.right
def turnR (t:TreeD):TreeD:=joinD t.left.leaf t.left.left (joinD t.leaf t.left.right t.right)
def levelD (t:TreeD):TreeD:=
  bif decide (depthD t.left-depthD t.right>1) then
    bif decide (depthD t.left.left<depthD t.left.right) then turnR (joinD t.leaf (turnL t.left) t.right) else turnR t
  else bif decide (depthD t.left-depthD t.right < -1) then
    bif decide (depthD t.right.right<depthD t.right.left) then turnL (joinD t.leaf t.left (turnR t.right)) else turnL t
  else t
def lvlP (t:TreeD):Prop:=∃x l r,t=joinD x l r∧wfT l=true∧wfT r=true∧depthD l≤depthD r+2∧depthD r≤depthD l+2∧lenD l+lenD r≤900000
def turnLP (t:TreeD):Prop:=t.isNil=false∧t.right.isNil=false∧smallT t.left=true∧smallT t.right.left=true∧smallT t.right.right=true∧smallT (joinD t.leaf t.left t.right.left)=true
def turnRP (t:TreeD):Prop:=t.isNil=false∧t.left.isNil=false∧smallT t.right=true∧smallT t.left.left=true∧smallT t.left.right=true∧smallT (joinD t.leaf t.left.right t.right)=true
def putD (x:LeafD):TreeD→TreeD
  | .nil=>joinD x .nil .nil
  | .node th y l r d m=>bif th then
      (bif decide (cmpL (splitB x.path) (splitB y.path)<0) then levelD (joinD y (putD x l) r)
       else bif decide (0<cmpL (splitB x.path) (splitB y.path)) then levelD (joinD y l (putD x r)) else joinD x l r)
    else joinD x .nil .nil
def getD' (p:Bs):TreeD→Option LeafD
  | .nil=>none
  | .node th y l r d m=>bif th then
      (bif cmpL (splitB p) (splitB y.path)==0 then some y else bif decide (cmpL (splitB p) (splitB y.path)<0) then getD' p l else getD' p r)
    else none
def putP (t:TreeD):Prop:=((t.isNil || !t.there)=true∨wfT t=true)∧lenD t≤800000
noncomputable def turnLT:Tri:={γ:=TreeD,n0:=0,args:=fun t=>[.tree t],blks:=fun _=>[],pre:=turnLP,δ:=Unit,post:=fun _ _=>True,n1:=0,res:=fun t _=>.tree (turnL t),blks':=fun _ _=>[],scal:=false}
noncomputable def turnE:Envr:=Env Tryz.prog cod [(189,tjoinT.spec)] []
noncomputable def turnRT:Tri:={γ:=TreeD,n0:=0,args:=fun t=>[.tree t],blks:=fun _=>[],pre:=turnRP,δ:=Unit,post:=fun _ _=>True,n1:=0,res:=fun t _=>.tree (turnR t),blks':=fun _ _=>[],scal:=false}
noncomputable def levelT:Tri:={γ:=TreeD,n0:=0,args:=fun t=>[.tree t],blks:=fun _=>[],pre:=lvlP,δ:=Unit,post:=fun _ _=>True,n1:=0,res:=fun t _=>.tree (levelD t),blks':=fun _ _=>[],scal:=false}
noncomputable def levelE:Envr:=Env Tryz.prog cod [(189,tjoinT.spec),(224,tdepthT.spec),(229,turnLT.spec),(230,turnRT.spec)] []
structure PutA where
  t:TreeD
  x:LeafD
noncomputable def putT (n:Nat):Tri:={γ:=PutA,n0:=0,args:=fun a=>[.tree a.t,.agg (enc .leaf a.x)],blks:=fun _=>[],pre:=fun a=>putP a.t∧ht a.t<n,δ:=Unit,post:=fun _ _=>True,n1:=0,res:=fun a _=>.tree (putD a.x a.t),blks':=fun _ _=>[],scal:=false}
noncomputable def putE (n:Nat):Envr:=Env Tryz.prog cod [(188,emptyT.spec),(189,tjoinT.spec),(191,levelT.spec),(190,compareT.spec),(131,(putT n).spec)] []
noncomputable def putS (n:Nat):Tri:=putT (n+1)
noncomputable def getT:Tri:={γ:=TrS,n0:=0,args:=fun a=>[.tree a.t,.str a.d],blks:=fun _=>[],pre:=fun a=>True,δ:=Unit,post:=fun _ _=>True,n1:=0,res:=fun a _=>.tuple [.agg (enc .leaf ((getD' a.d a.t).getD ⟨[],0,0,false⟩)),.bool (getD' a.d a.t).isSome],blks':=fun _ _=>[],scal:=false}
noncomputable def getI:St→LInv:=fun s=>match getE s.env 0,getE s.env 1 with
  | .tree t,.str p=>{σ:=TreeD,I:=fun t'=>getD' p t'=getD' p t,μ:=ht,env:=fun t'=>[(0,.tree t')],blk:=fun _=>[],fresh:=0,drop:=[]}
  | _,_=>LInv.none
noncomputable def getEn:Envr:=Env Tryz.prog cod [(188,emptyT.spec),(190,compareT.spec)] [(1,getI)]
theorem depth_join (x:LeafD) (l r:TreeD):depthD (joinD x l r)=1+max (depthD l) (depthD r):=rfl
theorem len_join (x:LeafD) (l r:TreeD):lenD (joinD x l r)=1+lenD l+lenD r:=rfl
theorem in_join (x:LeafD) (l r:TreeD):TreeD.inorder (joinD x l r)=TreeD.inorder l++x::TreeD.inorder r:=rfl
theorem nil_join (x:LeafD) (l r:TreeD):(joinD x l r).isNil=false:=rfl
theorem left_join (x:LeafD) (l r:TreeD):(joinD x l r).left=l:=rfl
theorem right_join (x:LeafD) (l r:TreeD):(joinD x l r).right=r:=rfl
theorem leaf_join (x:LeafD) (l r:TreeD):(joinD x l r).leaf=x:=rfl
theorem wf_cases:∀ {t:TreeD},wfT t=true→t = .nil ∨ ∃x l r,t=joinD x l r∧wfT l=true∧wfT r=true∧depthD l≤depthD r+1∧depthD r≤depthD l+1
  | .nil,_=>.inl rfl
  | .node th x l r d m,h=>by
    simp only [wfT,Bool.and_eq_true,decide_eq_true_eq] at h
    obtain⟨h1,h2,h3,h4,h5,h6,h7⟩:=h
    subst h1 h4 h5
    exact .inr ⟨x,l,r,rfl,h2,h3,h6,h7⟩
theorem wf_join {x:LeafD} {l r:TreeD} (hl:wfT l=true) (hr:wfT r=true) (h1:depthD l≤depthD r+1) (h2:depthD r≤depthD l+1):wfT (joinD x l r)=true:=by
  simp [joinD,wfT,hl,hr,h1,h2]
theorem wf_num:∀(t:TreeD),wfT t=true→0≤depthD t∧depthD t≤lenD t∧lenD t=(TreeD.inorder t).length
  | .nil,_=>by simp [depthD,lenD,TreeD.isNil,TreeD.inorder]
  | .node th x l r d m,h=>by
    simp only [wfT,Bool.and_eq_true,decide_eq_true_eq] at h
    obtain⟨h1,h2,h3,h4,h5,h6,h7⟩:=h
    subst h1 h4 h5
    have hl:=wf_num l h2
    have hr:=wf_num r h3
    show 0≤depthD (joinD x l r)∧depthD (joinD x l r)≤lenD (joinD x l r)∧lenD (joinD x l r)=(TreeD.inorder (joinD x l r)).length
    rw [depth_join,len_join,in_join,List.length_append,List.length_cons]
    omega
theorem wf_pos {t:TreeD} (h:wfT t=true) (hp:0<depthD t):∃x l r,t=joinD x l r∧wfT l=true∧wfT r=true∧depthD l≤depthD r+1∧depthD r≤depthD l+1:=by
  rcases wf_cases h with rfl | h
  · simp [depthD,TreeD.isNil] at hp
  · exact h
theorem small_of {t:TreeD} (h:wfT t=true) (hl:lenD t≤1000000):smallT t=true:=by
  have:=wf_num t h
  simp only [smallT,Bool.and_eq_true,decide_eq_true_eq]
  omega
inductive Lev (x:LeafD) (l r:TreeD):Prop
  | same (h1:depthD l≤depthD r+1) (h2:depthD r≤depthD l+1) (he:levelD (joinD x l r)=joinD x l r)
  | r1 (y:LeafD) (a b:TreeD) (hd:depthD l=depthD r+2) (hl:l=joinD y a b) (ha:wfT a=true) (hb:wfT b=true) (h1:depthD b≤depthD a) (h2:depthD a≤depthD b+1) (he:levelD (joinD x l r)=joinD y a (joinD x b r))
  | r2 (y z:LeafD) (a b c:TreeD) (hd:depthD l=depthD r+2) (hl:l=joinD y a (joinD z b c)) (ha:wfT a=true) (hb:wfT b=true) (hc:wfT c=true) (h1:depthD a+1=depthD (joinD z b c)) (h2:depthD b≤depthD c+1) (h3:depthD c≤depthD b+1) (he:levelD (joinD x l r)=joinD z (joinD y a b) (joinD x c r))
  | l1 (y:LeafD) (a b:TreeD) (hd:depthD r=depthD l+2) (hr:r=joinD y a b) (ha:wfT a=true) (hb:wfT b=true) (h1:depthD a≤depthD b) (h2:depthD b≤depthD a+1) (he:levelD (joinD x l r)=joinD y (joinD x l a) b)
  | l2 (y z:LeafD) (a b c:TreeD) (hd:depthD r=depthD l+2) (hr:r=joinD y (joinD z a b) c) (ha:wfT a=true) (hb:wfT b=true) (hc:wfT c=true) (h1:depthD c+1=depthD (joinD z a b)) (h2:depthD a≤depthD b+1) (h3:depthD b≤depthD a+1) (he:levelD (joinD x l r)=joinD z (joinD x l a) (joinD y b c))
theorem lev_of (x:LeafD) {l r:TreeD} (hl:wfT l=true) (hr:wfT r=true) (h1:depthD l≤depthD r+2) (h2:depthD r≤depthD l+2):Lev x l r:=by
  have nl:=wf_num l hl
  have nr:=wf_num r hr
  by_cases g1:depthD l-depthD r>1
  · obtain⟨y,a,b,rfl,ha,hb,b1,b2⟩:=wf_pos hl (by omega)
    rw [depth_join] at g1 h1 h2
    have e1:decide (depthD (joinD y a b)-depthD r>1)=true:=by rw [depth_join];simpa using g1
    by_cases g2:depthD a<depthD b
    · have na:=wf_num a ha
      obtain⟨z,p,q,rfl,hp,hq,c1,c2⟩:=wf_pos hb (by omega)
      refine .r2 y z a p q (by rw [depth_join];omega) rfl ha hp hq (by omega) c1 c2 ?_
      unfold levelD
      rw [left_join,right_join,e1,left_join,right_join,show decide (depthD a<depthD (joinD z p q))=true by simpa using g2]
      rfl
    · refine .r1 y a b (by rw [depth_join];omega) rfl ha hb (by omega) b1 ?_
      unfold levelD
      rw [left_join,right_join,e1,left_join,right_join,show decide (depthD a<depthD b)=false by simpa using g2]
      rfl
  · by_cases g3:depthD l-depthD r < -1
    · obtain⟨y,a,b,rfl,ha,hb,b1,b2⟩:=wf_pos hr (by omega)
      rw [depth_join] at g1 g3 h1 h2
      have e1:decide (depthD l-depthD (joinD y a b)>1)=false:=by rw [depth_join];simpa using g1
      have e3:decide (depthD l-depthD (joinD y a b) < -1)=true:=by rw [depth_join];simpa using g3
      by_cases g2:depthD b<depthD a
      · have nb:=wf_num b hb
        obtain⟨z,p,q,rfl,hp,hq,c1,c2⟩:=wf_pos ha (by omega)
        refine .l2 y z p q b (by rw [depth_join];omega) rfl hp hq hb (by omega) c1 c2 ?_
        unfold levelD
        rw [left_join,right_join,e1,e3,left_join,right_join,show decide (depthD b<depthD (joinD z p q))=true by simpa using g2]
        rfl
      · refine .l1 y a b (by rw [depth_join];omega) rfl ha hb (by omega) b2 ?_
        unfold levelD
        rw [left_join,right_join,e1,e3,left_join,right_join,show decide (depthD b<depthD a)=false by simpa using g2]
        rfl
    · refine .same (by omega) (by omega) ?_
      unfold levelD
      rw [left_join,right_join,show decide (depthD l-depthD r>1)=false by simpa using g1,show decide (depthD l-depthD r < -1)=false by simpa using g3]
      rfl
theorem level_wf (x:LeafD) {l r:TreeD} (hl:wfT l=true) (hr:wfT r=true) (h1:depthD l≤depthD r+2) (h2:depthD r≤depthD l+2) :
    wfT (levelD (joinD x l r))=true∧max (depthD l) (depthD r)≤depthD (levelD (joinD x l r))∧depthD (levelD (joinD x l r))≤1+max (depthD l) (depthD r)∧
    TreeD.inorder (levelD (joinD x l r))=TreeD.inorder l++x::TreeD.inorder r∧(depthD l≤depthD r+1→depthD r≤depthD l+1→levelD (joinD x l r)=joinD x l r):=by
  cases lev_of x hl hr h1 h2 with
  | same g1 g2 he=>rw [he];exact⟨wf_join hl hr g1 g2,by rw [depth_join];omega,by rw [depth_join];omega,rfl,fun _ _=>rfl⟩
  | r1 y a b hd hl' ha hb g1 g2 he=>
    subst hl'
    rw [depth_join] at hd
    rw [he]
    refine⟨wf_join ha (wf_join hb hr (by omega) (by omega)) (by rw [depth_join];omega) (by rw [depth_join];omega),?_,?_,?_,fun g _=>?_⟩
    · rw [depth_join,depth_join,depth_join];omega
    · rw [depth_join,depth_join,depth_join];omega
    · simp [in_join]
    · rw [depth_join] at g;omega
  | r2 y z a b c hd hl' ha hb hc g1 g2 g3 he=>
    subst hl'
    rw [depth_join] at g1
    rw [depth_join,depth_join] at hd
    rw [he]
    refine⟨wf_join (wf_join ha hb (by omega) (by omega)) (wf_join hc hr (by omega) (by omega)) (by rw [depth_join,depth_join];omega) (by rw [depth_join,depth_join];omega),?_,?_,?_,fun g _=>?_⟩
    · simp only [depth_join];omega
    · simp only [depth_join];omega
    · simp [in_join]
    · rw [depth_join,depth_join] at g;omega
  | l1 y a b hd hr' ha hb g1 g2 he=>
    subst hr'
    rw [depth_join] at hd
    rw [he]
    refine⟨wf_join (wf_join hl ha (by omega) (by omega)) hb (by rw [depth_join];omega) (by rw [depth_join];omega),?_,?_,?_,fun _ g=>?_⟩
    · simp only [depth_join];omega
    · simp only [depth_join];omega
    · simp [in_join]
    · rw [depth_join] at g;omega
  | l2 y z a b c hd hr' ha hb hc g1 g2 g3 he=>
    subst hr'
    rw [depth_join] at g1
    rw [depth_join,depth_join] at hd
    rw [he]
    refine⟨wf_join (wf_join hl ha (by omega) (by omega)) (wf_join hb hc (by omega) (by omega)) (by rw [depth_join,depth_join];omega) (by rw [depth_join,depth_join];omega),?_,?_,?_,fun _ g=>?_⟩
    · simp only [depth_join];omega
    · simp only [depth_join];omega
    · simp [in_join]
    · rw [depth_join,depth_join] at g;omega
theorem put_wf (x:LeafD):∀(t:TreeD),wfT t=true→wfT (putD x t)=true∧depthD t≤depthD (putD x t)∧depthD (putD x t)≤depthD t+1∧lenD t≤lenD (putD x t)∧lenD (putD x t)≤lenD t+1
  | .nil,_=>by
    refine⟨wf_join rfl rfl (by omega) (by omega),?_⟩
    show depthD .nil≤depthD (joinD x .nil .nil)∧depthD (joinD x .nil .nil)≤depthD .nil+1∧lenD .nil≤lenD (joinD x .nil .nil)∧lenD (joinD x .nil .nil)≤lenD .nil+1
    rw [depth_join,len_join]
    simp [depthD,lenD,TreeD.isNil]
  | .node th y l r d m,h=>by
    simp only [wfT,Bool.and_eq_true,decide_eq_true_eq] at h
    obtain⟨h1,h2,h3,h4,h5,h6,h7⟩:=h
    subst h1 h4 h5
    have il:=put_wf x l h2
    have ir:=put_wf x r h3
    show wfT (putD x (joinD y l r))=true∧depthD (joinD y l r)≤depthD (putD x (joinD y l r))∧depthD (putD x (joinD y l r))≤depthD (joinD y l r)+1∧lenD (joinD y l r)≤lenD (putD x (joinD y l r))∧lenD (putD x (joinD y l r))≤lenD (joinD y l r)+1
    have e:putD x (joinD y l r)=(bif decide (cmpL (splitB x.path) (splitB y.path)<0) then levelD (joinD y (putD x l) r)
       else bif decide (0<cmpL (splitB x.path) (splitB y.path)) then levelD (joinD y l (putD x r)) else joinD x l r):=rfl
    rw [e,depth_join,len_join]
    cases decide (cmpL (splitB x.path) (splitB y.path)<0)
    · cases decide (0<cmpL (splitB x.path) (splitB y.path))
      · simp only [cond_false]
        exact⟨wf_join h2 h3 h6 h7,by rw [depth_join];omega,by rw [depth_join];omega,by rw [len_join];omega,by rw [len_join];omega⟩
      · simp only [cond_false,cond_true]
        obtain⟨w1,w2,w3,w4,w5⟩:=level_wf y h2 ir.1 (by omega) (by omega)
        have hlen:=(wf_num _ w1).2.2
        rw [w4,List.length_append,List.length_cons] at hlen
        have n1:=(wf_num _ h2).2.2
        have n2:=(wf_num _ ir.1).2.2
        by_cases g:depthD (putD x r)≤depthD l+1
        · refine⟨w1,?_,?_,by omega,by omega⟩
          · rw [w5 (by omega) g,depth_join];omega
          · rw [w5 (by omega) g,depth_join];omega
        · exact⟨w1,by omega,by omega,by omega,by omega⟩
    · simp only [cond_true]
      obtain⟨w1,w2,w3,w4,w5⟩:=level_wf y il.1 h3 (by omega) (by omega)
      have hlen:=(wf_num _ w1).2.2
      rw [w4,List.length_append,List.length_cons] at hlen
      have n1:=(wf_num _ h3).2.2
      have n2:=(wf_num _ il.1).2.2
      by_cases g:depthD (putD x l)≤depthD r+1
      · refine⟨w1,?_,?_,by omega,by omega⟩
        · rw [w5 g (by omega),depth_join];omega
        · rw [w5 g (by omega),depth_join];omega
      · exact⟨w1,by omega,by omega,by omega,by omega⟩
set_option maxRecDepth 100000
abbrev turnlQ1 (x:turnLT.γ):=(TreeD.isNil (TreeD.right x)).not
theorem turnl_vc (x:turnLT.γ):evCall turnE (ev turnE 1000) 229 (turnLT.args x) ⟨turnLT.blks x,turnLT.n0,[]⟩ (fun _ _=>False) (turnLT.ends x)=(
br (TreeD.isNil x).not (br (turnlQ1 x) (br (TreeD.isNil x).not (br (TreeD.isNil x).not (br (turnlQ1 x) (br (turnlQ1 x) (∃x1:JoA,(TreeD.leaf x).path=x1.x.path∧
(TreeD.leaf x).digest=x1.x.digest∧
(TreeD.leaf x).rev=x1.x.rev∧
(TreeD.leaf x).gone=x1.x.gone∧
TreeD.left x=x1.l∧
TreeD.left (TreeD.right x)=x1.r∧
(smallT x1.l=true∧
smallT x1.r=true)∧
∀x2:Unit,True→
∃x3:JoA,(TreeD.leaf (TreeD.right x)).path=x3.x.path∧
(TreeD.leaf (TreeD.right x)).digest=x3.x.digest∧
(TreeD.leaf (TreeD.right x)).rev=x3.x.rev∧
(TreeD.leaf (TreeD.right x)).gone=x3.x.gone∧
joinD x1.x x1.l x1.r=x3.l∧
TreeD.right (TreeD.right x)=x3.r∧
(smallT x3.l=true∧
smallT x3.r=true)∧
∀x4:Unit,True→
∃x5:Unit,joinD x3.x x3.l x3.r=turnL x∧
True) (Bad "check" "tree.go:47")) (Bad "check" "tree.go:47")) (Bad "check" "tree.go:47")) (Bad "check" "tree.go:47")) (Bad "check" "tree.go:47")) (Bad "check" "tree.go:46")):=by kernel_rfl
theorem turnr_vc (x:turnRT.γ):evCall turnE (ev turnE 1000) 230 (turnRT.args x) ⟨turnRT.blks x,turnRT.n0,[]⟩ (fun _ _=>False) (turnRT.ends x)=(
br (TreeD.isNil x).not (br (TreeD.isNil (TreeD.left x)).not (br (TreeD.isNil (TreeD.left x)).not (br (TreeD.isNil x).not (br (TreeD.isNil (TreeD.left x)).not (br (TreeD.isNil x).not (∃x1:JoA,(TreeD.leaf x).path=x1.x.path∧
(TreeD.leaf x).digest=x1.x.digest∧
(TreeD.leaf x).rev=x1.x.rev∧
(TreeD.leaf x).gone=x1.x.gone∧
TreeD.right (TreeD.left x)=x1.l∧
TreeD.right x=x1.r∧
(smallT x1.l=true∧
smallT x1.r=true)∧
∀x2:Unit,True→
∃x3:JoA,(TreeD.leaf (TreeD.left x)).path=x3.x.path∧
(TreeD.leaf (TreeD.left x)).digest=x3.x.digest∧
(TreeD.leaf (TreeD.left x)).rev=x3.x.rev∧
(TreeD.leaf (TreeD.left x)).gone=x3.x.gone∧
TreeD.left (TreeD.left x)=x3.l∧
joinD x1.x x1.l x1.r=x3.r∧
(smallT x3.l=true∧
smallT x3.r=true)∧
∀x4:Unit,True→
∃x5:Unit,joinD x3.x x3.l x3.r=turnR x∧
True) (Bad "check" "tree.go:53")) (Bad "check" "tree.go:53")) (Bad "check" "tree.go:53")) (Bad "check" "tree.go:53")) (Bad "check" "tree.go:53")) (Bad "check" "tree.go:52")):=by kernel_rfl
abbrev levelQ1 (x9:TreeD):=TreeD.isNil x9=false∧
TreeD.isNil (TreeD.right x9)=false∧
smallT (TreeD.left x9)=true∧
smallT (TreeD.left (TreeD.right x9))=true∧
smallT (TreeD.right (TreeD.right x9))=true∧
smallT (joinD (TreeD.leaf x9) (TreeD.left x9) (TreeD.left (TreeD.right x9)))=true
abbrev levelQ2 (x13:TreeD):=TreeD.isNil x13=false∧
TreeD.isNil (TreeD.left x13)=false∧
smallT (TreeD.right x13)=true∧
smallT (TreeD.left (TreeD.left x13))=true∧
smallT (TreeD.right (TreeD.left x13))=true∧
smallT (joinD (TreeD.leaf x13) (TreeD.right (TreeD.left x13)) (TreeD.right x13))=true
abbrev levelQ3 (x13:TreeD) (x:levelT.γ):=levelQ2 x13∧
∀x14:Unit,True→
∃x15:Unit,turnR x13=levelD x∧
True
abbrev levelQ4 (x27:TreeD) (x:levelT.γ):=levelQ1 x27∧
∀x28:Unit,True→
∃x29:Unit,turnL x27=levelD x∧
True
theorem level_vc (x:levelT.γ):evCall levelE (ev levelE 1000) 191 (levelT.args x) ⟨levelT.blks x,levelT.n0,[]⟩ (fun _ _=>False) (levelT.ends x)=(
br (TreeD.isNil x).not (br (TreeD.isNil x).not (∃x1:TreeD,TreeD.left x=x1∧
True∧
∀x2:Unit,True→
∃x3:TreeD,TreeD.right x=x3∧
True∧
∀x4:Unit,True→
br (decide (IntKind.wrap IntKind.i64 (depthD x1-depthD x3)>(1:Int))) (br (TreeD.isNil x).not (br (TreeD.isNil (TreeD.left x)).not (br (TreeD.isNil x).not (br (TreeD.isNil (TreeD.left x)).not (∃x5:TreeD,TreeD.left (TreeD.left x)=x5∧
True∧
∀x6:Unit,True→
∃x7:TreeD,TreeD.right (TreeD.left x)=x7∧
True∧
∀x8:Unit,True→
br (decide (depthD x5<depthD x7)) (br (TreeD.isNil x).not (br (TreeD.isNil x).not (br (TreeD.isNil x).not (∃x9:TreeD,TreeD.left x=x9∧
levelQ1 x9∧
∀x10:Unit,True→
∃x11:JoA,(TreeD.leaf x).path=x11.x.path∧
(TreeD.leaf x).digest=x11.x.digest∧
(TreeD.leaf x).rev=x11.x.rev∧
(TreeD.leaf x).gone=x11.x.gone∧
turnL x9=x11.l∧
TreeD.right x=x11.r∧
(smallT x11.l=true∧
smallT x11.r=true)∧
∀x12:Unit,True→
∃x13:TreeD,joinD x11.x x11.l x11.r=x13∧
levelQ3 x13 x) (Bad "check" "tree.go:62")) (Bad "check" "tree.go:62")) (Bad "check" "tree.go:62")) (∃x16:TreeD,x=x16∧
levelQ3 x16 x)) (Bad "check" "tree.go:61")) (Bad "check" "tree.go:61")) (Bad "check" "tree.go:61")) (Bad "check" "tree.go:61")) (br (decide (IntKind.wrap IntKind.i64 (depthD x1-depthD x3) < @Neg.neg Int _ (1:Int))) (br (TreeD.isNil x).not (br (TreeD.isNil (TreeD.right x)).not (br (TreeD.isNil x).not (br (TreeD.isNil (TreeD.right x)).not (∃x19:TreeD,TreeD.right (TreeD.right x)=x19∧
True∧
∀x20:Unit,True→
∃x21:TreeD,TreeD.left (TreeD.right x)=x21∧
True∧
∀x22:Unit,True→
br (decide (depthD x19<depthD x21)) (br (TreeD.isNil x).not (br (TreeD.isNil x).not (br (TreeD.isNil x).not (∃x23:TreeD,TreeD.right x=x23∧
levelQ2 x23∧
∀x24:Unit,True→
∃x25:JoA,(TreeD.leaf x).path=x25.x.path∧
(TreeD.leaf x).digest=x25.x.digest∧
(TreeD.leaf x).rev=x25.x.rev∧
(TreeD.leaf x).gone=x25.x.gone∧
TreeD.left x=x25.l∧
turnR x23=x25.r∧
(smallT x25.l=true∧
smallT x25.r=true)∧
∀x26:Unit,True→
∃x27:TreeD,joinD x25.x x25.l x25.r=x27∧
levelQ4 x27 x) (Bad "check" "tree.go:67")) (Bad "check" "tree.go:67")) (Bad "check" "tree.go:67")) (∃x30:TreeD,x=x30∧
levelQ4 x30 x)) (Bad "check" "tree.go:66")) (Bad "check" "tree.go:66")) (Bad "check" "tree.go:66")) (Bad "check" "tree.go:66")) (∃x33:Unit,x=levelD x∧
True))) (Bad "check" "tree.go:59")) (Bad "check" "tree.go:59")):=by kernel_rfl
theorem put_vc (n:Nat) (x:(putS n).γ):evCall bareE (ev (putE n) 1000) 131 ((putS n).args x) ⟨(putS n).blks x,(putS n).n0,[]⟩ (fun _ _=>False) ((putS n).ends x)=(
(∃x2:TreeD,
 (((PutA.t x)=x2)∧
 (True∧
 (∀x3:Unit,
 (True→
 (br (Bool.or (TreeD.isNil x2) (Bool.not (TreeD.there x2)))
 (∃x4:JoA,
 (((LeafD.path (PutA.x x))=(LeafD.path (JoA.x x4)))∧
 (((LeafD.digest (PutA.x x))=(LeafD.digest (JoA.x x4)))∧
 (((LeafD.rev (PutA.x x))=(LeafD.rev (JoA.x x4)))∧
 (((LeafD.gone (PutA.x x))=(LeafD.gone (JoA.x x4)))∧
 ((TreeD.nil=(JoA.l x4))∧
 ((TreeD.nil=(JoA.r x4))∧
 ((((smallT (JoA.l x4))=Bool.true)∧
 ((smallT (JoA.r x4))=Bool.true))∧
 (∀x5:Unit,
 (True→
 (∃x6:Unit,
 (((joinD (JoA.x x4) (JoA.l x4) (JoA.r x4))=(putD (PutA.x x) (PutA.t x)))∧
 True))))))))))))
 (br (Bool.not (TreeD.isNil (PutA.t x)))
 (∃x7:TwoA,
 (((LeafD.path (PutA.x x))=(TwoA.a x7))∧
 (((LeafD.path (TreeD.leaf (PutA.t x)))=(TwoA.b x7))∧
 (True∧
 (∀x8:Unit,
 (True→
 (br (decide ((cmpL (splitB (TwoA.a x7)) (splitB (TwoA.b x7)))<(0:Int)))
 (br (Bool.not (TreeD.isNil (PutA.t x)))
 (br (Bool.not (TreeD.isNil (PutA.t x)))
 (br (Bool.not (TreeD.isNil (PutA.t x)))
 (∃x9:PutA,
 (((TreeD.left (PutA.t x))=(PutA.t x9))∧
 (((LeafD.path (PutA.x x))=(LeafD.path (PutA.x x9)))∧
 (((LeafD.digest (PutA.x x))=(LeafD.digest (PutA.x x9)))∧
 (((LeafD.rev (PutA.x x))=(LeafD.rev (PutA.x x9)))∧
 (((LeafD.gone (PutA.x x))=(LeafD.gone (PutA.x x9)))∧
 (((putP (PutA.t x9))∧
 ((ht (PutA.t x9))<n))∧
 (∀x10:Unit,
 (True→
 (∃x11:JoA,
 (((LeafD.path (TreeD.leaf (PutA.t x)))=(LeafD.path (JoA.x x11)))∧
 (((LeafD.digest (TreeD.leaf (PutA.t x)))=(LeafD.digest (JoA.x x11)))∧
 (((LeafD.rev (TreeD.leaf (PutA.t x)))=(LeafD.rev (JoA.x x11)))∧
 (((LeafD.gone (TreeD.leaf (PutA.t x)))=(LeafD.gone (JoA.x x11)))∧
 (((putD (PutA.x x9) (PutA.t x9))=(JoA.l x11))∧
 (((TreeD.right (PutA.t x))=(JoA.r x11))∧
 ((((smallT (JoA.l x11))=Bool.true)∧
 ((smallT (JoA.r x11))=Bool.true))∧
 (∀x12:Unit,
 (True→
 (∃x13:TreeD,
 (((joinD (JoA.x x11) (JoA.l x11) (JoA.r x11))=x13)∧
 ((∃x14:LeafD,
 (∃x15:TreeD,
 (∃x16:TreeD,
 ((x13=(joinD x14 x15 x16))∧
 (((wfT x15)=Bool.true)∧
 (((wfT x16)=Bool.true)∧
 (((depthD x15)≤((depthD x16)+(2:Int)))∧
 (((depthD x16)≤((depthD x15)+(2:Int)))∧
 (((lenD x15)+(lenD x16))≤(900000:Int))))))))))∧
 (∀x17:Unit,
 (True→
 (∃x18:Unit,
 (((levelD x13)=(putD (PutA.x x) (PutA.t x)))∧
 True))))))))))))))))))))))))))
 (Bad "check" "tree.go:81"))
 (Bad "check" "tree.go:81"))
 (Bad "check" "tree.go:81"))
 (br (decide ((cmpL (splitB (TwoA.a x7)) (splitB (TwoA.b x7)))>(0:Int)))
 (br (Bool.not (TreeD.isNil (PutA.t x)))
 (br (Bool.not (TreeD.isNil (PutA.t x)))
 (br (Bool.not (TreeD.isNil (PutA.t x)))
 (∃x19:PutA,
 (((TreeD.right (PutA.t x))=(PutA.t x19))∧
 (((LeafD.path (PutA.x x))=(LeafD.path (PutA.x x19)))∧
 (((LeafD.digest (PutA.x x))=(LeafD.digest (PutA.x x19)))∧
 (((LeafD.rev (PutA.x x))=(LeafD.rev (PutA.x x19)))∧
 (((LeafD.gone (PutA.x x))=(LeafD.gone (PutA.x x19)))∧
 (((putP (PutA.t x19))∧
 ((ht (PutA.t x19))<n))∧
 (∀x20:Unit,
 (True→
 (∃x21:JoA,
 (((LeafD.path (TreeD.leaf (PutA.t x)))=(LeafD.path (JoA.x x21)))∧
 (((LeafD.digest (TreeD.leaf (PutA.t x)))=(LeafD.digest (JoA.x x21)))∧
 (((LeafD.rev (TreeD.leaf (PutA.t x)))=(LeafD.rev (JoA.x x21)))∧
 (((LeafD.gone (TreeD.leaf (PutA.t x)))=(LeafD.gone (JoA.x x21)))∧
 (((TreeD.left (PutA.t x))=(JoA.l x21))∧
 (((putD (PutA.x x19) (PutA.t x19))=(JoA.r x21))∧
 ((((smallT (JoA.l x21))=Bool.true)∧
 ((smallT (JoA.r x21))=Bool.true))∧
 (∀x22:Unit,
 (True→
 (∃x23:TreeD,
 (((joinD (JoA.x x21) (JoA.l x21) (JoA.r x21))=x23)∧
 ((∃x24:LeafD,
 (∃x25:TreeD,
 (∃x26:TreeD,
 ((x23=(joinD x24 x25 x26))∧
 (((wfT x25)=Bool.true)∧
 (((wfT x26)=Bool.true)∧
 (((depthD x25)≤((depthD x26)+(2:Int)))∧
 (((depthD x26)≤((depthD x25)+(2:Int)))∧
 (((lenD x25)+(lenD x26))≤(900000:Int))))))))))∧
 (∀x27:Unit,
 (True→
 (∃x28:Unit,
 (((levelD x23)=(putD (PutA.x x) (PutA.t x)))∧
 True))))))))))))))))))))))))))
 (Bad "check" "tree.go:83"))
 (Bad "check" "tree.go:83"))
 (Bad "check" "tree.go:83"))
 (br (Bool.not (TreeD.isNil (PutA.t x)))
 (br (Bool.not (TreeD.isNil (PutA.t x)))
 (∃x29:JoA,
 (((LeafD.path (PutA.x x))=(LeafD.path (JoA.x x29)))∧
 (((LeafD.digest (PutA.x x))=(LeafD.digest (JoA.x x29)))∧
 (((LeafD.rev (PutA.x x))=(LeafD.rev (JoA.x x29)))∧
 (((LeafD.gone (PutA.x x))=(LeafD.gone (JoA.x x29)))∧
 (((TreeD.left (PutA.t x))=(JoA.l x29))∧
 (((TreeD.right (PutA.t x))=(JoA.r x29))∧
 ((((smallT (JoA.l x29))=Bool.true)∧
 ((smallT (JoA.r x29))=Bool.true))∧
 (∀x30:Unit,
 (True→
 (∃x31:Unit,
 (((joinD (JoA.x x29) (JoA.l x29) (JoA.r x29))=(putD (PutA.x x) (PutA.t x)))∧
 True))))))))))))
 (Bad "check" "tree.go:85"))
 (Bad "check" "tree.go:85"))))))))))
 (Bad "check" "tree.go:79"))))))))):=by kernel_rfl
abbrev getQ1 (x:getT.γ) (x1:TreeD):=getD' (TrS.d x) x1=getD' (TrS.d x) (TrS.t x)
abbrev getQ2 (x:getT.γ):=Option.getD (getD' (TrS.d x) (TrS.t x)) (LeafD.mk ([]:List UInt8) (0:Int) (0:Int) false)
theorem get_vc (x:getT.γ):evCall getEn (ev getEn 1000) 187 (getT.args x) ⟨getT.blks x,getT.n0,[]⟩ (fun _ _=>False) (getT.ends x)=(
(∃x1:TreeD,TrS.t x=x1∧
getQ1 x x1)∧
∀x2:TreeD,getQ1 x x2→
∃x3:TreeD,x2=x3∧
True∧
∀x4:Unit,True→
br (Bool.or (TreeD.isNil x3) (TreeD.there x3).not).not (br (TreeD.isNil x2).not (∃x5:TwoA,TrS.d x=x5.a∧
(TreeD.leaf x2).path=x5.b∧
True∧
∀x6:Unit,True→
br (cmpL (splitB x5.a) (splitB x5.b)==(0:Int)) (br (TreeD.isNil x2).not (∃x7:Unit,(TreeD.leaf x2).path=(getQ2 x).path∧
(TreeD.leaf x2).digest=(getQ2 x).digest∧
(TreeD.leaf x2).rev=(getQ2 x).rev∧
(TreeD.leaf x2).gone=(getQ2 x).gone∧
true=(getD' (TrS.d x) (TrS.t x)).isSome∧
True) (Bad "check" "tree.go:93")) (br (decide (cmpL (splitB x5.a) (splitB x5.b)<(0:Int))) (br (TreeD.isNil x2).not (∃x8:TreeD,TreeD.left x2=x8∧
getQ1 x x8∧
ht x8<ht x2) (Bad "check" "tree.go:96")) (br (TreeD.isNil x2).not (∃x9:TreeD,TreeD.right x2=x9∧
getQ1 x x9∧
ht x9<ht x2) (Bad "check" "tree.go:98")))) (Bad "check" "tree.go:91")) (∃x10:Unit,([]:List UInt8)=(getQ2 x).path∧
(0:Int)=(getQ2 x).digest∧
(0:Int)=(getQ2 x).rev∧
false=(getQ2 x).gone∧
false=(getD' (TrS.d x) (TrS.t x)).isSome∧
True)):=by kernel_rfl
theorem small_num {t:TreeD} (h:0≤depthD t∧depthD t≤1000000∧0≤lenD t∧lenD t≤1000000):smallT t=true:=by
  simp only [smallT,Bool.and_eq_true,decide_eq_true_eq]
  omega
theorem turnl_ok:SpecOK Tryz.prog 229 turnLT.spec:=by
  refine Tri.ok (E:=turnE) (Env_ok (by decide +kernel) (by simp [tjoin_ok])) (n:=1000) turnLT fun x hx=>?_
  rw [turnl_vc]
  delta turnlQ1
  revert x
  intro (t:TreeD) hx
  obtain⟨h1,h2,h3,h4,h5,h6⟩:=hx
  simp only [br_bad,br_true,br_false,List.length_singleton,and_self,Bool.not_true,Bool.not_false,Bool.not_not,decide_eq_true_eq,Bool.and_eq_true,List.take_zero,List.nil_append,List.drop_zero,Nat.zero_add,Int.toNat_natCast,Nat.sub_eq,true_and,and_true,exists_const,List.length_nil,Nat.zero_le,Nat.zero_mul,Nat.le_refl,List.length_set,List.take_length,Int.natCast_nonneg,forall_const,implies_true,Int.toNat_zero,Nat.le_eq,Int.le_refl,addN,cutN,loN,hiN,bndB,List.length_cons,List.take_succ_cons,List.length_take,List.length_drop,Option.isNone,Nat.add_zero,Nat.min_self]
  try simp only [br_iff,decide_eq_true_eq,decide_eq_false_iff_not,room47,Bool.not_eq_true',Bool.not_eq_false',gt_iff_lt]
  exact⟨h1,h2,h1,h1,h2,h2,⟨t.leaf,t.left,t.right.left⟩,rfl,rfl,rfl,rfl,rfl,rfl,⟨h3,h4⟩,⟨t.right.leaf,_,t.right.right⟩,rfl,rfl,rfl,rfl,rfl,rfl,⟨h6,h5⟩,rfl⟩
theorem turnr_ok:SpecOK Tryz.prog 230 turnRT.spec:=by
  refine Tri.ok (E:=turnE) (Env_ok (by decide +kernel) (by simp [tjoin_ok])) (n:=1000) turnRT fun x hx=>?_
  rw [turnr_vc]
  revert x
  intro (t:TreeD) hx
  obtain⟨h1,h2,h3,h4,h5,h6⟩:=hx
  simp only [br_bad,br_true,br_false,List.length_singleton,and_self,Bool.not_true,Bool.not_false,Bool.not_not,decide_eq_true_eq,Bool.and_eq_true,List.take_zero,List.nil_append,List.drop_zero,Nat.zero_add,Int.toNat_natCast,Nat.sub_eq,true_and,and_true,exists_const,List.length_nil,Nat.zero_le,Nat.zero_mul,Nat.le_refl,List.length_set,List.take_length,Int.natCast_nonneg,forall_const,implies_true,Int.toNat_zero,Nat.le_eq,Int.le_refl,addN,cutN,loN,hiN,bndB,List.length_cons,List.take_succ_cons,List.length_take,List.length_drop,Option.isNone,Nat.add_zero,Nat.min_self]
  try simp only [br_iff,decide_eq_true_eq,decide_eq_false_iff_not,room47,Bool.not_eq_true',Bool.not_eq_false',gt_iff_lt]
  refine⟨h1,h2,h2,h1,h2,h1,⟨t.leaf,t.left.right,t.right⟩,rfl,rfl,rfl,rfl,rfl,rfl,⟨h5,h3⟩,⟨t.left.leaf,t.left.left,_⟩,rfl,rfl,rfl,rfl,rfl,rfl,⟨h4,h6⟩,rfl⟩
theorem level_ok:SpecOK Tryz.prog 191 levelT.spec:=by
  refine Tri.ok (E:=levelE) (Env_ok (by decide +kernel) (by simp [tjoin_ok,tdepth_ok,turnl_ok,turnr_ok])) (n:=1000) levelT fun x hx=>?_
  rw [level_vc]
  delta levelQ4 levelQ3 levelQ2 levelQ1
  revert x
  intro (t:TreeD) hx
  obtain⟨x,l,r,rfl,hl,hr,h1,h2,hlen⟩:=hx
  have nl:=wf_num l hl
  have nr:=wf_num r hr
  simp only [br_bad,br_true,br_false,List.length_singleton,and_self,Bool.not_true,Bool.not_false,Bool.not_not,decide_eq_true_eq,Bool.and_eq_true,List.take_zero,List.nil_append,List.drop_zero,Nat.zero_add,Int.toNat_natCast,Nat.sub_eq,true_and,and_true,exists_const,List.length_nil,Nat.zero_le,Nat.zero_mul,Nat.le_refl,List.length_set,List.take_length,Int.natCast_nonneg,forall_const,implies_true,Int.toNat_zero,Nat.le_eq,Int.le_refl,addN,cutN,loN,hiN,bndB,List.length_cons,List.take_succ_cons,List.length_take,List.length_drop,Option.isNone,Nat.add_zero,Nat.min_self]
  try simp only [br_iff,decide_eq_true_eq,decide_eq_false_iff_not,room47,Bool.not_eq_true',Bool.not_eq_false',gt_iff_lt]
  simp only [left_join,right_join,leaf_join,nil_join,true_and]
  refine⟨l,rfl,r,rfl,?_⟩
  rw [wrap_id (by omega) (by omega)]
  cases lev_of x hl hr h1 h2 with
  | same g1 g2 he=>exact⟨fun g=>by omega,fun _=>⟨fun g=>by omega,fun _=>he.symm⟩⟩
  | r1 y a b hd hl' ha hb g1 g2 he=>
    subst hl'
    have na:=wf_num a ha
    have nb:=wf_num b hb
    simp only [depth_join,len_join] at *
    refine⟨fun _=>⟨rfl,rfl,a,rfl,b,rfl,fun g=>by omega,fun _=>⟨_,rfl,⟨rfl,rfl,?_,?_,?_,?_⟩,?_⟩⟩,fun g=>by omega⟩
    · exact small_num (t:=r) (by omega)
    · exact small_num (t:=a) (by omega)
    · exact small_num (t:=b) (by omega)
    · exact small_num (t:=joinD x b r) (by simp only [depth_join,len_join];omega)
    · exact he.symm
  | r2 y z a b c hd hl' ha hb hc g1 g2 g3 he=>
    subst hl'
    have na:=wf_num a ha
    have nb:=wf_num b hb
    have nc:=wf_num c hc
    simp only [depth_join,len_join] at *
    refine⟨fun _=>⟨rfl,rfl,a,rfl,joinD z b c,rfl,fun _=>⟨_,rfl,⟨rfl,rfl,?_,?_,?_,?_⟩,⟨x,turnL (joinD y a (joinD z b c)),r⟩,rfl,rfl,rfl,rfl,rfl,rfl,⟨?_,?_⟩,_,rfl,⟨rfl,rfl,?_,?_,?_,?_⟩,?_⟩,fun g=>by rw [depth_join] at g;omega⟩,fun g=>by omega⟩
    · exact small_num (t:=a) (by omega)
    · exact small_num (t:=b) (by omega)
    · exact small_num (t:=c) (by omega)
    · exact small_num (t:=joinD y a b) (by simp only [depth_join,len_join];omega)
    · exact small_num (t:=joinD z (joinD y a b) c) (by simp only [depth_join,len_join];omega)
    · exact small_num (t:=r) (by omega)
    · exact small_num (t:=r) (by omega)
    · exact small_num (t:=joinD y a b) (by simp only [depth_join,len_join];omega)
    · exact small_num (t:=c) (by omega)
    · exact small_num (t:=joinD x c r) (by simp only [depth_join,len_join];omega)
    · exact he.symm
  | l1 y a b hd hr' ha hb g1 g2 he=>
    subst hr'
    have na:=wf_num a ha
    have nb:=wf_num b hb
    simp only [depth_join,len_join] at *
    refine⟨fun g=>by omega,fun _=>⟨fun _=>⟨rfl,rfl,b,rfl,a,rfl,fun g=>by omega,fun _=>⟨_,rfl,⟨rfl,rfl,?_,?_,?_,?_⟩,?_⟩⟩,fun g=>by omega⟩⟩
    · exact small_num (t:=l) (by omega)
    · exact small_num (t:=a) (by omega)
    · exact small_num (t:=b) (by omega)
    · exact small_num (t:=joinD x l a) (by simp only [depth_join,len_join];omega)
    · exact he.symm
  | l2 y z a b c hd hr' ha hb hc g1 g2 g3 he=>
    subst hr'
    have na:=wf_num a ha
    have nb:=wf_num b hb
    have nc:=wf_num c hc
    simp only [depth_join,len_join] at *
    refine⟨fun g=>by omega,fun _=>⟨fun _=>⟨rfl,rfl,c,rfl,joinD z a b,rfl,fun _=>⟨_,rfl,⟨rfl,rfl,?_,?_,?_,?_⟩,⟨x,l,turnR (joinD y (joinD z a b) c)⟩,rfl,rfl,rfl,rfl,rfl,rfl,⟨?_,?_⟩,_,rfl,⟨rfl,rfl,?_,?_,?_,?_⟩,?_⟩,fun g=>by rw [depth_join] at g;omega⟩,fun g=>by omega⟩⟩
    · exact small_num (t:=c) (by omega)
    · exact small_num (t:=a) (by omega)
    · exact small_num (t:=b) (by omega)
    · exact small_num (t:=joinD y b c) (by simp only [depth_join,len_join];omega)
    · exact small_num (t:=l) (by omega)
    · exact small_num (t:=joinD z a (joinD y b c)) (by simp only [depth_join,len_join];omega)
    · exact small_num (t:=l) (by omega)
    · exact small_num (t:=a) (by omega)
    · exact small_num (t:=joinD y b c) (by simp only [depth_join,len_join];omega)
    · exact small_num (t:=joinD x l a) (by simp only [depth_join,len_join];omega)
    · exact he.symm
theorem put_body (n:Nat) (x:PutA) (hx:(putS n).pre x):evCall bareE (ev (putE n) 1000) 131 ((putS n).args x) ⟨(putS n).blks x,(putS n).n0,[]⟩ (fun _ _=>False) ((putS n).ends x):=by
  have hvc:=put_vc n x
  rw [hvc]
  clear hvc
  obtain⟨t,x⟩:=x
  obtain⟨⟨hp,hlen⟩,hht⟩:=hx
  dsimp only at hp hlen hht
  simp only [lvlP,putP]
  simp only [br_bad,br_true,br_false,List.length_singleton,and_self,Bool.not_true,Bool.not_false,Bool.not_not,decide_eq_true_eq,Bool.and_eq_true,List.take_zero,List.nil_append,List.drop_zero,Nat.zero_add,Int.toNat_natCast,Nat.sub_eq,true_and,and_true,exists_const,List.length_nil,Nat.zero_le,Nat.zero_mul,Nat.le_refl,List.length_set,List.take_length,Int.natCast_nonneg,forall_const,implies_true,Int.toNat_zero,Nat.le_eq,Int.le_refl,addN,cutN,loN,hiN,bndB,List.length_cons,List.take_succ_cons,List.length_take,List.length_drop,Option.isNone,Nat.add_zero,Nat.min_self]
  try simp only [br_iff,decide_eq_true_eq,decide_eq_false_iff_not,room47,Bool.not_eq_true',Bool.not_eq_false',gt_iff_lt]
  refine⟨t,rfl,fun h=>?_,fun h=>?_⟩
  · have e:putD x t=joinD x .nil .nil:=by
      cases t with
      | nil=>rfl
      | node th y l r d m=>
        have:th=false:=by simpa [TreeD.isNil,TreeD.there] using h
        subst this
        rfl
    exact⟨⟨x,.nil,.nil⟩,rfl,rfl,rfl,rfl,rfl,rfl,⟨small_num (by simp [depthD,lenD,TreeD.isNil]),small_num (by simp [depthD,lenD,TreeD.isNil])⟩,e.symm⟩
  · have hw:wfT t=true:=by
      rcases hp with hp | hp
      · rw [h] at hp;cases hp
      · exact hp
    rcases wf_cases hw with rfl | ⟨y,l,r,rfl,hl,hr,b1,b2⟩
    · cases h
    have hht:max (ht l) (ht r)+1<n+1:=hht
    have nl:=wf_num l hl
    have nr:=wf_num r hr
    rw [len_join] at hlen
    have il:=put_wf x l hl
    have ir:=put_wf x r hr
    have e:putD x (joinD y l r)=(bif decide (cmpL (splitB x.path) (splitB y.path)<0) then levelD (joinD y (putD x l) r)
       else bif decide (0<cmpL (splitB x.path) (splitB y.path)) then levelD (joinD y l (putD x r)) else joinD x l r):=rfl
    refine⟨rfl,⟨x.path,y.path⟩,rfl,rfl,fun h1=>⟨rfl,rfl,rfl,⟨l,x⟩,rfl,rfl,rfl,rfl,rfl,⟨⟨.inr hl,by dsimp only;omega⟩,by dsimp only;omega⟩,⟨y,putD x l,r⟩,rfl,rfl,rfl,rfl,rfl,rfl,⟨?_,?_⟩,_,rfl,⟨y,putD x l,r,rfl,il.1,hr,by omega,by omega,by omega⟩,?_⟩,fun h1=>⟨fun h2=>⟨rfl,rfl,rfl,⟨r,x⟩,rfl,rfl,rfl,rfl,rfl,⟨⟨.inr hr,by dsimp only;omega⟩,by dsimp only;omega⟩,⟨y,l,putD x r⟩,rfl,rfl,rfl,rfl,rfl,rfl,⟨?_,?_⟩,_,rfl,⟨y,l,putD x r,rfl,hl,ir.1,by omega,by omega,by omega⟩,?_⟩,fun h2=>⟨rfl,rfl,⟨x,l,r⟩,rfl,rfl,rfl,rfl,rfl,rfl,⟨?_,?_⟩,?_⟩⟩⟩
    · exact small_of (t:=putD x l) il.1 (by omega)
    · exact small_of (t:=r) hr (by omega)
    · rw [e,decide_eq_true h1];rfl
    · exact small_of (t:=l) hl (by omega)
    · exact small_of (t:=putD x r) ir.1 (by omega)
    · rw [e,decide_eq_false h1,decide_eq_true h2];rfl
    · exact small_of (t:=l) hl (by omega)
    · exact small_of (t:=r) hr (by omega)
    · rw [e,decide_eq_false h1,decide_eq_false h2];rfl
theorem tri_ok2 {E0 E:Envr} (hE0:EnvOK E0) (hE:EnvOK E) (hP:E.P=E0.P) {n:Nat} (T:Tri) {f:FuncId} (hbody:∀x,T.pre x→evCall E0 (ev E n) f (T.args x) ⟨T.blks x,T.n0,[]⟩ (fun _ _=>False) (T.ends x)):SpecOK E0.P f T.spec:=
  Tri.ok' T fun x hx F g w vs hargs hm=>(evCall_sound hE0 (fun c=>hP ▸ (ev_sound hE n).1 c) (hbody x hx) hargs hm).2
theorem bare_env:EnvOK bareE:=Env_ok (by decide +kernel) (by simp)
set_option maxRecDepth 100000 in
theorem put_env {n:Nat} (h:SpecOK Tryz.prog 131 (putT n).spec):EnvOK (putE n):=Env_ok (by decide +kernel) (by
  intro p hp
  simp only [List.mem_cons,List.mem_nil_iff,or_false] at hp
  rcases hp with rfl | rfl | rfl | rfl | rfl
  · exact empty_ok
  · exact tjoin_ok
  · exact level_ok
  · exact compare_ok
  · exact h)
set_option maxRecDepth 100000 in
theorem put_ok (n:Nat):SpecOK Tryz.prog 131 (putT n).spec:=by
  induction n with
  | zero=>
    refine Tri.ok' (putT 0) fun x hx=>?_
    obtain⟨_,h⟩:=hx
    exact absurd h (Nat.not_lt_zero _)
  | succ n ih=>exact tri_ok2 (E0:=bareE) (E:=putE n) bare_env (put_env ih) rfl (n:=1000) (putS n) (fun x hx=>put_body n x hx)
theorem getD_nil {p:Bs} {t:TreeD} (h:(t.isNil || !t.there)=true):getD' p t=none:=by
  cases t with
  | nil=>rfl
  | node th y l r d m=>
    have:th=false:=by simpa [TreeD.isNil,TreeD.there] using h
    subst this
    rfl
theorem get_ok:SpecOK Tryz.prog 187 getT.spec:=by
  refine Tri.ok (E:=getEn) (Env_ok (by decide +kernel) (by simp [empty_ok,compare_ok])) (n:=1000) getT fun x hx=>?_
  rw [get_vc]
  delta getQ2 getQ1
  obtain⟨t,p⟩:=x
  simp only [br_bad,br_true,br_false,List.length_singleton,and_self,Bool.not_true,Bool.not_false,Bool.not_not,decide_eq_true_eq,Bool.and_eq_true,List.take_zero,List.nil_append,List.drop_zero,Nat.zero_add,Int.toNat_natCast,Nat.sub_eq,true_and,and_true,exists_const,List.length_nil,Nat.zero_le,Nat.zero_mul,Nat.le_refl,List.length_set,List.take_length,Int.natCast_nonneg,forall_const,implies_true,Int.toNat_zero,Nat.le_eq,Int.le_refl,addN,cutN,loN,hiN,bndB,List.length_cons,List.take_succ_cons,List.length_take,List.length_drop,Option.isNone,Nat.add_zero,Nat.min_self]
  try simp only [br_iff,decide_eq_true_eq,decide_eq_false_iff_not,room47,Bool.not_eq_true',Bool.not_eq_false',gt_iff_lt]
  refine⟨⟨t,rfl,rfl⟩,fun t' hI=>⟨t',rfl,fun h=>?_,fun h=>?_⟩⟩
  · rw [←hI]
    cases t' with
    | nil=>cases h
    | node th y l r d m=>
      have:th=true:=by simpa [TreeD.isNil,TreeD.there] using h
      subst this
      have e:getD' p (.node true y l r d m)=(bif cmpL (splitB p) (splitB y.path)==0 then some y else bif decide (cmpL (splitB p) (splitB y.path)<0) then getD' p l else getD' p r):=rfl
      rw [e]
      refine⟨rfl,⟨p,y.path⟩,rfl,rfl,fun h1=>?_,fun h1=>⟨fun h2=>⟨rfl,l,rfl,?_,?_⟩,fun h2=>⟨rfl,r,rfl,?_,?_⟩⟩⟩
      · rw [show (cmpL (splitB p) (splitB y.path)==0)=true from h1]
        exact⟨rfl,rfl,rfl,rfl,rfl,rfl⟩
      · rw [show (cmpL (splitB p) (splitB y.path)==0)=false from h1,decide_eq_true h2];rfl
      · show ht l<max (ht l) (ht r)+1;omega
      · rw [show (cmpL (splitB p) (splitB y.path)==0)=false from h1,decide_eq_false h2];rfl
      · show ht r<max (ht l) (ht r)+1;omega
  · rw [←hI,getD_nil h]
    exact⟨rfl,rfl,rfl,rfl,rfl⟩
abbrev noL:LeafD:=⟨[],0,0,false⟩
def shortLf (l:List LeafD):Bool:=l.all fun x=>shortB x.path
def fewLf (l:List LeafD):Bool:=decide (l.length≤100000)
def cmpP (p:Bs) (y:LeafD):Int:=cmpL (splitB p) (splitB y.path)
def placeL (p:Bs):List LeafD→Nat × Bool
  | []=>(0,false)
  | y::r=>bif cmpP p y==0 then (0,true) else bif decide (cmpP p y<0) then (0,false) else ((placeL p r).1+1,(placeL p r).2)
def insL (x:LeafD):List LeafD→List LeafD
  | []=>[x]
  | y::r=>bif cmpP x.path y==0 then x::r else bif decide (cmpP x.path y<0) then x::y::r else y::insL x r
def getL (p:Bs):List LeafD→Option LeafD
  | []=>none
  | y::r=>bif cmpP p y==0 then some y else bif decide (cmpP p y<0) then none else getL p r
structure Lea2 where
  a:List LeafD
  b:List LeafD
structure LeaP where
  l:List LeafD
  p:Bs
structure LeaX where
  l:List LeafD
  x:LeafD
structure LeaR where
  l:List LeafD
  a:Bs
  b:Bs
noncomputable def placeT:Tri:={γ:=LeaP,n0:=0,args:=fun x=>[.agg [.rslice false .leaf x.l],.str x.p],blks:=fun _=>[],pre:=fun x=>shortLf x.l=true∧shortB x.p=true,δ:=Unit,post:=fun _ _=>True,n1:=0,res:=fun x _=>.tuple [.int .i64 (placeL x.p x.l).1,.bool (placeL x.p x.l).2],blks':=fun _ _=>[],scal:=true}
noncomputable def placeI:St→LInv:=fun s=>match getE s.env 0,getE s.env 1 with
  | .agg [.rslice _ .leaf l],.str p=>{σ:=Nat,I:=fun i=>i≤l.length∧(placeL p (l.drop i)).1+i=(placeL p l).1∧(placeL p (l.drop i)).2=(placeL p l).2,μ:=fun i=>l.length-i,env:=fun i=>[(6,.int .i64 i)],blk:=fun _=>[],fresh:=0,drop:=[]}
  | _,_=>LInv.none
noncomputable def placeE:Envr:=Env Tryz.prog cod [(193,rcompareT.spec)] [(2,placeI)]
noncomputable def rputT:Tri:={γ:=LeaX,n0:=0,args:=fun x=>[.agg [.rslice false .leaf x.l],.agg (enc .leaf x.x)],blks:=fun _=>[],pre:=fun x=>shortLf x.l=true∧shortB x.x.path=true∧fewLf x.l=true,δ:=Unit,post:=fun _ _=>True,n1:=1,res:=fun x _=>.agg [.mslice .leaf 0 0 (insL x.x x.l).length],blks':=fun x _=>[(0,.rows .leaf (insL x.x x.l))],scal:=true}
noncomputable def rgetT:Tri:={γ:=LeaP,n0:=0,args:=fun x=>[.agg [.rslice false .leaf x.l],.str x.p],blks:=fun _=>[],pre:=fun x=>shortLf x.l=true∧shortB x.p=true,δ:=Unit,post:=fun _ _=>True,n1:=0,res:=fun x _=>.tuple [.agg (enc .leaf ((getL x.p x.l).getD ⟨[],0,0,false⟩)),.bool (getL x.p x.l).isSome],blks':=fun _ _=>[],scal:=true}
theorem drop_getD {α:Type} {l:List α} {i:Nat} (d:α) (h:i<l.length):l.drop i=l.getD i d::l.drop (i+1):=by
  rw [List.drop_eq_getElem_cons h]
  simp [h]
theorem placeL_cons (p:Bs) (y:LeafD) (r:List LeafD):placeL p (y::r)=(bif cmpP p y==0 then (0,true) else bif decide (cmpP p y<0) then (0,false) else ((placeL p r).1+1,(placeL p r).2)):=rfl
theorem insL_cons (x y:LeafD) (r:List LeafD):insL x (y::r)=(bif cmpP x.path y==0 then x::r else bif decide (cmpP x.path y<0) then x::y::r else y::insL x r):=rfl
theorem getL_cons (p:Bs) (y:LeafD) (r:List LeafD):getL p (y::r)=(bif cmpP p y==0 then some y else bif decide (cmpP p y<0) then none else getL p r):=rfl
theorem placeL_le (p:Bs):∀l,(placeL p l).1≤l.length∧((placeL p l).2=true→(placeL p l).1<l.length)
  | []=>⟨Nat.le_refl _,fun h=>by cases h⟩
  | y::r=>by
    have ih:=placeL_le p r
    rw [placeL_cons]
    cases cmpP p y==0
    · cases decide (cmpP p y<0)
      · simp only [cond_false,List.length_cons]
        exact⟨by omega,fun h=>by have:=ih.2 h;omega⟩
      · simp
    · simp
theorem insL_place (x:LeafD):∀l,insL x l=l.take (placeL x.path l).1++x::l.drop (bif (placeL x.path l).2 then (placeL x.path l).1+1 else (placeL x.path l).1)
  | []=>rfl
  | y::r=>by
    have ih:=insL_place x r
    rw [placeL_cons,insL_cons]
    cases cmpP x.path y==0
    · cases decide (cmpP x.path y<0)
      · simp only [cond_false]
        rw [ih]
        cases (placeL x.path r).2<;>simp
      · simp
    · simp
theorem getL_place (p:Bs):∀l,getL p l=bif (placeL p l).2 then some (l.getD (placeL p l).1 noL) else none
  | []=>rfl
  | y::r=>by
    have ih:=getL_place p r
    rw [placeL_cons,getL_cons]
    cases cmpP p y==0
    · cases decide (cmpP p y<0)
      · simp only [cond_false]
        rw [ih]
        simp
      · simp
    · simp
theorem insL_len (x:LeafD) (l:List LeafD):(insL x l).length≤l.length+1∧l.length≤(insL x l).length:=by
  rw [insL_place]
  have:=placeL_le x.path l
  simp only [List.length_append,List.length_take,List.length_cons,List.length_drop]
  cases h:(placeL x.path l).2
  · simp only [cond_false];omega
  · have:=this.2 h
    simp only [cond_true];omega
theorem wf_ht:∀(t:TreeD),wfT t=true→(ht t:Int)=depthD t
  | .nil,_=>by simp [ht,depthD,TreeD.isNil]
  | .node th x l r d m,h=>by
    simp only [wfT,Bool.and_eq_true,decide_eq_true_eq] at h
    obtain⟨h1,h2,h3,h4,h5,h6,h7⟩:=h
    subst h1 h4 h5
    have hl:=wf_ht l h2
    have hr:=wf_ht r h3
    show ((max (ht l) (ht r)+1:Nat):Int)=depthD (joinD x l r)
    rw [depth_join]
    omega
def ordL (l:List LeafD):Prop:=l.Pairwise fun a b=>cmpL (splitB a.path) (splitB b.path)<0
theorem cmpP_swap (x y:LeafD):cmpP x.path y = -cmpP y.path x:=by
  unfold cmpP
  rw [cmpL_swap (splitB y.path) (splitB x.path)]
theorem cmp_lt_trans {a b c:List Bs} (h1:cmpL a b<0) (h2:cmpL b c<0):cmpL a c<0:=by
  have:=cmpL_trans (a:=a) (b:=b) (c:=c) (by omega) (by omega)
  rcases cmpL_vals a c with h | h | h
  · omega
  · have:=(this.2 h).1;omega
  · omega
theorem insL_left {x y:LeafD} (h:cmpP x.path y<0):∀(A B:List LeafD),insL x (A++y::B)=insL x A++y::B
  | [],B=>by
    rw [List.nil_append,insL_cons]
    have h0:(cmpP x.path y==0)=false:=by simp;omega
    rw [h0,decide_eq_true h];rfl
  | a::A,B=>by
    rw [List.cons_append,insL_cons,insL_cons,insL_left h A B]
    cases cmpP x.path a==0
    · cases decide (cmpP x.path a<0)<;>rfl
    · rfl
theorem insL_right {x y:LeafD} (h:0<cmpP x.path y):∀(A B:List LeafD),(∀a,a∈A→cmpL (splitB a.path) (splitB y.path)<0)→insL x (A++y::B)=A++y::insL x B
  | [],B,_=>by
    rw [List.nil_append,insL_cons]
    have h0:(cmpP x.path y==0)=false:=by simp;omega
    have h1:decide (cmpP x.path y<0)=false:=by simp;omega
    rw [h0,h1];rfl
  | a::A,B,hA=>by
    rw [List.cons_append,insL_cons,insL_right h A B (fun b hb=>hA b (by simp [hb]))]
    have ha:0<cmpP x.path a:=by
      have h2:cmpP y.path x<0:=by rw [cmpP_swap];omega
      have:=cmp_lt_trans (hA a (by simp)) h2
      have h3:cmpP a.path x<0:=this
      rw [cmpP_swap];omega
    have h0:(cmpP x.path a==0)=false:=by simp;omega
    have h1:decide (cmpP x.path a<0)=false:=by simp;omega
    rw [h0,h1];rfl
theorem insL_same {x y:LeafD} (h:cmpP x.path y=0):∀(A B:List LeafD),(∀a,a∈A→cmpL (splitB a.path) (splitB y.path)<0)→insL x (A++y::B)=A++x::B
  | [],B,_=>by
    rw [List.nil_append,insL_cons]
    have h0:(cmpP x.path y==0)=true:=by simp [h]
    rw [h0];rfl
  | a::A,B,hA=>by
    rw [List.cons_append,insL_cons,insL_same h A B (fun b hb=>hA b (by simp [hb]))]
    have ha:0<cmpP x.path a:=by
      have h2:cmpL (splitB a.path) (splitB x.path)<0:=by
        have e:=cmpL_zero.1 h
        rw [e];exact hA a (by simp)
      have h3:cmpP a.path x<0:=h2
      rw [cmpP_swap];omega
    have h0:(cmpP x.path a==0)=false:=by simp;omega
    have h1:decide (cmpP x.path a<0)=false:=by simp;omega
    rw [h0,h1];rfl
theorem getL_left {p:Bs} {y:LeafD} (h:cmpP p y<0):∀(A B:List LeafD),getL p (A++y::B)=getL p A
  | [],B=>by
    rw [List.nil_append,getL_cons]
    have h0:(cmpP p y==0)=false:=by simp;omega
    rw [h0,decide_eq_true h];rfl
  | a::A,B=>by rw [List.cons_append,getL_cons,getL_cons,getL_left h A B]
theorem getL_right {p:Bs} {y:LeafD} (h:0≤cmpP p y):∀(A B:List LeafD),(∀a,a∈A→cmpL (splitB a.path) (splitB y.path)<0)→getL p (A++y::B)=getL p (y::B)
  | [],B,_=>rfl
  | a::A,B,hA=>by
    rw [List.cons_append,getL_cons,getL_right h A B (fun b hb=>hA b (by simp [hb]))]
    have ha:0<cmpP p a:=by
      have h1:=hA a (by simp)
      have h2:cmpL (splitB y.path) (splitB p)≤0:=by rw [cmpL_swap (splitB p) (splitB y.path)];unfold cmpP at h;omega
      have h3:=cmpL_trans (a:=splitB a.path) (b:=splitB y.path) (c:=splitB p) (by omega) h2
      unfold cmpP
      rw [cmpL_swap (splitB a.path) (splitB p)]
      rcases cmpL_vals (splitB a.path) (splitB p) with g | g | g
      · omega
      · have:=(h3.2 g).1;omega
      · omega
    have h0:(cmpP p a==0)=false:=by simp;omega
    have h1:decide (cmpP p a<0)=false:=by simp;omega
    rw [h0,h1];rfl
structure TOK (t:TreeD):Prop where
  ok:(t.isNil || !t.there)=true∨wfT t=true
  ord:ordL (TreeD.inorder t)
theorem inorder_empty {t:TreeD} (h:(t.isNil || !t.there)=true):TreeD.inorder t=[]:=by
  cases t with
  | nil=>rfl
  | node th x l r d m=>
    have:th=false:=by simpa [TreeD.isNil,TreeD.there] using h
    subst this
    rfl
theorem putD_empty {x:LeafD} {t:TreeD} (h:(t.isNil || !t.there)=true):putD x t=joinD x .nil .nil:=by
  cases t with
  | nil=>rfl
  | node th y l r d m=>
    have:th=false:=by simpa [TreeD.isNil,TreeD.there] using h
    subst this
    rfl
theorem lenD_empty {t:TreeD} (h:(t.isNil || !t.there)=true):lenD t=0:=by unfold lenD;rw [h];rfl
theorem putD_in (x:LeafD):∀(t:TreeD),wfT t=true→ordL (TreeD.inorder t)→TreeD.inorder (putD x t)=insL x (TreeD.inorder t)
  | .nil,_,_=>rfl
  | .node th y l r d m,h,ho=>by
    simp only [wfT,Bool.and_eq_true,decide_eq_true_eq] at h
    obtain⟨h1,h2,h3,h4,h5,h6,h7⟩:=h
    subst h1 h4 h5
    have ho:ordL (TreeD.inorder l++y::TreeD.inorder r):=ho
    unfold ordL at ho
    rw [List.pairwise_append] at ho
    obtain⟨o1,o2,o3⟩:=ho
    rw [List.pairwise_cons] at o2
    have il:=putD_in x l h2 o1
    have ir:=putD_in x r h3 o2.2
    have wl:=put_wf x l h2
    have wr:=put_wf x r h3
    have hA:∀a,a∈TreeD.inorder l→cmpL (splitB a.path) (splitB y.path)<0:=fun a ha=>o3 a ha y (by simp)
    show TreeD.inorder (putD x (joinD y l r))=insL x (TreeD.inorder l++y::TreeD.inorder r)
    have e:putD x (joinD y l r)=(bif decide (cmpP x.path y<0) then levelD (joinD y (putD x l) r)
       else bif decide (0<cmpP x.path y) then levelD (joinD y l (putD x r)) else joinD x l r):=rfl
    rw [e]
    by_cases g1:cmpP x.path y<0
    · rw [decide_eq_true g1]
      simp only [cond_true]
      rw [(level_wf y wl.1 h3 (by omega) (by omega)).2.2.2.1,il,insL_left g1]
    · rw [decide_eq_false g1]
      simp only [cond_false]
      by_cases g2:0<cmpP x.path y
      · rw [decide_eq_true g2]
        simp only [cond_true]
        rw [(level_wf y h2 wr.1 (by omega) (by omega)).2.2.2.1,ir,insL_right g2 _ _ hA]
      · rw [decide_eq_false g2]
        simp only [cond_false]
        rw [in_join,insL_same (by omega) _ _ hA]
theorem insL_mem {x a:LeafD}:∀ {l:List LeafD},a∈insL x l→a=x∨a∈l
  | [],h=>by simp [insL] at h;exact .inl h
  | y::r,h=>by
    rw [insL_cons] at h
    revert h
    cases cmpP x.path y==0
    · cases decide (cmpP x.path y<0)
      · simp only [cond_false]
        intro h
        rcases List.mem_cons.1 h with rfl | h
        · exact .inr (by simp)
        · rcases insL_mem h with rfl | h
          · exact .inl rfl
          · exact .inr (by simp [h])
      · simp only [cond_true,cond_false]
        intro h
        rcases List.mem_cons.1 h with rfl | h
        · exact .inl rfl
        · exact .inr h
    · simp only [cond_true]
      intro h
      rcases List.mem_cons.1 h with rfl | h
      · exact .inl rfl
      · exact .inr (by simp [h])
theorem insL_ord {x:LeafD}:∀ {l:List LeafD},ordL l→ordL (insL x l)
  | [],_=>by simp [insL,ordL]
  | y::r,h=>by
    unfold ordL at h ⊢
    rw [List.pairwise_cons] at h
    rw [insL_cons]
    by_cases g0:cmpP x.path y=0
    · have e0:(cmpP x.path y==0)=true:=by simp [g0]
      rw [e0]
      simp only [cond_true]
      rw [List.pairwise_cons]
      refine⟨fun b hb=>?_,h.2⟩
      rw [cmpL_zero.1 g0]
      exact h.1 b hb
    · have e0:(cmpP x.path y==0)=false:=by simp [g0]
      rw [e0]
      simp only [cond_false]
      by_cases g1:cmpP x.path y<0
      · rw [decide_eq_true g1]
        simp only [cond_true]
        rw [List.pairwise_cons,List.pairwise_cons]
        refine⟨fun b hb=>?_,h⟩
        rcases List.mem_cons.1 hb with rfl | hb
        · exact g1
        · exact cmp_lt_trans g1 (h.1 b hb)
      · rw [decide_eq_false g1]
        simp only [cond_false]
        rw [List.pairwise_cons]
        refine⟨fun b hb=>?_,insL_ord h.2⟩
        rcases insL_mem hb with rfl | hb
        · have:cmpP y.path b = -cmpP b.path y:=cmpP_swap y b
          unfold cmpP at this g1 g0
          omega
        · exact h.1 b hb
theorem tok_put {t:TreeD} (h:TOK t) (x:LeafD):TOK (putD x t)∧wfT (putD x t)=true∧TreeD.inorder (putD x t)=insL x (TreeD.inorder t):=by
  have hw:wfT (putD x t)=true∧TreeD.inorder (putD x t)=insL x (TreeD.inorder t):=by
    rcases h.ok with h1 | h1
    · rw [putD_empty h1,inorder_empty h1]
      exact⟨wf_join rfl rfl (by omega) (by omega),rfl⟩
    · exact⟨(put_wf x t h1).1,putD_in x t h1 h.ord⟩
  exact⟨⟨.inr hw.1,by rw [hw.2];exact insL_ord h.ord⟩,hw⟩
theorem tok_len {t:TreeD} (h:TOK t):lenD t=(TreeD.inorder t).length:=by
  rcases h.ok with h1 | h1
  · rw [lenD_empty h1,inorder_empty h1];rfl
  · exact (wf_num t h1).2.2
theorem tok_ht {t:TreeD} (h:TOK t) (hn:t = .node false noL .nil .nil 0 0∨wfT t=true):(ht t:Int)≤(TreeD.inorder t).length+1:=by
  rcases hn with rfl | h1
  · simp [ht];omega
  · have:=wf_ht t h1
    have:=wf_num t h1
    omega
theorem tok_get {t:TreeD} (h:TOK t) (p:Bs):getD' p t=getL p (TreeD.inorder t):=by
  rcases h.ok with h1 | h1
  · rw [inorder_empty h1]
    cases t with
    | nil=>rfl
    | node th y l r d m=>
      have:th=false:=by simpa [TreeD.isNil,TreeD.there] using h1
      subst this
      rfl
  · have:∀(t:TreeD),wfT t=true→ordL (TreeD.inorder t)→getD' p t=getL p (TreeD.inorder t):=by
      intro t
      induction t with
      | nil=>intro _ _;rfl
      | node th y l r d m il ir=>
        intro h ho
        simp only [wfT,Bool.and_eq_true,decide_eq_true_eq] at h
        obtain⟨h1,h2,h3,h4,h5,h6,h7⟩:=h
        subst h1 h4 h5
        have ho:ordL (TreeD.inorder l++y::TreeD.inorder r):=ho
        unfold ordL at ho
        rw [List.pairwise_append] at ho
        obtain⟨o1,o2,o3⟩:=ho
        rw [List.pairwise_cons] at o2
        have hA:∀a,a∈TreeD.inorder l→cmpL (splitB a.path) (splitB y.path)<0:=fun a ha=>o3 a ha y (by simp)
        show getD' p (joinD y l r)=getL p (TreeD.inorder l++y::TreeD.inorder r)
        have e:getD' p (joinD y l r)=(bif cmpP p y==0 then some y else bif decide (cmpP p y<0) then getD' p l else getD' p r):=rfl
        rw [e]
        by_cases g1:cmpP p y<0
        · have h0:(cmpP p y==0)=false:=by simp;omega
          rw [h0,decide_eq_true g1,getL_left g1]
          exact il h2 o1
        · rw [getL_right (by omega) _ _ hA,getL_cons]
          cases cmpP p y==0
          · rw [decide_eq_false g1]
            exact ir h3 o2.2
          · rfl
    exact this t h1 h.ord
abbrev newD:TreeD:=.node false ⟨[],0,0,false⟩ .nil .nil 0 0
def putsD (l:List LeafD):TreeD:=l.foldl (fun t x=>putD x t) newD
def insLs (l:List LeafD):List LeafD:=l.foldl (fun t x=>insL x t) []
def lastOf (p:Bs) (l:List LeafD):Option LeafD:=l.reverse.find? fun x=>x.path==p
theorem putsD_snoc (l:List LeafD) (x:LeafD):putsD (l++[x])=putD x (putsD l):=by simp [putsD]
theorem insLs_snoc (l:List LeafD) (x:LeafD):insLs (l++[x])=insL x (insLs l):=by simp [insLs]
theorem snocL {α:Type} {p:List α→Prop} (h0:p []) (h1:∀l x,p l→p (l++[x])) (l:List α):p l:=by
  have:∀r:List α,p r.reverse:=by
    intro r
    induction r with
    | nil=>exact h0
    | cons x r ih=>rw [List.reverse_cons];exact h1 _ _ ih
  have:=this l.reverse
  rwa [List.reverse_reverse] at this
theorem tok_new:TOK newD:=⟨.inl rfl,List.Pairwise.nil⟩
structure PutsOK (l:List LeafD):Prop where
  tok:TOK (putsD l)
  ino:TreeD.inorder (putsD l)=insLs l
  shape:putsD l=newD∨wfT (putsD l)=true
theorem puts_ok (l:List LeafD):PutsOK l:=by
  refine snocL (p:=PutsOK) ⟨tok_new,rfl,.inl rfl⟩ (fun l x h=>?_) l
  obtain⟨h1,h2,h3⟩:=tok_put h.tok x
  exact⟨by rw [putsD_snoc];exact h1,by rw [putsD_snoc,insLs_snoc,h3,h.ino],by rw [putsD_snoc];exact .inr h2⟩
theorem insLs_len (l:List LeafD):(insLs l).length≤l.length:=by
  refine snocL (p:=fun l=>(insLs l).length≤l.length) (Nat.le_refl _) (fun l x h=>?_) l
  rw [insLs_snoc,List.length_append]
  have:=(insL_len x (insLs l)).1
  simp;omega
theorem insLs_ord (l:List LeafD):ordL (insLs l):=by
  have:=(puts_ok l).tok.ord
  rwa [(puts_ok l).ino] at this
theorem puts_len (l:List LeafD):lenD (putsD l)=(insLs l).length:=by
  rw [tok_len (puts_ok l).tok,(puts_ok l).ino]
theorem puts_get (l:List LeafD) (p:Bs):getD' p (putsD l)=getL p (insLs l):=by
  rw [tok_get (puts_ok l).tok,(puts_ok l).ino]
theorem cmp_path {x y:LeafD} (h:cmpP x.path y=0):x.path=y.path:=split_inj (cmpL_zero.1 h)
theorem cmp_ne {a b:LeafD} (h:cmpL (splitB a.path) (splitB b.path)<0):a.path≠b.path:=by
  intro e
  rw [e,cmpL_self] at h
  omega
theorem ord_tail {y:LeafD} {r:List LeafD} (h:ordL (y::r)):ordL r:=(List.pairwise_cons.1 h).2
theorem ord_head {y:LeafD} {r:List LeafD} (h:ordL (y::r)):∀b,b∈r→cmpL (splitB y.path) (splitB b.path)<0:=(List.pairwise_cons.1 h).1
theorem mem_ins {x:LeafD}:∀ {l:List LeafD},ordL l → ∀a,a∈insL x l↔(a=x∨(a∈l∧a.path≠x.path))
  | [],_,a=>by simp [insL]
  | y::r,h,a=>by
    have ih:=mem_ins (x:=x) (ord_tail h) a
    have hh:=ord_head h
    rw [insL_cons]
    by_cases g0:cmpP x.path y=0
    · have e0:(cmpP x.path y==0)=true:=by simp [g0]
      have ep:=cmp_path g0
      rw [e0]
      simp only [cond_true,List.mem_cons]
      constructor
      · rintro (h1 | h1)
        · exact .inl h1
        · refine .inr ⟨.inr h1,fun e=>?_⟩
          exact cmp_ne (hh a h1) (by rw [e,ep])
      · rintro (h1 | ⟨h1 | h1,h2⟩)
        · exact .inl h1
        · subst h1;exact absurd ep.symm h2
        · exact .inr h1
    · have e0:(cmpP x.path y==0)=false:=by simp [g0]
      rw [e0]
      simp only [cond_false]
      by_cases g1:cmpP x.path y<0
      · rw [decide_eq_true g1]
        simp only [cond_true,List.mem_cons]
        have hy:∀b,(b=y∨b∈r)→b.path≠x.path:=by
          rintro b (rfl | hb) e
          · exact cmp_ne (a:=x) (b:=b) g1 e.symm
          · exact cmp_ne (a:=x) (b:=b) (cmp_lt_trans g1 (hh b hb)) e.symm
        constructor
        · rintro (h1 | h1)
          · exact .inl h1
          · exact .inr ⟨h1,hy a h1⟩
        · rintro (h1 | ⟨h1,_⟩)
          · exact .inl h1
          · exact .inr h1
      · rw [decide_eq_false g1]
        simp only [cond_false,List.mem_cons,ih]
        have hyx:y.path≠x.path:=by
          intro e
          apply g0
          unfold cmpP
          rw [e,cmpL_self]
        constructor
        · rintro (h1 | h1 | ⟨h1,h2⟩)
          · exact .inr ⟨.inl h1,by rw [h1];exact hyx⟩
          · exact .inl h1
          · exact .inr ⟨.inr h1,h2⟩
        · rintro (h1 | ⟨h1 | h1,h2⟩)
          · exact .inr (.inl h1)
          · exact .inl h1
          · exact .inr (.inr ⟨h1,h2⟩)
theorem getL_iff {p:Bs} {x:LeafD}:∀ {l:List LeafD},ordL l→(getL p l=some x↔(x∈l∧x.path=p))
  | [],_=>by simp [getL]
  | y::r,h=>by
    have ih:=getL_iff (p:=p) (x:=x) (ord_tail h)
    have hh:=ord_head h
    rw [getL_cons]
    by_cases g0:cmpP p y=0
    · have e0:(cmpP p y==0)=true:=by simp [g0]
      have ep:p=y.path:=split_inj (cmpL_zero.1 g0)
      rw [e0]
      simp only [cond_true,List.mem_cons,Option.some.injEq]
      constructor
      · rintro rfl;exact⟨.inl rfl,ep.symm⟩
      · rintro ⟨rfl | h1,h2⟩
        · rfl
        · exact absurd (h2.trans ep).symm (cmp_ne (hh x h1))
    · have e0:(cmpP p y==0)=false:=by simp [g0]
      have hpy:y.path≠p:=by
        rintro rfl
        apply g0
        unfold cmpP
        rw [cmpL_self]
      rw [e0]
      simp only [cond_false]
      by_cases g1:cmpP p y<0
      · rw [decide_eq_true g1]
        simp only [cond_true,List.mem_cons]
        constructor
        · intro h;cases h
        · rintro ⟨rfl | h1,h2⟩
          · exact absurd h2 hpy
          · have h3:cmpL (splitB p) (splitB x.path)<0:=cmp_lt_trans g1 (hh x h1)
            rw [h2,cmpL_self] at h3
            omega
      · rw [decide_eq_false g1]
        simp only [cond_false,List.mem_cons,ih]
        constructor
        · rintro ⟨h1,h2⟩;exact⟨.inr h1,h2⟩
        · rintro ⟨rfl | h1,h2⟩
          · exact absurd h2 hpy
          · exact⟨h1,h2⟩
theorem lastOf_snoc (p:Bs) (l:List LeafD) (x:LeafD):lastOf p (l++[x])=if x.path=p then some x else lastOf p l:=by
  unfold lastOf
  rw [List.reverse_append]
  simp only [List.reverse_cons,List.reverse_nil,List.nil_append,List.cons_append,List.find?_cons]
  by_cases e:x.path=p
  · simp [e]
  · have:(x.path==p)=false:=by simpa using e
    simp [e,this]
theorem lastOf_some {p:Bs} {l:List LeafD} {x:LeafD} (h:lastOf p l=some x):x∈l∧x.path=p:=by
  unfold lastOf at h
  exact⟨by simpa using List.mem_of_find?_eq_some h,by simpa using List.find?_some h⟩
theorem lastOf_none {p:Bs} {l:List LeafD}:lastOf p l=none↔(l.any fun x=>x.path==p)=false:=by
  unfold lastOf
  rw [List.find?_eq_none,List.any_eq_false]
  simp
theorem mem_insLs (a:LeafD) (l:List LeafD):a∈insLs l↔lastOf a.path l=some a:=by
  refine snocL (p:=fun l=>a∈insLs l↔lastOf a.path l=some a) (by simp [insLs,lastOf]) (fun l x ih=>?_) l
  rw [insLs_snoc,mem_ins (insLs_ord l),lastOf_snoc,ih]
  by_cases e:x.path=a.path
  · rw [if_pos e]
    constructor
    · rintro (h | ⟨_,h⟩)
      · rw [h]
      · exact absurd e.symm h
    · intro h;exact .inl (Option.some.inj h).symm
  · rw [if_neg e]
    constructor
    · rintro (h | ⟨h,_⟩)
      · exact absurd (by rw [h]) e
      · exact h
    · intro h;exact .inr ⟨h,fun e'=>e e'.symm⟩
theorem get_insLs (p:Bs) (l:List LeafD):getL p (insLs l)=lastOf p l:=by
  cases h:lastOf p l with
  | some x=>
    have:=(lastOf_some h).2
    subst this
    exact (getL_iff (insLs_ord l)).2 ⟨(mem_insLs x l).2 h,rfl⟩
  | none=>
    cases h2:getL p (insLs l) with
    | none=>rfl
    | some x=>
      obtain⟨h3,rfl⟩:=(getL_iff (insLs_ord l)).1 h2
      rw [(mem_insLs x l).1 h3] at h
      cases h
def leC (a b:ChangeD):Prop:=cmpC a b≤0
def srtC (l:List ChangeD):Prop:=l.Pairwise leC
def clsC (p:Bs) (l:List ChangeD):List ChangeD:=l.filter fun x=>x.path==p
theorem cmpC_swap (a b:ChangeD):cmpC b a = -cmpC a b:=cmpL_swap _ _
theorem cmpC_zero {a b:ChangeD}:cmpC a b=0↔a.path=b.path:=by
  unfold cmpC
  rw [cmpL_zero]
  exact⟨fun h=>split_inj h,fun h=>by rw [h]⟩
theorem leC_trans {a b c:ChangeD} (h1:leC a b) (h2:leC b c):leC a c:=(cmpL_trans h1 h2).1
theorem leC_of_lt {a b:ChangeD} (h:cmpC a b<0):leC a b:=by unfold leC;omega
theorem leC_not {a b:ChangeD} (h:¬cmpC a b<0):leC b a:=by unfold leC;rw [cmpC_swap a b];omega
theorem clsC_append (p:Bs) (a b:List ChangeD):clsC p (a++b)=clsC p a++clsC p b:=List.filter_append _ _
theorem clsC_cons (p:Bs) (x:ChangeD) (l:List ChangeD):clsC p (x::l)=clsC p [x]++clsC p l:=clsC_append p [x] l
theorem clsC_mem {p:Bs} {l:List ChangeD} {x:ChangeD}:x∈clsC p l↔x∈l∧x.path=p:=by
  unfold clsC
  rw [List.mem_filter]
  simp
theorem mem_insF {x a:ChangeD}:∀ {l:List ChangeD},a∈insF x l↔a=x∨a∈l
  | []=>by simp [insF]
  | s::r=>by
    unfold insF
    cases decide (cmpC x s<0)
    · simp
    · simp only [cond_true,List.mem_cons,mem_insF (l:=r)]
      constructor
      · rintro (h | h | h)
        · exact .inr (.inl h)
        · exact .inl h
        · exact .inr (.inr h)
      · rintro (h | h | h)
        · exact .inr (.inl h)
        · exact .inl h
        · exact .inr (.inr h)
theorem mem_insR {x a:ChangeD} {l:List ChangeD}:a∈insR x l↔a=x∨a∈l:=by
  unfold insR
  rw [List.mem_reverse,mem_insF,List.mem_reverse]
theorem insR_srt {x:ChangeD} {l:List ChangeD} (h:srtC l):srtC (insR x l):=by
  refine snocC (p:=fun l=>srtC l→srtC (insR x l)) (fun _=>by simp [insR_nil,srtC]) (fun S s ih h=>?_) l h
  have hS:srtC S:=(List.pairwise_append.1 h).1
  have hs:∀a,a∈S→leC a s:=fun a ha=>(List.pairwise_append.1 h).2.2 a ha s (by simp)
  by_cases g:cmpC x s<0
  · rw [insR_lt g]
    unfold srtC
    rw [List.pairwise_append]
    refine⟨ih hS,by simp,fun a ha b hb=>?_⟩
    have hb:b=s:=by simpa using hb
    subst hb
    rcases mem_insR.1 ha with rfl | ha
    · exact leC_of_lt g
    · exact hs a ha
  · rw [insR_ge g]
    unfold srtC
    rw [List.pairwise_append]
    refine⟨h,by simp,fun a ha b hb=>?_⟩
    have hb:b=x:=by simpa using hb
    subst hb
    rcases List.mem_append.1 ha with ha | ha
    · exact leC_trans (hs a ha) (leC_not g)
    · have ha:a=s:=by simpa using ha
      rw [ha];exact leC_not g
where
  snocC {p:List ChangeD→Prop} (h0:p []) (h1:∀l x,p l→p (l++[x])) (l:List ChangeD):p l:=by
    have:∀r:List ChangeD,p r.reverse:=by
      intro r
      induction r with
      | nil=>exact h0
      | cons x r ih=>rw [List.reverse_cons];exact h1 _ _ ih
    have:=this l.reverse
    rwa [List.reverse_reverse] at this
theorem snocC {p:List ChangeD→Prop} (h0:p []) (h1:∀l x,p l→p (l++[x])) (l:List ChangeD):p l:=insR_srt.snocC h0 h1 l
theorem insR_cls {x:ChangeD} (p:Bs) {l:List ChangeD}:clsC p (insR x l)=clsC p l++clsC p [x]:=by
  refine snocC (p:=fun l=>clsC p (insR x l)=clsC p l++clsC p [x]) (by simp [insR_nil,clsC]) (fun S s ih=>?_) l
  by_cases g:cmpC x s<0
  · rw [insR_lt g,clsC_append,ih,clsC_append,List.append_assoc,List.append_assoc]
    congr 1
    unfold clsC
    by_cases h1:x.path=p
    · have h2:s.path≠p:=fun e=>by rw [cmpC_zero.2 (h1.trans e.symm)] at g;omega
      simp [h1,h2]
    · simp [h1]
  · rw [insR_ge g,clsC_append]
theorem insS_cls (p:Bs) (l:List ChangeD):clsC p (insS l)=clsC p l:=
  snocC (p:=fun l=>clsC p (insS l)=clsC p l) rfl (fun l x h=>by rw [insS_snoc,insR_cls,h,clsC_append]) l
theorem mem_insS {l:List ChangeD} {x:ChangeD}:x∈insS l↔x∈l:=by
  have h:=insS_cls x.path l
  constructor
  · intro hx
    have:x∈clsC x.path (insS l):=clsC_mem.2 ⟨hx,rfl⟩
    rw [h] at this
    exact (clsC_mem.1 this).1
  · intro hx
    have:x∈clsC x.path l:=clsC_mem.2 ⟨hx,rfl⟩
    rw [←h] at this
    exact (clsC_mem.1 this).1
theorem dropC {l:List ChangeD} {i:Nat} (h:i<l.length):l.drop i=l.getD i noC::l.drop (i+1):=by
  rw [List.drop_eq_getElem_cons h]
  simp [h]
theorem okUpto_iff (l:List ChangeD):∀n,n≤l.length→(okUpto l n=true↔(∀x,x∈l.take n→goodC x=true)∧(l.take n).Pairwise fun a b=>a.path≠b.path)
  | 0,_=>by simp [okUpto]
  | n+1,h=>by
    have ih:=okUpto_iff l n (by omega)
    have e:okUpto l (n+1)=(okUpto l n&&(goodC (l.getD n noC) && !(hasC (l.getD n noC).path (l.take n)))):=rfl
    rw [e,take_succ_getD noC (by omega),Bool.and_eq_true,Bool.and_eq_true,ih,List.pairwise_append,Bool.not_eq_true']
    unfold hasC
    rw [List.any_eq_false]
    constructor
    · rintro ⟨⟨h1,h2⟩,h3,h4⟩
      refine⟨fun x hx=>?_,h2,by simp,fun a ha b hb=>?_⟩
      · rcases List.mem_append.1 hx with hx | hx
        · exact h1 x hx
        · have:x=l.getD n noC:=by simpa using hx
          rw [this];exact h3
      · have hb:b=l.getD n noC:=by simpa using hb
        rw [hb]
        intro e
        exact h4 a ha (by simpa using e)
    · rintro ⟨h1,h2,_,h3⟩
      exact⟨⟨fun x hx=>h1 x (List.mem_append_left _ hx),h2⟩,h1 _ (List.mem_append_right _ (List.mem_singleton.2 rfl)),fun a ha e=>h3 a ha _ (List.mem_singleton.2 rfl) (by simpa using e)⟩
theorem unlike_cls:∀ {l:List ChangeD},(l.Pairwise fun a b=>a.path≠b.path) ↔ ∀p,(clsC p l).length≤1
  | []=>by simp [clsC]
  | x::r=>by
    have ih:=unlike_cls (l:=r)
    rw [List.pairwise_cons,ih]
    have hx:clsC x.path [x]=[x]:=by simp [clsC]
    constructor
    · rintro ⟨h1,h2⟩ p
      rw [clsC_cons]
      by_cases e:x.path=p
      · subst e
        have:clsC x.path r=[]:=by
          unfold clsC
          rw [List.filter_eq_nil_iff]
          intro b hb hc
          exact h1 b hb (by simpa using hc:b.path=x.path).symm
        rw [this,hx];simp
      · have:clsC p [x]=[]:=by simp [clsC,e]
        rw [this];exact h2 p
    · intro h
      refine⟨fun b hb e=>?_,fun p=>?_⟩
      · have h1:=h x.path
        have hm:b∈clsC x.path r:=clsC_mem.2 ⟨hb,e.symm⟩
        rw [clsC_cons,List.length_append,hx] at h1
        have h3:=List.length_pos_of_mem hm
        simp at h1
        omega
      · have h1:=h p
        rw [clsC_cons,List.length_append] at h1
        omega
theorem chk_insS (l:List ChangeD):chkC (insS l)=chkC l:=by
  have:okUpto (insS l) (insS l).length=okUpto l l.length:=by
    rw [Bool.eq_iff_iff,okUpto_iff _ _ (Nat.le_refl _),okUpto_iff _ _ (Nat.le_refl _),List.take_length,List.take_length,unlike_cls,unlike_cls]
    constructor
    · rintro ⟨h1,h2⟩
      exact⟨fun x hx=>h1 x (mem_insS.2 hx),fun p=>by rw [←insS_cls];exact h2 p⟩
    · rintro ⟨h1,h2⟩
      exact⟨fun x hx=>h1 x (mem_insS.1 hx),fun p=>by rw [insS_cls];exact h2 p⟩
  unfold chkC
  rw [this,insS_len]
theorem chk_unlike {l:List ChangeD} (h:chkC l=0):l.Pairwise fun a b=>a.path≠b.path:=by
  unfold chkC at h
  cases h2:(Nat.beq l.length 0||decide (16<l.length) || !(okUpto l l.length))
  · simp only [Bool.or_eq_false_iff,Bool.not_eq_false'] at h2
    have:=((okUpto_iff l l.length (Nat.le_refl _)).1 h2.2).2
    rwa [List.take_length] at this
  · rw [h2] at h;cases h
theorem chk_few {l:List ChangeD} (h:chkC l=0):l.length≤16∧l≠[]:=by
  unfold chkC at h
  cases h2:(Nat.beq l.length 0||decide (16<l.length) || !(okUpto l l.length))
  · simp only [Bool.or_eq_false_iff,Bool.not_eq_false'] at h2
    refine⟨by have:=h2.1.2;simp at this;exact this,fun e=>?_⟩
    subst e
    cases h2.1.1
  · rw [h2] at h;cases h
theorem eqC_iff {a b:ChangeD}:eqC a b=true↔a=b:=by
  obtain⟨p,g,d⟩:=a
  obtain⟨q,h,e⟩:=b
  simp [eqC]
theorem sameC_self (l:List ChangeD):sameC l l=true:=by
  unfold sameC
  have h1:Nat.beq l.length l.length=true:=by simp
  rw [h1,Bool.true_and,List.all_eq_true]
  intro x hx
  obtain⟨i,hi⟩:=List.mem_iff_getElem?.1 hx
  rw [List.getElem?_zipWith] at hi
  cases hl:l[i]? with
  | none=>rw [hl] at hi;cases hi
  | some y=>
    rw [hl] at hi
    have hi:eqC y y=x:=by simpa using hi
    show x=true
    rw [←hi]
    exact eqC_iff.2 rfl
theorem insR_split {x:ChangeD} {P Q:List ChangeD} (hP:P=[] ∨ ∃P' s,P=P'++[s]∧¬cmpC x s<0) (hQ:∀y,y∈Q→cmpC x y<0):insR x (P++Q)=P++x::Q:=by
  revert hQ
  refine snocC (p:=fun Q=>(∀y,y∈Q→cmpC x y<0)→insR x (P++Q)=P++x::Q) (fun _=>?_) (fun Q s ih h=>?_) Q
  · rw [List.append_nil]
    rcases hP with rfl | ⟨P',s,rfl,h⟩
    · rfl
    · exact insR_ge h P'
  · rw [←List.append_assoc,insR_lt (h s (by simp)),ih fun y hy=>h y (List.mem_append_left _ hy)]
    simp
theorem insR_put {x:ChangeD} {l:List ChangeD} {k:Nat} (hk:k≤l.length) (h1:0<k→¬cmpC x (l.getD (k-1) noC)<0) (h2:∀j,k≤j→j<l.length→cmpC x (l.getD j noC)<0):insR x l=l.take k++(x::l.drop k):=by
  have:=insR_split (x:=x) (P:=l.take k) (Q:=l.drop k) ?_ ?_
  · rwa [List.take_append_drop] at this
  · cases k with
    | zero=>exact .inl rfl
    | succ k=>exact .inr ⟨l.take k,l.getD k noC,take_succ_getD noC (by omega),h1 (by omega)⟩
  · intro y hy
    obtain⟨j,hj⟩:=List.mem_iff_getElem?.1 hy
    rw [List.getElem?_drop] at hj
    have hl:k+j<l.length:=by
      rcases Nat.lt_or_ge (k+j) l.length with h | h
      · exact h
      · rw [List.getElem?_eq_none h] at hj;cases hj
    have:=h2 (k+j) (by omega) hl
    simp only [List.getD,hj] at this
    exact this
def leafC (rev:Int) (c:ChangeD):LeafD:=⟨c.path,c.digest,rev,c.gone⟩
def leavesC (C:List CommitD):List LeafD:=C.flatMap fun c=>c.changes.map (leafC c.rev)
def treeC (C:List CommitD):TreeD:=putsD (leavesC C)
def rowC (C:List CommitD):List LeafD:=insLs (leavesC C)
def kvC (C:List CommitD):List (Bs × Int):=C.foldl (fun K c=>bif c.ref==[] then K else putK K c.ref c.rev) []
def confL (T:List LeafD) (base:Int):List ChangeD→Option (Bs × Int)
  | []=>none
  | c::r=>match getL c.path T with
    | some x=>bif decide (x.rev>base) then some (c.path,x.rev) else confL T base r
    | none=>confL T base r
def vC (code rev:Int) (path:Bs):VerdictD:=⟨code,0,rev,path,0,[],0⟩
theorem leavesC_snoc (C:List CommitD) (c:CommitD):leavesC (C++[c])=leavesC C++c.changes.map (leafC c.rev):=by simp [leavesC]
theorem lastOf_append (p:Bs) (a b:List LeafD):lastOf p (a++b)=(lastOf p b).or (lastOf p a):=by
  unfold lastOf
  rw [List.reverse_append,List.find?_append]
theorem rowC_get (C:List CommitD) (p:Bs):getL p (rowC C)=lastOf p (leavesC C):=get_insLs p _
theorem treeC_get (C:List CommitD) (p:Bs):getD' p (treeC C)=lastOf p (leavesC C):=by
  unfold treeC
  rw [puts_get,get_insLs]
def unlikeC (l:List ChangeD):Prop:=l.Pairwise fun a b=>a.path≠b.path
def hasP (p:Bs) (c:CommitD):Bool:=c.changes.any fun x=>x.path==p
theorem last_map {rev:Int} {l:List ChangeD} {p:Bs}:lastOf p (l.map (leafC rev))=((l.reverse.find? fun x=>x.path==p).map (leafC rev)):=by
  unfold lastOf
  rw [←List.map_reverse,List.find?_map]
  rfl
theorem last_rev {rev:Int} {l:List ChangeD} {p:Bs} {x:LeafD} (h:lastOf p (l.map (leafC rev))=some x):x.rev=rev∧(l.any fun y=>y.path==p)=true:=by
  rw [last_map] at h
  cases hf:l.reverse.find? fun x=>x.path==p with
  | none=>rw [hf] at h;cases h
  | some c=>
    rw [hf] at h
    have h:leafC rev c=x:=by simpa using h
    subst h
    refine⟨rfl,List.any_eq_true.2 ⟨c,by simpa using List.mem_of_find?_eq_some hf,by simpa using List.find?_some hf⟩⟩
structure OkC (C:List CommitD):Prop where
  rev:∀i (h:i<C.length),(C[i]).rev=(i:Int)+1
  base:∀i (h:i<C.length),0≤(C[i]).base∧(C[i]).base≤i
  unlike:∀i (h:i<C.length),unlikeC (C[i]).changes
  calm:∀i (h:i<C.length) k (hk:k<i),(C[i]).base≤k → ∀c,c∈(C[i]).changes→hasP c.path (C[k]'(Nat.lt_trans hk h))=false
theorem last_at {C:List CommitD} (hr:∀i (h:i<C.length),(C[i]).rev=(i:Int)+1) (p:Bs) :
    (lastOf p (leavesC C)=none ∧ ∀i (h:i<C.length),hasP p C[i]=false)∨
    ∃i,∃h:i<C.length,∃x,lastOf p (leavesC C)=some x∧x.rev=(i:Int)+1∧hasP p C[i]=true∧(∀k (hk:k<C.length),i<k→hasP p C[k]=false)∧lastOf p ((C[i]).changes.map (leafC (C[i]).rev))=some x:=by
  revert hr
  refine snocL (p:=fun C:List CommitD=>(∀i (h:i<C.length),(C[i]).rev=(i:Int)+1)→((lastOf p (leavesC C)=none ∧ ∀i (h:i<C.length),hasP p C[i]=false)∨
    ∃i,∃h:i<C.length,∃x,lastOf p (leavesC C)=some x∧x.rev=(i:Int)+1∧hasP p C[i]=true∧(∀k (hk:k<C.length),i<k→hasP p C[k]=false)∧lastOf p ((C[i]).changes.map (leafC (C[i]).rev))=some x)) ?_ ?_ C
  · intro _
    exact .inl ⟨rfl,fun i h=>by simp at h⟩
  · intro C c ih hr
    have hr':∀i (h:i<C.length),(C[i]).rev=(i:Int)+1:=fun i h=>by
      have:=hr i (by simp;omega)
      rwa [List.getElem_append_left h] at this
    have hc:c.rev=(C.length:Int)+1:=by
      have:=hr C.length (by simp)
      simpa using this
    rw [leavesC_snoc,lastOf_append]
    cases hl:lastOf p (c.changes.map (leafC c.rev)) with
    | some x=>
      have h1:=last_rev hl
      refine .inr ⟨C.length,by simp,x,rfl,by rw [h1.1,hc],?_,fun k hk h=>?_,?_⟩
      · simpa [hasP] using h1.2
      · simp at hk;omega
      · simpa using hl
    | none=>
      have hno:hasP p c=false:=by
        unfold hasP
        have:=lastOf_none.1 hl
        rwa [List.any_map] at this
      simp only [Option.none_or]
      rcases ih hr' with ⟨h1,h2⟩ | ⟨i,h,x,h1,h2,h3,h4,h5⟩
      · refine .inl ⟨h1,fun i h=>?_⟩
        by_cases e:i<C.length
        · rw [List.getElem_append_left e];exact h2 i e
        · have:i=C.length:=by simp at h;omega
          subst this
          simpa using hno
      · refine .inr ⟨i,by simp;omega,x,h1,h2,by rw [List.getElem_append_left h];exact h3,fun k hk hik=>?_,by rw [List.getElem_append_left h];exact h5⟩
        by_cases e:k<C.length
        · rw [List.getElem_append_left e];exact h4 k e hik
        · have:k=C.length:=by simp at hk;omega
          subst this
          simpa using hno
theorem confL_none {T:List LeafD} {base:Int}:∀ {l:List ChangeD},confL T base l=none ↔ ∀c,c∈l → ∀x,getL c.path T=some x→¬x.rev>base
  | []=>by simp [confL]
  | c::r=>by
    have ih:=confL_none (T:=T) (base:=base) (l:=r)
    unfold confL
    cases hg:getL c.path T with
    | none=>
      simp only [ih,List.mem_cons]
      constructor
      · rintro h a (rfl | ha) x hx
        · rw [hg] at hx;cases hx
        · exact h a ha x hx
      · exact fun h a ha=>h a (.inr ha)
    | some y=>
      by_cases hy:y.rev>base
      · dsimp only
        rw [decide_eq_true hy]
        simp only [cond_true]
        constructor
        · intro h;cases h
        · intro h;exact absurd hy (h c (by simp) y hg)
      · dsimp only
        rw [decide_eq_false hy]
        simp only [cond_false,ih,List.mem_cons]
        constructor
        · rintro h a (rfl | ha) x hx
          · rw [hg] at hx;cases hx;exact hy
          · exact h a ha x hx
        · exact fun h a ha=>h a (.inr ha)
theorem OkC.land {C:List CommitD} (h:OkC C) {base:Int} {ref:Bs} {s:List ChangeD} (h1:0≤base) (h2:base≤C.length) (h3:unlikeC s) (h4:confL (rowC C) base s=none) :
    OkC (C++[⟨(C.length:Int)+1,base,ref,s⟩]):=by
  have at_:∀i (hi:i<(C++[(⟨(C.length:Int)+1,base,ref,s⟩:CommitD)]).length),(∃hi':i<C.length,(C++[(⟨(C.length:Int)+1,base,ref,s⟩:CommitD)])[i]=C[i])∨(i=C.length∧(C++[(⟨(C.length:Int)+1,base,ref,s⟩:CommitD)])[i]=⟨(C.length:Int)+1,base,ref,s⟩):=by
    intro i hi
    by_cases e:i<C.length
    · exact .inl ⟨e,List.getElem_append_left e⟩
    · have:i=C.length:=by simp at hi;omega
      subst this
      exact .inr ⟨rfl,by simp⟩
  refine⟨fun i hi=>?_,fun i hi=>?_,fun i hi=>?_,fun i hi k hk hb c hc=>?_⟩
  · rcases at_ i hi with ⟨hi',e⟩ | ⟨rfl,e⟩
    · rw [e];exact h.rev i hi'
    · rw [e]
  · rcases at_ i hi with ⟨hi',e⟩ | ⟨rfl,e⟩
    · rw [e];exact h.base i hi'
    · rw [e];exact⟨h1,h2⟩
  · rcases at_ i hi with ⟨hi',e⟩ | ⟨rfl,e⟩
    · rw [e];exact h.unlike i hi'
    · rw [e];exact h3
  · rcases at_ i hi with ⟨hi',e⟩ | ⟨rfl,e⟩
    · rw [e] at hb hc
      rw [List.getElem_append_left (by omega)]
      exact h.calm i hi' k hk hb c hc
    · rw [e] at hb hc
      have hb:base≤(k:Int):=hb
      rw [List.getElem_append_left hk]
      have hn:=confL_none.1 h4 c hc
      rcases last_at h.rev c.path with ⟨_,h5⟩ | ⟨j,hj,x,h5,h6,h7,h8,_⟩
      · exact h5 k hk
      · have:=hn x (by rw [rowC_get];exact h5)
        exact h8 k hk (by omega)
theorem OkC.nil:OkC []:=⟨fun i h=>by simp at h,fun i h=>by simp at h,fun i h=>by simp at h,fun i h=>by simp at h⟩
structure LandA where
  C:List CommitD
  base:Int
  ref:Bs
  l:List ChangeD
def badLd (x:LandA):Bool:=!(chkC x.l==0)||((!(x.ref==[]) && !(wordOk x.ref false))||decide (x.base<0))
def confA (x:LandA):Option (Bs × Int):=confL (rowC x.C) x.base (insS x.l)
def landV (x:LandA):VerdictD:=
  bif badLd x then vC 5 0 [] else bif decide (x.base>x.C.length) then vC 4 x.C.length [] else
    match confA x with
    | some q=>vC 3 q.2 q.1
    | none=>vC 2 ((x.C.length:Int)+1) []
def isLd (x:LandA):Bool:=!(badLd x)&&(!(decide (x.base>x.C.length))&&(confA x).isNone)
def newC (x:LandA):CommitD:=⟨(x.C.length:Int)+1,x.base,x.ref,insS x.l⟩
def landC (x:LandA):List CommitD:=bif isLd x then x.C++[newC x] else x.C
structure SmC (C:List CommitD):Prop where
  few:C.length≤4000
  ch:∀c,c∈C→c.changes.length≤16
theorem leaves_len:∀ {C:List CommitD},(∀c,c∈C→c.changes.length≤16)→(leavesC C).length≤16*C.length
  | [],_=>by simp [leavesC]
  | c::r,h=>by
    have ih:=leaves_len (C:=r) fun c hc=>h c (by simp [hc])
    have h1:=h c (by simp)
    have e:leavesC (c::r)=c.changes.map (leafC c.rev)++leavesC r:=by simp [leavesC]
    rw [e,List.length_append,List.length_map,List.length_cons]
    omega
theorem puts_may2 {l:List LeafD} (h:l.length≤90000):putP (putsD l)∧ht (putsD l)<100000:=by
  have h1:=insLs_len l
  have h2:=puts_len l
  have h3:=tok_ht (puts_ok l).tok (puts_ok l).shape
  rw [(puts_ok l).ino] at h3
  exact⟨⟨(puts_ok l).tok.ok,by omega⟩,by omega⟩
theorem conf_get (C:List CommitD) (p:Bs):getD' p (treeC C)=getL p (rowC C):=by rw [treeC_get,rowC_get]
theorem chk_of_bad {x:LandA} (h:badLd x=false):chkC x.l=0∧(x.ref=[]∨wordOk x.ref false=true)∧0≤x.base:=by
  unfold badLd at h
  simp only [Bool.or_eq_false_iff,Bool.not_eq_false',Bool.and_eq_false_iff,decide_eq_false_iff_not] at h
  exact⟨by simpa using h.1,by simpa using h.2.1,by omega⟩
theorem sm_land {x:LandA} (h:SmC x.C) (hf:x.C.length+1≤4000):SmC (landC x):=by
  unfold landC
  cases hl:isLd x
  · exact h
  · unfold isLd at hl
    simp only [Bool.and_eq_true,Bool.not_eq_true'] at hl
    have h1:=chk_few (chk_of_bad hl.1).1
    refine⟨by simp;omega,fun c hc=>?_⟩
    simp only [cond_true] at hc
    rcases List.mem_append.1 hc with hc | hc
    · exact h.ch c hc
    · have:c=newC x:=by simpa using hc
      rw [this]
      show (insS x.l).length≤16
      rw [insS_len];exact h1.1
theorem ok_land {x:LandA} (h:OkC x.C):OkC (landC x):=by
  unfold landC
  cases hl:isLd x
  · exact h
  · unfold isLd at hl
    simp only [Bool.and_eq_true,Bool.not_eq_true',Option.isNone_iff_eq_none] at hl
    obtain⟨h1,h2,h3⟩:=hl
    obtain⟨h4,_,h6⟩:=chk_of_bad h1
    exact h.land h6 (by simpa using h2) (chk_unlike (by rw [chk_insS];exact h4)) h3
theorem land_len (x:LandA):(landC x).length≤x.C.length+1∧x.C.length≤(landC x).length:=by
  unfold landC
  cases isLd x
  · exact⟨by simp,by simp⟩
  · exact⟨by simp,by simp⟩
def oneC (C:List CommitD) (d:Deed5D):List CommitD:=landC ⟨C,d.base,d.ref,d.l⟩
def goC (l:List Deed5D):List CommitD:=l.foldl oneC []
structure GoOK (l:List Deed5D):Prop where
  ok:OkC (goC l)
  len:(goC l).length≤l.length
  ch:∀c,c∈goC l→c.changes.length≤16
theorem goC_ok (l:List Deed5D):l.length≤4000→GoOK l:=by
  refine snocL (p:=fun l=>l.length≤4000→GoOK l) (fun _=>⟨OkC.nil,by simp [goC],fun c hc=>by simp [goC] at hc⟩) (fun l d h hl=>?_) l
  have hl:l.length+1≤4000:=by simpa using hl
  have h:=h (by omega)
  have e:goC (l++[d])=landC ⟨goC l,d.base,d.ref,d.l⟩:=by simp [goC,oneC]
  have h1:=land_len ⟨goC l,d.base,d.ref,d.l⟩
  have h2:(goC l).length≤l.length:=h.len
  refine⟨by rw [e];exact ok_land h.ok,?_,?_⟩
  · rw [e];simp;exact Nat.le_trans h1.1 (by simpa using h2)
  · rw [e]
    exact (sm_land (x:=⟨goC l,d.base,d.ref,d.l⟩) ⟨by show (goC l).length≤4000;omega,h.ch⟩ (by show (goC l).length+1≤4000;omega)).ch
end Go.Proofs.YtgepebndihfnfaaGreat.Ses
