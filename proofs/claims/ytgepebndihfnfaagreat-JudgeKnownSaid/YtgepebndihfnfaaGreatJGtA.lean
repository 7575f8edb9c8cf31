/- Trees that stay: a range over the leaves, and what the functions of trees do. No condition. -/
import Derived.Test.YtgepebndihfnfaaGreatJGxA
import Derived.RangeFuncNested
import Derived.RangeFuncBound
import Derived.RangeFuncCalls
import Derived.RangeFuncLeaves
import Derived.RangeFuncBox
import Derived.Shelf.Abstract
import Derived.Shelf.RegionOpen
import Derived.WalkKit
import Derived.OwnWalkIn
import Derived.TacticsInMore
import Derived.LoopNIn
import Derived.LoopIn
import Derived.Maps.AppendAt
import Derived.Test.YtgepebndihfnfaaGreatProg
import Derived.KernelRfl
set_option linter.unusedSimpArgs false
set_option linter.unusedVariables false

namespace Go.Proofs.YtgepebndihfnfaaGreat.Trx
open Go.RowKit Go.Shelf Go.Proofs.YtgepebndihfnfaaGreat.Sx
attribute [local go_sem] Oper.semAt_some
def TreeD.inorder:TreeD→List LeafD
  | .nil=>[]
  | .node th x l r _ _=>bif th then TreeD.inorder l++x::TreeD.inorder r else []
def leafL (x:LeafD):List Value:=[.string ⟨⟨x.path⟩⟩,.int .u64 x.digest,.int .i64 x.rev,.bool x.gone]
structure KeepB (n:Nat) (w w':World):Prop where
  os:w'.os=w.os
  output:w'.output=w.output
  size:w.heap.size≤w'.heap.size
  block:∀k,k<n→w'.heap[k]?=w.heap[k]?
theorem KeepB.refl (n:Nat) (w:World):KeepB n w w:=⟨rfl,rfl,Nat.le_refl _,fun _ _=>rfl⟩
theorem KeepB.trans {n:Nat} {a b c:World} (h:KeepB n a b) (k:KeepB n b c):KeepB n a c:=⟨k.os.trans h.os,k.output.trans h.output,Nat.le_trans h.size k.size,fun i hi=>(k.block i hi).trans (h.block i hi)⟩
theorem KeepB.cell {n:Nat} {w w':World} (h:KeepB n w w') {b:Nat} (hb:b<n) (o:Nat):w'.cell? ⟨b,o,none⟩=w.cell? ⟨b,o,none⟩:=cell?_congr (h.block b hb) o
theorem KeepB.of {n:Nat} {w w':World} (h:Below n w w'):KeepB n w w':=⟨h.os,h.output,h.size,h.block⟩
theorem KeepB.mono {n m:Nat} {w w':World} (h:KeepB n w w') (hm:m≤n):KeepB m w w':=⟨h.os,h.output,h.size,fun k hk=>h.block k (Nat.lt_of_lt_of_le hk hm)⟩
theorem KeepB.kept {n:Nat} {w w':World} (h:Kept w w') (hn:n≤w.heap.size):KeepB n w w':=⟨h.os,h.out,h.size,fun k hk=>h.keep k (by omega)⟩
def IsTree (n₀:Nat) (W:World):Option Addr→TreeD→Prop
  | p,.nil=>p=none
  | p,.node th x l r d m=>∃(b o:Nat) (pl pr:Option Addr),p=some ⟨b,o,none⟩∧b<n₀∧x.path.length≤maxI64∧W.cell? ⟨b,o,none⟩=some (.bool th)∧
      W.cell? ⟨b,o+1,none⟩=some (.string ⟨⟨x.path⟩⟩)∧W.cell? ⟨b,o+2,none⟩=some (.int .u64 x.digest)∧W.cell? ⟨b,o+3,none⟩=some (.int .i64 x.rev)∧W.cell? ⟨b,o+4,none⟩=some (.bool x.gone)∧
      W.cell? ⟨b,o+5,none⟩=some (.pointer pl)∧W.cell? ⟨b,o+6,none⟩=some (.pointer pr)∧IsTree n₀ W pl l∧IsTree n₀ W pr r
theorem IsTree.below {n₀:Nat} {A B:World} (h:KeepB n₀ A B):∀ {p:Option Addr} {T:TreeD},IsTree n₀ A p T→IsTree n₀ B p T
  | _,.nil,ht=>ht
  | _,.node _ _ _ _ _ _,⟨b,o,pl,pr,hp,hb,hs,h0,h1,h2,h3,h4,h5,h6,hl,hr⟩=>
    ⟨b,o,pl,pr,hp,hb,hs,(h.cell hb _).trans h0,(h.cell hb (o+1)).trans h1,(h.cell hb (o+2)).trans h2,(h.cell hb (o+3)).trans h3,
      (h.cell hb (o+4)).trans h4,(h.cell hb (o+5)).trans h5,(h.cell hb (o+6)).trans h6,IsTree.below h hl,IsTree.below h hr⟩
theorem IsTree.paths {n₀:Nat} {W:World}:∀ {p:Option Addr} {T:TreeD},IsTree n₀ W p T → ∀x∈TreeD.inorder T,x.path.length≤maxI64
  | _,.nil,_,x,hx=>by simp [TreeD.inorder] at hx
  | _,.node th y l r _ _,⟨b,o,pl,pr,hp,hb,hs,h0,h1,h2,h3,h4,h5,h6,hl,hr⟩,x,hx=>by
    unfold TreeD.inorder at hx
    cases th
    · simp at hx
    · simp at hx
      rcases hx with hx | rfl | hx
      · exact IsTree.paths hl x hx
      · exact hs
      · exact IsTree.paths hr x hx
attribute [local go_sem] Oper.semAt_some
def LBox (W:World) (B:Nat) (x:LeafD):Prop:=W.heap[B]?=some (.cells ⟨leafL x⟩ 174 (0,0))
theorem LBox.lt {W:World} {B:Nat} {x:LeafD} (h:LBox W B x):B<W.heap.size:=(Array.getElem?_eq_some_iff.1 h).1
theorem LBox.kept {W W':World} {row:Option Nat} {B:Nat} {x:LeafD} (h:LBox W B x) (hg:W.grownBy W' row) (hne:some B≠row):LBox W' B x:=(hg.block B h.lt hne).trans h
theorem LBox.cells {W:World} {B:Nat} {x:LeafD} (h:LBox W B x):W.cell? ⟨B,0,none⟩=some (.string ⟨⟨x.path⟩⟩)∧W.cell? ⟨B,1,none⟩=some (.int .u64 x.digest)∧W.cell? ⟨B,2,none⟩=some (.int .i64 x.rev)∧W.cell? ⟨B,3,none⟩=some (.bool x.gone):=by
  refine⟨?_,?_,?_,?_⟩<;>simp [World.cell?,show W.heap[B]?=_ from h,leafL]
theorem LBox.keep {W W':World} {B:Nat} {x:LeafD} (h:LBox W B x) (k:Kept W W'):LBox W' B x:=(k.keep B h.lt).trans h
theorem KeepsFrom.kept {B:Nat} {W W':World} (k:Kept W W'):KeepsFrom B W W':=⟨k.size,fun i o _ h _=>(k.keep i (Array.getElem?_eq_some_iff.1 h).1).trans h⟩
end Go.Proofs.YtgepebndihfnfaaGreat.Trx

namespace Go.Proofs.YtgepebndihfnfaaGreat.Ses
open Go Go.Proofs Go.Proofs.YtgepebndihfnfaaGreat.Sx Go.Proofs.YtgepebndihfnfaaGreat.Trx
structure TrS where
  t:TreeD
  d:Bs
structure TrR where
  t:TreeD
  a:Bs
  b:Bs
structure Rg1 where
  p:Bs
  a:Bs
  b:Bs
def depthD (t:TreeD):Int:=bif t.isNil || !t.there then 0 else t.depth
def lenD (t:TreeD):Int:=bif t.isNil || !t.there then 0 else t.many
noncomputable def newT:Tri:={γ:=Unit,n0:=0,args:=fun _=>[],blks:=fun _=>[],pre:=fun _=>True,δ:=Unit,post:=fun _ _=>True,n1:=0,res:=fun _ _=>.tree (.node false ⟨[],0,0,false⟩ .nil .nil 0 0),blks':=fun _ _=>[],scal:=false}
noncomputable def emptyT:Tri:={γ:=TreeD,n0:=0,args:=fun t=>[.tree t],blks:=fun _=>[],pre:=fun _=>True,δ:=Unit,post:=fun _ _=>True,n1:=0,res:=fun t _=>.bool (t.isNil || !t.there),blks':=fun _ _=>[],scal:=true}
noncomputable def tlenT:Tri:={γ:=TreeD,n0:=0,args:=fun t=>[.tree t],blks:=fun _=>[],pre:=fun _=>True,δ:=Unit,post:=fun _ _=>True,n1:=0,res:=fun t _=>.int .i64 (lenD t),blks':=fun _ _=>[],scal:=true}
noncomputable def emptyE:Envr:=Env Tryz.prog cod [(188,emptyT.spec)] []
noncomputable def tdepthT:Tri:={γ:=TreeD,n0:=0,args:=fun t=>[.tree t],blks:=fun _=>[],pre:=fun _=>True,δ:=Unit,post:=fun _ _=>True,n1:=0,res:=fun t _=>.int .i64 (depthD t),blks':=fun _ _=>[],scal:=true}
def smallT (t:TreeD):Bool:=decide (0≤depthD t)&&decide (depthD t≤1000000)&&decide (0≤lenD t)&&decide (lenD t≤1000000)
def joinD (x:LeafD) (l r:TreeD):TreeD:=.node true x l r (1+max (depthD l) (depthD r)) (1+lenD l+lenD r)
structure JoA where
  x:LeafD
  l:TreeD
  r:TreeD
noncomputable def tjoinT:Tri:={γ:=JoA,n0:=0,args:=fun x=>[.agg (enc .leaf x.x),.tree x.l,.tree x.r],blks:=fun _=>[],pre:=fun x=>smallT x.l=true∧smallT x.r=true,δ:=Unit,post:=fun _ _=>True,n1:=0,res:=fun x _=>.tree (joinD x.x x.l x.r),blks':=fun _ _=>[],scal:=false}
noncomputable def tjoinE:Envr:=Env Tryz.prog cod [(225,tlenT.spec),(224,tdepthT.spec)] []
set_option maxRecDepth 100000
theorem new_vc (x:newT.γ):evCall bareE (ev bareE 1000) 127 (newT.args x) ⟨newT.blks x,newT.n0,[]⟩ (fun _ _=>False) (newT.ends x)=(
∃x1:Unit,TreeD.node false (LeafD.mk ([]:List UInt8) (0:Int) (0:Int) false) TreeD.nil TreeD.nil (0:Int) (0:Int)=TreeD.node false (LeafD.mk ([]:List UInt8) (0:Int) (0:Int) false) TreeD.nil TreeD.nil (0:Int) (0:Int)∧
True):=by kernel_rfl
theorem empty_vc (x:emptyT.γ):evCall bareE (ev bareE 1000) 188 (emptyT.args x) ⟨emptyT.blks x,emptyT.n0,[]⟩ (fun _ _=>False) (emptyT.ends x)=(
br (TreeD.isNil x) (∃x1:Unit,true=Bool.or (TreeD.isNil x) (TreeD.there x).not∧
True) (br (TreeD.isNil x).not (∃x2:Unit,(TreeD.there x).not=Bool.or (TreeD.isNil x) (TreeD.there x).not∧
True) (Bad "check" "tree.go:21"))):=by kernel_rfl
theorem tlen_vc (x:tlenT.γ):evCall emptyE (ev emptyE 1000) 225 (tlenT.args x) ⟨tlenT.blks x,tlenT.n0,[]⟩ (fun _ _=>False) (tlenT.ends x)=(
∃x1:TreeD,x=x1∧
True∧
∀x2:Unit,True→
br (Bool.or (TreeD.isNil x1) (TreeD.there x1).not) (∃x3:Unit,(0:Int)=lenD x∧
True) (br (TreeD.isNil x).not (∃x4:Unit,TreeD.many x=lenD x∧
True) (Bad "check" "tree.go:28"))):=by kernel_rfl
theorem tdepth_vc (x:tdepthT.γ):evCall emptyE (ev emptyE 1000) 224 (tdepthT.args x) ⟨tdepthT.blks x,tdepthT.n0,[]⟩ (fun _ _=>False) (tdepthT.ends x)=(
∃x1:TreeD,x=x1∧
True∧
∀x2:Unit,True→
br (Bool.or (TreeD.isNil x1) (TreeD.there x1).not) (∃x3:Unit,(0:Int)=depthD x∧
True) (br (TreeD.isNil x).not (∃x4:Unit,TreeD.depth x=depthD x∧
True) (Bad "check" "tree.go:36"))):=by kernel_rfl
theorem tjoin_vc (x:tjoinT.γ):evCall tjoinE (ev tjoinE 1000) 189 (tjoinT.args x) ⟨tjoinT.blks x,tjoinT.n0,[]⟩ (fun _ _=>False) (tjoinT.ends x)=(
∃x1:TreeD,JoA.l x=x1∧
True∧
∀x2:Unit,True→
∃x3:TreeD,JoA.r x=x3∧
True∧
∀x4:Unit,True→
∃x5:TreeD,JoA.l x=x5∧
True∧
∀x6:Unit,True→
∃x7:TreeD,JoA.r x=x7∧
True∧
∀x8:Unit,True→
∃x9:Unit,TreeD.node true (LeafD.mk (JoA.x x).path (JoA.x x).digest (JoA.x x).rev (JoA.x x).gone) (JoA.l x) (JoA.r x) (IntKind.wrap IntKind.i64 ((1:Int)+mmI false (depthD x1) (depthD x3))) (IntKind.wrap IntKind.i64 (IntKind.wrap IntKind.i64 ((1:Int)+lenD x5)+lenD x7))=joinD (JoA.x x) (JoA.l x) (JoA.r x)∧
True):=by kernel_rfl
end Go.Proofs.YtgepebndihfnfaaGreat.Ses

namespace Go.Proofs.YtgepebndihfnfaaGreat.Sx
open Go Go.RowKit
theorem SpecOK.bool {P:Program} {f:FuncId} {S:CallSpec} (h:SpecOK P f S) {args:List SV} {b:Bool} (hS:S args ⟨[],0,[]⟩ (fun _ _=>False) (fun v _=>v = .bool b)) {w:World} {vs:List Value} (r:RepL ⟨[],wholeΓ w⟩ args vs) :
    Calls P f ⟨vs⟩ w fun e w'=>e = .returned (.bool b)∧Kept w w':=by
  refine (h _ _ _ _ hS ⟨w,fun _=>False,wholeΓ w,[]⟩ ⟨[],wholeΓ w⟩ w vs r (Mem.whole w [])).mono fun e w' hp=>?_
  cases e with
  | returned v=>
    obtain⟨g',m',sv,hv,_,_,hm,r⟩:=hp
    subst hv
    cases r
    exact⟨rfl,kept_of_fix hm.fix⟩
  | panicked chain=>obtain⟨_,_,_,_,hv,_⟩:=hp;exact hv.elim
  | outgrown=>exact hp.elim
end Go.Proofs.YtgepebndihfnfaaGreat.Sx
namespace Go.Proofs.YtgepebndihfnfaaGreat.Ses
open Go Go.Proofs Go.Proofs.YtgepebndihfnfaaGreat.Sx Go.Proofs.YtgepebndihfnfaaGreat.Trx Go.RowKit
open Go Go.Proofs Go.Proofs.YtgepebndihfnfaaGreat.Sx Go.Proofs.YtgepebndihfnfaaGreat.Trx
theorem new_ok:SpecOK Tryz.prog 127 newT.spec:=by
  refine Tri.ok (E:=bareE) (Env_ok (by decide +kernel) (by simp)) (n:=1000) newT fun x hx=>?_
  rw [new_vc]
  simp only [br_bad,br_true,br_false,List.length_singleton,and_self,Bool.not_true,Bool.not_false,Bool.not_not,decide_eq_true_eq,Bool.and_eq_true,List.take_zero,List.nil_append,List.drop_zero,Nat.zero_add,Int.toNat_natCast,Nat.sub_eq,true_and,and_true,exists_const,List.length_nil,Nat.zero_le,Nat.zero_mul,Nat.le_refl,List.length_set,List.take_length,Int.natCast_nonneg,forall_const,implies_true,Int.toNat_zero,Nat.le_eq,Int.le_refl,addN,cutN,loN,hiN,bndB,List.length_cons,List.take_succ_cons,List.length_take,List.length_drop,Option.isNone,Nat.add_zero,Nat.min_self]
  try simp only [br_iff,decide_eq_true_eq,decide_eq_false_iff_not,room47,Bool.not_eq_true',Bool.not_eq_false',gt_iff_lt]
theorem empty_ok:SpecOK Tryz.prog 188 emptyT.spec:=by
  refine Tri.ok (E:=bareE) (Env_ok (by decide +kernel) (by simp)) (n:=1000) emptyT fun x hx=>?_
  rw [empty_vc]
  revert x
  intro (t:TreeD) hx
  simp only [br_bad,br_true,br_false,List.length_singleton,and_self,Bool.not_true,Bool.not_false,Bool.not_not,decide_eq_true_eq,Bool.and_eq_true,List.take_zero,List.nil_append,List.drop_zero,Nat.zero_add,Int.toNat_natCast,Nat.sub_eq,true_and,and_true,exists_const,List.length_nil,Nat.zero_le,Nat.zero_mul,Nat.le_refl,List.length_set,List.take_length,Int.natCast_nonneg,forall_const,implies_true,Int.toNat_zero,Nat.le_eq,Int.le_refl,addN,cutN,loN,hiN,bndB,List.length_cons,List.take_succ_cons,List.length_take,List.length_drop,Option.isNone,Nat.add_zero,Nat.min_self]
  try simp only [br_iff,decide_eq_true_eq,decide_eq_false_iff_not,room47,Bool.not_eq_true',Bool.not_eq_false',gt_iff_lt]
  refine⟨fun h=>by rw [h];rfl,fun h=>⟨h,by rw [h];rfl⟩⟩
theorem tlen_ok:SpecOK Tryz.prog 225 tlenT.spec:=by
  refine Tri.ok (E:=emptyE) (Env_ok (by decide +kernel) (by simp [empty_ok])) (n:=1000) tlenT fun x hx=>?_
  rw [tlen_vc]
  revert x
  intro (t:TreeD) hx
  simp only [br_bad,br_true,br_false,List.length_singleton,and_self,Bool.not_true,Bool.not_false,Bool.not_not,decide_eq_true_eq,Bool.and_eq_true,List.take_zero,List.nil_append,List.drop_zero,Nat.zero_add,Int.toNat_natCast,Nat.sub_eq,true_and,and_true,exists_const,List.length_nil,Nat.zero_le,Nat.zero_mul,Nat.le_refl,List.length_set,List.take_length,Int.natCast_nonneg,forall_const,implies_true,Int.toNat_zero,Nat.le_eq,Int.le_refl,addN,cutN,loN,hiN,bndB,List.length_cons,List.take_succ_cons,List.length_take,List.length_drop,Option.isNone,Nat.add_zero,Nat.min_self]
  try simp only [br_iff,decide_eq_true_eq,decide_eq_false_iff_not,room47,Bool.not_eq_true',Bool.not_eq_false',gt_iff_lt]
  refine⟨t,rfl,fun h=>by unfold lenD;rw [h];rfl,fun h=>⟨?_,by unfold lenD;rw [h];rfl⟩⟩
  cases hn:t.isNil
  · rfl
  · rw [hn] at h;cases h
theorem tdepth_ok:SpecOK Tryz.prog 224 tdepthT.spec:=by
  refine Tri.ok (E:=emptyE) (Env_ok (by decide +kernel) (by simp [empty_ok])) (n:=1000) tdepthT fun x hx=>?_
  rw [tdepth_vc]
  revert x
  intro (t:TreeD) hx
  simp only [br_bad,br_true,br_false,List.length_singleton,and_self,Bool.not_true,Bool.not_false,Bool.not_not,decide_eq_true_eq,Bool.and_eq_true,List.take_zero,List.nil_append,List.drop_zero,Nat.zero_add,Int.toNat_natCast,Nat.sub_eq,true_and,and_true,exists_const,List.length_nil,Nat.zero_le,Nat.zero_mul,Nat.le_refl,List.length_set,List.take_length,Int.natCast_nonneg,forall_const,implies_true,Int.toNat_zero,Nat.le_eq,Int.le_refl,addN,cutN,loN,hiN,bndB,List.length_cons,List.take_succ_cons,List.length_take,List.length_drop,Option.isNone,Nat.add_zero,Nat.min_self]
  try simp only [br_iff,decide_eq_true_eq,decide_eq_false_iff_not,room47,Bool.not_eq_true',Bool.not_eq_false',gt_iff_lt]
  refine⟨t,rfl,fun h=>by unfold depthD;rw [h];rfl,fun h=>⟨?_,by unfold depthD;rw [h];rfl⟩⟩
  cases hn:t.isNil
  · rfl
  · rw [hn] at h;cases h
theorem tjoin_ok:SpecOK Tryz.prog 189 tjoinT.spec:=by
  refine Tri.ok (E:=tjoinE) (Env_ok (by decide +kernel) (by simp [tlen_ok,tdepth_ok])) (n:=1000) tjoinT fun x hx=>?_
  rw [tjoin_vc]
  obtain⟨x,l,r⟩:=x
  obtain⟨hl,hr⟩:=hx
  simp only [br_bad,br_true,br_false,List.length_singleton,and_self,Bool.not_true,Bool.not_false,Bool.not_not,decide_eq_true_eq,Bool.and_eq_true,List.take_zero,List.nil_append,List.drop_zero,Nat.zero_add,Int.toNat_natCast,Nat.sub_eq,true_and,and_true,exists_const,List.length_nil,Nat.zero_le,Nat.zero_mul,Nat.le_refl,List.length_set,List.take_length,Int.natCast_nonneg,forall_const,implies_true,Int.toNat_zero,Nat.le_eq,Int.le_refl,addN,cutN,loN,hiN,bndB,List.length_cons,List.take_succ_cons,List.length_take,List.length_drop,Option.isNone,Nat.add_zero,Nat.min_self]
  try simp only [br_iff,decide_eq_true_eq,decide_eq_false_iff_not,room47,Bool.not_eq_true',Bool.not_eq_false',gt_iff_lt]
  refine⟨l,rfl,r,rfl,l,rfl,r,rfl,?_⟩
  simp only [smallT,Bool.and_eq_true,decide_eq_true_eq] at hl hr
  have e:mmI false (depthD l) (depthD r)=max (depthD l) (depthD r):=by
    unfold mmI
    simp only [cond_false]
    split<;>omega
  rw [e,wrap_id (n:=1+lenD l) (by omega) (by omega),wrap_id (n:=1+lenD l+lenD r) (by omega) (by omega),wrap_id (by omega) (by omega)]
  rfl
end Go.Proofs.YtgepebndihfnfaaGreat.Ses
