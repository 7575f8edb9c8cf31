/- The words of a symbolic evaluator for the model's code: data, regions of memory, what stands for what; the operations that only look. No condition. -/
import Derived.Tactics
import Derived.Laws.Sem
import Derived.MapKept
import Derived.Laws.Strings
import Derived.Laws.Slices
import Derived.Laws.BytesString
set_option linter.unusedSimpArgs false
set_option linter.unusedVariables false

namespace Go.Proofs.YtgepebndihfnfaaGreat.Sx
open Go
abbrev Bs:=List UInt8
structure ChangeD where
  path:Bs
  gone:Bool
  digest:Int
structure LeafD where
  path:Bs
  digest:Int
  rev:Int
  gone:Bool
inductive TreeD where
  | nil
  | node (there:Bool) (leaf:LeafD) (left right:TreeD) (depth many:Int)
def TreeD.isNil:TreeD→Bool
  | .nil=>true
  | .node .. => false
def TreeD.there:TreeD→Bool
  | .nil=>false
  | .node t _ _ _ _ _=>t
def TreeD.leaf:TreeD→LeafD
  | .nil=>⟨[],0,0,false⟩
  | .node _ x _ _ _ _=>x
def TreeD.left:TreeD→TreeD
  | .nil=>.nil
  | .node _ _ l _ _ _=>l
def TreeD.right:TreeD→TreeD
  | .nil=>.nil
  | .node _ _ _ r _ _=>r
def TreeD.depth:TreeD→Int
  | .nil=>0
  | .node _ _ _ _ d _=>d
def TreeD.many:TreeD→Int
  | .nil=>0
  | .node _ _ _ _ _ m=>m
structure CommitD where
  rev:Int
  base:Int
  ref:Bs
  changes:List ChangeD
structure VerdictD where
  code:Int
  session:Int
  rev:Int
  path:Bs
  digest:Int
  commits:List CommitD
  member:Int
structure SessionD where
  id:Int
  seq:Int
  name:Bs
  last:VerdictD
structure Deed6D where
  dof:Int
  id:Int
  seq:Int
  name:Bs
  v:VerdictD
structure Deed5D where
  base:Int
  ref:Bs
  l:List ChangeD
structure RefD where
  name:Bs
  rev:Int
structure EpochD where
  from_:Int
  members:List Int
structure RequestD where
  kind:Int
  name:Bs
  session:Int
  seq:Int
  base:Int
  ref:Bs
  changes:List ChangeD
  path:Bs
  from_:Int
  many:Int
  member:Int
structure DeedD where
  client:Int
  loc:Bool
  value:RequestD
  verdict:VerdictD
  sent:Int
  told:Int
  row:Int
inductive Tc where
  | byte | int | str | change | leaf | commit | session | deed6 | tree | bool | leafs | ints | verdict | deed5 | ref | epoch | request | deed
@[reducible] def Tc.den:Tc→Type
  | .byte=>Int
  | .int=>Int
  | .str=>Bs
  | .change=>ChangeD
  | .leaf=>LeafD
  | .commit=>CommitD
  | .session=>SessionD
  | .deed6=>Deed6D
  | .tree=>TreeD
  | .bool=>Bool
  | .leafs=>List LeafD
  | .ints=>List Int
  | .verdict=>VerdictD
  | .deed5=>Deed5D
  | .ref=>RefD
  | .epoch=>EpochD
  | .request=>RequestD
  | .deed=>DeedD
def Tc.num:Tc→Nat
  | .byte=>0 | .int=>1 | .str=>2 | .change=>3 | .leaf=>4 | .commit=>5 | .session=>6 | .deed6=>7 | .tree=>8 | .bool=>9 | .leafs=>10 | .ints=>11 | .verdict=>12 | .deed5=>13 | .ref=>14 | .epoch=>15 | .request=>16 | .deed=>17
theorem Tc.num_inj {a b:Tc} (h:a.num=b.num):a=b:=by
  cases a<;>cases b<;>first | rfl | (simp [Tc.num] at h)
def castL:(c c':Tc)→List c'.den→Option (List c.den)
  | .byte,.byte,l=>some l
  | .int,.int,l=>some l
  | .str,.str,l=>some l
  | .change,.change,l=>some l
  | .leaf,.leaf,l=>some l
  | .commit,.commit,l=>some l
  | .session,.session,l=>some l
  | .deed6,.deed6,l=>some l
  | .tree,.tree,l=>some l
  | .bool,.bool,l=>some l
  | .leafs,.leafs,l=>some l
  | .ints,.ints,l=>some l
  | .verdict,.verdict,l=>some l
  | .deed5,.deed5,l=>some l
  | .ref,.ref,l=>some l
  | .epoch,.epoch,l=>some l
  | .request,.request,l=>some l
  | .deed,.deed,l=>some l
  | _,_,_=>none
theorem castL_some {c c':Tc} {l':List c'.den} {l:List c.den} (h:castL c c' l'=some l):∃e:c'=c,e ▸ l'=l:=by
  cases c<;>cases c'<;>simp [castL] at h<;>exact⟨rfl,h⟩
def Tc.width:Tc→Nat
  | .byte=>1 | .int=>1 | .str=>1 | .change=>3 | .leaf=>4 | .commit=>4 | .session=>10 | .deed6=>11 | .tree=>1 | .bool=>1 | .leafs=>1 | .ints=>1 | .verdict=>7 | .deed5=>3 | .ref=>2 | .epoch=>2 | .request=>11 | .deed=>23
def Tc.bytes:Tc→Nat
  | .byte=>1 | .int=>8 | .str=>16 | .change=>32 | .leaf=>40 | .commit=>56 | .session=>112 | .deed6=>120 | .tree=>8 | .bool=>1 | .leafs=>24 | .ints=>24 | .verdict=>80 | .deed5=>48 | .ref=>24 | .epoch=>32 | .request=>128 | .deed=>248
def VerdictD.dflt:VerdictD:=⟨0,0,0,[],0,[],0⟩
def RequestD.dflt:RequestD:=⟨0,[],0,0,0,[],[],[],0,0,0⟩
def Tc.dflt:(c:Tc)→c.den
  | .byte=>(0:Int)
  | .int=>(0:Int)
  | .str=>([]:Bs)
  | .change=>(⟨[],false,0⟩:ChangeD)
  | .leaf=>(⟨[],0,0,false⟩:LeafD)
  | .commit=>(⟨0,0,[],[]⟩:CommitD)
  | .session=>(⟨0,0,[],.dflt⟩:SessionD)
  | .deed6=>(⟨0,0,0,[],.dflt⟩:Deed6D)
  | .tree=>(TreeD.nil:TreeD)
  | .bool=>(false:Bool)
  | .leafs=>([]:List LeafD)
  | .ints=>([]:List Int)
  | .verdict=>VerdictD.dflt
  | .deed5=>(⟨0,[],[]⟩:Deed5D)
  | .ref=>(⟨[],0⟩:RefD)
  | .epoch=>(⟨0,[]⟩:EpochD)
  | .request=>RequestD.dflt
  | .deed=>(⟨0,false,.dflt,.dflt,0,0,0⟩:DeedD)
inductive SV where
  | undef
  | int (k:IntKind) (n:Int)
  | bool (b:Bool)
  | str (s:Bs)
  | nilp | nils | nilm | nilfn | nilif
  | emp (c:Tc)
  | mptr (n j:Nat)
  | mrow (c:Tc) (n i j:Nat)
  | mslice (c:Tc) (n lo len:Nat)
  | cslice (w n lo len:Nat)
  | rptr (cs:List SV)
  | rslice (nn:Bool) (c:Tc) (l:List c.den)
  | fn (f:FuncId) (first caps:List SV)
  | iface (t:TypeId) (v:SV)
  | agg (cs:List SV)
  | tuple (vs:List SV)
  | tree (t:TreeD)
  | mmap (n:Nat)
  | seqk (f:FuncId) (n:Nat)
  | yk (l:Nat)
def TreeD.cells (t:TreeD):List SV:=
  [.bool t.there,.str t.leaf.path,.int .u64 t.leaf.digest,.int .i64 t.leaf.rev,.bool t.leaf.gone,.tree t.left,.tree t.right,.int .i64 t.depth,.int .i64 t.many]
def VerdictD.enc (x:VerdictD):List SV:=
  [.int .i64 x.code,.int .i64 x.session,.int .i64 x.rev,.str x.path,.int .u64 x.digest,.rslice false .commit x.commits,.int .i64 x.member]
def RequestD.enc (x:RequestD):List SV:=
  [.int .i64 x.kind,.str x.name,.int .i64 x.session,.int .i64 x.seq,.int .i64 x.base,.str x.ref,.rslice false .change x.changes,.str x.path,.int .i64 x.from_,.int .i64 x.many,.int .i64 x.member]
def enc:(c:Tc)→c.den→List SV
  | .byte,(n:Int)=>[.int .u8 n]
  | .int,(n:Int)=>[.int .i64 n]
  | .str,(s:Bs)=>[.str s]
  | .change,(x:ChangeD)=>[.str x.path,.bool x.gone,.int .u64 x.digest]
  | .leaf,(x:LeafD)=>[.str x.path,.int .u64 x.digest,.int .i64 x.rev,.bool x.gone]
  | .commit,(x:CommitD)=>[.int .i64 x.rev,.int .i64 x.base,.str x.ref,.rslice false .change x.changes]
  | .session,(x:SessionD)=>[.int .i64 x.id,.int .i64 x.seq,.str x.name,
      .int .i64 x.last.code,.int .i64 x.last.session,.int .i64 x.last.rev,.str x.last.path,.int .u64 x.last.digest,.rslice false .commit x.last.commits,.int .i64 x.last.member]
  | .deed6,(x:Deed6D)=>[.int .i64 x.dof,.int .i64 x.id,.int .i64 x.seq,.str x.name,
      .int .i64 x.v.code,.int .i64 x.v.session,.int .i64 x.v.rev,.str x.v.path,.int .u64 x.v.digest,.rslice false .commit x.v.commits,.int .i64 x.v.member]
  | .tree,(t:TreeD)=>[.tree t]
  | .bool,(b:Bool)=>[.bool b]
  | .leafs,(l:List LeafD)=>[.rslice false .leaf l]
  | .ints,(l:List Int)=>[.rslice false .int l]
  | .verdict,(x:VerdictD)=>x.enc
  | .deed5,(x:Deed5D)=>[.int .i64 x.base,.str x.ref,.rslice false .change x.l]
  | .ref,(x:RefD)=>[.str x.name,.int .i64 x.rev]
  | .epoch,(x:EpochD)=>[.int .i64 x.from_,.rslice false .int x.members]
  | .request,(x:RequestD)=>x.enc
  | .deed,(x:DeedD)=>[.int .i64 x.client,.bool x.loc,
      .int .i64 x.value.kind,.str x.value.name,.int .i64 x.value.session,.int .i64 x.value.seq,.int .i64 x.value.base,.str x.value.ref,.rslice false .change x.value.changes,.str x.value.path,.int .i64 x.value.from_,.int .i64 x.value.many,.int .i64 x.value.member,
      .int .i64 x.verdict.code,.int .i64 x.verdict.session,.int .i64 x.verdict.rev,.str x.verdict.path,.int .u64 x.verdict.digest,.rslice false .commit x.verdict.commits,.int .i64 x.verdict.member,
      .int .i64 x.sent,.int .i64 x.told,.int .i64 x.row]
theorem enc_length (c:Tc) (x:c.den):(enc c x).length=c.width:=by cases c<;>rfl
def asL (c:Tc):SV→Option (List c.den)
  | .nils=>some []
  | .emp _=>some []
  | .rslice _ c' l=>castL c c' l
  | _=>none
def dec:(c:Tc)→List SV→Option c.den
  | .byte,[.int .u8 n]=>some (n:Int)
  | .int,[.int .i64 n]=>some (n:Int)
  | .str,[.str s]=>some (s:Bs)
  | .change,[.str p,.bool g,.int .u64 d]=>some (⟨p,g,d⟩:ChangeD)
  | .leaf,[.str p,.int .u64 d,.int .i64 r,.bool g]=>some (⟨p,d,r,g⟩:LeafD)
  | .commit,[.int .i64 r,.int .i64 b,.str f,s]=>
    match asL .change s with
    | some l=>some (⟨r,b,f,l⟩:CommitD)
    | none=>none
  | .session,[.int .i64 i,.int .i64 q,.str n,.int .i64 a,.int .i64 b,.int .i64 c,.str d,.int .u64 e,s,.int .i64 g]=>
    match asL .commit s with
    | some l=>some (⟨i,q,n,⟨a,b,c,d,e,l,g⟩⟩:SessionD)
    | none=>none
  | .deed6,[.int .i64 o,.int .i64 i,.int .i64 q,.str n,.int .i64 a,.int .i64 b,.int .i64 c,.str d,.int .u64 e,s,.int .i64 g]=>
    match asL .commit s with
    | some l=>some (⟨o,i,q,n,⟨a,b,c,d,e,l,g⟩⟩:Deed6D)
    | none=>none
  | .tree,[.tree t]=>some (t:TreeD)
  | .tree,[.nilp]=>some (TreeD.nil:TreeD)
  | .bool,[.bool b]=>some (b:Bool)
  | .ref,[.str n,.int .i64 r]=>some (⟨n,r⟩:RefD)
  | .leafs,[s]=>match asL .leaf s with
    | some l=>some (l:List LeafD)
    | none=>none
  | .ints,[s]=>match asL .int s with
    | some l=>some (l:List Int)
    | none=>none
  | .deed5,[.int .i64 b,.str f,s]=>match asL .change s with
    | some l=>some (⟨b,f,l⟩:Deed5D)
    | none=>none
  | .epoch,[.int .i64 f,s]=>match asL .int s with
    | some l=>some (⟨f,l⟩:EpochD)
    | none=>none
  | .verdict,[.int .i64 a,.int .i64 b,.int .i64 c,.str d,.int .u64 e,s,.int .i64 g]=>match asL .commit s with
    | some l=>some (⟨a,b,c,d,e,l,g⟩:VerdictD)
    | none=>none
  | .request,[.int .i64 a,.str b,.int .i64 c,.int .i64 d,.int .i64 e,.str f,s,.str h,.int .i64 i,.int .i64 j,.int .i64 k]=>match asL .change s with
    | some l=>some (⟨a,b,c,d,e,f,l,h,i,j,k⟩:RequestD)
    | none=>none
  | .deed,[.int .i64 cl,.bool lo,.int .i64 a,.str b,.int .i64 c,.int .i64 d,.int .i64 e,.str f,s,.str h,.int .i64 i,.int .i64 j,.int .i64 k,
      .int .i64 va,.int .i64 vb,.int .i64 vc,.str vd,.int .u64 ve,vs,.int .i64 vg,.int .i64 x,.int .i64 y,.int .i64 z]=>match asL .change s,asL .commit vs with
    | some l,some vl=>some (⟨cl,lo,⟨a,b,c,d,e,f,l,h,i,j,k⟩,⟨va,vb,vc,vd,ve,vl,vg⟩,x,y,z⟩:DeedD)
    | _,_=>none
  | _,_=>none
structure Reg where
  b:Nat
  base:Nat
  sz:Nat
structure Ctx where
  β:List (Option Reg)
  Γ:Nat→Nat→Option Value
structure Ctx.le (g g':Ctx):Prop where
  β:∀(n:Nat) x,g.β[n]?=some x→g'.β[n]?=some x
  Γ:∀b o v,g.Γ b o=some v→g'.Γ b o=some v
theorem Ctx.le.refl (g:Ctx):g.le g:=⟨fun _ _ h=>h,fun _ _ _ h=>h⟩
theorem Ctx.le.trans {a b c:Ctx} (h:a.le b) (h':b.le c):a.le c:=
  ⟨fun n x e=>h'.β n x (h.β n x e),fun b o v e=>h'.Γ b o v (h.Γ b o v e)⟩
def maxI64:Nat:=9223372036854775807
def room47:Nat:=140737488355328
inductive Rep (g:Ctx):SV→Value→Prop where
  | undef (v:Value):Rep g .undef v
  | int (k:IntKind) (n:Int):Rep g (.int k n) (.int k n)
  | bool (b:Bool):Rep g (.bool b) (.bool b)
  | str (s:Bs):s.length≤maxI64→Rep g (.str s) (.string ⟨⟨s⟩⟩)
  | nilp:Rep g .nilp (.pointer none)
  | nils:Rep g .nils (.slice none 0 0)
  | nilm:Rep g .nilm (.map none)
  | nilfn:Rep g .nilfn .nilFunc
  | nilif:Rep g .nilif .nilIface
  | mptr (n j:Nat) (r:Reg):g.β[n]?=some (some r)→Rep g (.mptr n j) (.pointer (some ⟨r.b,r.base+j,none⟩))
  | mrow (c:Tc) (n i j:Nat) (r:Reg):g.β[n]?=some (some r)→
      Rep g (.mrow c n i j) (.pointer (some ⟨r.b,r.base+(i*c.width+j),none⟩))
  | mslice (c:Tc) (n lo len cap off:Nat) (r:Reg):g.β[n]?=some (some r)→len≤cap→len*c.bytes≤room47→
      (cap=0∨(off=r.base+lo*c.width∧(lo+cap)*c.width≤r.sz))→cap≤maxI64→Rep g (.mslice c n lo len) (.slice (some ⟨r.b,off,none⟩) len cap)
  | mslice0 (c:Tc) (n lo:Nat) (a:Option Addr) (x:Option Reg):g.β[n]?=some x→Rep g (.mslice c n lo 0) (.slice a 0 0)
  | cslice (w n lo len cap off:Nat) (r:Reg):g.β[n]?=some (some r)→len≤cap→
      (cap=0∨(off=r.base+lo*w∧(lo+cap)*w≤r.sz))→Rep g (.cslice w n lo len) (.slice (some ⟨r.b,off,none⟩) len cap)
  | rptr (cs:List SV) (b off:Nat) (vs:List Value):cs.length=vs.length→
      (∀(j:Nat) sv v,cs[j]?=some sv→vs[j]?=some v→Rep g sv v)→(∀(j:Nat) v,vs[j]?=some v→g.Γ b (off+j)=some v)→
      Rep g (.rptr cs) (.pointer (some ⟨b,off,none⟩))
  | emp (c:Tc) (a:Option Addr):Rep g (.emp c) (.slice a 0 0)
  | rnil (c:Tc) (a:Option Addr):Rep g (.rslice false c []) (.slice a 0 0)
  | rslice (nn:Bool) (c:Tc) (l:List c.den) (b off cap:Nat) (vs:Nat→List Value):l.length≤cap→l.length*c.bytes≤room47→
      (∀i,(vs i).length=c.width)→(∀(i:Nat) x,l[i]?=some x → ∀(j:Nat) sv v,(enc c x)[j]?=some sv→(vs i)[j]?=some v→Rep g sv v)→
      (∀i,i<l.length → ∀(j:Nat) v,(vs i)[j]?=some v→g.Γ b (off+(i*c.width+j))=some v)→
      Rep g (.rslice nn c l) (.slice (some ⟨b,off,none⟩) l.length cap)
  | fn (f:FuncId) (fs cs:List SV) (us vs:List Value):fs.length=us.length→cs.length=vs.length→
      (∀(j:Nat) sv v,fs[j]?=some sv→us[j]?=some v→Rep g sv v)→(∀(j:Nat) sv v,cs[j]?=some sv→vs[j]?=some v→Rep g sv v)→
      Rep g (.fn f fs cs) (.func (.func f) ⟨us⟩ ⟨vs⟩)
  | iface (t:TypeId) (sv:SV) (v:Value):Rep g sv v→Rep g (.iface t sv) (.iface t v)
  | agg (cs:List SV) (vs:List Value):cs.length=vs.length→(∀(j:Nat) sv v,cs[j]?=some sv→vs[j]?=some v→Rep g sv v)→Rep g (.agg cs) (.agg ⟨vs⟩)
  | tuple (cs:List SV) (vs:List Value):cs.length=vs.length→(∀(j:Nat) sv v,cs[j]?=some sv→vs[j]?=some v→Rep g sv v)→Rep g (.tuple cs) (.tuple ⟨vs⟩)
  | treeNil (t:TreeD):t.isNil=true→Rep g (.tree t) (.pointer none)
  | tree (t:TreeD) (b off:Nat) (vs:List Value):t.isNil=false→t.cells.length=vs.length→
      (∀(j:Nat) sv v,t.cells[j]?=some sv→vs[j]?=some v→Rep g sv v)→(∀(j:Nat) v,vs[j]?=some v→g.Γ b (off+j)=some v)→
      Rep g (.tree t) (.pointer (some ⟨b,off,none⟩))
  | mmap (n:Nat) (r:Reg):g.β[n]?=some (some r)→Rep g (.mmap n) (.map (some r.b))
  | yk (l:Nat):Rep g (.yk l) (.func (.yield l) #[] #[])
  | seqk (f:FuncId) (n b:Nat) (r:Reg):g.β[n]?=some (some r)→g.Γ b 0=some (.map (some r.b))→Rep g (.seqk f n) (.func (.func f) #[] #[.pointer (some ⟨b,0,none⟩)])
def RepL (g:Ctx) (cs:List SV) (vs:List Value):Prop:=
  cs.length=vs.length ∧ ∀(j:Nat) sv v,cs[j]?=some sv→vs[j]?=some v→Rep g sv v
theorem Rep.mono {g g':Ctx} (h:g.le g') {sv:SV} {v:Value} (r:Rep g sv v):Rep g' sv v:=by
  induction r with
  | undef v=>exact .undef v
  | int k n=>exact .int k n
  | bool b=>exact .bool b
  | str s hs=>exact .str s hs
  | nilp=>exact .nilp
  | nils=>exact .nils
  | nilm=>exact .nilm
  | nilfn=>exact .nilfn
  | nilif=>exact .nilif
  | mptr n j r hr=>exact .mptr n j r (h.β _ _ hr)
  | mrow c n i j r hr=>exact .mrow c n i j r (h.β _ _ hr)
  | mslice c n lo len cap off r hr h1 h2 h3 h4=>exact .mslice c n lo len cap off r (h.β _ _ hr) h1 h2 h3 h4
  | mslice0 c n lo a x hr=>exact .mslice0 c n lo a x (h.β _ _ hr)
  | cslice w n lo len cap off r hr h1 h2=>exact .cslice w n lo len cap off r (h.β _ _ hr) h1 h2
  | rptr cs b off vs h1 _ h3 ih=>exact .rptr cs b off vs h1 ih (fun j v e=>h.Γ _ _ _ (h3 j v e))
  | emp c a=>exact .emp c a
  | rnil c a=>exact .rnil c a
  | rslice nn c l b off cap vs h1 h2 h3 _ h5 ih=>exact .rslice nn c l b off cap vs h1 h2 h3 ih (fun i hi j v e=>h.Γ _ _ _ (h5 i hi j v e))
  | fn f fs cs us vs h1 h2 _ _ ih1 ih2=>exact .fn f fs cs us vs h1 h2 ih1 ih2
  | iface t sv v _ ih=>exact .iface t sv v ih
  | agg cs vs h1 _ ih=>exact .agg cs vs h1 ih
  | tuple cs vs h1 _ ih=>exact .tuple cs vs h1 ih
  | treeNil t h=>exact .treeNil t h
  | tree t b off vs h0 h1 _ h3 ih=>exact .tree t b off vs h0 h1 ih (fun j v e=>h.Γ _ _ _ (h3 j v e))
  | mmap n r hr=>exact .mmap n r (h.β _ _ hr)
  | seqk f n b r hr hb=>exact .seqk f n b r (h.β _ _ hr) (h.Γ _ _ _ hb)
  | yk l=>exact .yk l
theorem RepL.mono {g g':Ctx} (h:g.le g') {cs:List SV} {vs:List Value} (r:RepL g cs vs):RepL g' cs vs:=
  ⟨r.1,fun j sv v a b=>(r.2 j sv v a b).mono h⟩
theorem RepL.nil (g:Ctx):RepL g [] []:=⟨rfl,fun j sv v a=>by simp at a⟩
theorem RepL.cons {g:Ctx} {sv:SV} {v:Value} {cs:List SV} {vs:List Value} (h:Rep g sv v) (r:RepL g cs vs):RepL g (sv::cs) (v::vs):=
  ⟨by simp [r.1],fun j sv' v' a b=>by
    cases j with
    | zero=>simp at a b;subst a;subst b;exact h
    | succ j=>exact r.2 j sv' v' (by simpa using a) (by simpa using b)⟩
theorem RepL.append {g:Ctx} {cs cs':List SV} {vs vs':List Value} (h:RepL g cs vs) (h':RepL g cs' vs'):RepL g (cs++cs') (vs++vs'):=
  ⟨by simp [h.1,h'.1],fun j sv v a b=>by
    by_cases hj:j<cs.length
    · rw [List.getElem?_append_left hj] at a
      rw [List.getElem?_append_left (by rw [←h.1];exact hj)] at b
      exact h.2 j sv v a b
    · rw [List.getElem?_append_right (by omega)] at a
      rw [List.getElem?_append_right (by rw [←h.1];omega),←h.1] at b
      exact h'.2 _ sv v a b⟩
theorem RepL.drop {g:Ctx} {cs:List SV} {vs:List Value} (h:RepL g cs vs) (n:Nat):RepL g (cs.drop n) (vs.drop n):=
  ⟨by simp [h.1],fun j sv v a b=>h.2 (n+j) sv v (by simpa using a) (by simpa using b)⟩
theorem RepL.take {g:Ctx} {cs:List SV} {vs:List Value} (h:RepL g cs vs) (n:Nat):RepL g (cs.take n) (vs.take n):=
  ⟨by simp [h.1],fun j sv v a b=>by
    have hj:j<n:=by
      rcases Nat.lt_or_ge j n with h1 | h1
      · exact h1
      · rw [List.getElem?_eq_none (by simp;omega)] at a;simp at a
    rw [List.getElem?_take_of_lt hj] at a b
    exact h.2 j sv v a b⟩
theorem RepL.get {g:Ctx} {cs:List SV} {vs:List Value} (h:RepL g cs vs) {j:Nat} {sv:SV} (a:cs[j]?=some sv):∃v,vs[j]?=some v∧Rep g sv v:=by
  have hj:j<cs.length:=(List.getElem?_eq_some_iff.1 a).1
  have hj':j<vs.length:=h.1 ▸ hj
  exact⟨vs[j],by simp,h.2 j sv _ a (by simp)⟩
theorem RepL.uncons {g:Ctx} {sv:SV} {cs:List SV} {vs:List Value} (h:RepL g (sv::cs) vs):∃v r,vs=v::r∧Rep g sv v∧RepL g cs r:=by
  cases vs with
  | nil=>exact absurd h.1 (by simp)
  | cons v r=>exact⟨v,r,rfl,h.2 0 sv v rfl rfl,by simpa using h.1,fun j a b x y=>h.2 (j+1) a b (by simpa using x) (by simpa using y)⟩
theorem RepL.eq_nil {g:Ctx} {vs:List Value} (h:RepL g [] vs):vs=[]:=by
  cases vs with
  | nil=>rfl
  | cons _ _=>exact absurd h.1 (by simp)
theorem asL_rep {g:Ctx} {c:Tc} {s:SV} {l:List c.den} (h:asL c s=some l) {v:Value} (r:Rep g s v):Rep g (.rslice false c l) v:=by
  cases r<;>simp [asL] at h
  case nils=>subst h;exact .rnil c _
  case emp c' a=>subst h;exact .rnil c _
  case rnil c' a=>
    obtain⟨rfl,rfl⟩:=castL_some h
    exact .rnil _ _
  case rslice nn c' l' b off cap vs a1 a2 a3 a4 a5=>
    obtain⟨rfl,rfl⟩:=castL_some h
    exact .rslice _ _ _ b off cap vs a1 a2 a3 a4 a5
theorem repL_upd {g:Ctx} {s s':SV} (hs:∀v,Rep g s v→Rep g s' v):∀(xs ys:List SV) {vs:List Value},RepL g (xs++s::ys) vs→RepL g (xs++s'::ys) vs
  | [],ys,vs,r=>by
    obtain⟨v,vs,rfl,h,r⟩:=r.uncons
    exact .cons (hs v h) r
  | x::xs,ys,vs,r=>by
    obtain⟨v,vs,rfl,h,r⟩:=r.uncons
    exact .cons h (repL_upd hs xs ys r)
theorem dec_rep {g:Ctx} {c:Tc} {cs:List SV} {x:c.den} (h:dec c cs=some x) {vs:List Value} (r:RepL g cs vs):RepL g (enc c x) vs:=by
  unfold dec at h
  split at h
  all_goals first
    | (injection h with h;subst h;exact r)
    | (injection h with h;subst h;obtain⟨v,_,rfl,r0,r1⟩:=r.uncons;cases r0;rw [r1.eq_nil];exact .cons (.treeNil _ rfl) (RepL.nil _))
    | (injection h;done)
    | (split at h
       case h_2=>injection h
       rename_i l hl
       injection h with h
       subst h
       first
         | exact repL_upd (fun v=>asL_rep hl) [] _ r
         | exact repL_upd (fun v=>asL_rep hl) [_] _ r
         | exact repL_upd (fun v=>asL_rep hl) [_,_] _ r
         | exact repL_upd (fun v=>asL_rep hl) [_,_,_] _ r
         | exact repL_upd (fun v=>asL_rep hl) [_,_,_,_,_] _ r
         | exact repL_upd (fun v=>asL_rep hl) [_,_,_,_,_,_] _ r
         | exact repL_upd (fun v=>asL_rep hl) [_,_,_,_,_,_,_,_] _ r
         | exact repL_upd (fun v=>asL_rep hl) [_,_,_,_,_,_,_,_,_] _ r)
    | (split at h
       case h_2=>injection h
       rename_i l vl hl hvl
       injection h with h
       subst h
       have r1:=repL_upd (fun v=>asL_rep hl) [_,_,_,_,_,_,_,_] _ r
       exact repL_upd (fun v=>asL_rep hvl) [_,_,_,_,_,_,_,_,_,_,_,_,_,_,_,_,_,_] _ r1)
def oneV:Value→Bool
  | .agg _ | .tuple _=>false
  | _=>true
theorem add_none (b o n:Nat):(⟨b,o,none⟩:Addr).add n=⟨b,o+n,none⟩:=by
  unfold Addr.add
  split
  · subst_vars;rfl
  · rfl
theorem run_loadCellsFrom {P:Program} {w:World} {b o:Nat} (vs:List Value):∀(i:Nat) (acc:Array Value),
    (∀(j:Nat) v,vs[j]?=some v→w.cell? ⟨b,o+i+j,none⟩=some v)→
    (loadCellsFrom ⟨b,o,none⟩ i vs.length acc).run P w = .ok (acc++vs.toArray) w:=by
  induction vs with
  | nil=>intro i acc _;simp [loadCellsFrom,pure]
  | cons v r ih=>
    intro i acc h
    have h0:=h 0 v rfl
    rw [List.length_cons]
    unfold loadCellsFrom
    have hb:=ih (i+1) (acc.push v) (fun j u e=>by
      have:=h (j+1) u (by simpa using e)
      rw [show o+i+(j+1)=o+(i+1)+j by omega] at this
      exact this)
    simp only [bind,Sem.bind,load,add_none,Sem.run,Nat.add_zero] at h0 ⊢
    rw [h0]
    simpa using hb
theorem run_loadCells {P:Program} {w:World} {b o:Nat} {vs:List Value} (h:∀(j:Nat) v,vs[j]?=some v→w.cell? ⟨b,o+j,none⟩=some v) :
    (loadCells ⟨b,o,none⟩ vs.length).run P w = .ok vs.toArray w:=by
  have:=run_loadCellsFrom (P:=P) (w:=w) (b:=b) (o:=o) vs 0 #[] (by simpa using h)
  simpa [loadCells] using this
def putBlk (w:World) (b:Nat) (c:Array Value) (T:TypeId):World:={w with heap:=w.heap.setIfInBounds b (.cells c T (0,0))}
def splice (c:Array Value) (off:Nat):List Value→Array Value
  | []=>c
  | v::r=>splice (c.setIfInBounds off v) (off+1) r
theorem splice_size (vs:List Value):∀(c:Array Value) (off:Nat),(splice c off vs).size=c.size:=by
  induction vs with
  | nil=>intro c off;rfl
  | cons v r ih=>intro c off;simp [splice,ih]
theorem splice_get (vs:List Value):∀(c:Array Value) (off j:Nat),off+vs.length≤c.size→
    (splice c off vs)[j]?=if off≤j∧j<off+vs.length then vs[j-off]? else c[j]?:=by
  induction vs with
  | nil=>intro c off j _;simp [splice];omega
  | cons v r ih=>
    intro c off j h
    simp only [List.length_cons] at h
    rw [splice,ih _ _ _ (by simp;omega)]
    by_cases h1:off+1≤j∧j<off+1+r.length
    · rw [if_pos h1,if_pos (by simp;omega)]
      rw [show j-off=(j-(off+1))+1 by omega]
      simp
    · rw [if_neg h1]
      by_cases h2:j=off
      · subst h2
        rw [if_pos (by simp)]
        simp [show j<c.size by omega]
      · rw [if_neg (by simp;omega)]
        rw [Array.getElem?_setIfInBounds_ne (by omega)]
theorem cell?_of_blk {w:World} {b:Nat} {c:Array Value} {T:TypeId} {fr:Nat × Nat} (h:w.heap[b]?=some (.cells c T fr)) (o:Nat) :
    w.cell? ⟨b,o,none⟩=c[o]?:=by
  simp [World.cell?,h]
theorem setCell_putBlk {w:World} {b o:Nat} {c:Array Value} {T:TypeId} {v:Value} (h:w.heap[b]?=some (.cells c T (0,0))) :
    w.setCell ⟨b,o,none⟩ v=putBlk w b (c.setIfInBounds o v) T:=by
  unfold World.setCell putBlk
  congr 1
  apply Array.ext_getElem?
  intro i
  by_cases hi:i=b
  · subst hi
    have hlt:i<w.heap.size:=(Array.getElem?_eq_some_iff.1 h).1
    have h':w.heap[i] = .cells c T (0,0):=by simpa [hlt] using h
    rw [Array.getElem?_modify,Array.getElem?_setIfInBounds]
    simp [hlt,h']
  · rw [Array.getElem?_modify,Array.getElem?_setIfInBounds_ne (by omega)]
    simp [show b≠i by omega]
theorem putBlk_get {w:World} {b:Nat} {c:Array Value} {T:TypeId} (hb:b<w.heap.size):(putBlk w b c T).heap[b]?=some (.cells c T (0,0)):=by
  simp [putBlk,hb]
theorem putBlk_other {w:World} {b b':Nat} {c:Array Value} {T:TypeId} (hb:b'≠b):(putBlk w b c T).heap[b']?=w.heap[b']?:=by
  simp [putBlk,Array.getElem?_setIfInBounds_ne (Ne.symm hb)]
theorem putBlk_putBlk {w:World} {b:Nat} {c c':Array Value} {T T':TypeId}:putBlk (putBlk w b c T) b c' T'=putBlk w b c' T':=by
  simp [putBlk,Array.setIfInBounds_setIfInBounds]
theorem run_storeCells {P:Program} {b o:Nat} {T:TypeId} (vs:List Value):∀(i:Nat) (w:World) (c:Array Value),
    w.heap[b]?=some (.cells c T (0,0))→o+i+vs.length≤c.size→(∀v∈vs,oneV v=true)→
    ∃w',(storeCells ⟨b,o,none⟩ vs i).run P w = .ok () w'∧w'=putBlk w b (splice c (o+i) vs) T:=by
  induction vs with
  | nil=>
    intro i w c h _ _
    refine⟨w,rfl,?_⟩
    unfold putBlk splice
    cases w
    congr 1
    apply Array.ext_getElem?
    intro k
    rw [Array.getElem?_setIfInBounds]
    split
    · subst_vars;simp at h ⊢;split<;>simp_all
    · rfl
  | cons v r ih=>
    intro i w c h hsz hone
    simp only [List.length_cons] at hsz
    have hb:b<w.heap.size:=(Array.getElem?_eq_some_iff.1 h).1
    have hv:oneV v=true:=hone v (by simp)
    have hcell:w.cell? ⟨b,o+i,none⟩=some (c[o+i]'(by omega)):=by
      rw [cell?_of_blk h];simp
    have hfr:w.frozen? ⟨b,o+i,none⟩=false:=by simp [World.frozen?,h]
    obtain⟨w',hr,hw'⟩:=ih (i+1) (putBlk w b (c.setIfInBounds (o+i) v) T) (c.setIfInBounds (o+i) v) (putBlk_get hb) (by simp;omega) (fun u hu=>hone u (by simp [hu]))
    refine⟨w',?_,?_⟩
    · have hne:∀ {α:Type} (k:Sem α),(Sem.store .plain ⟨b,o+i,none⟩ v k).run P w=k.run P (w.setCell ⟨b,o+i,none⟩ v):=by
        intro α k
        cases v<;>simp [Sem.run,hcell,hfr]<;>(simp [oneV] at hv)
      show ((store ((⟨b,o,none⟩:Addr).add i) v).bind fun _=>storeCells ⟨b,o,none⟩ r (i+1)).run P w=_
      rw [add_none]
      show (Sem.store .plain ⟨b,o+i,none⟩ v ((Sem.pure ()).bind fun _=>storeCells ⟨b,o,none⟩ r (i+1))).run P w=_
      rw [hne,setCell_putBlk h]
      exact hr
    · rw [hw',putBlk_putBlk]
      rfl
inductive Blk where
  | cells (cs:List SV)
  | rows (c:Tc) (l:List c.den)
  | kv (l:List (Bs × Int))
abbrev Blks:=List (Nat × Blk)
def Blks.get:Blks→Nat→Option Blk
  | [],_=>none
  | (m,k)::r,n=>bif Nat.beq m n then some k else Blks.get r n
def Blks.del:Blks→Nat→Blks
  | [],_=>[]
  | (m,k)::r,n=>bif Nat.beq m n then Blks.del r n else (m,k)::Blks.del r n
def Blks.set (B:Blks) (n:Nat) (k:Blk):Blks:=(n,k)::B.del n
theorem Blks.get_del_same (B:Blks) (n:Nat):(B.del n).get n=none:=by
  induction B with
  | nil=>rfl
  | cons x r ih=>
    obtain⟨m,k⟩:=x
    simp only [Blks.del]
    cases h:Nat.beq m n
    · simp only [cond_false,Blks.get,h];exact ih
    · simpa using ih
theorem Blks.get_del_other (B:Blks) {n m:Nat} (h:m≠n):(B.del n).get m=B.get m:=by
  induction B with
  | nil=>rfl
  | cons x r ih=>
    obtain⟨p,k⟩:=x
    simp only [Blks.del]
    cases hp:Nat.beq p n
    · simp only [cond_false,Blks.get]
      cases hq:Nat.beq p m
      · simpa using ih
      · rfl
    · simp only [cond_true,Blks.get]
      have:p=n:=Nat.eq_of_beq_eq_true hp
      have hq:Nat.beq p m=false:=by
        cases hb:Nat.beq p m
        · rfl
        · exact absurd ((Nat.eq_of_beq_eq_true hb).symm.trans this) h
      rw [hq]
      simpa using ih
theorem Blks.get_set_same (B:Blks) (n:Nat) (k:Blk):(B.set n k).get n=some k:=by
  simp [Blks.set,Blks.get]
theorem Blks.get_cons_same (B:Blks) (n:Nat) (k:Blk):Blks.get ((n,k)::B) n=some k:=by
  simp [Blks.get]
theorem Blks.get_cons_other (B:Blks) {n m:Nat} (k:Blk) (h:m≠n):Blks.get ((n,k)::B) m=B.get m:=by
  have:Nat.beq n m=false:=by
    cases hb:Nat.beq n m
    · rfl
    · exact absurd (Nat.eq_of_beq_eq_true hb).symm h
  simp [Blks.get,this]
theorem Blks.get_set_other (B:Blks) {n m:Nat} (k:Blk) (h:m≠n):(B.set n k).get m=B.get m:=by
  unfold Blks.set
  rw [Blks.get_cons_other _ _ h,Blks.get_del_other _ h]
def RegOK (w:World) (r:Reg):Blk→Prop
  | .cells _ | .rows _ _=>∃c T,w.heap[r.b]?=some (.cells c T (0,0))∧c.size=r.base+r.sz
  | .kv _=>∃es ck,w.heap[r.b]?=some (.map es ck)
def KvOK (es:Array MapEntry) (l:List (Bs × Int)):Prop:=
  es.toList.map (fun e=>(e.key,e.val))=l.map (fun p=>(Value.string ⟨⟨p.1⟩⟩,Value.int .i64 p.2)) ∧ ∀p,p∈l→p.1.length≤maxI64
def BlkOK (g:Ctx) (r:Reg) (w:World):Blk→Prop
  | .cells cs=>cs.length≤r.sz ∧ ∃vs,RepL g cs vs ∧ ∀(j:Nat) v,vs[j]?=some v→w.cell? ⟨r.b,r.base+j,none⟩=some v
  | .rows c l=>l.length*c.width≤r.sz∧l.length*c.bytes≤room47 ∧ ∃vs:Nat→List Value,(∀i,(vs i).length=c.width)∧
      (∀(i:Nat) x,l[i]?=some x→RepL g (enc c x) (vs i))∧
      ∀i,i<l.length → ∀(j:Nat) v,(vs i)[j]?=some v→w.cell? ⟨r.b,r.base+(i*c.width+j),none⟩=some v
  | .kv l=>∃es ck,w.heap[r.b]?=some (.map es ck)∧KvOK es l∧MapKept.Stamped es ck
def NameOK (g:Ctx) (w:World) (k:Blk):Option Reg→Prop
  | none=>∃c,k = .rows c []
  | some r=>RegOK w r k∧BlkOK g r w k
structure Mem0 (g:Ctx) (B:Blks) (w:World):Prop where
  reg:∀n k,B.get n=some k → ∃x,g.β[n]?=some x∧NameOK g w k x
  inj:∀n m k k' r r',B.get n=some k→B.get m=some k'→g.β[n]?=some (some r)→g.β[m]?=some (some r')→r.b=r'.b→n=m
  ro:∀b o v,g.Γ b o=some v→w.cell? ⟨b,o,none⟩=some v
  apart:∀n k r o,B.get n=some k→g.β[n]?=some (some r)→g.Γ r.b o=none
structure Fr where
  w0:World
  M:Nat→Prop
  Γ0:Nat→Nat→Option Value
  dfs:List Deferred
def Fr.Own (F:Fr) (b:Nat):Prop:=F.w0.heap.size≤b∨F.M b
structure Fix (F:Fr) (w:World):Prop where
  size:F.w0.heap.size≤w.heap.size
  keep:∀b,b<F.w0.heap.size→¬F.M b→w.heap[b]?=F.w0.heap[b]?
  os:w.os=F.w0.os
  out:w.output=F.w0.output
structure SameHeap (w w':World):Prop where
  heap:w'.heap=w.heap
  os:w'.os=w.os
  out:w'.output=w.output
structure MS where
  blks:Blks
  next:Nat
  log:List Nat
structure Mem (F:Fr) (g:Ctx) (m:MS) (w:World):Prop where
  mem:Mem0 g m.blks w
  next:m.next=g.β.length
  own:∀n k r,m.blks.get n=some k→g.β[n]?=some (some r)→F.Own r.b
  ext:∀b o v,g.Γ b o=some v→F.Γ0 b o=some v∨F.Own b
  fix:Fix F w
structure Upd (m m':MS):Prop where
  ex:∃new,m'.log=new++m.log ∧ ∀n,n<m.next→n ∉ new→m'.blks.get n=m.blks.get n
  next:m.next≤m'.next
theorem Mem.dfs {F:Fr} {g:Ctx} {m:MS} {w:World} (h:Mem F g m w) (d:List Deferred):Mem {F with dfs:=d} g m w:=
  ⟨h.mem,h.next,h.own,h.ext,⟨h.fix.size,h.fix.keep,h.fix.os,h.fix.out⟩⟩
theorem Upd.refl (m:MS):Upd m m:=⟨⟨[],rfl,fun _ _ _=>rfl⟩,Nat.le_refl _⟩
theorem Upd.trans {a b c:MS} (h:Upd a b) (h':Upd b c):Upd a c:=by
  obtain⟨⟨n1,e1,k1⟩,l1⟩:=h
  obtain⟨⟨n2,e2,k2⟩,l2⟩:=h'
  refine⟨⟨n2++n1,by rw [e2,e1,List.append_assoc],fun n hn hnot=>?_⟩,by omega⟩
  rw [k2 n (by omega) (fun h=>hnot (List.mem_append_left _ h)),k1 n hn (fun h=>hnot (List.mem_append_right _ h))]
theorem BlkOK.of_cells {g:Ctx} {r:Reg} {w w':World} (h:w'.heap[r.b]?=w.heap[r.b]?) {k:Blk} (hk:BlkOK g r w k):BlkOK g r w' k:=by
  have h2:∀o,w'.cell? ⟨r.b,o,none⟩=w.cell? ⟨r.b,o,none⟩:=fun o=>by simp [World.cell?,h]
  cases k with
  | cells cs=>obtain⟨a,vs,b,c⟩:=hk;exact⟨a,vs,b,fun j v e=>by rw [h2];exact c j v e⟩
  | rows c l=>obtain⟨a,a',vs,b,b',e⟩:=hk;exact⟨a,a',vs,b,b',fun i hi j v x=>by rw [h2];exact e i hi j v x⟩
  | kv l=>obtain⟨es,ck,a,b⟩:=hk;exact⟨es,ck,by rw [h];exact a,b⟩
theorem BlkOK.mono {g g':Ctx} (h:g.le g') {r:Reg} {w:World} {k:Blk} (hk:BlkOK g r w k):BlkOK g' r w k:=by
  cases k with
  | cells cs=>obtain⟨a,vs,b,c⟩:=hk;exact⟨a,vs,b.mono h,c⟩
  | rows c l=>obtain⟨a,a',vs,b,b',e⟩:=hk;exact⟨a,a',vs,b,fun i x hx=>(b' i x hx).mono h,e⟩
  | kv l=>exact hk
theorem cell?_congr {w w':World} {b:Nat} (h:w'.heap[b]?=w.heap[b]?) (o:Nat):w'.cell? ⟨b,o,none⟩=w.cell? ⟨b,o,none⟩:=by
  simp [World.cell?,h]
theorem RegOK.congr {w w':World} {r:Reg} {k:Blk} (h:w'.heap[r.b]?=w.heap[r.b]?) (hr:RegOK w r k):RegOK w' r k:=by
  cases k<;>simp only [RegOK,h] at hr ⊢ <;> exact hr
theorem NameOK.congr {g g':Ctx} (hg:g.le g') {w w':World} {k:Blk} {x:Option Reg} (h:∀r,x=some r→w'.heap[r.b]?=w.heap[r.b]?) (hk:NameOK g w k x):NameOK g' w' k x:=by
  cases x with
  | none=>exact hk
  | some r=>
    obtain⟨hr,hb⟩:=hk
    have:=h r rfl
    exact⟨hr.congr this,(hb.of_cells this).mono hg⟩
theorem RegOK.lt {w:World} {r:Reg} {k:Blk} (h:RegOK w r k):r.b<w.heap.size:=by
  cases k with
  | kv l=>obtain⟨es,ck,hc⟩:=h;exact (Array.getElem?_eq_some_iff.1 hc).1
  | _=>obtain⟨c,T,hc,_⟩:=h;exact (Array.getElem?_eq_some_iff.1 hc).1
theorem RegOK.cells {g:Ctx} {w:World} {r:Reg} {k:Blk} {c:Array Value} {T:TypeId} (hc:w.heap[r.b]?=some (.cells c T (0,0))) (hs:c.size=r.base+r.sz) (hb:BlkOK g r w k):RegOK w r k:=by
  cases k with
  | kv l=>obtain⟨es,ck,hm,_⟩:=hb;rw [hc] at hm;cases hm
  | _=>exact⟨c,T,hc,hs⟩
theorem cell?_lt {w:World} {b o:Nat} {v:Value} (h:w.cell? ⟨b,o,none⟩=some v):b<w.heap.size:=by
  unfold World.cell? at h
  rcases Nat.lt_or_ge b w.heap.size with h1 | h1
  · exact h1
  · rw [Array.getElem?_eq_none (by exact h1)] at h;simp at h
def push (w:World) (c:Array Value) (T:TypeId):World:={w with heap:=w.heap.push (.cells c T)}
theorem push_get {w:World} {c:Array Value} {T:TypeId}:(push w c T).heap[w.heap.size]?=some (.cells c T (0,0)):=by
  show (w.heap.push _)[w.heap.size]?=_
  rw [Array.getElem?_push,if_pos rfl]
theorem push_other {w:World} {c:Array Value} {T:TypeId} {b:Nat} (h:b<w.heap.size):(push w c T).heap[b]?=w.heap[b]?:=by
  show (w.heap.push _)[b]?=_
  rw [Array.getElem?_push,if_neg (by omega)]
theorem frozen?_congr {w w':World} {a:Addr} (h:w'.heap[a.block]?=w.heap[a.block]?):w'.frozen? a=w.frozen? a:=by
  unfold World.frozen?
  rw [h]
theorem push_size {w:World} {c:Array Value} {T:TypeId}:(push w c T).heap.size=w.heap.size+1:=by
  show (w.heap.push _).size=_
  rw [Array.size_push]
def Ctx.add (g:Ctx) (x:Option Reg):Ctx:={g with β:=g.β++[x]}
theorem Ctx.le_add (g:Ctx) (x:Option Reg):g.le (g.add x):=
  ⟨fun n y h=>by
    have hn:n<g.β.length:=(List.getElem?_eq_some_iff.1 h).1
    simp only [Ctx.add]
    rw [List.getElem?_append_left hn];exact h,fun _ _ _ h=>h⟩
theorem Ctx.add_get (g:Ctx) (x:Option Reg):(g.add x).β[g.β.length]?=some x:=by simp [Ctx.add]
theorem Ctx.add_get_other {g:Ctx} {x y:Option Reg} {n:Nat} (hn:n≠g.β.length) (h:(g.add x).β[n]?=some y):g.β[n]?=some y:=by
  simp only [Ctx.add] at h
  rcases Nat.lt_or_ge n g.β.length with h1 | h1
  · rw [List.getElem?_append_left h1] at h;exact h
  · rw [List.getElem?_append_right h1] at h
    have:n-g.β.length≠0:=by omega
    cases hk:n-g.β.length with
    | zero=>exact absurd hk this
    | succ k=>rw [hk] at h;simp at h
theorem Mem0.lt_next {g:Ctx} {B:Blks} {w:World} (h:Mem0 g B w) {n:Nat} {k:Blk} (hn:B.get n=some k):n<g.β.length:=by
  obtain⟨x,hx,_⟩:=h.reg n k hn
  exact (List.getElem?_eq_some_iff.1 hx).1
theorem Mem.alloc {F:Fr} {g:Ctx} {m:MS} {w:World} (h:Mem F g m w) (c:Array Value) (T:TypeId) (k:Blk)
    (hk:BlkOK (g.add (some ⟨w.heap.size,0,c.size⟩)) ⟨w.heap.size,0,c.size⟩ (push w c T) k) :
    Mem F (g.add (some ⟨w.heap.size,0,c.size⟩)) {m with blks:=(m.next,k)::m.blks,next:=m.next+1} (push w c T):=by
  have hle:=g.le_add (some ⟨w.heap.size,0,c.size⟩)
  have hnx:=h.next
  have hget:∀n k',Blks.get ((m.next,k)::m.blks) n=some k'→(n=m.next∧k'=k)∨(n≠m.next∧m.blks.get n=some k'):=by
    intro n k' hn
    by_cases e:n=m.next
    · subst e;rw [Blks.get_cons_same] at hn;exact .inl ⟨rfl,(Option.some.inj hn).symm⟩
    · rw [Blks.get_cons_other _ _ e] at hn;exact .inr ⟨e,hn⟩
  have hold:∀n k',m.blks.get n=some k' → ∀r,g.β[n]?=some (some r)→r.b<w.heap.size:=by
    intro n k' hn r hr
    obtain⟨x,hx,hok⟩:=h.mem.reg n k' hn
    rw [hr] at hx
    cases hx
    exact hok.1.lt
  refine⟨⟨?_,?_,?_,?_⟩,by simp [Ctx.add,hnx],?_,h.ext,?_⟩
  · intro n k' hn
    rcases hget n k' hn with ⟨rfl,rfl⟩ | ⟨hne,hn⟩
    · refine⟨some ⟨w.heap.size,0,c.size⟩,by rw [hnx];exact Ctx.add_get _ _,RegOK.cells push_get (by simp) hk,hk⟩
    · obtain⟨x,hx,hok⟩:=h.mem.reg n k' hn
      refine⟨x,hle.β _ _ hx,hok.congr hle fun r e=>?_⟩
      subst e
      exact push_other hok.1.lt
  · intro n n' k1 k2 r r' h1 h2 hr hr' hb
    rcases hget n k1 h1 with ⟨e1,e2⟩ | ⟨hne,g1⟩<;>rcases hget n' k2 h2 with ⟨e3,e4⟩ | ⟨hne',g2⟩
    · rw [e1,e3]
    · subst e1
      rw [hnx,Ctx.add_get] at hr
      have:=hold n' k2 g2 r' (Ctx.add_get_other (by rw [←hnx];exact hne') hr')
      cases hr
      simp at hb
      omega
    · subst e3
      rw [hnx,Ctx.add_get] at hr'
      have:=hold n k1 g1 r (Ctx.add_get_other (by rw [←hnx];exact hne) hr)
      cases hr'
      simp at hb
      omega
    · exact h.mem.inj n n' k1 k2 r r' g1 g2 (Ctx.add_get_other (by rw [←hnx];exact hne) hr) (Ctx.add_get_other (by rw [←hnx];exact hne') hr') hb
  · intro b o v hv
    have:=h.mem.ro b o v hv
    rw [cell?_congr (push_other (cell?_lt this))]
    exact this
  · intro n k' r o hn hr
    rcases hget n k' hn with ⟨rfl,rfl⟩ | ⟨hne,hn⟩
    · rw [hnx,Ctx.add_get] at hr
      cases hr
      show g.Γ w.heap.size o=none
      cases hv:g.Γ w.heap.size o with
      | none=>rfl
      | some v=>exact absurd (cell?_lt (h.mem.ro _ _ _ hv)) (Nat.lt_irrefl _)
    · exact h.mem.apart n k' r o hn (Ctx.add_get_other (by rw [←hnx];exact hne) hr)
  · intro n k' r hn hr
    rcases hget n k' hn with ⟨rfl,rfl⟩ | ⟨hne,hn⟩
    · rw [hnx,Ctx.add_get] at hr
      cases hr
      exact .inl h.fix.size
    · exact h.own n k' r hn (Ctx.add_get_other (by rw [←hnx];exact hne) hr)
  · refine⟨by have:=h.fix.size;rw [push_size];omega,fun b hb hM=>?_,h.fix.os,h.fix.out⟩
    · rw [push_other (by have:=h.fix.size;omega)]
      exact h.fix.keep b hb hM
theorem Mem.write {F:Fr} {g:Ctx} {m:MS} {w:World} (h:Mem F g m w) {n:Nat} {k k':Blk} {r:Reg} (hn:m.blks.get n=some k) (hr:g.β[n]?=some (some r))
    {c c':Array Value} {T:TypeId} (hc:w.heap[r.b]?=some (.cells c T (0,0))) (hsz:c'.size=c.size) (hk:BlkOK g r (putBlk w r.b c' T) k') :
    Mem F g {m with blks:=m.blks.set n k',log:=n::m.log} (putBlk w r.b c' T):=by
  have hlt:r.b<w.heap.size:=(Array.getElem?_eq_some_iff.1 hc).1
  have hget:∀q y,(m.blks.set n k').get q=some y→(q=n∧y=k')∨(q≠n∧m.blks.get q=some y):=by
    intro q y hq
    by_cases e:q=n
    · subst e;rw [Blks.get_set_same] at hq;exact .inl ⟨rfl,(Option.some.inj hq).symm⟩
    · rw [Blks.get_set_other _ _ e] at hq;exact .inr ⟨e,hq⟩
  have hlive:∀q y,(m.blks.set n k').get q=some y → ∃y',m.blks.get q=some y':=by
    intro q y hq
    rcases hget q y hq with ⟨rfl,rfl⟩ | ⟨_,hq⟩
    · exact⟨k,hn⟩
    · exact⟨y,hq⟩
  refine⟨⟨?_,?_,?_,?_⟩,h.next,?_,h.ext,?_⟩
  · intro q y hq
    rcases hget q y hq with ⟨rfl,rfl⟩ | ⟨hne,hq⟩
    · obtain⟨x,hx,hok⟩:=h.mem.reg q k hn
      rw [hr] at hx
      cases hx
      have hs0:c.size=r.base+r.sz:=by
        have h1:=hok.1
        cases k with
        | kv l=>obtain⟨es,ck,hm⟩:=h1;rw [hc] at hm;cases hm
        | _=>obtain⟨c0,T0,hc0,hs0⟩:=h1;rw [hc] at hc0;cases hc0;exact hs0
      exact⟨some r,hr,RegOK.cells (putBlk_get hlt) (by rw [hsz,hs0]) hk,hk⟩
    · obtain⟨x,hx,hok⟩:=h.mem.reg q y hq
      refine⟨x,hx,hok.congr (Ctx.le.refl g) fun r' e=>?_⟩
      subst e
      refine putBlk_other fun e=>hne ?_
      exact h.mem.inj q n y k r' r hq hn hx hr e
  · intro q q' y y' r1 r2 h1 h2 hr1 hr2 hb
    obtain⟨z,h1⟩:=hlive q y h1
    obtain⟨z',h2⟩:=hlive q' y' h2
    exact h.mem.inj q q' z z' r1 r2 h1 h2 hr1 hr2 hb
  · intro b o v hv
    have hcell:=h.mem.ro b o v hv
    have hne:b≠r.b:=by
      intro e
      subst e
      have:=h.mem.apart n k r o hn hr
      rw [this] at hv
      cases hv
    rw [cell?_congr (putBlk_other hne)]
    exact hcell
  · intro q y r' o hq hr'
    obtain⟨z,hq⟩:=hlive q y hq
    exact h.mem.apart q z r' o hq hr'
  · intro q y r' hq hr'
    obtain⟨z,hq⟩:=hlive q y hq
    exact h.own q z r' hq hr'
  · refine⟨by have:=h.fix.size;simp [putBlk];omega,fun b hb hM=>?_,h.fix.os,h.fix.out⟩
    · have hne:b≠r.b:=by
        intro e
        subst e
        rcases h.own n k r hn hr with h1 | h1
        · omega
        · exact hM h1
      rw [putBlk_other hne]
      exact h.fix.keep b hb hM
theorem Mem.forget {F:Fr} {g:Ctx} {m:MS} {w:World} (h:Mem F g m w) (n:Nat):Mem F g {m with blks:=m.blks.del n,log:=n::m.log} w:=by
  have hget:∀q y,(m.blks.del n).get q=some y→m.blks.get q=some y:=by
    intro q y hq
    by_cases e:q=n
    · subst e;rw [Blks.get_del_same] at hq;cases hq
    · rw [Blks.get_del_other _ e] at hq;exact hq
  exact⟨⟨fun q y hq=>h.mem.reg q y (hget q y hq),fun q q' y y' r r' h1 h2=>h.mem.inj q q' y y' r r' (hget q y h1) (hget q' y' h2),h.mem.ro,
    fun q y r o hq=>h.mem.apart q y r o (hget q y hq)⟩,h.next,fun q y r hq=>h.own q y r (hget q y hq),h.ext,h.fix⟩
def MS.kill (m:MS) (n:Nat):MS:={m with blks:=m.blks.del n,log:=n::m.log}
theorem Mem.kill {F:Fr} {g:Ctx} {m:MS} {w:World} (h:Mem F g m w) (n:Nat):Mem F g (m.kill n) w:=h.forget n
def frz1 (B:Blks):SV→Option (Bool × SV × Nat)
  | .mslice c n lo len=>match B.get n with
    | some (.rows c' l)=>bif Nat.beq c.num c'.num then some (decide (lo+len≤l.length),.rslice false c' ((l.drop lo).take len),n) else none
    | _=>none
  | _=>none
def frzL:List SV→MS→Bool × List SV × MS
  | [],m=>(true,[],m)
  | x::r,m=>match frz1 m.blks x with
    | some (b,x',n)=>match frzL r (m.kill n) with
      | (b',r',m')=>(b&&b',x'::r',m')
    | none=>match frzL r m with
      | (b',r',m')=>(b',x::r',m')
def Ctx.still (g:Ctx) (w:World) (b0:Nat):Ctx:={g with Γ:=fun b o=>if b=b0 then w.cell? ⟨b,o,none⟩ else g.Γ b o}
theorem rows_still {g g':Ctx} {c:Tc} {l:List c.den} {vs:Nat→List Value} {w:World} {r:Reg} (hw:∀i,(vs i).length=c.width)
    (hrow:∀(i:Nat) x,l[i]?=some x→RepL g (enc c x) (vs i)) (hc:∀i,i<l.length → ∀(j:Nat) v,(vs i)[j]?=some v→w.cell? ⟨r.b,r.base+(i*c.width+j),none⟩=some v)
    (hg:∀sv v,Rep g sv v→Rep g' sv v) (hΓ:∀o v,w.cell? ⟨r.b,o,none⟩=some v→g'.Γ r.b o=some v) {lo len cap off:Nat} (hl:lo+len≤l.length) (hcap:len≤cap) (hby:len*c.bytes≤room47)
    (h3:cap=0∨(off=r.base+lo*c.width∧(lo+cap)*c.width≤r.sz)):Rep g' (.rslice false c ((l.drop lo).take len)) (.slice (some ⟨r.b,off,none⟩) len cap):=by
  have hlen:((l.drop lo).take len).length=len:=by simp;omega
  rcases h3 with h3 | ⟨h3,_⟩
  · have:len=0:=by omega
    subst this;subst h3
    simp only [List.take_zero]
    exact .rnil _ _
  · have:=Rep.rslice (g:=g') false c ((l.drop lo).take len) r.b off cap (fun i=>vs (lo+i)) (by rw [hlen];exact hcap) (by rw [hlen];exact hby) (fun i=>hw _) (fun i x hx j sv v a b=>by
      have hi:i<len:=by rw [←hlen];exact (List.getElem?_eq_some_iff.1 hx).1
      rw [List.getElem?_take_of_lt hi,List.getElem?_drop] at hx
      exact hg _ _ ((hrow _ _ hx).2 j sv v a b)) (fun i hi j v hv=>by
      rw [hlen] at hi
      refine hΓ _ _ ?_
      have:=hc (lo+i) (by omega) j v hv
      rw [h3,show r.base+lo*c.width+(i*c.width+j)=r.base+((lo+i)*c.width+j) by rw [Nat.add_mul];omega]
      exact this)
    rw [hlen] at this
    exact this
theorem Mem.freeze {F:Fr} {g:Ctx} {m:MS} {w:World} (h:Mem F g m w) {x x':SV} {n:Nat} (hf:frz1 m.blks x=some (true,x',n)) {v:Value} (rx:Rep g x v) :
    ∃g',g.le g'∧Mem F g' (m.kill n) w∧Rep g' x' v:=by
  unfold frz1 at hf
  split at hf
  case h_2=>cases hf
  rename_i c n' lo len
  split at hf
  case h_2=>cases hf
  rename_i c' l hn
  cases hb:Nat.beq c.num c'.num
  · rw [hb] at hf;cases hf
  rw [hb] at hf
  have ec:=Tc.num_inj (Nat.eq_of_beq_eq_true hb)
  subst ec
  simp only [cond_true,Option.some.injEq,Prod.mk.injEq,decide_eq_true_eq] at hf
  obtain⟨hle,rfl,rfl⟩:=hf
  have hk:=h.kill n'
  cases rx with
  | mslice0 _ _ _ a q hq=>
    refine⟨g,Ctx.le.refl g,hk,?_⟩
    simp only [List.take_zero]
    exact .rnil _ _
  | mslice _ _ _ _ cap off r hr h1 h2 h3=>
    have hlt:g.le (g.still w r.b):=⟨fun _ _ e=>e,fun b o v hv=>by
      by_cases e:b=r.b
      · subst e;rw [h.mem.apart _ _ r o hn hr] at hv;cases hv
      · simp only [Ctx.still];rw [if_neg e];exact hv⟩
    obtain⟨hreg,_,_,vs,hw,hrow,hc⟩:RegOK w r (.rows c l)∧BlkOK g r w (.rows c l):=by
      obtain⟨x,hx,hok⟩:=h.mem.reg _ _ hn
      rw [hr] at hx
      cases hx
      exact hok
    have hother:∀q y r',(m.kill n').blks.get q=some y→g.β[q]?=some (some r')→r'.b≠r.b:=by
      intro q y r' hq hr' e
      have hne:q≠n':=by intro e2;subst e2;simp only [MS.kill] at hq;rw [Blks.get_del_same] at hq;cases hq
      simp only [MS.kill] at hq
      rw [Blks.get_del_other _ hne] at hq
      exact hne (h.mem.inj q n' y _ r' r hq hn hr' hr e)
    refine⟨g.still w r.b,hlt,⟨⟨fun q y hq=>?_,hk.mem.inj,fun b o v hv=>?_,fun q y r' o hq hr'=>?_⟩,hk.next,hk.own,fun b o v hv=>?_,hk.fix⟩,?_⟩
    · obtain⟨x,hx,hok⟩:=hk.mem.reg q y hq
      exact⟨x,hx,hok.congr hlt fun _ _=>rfl⟩
    · simp only [Ctx.still] at hv
      split at hv
      · exact hv
      · exact h.mem.ro _ _ _ hv
    · simp only [Ctx.still]
      rw [if_neg (hother q y r' hq hr')]
      exact hk.mem.apart q y r' o hq hr'
    · simp only [Ctx.still] at hv
      split at hv
      · rename_i e;subst e;exact .inr (h.own _ _ r hn hr)
      · exact h.ext _ _ _ hv
    · exact rows_still hw hrow hc (fun _ _ q=>q.mono hlt) (fun o v hv=>by simp only [Ctx.still,if_true];exact hv) hle h1 h2 h3
theorem Mem.freezeL {F:Fr} {w:World}:∀ {xs:List SV} {g:Ctx} {m:MS} {xs':List SV} {m':MS},Mem F g m w→frzL xs m=(true,xs',m') → ∀ {us:List Value},RepL g xs us→
    ∃g',g.le g'∧Mem F g' m' w∧Upd m m'∧RepL g' xs' us
  | [],g,m,xs',m',h,hf,us,r=>by
    simp only [frzL,Prod.mk.injEq] at hf
    obtain⟨_,rfl,rfl⟩:=hf
    exact⟨g,Ctx.le.refl g,h,Upd.refl m,r⟩
  | x::xs,g,m,xs',m',h,hf,us,r=>by
    obtain⟨v,us,rfl,rx,r⟩:=r.uncons
    unfold frzL at hf
    split at hf
    · rename_i b x' n h1
      cases h2:frzL xs (m.kill n) with
      | mk b' q=>
        obtain⟨r',m''⟩:=q
        rw [h2] at hf
        simp only [Prod.mk.injEq,Bool.and_eq_true] at hf
        obtain⟨⟨rfl,rfl⟩,rfl,rfl⟩:=hf
        obtain⟨g1,l1,m1,x1⟩:=h.freeze h1 rx
        obtain⟨g2,l2,m2,u2,r2⟩:=Mem.freezeL m1 h2 (r.mono l1)
        refine⟨g2,l1.trans l2,m2,Upd.trans ?_ u2,.cons (x1.mono l2) r2⟩
        exact⟨⟨[n],rfl,fun q _ hq=>by simp only [MS.kill];exact Blks.get_del_other _ (fun e=>hq (by simp [e]))⟩,Nat.le_refl _⟩
    · cases h2:frzL xs m with
      | mk b' q=>
        obtain⟨r',m''⟩:=q
        rw [h2] at hf
        simp only [Prod.mk.injEq] at hf
        obtain⟨rfl,rfl,rfl⟩:=hf
        obtain⟨g2,l2,m2,u2,r2⟩:=Mem.freezeL h h2 r
        exact⟨g2,l2,m2,u2,.cons (rx.mono l2) r2⟩
inductive Res where
  | bad
  | ok (v:SV)
  | chk (b:Bool) (v:SV)
  | asm (p:Prop) (v:SV)
  | anyB (q:Bool→Prop) (f:Bool→SV)
def RunsTo (P:Program) (w:World) (g:Ctx) (s:Sem Value) (sv:SV):Prop:=∃v,s.run P w = .ok v w∧Rep g sv v
def Res.Sound (P:Program) (w:World) (g:Ctx) (s:Sem Value):Res→Prop
  | .bad=>True
  | .ok sv=>RunsTo P w g s sv
  | .chk b sv=>b=true→RunsTo P w g s sv
  | .asm p sv=>p∧RunsTo P w g s sv
  | .anyB q f=>∃b,q b∧RunsTo P w g s (f b)
def ikNum:IntKind→Nat
  | .i8=>0 | .i16=>1 | .i32=>2 | .i64=>3 | .u8=>4 | .u16=>5 | .u32=>6 | .u64=>7
theorem ikNum_inj {a b:IntKind} (h:Nat.beq (ikNum a) (ikNum b)=true):a=b:=by
  cases a<;>cases b<;>first | rfl | (simp [ikNum] at h)
def isPtr:SV→Bool
  | .mptr .. | .mrow .. | .rptr .. => true
  | _=>false
inductive Nilness where
  | nil | some | unknown | told (b:Bool)
def nilness:SV→Nilness
  | .nilp | .nils | .nilm | .nilfn | .nilif=>.nil
  | .mptr .. | .mrow .. | .rptr .. | .cslice .. | .fn .. | .iface .. | .mmap .. => .some
  | .rslice nn _ _=>bif nn then .some else .unknown
  | .tree t=>.told t.isNil
  | _=>.unknown
def binInt (op:BinOp) (k:IntKind) (a b:Int):Res:=
  match op with
  | .add=>.ok (.int k (k.wrap (a+b)))
  | .sub=>.ok (.int k (k.wrap (a-b)))
  | .mul=>.ok (.int k (k.wrap (a*b)))
  | .quo=>.chk (b != 0) (.int k (k.wrap (a.tdiv b)))
  | .rem=>.chk (b != 0) (.int k (a.tmod b))
  | .and=>.ok (.int k (k.wrap (BitVec.ofInt k.bits a &&& BitVec.ofInt k.bits b).toNat))
  | .or=>.ok (.int k (k.wrap (BitVec.ofInt k.bits a ||| BitVec.ofInt k.bits b).toNat))
  | .xor=>.ok (.int k (k.wrap (BitVec.ofInt k.bits a ^^^ BitVec.ofInt k.bits b).toNat))
  | .andNot=>.ok (.int k (k.wrap (BitVec.ofInt k.bits a &&& ~~~ BitVec.ofInt k.bits b).toNat))
  | .eql=>.ok (.bool (a==b))
  | .neq=>.ok (.bool (a != b))
  | .lss=>.ok (.bool (decide (a<b)))
  | .leq=>.ok (.bool (decide (a≤b)))
  | .gtr=>.ok (.bool (decide (a>b)))
  | .geq=>.ok (.bool (decide (a≥b)))
  | _=>.bad
theorem binInt_sound {P:Program} {w:World} {g:Ctx} (op:BinOp) (t:TypeId) (k:IntKind) (a b:Int) :
    (binInt op k a b).Sound P w g (binOp op t (.int k a) (.int k b)):=by
  cases op<;>simp only [binInt,Res.Sound,binOp,ne_eq,not_true_eq_false,if_false,Op.intArith,Op.intDiv,Op.intBits,Op.intCmp]
  all_goals first
    | trivial
    | (refine⟨_,rfl,?_⟩;constructor)
    | (intro hb;rw [if_neg (by simpa using hb)];refine⟨_,rfl,?_⟩;constructor)
def shiftInt (op:BinOp) (k:IntKind) (a b:Int):Res:=
  match op with
  | .shl=>.chk (decide (0≤b)) (.int k (k.wrap (a*2 ^ (min b.toNat k.bits))))
  | .shr=>.chk (decide (0≤b)) (.int k (a.fdiv (2 ^ (min b.toNat k.bits))))
  | _=>.bad
theorem shiftInt_sound {P:Program} {w:World} {g:Ctx} (op:BinOp) (t:TypeId) (k k':IntKind) (a b:Int) :
    (shiftInt op k a b).Sound P w g (binOp op t (.int k a) (.int k' b)):=by
  cases op<;>simp only [shiftInt,Res.Sound,binOp,Op.shift,decide_eq_true_eq]
  all_goals first
    | trivial
    | (intro hb;rw [if_neg (by omega)];refine⟨_,rfl,?_⟩;constructor)
def binStr (op:BinOp) (a b:Bs):Res:=
  match op with
  | .add=>.chk (decide (a.length+b.length≤maxI64)) (.str (a++b))
  | .eql=>.ok (.bool (a==b))
  | .neq=>.ok (.bool !(a==b))
  | .lss=>.ok (.bool (Op.bytesLess a b))
  | .leq=>.ok (.bool (Op.bytesLess a b||a==b))
  | .gtr=>.ok (.bool !(Op.bytesLess a b||a==b))
  | .geq=>.ok (.bool !(Op.bytesLess a b))
  | _=>.bad
theorem mkBA_append (a b:Bs):(⟨⟨a⟩⟩:ByteArray)++⟨⟨b⟩⟩=⟨⟨a++b⟩⟩:=by
  apply ByteArray.ext
  rw [ByteArray.data_append]
  simp
theorem mkBA_toList (a:Bs):(⟨⟨a⟩⟩:ByteArray).toList=a:=by rw [ByteArray.toList_eq]
theorem mkBA_size (a:Bs):(⟨⟨a⟩⟩:ByteArray).size=a.length:=rfl
theorem binStr_sound {P:Program} {w:World} {g:Ctx} (op:BinOp) (t:TypeId) (a b:Bs) :
    (binStr op a b).Sound P w g (binOp op t (.string ⟨⟨a⟩⟩) (.string ⟨⟨b⟩⟩)):=by
  cases op<;>simp only [binStr,Res.Sound,binOp,Op.stringOp,mkBA_toList,mkBA_size]
  all_goals first
    | trivial
    | (refine⟨_,rfl,?_⟩;constructor)
    | skip
  intro hb
  have hb:=of_decide_eq_true hb
  rw [if_neg (by simp [IntKind.max,IntKind.signed,IntKind.bits,maxI64] at hb ⊢;omega),mkBA_append]
  exact⟨_,rfl,.str _ (by simpa using hb)⟩
def eqRes (op:BinOp) (b:Bool):Res:=
  match op with
  | .eql=>.ok (.bool b)
  | .neq=>.ok (.bool !b)
  | _=>.bad
def svKind:SV→Nat
  | .nilp | .mptr .. | .mrow .. | .rptr .. | .tree _=>1
  | .nils | .emp _ | .mslice .. | .cslice .. | .rslice .. => 2
  | .nilm | .mmap _=>3
  | .nilfn | .fn .. => 4
  | .nilif | .iface .. => 5
  | _=>0
def descKind:TypeDesc→Nat
  | .pointer _=>1 | .slice _=>2 | .map .. => 3 | .func .. => 4 | .interface _=>5 | _=>6
def emptyP:SV→Prop
  | .rslice _ _ l=>l=[]
  | .mslice _ _ _ len=>len=0
  | _=>True
def eqAny (op:BinOp) (p:Prop):Res:=
  match op with
  | .eql=>.anyB (fun b=>b=true→p) fun b=>.bool b
  | .neq=>.anyB (fun b=>b=true→p) fun b=>.bool !b
  | _=>.bad
def eqNil (P:Program) (op:BinOp) (t:TypeId) (x y:SV):Res:=
  match P.underlying t with
  | some d=>
    bif Nat.beq (svKind x) (descKind d)&&Nat.beq (svKind y) (descKind d) then
      match nilness x,nilness y with
      | .nil,.nil=>bif Nat.beq (descKind d) 5 then .bad else eqRes op true
      | .nil,.some=>eqRes op false
      | .some,.nil=>eqRes op false
      | .unknown,.nil=>bif Nat.beq (descKind d) 5 then .bad else eqAny op (emptyP x)
      | .nil,.unknown=>bif Nat.beq (descKind d) 5 then .bad else eqAny op (emptyP y)
      | .told b,.nil=>bif Nat.beq (descKind d) 5 then .bad else eqRes op b
      | .nil,.told b=>bif Nat.beq (descKind d) 5 then .bad else eqRes op b
      | _,_=>.bad
    else .bad
  | none=>.bad
def eqCell (P:Program) (t:TypeId) (x y:SV):Option Bool:=
  match P.underlying t,x,y with
  | some (.int _),.int k a,.int k' b=>bif Nat.beq (ikNum k) (ikNum k') then some (a==b) else none
  | some .string,.str a,.str b=>some (a==b)
  | some .bool,.bool a,.bool b=>some (a==b)
  | _,_,_=>none
def eqFields (P:Program) (xs ys:List SV):List Field→Option Bool
  | []=>some true
  | f::r=>bif f.name == "_" then none else match xs[f.offset]?,ys[f.offset]? with
    | some x,some y=>match eqCell P f.type x y,eqFields P xs ys r with
      | some a,some b=>some (a&&b)
      | _,_=>none
    | _,_=>none
def eqStruct (P:Program) (op:BinOp) (t:TypeId) (xs ys:List SV):Res:=
  match P.underlying t with
  | some (.struct fs)=>bif P.stoodInHeld t||P.eqGuardType P.depth t then .bad else
    match eqFields P xs ys fs.toList with
    | some b=>eqRes op b
    | none=>.bad
  | _=>.bad
def binSV (P:Program) (op:BinOp) (t:TypeId):SV→SV→Res
  | .int k a,.int k' b=>
    match op with
    | .shl | .shr=>shiftInt op k a b
    | _=>bif Nat.beq (ikNum k) (ikNum k') then binInt op k a b else .bad
  | .str a,.str b=>binStr op a b
  | .bool a,.bool b=>match P.underlying t with
    | some .bool=>eqRes op (a==b)
    | _=>.bad
  | .agg xs,.agg ys=>eqStruct P op t xs ys
  | x,y=>eqNil P op t x y
theorem eqRes_sound {P:Program} {w:World} {g:Ctx} {op:BinOp} {t:TypeId} {x y:Value} {b:Bool}
    (hb:∀op,binOp op t x y=match op with | .eql=>(do pure (.bool (←Op.equal t x y))) | .neq=>(do pure (.bool (!(←Op.equal t x y)))) | _=>binOp op t x y)
    (he:(Op.equal t x y).run P w = .ok b w):(eqRes op b).Sound P w g (binOp op t x y):=by
  cases op<;>simp only [eqRes,Res.Sound]
  · rw [hb .eql];exact⟨_,by simp [he],.bool _⟩
  · rw [hb .neq];exact⟨_,by simp [he],.bool _⟩
def isNilV:Value→Option Bool
  | .pointer a=>some a.isNone
  | .slice a _ _=>some a.isNone
  | .map r=>some r.isNone
  | .nilFunc=>some true
  | .func .. => some false
  | .nilIface=>some true
  | .iface .. => some false
  | _=>none
theorem nilness_nil {g:Ctx} {x:SV} {v:Value} (h:nilness x = .nil) (r:Rep g x v):isNilV v=some true:=by
  cases r<;>simp [nilness] at h<;>first | rfl | (split at h<;>cases h) | (rename_i nn _ _ _ _ _ _ _ _ _ _ _;cases nn<;>simp at h)
theorem nilness_some {g:Ctx} {x:SV} {v:Value} (h:nilness x = .some) (r:Rep g x v):isNilV v=some false:=by
  cases r<;>simp [nilness] at h<;>rfl
theorem nilness_told {g:Ctx} {x:SV} {v:Value} {b:Bool} (h:nilness x = .told b) (r:Rep g x v):isNilV v=some b:=by
  cases r<;>simp [nilness] at h
  case rslice nn c l b off cap vs h1 h2 h3 h4 h5=>cases nn<;>simp at h
  case treeNil t ht=>rw [←h,ht];rfl
  case tree t b off vs h0 h1 h2 h3=>rw [←h,h0];rfl
def fitV:TypeDesc→Value→Value→Bool
  | .pointer _,.pointer _,.pointer _=>true
  | .slice _,.slice ..,.slice .. => true
  | .map ..,.map _,.map _=>true
  | .func ..,.nilFunc,.nilFunc=>true
  | .func ..,.func ..,.nilFunc=>true
  | .func ..,.nilFunc,.func .. => true
  | .interface _,.nilIface,.iface .. => true
  | .interface _,.iface ..,.nilIface=>true
  | _,_,_=>false
theorem equal_nil {P:Program} {w:World} {t:TypeId} {x y:Value} {a b:Bool} (hx:isNilV x=some a) (hy:isNilV y=some b) (hab:(a||b)=true)
    {d:TypeDesc} (hu:P.underlying t=some d) (hfit:fitV d x y=true) :
    (Op.equal t x y).run P w = .ok (a&&b) w:=by
  obtain⟨n,hm⟩:∃n,Op.maxDepth=n+1:=⟨9999,rfl⟩
  unfold Op.equal
  rw [hm]
  unfold fitV at hfit
  split at hfit
  case h_9=>cases hfit
  all_goals simp [isNilV] at hx hy
  all_goals subst hx
  all_goals subst hy
  all_goals simp [Op.equalIn,underlying,hu]
  all_goals simp at hab
  · rename_i p q;cases p<;>cases q<;>simp at hab ⊢
  · rename_i p _ _ q _ _;cases p<;>cases q<;>simp at hab ⊢
  · rename_i p q;cases p<;>cases q<;>simp at hab ⊢
def vKind:Value→Nat
  | .pointer _=>1 | .slice .. => 2 | .map _=>3 | .nilFunc | .func .. => 4 | .nilIface | .iface .. => 5 | _=>0
theorem svKind_rep {g:Ctx} {x:SV} {v:Value} (r:Rep g x v) (h:svKind x≠0):vKind v=svKind x:=by
  cases r<;>first | rfl | (simp [svKind] at h)
theorem isNilV_kind {v:Value} (h:vKind v≠0):∃b,isNilV v=some b:=by
  cases v<;>simp [vKind] at h<;>exact⟨_,rfl⟩
theorem fitV_of {d:TypeDesc} {x y:Value} {a b:Bool} (hx:isNilV x=some a) (hy:isNilV y=some b) (hab:(a||b)=true) (h5:descKind d=5→(a&&b)=false)
    (kx:vKind x=descKind d) (ky:vKind y=descKind d):fitV d x y=true:=by
  cases d<;>simp [descKind] at kx ky h5<;>cases x<;>simp [vKind] at kx<;>cases y<;>simp [vKind] at ky<;>simp [isNilV] at hx hy<;>subst hx<;>subst hy<;>first | rfl | (simp at hab h5)
theorem binOp_eql_general {t:TypeId} {x y:Value} (kx:vKind x≠0):∀op,binOp op t x y=match op with | .eql=>(do pure (.bool (←Op.equal t x y))) | .neq=>(do pure (.bool (!(←Op.equal t x y)))) | _=>binOp op t x y:=by
  intro op
  cases op<;>simp only []<;>cases x<;>simp [vKind] at kx<;>cases y<;>simp [binOp]
theorem emptyP_rep {g:Ctx} {x:SV} {v:Value} (h:isNilV v=some true) (r:Rep g x v):emptyP x:=by
  cases r<;>simp [emptyP,isNilV] at h ⊢
theorem eqAny_sound {P:Program} {w:World} {g:Ctx} {op:BinOp} {t:TypeId} {x y:Value} {p:Prop} {b:Bool}
    (hb:∀op,binOp op t x y=match op with | .eql=>(do pure (.bool (←Op.equal t x y))) | .neq=>(do pure (.bool (!(←Op.equal t x y)))) | _=>binOp op t x y)
    (he:(Op.equal t x y).run P w = .ok b w) (hp:b=true→p):(eqAny op p).Sound P w g (binOp op t x y):=by
  cases op<;>simp only [eqAny,Res.Sound]
  · rw [hb .eql];exact⟨b,hp,_,by simp [he],.bool _⟩
  · rw [hb .neq];exact⟨b,hp,_,by simp [he],.bool _⟩
theorem eqNil_sound {P:Program} {w:World} {g:Ctx} (op:BinOp) (t:TypeId) {x y:SV} {u v:Value} (hx:Rep g x u) (hy:Rep g y v) :
    (eqNil P op t x y).Sound P w g (binOp op t u v):=by
  unfold eqNil
  split
  case h_2=>trivial
  rename_i d hu
  cases hk:(Nat.beq (svKind x) (descKind d)&&Nat.beq (svKind y) (descKind d))
  case false=>trivial
  simp only [cond_true]
  simp only [Bool.and_eq_true,Nat.beq_eq] at hk
  obtain⟨k1,k2⟩:=hk
  have hd0:descKind d≠0:=by cases d<;>simp [descKind]
  have k1':vKind u=descKind d:=by rw [svKind_rep hx (by rw [k1];exact hd0),k1]
  have k2':vKind v=descKind d:=by rw [svKind_rep hy (by rw [k2];exact hd0),k2]
  have key:∀a b,isNilV u=some a→isNilV v=some b→(a||b)=true→(descKind d=5→(a&&b)=false)→(eqRes op (a&&b)).Sound P w g (binOp op t u v):=
    fun a b ha hb hab h5=>eqRes_sound (binOp_eql_general (by rw [k1'];exact hd0)) (equal_nil ha hb hab hu (fitV_of ha hb hab h5 k1' k2'))
  split
  · rename_i n1 n2
    cases h5:Nat.beq (descKind d) 5
    · simp only [cond_false]
      exact key true true (nilness_nil n1 hx) (nilness_nil n2 hy) rfl (fun h=>by rw [h] at h5;simp at h5)
    · trivial
  · rename_i n1 n2
    exact key true false (nilness_nil n1 hx) (nilness_some n2 hy) rfl (fun _=>rfl)
  · rename_i n1 n2
    exact key false true (nilness_some n1 hx) (nilness_nil n2 hy) rfl (fun _=>rfl)
  · rename_i n1 n2
    obtain⟨b,hb⟩:=isNilV_kind (v:=u) (by rw [k1'];exact hd0)
    cases h5:Nat.beq (descKind d) 5
    · simp only [cond_false]
      have h5':descKind d≠5:=fun h=>by rw [h] at h5;simp at h5
      have he:=equal_nil (P:=P) (w:=w) hb (nilness_nil n2 hy) (by simp) hu (fitV_of hb (nilness_nil n2 hy) (by simp) (fun h=>absurd h h5') k1' k2')
      rw [Bool.and_true] at he
      exact eqAny_sound (binOp_eql_general (by rw [k1'];exact hd0)) he (fun e=>by subst e;exact emptyP_rep hb hx)
    · trivial
  · rename_i n1 n2
    obtain⟨b,hb⟩:=isNilV_kind (v:=v) (by rw [k2'];exact hd0)
    cases h5:Nat.beq (descKind d) 5
    · simp only [cond_false]
      have h5':descKind d≠5:=fun h=>by rw [h] at h5;simp at h5
      have he:=equal_nil (P:=P) (w:=w) (nilness_nil n1 hx) hb (by simp) hu (fitV_of (nilness_nil n1 hx) hb (by simp) (fun h=>absurd h h5') k1' k2')
      rw [Bool.true_and] at he
      exact eqAny_sound (binOp_eql_general (by rw [k1'];exact hd0)) he (fun e=>by subst e;exact emptyP_rep hb hy)
    · trivial
  · rename_i b n1 n2
    cases h5:Nat.beq (descKind d) 5
    · simp only [cond_false]
      have:=key b true (nilness_told n1 hx) (nilness_nil n2 hy) (by simp) (fun h=>by rw [h] at h5;simp at h5)
      rwa [Bool.and_true] at this
    · trivial
  · rename_i b n1 n2
    cases h5:Nat.beq (descKind d) 5
    · simp only [cond_false]
      have:=key true b (nilness_nil n1 hx) (nilness_told n2 hy) (by simp) (fun h=>by rw [h] at h5;simp at h5)
      rwa [Bool.true_and] at this
    · trivial
  · trivial
def notAgg:TypeDesc→Bool
  | .struct _ | .array .. => false
  | _=>true
theorem run_part {P:Program} {w:World} {t:TypeId} {d:TypeDesc} (hu:P.underlying t=some d) (hd:notAgg d=true) {cs:Array Value} {o:Nat} {v:Value} (h:cs[o]?=some v):(part t cs o).run P w = .ok v w:=by
  have:(isAgg t).run P w = .ok false w:=by
    unfold isAgg
    cases d<;>simp [underlying,hu,notAgg] at hd ⊢
  simp [part,this,h]
theorem eqCell_sound {P:Program} {w:World} {g:Ctx} {t:TypeId} {x y:SV} {u v:Value} {b:Bool} (h:eqCell P t x y=some b) (hx:Rep g x u) (hy:Rep g y v) (n:Nat) :
    (Op.equalIn (n+1) t u v).run P w = .ok b w ∧ ∃d,P.underlying t=some d∧notAgg d=true:=by
  unfold eqCell at h
  split at h
  · rename_i k0 k a k' b' hu
    cases hb:Nat.beq (ikNum k) (ikNum k')
    · rw [hb] at h;cases h
    rw [hb] at h
    cases h
    have:=ikNum_inj hb
    subst this
    cases hx
    cases hy
    exact⟨by simp [Op.equalIn,underlying,hu],_,hu,rfl⟩
  · rename_i hu
    cases h
    cases hx
    cases hy
    refine⟨?_,_,hu,rfl⟩
    simp only [Op.equalIn,underlying,Sem.run_bind,run_program,Result.andThen_ok,hu,Sem.run_pure]
    congr 1
    rename_i a b _ _
    show ((⟨a⟩:Array UInt8)==⟨b⟩)=_
    simp
  · rename_i hu
    cases h
    cases hx
    cases hy
    exact⟨by simp [Op.equalIn,underlying,hu],_,hu,rfl⟩
  · cases h
theorem eqFields_sound {P:Program} {w:World} {g:Ctx} {xs ys:List SV} {us vs:List Value} (hx:RepL g xs us) (hy:RepL g ys vs) (n:Nat):∀(fs:List Field) (b:Bool),eqFields P xs ys fs=some b→
    ∃r:Option Bool × Unit,(r.fst=if b then none else some false)∧
      (forIn fs ((none,()):Option Bool × Unit) (fun f _=>
        if f.name ≠ "_" then do
          let x ←part f.type ⟨us⟩ f.offset
          let y ←part f.type ⟨vs⟩ f.offset
          let e ←Op.equalIn (n+1) f.type x y
          if (!e)=true then pure (.done (some false,())) else pure (.yield (none,()))
        else (pure (.yield (none,())):Sem (ForInStep (Option Bool × Unit))))).run P w = .ok r w:=by
  intro fs
  induction fs with
  | nil=>intro b h;simp [eqFields] at h;subst h;exact⟨(none,()),rfl,by simp⟩
  | cons f r ih=>
    intro b h
    unfold eqFields at h
    cases hn:(f.name == "_")
    · rw [hn] at h
      simp only [cond_false] at h
      split at h
      · rename_i x y h1 h2
        split at h
        · rename_i a c h3 h4
          cases h
          obtain⟨u,hu,ru⟩:=hx.get h1
          obtain⟨v,hv,rv⟩:=hy.get h2
          obtain⟨he,d,hd,hd'⟩:=eqCell_sound (P:=P) (w:=w) h3 ru rv n
          have p1:=run_part (P:=P) (w:=w) hd hd' (cs:=⟨us⟩) (o:=f.offset) (v:=u) (by simpa using hu)
          have p2:=run_part (P:=P) (w:=w) hd hd' (cs:=⟨vs⟩) (o:=f.offset) (v:=v) (by simpa using hv)
          have hne:f.name ≠ "_" := by simpa using hn
          obtain⟨res,hr1,hr2⟩:=ih c h4
          cases a with
          | true=>
            refine⟨res,by simpa using hr1,?_⟩
            rw [List.forIn_cons]
            simp only [Sem.run_bind,hne,ne_eq,not_false_eq_true,if_true,p1,p2,he,Result.andThen_ok,Bool.not_true,Bool.false_eq_true,if_false,Sem.run_pure]
            exact hr2
          | false=>
            refine⟨(some false,()),rfl,?_⟩
            rw [List.forIn_cons]
            simp only [Sem.run_bind,hne,ne_eq,not_false_eq_true,if_true,p1,p2,he,Result.andThen_ok,Bool.not_false,Sem.run_pure]
        · cases h
      · cases h
    · rw [hn] at h;cases h
theorem equal_struct {P:Program} {w:World} {g:Ctx} {t:TypeId} {fs:Array Field} (hu:P.underlying t=some (.struct fs)) (hs:P.stoodInHeld t=false) {xs ys:List SV} {us vs:List Value} (hx:RepL g xs us) (hy:RepL g ys vs)
    {b:Bool} (h:eqFields P xs ys fs.toList=some b):(Op.equal t (.agg ⟨us⟩) (.agg ⟨vs⟩)).run P w = .ok b w:=by
  obtain⟨n,hm⟩:∃n,Op.maxDepth=n+1+1:=⟨9998,rfl⟩
  unfold Op.equal
  rw [hm]
  obtain⟨r,h1,h2⟩:=eqFields_sound (P:=P) (w:=w) hx hy n fs.toList b h
  unfold Op.equalIn
  simp only [underlying,Sem.run_bind,run_program,Result.andThen_ok,hu,Sem.run_pure,hs,Bool.false_eq_true,if_false]
  rw [←Array.forIn_toList]
  rw [h2]
  simp only [Result.andThen_ok,h1]
  cases b<;>simp
theorem eqStruct_sound {P:Program} {w:World} {g:Ctx} (op:BinOp) (t:TypeId) {xs ys:List SV} {u v:Value} (hx:Rep g (.agg xs) u) (hy:Rep g (.agg ys) v) :
    (eqStruct P op t xs ys).Sound P w g (binOp op t u v):=by
  unfold eqStruct
  split
  · rename_i fs hu
    cases hc:(P.stoodInHeld t||P.eqGuardType P.depth t)
    · simp only [cond_false]
      simp only [Bool.or_eq_false_iff] at hc
      split
      · rename_i b hb
        cases hx with
        | agg _ us a1 a2=>
          cases hy with
          | agg _ vs b1 b2=>
            refine eqRes_sound (fun op=>?_) (equal_struct hu hc.1 ⟨a1,a2⟩ ⟨b1,b2⟩ hb)
            cases op<;>simp [binOp]
      · trivial
    · trivial
  · trivial
theorem binSV_sound {P:Program} {w:World} {g:Ctx} (op:BinOp) (t:TypeId) {x y:SV} {u v:Value} (hx:Rep g x u) (hy:Rep g y v) :
    (binSV P op t x y).Sound P w g (binOp op t u v):=by
  unfold binSV
  split
  · rename_i k a k' b
    cases hx
    cases hy
    split
    · exact shiftInt_sound _ _ _ _ _ _
    · exact shiftInt_sound _ _ _ _ _ _
    · cases h:Nat.beq (ikNum k) (ikNum k')
      · trivial
      · have:=ikNum_inj h
        subst this
        exact binInt_sound _ _ _ _ _
  · cases hx
    cases hy
    exact binStr_sound _ _ _ _
  · rename_i a b
    cases hx
    cases hy
    split
    · rename_i hu
      refine eqRes_sound (fun op=>?_) ?_
      · cases op<;>simp [binOp]
      · obtain⟨n,hm⟩:∃n,Op.maxDepth=n+1:=⟨9999,rfl⟩
        unfold Op.equal
        rw [hm]
        simp [Op.equalIn,underlying,hu]
    · trivial
  · exact eqStruct_sound op t hx hy
  · exact eqNil_sound op t hx hy
universe u
inductive CRes where
  | bad
  | ok (cs:List SV)
  | chk (b:Bool) (cs:List SV)
def readC (B:Blks) (p:SV) (n:Nat):CRes:=
  match p with
  | .mptr q j=>match B.get q with
    | some (.cells cs)=>bif Nat.ble (j+n) cs.length then .ok ((cs.drop j).take n) else .bad
    | _=>.bad
  | .mrow c q i j=>match B.get q with
    | some (.rows c' l)=>bif Nat.beq c.num c'.num&&Nat.ble (j+n) c'.width then .chk (decide (i<l.length)) (((enc c' (l.getD i c'.dflt)).drop j).take n) else .bad
    | _=>.bad
  | .rptr cs=>bif Nat.ble n cs.length then .ok (cs.take n) else .bad
  | _=>.bad
def PointsTo (g:Ctx) (w:World) (v:Value) (cs:List SV):Prop:=
  ∃b o vs,v = .pointer (some ⟨b,o,none⟩)∧RepL g cs vs ∧ ∀(j:Nat) u,vs[j]?=some u→w.cell? ⟨b,o+j,none⟩=some u
theorem PointsTo.part {g:Ctx} {w:World} {b o:Nat} {cs:List SV} {vs:List Value} (r:RepL g cs vs) (h:∀(j:Nat) u,vs[j]?=some u→w.cell? ⟨b,o+j,none⟩=some u) (j n:Nat) :
    PointsTo g w (.pointer (some ⟨b,o+j,none⟩)) ((cs.drop j).take n):=
  ⟨b,o+j,(vs.drop j).take n,rfl,(r.drop j).take n,fun i u hi=>by
    have hi2:(vs.drop j)[i]?=some u:=by
      rcases Nat.lt_or_ge i n with h1 | h1
      · rwa [List.getElem?_take_of_lt h1] at hi
      · rw [List.getElem?_eq_none (by simp;omega)] at hi;simp at hi
    rw [List.getElem?_drop] at hi2
    rw [show o+j+i=o+(j+i) by omega]
    exact h _ _ hi2⟩
def CRes.Sound (g:Ctx) (w:World) (v:Value) (n:Nat):CRes→Prop
  | .bad=>True
  | .ok cs=>PointsTo g w v cs∧cs.length=n
  | .chk b cs=>b=true→PointsTo g w v cs∧cs.length=n
theorem PointsTo.take {g:Ctx} {w:World} {v:Value} {cs:List SV} (h:PointsTo g w v cs) (n:Nat):PointsTo g w v (cs.take n):=by
  obtain⟨b,o,vs,rfl,r,hc⟩:=h
  have:=PointsTo.part r hc 0 n
  simpa using this
theorem Mem0.at_name {g:Ctx} {B:Blks} {w:World} (h:Mem0 g B w) {n:Nat} {k:Blk} (hn:B.get n=some k) {r:Reg} (hr:g.β[n]?=some (some r)):RegOK w r k∧BlkOK g r w k:=by
  obtain⟨x,hx,hok⟩:=h.reg n k hn
  rw [hr] at hx
  cases hx
  exact hok
theorem readC_sound {g:Ctx} {B:Blks} {w:World} (h:Mem0 g B w) {p:SV} {v:Value} (r:Rep g p v) (n:Nat):(readC B p n).Sound g w v n:=by
  unfold readC
  split
  · rename_i q j
    split
    · rename_i cs hq
      cases hb:Nat.ble (j+n) cs.length
      · trivial
      · have hb:=Nat.le_of_ble_eq_true hb
        cases r with
        | mptr n j r hr=>
          obtain⟨_,_,vs,rv,hc⟩:=h.at_name hq hr
          exact⟨PointsTo.part rv hc j _,by simp;omega⟩
    · trivial
  · rename_i c q i j
    split
    · rename_i c' l hq
      cases hb:(Nat.beq c.num c'.num&&Nat.ble (j+n) c'.width)
      · trivial
      · simp only [Bool.and_eq_true] at hb
        obtain⟨e,hb⟩:=hb
        have e:=Tc.num_inj (Nat.eq_of_beq_eq_true e)
        subst e
        have hb:=Nat.le_of_ble_eq_true hb
        intro hi
        have hi:=of_decide_eq_true hi
        cases r with
        | mrow _ _ _ _ r hr=>
          obtain⟨_,_,_,vs,hw,rv,hc⟩:=h.at_name hq hr
          have hx:l[i]?=some (l.getD i c.dflt):=by simp [hi]
          have:=PointsTo.part (w:=w) (b:=r.b) (o:=r.base+i*c.width) (rv i _ hx) (fun k u hk=>by
            rw [show r.base+i*c.width+k=r.base+(i*c.width+k) by omega]
            exact hc i hi k u hk) j n
          rw [show r.base+i*c.width+j=r.base+(i*c.width+j) by omega] at this
          exact⟨this,by simp [enc_length];omega⟩
    · trivial
  · rename_i cs
    cases hb:Nat.ble n cs.length
    · trivial
    · have hb:=Nat.le_of_ble_eq_true hb
      cases r with
      | rptr cs b off vs hl hr hc=>
        exact⟨PointsTo.take ⟨b,off,vs,rfl,⟨hl,hr⟩,fun j u hj=>h.ro _ _ _ (hc j u hj)⟩ n,by simp;omega⟩
  · trivial
def aggD:TypeDesc→Bool
  | .struct _ | .array .. => true
  | _=>false
theorem info_of_underlying {P:Program} {t:TypeId} {d:TypeDesc} (h:P.underlying t=some d):∃i,P.info? t=some i∧P.cellsOf t=i.size∧P.bytesOf t=i.bytes:=by
  unfold Program.underlying at h
  cases hi:P.info? t with
  | none=>rw [hi] at h;cases h
  | some i=>exact⟨i,rfl,by simp [Program.cellsOf,hi],by simp [Program.bytesOf,hi]⟩
theorem run_underlying' {P:Program} {w:World} {t:TypeId} {d:TypeDesc} (h:P.underlying t=some d):(underlying t).run P w = .ok d w:=by
  simp [underlying,h]
theorem run_sizeOf' {P:Program} {w:World} {t:TypeId} {d:TypeDesc} (h:P.underlying t=some d):(sizeOf t).run P w = .ok (P.cellsOf t) w:=by
  obtain⟨i,hi,hs,_⟩:=info_of_underlying h
  simp [sizeOf,typeInfo,hi,hs]
theorem run_isAgg' {P:Program} {w:World} {t:TypeId} {d:TypeDesc} (h:P.underlying t=some d):(isAgg t).run P w = .ok (aggD d) w:=by
  cases d<;>simp [isAgg,underlying,h,aggD]
theorem run_typeInfo' {P:Program} {w:World} {t:TypeId} {i:TypeInfo} (h:P.info? t=some i):(typeInfo t).run P w = .ok i w:=by
  simp [typeInfo,h]
def CRes.toRes (f:List SV→Res):CRes→Res
  | .bad=>.bad
  | .ok cs=>f cs
  | .chk b cs=>match f cs with
    | .ok v=>.chk b v
    | _=>.bad
def loadSV (P:Program) (B:Blks) (t:TypeId) (p:SV):Res:=
  match P.underlying t with
  | none=>.bad
  | some d=>bif aggD d then (readC B p (P.cellsOf t)).toRes (fun cs=>.ok (.agg cs)) else (readC B p 1).toRes (fun cs=>match cs with | [v]=>.ok v | _=>.bad)
theorem load_agg {P:Program} {g:Ctx} {w:World} {t:TypeId} {d:TypeDesc} (hu:P.underlying t=some d) (hd:aggD d=true) {v:Value} {cs:List SV} (h:PointsTo g w v cs) (hl:cs.length=P.cellsOf t) :
    RunsTo P w g (Instr.loadAt t v) (.agg cs):=by
  obtain⟨b,o,vs,rfl,r,hc⟩:=h
  refine⟨.agg ⟨vs⟩,?_,.agg _ _ r.1 r.2⟩
  have:=run_loadCells (P:=P) hc
  rw [←r.1,hl] at this
  simp [Instr.loadAt,Instr.sureAddr,loadVar,run_isAgg' hu,hd,run_sizeOf' hu,this]
theorem load_one {P:Program} {g:Ctx} {w:World} {t:TypeId} {d:TypeDesc} (hu:P.underlying t=some d) (hd:aggD d=false) {v:Value} {sv:SV} (h:PointsTo g w v [sv]) :
    RunsTo P w g (Instr.loadAt t v) sv:=by
  obtain⟨b,o,vs,rfl,r,hc⟩:=h
  obtain⟨u,_,rfl,ru,_⟩:=r.uncons
  have h0:w.cell? ⟨b,o,none⟩=some u:=hc 0 u rfl
  exact⟨u,by simp [Instr.loadAt,Instr.sureAddr,loadVar,run_isAgg' hu,hd,h0],ru⟩
theorem loadSV_sound {P:Program} {g:Ctx} {B:Blks} {w:World} (h:Mem0 g B w) (t:TypeId) {p:SV} {v:Value} (r:Rep g p v) :
    (loadSV P B t p).Sound P w g (Instr.loadAt t v):=by
  unfold loadSV
  split
  · trivial
  · rename_i d hu
    cases hd:aggD d
    · simp only [cond_false]
      have hr:=readC_sound h r 1
      cases hc:readC B p 1 with
      | bad=>trivial
      | ok cs=>
        rw [hc] at hr
        simp only [CRes.toRes]
        split
        · exact load_one hu hd hr.1
        · trivial
      | chk b cs=>
        rw [hc] at hr
        simp only [CRes.toRes]
        split
        · rename_i sv heq
          split at heq
          · cases heq
            exact fun hb=>load_one hu hd (hr hb).1
          · cases heq
        · trivial
    · simp only [cond_true]
      have hr:=readC_sound h r (P.cellsOf t)
      cases hc:readC B p (P.cellsOf t) with
      | bad=>trivial
      | ok cs=>rw [hc] at hr;exact load_agg hu hd hr.1 hr.2
      | chk b cs=>rw [hc] at hr;exact fun hb=>load_agg hu hd (hr hb).1 (hr hb).2
def addOff:SV→Nat→SV
  | .mptr n j,o=>.mptr n (j+o)
  | .mrow c n i j,o=>.mrow c n i (j+o)
  | .rptr cs,o=>.rptr (cs.drop o)
  | _,_=>.undef
theorem addOff_rep {g:Ctx} {x:SV} (hx:isPtr x=true) {v:Value} (r:Rep g x v) (o:Nat):∃b j,v = .pointer (some ⟨b,j,none⟩)∧Rep g (addOff x o) (.pointer (some ⟨b,j+o,none⟩)):=by
  cases r<;>simp [isPtr] at hx
  case mptr n j r hr=>exact⟨_,_,rfl,by rw [Nat.add_assoc];exact .mptr n (j+o) r hr⟩
  case mrow c n i j r hr=>exact⟨_,_,rfl,by rw [Nat.add_assoc,Nat.add_assoc];exact .mrow c n i (j+o) r hr⟩
  case rptr cs b off vs h1 h2 h3=>
    refine⟨_,_,rfl,.rptr (cs.drop o) b (off+o) (vs.drop o) (by simp [h1]) (fun j sv v a b=>?_) (fun j v a=>?_)⟩
    · exact h2 (o+j) sv v (by simpa using a) (by simpa using b)
    · rw [Nat.add_assoc]
      exact h3 (o+j) v (by simpa using a)
theorem cond_blt {α:Sort u} {n m:Nat} {a b c:α} (h1:n<m→a=c) (h2:m≤n→b=c):(bif Nat.blt n m then a else b)=c:=by
  rcases Nat.lt_or_ge n m with h | h
  · rw [show Nat.blt n m=true by simpa using h];exact h1 h
  · have:Nat.blt n m=false:=by
      cases hb:Nat.blt n m
      · rfl
      · have:n<m:=by simpa using hb
        omega
    rw [this];exact h2 h
def nowN {α:Sort u} (n:Nat) (f:Nat→α):α:=
  bif Nat.blt n 64 then (bif Nat.blt n 32 then (bif Nat.blt n 16 then (bif Nat.blt n 8 then (bif Nat.blt n 4 then (bif Nat.blt n 2 then (bif Nat.blt n 1 then (f 0) else (f 1)) else (bif Nat.blt n 3 then (f 2) else (f 3))) else (bif Nat.blt n 6 then (bif Nat.blt n 5 then (f 4) else (f 5)) else (bif Nat.blt n 7 then (f 6) else (f 7)))) else (bif Nat.blt n 12 then (bif Nat.blt n 10 then (bif Nat.blt n 9 then (f 8) else (f 9)) else (bif Nat.blt n 11 then (f 10) else (f 11))) else (bif Nat.blt n 14 then (bif Nat.blt n 13 then (f 12) else (f 13)) else (bif Nat.blt n 15 then (f 14) else (f 15))))) else (bif Nat.blt n 24 then (bif Nat.blt n 20 then (bif Nat.blt n 18 then (bif Nat.blt n 17 then (f 16) else (f 17)) else (bif Nat.blt n 19 then (f 18) else (f 19))) else (bif Nat.blt n 22 then (bif Nat.blt n 21 then (f 20) else (f 21)) else (bif Nat.blt n 23 then (f 22) else (f 23)))) else (bif Nat.blt n 28 then (bif Nat.blt n 26 then (bif Nat.blt n 25 then (f 24) else (f 25)) else (bif Nat.blt n 27 then (f 26) else (f 27))) else (bif Nat.blt n 30 then (bif Nat.blt n 29 then (f 28) else (f 29)) else (bif Nat.blt n 31 then (f 30) else (f 31)))))) else (bif Nat.blt n 48 then (bif Nat.blt n 40 then (bif Nat.blt n 36 then (bif Nat.blt n 34 then (bif Nat.blt n 33 then (f 32) else (f 33)) else (bif Nat.blt n 35 then (f 34) else (f 35))) else (bif Nat.blt n 38 then (bif Nat.blt n 37 then (f 36) else (f 37)) else (bif Nat.blt n 39 then (f 38) else (f 39)))) else (bif Nat.blt n 44 then (bif Nat.blt n 42 then (bif Nat.blt n 41 then (f 40) else (f 41)) else (bif Nat.blt n 43 then (f 42) else (f 43))) else (bif Nat.blt n 46 then (bif Nat.blt n 45 then (f 44) else (f 45)) else (bif Nat.blt n 47 then (f 46) else (f 47))))) else (bif Nat.blt n 56 then (bif Nat.blt n 52 then (bif Nat.blt n 50 then (bif Nat.blt n 49 then (f 48) else (f 49)) else (bif Nat.blt n 51 then (f 50) else (f 51))) else (bif Nat.blt n 54 then (bif Nat.blt n 53 then (f 52) else (f 53)) else (bif Nat.blt n 55 then (f 54) else (f 55)))) else (bif Nat.blt n 60 then (bif Nat.blt n 58 then (bif Nat.blt n 57 then (f 56) else (f 57)) else (bif Nat.blt n 59 then (f 58) else (f 59))) else (bif Nat.blt n 62 then (bif Nat.blt n 61 then (f 60) else (f 61)) else (bif Nat.blt n 63 then (f 62) else (f 63))))))) else f n
theorem nowN_eq {α:Sort u} (n:Nat) (f:Nat→α):nowN n f=f n:=by
  unfold nowN
  repeat' (refine cond_blt (fun _=>?_) (fun _=>?_))
  all_goals first
    | rfl
    | (congr 1;omega)
def fieldAddrSV (P:Program) (s:TypeId) (x:SV) (f:Nat):Res:=
  match P.underlying s with
  | some (.struct fs)=>match fs[f]? with
    | some fd=>match P.underlying fd.type with
      | some _=>bif !(Nat.beq (P.cellsOf fd.type) 0)&&isPtr x then nowN fd.offset fun o=>.ok (addOff x o) else .bad
      | none=>.bad
    | none=>.bad
  | _=>.bad
theorem fieldAddrSV_sound {P:Program} {g:Ctx} {w:World} (s:TypeId) {x:SV} {v:Value} (r:Rep g x v) (f:Nat) :
    (fieldAddrSV P s x f).Sound P w g (Instr.fieldAt s v f):=by
  unfold fieldAddrSV
  split
  case h_2=>trivial
  rename_i fs hu
  split
  case h_2=>trivial
  rename_i fd hf
  split
  case h_2=>trivial
  rename_i d hd
  cases hb:(!(Nat.beq (P.cellsOf fd.type) 0)&&isPtr x)
  · trivial
  · simp only [Bool.and_eq_true,Bool.not_eq_true'] at hb
    obtain⟨h0,hp⟩:=hb
    have h0:P.cellsOf fd.type≠0:=by
      intro e;rw [e] at h0;simp at h0
    obtain⟨b,j,rfl,hr⟩:=addOff_rep hp r fd.offset
    simp only [cond_true]
    rw [nowN_eq]
    refine⟨_,?_,hr⟩
    simp [Instr.fieldAt,underlying,hu,hf,Instr.sureAddr,fieldPlace,run_sizeOf' hd,h0,add_none]
def fieldSV (P:Program) (t:TypeId) (x:SV) (f:Nat):Res:=
  match P.underlying t,x with
  | some (.struct fs),.agg cs=>match fs[f]? with
    | some fd=>match P.underlying fd.type with
      | some d=>bif aggD d then .ok (.agg ((cs.drop fd.offset).take (P.cellsOf fd.type))) else (match cs[fd.offset]? with | some v=>.ok v | none=>.bad)
      | none=>.bad
    | none=>.bad
  | _,_=>.bad
theorem fieldSV_sound {P:Program} {g:Ctx} {w:World} (t:TypeId) {x:SV} {v:Value} (r:Rep g x v) (f:Nat) :
    (fieldSV P t x f).Sound P w g (Instr.field t v f):=by
  unfold fieldSV
  split
  case h_2=>trivial
  rename_i fs cs hu
  split
  case h_2=>trivial
  rename_i fd hf
  split
  case h_2=>trivial
  rename_i d hd
  cases r with
  | agg cs vs h1 h2=>
    have rl:RepL g cs vs:=⟨h1,h2⟩
    cases ha:aggD d
    · simp only [cond_false]
      split
      case h_2=>trivial
      rename_i sv hsv
      obtain⟨u,hu',ru⟩:=rl.get hsv
      refine⟨u,?_,ru⟩
      simp [Instr.field,underlying,hu,hf,part,asAgg,run_isAgg' hd,ha,hu']
    · simp only [cond_true]
      refine⟨.agg ⟨(vs.drop fd.offset).take (P.cellsOf fd.type)⟩,?_,?_⟩
      · simp [Instr.field,underlying,hu,hf,part,asAgg,run_isAgg' hd,ha,run_sizeOf' hd]
      · have:=(rl.drop fd.offset).take (P.cellsOf fd.type)
        exact .agg _ _ this.1 this.2
def indexAddrSV (P:Program) (t:TypeId) (x i:SV):Res:=
  match P.underlying t,i with
  | some (.slice e),.int _ i=>
    match P.underlying e with
    | none=>.bad
    | some _=>
      match x with
      | .rslice _ c l=>bif Nat.beq c.width (P.cellsOf e) then .chk (decide (0≤i∧i<l.length)) (.rptr (enc c (l.getD i.toNat c.dflt))) else .bad
      | .mslice c n lo len=>bif Nat.beq c.width (P.cellsOf e) then .chk (decide (0≤i∧i<len)) (.mrow c n (lo+i.toNat) 0) else .bad
      | .cslice k n lo len=>bif Nat.beq k (P.cellsOf e) then .chk (decide (0≤i∧i<len)) (.mptr n ((lo+i.toNat)*k)) else .bad
      | _=>.bad
  | _,_=>.bad
theorem run_indexAt {P:Program} {w:World} {t e:TypeId} {d:TypeDesc} (hu:P.underlying t=some (.slice e)) (he:P.underlying e=some d) {b o len cap:Nat} {k:IntKind} {i:Int}
    (h:0≤i∧i<len):(Instr.indexAt t (.slice (some ⟨b,o,none⟩) len cap) (.int k i)).run P w = .ok (.pointer (some ⟨b,o+i.toNat*P.cellsOf e,none⟩)) w:=by
  simp [Instr.indexAt,asIntOf,underlying,hu,h,run_sizeOf' he,add_none]
theorem indexAddrSV_sound {P:Program} {g:Ctx} {w:World} (t:TypeId) {x i:SV} {u v:Value} (hx:Rep g x u) (hi:Rep g i v) :
    (indexAddrSV P t x i).Sound P w g (Instr.indexAt t u v):=by
  unfold indexAddrSV
  split
  case h_2=>trivial
  rename_i e k i hu
  cases hi
  split
  · trivial
  rename_i d he
  split
  · rename_i nn c l
    cases hb:Nat.beq c.width (P.cellsOf e)
    · trivial
    have hb:c.width=P.cellsOf e:=Nat.eq_of_beq_eq_true hb
    intro hc
    have hc:=of_decide_eq_true hc
    cases hx with
    | rnil c a=>simp at hc;omega
    | rslice nn c l b off cap vs h1 h2 h3 h4 h5=>
      refine⟨_,run_indexAt hu he hc,?_⟩
      have hlt:i.toNat<l.length:=by omega
      have hx:l[i.toNat]?=some (l.getD i.toNat c.dflt):=by simp [hlt]
      refine .rptr _ b _ (vs i.toNat) (by rw [enc_length,h3]) (h4 _ _ hx) (fun j v hv=>?_)
      rw [←hb,Nat.add_assoc]
      exact h5 _ hlt j v hv
  · rename_i c n lo len
    cases hb:Nat.beq c.width (P.cellsOf e)
    · trivial
    have hb:c.width=P.cellsOf e:=Nat.eq_of_beq_eq_true hb
    intro hc
    have hc:=of_decide_eq_true hc
    cases hx with
    | mslice0=>simp at hc;omega
    | mslice c n lo len cap off r hr h1 h2 h3=>
      refine⟨_,run_indexAt hu he hc,?_⟩
      rcases h3 with h3 | ⟨h3,_⟩
      · omega
      · rw [h3,←hb]
        have:=Rep.mrow (g:=g) c n (lo+i.toNat) 0 r hr
        rw [show r.base+((lo+i.toNat)*c.width+0)=r.base+lo*c.width+i.toNat*c.width by rw [Nat.add_mul];omega] at this
        exact this
  · rename_i kk n lo len
    cases hb:Nat.beq kk (P.cellsOf e)
    · trivial
    have hb:kk=P.cellsOf e:=Nat.eq_of_beq_eq_true hb
    intro hc
    have hc:=of_decide_eq_true hc
    cases hx with
    | cslice w n lo len cap off r hr h1 h3=>
      refine⟨_,run_indexAt hu he hc,?_⟩
      rcases h3 with h3 | ⟨h3,_⟩
      · omega
      · rw [h3,←hb]
        have:=Rep.mptr (g:=g) n ((lo+i.toNat)*kk) r hr
        rw [show r.base+(lo+i.toNat)*kk=r.base+lo*kk+i.toNat*kk by rw [Nat.add_mul];omega] at this
        exact this
  · trivial
def indexSV (P:Program) (t:TypeId) (x i:SV):Res:=
  match P.underlying t,x,i with
  | some .string,.str s,.int _ i=>.chk (decide (0≤i∧i<s.length)) (.int .u8 (s.getD i.toNat 0).toNat)
  | _,_,_=>.bad
theorem indexSV_sound {P:Program} {g:Ctx} {w:World} (t:TypeId) {x i:SV} {u v:Value} (hx:Rep g x u) (hi:Rep g i v) :
    (indexSV P t x i).Sound P w g (Instr.index t u v):=by
  unfold indexSV
  split
  case h_2=>trivial
  rename_i s k i hu
  cases hx
  cases hi
  intro hc
  have hc:=of_decide_eq_true hc
  refine⟨_,?_,.int .u8 _⟩
  have hlt:i.toNat<(⟨⟨s⟩⟩:ByteArray).size:=by rw [mkBA_size];omega
  have hg:(⟨⟨s⟩⟩:ByteArray)[i.toNat]?=some (s.getD i.toNat 0):=by
    rw [ByteArray.getElem?_lt' _ _ hlt]
    congr 1
    have:i.toNat<s.length:=by omega
    simp [List.getD,this]
    rfl
  simp [Instr.index,asIntOf,underlying,hu,hc.1,hg]
def lenSV (P:Program) (t:TypeId) (x:SV):Res:=
  match P.underlying t,x with
  | some .string,.str s=>.asm (s.length≤maxI64) (.int .i64 s.length)
  | some (.slice _),.nils=>.ok (.int .i64 0)
  | some (.slice _),.emp _=>.ok (.int .i64 0)
  | some (.slice _),.rslice _ c l=>.asm (l.length*c.bytes≤room47) (.int .i64 l.length)
  | some (.slice _),.mslice c _ _ len=>.asm (len*c.bytes≤room47) (.int .i64 len)
  | some (.slice _),.cslice _ _ _ len=>.ok (.int .i64 len)
  | _,_=>.bad
theorem lenSV_sound {P:Program} {g:Ctx} {w:World} (t ty:TypeId) (ts:Array TypeId) (ht:ts[0]?=some t) {x:SV} {v:Value} (r:Rep g x v) (vs:Array Value) (hv:vs[0]?=some v) :
    (lenSV P t x).Sound P w g (Builtin.len_ ts ty vs):=by
  unfold lenSV
  split
  · rename_i s hu
    cases r with
    | str _ hs=>exact⟨hs,_,by simp [Builtin.len_,ht,hv,underlying,hu,goInt,mkBA_size],.int .i64 _⟩
  · rename_i hu
    cases r with
    | nils=>exact⟨_,by simp [Builtin.len_,ht,hv,underlying,hu,goInt],.int .i64 _⟩
  · rename_i hu
    cases r with
    | emp c a=>exact⟨_,by simp [Builtin.len_,ht,hv,underlying,hu,goInt],.int .i64 _⟩
  · rename_i hu
    cases r with
    | rnil c a=>exact⟨by simp,_,by simp [Builtin.len_,ht,hv,underlying,hu,goInt],.int .i64 _⟩
    | rslice nn c l b off cap vs h1 h2 h3 h4 h5=>exact⟨h2,_,by simp [Builtin.len_,ht,hv,underlying,hu,goInt],.int .i64 _⟩
  · rename_i hu
    cases r with
    | mslice c n lo len cap off r hr h1 h2 h3=>exact⟨h2,_,by simp [Builtin.len_,ht,hv,underlying,hu,goInt],.int .i64 _⟩
    | mslice0=>exact⟨by simp,_,by simp [Builtin.len_,ht,hv,underlying,hu,goInt],.int .i64 _⟩
  · rename_i hu
    cases r with
    | cslice w n lo len cap off r hr h1 h3=>exact⟨_,by simp [Builtin.len_,ht,hv,underlying,hu,goInt],.int .i64 _⟩
  · trivial
end Go.Proofs.YtgepebndihfnfaaGreat.Sx
namespace Go.Proofs.YtgepebndihfnfaaGreat.Sx
open Go
def optInt:Option SV→Option (Option Int)
  | none=>some none
  | some (.int _ n)=>some (some n)
  | _=>none
def bndB (n:Nat) (lo hi mx:Option Int):Bool:=
  let m:Int:=mx.getD n
  let h:Int:=hi.getD n
  (match mx with | none=>true | some m=>decide (0≤m∧m≤n)) &&
  (match hi with | none=>mx.isNone | some h=>decide (0≤h∧h≤m)) &&
  (match lo with | none=>true | some l=>decide (0≤l∧l≤h))
def loN (lo:Option Int):Nat:=match lo with | none=>0 | some l=>l.toNat
def mxN (n:Nat) (mx:Option Int):Nat:=match mx with | none=>n | some m=>m.toNat
def hiN (n:Nat) (hi:Option Int):Nat:=match hi with | none=>n | some h=>h.toNat
def cutL {α:Type} (l:List α) (lo hi:Option Int):List α:=
  match lo,hi with
  | none,none=>l
  | some a,none=>l.drop a.toNat
  | none,some b=>l.take b.toNat
  | some a,some b=>(l.drop a.toNat).take (b.toNat-a.toNat)
theorem cutL_eq {α:Type} (l:List α) (lo hi:Option Int):cutL l lo hi=(l.drop (loN lo)).take (hiN l.length hi-loN lo):=by
  cases lo<;>cases hi<;>simp [cutL,loN,hiN]
  rw [List.take_of_length_le]
  simp
def cutN (n:Nat) (lo hi:Option Int):Nat:=
  match lo,hi with
  | none,none=>n
  | some a,none=>n-a.toNat
  | none,some b=>b.toNat
  | some a,some b=>b.toNat-a.toNat
theorem cutN_eq (n:Nat) (lo hi:Option Int):cutN n lo hi=hiN n hi-loN lo:=by
  cases lo<;>cases hi<;>simp [cutN,loN,hiN]
def addN (lo:Nat):Option Int→Nat
  | none=>lo
  | some a=>lo+a.toNat
theorem addN_eq (lo:Nat) (x:Option Int):addN lo x=lo+loN x:=by cases x<;>simp [addN,loN]
theorem run_sliceBound' {P:Program} {w:World} {k:IntKind} {i:Int} {y:Nat} {code:BoundsCode} (h:0≤i∧i≤y):(Instr.sliceBound (.int k i) y code).run P w = .ok i.toNat w:=by
  simp [Instr.sliceBound,asIntOf,h]
theorem run_sliceBounds' {P:Program} {w:World} {g:Ctx} {isSlice:Bool} {len cap n:Nat} {lo hi mx:Option SV} {a b c:Option Value} {l h m:Option Int}
    (ra:∀x v,lo=some x→a=some v→Rep g x v) (rb:∀x v,hi=some x→b=some v→Rep g x v) (rc:∀x v,mx=some x→c=some v→Rep g x v)
    (na:lo.isSome=a.isSome) (nb:hi.isSome=b.isSome) (nc:mx.isSome=c.isSome)
    (hl:optInt lo=some l) (hh:optInt hi=some h) (hm:optInt mx=some m) (hn:n=len) (hcap:len≤cap) (hb:bndB n l h m=true) :
    (Instr.sliceBounds isSlice len cap a b c).run P w = .ok (loN l,hiN n h,mxN cap m) w∧
      loN l≤hiN n h∧hiN n h≤n∧loN l≤mxN cap m∧hiN n h≤mxN cap m∧mxN cap m≤cap:=by
  subst hn
  have key:∀(o:Option SV) (v:Option Value) (z:Option Int),(∀x u,o=some x→v=some u→Rep g x u)→o.isSome=v.isSome→optInt o=some z→
      (v=none∧z=none) ∨ ∃k i,v=some (.int k i)∧z=some i:=by
    intro o v z hr hs ho
    cases o with
    | none=>
      simp [optInt] at ho
      cases v with
      | none=>exact .inl ⟨rfl,ho.symm⟩
      | some u=>simp at hs
    | some x=>
      cases v with
      | none=>simp at hs
      | some u=>
        have r:=hr x u rfl rfl
        cases r<;>simp [optInt] at ho
        exact .inr ⟨_,_,rfl,ho.symm⟩
  obtain⟨rfl,rfl⟩ | ⟨kc,ic,rfl,rfl⟩:=key mx c m rc nc hm<;>obtain⟨rfl,rfl⟩ | ⟨kb,ib,rfl,rfl⟩:=key hi b h rb nb hh<;>obtain⟨rfl,rfl⟩ | ⟨ka,ia,rfl,rfl⟩:=key lo a l ra na hl
  all_goals simp [bndB] at hb
  · refine⟨by simp [Instr.sliceBounds,loN,hiN,mxN],?_⟩
    simp [loN,hiN,mxN];omega
  · refine⟨?_,?_⟩
    · simp only [Instr.sliceBounds,Sem.run_bind,Sem.run_pure,Result.andThen_ok]
      rw [run_sliceBound' (by omega)]
      simp [loN,hiN,mxN]
    · simp [loN,hiN,mxN];omega
  · refine⟨?_,?_⟩
    · simp only [Instr.sliceBounds,Sem.run_bind,Sem.run_pure,Result.andThen_ok]
      rw [run_sliceBound' (by omega)]
      simp [loN,hiN,mxN]
    · simp [loN,hiN,mxN];omega
  · refine⟨?_,?_⟩
    · simp only [Instr.sliceBounds,Sem.run_bind,Sem.run_pure,Result.andThen_ok]
      rw [run_sliceBound' (by omega)]
      simp only [Result.andThen_ok]
      rw [run_sliceBound' (by omega)]
      simp [loN,hiN,mxN]
    · simp [loN,hiN,mxN];omega
  · refine⟨?_,?_⟩
    · simp only [Instr.sliceBounds,Sem.run_bind,Sem.run_pure,Result.andThen_ok]
      rw [run_sliceBound' (by omega)]
      simp only [Result.andThen_ok]
      rw [run_sliceBound' (by omega)]
      simp [loN,hiN,mxN]
    · simp [loN,hiN,mxN];omega
  · refine⟨?_,?_⟩
    · simp only [Instr.sliceBounds,Sem.run_bind,Sem.run_pure,Result.andThen_ok]
      rw [run_sliceBound' (by omega)]
      simp only [Result.andThen_ok]
      rw [run_sliceBound' (by omega)]
      simp only [Result.andThen_ok]
      rw [run_sliceBound' (by omega)]
      simp [loN,hiN,mxN]
    · simp [loN,hiN,mxN];omega
def sliceSV (P:Program) (t:TypeId) (x:SV) (lo hi mx:Option SV):Res:=
  match optInt lo,optInt hi,optInt mx with
  | some l,some h,some m=>
    match P.underlying t with
    | some .string=>match x with
      | .str s=>bif m.isNone then .chk (bndB s.length l h none) (.str (cutL s l h)) else .bad
      | _=>.bad
    | some (.slice e)=>
      match P.underlying e with
      | none=>.bad
      | some _=>
        match x with
        | .nils=>.chk (bndB 0 l h m) .nils
        | .rslice nn c xs=>bif Nat.beq c.width (P.cellsOf e) then .chk (bndB xs.length l h m) (.rslice nn c (cutL xs l h)) else .bad
        | .mslice c n a len=>bif Nat.beq c.width (P.cellsOf e) then .chk (bndB len l h m) (.mslice c n (addN a l) (cutN len l h)) else .bad
        | .cslice k n a len=>bif Nat.beq k (P.cellsOf e) then .chk (bndB len l h m) (.cslice k n (addN a l) (cutN len l h)) else .bad
        | _=>.bad
    | _=>.bad
  | _,_,_=>.bad
theorem ba_extract (s:Bs) (a b:Nat):(⟨⟨s⟩⟩:ByteArray).extract a b=⟨⟨(s.drop a).take (b-a)⟩⟩:=by
  apply ByteArray.ext
  rw [ByteArray.data_extract]
  simp
theorem loN_none_zero {l:Option Int} {h:Option Int} {m:Option Int} (hb:bndB 0 l h m=true):loN l=0∧hiN 0 h=0∧mxN 0 m=0:=by
  cases l<;>cases h<;>cases m<;>simp [bndB] at hb<;>simp [loN,hiN,mxN]<;>omega
theorem run_sliceAt_slice {P:Program} {w w':World} {t e:TypeId} {d:TypeDesc} (hu:P.underlying t=some (.slice e)) (he:P.underlying e=some d) {a:Option Addr} {len cap l h m:Nat} {x y z:Option Value}
    (hr:(Instr.sliceBounds true len cap x y z).run P w = .ok (l,h,m) w') :
    (Instr.sliceAt t (.slice a len cap) x y z).run P w = .ok (.slice (if m=l then a else a.map (·.add (l*P.cellsOf e))) (h-l) (m-l)) w':=by
  simp [Instr.sliceAt,Instr.slice,underlying,hu,hr,run_sizeOf' he]
theorem sliceSV_sound {P:Program} {g:Ctx} {w:World} (t:TypeId) {x:SV} {lo hi mx:Option SV} {u:Value} {a b c:Option Value} (hx:Rep g x u)
    (ra:∀x v,lo=some x→a=some v→Rep g x v) (rb:∀x v,hi=some x→b=some v→Rep g x v) (rc:∀x v,mx=some x→c=some v→Rep g x v)
    (na:lo.isSome=a.isSome) (nb:hi.isSome=b.isSome) (nc:mx.isSome=c.isSome) :
    (sliceSV P t x lo hi mx).Sound P w g (Instr.sliceAt t u a b c):=by
  unfold sliceSV
  split
  case h_2=>trivial
  rename_i l h m hl hh hm
  split
  · rename_i hu
    split
    case h_2=>trivial
    rename_i s
    cases hmn:m.isNone
    · trivial
    intro hb
    have hm0:m=none:=by cases m<;>simp at hmn ⊢
    subst hm0
    cases hx with
    | str _ hs=>
      have hmx:mx=none:=by
        cases mx with
        | none=>rfl
        | some q=>cases q<;>simp [optInt] at hm
      subst hmx
      have hc:c=none:=by cases c<;>simp at nc ⊢
      subst hc
      obtain⟨hr,h1,h2,_⟩:=run_sliceBounds' (P:=P) (w:=w) (isSlice:=false) (len:=s.length) (cap:=s.length) ra rb rc na nb nc hl hh hm rfl (Nat.le_refl _) hb
      refine⟨.string ⟨⟨cutL s l h⟩⟩,?_,.str _ ?_⟩
      · simp only [Instr.sliceAt,Instr.slice,underlying,Sem.run_bind,run_program,Result.andThen_ok,hu,Sem.run_pure]
        simp only [mkBA_size,hr,Option.isSome_none,Bool.false_eq_true,if_false,Result.andThen_ok,Sem.run_pure,Sem.run_bind]
        rw [cutL_eq,ba_extract]
      · rw [cutL_eq];simp;omega
  · rename_i e hu
    split
    · trivial
    rename_i d he
    split
    · intro hb
      cases hx with
      | nils=>
        obtain⟨hr,_⟩:=run_sliceBounds' (P:=P) (w:=w) (isSlice:=true) (len:=0) (cap:=0) ra rb rc na nb nc hl hh hm rfl (Nat.le_refl _) hb
        obtain⟨z1,z2,z3⟩:=loN_none_zero hb
        refine⟨_,run_sliceAt_slice hu he hr,?_⟩
        rw [z1,z2]
        have:mxN 0 m-0=0:=by rw [z3]
        simp only [this,Option.map_none,ite_self,Nat.sub_self]
        exact .nils
    · rename_i nn k xs
      cases hw:Nat.beq k.width (P.cellsOf e)
      · trivial
      have hw:k.width=P.cellsOf e:=Nat.eq_of_beq_eq_true hw
      intro hb
      cases hx with
      | rnil c ad=>
        obtain⟨hr,_⟩:=run_sliceBounds' (P:=P) (w:=w) (isSlice:=true) (len:=0) (cap:=0) ra rb rc na nb nc hl hh hm rfl (Nat.le_refl _) hb
        obtain⟨z1,z2,z3⟩:=loN_none_zero hb
        refine⟨_,run_sliceAt_slice hu he hr,?_⟩
        rw [z1,z2]
        have:mxN 0 m-0=0:=by rw [z3]
        simp only [this,Option.map_none,ite_self,Nat.sub_self]
        have e0:cutL ([]:List k.den) l h=[]:=by cases l<;>cases h<;>simp [cutL]
        rw [e0]
        exact .rnil _ _
      | rslice _ _ _ b0 off cap vs h1 h2 h3 h4 h5=>
        obtain⟨hr,g1,g2,g3,g4,g5⟩:=run_sliceBounds' (P:=P) (w:=w) (isSlice:=true) (len:=xs.length) (cap:=cap) ra rb rc na nb nc hl hh hm rfl h1 hb
        refine⟨_,run_sliceAt_slice hu he hr,?_⟩
        have hlen:(cutL xs l h).length=hiN xs.length h-loN l:=by rw [cutL_eq];simp;omega
        rw [←hlen]
        generalize hmm:mxN cap m=mm at *
        have hget:∀(i:Nat) x,(cutL xs l h)[i]?=some x→xs[loN l+i]?=some x:=by
          intro i x hi
          rw [cutL_eq] at hi
          rcases Nat.lt_or_ge i (hiN xs.length h-loN l) with hlt | hge
          · rw [List.getElem?_take_of_lt hlt] at hi;simpa using hi
          · rw [List.getElem?_eq_none (by simp;omega)] at hi;simp at hi
        by_cases e:mm=loN l
        · rw [if_pos e]
          have e0:cutL xs l h=[]:=List.eq_nil_of_length_eq_zero (by rw [hlen];omega)
          rw [e0]
          exact .rslice nn k [] b0 off _ vs (by simp) (by simp) h3 (fun i x hx=>by simp at hx) (fun i hi=>by simp at hi)
        · rw [if_neg e]
          simp only [Option.map_some,add_none,←hw]
          refine .rslice nn k _ b0 _ _ (fun i=>vs (loN l+i)) (by rw [hlen];omega) ?_ (fun i=>h3 _) (fun i x hi=>h4 _ _ (hget i x hi)) (fun i hi j v hv=>?_)
          · exact Nat.le_trans (Nat.mul_le_mul_right _ (by rw [hlen];omega)) h2
          · rw [hlen] at hi
            have:=h5 (loN l+i) (by omega) j v hv
            rw [show off+loN l*k.width+(i*k.width+j)=off+((loN l+i)*k.width+j) by rw [Nat.add_mul];omega]
            exact this
    · rename_i k n a0 len
      cases hw:Nat.beq k.width (P.cellsOf e)
      · trivial
      have hw:k.width=P.cellsOf e:=Nat.eq_of_beq_eq_true hw
      intro hb
      cases hx with
      | mslice0 _ _ _ ad q hq=>
        obtain⟨hr,_⟩:=run_sliceBounds' (P:=P) (w:=w) (isSlice:=true) (len:=0) (cap:=0) ra rb rc na nb nc hl hh hm rfl (Nat.le_refl _) hb
        obtain⟨z1,z2,z3⟩:=loN_none_zero hb
        refine⟨_,run_sliceAt_slice hu he hr,?_⟩
        rw [cutN_eq,z1,z2]
        have:mxN 0 m-0=0:=by rw [z3]
        simp only [this,Nat.sub_self]
        exact .mslice0 _ _ _ _ q hq
      | mslice _ _ _ _ cap off r hq h1 h2 h3 h4c=>
        obtain⟨hr,g1,g2,g3,g4,g5⟩:=run_sliceBounds' (P:=P) (w:=w) (isSlice:=true) (len:=len) (cap:=cap) ra rb rc na nb nc hl hh hm rfl h1 hb
        refine⟨_,run_sliceAt_slice hu he hr,?_⟩
        generalize hmm:mxN cap m=mm at *
        rw [cutN_eq,addN_eq]
        have hbytes:(hiN len h-loN l)*k.bytes≤room47:=Nat.le_trans (Nat.mul_le_mul_right _ (by omega)) h2
        by_cases e:mm=loN l
        · rw [if_pos e]
          exact .mslice k n _ _ _ off r hq (by omega) hbytes (.inl (by omega)) (by omega)
        · rw [if_neg e]
          simp only [Option.map_some,add_none,←hw]
          refine .mslice k n _ _ _ _ r hq (by omega) hbytes ?_ (by omega)
          rcases h3 with h3 | ⟨h3,h4⟩
          · exact .inl (by omega)
          · refine .inr ⟨by rw [h3,Nat.add_mul];omega,Nat.le_trans (Nat.mul_le_mul_right _ ?_) h4⟩
            omega
    · rename_i k n a0 len
      cases hw:Nat.beq k (P.cellsOf e)
      · trivial
      have hw:k=P.cellsOf e:=Nat.eq_of_beq_eq_true hw
      intro hb
      cases hx with
      | cslice _ _ _ _ cap off r hq h1 h3=>
        obtain⟨hr,g1,g2,g3,g4,g5⟩:=run_sliceBounds' (P:=P) (w:=w) (isSlice:=true) (len:=len) (cap:=cap) ra rb rc na nb nc hl hh hm rfl h1 hb
        refine⟨_,run_sliceAt_slice hu he hr,?_⟩
        generalize hmm:mxN cap m=mm at *
        rw [cutN_eq,addN_eq]
        by_cases e:mm=loN l
        · rw [if_pos e]
          exact .cslice k n _ _ _ off r hq (by omega) (.inl (by omega))
        · rw [if_neg e]
          simp only [Option.map_some,add_none,←hw]
          refine .cslice k n _ _ _ _ r hq (by omega) ?_
          rcases h3 with h3 | ⟨h3,h4⟩
          · exact .inl (by omega)
          · refine .inr ⟨by rw [h3,Nat.add_mul];omega,Nat.le_trans (Nat.mul_le_mul_right _ ?_) h4⟩
            omega
    · trivial
  · trivial
def cutEmp (P:Program) (t:TypeId) (x:SV) (lo hi mx:Option SV):Res:=
  match P.underlying t,x with
  | some (.slice e),.rslice _ c l=>match P.underlying e,optInt lo,optInt hi with
    | some _,some lo,some hi=>.chk (bndB l.length lo hi (some 0)) (.emp c)
    | _,_,_=>.bad
  | some (.slice e),.mslice c _ _ len=>match P.underlying e,optInt lo,optInt hi with
    | some _,some lo,some hi=>.chk (bndB len lo hi (some 0)) (.emp c)
    | _,_,_=>.bad
  | some (.slice e),.emp c=>match P.underlying e,optInt lo,optInt hi with
    | some _,some lo,some hi=>.chk (bndB 0 lo hi (some 0)) (.emp c)
    | _,_,_=>.bad
  | _,_=>sliceSV P t x lo hi mx
theorem cutEmp_sound {P:Program} {g:Ctx} {w:World} (t:TypeId) {x:SV} {lo hi:Option SV} {u:Value} {a b:Option Value} {k k':IntKind} (hx:Rep g x u)
    (ra:∀x v,lo=some x→a=some v→Rep g x v) (rb:∀x v,hi=some x→b=some v→Rep g x v)
    (na:lo.isSome=a.isSome) (nb:hi.isSome=b.isSome) :
    (cutEmp P t x lo hi (some (.int k 0))).Sound P w g (Instr.sliceAt t u a b (some (.int k 0))):=by
  have rc:∀x v,some (SV.int k 0)=some x→some (Value.int k 0)=some v→Rep g x v:=by
    intro x v h1 h2;cases h1;cases h2;exact .int k 0
  have main:∀(c:Tc) (e:TypeId) (d:TypeDesc) (l h:Option Int) (ad:Option Addr) (len cap:Nat),P.underlying t=some (.slice e)→P.underlying e=some d→optInt lo=some l→optInt hi=some h→len≤cap→
      bndB len l h (some 0)=true→RunsTo P w g (Instr.sliceAt t (.slice ad len cap) a b (some (.int k 0))) (.emp c):=by
    intro c e d l h ad len cap hu he hl hh hle hb
    obtain⟨hr,g1,g2,g3,g4,g5⟩:=run_sliceBounds' (P:=P) (w:=w) (isSlice:=true) (len:=len) (cap:=cap) ra rb rc na nb rfl hl hh (m:=some 0) rfl rfl hle hb
    refine⟨_,run_sliceAt_slice hu he hr,?_⟩
    have e1:mxN cap (some 0)=0:=rfl
    rw [e1] at g3 g4 ⊢
    have e2:hiN len h-loN l=0:=by omega
    have e3:0-loN l=0:=by omega
    rw [e2,e3]
    exact .emp c _
  unfold cutEmp
  split
  · split
    · rename_i hu _ _ _ _ _ _ he hl hh
      intro hb
      cases hx with
      | rnil c ad=>exact main _ _ _ _ _ ad 0 0 hu he hl hh (Nat.le_refl _) hb
      | rslice _ _ _ _ _ cap _ h1=>exact main _ _ _ _ _ _ _ cap hu he hl hh h1 hb
    · trivial
  · split
    · rename_i hu _ _ _ _ _ _ he hl hh
      intro hb
      cases hx with
      | mslice0 _ _ _ ad q hq=>exact main _ _ _ _ _ ad 0 0 hu he hl hh (Nat.le_refl _) hb
      | mslice _ _ _ _ cap off r hq h1=>exact main _ _ _ _ _ _ _ cap hu he hl hh h1 hb
    · trivial
  · split
    · rename_i hu _ _ _ _ _ _ he hl hh
      intro hb
      cases hx with
      | emp c ad=>exact main _ _ _ _ _ ad 0 0 hu he hl hh (Nat.le_refl _) hb
    · trivial
  · exact sliceSV_sound t hx ra rb rc na nb rfl
def bytesOf?:List SV→Option Bs
  | []=>some []
  | .int .u8 n::r=>match bytesOf? r with
    | some l=>some (UInt8.ofNat n.toNat::l)
    | none=>none
  | _=>none
def textOf (l:List Int):Bs:=l.map fun n=>UInt8.ofNat n.toNat
def bytesSV (B:Blks) (x:SV):Res:=
  match x with
  | .nils=>.ok (.str [])
  | .rslice _ .byte l=>.ok (.str (textOf l))
  | .mslice .byte n lo len=>match B.get n with
    | some (.rows .byte l)=>.chk (decide (lo+len≤l.length)) (.str (textOf ((l.drop lo).take len)))
    | _=>.bad
  | .cslice k n lo len=>bif Nat.beq k 1 then (match B.get n with
    | some (.cells cs)=>match bytesOf? ((cs.drop lo).take len) with
      | some l=>.chk (decide (lo+len≤cs.length)&&decide (len≤maxI64)) (.str l)
      | none=>.bad
    | _=>.bad) else .bad
  | _=>.bad
theorem foldl_push (ns:List Int):∀s:Bs,ns.foldl (fun (r:ByteArray) n=>r.push (UInt8.ofNat n.toNat)) ⟨⟨s⟩⟩=⟨⟨s++textOf ns⟩⟩:=by
  induction ns with
  | nil=>intro s;simp [textOf]
  | cons n r ih=>
    intro s
    rw [List.foldl_cons]
    have:(⟨⟨s⟩⟩:ByteArray).push (UInt8.ofNat n.toNat)=⟨⟨s++[UInt8.ofNat n.toNat]⟩⟩:=by
      apply ByteArray.ext
      simp [ByteArray.push]
    rw [this,ih]
    simp [textOf]
theorem run_bytes {P:Program} {w:World} {b o cap:Nat} (ns:List Int) (h:∀(j:Nat) n,ns[j]?=some n→w.cell? ⟨b,o+j,none⟩=some (.int .u8 n)) :
    (Conv.bytesToString (.slice (some ⟨b,o,none⟩) ns.length cap)).run P w = .ok (.string ⟨⟨textOf ns⟩⟩) w:=by
  have hl:(loadCells ⟨b,o,none⟩ ns.length).run P w = .ok (ns.map (Value.int .u8)).toArray w:=by
    have:=run_loadCells (P:=P) (w:=w) (b:=b) (o:=o) (vs:=ns.map (Value.int .u8)) (fun j v hv=>by
      rw [List.getElem?_map] at hv
      cases hn:ns[j]? with
      | none=>rw [hn] at hv;simp at hv
      | some n=>rw [hn] at hv;simp at hv;subst hv;exact h j n hn)
    rwa [List.length_map] at this
  rw [run_bytesToString w _ _ cap ns hl]
  have:=foldl_push ns []
  simp only [List.nil_append] at this
  rw [←this]
  rfl
theorem bytesOf?_rep {g:Ctx}:∀ {cs:List SV} {l:Bs},bytesOf? cs=some l → ∀ {vs:List Value},RepL g cs vs → ∃ns:List Int,textOf ns=l∧vs=ns.map (Value.int .u8)
  | [],l,h,vs,r=>by
    simp [bytesOf?] at h
    subst h
    exact⟨[],rfl,by rw [r.eq_nil];rfl⟩
  | c::cs,l,h,vs,r=>by
    obtain⟨v,vs',rfl,rv,r'⟩:=r.uncons
    unfold bytesOf? at h
    split at h
    · cases ‹_::_=[]›
    · rename_i n cs' heq
      cases heq
      split at h
      · rename_i l' hl
        cases h
        obtain⟨ns,rfl,rfl⟩:=bytesOf?_rep hl r'
        cases rv
        exact⟨n::ns,rfl,rfl⟩
      · cases h
    · cases h
theorem bytesSV_sound {P:Program} {g:Ctx} {B:Blks} {w:World} (h:Mem0 g B w) {x:SV} {v:Value} (r:Rep g x v) :
    (bytesSV B x).Sound P w g (Conv.bytesToString v):=by
  unfold bytesSV
  split
  · cases r
    exact⟨.string ⟨⟨[]⟩⟩,by simp [Conv.bytesToString];rfl,.str [] (by simp)⟩
  · rename_i nn l
    cases r with
    | rnil c a=>exact⟨.string ⟨⟨[]⟩⟩,by cases a<;>simp [Conv.bytesToString,loadCells,loadCellsFrom]<;>rfl,.str [] (by simp)⟩
    | rslice _ _ _ b off cap vs h1 h2 h3 h4 h5=>
      refine⟨_,run_bytes l fun j n hj=>?_,.str _ ?_⟩
      · have hj':j<l.length:=(List.getElem?_eq_some_iff.1 hj).1
        obtain⟨u,hu⟩:∃u,vs j=[u]:=by
          have:=h3 j
          match hv:vs j,this with
          | [u],_=>exact⟨u,rfl⟩
        have hr:=h4 j n hj 0 (.int .u8 n) u rfl (by rw [hu];rfl)
        cases hr
        have:=h5 j hj' 0 (.int .u8 n) (by rw [hu];rfl)
        simp [Tc.width] at this
        exact h.ro _ _ _ this
      · simp [textOf,Tc.bytes,room47,maxI64] at h2 ⊢
        omega
  · rename_i n lo len
    split
    · rename_i l hn
      intro hb
      have hb:=of_decide_eq_true hb
      cases r with
      | mslice0 _ _ _ a q hq=>
        refine⟨.string ⟨⟨[]⟩⟩,?_,.str _ (by simp [textOf])⟩
        cases a with
        | none=>simp [Conv.bytesToString];rfl
        | some a=>
          rw [run_bytesToString w _ _ _ [] (by simp [loadCells,loadCellsFrom])]
          rfl
      | mslice _ _ _ _ cap off r hq h1 h2 h3=>
        obtain⟨_,_,_,vs,hw,rv,hc⟩:=h.at_name hn hq
        have hlen:((l.drop lo).take len).length=len:=by simp;omega
        have hrun:=run_bytes (P:=P) (w:=w) (b:=r.b) (o:=off) (cap:=cap) ((l.drop lo).take len) (fun j n hj=>by
          have hjl:j<len:=by
            rcases Nat.lt_or_ge j len with h0 | h0
            · exact h0
            · rw [List.getElem?_eq_none (by simp;omega)] at hj;simp at hj
          rw [List.getElem?_take_of_lt hjl,List.getElem?_drop] at hj
          have hj':lo+j<l.length:=by omega
          obtain⟨u,hu⟩:∃u,vs (lo+j)=[u]:=by
            have:=hw (lo+j)
            match hv:vs (lo+j),this with
            | [u],_=>exact⟨u,rfl⟩
          have hr:=(rv (lo+j) n hj).2 0 (.int .u8 n) u rfl (by rw [hu];rfl)
          cases hr
          have:=hc (lo+j) hj' 0 (.int .u8 n) (by rw [hu];rfl)
          simp [Tc.width] at this
          rcases h3 with h3 | ⟨h3,_⟩
          · omega
          · rw [h3]
            simp [Tc.width]
            rw [Nat.add_assoc]
            exact this)
        rw [hlen] at hrun
        refine⟨_,hrun,.str _ ?_⟩
        simp [textOf,Tc.bytes,room47,maxI64] at h2 ⊢
        omega
    · trivial
  · rename_i k n lo len
    cases hk:Nat.beq k 1
    · trivial
    have hk:k=1:=Nat.eq_of_beq_eq_true hk
    subst hk
    simp only [cond_true]
    split
    · rename_i cs hn
      split
      · rename_i l hl
        intro hb
        simp only [Bool.and_eq_true,decide_eq_true_eq] at hb
        obtain⟨hb,hmax⟩:=hb
        cases r with
        | cslice _ _ _ _ cap off r hq h1 h3=>
          obtain⟨_,_,vs,rv,hc⟩:=h.at_name hn hq
          obtain⟨ns,e1,e2⟩:=bytesOf?_rep hl ((rv.drop lo).take len)
          have hlen:ns.length=len:=by
            have:=congrArg List.length e2
            simp at this
            rw [←rv.1] at this
            omega
          have hrun:=run_bytes (P:=P) (w:=w) (b:=r.b) (o:=off) (cap:=cap) ns (fun j n hj=>by
            have hjl:j<len:=by rw [←hlen];exact (List.getElem?_eq_some_iff.1 hj).1
            have hv:((vs.drop lo).take len)[j]?=some (.int .u8 n):=by rw [e2,List.getElem?_map,hj];rfl
            rw [List.getElem?_take_of_lt hjl,List.getElem?_drop] at hv
            have:=hc (lo+j) _ hv
            rcases h3 with h3 | ⟨h3,_⟩
            · omega
            · rw [h3,Nat.mul_one,Nat.add_assoc]
              exact this)
          rw [hlen,e1] at hrun
          refine⟨_,hrun,.str _ ?_⟩
          rw [←e1]
          simp [textOf,hlen]
          exact hmax
      · trivial
    · trivial
  · trivial
end Go.Proofs.YtgepebndihfnfaaGreat.Sx
