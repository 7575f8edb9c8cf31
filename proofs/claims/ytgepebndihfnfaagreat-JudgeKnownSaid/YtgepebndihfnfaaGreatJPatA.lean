/- What the functions of paths do, on lists of bytes: what the evaluator leaves of each, and that it holds. No condition. -/
import Derived.Test.YtgepebndihfnfaaGreatJSxE
import Derived.Test.YtgepebndihfnfaaGreatProg
import Derived.KernelRfl
import Derived.Sort.Walk0
import Derived.Shelf.Strings.OnBuilder
set_option linter.unusedSimpArgs false
set_option linter.unusedVariables false

namespace Go.Proofs.YtgepebndihfnfaaGreat.Ses
open Go Go.Proofs Go.Proofs.YtgepebndihfnfaaGreat.Sx
def cod:TypeId→Option Tc:=fun t=>match t with
  | 3=>some .int | 5=>some .byte | 9=>some .str | 174=>some .leaf | 111=>some .change | 49=>some .commit | 166=>some .tree | 69=>some .leafs | 38=>some .verdict | 109=>some .deed5 | 226=>some .ref | 224=>some .ref | 210=>some .session | 201=>some .epoch | 42=>some .request | 30=>some .ints | 4=>some .bool | 57=>some .deed | _=>none
def splitB:Bs→List Bs
  | []=>[[]]
  | c::r=>bif c==47 then []::splitB r else
    match splitB r with
    | p::t=>(c::p)::t
    | []=>[[c]]
def remB (left:Bool) (s:Bs):List Bs:=bif left then splitB s else []
def cmpB (x y:Bs):Int:=bif Op.bytesLess x y then -1 else bif x==y then 0 else 1
def cmpL:List Bs→List Bs→Int
  | [],[]=>0
  | [],_::_=>-1
  | _::_,[]=>1
  | x::a,y::b=>bif cmpB x y==0 then cmpL a b else cmpB x y
def letterI (n:Int):Bool:=(decide (97≤n)&&decide (n≤122))||(decide (48≤n)&&decide (n≤57))||n==95||n==45
def letterP (n:Int) (point:Bool):Bool:=letterI n||(point&&n==46)
def partOk (s:Bs):Bool:=s.all (fun c=>letterP c.toNat true)&&decide (s.length≤24)
def wordOk (s:Bs) (point:Bool):Bool:=!(s==[])&&decide (s.length≤24)&&s.all (fun c=>letterP c.toNat point)
def normGo:List Bs→List Bs→Option (List Bs)
  | [],st=>some st
  | p::r,st=>bif p==[]||p==[46] then normGo r st else bif p==[46,46] then (bif st==[] then none else normGo r st.dropLast) else normGo r (st++[p])
def normEnd (st:List Bs):Option Bs:=
  bif st==[]||decide (8<st.length) || !(st.all partOk)||decide (64<(Lib.join st [47]).length) then none else some (Lib.join st [47])
def normB (s:Bs):Option Bs:=match normGo (splitB s) [] with
  | none=>none
  | some st=>normEnd st
structure NextA where
  left:Bool
  s:Bs
structure TwoA where
  a:Bs
  b:Bs
structure WordA where
  s:Bs
  point:Bool
noncomputable def nextT:Tri:={γ:=NextA,n0:=2,args:=fun _=>[.mptr 0 0,.mptr 1 0],blks:=fun x=>[(0,.cells [.bool x.left]),(1,.cells [.str x.s])],pre:=fun _=>True,δ:=NextA,post:=fun x d=>remB d.left d.s=(remB x.left x.s).tail∧d.s.length≤x.s.length,n1:=0,res:=fun x d=>.tuple [.str ((remB x.left x.s).headD []),.bool x.left],blks':=fun x d=>[(0,.cells [.bool d.left]),(1,.cells [.str d.s])],scal:=true}
noncomputable def nextE:Envr:=Env Tryz.prog cod [] [] [(312,ixbSV)]
noncomputable def cmpT:Tri:={γ:=TwoA,n0:=0,args:=fun x=>[.str x.a,.str x.b],blks:=fun _=>[],pre:=fun _=>True,δ:=Unit,post:=fun _ _=>True,n1:=0,res:=fun x _=>.int .i64 (cmpB x.a x.b),blks':=fun _ _=>[],scal:=true}
noncomputable def bareE:Envr:=Env Tryz.prog cod [] []
noncomputable def compareT:Tri:={γ:=TwoA,n0:=0,args:=fun x=>[.str x.a,.str x.b],blks:=fun _=>[],pre:=fun _=>True,δ:=Unit,post:=fun _ _=>True,n1:=0,res:=fun x _=>.int .i64 (cmpL (splitB x.a) (splitB x.b)),blks':=fun _ _=>[],scal:=true}
structure CmpS where
  la:Bool
  sa:Bs
  lb:Bool
  sb:Bs
noncomputable def compareI:St→LInv:=fun s=>match getE s.env 0,getE s.env 1 with
  | .str a,.str b=>{σ:=CmpS,I:=fun x=>cmpL (remB x.la x.sa) (remB x.lb x.sb)=cmpL (splitB a) (splitB b),μ:=fun x=>(remB x.la x.sa).length,env:=fun _=>[],blk:=fun x=>[(0,.cells [.str x.sa]),(1,.cells [.bool x.la]),(2,.cells [.str x.sb]),(3,.cells [.bool x.lb])],fresh:=0,drop:=[]}
  | _,_=>LInv.none
noncomputable def compareE:Envr:=Env Tryz.prog cod [(256,nextT.spec),(227,cmpT.spec)] [(2,compareI)]
noncomputable def letterT:Tri:={γ:=UInt8,n0:=0,args:=fun x=>[.int .u8 x.toNat],blks:=fun _=>[],pre:=fun _=>True,δ:=Unit,post:=fun _ _=>True,n1:=0,res:=fun x _=>.bool (letterI x.toNat),blks':=fun _ _=>[],scal:=true}
structure LetA where
  n:UInt8
  point:Bool
noncomputable def letrT:Tri:={γ:=LetA,n0:=0,args:=fun x=>[.int .u8 x.n.toNat,.bool x.point],blks:=fun _=>[],pre:=fun _=>True,δ:=Unit,post:=fun _ _=>True,n1:=0,res:=fun x _=>.bool (letterP x.n.toNat x.point),blks':=fun _ _=>[],scal:=true}
noncomputable def partT:Tri:={γ:=Bs,n0:=0,args:=fun x=>[.str x],blks:=fun _=>[],pre:=fun _=>True,δ:=Unit,post:=fun _ _=>True,n1:=0,res:=fun x _=>.bool (partOk x),blks':=fun _ _=>[],scal:=true}
noncomputable def partI:St→LInv:=fun s=>match getE s.env 0 with
  | .str a=>{σ:=Nat,I:=fun i=>i≤a.length ∧ ∀(j:Nat) c,j<i→a[j]?=some c→letterP c.toNat true=true,μ:=fun i=>a.length-i,env:=fun i=>[(6,.int .i64 i)],blk:=fun _=>[],fresh:=0,drop:=[]}
  | _=>LInv.none
noncomputable def partE:Envr:=Env Tryz.prog cod [(221,letterT.spec)] [(2,partI)]
noncomputable def nameT:Tri:={γ:=Bs,n0:=0,args:=fun x=>[.str x],blks:=fun _=>[],pre:=fun _=>True,δ:=Unit,post:=fun _ _=>True,n1:=0,res:=fun x _=>.bool (wordOk x false),blks':=fun _ _=>[],scal:=true}
noncomputable def nameI:St→LInv:=fun s=>match getE s.env 0 with
  | .str a=>{σ:=Nat,I:=fun i=>i≤a.length ∧ ∀(j:Nat) c,j<i→a[j]?=some c→letterP c.toNat false=true,μ:=fun i=>a.length-i,env:=fun i=>[(6,.int .i64 i)],blk:=fun _=>[],fresh:=0,drop:=[]}
  | _=>LInv.none
noncomputable def nameE:Envr:=Env Tryz.prog cod [(221,letterT.spec)] [(2,nameI)]
noncomputable def wordT:Tri:={γ:=WordA,n0:=0,args:=fun x=>[.str x.s,.bool x.point],blks:=fun _=>[],pre:=fun _=>True,δ:=Unit,post:=fun _ _=>True,n1:=0,res:=fun x _=>.bool (wordOk x.s x.point),blks':=fun _ _=>[],scal:=true}
noncomputable def wordI:St→LInv:=fun s=>match getE s.env 0,getE s.env 1 with
  | .str a,.bool p=>{σ:=Nat,I:=fun i=>i≤a.length ∧ ∀(j:Nat) c,j<i→a[j]?=some c→letterP c.toNat p=true,μ:=fun i=>a.length-i,env:=fun i=>[(5,.int .i64 i)],blk:=fun _=>[],fresh:=0,drop:=[]}
  | _,_=>LInv.none
noncomputable def wordE:Envr:=Env Tryz.prog cod [(231,letrT.spec)] [(4,wordI)]
def shortB (s:Bs):Bool:=decide (s.length≤1000000)
noncomputable def rpartsT:Tri:={γ:=Bs,n0:=0,args:=fun x=>[.str x],blks:=fun _=>[],pre:=fun x=>shortB x=true,δ:=Unit,post:=fun _ _=>True,n1:=1,res:=fun x _=>.mslice .str 0 0 (splitB x).length,blks':=fun x _=>[(0,.rows .str (splitB x))],scal:=true}
structure RpS where
  i:Nat
  f:Nat
  l:List Bs
noncomputable def rpartsI:St→LInv:=fun s=>match getE s.env 0 with
  | .str a=>{σ:=RpS,I:=fun x=>(x.f≤x.i∧x.i≤a.length)∧x.l.length≤x.i∧(∀c,c∈(a.drop x.f).take (x.i-x.f)→(c==47)=false)∧x.l++splitB (a.drop x.f)=splitB a,μ:=fun x=>a.length-x.i,env:=fun x=>[(5,.int .i64 x.i),(4,.int .i64 x.f),(3,.mslice .str s.m.next 0 x.l.length)],blk:=fun x=>[(s.m.next,.rows .str x.l)],fresh:=1,drop:=[]}
  | _=>LInv.none
noncomputable def rpartsE:Envr:=Env Tryz.prog cod [] [(4,rpartsI)]
noncomputable def rcompareT:Tri:={γ:=TwoA,n0:=0,args:=fun x=>[.str x.a,.str x.b],blks:=fun _=>[],pre:=fun x=>shortB x.a=true∧shortB x.b=true,δ:=Unit,post:=fun _ _=>True,n1:=0,res:=fun x _=>.int .i64 (cmpL (splitB x.a) (splitB x.b)),blks':=fun _ _=>[],scal:=true}
noncomputable def rcompareI:St→LInv:=fun s=>match s.m.blks.get 0,s.m.blks.get 1 with
  | some (.rows .str a),some (.rows .str b)=>{σ:=Nat,I:=fun i=>i≤a.length∧i≤b.length∧cmpL (a.drop i) (b.drop i)=cmpL a b,μ:=fun i=>a.length-i,env:=fun i=>[(7,.int .i64 i)],blk:=fun _=>[],fresh:=0,drop:=[]}
  | _,_=>LInv.none
noncomputable def rcompareE:Envr:=Env Tryz.prog cod [(207,rpartsT.spec)] [(4,rcompareI)]
noncomputable def normalT:Tri:={γ:=Bs,n0:=0,args:=fun x=>[.str x],blks:=fun _=>[],pre:=fun x=>shortB x=true,δ:=Unit,post:=fun _ _=>True,n1:=0,res:=fun x _=>.tuple [.str ((normB x).getD []),.bool (normB x).isSome],blks':=fun x _=>[],scal:=true}
structure NorS where
  left:Bool
  s:Bs
  now:Bs
  ok:Bool
  k:Nat
  r:List Bs
noncomputable def normalI:St→LInv:=fun s=>match getE s.env 0 with
  | .str a=>{σ:=NorS,I:=fun x=>(x.k≤x.r.length∧x.k+(bif x.ok then x.now::remB x.left x.s else []).length≤a.length+1)∧normGo (bif x.ok then x.now::remB x.left x.s else []) (x.r.take x.k)=normGo (splitB a) [],μ:=fun x=>(bif x.ok then x.now::remB x.left x.s else []).length,env:=fun x=>[(6,.str x.now),(7,.bool x.ok),(4,.mslice .str s.m.next 0 x.k)],blk:=fun x=>[(0,.cells [.str x.s]),(1,.cells [.bool x.left]),(s.m.next,.rows .str x.r)],fresh:=1,drop:=[]}
  | _=>LInv.none
noncomputable def normalI2:St→LInv:=fun s=>match getE s.env 4 with
  | .mslice _ n _ k=>match s.m.blks.get n with
    | some (.rows .str r)=>{σ:=Nat,I:=fun i=>i≤k ∧ ∀(j:Nat) c,j<i→r[j]?=some c→partOk c=true,μ:=fun i=>k-i,env:=fun i=>[(52,.int .i64 i)],blk:=fun _=>[],fresh:=0,drop:=[]}
    | _=>LInv.none
  | _=>LInv.none
noncomputable def normalE:Envr:=Env Tryz.prog cod [(256,nextT.spec),(268,partT.spec),(269,joinT.spec)] [(4,normalI),(17,normalI2)]
structure RnoS where
  i:Nat
  k:Nat
  r:List Bs
noncomputable def rnormalI:St→LInv:=fun s=>match s.m.blks.get 0 with
  | some (.rows .str l)=>{σ:=RnoS,I:=fun x=>(x.i≤l.length∧x.k≤x.r.length∧x.k≤x.i)∧normGo (l.drop x.i) (x.r.take x.k)=normGo l [],μ:=fun x=>l.length-x.i,env:=fun x=>[(6,.int .i64 x.i),(5,.mslice .str s.m.next 0 x.k)],blk:=fun x=>[(s.m.next,.rows .str x.r)],fresh:=1,drop:=[]}
  | _=>LInv.none
noncomputable def rnormalI2:St→LInv:=fun s=>match getE s.env 5 with
  | .mslice _ n _ k=>match s.m.blks.get n with
    | some (.rows .str r)=>{σ:=Nat,I:=fun i=>i≤k∧(∀(j:Nat) c,j<i→r[j]?=some c→wordOk c true=true),μ:=fun i=>k-i,env:=fun i=>[(8,.int .i64 i),(7,.str (Lib.join (r.take i) [47]))],blk:=fun _=>[],fresh:=0,drop:=[]}
    | _=>LInv.none
  | _=>LInv.none
noncomputable def rnormalE:Envr:=Env Tryz.prog cod [(207,rpartsT.spec),(192,wordT.spec)] [(4,rnormalI),(16,rnormalI2)]
set_option maxRecDepth 100000
abbrev nextQ1 (x:nextT.γ):=remB (NextA.left x) (NextA.s x)
abbrev nextQ2 (x:nextT.γ):=@List.headD Bs (nextQ1 x) ([]:List UInt8)
abbrev nextQ3 (x1:NextA) (x:nextT.γ):=nextQ1 x1 = @List.tail Bs (nextQ1 x)∧
x1.s.length≤(NextA.s x).length
abbrev nextQ4  := Array.toList (ByteArray.data (ByteArray.mk (List.toArray [(47:UInt8)])))
abbrev nextQ5  := Option.some (IntKind.wrap IntKind.i64 ((0:Int)+(↑nextQ4.length:Int)))
abbrev nextQ6 (x:nextT.γ):=Lib.indexByte (NextA.s x) (Nat.toUInt8 (↑(List.getD nextQ4 (0:Int).toNat (0:UInt8)).toNat:Int).toNat)
abbrev nextQ7 (x:nextT.γ):=Option.some (IntKind.wrap IntKind.i64 (nextQ6 x+(↑nextQ4.length:Int)))
theorem next_vc (x:nextT.γ):evCall nextE (ev nextE 1000) 256 (nextT.args x) ⟨nextT.blks x,nextT.n0,[]⟩ (fun _ _=>False) (nextT.ends x)=(
br (NextA.left x).not (∃x1:NextA,([]:List UInt8)=nextQ2 x∧
false=NextA.left x∧
NextA.left x=x1.left∧
NextA.s x=x1.s∧
nextQ3 x1 x) (nextQ4.length≤maxI64→
br (nextQ4==NextA.s x) (nextQ4.length≤maxI64→
br (bndB (NextA.s x).length nextQ5 (none:Option Int) (none:Option Int)) (∃x2:NextA,@cutL UInt8 (NextA.s x) (none:Option Int) (Option.some (0:Int))=nextQ2 x∧
true=NextA.left x∧
true=x2.left∧
@cutL UInt8 (NextA.s x) nextQ5 (none:Option Int)=x2.s∧
nextQ3 x2 x) (Bad "check" "strings.go:82")) (br (decide (@GE.ge Int _ (nextQ6 x) (0:Int))) (br (bndB (NextA.s x).length (none:Option Int) (Option.some (nextQ6 x)) (none:Option Int)) (nextQ4.length≤maxI64→
br (bndB (NextA.s x).length (nextQ7 x) (none:Option Int) (none:Option Int)) (∃x3:NextA,@cutL UInt8 (NextA.s x) (none:Option Int) (Option.some (nextQ6 x))=nextQ2 x∧
true=NextA.left x∧
true=x3.left∧
@cutL UInt8 (NextA.s x) (nextQ7 x) (none:Option Int)=x3.s∧
nextQ3 x3 x) (Bad "check" "strings.go:82")) (Bad "check" "strings.go:82")) (∃x4:NextA,NextA.s x=nextQ2 x∧
true=NextA.left x∧
false=x4.left∧
([]:List UInt8)=x4.s∧
nextQ3 x4 x)))):=by kernel_rfl
abbrev cmpQ1 (x:cmpT.γ):=∃x1:Unit,(0:Int)=cmpB (TwoA.a x) (TwoA.b x)∧
True
abbrev cmpQ2 (x:cmpT.γ):=∃x2:Unit,@Neg.neg Int _ (1:Int)=cmpB (TwoA.a x) (TwoA.b x)∧
True
abbrev cmpQ3 (x:cmpT.γ):=∃x3:Unit,(1:Int)=cmpB (TwoA.a x) (TwoA.b x)∧
True
theorem cmp_vc (x:cmpT.γ):evCall bareE (ev bareE 1000) 227 (cmpT.args x) ⟨cmpT.blks x,cmpT.n0,[]⟩ (fun _ _=>False) (cmpT.ends x)=(
br (TwoA.a x==TwoA.a x).not (br (TwoA.b x==TwoA.b x).not (cmpQ1 x) (cmpQ2 x)) (br (TwoA.b x==TwoA.b x).not (cmpQ3 x) (br (Op.bytesLess (TwoA.a x) (TwoA.b x)) (cmpQ2 x) (br (Bool.or (Op.bytesLess (TwoA.a x) (TwoA.b x)) (TwoA.a x==TwoA.b x)).not (cmpQ3 x) (cmpQ1 x))))):=by kernel_rfl
abbrev compareQ1 (x:compareT.γ):=cmpL (splitB (TwoA.a x)) (splitB (TwoA.b x))
abbrev compareQ2 (x1:CmpS) (x:compareT.γ):=cmpL (remB x1.la x1.sa) (remB x1.lb x1.sb)=compareQ1 x
abbrev compareQ3 (x4:NextA) (x3:NextA):=remB x4.left x4.s = @List.tail Bs (remB x3.left x3.s)∧
x4.s.length≤x3.s.length
abbrev compareQ4 (x3:NextA) (x:compareT.γ) (x5:NextA) (x4:NextA) (x6:NextA) (x2:CmpS):=br x3.left.not (∃x8:Unit,@Neg.neg Int _ (1:Int)=compareQ1 x∧
True) (br x5.left.not (∃x9:Unit,(1:Int)=compareQ1 x∧
True) (∃x10:TwoA,@List.headD Bs (remB x3.left x3.s) ([]:List UInt8)=x10.a∧
@List.headD Bs (remB x5.left x5.s) ([]:List UInt8)=x10.b∧
True∧
∀x11:Unit,True→
br (cmpB x10.a x10.b != (0:Int)) (∃x12:Unit,cmpB x10.a x10.b=compareQ1 x∧
True) (∃x13:CmpS,x4.s=x13.sa∧
x4.left=x13.la∧
x6.s=x13.sb∧
x6.left=x13.lb∧
compareQ2 x13 x∧
(remB x13.la x13.sa).length<(remB x2.la x2.sa).length)))
theorem compare_vc (x:compareT.γ):evCall compareE (ev compareE 1000) 190 (compareT.args x) ⟨compareT.blks x,compareT.n0,[]⟩ (fun _ _=>False) (compareT.ends x)=(
(∃x1:CmpS,TwoA.a x=x1.sa∧
true=x1.la∧
TwoA.b x=x1.sb∧
true=x1.lb∧
compareQ2 x1 x)∧
∀x2:CmpS,compareQ2 x2 x→
∃x3:NextA,x2.la=x3.left∧
x2.sa=x3.s∧
True∧
∀x4:NextA,compareQ3 x4 x3→
∃x5:NextA,x2.lb=x5.left∧
x2.sb=x5.s∧
True∧
∀x6:NextA,compareQ3 x6 x5→
br x3.left.not (br x5.left.not (∃x7:Unit,(0:Int)=compareQ1 x∧
True) (compareQ4 x3 x x5 x4 x6 x2)) (compareQ4 x3 x x5 x4 x6 x2)):=by kernel_rfl
abbrev letterQ1 (x:letterT.γ):=∃x1:Unit,true=letterI (↑(UInt8.toNat x):Int)∧
True
abbrev letterQ2 (x:letterT.γ):=br ((↑(UInt8.toNat x):Int)==(95:Int)) (letterQ1 x) (∃x4:Unit,((↑(UInt8.toNat x):Int)==(45:Int))=letterI (↑(UInt8.toNat x):Int)∧
True)
abbrev letterQ3 (x:letterT.γ):=br (decide (@GE.ge Int _ (↑(UInt8.toNat x):Int) (48:Int))) (br (decide ((↑(UInt8.toNat x):Int)≤(57:Int))) (letterQ1 x) (letterQ2 x)) (letterQ2 x)
theorem letter_vc (x:letterT.γ):evCall bareE (ev bareE 1000) 221 (letterT.args x) ⟨letterT.blks x,letterT.n0,[]⟩ (fun _ _=>False) (letterT.ends x)=(
br (decide (@GE.ge Int _ (↑(UInt8.toNat x):Int) (97:Int))) (br (decide ((↑(UInt8.toNat x):Int)≤(122:Int))) (letterQ1 x) (letterQ3 x)) (letterQ3 x)):=by kernel_rfl
abbrev letrQ1 (x:letrT.γ):=letterP (↑(LetA.n x).toNat:Int) (LetA.point x)
abbrev letrQ2 (x:letrT.γ):=∃x1:Unit,true=letrQ1 x∧
True
abbrev letrQ3 (x:letrT.γ):=br ((↑(LetA.n x).toNat:Int)==(95:Int)) (letrQ2 x) (br ((↑(LetA.n x).toNat:Int)==(45:Int)) (letrQ2 x) (br (LetA.point x) (∃x5:Unit,((↑(LetA.n x).toNat:Int)==(46:Int))=letrQ1 x∧
True) (∃x6:Unit,false=letrQ1 x∧
True)))
abbrev letrQ4 (x:letrT.γ):=br (decide (@GE.ge Int _ (↑(LetA.n x).toNat:Int) (48:Int))) (br (decide ((↑(LetA.n x).toNat:Int)≤(57:Int))) (letrQ2 x) (letrQ3 x)) (letrQ3 x)
theorem letr_vc (x:letrT.γ):evCall bareE (ev bareE 1000) 231 (letrT.args x) ⟨letrT.blks x,letrT.n0,[]⟩ (fun _ _=>False) (letrT.ends x)=(
br (decide (@GE.ge Int _ (↑(LetA.n x).toNat:Int) (97:Int))) (br (decide ((↑(LetA.n x).toNat:Int)≤(122:Int))) (letrQ2 x) (letrQ4 x)) (letrQ4 x)):=by kernel_rfl
abbrev partQ1 (x1:Nat) (x:partT.γ):=x1≤List.length x∧
∀x2:Nat,∀x3:UInt8,x2<x1→
@GetElem?.getElem? Bs Nat UInt8 (fun x4:(List UInt8)=>fun x5:Nat=>x5<x4.length) _ x x2=Option.some x3→
letterP (↑x3.toNat:Int) true=true
abbrev partQ2 (x6:Nat) (x:partT.γ):=decide ((0:Int)≤(↑x6:Int)∧
(↑x6:Int)<(↑(List.length x):Int))
abbrev partQ3 (x6:Nat) (x:partT.γ):=∃x14:Nat,IntKind.wrap IntKind.i64 ((↑x6:Int)+(1:Int))=(↑x14:Int)∧
partQ1 x14 x∧
Nat.sub (List.length x) x14<Nat.sub (List.length x) x6
theorem part_vc (x:partT.γ):evCall partE (ev partE 1000) 268 (partT.args x) ⟨partT.blks x,partT.n0,[]⟩ (fun _ _=>False) (partT.ends x)=(
List.length x≤maxI64→
(∃x1:Nat,(0:Int)=(↑x1:Int)∧
partQ1 x1 x)∧
∀x6:Nat,partQ1 x6 x→
br (decide ((↑x6:Int)<(↑(List.length x):Int))) (br (partQ2 x6 x) (∃x11:UInt8,(↑(List.getD x (↑x6:Int).toNat (0:UInt8)).toNat:Int)=(↑x11.toNat:Int)∧
True∧
∀x12:Unit,True→
br (letterI (↑x11.toNat:Int)).not (br (partQ2 x6 x) (br ((↑(List.getD x (↑x6:Int).toNat (0:UInt8)).toNat:Int) != (46:Int)) (∃x13:Unit,false=partOk x∧
True) (partQ3 x6 x)) (Bad "check" "path.go:19")) (partQ3 x6 x)) (Bad "check" "path.go:19")) (List.length x≤maxI64→
∃x24:Unit,decide ((↑(List.length x):Int)≤(24:Int))=partOk x∧
True)):=by kernel_rfl
abbrev nameQ1 (x1:Nat) (x:nameT.γ):=x1≤List.length x∧
∀x2:Nat,∀x3:UInt8,x2<x1→
@GetElem?.getElem? Bs Nat UInt8 (fun x4:(List UInt8)=>fun x5:Nat=>x5<x4.length) _ x x2=Option.some x3→
letterP (↑x3.toNat:Int) false=true
theorem name_vc (x:nameT.γ):evCall nameE (ev nameE 1000) 185 (nameT.args x) ⟨nameT.blks x,nameT.n0,[]⟩ (fun _ _=>False) (nameT.ends x)=(
List.length x≤maxI64→
(∃x1:Nat,(0:Int)=(↑x1:Int)∧
nameQ1 x1 x)∧
∀x6:Nat,nameQ1 x6 x→
br (decide ((↑x6:Int)<(↑(List.length x):Int))) (br (decide ((0:Int)≤(↑x6:Int)∧
(↑x6:Int)<(↑(List.length x):Int))) (∃x11:UInt8,(↑(List.getD x (↑x6:Int).toNat (0:UInt8)).toNat:Int)=(↑x11.toNat:Int)∧
True∧
∀x12:Unit,True→
br (letterI (↑x11.toNat:Int)).not (∃x13:Unit,false=wordOk x false∧
True) (∃x14:Nat,IntKind.wrap IntKind.i64 ((↑x6:Int)+(1:Int))=(↑x14:Int)∧
nameQ1 x14 x∧
Nat.sub (List.length x) x14<Nat.sub (List.length x) x6)) (Bad "check" "path.go:98")) (List.length x≤maxI64→
br (decide (@GE.ge Int _ (↑(List.length x):Int) (1:Int))) (List.length x≤maxI64→
∃x19:Unit,decide ((↑(List.length x):Int)≤(24:Int))=wordOk x false∧
True) (∃x20:Unit,false=wordOk x false∧
True))):=by kernel_rfl
abbrev wordQ1 (x:wordT.γ):=(↑(WordA.s x).length:Int)
abbrev wordQ2 (x:wordT.γ):=∃x1:Unit,false=wordOk (WordA.s x) (WordA.point x)∧
True
abbrev wordQ3 (x3:Nat) (x:wordT.γ):=x3≤(WordA.s x).length∧
∀x4:Nat,∀x5:UInt8,x4<x3→
@GetElem?.getElem? Bs Nat UInt8 (fun x6:(List UInt8)=>fun x7:Nat=>x7<x6.length) _ (WordA.s x) x4=Option.some x5→
letterP (↑x5.toNat:Int) (WordA.point x)=true
theorem word_vc (x:wordT.γ):evCall wordE (ev wordE 1000) 192 (wordT.args x) ⟨wordT.blks x,wordT.n0,[]⟩ (fun _ _=>False) (wordT.ends x)=(
(WordA.s x).length≤maxI64→
br (wordQ1 x==(0:Int)) (wordQ2 x) ((WordA.s x).length≤maxI64→
br (decide (wordQ1 x>(24:Int))) (wordQ2 x) ((∃x3:Nat,(0:Int)=(↑x3:Int)∧
wordQ3 x3 x)∧
∀x8:Nat,wordQ3 x8 x→
(WordA.s x).length≤maxI64→
br (decide ((↑x8:Int)<wordQ1 x)) (br (decide ((0:Int)≤(↑x8:Int)∧
(↑x8:Int)<wordQ1 x)) (∃x13:LetA,(↑(List.getD (WordA.s x) (↑x8:Int).toNat (0:UInt8)).toNat:Int)=(↑x13.n.toNat:Int)∧
WordA.point x=x13.point∧
True∧
∀x14:Unit,True→
br (letterP (↑x13.n.toNat:Int) x13.point).not (wordQ2 x) (∃x16:Nat,IntKind.wrap IntKind.i64 ((↑x8:Int)+(1:Int))=(↑x16:Int)∧
wordQ3 x16 x∧
Nat.sub (WordA.s x).length x16<Nat.sub (WordA.s x).length x8)) (Bad "check" "ref.go:290")) (∃x21:Unit,true=wordOk (WordA.s x) (WordA.point x)∧
True)))):=by kernel_rfl
abbrev rpartsQ1 (x1:RpS) (x:rpartsT.γ):=(x1.f≤x1.i∧
x1.i≤List.length x)∧
x1.l.length≤x1.i∧
(∀x2:UInt8,@Membership.mem UInt8 (List UInt8) _ (List.take (x1.i-x1.f) (List.drop x1.f x)) x2→
(x2==(47:UInt8))=false)∧
@HAppend.hAppend (List Bs) (List Bs) (List Bs) _ x1.l (splitB (List.drop x1.f x))=splitB x
abbrev rpartsQ2 (x3:RpS):=Nat.le (x3.l.length*16) room47∧
Nat.le (1*16) room47
abbrev rpartsQ3 (x:rpartsT.γ) (x3:RpS):=[@cutL UInt8 x (Option.some (↑x3.f:Int)) (Option.some (↑x3.i:Int))]
abbrev rpartsQ4 (x3:RpS) (x5:RpS):=IntKind.wrap IntKind.i64 ((↑x3.i:Int)+(1:Int))=(↑x5.i:Int)
abbrev rpartsQ5 (x:rpartsT.γ) (x3:RpS):=List.take 1 (List.drop 0 [@cutL UInt8 x (Option.some (↑x3.f:Int)) (none:Option Int)])
theorem rparts_vc (x:rpartsT.γ):evCall rpartsE (ev rpartsE 1000) 207 (rpartsT.args x) ⟨rpartsT.blks x,rpartsT.n0,[]⟩ (fun _ _=>False) (rpartsT.ends x)=(
(∃x1:RpS,(0:Int)=(↑x1.i:Int)∧
(0:Int)=(↑x1.f:Int)∧
0=x1.l.length∧
([]:List (List UInt8))=x1.l∧
rpartsQ1 x1 x)∧
∀x3:RpS,rpartsQ1 x3 x→
List.length x≤maxI64→
br (decide ((↑x3.i:Int)<(↑(List.length x):Int))) (br (decide ((0:Int)≤(↑x3.i:Int)∧
(↑x3.i:Int)<(↑(List.length x):Int))) (br ((↑(List.getD x (↑x3.i:Int).toNat (0:UInt8)).toNat:Int)==(47:Int)) (br (bndB (List.length x) (Option.some (↑x3.f:Int)) (Option.some (↑x3.i:Int)) (none:Option Int)) (rpartsQ2 x3→
br (Bool.and (Bool.and (decide (0+1≤(rpartsQ3 x x3).length)) (decide (0+x3.l.length≤x3.l.length))) (decide ((x3.l.length+(List.take 1 (List.drop 0 (rpartsQ3 x x3))).length)*16≤room47))) (∃x5:RpS,rpartsQ4 x3 x5∧
IntKind.wrap IntKind.i64 ((↑x3.i:Int)+(1:Int))=(↑x5.f:Int)∧
0=0∧
x3.l.length+(List.take 1 (List.drop 0 (rpartsQ3 x x3))).length=x5.l.length∧
@HAppend.hAppend (List (List UInt8)) (List (List UInt8)) (List (List UInt8)) _ (List.take x3.l.length (List.drop 0 x3.l)) (List.take 1 (List.drop 0 (rpartsQ3 x x3)))=x5.l∧
rpartsQ1 x5 x∧
Nat.sub (List.length x) x5.i<Nat.sub (List.length x) x3.i) (Bad "check" "ref.go:272")) (Bad "check" "ref.go:272")) (∃x7:RpS,rpartsQ4 x3 x7∧
EqT (↑x3.f:Int) (↑x7.f:Int) x3.l x7.l (rpartsQ1 x7 x∧
Nat.sub (List.length x) x7.i<Nat.sub (List.length x) x3.i))) (Bad "check" "ref.go:271")) (br (bndB (List.length x) (Option.some (↑x3.f:Int)) (none:Option Int) (none:Option Int)) (rpartsQ2 x3→
br (Bool.and (Bool.and (decide (0+1≤[@cutL UInt8 x (Option.some (↑x3.f:Int)) (none:Option Int)].length)) (decide (0+x3.l.length≤x3.l.length))) (decide ((x3.l.length+(rpartsQ5 x x3).length)*16≤room47))) (∃x9:Unit,0=0∧
x3.l.length+(rpartsQ5 x x3).length=(splitB x).length∧
@HAppend.hAppend (List (List UInt8)) (List (List UInt8)) (List (List UInt8)) _ (List.take x3.l.length (List.drop 0 x3.l)) (rpartsQ5 x x3)=splitB x∧
True) (Bad "check" "ref.go:276")) (Bad "check" "ref.go:276"))):=by kernel_rfl
abbrev rcompareQ1 (x5:Nat) (x1:List UInt8) (x3:List UInt8):=x5≤(splitB x1).length∧
x5≤(splitB x3).length∧
cmpL (List.drop x5 (splitB x1)) (List.drop x5 (splitB x3))=cmpL (splitB x1) (splitB x3)
abbrev rcompareQ2 (x1:List UInt8):=(splitB x1).length*16≤room47
abbrev rcompareQ3 (x1:List UInt8):=(↑(splitB x1).length:Int)
abbrev rcompareQ4 (x6:Nat) (x1:List UInt8):=decide ((0:Int)≤(↑x6:Int)∧
(↑x6:Int)<rcompareQ3 x1)
abbrev rcompareQ5 (x6:Nat) (x1:List UInt8):=decide (0+(↑x6:Int).toNat<(splitB x1).length)
abbrev rcompareQ6 (x1:List UInt8) (x6:Nat):=List.getD (splitB x1) (0+(↑x6:Int).toNat) ([]:List UInt8)
abbrev rcompareQ7 (x:rcompareT.γ):=cmpL (splitB (TwoA.a x)) (splitB (TwoA.b x))
abbrev rcompareQ8 (x1:List UInt8) (x3:List UInt8) (x:rcompareT.γ):=rcompareQ2 x1→
rcompareQ2 x3→
br (decide (rcompareQ3 x1<rcompareQ3 x3)) (∃x10:Unit,@Neg.neg Int _ (1:Int)=rcompareQ7 x∧
True) (rcompareQ2 x1→
rcompareQ2 x3→
br (decide (rcompareQ3 x1>rcompareQ3 x3)) (∃x11:Unit,(1:Int)=rcompareQ7 x∧
True) (∃x12:Unit,(0:Int)=rcompareQ7 x∧
True))
theorem rcompare_vc (x:rcompareT.γ):evCall rcompareE (ev rcompareE 1000) 193 (rcompareT.args x) ⟨rcompareT.blks x,rcompareT.n0,[]⟩ (fun _ _=>False) (rcompareT.ends x)=(
∃x1:(List UInt8),TwoA.a x=x1∧
shortB x1=true∧
∀x2:Unit,True→
∃x3:(List UInt8),TwoA.b x=x3∧
shortB x3=true∧
∀x4:Unit,True→
(∃x5:Nat,(0:Int)=(↑x5:Int)∧
rcompareQ1 x5 x1 x3)∧
∀x6:Nat,rcompareQ1 x6 x1 x3→
rcompareQ2 x1→
br (decide ((↑x6:Int)<rcompareQ3 x1)) (rcompareQ2 x3→
br (decide ((↑x6:Int)<rcompareQ3 x3)) (br (rcompareQ4 x6 x1) (br (rcompareQ5 x6 x1) (br (rcompareQ4 x6 x3) (br (rcompareQ5 x6 x3) (br (Op.bytesLess (rcompareQ6 x1 x6) (rcompareQ6 x3 x6)) (∃x7:Unit,@Neg.neg Int _ (1:Int)=rcompareQ7 x∧
True) (br (rcompareQ4 x6 x1) (br (rcompareQ5 x6 x1) (br (rcompareQ4 x6 x3) (br (rcompareQ5 x6 x3) (br (Bool.or (Op.bytesLess (rcompareQ6 x1 x6) (rcompareQ6 x3 x6)) (rcompareQ6 x1 x6==rcompareQ6 x3 x6)).not (∃x8:Unit,(1:Int)=rcompareQ7 x∧
True) (∃x9:Nat,IntKind.wrap IntKind.i64 ((↑x6:Int)+(1:Int))=(↑x9:Int)∧
rcompareQ1 x9 x1 x3∧
Nat.sub (splitB x1).length x9<Nat.sub (splitB x1).length x6)) (Bad "check" "ref.go:343")) (Bad "check" "ref.go:343")) (Bad "check" "ref.go:343")) (Bad "check" "ref.go:343"))) (Bad "check" "ref.go:340")) (Bad "check" "ref.go:340")) (Bad "check" "ref.go:340")) (Bad "check" "ref.go:340")) (rcompareQ8 x1 x3 x)) (rcompareQ8 x1 x3 x)):=by kernel_rfl
abbrev normalQ1 (x2:NextA) (x1:NextA):=remB x2.left x2.s = @List.tail Bs (remB x1.left x1.s)∧
x2.s.length≤x1.s.length
abbrev normalQ2 (x1:NextA) (x3:NorS):=@List.headD Bs (remB x1.left x1.s) ([]:List UInt8)=x3.now
abbrev normalQ3 (x3:NorS):=cond x3.ok (List.cons x3.now (remB x3.left x3.s)) ([]:List Bs)
abbrev normalQ4 (x3:NorS) (x:normalT.γ):=(x3.k≤x3.r.length∧
x3.k+(normalQ3 x3).length≤List.length x+1)∧
normGo (normalQ3 x3) (List.take x3.k x3.r)=normGo (splitB x) ([]:List Bs)
abbrev normalQ5 (x6:NextA) (x7:NorS) (x4:NorS) (x:normalT.γ):=x6.s=x7.s∧
x6.left=x7.left∧
x4.r=x7.r∧
normalQ4 x7 x∧
(normalQ3 x7).length<(normalQ3 x4).length
abbrev normalQ6 (x4:NorS) (x:normalT.γ):=∃x5:NextA,x4.left=x5.left∧
x4.s=x5.s∧
True∧
∀x6:NextA,normalQ1 x6 x5→
∃x7:NorS,normalQ2 x5 x7∧
x5.left=x7.ok∧
0=0∧
x4.k=x7.k∧
normalQ5 x6 x7 x4 x
abbrev normalQ7 (x:normalT.γ):=∃x11:Unit,([]:List UInt8)=Option.getD (normB x) ([]:List UInt8)∧
false=(normB x).isSome∧
True
abbrev normalQ8 (x4:NorS):=Option.some (IntKind.wrap IntKind.i64 ((↑x4.k:Int)-(1:Int)))
abbrev normalQ9 (x20:Nat) (x4:NorS):=x20≤x4.k∧
∀x21:Nat,∀x22:(List UInt8),x21<x20→
@GetElem?.getElem? (List (List UInt8)) Nat (List UInt8) (fun x23:(List (List UInt8))=>fun x24:Nat=>x24<x23.length) _ x4.r x21=Option.some x22→
partOk x22=true
theorem normal_vc (x:normalT.γ):evCall normalE (ev normalE 1000) 252 (normalT.args x) ⟨normalT.blks x,normalT.n0,[]⟩ (fun _ _=>False) (normalT.ends x)=(
∃x1:NextA,true=x1.left∧
x=x1.s∧
True∧
∀x2:NextA,normalQ1 x2 x1→
(∃x3:NorS,normalQ2 x1 x3∧
x1.left=x3.ok∧
0=x3.k∧
x2.s=x3.s∧
x2.left=x3.left∧
([]:List (List UInt8))=x3.r∧
normalQ4 x3 x)∧
∀x4:NorS,normalQ4 x4 x→
br x4.ok (br (x4.now==([]:List UInt8)) (normalQ6 x4 x) (br (x4.now==Array.toList (ByteArray.data (ByteArray.mk (List.toArray [(46:UInt8)])))) (normalQ6 x4 x) (br (x4.now==Array.toList (ByteArray.data (ByteArray.mk (List.toArray [(46:UInt8),(46:UInt8)])))) (x4.k*16≤room47→
br ((↑x4.k:Int)==(0:Int)) (normalQ7 x) (x4.k*16≤room47→
br (bndB x4.k (none:Option Int) (normalQ8 x4) (none:Option Int)) (∃x12:NextA,x4.left=x12.left∧
x4.s=x12.s∧
True∧
∀x13:NextA,normalQ1 x13 x12→
∃x14:NorS,normalQ2 x12 x14∧
x12.left=x14.ok∧
addN 0 (none:Option Int)=0∧
cutN x4.k (none:Option Int) (normalQ8 x4)=x14.k∧
normalQ5 x13 x14 x4 x) (Bad "check" "path.go:50"))) (Nat.le (x4.k*16) room47∧
Nat.le (1*16) room47→
br (Bool.and (Bool.and (decide (0+1≤[x4.now].length)) (decide (0+x4.k≤x4.r.length))) (decide ((x4.k+(List.take 1 (List.drop 0 [x4.now])).length)*16≤room47))) (∃x15:NextA,x4.left=x15.left∧
x4.s=x15.s∧
True∧
∀x16:NextA,normalQ1 x16 x15→
∃x17:NorS,normalQ2 x15 x17∧
x15.left=x17.ok∧
0=0∧
x4.k+(List.take 1 (List.drop 0 [x4.now])).length=x17.k∧
x16.s=x17.s∧
x16.left=x17.left∧
@HAppend.hAppend (List (List UInt8)) (List (List UInt8)) (List (List UInt8)) _ (List.take x4.k (List.drop 0 x4.r)) (List.take 1 (List.drop 0 [x4.now]))=x17.r∧
normalQ4 x17 x∧
(normalQ3 x17).length<(normalQ3 x4).length) (Bad "check" "path.go:52"))))) (x4.k*16≤room47→
br ((↑x4.k:Int)==(0:Int)) (normalQ7 x) (x4.k*16≤room47→
br (decide ((↑x4.k:Int)>(8:Int))) (normalQ7 x) (x4.k*16≤room47→
(∃x20:Nat,(0:Int)=(↑x20:Int)∧
normalQ9 x20 x4)∧
∀x25:Nat,normalQ9 x25 x4→
br (decide ((↑x25:Int)<(↑x4.k:Int))) (br (decide ((0:Int)≤(↑x25:Int)∧
(↑x25:Int)<(↑x4.k:Int))) (br (decide (0+(↑x25:Int).toNat<x4.r.length)) (∃x30:(List UInt8),List.getD x4.r (0+(↑x25:Int).toNat) ([]:List UInt8)=x30∧
True∧
∀x31:Unit,True→
br (partOk x30).not (normalQ7 x) (∃x33:Nat,IntKind.wrap IntKind.i64 ((↑x25:Int)+(1:Int))=(↑x33:Int)∧
normalQ9 x33 x4∧
Nat.sub x4.k x33<Nat.sub x4.k x25)) (Bad "check" "path.go:58")) (Bad "check" "path.go:58")) (∃x38:JoinA,0+x4.k≤x4.r.length∧
List.take x4.k (List.drop 0 x4.r)=x38.l∧
Array.toList (ByteArray.data (ByteArray.mk (List.toArray [(47:UInt8)])))=x38.sep∧
(@Ne (List Bs) x38.l ([]:List Bs)∧
decide ((Lib.join x38.l x38.sep).length≤room47)=true)∧
∀x39:Unit,True→
(Lib.join x38.l x38.sep).length≤maxI64→
br (decide ((↑(Lib.join x38.l x38.sep).length:Int)>(64:Int))) (normalQ7 x) (∃x41:Unit,Lib.join x38.l x38.sep=Option.getD (normB x) ([]:List UInt8)∧
true=(normB x).isSome∧
True)))))):=by kernel_rfl
abbrev rnormalQ1 (x3:RnoS) (x1:List UInt8):=(x3.i≤(splitB x1).length∧
x3.k≤x3.r.length∧
x3.k≤x3.i)∧
normGo (List.drop x3.i (splitB x1)) (List.take x3.k x3.r)=normGo (splitB x1) ([]:List Bs)
abbrev rnormalQ2 (x4:RnoS) (x1:List UInt8):=decide ((0:Int)≤(↑x4.i:Int)∧
(↑x4.i:Int)<(↑(splitB x1).length:Int))
abbrev rnormalQ3 (x4:RnoS) (x1:List UInt8):=decide (0+(↑x4.i:Int).toNat<(splitB x1).length)
abbrev rnormalQ4 (x1:List UInt8) (x4:RnoS):=List.getD (splitB x1) (0+(↑x4.i:Int).toNat) ([]:List UInt8)
abbrev rnormalQ5 (x4:RnoS) (x5:RnoS):=IntKind.wrap IntKind.i64 ((↑x4.i:Int)+(1:Int))=(↑x5.i:Int)
abbrev rnormalQ6 (x4:RnoS) (x1:List UInt8):=∃x5:RnoS,rnormalQ5 x4 x5∧
0=0∧
x4.k=x5.k∧
x4.r=x5.r∧
rnormalQ1 x5 x1∧
Nat.sub (splitB x1).length x5.i<Nat.sub (splitB x1).length x4.i
abbrev rnormalQ7 (x:normalT.γ):=∃x7:Unit,([]:List UInt8)=Option.getD (normB x) ([]:List UInt8)∧
false=(normB x).isSome∧
True
abbrev rnormalQ8 (x4:RnoS):=Option.some (IntKind.wrap IntKind.i64 ((↑x4.k:Int)-(1:Int)))
abbrev rnormalQ9 (x12:Nat) (x4:RnoS):=Lib.join (List.take x12 x4.r) [(47:UInt8)]
abbrev rnormalQ10 (x12:Nat) (x4:RnoS):=x12≤x4.k∧
∀x13:Nat,∀x14:(List UInt8),x13<x12→
@GetElem?.getElem? (List (List UInt8)) Nat (List UInt8) (fun x15:(List (List UInt8))=>fun x16:Nat=>x16<x15.length) _ x4.r x13=Option.some x14→
wordOk x14 true=true
abbrev rnormalQ11 (x17:Nat) (x4:RnoS):=decide ((0:Int)≤(↑x17:Int)∧
(↑x17:Int)<(↑x4.k:Int))
abbrev rnormalQ12 (x4:RnoS) (x17:Nat):=List.getD x4.r (0+(↑x17:Int).toNat) ([]:List UInt8)
abbrev rnormalQ13  := Array.toList (ByteArray.data (ByteArray.mk (List.toArray [(47:UInt8)])))
theorem rnormal_vc (x:normalT.γ):evCall rnormalE (ev rnormalE 1000) 156 (normalT.args x) ⟨normalT.blks x,normalT.n0,[]⟩ (fun _ _=>False) (normalT.ends x)=(
∃x1:(List UInt8),x=x1∧
shortB x1=true∧
∀x2:Unit,True→
(∃x3:RnoS,(0:Int)=(↑x3.i:Int)∧
0=x3.k∧
([]:List (List UInt8))=x3.r∧
rnormalQ1 x3 x1)∧
∀x4:RnoS,rnormalQ1 x4 x1→
(splitB x1).length*16≤room47→
br (decide ((↑x4.i:Int)<(↑(splitB x1).length:Int))) (br (rnormalQ2 x4 x1) (br (rnormalQ3 x4 x1) (br (rnormalQ4 x1 x4==([]:List UInt8)) (rnormalQ6 x4 x1) (br (rnormalQ2 x4 x1) (br (rnormalQ3 x4 x1) (br (rnormalQ4 x1 x4==Array.toList (ByteArray.data (ByteArray.mk (List.toArray [(46:UInt8)])))) (rnormalQ6 x4 x1) (br (rnormalQ2 x4 x1) (br (rnormalQ3 x4 x1) (br (rnormalQ4 x1 x4==Array.toList (ByteArray.data (ByteArray.mk (List.toArray [(46:UInt8),(46:UInt8)])))) (x4.k*16≤room47→
br ((↑x4.k:Int)==(0:Int)) (rnormalQ7 x) (x4.k*16≤room47→
br (bndB x4.k (none:Option Int) (rnormalQ8 x4) (none:Option Int)) (∃x8:RnoS,rnormalQ5 x4 x8∧
addN 0 (none:Option Int)=0∧
cutN x4.k (none:Option Int) (rnormalQ8 x4)=x8.k∧
x4.r=x8.r∧
rnormalQ1 x8 x1∧
Nat.sub (splitB x1).length x8.i<Nat.sub (splitB x1).length x4.i) (Bad "check" "ref.go:311"))) (br (rnormalQ2 x4 x1) (br (rnormalQ3 x4 x1) (Nat.le (x4.k*16) room47∧
Nat.le (1*16) room47→
br (Bool.and (Bool.and (decide (0+1≤[rnormalQ4 x1 x4].length)) (decide (0+x4.k≤x4.r.length))) (decide ((x4.k+(List.take 1 (List.drop 0 [rnormalQ4 x1 x4])).length)*16≤room47))) (∃x9:RnoS,rnormalQ5 x4 x9∧
0=0∧
x4.k+(List.take 1 (List.drop 0 [rnormalQ4 x1 x4])).length=x9.k∧
@HAppend.hAppend (List (List UInt8)) (List (List UInt8)) (List (List UInt8)) _ (List.take x4.k (List.drop 0 x4.r)) (List.take 1 (List.drop 0 [rnormalQ4 x1 x4]))=x9.r∧
rnormalQ1 x9 x1∧
Nat.sub (splitB x1).length x9.i<Nat.sub (splitB x1).length x4.i) (Bad "check" "ref.go:313")) (Bad "check" "ref.go:313")) (Bad "check" "ref.go:313"))) (Bad "check" "ref.go:307")) (Bad "check" "ref.go:307"))) (Bad "check" "ref.go:306")) (Bad "check" "ref.go:306"))) (Bad "check" "ref.go:306")) (Bad "check" "ref.go:306")) (x4.k*16≤room47→
br ((↑x4.k:Int)==(0:Int)) (rnormalQ7 x) (x4.k*16≤room47→
br (decide ((↑x4.k:Int)>(8:Int))) (rnormalQ7 x) ((∃x12:Nat,(0:Int)=(↑x12:Int)∧
([]:List UInt8)=rnormalQ9 x12 x4∧
rnormalQ10 x12 x4)∧
∀x17:Nat,rnormalQ10 x17 x4→
x4.k*16≤room47→
br (decide ((↑x17:Int)<(↑x4.k:Int))) (br (rnormalQ11 x17 x4) (br (decide (0+(↑x17:Int).toNat<x4.r.length)) (∃x22:WordA,rnormalQ12 x4 x17=x22.s∧
true=x22.point∧
True∧
∀x23:Unit,True→
br (wordOk x22.s x22.point).not (rnormalQ7 x) (br (decide ((↑x17:Int)>(0:Int))) (br (decide ((rnormalQ9 x17 x4).length+rnormalQ13.length≤maxI64)) (br (rnormalQ11 x17 x4) (br (decide (0+(↑x17:Int).toNat<x4.r.length)) (br (decide ((@HAppend.hAppend Bs Bs Bs _ (rnormalQ9 x17 x4) rnormalQ13).length+(rnormalQ12 x4 x17).length≤maxI64)) (∃x25:Nat,IntKind.wrap IntKind.i64 ((↑x17:Int)+(1:Int))=(↑x25:Int)∧
@HAppend.hAppend Bs Bs Bs _ (@HAppend.hAppend Bs Bs Bs _ (rnormalQ9 x17 x4) rnormalQ13) (rnormalQ12 x4 x17)=rnormalQ9 x25 x4∧
rnormalQ10 x25 x4∧
Nat.sub x4.k x25<Nat.sub x4.k x17) (Bad "check" "ref.go:327")) (Bad "check" "ref.go:327")) (Bad "check" "ref.go:327")) (Bad "check" "ref.go:325")) (br (rnormalQ11 x17 x4) (br (decide (0+(↑x17:Int).toNat<x4.r.length)) (br (decide ((rnormalQ9 x17 x4).length+(rnormalQ12 x4 x17).length≤maxI64)) (∃x30:Nat,IntKind.wrap IntKind.i64 ((↑x17:Int)+(1:Int))=(↑x30:Int)∧
@HAppend.hAppend Bs Bs Bs _ (rnormalQ9 x17 x4) (rnormalQ12 x4 x17)=rnormalQ9 x30 x4∧
rnormalQ10 x30 x4∧
Nat.sub x4.k x30<Nat.sub x4.k x17) (Bad "check" "ref.go:327")) (Bad "check" "ref.go:327")) (Bad "check" "ref.go:327")))) (Bad "check" "ref.go:321")) (Bad "check" "ref.go:321")) ((rnormalQ9 x17 x4).length≤maxI64→
br (decide ((↑(rnormalQ9 x17 x4).length:Int)>(64:Int))) (rnormalQ7 x) (∃x36:Unit,rnormalQ9 x17 x4=Option.getD (normB x) ([]:List UInt8)∧
true=(normB x).isSome∧
True)))))):=by kernel_rfl
theorem split_ne:∀s,splitB s≠[]
  | []=>by simp [splitB]
  | c::r=>by
    unfold splitB
    cases c==47
    · simp only [cond_false];split<;>simp
    · simp
theorem split_cons {c:UInt8} (h:(c==47)=false) (r:Bs):splitB (c::r)=(c::(splitB r).headD [])::(splitB r).tail:=by
  conv=>lhs;unfold splitB
  rw [h]
  simp only [cond_false]
  cases hr:splitB r with
  | nil=>exact absurd hr (split_ne r)
  | cons p t=>rfl
theorem split_slash (r:Bs):splitB (47::r)=[]::splitB r:=rfl
theorem split_no:∀ {s:Bs},(∀c,c∈s→(c==47)=false)→splitB s=[s]
  | [],_=>rfl
  | c::r,h=>by rw [split_cons (h c (by simp)),split_no (fun d hd=>h d (by simp [hd]))];rfl
theorem split_at47:∀ {a:Bs},(∀c,c∈a→(c==47)=false) → ∀b,splitB (a++47::b)=a::splitB b
  | [],_,b=>rfl
  | c::r,h,b=>by rw [List.cons_append,split_cons (h c (by simp)),split_at47 (fun d hd=>h d (by simp [hd]))];rfl
theorem idx_none:∀ {s:Bs},Lib.indexByte s 47<0 → ∀c,c∈s→(c==47)=false
  | [],_,c,hc=>by cases hc
  | d::r,h,c,hc=>by
    unfold Lib.indexByte at h
    have:=Lib.indexByte_ge r 47
    split at h
    · omega
    · rename_i hd
      split at h
      · rename_i hr
        rcases List.mem_cons.1 hc with e | hc
        · subst e;simpa using hd
        · exact idx_none (by have:=of_decide_eq_true hr;omega) c hc
      · rename_i hr
        have:Lib.indexByte r 47 ≠ -1:=by simpa using hr
        omega
theorem idx_some:∀ {s:Bs},0≤Lib.indexByte s 47 → ∃k:Nat,Lib.indexByte s 47=k∧k<s.length∧(∀c,c∈s.take k→(c==47)=false)∧s=s.take k++47::s.drop (k+1)
  | [],h=>by simp [Lib.indexByte] at h
  | d::r,h=>by
    unfold Lib.indexByte at h ⊢
    split
    · rename_i hd
      have:d=47:=by simpa using hd
      subst this
      exact⟨0,rfl,by simp,by simp,by simp⟩
    · rename_i hd
      rw [if_neg hd] at h
      split at h
      · rename_i hr
        rw [if_pos hr] at *
        omega
      · rename_i hr
        have h1:=Lib.indexByte_ge r 47
        have h2:Lib.indexByte r 47 ≠ -1:=by simpa using hr
        obtain⟨k,e1,e2,e3,e4⟩:=idx_some (s:=r) (by omega)
        refine⟨k+1,?_,by simp;omega,?_,?_⟩
        · rw [if_neg hr,e1];rfl
        · intro c hc
          rw [List.take_succ_cons] at hc
          rcases List.mem_cons.1 hc with e | hc
          · subst e;simpa using hd
          · exact e3 c hc
        · rw [List.take_succ_cons,List.drop_succ_cons,List.cons_append,←e4]
theorem idx_split {s:Bs} (h:0≤Lib.indexByte s 47):∃k:Nat,Lib.indexByte s 47=k∧k<s.length∧splitB s=s.take k::splitB (s.drop (k+1)):=by
  obtain⟨k,h1,h2,h3,h4⟩:=idx_some h
  refine⟨k,h1,h2,?_⟩
  conv=>lhs;rw [h4]
  exact split_at47 h3 _
theorem split_len:∀s:Bs,(splitB s).length≤s.length+1
  | []=>by simp [splitB]
  | c::r=>by
    have:=split_len r
    by_cases h:c=47
    · subst h;rw [split_slash];simp;omega
    · rw [split_cons (by simpa using h)]
      have h1:(splitB r).length≠0:=by simp [split_ne]
      simp;omega
theorem cmpB_eq (x:Bs):cmpB x x=0:=by
  unfold cmpB
  rw [bytesLess_eq]
  have:¬x<x:=by exact List.lt_irrefl x
  simp [this]
theorem cmpB_zero {x y:Bs}:cmpB x y=0↔x=y:=by
  constructor
  · intro h
    unfold cmpB at h
    cases h1:Op.bytesLess x y<;>rw [h1] at h
    · simp only [cond_false] at h
      cases h2:x==y<;>rw [h2] at h
      · simp at h
      · simpa using h2
    · simp at h
  · rintro rfl;exact cmpB_eq x
theorem cmpB_vals (x y:Bs):cmpB x y = -1∨cmpB x y=0∨cmpB x y=1:=by
  unfold cmpB
  cases Op.bytesLess x y
  · cases x==y<;>simp
  · simp
theorem cmpB_neg {x y:Bs}:cmpB x y = -1↔x<y:=by
  unfold cmpB
  rw [bytesLess_eq]
  by_cases h:x<y
  · simp [h]
  · simp only [h,decide_false,cond_false,iff_false]
    cases x==y<;>simp
theorem cmpB_pos {x y:Bs}:cmpB x y=1↔y<x:=by
  constructor
  · intro h
    have h1:¬x<y:=fun h1=>by rw [cmpB_neg.2 h1] at h;cases h
    have h2:x≠y:=fun h2=>by rw [cmpB_zero.2 h2] at h;cases h
    by_cases h3:y<x
    · exact h3
    · exact absurd (List.le_antisymm (List.not_lt.1 h3) (List.not_lt.1 h1)) h2
  · intro h
    rcases cmpB_vals x y with h1 | h1 | h1
    · exact absurd (List.lt_trans h (cmpB_neg.1 h1)) (List.lt_irrefl _)
    · rw [cmpB_zero.1 h1] at h;exact absurd h (List.lt_irrefl _)
    · exact h1
theorem cmpB_swap (x y:Bs):cmpB y x = -cmpB x y:=by
  rcases cmpB_vals x y with h | h | h<;>rw [h]
  · exact cmpB_pos.2 (cmpB_neg.1 h)
  · exact cmpB_zero.2 (cmpB_zero.1 h).symm
  · exact cmpB_neg.2 (cmpB_pos.1 h)
theorem cmpL_self:∀a,cmpL a a=0
  | []=>rfl
  | x::a=>by simp [cmpL,cmpB_eq,cmpL_self a]
theorem cmpL_cons (x y:Bs) (a b:List Bs):cmpL (x::a) (y::b)=if x=y then cmpL a b else cmpB x y:=by
  conv=>lhs;unfold cmpL
  by_cases h:x=y
  · subst h;rw [if_pos rfl,cmpB_eq];simp only [beq_self_eq_true,cond_true]
  · rw [if_neg h]
    have:(cmpB x y==0)=false:=by
      rw [beq_eq_false_iff_ne];exact fun e=>h (cmpB_zero.1 e)
    rw [this];simp only [cond_false]
theorem cmpL_zero:∀ {a b:List Bs},cmpL a b=0↔a=b
  | [],[]=>by simp [cmpL]
  | [],_::_=>by simp [cmpL]
  | _::_,[]=>by simp [cmpL]
  | x::a,y::b=>by
    rw [cmpL_cons]
    split
    · rename_i h;rw [cmpL_zero];simp [h]
    · rename_i h
      constructor
      · intro h1;exact absurd (cmpB_zero.1 h1) h
      · intro h1;simp at h1;exact absurd h1.1 h
theorem cmpL_vals:∀(a b:List Bs),cmpL a b = -1∨cmpL a b=0∨cmpL a b=1
  | [],[]=>by simp [cmpL]
  | [],_::_=>by simp [cmpL]
  | _::_,[]=>by simp [cmpL]
  | x::a,y::b=>by
    rw [cmpL_cons]
    split
    · exact cmpL_vals a b
    · exact cmpB_vals x y
theorem cmpL_swap:∀(a b:List Bs),cmpL b a = -cmpL a b
  | [],[]=>rfl
  | [],_::_=>rfl
  | _::_,[]=>rfl
  | x::a,y::b=>by
    rw [cmpL_cons,cmpL_cons]
    by_cases h:x=y
    · rw [if_pos h,if_pos h.symm,cmpL_swap a b]
    · rw [if_neg h,if_neg (fun e=>h e.symm),cmpB_swap x y]
theorem cmpL_trans:∀ {a b c:List Bs},cmpL a b≤0→cmpL b c≤0→cmpL a c≤0∧(cmpL a c=0→cmpL a b=0∧cmpL b c=0)
  | [],[],[],_,_=>by simp [cmpL]
  | [],[],_::_,_,_=>by simp [cmpL]
  | [],_::_,[],_,h=>by simp [cmpL] at h
  | [],_::_,_::_,_,_=>by simp [cmpL]
  | _::_,[],_,h,_=>by simp [cmpL] at h
  | _::_,_::_,[],_,h=>by simp [cmpL] at h
  | x::a,y::b,z::c,h1,h2=>by
    rw [cmpL_cons] at h1 h2
    rw [cmpL_cons,cmpL_cons,cmpL_cons]
    by_cases e1:x=y
    · subst e1
      rw [if_pos rfl] at h1 ⊢
      by_cases e2:x=z
      · subst e2
        rw [if_pos rfl] at h2 ⊢
        rw [if_pos rfl]
        exact cmpL_trans h1 h2
      · rw [if_neg e2] at h2 ⊢
        rw [if_neg e2]
        exact⟨h2,fun h=>absurd (cmpB_zero.1 h) e2⟩
    · rw [if_neg e1] at h1 ⊢
      have g1:x<y:=by
        rcases cmpB_vals x y with h | h | h
        · exact cmpB_neg.1 h
        · exact absurd (cmpB_zero.1 h) e1
        · omega
      by_cases e2:y=z
      · subst e2
        rw [if_neg e1]
        exact⟨h1,fun h=>absurd (cmpB_zero.1 h) e1⟩
      · rw [if_neg e2] at h2 ⊢
        have g2:y<z:=by
          rcases cmpB_vals y z with h | h | h
          · exact cmpB_neg.1 h
          · exact absurd (cmpB_zero.1 h) e2
          · omega
        have g3:=List.lt_trans g1 g2
        have e3:x≠z:=fun e=>by subst e;exact absurd g3 (List.lt_irrefl _)
        rw [if_neg e3,cmpB_neg.2 g3]
        exact⟨by omega,fun h=>by omega⟩
theorem e47 (c:UInt8):((c.toNat:Int)==47)=(c==47):=by
  rw [Bool.eq_iff_iff]
  simp only [beq_iff_eq]
  constructor
  · intro h
    apply UInt8.toNat_inj.1
    show c.toNat=47
    omega
  · rintro rfl;rfl
theorem letterP_true (n:Int):letterP n true=(letterI n||n==46):=by simp [letterP]
theorem letterP_false (n:Int):letterP n false=letterI n:=by simp [letterP]
theorem all_step {p:UInt8→Prop} {s:Bs} {i:Nat} (h:∀(j:Nat) c,j<i→s[j]?=some c→p c) (hi:i<s.length) (hp:p (s.getD i 0)):∀(j:Nat) c,j<i+1→s[j]?=some c→p c:=by
  intro j c hj hc
  by_cases e:j=i
  · subst e
    simp only [List.getD,hc,Option.getD_some] at hp
    exact hp
  · exact h j c (by omega) hc
theorem all_of_all {p:UInt8→Bool} {s:Bs} (h:∀(j:Nat) c,j<s.length→s[j]?=some c→p c=true):s.all p=true:=by
  rw [List.all_eq_true]
  intro c hc
  obtain⟨j,hj⟩:=List.getElem?_of_mem hc
  exact h j c (List.getElem?_eq_some_iff.1 hj).1 hj
theorem not_all {p:UInt8→Bool} {s:Bs} {i:Nat} (h:i<s.length) (hp:p (s.getD i 0)=false):s.all p=false:=by
  cases h':s.all p
  · rfl
  · have:=List.all_eq_true.1 h' (s.getD i 0) (by simp [List.getD,h])
    rw [hp] at this;cases this
theorem normB_of {s:Bs} {st:List Bs} (h:normGo (splitB s) []=some st):normB s=normEnd st:=by unfold normB;rw [h]
theorem normB_no {s:Bs} (h:normGo (splitB s) []=none):normB s=none:=by unfold normB;rw [h]
theorem normEnd_long {st:List Bs} (h:8<st.length):normEnd st=none:=by unfold normEnd;simp [h]
theorem normEnd_bad {st:List Bs} {p:Bs} (hp:p∈st) (h:partOk p=false):normEnd st=none:=by
  unfold normEnd
  have:st.all partOk=false:=by
    cases h':st.all partOk
    · rfl
    · rw [List.all_eq_true.1 h' p hp] at h;cases h
  simp [this]
theorem normEnd_wide {st:List Bs} (h:64<(Lib.join st [47]).length):normEnd st=none:=by unfold normEnd;simp [h]
theorem normEnd_ok {st:List Bs} (h1:st≠[]) (h2:¬8<st.length) (h3:∀p,p∈st→partOk p=true) (h4:¬64<(Lib.join st [47]).length):normEnd st=some (Lib.join st [47]):=by
  unfold normEnd
  rw [List.all_eq_true.2 h3]
  have:(st==[])=false:=by cases st<;>first | rfl | exact absurd rfl h1
  rw [this]
  simp [h2,h4]
theorem fin_no {o:Option Bs} (h:o=none):([]:Bs)=o.getD []∧false=o.isSome:=by subst h;exact⟨rfl,rfl⟩
theorem fin_yes {o:Option Bs} {p:Bs} (h:o=some p):p=o.getD []∧true=o.isSome:=by subst h;exact⟨rfl,rfl⟩
theorem next_list {left:Bool} {s:Bs} {d:NextA} (h:remB d.left d.s=(remB left s).tail):(bif left then (remB left s).headD []::remB d.left d.s else [])=remB left s:=by
  cases left
  · rfl
  · rw [h]
    obtain⟨p,t,e⟩:=List.exists_cons_of_ne_nil (split_ne s)
    simp [remB,e]
theorem nor_next {left:Bool} {s:Bs} {r:List Bs} {k a c:Nat} {N:Option (List Bs)} (hI:normGo (remB left s) (r.take k)=N) (hk:k≤r.length) (hl:k+(remB left s).length≤a+1) (hc:(remB left s).length<c) :
    ∀d:NextA,remB d.left d.s=(remB left s).tail∧d.s.length≤s.length → ∃x:NorS,(remB left s).headD []=x.now∧left=x.ok∧k=x.k∧d.s=x.s∧d.left=x.left∧r=x.r∧
      ((x.k≤x.r.length∧x.k+(bif x.ok then x.now::remB x.left x.s else []).length≤a+1)∧normGo (bif x.ok then x.now::remB x.left x.s else []) (x.r.take x.k)=N)∧(bif x.ok then x.now::remB x.left x.s else []).length<c:=by
  rintro d ⟨hd,_⟩
  refine⟨⟨d.left,d.s,(remB left s).headD [],left,k,r⟩,rfl,rfl,rfl,rfl,rfl,rfl,?_⟩
  dsimp only
  rw [next_list hd]
  exact⟨⟨⟨hk,hl⟩,hI⟩,hc⟩
theorem normGo_ne:∀ {l st st':List Bs},normGo l st=some st'→(∀p,p∈st→p≠[]) → ∀p,p∈st'→p≠[]
  | [],st,st',h,hs=>by simp [normGo] at h;subst h;exact hs
  | p::r,st,st',h,hs=>by
    unfold normGo at h
    cases h1:(p==[]||p==[46])<;>rw [h1] at h
    · simp only [cond_false] at h
      cases h2:p==[46,46]<;>rw [h2] at h
      · simp only [cond_false] at h
        refine normGo_ne h fun q hq=>?_
        rcases List.mem_append.1 hq with hq | hq
        · exact hs q hq
        · rcases List.mem_singleton.1 hq with rfl
          rintro rfl
          simp at h1
      · simp only [cond_true] at h
        cases h3:st==[]<;>rw [h3] at h
        · exact normGo_ne h fun q hq=>hs q (List.dropLast_subset _ hq)
        · cases h
    · exact normGo_ne h hs
theorem word_part {p:Bs} (h:p≠[]):wordOk p true=partOk p:=by
  unfold wordOk partOk
  have:(p==[])=false:=by cases p<;>simp at h ⊢
  rw [this]
  simp [Bool.and_comm]
theorem join_snoc {st:List Bs} (h:st≠[]) (p:Bs):Lib.join (st++[p]) [47]=Lib.join st [47]++[47]++p:=by
  obtain⟨x,r,rfl⟩:=List.exists_cons_of_ne_nil h
  rw [List.cons_append,Lib.join_cons,Lib.join_cons]
  simp [Lib.joinTail]
theorem join_len:∀ {st:List Bs},(∀p,p∈st→p.length≤24)→(Lib.join st [47]).length≤25*st.length:=by
  have tail:∀(r:List Bs),(∀p,p∈r→p.length≤24)→(Lib.joinTail [47] r).length≤25*r.length:=by
    intro r
    induction r with
    | nil=>intro _;simp [Lib.joinTail]
    | cons p r ih=>
      intro h
      have h1:=ih fun q hq=>h q (by simp [hq])
      have h2:=h p (by simp)
      simp only [Lib.joinTail,List.map_cons,List.flatten_cons,List.length_append,List.length_cons] at h1 ⊢
      simp only [List.length_nil]
      omega
  intro st h
  cases st with
  | nil=>simp [Lib.join_nil]
  | cons p r=>
    rw [Lib.join_cons,List.length_append,List.length_cons]
    have h1:=tail r fun q hq=>h q (by simp [hq])
    have h2:=h p (by simp)
    omega
theorem getD_mem {α:Type} {l:List α} {i:Nat} {d:α} (h:i<l.length):l.getD i d∈l:=by
  simp [List.getD,h]
theorem all_step' {α:Type} {p:α→Prop} {s:List α} {i:Nat} (d:α) (h:∀(j:Nat) c,j<i→s[j]?=some c→p c) (hi:i<s.length) (hp:p (s.getD i d)):∀(j:Nat) c,j<i+1→s[j]?=some c→p c:=by
  intro j c hj hc
  by_cases e:j=i
  · subst e
    simp only [List.getD,hc,Option.getD_some] at hp
    exact hp
  · exact h j c (by omega) hc
theorem all_take {α:Type} {p:α→Prop} {s:List α} {i:Nat} (h:∀(j:Nat) c,j<i→s[j]?=some c→p c):∀c,c∈s.take i→p c:=by
  intro c hc
  obtain⟨j,hj⟩:=List.getElem?_of_mem hc
  have hlt:j<(s.take i).length:=(List.getElem?_eq_some_iff.1 hj).1
  rw [List.length_take] at hlt
  rw [List.getElem?_take_of_lt (by omega)] at hj
  exact h j c (by omega) hj
theorem take_take_le {α:Type} {l:List α} {a b:Nat} (h:a≤b):(l.take b).take a=l.take a:=by rw [List.take_take,Nat.min_eq_left h]
theorem take_pre {α:Type} {l:List α} {k:Nat} (x:α) (h:k≤l.length):(l.take k++[x]).take (k+1)=l.take k++[x]:=by
  rw [List.take_of_length_le];simp;omega
theorem dropLast_take {α:Type} {l:List α} {k:Nat} (h:k≤l.length):(l.take k).dropLast=l.take (k-1):=by
  rw [List.dropLast_eq_take,List.length_take,Nat.min_eq_left h,take_take_le (by omega)]
theorem cmpL_at {a b:List Bs} {i:Nat} (h1:i<a.length) (h2:i<b.length):cmpL (a.drop i) (b.drop i)=if a.getD i []=b.getD i [] then cmpL (a.drop (i+1)) (b.drop (i+1)) else cmpB (a.getD i []) (b.getD i []):=by
  have e:∀ {l:List Bs},i<l.length→l.drop i=l.getD i []::l.drop (i+1):=by
    intro l h
    rw [List.drop_eq_getElem_cons h]
    simp [h]
  rw [e h1,e h2,cmpL_cons]
open Go.Shelf
def jl156_ren:Go.Shelf.Ren:=⟨fun | 156=>269 | 165=>287 | 166=>288 | 169=>289 | 240=>299 | 241=>300 | 276=>308 | 277=>309 | n=>n,fun | 31=>227 | 9=>9 | 3=>3 | 4=>4 | 0=>0 | 20=>20 | 72=>297 | 76=>300 | 70=>294 | 37=>295 | 75=>299 | 127=>308 | 164=>311 | 5=>5 | 80=>302 | n=>n,fun | n=>n⟩
theorem jl156:Go.Proofs.Lays.n156 Tryz.prog jl156_ren:={
  mixed:=by kernel_rfl
  f156:=Tryz.func269.trans (congrArg some (by kernel_rfl))
  f165:=Tryz.func287.trans (congrArg some (by kernel_rfl))
  f166:=Tryz.func288.trans (congrArg some (by kernel_rfl))
  f169:=Tryz.func289.trans (congrArg some (by kernel_rfl))
  f240:=Tryz.func299.trans (congrArg some (by kernel_rfl))
  f241:=Tryz.func300.trans (congrArg some (by kernel_rfl))
  f276:=Tryz.func308.trans (congrArg some (by kernel_rfl))
  f277:=Tryz.func309.trans (congrArg some (by kernel_rfl))
  t0:=Tryz.underlying0
  a0:=Tryz.isAgg0
  z0:=Tryz.sizeOf0
  v0:=Tryz.zeroValue0
  t3:=Tryz.underlying3
  a3:=Tryz.isAgg3
  z3:=Tryz.sizeOf3
  v3:=Tryz.zeroValue3
  t4:=Tryz.underlying4
  a4:=Tryz.isAgg4
  z4:=Tryz.sizeOf4
  v4:=Tryz.zeroValue4
  t9:=Tryz.underlying9
  a9:=Tryz.isAgg9
  z9:=Tryz.sizeOf9
  v9:=Tryz.zeroValue9
  t20:=Tryz.underlying20
  a20:=Tryz.isAgg20
  z20:=Tryz.sizeOf20
  v20:=Tryz.zeroValue20
  t31:=Tryz.underlying227
  a31:=Tryz.isAgg227
  z31:=Tryz.sizeOf227
  v31:=Tryz.zeroValue227
  t37:=Tryz.underlying295
  a37:=Tryz.isAgg295
  z37:=Tryz.sizeOf295
  v37:=Tryz.zeroValue295
  t70:=Tryz.underlying294
  a70:=Tryz.isAgg294
  z70:=Tryz.sizeOf294
  v70:=Tryz.zeroValue294
  t72:=Tryz.underlying297
  a72:=Tryz.isAgg297
  z72:=Tryz.sizeOf297
  v72:=Tryz.zeroValue297
  t75:=Tryz.underlying299
  a75:=Tryz.isAgg299
  z75:=Tryz.sizeOf299
  v75:=Tryz.zeroValue299
  t76:=Tryz.underlying300
  a76:=Tryz.isAgg300
  z76:=Tryz.sizeOf300
  v76:=Tryz.zeroValue300
  t127:=Tryz.underlying308
  a127:=Tryz.isAgg308
  z127:=Tryz.sizeOf308
  v127:=Tryz.zeroValue308
  t164:=Tryz.underlying311
  a164:=Tryz.isAgg311
  z164:=Tryz.sizeOf311
  v164:=Tryz.zeroValue311}
theorem jx156:Builder.Extra Tryz.prog jl156_ren:={
  sizeBuilder:=by kernel_rfl
  liesBuilder:=by kernel_rfl
  t5:=Tryz.underlying5
  a5:=Tryz.isAgg5
  z5:=Tryz.sizeOf5
  v5:=Tryz.zeroValue5
  infoByte:=by kernel_rfl
  cellsByte:=by kernel_rfl
  sizeByte:=by kernel_rfl
  neB5:=by decide}
open Go.RowKit in
theorem strings_Join (bk o c:Nat) (xs:List ByteArray) (sep:ByteArray) (w:World) (hcells:∀(j:Nat) x,xs[j]?=some x→w.cell? ⟨bk,o+j,none⟩=some (.string x)) (hbk:bk<w.heap.size) (hN:xs.length≤140737488355328) (hcap:xs.length≤c) (hlen:(Lib.join (xs.map (·.data.toList)) sep.data.toList).length≤140737488355328) :
    Calls Tryz.prog 269 #[.slice (some ⟨bk,o,none⟩) xs.length c,.string sep] w fun e w'=>e = .returned (.string ⟨(Lib.join (xs.map (·.data.toList)) sep.data.toList).toArray⟩)∧Below w.heap.size w w':=Any.strings_Join jl156 jx156 bk o c xs sep w hcells hbk hN hcap hlen
theorem next_ok:SpecOK Tryz.prog 256 nextT.spec:=by
  refine Tri.okF (E:=nextE) (Env_ok' (by decide +kernel) (by simp) (by
    intro p hp
    rcases List.mem_singleton.1 hp with rfl
    exact ixb_ok (P:=Tryz.prog) (f:=312) Tryz.func312 (by kernel_rfl) (by kernel_rfl) (by kernel_rfl) (by kernel_rfl))) (n:=1000) nextT (fun _=>rfl) fun x hx _ hl=>?_
  rw [next_vc]
  delta nextQ7 nextQ6 nextQ5 nextQ4 nextQ3 nextQ2 nextQ1
  clear hx
  obtain⟨left,s⟩:=x
  have hl:s.length≤maxI64:=hl.2.1.1
  simp only [br_bad,br_true,br_false,List.length_singleton,and_self,Bool.not_true,Bool.not_false,Bool.not_not,decide_eq_true_eq,Bool.and_eq_true,List.take_zero,List.nil_append,List.drop_zero,Nat.zero_add,Int.toNat_natCast,Nat.sub_eq,true_and,and_true,exists_const,List.length_nil,Nat.zero_le,Nat.zero_mul,Nat.le_refl,List.length_set,List.take_length,Int.natCast_nonneg,forall_const,implies_true,Int.toNat_zero,Nat.le_eq,Int.le_refl,addN,cutN,loN,hiN,bndB,Option.getD,List.length_cons,List.take_succ_cons,List.length_take,List.length_drop,Option.isNone,Nat.add_zero,Nat.min_self]
  try simp only [br_iff,decide_eq_true_eq,decide_eq_false_iff_not,room47,Bool.not_eq_true',Bool.not_eq_false',gt_iff_lt]
  have hz:([(47:UInt8)].getD 0 0).toNat.toUInt8=47:=rfl
  rw [hz]
  unfold maxI64 at hl
  refine⟨?_,?_⟩
  · rintro rfl
    exact⟨⟨false,s⟩,rfl,rfl,rfl,rfl,rfl,Nat.le_refl _⟩
  · rintro rfl _
    refine⟨fun h2 _=>?_,fun _=>⟨fun h3=>?_,fun h3=>?_⟩⟩
    · have:s=[47]:=(eq_of_beq h2).symm
      subst this
      exact⟨by decide,⟨true,[]⟩,rfl,rfl,rfl,rfl,rfl,by simp⟩
    · obtain⟨k,e1,e2,e3⟩:=idx_split h3
      rw [e1]
      have hw:IntKind.i64.wrap ((k:Int)+((1:Nat):Int))=((k+1:Nat):Int):=by rw [wrap_id (by omega) (by omega)];rfl
      rw [hw]
      refine⟨by omega,fun _=>⟨by omega,⟨true,s.drop (k+1)⟩,?_,rfl,rfl,?_,?_,?_⟩⟩
      · simp [cutL,remB,e3,hiN,loN]
      · simp [cutL,hiN,loN]
      · simp [remB,e3]
      · simp
    · have hs:=split_no (idx_none (s:=s) (by omega))
      exact⟨⟨false,[]⟩,by simp [remB,hs],rfl,rfl,rfl,by simp [remB,hs],by simp⟩
theorem cmp_ok:SpecOK Tryz.prog 227 cmpT.spec:=by
  refine Tri.ok (E:=bareE) (Env_ok (by decide +kernel) (by simp)) (n:=1000) cmpT fun x hx=>?_
  rw [cmp_vc]
  delta cmpQ3 cmpQ2 cmpQ1
  clear hx
  obtain⟨a,b⟩:=x
  unfold cmpB
  simp only [br_bad,br_true,br_false,List.length_singleton,and_self,Bool.not_true,Bool.not_false,Bool.not_not,decide_eq_true_eq,Bool.and_eq_true,List.take_zero,List.nil_append,List.drop_zero,Nat.zero_add,Int.toNat_natCast,Nat.sub_eq,true_and,and_true,exists_const,List.length_nil,Nat.zero_le,Nat.zero_mul,Nat.le_refl,List.length_set,List.take_length,Int.natCast_nonneg,forall_const,implies_true,Int.toNat_zero,Nat.le_eq,Int.le_refl,addN,cutN,loN,hiN,bndB,Option.getD,List.length_cons,List.take_succ_cons,List.length_take,List.length_drop,Option.isNone,Nat.add_zero,Nat.min_self]
  try simp only [br_iff,decide_eq_true_eq,decide_eq_false_iff_not,room47,Bool.not_eq_true',Bool.not_eq_false',gt_iff_lt]
  cases h1:Op.bytesLess a b<;>cases h2:a==b<;>simp [h1,h2]
theorem compare_ok:SpecOK Tryz.prog 190 compareT.spec:=by
  refine Tri.ok (E:=compareE) (Env_ok (by decide +kernel) (by simp [next_ok,cmp_ok])) (n:=1000) compareT fun x hx=>?_
  rw [compare_vc]
  delta compareQ4 compareQ3 compareQ2 compareQ1
  clear hx
  obtain⟨a,b⟩:=x
  simp only [br_bad,br_true,br_false,List.length_singleton,and_self,Bool.not_true,Bool.not_false,Bool.not_not,decide_eq_true_eq,Bool.and_eq_true,List.take_zero,List.nil_append,List.drop_zero,Nat.zero_add,Int.toNat_natCast,Nat.sub_eq,true_and,and_true,exists_const,List.length_nil,Nat.zero_le,Nat.zero_mul,Nat.le_refl,List.length_set,List.take_length,Int.natCast_nonneg,forall_const,implies_true,Int.toNat_zero,Nat.le_eq,Int.le_refl,addN,cutN,loN,hiN,bndB,Option.getD,List.length_cons,List.take_succ_cons,List.length_take,List.length_drop,Option.isNone,Nat.add_zero,Nat.min_self]
  try simp only [br_iff,decide_eq_true_eq,decide_eq_false_iff_not,room47,Bool.not_eq_true',Bool.not_eq_false',gt_iff_lt]
  refine⟨⟨⟨true,a,true,b⟩,rfl,rfl,rfl,rfl,rfl⟩,?_⟩
  rintro ⟨la,sa,lb,sb⟩ hI
  dsimp only at hI
  refine⟨⟨la,sa⟩,rfl,rfl,?_⟩
  rintro ⟨la',sa'⟩ hA
  refine⟨⟨lb,sb⟩,rfl,rfl,?_⟩
  rintro ⟨lb',sb'⟩ hB
  dsimp only at hA hB ⊢
  have key:la=true→lb=true → ∃x10:TwoA,(remB la sa).headD []=x10.a∧(remB lb sb).headD []=x10.b∧((cmpB x10.a x10.b != 0)=true→cmpB x10.a x10.b=cmpL (splitB a) (splitB b))∧
      ((cmpB x10.a x10.b != 0)=false → ∃x13:CmpS,sa'=x13.sa∧la'=x13.la∧sb'=x13.sb∧lb'=x13.lb∧cmpL (remB x13.la x13.sa) (remB x13.lb x13.sb)=cmpL (splitB a) (splitB b)∧(remB x13.la x13.sa).length<(remB la sa).length):=by
    rintro rfl rfl
    have hA:=hA.1
    have hB:=hB.1
    simp only [remB,cond_true] at hA hB hI ⊢
    obtain⟨p,t,ep⟩:=List.exists_cons_of_ne_nil (split_ne sa)
    obtain⟨q,u,eq⟩:=List.exists_cons_of_ne_nil (split_ne sb)
    rw [ep,eq] at hI
    rw [ep] at hA ⊢
    rw [eq] at hB ⊢
    simp only [List.tail_cons] at hA hB
    simp only [List.headD_cons]
    rw [cmpL_cons] at hI
    refine⟨⟨p,q⟩,rfl,rfl,fun h=>?_,fun h=>⟨⟨la',sa',lb',sb'⟩,rfl,rfl,rfl,rfl,?_,?_⟩⟩
    · rw [if_neg] at hI
      · exact hI
      · rintro rfl
        rw [cmpB_eq] at h
        cases h
    · have:p=q:=cmpB_zero.1 (by simpa using h)
      rw [if_pos this] at hI
      rw [←hI]
      simp only [←hA,←hB]
    · have:remB la' sa'=t:=hA
      rw [show (bif la' then splitB sa' else [])=t from hA]
      simp
  refine⟨?_,?_⟩
  · rintro rfl
    refine⟨?_,?_⟩
    · rintro rfl
      exact hI
    · rintro rfl
      refine⟨fun _=>?_,fun h=>(nomatch h)⟩
      rw [←hI]
      obtain⟨q,u,eq⟩:=List.exists_cons_of_ne_nil (split_ne sb)
      simp [remB,eq,cmpL]
  · rintro rfl
    refine⟨fun h=>(nomatch h),fun _=>⟨?_,fun h=>key rfl h⟩⟩
    rintro rfl
    rw [←hI]
    obtain⟨q,u,eq⟩:=List.exists_cons_of_ne_nil (split_ne sa)
    simp [remB,eq,cmpL]
theorem letter_ok:SpecOK Tryz.prog 221 letterT.spec:=by
  refine Tri.ok (E:=bareE) (Env_ok (by decide +kernel) (by simp)) (n:=1000) letterT fun x hx=>?_
  rw [letter_vc]
  delta letterQ3 letterQ2 letterQ1
  clear hx
  revert x
  intro (n:UInt8)
  unfold letterI
  simp only [br_bad,br_true,br_false,List.length_singleton,and_self,Bool.not_true,Bool.not_false,Bool.not_not,decide_eq_true_eq,Bool.and_eq_true,List.take_zero,List.nil_append,List.drop_zero,Nat.zero_add,Int.toNat_natCast,Nat.sub_eq,true_and,and_true,exists_const,List.length_nil,Nat.zero_le,Nat.zero_mul,Nat.le_refl,List.length_set,List.take_length,Int.natCast_nonneg,forall_const,implies_true,Int.toNat_zero,Nat.le_eq,Int.le_refl,addN,cutN,loN,hiN,bndB,Option.getD,List.length_cons,List.take_succ_cons,List.length_take,List.length_drop,Option.isNone,Nat.add_zero,Nat.min_self]
  try simp only [br_iff,decide_eq_true_eq,decide_eq_false_iff_not,room47,Bool.not_eq_true',Bool.not_eq_false',gt_iff_lt]
  generalize (n.toNat:Int)=m
  by_cases h1:97≤m<;>by_cases h2:m≤122<;>by_cases h3:48≤m<;>by_cases h4:m≤57<;>by_cases h5:m=95<;>by_cases h6:m=45<;>simp [h1,h2,h3,h4,h5,h6]<;>omega
theorem letr_ok:SpecOK Tryz.prog 231 letrT.spec:=by
  refine Tri.ok (E:=bareE) (Env_ok (by decide +kernel) (by simp)) (n:=1000) letrT fun x hx=>?_
  rw [letr_vc]
  delta letrQ4 letrQ3 letrQ2 letrQ1
  clear hx
  obtain⟨n,p⟩:=x
  unfold letterP letterI
  simp only [br_bad,br_true,br_false,List.length_singleton,and_self,Bool.not_true,Bool.not_false,Bool.not_not,decide_eq_true_eq,Bool.and_eq_true,List.take_zero,List.nil_append,List.drop_zero,Nat.zero_add,Int.toNat_natCast,Nat.sub_eq,true_and,and_true,exists_const,List.length_nil,Nat.zero_le,Nat.zero_mul,Nat.le_refl,List.length_set,List.take_length,Int.natCast_nonneg,forall_const,implies_true,Int.toNat_zero,Nat.le_eq,Int.le_refl,addN,cutN,loN,hiN,bndB,Option.getD,List.length_cons,List.take_succ_cons,List.length_take,List.length_drop,Option.isNone,Nat.add_zero,Nat.min_self]
  try simp only [br_iff,decide_eq_true_eq,decide_eq_false_iff_not,room47,Bool.not_eq_true',Bool.not_eq_false',gt_iff_lt]
  generalize (n.toNat:Int)=m
  by_cases h1:97≤m<;>by_cases h2:m≤122<;>by_cases h3:48≤m<;>by_cases h4:m≤57<;>by_cases h5:m=95<;>by_cases h6:m=45<;>cases p<;>simp [h1,h2,h3,h4,h5,h6]<;>omega
theorem part_ok:SpecOK Tryz.prog 268 partT.spec:=by
  refine Tri.ok (E:=partE) (Env_ok (by decide +kernel) (by simp [letter_ok])) (n:=1000) partT fun x hx=>?_
  rw [part_vc]
  delta partQ3 partQ2 partQ1
  clear hx
  revert x
  intro (s:Bs)
  simp only [br_bad,br_true,br_false,List.length_singleton,and_self,Bool.not_true,Bool.not_false,Bool.not_not,decide_eq_true_eq,Bool.and_eq_true,List.take_zero,List.nil_append,List.drop_zero,Nat.zero_add,Int.toNat_natCast,Nat.sub_eq,true_and,and_true,exists_const,List.length_nil,Nat.zero_le,Nat.zero_mul,Nat.le_refl,List.length_set,List.take_length,Int.natCast_nonneg,forall_const,implies_true,Int.toNat_zero,Nat.le_eq,Int.le_refl,addN,cutN,loN,hiN,bndB,Option.getD,List.length_cons,List.take_succ_cons,List.length_take,List.length_drop,Option.isNone,Nat.add_zero,Nat.min_self]
  try simp only [br_iff,decide_eq_true_eq,decide_eq_false_iff_not,room47,Bool.not_eq_true',Bool.not_eq_false',gt_iff_lt]
  intro hl
  unfold maxI64 at hl
  refine⟨⟨0,rfl,by omega,fun j c h=>by omega⟩,fun i ⟨h1,h2⟩=>⟨fun h3=>⟨h3,s.getD i 0,rfl,fun h4=>⟨h3,fun h5=>?_,fun h5=>?_⟩,fun h4=>?_⟩,fun h3 _=>?_⟩⟩
  · have:letterP (s.getD i 0).toNat true=false:=by rw [letterP_true,h4];simpa using h5
    unfold partOk
    rw [not_all (i:=i) (by omega) this]
    rfl
  · refine⟨i+1,by rw [wrap_id (by omega) (by omega)];rfl,⟨by omega,all_step h2 (by omega) ?_⟩,by omega⟩
    rw [letterP_true,h4]
    simpa using h5
  · refine⟨i+1,by rw [wrap_id (by omega) (by omega)];rfl,⟨by omega,all_step h2 (by omega) ?_⟩,by omega⟩
    rw [letterP_true,h4]
    rfl
  · unfold partOk
    rw [all_of_all (fun j c hj hc=>h2 j c (by omega) hc)]
    simp
    omega
theorem name_ok:SpecOK Tryz.prog 185 nameT.spec:=by
  refine Tri.ok (E:=nameE) (Env_ok (by decide +kernel) (by simp [letter_ok])) (n:=1000) nameT fun x hx=>?_
  rw [name_vc]
  delta nameQ1
  clear hx
  revert x
  intro (s:Bs)
  simp only [br_bad,br_true,br_false,List.length_singleton,and_self,Bool.not_true,Bool.not_false,Bool.not_not,decide_eq_true_eq,Bool.and_eq_true,List.take_zero,List.nil_append,List.drop_zero,Nat.zero_add,Int.toNat_natCast,Nat.sub_eq,true_and,and_true,exists_const,List.length_nil,Nat.zero_le,Nat.zero_mul,Nat.le_refl,List.length_set,List.take_length,Int.natCast_nonneg,forall_const,implies_true,Int.toNat_zero,Nat.le_eq,Int.le_refl,addN,cutN,loN,hiN,bndB,Option.getD,List.length_cons,List.take_succ_cons,List.length_take,List.length_drop,Option.isNone,Nat.add_zero,Nat.min_self]
  try simp only [br_iff,decide_eq_true_eq,decide_eq_false_iff_not,room47,Bool.not_eq_true',Bool.not_eq_false',gt_iff_lt]
  intro hl
  unfold maxI64 at hl
  refine⟨⟨0,rfl,by omega,fun j c h=>by omega⟩,fun i ⟨h1,h2⟩=>⟨fun h3=>⟨h3,s.getD i 0,rfl,fun h4=>?_,fun h4=>?_⟩,fun h3 _=>⟨fun h5 _=>?_,fun h5=>?_⟩⟩⟩
  · have:letterP (s.getD i 0).toNat false=false:=by rw [letterP_false,h4]
    unfold wordOk
    rw [not_all (i:=i) (by omega) this]
    simp
  · refine⟨i+1,by rw [wrap_id (by omega) (by omega)];rfl,⟨by omega,all_step h2 (by omega) ?_⟩,by omega⟩
    rw [letterP_false,h4]
  · unfold wordOk
    rw [all_of_all (fun j c hj hc=>h2 j c (by omega) hc)]
    have:(s==[])=false:=by cases s<;>first | rfl | (simp at h5)
    rw [this]
    simp
    omega
  · have:s=[]:=by cases s<;>simp at h5 ⊢;omega
    subst this
    rfl
theorem word_ok:SpecOK Tryz.prog 192 wordT.spec:=by
  refine Tri.ok (E:=wordE) (Env_ok (by decide +kernel) (by simp [letr_ok])) (n:=1000) wordT fun x hx=>?_
  rw [word_vc]
  delta wordQ3 wordQ2 wordQ1
  clear hx
  obtain⟨s,p⟩:=x
  simp only [br_bad,br_true,br_false,List.length_singleton,and_self,Bool.not_true,Bool.not_false,Bool.not_not,decide_eq_true_eq,Bool.and_eq_true,List.take_zero,List.nil_append,List.drop_zero,Nat.zero_add,Int.toNat_natCast,Nat.sub_eq,true_and,and_true,exists_const,List.length_nil,Nat.zero_le,Nat.zero_mul,Nat.le_refl,List.length_set,List.take_length,Int.natCast_nonneg,forall_const,implies_true,Int.toNat_zero,Nat.le_eq,Int.le_refl,addN,cutN,loN,hiN,bndB,Option.getD,List.length_cons,List.take_succ_cons,List.length_take,List.length_drop,Option.isNone,Nat.add_zero,Nat.min_self]
  try simp only [br_iff,decide_eq_true_eq,decide_eq_false_iff_not,room47,Bool.not_eq_true',Bool.not_eq_false',gt_iff_lt]
  intro hl
  unfold maxI64 at hl
  refine⟨fun h=>?_,fun h0 _=>⟨fun h=>?_,fun h5=>⟨⟨0,rfl,by omega,fun j c h=>by omega⟩,fun i ⟨h1,h2⟩ _=>⟨fun h3=>⟨h3,⟨s.getD i 0,p⟩,rfl,rfl,fun h4=>?_,fun h4=>?_⟩,fun h3=>?_⟩⟩⟩⟩
  · have:s=[]:=by simpa using h
    subst this
    rfl
  · unfold wordOk
    have:¬s.length≤24:=by omega
    simp [this]
  · unfold wordOk
    rw [not_all (i:=i) (by omega) h4]
    simp
  · exact⟨i+1,by rw [wrap_id (by omega) (by omega)];rfl,⟨by omega,all_step h2 (by omega) h4⟩,by omega⟩
  · unfold wordOk
    rw [all_of_all (fun j c hj hc=>h2 j c (by omega) hc)]
    have:s≠[]:=by rintro rfl;simp at h0
    have h6:s.length≤24:=by omega
    simp [this,h6]
theorem rparts_ok:SpecOK Tryz.prog 207 rpartsT.spec:=by
  refine Tri.ok (E:=rpartsE) (Env_ok (by decide +kernel) (by simp)) (n:=1000) rpartsT fun x hx=>?_
  rw [rparts_vc]
  delta rpartsQ5 rpartsQ4 rpartsQ3 rpartsQ2 rpartsQ1 EqT
  revert x
  intro (s:Bs) hx
  have hx:s.length≤1000000:=of_decide_eq_true hx
  simp only [br_bad,br_true,br_false,List.length_singleton,and_self,Bool.not_true,Bool.not_false,Bool.not_not,decide_eq_true_eq,Bool.and_eq_true,List.take_zero,List.nil_append,List.drop_zero,Nat.zero_add,Int.toNat_natCast,Nat.sub_eq,true_and,and_true,exists_const,List.length_nil,Nat.zero_le,Nat.zero_mul,Nat.le_refl,List.length_set,List.take_length,Int.natCast_nonneg,forall_const,implies_true,Int.toNat_zero,Nat.le_eq,Int.le_refl,addN,cutN,loN,hiN,bndB,Option.getD,List.length_cons,List.take_succ_cons,List.length_take,List.length_drop,Option.isNone,Nat.add_zero,Nat.min_self]
  try simp only [br_iff,decide_eq_true_eq,decide_eq_false_iff_not,room47,Bool.not_eq_true',Bool.not_eq_false',gt_iff_lt]
  refine⟨⟨⟨0,0,[]⟩,rfl,rfl,rfl,rfl,by simp,by simp,by simp,by simp⟩,?_⟩
  rintro ⟨i,f,l⟩ ⟨⟨h1,h2⟩,h3,h4,h5⟩ _
  dsimp only at h1 h2 h3 h4 h5 ⊢
  refine⟨fun h6=>⟨h6,fun h7=>⟨⟨by omega,by omega⟩,fun _=>⟨by omega,?_⟩⟩,fun h7=>?_⟩,fun h6=>⟨by omega,fun _=>⟨by omega,?_⟩⟩⟩
  · rw [e47] at h7
    have hc:cutL s (some (f:Int)) (some (i:Int))=(s.drop f).take (i-f):=by simp [cutL,loN,hiN]
    refine⟨⟨i+1,i+1,l++[(s.drop f).take (i-f)]⟩,by rw [wrap_id (by omega) (by omega)];rfl,by rw [wrap_id (by omega) (by omega)];rfl,by simp,by rw [hc],⟨⟨by simp,by dsimp only;omega⟩,by simp;omega,by simp,?_⟩,by dsimp only;omega⟩
    dsimp only
    have hs:s.drop f=(s.drop f).take (i-f)++47::s.drop (i+1):=by
      have:(s.drop f).drop (i-f)=47::s.drop (i+1):=by
        rw [List.drop_drop,show f+(i-f)=i by omega,List.drop_eq_getElem_cons (by omega)]
        congr 1
        have:=eq_of_beq h7
        simpa [show i<s.length by omega] using this
      rw [←this,List.take_append_drop]
    rw [←h5,hs,split_at47 h4,←hs,List.append_assoc]
    rfl
  · rw [e47] at h7
    refine⟨⟨i+1,f,l⟩,by rw [wrap_id (by omega) (by omega)];rfl,rfl,rfl,rfl,⟨⟨by dsimp only;omega,by dsimp only;omega⟩,by dsimp only;omega,?_,h5⟩,by dsimp only;omega⟩
    dsimp only
    rw [show i+1-f=i-f+1 by omega,take_succ_getD 0 (by rw [List.length_drop];omega)]
    intro c hc
    rcases List.mem_append.1 hc with hc | hc
    · exact h4 c hc
    · rcases List.mem_singleton.1 hc with rfl
      have:(s.drop f).getD (i-f) 0=s.getD i 0:=by simp [List.getD,show f+(i-f)=i by omega]
      rw [this]
      exact h7
  · have hc:cutL s (some (f:Int)) none=s.drop f:=by simp [cutL,loN,hiN]
    have hn:∀c,c∈s.drop f→(c==47)=false:=by
      intro c hc
      refine h4 c ?_
      rw [List.take_of_length_le (by rw [List.length_drop];omega)]
      exact hc
    rw [hc,←h5,split_no hn]
    simp
theorem rcompare_ok:SpecOK Tryz.prog 193 rcompareT.spec:=by
  refine Tri.ok (E:=rcompareE) (Env_ok (by decide +kernel) (by simp [rparts_ok])) (n:=1000) rcompareT fun x hx=>?_
  rw [rcompare_vc]
  delta rcompareQ8 rcompareQ7 rcompareQ6 rcompareQ5 rcompareQ4 rcompareQ3 rcompareQ2 rcompareQ1
  obtain⟨a,b⟩:=x
  obtain⟨ha,hb⟩:=hx
  simp only [br_bad,br_true,br_false,List.length_singleton,and_self,Bool.not_true,Bool.not_false,Bool.not_not,decide_eq_true_eq,Bool.and_eq_true,List.take_zero,List.nil_append,List.drop_zero,Nat.zero_add,Int.toNat_natCast,Nat.sub_eq,true_and,and_true,exists_const,List.length_nil,Nat.zero_le,Nat.zero_mul,Nat.le_refl,List.length_set,List.take_length,Int.natCast_nonneg,forall_const,implies_true,Int.toNat_zero,Nat.le_eq,Int.le_refl,addN,cutN,loN,hiN,bndB,Option.getD,List.length_cons,List.take_succ_cons,List.length_take,List.length_drop,Option.isNone,Nat.add_zero,Nat.min_self]
  try simp only [br_iff,decide_eq_true_eq,decide_eq_false_iff_not,room47,Bool.not_eq_true',Bool.not_eq_false',gt_iff_lt]
  have la:a.length≤1000000:=of_decide_eq_true ha
  have lb:b.length≤1000000:=of_decide_eq_true hb
  have sa:=split_len a
  have sb:=split_len b
  refine⟨a,rfl,ha,b,rfl,hb,?_⟩
  generalize splitB a=A at sa ⊢
  generalize splitB b=B at sb ⊢
  refine⟨⟨0,rfl,by omega,by omega,rfl⟩,fun i ⟨h1,h2,h3⟩ _=>?_⟩
  have end1:¬(i:Int)<A.length→((A.length:Int)<B.length → -1=cmpL A B)∧(¬(A.length:Int)<B.length→((B.length:Int)<A.length→1=cmpL A B)∧(¬(B.length:Int)<A.length→0=cmpL A B)):=by
    intro h
    rw [←h3,List.drop_of_length_le (by omega:A.length≤i)]
    refine⟨fun h4=>?_,fun h4=>⟨fun h5=>by omega,fun h5=>?_⟩⟩
    · rw [List.drop_eq_getElem_cons (by omega:i<B.length)];rfl
    · rw [List.drop_of_length_le (by omega:B.length≤i)];rfl
  refine⟨fun h4 _=>⟨fun h5=>⟨h4,by omega,h5,by omega,fun h6=>?_,fun h6=>⟨h4,by omega,h5,by omega,fun h7=>?_,fun h7=>⟨i+1,by rw [wrap_id (by omega) (by omega)];rfl,⟨by omega,by omega,?_⟩,by omega⟩⟩⟩,fun h5 _ _=>⟨fun h6=>by omega,fun h6 _ _=>⟨fun h7=>?_,fun h7=>by omega⟩⟩⟩,fun h4 _ _=>⟨fun h=>(end1 h4).1 h,fun h _ _=>(end1 h4).2 h⟩⟩
  · rw [←h3,cmpL_at (by omega) (by omega)]
    have e:cmpB (A.getD i []) (B.getD i []) = -1:=by unfold cmpB;rw [h6];rfl
    rw [if_neg,e]
    intro e'
    rw [cmpB_zero.2 e'] at e
    cases e
  · rw [←h3,cmpL_at (by omega) (by omega)]
    have h7':=h7
    rw [h6,Bool.false_or] at h7'
    have e:cmpB (A.getD i []) (B.getD i [])=1:=by unfold cmpB;rw [h6,h7'];rfl
    rw [if_neg,e]
    intro e'
    rw [cmpB_zero.2 e'] at e
    cases e
  · rw [h6,Bool.false_or] at h7
    rw [cmpL_at (by omega) (by omega),if_pos (eq_of_beq h7)] at h3
    exact h3
  · rw [←h3,List.drop_of_length_le (by omega:B.length≤i),List.drop_eq_getElem_cons (by omega:i<A.length)];rfl
theorem normal_ok:SpecOK Tryz.prog 252 normalT.spec:=by
  refine Tri.ok (E:=normalE) (Env_ok (by decide +kernel) (by simp [next_ok,part_ok];exact join_ok strings_Join)) (n:=1000) normalT fun x hx=>?_
  rw [normal_vc]
  delta normalQ9 normalQ8 normalQ7 normalQ6 normalQ5 normalQ4 normalQ3 normalQ2 normalQ1
  revert x
  intro (s:Bs) hx
  have hx:s.length≤1000000:=of_decide_eq_true hx
  simp only [br_bad,br_true,br_false,List.length_singleton,and_self,Bool.not_true,Bool.not_false,Bool.not_not,decide_eq_true_eq,Bool.and_eq_true,List.take_zero,List.nil_append,List.drop_zero,Nat.zero_add,Int.toNat_natCast,Nat.sub_eq,true_and,and_true,exists_const,List.length_nil,Nat.zero_le,Nat.zero_mul,Nat.le_refl,List.length_set,List.take_length,Int.natCast_nonneg,forall_const,implies_true,Int.toNat_zero,Nat.le_eq,Int.le_refl,addN,cutN,loN,hiN,bndB,Option.getD,List.length_cons,List.take_succ_cons,List.length_take,List.length_drop,Option.isNone,Nat.add_zero,Nat.min_self]
  try simp only [br_iff,decide_eq_true_eq,decide_eq_false_iff_not,room47,Bool.not_eq_true',Bool.not_eq_false',gt_iff_lt]
  have hsl:=split_len s
  refine⟨⟨true,s⟩,rfl,rfl,fun d ⟨hd,hd2⟩=>⟨?_,?_⟩⟩
  · obtain⟨x,h⟩:=nor_next (left:=true) (s:=s) (r:=[]) (k:=0) (a:=s.length) (c:=(splitB s).length+1) rfl (by simp) (by simp [remB];omega) (by simp [remB]) d ⟨hd,hd2⟩
    exact⟨x,h.1,h.2.1,h.2.2.1,h.2.2.2.1,h.2.2.2.2.1,h.2.2.2.2.2.1,h.2.2.2.2.2.2.1⟩
  rintro ⟨left,s',now,ok,k,r⟩ ⟨⟨h1,h2⟩,hI⟩
  dsimp only at h1 h2 hI ⊢
  refine⟨?_,?_⟩
  · rintro rfl
    simp only [cond_true] at h2 hI ⊢
    rw [List.length_cons] at h2
    refine⟨fun h3=>?_,fun h3=>⟨fun h4=>?_,fun h4=>⟨fun h5 _=>⟨fun h6=>?_,fun h6 _=>?_⟩,fun h5 _=>?_⟩⟩⟩
    · refine⟨⟨left,s'⟩,rfl,rfl,nor_next (left:=left) (s:=s') ?_ h1 (by omega) (by simp)⟩
      rw [←hI];conv=>rhs;unfold normGo
      rw [h3];rfl
    · refine⟨⟨left,s'⟩,rfl,rfl,nor_next (left:=left) (s:=s') ?_ h1 (by omega) (by simp)⟩
      rw [←hI];conv=>rhs;unfold normGo
      rw [h3,h4];rfl
    · refine fin_no (normB_no ?_)
      have:k=0:=by have:=eq_of_beq h6;omega
      subst this
      rw [←hI];conv=>lhs;unfold normGo
      rw [h3,h4,h5];rfl
    · have hk:k≠0:=by rintro rfl;simp at h6
      have hw:IntKind.i64.wrap ((k:Int)-1)=((k-1:Nat):Int):=by rw [wrap_id (by omega) (by omega)];omega
      rw [hw]
      refine⟨by omega,⟨left,s'⟩,rfl,rfl,nor_next (left:=left) (s:=s') (k:=k-1) ?_ (by omega) (by omega) (by simp)⟩
      rw [←hI];conv=>rhs;unfold normGo
      have hne:(r.take k==[])=false:=by
        have:(r.take k).length=k:=by rw [List.length_take];omega
        cases hh:r.take k with
        | nil=>rw [hh] at this;simp at this;omega
        | cons _ _=>rfl
      rw [h3,h4,h5,hne,dropLast_take h1];rfl
    · refine⟨⟨h1,by omega⟩,⟨left,s'⟩,rfl,rfl,nor_next (left:=left) (s:=s') ?_ (by simp;omega) (by omega) (by simp)⟩
      rw [take_pre now h1,←hI];conv=>rhs;unfold normGo
      rw [h3,h4,h5];rfl
  · rintro rfl _
    simp only [cond_false] at h2 hI ⊢
    have hN:normB s=normEnd (r.take k):=normB_of (by rw [←hI];rfl)
    have hlen:(r.take k).length=k:=by rw [List.length_take];omega
    refine⟨fun h3=>?_,fun h3 _=>⟨fun h4=>?_,fun h4 _=>⟨⟨0,rfl,by omega,fun j c h=>by omega⟩,fun i ⟨h5,h6⟩=>⟨fun h7=>⟨h7,by omega,_,rfl,fun h8=>?_,fun h8=>?_⟩,fun h7=>?_⟩⟩⟩⟩
    · have:k=0:=by have:=eq_of_beq h3;omega
      subst this
      exact fin_no hN
    · exact fin_no (hN.trans (normEnd_long (by omega)))
    · refine fin_no (hN.trans (normEnd_bad (p:=r.getD i []) ?_ h8))
      have:(r.take k).getD i []=r.getD i []:=by simp [List.getD,show i<k by omega]
      rw [←this]
      exact getD_mem (by omega)
    · exact⟨i+1,by rw [wrap_id (by omega) (by omega)];rfl,⟨by omega,all_step' [] h6 (by omega) h8⟩,by omega⟩
    · have hall:∀p,p∈r.take k→partOk p=true:=all_take fun j c hj hc=>h6 j c (by omega) hc
      have hne:r.take k≠[]:=by
        intro e
        rw [e] at hlen
        have:k=0:=by simpa using hlen.symm
        subst this
        simp at h3
      have hjl:=join_len (st:=r.take k) fun p hp=>by
        have:=hall p hp
        unfold partOk at this
        simp at this
        omega
      refine⟨⟨r.take k,[47]⟩,h1,rfl,rfl,⟨hne,by dsimp only;omega⟩,fun _=>⟨fun h8=>?_,fun h8=>?_⟩⟩
      · exact fin_no (hN.trans (normEnd_wide (by dsimp only at h8;omega)))
      · exact fin_yes (hN.trans (normEnd_ok hne (by omega) hall (by dsimp only at h8;omega)))
theorem rnormal_ok:SpecOK Tryz.prog 156 normalT.spec:=by
  refine Tri.ok (E:=rnormalE) (Env_ok (by decide +kernel) (by simp [rparts_ok,word_ok])) (n:=1000) normalT fun x hx=>?_
  rw [rnormal_vc]
  delta rnormalQ13 rnormalQ12 rnormalQ11 rnormalQ10 rnormalQ9 rnormalQ8 rnormalQ7 rnormalQ6 rnormalQ5 rnormalQ4 rnormalQ3 rnormalQ2 rnormalQ1
  revert x
  intro (s:Bs) hx0
  have hx:s.length≤1000000:=of_decide_eq_true hx0
  simp only [br_bad,br_true,br_false,List.length_singleton,and_self,Bool.not_true,Bool.not_false,Bool.not_not,decide_eq_true_eq,Bool.and_eq_true,List.take_zero,List.nil_append,List.drop_zero,Nat.zero_add,Int.toNat_natCast,Nat.sub_eq,true_and,and_true,exists_const,List.length_nil,Nat.zero_le,Nat.zero_mul,Nat.le_refl,List.length_set,List.take_length,Int.natCast_nonneg,forall_const,implies_true,Int.toNat_zero,Nat.le_eq,Int.le_refl,addN,cutN,loN,hiN,bndB,Option.getD,List.length_cons,List.take_succ_cons,List.length_take,List.length_drop,Option.isNone,Nat.add_zero,Nat.min_self]
  try simp only [br_iff,decide_eq_true_eq,decide_eq_false_iff_not,room47,Bool.not_eq_true',Bool.not_eq_false',gt_iff_lt]
  have hsl:=split_len s
  refine⟨s,rfl,hx0,⟨⟨0,0,[]⟩,rfl,rfl,rfl,⟨by simp,by simp,by simp⟩,rfl⟩,?_⟩
  rintro ⟨i,k,r⟩ ⟨⟨h1,h2,h3⟩,hI⟩ _
  dsimp only at h1 h2 h3 hI ⊢
  have hlen:(r.take k).length=k:=by rw [List.length_take];omega
  generalize hL:splitB s=L at hsl h1 hI ⊢
  refine⟨fun h4=>⟨h4,by omega,?_⟩,fun h4 _=>?_⟩
  · have hd:L.drop i=L.getD i []::L.drop (i+1):=by
      rw [List.drop_eq_getElem_cons (by omega)];simp [show i<L.length by omega]
    rw [hd] at hI
    generalize L.getD i []=now at hI ⊢
    have hw:IntKind.i64.wrap ((i:Int)+1)=((i+1:Nat):Int):=by rw [wrap_id (by omega) (by omega)];rfl
    rw [hw]
    refine⟨fun g3=>?_,fun g3=>⟨h4,by omega,fun g4=>?_,fun g4=>⟨h4,by omega,fun g5 _=>⟨fun g6=>?_,fun g6 _=>?_⟩,fun g5=>⟨h4,by omega,fun _=>?_⟩⟩⟩⟩
    · refine⟨⟨i+1,k,r⟩,rfl,rfl,rfl,⟨⟨by dsimp only;omega,h2,by dsimp only;omega⟩,?_⟩,by dsimp only;omega⟩
      rw [←hI];conv=>rhs;unfold normGo
      rw [g3];rfl
    · refine⟨⟨i+1,k,r⟩,rfl,rfl,rfl,⟨⟨by dsimp only;omega,h2,by dsimp only;omega⟩,?_⟩,by dsimp only;omega⟩
      rw [←hI];conv=>rhs;unfold normGo
      rw [g3,g4];rfl
    · refine fin_no (normB_no ?_)
      have:k=0:=by have:=eq_of_beq g6;omega
      subst this
      rw [hL,←hI];conv=>lhs;unfold normGo
      rw [g3,g4,g5];rfl
    · have hk:k≠0:=by rintro rfl;simp at g6
      have hw:IntKind.i64.wrap ((k:Int)-1)=((k-1:Nat):Int):=by rw [wrap_id (by omega) (by omega)];omega
      rw [hw]
      refine⟨by omega,⟨i+1,k-1,r⟩,rfl,by simp,rfl,⟨⟨by dsimp only;omega,by dsimp only;omega,by dsimp only;omega⟩,?_⟩,by dsimp only;omega⟩
      rw [←hI];conv=>rhs;unfold normGo
      have hne:(r.take k==[])=false:=by
        cases hh:r.take k with
        | nil=>rw [hh] at hlen;simp at hlen;omega
        | cons _ _=>rfl
      rw [g3,g4,g5,hne,dropLast_take h2];rfl
    · refine⟨⟨h2,by omega⟩,⟨i+1,k+1,r.take k++[now]⟩,rfl,rfl,rfl,⟨⟨by dsimp only;omega,by simp;omega,by dsimp only;omega⟩,?_⟩,by dsimp only;omega⟩
      dsimp only
      rw [take_pre now h2,←hI];conv=>rhs;unfold normGo
      rw [g3,g4,g5];rfl
  · rw [List.drop_of_length_le (by omega:L.length≤i)] at hI
    have hst:normGo (splitB s) []=some (r.take k):=by rw [hL,←hI];rfl
    have hN:normB s=normEnd (r.take k):=normB_of hst
    have hnz:=normGo_ne hst (fun p hp=>by cases hp)
    have hin:∀ {i:Nat},i<k→r.getD i []∈r.take k:=by
      intro i hi
      have:(r.take k).getD i []=r.getD i []:=by simp [List.getD,hi]
      rw [←this]
      exact getD_mem (by omega)
    have hw24:∀p:Bs,wordOk p true=true→p.length≤24:=by
      intro p hp
      unfold wordOk at hp
      simp at hp
      omega
    refine⟨fun h5=>?_,fun h5 _=>⟨fun h6=>?_,fun h6=>⟨⟨0,rfl,rfl,by omega,fun j c h=>by omega⟩,fun q ⟨h7,h8⟩ _=>⟨fun h9=>⟨h9,by omega,⟨r.getD q [],true⟩,rfl,rfl,fun g1=>?_,fun g1=>?_⟩,fun h9 _=>⟨fun g1=>?_,fun g1=>?_⟩⟩⟩⟩⟩
    · have:k=0:=by have:=eq_of_beq h5;omega
      subst this
      exact fin_no hN
    · exact fin_no (hN.trans (normEnd_long (by omega)))
    · have hm:=hin (i:=q) (by omega)
      refine fin_no (hN.trans (normEnd_bad hm ?_))
      rw [←word_part (hnz _ hm)]
      exact g1
    · have hj:=join_len (st:=r.take q) (all_take fun j c hj hc=>hw24 _ (h8 j c hj hc))
      have hp:=hw24 _ g1
      dsimp only at hp
      rw [List.length_take] at hj
      have hw:IntKind.i64.wrap ((q:Int)+1)=((q+1:Nat):Int):=by rw [wrap_id (by omega) (by omega)];rfl
      rw [hw]
      have hstep:=all_step' [] h8 (by omega) g1
      refine⟨fun g2=>⟨by unfold maxI64;omega,h9,by omega,by rw [List.length_append];unfold maxI64;simp only [List.length_cons,List.length_nil];omega,q+1,rfl,?_,⟨by omega,hstep⟩,by omega⟩,fun g2=>⟨h9,by omega,by unfold maxI64;omega,q+1,rfl,?_,⟨by omega,hstep⟩,by omega⟩⟩
      · rw [take_succ_getD [] (by omega),join_snoc]
        intro e
        have:(r.take q).length=0:=by rw [e];rfl
        rw [List.length_take] at this
        omega
      · have:q=0:=by omega
        subst this
        rw [take_succ_getD [] (by omega)]
        simp [Lib.join_one,Lib.join_nil]
    · have:q=k:=by omega
      subst this
      exact fin_no (hN.trans (normEnd_wide (by omega)))
    · have:q=k:=by omega
      subst this
      refine fin_yes (hN.trans (normEnd_ok ?_ (by omega) (fun p hp=>?_) (by omega)))
      · intro e
        rw [e] at hlen
        have:q=0:=by simpa using hlen.symm
        subst this
        simp at h5
      · rw [←word_part (hnz _ hp)]
        exact all_take h8 p hp
end Go.Proofs.YtgepebndihfnfaaGreat.Ses
