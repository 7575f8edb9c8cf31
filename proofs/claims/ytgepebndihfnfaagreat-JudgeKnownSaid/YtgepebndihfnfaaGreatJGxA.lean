/- What the functions of changes do, on lists: what the evaluator leaves of each, and that it holds. No condition. -/
import Derived.Test.YtgepebndihfnfaaGreatJPatA
import Derived.KernelRfl
set_option linter.unusedSimpArgs false
set_option linter.unusedVariables false

namespace Go.Proofs.YtgepebndihfnfaaGreat.Ses
open Go Go.Proofs Go.Proofs.YtgepebndihfnfaaGreat.Sx
structure ThreeA where
  a:Bs
  b:Bs
  c:Bs
def good (p:Bs):Prop:=p≠[]∧p≠[46]∧p≠[46,46]
structure NormP (p:Bs) (A:List Bs):Prop where
  ne:A≠[]
  len:A.length≤8
  part:∀q,q∈A→partOk q=true
  wide:p.length≤64
  join:p=Lib.join A [47]
  good:∀q,q∈A→good q
  split:splitB p=A
  fin:normEnd A=some p
theorem split_inj:∀ {x y:Bs},splitB x=splitB y→x=y
  | [],[],_=>rfl
  | [],d::y,h=>by
    by_cases hd:d=47
    · subst hd;rw [split_slash] at h;simp [splitB,(split_ne y).symm] at h
    · rw [split_cons (by simpa using hd)] at h;simp [splitB] at h
  | c::x,[],h=>by
    by_cases hc:c=47
    · subst hc;rw [split_slash] at h;simp [splitB,split_ne x] at h
    · rw [split_cons (by simpa using hc)] at h;simp [splitB] at h
  | c::x,d::y,h=>by
    by_cases hc:c=47<;>by_cases hd:d=47
    · subst hc;subst hd
      rw [split_slash,split_slash] at h
      rw [split_inj (List.cons.inj h).2]
    · subst hc
      rw [split_slash,split_cons (by simpa using hd)] at h
      cases (List.cons.inj h).1
    · subst hd
      rw [split_slash,split_cons (by simpa using hc)] at h
      cases (List.cons.inj h).1
    · rw [split_cons (by simpa using hc),split_cons (by simpa using hd)] at h
      obtain⟨h1,h2⟩:=List.cons.inj h
      obtain⟨h3,h4⟩:=List.cons.inj h1
      subst h3
      have:splitB x=splitB y:=by
        obtain⟨p,t,e⟩:=List.exists_cons_of_ne_nil (split_ne x)
        obtain⟨q,u,f⟩:=List.exists_cons_of_ne_nil (split_ne y)
        rw [e,f] at h2 h4 ⊢
        simp at h2 h4
        rw [h2,h4]
      rw [split_inj this]
def goodC (c:ChangeD):Bool:=(normB c.path==some c.path)&&(!c.gone||c.digest==0)
def eqC (a b:ChangeD):Bool:=a.path==b.path&&(a.gone==b.gone&&(a.digest==b.digest&&true))
def shortC (l:List ChangeD):Bool:=l.all fun c=>shortB c.path
def hasC (p:Bs) (l:List ChangeD):Bool:=l.any fun o=>o.path==p
def idxC (p:Bs):List ChangeD→Int
  | []=>-1
  | x::r=>bif x.path==p then 0 else bif decide (idxC p r<0) then -1 else idxC p r+1
def okUpto (l:List ChangeD):Nat→Bool
  | 0=>true
  | n+1=>okUpto l n&&(goodC (l.getD n ⟨[],false,0⟩) && !(hasC (l.getD n ⟨[],false,0⟩).path (l.take n)))
def chkC (l:List ChangeD):Int:=bif Nat.beq l.length 0||decide (16<l.length) || !(okUpto l l.length) then 1 else 0
def sameC (a b:List ChangeD):Bool:=Nat.beq a.length b.length&&(List.zipWith eqC a b).all id
def cmpC (a b:ChangeD):Int:=cmpL (splitB a.path) (splitB b.path)
def insF (x:ChangeD):List ChangeD→List ChangeD
  | []=>[x]
  | s::r=>bif decide (cmpC x s<0) then s::insF x r else x::s::r
def insR (x:ChangeD) (S:List ChangeD):List ChangeD:=(insF x S.reverse).reverse
def insS (l:List ChangeD):List ChangeD:=l.foldl (fun S x=>insR x S) []
structure IdxA where
  l:List ChangeD
  c:ChangeD
structure Cha2 where
  a:List ChangeD
  b:List ChangeD
noncomputable def goodT:Tri:={γ:=ChangeD,n0:=0,args:=fun x=>[.agg (enc .change x)],blks:=fun _=>[],pre:=fun x=>shortB x.path=true,δ:=Unit,post:=fun _ _=>True,n1:=0,res:=fun x _=>.bool (goodC x),blks':=fun _ _=>[],scal:=true}
noncomputable def goodE:Envr:=Env Tryz.prog cod [(252,normalT.spec)] []
noncomputable def idxcT:Tri:={γ:=IdxA,n0:=1,args:=fun x=>[.rslice false .change x.l,.fn 220 [] [.mptr 0 0]],blks:=fun x=>[(0,.cells (enc .change x.c))],pre:=fun _=>True,δ:=Unit,post:=fun _ _=>True,n1:=0,res:=fun x _=>.int .i64 (idxC x.c.path x.l),blks':=fun x _=>[(0,.cells (enc .change x.c))],scal:=true}
noncomputable def idxcI:St→LInv:=fun s=>match getE s.env 0,s.m.blks.get 0 with
  | .rslice _ .change l,some (.cells [.str p,_,_])=>{σ:=Nat,I:=fun i=>i≤l.length ∧ ∀(j:Nat) x,j<i→l[j]?=some x→(x.path==p)=false,μ:=fun i=>l.length-i,env:=fun i=>[(8,.int .i64 i)],blk:=fun _=>[],fresh:=0,drop:=[]}
  | _,_=>LInv.none
noncomputable def idxcE:Envr:=Env Tryz.prog cod [] [(2,idxcI)]
noncomputable def hascT:Tri:={γ:=IdxA,n0:=1,args:=fun x=>[.rslice false .change x.l,.fn 220 [] [.mptr 0 0]],blks:=fun x=>[(0,.cells (enc .change x.c))],pre:=fun _=>True,δ:=Unit,post:=fun _ _=>True,n1:=0,res:=fun x _=>.bool (hasC x.c.path x.l),blks':=fun x _=>[(0,.cells (enc .change x.c))],scal:=true}
noncomputable def hascE:Envr:=Env Tryz.prog cod [(254,idxcT.spec)] []
noncomputable def checkT:Tri:={γ:=List ChangeD,n0:=0,args:=fun x=>[.rslice false .change x],blks:=fun _=>[],pre:=fun x=>shortC x=true,δ:=Unit,post:=fun _ _=>True,n1:=0,res:=fun x _=>.int .i64 (chkC x),blks':=fun _ _=>[],scal:=true}
noncomputable def checkI:St→LInv:=fun s=>match getE s.env 0 with
  | .rslice _ .change l=>{σ:=Nat,I:=fun i=>i≤l.length∧okUpto l i=true,μ:=fun i=>l.length-i,env:=fun i=>[(15,.int .i64 i)],blk:=fun _=>[],fresh:=0,drop:=[]}
  | _=>LInv.none
noncomputable def checkE:Envr:=Env Tryz.prog cod [(218,goodT.spec),(219,hascT.spec)] [(4,checkI)]
noncomputable def equalT:Tri:={γ:=Cha2,n0:=0,args:=fun x=>[.rslice false .change x.a,.rslice false .change x.b],blks:=fun _=>[],pre:=fun _=>True,δ:=Unit,post:=fun _ _=>True,n1:=0,res:=fun x _=>.bool (sameC x.a x.b),blks':=fun _ _=>[],scal:=true}
noncomputable def equalI:St→LInv:=fun s=>match getE s.env 0,getE s.env 1 with
  | .rslice _ .change a,.rslice _ .change b=>{σ:=Nat,I:=fun i=>i≤a.length∧sameC (a.drop i) (b.drop i)=sameC a b,μ:=fun i=>a.length-i,env:=fun i=>[(13,.int .i64 i)],blk:=fun _=>[],fresh:=0,drop:=[]}
  | _,_=>LInv.none
noncomputable def equalE:Envr:=Env Tryz.prog cod [] [(4,equalI)]
structure InsA where
  l:List ChangeD
  a:Nat
  b:Nat
structure InsI where
  k:Nat
  l:List ChangeD
def midL (l:List ChangeD) (a b:Nat) (m:List ChangeD):List ChangeD:=l.take a++(m++l.drop b)
def sliceL (l:List ChangeD) (a b:Nat):List ChangeD:=(l.take b).drop a
noncomputable def insT:Tri:={γ:=InsA,n0:=1,args:=fun x=>[.mslice .change 0 0 x.l.length,.int .i64 x.a,.int .i64 x.b,.fn 223 [] []],blks:=fun x=>[(0,.rows .change x.l)],pre:=fun x=>x.a≤x.b∧x.b≤x.l.length,δ:=Unit,post:=fun _ _=>True,n1:=0,res:=fun x _=>.tuple [],blks':=fun x _=>[(0,.rows .change (midL x.l x.a x.b (insS (sliceL x.l x.a x.b))))],scal:=true}
noncomputable def insI:St→LInv:=fun s=>match getE s.env 1,getE s.env 2,s.m.blks.get 0 with
  | .int _ a,.int _ b,some (.rows .change l)=>{σ:=InsI,I:=fun x=>((a.toNat+x.k≤b.toNat∨b.toNat=a.toNat∧x.k=1)∧1≤x.k)∧x.l=l.take a.toNat++(insS (sliceL l a.toNat (a.toNat+x.k))++l.drop (a.toNat+x.k)),μ:=fun x=>b.toNat-(a.toNat+x.k),env:=fun x=>[(8,.int .i64 (a.toNat+x.k:Nat))],blk:=fun x=>[(0,.rows .change x.l)],fresh:=0,drop:=[]}
  | _,_,_=>LInv.none
structure InsJ where
  P:List ChangeD
  x:ChangeD
  Q:List ChangeD
noncomputable def insJ:St→LInv:=fun s=>match getE s.env 1,getE s.env 8,s.m.blks.get 0 with
  | .int _ a,.int _ i,some (.rows .change l)=>{σ:=InsJ,I:=fun x=>(a.toNat≤x.P.length∧x.P.length≤i.toNat)∧x.P.take a.toNat=l.take a.toNat∧x.P.length+1+x.Q.length=l.length∧(insR x.x (x.P.drop a.toNat))++x.Q=insR (l.getD i.toNat ⟨[],false,0⟩) (sliceL l a.toNat i.toNat)++l.drop (i.toNat+1),μ:=fun x=>x.P.length,env:=fun x=>[(9,.int .i64 x.P.length)],blk:=fun x=>[(0,.rows .change (x.P++(x.x::x.Q)))],fresh:=0,drop:=[]}
  | _,_,_=>LInv.none
noncomputable def insE:Envr:=Env Tryz.prog cod [(190,compareT.spec)] [(1,insI),(4,insJ)]
set_option maxRecDepth 100000
theorem good_vc (x:goodT.γ):evCall goodE (ev goodE 1000) 218 (goodT.args x) ⟨goodT.blks x,goodT.n0,[]⟩ (fun _ _=>False) (goodT.ends x)=(
∃x1:(List UInt8),ChangeD.path x=x1∧
shortB x1=true∧
∀x2:Unit,True→
br (normB x1).isSome (br (Option.getD (normB x1) ([]:List UInt8)==ChangeD.path x) (br (ChangeD.gone x).not (∃x3:Unit,true=goodC x∧
True) (∃x4:Unit,(ChangeD.digest x==(0:Int))=goodC x∧
True)) (∃x5:Unit,false=goodC x∧
True)) (∃x6:Unit,false=goodC x∧
True)):=by kernel_rfl
abbrev idxcQ1 (x1:Nat) (x:idxcT.γ):=x1≤(IdxA.l x).length∧
∀x2:Nat,∀x3:ChangeD,x2<x1→
@GetElem?.getElem? (List ChangeD) Nat ChangeD (fun x4:(List ChangeD)=>fun x5:Nat=>x5<x4.length) _ (IdxA.l x) x2=Option.some x3→
(x3.path==(IdxA.c x).path)=false
abbrev idxcQ2 (x:idxcT.γ):=(IdxA.c x).path=(IdxA.c x).path∧
(IdxA.c x).gone=(IdxA.c x).gone∧
(IdxA.c x).digest=(IdxA.c x).digest∧
True
theorem idxc_vc (x:idxcT.γ):evCall idxcE (ev idxcE 1000) 254 (idxcT.args x) ⟨idxcT.blks x,idxcT.n0,[]⟩ (fun _ _=>False) (idxcT.ends x)=(
(IdxA.l x).length*32≤room47→
(∃x1:Nat,(0:Int)=(↑x1:Int)∧
idxcQ1 x1 x)∧
∀x6:Nat,idxcQ1 x6 x→
br (decide ((↑x6:Int)<(↑(IdxA.l x).length:Int))) (br (decide ((0:Int)≤(↑x6:Int)∧
(↑x6:Int)<(↑(IdxA.l x).length:Int))) (br ((List.getD (IdxA.l x) (↑x6:Int).toNat (ChangeD.mk ([]:List UInt8) false (0:Int))).path==(IdxA.c x).path) (∃x11:Unit,(↑x6:Int)=idxC (IdxA.c x).path (IdxA.l x)∧
idxcQ2 x) (∃x12:Nat,IntKind.wrap IntKind.i64 ((↑x6:Int)+(1:Int))=(↑x12:Int)∧
idxcQ1 x12 x∧
Nat.sub (IdxA.l x).length x12<Nat.sub (IdxA.l x).length x6)) (Bad "check" "slices.go:109")) (∃x17:Unit,@Neg.neg Int _ (1:Int)=idxC (IdxA.c x).path (IdxA.l x)∧
idxcQ2 x)):=by kernel_rfl
theorem hasc_vc (x:hascT.γ):evCall hascE (ev hascE 1000) 219 (hascT.args x) ⟨hascT.blks x,hascT.n0,[]⟩ (fun _ _=>False) (hascT.ends x)=(
∃x1:IdxA,IdxA.l x=x1.l∧
(IdxA.c x).path=x1.c.path∧
(IdxA.c x).gone=x1.c.gone∧
(IdxA.c x).digest=x1.c.digest∧
True∧
∀x2:Unit,True→
∃x3:Unit,decide (@GE.ge Int _ (idxC x1.c.path x1.l) (0:Int))=hasC (IdxA.c x).path (IdxA.l x)∧
x1.c.path=(IdxA.c x).path∧
x1.c.gone=(IdxA.c x).gone∧
x1.c.digest=(IdxA.c x).digest∧
True):=by kernel_rfl
abbrev checkQ1 (x:checkT.γ):=∃x1:Unit,(1:Int)=chkC x∧
True
abbrev checkQ2 (x3:Nat) (x:checkT.γ):=x3≤List.length x∧
okUpto x x3=true
abbrev checkQ3 (x:checkT.γ) (x4:Nat):=List.getD x (↑x4:Int).toNat (ChangeD.mk ([]:List UInt8) false (0:Int))
theorem check_vc (x:checkT.γ):evCall checkE (ev checkE 1000) 184 (checkT.args x) ⟨checkT.blks x,checkT.n0,[]⟩ (fun _ _=>False) (checkT.ends x)=(
List.length x*32≤room47→
br ((↑(List.length x):Int)==(0:Int)) (checkQ1 x) (List.length x*32≤room47→
br (decide ((↑(List.length x):Int)>(16:Int))) (checkQ1 x) (List.length x*32≤room47→
(∃x3:Nat,(0:Int)=(↑x3:Int)∧
checkQ2 x3 x)∧
∀x4:Nat,checkQ2 x4 x→
br (decide ((↑x4:Int)<(↑(List.length x):Int))) (br (decide ((0:Int)≤(↑x4:Int)∧
(↑x4:Int)<(↑(List.length x):Int))) (∃x5:ChangeD,(checkQ3 x x4).path=x5.path∧
(checkQ3 x x4).gone=x5.gone∧
(checkQ3 x x4).digest=x5.digest∧
shortB x5.path=true∧
∀x6:Unit,True→
br (goodC x5).not (checkQ1 x) (br (bndB (List.length x) (none:Option Int) (Option.some (↑x4:Int)) (none:Option Int)) (∃x8:IdxA,@cutL ChangeD x (none:Option Int) (Option.some (↑x4:Int))=x8.l∧
(checkQ3 x x4).path=x8.c.path∧
(checkQ3 x x4).gone=x8.c.gone∧
(checkQ3 x x4).digest=x8.c.digest∧
True∧
∀x9:Unit,True→
br (hasC x8.c.path x8.l) (checkQ1 x) (∃x11:Nat,IntKind.wrap IntKind.i64 ((↑x4:Int)+(1:Int))=(↑x11:Int)∧
checkQ2 x11 x∧
Nat.sub (List.length x) x11<Nat.sub (List.length x) x4)) (Bad "check" "change.go:23"))) (Bad "check" "change.go:22")) (∃x12:Unit,(0:Int)=chkC x∧
True)))):=by kernel_rfl
abbrev equalQ1 (x:equalT.γ):=∃x1:Unit,false=sameC (Cha2.a x) (Cha2.b x)∧
True
abbrev equalQ2 (x2:Nat) (x:equalT.γ):=x2≤(Cha2.a x).length∧
sameC (List.drop x2 (Cha2.a x)) (List.drop x2 (Cha2.b x))=sameC (Cha2.a x) (Cha2.b x)
abbrev equalQ3  := ChangeD.mk ([]:List UInt8) false (0:Int)
abbrev equalQ4 (x:equalT.γ) (x3:Nat):=List.getD (Cha2.a x) (↑x3:Int).toNat equalQ3
abbrev equalQ5 (x:equalT.γ) (x3:Nat):=List.getD (Cha2.b x) (↑x3:Int).toNat equalQ3
theorem equal_vc (x:equalT.γ):evCall equalE (ev equalE 1000) 206 (equalT.args x) ⟨equalT.blks x,equalT.n0,[]⟩ (fun _ _=>False) (equalT.ends x)=(
(Cha2.a x).length*32≤room47→
(Cha2.b x).length*32≤room47→
br ((↑(Cha2.a x).length:Int) != (↑(Cha2.b x).length:Int)) (equalQ1 x) ((Cha2.a x).length*32≤room47→
(∃x2:Nat,(0:Int)=(↑x2:Int)∧
equalQ2 x2 x)∧
∀x3:Nat,equalQ2 x3 x→
br (decide ((↑x3:Int)<(↑(Cha2.a x).length:Int))) (br (decide ((0:Int)≤(↑x3:Int)∧
(↑x3:Int)<(↑(Cha2.a x).length:Int))) (br (decide ((0:Int)≤(↑x3:Int)∧
(↑x3:Int)<(↑(Cha2.b x).length:Int))) (br (Bool.and ((equalQ4 x x3).path==(equalQ5 x x3).path) (Bool.and ((equalQ4 x x3).gone==(equalQ5 x x3).gone) (Bool.and ((equalQ4 x x3).digest==(equalQ5 x x3).digest) true))).not (equalQ1 x) (∃x5:Nat,IntKind.wrap IntKind.i64 ((↑x3:Int)+(1:Int))=(↑x5:Int)∧
equalQ2 x5 x∧
Nat.sub (Cha2.a x).length x5<Nat.sub (Cha2.a x).length x3)) (Bad "check" "slices.go:25")) (Bad "check" "slices.go:25")) (∃x6:Unit,true=sameC (Cha2.a x) (Cha2.b x)∧
True))):=by kernel_rfl
abbrev insQ1 (x:insT.γ) (x1:InsI):=(↑(InsA.a x):Int).toNat+x1.k
abbrev insQ2 (x:insT.γ) (x1:InsI):=(Or (insQ1 x x1≤(↑(InsA.b x):Int).toNat) ((↑(InsA.b x):Int).toNat=(↑(InsA.a x):Int).toNat∧
x1.k=1)∧
1≤x1.k)∧
x1.l = @HAppend.hAppend (List ChangeD) (List ChangeD) (List ChangeD) _ (List.take (↑(InsA.a x):Int).toNat (InsA.l x)) (@HAppend.hAppend (List ChangeD) (List ChangeD) (List ChangeD) _ (insS (sliceL (InsA.l x) (↑(InsA.a x):Int).toNat (insQ1 x x1))) (List.drop (insQ1 x x1) (InsA.l x)))
abbrev insQ3 (x3:InsJ):=@HAppend.hAppend (List ChangeD) (List ChangeD) (List ChangeD) _ x3.P (List.cons x3.x x3.Q)
abbrev insQ4 (x:insT.γ) (x2:InsI):=(↑(insQ1 x x2):Int).toNat
abbrev insQ5  := ChangeD.mk ([]:List UInt8) false (0:Int)
abbrev insQ6 (x:insT.γ) (x3:InsJ) (x2:InsI):=((↑(InsA.a x):Int).toNat≤x3.P.length∧
x3.P.length≤insQ4 x x2)∧
List.take (↑(InsA.a x):Int).toNat x3.P=List.take (↑(InsA.a x):Int).toNat x2.l∧
x3.P.length+1+x3.Q.length=x2.l.length∧
@HAppend.hAppend (List ChangeD) (List ChangeD) (List ChangeD) _ (insR x3.x (List.drop (↑(InsA.a x):Int).toNat x3.P)) x3.Q = @HAppend.hAppend (List ChangeD) (List ChangeD) (List ChangeD) _ (insR (List.getD x2.l (insQ4 x x2) insQ5) (sliceL x2.l (↑(InsA.a x):Int).toNat (insQ4 x x2))) (List.drop (insQ4 x x2+1) x2.l)
abbrev insQ7 (x4:InsJ) (x:insT.γ):=decide ((0:Int)≤(↑x4.P.length:Int)∧
(↑x4.P.length:Int)<(↑(InsA.l x).length:Int))
abbrev insQ8 (x4:InsJ):=0+(↑x4.P.length:Int).toNat
abbrev insQ9 (x4:InsJ):=decide (insQ8 x4<(insQ3 x4).length)
abbrev insQ10 (x4:InsJ):=IntKind.wrap IntKind.i64 ((↑x4.P.length:Int)-(1:Int))
abbrev insQ11 (x4:InsJ) (x:insT.γ):=decide ((0:Int)≤insQ10 x4∧
insQ10 x4<(↑(InsA.l x).length:Int))
abbrev insQ12 (x4:InsJ):=decide (0+(insQ10 x4).toNat<(insQ3 x4).length)
abbrev insQ13 (x4:InsJ):=List.getD (insQ3 x4) (insQ8 x4) insQ5
abbrev insQ14 (x4:InsJ):=List.getD (insQ3 x4) (0+(insQ10 x4).toNat) insQ5
abbrev insQ15 (x4:InsJ):=List.set (insQ3 x4) (insQ8 x4) (ChangeD.mk (insQ14 x4).path (insQ14 x4).gone (insQ14 x4).digest)
abbrev insQ16  := Bad "check" "zsortanyfunc.go:13"
abbrev insQ17 (x:insT.γ) (x2:InsI) (x4:InsJ):=∃x8:InsI,IntKind.wrap IntKind.i64 ((↑(insQ1 x x2):Int)+(1:Int))=(↑(insQ1 x x8):Int)∧
insQ3 x4=x8.l∧
insQ2 x x8∧
Nat.sub (↑(InsA.b x):Int).toNat (insQ1 x x8)<Nat.sub (↑(InsA.b x):Int).toNat (insQ1 x x2)
abbrev insQ18  := Bad "check" "zsortanyfunc.go:12"
theorem ins_vc (x:insT.γ):evCall insE (ev insE 1000) 293 (insT.args x) ⟨insT.blks x,insT.n0,[]⟩ (fun _ _=>False) (insT.ends x)=(
(∃x1:InsI,IntKind.wrap IntKind.i64 ((↑(InsA.a x):Int)+(1:Int))=(↑(insQ1 x x1):Int)∧
InsA.l x=x1.l∧
insQ2 x x1)∧
∀x2:InsI,insQ2 x x2→
br (decide ((↑(insQ1 x x2):Int)<(↑(InsA.b x):Int))) ((∃x3:InsJ,(↑(insQ1 x x2):Int)=(↑x3.P.length:Int)∧
x2.l=insQ3 x3∧
insQ6 x x3 x2)∧
∀x4:InsJ,insQ6 x x4 x2→
br (decide ((↑x4.P.length:Int)>(↑(InsA.a x):Int))) (br (insQ7 x4 x) (br (insQ9 x4) (br (insQ11 x4 x) (br (insQ12 x4) (∃x5:TwoA,(insQ13 x4).path=x5.a∧
(insQ14 x4).path=x5.b∧
True∧
∀x6:Unit,True→
br (decide (cmpL (splitB x5.a) (splitB x5.b)<(0:Int))) (br (insQ11 x4 x) (br (insQ12 x4) (br (insQ7 x4 x) (br (insQ9 x4) (br (insQ7 x4 x) (br (Bool.and true (insQ9 x4)) (br (insQ11 x4 x) (br (Bool.and true (decide (0+(insQ10 x4).toNat<(insQ15 x4).length))) (∃x7:InsJ,insQ10 x4=(↑x7.P.length:Int)∧
List.set (insQ15 x4) (0+(insQ10 x4).toNat) (ChangeD.mk (insQ13 x4).path (insQ13 x4).gone (insQ13 x4).digest)=insQ3 x7∧
insQ6 x x7 x2∧
x7.P.length<x4.P.length) insQ16) insQ16) insQ16) insQ16) insQ16) insQ16) insQ16) insQ16) (insQ17 x x2 x4)) insQ18) insQ18) insQ18) insQ18) (insQ17 x x2 x4)) (∃x10:Unit,x2.l=midL (InsA.l x) (InsA.a x) (InsA.b x) (insS (sliceL (InsA.l x) (InsA.a x) (InsA.b x)))∧
True)):=by kernel_rfl
abbrev noC:ChangeD:=⟨[],false,0⟩
theorem idxC_no {p:Bs}:∀ {l:List ChangeD},(∀(j:Nat) x,l[j]?=some x→(x.path==p)=false)→idxC p l = -1
  | [],_=>rfl
  | x::r,h=>by
    unfold idxC
    rw [h 0 x rfl,idxC_no fun j y hy=>h (j+1) y (by simpa using hy)]
    rfl
theorem idxC_at {p:Bs}:∀ {l:List ChangeD} {i:Nat},i<l.length→((l.getD i noC).path==p)=true→(∀(j:Nat) y,j<i→l[j]?=some y→(y.path==p)=false)→idxC p l=i
  | [],i,h,_,_=>by simp at h
  | x::r,0,_,h,_=>by
    unfold idxC
    have:(x.path==p)=true:=h
    rw [this];rfl
  | x::r,i+1,hi,h,hn=>by
    unfold idxC
    rw [hn 0 x (by omega) rfl,idxC_at (l:=r) (i:=i) (by simpa using hi) (by simpa using h) fun j y hj hy=>hn (j+1) y (by omega) (by simpa using hy)]
    simp only [cond_false]
    have:decide ((i:Int)<0)=false:=by simp
    rw [this]
    simp
theorem idxC_has (p:Bs):∀l,decide (idxC p l≥0)=hasC p l
  | []=>rfl
  | x::r=>by
    have ih:=idxC_has p r
    unfold idxC hasC
    rw [List.any_cons]
    unfold hasC at ih
    rw [←ih]
    cases x.path==p
    · simp only [cond_false,Bool.false_or]
      by_cases h:idxC p r<0
      · have h2:¬idxC p r≥0:=by omega
        simp [h,h2]
      · simp only [h,decide_false,cond_false]
        rw [decide_eq_decide];omega
    · simp
theorem okUpto_bad {l:List ChangeD} {i:Nat} (h:okUpto l (i+1)=false):∀n,i<n→okUpto l n=false:=by
  intro n hn
  induction n with
  | zero=>omega
  | succ n ih=>
    by_cases e:n=i
    · subst e;exact h
    · unfold okUpto
      rw [ih (by omega)];rfl
theorem chkC_bad {l:List ChangeD} {i:Nat} (hi:i<l.length) (h:okUpto l (i+1)=false):chkC l=1:=by
  unfold chkC
  rw [okUpto_bad h l.length hi]
  simp
theorem chkC_ok {l:List ChangeD} (h0:((l.length:Int)==0)=false) (h1:¬16<(l.length:Int)) (h:okUpto l l.length=true):chkC l=0:=by
  unfold chkC
  have e0:Nat.beq l.length 0=false:=by
    cases h':Nat.beq l.length 0
    · rfl
    · rw [Nat.eq_of_beq_eq_true h'] at h0;cases h0
  have e1:decide (16<l.length)=false:=by simp;omega
  rw [h,e0,e1];rfl
theorem same_at {a b:List ChangeD} {i:Nat} (h1:i<a.length) (h2:i<b.length):sameC (a.drop i) (b.drop i)=(eqC (a.getD i noC) (b.getD i noC)&&sameC (a.drop (i+1)) (b.drop (i+1))):=by
  have e:∀ {l:List ChangeD},i<l.length→l.drop i=l.getD i noC::l.drop (i+1):=by
    intro l h
    rw [List.drop_eq_getElem_cons h]
    simp [h]
  rw [e h1,e h2]
  unfold sameC
  simp only [List.length_cons,List.zipWith_cons_cons,List.all_cons,id]
  have:Nat.beq ((a.drop (i+1)).length+1) ((b.drop (i+1)).length+1)=Nat.beq (a.drop (i+1)).length (b.drop (i+1)).length:=rfl
  rw [this]
  cases Nat.beq (a.drop (i+1)).length (b.drop (i+1)).length<;>cases eqC (a.getD i noC) (b.getD i noC)<;>rfl
theorem insR_nil (x:ChangeD):insR x []=[x]:=rfl
theorem insR_lt {x s:ChangeD} (h:cmpC x s<0) (S:List ChangeD):insR x (S++[s])=insR x S++[s]:=by
  unfold insR
  rw [List.reverse_append,List.reverse_singleton,List.singleton_append]
  conv=>lhs;unfold insF
  simp [h]
theorem insR_ge {x s:ChangeD} (h:¬cmpC x s<0) (S:List ChangeD):insR x (S++[s])=(S++[s])++[x]:=by
  unfold insR
  rw [List.reverse_append,List.reverse_singleton,List.singleton_append]
  conv=>lhs;unfold insF
  simp [h]
theorem insS_snoc (M:List ChangeD) (x:ChangeD):insS (M++[x])=insR x (insS M):=by simp [insS]
theorem insF_len (x:ChangeD):∀l,(insF x l).length=l.length+1
  | []=>rfl
  | s::r=>by
    unfold insF
    cases decide (cmpC x s<0)
    · simp
    · simp [insF_len x r]
theorem insR_len (x:ChangeD) (l:List ChangeD):(insR x l).length=l.length+1:=by simp [insR,insF_len]
theorem insS_len (l:List ChangeD):(insS l).length=l.length:=by
  have:∀(l S:List ChangeD),(l.foldl (fun S x=>insR x S) S).length=l.length+S.length:=by
    intro l
    induction l with
    | nil=>intro S;simp
    | cons x r ih=>intro S;simp [ih,insR_len];omega
  have:=this l []
  simpa [insS] using this
theorem sliceL_len {l:List ChangeD} {a b:Nat} (h:b≤l.length):(sliceL l a b).length=b-a:=by
  simp [sliceL];omega
theorem sliceL_snoc {l:List ChangeD} {a b:Nat} (hab:a≤b) (h:b<l.length):sliceL l a (b+1)=sliceL l a b++[l.getD b noC]:=by
  unfold sliceL
  rw [take_succ_getD noC h,List.drop_append_of_le_length (by simp;omega)]
theorem get_mid {α:Type} (P:List α) (x:α) (Q:List α) (d:α):(P++x::Q).getD P.length d=x:=by simp [List.getD]
theorem set_mid {α:Type} (P:List α) (x y:α) (Q:List α):(P++x::Q).set P.length y=P++y::Q:=by simp
theorem good_ok:SpecOK Tryz.prog 218 goodT.spec:=by
  refine Tri.ok (E:=goodE) (Env_ok (by decide +kernel) (by simp [normal_ok])) (n:=1000) goodT fun x hx=>?_
  rw [good_vc]
  obtain⟨p,g,d⟩:=x
  simp only [br_bad,br_true,br_false,List.length_singleton,and_self,Bool.not_true,Bool.not_false,Bool.not_not,decide_eq_true_eq,Bool.and_eq_true,List.take_zero,List.nil_append,List.drop_zero,Nat.zero_add,Int.toNat_natCast,Nat.sub_eq,true_and,and_true,exists_const,List.length_nil,Nat.zero_le,Nat.zero_mul,Nat.le_refl,List.length_set,List.take_length,Int.natCast_nonneg,forall_const,implies_true,Int.toNat_zero,Nat.le_eq,Int.le_refl,addN,cutN,loN,hiN,bndB,List.length_cons,List.take_succ_cons,List.length_take,List.length_drop,Option.isNone,Nat.add_zero,Nat.min_self]
  try simp only [br_iff,decide_eq_true_eq,decide_eq_false_iff_not,room47,Bool.not_eq_true',Bool.not_eq_false',gt_iff_lt]
  refine⟨p,rfl,hx,?_⟩
  unfold goodC
  dsimp only
  cases hn:normB p with
  | none=>exact⟨fun h=>(by cases h),fun _=>rfl⟩
  | some q=>
    refine⟨fun _=>⟨fun h=>⟨fun hg=>?_,fun hg=>?_⟩,fun h=>?_⟩,fun h=>(by cases h)⟩
    · have:q=p:=eq_of_beq h
      rw [this,hg];simp
    · have:q=p:=eq_of_beq h
      rw [this,hg];simp
    · have:(some q==some p)=false:=h
      rw [this];rfl
theorem idxc_ok:SpecOK Tryz.prog 254 idxcT.spec:=by
  refine Tri.okF (E:=idxcE) (Env_ok (by decide +kernel) (by simp)) (n:=1000) idxcT (fun _=>rfl) fun x hx hl _=>?_
  rw [idxc_vc]
  delta idxcQ2 idxcQ1
  obtain⟨l,c⟩:=x
  simp only [br_bad,br_true,br_false,List.length_singleton,and_self,Bool.not_true,Bool.not_false,Bool.not_not,decide_eq_true_eq,Bool.and_eq_true,List.take_zero,List.nil_append,List.drop_zero,Nat.zero_add,Int.toNat_natCast,Nat.sub_eq,true_and,and_true,exists_const,List.length_nil,Nat.zero_le,Nat.zero_mul,Nat.le_refl,List.length_set,List.take_length,Int.natCast_nonneg,forall_const,implies_true,Int.toNat_zero,Nat.le_eq,Int.le_refl,addN,cutN,loN,hiN,bndB,List.length_cons,List.take_succ_cons,List.length_take,List.length_drop,Option.isNone,Nat.add_zero,Nat.min_self]
  try simp only [br_iff,decide_eq_true_eq,decide_eq_false_iff_not,room47,Bool.not_eq_true',Bool.not_eq_false',gt_iff_lt]
  intro hl
  refine⟨⟨0,rfl,by omega,fun j c h=>by omega⟩,fun i ⟨h1,h2⟩=>⟨fun h3=>⟨h3,fun h4=>(idxC_at (by omega) h4 h2).symm,fun h4=>⟨i+1,by rw [wrap_id (by omega) (by omega)];rfl,⟨by omega,all_step' noC h2 (by omega) h4⟩,by omega⟩⟩,fun h3=>(idxC_no fun j x hx=>h2 j x (by have:=(List.getElem?_eq_some_iff.1 hx).1;omega) hx).symm⟩⟩
theorem hasc_ok:SpecOK Tryz.prog 219 hascT.spec:=by
  refine Tri.ok (E:=hascE) (Env_ok (by decide +kernel) (by simp [idxc_ok])) (n:=1000) hascT fun x hx=>?_
  rw [hasc_vc]
  obtain⟨l,c⟩:=x
  simp only [br_bad,br_true,br_false,List.length_singleton,and_self,Bool.not_true,Bool.not_false,Bool.not_not,decide_eq_true_eq,Bool.and_eq_true,List.take_zero,List.nil_append,List.drop_zero,Nat.zero_add,Int.toNat_natCast,Nat.sub_eq,true_and,and_true,exists_const,List.length_nil,Nat.zero_le,Nat.zero_mul,Nat.le_refl,List.length_set,List.take_length,Int.natCast_nonneg,forall_const,implies_true,Int.toNat_zero,Nat.le_eq,Int.le_refl,addN,cutN,loN,hiN,bndB,List.length_cons,List.take_succ_cons,List.length_take,List.length_drop,Option.isNone,Nat.add_zero,Nat.min_self]
  try simp only [br_iff,decide_eq_true_eq,decide_eq_false_iff_not,room47,Bool.not_eq_true',Bool.not_eq_false',gt_iff_lt]
  exact⟨⟨l,c⟩,rfl,rfl,rfl,rfl,idxC_has _ _,rfl,rfl,rfl⟩
theorem check_ok:SpecOK Tryz.prog 184 checkT.spec:=by
  refine Tri.ok (E:=checkE) (Env_ok (by decide +kernel) (by simp [good_ok,hasc_ok])) (n:=1000) checkT fun x hx=>?_
  rw [check_vc]
  delta checkQ3 checkQ2 checkQ1
  revert x
  intro (l:List ChangeD) hx
  simp only [br_bad,br_true,br_false,List.length_singleton,and_self,Bool.not_true,Bool.not_false,Bool.not_not,decide_eq_true_eq,Bool.and_eq_true,List.take_zero,List.nil_append,List.drop_zero,Nat.zero_add,Int.toNat_natCast,Nat.sub_eq,true_and,and_true,exists_const,List.length_nil,Nat.zero_le,Nat.zero_mul,Nat.le_refl,List.length_set,List.take_length,Int.natCast_nonneg,forall_const,implies_true,Int.toNat_zero,Nat.le_eq,Int.le_refl,addN,cutN,loN,hiN,bndB,List.length_cons,List.take_succ_cons,List.length_take,List.length_drop,Option.isNone,Nat.add_zero,Nat.min_self]
  try simp only [br_iff,decide_eq_true_eq,decide_eq_false_iff_not,room47,Bool.not_eq_true',Bool.not_eq_false',gt_iff_lt]
  intro hl
  refine⟨fun h=>?_,fun h0 _=>⟨fun h1=>?_,fun h1 _=>⟨⟨0,rfl,by omega,rfl⟩,fun i ⟨h2,h3⟩=>⟨fun h4=>⟨h4,l.getD i noC,rfl,rfl,rfl,List.all_eq_true.1 hx _ (getD_mem (by omega)),fun h5=>?_,fun h5=>⟨by simp;omega,⟨l.take i,l.getD i noC⟩,?_,rfl,rfl,rfl,fun h6=>?_,fun h6=>⟨i+1,by rw [wrap_id (by omega) (by omega)];rfl,⟨by omega,?_⟩,by omega⟩⟩⟩,fun h4=>?_⟩⟩⟩⟩
  · have:l=[]:=by cases l<;>first | rfl | (simp at h;omega)
    subst this
    rfl
  · unfold chkC
    have:decide (16<l.length)=true:=by simp;omega
    rw [this];simp
  · refine (chkC_bad (i:=i) (by omega) ?_).symm
    unfold okUpto
    rw [h5,h3];rfl
  · simp [cutL,loN,hiN]
  · refine (chkC_bad (i:=i) (by omega) ?_).symm
    unfold okUpto
    rw [h5,h3,show hasC (l.getD i noC).path (l.take i)=true from h6];rfl
  · unfold okUpto
    rw [h5,h3,show hasC (l.getD i noC).path (l.take i)=false from h6];rfl
  · have:i=l.length:=by omega
    subst this
    exact (chkC_ok h0 h1 h3).symm
theorem equal_ok:SpecOK Tryz.prog 206 equalT.spec:=by
  refine Tri.ok (E:=equalE) (Env_ok (by decide +kernel) (by simp)) (n:=1000) equalT fun x hx=>?_
  rw [equal_vc]
  delta equalQ5 equalQ4 equalQ3 equalQ2 equalQ1
  obtain⟨a,b⟩:=x
  simp only [br_bad,br_true,br_false,List.length_singleton,and_self,Bool.not_true,Bool.not_false,Bool.not_not,decide_eq_true_eq,Bool.and_eq_true,List.take_zero,List.nil_append,List.drop_zero,Nat.zero_add,Int.toNat_natCast,Nat.sub_eq,true_and,and_true,exists_const,List.length_nil,Nat.zero_le,Nat.zero_mul,Nat.le_refl,List.length_set,List.take_length,Int.natCast_nonneg,forall_const,implies_true,Int.toNat_zero,Nat.le_eq,Int.le_refl,addN,cutN,loN,hiN,bndB,List.length_cons,List.take_succ_cons,List.length_take,List.length_drop,Option.isNone,Nat.add_zero,Nat.min_self]
  try simp only [br_iff,decide_eq_true_eq,decide_eq_false_iff_not,room47,Bool.not_eq_true',Bool.not_eq_false',gt_iff_lt]
  intro ha hb
  refine⟨fun h=>?_,fun h _=>⟨⟨0,rfl,by omega,rfl⟩,fun i ⟨h1,h2⟩=>⟨fun h3=>?_,fun h3=>?_⟩⟩⟩
  · have:Nat.beq a.length b.length=false:=by
      cases h':Nat.beq a.length b.length
      · rfl
      · rw [Nat.eq_of_beq_eq_true h'] at h;simp at h
    unfold sameC
    rw [this];rfl
  · have he:a.length=b.length:=by
      have:(a.length:Int)=b.length:=by simpa using h
      omega
    have hs:=same_at (a:=a) (b:=b) (i:=i) (by omega) (by omega)
    rw [h2] at hs
    refine⟨h3,by omega,fun h4=>?_,fun h4=>⟨i+1,by rw [wrap_id (by omega) (by omega)];rfl,⟨by omega,?_⟩,by omega⟩⟩
    · rw [hs,show eqC (a.getD i noC) (b.getD i noC)=false from h4];rfl
    · rw [hs,show eqC (a.getD i noC) (b.getD i noC)=true from h4];rfl
  · have he:a.length=b.length:=by
      have:(a.length:Int)=b.length:=by simpa using h
      omega
    rw [←h2,List.drop_of_length_le (by omega:a.length≤i),List.drop_of_length_le (by omega:b.length≤i)];rfl
theorem ins_ok:SpecOK Tryz.prog 293 insT.spec:=by
  refine Tri.okF (E:=insE) (Env_ok (by decide +kernel) (by simp [compare_ok])) (n:=1000) insT (fun _=>rfl) fun x hx _ hl=>?_
  rw [ins_vc]
  delta insQ18 insQ17 insQ16 insQ15 insQ14 insQ13 insQ12 insQ11 insQ10 insQ9 insQ8 insQ7 insQ6 insQ5 insQ4 insQ3 insQ2 insQ1
  obtain⟨l,a,b⟩:=x
  obtain⟨hab,hbl⟩:=hx
  have hll:=hl.1
  clear hl
  simp only [br_bad,br_true,br_false,List.length_singleton,and_self,Bool.not_true,Bool.not_false,Bool.not_not,decide_eq_true_eq,Bool.and_eq_true,List.take_zero,List.nil_append,List.drop_zero,Nat.zero_add,Int.toNat_natCast,Nat.sub_eq,true_and,and_true,exists_const,List.length_nil,Nat.zero_le,Nat.zero_mul,Nat.le_refl,List.length_set,List.take_length,Int.natCast_nonneg,forall_const,implies_true,Int.toNat_zero,Nat.le_eq,Int.le_refl,addN,cutN,loN,hiN,bndB,List.length_cons,List.take_succ_cons,List.length_take,List.length_drop,Option.isNone,Nat.add_zero,Nat.min_self]
  try simp only [br_iff,decide_eq_true_eq,decide_eq_false_iff_not,room47,Bool.not_eq_true',Bool.not_eq_false',gt_iff_lt]
  simp only [room47,Tc.bytes] at hab hbl hll
  refine⟨⟨⟨1,l⟩,by rw [wrap_id (by omega) (by omega)];rfl,rfl,⟨?_,Nat.le_refl _⟩,?_⟩,?_⟩
  · dsimp only;omega
  · dsimp only
    by_cases h:a<l.length
    · rw [sliceL_snoc (Nat.le_refl _) h]
      have:sliceL l a a=[]:=by apply List.eq_nil_of_length_eq_zero;rw [sliceL_len (by omega)];omega
      rw [this,List.nil_append]
      have e:insS [l.getD a noC]=[l.getD a noC]:=rfl
      rw [e,←List.append_assoc,←take_succ_getD noC h,List.take_append_drop]
    · have:sliceL l a (a+1)=[]:=by simp [sliceL];omega
      rw [this]
      have e:insS []=[]:=rfl
      rw [e,List.drop_of_length_le (by omega),List.take_of_length_le (by omega)]
      simp
  rintro ⟨k,L⟩ ⟨⟨hk,hk1⟩,hL⟩
  dsimp only at hk hk1 hL ⊢
  refine⟨fun h1=>?_,fun h1=>?_⟩
  · -- facts of the row as it stands
    have hkb:a+k<l.length:=by omega
    generalize hS:insS (sliceL l a (a+k))=S at hL
    have hSl:S.length=k:=by rw [←hS,insS_len,sliceL_len (by omega)];omega
    have hta:(l.take a).length=a:=by rw [List.length_take];omega
    generalize hA:l.take a=A at hL hta
    have f1:L.getD (a+k) noC=l.getD (a+k) noC:=by
      rw [hL]
      simp only [List.getD]
      rw [List.getElem?_append_right (by omega),List.getElem?_append_right (by omega),List.getElem?_drop]
      congr 2;omega
    have f2:sliceL L a (a+k)=S:=by
      unfold sliceL
      rw [hL,←List.append_assoc,List.take_append_of_le_length (by simp;omega),List.take_of_length_le (by simp;omega),List.drop_append,List.drop_of_length_le (by omega),hta]
      simp
    have f3:L.drop (a+k+1)=l.drop (a+k+1):=by
      rw [hL,←List.append_assoc,List.drop_append,List.drop_of_length_le (by simp;omega),List.nil_append,List.drop_drop]
      congr 1;simp;omega
    have f4:L.take a=A:=by rw [hL,List.take_append_of_le_length (by omega),List.take_of_length_le (by omega)]
    have f5:L.length=l.length:=by rw [hL];simp;omega
    rw [f1,f2,f3,f4,f5]
    generalize hx0:l.getD (a+k) noC=x0
    have hfin:∀(X:List ChangeD),X=insR x0 S→A++(X++l.drop (a+k+1))=A++(insS (sliceL l a (a+(k+1)))++l.drop (a+(k+1))):=by
      intro X hX
      rw [hX,←Nat.add_assoc,sliceL_snoc (by omega) hkb,insS_snoc,hS,hx0]
    refine⟨⟨⟨A++S,x0,l.drop (a+k+1)⟩,?_,?_,⟨?_,?_⟩,?_,?_,?_⟩,?_⟩
    · simp only [List.length_append,hta,hSl]
    · dsimp only
      rw [hL,List.append_assoc]
      congr 2
      rw [List.drop_eq_getElem_cons hkb,←hx0]
      simp [hkb]
    · simp only [List.length_append,hta];omega
    · simp only [List.length_append,hta,hSl];omega
    · dsimp only
      rw [List.take_append_of_le_length (by omega),List.take_of_length_le (by omega)]
    · simp only [List.length_append,hta,hSl,List.length_drop];omega
    · dsimp only
      rw [List.drop_append,List.drop_of_length_le (by omega),hta]
      simp
    rintro ⟨P,x,Q⟩ ⟨⟨g1,g2⟩,g3,g4,g5⟩
    dsimp only at g1 g2 g3 g4 g5 ⊢
    have fin2:insR x (P.drop a)=P.drop a++[x] → ∃x8:InsI,IntKind.i64.wrap ((((a+k:Nat):Int))+1)=((a+x8.k:Nat):Int)∧P++x::Q=x8.l∧(((a+x8.k≤b∨b=a∧x8.k=1)∧1≤x8.k)∧x8.l=A++(insS (sliceL l a (a+x8.k))++l.drop (a+x8.k)))∧b-(a+x8.k)<b-(a+k):=by
      intro he
      refine⟨⟨k+1,P++x::Q⟩,by rw [wrap_id (by omega) (by omega)];rfl,rfl,⟨⟨.inl (by dsimp only;omega),by dsimp only;omega⟩,?_⟩,by dsimp only;omega⟩
      dsimp only
      rw [←hfin _ rfl,←g5,he]
      have:P=A++P.drop a:=by rw [←g3,List.take_append_drop]
      conv=>lhs;rw [this]
      simp
    refine⟨fun h2=>?_,fun h2=>?_⟩
    · obtain⟨P0,s,rfl⟩:∃P0 s,P=P0++[s]:=⟨P.dropLast,P.getLast (by rintro rfl;simp at h2;omega),(List.dropLast_concat_getLast _).symm⟩
      have hw:IntKind.i64.wrap (((P0++[s]).length:Int)-1)=(P0.length:Int):=by
        simp only [List.length_append,List.length_singleton] at g2 ⊢
        rw [wrap_id (by omega) (by omega)];omega
      rw [hw]
      have hlp:(P0++[s]).length=P0.length+1:=by simp
      have e1:((P0++[s])++x::Q).getD (P0++[s]).length noC=x:=get_mid _ _ _ _
      have e2:((P0++[s])++x::Q).getD P0.length noC=s:=by rw [List.append_assoc];exact get_mid _ _ _ _
      simp only [Int.toNat_natCast]
      rw [e1,e2]
      have hlen:((P0++[s])++x::Q).length=l.length:=by simp at g4 ⊢;omega
      rw [hlen]
      rw [hlp] at g1 g2 g4 h2 ⊢
      have hda:(P0++[s]).drop a=P0.drop a++[s]:=by rw [List.drop_append_of_le_length (by omega)]
      rw [hda] at g5 fin2
      refine⟨by omega,by omega,⟨by omega,by omega⟩,by omega,⟨x.path,s.path⟩,rfl,rfl,fun h3=>⟨⟨by omega,by omega⟩,by omega,by omega,by omega,by omega,by omega,⟨by omega,by omega⟩,by omega,⟨P0,x,s::Q⟩,rfl,?_,⟨⟨by dsimp only;omega,by dsimp only;omega⟩,?_,?_,?_⟩,by dsimp only;omega⟩,fun h3=>fin2 ?_⟩
      · dsimp only
        have:((P0++[s])++x::Q).set (P0.length+1) s=(P0++[s])++s::Q:=by
          have:=set_mid (P0++[s]) x s Q
          rwa [hlp] at this
        rw [this,List.append_assoc]
        exact set_mid P0 s x (s::Q)
      · dsimp only
        rw [List.take_append_of_le_length (by omega)] at g3
        exact g3
      · simp only [List.length_cons];omega
      · dsimp only
        rw [insR_lt (show cmpC x s<0 from h3)] at g5
        rw [←g5];simp
      · exact insR_ge (show ¬cmpC x s<0 from h3) _
    · refine fin2 ?_
      have:P.drop a=[]:=List.drop_of_length_le (by omega)
      rw [this];rfl
  · unfold midL
    have:a+k=b∨(b=a∧k=1):=by omega
    rcases this with h | ⟨h,h2⟩
    · rw [hL,h]
    · subst h;subst h2
      rw [hL]
      have e0:sliceL l b b=[]:=by apply List.eq_nil_of_length_eq_zero;rw [sliceL_len (by omega)];omega
      rw [e0]
      by_cases h:b<l.length
      · rw [sliceL_snoc (Nat.le_refl _) h,e0]
        have e:insS ([]++[l.getD b noC])=[l.getD b noC]:=rfl
        rw [e,List.drop_eq_getElem_cons h]
        simp [insS,h]
      · have:sliceL l b (b+1)=[]:=by simp [sliceL];omega
        rw [this,List.drop_of_length_le (by omega),List.drop_of_length_le (by omega)]
structure StaA where
  l:List ChangeD
def fewC (l:List ChangeD):Bool:=decide (l.length≤19)
noncomputable def stabT:Tri:={γ:=List ChangeD,n0:=1,args:=fun l=>[.mslice .change 0 0 l.length,.int .i64 l.length,.fn 223 [] []],blks:=fun l=>[(0,.rows .change l)],pre:=fun l=>fewC l=true,δ:=Unit,post:=fun _ _=>True,n1:=0,res:=fun x _=>.tuple [],blks':=fun l _=>[(0,.rows .change (insS l))],scal:=true}
noncomputable def stabI1:St→LInv:=fun s=>{σ:=Unit,I:=fun _=>True,μ:=fun _=>0,env:=fun _=>[(7,.int .i64 0),(8,.int .i64 20)],blk:=fun _=>[],fresh:=0,drop:=[]}
noncomputable def stabI2:St→LInv:=fun s=>{σ:=Unit,I:=fun _=>True,μ:=fun _=>0,env:=fun _=>[(6,.int .i64 20)],blk:=fun _=>[],fresh:=0,drop:=[]}
noncomputable def stabI3:St→LInv:=fun s=>{σ:=Unit,I:=fun _=>False,μ:=fun _=>0,env:=fun _=>[],blk:=fun _=>[],fresh:=0,drop:=[]}
noncomputable def stabE:Envr:=Env Tryz.prog cod [(293,insT.spec),(294,Tri.spec {γ:=Unit,n0:=0,args:=fun _=>[],blks:=fun _=>[],pre:=fun _=>False,δ:=Unit,post:=fun _ _=>True,n1:=0,res:=fun _ _=>.tuple [],blks':=fun _ _=>[],scal:=true})] [(2,stabI1),(7,stabI2),(9,stabI3)]
noncomputable def ssfT:Tri:={γ:=List ChangeD,n0:=1,args:=fun l=>[.mslice .change 0 0 l.length,.fn 223 [] []],blks:=fun l=>[(0,.rows .change l)],pre:=fun l=>fewC l=true,δ:=Unit,post:=fun _ _=>True,n1:=0,res:=fun x _=>.tuple [],blks':=fun l _=>[(0,.rows .change (insS l))],scal:=true}
noncomputable def ssfE:Envr:=Env Tryz.prog cod [(273,stabT.spec)] []
noncomputable def cloT:Tri:={γ:=List ChangeD,n0:=0,args:=fun l=>[.rslice false .change l],blks:=fun _=>[],pre:=fun _=>True,δ:=Unit,post:=fun _ _=>True,n1:=1,res:=fun l _=>.mslice .change 0 0 l.length,blks':=fun l _=>[(0,.rows .change l)],scal:=true}
noncomputable def sortE:Envr:=Env Tryz.prog cod [(196,cloT.spec),(255,ssfT.spec)] []
structure LimA where
  n:Nat
  twice:Nat
  turn:Bool
set_option maxRecDepth 100000
theorem stab_vc (x:stabT.γ):evCall stabE (ev stabE 1000) 273 (stabT.args x) ⟨stabT.blks x,stabT.n0,[]⟩ (fun _ _=>False) (stabT.ends x)=(
(∃x1:Unit,(0:Int)=(0:Int)∧
(20:Int)=(20:Int)∧
True)∧
∀x2:Unit,True→
br (decide ((20:Int)≤(↑(List.length x):Int))) (∃x3:InsA,0=0∧
List.length x=x3.l.length∧
(0:Int)=(↑x3.a:Int)∧
(20:Int)=(↑x3.b:Int)∧
x=x3.l∧
(x3.a≤x3.b∧
x3.b≤x3.l.length)∧
∀x4:Unit,True→
Bad "loop: other regions" "") (∃x5:InsA,0=0∧
List.length x=x5.l.length∧
(0:Int)=(↑x5.a:Int)∧
(↑(List.length x):Int)=(↑x5.b:Int)∧
x=x5.l∧
(x5.a≤x5.b∧
x5.b≤x5.l.length)∧
∀x6:Unit,True→
(∃x7:Unit,(20:Int)=(20:Int)∧
True)∧
∀x8:Unit,True→
br (decide ((20:Int)<(↑(List.length x):Int))) ((∃x9:Unit,False)∧
∀x10:Unit,False→
Bad "silent" "zsortanyfunc.go:347") (∃x11:Unit,midL x5.l x5.a x5.b (insS (sliceL x5.l x5.a x5.b))=insS x∧
True))):=by kernel_rfl
theorem ssf_vc (x:ssfT.γ):evCall ssfE (ev ssfE 1000) 255 (ssfT.args x) ⟨ssfT.blks x,ssfT.n0,[]⟩ (fun _ _=>False) (ssfT.ends x)=(
List.length x*32≤room47→
∃x1:(List ChangeD),0=0∧
List.length x=x1.length∧
(↑(List.length x):Int)=(↑x1.length:Int)∧
x=x1∧
fewC x1=true∧
∀x2:Unit,True→
∃x3:Unit,insS x1=insS x∧
True):=by kernel_rfl
theorem clo_vc (x:cloT.γ):evCall bareE (ev bareE 1000) 196 (cloT.args x) ⟨cloT.blks x,cloT.n0,[]⟩ (fun _ _=>False) (cloT.ends x)=(
∀x1:Bool,(x1=true→
x=([]:List ChangeD))→
br x1 (∃x2:Unit,0=List.length x∧
([]:List ChangeD)=x∧
True) (Nat.le (0*32) room47∧
Nat.le (List.length x*32) room47→
br (Bool.and (Bool.and true (decide (0+0≤([]:List ChangeD).length))) (decide ((0+List.length x)*32≤room47))) (∃x3:Unit,0=0∧
0+List.length x=List.length x∧
@HAppend.hAppend (List ChangeD) (List ChangeD) (List ChangeD) _ (List.take 0 (List.drop 0 ([]:List ChangeD))) x=x∧
True) (Bad "check" "slices.go:362"))):=by kernel_rfl
theorem never_ok {f:FuncId}:SpecOK Tryz.prog f (Tri.spec {γ:=Unit,n0:=0,args:=fun _=>[],blks:=fun _=>[],pre:=fun _=>False,δ:=Unit,post:=fun _ _=>True,n1:=0,res:=fun _ _=>.tuple [],blks':=fun _ _=>[],scal:=true}):=
  Tri.ok' _ fun x hx=>hx.elim
theorem stab_ok:SpecOK Tryz.prog 273 stabT.spec:=by
  refine Tri.ok (E:=stabE) (Env_ok (by decide +kernel) (by
    intro p hp
    rcases List.mem_cons.1 hp with rfl | hp
    · exact ins_ok
    · rcases List.mem_singleton.1 hp with rfl
      exact never_ok)) (n:=1000) stabT fun x hx=>?_
  rw [stab_vc]
  revert x
  intro (l:List ChangeD) hx
  simp only [br_bad,br_true,br_false,List.length_singleton,and_self,Bool.not_true,Bool.not_false,Bool.not_not,decide_eq_true_eq,Bool.and_eq_true,List.take_zero,List.nil_append,List.drop_zero,Nat.zero_add,Int.toNat_natCast,Nat.sub_eq,true_and,and_true,exists_const,List.length_nil,Nat.zero_le,Nat.zero_mul,Nat.le_refl,List.length_set,List.take_length,Int.natCast_nonneg,forall_const,implies_true,Int.toNat_zero,Nat.le_eq,Int.le_refl,addN,cutN,loN,hiN,bndB,List.length_cons,List.take_succ_cons,List.length_take,List.length_drop,Option.isNone,Nat.add_zero,Nat.min_self]
  try simp only [br_iff,decide_eq_true_eq,decide_eq_false_iff_not,room47,Bool.not_eq_true',Bool.not_eq_false',gt_iff_lt]
  have hx:l.length≤19:=of_decide_eq_true hx
  refine⟨fun h=>by omega,fun _=>⟨⟨l,0,l.length⟩,rfl,rfl,rfl,rfl,⟨Nat.zero_le _,Nat.le_refl _⟩,fun h=>by omega,fun _=>?_⟩⟩
  simp [midL,sliceL]
theorem ssf_ok:SpecOK Tryz.prog 255 ssfT.spec:=by
  refine Tri.ok (E:=ssfE) (Env_ok (by decide +kernel) (by simp [stab_ok])) (n:=1000) ssfT fun x hx=>?_
  rw [ssf_vc]
  revert x
  intro (l:List ChangeD) hx
  simp only [br_bad,br_true,br_false,List.length_singleton,and_self,Bool.not_true,Bool.not_false,Bool.not_not,decide_eq_true_eq,Bool.and_eq_true,List.take_zero,List.nil_append,List.drop_zero,Nat.zero_add,Int.toNat_natCast,Nat.sub_eq,true_and,and_true,exists_const,List.length_nil,Nat.zero_le,Nat.zero_mul,Nat.le_refl,List.length_set,List.take_length,Int.natCast_nonneg,forall_const,implies_true,Int.toNat_zero,Nat.le_eq,Int.le_refl,addN,cutN,loN,hiN,bndB,List.length_cons,List.take_succ_cons,List.length_take,List.length_drop,Option.isNone,Nat.add_zero,Nat.min_self]
  try simp only [br_iff,decide_eq_true_eq,decide_eq_false_iff_not,room47,Bool.not_eq_true',Bool.not_eq_false',gt_iff_lt]
  exact fun _=>⟨l,rfl,rfl,rfl,hx,rfl⟩
theorem clo_ok:SpecOK Tryz.prog 196 cloT.spec:=by
  refine Tri.ok (E:=bareE) (Env_ok (by decide +kernel) (by simp)) (n:=1000) cloT fun x hx=>?_
  rw [clo_vc]
  revert x
  intro (l:List ChangeD) hx
  simp only [br_bad,br_true,br_false,List.length_singleton,and_self,Bool.not_true,Bool.not_false,Bool.not_not,decide_eq_true_eq,Bool.and_eq_true,List.take_zero,List.nil_append,List.drop_zero,Nat.zero_add,Int.toNat_natCast,Nat.sub_eq,true_and,and_true,exists_const,List.length_nil,Nat.zero_le,Nat.zero_mul,Nat.le_refl,List.length_set,List.take_length,Int.natCast_nonneg,forall_const,implies_true,Int.toNat_zero,Nat.le_eq,Int.le_refl,addN,cutN,loN,hiN,bndB,List.length_cons,List.take_succ_cons,List.length_take,List.length_drop,Option.isNone,Nat.add_zero,Nat.min_self]
  try simp only [br_iff,decide_eq_true_eq,decide_eq_false_iff_not,room47,Bool.not_eq_true',Bool.not_eq_false',gt_iff_lt]
  intro b hb
  refine⟨fun h=>?_,fun _ h=>h⟩
  rw [hb h];exact⟨rfl,rfl⟩
end Go.Proofs.YtgepebndihfnfaaGreat.Ses
