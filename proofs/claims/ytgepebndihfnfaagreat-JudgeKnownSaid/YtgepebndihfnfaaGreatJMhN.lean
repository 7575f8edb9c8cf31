/- The laws JudgeLocals and JudgeKnown: what the evaluator leaves, and that it holds. No condition. -/
import Derived.Test.YtgepebndihfnfaaGreatJMhM
import Derived.KernelRfl
set_option linter.unusedSimpArgs false
set_option linter.unusedVariables false

namespace Go.Proofs.YtgepebndihfnfaaGreat.Ses
open Go Go.Proofs Go.Proofs.YtgepebndihfnfaaGreat.Sx
structure JdlA where
  l:List RequestD
  at_:Int
  told:Int
def jdlArgs (x:JdlA):List SV:=[.rslice false .request x.l,.int .i64 x.at_,.int .i64 x.told]
def cLen (f:MacS) (l:List RequestD) (i:Nat):Int:=((runF f (l.take i)).C.length:Int)
def okJ (f:MacS) (l:List RequestD) (a t:Int) (i:Nat):Bool:=decide (a>t)||(List.range i).any fun p=>decide ((t:Int)<p)&&(cLen f l p==cLen f l a.toNat)
noncomputable def jdlI:St→LInv:=fun s=>match rmcAt s 16,getE s.env 0,getE s.env 1,getE s.env 2 with
  | some ⟨_,m,a,b,c,t,sr,e,er⟩,.rslice _ .request l,.int _ at_,.int _ told=>{σ:=Nat,I:=fun i=>told.toNat+1≤i∧i≤l.length+1,μ:=fun i=>l.length+1-i,env:=fun i=>[(20,.int .i64 i),(19,.bool (okJ fresh0 l at_ told i))],blk:=fun i=>rmB (runF fresh0 (l.take i)) m s.m.next (s.m.next+1) (s.m.next+2) t (s.m.next+3) e (s.m.next+4),fresh:=5,drop:=[a,b,c,sr,er]}
  | _,_,_,_=>LInv.none
noncomputable def jdlE:Envr:=Env Tryz.prog cod [(31,jawT.spec),(20,mroomT.spec),(32,rrun1T.spec),(34,firT.spec),(47,rpeekT.spec),(48,rappT.spec),(40,altSpec locaT locbT),(35,jlgT.spec)] [(17,jdlI)]
noncomputable def jknArgs (x:Unit):List SV:=[]
noncomputable def jknE:Envr:=Env Tryz.prog cod [(31,jawT.spec),(40,altSpec loccT locdT),(35,jlgT.spec),(36,jslT.spec),(42,sintT.spec)] []
set_option maxRecDepth 100000
abbrev jdlQ1 (x:JdlA):=IntKind.wrap IntKind.i64 ((↑(JdlA.l x).length:Int)+(1:Int))
abbrev jdlQ2  := [(0:Int),(1:Int),(2:Int)]
abbrev jdlQ3  := List.take 3 (List.drop 0 jdlQ2)
abbrev jdlQ4 (x5:RunA):=(2:Int)=CfgD.a (RunA.c x5)
abbrev jdlQ5 (x5:RunA):=(3:Int)=CfgD.z (RunA.c x5)
abbrev jdlQ6 (x5:RunA):=(0:Int)=CfgD.keep (RunA.c x5)
abbrev jdlQ7 (x5:RunA):=(0:Int)=CfgD.beat (RunA.c x5)
abbrev jdlQ8 (x5:RunA):=(0:Int)=CfgD.term (RunA.c x5)
abbrev jdlQ9 (x5:RunA):=(0:Int)=CfgD.lease (RunA.c x5)
abbrev jdlQ10 (x5:RunA):=(0:Int)=CfgD.num (RunA.c x5)
abbrev jdlQ11 (x5:RunA):=(0:Int)=CfgD.den (RunA.c x5)
abbrev jdlQ12 (x:JdlA):=Int.tmod (IntKind.wrap IntKind.i64 (Int.tmod (JdlA.told x) (↑(JdlA.l x).length:Int)+(↑(JdlA.l x).length:Int))) (↑(JdlA.l x).length:Int)
abbrev jdlQ13 (x:JdlA):=decide ((0:Int)≤jdlQ12 x∧
jdlQ12 x<(↑(JdlA.l x).length:Int))
abbrev jdlQ14 (x:JdlA):=List.getD (JdlA.l x) (jdlQ12 x).toNat RequestD.dflt
abbrev jdlQ15 (x:JdlA):=Int.tmod (IntKind.wrap IntKind.i64 (IntKind.wrap IntKind.i64 (Int.tmod (JdlA.at_ x) (jdlQ1 x)+(↑(JdlA.l x).length:Int))+(1:Int))) (jdlQ1 x)
abbrev jdlQ16 (x:JdlA):=IntKind.wrap IntKind.i64 (jdlQ12 x+(1:Int))
abbrev jdlQ17 (x:JdlA) (x15:Nat):=okJ fresh0 (JdlA.l x) (jdlQ15 x) (jdlQ12 x) x15
abbrev jdlQ18 (x15:Nat) (x:JdlA):=runF fresh0 (List.take x15 (JdlA.l x))
abbrev jdlQ19 (x:JdlA) (x15:Nat):=(jdlQ12 x).toNat+1≤x15∧
x15≤(JdlA.l x).length+1
abbrev jdlQ20 (x16:Nat) (x:JdlA):=decide ((0:Int)≤(↑x16:Int)∧
(↑x16:Int)<(↑(JdlA.l x).length:Int))
abbrev jdlQ21 (x16:Nat) (x19:Nat):=IntKind.wrap IntKind.i64 ((↑x16:Int)+(1:Int))=(↑x19:Int)
abbrev jdlQ22 (x:JdlA) (x19:Nat) (x16:Nat):=jdlQ19 x x19∧
Nat.sub ((JdlA.l x).length+1) x19<Nat.sub ((JdlA.l x).length+1) x16
abbrev jdlQ23 (x:JdlA) (x5:RunA) (x11:MacA):=[DeedD.mk (0:Int) false (jdlQ14 x) (List.getD (verdF (RunA.f x5) (RunA.l x5)) (jdlQ12 x).toNat (VerdictD.mk (0:Int) (0:Int) (0:Int) ([]:List UInt8) (0:Int) ([]:List CommitD) (0:Int))) (1:Int) (5:Int) (↑(JdlA.l x).length:Int),DeedD.mk (0:Int) true (RequestD.mk (3:Int) ([]:List UInt8) (0:Int) (0:Int) (0:Int) ([]:List UInt8) ([]:List ChangeD) ([]:List UInt8) (0:Int) (0:Int) (0:Int)) (peekM x11.x x11.r) (7:Int) (9:Int) (↑(JdlA.l x).length:Int)]
abbrev jdlQ24 (x:JdlA) (x5:RunA) (x11:MacA):=0+2≤(jdlQ23 x x5 x11).length
abbrev jdlQ25 (x:JdlA) (x5:RunA) (x11:MacA) (x25:LocA):=List.take 2 (List.drop 0 (jdlQ23 x x5 x11))=[DeedD.mk (0:Int) false x25.v x25.w (1:Int) (5:Int) x25.n,DeedD.mk (0:Int) true (RequestD.mk (3:Int) ([]:List UInt8) (0:Int) (0:Int) (0:Int) ([]:List UInt8) ([]:List ChangeD) ([]:List UInt8) (0:Int) (0:Int) (0:Int)) (VerdictD.mk (8:Int) (0:Int) x25.rev ([]:List UInt8) (0:Int) ([]:List CommitD) (0:Int)) (7:Int) (9:Int) x25.n]
abbrev jdlQ26 (x27:JdA):=loggedD x27.ds (slotsD x27.l (runV x27.c x27.l) x27.ds) == @Neg.neg Int _ (1:Int)
abbrev jdlQ27 (x29:LocA):=locR (1:Int) (5:Int) (7:Int) (9:Int) true x29
abbrev jdlQ28 (x29:LocA):=jdlQ27 x29 == @Neg.neg Int _ (1:Int)
abbrev jdlQ29 (x25:LocA) (x:JdlA) (x16:Nat):=br (jdlQ28 x25==jdlQ17 x x16) (br (jdlQ17 x x16) (true=true) ((jdlQ27 x25==(1:Int))=true)) (false=true)
abbrev jdlQ30 (x31:LocA):=locR (1:Int) (5:Int) (7:Int) (9:Int) false x31
abbrev jdlQ31 (x31:LocA):=jdlQ30 x31 == @Neg.neg Int _ (1:Int)
abbrev jdlQ32 (x33:LocA) (x:JdlA) (x16:Nat):=br (jdlQ31 x33==jdlQ17 x x16) (br (jdlQ17 x x16) (true=true) ((jdlQ30 x33==(1:Int))=true)) (false=true)
theorem jdl_vc (x:JdlA):evCall jdlE (ev jdlE 1000) 11 (jdlArgs x) ⟨[],0,[]⟩ (fun _ _=>False) (fun v _=>TrueV v)=(
∃x1:Unit,True∧
∀x2:Unit,True→
∃x3:RmA,JdlA.l x=x3.l∧
(50:Int)=x3.most∧
True∧
∀x4:Unit,True→
br (roomM x3.l x3.most).not (true=true) ((JdlA.l x).length*128≤room47→
br ((↑(JdlA.l x).length:Int)==(0:Int)) (true=true) ((JdlA.l x).length*128≤room47→
br (jdlQ1 x != (0:Int)) (br (jdlQ1 x != (0:Int)) (br ((↑(JdlA.l x).length:Int) != (0:Int)) (br ((↑(JdlA.l x).length:Int) != (0:Int)) (∃x5:RunA,0+3≤jdlQ2.length∧
jdlQ3=CfgD.M (RunA.c x5)∧
jdlQ4 x5∧
jdlQ5 x5∧
jdlQ6 x5∧
jdlQ7 x5∧
jdlQ8 x5∧
jdlQ9 x5∧
jdlQ10 x5∧
jdlQ11 x5∧
JdlA.l x=RunA.l x5∧
RunA.ok x5=true∧
∀x6:Unit,True→
br (jdlQ13 x) (br (decide ((jdlQ14 x).kind≤(1:Int))) (true=true) (br (jdlQ13 x) (∃x7:FirA,JdlA.l x=x7.l∧
EqQ (jdlQ14 x) x7.r (True∧
∀x8:Unit,True→
br (idxR x7.r x7.l != jdlQ12 x) (true=true) (br (bndB (JdlA.l x).length (none:Option Int) (Option.some (jdlQ15 x)) (none:Option Int)) (∃x9:RunA,0+3≤jdlQ2.length∧
jdlQ3=CfgD.M (RunA.c x9)∧
jdlQ4 x9∧
jdlQ5 x9∧
jdlQ6 x9∧
jdlQ7 x9∧
jdlQ8 x9∧
jdlQ9 x9∧
jdlQ10 x9∧
jdlQ11 x9∧
@cutL RequestD (JdlA.l x) (none:Option Int) (Option.some (jdlQ15 x))=RunA.l x9∧
RunA.ok x9=true∧
∀x10:Unit,True→
br (jdlQ13 x) (br (decide ((0:Int)≤jdlQ12 x∧
jdlQ12 x<(↑(verdF (RunA.f x5) (RunA.l x5)).length:Int))) (∃x11:MacA,(3:Int)=x11.r.kind∧
([]:List UInt8)=x11.r.name∧
(0:Int)=x11.r.session∧
(0:Int)=x11.r.seq∧
(0:Int)=x11.r.base∧
([]:List UInt8)=x11.r.ref∧
([]:List ChangeD)=x11.r.changes∧
([]:List UInt8)=x11.r.path∧
(0:Int)=x11.r.from_∧
(0:Int)=x11.r.many∧
(0:Int)=x11.r.member∧
EqN (runF (RunA.f x9) (RunA.l x9)) x11.x (okRm x11.x x11.r=true∧
∀x12:Unit,True→
br (bndB (JdlA.l x).length (none:Option Int) (Option.some (jdlQ16 x)) (none:Option Int)) (∃x13:RunA,0+3≤jdlQ2.length∧
jdlQ3=CfgD.M (RunA.c x13)∧
jdlQ4 x13∧
jdlQ5 x13∧
jdlQ6 x13∧
jdlQ7 x13∧
jdlQ8 x13∧
jdlQ9 x13∧
jdlQ10 x13∧
jdlQ11 x13∧
@cutL RequestD (JdlA.l x) (none:Option Int) (Option.some (jdlQ16 x))=RunA.l x13∧
RunA.ok x13=true∧
∀x14:Unit,True→
(∃x15:Nat,jdlQ16 x=(↑x15:Int)∧
decide (jdlQ15 x>jdlQ12 x)=jdlQ17 x x15∧
EqN (runF (RunA.f x13) (RunA.l x13)) (jdlQ18 x15 x) (jdlQ19 x x15))∧
∀x16:Nat,jdlQ19 x x16→
br (decide ((↑x16:Int)≤(↑(JdlA.l x).length:Int))) (br (jdlQ17 x x16) (br (decide ((↑x16:Int)<(↑(JdlA.l x).length:Int))) (br (jdlQ20 x16 x) (∃x17:MacA,EqQ (List.getD (JdlA.l x) (↑x16:Int).toNat RequestD.dflt) x17.r (EqN (jdlQ18 x16 x) x17.x (okRm x17.x x17.r=true∧
∀x18:Unit,True→
∃x19:Nat,jdlQ21 x16 x19∧
true=jdlQ17 x x19∧
EqN (applyM x17.x x17.r).2 (jdlQ18 x19 x) (jdlQ22 x x19 x16)))) (Bad "check" "law.go:130")) (∃x20:Nat,jdlQ21 x16 x20∧
true=jdlQ17 x x20∧
EqN (jdlQ18 x16 x) (jdlQ18 x20 x) (jdlQ22 x x20 x16))) ((jdlQ18 x16 x).C.length*56≤room47→
x11.x.C.length*56≤room47→
br (decide ((↑x16:Int)<(↑(JdlA.l x).length:Int))) (br (jdlQ20 x16 x) (∃x21:MacA,EqQ (List.getD (JdlA.l x) (↑x16:Int).toNat RequestD.dflt) x21.r (EqN (jdlQ18 x16 x) x21.x (okRm x21.x x21.r=true∧
∀x22:Unit,True→
∃x23:Nat,jdlQ21 x16 x23∧
((↑(jdlQ18 x16 x).C.length:Int)==(↑x11.x.C.length:Int))=jdlQ17 x x23∧
EqN (applyM x21.x x21.r).2 (jdlQ18 x23 x) (jdlQ22 x x23 x16)))) (Bad "check" "law.go:130")) (∃x24:Nat,jdlQ21 x16 x24∧
((↑(jdlQ18 x16 x).C.length:Int)==(↑x11.x.C.length:Int))=jdlQ17 x x24∧
EqN (jdlQ18 x16 x) (jdlQ18 x24 x) (jdlQ22 x x24 x16)))) (Or (∃x25:LocA,0+3≤jdlQ2.length∧
jdlQ3=CfgD.M x25.c∧
(2:Int)=CfgD.a x25.c∧
(3:Int)=CfgD.z x25.c∧
(0:Int)=CfgD.keep x25.c∧
(0:Int)=CfgD.beat x25.c∧
(0:Int)=CfgD.term x25.c∧
(0:Int)=CfgD.lease x25.c∧
(0:Int)=CfgD.num x25.c∧
(0:Int)=CfgD.den x25.c∧
JdlA.l x=x25.l∧
jdlQ24 x x5 x11∧
jdlQ25 x x5 x11 x25∧
true=true∧
x25.ok=true∧
∀x26:Unit,True→
∃x27:JdA,0+3≤jdlQ2.length∧
jdlQ3=CfgD.M x27.c∧
(2:Int)=CfgD.a x27.c∧
(3:Int)=CfgD.z x27.c∧
(0:Int)=CfgD.keep x27.c∧
(0:Int)=CfgD.beat x27.c∧
(0:Int)=CfgD.term x27.c∧
(0:Int)=CfgD.lease x27.c∧
(0:Int)=CfgD.num x27.c∧
(0:Int)=CfgD.den x27.c∧
JdlA.l x=x27.l∧
jdlQ24 x x5 x11∧
List.take 2 (List.drop 0 (jdlQ23 x x5 x11))=x27.ds∧
okL x27.l=true∧
∀x28:Unit,True→
br (jdlQ26 x27) (Or (∃x29:LocA,0+3≤jdlQ2.length∧
jdlQ3=CfgD.M x29.c∧
(2:Int)=CfgD.a x29.c∧
(3:Int)=CfgD.z x29.c∧
(0:Int)=CfgD.keep x29.c∧
(0:Int)=CfgD.beat x29.c∧
(0:Int)=CfgD.term x29.c∧
(0:Int)=CfgD.lease x29.c∧
(0:Int)=CfgD.num x29.c∧
(0:Int)=CfgD.den x29.c∧
JdlA.l x=x29.l∧
jdlQ24 x x5 x11∧
jdlQ25 x x5 x11 x29∧
false=true∧
x29.ok=true∧
∀x30:Unit,True→
br (jdlQ28 x29) (jdlQ29 x25 x x16) (false=true)) (∃x31:LocA,0+3≤jdlQ2.length∧
jdlQ3=CfgD.M x31.c∧
(2:Int)=CfgD.a x31.c∧
(3:Int)=CfgD.z x31.c∧
(0:Int)=CfgD.keep x31.c∧
(0:Int)=CfgD.beat x31.c∧
(0:Int)=CfgD.term x31.c∧
(0:Int)=CfgD.lease x31.c∧
(0:Int)=CfgD.num x31.c∧
(0:Int)=CfgD.den x31.c∧
JdlA.l x=x31.l∧
jdlQ24 x x5 x11∧
jdlQ25 x x5 x11 x31∧
false=false∧
x31.ok=true∧
∀x32:Unit,True→
br (jdlQ31 x31) (jdlQ29 x25 x x16) (false=true))) (false=true)) (∃x33:LocA,0+3≤jdlQ2.length∧
jdlQ3=CfgD.M x33.c∧
(2:Int)=CfgD.a x33.c∧
(3:Int)=CfgD.z x33.c∧
(0:Int)=CfgD.keep x33.c∧
(0:Int)=CfgD.beat x33.c∧
(0:Int)=CfgD.term x33.c∧
(0:Int)=CfgD.lease x33.c∧
(0:Int)=CfgD.num x33.c∧
(0:Int)=CfgD.den x33.c∧
JdlA.l x=x33.l∧
jdlQ24 x x5 x11∧
jdlQ25 x x5 x11 x33∧
true=false∧
x33.ok=true∧
∀x34:Unit,True→
∃x35:JdA,0+3≤jdlQ2.length∧
jdlQ3=CfgD.M x35.c∧
(2:Int)=CfgD.a x35.c∧
(3:Int)=CfgD.z x35.c∧
(0:Int)=CfgD.keep x35.c∧
(0:Int)=CfgD.beat x35.c∧
(0:Int)=CfgD.term x35.c∧
(0:Int)=CfgD.lease x35.c∧
(0:Int)=CfgD.num x35.c∧
(0:Int)=CfgD.den x35.c∧
JdlA.l x=x35.l∧
jdlQ24 x x5 x11∧
List.take 2 (List.drop 0 (jdlQ23 x x5 x11))=x35.ds∧
okL x35.l=true∧
∀x36:Unit,True→
br (jdlQ26 x35) (Or (∃x37:LocA,0+3≤jdlQ2.length∧
jdlQ3=CfgD.M x37.c∧
(2:Int)=CfgD.a x37.c∧
(3:Int)=CfgD.z x37.c∧
(0:Int)=CfgD.keep x37.c∧
(0:Int)=CfgD.beat x37.c∧
(0:Int)=CfgD.term x37.c∧
(0:Int)=CfgD.lease x37.c∧
(0:Int)=CfgD.num x37.c∧
(0:Int)=CfgD.den x37.c∧
JdlA.l x=x37.l∧
jdlQ24 x x5 x11∧
jdlQ25 x x5 x11 x37∧
false=true∧
x37.ok=true∧
∀x38:Unit,True→
br (jdlQ28 x37) (jdlQ32 x33 x x16) (false=true)) (∃x39:LocA,0+3≤jdlQ2.length∧
jdlQ3=CfgD.M x39.c∧
(2:Int)=CfgD.a x39.c∧
(3:Int)=CfgD.z x39.c∧
(0:Int)=CfgD.keep x39.c∧
(0:Int)=CfgD.beat x39.c∧
(0:Int)=CfgD.term x39.c∧
(0:Int)=CfgD.lease x39.c∧
(0:Int)=CfgD.num x39.c∧
(0:Int)=CfgD.den x39.c∧
JdlA.l x=x39.l∧
jdlQ24 x x5 x11∧
jdlQ25 x x5 x11 x39∧
false=false∧
x39.ok=true∧
∀x40:Unit,True→
br (jdlQ31 x39) (jdlQ32 x33 x x16) (false=true))) (false=true)))) (Bad "check" "law.go:125"))) (Bad "check" "law.go:124")) (Bad "check" "law.go:124")) (Bad "check" "law.go:123")))) (Bad "check" "law.go:119"))) (Bad "check" "law.go:119")) (Bad "check" "law.go:117")) (Bad "check" "law.go:117")) (Bad "check" "law.go:116")) (Bad "check" "law.go:116")))):=by kernel_rfl
abbrev jknQ1  := [(0:Int),(1:Int),(2:Int)]
abbrev jknQ2  := List.take 3 (List.drop 0 jknQ1)
abbrev jknQ3  := [RequestD.mk (1:Int) (Array.toList (ByteArray.data (ByteArray.mk (List.toArray [(99:UInt8)])))) (0:Int) (0:Int) (0:Int) ([]:List UInt8) ([]:List ChangeD) ([]:List UInt8) (0:Int) (0:Int) (0:Int),RequestD.mk (2:Int) ([]:List UInt8) (1:Int) (1:Int) (0:Int) ([]:List UInt8) (List.take 1 (List.drop 0 [ChangeD.mk (Array.toList (ByteArray.data (ByteArray.mk (List.toArray [(97:UInt8)])))) false (5:Int)])) ([]:List UInt8) (0:Int) (0:Int) (0:Int),RequestD.mk (3:Int) ([]:List UInt8) (1:Int) (2:Int) (0:Int) ([]:List UInt8) ([]:List ChangeD) ([]:List UInt8) (0:Int) (0:Int) (0:Int)]
abbrev jknQ4  := List.take 3 (List.drop 0 jknQ3)
abbrev jknQ5  := [DeedD.mk (0:Int) false (List.getD jknQ3 (0+(1:Int).toNat) RequestD.dflt) (VerdictD.mk (2:Int) (0:Int) (1:Int) ([]:List UInt8) (0:Int) ([]:List CommitD) (0:Int)) (1:Int) (IntKind.wrap IntKind.i64 ((1:Int)+(9:Int))) (3:Int),DeedD.mk (0:Int) true (RequestD.mk (3:Int) ([]:List UInt8) (0:Int) (0:Int) (0:Int) ([]:List UInt8) ([]:List ChangeD) ([]:List UInt8) (0:Int) (0:Int) (0:Int)) (VerdictD.mk (8:Int) (0:Int) (0:Int) ([]:List UInt8) (0:Int) ([]:List CommitD) (0:Int)) (20:Int) (21:Int) (3:Int)]
abbrev jknQ6  := List.take 2 (List.drop 0 jknQ5)
abbrev jknQ7 (x3:LocA):=jknQ6=[DeedD.mk (0:Int) false x3.v x3.w (1:Int) (10:Int) x3.n,DeedD.mk (0:Int) true (RequestD.mk (3:Int) ([]:List UInt8) (0:Int) (0:Int) (0:Int) ([]:List UInt8) ([]:List ChangeD) ([]:List UInt8) (0:Int) (0:Int) (0:Int)) (VerdictD.mk (8:Int) (0:Int) x3.rev ([]:List UInt8) (0:Int) ([]:List CommitD) (0:Int)) (20:Int) (21:Int) x3.n]
abbrev jknQ8 (x3:LocA):=locR (1:Int) (10:Int) (20:Int) (21:Int) true x3
abbrev jknQ9  := [(1:Int),@Neg.neg Int _ (1:Int)]
abbrev jknQ10  := ∃x7:JdA,0+3≤jknQ1.length∧
jknQ2=CfgD.M x7.c∧
(2:Int)=CfgD.a x7.c∧
(3:Int)=CfgD.z x7.c∧
(0:Int)=CfgD.keep x7.c∧
(0:Int)=CfgD.beat x7.c∧
(0:Int)=CfgD.term x7.c∧
(0:Int)=CfgD.lease x7.c∧
(0:Int)=CfgD.num x7.c∧
(0:Int)=CfgD.den x7.c∧
0+3≤jknQ3.length∧
jknQ4=x7.l∧
0+2≤jknQ5.length∧
jknQ6=x7.ds∧
okL x7.l=true∧
∀x8:Unit,True→
br (loggedD x7.ds (slotsD x7.l (runV x7.c x7.l) x7.ds) == @Neg.neg Int _ (1:Int)) (∃x9:JdA,0+3≤jknQ1.length∧
jknQ2=CfgD.M x9.c∧
(2:Int)=CfgD.a x9.c∧
(3:Int)=CfgD.z x9.c∧
(0:Int)=CfgD.keep x9.c∧
(0:Int)=CfgD.beat x9.c∧
(0:Int)=CfgD.term x9.c∧
(0:Int)=CfgD.lease x9.c∧
(0:Int)=CfgD.num x9.c∧
(0:Int)=CfgD.den x9.c∧
0+3≤jknQ3.length∧
jknQ4=x9.l∧
0+2≤jknQ5.length∧
jknQ6=x9.ds∧
okL x9.l=true∧
∀x10:Unit,True→
∃x11:(List Int),slotsD x9.l (runV x9.c x9.l) x9.ds=x11∧
0+2≤jknQ9.length∧
List.take 2 (List.drop 0 jknQ9)=x11∧
True∧
∀x12:Unit,True→
true=true) (false=true)
abbrev jknQ11 (x13:LocA):=locR (1:Int) (10:Int) (20:Int) (21:Int) false x13
abbrev jknQ12  := Or (∃x5:LocA,0+3≤jknQ1.length∧
jknQ2=CfgD.M x5.c∧
(2:Int)=CfgD.a x5.c∧
(3:Int)=CfgD.z x5.c∧
(0:Int)=CfgD.keep x5.c∧
(0:Int)=CfgD.beat x5.c∧
(0:Int)=CfgD.term x5.c∧
(0:Int)=CfgD.lease x5.c∧
(0:Int)=CfgD.num x5.c∧
(0:Int)=CfgD.den x5.c∧
0+3≤jknQ3.length∧
jknQ4=x5.l∧
0+2≤jknQ5.length∧
jknQ7 x5∧
false=true∧
x5.ok=true∧
∀x6:Unit,True→
br (jknQ8 x5 == @Neg.neg Int _ (1:Int)) jknQ10 (false=true)) (∃x13:LocA,0+3≤jknQ1.length∧
jknQ2=CfgD.M x13.c∧
(2:Int)=CfgD.a x13.c∧
(3:Int)=CfgD.z x13.c∧
(0:Int)=CfgD.keep x13.c∧
(0:Int)=CfgD.beat x13.c∧
(0:Int)=CfgD.term x13.c∧
(0:Int)=CfgD.lease x13.c∧
(0:Int)=CfgD.num x13.c∧
(0:Int)=CfgD.den x13.c∧
0+3≤jknQ3.length∧
jknQ4=x13.l∧
0+2≤jknQ5.length∧
jknQ7 x13∧
false=false∧
x13.ok=true∧
∀x14:Unit,True→
br (jknQ11 x13 == @Neg.neg Int _ (1:Int)) jknQ10 (false=true))
theorem jkn_vc (x:Unit):evCall jknE (ev jknE 1000) 9 (jknArgs x) ⟨[],0,[]⟩ (fun _ _=>False) (fun v _=>TrueV v)=(
∃x1:Unit,True∧
∀x2:Unit,True→
Or (∃x3:LocA,0+3≤jknQ1.length∧
jknQ2=CfgD.M x3.c∧
(2:Int)=CfgD.a x3.c∧
(3:Int)=CfgD.z x3.c∧
(0:Int)=CfgD.keep x3.c∧
(0:Int)=CfgD.beat x3.c∧
(0:Int)=CfgD.term x3.c∧
(0:Int)=CfgD.lease x3.c∧
(0:Int)=CfgD.num x3.c∧
(0:Int)=CfgD.den x3.c∧
0+3≤jknQ3.length∧
jknQ4=x3.l∧
0+2≤jknQ5.length∧
jknQ7 x3∧
true=true∧
x3.ok=true∧
∀x4:Unit,True→
br (jknQ8 x3==(1:Int)) jknQ12 (false=true)) (∃x21:LocA,0+3≤jknQ1.length∧
jknQ2=CfgD.M x21.c∧
(2:Int)=CfgD.a x21.c∧
(3:Int)=CfgD.z x21.c∧
(0:Int)=CfgD.keep x21.c∧
(0:Int)=CfgD.beat x21.c∧
(0:Int)=CfgD.term x21.c∧
(0:Int)=CfgD.lease x21.c∧
(0:Int)=CfgD.num x21.c∧
(0:Int)=CfgD.den x21.c∧
0+3≤jknQ3.length∧
jknQ4=x21.l∧
0+2≤jknQ5.length∧
jknQ7 x21∧
true=false∧
x21.ok=true∧
∀x22:Unit,True→
br (jknQ11 x21==(1:Int)) jknQ12 (false=true))):=by kernel_rfl
theorem head_same (x y:MacS):eqV (peekM x headR) (peekM y headR)=((x.C.length:Int)==(y.C.length:Int)):=by
  show ((8:Int)==8&&((0:Int)==0&&(((x.C.length:Int)==(y.C.length:Int))&&(([]:Bs)==[]&&((0:Int)==0&&((0:Int)==0&&sameM [] []))))))=_
  have:sameM [] []=true:=rfl
  rw [this]
  simp
def headB (f:MacS) (l:List RequestD) (a:Nat):DeedD:=⟨0,true,headR,peekM (runF f (l.take a)) headR,7,9,l.length⟩
theorem headB_cnt (f:MacS) (l:List RequestD) (a:Nat):cntD (headB f l a)=true:=rfl
theorem pla_head (f:MacS) (l:List RequestD) (a p:Nat):plaD f l (headB f l a) p=(decide ((p:Int)≤l.length)&&(cLen f l p==cLen f l a)):=by
  show (true&&(cntD (headB f l a)&&(decide ((p:Int)≤l.length)&&eqV (peekM (runF f (l.take p)) headR) (peekM (runF f (l.take a)) headR))))=_
  rw [head_same,headB_cnt]
  rfl
theorem any_pla (f:MacS) (l:List RequestD) (d:DeedD) (m:Nat) (q:Int→Bool):(plaF f l d m).any q=(List.range m).any fun p=>plaD f l d p&&q p:=by
  unfold plaF
  rw [List.any_map,List.any_filter]
  rfl
theorem late_head {f:MacS} {l:List RequestD} {a t:Nat} (ha:a≤l.length) (ht:t<l.length):((plaF f l (headB f l a) (l.length+1)).any fun p=>decide (p≥(t:Int)+1))=okJ f l a t (l.length+1):=by
  rw [any_pla]
  unfold okJ
  have e:(a:Int).toNat=a:=rfl
  rw [e]
  by_cases h:(a:Int)>t
  · rw [decide_eq_true h,Bool.true_or,List.any_eq_true]
    refine⟨a,List.mem_range.2 (by omega),?_⟩
    rw [pla_head,decide_eq_true (by omega:(a:Int)≤l.length),decide_eq_true (by omega:(a:Int)≥(t:Int)+1)]
    simp
  · rw [decide_eq_false h,Bool.false_or]
    rw [Bool.eq_iff_iff,List.any_eq_true,List.any_eq_true]
    constructor
    · rintro ⟨p,hp,hq⟩
      refine⟨p,hp,?_⟩
      rw [pla_head] at hq
      simp only [Bool.and_eq_true,decide_eq_true_eq] at hq ⊢
      exact⟨by omega,hq.1.2⟩
    · rintro ⟨p,hp,hq⟩
      refine⟨p,hp,?_⟩
      have hp':=List.mem_range.1 hp
      rw [pla_head]
      simp only [Bool.and_eq_true,decide_eq_true_eq] at hq ⊢
      exact⟨⟨by omega,hq.2⟩,by omega⟩
theorem any_head {f:MacS} {l:List RequestD} {a:Nat} (ha:a≤l.length):((plaF f l (headB f l a) (l.length+1)).any fun p=>decide (p≥(0:Int)))=true:=by
  rw [any_pla,List.any_eq_true]
  refine⟨a,List.mem_range.2 (by omega),?_⟩
  rw [pla_head,decide_eq_true (by omega:(a:Int)≤l.length),decide_eq_true (by omega:(a:Int)≥0)]
  simp
theorem okJ_suc (f:MacS) (l:List RequestD) (a t:Int) (i:Nat) (h:t<i):okJ f l a t (i+1)=(okJ f l a t i||(cLen f l i==cLen f l a.toNat)):=by
  unfold okJ
  have e:([i].any fun p:Nat=>decide (t<(p:Int))&&(cLen f l p==cLen f l a.toNat))=(cLen f l i==cLen f l a.toNat):=by
    show ((decide (t<(i:Int))&&(cLen f l i==cLen f l a.toNat))||false)=_
    rw [decide_eq_true h];simp
  rw [List.range_succ,List.any_append,e,Bool.or_assoc]
theorem okJ_zero (f:MacS) (l:List RequestD) (a:Int) (t:Nat):okJ f l a t (t+1)=decide (a>t):=by
  unfold okJ
  have:((List.range (t+1)).any fun p=>decide ((t:Int)<p)&&(cLen f l p==cLen f l a.toNat))=false:=by
    rw [List.any_eq_false]
    intro p hp
    have:=List.mem_range.1 hp
    rw [decide_eq_false (by omega:¬((t:Int)<p))]
    simp
  rw [this,Bool.or_false]
theorem logged_pair (a b:DeedD) (s t:Int) (hb:logD b=false) (h0:0≤s) (hr:s<a.row):loggedD [a,b] [s,t] = -1:=by
  refine firstN_no fun j hj=>?_
  have hj:j<2:=hj
  have c00:condD [a,b] [s,t] 0 0=false:=rfl
  have c01:condD [a,b] [s,t] 0 1=false:=by
    show (true&&(logD b&&_))=false
    rw [hb];rfl
  rcases (by omega:j=0∨j=1) with rfl | rfl
  · show (logD a&&(decide (s<0)||(decide (s≥a.row)||(condD [a,b] [s,t] 0 0||(condD [a,b] [s,t] 0 1||false)))))=false
    rw [c00,c01,decide_eq_false (by omega:¬s<0),decide_eq_false (by omega:¬s≥a.row)];simp
  · show (logD b&&_)=false
    rw [hb];rfl
theorem cut_in3 {n:Nat} (k:Int) (h1:n≤100):∃a:Nat,a≤n∧Int.tmod (IntKind.wrap IntKind.i64 (IntKind.wrap IntKind.i64 (Int.tmod k (IntKind.wrap IntKind.i64 ((n:Int)+1))+n)+1)) (IntKind.wrap IntKind.i64 ((n:Int)+1))=(a:Int):=by
  rw [wrap_id (n:=(n:Int)+1) (by omega) (by omega)]
  have b1:Int.tmod k ((n:Int)+1)<(n:Int)+1:=Int.tmod_lt_of_pos k (by omega)
  have b0:-((n:Int)+1)<Int.tmod k ((n:Int)+1):=Int.lt_tmod_of_pos k (by omega)
  rw [wrap_id (n:=Int.tmod k ((n:Int)+1)+n) (by omega) (by omega),wrap_id (n:=Int.tmod k ((n:Int)+1)+n+1) (by omega) (by omega)]
  have c0:0≤Int.tmod (Int.tmod k ((n:Int)+1)+n+1) ((n:Int)+1):=Int.tmod_nonneg _ (by omega)
  have c1:Int.tmod (Int.tmod k ((n:Int)+1)+n+1) ((n:Int)+1)<(n:Int)+1:=Int.tmod_lt_of_pos _ (by omega)
  exact⟨(Int.tmod (Int.tmod k ((n:Int)+1)+n+1) ((n:Int)+1)).toNat,by omega,by omega⟩
theorem jdl_ok:EnvOK jdlE:=Env_ok (by decide +kernel) (by
  intro p hp
  simp only [List.mem_cons,List.mem_nil_iff,or_false] at hp
  rcases hp with rfl | rfl | rfl | rfl | rfl | rfl | rfl | rfl
  · exact jaw_ok
  · exact mroom_ok
  · exact rrun1_ok
  · exact rfir_ok
  · exact rpeek_ok
  · exact rapp_ok
  · exact altSpec_ok loca_ok locb_ok
  · exact jlg_ok)
theorem slot_told {l:List RequestD} {w:List VerdictD} {t:Nat} {n:Int} (ht:t<l.length) (hw:w.length=l.length) (hF:idxR (l.getD t RequestD.dflt) l=(t:Int)):slotD l w ⟨0,false,l.getD t RequestD.dflt,w.getD t ⟨0,0,0,[],0,[],0⟩,1,5,n⟩=(t:Int):=by
  show firstN (hitD l w ⟨0,false,l.getD t RequestD.dflt,w.getD t ⟨0,0,0,[],0,[],0⟩,1,5,n⟩) w.length=_
  refine firstN_at (by omega) ?_ fun k hk=>?_
  · show (eqR _ _&&eqV _ _)=true
    rw [eqR_self,eqV_self];rfl
  · show (eqR (l.getD k RequestD.dflt) (l.getD t RequestD.dflt)&&eqV _ _)=false
    rcases idxR_spec (l.getD t RequestD.dflt) l with ⟨q,_⟩ | ⟨m,_,q,_,q4⟩
    · omega
    · rw [q4 k (by omega)];rfl
set_option maxHeartbeats 0 in
theorem jdl_body (x:JdlA) (hl:∀r,r∈x.l→inI r.from_=true):evCall jdlE (ev jdlE 1000) 11 (jdlArgs x) ⟨[],0,[]⟩ (fun _ _=>False) (fun v _=>TrueV v):=by
  rw [jdl_vc]
  delta jdlQ32 jdlQ31 jdlQ30 jdlQ29 jdlQ28 jdlQ27 jdlQ26 jdlQ25 jdlQ24 jdlQ23 jdlQ22 jdlQ21 jdlQ20 jdlQ19 jdlQ18 jdlQ17 jdlQ16 jdlQ15 jdlQ14 jdlQ13 jdlQ12 jdlQ11 jdlQ10 jdlQ9 jdlQ8 jdlQ7 jdlQ6 jdlQ5 jdlQ4 jdlQ3 jdlQ2 jdlQ1 EqN EqR EqQ EqR6 EqT
  obtain⟨l,A,T⟩:=x
  dsimp only at *
  refine⟨(),trivial,fun _ _=>⟨⟨l,50⟩,rfl,rfl,trivial,fun _ _=>br_i (fun _=>rfl) fun hr _=>br_i (fun _=>rfl) fun hn _=>?_⟩⟩
  rw [Bool.not_eq_false'] at hr
  have hL:okL l=true:=room_okL hr (by show (50:Int)≤4000;omega) hl
  obtain⟨l50,_⟩:=roomM_of hr
  have l50:(l.length:Int)≤50:=l50
  have hn:¬(l.length:Int)=0:=fun e=>by rw [e] at hn;cases hn
  have hcf:okCf 2 3 [0,1,2]=true:=by decide
  have hin:∀i,(∃n,n≤l.length∧MDs 2 3 n (runF fresh0 (l.take i)))∧shortM (runF fresh0 (l.take i)).C=true:=fun i=>runZ_in hcf hL i
  obtain⟨t,ht,hT⟩:=cut_in (n:=l.length) T (by omega) (by omega)
  obtain⟨a,ha,hA⟩:=cut_in3 (n:=l.length) A (by omega)
  rw [hT,hA]
  have hw1:IntKind.i64.wrap ((t:Int)+1)=((t+1:Nat):Int):=by rw [wrap_id (by omega) (by omega)];rfl
  rw [hw1]
  have e0:(t:Int).toNat=t:=rfl
  rw [e0]
  have n1z:(IntKind.wrap IntKind.i64 ((l.length:Int)+1) != (0:Int))=true:=by
    rw [wrap_id (by omega) (by omega)]
    exact bne_iff_ne.2 (by omega)
  have nz:((l.length:Int) != (0:Int))=true:=bne_iff_ne.2 hn
  have bt:decide ((0:Int)≤(t:Int)∧(t:Int)<(l.length:Int))=true:=decide_eq_true ⟨by omega,by omega⟩
  have hLt:∀i,okL (l.take i)=true:=fun i=>by
    obtain⟨h1,h2⟩:=okL_of hL
    unfold okL
    rw [decide_eq_true (by rw [List.length_take];omega:(l.take i).length≤4000),List.all_eq_true.2 fun r hr=>by
      obtain⟨p,q⟩:=h2 r (List.mem_of_mem_take hr)
      rw [p,q];rfl];rfl
  have hwl:(verdF (RunA.f ⟨cf0,l⟩) l).length=l.length:=verd_len _ _
  have bw:decide ((0:Int)≤(t:Int)∧(t:Int)<((verdF (RunA.f ⟨cf0,l⟩) l).length:Int))=true:=by
    rw [hwl];exact bt
  have bba:bndB l.length none (some (a:Int)) none=true:=by
    simp [bndB];omega
  have bbt:bndB l.length none (some ((t+1:Nat):Int)) none=true:=by
    simp [bndB];omega
  obtain⟨⟨nY,hnY,hY⟩,hSY⟩:=hin a
  have okY:okRm (runF fresh0 (l.take a)) headR=true:=hY.ok.okr (by omega) hSY rfl rfl
  refine br_t n1z (br_t n1z (br_t nz (br_t nz ⟨⟨cf0,l⟩,Nat.le_refl 3,rfl,rfl,rfl,rfl,rfl,rfl,rfl,rfl,rfl,rfl,cf0_ok hL,fun _ _=>br_t bt (br_i (fun _=>rfl) fun hk=>br_t bt ⟨⟨l,l.getD t RequestD.dflt⟩,rfl,rfl,rfl,rfl,rfl,rfl,rfl,rfl,rfl,rfl,rfl,rfl,trivial,fun _ _=>br_i (fun _=>rfl) fun hF=>br_t bba ⟨⟨cf0,l.take a⟩,Nat.le_refl 3,rfl,rfl,rfl,rfl,rfl,rfl,rfl,rfl,rfl,rfl,cf0_ok (hLt a),fun _ _=>br_t bt (br_t bw ⟨⟨runF fresh0 (l.take a),headR⟩,rfl,rfl,rfl,rfl,rfl,rfl,rfl,rfl,rfl,rfl,rfl,rfl,rfl,rfl,rfl,rfl,rfl,rfl,rfl,rfl,rfl,rfl,rfl,rfl,rfl,rfl,rfl,rfl,rfl,okY,fun _ _=>br_t bbt ⟨⟨cf0,l.take (t+1)⟩,Nat.le_refl 3,rfl,rfl,rfl,rfl,rfl,rfl,rfl,rfl,rfl,rfl,cf0_ok (hLt (t+1)),fun _ _=>?_⟩⟩)⟩⟩)⟩)))
  have hF:idxR (l.getD t RequestD.dflt) l=(t:Int):=by
    have hF:(idxR (l.getD t RequestD.dflt) l != (t:Int))=false:=hF
    exact bne_eq_false_iff_eq.1 hF
  refine⟨⟨t+1,rfl,(okJ_zero fresh0 l a t).symm,rfl,rfl,rfl,rfl,rfl,rfl,rfl,rfl,rfl,rfl,rfl,rfl,rfl,rfl,rfl,rfl,rfl,rfl,Nat.le_refl _,by omega⟩,fun i hi=>br_i (fun h1=>?_) (fun h1=>?_)⟩
  · have h1:(i:Int)≤(l.length:Int):=of_decide_eq_true h1
    obtain⟨i1,i2⟩:=hi
    have e1:(i:Int).toNat=i:=rfl
    rw [e1]
    have eg:l.getD i RequestD.dflt=l.getD i noR0:=rfl
    rw [eg]
    have hw:IntKind.i64.wrap ((i:Int)+1)=((i+1:Nat):Int):=by rw [wrap_id (by omega) (by omega)];rfl
    have hle1:t+1≤i+1:=by omega
    have hle2:i+1≤l.length+1:=by omega
    have hms:(l.length+1).sub (i+1)<(l.length+1).sub i:=by show l.length+1-(i+1)<l.length+1-i;omega
    have hsuc:=okJ_suc fresh0 l a t i (by omega)
    refine br_i (fun o=>br_i (fun g=>?_) (fun g=>?_)) (fun o _ _=>br_i (fun g=>?_) (fun g=>?_))
    · have g:=of_decide_eq_true g
      have hgo:=run_at (x:=fresh0) (l:=l) (i:=i) (by omega)
      obtain⟨⟨n0,hn0,hG⟩,hS⟩:=hin i
      obtain⟨okr,okf⟩:=(okL_of hL).2 (l.getD i noR0) (getD_mem (by omega))
      have okR:=hG.ok.okr (by omega) hS okr okf
      refine br_t (decide_eq_true ⟨by omega,g⟩) ⟨⟨runF fresh0 (l.take i),l.getD i noR0⟩,rfl,rfl,rfl,rfl,rfl,rfl,rfl,rfl,rfl,rfl,rfl,rfl,rfl,rfl,rfl,rfl,rfl,rfl,rfl,rfl,rfl,rfl,rfl,rfl,rfl,rfl,rfl,rfl,rfl,okR,fun _ _=>⟨i+1,hw,by rw [hsuc,o];rfl,?_⟩⟩
      rw [hgo]
      exact (by repeat' (first | exact hle1 | exact hle2 | exact hms | refine And.intro ?_ ?_ | rfl))
    · have g:=of_decide_eq_false g
      refine⟨i+1,hw,by rw [hsuc,o];rfl,?_⟩
      rw [show runF fresh0 (l.take (i+1))=runF fresh0 (l.take i) by rw [List.take_of_length_le (by omega),List.take_of_length_le (by omega)]]
      exact (by repeat' (first | exact hle1 | exact hle2 | exact hms | refine And.intro ?_ ?_ | rfl))
    · have g:=of_decide_eq_true g
      have hgo:=run_at (x:=fresh0) (l:=l) (i:=i) (by omega)
      obtain⟨⟨n0,hn0,hG⟩,hS⟩:=hin i
      obtain⟨okr,okf⟩:=(okL_of hL).2 (l.getD i noR0) (getD_mem (by omega))
      have okR:=hG.ok.okr (by omega) hS okr okf
      refine br_t (decide_eq_true ⟨by omega,g⟩) ⟨⟨runF fresh0 (l.take i),l.getD i noR0⟩,rfl,rfl,rfl,rfl,rfl,rfl,rfl,rfl,rfl,rfl,rfl,rfl,rfl,rfl,rfl,rfl,rfl,rfl,rfl,rfl,rfl,rfl,rfl,rfl,rfl,rfl,rfl,rfl,rfl,okR,fun _ _=>⟨i+1,hw,by rw [hsuc,o];rfl,?_⟩⟩
      rw [hgo]
      exact (by repeat' (first | exact hle1 | exact hle2 | exact hms | refine And.intro ?_ ?_ | rfl))
    · have g:=of_decide_eq_false g
      refine⟨i+1,hw,by rw [hsuc,o];rfl,?_⟩
      rw [show runF fresh0 (l.take (i+1))=runF fresh0 (l.take i) by rw [List.take_of_length_le (by omega),List.take_of_length_le (by omega)]]
      exact (by repeat' (first | exact hle1 | exact hle2 | exact hms | refine And.intro ?_ ?_ | rfl))
  · have h1:¬(i:Int)≤(l.length:Int):=of_decide_eq_false h1
    obtain⟨i1,i2⟩:=hi
    have:i=l.length+1:=by omega
    subst this
    have hv:runV cf0 l=verdF (RunA.f ⟨cf0,l⟩) l:=runV_ok l (by decide)
    have hs:slotD l (runV cf0 l) ⟨0,false,l.getD t RequestD.dflt,(verdF (RunA.f ⟨cf0,l⟩) l).getD t ⟨0,0,0,[],0,[],0⟩,1,5,l.length⟩=(t:Int):=by
      rw [hv];exact slot_told ht hwl hF
    have hP:locP 7 9 ⟨cf0,l,l.getD t RequestD.dflt,(verdF (RunA.f ⟨cf0,l⟩) l).getD t ⟨0,0,0,[],0,[],0⟩,((runF fresh0 (l.take a)).C.length:Int),l.length⟩=plaF fresh0 l (headB fresh0 l a) (l.length+1):=rfl
    have hS:locS 1 5 ⟨cf0,l,l.getD t RequestD.dflt,(verdF (RunA.f ⟨cf0,l⟩) l).getD t ⟨0,0,0,[],0,[],0⟩,((runF fresh0 (l.take a)).C.length:Int),l.length⟩=(t:Int):=hs
    have hok:LocA.ok ⟨cf0,l,l.getD t RequestD.dflt,(verdF (RunA.f ⟨cf0,l⟩) l).getD t ⟨0,0,0,[],0,[],0⟩,((runF fresh0 (l.take a)).C.length:Int),l.length⟩=true:=by
      show (okCf 2 3 [0,1,2]&&okL l)=true
      rw [hcf,hL];rfl
    have hA1:locR 1 5 7 9 true ⟨cf0,l,l.getD t RequestD.dflt,(verdF (RunA.f ⟨cf0,l⟩) l).getD t ⟨0,0,0,[],0,[],0⟩,((runF fresh0 (l.take a)).C.length:Int),l.length⟩=bif okJ fresh0 l a t (l.length+1) then -1 else 1:=by
      unfold locR
      rw [hP,hS]
      show (bif (plaF fresh0 l (headB fresh0 l a) (l.length+1)).any (fun p=>decide (p≥max 0 ((t:Int)+1))) then (-1:Int) else 1)=_
      rw [show max 0 ((t:Int)+1)=(t:Int)+1 by omega,late_head ha (by omega)]
    have hB1:locR 1 5 7 9 false ⟨cf0,l,l.getD t RequestD.dflt,(verdF (RunA.f ⟨cf0,l⟩) l).getD t ⟨0,0,0,[],0,[],0⟩,((runF fresh0 (l.take a)).C.length:Int),l.length⟩ = -1:=by
      unfold locR
      rw [hP]
      show (bif (plaF fresh0 l (headB fresh0 l a) (l.length+1)).any (fun p=>decide (p≥(0:Int))) then (-1:Int) else 1)=_
      rw [any_head ha];rfl
    have hlog:loggedD [⟨0,false,l.getD t RequestD.dflt,(verdF (RunA.f ⟨cf0,l⟩) l).getD t ⟨0,0,0,[],0,[],0⟩,1,5,l.length⟩,headB fresh0 l a] (slotsD l (runV cf0 l) [⟨0,false,l.getD t RequestD.dflt,(verdF (RunA.f ⟨cf0,l⟩) l).getD t ⟨0,0,0,[],0,[],0⟩,1,5,l.length⟩,headB fresh0 l a]) = -1:=by
      show loggedD [⟨0,false,l.getD t RequestD.dflt,(verdF (RunA.f ⟨cf0,l⟩) l).getD t ⟨0,0,0,[],0,[],0⟩,1,5,l.length⟩,headB fresh0 l a] [slotD l (runV cf0 l) ⟨0,false,l.getD t RequestD.dflt,(verdF (RunA.f ⟨cf0,l⟩) l).getD t ⟨0,0,0,[],0,[],0⟩,1,5,l.length⟩,slotD l (runV cf0 l) (headB fresh0 l a)] = -1
      rw [hs]
      exact logged_pair _ _ _ _ rfl (by omega) (by show (t:Int)<(l.length:Int);omega)
    refine .inl ⟨⟨cf0,l,l.getD t RequestD.dflt,(verdF (RunA.f ⟨cf0,l⟩) l).getD t ⟨0,0,0,[],0,[],0⟩,((runF fresh0 (l.take a)).C.length:Int),l.length⟩,Nat.le_refl 3,rfl,rfl,rfl,rfl,rfl,rfl,rfl,rfl,rfl,rfl,Nat.le_refl 2,rfl,rfl,hok,fun _ _=>⟨⟨cf0,l,[⟨0,false,l.getD t RequestD.dflt,(verdF (RunA.f ⟨cf0,l⟩) l).getD t ⟨0,0,0,[],0,[],0⟩,1,5,l.length⟩,headB fresh0 l a]⟩,Nat.le_refl 3,rfl,rfl,rfl,rfl,rfl,rfl,rfl,rfl,rfl,rfl,Nat.le_refl 2,rfl,hL,fun _ _=>br_t (beq_iff_eq.2 hlog) (.inr ⟨⟨cf0,l,l.getD t RequestD.dflt,(verdF (RunA.f ⟨cf0,l⟩) l).getD t ⟨0,0,0,[],0,[],0⟩,((runF fresh0 (l.take a)).C.length:Int),l.length⟩,Nat.le_refl 3,rfl,rfl,rfl,rfl,rfl,rfl,rfl,rfl,rfl,rfl,Nat.le_refl 2,rfl,rfl,hok,fun _ _=>br_t (beq_iff_eq.2 hB1) ?_⟩)⟩⟩
    rw [hA1]
    cases okJ fresh0 l a t (l.length+1)
    · exact br_t rfl rfl
    · exact br_t rfl rfl
theorem jkn_ok:EnvOK jknE:=Env_ok (by decide +kernel) (by
  intro p hp
  simp only [List.mem_cons,List.mem_nil_iff,or_false] at hp
  rcases hp with rfl | rfl | rfl | rfl | rfl
  · exact jaw_ok
  · exact altSpec_ok locc_ok locd_ok
  · exact jlg_ok
  · exact jsl_ok
  · exact sint_ok)
set_option maxHeartbeats 0 in
theorem jkn_body (x:Unit):evCall jknE (ev jknE 1000) 9 (jknArgs x) ⟨[],0,[]⟩ (fun _ _=>False) (fun v _=>TrueV v):=by
  rw [jkn_vc]
  delta jknQ12 jknQ11 jknQ10 jknQ9 jknQ8 jknQ7 jknQ6 jknQ5 jknQ4 jknQ3 jknQ2 jknQ1
  exact⟨(),trivial,fun _ _=>.inl ⟨⟨cf0,_,_,_,0,3⟩,Nat.le_refl 3,rfl,rfl,rfl,rfl,rfl,rfl,rfl,rfl,rfl,Nat.le_refl 3,rfl,Nat.le_refl 2,rfl,rfl,by decide +kernel,fun _ _=>br_t (by decide +kernel) (.inr ⟨⟨cf0,_,_,_,0,3⟩,Nat.le_refl 3,rfl,rfl,rfl,rfl,rfl,rfl,rfl,rfl,rfl,Nat.le_refl 3,rfl,Nat.le_refl 2,rfl,rfl,by decide +kernel,fun _ _=>br_t (by decide +kernel) ⟨⟨cf0,_,_⟩,Nat.le_refl 3,rfl,rfl,rfl,rfl,rfl,rfl,rfl,rfl,rfl,Nat.le_refl 3,rfl,Nat.le_refl 2,rfl,by decide +kernel,fun _ _=>br_t (by decide +kernel) ⟨⟨cf0,_,_⟩,Nat.le_refl 3,rfl,rfl,rfl,rfl,rfl,rfl,rfl,rfl,rfl,Nat.le_refl 3,rfl,Nat.le_refl 2,rfl,by decide +kernel,fun _ _=>⟨[1,-1],by decide +kernel,Nat.le_refl 2,rfl,trivial,fun _ _=>rfl⟩⟩⟩⟩)⟩⟩
end Go.Proofs.YtgepebndihfnfaaGreat.Ses
