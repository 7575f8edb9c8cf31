/- A map's keys, sorted; the refs and the log of a graph: what the evaluator leaves of each, and that it holds. No condition. -/
import Derived.Test.YtgepebndihfnfaaGreatJGrlC
import Derived.Shelf.SlIter.Nil
import Derived.Shelf.SortM.Plain
import Derived.Shelf.SortM.SortNone
import Derived.KernelRfl
set_option linter.unusedSimpArgs false
set_option linter.unusedVariables false

namespace Go.Proofs.YtgepebndihfnfaaGreat.Ses
open Go Go.Proofs Go.Proofs.YtgepebndihfnfaaGreat.Sx Go.Proofs.YtgepebndihfnfaaGreat.Trx
open Go.Shelf
end Go.Proofs.YtgepebndihfnfaaGreat.Ses

namespace Go.Proofs.YtgepebndihfnfaaGreat.Sx
open Go
end Go.Proofs.YtgepebndihfnfaaGreat.Sx
namespace Go.Proofs.YtgepebndihfnfaaGreat.Ses
open Go Go.Proofs Go.Proofs.YtgepebndihfnfaaGreat.Sx Go.Proofs.YtgepebndihfnfaaGreat.Trx Go.Shelf Go.Maps
open Go Go.Proofs Go.Proofs.YtgepebndihfnfaaGreat.Sx Go.Proofs.YtgepebndihfnfaaGreat.Trx
def refK (K:List (Bs × Int)) (n:Bs):RefD:=⟨n,(lookK K n).getD 0⟩
def namesK (K:List (Bs × Int)):List Bs:=(K.map (·.1)).mergeSort leB
def refsC (C:List CommitD):List RefD:=(namesK (kvC C)).map (refK (kvC C))
structure LogA where
  C:List CommitD
  frm:Int
  many:Int
def logC (x:LogA):List CommitD:=(x.C.drop (x.frm-1).toNat).take (min x.many 32).toNat
def logV (x:LogA):VerdictD:=bif decide (x.frm<1)||decide (x.many<1) then ⟨5,0,0,[],0,[],0⟩ else ⟨11,0,0,[],0,logC x,0⟩
def inI (n:Int):Bool:=decide (n≤9223372036854775807)
noncomputable def logT:Tri:={γ:=LogA,n0:=3,args:=fun x=>[.mptr 0 0,.int .i64 x.frm,.int .i64 x.many],blks:=fun x=>gB x.C 1,pre:=fun x=>fewG x.C=true∧inI x.frm=true,δ:=Unit,post:=fun _ _=>True,n1:=0,res:=fun x _=>.agg (logV x).enc,blks':=fun x _=>gB x.C 1,scal:=false}
set_option maxRecDepth 100000
abbrev logQ1 (x:logT.γ):=EqG (LogA.C x) (LogA.C x) True
abbrev logQ2 (x:logT.γ):=∃x1:Unit,EqV7 (5:Int) (0:Int) (0:Int) ([]:List UInt8) (0:Int) ([]:List CommitD) (0:Int) (logV x) (logQ1 x)
abbrev logQ3 (x:logT.γ):=Option.some (mmI true (IntKind.wrap IntKind.i64 (LogA.frm x-(1:Int))) (↑(LogA.C x).length:Int))
abbrev logQ4 (x:logT.γ):=cutN (LogA.C x).length (logQ3 x) (none:Option Int)
abbrev logQ5 (x:logT.γ):=Option.some (mmI true (mmI true (↑(logQ4 x):Int) (LogA.many x)) (32:Int))
abbrev logQ6 (x:logT.γ):=cutN (logQ4 x) (none:Option Int) (logQ5 x)
abbrev logQ7 (x:logT.γ):=List.take (logQ6 x) (List.drop (addN (addN 0 (logQ3 x)) (none:Option Int)) (LogA.C x))
abbrev logQ8 (x:logT.γ):=@HAppend.hAppend (List CommitD) (List CommitD) (List CommitD) _ (List.take 0 (List.drop 0 ([]:List CommitD))) (logQ7 x)
abbrev logQ9 (x8:Nat) (x:logT.γ):=decide ((0:Int)≤(↑x8:Int)∧
(↑x8:Int)<(↑(0+(logQ7 x).length):Int))
abbrev logQ10 (x8:Nat) (x:logT.γ):=decide (0+(↑x8:Int).toNat<(logQ8 x).length)
abbrev logQ11 (x:logT.γ) (x8:Nat):=List.getD (logQ8 x) (0+(↑x8:Int).toNat) (CommitD.mk (0:Int) (0:Int) ([]:List UInt8) ([]:List ChangeD))
abbrev logQ12 (x8:Nat) (x10:Nat):=IntKind.wrap IntKind.i64 ((↑x8:Int)+(1:Int))=(↑x10:Int)
abbrev logQ13 (x10:Nat) (x:logT.γ) (x8:Nat):=Nat.le x10 (0+(logQ7 x).length)∧
Nat.sub (0+(logQ7 x).length) x10<Nat.sub (0+(logQ7 x).length) x8
abbrev logQ14 (x:logT.γ) (x8:Nat):=@HAppend.hAppend (List ChangeD) (List ChangeD) (List ChangeD) _ (List.take 0 (List.drop 0 ([]:List ChangeD))) (logQ11 x x8).changes
theorem log_vc (x:logT.γ):evCall commitsE (ev commitsE 1000) 215 (logT.args x) ⟨logT.blks x,logT.n0,[]⟩ (fun _ _=>False) (logT.ends x)=(
br (decide (LogA.frm x<(1:Int))) (logQ2 x) (br (decide (LogA.many x<(1:Int))) (logQ2 x) ((LogA.C x).length*56≤room47→
br (bndB (LogA.C x).length (logQ3 x) (none:Option Int) (none:Option Int)) (logQ4 x*56≤room47→
br (bndB (logQ4 x) (none:Option Int) (logQ5 x) (none:Option Int)) (∀x3:Bool,(x3=true→
logQ6 x=0)→
br x3 ((∃x4:Unit,(0:Int)=(0:Int)∧
True)∧
∀x5:Unit,True→
∃x6:Unit,EqV7 (11:Int) (0:Int) (0:Int) ([]:List UInt8) (0:Int) ([]:List CommitD) (0:Int) (logV x) (logQ1 x)) (Nat.le (0*56) room47∧
Nat.le (logQ6 x*56) room47→
br (Bool.and (Bool.and (decide (addN (addN 0 (logQ3 x)) (none:Option Int)+logQ6 x≤(LogA.C x).length)) (decide (0+0≤([]:List CommitD).length))) (decide ((0+(logQ7 x).length)*56≤room47))) ((0+(logQ7 x).length)*56≤room47→
(∃x7:Nat,(0:Int)=(↑x7:Int)∧
logQ8 x=logQ8 x∧
Nat.le x7 (0+(logQ7 x).length))∧
∀x8:Nat,Nat.le x8 (0+(logQ7 x).length)→
br (decide ((↑x8:Int)<(↑(0+(logQ7 x).length):Int))) (br (logQ9 x8 x) (br (logQ10 x8 x) (∀x9:Bool,(x9=true→
(logQ11 x x8).changes=([]:List ChangeD))→
br x9 (br (logQ9 x8 x) (br (Bool.and true (logQ10 x8 x)) (∃x10:Nat,logQ12 x8 x10∧
List.set (logQ8 x) (0+(↑x8:Int).toNat) (CommitD.mk (logQ11 x x8).rev (logQ11 x x8).base (logQ11 x x8).ref ([]:List ChangeD))=logQ8 x∧
logQ13 x10 x x8) (Bad "check" "graph.go:105")) (Bad "check" "graph.go:105")) (Nat.le (0*32) room47∧
Nat.le ((logQ11 x x8).changes.length*32) room47→
br (Bool.and (Bool.and true (decide (0+0≤([]:List ChangeD).length))) (decide ((0+(logQ11 x x8).changes.length)*32≤room47))) (br (logQ9 x8 x) (br (Bool.and (Bool.and (decide (0+(0+(logQ11 x x8).changes.length)≤(logQ14 x x8).length)) true) (logQ10 x8 x)) (∃x11:Nat,logQ12 x8 x11∧
List.set (logQ8 x) (0+(↑x8:Int).toNat) (CommitD.mk (logQ11 x x8).rev (logQ11 x x8).base (logQ11 x x8).ref (List.take (0+(logQ11 x x8).changes.length) (List.drop 0 (logQ14 x x8))))=logQ8 x∧
logQ13 x11 x x8) (Bad "check" "graph.go:105")) (Bad "check" "graph.go:105")) (Bad "check" "slices.go:362"))) (Bad "check" "graph.go:105")) (Bad "check" "graph.go:105")) (∃x12:Unit,(11:Int)=(logV x).code∧
(0:Int)=(logV x).session∧
(0:Int)=(logV x).rev∧
([]:List UInt8)=(logV x).path∧
(0:Int)=(logV x).digest∧
0+(0+(logQ7 x).length)≤(logQ8 x).length∧
List.take (0+(logQ7 x).length) (List.drop 0 (logQ8 x))=(logV x).commits∧
(0:Int)=(logV x).member∧
logQ1 x)) (Bad "check" "slices.go:362"))) (Bad "check" "graph.go:119")) (Bad "check" "graph.go:118")))):=by kernel_rfl
theorem putK_len:∀(K:List (Bs × Int)) s v,(putK K s v).length≤K.length+1
  | [],s,v=>by simp [putK]
  | (k,x)::r,s,v=>by
    unfold putK
    cases (k==s)
    · simp only [cond_false,List.length_cons]
      have:=putK_len r s v
      omega
    · simp
theorem kvC_snoc (C:List CommitD) (c:CommitD):kvC (C++[c])=bif c.ref==[] then kvC C else putK (kvC C) c.ref c.rev:=by simp [kvC]
theorem kvC_len (C:List CommitD):(kvC C).length≤C.length:=by
  refine snocL (p:=fun C=>(kvC C).length≤C.length) (by simp [kvC]) (fun C c ih=>?_) C
  rw [kvC_snoc]
  have:=putK_len (kvC C) c.ref c.rev
  cases (c.ref==[])
  · simp;omega
  · simp;omega
theorem mmI_min (a b:Int):mmI true a b=min a b:=by
  unfold mmI
  simp only [cond_true]
  split<;>omega
theorem log_ok:SpecOK Tryz.prog 215 logT.spec:=by
  refine Tri.ok (E:=commitsE) (Env_ok (by decide +kernel) (by simp)) (n:=1000) logT fun x hx=>?_
  rw [log_vc]
  delta logQ14 logQ13 logQ12 logQ11 logQ10 logQ9 logQ8 logQ7 logQ6 logQ5 logQ4 logQ3 logQ2 logQ1 EqG EqV7
  revert hx
  revert x
  intro (x:LogA) ⟨hx,hf⟩
  have hf:x.frm≤9223372036854775807:=of_decide_eq_true hf
  obtain⟨f1,f2,_⟩:=fewG_of hx
  have rm:∀n b,n≤4000→b≤60→decide (n*b≤room47)=true:=fun n b hn hb=>by
    have:4000*60≤room47:=by decide
    exact decide_eq_true (Nat.le_trans (Nat.mul_le_mul hn hb) this)
  have hbad:∀h:x.frm<1∨x.many<1,logV x=⟨5,0,0,[],0,[],0⟩:=fun h=>by
    unfold logV
    have:(decide (x.frm<1)||decide (x.many<1))=true:=by simpa using h
    rw [this];rfl
  refine br_i (fun h=>?_) (fun h1=>br_i (fun h=>?_) (fun h2=>?_))
  · rw [hbad (.inl (of_decide_eq_true h))]
    exact⟨(),rfl,rfl,rfl,rfl,rfl,rfl,rfl,rfl,rfl,rfl,rfl,rfl,trivial⟩
  · rw [hbad (.inr (of_decide_eq_true h))]
    exact⟨(),rfl,rfl,rfl,rfl,rfl,rfl,rfl,rfl,rfl,rfl,rfl,rfl,trivial⟩
  · have h1:=of_decide_eq_false h1
    have h2:=of_decide_eq_false h2
    have hv:logV x=⟨11,0,0,[],0,logC x,0⟩:=by
      unfold logV
      rw [decide_eq_false h1,decide_eq_false h2];rfl
    rw [hv,wrap_id (n:=x.frm-1) (by omega) (by omega),mmI_min,mmI_min,mmI_min]
    obtain⟨F,hF⟩:∃F:Nat,min (x.frm-1) (x.C.length:Int)=F:=⟨(min (x.frm-1) (x.C.length:Int)).toNat,by omega⟩
    rw [hF]
    have hFl:F≤x.C.length:=by omega
    have e3:cutN x.C.length (some (F:Int)) none=x.C.length-F:=by simp [cutN]
    rw [e3]
    obtain⟨M,hM⟩:∃M:Nat,min (min ((x.C.length-F:Nat):Int) x.many) 32=M:=⟨(min (min ((x.C.length-F:Nat):Int) x.many) 32).toNat,by omega⟩
    rw [hM]
    have hMl:M≤x.C.length-F:=by omega
    have e4:cutN (x.C.length-F) none (some (M:Int))=M:=by simp [cutN]
    have e5:addN (addN 0 (some (F:Int))) none=F:=by simp [addN]
    rw [e4,e5]
    have hL:logC x=List.take M (List.drop F x.C):=by
      unfold logC
      by_cases hc:x.frm-1≤x.C.length
      · have:(x.frm-1).toNat=F:=by omega
        rw [this]
        have hd:(List.drop F x.C).length=x.C.length-F:=by simp
        by_cases hk:(min x.many 32).toNat≤x.C.length-F
        · have:(min x.many 32).toNat=M:=by omega
          rw [this]
        · rw [List.take_of_length_le (by omega),List.take_of_length_le (by omega)]
      · rw [List.drop_of_length_le (by omega),List.drop_of_length_le (l:=x.C) (i:=F) (by omega)]
        simp
    rw [hL]
    generalize hl:List.take M (List.drop F x.C)=l
    have hll:l.length=M:=by rw [←hl];simp;omega
    have hlm:∀c,c∈l→c.changes.length≤16:=fun c hc=>f2 c (by rw [←hl] at hc;exact List.mem_of_mem_drop (List.mem_of_mem_take hc))
    have e0:(List.take 0 (List.drop 0 ([]:List CommitD))++l)=l:=by simp
    have e1:(0+l.length)=l.length:=by simp
    rw [e0,e1]
    refine fun _=>br_t ?_ fun _=>br_t ?_ fun b hb=>?_
    · show bndB x.C.length (some (F:Int)) none none=true
      simp [bndB];omega
    · simp [bndB];omega
    refine br_i (fun h=>⟨⟨(),rfl,trivial⟩,fun _ _=>⟨(),rfl,rfl,rfl,rfl,rfl,?_,rfl,rfl,rfl,rfl,rfl,rfl,trivial⟩⟩) (fun h=>fun _=>br_t ?_ fun _=>⟨⟨0,rfl,rfl,Nat.zero_le _⟩,fun i hi=>br_i (fun h1=>?_) (fun h1=>⟨(),rfl,rfl,rfl,rfl,rfl,by omega,by simp,rfl,rfl,rfl,rfl,rfl,rfl,trivial⟩)⟩)
    · exact (List.eq_nil_of_length_eq_zero (by rw [hll];exact hb h)).symm
    · rw [rm _ 56 (by omega) (by omega),decide_eq_true (show F+M≤x.C.length by omega)];simp
    · have h1:=of_decide_eq_true h1
      have e2:0+(i:Int).toNat=i:=by simp
      rw [e2]
      have bi:decide ((0:Int)≤(i:Int)∧(i:Int)<(l.length:Int))=true:=decide_eq_true ⟨by omega,h1⟩
      have bl:decide (i<l.length)=true:=decide_eq_true (by omega)
      have hch:=hlm _ (getD_mem (l:=l) (d:=noM) (i:=i) (by omega))
      refine br_t bi (br_t bl fun q hq=>br_i (fun h2=>br_t bi (br_t (by rw [bl];rfl) ⟨i+1,by rw [wrap_id (by omega) (by omega)];rfl,set_same (by omega) ?_,by show i+1≤l.length;omega,by show l.length-(i+1)<l.length-i;omega⟩)) (fun h2=>fun _=>br_t ?_ (br_t bi (br_t ?_ ⟨i+1,by rw [wrap_id (by omega) (by omega)];rfl,set_same (by omega) ?_,by show i+1≤l.length;omega,by show l.length-(i+1)<l.length-i;omega⟩))))
      · have h3:(l.getD i noM).changes=[]:=hq h2
        show (⟨(l.getD i noM).rev,(l.getD i noM).base,(l.getD i noM).ref,[]⟩:CommitD)=l.getD i noM
        rw [←h3]
      · have:=rm (0+(l.getD i noM).changes.length) 32 (by omega) (by omega)
        show (true&&decide (0+0≤([]:List ChangeD).length)&&decide ((0+(l.getD i noM).changes.length)*32≤room47))=true
        rw [this];rfl
      · simp
        omega
      · show (⟨(l.getD i noM).rev,(l.getD i noM).base,(l.getD i noM).ref,_⟩:CommitD)=l.getD i noM
        simp
end Go.Proofs.YtgepebndihfnfaaGreat.Ses
