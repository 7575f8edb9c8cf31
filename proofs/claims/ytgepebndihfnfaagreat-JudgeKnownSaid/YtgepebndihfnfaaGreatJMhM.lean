/- What one machine could have told of two deeds, one of the log, one by a lease: what the evaluator leaves, and that it holds. No condition. -/
import Derived.Test.YtgepebndihfnfaaGreatJMhF
import Derived.KernelRfl
set_option linter.unusedSimpArgs false
set_option linter.unusedVariables false

namespace Go.Proofs.YtgepebndihfnfaaGreat.Ses
open Go Go.Proofs Go.Proofs.YtgepebndihfnfaaGreat.Sx
def plaD (f:MacS) (l:List RequestD) (d:DeedD) (p:Nat):Bool:=d.loc&&(cntD d&&(decide ((p:Int)≤d.row)&&eqV (peekM (runF f (l.take p)) d.value) d.verdict))
def plaF (f:MacS) (l:List RequestD) (d:DeedD) (n:Nat):List Int:=((List.range n).filter (plaD f l d)).map fun p:Nat=>(p:Int)
structure PlcA where
  c:CfgD
  l:List RequestD
  a:DeedD
  b:DeedD
  strict:Bool
def leased (d:DeedD):DeedD:=⟨d.client,true,d.value,d.verdict,d.sent,d.told,d.row⟩
def PlcA.f (x:PlcA):MacS:=freshM x.c.a x.c.z x.c.M
def PlcA.ok (x:PlcA):Bool:=okCf x.c.a x.c.z x.c.M&&(okL x.l&&okRq x.b.value)
def plcArgs (x:PlcA):List SV:=[x.c.sv,.rslice false .request x.l,.rslice false .deed [⟨x.a.client,false,x.a.value,x.a.verdict,x.a.sent,x.a.told,x.a.row⟩,⟨x.b.client,true,x.b.value,x.b.verdict,x.b.sent,x.b.told,x.b.row⟩]]
noncomputable def plcI:St→LInv:=fun s=>match macAt s 8,getE s.env 7,getE s.env 1,getE s.env 2 with
  | some ⟨x,m,g,c,k,t,sr,e,er⟩,.cslice _ o _ _,.rslice _ .request l,.rslice _ .deed [_,(b:DeedD)]=>{σ:=Nat,I:=fun p=>p≤l.length+1,μ:=fun p=>l.length+1-p,env:=fun p=>[(10,.int .i64 p)],blk:=fun p=>(o,.cells [.nils,.mslice .int (s.m.next+3) 0 (plaF x l b p).length])::(s.m.next+3,.rows .int (plaF x l b p))::mB (runF x (l.take p)) m g s.m.next k t (s.m.next+1) e (s.m.next+2),fresh:=4,drop:=[c,sr,er]}
  | _,_,_,_=>LInv.none
noncomputable def plcE:Envr:=Env Tryz.prog cod [(56,new1T.spec),(58,peekT.spec),(24,applyT.spec),(90,alikeT.spec)] [(6,plcI)]
noncomputable def plcT:Tri:={γ:=PlcA,n0:=0,args:=plcArgs,blks:=fun _=>[],pre:=fun x=>x.ok=true,δ:=Unit,post:=fun _ _=>True,n1:=2,res:=fun _ _=>.cslice 1 0 0 2,blks':=fun x _=>[(0,.cells [.nils,.mslice .int 1 0 (plaF x.f x.l (leased x.b) (x.l.length+1)).length]),(1,.rows .int (plaF x.f x.l (leased x.b) (x.l.length+1)))],scal:=false}
set_option maxRecDepth 100000
abbrev plcQ1 (x:plcT.γ):=DeedD.mk (PlcA.b x).client true (PlcA.b x).value (PlcA.b x).verdict (PlcA.b x).sent (PlcA.b x).told (PlcA.b x).row
abbrev plcQ2 (x:plcT.γ):=[DeedD.mk (PlcA.a x).client false (PlcA.a x).value (PlcA.a x).verdict (PlcA.a x).sent (PlcA.a x).told (PlcA.a x).row,plcQ1 x]
abbrev plcQ3 (x1:CfA) (x:plcT.γ) (x3:Nat):=plaF (freshM x1.a x1.z x1.M) (PlcA.l x) (plcQ1 x) x3
abbrev plcQ4 (x1:CfA) (x3:Nat) (x:plcT.γ):=runF (freshM x1.a x1.z x1.M) (List.take x3 (PlcA.l x))
abbrev plcQ5 (x:plcT.γ):=(PlcA.l x).length*128≤room47
abbrev plcQ6 (x:plcT.γ):=List.getD (plcQ2 x) (IntKind.wrap IntKind.i64 ((0:Int)+(1:Int))).toNat (DeedD.mk (0:Int) false RequestD.dflt VerdictD.dflt (0:Int) (0:Int) (0:Int))
abbrev plcQ7 (x4:Nat) (x:plcT.γ):=decide ((↑x4:Int)<(↑(PlcA.l x).length:Int))
abbrev plcQ8 (x4:Nat) (x:plcT.γ):=decide ((0:Int)≤(↑x4:Int)∧
(↑x4:Int)<(↑(PlcA.l x).length:Int))
abbrev plcQ9 (x:plcT.γ) (x4:Nat):=List.getD (PlcA.l x) (↑x4:Int).toNat RequestD.dflt
abbrev plcQ10 (x4:Nat):=IntKind.wrap IntKind.i64 ((↑x4:Int)+(1:Int))
abbrev plcQ11 (x1:CfA) (x:plcT.γ) (x4:Nat) (x11:Nat):=@HAppend.hAppend (List Int) (List Int) (List Int) _ (List.take (plcQ3 x1 x x4).length (List.drop 0 (plcQ3 x1 x x4))) (List.take 1 (List.drop 0 [(↑x4:Int)]))=plcQ3 x1 x x11
abbrev plcQ12 (x11:Nat) (x:plcT.γ) (x4:Nat):=Nat.le x11 ((PlcA.l x).length+1)∧
Nat.sub ((PlcA.l x).length+1) x11<Nat.sub ((PlcA.l x).length+1) x4
abbrev plcQ13 (x13:MacA) (x4:Nat) (x1:CfA) (x:plcT.γ):=(okMS x13.x=true∧
okRq x13.r=true)∧
∀x14:Unit,True→
∃x15:Nat,EqT (plcQ10 x4) (↑x15:Int) (plcQ3 x1 x x4) (plcQ3 x1 x x15) (EqM (applyM x13.x x13.r).2 (plcQ4 x1 x15 x) (plcQ12 x15 x x4))
abbrev plcQ14 (x:plcT.γ) (x4:Nat) (x1:CfA):=plcQ5 x→
br (plcQ7 x4 x) (br (plcQ8 x4 x) (∃x17:MacA,EqQ (plcQ9 x x4) x17.r (EqM (plcQ4 x1 x4 x) x17.x (plcQ13 x17 x4 x1 x))) (Bad "check" "judge.go:72")) (∃x20:Nat,EqT (plcQ10 x4) (↑x20:Int) (plcQ3 x1 x x4) (plcQ3 x1 x x20) (EqM (plcQ4 x1 x4 x) (plcQ4 x1 x20 x) (plcQ12 x20 x x4)))
abbrev plcQ15 (x:plcT.γ):=plaF (PlcA.f x) (PlcA.l x) (leased (PlcA.b x)) ((PlcA.l x).length+1)
theorem plc_vc (x:plcT.γ):evCall plcE (ev plcE 1000) 92 (plcT.args x) ⟨plcT.blks x,plcT.n0,[]⟩ (fun _ _=>False) (plcT.ends x)=(
(plcQ2 x).length*248≤room47→
∃x1:CfA,CfgD.M (PlcA.c x)=x1.M∧
CfgD.a (PlcA.c x)=x1.a∧
CfgD.z (PlcA.c x)=x1.z∧
okCf x1.a x1.z x1.M=true∧
∀x2:Unit,True→
(∃x3:Nat,(0:Int)=(↑x3:Int)∧
0=(plcQ3 x1 x x3).length∧
([]:List Int)=plcQ3 x1 x x3∧
EqM (freshM x1.a x1.z x1.M) (plcQ4 x1 x3 x) (Nat.le x3 ((PlcA.l x).length+1)))∧
∀x4:Nat,Nat.le x4 ((PlcA.l x).length+1)→
plcQ5 x→
br (decide ((↑x4:Int)≤(↑(PlcA.l x).length:Int))) ((plcQ2 x).length*248≤room47→
br (decide (@GE.ge Int _ (plcQ6 x).told (0:Int))) (br ((plcQ6 x).verdict.code != (0:Int)) (br (decide ((↑x4:Int)≤(plcQ6 x).row)) (∃x5:MacA,EqQ (plcQ6 x).value x5.r (EqM (plcQ4 x1 x4 x) x5.x ((fewG x5.x.C=true∧
okRq x5.r=true)∧
∀x6:Unit,True→
∃x7:Ver2,EqV (peekM x5.x x5.r) x7.a (EqV (plcQ6 x).verdict x7.b (True∧
∀x8:Unit,True→
br (eqV x7.a x7.b) (Nat.le ((plcQ3 x1 x x4).length*8) room47∧
Nat.le (1*8) room47→
br (Bool.and (Bool.and (decide (0+1≤[(↑x4:Int)].length)) (decide (0+(plcQ3 x1 x x4).length≤(plcQ3 x1 x x4).length))) (decide (((plcQ3 x1 x x4).length+(List.take 1 (List.drop 0 [(↑x4:Int)])).length)*8≤room47))) (plcQ5 x→
br (plcQ7 x4 x) (br (plcQ8 x4 x) (∃x9:MacA,EqQ (plcQ9 x x4) x9.r (EqM x5.x x9.x ((okMS x9.x=true∧
okRq x9.r=true)∧
∀x10:Unit,True→
∃x11:Nat,plcQ10 x4=(↑x11:Int)∧
0=0∧
(plcQ3 x1 x x4).length+(List.take 1 (List.drop 0 [(↑x4:Int)])).length=(plcQ3 x1 x x11).length∧
plcQ11 x1 x x4 x11∧
EqM (applyM x9.x x9.r).2 (plcQ4 x1 x11 x) (plcQ12 x11 x x4)))) (Bad "check" "judge.go:72")) (∃x12:Nat,plcQ10 x4=(↑x12:Int)∧
0=0∧
(plcQ3 x1 x x4).length+(List.take 1 (List.drop 0 [(↑x4:Int)])).length=(plcQ3 x1 x x12).length∧
plcQ11 x1 x x4 x12∧
EqM x5.x (plcQ4 x1 x12 x) (plcQ12 x12 x x4))) (Bad "check" "judge.go:68")) (plcQ5 x→
br (plcQ7 x4 x) (br (plcQ8 x4 x) (∃x13:MacA,EqQ (plcQ9 x x4) x13.r (EqM x5.x x13.x (plcQ13 x13 x4 x1 x))) (Bad "check" "judge.go:72")) (∃x16:Nat,EqT (plcQ10 x4) (↑x16:Int) (plcQ3 x1 x x4) (plcQ3 x1 x x16) (EqM x5.x (plcQ4 x1 x16 x) (plcQ12 x16 x x4))))))))) (plcQ14 x x4 x1)) (plcQ14 x x4 x1)) (plcQ14 x x4 x1)) (∃x29:Unit,0=0∧
(plcQ3 x1 x x4).length=(plcQ15 x).length∧
plcQ3 x1 x x4=plcQ15 x∧
True)):=by kernel_rfl
theorem pla_suc (f:MacS) (l:List RequestD) (d:DeedD) (p:Nat):plaF f l d (p+1)=plaF f l d p++(bif plaD f l d p then [(p:Int)] else []):=by
  unfold plaF
  rw [List.range_succ,List.filter_append,List.map_append]
  cases h:plaD f l d p<;>simp [h]
theorem pla_len (f:MacS) (l:List RequestD) (d:DeedD):∀p,(plaF f l d p).length≤p:=fun p=>by
  unfold plaF
  rw [List.length_map]
  have:=List.length_filter_le (plaD f l d) (List.range p)
  rw [List.length_range] at this;exact this
theorem plcE_ok:EnvOK plcE:=Env_ok (by decide +kernel) (by
  intro p hp
  simp only [List.mem_cons,List.mem_nil_iff,or_false] at hp
  rcases hp with rfl | rfl | rfl | rfl
  · exact new1_ok
  · exact peek_ok
  · exact apply_ok echg_ok
  · exact eali_ok)
set_option maxHeartbeats 0 in
theorem plc_ok:SpecOK Tryz.prog 92 plcT.spec:=by
  refine Tri.ok (E:=plcE) plcE_ok (n:=1000) plcT fun x hx=>?_
  rw [plc_vc]
  delta plcQ15 plcQ14 plcQ13 plcQ12 plcQ11 plcQ10 plcQ9 plcQ8 plcQ7 plcQ6 plcQ5 plcQ4 plcQ3 plcQ2 plcQ1 EqM EqQ EqT EqV EqG
  obtain⟨c,l,a,⟨b1,b2,bv,bw,bs,bt,bz⟩,st⟩:=x
  have hx:(okCf c.a c.z c.M&&(okL l&&okRq bv))=true:=hx
  simp only [Bool.and_eq_true] at hx
  obtain⟨hcf,hL,hq⟩:=hx
  dsimp only
  have e3:List.getD [(⟨a.client,false,a.value,a.verdict,a.sent,a.told,a.row⟩:DeedD),⟨b1,true,bv,bw,bs,bt,bz⟩] (Int.toNat (IntKind.wrap IntKind.i64 ((0:Int)+(1:Int)))) ⟨0,false,RequestD.dflt,VerdictD.dflt,0,0,0⟩=⟨b1,true,bv,bw,bs,bt,bz⟩:=rfl
  rw [e3]
  dsimp only
  have hf:PlcA.f ⟨c,l,a,⟨b1,b2,bv,bw,bs,bt,bz⟩,st⟩=freshM c.a c.z c.M:=rfl
  have hB:leased ⟨b1,b2,bv,bw,bs,bt,bz⟩=⟨b1,true,bv,bw,bs,bt,bz⟩:=rfl
  rw [hf,hB]
  have hin:∀i,∃n,n≤l.length∧MDs c.a c.z n (runF (freshM c.a c.z c.M) (l.take i)):=fun i=>(runZ_in hcf hL i).1
  have h4:l.length≤4000:=(okL_of hL).1
  refine fun _=>⟨⟨c.M,c.a,c.z⟩,rfl,rfl,rfl,hcf,fun _ _=>?_⟩
  dsimp only
  generalize freshM c.a c.z c.M=f at hin ⊢
  refine⟨⟨0,(by repeat' (first | exact Nat.zero_le _ | refine And.intro ?_ ?_ | rfl))⟩,fun p hp _=>br_i (fun h1 _=>?_) (fun h1=>?_)⟩
  · have h1:(p:Int)≤(l.length:Int):=of_decide_eq_true h1
    have e0:(p:Int).toNat=p:=rfl
    rw [e0]
    have eg:l.getD p RequestD.dflt=l.getD p noR0:=rfl
    rw [eg]
    have hsuc:=pla_suc f l ⟨b1,true,bv,bw,bs,bt,bz⟩ p
    have hPl:=pla_len f l ⟨b1,true,bv,bw,bs,bt,bz⟩ p
    have hD:plaD f l ⟨b1,true,bv,bw,bs,bt,bz⟩ p=((decide (bt≥0)&&(bw.code != 0))&&(decide ((p:Int)≤bz)&&eqV (peekM (runF f (l.take p)) bv) bw)):=by
      show (true&&((decide (bt≥0)&&(!true||(bw.code != 0)))&&_))=_
      rfl
    obtain⟨n,hn,hG⟩:=hin p
    have okm:=hG.ok.ok (by omega)
    have okf:=hG.ok.few (by omega)
    have hst:l.length≤p→runF f (l.take (p+1))=runF f (l.take p):=fun h=>by rw [List.take_of_length_le (by omega),List.take_of_length_le h]
    have hw:IntKind.i64.wrap ((p:Int)+1)=((p+1:Nat):Int):=by rw [wrap_id (by omega) (by omega)];rfl
    have hle:(p+1).le (l.length+1):=by show p+1≤l.length+1;omega
    have hms:(l.length+1).sub (p+1)<(l.length+1).sub p:=by show l.length+1-(p+1)<l.length+1-p;omega
    generalize hy:runF f (l.take p)=y at okm okf hst hD ⊢
    generalize plaF f l ⟨b1,true,bv,bw,bs,bt,bz⟩ p=P at hsuc hPl ⊢
    have hno:plaD f l ⟨b1,true,bv,bw,bs,bt,bz⟩ p=false→plaF f l ⟨b1,true,bv,bw,bs,bt,bz⟩ (p+1)=P:=fun h=>by rw [hsuc,h];simp
    refine br_i (fun c1=>br_i (fun c2=>br_i (fun c3=>⟨⟨y,bv⟩,rfl,rfl,rfl,rfl,rfl,rfl,rfl,rfl,rfl,rfl,rfl,rfl,rfl,rfl,rfl,rfl,rfl,rfl,rfl,rfl,rfl,rfl,rfl,rfl,rfl,rfl,rfl,⟨okf,hq⟩,fun _ _=>⟨⟨peekM y bv,bw⟩,rfl,rfl,rfl,rfl,rfl,rfl,rfl,rfl,rfl,rfl,rfl,rfl,rfl,rfl,trivial,fun _ _=>br_i (fun c4 hr=>br_t ?_ (fun _=>br_i (fun g=>?_) (fun g=>?_))) (fun c4 _=>br_i (fun g=>?_) (fun g=>?_))⟩⟩) (fun c3 _=>br_i (fun g=>?_) (fun g=>?_))) (fun c2 _=>br_i (fun g=>?_) (fun g=>?_))) (fun c1 _=>br_i (fun g=>?_) (fun g=>?_))
    · have hP8:(P.length+1)*8≤room47:=by unfold room47;omega
      rw [decide_eq_true (by omega:0+P.length≤P.length)]
      show (true&&true&&decide ((P.length+1)*8≤room47))=true
      rw [decide_eq_true hP8];rfl
    · have hs:plaF f l ⟨b1,true,bv,bw,bs,bt,bz⟩ (p+1)=P++[(p:Int)]:=by
        have c4:eqV (peekM y bv) bw=true:=c4
        rw [hsuc,hD,c1,c2,c3,c4];rfl
      have hl1:P.length+(List.take 1 (List.drop 0 [(p:Int)])).length=(P++[(p:Int)]).length:=by
        rw [List.length_append];rfl
      have hl2:List.take P.length (List.drop 0 P)++List.take 1 (List.drop 0 [(p:Int)])=P++[(p:Int)]:=by
        rw [List.drop_zero,List.take_of_length_le (Nat.le_refl _)];rfl
      have g:=of_decide_eq_true g
      have hgo:=run_at (x:=f) (l:=l) (i:=p) (by omega)
      rw [hy] at hgo
      have okr:=(okL_of hL).2 (l.getD p noR0) (getD_mem (by omega))
      refine br_t (decide_eq_true ⟨by omega,g⟩) ⟨⟨y,l.getD p noR0⟩,rfl,rfl,rfl,rfl,rfl,rfl,rfl,rfl,rfl,rfl,rfl,rfl,rfl,rfl,rfl,rfl,rfl,rfl,rfl,rfl,rfl,rfl,rfl,rfl,rfl,rfl,rfl,⟨okm,okr.1⟩,fun _ _=>⟨p+1,hw,?_⟩⟩
      rw [hs,hgo]
      exact (by repeat' (first | exact hle | exact hms | exact hl1 | exact hl2 | rfl | refine And.intro ?_ ?_))
    · have hs:plaF f l ⟨b1,true,bv,bw,bs,bt,bz⟩ (p+1)=P++[(p:Int)]:=by
        have c4:eqV (peekM y bv) bw=true:=c4
        rw [hsuc,hD,c1,c2,c3,c4];rfl
      have hl1:P.length+(List.take 1 (List.drop 0 [(p:Int)])).length=(P++[(p:Int)]).length:=by
        rw [List.length_append];rfl
      have hl2:List.take P.length (List.drop 0 P)++List.take 1 (List.drop 0 [(p:Int)])=P++[(p:Int)]:=by
        rw [List.drop_zero,List.take_of_length_le (Nat.le_refl _)];rfl
      have g:=of_decide_eq_false g
      refine⟨p+1,hw,?_⟩
      rw [hs,hst (by omega)]
      exact (by repeat' (first | exact hle | exact hms | exact hl1 | exact hl2 | rfl | refine And.intro ?_ ?_))
    · have hs:=hno (by
        have c4:eqV (peekM y bv) bw=false:=c4
        rw [hD,c4];simp)
      have g:=of_decide_eq_true g
      have hgo:=run_at (x:=f) (l:=l) (i:=p) (by omega)
      rw [hy] at hgo
      have okr:=(okL_of hL).2 (l.getD p noR0) (getD_mem (by omega))
      refine br_t (decide_eq_true ⟨by omega,g⟩) ⟨⟨y,l.getD p noR0⟩,rfl,rfl,rfl,rfl,rfl,rfl,rfl,rfl,rfl,rfl,rfl,rfl,rfl,rfl,rfl,rfl,rfl,rfl,rfl,rfl,rfl,rfl,rfl,rfl,rfl,rfl,rfl,⟨okm,okr.1⟩,fun _ _=>⟨p+1,hw,?_⟩⟩
      rw [hs,hgo]
      exact (by repeat' (first | exact hle | exact hms | rfl | refine And.intro ?_ ?_))
    · have hs:=hno (by
        have c4:eqV (peekM y bv) bw=false:=c4
        rw [hD,c4];simp)
      have g:=of_decide_eq_false g
      refine⟨p+1,hw,?_⟩
      rw [hs,hst (by omega)]
      exact (by repeat' (first | exact hle | exact hms | rfl | refine And.intro ?_ ?_))
    · have hs:=hno (by
        rw [hD,c3];simp)
      have g:=of_decide_eq_true g
      have hgo:=run_at (x:=f) (l:=l) (i:=p) (by omega)
      rw [hy] at hgo
      have okr:=(okL_of hL).2 (l.getD p noR0) (getD_mem (by omega))
      refine br_t (decide_eq_true ⟨by omega,g⟩) ⟨⟨y,l.getD p noR0⟩,rfl,rfl,rfl,rfl,rfl,rfl,rfl,rfl,rfl,rfl,rfl,rfl,rfl,rfl,rfl,rfl,rfl,rfl,rfl,rfl,rfl,rfl,rfl,rfl,rfl,rfl,rfl,⟨okm,okr.1⟩,fun _ _=>⟨p+1,hw,?_⟩⟩
      rw [hs,hgo]
      exact (by repeat' (first | exact hle | exact hms | rfl | refine And.intro ?_ ?_))
    · have hs:=hno (by
        rw [hD,c3];simp)
      have g:=of_decide_eq_false g
      refine⟨p+1,hw,?_⟩
      rw [hs,hst (by omega)]
      exact (by repeat' (first | exact hle | exact hms | rfl | refine And.intro ?_ ?_))
    · have hs:=hno (by
        rw [hD,c2];simp)
      have g:=of_decide_eq_true g
      have hgo:=run_at (x:=f) (l:=l) (i:=p) (by omega)
      rw [hy] at hgo
      have okr:=(okL_of hL).2 (l.getD p noR0) (getD_mem (by omega))
      refine br_t (decide_eq_true ⟨by omega,g⟩) ⟨⟨y,l.getD p noR0⟩,rfl,rfl,rfl,rfl,rfl,rfl,rfl,rfl,rfl,rfl,rfl,rfl,rfl,rfl,rfl,rfl,rfl,rfl,rfl,rfl,rfl,rfl,rfl,rfl,rfl,rfl,rfl,⟨okm,okr.1⟩,fun _ _=>⟨p+1,hw,?_⟩⟩
      rw [hs,hgo]
      exact (by repeat' (first | exact hle | exact hms | rfl | refine And.intro ?_ ?_))
    · have hs:=hno (by
        rw [hD,c2];simp)
      have g:=of_decide_eq_false g
      refine⟨p+1,hw,?_⟩
      rw [hs,hst (by omega)]
      exact (by repeat' (first | exact hle | exact hms | rfl | refine And.intro ?_ ?_))
    · have hs:=hno (by
        rw [hD,c1];simp)
      have g:=of_decide_eq_true g
      have hgo:=run_at (x:=f) (l:=l) (i:=p) (by omega)
      rw [hy] at hgo
      have okr:=(okL_of hL).2 (l.getD p noR0) (getD_mem (by omega))
      refine br_t (decide_eq_true ⟨by omega,g⟩) ⟨⟨y,l.getD p noR0⟩,rfl,rfl,rfl,rfl,rfl,rfl,rfl,rfl,rfl,rfl,rfl,rfl,rfl,rfl,rfl,rfl,rfl,rfl,rfl,rfl,rfl,rfl,rfl,rfl,rfl,rfl,rfl,⟨okm,okr.1⟩,fun _ _=>⟨p+1,hw,?_⟩⟩
      rw [hs,hgo]
      exact (by repeat' (first | exact hle | exact hms | rfl | refine And.intro ?_ ?_))
    · have hs:=hno (by
        rw [hD,c1];simp)
      have g:=of_decide_eq_false g
      refine⟨p+1,hw,?_⟩
      rw [hs,hst (by omega)]
      exact (by repeat' (first | exact hle | exact hms | rfl | refine And.intro ?_ ?_))
  · have h1:¬(p:Int)≤(l.length:Int):=of_decide_eq_false h1
    have hp:p≤l.length+1:=hp
    have:p=l.length+1:=by omega
    subst this
    exact⟨(),rfl,rfl,rfl,trivial⟩
structure LocA where
  c:CfgD
  l:List RequestD
  v:RequestD
  w:VerdictD
  rev:Int
  n:Int
def headR:RequestD:=⟨3,[],0,0,0,[],[],[],0,0,0⟩
def LocA.f (x:LocA):MacS:=freshM x.c.a x.c.z x.c.M
def LocA.ok (x:LocA):Bool:=okCf x.c.a x.c.z x.c.M&&okL x.l
def locP (s t:Int) (x:LocA):List Int:=plaF x.f x.l ⟨0,true,⟨3,[],0,0,0,[],[],[],0,0,0⟩,⟨8,0,x.rev,[],0,[],0⟩,s,t,x.n⟩ (x.l.length+1)
def locS (s t:Int) (x:LocA):Int:=slotD x.l (runV x.c x.l) ⟨0,false,x.v,x.w,s,t,x.n⟩
def locR (s0 t0 s1 t1:Int) (st:Bool) (x:LocA):Int:=bif (locP s1 t1 x).any fun p=>decide (p≥bif st then max 0 (locS s0 t0 x+1) else 0) then -1 else 1
noncomputable def locI:St→LInv:=fun s=>match getE s.env 52,getE s.env 15 with
  | .mslice _ k _ _,.int _ n=>match s.m.blks.get k with
    | some (.rows .int P)=>{σ:=Nat,I:=fun i=>i≤P.length ∧ ∀j,j<i→decide ((P.getD j 0:Int)≥n)=false,μ:=fun i=>P.length-i,env:=fun i=>[(54,.int .i64 i),(16,.bool false)],blk:=fun _=>[],fresh:=0,drop:=[]}
    | _=>LInv.none
  | _,_=>LInv.none
noncomputable def locE:Envr:=Env Tryz.prog cod [(36,jslT.spec),(92,plcT.spec)] [(10,locI)]
noncomputable def locT (s0 t0 s1 t1:Int) (st:Bool):Tri:={γ:=LocA,n0:=0,args:=fun x=>[x.c.sv,.rslice false .request x.l,.rslice false .deed [⟨0,false,x.v,x.w,s0,t0,x.n⟩,⟨0,true,⟨3,[],0,0,0,[],[],[],0,0,0⟩,⟨8,0,x.rev,[],0,[],0⟩,s1,t1,x.n⟩],.bool st],blks:=fun _=>[],pre:=fun x=>x.ok=true,δ:=Unit,post:=fun _ _=>True,n1:=0,res:=fun x _=>.int .i64 (locR s0 t0 s1 t1 st x),blks':=fun _ _=>[],scal:=true}
noncomputable def locaT:Tri:=locT 1 5 7 9 true
noncomputable def locbT:Tri:=locT 1 5 7 9 false
noncomputable def loccT:Tri:=locT 1 10 20 21 true
noncomputable def locdT:Tri:=locT 1 10 20 21 false
set_option maxRecDepth 100000
abbrev locaQ1 (x:locaT.γ):=[DeedD.mk (0:Int) false (LocA.v x) (LocA.w x) (1:Int) (5:Int) (LocA.n x),DeedD.mk (0:Int) true (RequestD.mk (3:Int) ([]:List UInt8) (0:Int) (0:Int) (0:Int) ([]:List UInt8) ([]:List ChangeD) ([]:List UInt8) (0:Int) (0:Int) (0:Int)) (VerdictD.mk (8:Int) (0:Int) (LocA.rev x) ([]:List UInt8) (0:Int) ([]:List CommitD) (0:Int)) (7:Int) (9:Int) (LocA.n x)]
abbrev locaQ2 (x:locaT.γ):=(locaQ1 x).length*248≤room47
abbrev locaQ3 (x3:PlcA):=plaF x3.f x3.l (leased x3.b) (x3.l.length+1)
abbrev locaQ4 (x1:JdA):=mmI false (0:Int) (IntKind.wrap IntKind.i64 (List.getD (slotsD x1.l (runV x1.c x1.l) x1.ds) (0:Int).toNat (Int.ofNat 0)+(1:Int)))
abbrev locaQ5 (x5:Nat) (x3:PlcA) (x1:JdA):=x5≤(locaQ3 x3).length∧
∀x6:Nat,x6<x5→
decide (@GE.ge Int _ (List.getD (locaQ3 x3) x6 (0:Int)) (locaQ4 x1))=false
abbrev locaQ6 (x:locaT.γ) (x1:JdA):=∃x3:PlcA,EqF (LocA.c x) x3.c (LocA.l x=x3.l∧
locaQ1 x=[DeedD.mk x3.a.client false x3.a.value x3.a.verdict x3.a.sent x3.a.told x3.a.row,DeedD.mk x3.b.client true x3.b.value x3.b.verdict x3.b.sent x3.b.told x3.b.row]∧
x3.ok=true∧
∀x4:Unit,True→
locaQ2 x→
locaQ2 x→
locaQ2 x→
br (decide ((0:Int)≤(0:Int)∧
(0:Int)<(↑(slotsD x1.l (runV x1.c x1.l) x1.ds).length:Int))) ((locaQ3 x3).length*8≤room47→
(∃x5:Nat,(0:Int)=(↑x5:Int)∧
false=false∧
locaQ5 x5 x3 x1)∧
∀x7:Nat,locaQ5 x7 x3 x1→
br (decide ((↑x7:Int)<(↑(locaQ3 x3).length:Int))) (br (decide ((0:Int)≤(↑x7:Int)∧
(↑x7:Int)<(↑(locaQ3 x3).length:Int))) (br (decide (0+(↑x7:Int).toNat<(locaQ3 x3).length)) (br (decide (@GE.ge Int _ (List.getD (locaQ3 x3) (0+(↑x7:Int).toNat) (Int.ofNat 0)) (locaQ4 x1))) (∃x9:Unit,@Neg.neg Int _ (1:Int)=locR (1:Int) (5:Int) (7:Int) (9:Int) true x∧
True) (∃x10:Nat,IntKind.wrap IntKind.i64 ((↑x7:Int)+(1:Int))=(↑x10:Int)∧
false=false∧
locaQ5 x10 x3 x1∧
Nat.sub (locaQ3 x3).length x10<Nat.sub (locaQ3 x3).length x7)) (Bad "check" "judge.go:101")) (Bad "check" "judge.go:101")) (∃x12:Unit,IntKind.wrap IntKind.i64 ((0:Int)+(1:Int))=locR (1:Int) (5:Int) (7:Int) (9:Int) true x∧
True)) (Bad "check" "judge.go:89"))
theorem loca_vc (x:locaT.γ):evCall locE (ev locE 1000) 40 (locaT.args x) ⟨locaT.blks x,locaT.n0,[]⟩ (fun _ _=>False) (locaT.ends x)=(
(∃x1:JdA,EqF (LocA.c x) x1.c (LocA.l x=x1.l∧
locaQ1 x=x1.ds∧
okL x1.l=true∧
∀x2:Unit,True→
Twice (locaQ6 x x1)))∧
∃x13:JdA,EqF (LocA.c x) x13.c (LocA.l x=x13.l∧
locaQ1 x=x13.ds∧
okL x13.l=true∧
∀x14:Unit,True→
locaQ6 x x13)):=by kernel_rfl
abbrev locbQ1 (x:locbT.γ):=[DeedD.mk (0:Int) false (LocA.v x) (LocA.w x) (1:Int) (5:Int) (LocA.n x),DeedD.mk (0:Int) true (RequestD.mk (3:Int) ([]:List UInt8) (0:Int) (0:Int) (0:Int) ([]:List UInt8) ([]:List ChangeD) ([]:List UInt8) (0:Int) (0:Int) (0:Int)) (VerdictD.mk (8:Int) (0:Int) (LocA.rev x) ([]:List UInt8) (0:Int) ([]:List CommitD) (0:Int)) (7:Int) (9:Int) (LocA.n x)]
abbrev locbQ2 (x:locbT.γ):=(locbQ1 x).length*248≤room47
abbrev locbQ3 (x3:PlcA):=plaF x3.f x3.l (leased x3.b) (x3.l.length+1)
abbrev locbQ4 (x5:Nat) (x3:PlcA):=x5≤(locbQ3 x3).length∧
∀x6:Nat,x6<x5→
decide (@GE.ge Int _ (List.getD (locbQ3 x3) x6 (0:Int)) (0:Int))=false
abbrev locbQ5 (x:locbT.γ):=locR (1:Int) (5:Int) (7:Int) (9:Int) false x
abbrev locbQ6 (x:locbT.γ):=∃x3:PlcA,EqF (LocA.c x) x3.c (LocA.l x=x3.l∧
locbQ1 x=[DeedD.mk x3.a.client false x3.a.value x3.a.verdict x3.a.sent x3.a.told x3.a.row,DeedD.mk x3.b.client true x3.b.value x3.b.verdict x3.b.sent x3.b.told x3.b.row]∧
x3.ok=true∧
∀x4:Unit,True→
locbQ2 x→
locbQ2 x→
locbQ2 x→
(locbQ3 x3).length*8≤room47→
(∃x5:Nat,(0:Int)=(↑x5:Int)∧
false=false∧
locbQ4 x5 x3)∧
∀x7:Nat,locbQ4 x7 x3→
br (decide ((↑x7:Int)<(↑(locbQ3 x3).length:Int))) (br (decide ((0:Int)≤(↑x7:Int)∧
(↑x7:Int)<(↑(locbQ3 x3).length:Int))) (br (decide (0+(↑x7:Int).toNat<(locbQ3 x3).length)) (br (decide (@GE.ge Int _ (List.getD (locbQ3 x3) (0+(↑x7:Int).toNat) (Int.ofNat 0)) (0:Int))) (∃x9:Unit,@Neg.neg Int _ (1:Int)=locbQ5 x∧
True) (∃x10:Nat,IntKind.wrap IntKind.i64 ((↑x7:Int)+(1:Int))=(↑x10:Int)∧
false=false∧
locbQ4 x10 x3∧
Nat.sub (locbQ3 x3).length x10<Nat.sub (locbQ3 x3).length x7)) (Bad "check" "judge.go:101")) (Bad "check" "judge.go:101")) (∃x12:Unit,IntKind.wrap IntKind.i64 ((0:Int)+(1:Int))=locbQ5 x∧
True))
theorem locb_vc (x:locbT.γ):evCall locE (ev locE 1000) 40 (locbT.args x) ⟨locbT.blks x,locbT.n0,[]⟩ (fun _ _=>False) (locbT.ends x)=(
(∃x1:JdA,EqF (LocA.c x) x1.c (LocA.l x=x1.l∧
locbQ1 x=x1.ds∧
okL x1.l=true∧
∀x2:Unit,True→
Twice (locbQ6 x)))∧
∃x13:JdA,EqF (LocA.c x) x13.c (LocA.l x=x13.l∧
locbQ1 x=x13.ds∧
okL x13.l=true∧
∀x14:Unit,True→
locbQ6 x)):=by kernel_rfl
abbrev loccQ1 (x:loccT.γ):=[DeedD.mk (0:Int) false (LocA.v x) (LocA.w x) (1:Int) (10:Int) (LocA.n x),DeedD.mk (0:Int) true (RequestD.mk (3:Int) ([]:List UInt8) (0:Int) (0:Int) (0:Int) ([]:List UInt8) ([]:List ChangeD) ([]:List UInt8) (0:Int) (0:Int) (0:Int)) (VerdictD.mk (8:Int) (0:Int) (LocA.rev x) ([]:List UInt8) (0:Int) ([]:List CommitD) (0:Int)) (20:Int) (21:Int) (LocA.n x)]
abbrev loccQ2 (x:loccT.γ):=(loccQ1 x).length*248≤room47
abbrev loccQ3 (x3:PlcA):=plaF x3.f x3.l (leased x3.b) (x3.l.length+1)
abbrev loccQ4 (x1:JdA):=mmI false (0:Int) (IntKind.wrap IntKind.i64 (List.getD (slotsD x1.l (runV x1.c x1.l) x1.ds) (0:Int).toNat (Int.ofNat 0)+(1:Int)))
abbrev loccQ5 (x5:Nat) (x3:PlcA) (x1:JdA):=x5≤(loccQ3 x3).length∧
∀x6:Nat,x6<x5→
decide (@GE.ge Int _ (List.getD (loccQ3 x3) x6 (0:Int)) (loccQ4 x1))=false
abbrev loccQ6 (x:loccT.γ):=locR (1:Int) (10:Int) (20:Int) (21:Int) true x
abbrev loccQ7 (x:loccT.γ) (x1:JdA):=∃x3:PlcA,EqF (LocA.c x) x3.c (LocA.l x=x3.l∧
loccQ1 x=[DeedD.mk x3.a.client false x3.a.value x3.a.verdict x3.a.sent x3.a.told x3.a.row,DeedD.mk x3.b.client true x3.b.value x3.b.verdict x3.b.sent x3.b.told x3.b.row]∧
x3.ok=true∧
∀x4:Unit,True→
loccQ2 x→
loccQ2 x→
loccQ2 x→
br (decide ((0:Int)≤(0:Int)∧
(0:Int)<(↑(slotsD x1.l (runV x1.c x1.l) x1.ds).length:Int))) ((loccQ3 x3).length*8≤room47→
(∃x5:Nat,(0:Int)=(↑x5:Int)∧
false=false∧
loccQ5 x5 x3 x1)∧
∀x7:Nat,loccQ5 x7 x3 x1→
br (decide ((↑x7:Int)<(↑(loccQ3 x3).length:Int))) (br (decide ((0:Int)≤(↑x7:Int)∧
(↑x7:Int)<(↑(loccQ3 x3).length:Int))) (br (decide (0+(↑x7:Int).toNat<(loccQ3 x3).length)) (br (decide (@GE.ge Int _ (List.getD (loccQ3 x3) (0+(↑x7:Int).toNat) (Int.ofNat 0)) (loccQ4 x1))) (∃x9:Unit,@Neg.neg Int _ (1:Int)=loccQ6 x∧
True) (∃x10:Nat,IntKind.wrap IntKind.i64 ((↑x7:Int)+(1:Int))=(↑x10:Int)∧
false=false∧
loccQ5 x10 x3 x1∧
Nat.sub (loccQ3 x3).length x10<Nat.sub (loccQ3 x3).length x7)) (Bad "check" "judge.go:101")) (Bad "check" "judge.go:101")) (∃x12:Unit,IntKind.wrap IntKind.i64 ((0:Int)+(1:Int))=loccQ6 x∧
True)) (Bad "check" "judge.go:89"))
theorem locc_vc (x:loccT.γ):evCall locE (ev locE 1000) 40 (loccT.args x) ⟨loccT.blks x,loccT.n0,[]⟩ (fun _ _=>False) (loccT.ends x)=(
(∃x1:JdA,EqF (LocA.c x) x1.c (LocA.l x=x1.l∧
loccQ1 x=x1.ds∧
okL x1.l=true∧
∀x2:Unit,True→
Twice (loccQ7 x x1)))∧
∃x13:JdA,EqF (LocA.c x) x13.c (LocA.l x=x13.l∧
loccQ1 x=x13.ds∧
okL x13.l=true∧
∀x14:Unit,True→
loccQ7 x x13)):=by kernel_rfl
abbrev locdQ1 (x:locdT.γ):=[DeedD.mk (0:Int) false (LocA.v x) (LocA.w x) (1:Int) (10:Int) (LocA.n x),DeedD.mk (0:Int) true (RequestD.mk (3:Int) ([]:List UInt8) (0:Int) (0:Int) (0:Int) ([]:List UInt8) ([]:List ChangeD) ([]:List UInt8) (0:Int) (0:Int) (0:Int)) (VerdictD.mk (8:Int) (0:Int) (LocA.rev x) ([]:List UInt8) (0:Int) ([]:List CommitD) (0:Int)) (20:Int) (21:Int) (LocA.n x)]
abbrev locdQ2 (x:locdT.γ):=(locdQ1 x).length*248≤room47
abbrev locdQ3 (x3:PlcA):=plaF x3.f x3.l (leased x3.b) (x3.l.length+1)
abbrev locdQ4 (x5:Nat) (x3:PlcA):=x5≤(locdQ3 x3).length∧
∀x6:Nat,x6<x5→
decide (@GE.ge Int _ (List.getD (locdQ3 x3) x6 (0:Int)) (0:Int))=false
abbrev locdQ5 (x:locdT.γ):=locR (1:Int) (10:Int) (20:Int) (21:Int) false x
abbrev locdQ6 (x:locdT.γ):=∃x3:PlcA,EqF (LocA.c x) x3.c (LocA.l x=x3.l∧
locdQ1 x=[DeedD.mk x3.a.client false x3.a.value x3.a.verdict x3.a.sent x3.a.told x3.a.row,DeedD.mk x3.b.client true x3.b.value x3.b.verdict x3.b.sent x3.b.told x3.b.row]∧
x3.ok=true∧
∀x4:Unit,True→
locdQ2 x→
locdQ2 x→
locdQ2 x→
(locdQ3 x3).length*8≤room47→
(∃x5:Nat,(0:Int)=(↑x5:Int)∧
false=false∧
locdQ4 x5 x3)∧
∀x7:Nat,locdQ4 x7 x3→
br (decide ((↑x7:Int)<(↑(locdQ3 x3).length:Int))) (br (decide ((0:Int)≤(↑x7:Int)∧
(↑x7:Int)<(↑(locdQ3 x3).length:Int))) (br (decide (0+(↑x7:Int).toNat<(locdQ3 x3).length)) (br (decide (@GE.ge Int _ (List.getD (locdQ3 x3) (0+(↑x7:Int).toNat) (Int.ofNat 0)) (0:Int))) (∃x9:Unit,@Neg.neg Int _ (1:Int)=locdQ5 x∧
True) (∃x10:Nat,IntKind.wrap IntKind.i64 ((↑x7:Int)+(1:Int))=(↑x10:Int)∧
false=false∧
locdQ4 x10 x3∧
Nat.sub (locdQ3 x3).length x10<Nat.sub (locdQ3 x3).length x7)) (Bad "check" "judge.go:101")) (Bad "check" "judge.go:101")) (∃x12:Unit,IntKind.wrap IntKind.i64 ((0:Int)+(1:Int))=locdQ5 x∧
True))
theorem locd_vc (x:locdT.γ):evCall locE (ev locE 1000) 40 (locdT.args x) ⟨locdT.blks x,locdT.n0,[]⟩ (fun _ _=>False) (locdT.ends x)=(
(∃x1:JdA,EqF (LocA.c x) x1.c (LocA.l x=x1.l∧
locdQ1 x=x1.ds∧
okL x1.l=true∧
∀x2:Unit,True→
Twice (locdQ6 x)))∧
∃x13:JdA,EqF (LocA.c x) x13.c (LocA.l x=x13.l∧
locdQ1 x=x13.ds∧
okL x13.l=true∧
∀x14:Unit,True→
locdQ6 x)):=by kernel_rfl
theorem loc_fin {P:List Int} {n R:Int} (hR:R=bif P.any (fun p=>decide (p≥n)) then -1 else 1) (hL:P.length≤5000) :
    (∃x5:Nat,(0:Int)=(x5:Int)∧false=false∧x5≤P.length ∧ ∀x6:Nat,x6<x5→decide (P.getD x6 (0:Int)≥n)=false)∧
    ∀x7:Nat,(x7≤P.length ∧ ∀x8:Nat,x8<x7→decide (P.getD x8 (0:Int)≥n)=false)→
      br (decide ((x7:Int)<(P.length:Int)))
        (br (decide ((0:Int)≤(x7:Int)∧(x7:Int)<(P.length:Int)))
          (br (decide (0+(x7:Int).toNat<P.length))
            (br (decide (P.getD (0+(x7:Int).toNat) (Int.ofNat 0)≥n))
              (∃x9:Unit,(-1:Int)=R∧True)
              (∃x10:Nat,IntKind.wrap IntKind.i64 ((x7:Int)+1)=(x10:Int)∧false=false∧(x10≤P.length ∧ ∀x11:Nat,x11<x10→decide (P.getD x11 (0:Int)≥n)=false)∧Nat.sub P.length x10<Nat.sub P.length x7))
            (Bad "check" "judge.go:101"))
          (Bad "check" "judge.go:101"))
        (∃x12:Unit,IntKind.wrap IntKind.i64 ((0:Int)+1)=R∧True):=by
  refine⟨⟨0,rfl,rfl,Nat.zero_le _,fun j h=>absurd h (Nat.not_lt_zero _)⟩,fun i hi=>br_i (fun g=>?_) (fun g=>⟨(),?_,trivial⟩)⟩
  · have g:=of_decide_eq_true g
    obtain⟨i1,i2⟩:=hi
    have e0:0+(i:Int).toNat=i:=Nat.zero_add _
    rw [e0]
    refine br_t (decide_eq_true ⟨by omega,g⟩) (br_t (decide_eq_true (by omega)) (br_i (fun q=>⟨(),?_,trivial⟩) (fun q=>⟨i+1,by rw [wrap_id (by omega) (by omega)];rfl,rfl,⟨by omega,fun j hj=>?_⟩,by show P.length-(i+1)<P.length-i;omega⟩)))
    · have:(P.any fun p=>decide (p≥n))=true:=List.any_eq_true.2 ⟨_,getD_mem (d:=(0:Int)) (by omega:i<P.length),q⟩
      rw [hR,this];rfl
    · by_cases e:j<i
      · exact i2 j e
      · have:j=i:=by omega
        subst this
        exact q
  · have g:=of_decide_eq_false g
    obtain⟨i1,i2⟩:=hi
    have:(P.any fun p=>decide (p≥n))=false:=List.any_eq_false.2 fun p hp hq=>by
      obtain⟨j,hj,rfl⟩:=List.getElem_of_mem hp
      have:=i2 j (by omega)
      simp only [List.getD,List.getElem?_eq_getElem hj,Option.getD_some] at this
      rw [this] at hq;cases hq
    rw [hR,this];rfl
theorem loc_s (s t:Int) (x:LocA) (hL:x.l.length≤4000):-1≤locS s t x∧locS s t x<4000:=by
  unfold locS slotD
  cases logD _
  · exact⟨Int.le_refl _,by show (-1:Int)<4000;omega⟩
  · unfold findD
    have hv:(runV x.c x.l).length≤x.l.length:=by
      unfold runV
      cases okCf x.c.a x.c.z x.c.M
      · exact Nat.zero_le _
      · show (verdF _ _).length≤_
        rw [verd_len];exact Nat.le_refl _
    rcases firstN_spec (hitD x.l (runV x.c x.l) ⟨0,false,x.v,x.w,s,t,x.n⟩) (runV x.c x.l).length with ⟨e,_⟩ | ⟨k,hk,e,_⟩
    · show -1≤firstN _ _∧firstN _ _<4000
      rw [e];omega
    · show -1≤firstN _ _∧firstN _ _<4000
      rw [e];omega
theorem locE_ok:EnvOK locE:=Env_ok (by decide +kernel) (by
  intro p hp
  simp only [List.mem_cons,List.mem_nil_iff,or_false] at hp
  rcases hp with rfl | rfl
  · exact jsl_ok
  · exact plc_ok)
theorem loc_max {a:Int} (h1:-1≤a) (h2:a<4000):mmI false 0 (IntKind.wrap IntKind.i64 (a+1))=max 0 (a+1):=by
  rw [wrap_id (by omega) (by omega)]
  show (if a+1>0 then a+1 else 0)=_
  by_cases h:a+1>0
  · rw [if_pos h];omega
  · rw [if_neg h];omega
set_option maxHeartbeats 0 in
theorem loca_ok:SpecOK Tryz.prog 40 locaT.spec:=by
  refine Tri.ok (E:=locE) locE_ok (n:=1000) locaT fun x hx=>?_
  rw [loca_vc]
  delta locaQ6 locaQ5 locaQ4 locaQ3 locaQ2 locaQ1 EqF
  have hx:(okCf x.c.a x.c.z x.c.M&&okL x.l)=true:=hx
  simp only [Bool.and_eq_true] at hx
  obtain⟨hcf,hL⟩:=hx
  have hok:PlcA.ok ⟨x.c,x.l,⟨0,false,x.v,x.w,1,5,x.n⟩,⟨0,true,⟨3,[],0,0,0,[],[],[],0,0,0⟩,⟨8,0,x.rev,[],0,[],0⟩,7,9,x.n⟩,true⟩=true:=by
    show (okCf x.c.a x.c.z x.c.M&&(okL x.l&&true))=true
    rw [hcf,hL];rfl
  have hb:decide ((0:Int)≤0∧(0:Int)<((slotsD x.l (runV x.c x.l) [⟨0,false,x.v,x.w,1,5,x.n⟩,⟨0,true,⟨3,[],0,0,0,[],[],[],0,0,0⟩,⟨8,0,x.rev,[],0,[],0⟩,7,9,x.n⟩]).length:Int))=true:=rfl
  have hP:(locP 7 9 x).length≤5000:=Nat.le_trans (pla_len _ _ _ _) (by have:=(okL_of hL).1;omega)
  have hm:mmI false 0 (IntKind.wrap IntKind.i64 (locS 1 5 x+1))=max 0 (locS 1 5 x+1):=loc_max (loc_s 1 5 x (okL_of hL).1).1 (loc_s 1 5 x (okL_of hL).1).2
  have hR:locR 1 5 7 9 true x=bif (locP 7 9 x).any (fun p=>decide (p≥mmI false 0 (IntKind.wrap IntKind.i64 (locS 1 5 x+1)))) then -1 else 1:=by
    rw [hm];rfl
  exact⟨⟨⟨x.c,x.l,[⟨0,false,x.v,x.w,1,5,x.n⟩,⟨0,true,⟨3,[],0,0,0,[],[],[],0,0,0⟩,⟨8,0,x.rev,[],0,[],0⟩,7,9,x.n⟩]⟩,rfl,rfl,rfl,rfl,rfl,rfl,rfl,rfl,rfl,rfl,rfl,hL,fun _ _=>twice ⟨⟨x.c,x.l,⟨0,false,x.v,x.w,1,5,x.n⟩,⟨0,true,⟨3,[],0,0,0,[],[],[],0,0,0⟩,⟨8,0,x.rev,[],0,[],0⟩,7,9,x.n⟩,true⟩,rfl,rfl,rfl,rfl,rfl,rfl,rfl,rfl,rfl,rfl,rfl,hok,fun _ _ _ _ _=>br_t hb fun h8=>loc_fin hR hP⟩⟩,⟨⟨x.c,x.l,[⟨0,false,x.v,x.w,1,5,x.n⟩,⟨0,true,⟨3,[],0,0,0,[],[],[],0,0,0⟩,⟨8,0,x.rev,[],0,[],0⟩,7,9,x.n⟩]⟩,rfl,rfl,rfl,rfl,rfl,rfl,rfl,rfl,rfl,rfl,rfl,hL,fun _ _=>⟨⟨x.c,x.l,⟨0,false,x.v,x.w,1,5,x.n⟩,⟨0,true,⟨3,[],0,0,0,[],[],[],0,0,0⟩,⟨8,0,x.rev,[],0,[],0⟩,7,9,x.n⟩,true⟩,rfl,rfl,rfl,rfl,rfl,rfl,rfl,rfl,rfl,rfl,rfl,hok,fun _ _ _ _ _=>br_t hb fun h8=>loc_fin hR hP⟩⟩⟩
set_option maxHeartbeats 0 in
theorem locb_ok:SpecOK Tryz.prog 40 locbT.spec:=by
  refine Tri.ok (E:=locE) locE_ok (n:=1000) locbT fun x hx=>?_
  rw [locb_vc]
  delta locbQ6 locbQ5 locbQ4 locbQ3 locbQ2 locbQ1 EqF
  have hx:(okCf x.c.a x.c.z x.c.M&&okL x.l)=true:=hx
  simp only [Bool.and_eq_true] at hx
  obtain⟨hcf,hL⟩:=hx
  have hok:PlcA.ok ⟨x.c,x.l,⟨0,false,x.v,x.w,1,5,x.n⟩,⟨0,true,⟨3,[],0,0,0,[],[],[],0,0,0⟩,⟨8,0,x.rev,[],0,[],0⟩,7,9,x.n⟩,true⟩=true:=by
    show (okCf x.c.a x.c.z x.c.M&&(okL x.l&&true))=true
    rw [hcf,hL];rfl
  have hb:decide ((0:Int)≤0∧(0:Int)<((slotsD x.l (runV x.c x.l) [⟨0,false,x.v,x.w,1,5,x.n⟩,⟨0,true,⟨3,[],0,0,0,[],[],[],0,0,0⟩,⟨8,0,x.rev,[],0,[],0⟩,7,9,x.n⟩]).length:Int))=true:=rfl
  have hP:(locP 7 9 x).length≤5000:=Nat.le_trans (pla_len _ _ _ _) (by have:=(okL_of hL).1;omega)
  have hR:locR 1 5 7 9 false x=bif (locP 7 9 x).any (fun p=>decide (p≥(0:Int))) then -1 else 1:=rfl
  exact⟨⟨⟨x.c,x.l,[⟨0,false,x.v,x.w,1,5,x.n⟩,⟨0,true,⟨3,[],0,0,0,[],[],[],0,0,0⟩,⟨8,0,x.rev,[],0,[],0⟩,7,9,x.n⟩]⟩,rfl,rfl,rfl,rfl,rfl,rfl,rfl,rfl,rfl,rfl,rfl,hL,fun _ _=>twice ⟨⟨x.c,x.l,⟨0,false,x.v,x.w,1,5,x.n⟩,⟨0,true,⟨3,[],0,0,0,[],[],[],0,0,0⟩,⟨8,0,x.rev,[],0,[],0⟩,7,9,x.n⟩,true⟩,rfl,rfl,rfl,rfl,rfl,rfl,rfl,rfl,rfl,rfl,rfl,hok,fun _ _ _ _ _=>fun h8=>loc_fin hR hP⟩⟩,⟨⟨x.c,x.l,[⟨0,false,x.v,x.w,1,5,x.n⟩,⟨0,true,⟨3,[],0,0,0,[],[],[],0,0,0⟩,⟨8,0,x.rev,[],0,[],0⟩,7,9,x.n⟩]⟩,rfl,rfl,rfl,rfl,rfl,rfl,rfl,rfl,rfl,rfl,rfl,hL,fun _ _=>⟨⟨x.c,x.l,⟨0,false,x.v,x.w,1,5,x.n⟩,⟨0,true,⟨3,[],0,0,0,[],[],[],0,0,0⟩,⟨8,0,x.rev,[],0,[],0⟩,7,9,x.n⟩,true⟩,rfl,rfl,rfl,rfl,rfl,rfl,rfl,rfl,rfl,rfl,rfl,hok,fun _ _ _ _ _=>fun h8=>loc_fin hR hP⟩⟩⟩
set_option maxHeartbeats 0 in
theorem locc_ok:SpecOK Tryz.prog 40 loccT.spec:=by
  refine Tri.ok (E:=locE) locE_ok (n:=1000) loccT fun x hx=>?_
  rw [locc_vc]
  delta loccQ7 loccQ6 loccQ5 loccQ4 loccQ3 loccQ2 loccQ1 EqF
  have hx:(okCf x.c.a x.c.z x.c.M&&okL x.l)=true:=hx
  simp only [Bool.and_eq_true] at hx
  obtain⟨hcf,hL⟩:=hx
  have hok:PlcA.ok ⟨x.c,x.l,⟨0,false,x.v,x.w,1,10,x.n⟩,⟨0,true,⟨3,[],0,0,0,[],[],[],0,0,0⟩,⟨8,0,x.rev,[],0,[],0⟩,20,21,x.n⟩,true⟩=true:=by
    show (okCf x.c.a x.c.z x.c.M&&(okL x.l&&true))=true
    rw [hcf,hL];rfl
  have hb:decide ((0:Int)≤0∧(0:Int)<((slotsD x.l (runV x.c x.l) [⟨0,false,x.v,x.w,1,10,x.n⟩,⟨0,true,⟨3,[],0,0,0,[],[],[],0,0,0⟩,⟨8,0,x.rev,[],0,[],0⟩,20,21,x.n⟩]).length:Int))=true:=rfl
  have hP:(locP 20 21 x).length≤5000:=Nat.le_trans (pla_len _ _ _ _) (by have:=(okL_of hL).1;omega)
  have hm:mmI false 0 (IntKind.wrap IntKind.i64 (locS 1 10 x+1))=max 0 (locS 1 10 x+1):=loc_max (loc_s 1 10 x (okL_of hL).1).1 (loc_s 1 10 x (okL_of hL).1).2
  have hR:locR 1 10 20 21 true x=bif (locP 20 21 x).any (fun p=>decide (p≥mmI false 0 (IntKind.wrap IntKind.i64 (locS 1 10 x+1)))) then -1 else 1:=by
    rw [hm];rfl
  exact⟨⟨⟨x.c,x.l,[⟨0,false,x.v,x.w,1,10,x.n⟩,⟨0,true,⟨3,[],0,0,0,[],[],[],0,0,0⟩,⟨8,0,x.rev,[],0,[],0⟩,20,21,x.n⟩]⟩,rfl,rfl,rfl,rfl,rfl,rfl,rfl,rfl,rfl,rfl,rfl,hL,fun _ _=>twice ⟨⟨x.c,x.l,⟨0,false,x.v,x.w,1,10,x.n⟩,⟨0,true,⟨3,[],0,0,0,[],[],[],0,0,0⟩,⟨8,0,x.rev,[],0,[],0⟩,20,21,x.n⟩,true⟩,rfl,rfl,rfl,rfl,rfl,rfl,rfl,rfl,rfl,rfl,rfl,hok,fun _ _ _ _ _=>br_t hb fun h8=>loc_fin hR hP⟩⟩,⟨⟨x.c,x.l,[⟨0,false,x.v,x.w,1,10,x.n⟩,⟨0,true,⟨3,[],0,0,0,[],[],[],0,0,0⟩,⟨8,0,x.rev,[],0,[],0⟩,20,21,x.n⟩]⟩,rfl,rfl,rfl,rfl,rfl,rfl,rfl,rfl,rfl,rfl,rfl,hL,fun _ _=>⟨⟨x.c,x.l,⟨0,false,x.v,x.w,1,10,x.n⟩,⟨0,true,⟨3,[],0,0,0,[],[],[],0,0,0⟩,⟨8,0,x.rev,[],0,[],0⟩,20,21,x.n⟩,true⟩,rfl,rfl,rfl,rfl,rfl,rfl,rfl,rfl,rfl,rfl,rfl,hok,fun _ _ _ _ _=>br_t hb fun h8=>loc_fin hR hP⟩⟩⟩
set_option maxHeartbeats 0 in
theorem locd_ok:SpecOK Tryz.prog 40 locdT.spec:=by
  refine Tri.ok (E:=locE) locE_ok (n:=1000) locdT fun x hx=>?_
  rw [locd_vc]
  delta locdQ6 locdQ5 locdQ4 locdQ3 locdQ2 locdQ1 EqF
  have hx:(okCf x.c.a x.c.z x.c.M&&okL x.l)=true:=hx
  simp only [Bool.and_eq_true] at hx
  obtain⟨hcf,hL⟩:=hx
  have hok:PlcA.ok ⟨x.c,x.l,⟨0,false,x.v,x.w,1,10,x.n⟩,⟨0,true,⟨3,[],0,0,0,[],[],[],0,0,0⟩,⟨8,0,x.rev,[],0,[],0⟩,20,21,x.n⟩,true⟩=true:=by
    show (okCf x.c.a x.c.z x.c.M&&(okL x.l&&true))=true
    rw [hcf,hL];rfl
  have hb:decide ((0:Int)≤0∧(0:Int)<((slotsD x.l (runV x.c x.l) [⟨0,false,x.v,x.w,1,10,x.n⟩,⟨0,true,⟨3,[],0,0,0,[],[],[],0,0,0⟩,⟨8,0,x.rev,[],0,[],0⟩,20,21,x.n⟩]).length:Int))=true:=rfl
  have hP:(locP 20 21 x).length≤5000:=Nat.le_trans (pla_len _ _ _ _) (by have:=(okL_of hL).1;omega)
  have hR:locR 1 10 20 21 false x=bif (locP 20 21 x).any (fun p=>decide (p≥(0:Int))) then -1 else 1:=rfl
  exact⟨⟨⟨x.c,x.l,[⟨0,false,x.v,x.w,1,10,x.n⟩,⟨0,true,⟨3,[],0,0,0,[],[],[],0,0,0⟩,⟨8,0,x.rev,[],0,[],0⟩,20,21,x.n⟩]⟩,rfl,rfl,rfl,rfl,rfl,rfl,rfl,rfl,rfl,rfl,rfl,hL,fun _ _=>twice ⟨⟨x.c,x.l,⟨0,false,x.v,x.w,1,10,x.n⟩,⟨0,true,⟨3,[],0,0,0,[],[],[],0,0,0⟩,⟨8,0,x.rev,[],0,[],0⟩,20,21,x.n⟩,true⟩,rfl,rfl,rfl,rfl,rfl,rfl,rfl,rfl,rfl,rfl,rfl,hok,fun _ _ _ _ _=>fun h8=>loc_fin hR hP⟩⟩,⟨⟨x.c,x.l,[⟨0,false,x.v,x.w,1,10,x.n⟩,⟨0,true,⟨3,[],0,0,0,[],[],[],0,0,0⟩,⟨8,0,x.rev,[],0,[],0⟩,20,21,x.n⟩]⟩,rfl,rfl,rfl,rfl,rfl,rfl,rfl,rfl,rfl,rfl,rfl,hL,fun _ _=>⟨⟨x.c,x.l,⟨0,false,x.v,x.w,1,10,x.n⟩,⟨0,true,⟨3,[],0,0,0,[],[],[],0,0,0⟩,⟨8,0,x.rev,[],0,[],0⟩,20,21,x.n⟩,true⟩,rfl,rfl,rfl,rfl,rfl,rfl,rfl,rfl,rfl,rfl,rfl,hok,fun _ _ _ _ _=>fun h8=>loc_fin hR hP⟩⟩⟩
end Go.Proofs.YtgepebndihfnfaaGreat.Ses
