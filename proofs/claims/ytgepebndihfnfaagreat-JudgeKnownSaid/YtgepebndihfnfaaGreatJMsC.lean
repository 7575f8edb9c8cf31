/- Members change; what a machine tells; the law MachineKnown. No condition. -/
import Derived.Test.YtgepebndihfnfaaGreatJMsB
import Derived.KernelRfl
set_option linter.unusedSimpArgs false
set_option linter.unusedVariables false

namespace Go.Proofs.YtgepebndihfnfaaGreat.Ses
open Go Go.Proofs Go.Proofs.YtgepebndihfnfaaGreat.Sx
noncomputable def echgE:Envr:=Env Tryz.prog cod [(270,binT.spec),(271,innT.spec),(272,delT.spec)] []
structure ChgB where
  alpha:Int
  E:List EpochD
  slot:Int
  member:Int
def toA (x:ChgB) (b:Bool):ChgA:=⟨x.alpha,x.E,x.slot,x.member,b⟩
noncomputable def echtT:Tri:={γ:=ChgB,n0:=2,args:=fun x=>[.mptr 0 0,.int .i64 x.slot,.int .i64 x.member,.bool true],blks:=fun x=>epB x.alpha x.E 0 1,pre:=fun x=>okEp x.alpha x.E=true∧(0≤x.slot∧x.slot≤2199023255552),δ:=Unit,post:=fun _ _=>True,n1:=1,res:=fun x _=>.int .i64 (chgE (toA x true)).1,blks':=fun x _=>epB x.alpha (chgE (toA x true)).2 0 2,scal:=false}
noncomputable def echfT:Tri:={γ:=ChgB,n0:=2,args:=fun x=>[.mptr 0 0,.int .i64 x.slot,.int .i64 x.member,.bool false],blks:=fun x=>epB x.alpha x.E 0 1,pre:=fun x=>okEp x.alpha x.E=true∧(0≤x.slot∧x.slot≤2199023255552),δ:=Unit,post:=fun _ _=>True,n1:=1,res:=fun x _=>.int .i64 (chgE (toA x false)).1,blks':=fun x _=>epB x.alpha (chgE (toA x false)).2 0 2,scal:=false}
set_option maxRecDepth 100000
abbrev echtQ1 (x:echtT.γ):=EqT (ChgB.alpha x) (ChgB.alpha x) (ChgB.E x) (chgE (toA x true)).2 True
abbrev echtQ2 (x:echtT.γ):=∃x1:Unit,(12:Int)=(chgE (toA x true)).1∧
echtQ1 x
abbrev echtQ3 (x:echtT.γ):=IntKind.wrap IntKind.i64 ((↑(ChgB.E x).length:Int)-(1:Int))
abbrev echtQ4 (x:echtT.γ):=List.getD (ChgB.E x) (0+(echtQ3 x).toNat) (EpochD.mk (0:Int) ([]:List Int))
abbrev echtQ5 (x:echtT.γ):=∃x6:Unit,(1:Int)=(chgE (toA x true)).1∧
echtQ1 x
abbrev echtQ6 (x2:BnsA) (x13:InnA):=(↑(@List.countP Int (fun x14:Int=>decide (x14<x2.m)) x2.l):Int)=(↑x13.i:Int)
abbrev echtQ7 (x:echtT.γ) (x13:InnA):=[EpochD.mk (IntKind.wrap IntKind.i64 (ChgB.slot x+ChgB.alpha x)) (innAt x13.l x13.i x13.m)]
abbrev echtQ8 (x:echtT.γ) (x13:InnA):=[ChgB.member x]=[x13.m]∧
((1≤x13.l.length∧
x13.l.length≤1000)∧
x13.i≤x13.l.length)∧
∀x15:Unit,True→
Nat.le ((ChgB.E x).length*32) room47∧
Nat.le (1*32) room47→
br (Bool.and (Bool.and (decide (0+1≤(echtQ7 x x13).length)) (decide (0+(ChgB.E x).length≤(ChgB.E x).length))) (decide (((ChgB.E x).length+(List.take 1 (List.drop 0 (echtQ7 x x13))).length)*32≤room47))) (∃x16:Unit,(0:Int)=(chgE (toA x true)).1∧
ChgB.alpha x=ChgB.alpha x∧
0=0∧
(ChgB.E x).length+(List.take 1 (List.drop 0 (echtQ7 x x13))).length=(chgE (toA x true)).2.length∧
@HAppend.hAppend (List EpochD) (List EpochD) (List EpochD) _ (List.take (ChgB.E x).length (List.drop 0 (ChgB.E x))) (List.take 1 (List.drop 0 (echtQ7 x x13)))=(chgE (toA x true)).2∧
True) (Bad "check" "epoch.go:113")
theorem echt_vc (x:echtT.γ):evCall echgE (ev echgE 1000) 253 (echtT.args x) ⟨echtT.blks x,echtT.n0,[]⟩ (fun _ _=>False) (echtT.ends x)=(
(ChgB.E x).length*32≤room47→
br (decide ((↑(ChgB.E x).length:Int)>(0:Int))).not (echtQ2 x) ((ChgB.E x).length*32≤room47→
br (decide ((0:Int)≤echtQ3 x∧
echtQ3 x<(↑(ChgB.E x).length:Int))) (br (decide (0+(echtQ3 x).toNat<(ChgB.E x).length)) (∃x2:BnsA,(echtQ4 x).members=x2.l∧
ChgB.member x=x2.m∧
(@List.Pairwise Int (fun x3:Int=>fun x4:Int=>x3≤x4) x2.l∧
0<x2.l.length∧
x2.l.length≤1000)∧
∀x5:Unit,True→
br (decide (ChgB.slot x<(0:Int))) (echtQ5 x) (br (decide (ChgB.slot x>IntKind.wrap IntKind.i64 ((1099511627776:Int)-ChgB.alpha x))) (echtQ5 x) (br (decide (ChgB.member x<(0:Int))) (echtQ5 x) (br (decide (@GE.ge Int _ (ChgB.member x) (15:Int))) (echtQ5 x) (br (decide ((echtQ4 x).from_>ChgB.slot x)) (echtQ2 x) (br (@List.contains Int _ x2.l x2.m) (∃x11:Unit,(9:Int)=(chgE (toA x true)).1∧
echtQ1 x) (∀x12:Bool,(x12=true→
(echtQ4 x).members=([]:List Int))→
br x12 (∃x13:InnA,0=x13.l.length∧
echtQ6 x2 x13∧
0=0∧
1=1∧
([]:List Int)=x13.l∧
echtQ8 x x13) (Nat.le (0*8) room47∧
Nat.le ((echtQ4 x).members.length*8) room47→
br (Bool.and (Bool.and true (decide (0+0≤([]:List Int).length))) (decide ((0+(echtQ4 x).members.length)*8≤room47))) (∃x17:InnA,0=0∧
0+(echtQ4 x).members.length=x17.l.length∧
echtQ6 x2 x17∧
0=0∧
1=1∧
@HAppend.hAppend (List Int) (List Int) (List Int) _ (List.take 0 (List.drop 0 ([]:List Int))) (echtQ4 x).members=x17.l∧
echtQ8 x x17) (Bad "check" "slices.go:362"))))))))) (Bad "check" "epoch.go:93")) (Bad "check" "epoch.go:93"))):=by kernel_rfl
abbrev echfQ1 (x:echfT.γ):=EqT (ChgB.alpha x) (ChgB.alpha x) (ChgB.E x) (chgE (toA x false)).2 True
abbrev echfQ2 (x:echfT.γ):=∃x1:Unit,(12:Int)=(chgE (toA x false)).1∧
echfQ1 x
abbrev echfQ3 (x:echfT.γ):=IntKind.wrap IntKind.i64 ((↑(ChgB.E x).length:Int)-(1:Int))
abbrev echfQ4 (x:echfT.γ):=List.getD (ChgB.E x) (0+(echfQ3 x).toNat) (EpochD.mk (0:Int) ([]:List Int))
abbrev echfQ5 (x:echfT.γ):=∃x6:Unit,(1:Int)=(chgE (toA x false)).1∧
echfQ1 x
abbrev echfQ6 (x2:BnsA):=(↑(@List.countP Int (fun x15:Int=>decide (x15<x2.m)) x2.l):Int)
abbrev echfQ7 (x2:BnsA) (x14:DllA):=IntKind.wrap IntKind.i64 (echfQ6 x2+(1:Int))=(↑(x14.i+1):Int)
abbrev echfQ8 (x:echfT.γ) (x14:DllA):=[EpochD.mk (IntKind.wrap IntKind.i64 (ChgB.slot x+ChgB.alpha x)) (delAt x14.l x14.i)]
abbrev echfQ9 (x14:DllA) (x:echfT.γ):=(x14.l.length≤1000∧
x14.i<x14.l.length)∧
∀x17:Unit,True→
Nat.le ((ChgB.E x).length*32) room47∧
Nat.le (1*32) room47→
br (Bool.and (Bool.and (decide (0+1≤(echfQ8 x x14).length)) (decide (0+(ChgB.E x).length≤(ChgB.E x).length))) (decide (((ChgB.E x).length+(List.take 1 (List.drop 0 (echfQ8 x x14))).length)*32≤room47))) (∃x18:Unit,(0:Int)=(chgE (toA x false)).1∧
ChgB.alpha x=ChgB.alpha x∧
0=0∧
(ChgB.E x).length+(List.take 1 (List.drop 0 (echfQ8 x x14))).length=(chgE (toA x false)).2.length∧
@HAppend.hAppend (List EpochD) (List EpochD) (List EpochD) _ (List.take (ChgB.E x).length (List.drop 0 (ChgB.E x))) (List.take 1 (List.drop 0 (echfQ8 x x14)))=(chgE (toA x false)).2∧
True) (Bad "check" "epoch.go:113")
theorem echf_vc (x:echfT.γ):evCall echgE (ev echgE 1000) 253 (echfT.args x) ⟨echfT.blks x,echfT.n0,[]⟩ (fun _ _=>False) (echfT.ends x)=(
(ChgB.E x).length*32≤room47→
br (decide ((↑(ChgB.E x).length:Int)>(0:Int))).not (echfQ2 x) ((ChgB.E x).length*32≤room47→
br (decide ((0:Int)≤echfQ3 x∧
echfQ3 x<(↑(ChgB.E x).length:Int))) (br (decide (0+(echfQ3 x).toNat<(ChgB.E x).length)) (∃x2:BnsA,(echfQ4 x).members=x2.l∧
ChgB.member x=x2.m∧
(@List.Pairwise Int (fun x3:Int=>fun x4:Int=>x3≤x4) x2.l∧
0<x2.l.length∧
x2.l.length≤1000)∧
∀x5:Unit,True→
br (decide (ChgB.slot x<(0:Int))) (echfQ5 x) (br (decide (ChgB.slot x>IntKind.wrap IntKind.i64 ((1099511627776:Int)-ChgB.alpha x))) (echfQ5 x) (br (decide (ChgB.member x<(0:Int))) (echfQ5 x) (br (decide (@GE.ge Int _ (ChgB.member x) (15:Int))) (echfQ5 x) (br (decide ((echfQ4 x).from_>ChgB.slot x)) (echfQ2 x) (br (@List.contains Int _ x2.l x2.m).not (∃x11:Unit,(8:Int)=(chgE (toA x false)).1∧
echfQ1 x) ((echfQ4 x).members.length*8≤room47→
br ((↑(echfQ4 x).members.length:Int)==(1:Int)) (echfQ5 x) (∀x13:Bool,(x13=true→
(echfQ4 x).members=([]:List Int))→
br x13 (∃x14:DllA,0=x14.l.length∧
echfQ6 x2=(↑x14.i:Int)∧
echfQ7 x2 x14∧
([]:List Int)=x14.l∧
echfQ9 x14 x) (Nat.le (0*8) room47∧
Nat.le ((echfQ4 x).members.length*8) room47→
br (Bool.and (Bool.and true (decide (0+0≤([]:List Int).length))) (decide ((0+(echfQ4 x).members.length)*8≤room47))) (∃x19:DllA,0=0∧
0+(echfQ4 x).members.length=x19.l.length∧
echfQ6 x2=(↑x19.i:Int)∧
echfQ7 x2 x19∧
@HAppend.hAppend (List Int) (List Int) (List Int) _ (List.take 0 (List.drop 0 ([]:List Int))) (echfQ4 x).members=x19.l∧
echfQ9 x19 x) (Bad "check" "slices.go:362")))))))))) (Bad "check" "epoch.go:93")) (Bad "check" "epoch.go:93"))):=by kernel_rfl
theorem upE_all:∀ {M:List Int} {a:Int},upE a M=true→(∀m,m∈M→a<m∧m<15)∧M.Pairwise (· ≤ ·)
  | [],a,_=>⟨fun m h=>(nomatch h),List.Pairwise.nil⟩
  | m::r,a,h=>by
    unfold upE at h
    simp only [Bool.and_eq_true,decide_eq_true_eq] at h
    obtain⟨h1,h2⟩:=upE_all (M:=r) (a:=m) h.2.2
    refine⟨fun y hy=>?_,List.pairwise_cons.2 ⟨fun y hy=>by have:=(h1 y hy).1;omega,h2⟩⟩
    rcases List.mem_cons.1 hy with rfl | hy
    · exact⟨h.1,h.2.1⟩
    · have:=h1 y hy
      omega
theorem mayE_of {M:List Int} (h:mayE M=true):1≤M.length∧M.length≤15∧(∀m,m∈M→0≤m∧m<15)∧M.Pairwise (· ≤ ·):=by
  unfold mayE at h
  simp only [Bool.and_eq_true,decide_eq_true_eq] at h
  obtain⟨h1,h2⟩:=upE_all h.2.2
  exact⟨h.1,h.2.1,fun m hm=>by have:=h1 m hm;omega,h2⟩
theorem echgE_ok:EnvOK echgE:=Env_ok (by decide +kernel) (by
  intro p hp
  simp only [List.mem_cons,List.mem_nil_iff,or_false] at hp
  rcases hp with rfl | rfl | rfl
  · exact bin_ok
  · exact inn_ok
  · exact del_ok)
structure ChgK (x:ChgB):Prop where
  a1:1≤x.alpha
  a8:x.alpha≤8
  e1:1≤x.E.length
  eM:x.E.length≤1000000
  s0:0≤x.slot
  sM:x.slot≤2199023255552
  m1:1≤(lastEp x.E).members.length
  mM:(lastEp x.E).members.length≤15
  mp:(lastEp x.E).members.Pairwise (· ≤ ·)
theorem chgK {x:ChgB} (h:okEp x.alpha x.E=true∧(0≤x.slot∧x.slot≤2199023255552)):ChgK x:=by
  obtain⟨h1,h2,h3,h4,h5⟩:=okEp_of h.1
  have hm:lastEp x.E∈x.E:=getD_mem (by omega)
  obtain⟨m1,m2,_,m3⟩:=mayE_of (h5 _ hm)
  exact⟨h1,h2,h3,h4,h.2.1,h.2.2,m1,m2,m3⟩
theorem last_ix {n:Nat} (h1:1≤n) (h2:n≤1000000):IntKind.i64.wrap ((n:Int)-1)=((n-1:Nat):Int):=by
  rw [wrap_id (by omega) (by omega)];omega
theorem echg_false (y:echfT.γ):(evCall echgE (ev echgE 1000) 253 (echgT.args (toA y false)) ⟨echgT.blks (toA y false),echgT.n0,[]⟩ (fun _ _=>False) (echgT.ends (toA y false)))=(evCall echgE (ev echgE 1000) 253 (echfT.args y) ⟨echfT.blks y,echfT.n0,[]⟩ (fun _ _=>False) (echfT.ends y)):=by kernel_rfl
theorem echg_true (y:echtT.γ):(evCall echgE (ev echgE 1000) 253 (echgT.args (toA y true)) ⟨echgT.blks (toA y true),echgT.n0,[]⟩ (fun _ _=>False) (echgT.ends (toA y true)))=(evCall echgE (ev echgE 1000) 253 (echtT.args y) ⟨echtT.blks y,echtT.n0,[]⟩ (fun _ _=>False) (echtT.ends y)):=by kernel_rfl
theorem echg_split (P:ChgA→Prop) (h1:∀y:ChgB,P (toA y false)) (h2:∀y:ChgB,P (toA y true)):∀x,P x:=by
  rintro ⟨a,b,c,d,e⟩
  cases e
  · exact h1 ⟨a,b,c,d⟩
  · exact h2 ⟨a,b,c,d⟩
set_option maxRecDepth 100000 in
set_option maxHeartbeats 0 in
theorem echg_ok:SpecOK Tryz.prog 253 echgT.spec:=by
  refine Tri.ok (E:=echgE) echgE_ok (n:=1000) echgT (echg_split _ (fun y hx=>?_) (fun y hx=>?_))
  · rw [echg_false y,echf_vc y]
    delta echfQ9 echfQ8 echfQ7 echfQ6 echfQ5 echfQ4 echfQ3 echfQ2 echfQ1 EqT
    have hx2:okEp y.alpha y.E=true∧(0≤y.slot∧y.slot≤2199023255552):=hx
    clear hx
    obtain⟨alpha,E,slot,member⟩:=y
    obtain⟨k1,k2,k3,k4,k5,k6,k7,k8,k9⟩:=chgK (x:=ChgB.mk alpha E slot member) hx2
    clear hx2
    dsimp only at *
    rw [last_ix k3 k4]
    have ei:0+((E.length-1:Nat):Int).toNat=E.length-1:=by simp
    rw [ei]
    have el:E.getD (E.length-1) ⟨0,[]⟩=lastEp E:=rfl
    rw [el]
    have hch:chgE (toA ⟨alpha,E,slot,member⟩ false)=(bif decide (slot<0)||(decide (slot>1099511627776-alpha)||(decide (member<0)||decide (member≥15))) then (1,E)
      else bif decide ((lastEp E).from_>slot) then (12,E)
      else bif false&&(lastEp E).members.contains member then (9,E)
      else bif !false && !((lastEp E).members.contains member) then (8,E)
      else bif !false&&decide ((lastEp E).members.length=1) then (1,E)
      else (0,E++[⟨slot+alpha,bif false then insM (lastEp E).members member else delM (lastEp E).members member⟩])):=rfl
    generalize hM:(lastEp E).members=M at *
    generalize (lastEp E).from_=fr at *
    have wa:IntKind.i64.wrap (1099511627776-alpha)=1099511627776-alpha:=wrap_id (by omega) (by omega)
    rw [wa]
    have hcnt:M.countP (· < member)≤M.length:=List.countP_le_length
    refine fun hr=>br_f (by rw [decide_eq_true (by omega)];rfl) fun _=>br_t (decide_eq_true ⟨by omega,by omega⟩) (br_t (decide_eq_true (by omega)) ⟨⟨M,member⟩,rfl,rfl,⟨k9,by show 0<M.length;omega,by show M.length≤1000;omega⟩,fun _ _=>?_⟩)
    dsimp only
    refine br_i (fun q=>?_) fun q1=>br_i (fun q=>?_) fun q2=>br_i (fun q=>?_) fun q3=>br_i (fun q=>?_) fun q4=>br_i (fun q=>?_) fun q5=>?_
    · have e:chgE (toA ⟨alpha,E,slot,member⟩ false)=(1,E):=by rw [hch,q];rfl
      rw [e];exact⟨(),rfl,rfl,rfl,rfl,rfl,trivial⟩
    · have e:chgE (toA ⟨alpha,E,slot,member⟩ false)=(1,E):=by rw [hch,q1,q];rfl
      rw [e];exact⟨(),rfl,rfl,rfl,rfl,rfl,trivial⟩
    · have e:chgE (toA ⟨alpha,E,slot,member⟩ false)=(1,E):=by rw [hch,q1,q2,q];rfl
      rw [e];exact⟨(),rfl,rfl,rfl,rfl,rfl,trivial⟩
    · have e:chgE (toA ⟨alpha,E,slot,member⟩ false)=(1,E):=by rw [hch,q1,q2,q3,q];rfl
      rw [e];exact⟨(),rfl,rfl,rfl,rfl,rfl,trivial⟩
    · have e:chgE (toA ⟨alpha,E,slot,member⟩ false)=(12,E):=by rw [hch,q1,q2,q3,q4,q];rfl
      rw [e];exact⟨(),rfl,rfl,rfl,rfl,rfl,trivial⟩
    refine br_i (fun q=>?_) fun q6 hz0=>br_i (fun q=>?_) fun q7=>?_
    · have e:chgE (toA ⟨alpha,E,slot,member⟩ false)=(8,E):=by rw [hch,q1,q2,q3,q4,q5,q];rfl
      rw [e];exact⟨(),rfl,rfl,rfl,rfl,rfl,trivial⟩
    · have e7:decide (M.length=1)=true:=by
        have:(M.length:Int)=1:=by simpa using q
        exact decide_eq_true (by omega)
      have e:chgE (toA ⟨alpha,E,slot,member⟩ false)=(1,E):=by rw [hch,q1,q2,q3,q4,q5,q6,e7];rfl
      rw [e];exact⟨(),rfl,rfl,rfl,rfl,rfl,trivial⟩
    have e7:decide (M.length=1)=false:=by
      have:¬(M.length:Int)=1:=by simpa using q7
      exact decide_eq_false (by omega)
    have e:chgE (toA ⟨alpha,E,slot,member⟩ false)=(0,E++[⟨slot+alpha,delM M member⟩]):=by rw [hch,q1,q2,q3,q4,q5,q6,e7];rfl
    rw [e]
    have hin:M.countP (· < member)<M.length:=by
      rw [Bool.not_eq_false',List.contains_iff_mem] at q6
      rcases Nat.lt_or_ge (M.countP (· < member)) M.length with h | h
      · exact h
      · have:=(List.countP_eq_length.1 (Nat.le_antisymm hcnt h)) member q6
        simp at this
    refine fun bb hbb=>br_i (fun hb=>?_) fun _ hz=>br_t ?_ ?_
    · have:=hbb hb
      rw [this] at k7
      exact absurd k7 (by decide)
    · have h2:M.length*8≤room47:=hz.2
      simp only [Nat.zero_add,Bool.true_and,Bool.and_eq_true]
      exact⟨rfl,decide_eq_true h2⟩
    have hs:IntKind.i64.wrap (slot+alpha)=slot+alpha:=wrap_id (by omega) (by omega)
    have hw1:IntKind.i64.wrap (((M.countP (· < member):Nat):Int)+1)=((M.countP (· < member)+1:Nat):Int):=by rw [wrap_id (by omega) (by omega)];omega
    rw [hs]
    refine⟨⟨M,M.countP (· < member)⟩,rfl,by simp,rfl,hw1,by simp,⟨by show M.length≤1000;omega,hin⟩,fun _ _ hz2=>br_t ?_ ⟨(),rfl,rfl,rfl,?_,?_,trivial⟩⟩
    · have hE:E.length*32≤room47:=hz2.1
      simp only [List.length_cons,List.length_nil,List.drop_zero,List.take_succ_cons,List.take_nil,Bool.and_eq_true,decide_eq_true_eq]
      exact⟨⟨by omega,by omega⟩,by unfold room47;omega⟩
    · simp
    · simp [delM,delAt]
  · rw [echg_true y,echt_vc y]
    delta echtQ8 echtQ7 echtQ6 echtQ5 echtQ4 echtQ3 echtQ2 echtQ1 EqT
    have hx2:okEp y.alpha y.E=true∧(0≤y.slot∧y.slot≤2199023255552):=hx
    clear hx
    obtain⟨alpha,E,slot,member⟩:=y
    obtain⟨k1,k2,k3,k4,k5,k6,k7,k8,k9⟩:=chgK (x:=ChgB.mk alpha E slot member) hx2
    clear hx2
    dsimp only at *
    rw [last_ix k3 k4]
    have ei:0+((E.length-1:Nat):Int).toNat=E.length-1:=by simp
    rw [ei]
    have el:E.getD (E.length-1) ⟨0,[]⟩=lastEp E:=rfl
    rw [el]
    have hch:chgE (toA ⟨alpha,E,slot,member⟩ true)=(bif decide (slot<0)||(decide (slot>1099511627776-alpha)||(decide (member<0)||decide (member≥15))) then (1,E)
      else bif decide ((lastEp E).from_>slot) then (12,E)
      else bif true&&(lastEp E).members.contains member then (9,E)
      else bif !true && !((lastEp E).members.contains member) then (8,E)
      else bif !true&&decide ((lastEp E).members.length=1) then (1,E)
      else (0,E++[⟨slot+alpha,bif true then insM (lastEp E).members member else delM (lastEp E).members member⟩])):=rfl
    generalize hM:(lastEp E).members=M at *
    generalize (lastEp E).from_=fr at *
    have wa:IntKind.i64.wrap (1099511627776-alpha)=1099511627776-alpha:=wrap_id (by omega) (by omega)
    rw [wa]
    have hcnt:M.countP (· < member)≤M.length:=List.countP_le_length
    refine fun hr=>br_f (by rw [decide_eq_true (by omega)];rfl) fun _=>br_t (decide_eq_true ⟨by omega,by omega⟩) (br_t (decide_eq_true (by omega)) ⟨⟨M,member⟩,rfl,rfl,⟨k9,by show 0<M.length;omega,by show M.length≤1000;omega⟩,fun _ _=>?_⟩)
    dsimp only
    refine br_i (fun q=>?_) fun q1=>br_i (fun q=>?_) fun q2=>br_i (fun q=>?_) fun q3=>br_i (fun q=>?_) fun q4=>br_i (fun q=>?_) fun q5=>?_
    · have e:chgE (toA ⟨alpha,E,slot,member⟩ true)=(1,E):=by rw [hch,q];rfl
      rw [e];exact⟨(),rfl,rfl,rfl,rfl,rfl,trivial⟩
    · have e:chgE (toA ⟨alpha,E,slot,member⟩ true)=(1,E):=by rw [hch,q1,q];rfl
      rw [e];exact⟨(),rfl,rfl,rfl,rfl,rfl,trivial⟩
    · have e:chgE (toA ⟨alpha,E,slot,member⟩ true)=(1,E):=by rw [hch,q1,q2,q];rfl
      rw [e];exact⟨(),rfl,rfl,rfl,rfl,rfl,trivial⟩
    · have e:chgE (toA ⟨alpha,E,slot,member⟩ true)=(1,E):=by rw [hch,q1,q2,q3,q];rfl
      rw [e];exact⟨(),rfl,rfl,rfl,rfl,rfl,trivial⟩
    · have e:chgE (toA ⟨alpha,E,slot,member⟩ true)=(12,E):=by rw [hch,q1,q2,q3,q4,q];rfl
      rw [e];exact⟨(),rfl,rfl,rfl,rfl,rfl,trivial⟩
    refine br_i (fun q=>?_) fun q6=>?_
    · have e:chgE (toA ⟨alpha,E,slot,member⟩ true)=(9,E):=by rw [hch,q1,q2,q3,q4,q5,q];rfl
      rw [e];exact⟨(),rfl,rfl,rfl,rfl,rfl,trivial⟩
    have e:chgE (toA ⟨alpha,E,slot,member⟩ true)=(0,E++[⟨slot+alpha,insM M member⟩]):=by rw [hch,q1,q2,q3,q4,q5,q6];rfl
    rw [e]
    refine fun bb hbb=>br_i (fun hb=>?_) fun _ hz=>br_t ?_ ?_
    · have:=hbb hb
      rw [this] at k7
      exact absurd k7 (by decide)
    · have h2:M.length*8≤room47:=hz.2
      simp only [Nat.zero_add,Bool.true_and,Bool.and_eq_true]
      exact⟨rfl,decide_eq_true h2⟩
    have hs:IntKind.i64.wrap (slot+alpha)=slot+alpha:=wrap_id (by omega) (by omega)
    rw [hs]
    refine⟨⟨M,M.countP (· < member),member⟩,rfl,by simp,rfl,rfl,rfl,by simp,rfl,⟨⟨k7,by show M.length≤1000;omega⟩,hcnt⟩,fun _ _ hz2=>br_t ?_ ⟨(),rfl,rfl,rfl,?_,?_,trivial⟩⟩
    · have hE:E.length*32≤room47:=hz2.1
      simp only [List.length_cons,List.length_nil,List.drop_zero,List.take_succ_cons,List.take_nil,Bool.and_eq_true,decide_eq_true_eq]
      exact⟨⟨by omega,by omega⟩,by unfold room47;omega⟩
    · simp
    · simp [insM,innAt]
def fresh0:MacS:=⟨2,3,0,[],[],[⟨0,[0,1,2]⟩]⟩
def okQ (r:RequestD):Bool:=decide (r.name.length≤300)&&(decide (r.ref.length≤300)&&(decide (r.path.length≤300)&&(decide (r.changes.length≤40)&&r.changes.all fun c=>decide (c.path.length≤300))))
def roomM (l:List RequestD) (most:Int):Bool:=decide ((l.length:Int)≤most)&&l.all okQ
structure RmA where
  l:List RequestD
  most:Int
noncomputable def mroomT:Tri:={γ:=RmA,n0:=0,args:=fun x=>[.rslice false .request x.l,.int .i64 x.most],blks:=fun _=>[],pre:=fun _=>True,δ:=Unit,post:=fun _ _=>True,n1:=0,res:=fun x _=>.bool (roomM x.l x.most),blks':=fun _ _=>[],scal:=true}
noncomputable def mroomI4:St→LInv:=fun s=>match getE s.env 0 with
  | .rslice _ .request l=>{σ:=Nat,I:=fun i=>i≤l.length∧(l.take i).all okQ=true,μ:=fun i=>l.length-i,env:=fun i=>[(5,.int .i64 i)],blk:=fun _=>[],fresh:=0,drop:=[]}
  | _=>LInv.none
noncomputable def mroomI9:St→LInv:=fun s=>match getE s.env 0,getE s.env 5 with
  | .rslice _ .request l,.int _ i=>{σ:=Nat,I:=fun k=>k≤(l.getD i.toNat RequestD.dflt).changes.length∧((l.getD i.toNat RequestD.dflt).changes.take k).all (fun c=>decide (c.path.length≤300))=true,μ:=fun k=>(l.getD i.toNat RequestD.dflt).changes.length-k,env:=fun k=>[(6,.int .i64 k)],blk:=fun _=>[],fresh:=0,drop:=[]}
  | _,_=>LInv.none
noncomputable def mroomE:Envr:=Env Tryz.prog cod [] [(4,mroomI4),(9,mroomI9)]
structure MatA where
  x:MacS
  slot:Int
noncomputable def sintT:Tri:={γ:=List Int,n0:=0,args:=fun l=>[.rslice false .int l,.rslice false .int l],blks:=fun _=>[],pre:=fun _=>True,δ:=Unit,post:=fun _ _=>True,n1:=0,res:=fun _ _=>.bool true,blks':=fun _ _=>[],scal:=true}
noncomputable def upI (is sl:Nat):St→LInv:=fun s=>match getE s.env sl with
  | .rslice _ c l=>{σ:=Nat,I:=fun i=>i≤l.length,μ:=fun i=>l.length-i,env:=fun i=>[(is,.int .i64 i)],blk:=fun _=>[],fresh:=0,drop:=[]}
  | _=>LInv.none
noncomputable def sintE:Envr:=Env Tryz.prog cod [] [(4,upI 5 0)]
set_option maxRecDepth 100000
abbrev mroomQ1 (x:mroomT.γ):=∃x1:Unit,false=roomM (RmA.l x) (RmA.most x)∧
True
abbrev mroomQ2 (x2:Nat) (x:mroomT.γ):=x2≤(RmA.l x).length∧
List.all (List.take x2 (RmA.l x)) okQ=true
abbrev mroomQ3 (x3:Nat) (x:mroomT.γ):=decide ((0:Int)≤(↑x3:Int)∧
(↑x3:Int)<(↑(RmA.l x).length:Int))
abbrev mroomQ4 (x:mroomT.γ) (x3:Nat):=List.getD (RmA.l x) (↑x3:Int).toNat (RequestD.mk (0:Int) ([]:List UInt8) (0:Int) (0:Int) (0:Int) ([]:List UInt8) ([]:List ChangeD) ([]:List UInt8) (0:Int) (0:Int) (0:Int))
abbrev mroomQ5 (x8:Nat) (x:mroomT.γ) (x3:Nat):=x8≤(List.getD (RmA.l x) (↑x3:Int).toNat RequestD.dflt).changes.length∧
List.all (List.take x8 (List.getD (RmA.l x) (↑x3:Int).toNat RequestD.dflt).changes) (fun x9:ChangeD=>decide (x9.path.length≤300))=true
abbrev mroomQ6 (x:mroomT.γ) (x3:Nat) (x10:Nat):=(List.getD (mroomQ4 x x3).changes (↑x10:Int).toNat (ChangeD.mk ([]:List UInt8) false (0:Int))).path.length
theorem mroom_vc (x:mroomT.γ):evCall mroomE (ev mroomE 1000) 20 (mroomT.args x) ⟨mroomT.blks x,mroomT.n0,[]⟩ (fun _ _=>False) (mroomT.ends x)=(
(RmA.l x).length*128≤room47→
br (decide ((↑(RmA.l x).length:Int)>RmA.most x)) (mroomQ1 x) ((∃x2:Nat,(0:Int)=(↑x2:Int)∧
mroomQ2 x2 x)∧
∀x3:Nat,mroomQ2 x3 x→
(RmA.l x).length*128≤room47→
br (decide ((↑x3:Int)<(↑(RmA.l x).length:Int))) (br (mroomQ3 x3 x) ((mroomQ4 x x3).name.length≤maxI64→
br (decide ((↑(mroomQ4 x x3).name.length:Int)>(300:Int))) (mroomQ1 x) (br (mroomQ3 x3 x) ((mroomQ4 x x3).ref.length≤maxI64→
br (decide ((↑(mroomQ4 x x3).ref.length:Int)>(300:Int))) (mroomQ1 x) (br (mroomQ3 x3 x) ((mroomQ4 x x3).path.length≤maxI64→
br (decide ((↑(mroomQ4 x x3).path.length:Int)>(300:Int))) (mroomQ1 x) (br (mroomQ3 x3 x) ((mroomQ4 x x3).changes.length*32≤room47→
br (decide ((↑(mroomQ4 x x3).changes.length:Int)>(40:Int))) (mroomQ1 x) ((∃x8:Nat,(0:Int)=(↑x8:Int)∧
mroomQ5 x8 x x3)∧
∀x10:Nat,mroomQ5 x10 x x3→
br (mroomQ3 x3 x) ((mroomQ4 x x3).changes.length*32≤room47→
br (decide ((↑x10:Int)<(↑(mroomQ4 x x3).changes.length:Int))) (br (mroomQ3 x3 x) (br (decide ((0:Int)≤(↑x10:Int)∧
(↑x10:Int)<(↑(mroomQ4 x x3).changes.length:Int))) (mroomQ6 x x3 x10≤maxI64→
br (decide ((↑(mroomQ6 x x3 x10):Int)>(300:Int))) (mroomQ1 x) (∃x13:Nat,IntKind.wrap IntKind.i64 ((↑x10:Int)+(1:Int))=(↑x13:Int)∧
mroomQ5 x13 x x3∧
Nat.sub (List.getD (RmA.l x) (↑x3:Int).toNat RequestD.dflt).changes.length x13<Nat.sub (List.getD (RmA.l x) (↑x3:Int).toNat RequestD.dflt).changes.length x10)) (Bad "check" "law.go:48")) (Bad "check" "law.go:48")) (∃x15:Nat,IntKind.wrap IntKind.i64 ((↑x3:Int)+(1:Int))=(↑x15:Int)∧
mroomQ2 x15 x∧
Nat.sub (RmA.l x).length x15<Nat.sub (RmA.l x).length x3)) (Bad "check" "law.go:47"))) (Bad "check" "law.go:44"))) (Bad "check" "law.go:44"))) (Bad "check" "law.go:44"))) (Bad "check" "law.go:44")) (∃x16:Unit,true=roomM (RmA.l x) (RmA.most x)∧
True))):=by kernel_rfl
abbrev sintQ1  := ∃x1:Unit,false=true∧
True
abbrev sintQ2 (x3:Nat) (x:sintT.γ):=decide ((0:Int)≤(↑x3:Int)∧
(↑x3:Int)<(↑(List.length x):Int))
theorem sint_vc (x:sintT.γ):evCall sintE (ev sintE 1000) 42 (sintT.args x) ⟨sintT.blks x,sintT.n0,[]⟩ (fun _ _=>False) (sintT.ends x)=(
List.length x*8≤room47→
List.length x*8≤room47→
br ((↑(List.length x):Int) != (↑(List.length x):Int)) sintQ1 ((∃x2:Nat,(0:Int)=(↑x2:Int)∧
Nat.le x2 (List.length x))∧
∀x3:Nat,Nat.le x3 (List.length x)→
List.length x*8≤room47→
br (decide ((↑x3:Int)<(↑(List.length x):Int))) (br (sintQ2 x3 x) (br (sintQ2 x3 x) (br (List.getD x (↑x3:Int).toNat (Int.ofNat 0) != List.getD x (↑x3:Int).toNat (Int.ofNat 0)) sintQ1 (∃x5:Nat,IntKind.wrap IntKind.i64 ((↑x3:Int)+(1:Int))=(↑x5:Int)∧
Nat.le x5 (List.length x)∧
Nat.sub (List.length x) x5<Nat.sub (List.length x) x3)) (Bad "check" "ref.go:193")) (Bad "check" "ref.go:193")) (∃x6:Unit,true=true∧
True))):=by kernel_rfl
theorem okQ_split (r:RequestD):okQ r=(decide (r.name.length≤300)&&(decide (r.ref.length≤300)&&(decide (r.path.length≤300)&&(decide (r.changes.length≤40)&&r.changes.all fun c=>decide (c.path.length≤300))))):=rfl
theorem room_bad {x:RmA} {i:Nat} (hi:i<x.l.length) (h:okQ (x.l.getD i RequestD.dflt)=false):false=roomM x.l x.most:=by
  unfold roomM
  have:x.l.all okQ=false:=by
    rw [List.all_eq_false]
    exact⟨_,getD_mem hi,by rw [h];decide⟩
  rw [this,Bool.and_false]
set_option maxHeartbeats 0 in
theorem mroom_ok:SpecOK Tryz.prog 20 mroomT.spec:=by
  refine Tri.ok (E:=mroomE) (Env_ok (by decide +kernel) (by simp)) (n:=1000) mroomT fun x hx=>?_
  rw [mroom_vc]
  delta mroomQ6 mroomQ5 mroomQ4 mroomQ3 mroomQ2 mroomQ1
  clear hx
  revert x
  intro (x:RmA)
  refine fun hl=>br_i (fun h=>⟨(),?_,trivial⟩) fun h0=>⟨⟨0,rfl,Nat.zero_le _,rfl⟩,fun i hi hb=>br_i (fun h1=>?_) (fun h1=>⟨(),?_,trivial⟩)⟩
  · have:=of_decide_eq_true h
    unfold roomM
    rw [decide_eq_false (by omega:¬(x.l.length:Int)≤x.most)];rfl
  · obtain⟨i1,i2⟩:=hi
    have h1:=of_decide_eq_true h1
    have hlt:i<x.l.length:=by omega
    have bi:decide ((0:Int)≤(i:Int)∧(i:Int)<(x.l.length:Int))=true:=decide_eq_true ⟨by omega,h1⟩
    have e0:(i:Int).toNat=i:=rfl
    rw [e0]
    have eg:x.l.getD i ⟨0,[],0,0,0,[],[],[],0,0,0⟩=x.l.getD i RequestD.dflt:=rfl
    rw [eg]
    have hbad:=room_bad (x:=x) hlt
    have hsp:=okQ_split (x.l.getD i RequestD.dflt)
    have htake:x.l.take (i+1)=x.l.take i++[x.l.getD i RequestD.dflt]:=take_succ_getD _ hlt
    generalize x.l.getD i RequestD.dflt=r at hbad hsp htake ⊢
    have hsm:x.l.length≤1099511627776:=by unfold room47 at hl;omega
    refine br_t bi fun _=>br_i (fun q=>⟨(),hbad ?_,trivial⟩) fun q1=>br_t bi fun _=>br_i (fun q=>⟨(),hbad ?_,trivial⟩) fun q2=>br_t bi fun _=>br_i (fun q=>⟨(),hbad ?_,trivial⟩) fun q3=>br_t bi fun _=>br_i (fun q=>⟨(),hbad ?_,trivial⟩) fun q4=>⟨⟨0,rfl,Nat.zero_le _,rfl⟩,fun k hk=>br_t bi fun _=>br_i (fun h2=>?_) (fun h2=>?_)⟩
    · rw [hsp,decide_eq_false (by have:=of_decide_eq_true q;omega:¬r.name.length≤300)];rfl
    · rw [hsp,decide_eq_false (by have:=of_decide_eq_true q;omega:¬r.ref.length≤300)];simp
    · rw [hsp,decide_eq_false (by have:=of_decide_eq_true q;omega:¬r.path.length≤300)];simp
    · rw [hsp,decide_eq_false (by have:=of_decide_eq_true q;omega:¬r.changes.length≤40)];simp
    · obtain⟨k1,k2⟩:=hk
      have h2:=of_decide_eq_true h2
      have q4:=of_decide_eq_false q4
      have hk3:k<r.changes.length:=by omega
      have ek:(k:Int).toNat=k:=rfl
      rw [ek]
      have eg2:r.changes.getD k ⟨[],false,0⟩=r.changes.getD k noC:=rfl
      rw [eg2]
      refine br_t bi (br_t (decide_eq_true ⟨by omega,h2⟩) fun _=>br_i (fun q=>⟨(),hbad ?_,trivial⟩) fun q5=>⟨k+1,by rw [wrap_id (by omega) (by omega)];rfl,⟨by omega,?_⟩,by show r.changes.length-(k+1)<r.changes.length-k;omega⟩)
      · have hf:r.changes.all (fun c=>decide (c.path.length≤300))=false:=by
          rw [List.all_eq_false]
          have h9:=of_decide_eq_true q
          exact⟨_,getD_mem (d:=noC) hk3,fun e=>by have:=of_decide_eq_true e;omega⟩
        rw [hsp,hf];simp
      · rw [take_succ_getD noC hk3,List.all_append,k2]
        have h9:=of_decide_eq_false q5
        show (true&&(decide ((r.changes.getD k noC).path.length≤300)&&true))=true
        rw [decide_eq_true (by omega)];rfl
    · obtain⟨k1,k2⟩:=hk
      have h2:=of_decide_eq_false h2
      have hke:k=r.changes.length:=by omega
      rw [hke,List.take_length] at k2
      have hr:okQ r=true:=by
        rw [hsp,k2,decide_eq_true (by have:=of_decide_eq_false q1;omega:r.name.length≤300),decide_eq_true (by have:=of_decide_eq_false q2;omega:r.ref.length≤300),decide_eq_true (by have:=of_decide_eq_false q3;omega:r.path.length≤300),decide_eq_true (by have:=of_decide_eq_false q4;omega:r.changes.length≤40)]
        rfl
      refine⟨i+1,by rw [wrap_id (by omega) (by omega)];rfl,⟨by omega,?_⟩,by show x.l.length-(i+1)<x.l.length-i;omega⟩
      rw [htake,List.all_append,i2]
      simp [hr]
  · obtain⟨i1,i2⟩:=hi
    have h1:=of_decide_eq_false h1
    have h0:=of_decide_eq_false h0
    have:i=x.l.length:=by omega
    rw [this,List.take_length] at i2
    unfold roomM
    rw [i2,decide_eq_true (by omega:(x.l.length:Int)≤x.most)];rfl
theorem sint_ok:SpecOK Tryz.prog 42 sintT.spec:=by
  refine Tri.ok (E:=sintE) (Env_ok (by decide +kernel) (by simp)) (n:=1000) sintT fun x hx=>?_
  rw [sint_vc]
  delta sintQ2 sintQ1
  clear hx
  revert x
  intro (x:List Int)
  refine fun hl _=>br_f (by simp) ⟨⟨0,rfl,Nat.zero_le _⟩,fun i hi _=>br_i (fun h1=>?_) (fun _=>⟨(),rfl,trivial⟩)⟩
  have h1:=of_decide_eq_true h1
  have hi:i≤x.length:=hi
  have hsm:x.length≤17592186044416:=by unfold room47 at hl;omega
  have bi:decide ((0:Int)≤(i:Int)∧(i:Int)<(x.length:Int))=true:=decide_eq_true ⟨by omega,h1⟩
  exact br_t bi (br_t bi (br_f (by simp) ⟨i+1,by rw [wrap_id (by omega) (by omega)];rfl,by show i+1≤x.length;omega,by show x.length-(i+1)<x.length-i;omega⟩))
end Go.Proofs.YtgepebndihfnfaaGreat.Ses
