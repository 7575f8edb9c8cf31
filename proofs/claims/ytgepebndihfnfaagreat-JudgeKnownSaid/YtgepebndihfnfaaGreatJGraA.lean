/- What the functions of a graph do: what the evaluator leaves of each, and that it holds. No condition. -/
import Derived.Test.YtgepebndihfnfaaGreatJGuA
import Derived.Recover
import Derived.KernelRfl
set_option linter.unusedSimpArgs false
set_option linter.unusedVariables false

namespace Go.Proofs.YtgepebndihfnfaaGreat.Sx
open Go
abbrev DSpec:=Option SV→List SV→MS→(MS→Prop)→Prop
def dmode:Option Value→FrameMode
  | none=>.returning
  | some v=>.panicking [{v,recovered:=false}]
def DSpecOK (P:Program) (f:FuncId) (D:DSpec):Prop:=
  ∀x caps m k,D x caps m k → ∀F g w vs xv,RepL g caps vs→(∀sv,x=some sv → ∃v,xv=some v∧Rep g sv v)→(x=none→xv=none)→Mem F g m w→
    CallsD P f ⟨vs⟩ (dmode xv) w fun e u' w'=>(∃v,e = .returned v)∧settle u' = .returning ∧ ∃g' m',k m'∧g.le g'∧Upd m m'∧Mem F g' m' w'
def deferLast (ops:List Oper):Option Operand:=
  match ops.getLast? with
  | some o=>match o.op,o.guard with
    | .defer ⟨.value f,args,_⟩,none=>bif Nat.beq args.size 0 then some f else none
    | _,_=>none
  | none=>none
def ptDst (ops:List Oper):Option Nat:=
  match ops.getLast? with
  | some o=>o.dst
  | none=>none
def evTop (E:Envr) (n:Nat):Code→(Option SV→Ex→St→Prop)→Option SV→St→Prop
  | .seq a b,K,d,s=>evTop E n a (fun d' e s'=>match e with
      | .normal=>evTop E n b K d' s'
      | e=>K d' e s') d s
  | .region id ops draw,K,d,s=>match deferLast ops.toList with
    | none=>ev E n (.region id ops draw) (K d) s
    | some f=>bif draw then Bad "defer: draw" "" else match d with
      | some _=>Bad "defer: two" ""
      | none=>evList E (ev E n) (K none) ops.toList ops.toList.dropLast (fun s'=>
          bif s'.has (ptDst ops.toList) then match s'.ev f with
            | .fn g [] caps=>K (some (.fn g [] caps)) .normal (s'.put (ptDst ops.toList) .undef)
            | _=>Bad "defer: callee" ""
          else Bad "slot" "defer") s
  | c,K,d,s=>ev E n c (K d) s
inductive RepD (g:Ctx):Option SV→List Deferred→Prop where
  | none:RepD g none []
  | some (f:FuncId) (caps:List SV) (vs:List Value):RepL g caps vs→RepD g (some (.fn f [] caps)) [{target:=.fn (.func f) ⟨vs⟩,args:=#[]}]
theorem RepD.mono {g g':Ctx} (h:g.le g') {d:Option SV} {D:List Deferred} (r:RepD g d D):RepD g' d D:=by
  cases r with
  | none=>exact .none
  | some f caps vs r=>exact .some f caps vs (r.mono h)
def PostT (F:Fr) (W:Nat→Prop) (g:Ctx) (s:St) (a:Act) (K:Option SV→Ex→St→Prop):Exit→Act→World→Prop
  | .normal,a',w'=>∃g' s' d D,K d .normal s'∧RepD g' d D∧Goes {F with dfs:=D} W g s a g' s' a' w'
  | .exit id,a',w'=>∃g' s' d D,K d (.exit id) s'∧RepD g' d D∧Goes {F with dfs:=D} W g s a g' s' a' w'
  | .ret,a',w'=>∃g' s' d D,K d .ret s'∧RepD g' d D∧Goes {F with dfs:=D} W g s a g' s' a' w'
  | .panic chain,a',w'=>∃g' s' sv v d D,K d (.panic sv) s'∧chain=[{v,recovered:=false}]∧Rep g' sv v∧RepD g' d D∧Goes {F with dfs:=D} W g s a g' s' a' w'
  | _,_,_=>False
theorem PostT.of {F:Fr} {W:Nat→Prop} {g:Ctx} {s:St} {a:Act} {K:Option SV→Ex→St→Prop} {d:Option SV} {D:List Deferred} (hd:RepD g d D) {e:Exit} {a':Act} {w':World}
    (h:PostX {F with dfs:=D} W g s a (K d) e a' w'):PostT F W g s a K e a' w':=by
  cases e with
  | normal=>obtain⟨g',s',k,x⟩:=h;exact⟨g',s',d,D,k,hd.mono x.le,x⟩
  | exit id=>obtain⟨g',s',k,x⟩:=h;exact⟨g',s',d,D,k,hd.mono x.le,x⟩
  | ret=>obtain⟨g',s',k,x⟩:=h;exact⟨g',s',d,D,k,hd.mono x.le,x⟩
  | panic ch=>obtain⟨g',s',sv,v,k,e1,e2,x⟩:=h;exact⟨g',s',sv,v,d,D,k,e1,e2,hd.mono x.le,x⟩
  | goto _=>exact h.elim
  | outgrown=>exact h.elim
theorem Goes.dfs2 {F:Fr} {W:Nat→Prop} {g g1 g2:Ctx} {s s1 s2:St} {a a1 a2:Act} {w1 w2:World} {D D':List Deferred} (h:Goes {F with dfs:=D} W g s a g1 s1 a1 w1) (h':Goes {F with dfs:=D'} W g1 s1 a1 g2 s2 a2 w2) :
    Goes {F with dfs:=D'} W g s a g2 s2 a2 w2:=⟨h.le.trans h'.le,h.upd.trans h'.upd,fun t ht=>by rw [h'.same t ht,h.same t ht],h'.den⟩
theorem PostT.trans {F:Fr} {W:Nat→Prop} {g g1:Ctx} {s s1:St} {a a1:Act} {w1:World} {D:List Deferred} {K:Option SV→Ex→St→Prop} (h:Goes {F with dfs:=D} W g s a g1 s1 a1 w1) {e:Exit} {a2:Act} {w2:World}
    (h':PostT F W g1 s1 a1 K e a2 w2):PostT F W g s a K e a2 w2:=by
  cases e with
  | normal=>obtain⟨g',s',d,D',k,r,x⟩:=h';exact⟨g',s',d,D',k,r,h.dfs2 x⟩
  | exit id=>obtain⟨g',s',d,D',k,r,x⟩:=h';exact⟨g',s',d,D',k,r,h.dfs2 x⟩
  | ret=>obtain⟨g',s',d,D',k,r,x⟩:=h';exact⟨g',s',d,D',k,r,h.dfs2 x⟩
  | panic ch=>obtain⟨g',s',sv,v,d,D',k,e1,e2,r,x⟩:=h';exact⟨g',s',sv,v,d,D',k,e1,e2,r,h.dfs2 x⟩
  | goto _=>exact h'.elim
  | outgrown=>exact h'.elim
theorem evTop_sound {E:Envr} (hE:EnvOK E) (n:Nat):∀(c:Code) {K:Option SV→Ex→St→Prop} {d:Option SV} {s:St},evTop E n c K d s → ∀ {F:Fr} {W:Nat→Prop} {g:Ctx} {a:Act} {w:World} {D:List Deferred},
    (∀t,t∈asg c→W t)→RepD g d D→Den {F with dfs:=D} g s a w→c.wp E.P (PostT F W g s a K) a w:=by
  have other:∀(c:Code) {K:Option SV→Ex→St→Prop} {d:Option SV} {s:St},ev E n c (K d) s → ∀ {F:Fr} {W:Nat→Prop} {g:Ctx} {a:Act} {w:World} {D:List Deferred},
      (∀t,t∈asg c→W t)→RepD g d D→Den {F with dfs:=D} g s a w→c.wp E.P (PostT F W g s a K) a w:=by
    intro c K d s h F W g a w D hW hD hd
    exact Code.wp_mono (fun e a' w' hp=>PostT.of hD hp) ((ev_sound hE n).1 c _ _ h {F with dfs:=D} W g a w hW hd)
  intro c
  induction c with
  | seq a b iha ihb=>
    intro K d s h F W g act w D hW hD hd
    unfold evTop at h
    refine wp_seq (Code.wp_mono (fun e a' w' hp=>?_) (iha h (fun t ht=>hW t (by simp [asg,ht])) hD hd))
    cases e with
    | normal=>
      obtain⟨g',s',d',D',k,r,x⟩:=hp
      exact Code.wp_mono (fun e2 a2 w2 h2=>h2.trans x) (ihb k (fun t ht=>hW t (by simp [asg,ht])) r x.den)
    | exit id=>exact hp
    | ret=>exact hp
    | panic ch=>exact hp
    | goto _=>exact hp.elim
    | outgrown=>exact hp.elim
  | region id ops draw=>
    intro K d s h F W g act w D hW hD hd
    unfold evTop at h
    split at h
    · exact other _ h hW hD hd
    · rename_i f hf
      cases draw
      case true=>cases h
      simp only [cond_false] at h
      split at h
      · cases h
      · cases hD
        unfold deferLast at hf
        split at hf
        case h_2=>cases hf
        rename_i o ho
        split at hf
        case h_2=>cases hf
        rename_i f' args ts hop hgd
        cases hz:Nat.beq args.size 0
        · rw [hz] at hf;cases hf
        rw [hz] at hf
        have hz:=Nat.eq_of_beq_eq_true hz
        have hf:f'=f:=by simpa using hf
        subst hf
        have hne:ops.toList≠[]:=by intro e;rw [e] at ho;cases ho
        have hsplit:ops.toList=ops.toList.dropLast++[o]:=by
          rw [List.getLast?_eq_some_getLast hne] at ho
          have ho:=Option.some.inj ho
          conv=>lhs;rw [←List.dropLast_concat_getLast hne,ho]
        refine wp_region_list ?_
        rw [hsplit]
        refine evList_sound hE (ev_sound hE n).1 ops [o] ops.toList.dropLast h hd (fun o' ho' d' hdst=>hW d' ?_) (fun g' s' a' w' hk hg=>?_) (fun g' s' sv v a' w' hk r hg=>?_)
        · exact List.mem_filterMap.2 ⟨o',List.dropLast_subset _ ho',hdst⟩
        · cases hhas:s'.has (ptDst ops.toList)
          · rw [hhas] at hk;cases hk
          rw [hhas] at hk
          simp only [cond_true] at hk
          split at hk
          case h_2=>cases hk
          rename_i gf caps hev
          have hpt:ptDst ops.toList=o.dst:=by unfold ptDst;rw [ho]
          rw [hpt] at hhas hk
          have rv:=hg.den.ev f'
          rw [hev] at rv
          cases hval:a'.eval f'<;>rw [hval] at rv<;>cases rv
          rename_i us vs l1 r1 l2 r2
          have hus:us=[]:=by cases us with
            | nil=>rfl
            | cons _ _=>simp at l1
          subst hus
          unfold wpList
          rw [if_pos (by simp [Region.wanted,hgd])]
          refine .inl ?_
          unfold Oper.wp
          have hargs:args.map a'.eval = #[]:=by
            apply Array.eq_empty_of_size_eq_zero
            simpa using hz
          have hrun:(execOp a'.eval o).run E.P w' = .ok (.defer {target:=.fn (.func gf) ⟨vs⟩,args:=#[]}) w':=by
            unfold execOp
            rw [hop]
            simp only [resolve,hval,hargs,Deferred.ofValue,Sem.run_bind,Sem.run_pure,Result.andThen_ok]
            rfl
          rw [hrun,Oper.upon_defer]
          show PostT F W g s act K .normal _ _
          have hden2:Den {F with dfs:=[{target:=.fn (.func gf) ⟨vs⟩,args:=#[]}]} g' s' {a' with defers:={target:=.fn (.func gf) ⟨vs⟩,args:=#[]}::a'.defers} w':=by
            refine⟨hg.den.env,hg.den.nt,?_,hg.den.mem.dfs _⟩
            show _::a'.defers=_
            rw [hg.den.defers]
          have hput:=hden2.put (Ctx.le.refl g') hden2.mem (dst:=o.dst) hhas (.undef undef)
          refine⟨g',_,_,_,hk,.some gf caps vs ⟨l2,r2⟩,hg.le,?_,fun t ht=>?_,hput⟩
          · cases o.dst<;>exact hg.upd
          · cases hdst:o.dst with
            | none=>exact hg.same t ht
            | some q=>
              have hq:q<a'.tmps.size:=by rw [hg.den.nt];rw [hdst] at hhas;simpa [St.has] using hhas
              have h1:(({a' with defers:={target:=.fn (.func gf) ⟨vs⟩,args:=#[]}::a'.defers}:Act).put (some q) undef).tmps.getD t undef=a'.tmps.getD t undef:=by
                rw [put_getD (a:={a' with defers:={target:=.fn (.func gf) ⟨vs⟩,args:=#[]}::a'.defers}) (d:=q) hq,if_neg]
                intro e
                subst e
                refine ht (hW t ?_)
                exact List.mem_filterMap.2 ⟨o,by rw [hsplit];simp,hdst⟩
              rw [h1]
              exact hg.same t ht
        · exact⟨g',s',sv,v,none,[],hk,rfl,r,.none,hg⟩
  | _=>
    intro K d s h F W g act w D hW hD hd
    exact other _ h hW hD hd
def evLeave (E:Envr) (dspec:FuncId→Option DSpec) (fn:Func) (k:SV→MS→Prop) (d:Option SV) (e:Ex) (s:St):Prop:=
  let fin:=fun (m:MS)=>evResults E.P {s with m:=m} (fun l=>k (tupleOf l) m) fn.results.toList []
  match e with
  | .normal | .ret=>match d with
    | none=>fin s.m
    | some (.fn f [] caps)=>(match dspec f with
      | some D=>D none caps s.m fin
      | none=>Bad "defer: no contract" "")
    | _=>Bad "defer" ""
  | .panic v=>match d with
    | some (.fn f [] caps)=>(match dspec f with
      | some D=>D (some v) caps s.m fin
      | none=>Bad "defer: no contract" "")
    | _=>Bad "panic" ""
  | .exit _=>Bad "exit" fn.name
def evCallD (E:Envr) (dspec:FuncId→Option DSpec) (n:Nat) (f:FuncId) (args:List SV) (m:MS) (k:SV→MS→Prop):Prop:=
  match E.P.funcs[f]? with
  | some fn=>match fn.body with
    | some c=>evTop E n c (evLeave E dspec fn k) none ⟨enterEnv 0 args,args.length+(fn.ntmps-args.length),m⟩
    | none=>Bad "no body" fn.name
  | none=>Bad "no function" ""
theorem evCallD_sound {E:Envr} (hE:EnvOK E) {dspec:FuncId→Option DSpec} (hD:∀f D,dspec f=some D→DSpecOK E.P f D) {n:Nat} {f:FuncId} {args:List SV} {m:MS} {kp k:SV→MS→Prop}
    (h:evCallD E dspec n f args m k) {F:Fr} {g:Ctx} {w:World} {vs:List Value} (r:RepL g args vs) (hm:Mem F g m w) (hbody:∀f D,dspec f=some D → ∃fn,E.P.funcs[f]?=some fn∧fn.body.isSome=true) :
    Calls E.P f ⟨vs⟩ w (CallPost F g m kp k):=by
  unfold evCallD at h
  split at h
  case h_2=>cases h
  rename_i fn hfn
  split at h
  case h_2=>cases h
  rename_i c hc
  refine calls_of_wp_defers hfn hc ?_
  have hsz:((⟨vs⟩:Array Value)++Array.replicate (fn.ntmps-(⟨vs⟩:Array Value).size) undef).size=args.length+(fn.ntmps-args.length):=by simp [r.1]
  have hden:Den {F with dfs:=[]} g ⟨enterEnv 0 args,args.length+(fn.ntmps-args.length),m⟩ {tmps:=(⟨vs⟩:Array Value)++Array.replicate (fn.ntmps-(⟨vs⟩:Array Value).size) undef,defers:=[]} w:=by
    refine⟨fun t=>?_,hsz,rfl,hm.dfs []⟩
    rw [getE_enter,if_pos (Nat.zero_le _),Nat.sub_zero]
    by_cases ht:t<args.length
    · have hx:args[t]?=some args[t]:=by simp [ht]
      rw [hx]
      obtain⟨u,hu,ru⟩:=r.get hx
      have:((⟨vs⟩:Array Value)++Array.replicate (fn.ntmps-(⟨vs⟩:Array Value).size) undef).getD t undef=u:=by
        rw [Array.getD_eq_getD_getElem?,Array.getElem?_append_left (by simpa [←r.1] using ht)]
        simp [hu]
      rw [this]
      exact ru
    · rw [List.getElem?_eq_none (by omega)]
      exact .undef _
  refine Code.wp_mono ?_ (evTop_sound hE n c h (F:=F) (W:=fun _=>True) (fun _ _=>trivial) .none hden)
  have hfin:∀(a':Act) (s':St) (g1:Ctx) (D:List Deferred) (w1:World),Goes {F with dfs:=D} (fun _=>True) g ⟨enterEnv 0 args,args.length+(fn.ntmps-args.length),m⟩ {tmps:=(⟨vs⟩:Array Value)++Array.replicate (fn.ntmps-(⟨vs⟩:Array Value).size) undef,defers:=[]} g1 s' a' w1→
      ∀(g2:Ctx) (m2:MS) (w2:World),g1.le g2→Upd s'.m m2→Mem F g2 m2 w2→evResults E.P {s' with m:=m2} (fun l=>k (tupleOf l) m2) fn.results.toList []→
      ∃v,(results fn a'.tmps).run E.P w2 = .ok v w2∧CallPost F g m kp k (.returned v) w2:=by
    intro a' s' g1 D w1 hg g2 m2 w2 hle hu hm2 hr
    have hden2:Den {F with dfs:=D} g2 {s' with m:=m2} a' w2:=⟨fun t=>(hg.den.env t).mono hle,hg.den.nt,hg.den.defers,hm2.dfs D⟩
    obtain⟨svs,us,h1,h2,h3⟩:=evResults_sound hden2 _ _ [] hr (RepL.nil _)
    simp only [List.nil_append] at h2
    refine⟨_,?_,g2,m2,_,h1,hg.le.trans hle,hg.upd.trans hu,hm2,tupleOf_rep h2⟩
    rw [results_eq]
    simp only [Sem.run_bind]
    rw [Array.mapM_eq_mapM_toList,Sem.run_map]
    rw [h3]
    simp only [Result.andThen_ok,Sem.run_pure]
  have hcall:∀(a':Act) (s':St) (g1:Ctx) (w1:World) (gf:FuncId) (caps:List SV) (cv:List Value) (Ds:DSpec) (x:Option SV) (xv:Option Value),
      dspec gf=some Ds→RepL g1 caps cv→(∀sv,x=some sv → ∃v,xv=some v∧Rep g1 sv v)→(x=none→xv=none)→
      Goes {F with dfs:=[{target:=.fn (.func gf) ⟨cv⟩,args:=#[]}]} (fun _=>True) g ⟨enterEnv 0 args,args.length+(fn.ntmps-args.length),m⟩ {tmps:=(⟨vs⟩:Array Value)++Array.replicate (fn.ntmps-(⟨vs⟩:Array Value).size) undef,defers:=[]} g1 s' a' w1→
      Ds x caps s'.m (fun m=>evResults E.P {s' with m:=m} (fun l=>k (tupleOf l) m) fn.results.toList [])→
      Leaves E.P fn a'.tmps (CallPost F g m kp k) a'.defers (dmode xv) w1:=by
    intro a' s' g1 w1 gf caps cv Ds x xv hds hcap hx hn hg hD1
    have hdf:a'.defers=[{target:=.fn (.func gf) ⟨cv⟩,args:=#[]}]:=hg.den.defers
    rw [hdf]
    obtain⟨fn2,hf2,hb2⟩:=hbody gf Ds hds
    refine leaves_cons (f:=gf) (args:=⟨cv⟩) (by cases xv<;>simp [dmode]) ?_ ?_
    · have:=run_call hE hf2 hb2 (w:=w1) (args:=⟨cv⟩)
      simpa [invoke] using this
    · refine (hD gf Ds hds x caps s'.m _ hD1 F g1 w1 cv xv hcap hx hn (hg.den.mem.dfs F.dfs)).mono fun e u' w' hp=>?_
      obtain⟨⟨v,rfl⟩,hset,g2,m2,hk,hle,hu,hm2⟩:=hp
      show Leaves E.P fn a'.tmps (CallPost F g m kp k) [] (settle u') w'
      rw [show settle u' = .returning from hset]
      obtain⟨v,h1,h2⟩:=hfin a' s' g1 _ w1 hg g2 m2 w' hle hu hm2 hk
      exact⟨v,h1,h2⟩
  have hret:∀(a':Act) (w':World),(∃g' s' d D,evLeave E dspec fn k d .ret s'∧RepD g' d D∧Goes {F with dfs:=D} (fun _=>True) g ⟨enterEnv 0 args,args.length+(fn.ntmps-args.length),m⟩ {tmps:=(⟨vs⟩:Array Value)++Array.replicate (fn.ntmps-(⟨vs⟩:Array Value).size) undef,defers:=[]} g' s' a' w')→
      Leaves E.P fn a'.tmps (CallPost F g m kp k) a'.defers .returning w':=by
    rintro a' w' ⟨g',s',d,D,hk,hr,hg⟩
    cases hr with
    | none=>
      have hdf:a'.defers=[]:=hg.den.defers
      rw [hdf]
      have hk:evResults E.P {s' with m:=s'.m} (fun l=>k (tupleOf l) s'.m) fn.results.toList []:=hk
      exact hfin a' s' g' _ w' hg g' s'.m w' (Ctx.le.refl _) (Upd.refl _) (hg.den.mem.dfs F.dfs) hk
    | some gf caps cv hcap=>
      simp only [evLeave] at hk
      split at hk
      case h_2=>cases hk
      rename_i Ds hds
      exact hcall a' s' g' w' gf caps cv Ds none none hds hcap (fun sv h=>by cases h) (fun _=>rfl) hg hk
  intro e a' w' hp
  cases e with
  | normal=>exact hret a' w' hp
  | ret=>exact hret a' w' hp
  | exit id=>obtain⟨g',s',d,D,hk,_⟩:=hp;exact (by cases hk)
  | panic ch=>
    obtain⟨g',s',sv,v,d,D,hk,e1,e2,hr,hg⟩:=hp
    subst e1
    cases hr with
    | none=>cases hk
    | some gf caps cv hcap=>
      simp only [evLeave] at hk
      split at hk
      case h_2=>cases hk
      rename_i Ds hds
      exact hcall a' s' g' w' gf caps cv Ds (some sv) (some v) hds hcap (fun sv' h=>by cases h;exact⟨v,rfl,e2⟩) (fun h=>by cases h) hg hk
  | goto _=>exact hp.elim
  | outgrown=>exact hp.elim
theorem Tri.okD {E:Envr} (hE:EnvOK E) {dspec:FuncId→Option DSpec} (hD:∀f D,dspec f=some D→DSpecOK E.P f D) (hbody:∀f D,dspec f=some D → ∃fn,E.P.funcs[f]?=some fn∧fn.body.isSome=true) {n:Nat} (T:Tri) {f:FuncId}
    (h:∀x,T.pre x→evCallD E dspec n f (T.args x) ⟨T.blks x,T.n0,[]⟩ (T.ends x)):SpecOK E.P f T.spec:=
  Tri.ok' T fun x hx F g w vs hargs hm=>evCallD_sound hE hD (h x hx) hargs hm hbody
def recV:Option SV→SV
  | none=>.nilif
  | some v=>v
def evClosure (E:Envr) (n:Nat) (f:FuncId):DSpec:=fun x caps m k=>
  match E.P.funcs[f]? with
  | some fn=>match fn.body with
    | some (.seq (.region _ ops false) rest)=>match ops.toList with
      | o::r=>match o.op,o.guard,o.dst with
        | .call ⟨.builtin .recover,args,_⟩,none,some t=>
          bif Nat.beq args.size 0&&(Nat.beq fn.results.size 0&&St.has ⟨enterEnv 0 caps,caps.length+(fn.ntmps-caps.length),m⟩ (some t)) then
            evList E (ev E n) (fun e s=>match e with
                | .normal | .ret=>k s.m
                | _=>Bad "closure: ends" "") ops.toList r (fun s=>ev E n rest (fun e s=>match e with
                | .normal | .ret=>k s.m
                | _=>Bad "closure: ends" "") s) (St.put ⟨enterEnv 0 caps,caps.length+(fn.ntmps-caps.length),m⟩ (some t) (recV x))
          else Bad "slot" ""
        | _,_,_=>Bad "closure: recover" ""
      | []=>Bad "closure: empty" ""
    | _=>Bad "closure: body" ""
  | none=>Bad "no function" ""
theorem Oper.upon_mono2 {P:Program} {o:Oper} {a:Act} {N N':Act→World→Prop} {Q Q':Exit→Act→World→Prop} (hN:∀a w,N a w→N' a w) (hQ:∀e a w,Q e a w→Q' e a w) {r:Result Next} (h:o.upon P a N Q r):o.upon P a N' Q' r:=by
  cases r with
  | ok n w'=>
    cases n<;>simp only [Oper.upon] at h ⊢ <;>
      first
        | exact hN _ _ h
        | exact Calls.mono h (fun e w'' he=>by
            cases e
            · exact hN _ _ he
            · exact hQ _ _ _ he
            · obtain⟨a0,w0,hq⟩:=he;exact⟨a0,w0,hQ _ _ _ hq⟩)
        | exact Rows.mono h (fun _ _ he=>hN _ _ he)
  | halt x w'=>cases x<;>simp only [Oper.upon] at h ⊢ <;> first | exact hQ _ _ _ h | exact h
theorem wpOpsS_of_list {P:Program} {ops:Array Oper} {QS:Exit→Act→List Frame→World→Prop} {cs:List Frame} (hQ:∀a w,¬QS .outgrown a cs w):∀(l:List Oper) (k:Nat),(∀j,l[j]?=ops[k+j]?) → ∀a w,
    wpList P ops (fun e a w=>QS e a cs w) l a w→wpOpsS P ops QS (List.range' k l.length) a cs w:=by
  intro l
  induction l with
  | nil=>intro k _ a w h;exact h
  | cons o l ih=>
    intro k hk a w h
    have h0:ops[k]?=some o:=by simpa using (hk 0).symm
    have ih':=ih (k+1) (fun j=>by have:=hk (j+1);simpa [Nat.add_assoc,Nat.add_comm 1 j] using this)
    simp only [List.length_cons,List.range'_succ,wpOpsS,h0]
    unfold wpList at h
    split at h
    · rename_i hw
      rw [if_pos hw]
      rcases h with h | ⟨_,a0,w0,h⟩
      · unfold Oper.wp at h
        split
        · rename_i w' hr
          rw [hr] at h
          exact h.elim
        · exact Oper.upon_mono2 (fun a w hh=>ih' a w hh) (fun e a w hh=>hh) h
      · exact absurd h (hQ a0 w0)
    · rename_i hw
      rw [if_neg hw]
      exact ih' _ _ h
theorem evClosure_ok {E:Envr} (hE:EnvOK E) (n:Nat) (f:FuncId):DSpecOK E.P f (evClosure E n f):=by
  intro x caps m k h F g w vs xv r hx hn hm
  unfold evClosure at h
  split at h
  case h_2=>cases h
  rename_i fn hfn
  split at h
  case h_2=>cases h
  rename_i id ops rest hc
  split at h
  case h_2=>cases h
  rename_i o rl hops
  split at h
  case h_2=>cases h
  rename_i args ts t hop hgd hdst
  cases hb:(Nat.beq args.size 0&&(Nat.beq fn.results.size 0&&St.has ⟨enterEnv 0 caps,caps.length+(fn.ntmps-caps.length),m⟩ (some t)))
  · rw [hb] at h;cases h
  rw [hb] at h
  simp only [Bool.and_eq_true] at hb
  obtain⟨hb1,hb2,hb3⟩:=hb
  simp only [cond_true] at h
  have hargs:args = #[]:=Array.eq_empty_of_size_eq_zero (Nat.eq_of_beq_eq_true hb1)
  have hres:fn.results = #[]:=Array.eq_empty_of_size_eq_zero (Nat.eq_of_beq_eq_true hb2)
  subst hargs
  refine callsD_of_wpS hfn hc fun c₀ cs hmode=>wpS_seq (wpS_region ?_)
  have hsz:((⟨vs⟩:Array Value)++Array.replicate (fn.ntmps-(⟨vs⟩:Array Value).size) undef).size=caps.length+(fn.ntmps-caps.length):=by simp [r.1]
  have hden:Den {F with dfs:=[]} g ⟨enterEnv 0 caps,caps.length+(fn.ntmps-caps.length),m⟩ {tmps:=(⟨vs⟩:Array Value)++Array.replicate (fn.ntmps-(⟨vs⟩:Array Value).size) undef,defers:=[]} w:=by
    refine⟨fun t=>?_,hsz,rfl,hm.dfs []⟩
    rw [getE_enter,if_pos (Nat.zero_le _),Nat.sub_zero]
    by_cases ht:t<caps.length
    · have hx:caps[t]?=some caps[t]:=by simp [ht]
      rw [hx]
      obtain⟨u,hu,ru⟩:=r.get hx
      have:((⟨vs⟩:Array Value)++Array.replicate (fn.ntmps-(⟨vs⟩:Array Value).size) undef).getD t undef=u:=by
        rw [Array.getD_eq_getD_getElem?,Array.getElem?_append_left (by simpa [←r.1] using ht)]
        simp [hu]
      rw [this]
      exact ru
    · rw [List.getElem?_eq_none (by omega)]
      exact .undef _
  have hsize:ops.size=rl.length+1:=by rw [←Array.length_toList,hops];rfl
  have h0:ops[0]?=some o:=by rw [←Array.getElem?_toList,hops];rfl
  have hrec:∃val u2,Rep g (recV x) val∧settle u2 = .returning∧
      ∀(QS:Exit→Act→List Frame→World→Prop) (l:List Nat) (a:Act) (w:World),wpOpsS E.P ops QS l (a.put o.dst val) ({c₀ with mode:=u2}::cs) w→
        (match recoverD (c₀::cs) with
          | some (v,cs')=>wpOpsS E.P ops QS l (a.put o.dst v) cs' w
          | none=>wpOpsS E.P ops QS l (a.put o.dst .nilIface) (c₀::cs) w):=by
    cases x with
    | none=>
      have hxv:=hn rfl
      subst hxv
      have hm0:c₀.mode = .returning:=hmode
      refine⟨.nilIface,.returning,.nilif,rfl,fun QS l a w hh=>?_⟩
      have e:recoverD (c₀::cs)=none:=by simp [recoverD,hm0]
      rw [e]
      have e2:({c₀ with mode:=.returning}:Frame)=c₀:=by rw [←hm0]
      rw [e2] at hh
      exact hh
    | some sv=>
      obtain⟨v,rfl,rv⟩:=hx sv rfl
      have hm0:c₀.mode = .panicking [{v,recovered:=false}]:=hmode
      refine⟨v,.panicking [{v,recovered:=true}],rv,rfl,fun QS l a w hh=>?_⟩
      have e:recoverD (c₀::cs)=some (v,{c₀ with mode:=.panicking [{v,recovered:=true}]}::cs):=by simp [recoverD,hm0]
      rw [e]
      exact hh
  obtain⟨val,u2,rval,hset,hgo⟩:=hrec
  rw [hsize,List.range_eq_range',List.range'_succ]
  have hrun:∀(a:Act) (w:World),(execOp a.eval o).run E.P w = .ok .recover w:=by
    intro a w
    unfold execOp
    rw [hop]
    simp [resolve,invoke,builtin]
  unfold wpOpsS
  simp only [h0]
  rw [if_pos (by simp [Region.wanted,hgd]),hrun]
  refine hgo _ _ _ _ ?_
  have hput:=hden.put (Ctx.le.refl g) hden.mem (dst:=o.dst) (by rw [hdst];exact hb3) rval
  rw [hdst] at hput ⊢
  refine wpOpsS_of_list (fun a w hh=>?_) rl 1 (fun j=>?_) _ _ ?_
  · obtain⟨u',⟨v,hv⟩,_⟩:=hh
    cases hv
  · rw [←Array.getElem?_toList,hops,Nat.add_comm];rfl
  have hfin:∀(g':Ctx) (s':St) (a':Act) (w':World) (s0:St),s0.m=m→k s'.m→g.le g'→Upd s0.m s'.m→Den {F with dfs:=[]} g' s' a' w'→
      a'.defers=[] ∧ ∃u',({c₀ with mode:=u2}::cs:List Frame) = {c₀ with mode:=u'}::cs ∧ ∃v,(results fn a'.tmps).run E.P w' = .ok v w'∧((∃v',Ending.returned v = .returned v')∧settle u' = .returning ∧ ∃g' m',k m'∧g.le g'∧Upd m m'∧Mem F g' m' w'):=by
    intro g' s' a' w' s0 e hk hle hu hd
    refine⟨hd.defers,u2,rfl,.tuple #[],?_,⟨_,rfl⟩,hset,g',s'.m,hk,hle,e ▸ hu,hd.mem.dfs F.dfs⟩
    unfold results
    rw [hres]
    simp
  have:=evList_sound hE (ev_sound hE n).1 ops [] rl h hput (W:=fun _=>True) (fun _ _ _ _=>trivial) (Q:=fun e a w=>Exit.thenS (rest.wpS E.P (bodyPostS E.P fn c₀ cs fun e u' w'=>(∃v,e = .returned v)∧settle u' = .returning ∧ ∃g' m',k m'∧g.le g'∧Upd m m'∧Mem F g' m' w')) (bodyPostS E.P fn c₀ cs fun e u' w'=>(∃v,e = .returned v)∧settle u' = .returning ∧ ∃g' m',k m'∧g.le g'∧Upd m m'∧Mem F g' m' w') e a ({c₀ with mode:=u2}::cs) w)
    (fun g' s' a' w' hk hg=>?_) (fun g' s' sv v a' w' hk _ _=>by cases hk)
  · rw [List.append_nil] at this
    exact this
  · show rest.wpS E.P _ a' _ w'
    refine wpS_of_wp (Code.wp_mono (fun e a2 w2 hp=>?_) ((ev_sound hE n).1 rest _ _ hk {F with dfs:=[]} (fun _=>True) g' a' w' (fun _ _=>trivial) hg.den))
    cases e with
    | normal=>obtain⟨g2,s2,hk2,hg2⟩:=hp;exact hfin g2 s2 a2 w2 _ rfl hk2 (hg.le.trans hg2.le) (hg.upd.trans hg2.upd) hg2.den
    | ret=>obtain⟨g2,s2,hk2,hg2⟩:=hp;exact hfin g2 s2 a2 w2 _ rfl hk2 (hg.le.trans hg2.le) (hg.upd.trans hg2.upd) hg2.den
    | exit id=>obtain⟨g2,s2,hk2,_⟩:=hp;cases hk2
    | panic ch=>obtain⟨g2,s2,sv,v,hk2,_⟩:=hp;cases hk2
    | goto _=>exact hp.elim
    | outgrown=>exact hp.elim
end Go.Proofs.YtgepebndihfnfaaGreat.Sx

namespace Go.Proofs.YtgepebndihfnfaaGreat.Ses
open Go Go.Proofs Go.Proofs.YtgepebndihfnfaaGreat.Sx Go.Proofs.YtgepebndihfnfaaGreat.Trx
abbrev EqG (C D:List CommitD) (P:Prop):Prop:=0=0∧C.length=D.length∧treeC C=treeC D∧C=D∧kvC C=kvC D∧P
def okD (d:Deed5D):Bool:=decide (d.ref.length≤300)&&(decide (d.l.length≤40)&&d.l.all fun c=>decide (c.path.length≤300))
def gB (C:List CommitD) (n:Nat):Blks:=[(0,.cells [.mslice .commit n 0 C.length,.tree (treeC C),.mmap 2]),(n,.rows .commit C),(2,.kv (kvC C))]
abbrev ComL:=List CommitD
def fewG (C:List CommitD):Bool:=decide (C.length≤4000)&&C.all fun c=>decide (c.changes.length≤16)
noncomputable def gnewT:Tri:={γ:=Unit,n0:=0,args:=fun _=>[],blks:=fun _=>[],pre:=fun _=>True,δ:=Unit,post:=fun _ _=>True,n1:=3,res:=fun _ _=>.mptr 0 0,blks':=fun _ _=>gB [] 1,scal:=false}
noncomputable def gnewE:Envr:=Env Tryz.prog cod [(127,newT.spec)] []
noncomputable def gheadT:Tri:={γ:=ComL,n0:=3,args:=fun _=>[.mptr 0 0],blks:=fun C=>gB C 1,pre:=fun _=>True,δ:=Unit,post:=fun _ _=>True,n1:=0,res:=fun C _=>.int .i64 C.length,blks':=fun C _=>gB C 1,scal:=false}
noncomputable def sorrT:Tri:={γ:=List ChangeD,n0:=0,args:=fun l=>[.rslice false .change l],blks:=fun _=>[],pre:=fun l=>fewC l=true,δ:=Unit,post:=fun _ _=>True,n1:=0,res:=fun l _=>.rslice false .change (insS l),blks':=fun _ _=>[],scal:=false}
def confT (t:TreeD) (base:Int):List ChangeD→Option (Bs × Int)
  | []=>none
  | c::r=>match getD' c.path t with
    | some x=>bif decide (x.rev>base) then some (c.path,x.rev) else confT t base r
    | none=>confT t base r
def putsT (t:TreeD) (l:List LeafD):TreeD:=l.foldl (fun t x=>putD x t) t
noncomputable def landT:Tri:={γ:=LandA,n0:=3,args:=fun x=>[.mptr 0 0,.int .i64 x.base,.str x.ref,.rslice false .change x.l],blks:=fun x=>gB x.C 1,pre:=fun x=>fewG x.C=true∧shortC x.l=true,δ:=Unit,post:=fun _ _=>True,n1:=1,res:=fun x _=>.agg (landV x).enc,blks':=fun x _=>gB (landC x) 3,scal:=false}
noncomputable def mayI:St→LInv:=fun s=>match getE s.env 3,getE s.env 1,s.m.blks.get 0 with
  | .rslice _ .change l,.int _ b,some (.cells [_,.tree t,_])=>{σ:=Nat,I:=fun i=>i≤l.length∧confT t b (l.drop i)=confT t b l,μ:=fun i=>l.length-i,env:=fun i=>[(49,.int .i64 i)],blk:=fun _=>[],fresh:=0,drop:=[]}
  | _,_,_=>LInv.none
noncomputable def landI:St→LInv:=fun s=>match getE s.env 42,getE s.env 9,s.m.blks.get 0 with
  | .rslice _ .change l,.int _ rev,some (.cells [a,.tree t,b])=>{σ:=Nat,I:=fun i=>i≤l.length,μ:=fun i=>l.length-i,env:=fun i=>[(44,.int .i64 i)],blk:=fun i=>[(0,.cells [a,.tree (putsT t ((l.take i).map (leafC rev))),b])],fresh:=0,drop:=[]}
  | _,_,_=>LInv.none
noncomputable def landE:Envr:=Env Tryz.prog cod [(184,checkT.spec),(185,nameT.spec),(186,sorrT.spec),(187,getT.spec),(131,(putT 100000).spec)] [(5,mayI),(8,landI)]
noncomputable def landD:Nat→Option DSpec:=fun f=>bif Nat.beq f 129 then some (evClosure landE 1000 129) else none
noncomputable def ownI:St→LInv:=fun s=>match getE s.env 3 with
  | .mslice .commit n _ len=>(match s.m.blks.get n with
    | some (.rows .commit C)=>{σ:=Nat,I:=fun i=>i≤len,μ:=fun i=>len-i,env:=fun i=>[(9,.int .i64 i)],blk:=fun _=>[(n,.rows .commit C)],fresh:=0,drop:=[]}
    | _=>LInv.none)
  | .nils=>{σ:=Unit,I:=fun _=>True,μ:=fun _=>0,env:=fun _=>[(9,.int .i64 0)],blk:=fun _=>[],fresh:=0,drop:=[]}
  | _=>LInv.none
noncomputable def commitsE:Envr:=Env Tryz.prog cod [] [(3,ownI)]
structure ReadA where
  C:List CommitD
  p:Bs
def readV (x:ReadA):VerdictD:=
  bif !(normB x.p==some x.p) then ⟨5,0,0,[],0,[],0⟩ else match getL x.p (rowC x.C) with
    | none=>⟨10,0,0,x.p,0,[],0⟩
    | some y=>bif y.gone then ⟨10,0,0,x.p,0,[],0⟩ else ⟨9,0,y.rev,x.p,y.digest,[],0⟩
noncomputable def readT:Tri:={γ:=ReadA,n0:=3,args:=fun x=>[.mptr 0 0,.str x.p],blks:=fun x=>gB x.C 1,pre:=fun x=>shortB x.p=true,δ:=Unit,post:=fun _ _=>True,n1:=0,res:=fun x _=>.agg (readV x).enc,blks':=fun x _=>gB x.C 1,scal:=false}
noncomputable def readE:Envr:=Env Tryz.prog cod [(252,normalT.spec),(187,getT.spec)] []
structure Com2 where
  a:List CommitD
  b:List CommitD
structure Cmt2 where
  a:CommitD
  b:CommitD
structure Ver2 where
  a:VerdictD
  b:VerdictD
def eqM (a b:CommitD):Bool:=a.rev==b.rev&&(a.base==b.base&&(a.ref==b.ref&&sameC a.changes b.changes))
def sameM (a b:List CommitD):Bool:=Nat.beq a.length b.length&&(List.zipWith eqM a b).all id
def eqV (a b:VerdictD):Bool:=a.code==b.code&&(a.session==b.session&&(a.rev==b.rev&&(a.path==b.path&&(a.digest==b.digest&&(a.member==b.member&&sameM a.commits b.commits)))))
noncomputable def gsameI:St→LInv:=fun s=>match getE s.env 0,getE s.env 1 with
  | .rslice _ .change a,.rslice _ .change b=>{σ:=Nat,I:=fun i=>i≤a.length∧sameC (a.drop i) (b.drop i)=sameC a b,μ:=fun i=>a.length-i,env:=fun i=>[(5,.int .i64 i)],blk:=fun _=>[],fresh:=0,drop:=[]}
  | _,_=>LInv.none
noncomputable def gsameE:Envr:=Env Tryz.prog cod [] [(4,gsameI)]
noncomputable def alikeT:Tri:={γ:=Ver2,n0:=0,args:=fun x=>[.agg x.a.enc,.agg x.b.enc],blks:=fun _=>[],pre:=fun _=>True,δ:=Unit,post:=fun _ _=>True,n1:=0,res:=fun x _=>.bool (eqV x.a x.b),blks':=fun _ _=>[],scal:=true}
set_option maxRecDepth 100000
theorem gnew_vc (x:gnewT.γ):evCall gnewE (ev gnewE 1000) 71 (gnewT.args x) ⟨gnewT.blks x,gnewT.n0,[]⟩ (fun _ _=>False) (gnewT.ends x)=(
∃x1:Unit,True∧
∀x2:Unit,True→
∃x3:Unit,0=([]:List CommitD).length∧
TreeD.node false (LeafD.mk ([]:List UInt8) (0:Int) (0:Int) false) TreeD.nil TreeD.nil (0:Int) (0:Int)=treeC ([]:List CommitD)∧
([]:List CommitD)=([]:List CommitD)∧
([]:List (Prod Bs Int))=kvC ([]:List CommitD)∧
True):=by kernel_rfl
theorem ghead_vc (x:gheadT.γ):evCall bareE (ev bareE 1000) 102 (gheadT.args x) ⟨gheadT.blks x,gheadT.n0,[]⟩ (fun _ _=>False) (gheadT.ends x)=(
List.length x*56≤room47→
∃x1:Unit,(↑(List.length x):Int)=(↑(List.length x):Int)∧
EqG x x True):=by kernel_rfl
theorem sorr_vc (x:sorrT.γ):evCall sortE (ev sortE 1000) 186 (sorrT.args x) ⟨sorrT.blks x,sorrT.n0,[]⟩ (fun _ _=>False) (sorrT.ends x)=(
∃x1:(List ChangeD),x=x1∧
True∧
∀x2:Unit,True→
∃x3:(List ChangeD),0=0∧
x1.length=x3.length∧
x1=x3∧
fewC x3=true∧
∀x4:Unit,True→
∃x5:Unit,0+x1.length≤(insS x3).length∧
List.take x1.length (List.drop 0 (insS x3))=insS x∧
True):=by kernel_rfl
abbrev landQ1 (x:landT.γ):=EqG (LandA.C x) (landC x) True
abbrev landQ2 (x:landT.γ):=∃x3:Unit,EqV7 (5:Int) (0:Int) (0:Int) ([]:List UInt8) (0:Int) ([]:List CommitD) (0:Int) (landV x) (landQ1 x)
abbrev landQ3 (x:landT.γ):=(LandA.C x).length*56≤room47
abbrev landQ4 (x:landT.γ):=(↑(LandA.C x).length:Int)
abbrev landQ5 (x11:Nat) (x9:List ChangeD) (x:landT.γ):=x11≤(insS x9).length∧
confT (treeC (LandA.C x)) (LandA.base x) (List.drop x11 (insS x9))=confT (treeC (LandA.C x)) (LandA.base x) (insS x9)
abbrev landQ6 (x12:Nat) (x9:List ChangeD):=decide ((0:Int)≤(↑x12:Int)∧
(↑x12:Int)<(↑(insS x9).length:Int))
abbrev landQ7 (x9:List ChangeD) (x12:Nat):=List.getD (insS x9) (↑x12:Int).toNat (ChangeD.mk ([]:List UInt8) false (0:Int))
abbrev landQ8 (x13:TrS):=(Option.getD (getD' x13.d x13.t) (LeafD.mk ([]:List UInt8) (0:Int) (0:Int) false)).rev
abbrev landQ9 (x12:Nat) (x9:List ChangeD) (x:landT.γ):=∃x16:Nat,IntKind.wrap IntKind.i64 ((↑x12:Int)+(1:Int))=(↑x16:Int)∧
landQ5 x16 x9 x∧
Nat.sub (insS x9).length x16<Nat.sub (insS x9).length x12
abbrev landQ10 (x:landT.γ) (x9:List ChangeD) (x12:Nat):=∃x13:TrS,treeC (LandA.C x)=x13.t∧
(landQ7 x9 x12).path=x13.d∧
True∧
∀x14:Unit,True→
br (getD' x13.d x13.t).isSome (br (decide (landQ8 x13>LandA.base x)) (∃x15:Unit,EqV7 (3:Int) (0:Int) (landQ8 x13) (landQ7 x9 x12).path (0:Int) ([]:List CommitD) (0:Int) (landV x) (landQ1 x)) (landQ9 x12 x9 x)) (landQ9 x12 x9 x)
abbrev landQ11 (x:landT.γ):=IntKind.wrap IntKind.i64 (landQ4 x+(1:Int))
abbrev landQ12 (x:landT.γ) (x9:List ChangeD):=List.take 1 (List.drop 0 [CommitD.mk (landQ11 x) (LandA.base x) (LandA.ref x) (insS x9)])
abbrev landQ13 (x:landT.γ) (x9:List ChangeD):=(LandA.C x).length+(landQ12 x x9).length
abbrev landQ14 (x:landT.γ) (x23:Nat) (x9:List ChangeD):=putsT (treeC (LandA.C x)) (List.map (leafC (landQ11 x)) (List.take x23 (insS x9)))
abbrev landQ15 (x:landT.γ) (x9:List ChangeD):=List.take (LandA.C x).length (List.drop 0 (LandA.C x))++landQ12 x x9=landC x
abbrev landQ16 (x:landT.γ):=br (decide (LandA.base x<(0:Int))) (landQ2 x) (landQ3 x→
landQ3 x→
br (decide (LandA.base x>landQ4 x)) (∃x8:Unit,EqV7 (4:Int) (0:Int) (landQ4 x) ([]:List UInt8) (0:Int) ([]:List CommitD) (0:Int) (landV x) (landQ1 x)) (∃x9:(List ChangeD),LandA.l x=x9∧
fewC x9=true∧
∀x10:Unit,True→
(insS x9).length*32≤room47→
(∃x11:Nat,(0:Int)=(↑x11:Int)∧
landQ5 x11 x9 x)∧
∀x12:Nat,landQ5 x12 x9 x→
br (decide ((↑x12:Int)<(↑(insS x9).length:Int))) (br (landQ6 x12 x9) (landQ10 x x9 x12∧
landQ10 x x9 x12) (Bad "check" "graph.go:45")) (landQ3 x→
Nat.le ((LandA.C x).length*56) room47∧
Nat.le (1*56) room47→
br (Bool.and (Bool.and (decide (0+1≤[CommitD.mk (landQ11 x) (LandA.base x) (LandA.ref x) (insS x9)].length)) (decide (0+(LandA.C x).length≤(LandA.C x).length))) (decide (landQ13 x x9*56≤room47))) ((insS x9).length*32≤room47→
(∃x23:Nat,(0:Int)=(↑x23:Int)∧
0=0∧
landQ13 x x9=landQ13 x x9∧
treeC (LandA.C x)=landQ14 x x23 x9∧
Nat.le x23 (insS x9).length)∧
∀x24:Nat,Nat.le x24 (insS x9).length→
br (decide ((↑x24:Int)<(↑(insS x9).length:Int))) (br (landQ6 x24 x9) (∃x25:PutA,landQ14 x x24 x9=x25.t∧
(landQ7 x9 x24).path=x25.x.path∧
(landQ7 x9 x24).digest=x25.x.digest∧
landQ11 x=x25.x.rev∧
(landQ7 x9 x24).gone=x25.x.gone∧
(putP x25.t∧
ht x25.t<100000)∧
∀x26:Unit,True→
∃x27:Nat,IntKind.wrap IntKind.i64 ((↑x24:Int)+(1:Int))=(↑x27:Int)∧
0=0∧
landQ13 x x9=landQ13 x x9∧
putD x25.x x25.t=landQ14 x x27 x9∧
Nat.le x27 (insS x9).length∧
Nat.sub (insS x9).length x27<Nat.sub (insS x9).length x24) (Bad "check" "graph.go:69")) (br (LandA.ref x==([]:List UInt8)).not (∃x28:Unit,EqV7 (2:Int) (0:Int) (landQ11 x) ([]:List UInt8) (0:Int) ([]:List CommitD) (0:Int) (landV x) (0=0∧
landQ13 x x9=(landC x).length∧
landQ14 x x24 x9=treeC (landC x)∧
landQ15 x x9∧
putK (kvC (LandA.C x)) (LandA.ref x) (landQ11 x)=kvC (landC x)∧
True)) (∃x29:Unit,EqV7 (2:Int) (0:Int) (landQ11 x) ([]:List UInt8) (0:Int) ([]:List CommitD) (0:Int) (landV x) (0=0∧
landQ13 x x9=(landC x).length∧
landQ14 x x24 x9=treeC (landC x)∧
landQ15 x x9∧
kvC (LandA.C x)=kvC (landC x)∧
True)))) (Bad "check" "graph.go:68"))))
theorem land_vc (x:landT.γ):evCallD landE landD 1000 72 (landT.args x) ⟨landT.blks x,landT.n0,[]⟩ (landT.ends x)=(
∃x1:(List ChangeD),LandA.l x=x1∧
shortC x1=true∧
∀x2:Unit,True→
br (chkC x1 != (0:Int)) (landQ2 x) (br (LandA.ref x==([]:List UInt8)).not (∃x4:(List UInt8),LandA.ref x=x4∧
True∧
∀x5:Unit,True→
br (wordOk x4 false).not (landQ2 x) (landQ16 x)) (landQ16 x))):=by kernel_rfl
abbrev readQ1 (x:readT.γ):=EqG (ReadA.C x) (ReadA.C x) True
abbrev readQ2 (x:readT.γ):=∃x3:Unit,EqV7 (5:Int) (0:Int) (0:Int) ([]:List UInt8) (0:Int) ([]:List CommitD) (0:Int) (readV x) (readQ1 x)
abbrev readQ3 (x:readT.γ):=∃x7:Unit,EqV7 (10:Int) (0:Int) (0:Int) (ReadA.p x) (0:Int) ([]:List CommitD) (0:Int) (readV x) (readQ1 x)
abbrev readQ4 (x5:TrS):=Option.getD (getD' x5.d x5.t) (LeafD.mk ([]:List UInt8) (0:Int) (0:Int) false)
theorem read_vc (x:readT.γ):evCall readE (ev readE 1000) 214 (readT.args x) ⟨readT.blks x,readT.n0,[]⟩ (fun _ _=>False) (readT.ends x)=(
∃x1:(List UInt8),ReadA.p x=x1∧
shortB x1=true∧
∀x2:Unit,True→
br (normB x1).isSome.not (readQ2 x) (br (Option.getD (normB x1) ([]:List UInt8)==ReadA.p x).not (readQ2 x) (∃x5:TrS,treeC (ReadA.C x)=x5.t∧
ReadA.p x=x5.d∧
True∧
∀x6:Unit,True→
br (getD' x5.d x5.t).isSome.not (readQ3 x) (br (readQ4 x5).gone (readQ3 x) (∃x9:Unit,EqV7 (9:Int) (0:Int) (readQ4 x5).rev (ReadA.p x) (readQ4 x5).digest ([]:List CommitD) (0:Int) (readV x) (readQ1 x)))))):=by kernel_rfl
abbrev gsameQ1 (x:equalT.γ):=∃x1:Unit,false=sameC (Cha2.a x) (Cha2.b x)∧
True
abbrev gsameQ2 (x2:Nat) (x:equalT.γ):=x2≤(Cha2.a x).length∧
sameC (List.drop x2 (Cha2.a x)) (List.drop x2 (Cha2.b x))=sameC (Cha2.a x) (Cha2.b x)
abbrev gsameQ3  := ChangeD.mk ([]:List UInt8) false (0:Int)
abbrev gsameQ4 (x:equalT.γ) (x3:Nat):=List.getD (Cha2.a x) (↑x3:Int).toNat gsameQ3
abbrev gsameQ5 (x:equalT.γ) (x3:Nat):=List.getD (Cha2.b x) (↑x3:Int).toNat gsameQ3
theorem gsame_vc (x:equalT.γ):evCall gsameE (ev gsameE 1000) 85 (equalT.args x) ⟨equalT.blks x,equalT.n0,[]⟩ (fun _ _=>False) (equalT.ends x)=(
(Cha2.a x).length*32≤room47→
(Cha2.b x).length*32≤room47→
br ((↑(Cha2.a x).length:Int) != (↑(Cha2.b x).length:Int)) (gsameQ1 x) ((∃x2:Nat,(0:Int)=(↑x2:Int)∧
gsameQ2 x2 x)∧
∀x3:Nat,gsameQ2 x3 x→
(Cha2.a x).length*32≤room47→
br (decide ((↑x3:Int)<(↑(Cha2.a x).length:Int))) (br (decide ((0:Int)≤(↑x3:Int)∧
(↑x3:Int)<(↑(Cha2.a x).length:Int))) (br (decide ((0:Int)≤(↑x3:Int)∧
(↑x3:Int)<(↑(Cha2.b x).length:Int))) (br (Bool.and ((gsameQ4 x x3).path==(gsameQ5 x x3).path) (Bool.and ((gsameQ4 x x3).gone==(gsameQ5 x x3).gone) (Bool.and ((gsameQ4 x x3).digest==(gsameQ5 x x3).digest) true))).not (gsameQ1 x) (∃x5:Nat,IntKind.wrap IntKind.i64 ((↑x3:Int)+(1:Int))=(↑x5:Int)∧
gsameQ2 x5 x∧
Nat.sub (Cha2.a x).length x5<Nat.sub (Cha2.a x).length x3)) (Bad "check" "ref.go:118")) (Bad "check" "ref.go:118")) (∃x6:Unit,true=sameC (Cha2.a x) (Cha2.b x)∧
True))):=by kernel_rfl
theorem gnew_ok:SpecOK Tryz.prog 71 gnewT.spec:=by
  refine Tri.ok (E:=gnewE) (Env_ok (by decide +kernel) (by simp [new_ok])) (n:=1000) gnewT fun x hx=>?_
  rw [gnew_vc]
  exact⟨(),trivial,fun _ _=>⟨(),rfl,rfl,rfl,rfl,trivial⟩⟩
theorem ghead_ok:SpecOK Tryz.prog 102 gheadT.spec:=by
  refine Tri.ok (E:=bareE) (Env_ok (by decide +kernel) (by simp)) (n:=1000) gheadT fun x hx=>?_
  rw [ghead_vc]
  delta EqG
  exact fun _=>⟨(),rfl,rfl,rfl,rfl,rfl,rfl,trivial⟩
theorem all_lenG {α:Type} (l:List α) {n:Nat} (h:n=l.length):(l.drop 0).take n=l:=by rw [h];simp
theorem sorr_ok:SpecOK Tryz.prog 186 sorrT.spec:=by
  refine Tri.ok (E:=sortE) (Env_ok (by decide +kernel) (by simp [clo_ok,ssf_ok])) (n:=1000) sorrT fun x hx=>?_
  rw [sorr_vc]
  revert hx
  revert x
  intro (x:List ChangeD) (hx:fewC x=true)
  exact⟨x,rfl,trivial,fun _ _=>⟨x,rfl,rfl,rfl,hx,fun _ _=>⟨(),by rw [insS_len];omega,all_lenG _ (insS_len x).symm,trivial⟩⟩⟩
theorem fewG_of {C:List CommitD} (h:fewG C=true):C.length≤4000∧(∀c,c∈C→c.changes.length≤16)∧(leavesC C).length≤64000:=by
  unfold fewG at h
  simp only [Bool.and_eq_true,decide_eq_true_eq,List.all_eq_true] at h
  have:=leaves_len (C:=C) h.2
  exact⟨h.1,h.2,by omega⟩
theorem read_ok:SpecOK Tryz.prog 214 readT.spec:=by
  refine Tri.ok (E:=readE) (Env_ok (by decide +kernel) (by simp [normal_ok,get_ok])) (n:=1000) readT fun x hx=>?_
  rw [read_vc]
  delta readQ4 readQ3 readQ2 readQ1 EqG EqV7
  obtain⟨C,p⟩:=x
  have hx:shortB p=true:=hx
  have fin:∀v:VerdictD,readV ⟨C,p⟩=v → ∃_:Unit,v.code=(readV ⟨C,p⟩).code∧v.session=(readV ⟨C,p⟩).session∧v.rev=(readV ⟨C,p⟩).rev∧v.path=(readV ⟨C,p⟩).path∧v.digest=(readV ⟨C,p⟩).digest∧v.commits=(readV ⟨C,p⟩).commits∧v.member=(readV ⟨C,p⟩).member∧(0:Nat)=0∧C.length=C.length∧treeC C=treeC C∧C=C∧kvC C=kvC C∧True:=
    fun v h=>⟨(),by rw [h],by rw [h],by rw [h],by rw [h],by rw [h],by rw [h],by rw [h],rfl,rfl,rfl,rfl,rfl,trivial⟩
  have hget:=conf_get C p
  refine⟨p,rfl,hx,fun _ _=>br_i (fun h1=>fin ⟨5,0,0,[],0,[],0⟩ ?_) (fun h1=>br_i (fun h2=>fin ⟨5,0,0,[],0,[],0⟩ ?_) (fun h2=>⟨⟨treeC C,p⟩,rfl,rfl,trivial,fun _ _=>?_⟩))⟩
  · have h1:normB p=none:=by simpa using h1
    unfold readV
    dsimp only
    rw [h1]
    rfl
  all_goals
    have h1:(normB p).isSome=true:=by simpa using h1
    obtain⟨q,hq⟩:=Option.isSome_iff_exists.1 h1
    rw [hq] at h2
    simp only [Option.getD_some] at h2
  · have h2:(some q==some p)=false:=by simpa using h2
    unfold readV
    dsimp only
    rw [hq,h2]
    rfl
  · have h2:(some q==some p)=true:=by simpa using h2
    dsimp only
    rw [hget]
    have hV:readV ⟨C,p⟩=match getL p (rowC C) with
      | none=>⟨10,0,0,p,0,[],0⟩
      | some y=>bif y.gone then ⟨10,0,0,p,0,[],0⟩ else ⟨9,0,y.rev,p,y.digest,[],0⟩:=by
      unfold readV
      dsimp only
      rw [hq,h2]
      rfl
    cases hg:getL p (rowC C) with
    | none=>
      rw [hg] at hV
      exact br_t rfl (fin ⟨10,0,0,p,0,[],0⟩ hV)
    | some y=>
      rw [hg] at hV
      refine br_f rfl (br_i (fun h3=>fin ⟨10,0,0,p,0,[],0⟩ ?_) (fun h3=>fin ⟨9,0,y.rev,p,y.digest,[],0⟩ ?_))
      · have h3:y.gone=true:=h3
        rw [hV]
        dsimp only
        rw [h3]
        rfl
      · have h3:y.gone=false:=h3
        rw [hV]
        dsimp only
        rw [h3]
        rfl
theorem gsame_ok:SpecOK Tryz.prog 85 equalT.spec:=by
  refine Tri.ok (E:=gsameE) (Env_ok (by decide +kernel) (by simp)) (n:=1000) equalT fun x hx=>?_
  rw [gsame_vc]
  delta gsameQ5 gsameQ4 gsameQ3 gsameQ2 gsameQ1
  obtain⟨a,b⟩:=x
  intro ha hb
  have ha5:a.length*32≤room47:=ha
  simp only [room47] at ha5
  refine br_i (fun h=>⟨(),?_,trivial⟩) (fun h=>⟨⟨0,rfl,Nat.zero_le _,rfl⟩,fun i hi _=>br_i (fun h3=>?_) (fun h3=>⟨(),?_,trivial⟩)⟩)
  · have:Nat.beq a.length b.length=false:=by
      cases h':Nat.beq a.length b.length
      · rfl
      · rw [Nat.eq_of_beq_eq_true h'] at h;simp at h
    show false=sameC a b
    unfold sameC
    rw [this];rfl
  · have he:(a.length:Int)=b.length:=by simpa using h
    have h3:(i:Int)<a.length:=of_decide_eq_true h3
    obtain⟨h1,h2⟩:=hi
    have h2:sameC (a.drop i) (b.drop i)=sameC a b:=h2
    have hs:=same_at (a:=a) (b:=b) (i:=i) (by omega) (by omega)
    rw [h2] at hs
    refine br_t (decide_eq_true ⟨by omega,h3⟩) (br_t (decide_eq_true ⟨by omega,by show (i:Int)<b.length;omega⟩) (br_i (fun h4=>⟨(),?_,trivial⟩) (fun h4=>⟨i+1,by rw [wrap_id (by omega) (by omega)];rfl,⟨by show i+1≤a.length;omega,?_⟩,by show a.length-(i+1)<a.length-i;omega⟩)))
    · have h4:(!(eqC (a.getD i noC) (b.getD i noC)))=true:=h4
      show false=sameC a b
      rw [Bool.not_eq_true'] at h4
      rw [hs,h4];rfl
    · have h4:(!(eqC (a.getD i noC) (b.getD i noC)))=false:=h4
      rw [Bool.not_eq_false'] at h4
      show sameC (a.drop (i+1)) (b.drop (i+1))=sameC a b
      rw [hs,h4];rfl
  · have he:(a.length:Int)=b.length:=by simpa using h
    have h3:¬(i:Int)<a.length:=of_decide_eq_false h3
    obtain⟨h1,h2⟩:=hi
    have h2:sameC (a.drop i) (b.drop i)=sameC a b:=h2
    show true=sameC a b
    rw [←h2,List.drop_of_length_le (by omega:a.length≤i),List.drop_of_length_le (by omega:b.length≤i)];rfl
abbrev noM:CommitD:=⟨0,0,[],[]⟩
theorem sameM_at {a b:List CommitD} {i:Nat} (h1:i<a.length) (h2:i<b.length):sameM (a.drop i) (b.drop i)=(eqM (a.getD i noM) (b.getD i noM)&&sameM (a.drop (i+1)) (b.drop (i+1))):=by
  have e:∀ {l:List CommitD},i<l.length→l.drop i=l.getD i noM::l.drop (i+1):=by
    intro l h
    rw [List.drop_eq_getElem_cons h]
    simp [h]
  rw [e h1,e h2]
  unfold sameM
  simp only [List.length_cons,List.zipWith_cons_cons,List.all_cons,id]
  have:Nat.beq ((a.drop (i+1)).length+1) ((b.drop (i+1)).length+1)=Nat.beq (a.drop (i+1)).length (b.drop (i+1)).length:=rfl
  rw [this]
  cases Nat.beq (a.drop (i+1)).length (b.drop (i+1)).length<;>cases eqM (a.getD i noM) (b.getD i noM)<;>rfl
theorem set_same {l:List CommitD} {i:Nat} (h:i<l.length) {c:CommitD} (hc:c=l.getD i noM):l.set i c=l:=by
  rw [hc]
  apply List.ext_getElem?
  intro j
  rw [List.getElem?_set]
  by_cases e:i=j
  · subst e
    simp [List.getD,h]
  · simp [e]
theorem conf_eq (C:List CommitD) (b:Int):∀l,confT (treeC C) b l=confL (rowC C) b l
  | []=>rfl
  | c::r=>by
    have ih:=conf_eq C b r
    unfold confT confL
    rw [conf_get,ih]
    cases getL c.path (rowC C)<;>rfl
theorem land_bad {x:LandA} (h:badLd x=true):landV x=vC 5 0 []∧landC x=x.C:=by
  unfold landV landC isLd
  rw [h]
  exact⟨rfl,rfl⟩
theorem land_ahead {x:LandA} (h:badLd x=false) (h2:x.base>x.C.length):landV x=vC 4 x.C.length []∧landC x=x.C:=by
  unfold landV landC isLd
  rw [h,decide_eq_true h2]
  exact⟨rfl,rfl⟩
theorem land_conf {x:LandA} (h:badLd x=false) (h2:¬x.base>x.C.length) {q:Bs × Int} (h3:confA x=some q):landV x=vC 3 q.2 q.1∧landC x=x.C:=by
  unfold landV landC isLd
  rw [h,decide_eq_false h2,h3]
  exact⟨rfl,rfl⟩
theorem land_in {x:LandA} (h:badLd x=false) (h2:¬x.base>x.C.length) (h3:confA x=none):landV x=vC 2 ((x.C.length:Int)+1) []∧landC x=x.C++[newC x]:=by
  unfold landV landC isLd
  rw [h,decide_eq_false h2,h3]
  exact⟨rfl,rfl⟩
theorem fin0 {x:LandA} {v:VerdictD} (h:landV x=v∧landC x=x.C):∃_:Unit,v.code=(landV x).code∧v.session=(landV x).session∧v.rev=(landV x).rev∧v.path=(landV x).path∧v.digest=(landV x).digest∧v.commits=(landV x).commits∧v.member=(landV x).member∧(0:Nat)=0∧x.C.length=(landC x).length∧treeC x.C=treeC (landC x)∧x.C=landC x∧kvC x.C=kvC (landC x)∧True:=by
  obtain⟨h1,h2⟩:=h
  rw [h1,h2]
  exact⟨(),rfl,rfl,rfl,rfl,rfl,rfl,rfl,rfl,rfl,rfl,rfl,rfl,trivial⟩
theorem dup {P:Prop} (h:P):P∧P:=⟨h,h⟩
theorem landE_ok:EnvOK landE:=Env_ok (by decide +kernel) (by
  intro p hp
  simp only [List.mem_cons,List.mem_nil_iff,or_false] at hp
  rcases hp with rfl | rfl | rfl | rfl | rfl
  · exact check_ok
  · exact name_ok
  · exact sorr_ok
  · exact get_ok
  · exact put_ok _)
theorem landD_at {f:Nat} {D:DSpec} (h:landD f=some D):f=129∧D=evClosure landE 1000 129:=by
  unfold landD at h
  cases hb:Nat.beq f 129
  · rw [hb] at h;cases h
  · rw [hb] at h
    exact⟨Nat.eq_of_beq_eq_true hb,(Option.some.inj h).symm⟩
theorem puts_part (C:List CommitD) (l:List LeafD):putsT (treeC C) l=putsD (leavesC C++l):=by
  unfold treeC putsT putsD
  rw [List.foldl_append]
set_option maxHeartbeats 0 in
theorem land_ok:SpecOK Tryz.prog 72 landT.spec:=by
  refine Tri.okD (E:=landE) landE_ok (dspec:=landD) (fun f D h=>?_) (fun f D h=>?_) (n:=1000) landT fun x hx=>?_
  · obtain⟨rfl,rfl⟩:=landD_at h
    exact evClosure_ok landE_ok 1000 129
  · obtain⟨rfl,rfl⟩:=landD_at h
    exact⟨_,Tryz.func129,by kernel_rfl⟩
  rw [land_vc]
  delta landQ16 landQ15 landQ14 landQ13 landQ12 landQ11 landQ10 landQ9 landQ8 landQ7 landQ6 landQ5 landQ4 landQ3 landQ2 landQ1 EqG EqV7
  revert hx
  revert x
  intro (x:LandA) (hx:fewG x.C=true∧shortC x.l=true)
  obtain⟨hf,hs⟩:=hx
  obtain⟨f1,f2,f3⟩:=fewG_of hf
  refine⟨x.l,rfl,hs,fun _ _=>br_i (fun hb1=>fin0 (v:=vC 5 0 []) (land_bad ?_)) (fun hb1=>?_)⟩
  · unfold badLd
    have:(chkC x.l==0)=false:=by simpa using hb1
    rw [this];rfl
  have hb1:chkC x.l=0:=by simpa using hb1
  have hbk:(chkC x.l==0)=true:=by rw [hb1];rfl
  have w:IntKind.i64.wrap ((x.C.length:Int)+1)=(x.C.length:Int)+1:=wrap_id (by omega) (by omega)
  have hfew:=chk_few hb1
  have hfc:fewC x.l=true:=decide_eq_true (by omega)
  have hsl:(insS x.l).length≤16:=by rw [insS_len];exact hfew.1
  rw [w]
  refine br_i (fun hr=>⟨x.ref,rfl,trivial,fun _ _=>br_i (fun hw=>fin0 (v:=vC 5 0 []) (land_bad ?_)) (fun hw=>br_i (fun hb=>fin0 (v:=vC 5 0 []) (land_bad ?_)) (fun hb=>?_))⟩) (fun hr=>br_i (fun hb=>fin0 (v:=vC 5 0 []) (land_bad ?_)) (fun hb=>?_))
  · have hr:(x.ref==[])=false:=by rw [Bool.not_eq_true'] at hr;exact hr
    have hw:wordOk x.ref false=false:=by rw [Bool.not_eq_true'] at hw;exact hw
    unfold badLd
    rw [hbk,hr,hw];rfl
  · unfold badLd
    rw [show decide (x.base<0)=true from hb];simp
  rotate_left
  · unfold badLd
    rw [show decide (x.base<0)=true from hb];simp
  all_goals
    have hbad:badLd x=false:=by
      unfold badLd
      first
        | (have hw:wordOk x.ref false=true:=by rw [Bool.not_eq_false'] at hw;exact hw
           rw [hbk,hw,show decide (x.base<0)=false from hb];simp;done)
        | (have hr:(x.ref==[])=true:=by rw [Bool.not_eq_false'] at hr;exact hr
           rw [hbk,hr,show decide (x.base<0)=false from hb];simp;done)
    refine fun _ _=>br_i (fun ha=>fin0 (v:=vC 4 x.C.length []) (land_ahead hbad (of_decide_eq_true ha))) (fun ha=>?_)
    have ha:=of_decide_eq_false ha
    refine⟨x.l,rfl,hfc,fun _ _ _=>⟨⟨0,rfl,Nat.zero_le _,rfl⟩,fun i hi=>br_i (fun h1=>br_t ?_ (dup ?_)) (fun h1=>?_)⟩⟩
    · exact decide_eq_true ⟨by omega,of_decide_eq_true h1⟩
    · obtain⟨i1,i2⟩:=hi
      have h1:=of_decide_eq_true h1
      have hd:(insS x.l).drop i=(insS x.l).getD i noC::(insS x.l).drop (i+1):=dropC (by omega)
      rw [hd] at i2
      have e0:(i:Int).toNat=i:=rfl
      rw [e0]
      have hstep:∀y,getD' ((insS x.l).getD i noC).path (treeC x.C)=y→confT (treeC x.C) x.base (insS x.l)=match y with
          | some x1=>bif decide (x1.rev>x.base) then some (((insS x.l).getD i noC).path,x1.rev) else confT (treeC x.C) x.base ((insS x.l).drop (i+1))
          | none=>confT (treeC x.C) x.base ((insS x.l).drop (i+1)):=by
        intro y hy
        rw [←i2]
        conv=>lhs;unfold confT
        rw [hy]
        all_goals (cases y<;>rfl)
      refine⟨⟨treeC x.C,((insS x.l).getD i noC).path⟩,rfl,rfl,trivial,fun _ _=>?_⟩
      dsimp only
      cases hg:getD' ((insS x.l).getD i noC).path (treeC x.C) with
      | none=>
        have h2:=hstep _ hg
        exact br_f rfl ⟨i+1,by rw [wrap_id (by omega) (by omega)];rfl,⟨by omega,h2.symm⟩,by show (insS x.l).length-(i+1)<(insS x.l).length-i;omega⟩
      | some y=>
        have h2:=hstep _ hg
        refine br_t rfl (br_i (fun h3=>?_) (fun h3=>⟨i+1,by rw [wrap_id (by omega) (by omega)];rfl,⟨by omega,?_⟩,by show (insS x.l).length-(i+1)<(insS x.l).length-i;omega⟩))
        · have h3:decide (y.rev>x.base)=true:=h3
          have hc:confA x=some (((insS x.l).getD i noC).path,y.rev):=by
            unfold confA
            rw [←conf_eq,h2]
            dsimp only
            rw [h3]
            rfl
          exact fin0 (v:=vC 3 y.rev ((insS x.l).getD i noC).path) (land_conf hbad ha hc)
        · have h3:decide (y.rev>x.base)=false:=h3
          rw [h2]
          dsimp only
          rw [h3]
          rfl
    · obtain⟨i1,i2⟩:=hi
      have h1:=of_decide_eq_false h1
      rw [List.drop_of_length_le (by omega)] at i2
      have hc:confA x=none:=by
        unfold confA
        rw [←conf_eq,←i2]
        rfl
      obtain⟨hV,hC⟩:=land_in hbad ha hc
      refine fun _ _=>br_t ?_ fun _=>⟨⟨0,rfl,rfl,rfl,rfl,Nat.zero_le _⟩,fun j hj=>br_i (fun h2=>br_t ?_ ⟨⟨putsD (leavesC x.C++((insS x.l).take j).map (leafC ((x.C.length:Int)+1))),leafC ((x.C.length:Int)+1) ((insS x.l).getD j noC)⟩,puts_part _ _,rfl,rfl,rfl,rfl,?_,fun _ _=>⟨j+1,by rw [wrap_id (by have:=of_decide_eq_true h2;omega) (by have:=of_decide_eq_true h2;omega)];rfl,rfl,rfl,?_,?_,?_⟩⟩) (fun h2=>?_)⟩
      · have r1:decide ((x.C.length+1)*56≤room47)=true:=by
          have:4001*56≤room47:=by decide
          exact decide_eq_true (Nat.le_trans (Nat.mul_le_mul_right 56 (by omega)) this)
        simp only [Bool.and_eq_true]
        refine⟨⟨by simp,by simp⟩,?_⟩
        simpa using r1
      · exact decide_eq_true ⟨by omega,of_decide_eq_true h2⟩
      · exact puts_may2 (by rw [List.length_append,List.length_map,List.length_take];omega)
      · have h2:=of_decide_eq_true h2
        rw [puts_part,take_succ_getD noC (by omega),List.map_append,←List.append_assoc]
        exact (putsD_snoc _ _).symm
      · have h2:=of_decide_eq_true h2
        show j+1≤(insS x.l).length
        omega
      · have h2:=of_decide_eq_true h2
        show (insS x.l).length-(j+1)<(insS x.l).length-j
        omega
      · have h2:=of_decide_eq_false h2
        have hj:j≤(insS x.l).length:=hj
        have hT:putsT (treeC x.C) (((insS x.l).take j).map (leafC ((x.C.length:Int)+1)))=treeC (x.C++[newC x]):=by
          rw [puts_part,List.take_of_length_le (by omega)]
          unfold treeC
          rw [leavesC_snoc]
          rfl
        have hL:(List.take x.C.length (List.drop 0 x.C)++List.take 1 (List.drop 0 [(⟨(x.C.length:Int)+1,x.base,x.ref,insS x.l⟩:CommitD)]))=x.C++[newC x]:=by
          simp [newC]
        have hN:(x.C.length+(List.take 1 (List.drop 0 [(⟨(x.C.length:Int)+1,x.base,x.ref,insS x.l⟩:CommitD)])).length)=(x.C++[newC x]).length:=by simp
        rw [hV,hC]
        refine br_i (fun h3=>⟨(),rfl,rfl,rfl,rfl,rfl,rfl,rfl,rfl,hN,hT,hL,?_,trivial⟩) (fun h3=>⟨(),rfl,rfl,rfl,rfl,rfl,rfl,rfl,rfl,hN,hT,hL,?_,trivial⟩)
        · have h3:(x.ref==[])=false:=by rw [Bool.not_eq_true'] at h3;exact h3
          unfold kvC
          rw [List.foldl_append]
          show _=(bif x.ref==[] then _ else _)
          rw [h3]
          rfl
        · have h3:(x.ref==[])=true:=by rw [Bool.not_eq_false'] at h3;exact h3
          unfold kvC
          rw [List.foldl_append]
          show _=(bif x.ref==[] then _ else _)
          rw [h3]
          rfl
end Go.Proofs.YtgepebndihfnfaaGreat.Ses
