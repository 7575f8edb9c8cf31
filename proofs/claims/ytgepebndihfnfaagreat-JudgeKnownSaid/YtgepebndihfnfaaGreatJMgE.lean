/- Ranges over a function; what a machine tells; a machine that is made. No condition. -/
import Derived.Test.YtgepebndihfnfaaGreatJMgD
import Derived.RangeFuncRecord
import Derived.RangeFuncIn
import Derived.RangeFuncLeaves
import Derived.TacticsIn
import Derived.KernelRfl
set_option linter.unusedSimpArgs false
set_option linter.unusedVariables false

namespace Go.Proofs.YtgepebndihfnfaaGreat.Sx
open Go
theorem upon_in {F:Fence} (hF:F=Fence.wide ∨ ∃l,F=Fence.wide.inRound l) {n:Nat} {P:Program} {o:Oper} {a:Act} {next:Act→World→Prop} {Q:Exit→Act→World→Prop} {r:Result Next}
    (h:o.upon P a next Q r):o.uponIn F n P a next Q r:=by
  have hd:F.depth.isSome=true→1≤n:=by
    rcases hF with rfl | ⟨l,rfl⟩<;>intro h<;>simp [Fence.wide] at h
  have hc:∀ {f args w R},Calls P f args w R→CallsIn F (n-1) P f args w R:=by
    intro f args w R hcall
    rcases hF with rfl | ⟨l,rfl⟩
    · exact callsIn_wide.2 hcall
    · exact (callsIn_wide.2 hcall:CallsIn Fence.wide (n-1) P f args w R)
  have hr:∀ {row args w R},Rows P row args w R→RowsIn F (n-1) P row args w R:=by
    intro row args w R hrow c cs _
    obtain⟨v,w',h1,h2⟩:=hrow c cs
    rcases hF with rfl | ⟨l,rfl⟩
    · exact⟨v,w',h1,stepsIn_wide.2 h2⟩
    · exact⟨v,w',h1,(stepsIn_wide.2 h2:StepsIn (Machine.fenced P Fence.wide) P _ _)⟩
  unfold Oper.upon at h
  split at h
  · exact h
  · exact h
  · exact h
  · exact⟨hd,hc h⟩
  · exact⟨hd,hr h⟩
  · exact h
  · exact h.elim
theorem fn_wide {F:Fence} (hF:F=Fence.wide ∨ ∃l,F=Fence.wide.inRound l) (f:FuncId):F.fn f:=by
  rcases hF with rfl | ⟨l,rfl⟩<;>exact trivial
def noDefer:List Oper→Bool
  | []=>true
  | o::r=>match o.op with
    | .defer _=>false
    | _=>noDefer r
theorem noDefer_at {l:List Oper} (h:noDefer l=true):∀o,o∈l → ∀c,o.op ≠ .defer c:=by
  induction l with
  | nil=>intro o ho;cases ho
  | cons x r ih=>
    unfold noDefer at h
    intro o ho c hc
    split at h
    · cases h
    · rename_i hx
      rcases List.mem_cons.1 ho with rfl | ho
      · exact hx c hc
      · exact ih h o ho c hc
theorem semAt_wide {F:Fence} (hF:F=Fence.wide ∨ ∃l,F=Fence.wide.inRound l) {o:Oper} (ho:∀c,o.op ≠ .defer c) (ρ:Operand→Value):o.semAt F.round ρ=execOp ρ o:=by
  rcases hF with rfl | ⟨l,rfl⟩
  · rfl
  · exact Oper.semAt_some l ρ o ho
theorem wp_in {F:Fence} (hF:F=Fence.wide ∨ ∃l,F=Fence.wide.inRound l) {n:Nat} {P:Program} {o:Oper} (ho:∀c,o.op ≠ .defer c) {a:Act} {w:World} {next:Act→World→Prop} {Q:Exit→Act→World→Prop}
    (h:o.wp P a w next Q):o.wpIn F n P a w next Q:=by
  refine⟨fun f _=>fn_wide hF f,?_⟩
  rw [semAt_wide hF ho]
  exact upon_in hF h
theorem uponIn_mono' {F:Fence} {n:Nat} {P:Program} {o:Oper} {a:Act} {N N':Act→World→Prop} {Q:Exit→Act→World→Prop} (hN:∀a w,N a w→N' a w) {r:Result Next} (h:o.uponIn F n P a N Q r):o.uponIn F n P a N' Q r:=by
  unfold Oper.uponIn at h ⊢
  split at h
  · exact hN _ _ h
  · exact hN _ _ h
  · exact hN _ _ h
  · refine⟨h.1,h.2.mono fun e w' hp=>?_⟩
    cases e with
    | returned v=>exact hN _ _ hp
    | panicked ch=>exact hp
    | outgrown=>exact hp
  · exact⟨h.1,h.2.mono fun v w' hp=>hN _ _ hp⟩
  · refine⟨h.1,h.2.mono fun e w' hp=>?_⟩
    cases e with
    | returned v=>exact hN _ _ hp
    | panicked ch=>exact hp
    | outgrown=>exact hp
  · exact h
  · exact h.elim
theorem wpListIn_of {F:Fence} (hF:F=Fence.wide ∨ ∃l,F=Fence.wide.inRound l) {n:Nat} {P:Program} {ops:Array Oper} {Q:Exit→Act→World→Prop} (hQ:∀a w,¬Q .outgrown a w) :
    ∀(l:List Oper) (a:Act) (w:World),noDefer l=true→wpList P ops Q l a w→wpListIn F n P ops Q l a w:=by
  intro l
  induction l with
  | nil=>exact fun a w _ h=>h
  | cons o r ih=>
    intro a w hd h
    have ho:=noDefer_at hd o (by simp)
    have hr:noDefer r=true:=by
      unfold noDefer at hd
      split at hd
      · cases hd
      · exact hd
    unfold wpList at h
    unfold wpListIn
    split at h
    · rename_i hw
      rw [if_pos hw]
      rcases h with h | ⟨_,a0,w0,h⟩
      · have h2:=wp_in (n:=n) hF ho h
        exact⟨h2.1,uponIn_mono' (fun a w hh=>ih a w hr hh) h2.2⟩
      · exact absurd h (hQ _ _)
    · rename_i hw
      rw [if_neg hw]
      exact⟨fun f _=>fn_wide hF f,ih _ _ hr h⟩
def evR (E:Envr) (N:Nat):Code→(Ex→St→Prop)→St→Prop
  | .skip,K,s=>K .normal s
  | .region _ ops draw,K,s=>bif !draw&&noDefer ops.toList then evList E (ev E N) K ops.toList ops.toList (endR E (K .normal)) s else Bad "round: region" ""
  | .seq a b,K,s=>evR E N a (fun e s'=>match e with
      | .normal=>evR E N b K s'
      | e=>K e s') s
  | .block id b,K,s=>evR E N b (fun e s'=>match e with
      | .exit j=>bif Nat.beq j id then K .normal s' else K (.exit j) s'
      | e=>K e s') s
  | .cond c a b,K,s=>match c with
    | .tmp t=>match getE s.env t with
      | .bool x=>br x (evR E N a K (s.put (some t) (.bool true))) (evR E N b K (s.put (some t) (.bool false)))
      | _=>Bad "cond" ""
    | _=>Bad "cond" ""
  | .exit id,K,s=>K (.exit id) s
  | _,_,_=>Bad "round: code" ""
theorem evR_sound {E:Envr} (hE:EnvOK E) (N:Nat) (l n:Nat):∀(c:Code) {K:Ex→St→Prop} {s:St},evR E N c K s → ∀ {F:Fr} {g:Ctx} {a:Act} {w:World},Den F g s a w→
    c.wpIn (Fence.wide.inRound l) n E.P (PostX F (fun _=>True) g s a K) a w:=by
  intro c
  induction c with
  | skip=>exact fun h F g a w hd=>wpIn_skip ⟨g,_,h,Goes.refl hd⟩
  | region id ops draw=>
    intro K s h F g a w hd
    unfold evR at h
    cases hc:(!draw&&noDefer ops.toList)
    · rw [hc] at h;cases h
    rw [hc] at h
    simp only [Bool.and_eq_true,Bool.not_eq_true'] at hc
    obtain⟨rfl,hnd⟩:=hc
    refine wpIn_region_list (wpListIn_of (.inr ⟨l,rfl⟩) (fun _ _ hh=>hh) _ _ _ hnd ?_)
    rw [←List.append_nil ops.toList]
    exact evList_sound hE (ev_sound hE N).1 ops [] ops.toList h hd (fun o ho d hdst=>trivial) (fun g' s' a' w' hk hg=>show PostX F _ g s a K .normal a' w' from ⟨g',s',endR_sound hk,hg⟩) (fun g' s' sv v a' w' hk r hg=>⟨g',s',sv,v,hk,rfl,r,hg⟩)
  | seq x y ihx ihy=>
    intro K s h F g a w hd
    unfold evR at h
    refine wpIn_seq (wpIn_mono (ihx h hd) fun e a' w' hp=>?_)
    cases e with
    | normal=>
      obtain⟨g',s',hk,hg⟩:=hp
      exact wpIn_mono (ihy hk hg.den) fun e a2 w2 q=>PostX.trans hg q
    | exit id=>exact hp
    | ret=>exact hp
    | panic ch=>exact hp
    | goto _=>exact hp.elim
    | outgrown=>exact hp.elim
  | block id b ih=>
    intro K s h F g a w hd
    unfold evR at h
    refine wpIn_block (wpIn_mono (ih h hd) fun e a' w' hp=>?_)
    cases e with
    | normal=>exact hp
    | exit j=>
      obtain⟨g',s',hk,hg⟩:=hp
      simp only [Exit.inBlock]
      dsimp only at hk
      cases hb:Nat.beq j id
      · rw [hb] at hk
        rw [if_neg (fun e=>by rw [e,Nat.beq_refl] at hb;cases hb)]
        exact⟨g',s',hk,hg⟩
      · rw [hb] at hk
        rw [if_pos (Nat.eq_of_beq_eq_true hb)]
        exact⟨g',s',hk,hg⟩
    | ret=>exact hp
    | panic ch=>exact hp
    | goto _=>exact hp.elim
    | outgrown=>exact hp.elim
  | cond c x y ihx ihy=>
    intro K s h F g a w hd
    unfold evR at h
    split at h
    case h_2=>cases h
    rename_i t
    split at h
    case h_2=>cases h
    rename_i b hb
    have r:=hd.env t
    rw [hb] at r
    have hv:a.eval (.tmp t) = .bool b:=by
      show a.tmps.getD t undef=_
      cases hx:a.tmps.getD t undef<;>rw [hx] at r<;>cases r
      rfl
    have hk:=hd.known hb
    cases b with
    | true=>exact wpIn_cond (t:=true) hv (wpIn_mono (ihx h hk) fun e a' w' q=>PostX.trans (s:=s) (s1:=s.put (some t) (.bool true)) (a1:=a) (w1:=w) ⟨Ctx.le.refl g,Upd.refl _,fun _ _=>rfl,hk⟩ q)
    | false=>exact wpIn_cond (t:=false) hv (wpIn_mono (ihy h hk) fun e a' w' q=>PostX.trans (s:=s) (s1:=s.put (some t) (.bool false)) (a1:=a) (w1:=w) ⟨Ctx.le.refl g,Upd.refl _,fun _ _=>rfl,hk⟩ q)
  | exit id=>exact fun h F g a w hd=>wpIn_exit ⟨g,_,h,Goes.refl hd⟩
  | _=>intros;rename_i h _ _ _ _ _;cases h
def aside:Obj→Bool
  | .loop _=>true
  | .deferred _=>true
  | _=>false
theorem RegOK.noLoop {w:World} {r:Reg} {k:Blk} (h:RegOK w r k) {o:Obj} (ho:w.heap[r.b]?=some o) (hc:aside o=true):False:=by
  cases k with
  | kv l=>obtain⟨es,ck,h1⟩:=h;rw [h1] at ho;cases ho;cases hc
  | _=>obtain⟨c,T,h1,_⟩:=h;rw [h1] at ho;cases ho;cases hc
theorem cell?_notCells {w:World} {b o:Nat} {x:Obj} (hx:w.heap[b]?=some x) (hc:aside x=true) {v:Value} (h:w.cell? ⟨b,o,none⟩=some v):False:=by
  unfold World.cell? at h
  have hx':w.heap[(⟨b,o,none⟩:Addr).block]?=some x:=hx
  rw [hx'] at h
  cases x<;>simp_all [aside]
theorem Mem0.turn {g:Ctx} {B:Blks} {w:World} (h:Mem0 g B w) {l:Nat} {o o':Obj} (hl:w.heap[l]?=some o) (hc:aside o=true):Mem0 g B (w.putObj l o'):=by
  refine⟨fun n k hn=>?_,h.inj,fun b i v hv=>?_,h.apart⟩
  · obtain⟨x,hx,hok⟩:=h.reg n k hn
    refine⟨x,hx,hok.congr (Ctx.le.refl g) fun r e=>?_⟩
    subst e
    exact World.putObj_heap_other fun e=>hok.1.noLoop (e ▸ hl) hc
  · have hv':=h.ro b i v hv
    rw [cell?_congr (World.putObj_heap_other (r:=l) (k:=b) fun e=>by subst e;exact cell?_notCells hl hc hv')]
    exact hv'
theorem Mem.turnOwn {F:Fr} {g:Ctx} {m:MS} {w:World} (h:Mem F g m w) {l:Nat} {o o':Obj} (hl:w.heap[l]?=some o) (hc:aside o=true) (hF:F.w0.heap.size≤l):Mem F g m (w.putObj l o'):=
  ⟨h.mem.turn hl hc,h.next,h.own,h.ext,⟨by rw [World.putObj_size];exact h.fix.size,fun b hb hM=>by rw [World.putObj_heap_other (by omega)];exact h.fix.keep b hb hM,h.fix.os,h.fix.out⟩⟩
theorem Mem.turnOut {F:Fr} {g:Ctx} {m:MS} {w:World} (h:Mem F g m w) {l:Nat} {o:Obj} (o':Obj) (hl:w.heap[l]?=some o) (hc:aside o=true) (hF:l<F.w0.heap.size) :
    Mem {F with w0:=F.w0.putObj l o'} g m (w.putObj l o'):=by
  have hown:∀b,Fr.Own {F with w0:=F.w0.putObj l o'} b↔F.Own b:=fun b=>by
    show (F.w0.putObj l o').heap.size≤b∨F.M b↔F.w0.heap.size≤b∨F.M b
    rw [World.putObj_size]
  refine⟨h.mem.turn hl hc,h.next,fun n k r h1 h2=>(hown _).2 (h.own n k r h1 h2),fun b i v hv=>(h.ext b i v hv).imp id (hown _).2,⟨by show (F.w0.putObj l o').heap.size≤_;rw [World.putObj_size,World.putObj_size];exact h.fix.size,fun b hb hM=>?_,h.fix.os,h.fix.out⟩⟩
  have hb:b<F.w0.heap.size:=by
    have:b<(F.w0.putObj l o').heap.size:=hb
    rwa [World.putObj_size] at this
  show _=(F.w0.putObj l o').heap[b]?
  by_cases e:b=l
  · rw [e]
    exact (World.putObj_heap_same (Nat.lt_of_lt_of_le hF h.fix.size)).trans (World.putObj_heap_same hF).symm
  · rw [World.putObj_heap_other e,World.putObj_heap_other e]
    exact h.fix.keep b hb hM
theorem putObj_twice (w:World) (l:Nat) (o o':Obj) (h:w.heap[l]?=some o):(w.putObj l o').putObj l o=w:=by
  cases w
  simp only [World.putObj]
  congr 1
  apply Array.ext_getElem?
  intro k
  rw [Array.getElem?_setIfInBounds,Array.getElem?_setIfInBounds]
  simp only at h
  split
  · rename_i e
    subst e
    rw [Array.size_setIfInBounds]
    split
    · exact h.symm
    · rename_i hlt;rw [Array.getElem?_eq_none (by omega)] at h;cases h
  · rfl
structure Yd where
  l:Nat
  T:List (Nat × SV)
  nt:Nat
  ps:List Nat
  assign:Code
  body:Code
def putL (e:List (Nat × SV)):List Nat→List SV→List (Nat × SV)
  | p::ps,v::vs=>putL (putE e p v) ps vs
  | _,_=>e
def evRound (E:Envr) (N:Nat) (Y:Yd) (args:List SV) (m:MS) (k:MS→Prop):Prop:=
  bif Nat.beq args.length Y.ps.length&&Y.ps.all (fun p=>Nat.blt p Y.nt) then
    evR E N Y.assign (fun e s1=>match e with
      | .normal=>evR E N Y.body (fun e s2=>match e with
        | .normal=>k s2.m
        | _=>Bad "round: leaves" "") s1
      | _=>Bad "round: leaves" "") ⟨putL Y.T Y.ps args,Y.nt,m⟩
  else Bad "round: arguments" ""
def YOK (Y:Yd) (F:Fr) (g:Ctx):Prop:=
  Y.l<F.w0.heap.size∧¬F.M Y.l ∧ ∃fn tmps D,F.w0.heap[Y.l]?=some (.loop {state:=.ready,pending:=none,fn,tmps,params:=⟨Y.ps⟩,assign:=Y.assign,body:=Y.body,defers:=D})∧
    tmps.size=Y.nt ∧ ∀t,Rep g (getE Y.T t) (tmps.getD t undef)
theorem YOK.mono {Y:Yd} (F:Fr) (g g':Ctx) (hg:g.le g') (h:YOK Y F g):YOK Y F g':=by
  obtain⟨h1,h2,fn,tmps,D,h3,h4,h5⟩:=h
  exact⟨h1,h2,fn,tmps,D,h3,h4,fun t=>(h5 t).mono hg⟩
theorem putL_rep {g:Ctx}:∀(ps:List Nat) (args:List SV) (vs:List Value) (e:List (Nat × SV)) (tmps:Array Value),RepL g args vs→ps.length=args.length→(∀p,p∈ps→p<tmps.size)→(∀t,Rep g (getE e t) (tmps.getD t undef))→
    (∀t,Rep g (getE (putL e ps args) t) (((ps.zip vs).foldl (fun t (p,v)=>t.setIfInBounds p v) tmps).getD t undef))∧((ps.zip vs).foldl (fun t (p,v)=>t.setIfInBounds p v) tmps).size=tmps.size
  | [],args,vs,e,tmps,r,hl,hp,he=>by
    cases args with
    | cons _ _=>simp at hl
    | nil=>rw [r.eq_nil];exact⟨he,rfl⟩
  | p::ps,args,vs,e,tmps,r,hl,hp,he=>by
    cases args with
    | nil=>simp at hl
    | cons x args=>
      obtain⟨v,vs',rfl,r0,r1⟩:=r.uncons
      have hp0:p<tmps.size:=hp p (by simp)
      obtain⟨h1,h2⟩:=putL_rep ps args vs' (putE e p x) (tmps.setIfInBounds p v) r1 (by simpa using hl) (fun q hq=>by rw [Array.size_setIfInBounds];exact hp q (by simp [hq])) (fun t=>by
        rw [Array.getD_eq_getD_getElem?,Array.getElem?_setIfInBounds]
        by_cases e2:t=p
        · subst e2
          rw [getE_put_same]
          simp [hp0]
          exact r0
        · rw [getE_put_other _ _ e2,if_neg (fun e3=>e2 e3.symm),←Array.getD_eq_getD_getElem?]
          exact he t)
      exact⟨h1,by rw [Array.size_setIfInBounds] at h2;exact h2⟩
theorem evRound_sound {E:Envr} (hE:EnvOK E) {N:Nat} {Y:Yd} {args:List SV} {m:MS} {k:MS→Prop} (h:evRound E N Y args m k) {F:Fr} {g:Ctx} {w:World} {vs:List Value} (hY:YOK Y F g) (r:RepL g args vs) (hm:Mem F g m w) (n:Nat) :
    ∃fn tmps,(Instr.yield Y.l ⟨vs⟩).run E.P w = .ok (.round Y.l fn tmps Y.assign Y.body) w∧RoundIn Fence.wide n E.P Y.l fn tmps Y.assign Y.body w (fun e w'=>e = .returned (.bool true) ∧ ∃g' m',k m'∧g.le g'∧Upd m m'∧Mem F g' m' w'):=by
  obtain⟨hlt,hout,fn,tmps,D,hrec,hsz,hT⟩:=hY
  unfold evRound at h
  cases hc:(Nat.beq args.length Y.ps.length&&Y.ps.all (fun p=>Nat.blt p Y.nt))
  · rw [hc] at h;cases h
  rw [hc] at h
  simp only [Bool.and_eq_true] at hc
  have hlen:args.length=Y.ps.length:=Nat.eq_of_beq_eq_true hc.1
  have hps:∀p,p∈Y.ps→p<tmps.size:=fun p hp=>by rw [hsz];simpa using List.all_eq_true.1 hc.2 p hp
  have hl:w.heap[Y.l]?=some (.loop {state:=.ready,pending:=none,fn,tmps,params:=⟨Y.ps⟩,assign:=Y.assign,body:=Y.body,defers:=D}):=by rw [hm.fix.keep _ hlt hout];exact hrec
  obtain⟨he,hs2⟩:=putL_rep Y.ps args vs Y.T tmps r hlen.symm hps hT
  have hy:=run_yield (P:=E.P) (args:=⟨vs⟩) hl (by show vs.length=Y.ps.length;rw [←r.1,hlen])
  refine⟨fn,_,hy,roundIn_of_wpIn trivial ?_⟩
  have hfold:((⟨Y.ps⟩:Array Nat).zip ⟨vs⟩).foldl (fun tmps (t,a)=>tmps.setIfInBounds t a) tmps=(Y.ps.zip vs).foldl (fun t (p,v)=>t.setIfInBounds p v) tmps:=by
    simp
  have hden:Den {F with dfs:=[]} g ⟨putL Y.T Y.ps args,Y.nt,m⟩ {tmps:=((⟨Y.ps⟩:Array Nat).zip ⟨vs⟩).foldl (fun tmps (t,a)=>tmps.setIfInBounds t a) tmps,defers:=[]} w:=by
    rw [hfold]
    exact⟨he,by rw [hs2];exact hsz,rfl,hm.dfs []⟩
  refine wpIn_mono (evR_sound hE N Y.l n Y.assign h hden) fun e a1 w1 hp=>?_
  cases e with
  | exit id=>obtain⟨g',s',hk,_⟩:=hp;cases hk
  | ret=>obtain⟨g',s',hk,_⟩:=hp;cases hk
  | panic ch=>obtain⟨g',s',sv,v,hk,_⟩:=hp;cases hk
  | goto _=>exact hp.elim
  | outgrown=>exact hp.elim
  | normal=>
    obtain⟨g1,s1,hk,hg1⟩:=hp
    have hl1:w1.heap[Y.l]?=some (.loop {state:=.ready,pending:=none,fn,tmps,params:=⟨Y.ps⟩,assign:=Y.assign,body:=Y.body,defers:=D}):=by rw [hg1.den.mem.fix.keep _ hlt hout];exact hrec
    refine⟨_,run_beginRound hl1 rfl,?_⟩
    have hm2:=hg1.den.mem.turnOut (.loop {state:=.busy,pending:=none,fn,tmps,params:=⟨Y.ps⟩,assign:=Y.assign,body:=Y.body,defers:=D}) hl1 rfl hlt
    have hden2:Den {F with dfs:=[],w0:=F.w0.putObj Y.l (.loop {state:=.busy,pending:=none,fn,tmps,params:=⟨Y.ps⟩,assign:=Y.assign,body:=Y.body,defers:=D})} g1 s1 a1 (w1.putObj Y.l (.loop {state:=.busy,pending:=none,fn,tmps,params:=⟨Y.ps⟩,assign:=Y.assign,body:=Y.body,defers:=D})):=
      ⟨hg1.den.env,hg1.den.nt,hg1.den.defers,hm2⟩
    refine wpIn_mono (evR_sound hE N Y.l n Y.body hk hden2) fun e a2 w2 hp=>?_
    cases e with
    | exit id=>obtain⟨g',s',hk,_⟩:=hp;cases hk
    | ret=>obtain⟨g',s',hk,_⟩:=hp;cases hk
    | panic ch=>obtain⟨g',s',sv,v,hk,_⟩:=hp;cases hk
    | goto _=>exact hp.elim
    | outgrown=>exact hp.elim
    | normal=>
      obtain⟨g2,s2,hk2,hg2⟩:=hp
      have hlt2:Y.l<(F.w0.putObj Y.l (.loop {state:=.busy,pending:=none,fn,tmps,params:=⟨Y.ps⟩,assign:=Y.assign,body:=Y.body,defers:=D})).heap.size:=by rw [World.putObj_size];exact hlt
      have hl2:w2.heap[Y.l]?=some (.loop {state:=.busy,pending:=none,fn,tmps,params:=⟨Y.ps⟩,assign:=Y.assign,body:=Y.body,defers:=D}):=by
        rw [hg2.den.mem.fix.keep _ hlt2 hout];exact World.putObj_heap_same hlt
      refine⟨_,_,run_endRound none hl2,rfl,g2,s2.m,hk2,hg1.le.trans hg2.le,hg1.upd.trans hg2.upd,?_⟩
      have hm3:=hg2.den.mem.turnOut (.loop {state:=.ready,pending:=none,fn,tmps,params:=⟨Y.ps⟩,assign:=Y.assign,body:=Y.body,defers:=D}) hl2 rfl hlt2
      simp only at hm3
      rw [putObj_twice _ _ _ _ hrec] at hm3
      exact hm3.dfs F.dfs
def evOpY (E:Envr) (N:Nat) (Y:Yd) (run:Code→(Ex→St→Prop)→St→Prop) (kx:Ex→St→Prop) (o:Oper) (k:St→Prop) (s:St):Prop:=
  match o.op with
  | .call ⟨.value fv,args,_⟩=>match s.ev fv with
    | .yk l=>bif s.has o.dst then l=Y.l∧evRound E N Y (args.toList.map s.ev) s.m (fun m'=>k ({s with m:=m'}.put o.dst (.bool true))) else Bad "slot" o.pos
    | _=>evOp E run kx o k s
  | _=>evOp E run kx o k s
def evListY (E:Envr) (N:Nat) (Y:Yd) (run:Code→(Ex→St→Prop)→St→Prop) (kx:Ex→St→Prop) (ops:List Oper):List Oper→(St→Prop)→St→Prop
  | [],k,s=>k s
  | o::r,k,s=>evGuardL ops o s (evOpY E N Y run kx o (evListY E N Y run kx ops r k)) (fun s=>bif !(s.has o.dst) then Bad "slot" o.pos else evListY E N Y run kx ops r k (s.put o.dst (.tuple [])))
theorem evOpY_sound {E:Envr} (hE:EnvOK E) {N:Nat} {Y:Yd} {kx:Ex→St→Prop} {o:Oper} {k:St→Prop} {s:St} (hdf:∀c,o.op ≠ .defer c)
    (h:evOpY E N Y (ev E N) kx o k s) {F:Fr} {W:Nat→Prop} {g:Ctx} {a:Act} {w:World} (hd:Den F g s a w) (hY:YOK Y F g) (hW:∀d,o.dst=some d→W d)
    {n:Nat} {next:Act→World→Prop} {Q:Exit→Act→World→Prop} (hk:∀g' s' a' w',k s'→Goes F W g s a g' s' a' w'→next a' w')
    (hx:∀g' s' sv v a' w',kx (.panic sv) s'→Rep g' sv v→Goes F W g s a g' s' a' w'→Q (.panic [{v,recovered:=false}]) a' w') :
    o.wpIn Fence.wide n E.P a w next Q:=by
  have plain:evOp E (ev E N) kx o k s→o.wpIn Fence.wide n E.P a w next Q:=fun h=>wp_in (.inl rfl) hdf (evOp_sound hE (ev_sound hE N).1 h hd hW hk hx)
  unfold evOpY at h
  split at h
  case h_2=>exact plain h
  rename_i fv args ts hop
  split at h
  case h_2=>exact plain h
  rename_i l hfv
  cases hhas:s.has o.dst
  · rw [hhas] at h;cases h
  rw [hhas] at h
  obtain⟨rfl,h⟩:=h
  have rf:=hd.ev fv
  rw [hfv] at rf
  have hv:a.eval fv = .func (.yield Y.l) #[] #[]:=by
    cases hx:a.eval fv<;>rw [hx] at rf<;>cases rf
    rfl
  obtain⟨fn,tmps,hy,hR⟩:=evRound_sound hE h hY (RepL.map (fun x=>hd.ev x) args.toList) hd.mem (n-1)
  refine⟨fun _ _=>trivial,?_⟩
  have hrun:(o.semAt Fence.wide.round a.eval).run E.P w = .ok (.round Y.l fn tmps Y.assign Y.body) w:=by
    rw [show o.semAt Fence.wide.round a.eval=execOp a.eval o from rfl]
    unfold execOp
    rw [hop]
    simp only [resolve,hv,Deferred.ofValue,Sem.run_bind,Sem.run_pure,Result.andThen_ok,invoke]
    rw [←hy]
    congr 2
    apply Array.ext'
    simp
  rw [hrun,Oper.uponIn_round]
  refine⟨fun h=>by simp [Fence.wide] at h,hR.mono fun e w' hp=>?_⟩
  obtain⟨rfl,g',m',hk',hl,hu,hm⟩:=hp
  refine hk _ _ _ _ hk' ⟨hl,by cases hdst:o.dst<;>exact hu,fun t ht=>?_,hd.put hl hm hhas (.bool true)⟩
  cases hdst:o.dst with
  | none=>rfl
  | some d=>
    have hdlt:d<a.tmps.size:=by rw [hd.nt];rw [hdst] at hhas;simpa [St.has] using hhas
    rw [put_getD hdlt,if_neg]
    intro e
    subst e
    exact ht (hW _ hdst)
theorem evListY_sound {E:Envr} (hE:EnvOK E) {N:Nat} {Y:Yd} {kx:Ex→St→Prop} (ops:Array Oper) {F:Fr} {W:Nat→Prop} {n:Nat} {Q:Exit→Act→World→Prop} :
    ∀(l:List Oper) {k:St→Prop} {s:St},noDefer l=true→evListY E N Y (ev E N) kx ops.toList l k s → ∀ {g:Ctx} {a:Act} {w:World},Den F g s a w→YOK Y F g→(∀o∈l,∀d,o.dst=some d→W d)→
      (∀g' s' a' w',k s'→Goes F W g s a g' s' a' w'→Q .normal a' w')→
      (∀g' s' sv v a' w',kx (.panic sv) s'→Rep g' sv v→Goes F W g s a g' s' a' w'→Q (.panic [{v,recovered:=false}]) a' w')→wpListIn Fence.wide n E.P ops Q l a w:=by
  intro l
  induction l with
  | nil=>intro k s _ h g a w hd _ _ hk _;exact hk g s a w h (Goes.refl hd)
  | cons o r ih=>
    intro k s hnd h g a w hd hY hW hk hx
    have ho:=noDefer_at hnd o (by simp)
    have hr:noDefer r=true:=by
      unfold noDefer at hnd
      split at hnd
      · cases hnd
      · exact hnd
    unfold evListY evGuardL at h
    have yes:∀s0,Den F g s0 a w→s0.m=s.m→Region.wanted o (yielded ops a.tmps)=true→evOpY E N Y (ev E N) kx o (evListY E N Y (ev E N) kx ops.toList r k) s0→wpListIn Fence.wide n E.P ops Q (o::r) a w:=by
      intro s0 hd0 hm0 hwant h0
      unfold wpListIn
      rw [if_pos hwant]
      have conv:∀ {g' s' a' w'},Goes F W g s0 a g' s' a' w'→Goes F W g s a g' s' a' w':=fun x=>⟨x.le,hm0 ▸ x.upd,x.same,x.den⟩
      exact evOpY_sound hE ho h0 hd0 hY (hW o (by simp)) (fun g' s' a' w' hk' hg=>ih hr hk' hg.den (hY.mono _ _ _ hg.le) (fun o' ho'=>hW o' (by simp [ho'])) (fun g2 s2 a2 w2 h2 hg2=>hk _ _ _ _ h2 ((conv hg).trans hg2))
        (fun g2 s2 sv v a2 w2 h2 r2 hg2=>hx _ _ _ _ _ _ h2 r2 ((conv hg).trans hg2))) (fun g' s' sv v a' w' h2 r2 hg=>hx _ _ _ _ _ _ h2 r2 (conv hg))
    have no:∀s0,Den F g s0 a w→s0.m=s.m→Region.wanted o (yielded ops a.tmps)=false→(bif !(s0.has o.dst) then Bad "slot" o.pos else evListY E N Y (ev E N) kx ops.toList r k (s0.put o.dst (.tuple [])))→wpListIn Fence.wide n E.P ops Q (o::r) a w:=by
      intro s0 hd0 hm0 hwant h0
      cases hhas:s0.has o.dst
      · rw [hhas] at h0;cases h0
      rw [hhas] at h0
      unfold wpListIn
      rw [if_neg (by rw [hwant];simp)]
      have hput:=hd0.put (Ctx.le.refl g) hd0.mem hhas (sv:=.tuple []) (v:=undef) (.tuple [] [] rfl (fun j sv v a=>by simp at a))
      have hgo:Goes F W g s a g (s0.put o.dst (.tuple [])) (a.put o.dst undef) w:=by
        refine⟨Ctx.le.refl g,?_,fun t ht=>?_,hput⟩
        · cases hdst:o.dst<;>(simp only [St.put];rw [hm0];exact Upd.refl _)
        · cases hdst:o.dst with
          | none=>rfl
          | some d=>
            have hdlt:d<a.tmps.size:=by rw [hd0.nt];rw [hdst] at hhas;simpa [St.has] using hhas
            rw [put_getD hdlt,if_neg]
            intro e
            subst e
            exact ht (hW o (by simp) _ hdst)
      exact⟨fun _ _=>trivial,ih hr h0 hput hY (fun o' ho'=>hW o' (by simp [ho'])) (fun g2 s2 a2 w2 h2 hg2=>hk _ _ _ _ h2 (hgo.trans hg2)) (fun g2 s2 sv v a2 w2 h2 r2 hg2=>hx _ _ _ _ _ _ h2 r2 (hgo.trans hg2))⟩
    split at h
    · rename_i hg
      exact yes s hd rfl (by simp [Region.wanted,hg]) h
    · rename_i j want hg
      split at h
      · cases h
      · rename_i d hdst
        split at h
        · rename_i b hb
          have hdst':(ops[j]?).bind (·.dst)=some d:=by simpa using hdst
          have hbv:a.tmps[d]?=some (.bool b):=by
            have r0:=hd.env d
            rw [hb] at r0
            rw [Array.getD_eq_getD_getElem?] at r0
            cases hx0:a.tmps[d]? with
            | none=>rw [hx0] at r0;cases r0
            | some v=>rw [hx0] at r0;cases r0;rfl
          have hy:yielded ops a.tmps j=some b:=by
            unfold yielded
            rw [hdst']
            simp [hbv]
          have hkn':Den F g (s.put (some d) (.bool b)) a w:=hd.known hb
          cases b<;>cases want
          · exact yes _ hkn' rfl (by simp [Region.wanted,hg,hy]) h
          · exact no _ hkn' rfl (by simp [Region.wanted,hg,hy]) h
          · exact no _ hkn' rfl (by simp [Region.wanted,hg,hy]) h
          · exact yes _ hkn' rfl (by simp [Region.wanted,hg,hy]) h
        · rename_i vs hb
          have hdst':(ops[j]?).bind (·.dst)=some d:=by simpa using hdst
          have hy:yielded ops a.tmps j=none:=by
            have r0:=hd.env d
            rw [hb] at r0
            rw [Array.getD_eq_getD_getElem?] at r0
            unfold yielded
            rw [hdst']
            cases hx0:a.tmps[d]? with
            | none=>simp [hx0]
            | some v=>
              rw [hx0] at r0
              simp only [Option.getD_some] at r0
              cases r0
              simp [hx0]
          exact no _ hd rfl (by simp [Region.wanted,hg,hy]) h
        · cases h
def evY (E:Envr) (N:Nat) (Y:Yd):Nat→Code→(Ex→St→Prop)→St→Prop
  | 0,_,_,_=>Bad "fuel" ""
  | n+1,.skip,K,s=>K .normal s
  | n+1,.label _,K,s=>K .normal s
  | n+1,.region _ ops draw,K,s=>bif draw then evDraw E (ev E N) K ops.toList (endR E (K .normal)) s else bif noDefer ops.toList then evListY E N Y (ev E N) K ops.toList ops.toList (endR E (K .normal)) s else Bad "defer" ""
  | n+1,.seq a b,K,s=>evY E N Y n a (fun e s'=>match e with
      | .normal=>evY E N Y n b K s'
      | e=>K e s') s
  | n+1,.cond c a b,K,s=>match c with
    | .tmp t=>match getE s.env t with
      | .bool x=>br x (evY E N Y n a K (s.put (some t) (.bool true))) (evY E N Y n b K (s.put (some t) (.bool false)))
      | _=>Bad "cond" ""
    | _=>Bad "cond" ""
  | n+1,.block id b,K,s=>evY E N Y n b (fun e s'=>match e with
      | .exit j=>bif Nat.beq j id then K .normal s' else K (.exit j) s'
      | e=>K e s') s
  | n+1,.loop b,K,s=>match (firstRegion b).bind E.loop with
    | some L=>L b (evY E N Y n b) K s
    | none=>evY E N Y n b (fun e s'=>match e with
      | .normal=>evY E N Y n (.loop b) K s'
      | e=>K e s') s
  | n+1,.exit id,K,s=>K (.exit id) s
  | n+1,.ret,K,s=>K .ret s
  | _+1,_,_,_=>Bad "code" ""
theorem evY_sound {E:Envr} (hE:EnvOK E) (N:Nat) (Y:Yd):∀n,(∀c,RunOKp (YOK Y) E.P c (evY E N Y n c))∧(∀(b:Code),RunLWp (YOK Y) E.P b (evY E N Y n (.loop b)))
  | 0=>And.intro (fun c K s h=>by cases h) (fun b K s h=>by cases h)
  | n+1=>by
    obtain⟨ih,ihl⟩:=evY_sound hE N Y n
    have loops:∀b,RunLWp (YOK Y) E.P b (evY E N Y (n+1) (.loop b)):=by
      intro b K s h F W g a w hW hd hp
      unfold evY at h
      split at h
      · rename_i L hL
        obtain⟨r,hr,hL⟩:=Option.bind_eq_some_iff.1 hL
        exact hE.loop r L hL (YOK Y) YOK.mono b _ (ih b) K s h F W g a w hW hd hp
      · refine LW.round ?_
        refine Code.wp_mono ?_ (ih b _ s h F W g a w hW hd hp)
        intro e a' w' hq
        cases e with
        | normal=>
          obtain⟨g',s',hk,hg⟩:=hq
          have:=ihl b K s' hk F W g' a' w' hW hg.den (hp.mono _ _ _ hg.le)
          intro b0 k0 cs0
          obtain⟨e2,a2,w2,q2,arr⟩:=this b0 k0 cs0
          exact⟨e2,a2,w2,PostX.trans hg q2,arr⟩
        | exit id=>exact hq
        | ret=>exact hq
        | panic ch=>exact hq
        | goto _=>exact hq.elim
        | outgrown=>exact hq.elim
    refine⟨fun c=>?_,loops⟩
    cases c with
    | skip=>exact fun K s h F W g a w hW hd _=>wp_skip ⟨g,s,h,Goes.refl hd⟩
    | label l=>exact fun K s h F W g a w hW hd _=>wp_label ⟨g,s,h,Goes.refl hd⟩
    | region id ops draw=>
      intro K s h F W g a w hW hd hp
      unfold evY at h
      have hW':∀o,o∈ops.toList → ∀d,o.dst=some d→W d:=fun o ho d hdst=>hW d (List.mem_filterMap.2 ⟨o,ho,hdst⟩)
      cases draw with
      | false=>
        simp only [cond_false] at h
        cases hnd:noDefer ops.toList
        · rw [hnd] at h;cases h
        rw [hnd] at h
        refine (wpIn_wide (n:=0)).1 (wpIn_region_list ?_)
        exact evListY_sound hE ops ops.toList hnd h hd hp hW' (fun g' s' a' w' hk hg=>show PostX F W g s a K .normal a' w' from ⟨g',s',endR_sound hk,hg⟩) (fun g' s' sv v a' w' hk r hg=>⟨g',s',sv,v,hk,rfl,r,hg⟩)
      | true=>
        refine wp_region_draw fun t=>?_
        exact evDraw_sound hE (ev_sound hE N).1 h hW' hd t
    | seq x y=>
      intro K s h F W g a w hW hd hp
      unfold evY at h
      refine wp_seq ?_
      refine Code.wp_mono ?_ (ih x _ s h F W g a w (fun t ht=>hW t (List.mem_append_left _ ht)) hd hp)
      intro e a' w' hq
      cases e with
      | normal=>
        obtain⟨g',s',hk,hg⟩:=hq
        exact Code.wp_mono (fun e a2 w2 q=>PostX.trans hg q) (ih y K s' hk F W g' a' w' (fun t ht=>hW t (List.mem_append_right _ ht)) hg.den (hp.mono _ _ _ hg.le))
      | exit id=>exact hq
      | ret=>exact hq
      | panic ch=>exact hq
      | goto _=>exact hq.elim
      | outgrown=>exact hq.elim
    | cond c x y=>
      intro K s h F W g a w hW hd hp
      unfold evY at h
      split at h
      case h_2=>cases h
      rename_i t
      split at h
      case h_2=>cases h
      rename_i b hb
      have r:=hd.env t
      rw [hb] at r
      have hv:a.eval (.tmp t) = .bool b:=by
        show a.tmps.getD t undef=_
        cases hx:a.tmps.getD t undef<;>rw [hx] at r<;>cases r
        rfl
      have hk:=hd.known hb
      cases b with
      | true=>
        refine wp_cond (t:=true) hv ?_
        exact Code.wp_mono (fun e a' w' q=>PostX.trans (s:=s) (s1:=s.put (some t) (.bool true)) (a1:=a) (w1:=w) ⟨Ctx.le.refl g,Upd.refl _,fun _ _=>rfl,hk⟩ q) (ih x K _ h F W g a w (fun t ht=>hW t (List.mem_append_left _ ht)) hk hp)
      | false=>
        refine wp_cond (t:=false) hv ?_
        exact Code.wp_mono (fun e a' w' q=>PostX.trans (s:=s) (s1:=s.put (some t) (.bool false)) (a1:=a) (w1:=w) ⟨Ctx.le.refl g,Upd.refl _,fun _ _=>rfl,hk⟩ q) (ih y K _ h F W g a w (fun t ht=>hW t (List.mem_append_right _ ht)) hk hp)
    | block id b=>
      intro K s h F W g a w hW hd hp
      unfold evY at h
      refine wp_block ?_
      refine Code.wp_mono ?_ (ih b _ s h F W g a w hW hd hp)
      intro e a' w' hq
      cases e with
      | normal=>exact hq
      | exit j=>
        obtain⟨g',s',hk,hg⟩:=hq
        simp only [Exit.inBlock]
        dsimp only at hk
        cases hb:Nat.beq j id
        · rw [hb] at hk
          rw [if_neg (fun e=>by rw [e,Nat.beq_refl] at hb;cases hb)]
          exact⟨g',s',hk,hg⟩
        · rw [hb] at hk
          rw [if_pos (Nat.eq_of_beq_eq_true hb)]
          exact⟨g',s',hk,hg⟩
      | ret=>exact hq
      | panic ch=>exact hq
      | goto _=>exact hq.elim
      | outgrown=>exact hq.elim
    | loop b=>exact fun K s h F W g a w hW hd hp=>(loops b K s h F W g a w hW hd hp).wp
    | exit id=>exact fun K s h F W g a w hW hd _=>wp_exit ⟨g,s,h,Goes.refl hd⟩
    | ret=>exact fun K s h F W g a w hW hd _=>wp_ret ⟨g,s,h,Goes.refl hd⟩
    | rangeFunc=>exact fun K s h=>by cases h
    | scope=>exact fun K s h=>by cases h
    | goto=>exact fun K s h=>by cases h
    | refuse=>exact fun K s h=>by cases h
def evCallY (E:Envr) (N:Nat) (Y:Yd) (f:FuncId) (args:List SV) (m:MS) (k:MS→Prop):Prop:=
  match E.P.funcs[f]? with
  | some fn=>match fn.body with
    | some c=>evY E N Y N c (fun e s'=>match e with
        | .normal | .ret=>evResults E.P s' (fun _=>k s'.m) fn.results.toList []
        | _=>Bad "iterator: ends" fn.name) ⟨enterEnv 0 args,args.length+(fn.ntmps-args.length),m⟩
    | none=>Bad "no body" fn.name
  | none=>Bad "no function" ""
theorem den_enter {F:Fr} {g:Ctx} {m:MS} {w:World} (hm:Mem F g m w) (fn:Func) {args:List SV} {vs:List Value} (r:RepL g args vs) :
    Den {F with dfs:=[]} g ⟨enterEnv 0 args,args.length+(fn.ntmps-args.length),m⟩ {tmps:=(⟨vs⟩:Array Value)++Array.replicate (fn.ntmps-(⟨vs⟩:Array Value).size) undef,defers:=[]} w:=by
  refine⟨fun t=>?_,by simp [r.1],rfl,hm.dfs []⟩
  rw [getE_enter,if_pos (Nat.zero_le _),Nat.sub_zero]
  by_cases ht:t<args.length
  · have hx:args[t]?=some args[t]:=by simp [ht]
    rw [hx]
    obtain⟨u,hu,ru⟩:=r.get hx
    have:((⟨vs⟩:Array Value)++Array.replicate (fn.ntmps-(⟨vs⟩:Array Value).size) undef).getD t undef=u:=by
      rw [Array.getD_eq_getD_getElem?,Array.getElem?_append_left (by simpa [←r.1] using ht)]
      simp [hu]
    rw [this]
    exact ru
  · rw [List.getElem?_eq_none (by omega)]
    exact .undef _
theorem run_results {P:Program} {fn:Func} {tmps:Array Value} {us:List Value} {w:World} (h3:(fn.results.toList.mapM (rv1 tmps)).run P w = .ok us w) :
    (results fn tmps).run P w = .ok (if h:(⟨us⟩:Array Value).size=1 then (⟨us⟩:Array Value)[0] else .tuple ⟨us⟩) w:=by
  rw [results_eq]
  simp only [Sem.run_bind]
  rw [Array.mapM_eq_mapM_toList,Sem.run_map]
  rw [h3]
  simp only [Result.andThen_ok,Sem.run_pure]
theorem evCallY_sound {E:Envr} (hE:EnvOK E) {N:Nat} {Y:Yd} {f:FuncId} {args:List SV} {m:MS} {k:MS→Prop} (h:evCallY E N Y f args m k) {F:Fr} {g:Ctx} {w:World} {vs:List Value} (hY:YOK Y F g) (r:RepL g args vs) (hm:Mem F g m w) :
    (∃fn,E.P.funcs[f]?=some fn∧fn.body.isSome=true)∧Calls E.P f ⟨vs⟩ w (fun e w'=>(∃v,e = .returned v) ∧ ∃g' m',k m'∧g.le g'∧Upd m m'∧Mem F g' m' w'):=by
  unfold evCallY at h
  split at h
  case h_2=>cases h
  rename_i fn hfn
  split at h
  case h_2=>cases h
  rename_i c hc
  refine⟨⟨fn,hfn,by rw [hc];rfl⟩,calls_of_wp hfn hc ?_⟩
  refine Code.wp_mono ?_ ((evY_sound hE N Y N).1 c _ _ h {F with dfs:=[]} (fun _=>True) g _ w (fun _ _=>trivial) (den_enter hm fn r) hY)
  have hres:∀(a':Act) (w':World) (g':Ctx) (s':St),evResults E.P s' (fun _=>k s'.m) fn.results.toList []→g.le g'→Upd m s'.m→Den {F with dfs:=[]} g' s' a' w'→
      a'.defers=[] ∧ ∃v,(results fn a'.tmps).run E.P w' = .ok v w'∧((∃u,Ending.returned v = .returned u) ∧ ∃g' m',k m'∧g.le g'∧Upd m m'∧Mem F g' m' w'):=by
    intro a' w' g' s' hr hl hu hd
    obtain⟨svs,us,h1,h2,h3⟩:=evResults_sound hd _ _ [] hr (RepL.nil _)
    have hrun:=run_results (P:=E.P) (fn:=fn) h3
    exact⟨hd.defers,_,hrun,⟨_,rfl⟩,g',s'.m,h1,hl,hu,hd.mem.dfs F.dfs⟩
  intro e a' w' hp
  cases e with
  | normal=>obtain⟨g',s',hk,hg⟩:=hp;exact hres a' w' g' s' hk hg.le hg.upd hg.den
  | ret=>obtain⟨g',s',hk,hg⟩:=hp;exact hres a' w' g' s' hk hg.le hg.upd hg.den
  | exit id=>obtain⟨g',s',hk,hg⟩:=hp;exact (by cases hk)
  | panic ch=>obtain⟨g',s',sv,v,hk,_⟩:=hp;exact (by cases hk)
  | goto _=>exact hp.elim
  | outgrown=>exact hp.elim
structure Inner (F F3:Fr) (D:Nat):Prop where
  le:F.w0.heap.size≤D
  dfs:F3.dfs=[{target:=.collected D,args:=#[]}]
  back:∀g m w,Mem F3 g m w→Mem F g m w
  kept:∀w,Fix F3 w→w.heap[D]?=some (.deferred (some []))
def DenR (F:Fr) (d:Bool) (g:Ctx) (s:St) (a:Act) (w:World):Prop:=
  match d with
  | false=>F.dfs=[]∧Den F g s a w
  | true=>∃F3 D,Inner F F3 D∧Den F3 g s a w
def PostR (F:Fr) (g:Ctx) (s:St) (K:Bool→Ex→St→Prop):Exit→Act→World→Prop
  | .normal,a',w'=>∃d g' s',K d .normal s'∧g.le g'∧Upd s.m s'.m∧DenR F d g' s' a' w'
  | .exit id,a',w'=>∃d g' s',K d (.exit id) s'∧g.le g'∧Upd s.m s'.m∧DenR F d g' s' a' w'
  | .ret,a',w'=>∃d g' s',K d .ret s'∧g.le g'∧Upd s.m s'.m∧DenR F d g' s' a' w'
  | .panic _,_,_=>∃d s' sv,K d (.panic sv) s'
  | _,_,_=>False
theorem PostR.trans {F:Fr} {g g1:Ctx} {s s1:St} {K:Bool→Ex→St→Prop} (hl:g.le g1) (hu:Upd s.m s1.m) {e:Exit} {a:Act} {w:World} (h:PostR F g1 s1 K e a w):PostR F g s K e a w:=by
  cases e with
  | normal=>obtain⟨d,g',s',k,x,y,z⟩:=h;exact⟨d,g',s',k,hl.trans x,hu.trans y,z⟩
  | exit id=>obtain⟨d,g',s',k,x,y,z⟩:=h;exact⟨d,g',s',k,hl.trans x,hu.trans y,z⟩
  | ret=>obtain⟨d,g',s',k,x,y,z⟩:=h;exact⟨d,g',s',k,hl.trans x,hu.trans y,z⟩
  | panic _=>exact h
  | goto _=>exact h.elim
  | outgrown=>exact h.elim
def evTopR (E:Envr) (N:Nat):Code→(Bool→Ex→St→Prop)→Bool→St→Prop
  | .seq a b,K,d,s=>evTopR E N a (fun d' e s'=>match e with
      | .normal=>evTopR E N b K d' s'
      | e=>K d' e s') d s
  | .block id b,K,d,s=>evTopR E N b (fun d' e s'=>match e with
      | .exit j=>bif Nat.beq j id then K d' .normal s' else K d' (.exit j) s'
      | e=>K d' e s') d s
  | .rangeFunc gop ps assign body,K,d,s=>bif d then Bad "range: two" "" else match s.ev gop with
    | .fn f [] caps=>∀l:Nat,evCallY E N ⟨l,s.env,s.nt,ps.toList,assign,body⟩ f (.yk l::caps) s.m (fun m'=>K true .normal {s with m:=m'})
    | _=>Bad "range: of what" ""
  | c,K,d,s=>ev E N c (K d) s
theorem evTopR_sound {E:Envr} (hE:EnvOK E) (N:Nat):∀(c:Code) {K:Bool→Ex→St→Prop} {d:Bool} {s:St},evTopR E N c K d s → ∀ {F:Fr} {g:Ctx} {a:Act} {w:World},DenR F d g s a w→c.wp E.P (PostR F g s K) a w:=by
  have other:∀(c:Code) {K:Bool→Ex→St→Prop} {d:Bool} {s:St},ev E N c (K d) s → ∀ {F:Fr} {g:Ctx} {a:Act} {w:World},DenR F d g s a w→c.wp E.P (PostR F g s K) a w:=by
    intro c K d s h F g a w hd
    cases d with
    | false=>
      obtain⟨h0,hd⟩:=hd
      refine Code.wp_mono (fun e a' w' hp=>?_) ((ev_sound hE N).1 c _ _ h F (fun _=>True) g a w (fun _ _=>trivial) hd)
      cases e with
      | normal=>obtain⟨g',s',k,x⟩:=hp;exact⟨false,g',s',k,x.le,x.upd,h0,x.den⟩
      | exit id=>obtain⟨g',s',k,x⟩:=hp;exact⟨false,g',s',k,x.le,x.upd,h0,x.den⟩
      | ret=>obtain⟨g',s',k,x⟩:=hp;exact⟨false,g',s',k,x.le,x.upd,h0,x.den⟩
      | panic ch=>obtain⟨g',s',sv,v,k,_⟩:=hp;exact⟨false,s',sv,k⟩
      | goto _=>exact hp.elim
      | outgrown=>exact hp.elim
    | true=>
      obtain⟨F3,D,hi,hd⟩:=hd
      refine Code.wp_mono (fun e a' w' hp=>?_) ((ev_sound hE N).1 c _ _ h F3 (fun _=>True) g a w (fun _ _=>trivial) hd)
      cases e with
      | normal=>obtain⟨g',s',k,x⟩:=hp;exact⟨true,g',s',k,x.le,x.upd,F3,D,hi,x.den⟩
      | exit id=>obtain⟨g',s',k,x⟩:=hp;exact⟨true,g',s',k,x.le,x.upd,F3,D,hi,x.den⟩
      | ret=>obtain⟨g',s',k,x⟩:=hp;exact⟨true,g',s',k,x.le,x.upd,F3,D,hi,x.den⟩
      | panic ch=>obtain⟨g',s',sv,v,k,_⟩:=hp;exact⟨true,s',sv,k⟩
      | goto _=>exact hp.elim
      | outgrown=>exact hp.elim
  intro c
  induction c with
  | seq x y ihx ihy=>
    intro K d s h F g a w hd
    unfold evTopR at h
    refine wp_seq (Code.wp_mono (fun e a' w' hp=>?_) (ihx h hd))
    cases e with
    | normal=>
      obtain⟨d',g',s',k,x1,x2,x3⟩:=hp
      exact Code.wp_mono (fun e2 a2 w2 h2=>h2.trans x1 x2) (ihy k x3)
    | exit id=>exact hp
    | ret=>exact hp
    | panic ch=>exact hp
    | goto _=>exact hp.elim
    | outgrown=>exact hp.elim
  | block id b ih=>
    intro K d s h F g a w hd
    unfold evTopR at h
    refine wp_block (Code.wp_mono (fun e a' w' hp=>?_) (ih h hd))
    cases e with
    | normal=>exact hp
    | exit j=>
      obtain⟨d',g',s',hk,x1,x2,x3⟩:=hp
      simp only [Exit.inBlock]
      dsimp only at hk
      cases hb:Nat.beq j id
      · rw [hb] at hk
        rw [if_neg (fun e=>by rw [e,Nat.beq_refl] at hb;cases hb)]
        exact⟨d',g',s',hk,x1,x2,x3⟩
      · rw [hb] at hk
        rw [if_pos (Nat.eq_of_beq_eq_true hb)]
        exact⟨d',g',s',hk,x1,x2,x3⟩
    | ret=>exact hp
    | panic ch=>exact hp
    | goto _=>exact hp.elim
    | outgrown=>exact hp.elim
  | rangeFunc gop ps assign body iha ihb=>
    intro K d s h F g a w hd
    unfold evTopR at h
    cases d with
    | true=>cases h
    | false=>
    simp only [cond_false] at h
    obtain⟨hF0,hd⟩:=hd
    split at h
    case h_2=>cases h
    rename_i f caps hfv
    have rf:=hd.ev gop
    rw [hfv] at rf
    obtain⟨cv,hv,rcap⟩:∃cv:List Value,a.eval gop = .func (.func f) #[] ⟨cv⟩∧RepL g caps cv:=by
      cases hx:a.eval gop<;>rw [hx] at rf<;>cases rf
      rename_i us vs l1 r1 l2 r2
      have:us=[]:=by
        cases us with
        | nil=>rfl
        | cons _ _=>simp at l1
      subst this
      exact⟨vs,rfl,l2,r2⟩
    have hm:=hd.mem
    refine (wpIn_wide (n:=0)).1 (wpIn_rangeFunc ?_)
    intro fn _
    obtain⟨rec,hrec⟩:∃rec:LoopState→Option Code→Loop,rec=fun st pe=>{state:=st,pending:=pe,fn,tmps:=a.tmps,params:=ps,assign,body,defers:=w.heap.size}:=⟨_,rfl⟩
    obtain⟨w1,hw1⟩:∃w1,(w.alloc (.deferred (some []))).alloc (.loop (rec .ready none))=w1:=⟨_,rfl⟩
    have hsz:w1.heap.size=w.heap.size+2:=by rw [←hw1];simp
    have hold:∀b,b<w.heap.size→w1.heap[b]?=w.heap[b]?:=fun b hb=>by
      rw [←hw1]
      show ((w.heap.push _).push _)[b]?=_
      rw [Array.getElem?_push,Array.getElem?_push,if_neg (by simp;omega),if_neg (by omega)]
    have hD1:w1.heap[w.heap.size]?=some (.deferred (some [])):=by
      rw [←hw1]
      show ((w.heap.push _).push _)[_]?=_
      rw [Array.getElem?_push,Array.getElem?_push,if_neg (by simp),if_pos rfl]
    have hL1:w1.heap[w.heap.size+1]?=some (.loop (rec .ready none)):=by
      rw [←hw1]
      show ((w.heap.push _).push _)[_]?=_
      rw [Array.getElem?_push,if_pos (by simp)]
    have hmg:Mem F g s.m w1:=Mem.grow hm hold (by omega) (by rw [←hw1];rfl) (by rw [←hw1];rfl)
    have hreg:∀n k r,s.m.blks.get n=some k→g.β[n]?=some (some r)→r.b<w.heap.size:=fun n k r h1 h2=>(hm.mem.at_name h1 h2).1.lt
    let F1:Fr:=⟨w1,fun b=>F.Own b∧b<w.heap.size,g.Γ,[]⟩
    have hm1:Mem F1 g s.m w1:=⟨hmg.mem,hmg.next,fun n k r h1 h2=>.inr ⟨hm.own n k r h1 h2,hreg n k r h1 h2⟩,fun b o v hv=>.inl hv,⟨Nat.le_refl _,fun _ _ _=>rfl,rfl,rfl⟩⟩
    have hY:YOK ⟨w.heap.size+1,s.env,s.nt,ps.toList,assign,body⟩ F1 g:=by
      refine⟨by show w.heap.size+1<w1.heap.size;omega,fun hM=>by have h2:w.heap.size+1<w.heap.size:=hM.2;omega,fn,a.tmps,w.heap.size,?_,hd.nt,hd.env⟩
      show w1.heap[w.heap.size+1]?=_
      rw [hL1,hrec]
    obtain⟨⟨fnI,hfI,hbI⟩,hcall⟩:=evCallY_sound hE (h (w.heap.size+1)) (F:=F1) (w:=w1) (vs:=.func (.yield (w.heap.size+1)) #[] #[]::cv) hY (.cons (.yk _) rcap) hm1
    refine⟨w.heap.size+1,[{target:=.collected w.heap.size,args:=#[]}],w1,{target:=.fn (.func f) ⟨cv⟩,args:=#[.func (.yield (w.heap.size+1)) #[] #[]]},w1,f,#[.func (.yield (w.heap.size+1)) #[] #[]]++⟨cv⟩,w1,?_,?_,fun _ _=>trivial,?_,fun h=>by simp [Fence.wide] at h,?_⟩
    · rw [←hw1,hrec];exact run_enterLoop_outer _ _ _ _ _
    · simp only [resolve,hv]
      simp [go_sem]
    · simp only [invoke]
      exact run_call hE hfI hbI
    · have hargs:(#[.func (.yield (w.heap.size+1)) #[] #[]]++⟨cv⟩:Array Value)=⟨.func (.yield (w.heap.size+1)) #[] #[]::cv⟩:=by
        apply Array.ext';simp
      rw [hargs]
      refine (callsIn_wide.2 hcall).mono fun e w2 hp=>?_
      obtain⟨⟨v,rfl⟩,g2,m2,hk,hl2,hu2,hm2⟩:=hp
      have hfix:=hm2.fix
      have hL2:w2.heap[w.heap.size+1]?=some (.loop (rec .ready none)):=by
        rw [hfix.keep _ (by show _<w1.heap.size;omega) (fun hM=>by have h2:w.heap.size+1<w.heap.size:=hM.2;omega)];exact hL1
      have hD2:w2.heap[w.heap.size]?=some (.deferred (some [])):=by
        rw [hfix.keep _ (by show _<w1.heap.size;omega) (fun hM=>by have h2:w.heap.size<w.heap.size:=hM.2;omega)];exact hD1
      have hs2:w1.heap.size≤w2.heap.size:=hfix.size
      obtain⟨w4,hw4⟩:∃w4,w2.putObj (w.heap.size+1) (.loop {rec .ready none with state:=.exhausted})=w4:=⟨_,rfl⟩
      have hs4:w4.heap.size=w2.heap.size:=by rw [←hw4,World.putObj_size]
      have hend:=run_endLoop (P:=E.P) hL2 (by rw [hrec];simp)
      have hD4:w4.heap[w.heap.size]?=some (.deferred (some [])):=by rw [←hw4,World.putObj_heap_other (by omega)];exact hD2
      have hF0s:F.w0.heap.size≤w.heap.size:=hm.fix.size
      have ownF:∀b,F1.Own b→F.Own b:=by
        intro b hb
        rcases hb with hb | hb
        · exact .inl (by have:w1.heap.size≤b:=hb;omega)
        · exact hb.1
      have hmF2:Mem F g2 m2 w2:=by
        refine⟨hm2.mem,hm2.next,fun n k r h1 h2=>ownF _ (hm2.own n k r h1 h2),fun b o v hv=>?_,⟨by omega,fun b hb hM=>?_,hfix.os.trans hmg.fix.os,hfix.out.trans hmg.fix.out⟩⟩
        · rcases hm2.ext b o v hv with h1 | h1
          · exact hm.ext b o v h1
          · exact .inr (ownF _ h1)
        · rw [hfix.keep b (by show b<w1.heap.size;omega) (fun hM1=>by
            rcases hM1.1 with h1 | h1
            · omega
            · exact hM h1)]
          exact hmg.fix.keep b hb hM
      have hmF4:Mem F g2 m2 w4:=by rw [←hw4];exact hmF2.turnOwn hL2 rfl (by omega)
      let F3:Fr:=⟨w4,fun b=>F.Own b∧b<w4.heap.size∧b≠w.heap.size,g2.Γ,[{target:=.collected w.heap.size,args:=#[]}]⟩
      have hregD:∀n k r,m2.blks.get n=some k→g2.β[n]?=some (some r)→r.b≠w.heap.size:=fun n k r h1 h2 e=>(hmF4.mem.at_name h1 h2).1.noLoop (e ▸ hD4) rfl
      have hm3:Mem F3 g2 m2 w4:=⟨hmF4.mem,hmF4.next,fun n k r h1 h2=>.inr ⟨hmF4.own n k r h1 h2,(hmF4.mem.at_name h1 h2).1.lt,hregD n k r h1 h2⟩,fun b o v hv=>.inl hv,⟨Nat.le_refl _,fun _ _ _=>rfl,rfl,rfl⟩⟩
      have hinner:Inner F F3 w.heap.size:=by
        refine⟨hF0s,rfl,fun g' m' w' h3=>?_,fun w' hx=>?_⟩
        · have own3:∀b,F3.Own b→F.Own b:=by
            intro b hb
            rcases hb with hb | hb
            · exact .inl (by have:w4.heap.size≤b:=hb;omega)
            · exact hb.1
          have hs3:w4.heap.size≤w'.heap.size:=h3.fix.size
          refine⟨h3.mem,h3.next,fun n k r h1 h2=>own3 _ (h3.own n k r h1 h2),fun b o v hv=>?_,⟨by omega,fun b hb hM=>?_,h3.fix.os.trans hmF4.fix.os,h3.fix.out.trans hmF4.fix.out⟩⟩
          · rcases h3.ext b o v hv with h1 | h1
            · exact hmF4.ext b o v h1
            · exact .inr (own3 _ h1)
          · rw [h3.fix.keep b (by show b<w4.heap.size;omega) (fun hM1=>by
              rcases hM1.1 with h1 | h1
              · omega
              · exact hM h1)]
            exact hmF4.fix.keep b hb hM
        · rw [hx.keep w.heap.size (by show _<w4.heap.size;omega) (fun hM=>hM.2.2 rfl)]
          exact hD4
      have hpend:(rec .ready none).pending=none:=by rw [hrec]
      rw [hw4,hpend] at hend
      refine⟨none,w4,hend,?_⟩
      have hdf:a.defers=[]:=by rw [hd.defers,hF0]
      refine⟨true,g2,{s with m:=m2},hk,hl2,hu2,F3,w.heap.size,hinner,⟨fun t=>(hd.env t).mono hl2,hd.nt,?_,hm3⟩⟩
      show [({target:=.collected w.heap.size,args:=#[]}:Deferred)]++a.defers=_
      rw [hdf];rfl
  | _=>
    intro K d s h F g a w hd
    exact other _ h hd
def evLeaveR (E:Envr) (fn:Func) (k:SV→MS→Prop) (d:Bool) (e:Ex) (s:St):Prop:=
  match e with
  | .normal | .ret=>evResults E.P s (fun l=>k (tupleOf l) s.m) fn.results.toList []
  | _=>Bad "range: ends" fn.name
def evCallR (E:Envr) (N:Nat) (f:FuncId) (args:List SV) (m:MS) (k:SV→MS→Prop):Prop:=
  match E.P.funcs[f]? with
  | some fn=>match fn.body with
    | some c=>evTopR E N c (evLeaveR E fn k) false ⟨enterEnv 0 args,args.length+(fn.ntmps-args.length),m⟩
    | none=>Bad "no body" fn.name
  | none=>Bad "no function" ""
theorem evCallR_sound {E:Envr} (hE:EnvOK E) {N:Nat} {f:FuncId} {args:List SV} {m:MS} {kp k:SV→MS→Prop} (h:evCallR E N f args m k) {F:Fr} {g:Ctx} {w:World} {vs:List Value} (r:RepL g args vs) (hm:Mem F g m w) :
    Calls E.P f ⟨vs⟩ w (CallPost F g m kp k):=by
  unfold evCallR at h
  split at h
  case h_2=>cases h
  rename_i fn hfn
  split at h
  case h_2=>cases h
  rename_i c hc
  refine (callsIn_wide (n:=0)).1 (callsIn_of_wp_marks hfn hc trivial (wpIn_wide.2 ?_))
  refine Code.wp_mono ?_ (evTopR_sound hE N c h (F:={F with dfs:=[]}) (g:=g) ⟨rfl,den_enter hm fn r⟩)
  have hret:∀(a':Act) (w':World),(∃d g' s',evResults E.P s' (fun l=>k (tupleOf l) s'.m) fn.results.toList []∧g.le g'∧Upd m s'.m∧DenR {F with dfs:=[]} d g' s' a' w')→
      LeavesInM Fence.wide 0 E.P fn a'.tmps (CallPost F g m kp k) a'.defers .returning w':=by
    rintro a' w' ⟨d,g',s',hk,hl,hu,hd⟩
    have fin:∀w'',Den {F with dfs:=[]} g' s' {tmps:=a'.tmps,defers:=[]} w''→LeavesInM Fence.wide 0 E.P fn a'.tmps (CallPost F g m kp k) [] .returning w'':=by
      intro w'' hd
      obtain⟨svs,us,h1,h2,h3⟩:=evResults_sound hd _ _ [] hk (RepL.nil _)
      simp only [List.nil_append] at h2
      exact⟨_,run_results h3,g',s'.m,_,h1,hl,hu,hd.mem.dfs F.dfs,tupleOf_rep h2⟩
    cases d with
    | false=>
      have hdf:a'.defers=[]:=hd.2.defers
      rw [hdf]
      exact fin w' ⟨hd.2.env,hd.2.nt,rfl,hd.2.mem⟩
    | true=>
      obtain⟨F3,D,hi,hd⟩:=hd
      have hdf:a'.defers=[{target:=.collected D,args:=#[]}]:=by rw [hd.defers,hi.dfs]
      rw [hdf]
      have hD:=hi.kept w' hd.mem.fix
      refine⟨by simp,.inl ⟨D,_,rfl,run_takeDeferred hD,?_⟩⟩
      exact fin _ ⟨hd.env,hd.nt,rfl,(hi.back _ _ _ hd.mem).turnOwn hD rfl hi.le⟩
  intro e a' w' hp
  cases e with
  | normal=>exact hret a' w' hp
  | ret=>exact hret a' w' hp
  | exit id=>obtain⟨d,g',s',hk,_⟩:=hp;exact (by cases hk)
  | panic ch=>obtain⟨d,s',sv,hk⟩:=hp;exact (by cases hk)
  | goto _=>exact hp.elim
  | outgrown=>exact hp.elim
theorem Tri.okR {E:Envr} (hE:EnvOK E) {N:Nat} (T:Tri) {f:FuncId} (h:∀x,T.pre x→evCallR E N f (T.args x) ⟨T.blks x,T.n0,[]⟩ (T.ends x)):SpecOK E.P f T.spec:=
  Tri.ok' T fun x hx F g w vs hargs hm=>evCallR_sound hE (h x hx) hargs hm
end Go.Proofs.YtgepebndihfnfaaGreat.Sx

namespace Go.Proofs.YtgepebndihfnfaaGreat.Ses
open Go Go.Proofs Go.Proofs.YtgepebndihfnfaaGreat.Sx
def okEl (E:List EpochD):Bool:=decide (1≤E.length)&&(decide (E.length≤60000)&&E.all fun p=>mayE p.members)
def nilAt:Blks→Option Nat
  | []=>none
  | (n,.cells [.nils])::_=>some n
  | _::r=>nilAt r
set_option maxRecDepth 100000
def okLk (x:MacS):Bool:=okMS x&&okEl x.E
structure CfA where
  M:List Int
  a:Int
  z:Int
noncomputable def new1T:Tri:={γ:=CfA,n0:=0,args:=fun c=>[.rslice false .int c.M,.int .i64 c.a,.int .i64 c.z],blks:=fun _=>[],pre:=fun c=>okCf c.a c.z c.M=true,δ:=Unit,post:=fun _ _=>True,n1:=8,res:=fun _ _=>.tuple [.mptr 0 0,.int .i64 0],blks':=fun c _=>mB (freshM c.a c.z c.M) 0 1 2 3 4 5 6 7,scal:=false}
noncomputable def new2T:Tri:={γ:=CfA,n0:=0,args:=fun c=>[.rslice false .int c.M,.int .i64 c.a,.int .i64 c.z],blks:=fun _=>[],pre:=fun c=>okCf c.a c.z c.M=false,δ:=Unit,post:=fun _ _=>True,n1:=0,res:=fun _ _=>.tuple [.nilp,.int .i64 1],blks':=fun _ _=>[],scal:=false}
noncomputable def newE:Envr:=Env Tryz.prog cod [(169,emayT.spec),(168,iclnT.spec),(71,gnewT.spec)] []
noncomputable def rnew1T:Tri:={γ:=CfA,n0:=0,args:=fun c=>[.rslice false .int c.M,.int .i64 c.a,.int .i64 c.z],blks:=fun _=>[],pre:=fun c=>okCf c.a c.z c.M=true,δ:=Unit,post:=fun _ _=>True,n1:=8,res:=fun _ _=>.tuple [.mptr 0 0,.int .i64 0],blks':=fun c _=>rmB (freshM c.a c.z c.M) 0 1 2 3 4 5 6 7,scal:=false}
noncomputable def rnewE:Envr:=Env Tryz.prog cod [(170,rmayT.spec),(117,cepT.spec)] []
set_option maxRecDepth 100000
abbrev new1Q1  := ∃x3:Unit,Bad "match: mptr" ""
abbrev new1Q2 (x:new1T.γ):=freshM (CfA.a x) (CfA.z x) (CfA.M x)
theorem new1_vc (x:new1T.γ):evCall newE (ev newE 1000) 56 (new1T.args x) ⟨new1T.blks x,new1T.n0,[]⟩ (fun _ _=>False) (new1T.ends x)=(
∃x1:(List Int),CfA.M x=x1∧
True∧
∀x2:Unit,True→
br (mayE x1).not new1Q1 (br (decide (CfA.a x<(1:Int))) new1Q1 (br (decide (CfA.a x>(8:Int))) new1Q1 (∃x6:(List Int),CfA.M x=x6∧
True∧
∀x7:Unit,True→
br (decide (CfA.z x<(1:Int))) new1Q1 (br (decide (CfA.z x>(16:Int))) new1Q1 (∃x10:Unit,True∧
∀x11:Unit,True→
∃x12:Unit,(0:Int)=(0:Int)∧
CfA.a x=(new1Q2 x).alpha∧
CfA.z x=(new1Q2 x).size∧
(0:Int)=(new1Q2 x).applied∧
EqG ([]:List CommitD) (new1Q2 x).C (CfA.z x=(new1Q2 x).size∧
0=(new1Q2 x).S.length∧
([]:List SessionD)=(new1Q2 x).S∧
CfA.a x=(new1Q2 x).alpha∧
0=0∧
1=(new1Q2 x).E.length∧
[EpochD.mk (0:Int) x6]=(new1Q2 x).E∧
True))))))):=by kernel_rfl
abbrev new2Q1  := ∃x3:Unit,(1:Int)=(1:Int)∧
True
theorem new2_vc (x:new2T.γ):evCall newE (ev newE 1000) 56 (new2T.args x) ⟨new2T.blks x,new2T.n0,[]⟩ (fun _ _=>False) (new2T.ends x)=(
∃x1:(List Int),CfA.M x=x1∧
True∧
∀x2:Unit,True→
br (mayE x1).not new2Q1 (br (decide (CfA.a x<(1:Int))) new2Q1 (br (decide (CfA.a x>(8:Int))) new2Q1 (∃x6:(List Int),CfA.M x=x6∧
True∧
∀x7:Unit,True→
br (decide (CfA.z x<(1:Int))) new2Q1 (br (decide (CfA.z x>(16:Int))) new2Q1 (∃x10:Unit,True∧
∀x11:Unit,True→
∃x12:Unit,Bad "match: nilp" "")))))):=by kernel_rfl
abbrev rnew1Q1  := ∃x3:Unit,Bad "match: mptr" ""
abbrev rnew1Q2 (x:rnew1T.γ):=freshM (CfA.a x) (CfA.z x) (CfA.M x)
theorem rnew1_vc (x:rnew1T.γ):evCall rnewE (ev rnewE 1000) 57 (rnew1T.args x) ⟨rnew1T.blks x,rnew1T.n0,[]⟩ (fun _ _=>False) (rnew1T.ends x)=(
∃x1:(List Int),CfA.M x=x1∧
True∧
∀x2:Unit,True→
br (mayE x1).not rnew1Q1 (br (decide (CfA.a x<(1:Int))) rnew1Q1 (br (decide (CfA.a x>(8:Int))) rnew1Q1 (∃x6:EoA,0=x6.lo∧
1=x6.E.length-x6.lo∧
[EpochD.mk (0:Int) (CfA.M x)]=x6.E∧
decide (x6.lo≤x6.E.length)=true∧
∀x7:Unit,True→
br (decide (CfA.z x<(1:Int))) rnew1Q1 (br (decide (CfA.z x>(16:Int))) rnew1Q1 (∃x10:Unit,(0:Int)=(0:Int)∧
(0:Int)=(rnew1Q2 x).applied∧
0=(rnew1Q2 x).C.length∧
0=(rowC (rnew1Q2 x).C).length∧
0=(refsR (rnew1Q2 x).C).length∧
([]:List CommitD)=(rnew1Q2 x).C∧
([]:List LeafD)=rowC (rnew1Q2 x).C∧
([]:List RefD)=refsR (rnew1Q2 x).C∧
CfA.z x=(rnew1Q2 x).size∧
0=(rnew1Q2 x).S.length∧
([]:List SessionD)=(rnew1Q2 x).S∧
EqT (CfA.a x) (rnew1Q2 x).alpha (List.drop x6.lo x6.E) (rnew1Q2 x).E True)))))):=by kernel_rfl
theorem cf_t {a z:Int} {M:List Int} (h:okCf a z M=true):mayE M=true∧decide (a<1)=false∧decide (a>8)=false∧decide (z<1)=false∧decide (z>16)=false:=by
  obtain⟨h1,h2,h3⟩:=okCf_of h
  exact⟨h1,decide_eq_false (by omega),decide_eq_false (by omega),decide_eq_false (by omega),decide_eq_false (by omega)⟩
theorem cf_f {a z:Int} {M:List Int} (h:okCf a z M=false) (h1:mayE M=true) (h2:decide (a<1)=false) (h3:decide (a>8)=false) (h4:decide (z<1)=false) (h5:decide (z>16)=false):False:=by
  have h2:=of_decide_eq_false h2
  have h3:=of_decide_eq_false h3
  have h4:=of_decide_eq_false h4
  have h5:=of_decide_eq_false h5
  unfold okCf at h
  rw [h1,decide_eq_true (by omega:1≤a),decide_eq_true (by omega:a≤8),decide_eq_true (by omega:1≤z),decide_eq_true (by omega:z≤16)] at h
  cases h
theorem newE_ok:EnvOK newE:=Env_ok (by decide +kernel) (by
  intro p hp
  simp only [List.mem_cons,List.mem_nil_iff,or_false] at hp
  rcases hp with rfl | rfl | rfl
  · exact emay_ok
  · exact icln_ok
  · exact gnew_ok)
theorem rnewE_ok:EnvOK rnewE:=Env_ok (by decide +kernel) (by
  intro p hp
  simp only [List.mem_cons,List.mem_nil_iff,or_false] at hp
  rcases hp with rfl | rfl
  · exact rmay_ok
  · exact cep_ok)
theorem new1_ok:SpecOK Tryz.prog 56 new1T.spec:=by
  refine Tri.ok (E:=newE) newE_ok (n:=1000) new1T fun x hx=>?_
  rw [new1_vc]
  delta new1Q2 new1Q1 EqG
  obtain⟨M,a,z⟩:=x
  have hx:okCf a z M=true:=hx
  obtain⟨h1,h2,h3,h4,h5⟩:=cf_t hx
  exact⟨M,rfl,trivial,fun _ _=>br_f (by rw [h1];rfl) (br_f h2 (br_f h3 ⟨M,rfl,trivial,fun _ _=>br_f h4 (br_f h5 ⟨(),trivial,fun _ _=>⟨(),(by repeat' (first | exact trivial | refine And.intro ?_ ?_ | rfl))⟩⟩)⟩))⟩
theorem new2_ok:SpecOK Tryz.prog 56 new2T.spec:=by
  refine Tri.ok (E:=newE) newE_ok (n:=1000) new2T fun x hx=>?_
  rw [new2_vc]
  delta new2Q1
  obtain⟨M,a,z⟩:=x
  have hx:okCf a z M=false:=hx
  exact⟨M,rfl,trivial,fun _ _=>br_i (fun _=>⟨(),rfl,trivial⟩) fun h1=>br_i (fun _=>⟨(),rfl,trivial⟩) fun h2=>br_i (fun _=>⟨(),rfl,trivial⟩) fun h3=>⟨M,rfl,trivial,fun _ _=>br_i (fun _=>⟨(),rfl,trivial⟩) fun h4=>br_i (fun _=>⟨(),rfl,trivial⟩) fun h5=>
    (cf_f hx (by rw [←Bool.not_eq_false'];exact h1) h2 h3 h4 h5).elim⟩⟩
theorem rnew1_ok:SpecOK Tryz.prog 57 rnew1T.spec:=by
  refine Tri.ok (E:=rnewE) rnewE_ok (n:=1000) rnew1T fun x hx=>?_
  rw [rnew1_vc]
  delta rnew1Q2 rnew1Q1 EqT
  obtain⟨M,a,z⟩:=x
  have hx:okCf a z M=true:=hx
  obtain⟨h1,h2,h3,h4,h5⟩:=cf_t hx
  exact⟨M,rfl,trivial,fun _ _=>br_f (by rw [h1];rfl) (br_f h2 (br_f h3 ⟨⟨[⟨0,M⟩],0⟩,rfl,rfl,rfl,rfl,fun _ _=>br_f h4 (br_f h5 ⟨(),(by repeat' (first | exact trivial | refine And.intro ?_ ?_ | rfl))⟩)⟩))⟩
end Go.Proofs.YtgepebndihfnfaaGreat.Ses
