/- The evaluator of code on symbolic states, and that it is sound, whatever orders and capacities are drawn. No condition. -/
import Derived.Test.YtgepebndihfnfaaGreatJSxB
import Derived.RowKit3
import Derived.ChangeSame
set_option linter.unusedSimpArgs false
set_option linter.unusedVariables false

namespace Go.Proofs.YtgepebndihfnfaaGreat.Sx
open Go
def getE:List (Nat × SV)→Nat→SV
  | [],_=>.undef
  | (m,v)::r,n=>bif Nat.beq m n then v else getE r n
def delE:List (Nat × SV)→Nat→List (Nat × SV)
  | [],_=>[]
  | (m,v)::r,n=>bif Nat.beq m n then delE r n else (m,v)::delE r n
def putE (e:List (Nat × SV)) (n:Nat) (v:SV):List (Nat × SV):=(n,v)::delE e n
theorem getE_put_same (e:List (Nat × SV)) (n:Nat) (v:SV):getE (putE e n v) n=v:=by simp [putE,getE]
theorem getE_del_other (e:List (Nat × SV)) {n m:Nat} (h:m≠n):getE (delE e n) m=getE e m:=by
  induction e with
  | nil=>rfl
  | cons x r ih=>
    obtain⟨p,v⟩:=x
    simp only [delE]
    cases hp:Nat.beq p n
    · simp only [cond_false,getE]
      cases hq:Nat.beq p m
      · simpa using ih
      · rfl
    · simp only [cond_true,getE]
      have:p=n:=Nat.eq_of_beq_eq_true hp
      have hq:Nat.beq p m=false:=by
        cases hb:Nat.beq p m
        · rfl
        · exact absurd ((Nat.eq_of_beq_eq_true hb).symm.trans this) h
      rw [hq]
      simpa using ih
theorem getE_put_other (e:List (Nat × SV)) {n m:Nat} (v:SV) (h:m≠n):getE (putE e n v) m=getE e m:=by
  have:Nat.beq n m=false:=by
    cases hb:Nat.beq n m
    · rfl
    · exact absurd (Nat.eq_of_beq_eq_true hb).symm h
  simp only [putE,getE,this,cond_false]
  exact getE_del_other e h
structure St where
  env:List (Nat × SV)
  nt:Nat
  m:MS
def St.ev (s:St):Operand→SV
  | .tmp t=>getE s.env t
  | .const v=>ofVal v
  | .global _=>.undef
  | .func f=>.fn f [] []
def St.put (s:St) (dst:Option Tmp) (v:SV):St:=
  match dst with
  | none=>s
  | some d=>{s with env:=putE s.env d v}
def St.has (s:St) (dst:Option Tmp):Bool:=
  match dst with
  | none=>true
  | some d=>Nat.blt d s.nt
structure Den (F:Fr) (g:Ctx) (s:St) (a:Act) (w:World):Prop where
  env:∀t,Rep g (getE s.env t) (a.tmps.getD t undef)
  nt:a.tmps.size=s.nt
  defers:a.defers=F.dfs
  mem:Mem F g s.m w
theorem Den.ev {F:Fr} {g:Ctx} {s:St} {a:Act} {w:World} (h:Den F g s a w) (x:Operand):Rep g (s.ev x) (a.eval x):=by
  cases x with
  | tmp t=>exact h.env t
  | const v=>exact ofVal_rep g v
  | global _=>exact .undef _
  | func f=>exact .fn f [] [] [] [] rfl rfl (fun j sv v a=>by simp at a) (fun j sv v a=>by simp at a)
theorem put_getD {a:Act} {d:Tmp} {v:Value} {t:Nat} (hd:d<a.tmps.size):(a.put (some d) v).tmps.getD t undef=if t=d then v else a.tmps.getD t undef:=by
  simp only [Act.put,Array.getD_eq_getD_getElem?]
  rw [Array.getElem?_setIfInBounds]
  by_cases h:d=t
  · subst h;simp [hd]
  · rw [if_neg h,if_neg (fun e=>h e.symm)]
theorem Den.put {F:Fr} {g g':Ctx} {s:St} {a:Act} {w w':World} (h:Den F g s a w) (hg:g.le g') {m':MS} (hm:Mem F g' m' w') {dst:Option Tmp} (hd:s.has dst=true) {sv:SV} {v:Value} (r:Rep g' sv v) :
    Den F g' ({s with m:=m'}.put dst sv) (a.put dst v) w':=by
  cases dst with
  | none=>exact⟨fun t=>(h.env t).mono hg,h.nt,h.defers,hm⟩
  | some d=>
    have hd:d<a.tmps.size:=by rw [h.nt];simpa [St.has] using hd
    refine⟨fun t=>?_,by simp [Act.put,St.put,h.nt],h.defers,hm⟩
    rw [put_getD hd]
    by_cases e:t=d
    · subst e;rw [if_pos rfl];simp only [St.put];rw [getE_put_same];exact r
    · rw [if_neg e];simp only [St.put];rw [getE_put_other _ _ e];exact (h.env t).mono hg
theorem Den.known {F:Fr} {g:Ctx} {s:St} {a:Act} {w:World} (h:Den F g s a w) {d:Nat} {b:Bool} (hb:getE s.env d = .bool b):Den F g (s.put (some d) (.bool b)) a w:=by
  refine⟨fun t=>?_,h.nt,h.defers,h.mem⟩
  by_cases e:t=d
  · subst e;simp only [St.put];rw [getE_put_same,←hb];exact h.env t
  · simp only [St.put];rw [getE_put_other _ _ e];exact h.env t
inductive Bad (why pos:String):Prop
def br (b:Bool) (A B:Prop):Prop:=@Bool.rec (fun _=>Prop) B A b
def Res.K (facts:Bool) (r:Res) (pos:String) (k:SV→Prop):Prop:=
  match r with
  | .bad=>Bad "silent" pos
  | .ok v=>k v
  | .chk b v=>br b (k v) (Bad "check" pos)
  | .asm p v=>bif facts then (p→k v) else k v
  | .anyB q f=>∀b,q b→k (f b)
def Res.K0 (facts:Bool) (r:Res) (pos:String) (k:SV→Prop):Prop:=
  match r with
  | .anyB _ _=>Bad "draw: either" pos
  | r=>r.K facts pos k
def LRes.K (r:LRes) (facts:Bool) (pos:String) (k:SV→MS→Prop):Prop:=
  match r with
  | .bad=>Bad "loud" pos
  | .ok v m=>k v m
  | .chk b v m=>br b (k v m) (Bad "check" pos)
  | .chkA p b v m=>bif facts then (p→br b (k v m) (Bad "check" pos)) else br b (k v m) (Bad "check" pos)
inductive Ex where
  | normal
  | exit (id:Nat)
  | ret
  | panic (v:SV)
abbrev CallSpec:=List SV→MS→(SV→MS→Prop)→(SV→MS→Prop)→Prop
abbrev LoopSpec:=Code→((Ex→St→Prop)→St→Prop)→(Ex→St→Prop)→St→Prop
structure Envr where
  P:Program
  codec:TypeId→Option Tc
  facts:Bool
  spec:FuncId→Option CallSpec
  loop:Nat→Option LoopSpec
  ext:FuncId→Option (List SV→Res)
def appendAny (P:Program) (e:TypeId) (m:MS) (s x:SV):LRes:=
  match s,x with
  | .cslice ..,_=>appendCells P e m s x
  | _,.cslice .. => appendCells P e m s x
  | .nils,.nils=>appendCells P e m s x
  | _,_=>appendRows P e m s x
def isConstO:Operand→Bool
  | .const _=>true
  | _=>false
def svNil:SV→Bool
  | .nilif=>true
  | _=>false
def binNil (P:Program) (op:BinOp) (t:TypeId) (c:Bool) (a b:SV):Res:=
  bif svNil a&&(svNil b&&c) then (match P.underlying t with
    | some (.interface _)=>eqRes op true
    | _=>.bad) else binSV P op t a b
def sil2 (P:Program) (B:Blks) (ρ:Operand→SV):Op→Res
  | .build t parts=>buildSV P ρ t parts.toList
  | .binOp op t x y _=>binNil P op t (isConstO x||isConstO y) (ρ x) (ρ y)
  | .lookup t x i ok=>lookupSV P B t (ρ x) (ρ i) ok
  | .typeAssert x xt t ok=>assertSV P t ok (ρ x)
  | o=>sil P B ρ o
def loud (P:Program) (codec:TypeId→Option Tc) (m:MS) (ρ:Operand→SV):Op→LRes
  | .alloc t=>allocSV P m t
  | .box _ x=>boxSV m (ρ x)
  | .buildSlice t n parts=>buildSliceSV P codec m ρ t n parts.toList
  | .store t p x=>storeSV P m t (ρ p) (ρ x)
  | .makeMap _ none=>.ok (.mmap m.next) (m.new (.kv []))
  | .makeSlice t l c=>makeSliceSV P codec m t (ρ l) (ρ c)
  | .mapUpdate t x k v=>updateSV P m t (ρ x) (ρ k) (ρ v)
  | .call ⟨.builtin .append,args,ts⟩=>
    match ts[0]?,ts[1]?,args[0]?,args[1]? with
    | some t,some xt,some a,some x=>
      match P.underlying t with
      | some (.slice e)=>
        match P.underlying e,P.underlying xt,zeroSV P e with
        | some _,some (.slice _),some zs=>bif Nat.beq zs.length (P.cellsOf e) then appendAny P e m (ρ a) (ρ x) else .bad
        | _,_,_=>.bad
      | _=>.bad
    | _,_,_,_=>.bad
  | _=>.bad
def opKind:Op→Nat
  | .alloc _ | .box .. | .buildSlice .. | .store .. | .makeMap _ none | .makeSlice .. | .mapUpdate .. => 1
  | .call ⟨.builtin .append,_,_⟩=>1
  | .call ⟨.value _,_,_⟩=>2
  | .panic _=>3
  | _=>0
def evResults (P:Program) (s:St) (k:List SV→Prop):List ResultVar→List SV→Prop
  | [],acc=>k acc
  | .tmp t::r,acc=>evResults P s k r (acc++[getE s.env t])
  | .cell a t::r,acc=>(loadSV P s.m.blks t (getE s.env a)).K false "result" fun v=>evResults P s k r (acc++[v])
def tupleOf:List SV→SV
  | [v]=>v
  | l=>.tuple l
def enterEnv:Nat→List SV→List (Nat × SV)
  | _,[]=>[]
  | i,v::r=>(i,v)::enterEnv (i+1) r
def hasBody (P:Program) (f:FuncId):Bool:=
  match P.funcs[f]? with
  | some fn=>fn.body.isSome
  | none=>false
def evCall (E:Envr) (run:Code→(Ex→St→Prop)→St→Prop) (f:FuncId) (args:List SV) (m:MS) (kp:SV→MS→Prop) (k:SV→MS→Prop):Prop:=
  match E.spec f with
  | some S=>bif hasBody E.P f then S args m kp k else Bad "no body" ""
  | none=>
    match E.P.funcs[f]? with
    | some fn=>match fn.body with
      | some c=>run c (fun e s'=>match e with
          | .normal | .ret=>evResults E.P s' (fun l=>k (tupleOf l) s'.m) fn.results.toList []
          | .panic v=>kp v s'.m
          | .exit _=>Bad "exit" fn.name) ⟨enterEnv 0 args,args.length+(fn.ntmps-args.length),m⟩
      | none=>Bad "no body" fn.name
    | none=>Bad "no function" ""
def evOpV (E:Envr) (run:Code→(Ex→St→Prop)→St→Prop) (kp:SV→MS→Prop) (o:Oper) (k:SV→MS→Prop) (ρ:Operand→SV) (m:MS):Prop:=
  match opKind o.op with
  | 0=>(sil2 E.P m.blks ρ o.op).K E.facts o.pos fun v=>k v m
  | 1=>(loud E.P E.codec m ρ o.op).K E.facts o.pos k
  | 2=>match o.op with
    | .call ⟨.value fv,args,_⟩=>match ρ fv with
      | .fn f first caps=>match E.ext f with
        | some R=>(R (first++args.toList.map ρ++caps)).K E.facts o.pos fun v=>k v m
        | none=>evCall E run f (first++args.toList.map ρ++caps) m kp k
      | _=>Bad "callee" o.pos
    | _=>Bad "operation" o.pos
  | _=>match o.op with
    | .panic x=>match ρ x with
      | .iface t v=>kp (.iface t v) m
      | _=>Bad "panic" o.pos
    | _=>Bad "operation" o.pos
def evOp (E:Envr) (run:Code→(Ex→St→Prop)→St→Prop) (kx:Ex→St→Prop) (o:Oper) (k:St→Prop) (s:St):Prop:=
  bif !(s.has o.dst) then Bad "slot" o.pos else
  evOpV E run (fun v m'=>kx (.panic v) {s with m:=m'}) o (fun v m'=>k ({s with m:=m'}.put o.dst v)) s.ev s.m
def evGuardL (ops:List Oper) (o:Oper) (s:St) (yes no:St→Prop):Prop:=
  match o.guard with
  | none=>yes s
  | some (j,want)=>
    match (ops[j]?).bind (·.dst) with
    | none=>Bad "guard" o.pos
    | some d=>match getE s.env d with
      | .bool b=>br b (bif want then yes (s.put (some d) (.bool true)) else no (s.put (some d) (.bool true)))
          (bif want then no (s.put (some d) (.bool false)) else yes (s.put (some d) (.bool false)))
      | .tuple _=>no s
      | _=>Bad "operation" o.pos
def evList (E:Envr) (run:Code→(Ex→St→Prop)→St→Prop) (kx:Ex→St→Prop) (ops:List Oper):List Oper→(St→Prop)→St→Prop
  | [],k,s=>k s
  | o::r,k,s=>evGuardL ops o s (evOp E run kx o (evList E run kx ops r k)) (fun s=>bif !(s.has o.dst) then Bad "slot" o.pos else evList E run kx ops r k (s.put o.dst (.tuple [])))
def isAssign:Op→Bool
  | .assign _=>true
  | _=>false
def isS (o:Oper):Bool:=Nat.beq (opKind o.op) 0 && !(isAssign o.op)
def tmpsOf (op:Op):List Nat:=op.operands.toList.filterMap fun
  | .tmp t=>some t
  | _=>none
def guardTmp (ops:List Oper) (o:Oper):Option Nat:=
  match o.guard with
  | none=>none
  | some (j,_)=>(ops[j]?).bind (·.dst)
def namesT (ops:List Oper) (o:Oper) (d:Nat):Bool:=
  (tmpsOf o.op).any (Nat.beq d)||(match guardTmp ops o with
    | some t=>Nat.beq t d
    | none=>false)||(match o.dst with
    | some t=>Nat.beq t d
    | none=>false)
def maskOf (acc:List Nat) (o:Oper):Nat:=
  o.after.toList.foldl (fun s e=>bif Region.binds .any e then s ||| 2 ^ e.on ||| acc.getD e.on 0 else s) 0
def befs:List Nat→List Oper→List Nat
  | acc,[]=>acc
  | acc,o::r=>befs (acc++[maskOf acc o]) r
def bitB (b:List Nat) (i j:Nat):Bool:=(b.getD i 0).testBit j
def regionOk (ops:List Oper) (b:List Nat):Bool:=
  ops.zipIdx.all fun (o,i)=>
    (o.after.toList.all fun e=>!(Region.binds .any e)||Nat.blt e.on i) &&
    (match o.guard with
      | none=>true
      | some (j,_)=>bitB b i j) &&
    (match o.dst with
      | none=>true
      | some d=>(!(isS o) || !((tmpsOf o.op).any (Nat.beq d))) &&
        ops.zipIdx.all fun (o',j)=>Nat.beq i j || !(namesT ops o' d)||bitB b j i||(!(isS o)&&bitB b i j))
def posIn:List Nat→Nat→Nat
  | [],_=>0
  | x::r,i=>bif Nat.beq x i then 0 else posIn r i+1
def modesOk (ops:List Oper):Bool:=
  (ops.all fun o=>o.after.toList.all fun e=>Region.binds .any e) ||
  (let l:=Region.linearise .gc ops.toArray 0
   ops.zipIdx.all fun (o,i)=>o.after.toList.all fun e=>(!(Region.binds .text e)||Nat.blt e.on i)&&(!(Region.binds .gc e)||(Nat.blt e.on ops.length&&Nat.blt (posIn l e.on) (posIn l i))))
def svName:SV→List Nat
  | .mptr n _=>[n]
  | .mrow _ n _ _=>[n]
  | .mslice _ n _ _=>[n]
  | .cslice _ n _ _=>[n]
  | .mmap n=>[n]
  | _=>[]
def silReads (op:Op) (ρ:Operand→SV):List Nat:=
  match op with
  | .load _ p=>svName (ρ p)
  | .convert _ _ x=>svName (ρ x)
  | .lookup _ x _ _=>svName (ρ x)
  | _=>[]
def ready (o:Oper) (done:List Nat):Bool:=o.after.toList.all fun e=>!(Region.binds .any e)||done.any (Nat.beq e.on)
def evClose (E:Envr) (ops:List Oper):List (Oper × Nat)→List Nat→List (Nat × List Nat)→(List Nat→List (Nat × List Nat)→St→Prop)→St→Prop
  | [],done,rd,k,s=>k done rd s
  | (o,i)::r,done,rd,k,s=>
    bif isS o && !(done.any (Nat.beq i))&&ready o done then
      bif !(s.has o.dst) then Bad "slot" o.pos else
      evGuardL ops o s
        (fun s0=>(sil2 E.P s0.m.blks s0.ev o.op).K0 E.facts o.pos fun v=>evClose E ops r (i::done) ((i,silReads o.op s0.ev)::rd) k (s0.put o.dst v))
        (fun s0=>evClose E ops r (i::done) rd k (s0.put o.dst (.tuple [])))
    else evClose E ops r done rd k s
def allP {α:Type} (p:α→Prop):List α→Prop
  | []=>True
  | [x]=>p x
  | x::r=>p x∧allP p r
def evStep (E:Envr) (run:Code→(Ex→St→Prop)→St→Prop) (kx:Ex→St→Prop) (ops:List Oper) (b:List Nat) (k:St→Prop) (next:List Nat→List (Nat × List Nat)→St→Prop)
    (done:List Nat) (rd:List (Nat × List Nat)) (s:St):Prop:=
  bif Nat.beq done.length ops.length then k s else
    match ops.zipIdx.filter (fun x=>!(isS x.1) && !(done.any (Nat.beq x.2))&&ready x.1 done) with
    | []=>Bad "draw: nothing may go" ""
    | l=>allP (fun x=>bif !(s.has x.1.dst) then Bad "slot" x.1.pos else
        evGuardL ops x.1 s
          (fun s0=>evOpV E run
            (fun v m'=>bif ops.zipIdx.all (fun y=>!(isS y.1) || !(done.any (Nat.beq y.2))||bitB b x.2 y.2) then kx (.panic v) {s0 with m:={m' with log:=m'.log++s0.m.log}} else Bad "draw: panic" x.1.pos)
            x.1
            (fun v m'=>bif rd.all (fun y=>bitB b x.2 y.1||y.2.all (fun q=>!(m'.log.any (Nat.beq q)))) then
                next (x.2::done) rd ({s0 with m:={m' with log:=m'.log++s0.m.log}}.put x.1.dst v) else Bad "draw: conflict" x.1.pos)
            s0.ev {s0.m with log:=[]})
          (fun s0=>next (x.2::done) rd (s0.put x.1.dst (.tuple [])))) l
def evD (E:Envr) (run:Code→(Ex→St→Prop)→St→Prop) (kx:Ex→St→Prop) (ops:List Oper) (b:List Nat) (k:St→Prop):Nat→List Nat→List (Nat × List Nat)→St→Prop
  | 0,_,_,_=>Bad "draw" ""
  | n+1,done,rd,s=>evClose E ops ops.zipIdx done rd (evStep E run kx ops b k (evD E run kx ops b k n)) s
def evDraw (E:Envr) (run:Code→(Ex→St→Prop)→St→Prop) (kx:Ex→St→Prop) (ops:List Oper) (k:St→Prop) (s:St):Prop:=
  bif regionOk ops (befs [] ops)&&modesOk ops then evD E run kx ops (befs [] ops) k (ops.length+1) [] [] s else Bad "draw: edges" ""
def firstRegion:Code→Option Nat
  | .region id _ _=>some id
  | .seq a b=>match firstRegion a with
    | some r=>some r
    | none=>firstRegion b
  | .cond _ a b=>match firstRegion a with
    | some r=>some r
    | none=>firstRegion b
  | .block _ b=>firstRegion b
  | .loop b=>firstRegion b
  | .scope b=>firstRegion b
  | _=>none
def forceN (n:Nat) (k:Nat→Prop):Prop:=nowN n k
def forceL {α:Type} (f:α→(α→Prop)→Prop):List α→(List α→Prop)→Prop
  | [],k=>k []
  | a::r,k=>f a fun a=>forceL f r fun r=>k (a::r)
def forceV:Nat→SV→(SV→Prop)→Prop
  | 0,v,k=>k v
  | d+1,v,k=>match v with
    | .undef=>k .undef
    | .int c n=>k (.int c n)
    | .bool b=>k (.bool b)
    | .str s=>k (.str s)
    | .nilp=>k .nilp
    | .nils=>k .nils
    | .nilm=>k .nilm
    | .nilfn=>k .nilfn
    | .nilif=>k .nilif
    | .emp c=>k (.emp c)
    | .mptr n j=>forceN n fun n=>k (.mptr n j)
    | .mrow c n i j=>forceN n fun n=>k (.mrow c n i j)
    | .mslice c n lo len=>forceN n fun n=>k (.mslice c n lo len)
    | .cslice w n lo len=>forceN n fun n=>k (.cslice w n lo len)
    | .rptr cs=>forceL (forceV d) cs fun cs=>k (.rptr cs)
    | .rslice nn c l=>k (.rslice nn c l)
    | .fn f a b=>forceL (forceV d) a fun a=>forceL (forceV d) b fun b=>k (.fn f a b)
    | .iface t v=>forceV d v fun v=>k (.iface t v)
    | .agg cs=>forceL (forceV d) cs fun cs=>k (.agg cs)
    | .tuple cs=>forceL (forceV d) cs fun cs=>k (.tuple cs)
    | .tree t=>k (.tree t)
    | .mmap n=>forceN n fun n=>k (.mmap n)
    | .seqk f n=>forceN n fun n=>k (.seqk f n)
    | .yk l=>k (.yk l)
def forceB (d:Nat) (b:Blk) (k:Blk→Prop):Prop:=
  match b with
  | .cells cs=>forceL (forceV d) cs fun cs=>k (.cells cs)
  | .rows c l=>k (.rows c l)
  | .kv l=>k (.kv l)
def St.force (s:St) (k:St→Prop):Prop:=
  forceL (fun p k=>match p with
    | (n,v)=>forceV 6 v fun v=>k (n,v)) s.env fun env=>
  forceN s.nt fun nt=>
  forceL (fun p k=>match p with
    | (n,b)=>forceN n fun n=>forceB 6 b fun b=>k (n,b)) s.m.blks fun blks=>
  forceN s.m.next fun next=>
  forceL forceN s.m.log fun log=>k ⟨env,nt,⟨blks,next,log⟩⟩
theorem forceN_sound {n:Nat} {k:Nat→Prop} (h:forceN n k):k n:=by
  unfold forceN at h
  rwa [nowN_eq] at h
theorem forceL_sound {α:Type} {f:α→(α→Prop)→Prop} (hf:∀a k,f a k→k a):∀(l:List α) (k:List α→Prop),forceL f l k→k l
  | [],_,h=>h
  | _::r,_,h=>forceL_sound hf r _ (hf _ _ h)
theorem forceV_sound:∀(d:Nat) (v:SV) (k:SV→Prop),forceV d v k→k v
  | 0,_,_,h=>h
  | d+1,v,k,h=>by
    have ih:=forceV_sound d
    unfold forceV at h
    split at h
    all_goals first
      | exact h
      | exact forceN_sound h
      | exact forceL_sound ih _ _ h
      | (have h':=ih _ _ h;exact h')
      | exact forceL_sound ih _ (fun b=>k (.fn _ _ b)) (forceL_sound ih _ _ h)
theorem forceB_sound (d:Nat) (b:Blk) (k:Blk→Prop) (h:forceB d b k):k b:=by
  unfold forceB at h
  split at h
  · exact forceL_sound (forceV_sound d) _ _ h
  · exact h
  · exact h
theorem St.force_sound {s:St} {k:St→Prop} (h:s.force k):k s:=by
  unfold St.force at h
  have h:=forceL_sound (fun p k h=>by obtain⟨n,v⟩:=p;exact forceV_sound _ _ _ h) _ _ h
  have h:=forceN_sound h
  have h:=forceL_sound (fun p k h=>by obtain⟨n,b⟩:=p;exact forceB_sound _ _ _ (forceN_sound h)) _ _ h
  have h:=forceN_sound h
  exact forceL_sound (fun n k h=>forceN_sound h) _ _ h
def endR (E:Envr) (k:St→Prop) (s:St):Prop:=bif E.facts then s.force k else k s
theorem endR_sound {E:Envr} {k:St→Prop} {s:St} (h:endR E k s):k s:=by
  unfold endR at h
  cases hf:E.facts
  · rw [hf] at h;exact h
  · rw [hf] at h;exact St.force_sound h
def ev (E:Envr):Nat→Code→(Ex→St→Prop)→St→Prop
  | 0,_,_,_=>Bad "fuel" ""
  | n+1,.skip,K,s=>K .normal s
  | n+1,.label _,K,s=>K .normal s
  | n+1,.region _ ops draw,K,s=>bif draw then evDraw E (ev E n) K ops.toList (endR E (K .normal)) s else evList E (ev E n) K ops.toList ops.toList (endR E (K .normal)) s
  | n+1,.seq a b,K,s=>ev E n a (fun e s'=>match e with
      | .normal=>ev E n b K s'
      | e=>K e s') s
  | n+1,.cond c a b,K,s=>match c with
    | .tmp t=>match getE s.env t with
      | .bool x=>br x (ev E n a K (s.put (some t) (.bool true))) (ev E n b K (s.put (some t) (.bool false)))
      | _=>Bad "cond" ""
    | _=>Bad "cond" ""
  | n+1,.block id b,K,s=>ev E n b (fun e s'=>match e with
      | .exit j=>bif Nat.beq j id then K .normal s' else K (.exit j) s'
      | e=>K e s') s
  | n+1,.loop b,K,s=>match (firstRegion b).bind E.loop with
    | some L=>L b (ev E n b) K s
    | none=>ev E n b (fun e s'=>match e with
      | .normal=>ev E n (.loop b) K s'
      | e=>K e s') s
  | n+1,.exit id,K,s=>K (.exit id) s
  | n+1,.ret,K,s=>K .ret s
  | _+1,_,_,_=>Bad "code" ""
theorem svNil_of {x:SV} (h:svNil x=true):x = .nilif:=by
  cases x<;>simp [svNil] at h
  rfl
theorem isConstO_of {x:Operand} (h:isConstO x=true):∃v,x = .const v:=by
  cases x<;>simp [isConstO] at h
  exact⟨_,rfl⟩
theorem binNil_sound {P:Program} {g:Ctx} {B:Blks} {w:World} (h:Mem0 g B w) {ρ:Operand→SV} {ev:Operand→Value} (hρ:∀x,Rep g (ρ x) (ev x)) (o:Oper) {op:BinOp} {t yt:TypeId} {x y:Operand} (heq:o.op = .binOp op t x y yt) :
    (binNil P op t (isConstO x||isConstO y) (ρ x) (ρ y)).NextS P w g (execOp ev o):=by
  unfold binNil
  cases hb:(svNil (ρ x)&&(svNil (ρ y)&&(isConstO x||isConstO y)))
  · simp only [cond_false]
    have:=sil_sound (P:=P) h hρ o
    rw [heq] at this
    exact this
  simp only [cond_true]
  simp only [Bool.and_eq_true,Bool.or_eq_true] at hb
  obtain⟨h1,h2,h3⟩:=hb
  have r1:=hρ x
  have r2:=hρ y
  rw [svNil_of h1] at r1
  rw [svNil_of h2] at r2
  have e1:ev x = .nilIface:=by cases hx:ev x<;>rw [hx] at r1<;>cases r1
  have e2:ev y = .nilIface:=by cases hx:ev y<;>rw [hx] at r2<;>cases r2
  split
  · rename_i ms hu
    have hg:(eqGuard op t x y .nilIface .nilIface).run P w = .ok () w:=by
      unfold eqGuard
      rcases h3 with h3 | h3
      · obtain⟨v,rfl⟩:=isConstO_of h3
        cases op<;>simp
      · obtain⟨v,rfl⟩:=isConstO_of h3
        cases op<;>simp
    have he:(Op.equal t .nilIface .nilIface).run P w = .ok true w:=by
      obtain⟨n,hm⟩:∃n,Op.maxDepth=n+1:=⟨9999,rfl⟩
      unfold Op.equal
      rw [hm]
      simp [Op.equalIn,underlying,hu]
    have hs:=(eqRes_sound (P:=P) (w:=w) (g:=g) (op:=op) (t:=t) (x:=.nilIface) (y:=.nilIface) (b:=true) (fun op=>by cases op<;>rfl) he).next
    refine hs.congr ?_
    unfold execOp
    rw [heq]
    simp [e1,e2,hg]
  · trivial
theorem sil2_sound {P:Program} {g:Ctx} {B:Blks} {w:World} (h:Mem0 g B w) {ρ:Operand→SV} {ev:Operand→Value} (hρ:∀x,Rep g (ρ x) (ev x)) (o:Oper) :
    (sil2 P B ρ o.op).NextS P w g (execOp ev o):=by
  unfold sil2
  split
  · rename_i t parts heq
    have:=(buildSV_sound (P:=P) (w:=w) hρ t parts).next
    refine this.congr ?_
    unfold execOp
    rw [heq]
  · rename_i op t x y yt heq
    exact binNil_sound h hρ o heq
  · rename_i t x i ok heq
    have:=(lookupSV_sound (P:=P) h (hρ x) (hρ i) t ok).next
    refine this.congr ?_
    unfold execOp
    rw [heq]
  · rename_i x xt t ok heq
    have:=(assertSV_sound (P:=P) (w:=w) (hρ x) xt t ok).next
    refine this.congr ?_
    unfold execOp
    rw [heq]
  · exact sil_sound h hρ o
theorem LRes.Sound.congr {P:Program} {F:Fr} {w:World} {g:Ctx} {m:MS} {s s':Sem Next} {r:LRes} (he:s'.run P w=s.run P w) (h:r.Sound P F w g m s):r.Sound P F w g m s':=by
  have key:∀sv m',LRuns P F w g m s sv m'→LRuns P F w g m s' sv m':=fun sv m' ⟨nx,v,w',g',h1,h2⟩=>⟨nx,v,w',g',by rw [he];exact h1,h2⟩
  cases r with
  | bad=>trivial
  | ok sv m'=>exact key sv m' h
  | chk b sv m'=>exact fun hb=>key sv m' (h hb)
  | chkA p b sv m'=>exact⟨h.1,fun hb=>key sv m' (h.2 hb)⟩
theorem loud_sound {P:Program} {codec:TypeId→Option Tc} {F:Fr} {g:Ctx} {m:MS} {w:World} (h:Mem F g m w) {ρ:Operand→SV} {ev:Operand→Value} (hρ:∀x,Rep g (ρ x) (ev x)) (o:Oper) :
    (loud P codec m ρ o.op).Sound P F w g m (execOp ev o):=by
  obtain⟨dst,op,ty,pos,after,guard⟩:=o
  show (loud P codec m ρ op).Sound P F w g m _
  unfold loud
  split
  · exact allocSV_sound h _
  · exact boxSV_sound h _ (hρ _)
  · exact buildSliceSV_sound h hρ _ _ _
  · exact storeSV_sound h _ (hρ _) (hρ _)
  · exact makeMap_sound h _
  · exact makeSliceSV_sound h _ (hρ _) (hρ _)
  · exact updateSV_sound h _ (hρ _) (hρ _) (hρ _)
  · rename_i args ts
    split
    case h_2=>trivial
    rename_i t xt a x ht hxt ha hx
    split
    case h_2=>trivial
    rename_i e hu
    split
    case h_2=>trivial
    rename_i d xe zs hd hxd hz
    cases hl:Nat.beq zs.length (P.cellsOf e)
    · trivial
    have hT:AppTypes P t e xt ts:=⟨ht,hxt,hu,⟨d,hd⟩,⟨_,hxd,fun k=>by simp⟩,⟨zs,hz,Nat.eq_of_beq_eq_true hl⟩⟩
    have h0:(args.map ev)[0]?=some (ev a):=by simp [ha]
    have h1:(args.map ev)[1]?=some (ev x):=by simp [hx]
    have hrun:(execOp ev ⟨dst,.call ⟨.builtin .append,args,ts⟩,ty,pos,after,guard⟩).run P w=(do pure (.value (←Builtin.append_ ts ty (args.map ev))):Sem Next).run P w:=by
      simp [execOp,resolve,invoke,builtin]
    refine LRes.Sound.congr hrun ?_
    simp only [cond_true]
    unfold appendAny
    split
    · exact appendCells_sound h hT h0 h1 (hρ _) (hρ _)
    · exact appendCells_sound h hT h0 h1 (hρ _) (hρ _)
    · exact appendCells_sound h hT h0 h1 (hρ _) (hρ _)
    · exact appendRows_sound h hT h0 h1 (hρ _) (hρ _)
  · trivial
structure Goes (F:Fr) (W:Nat→Prop) (g:Ctx) (s:St) (a:Act) (g':Ctx) (s':St) (a':Act) (w':World):Prop where
  le:g.le g'
  upd:Upd s.m s'.m
  same:∀t,¬W t→a'.tmps.getD t undef=a.tmps.getD t undef
  den:Den F g' s' a' w'
theorem Goes.trans {F:Fr} {W:Nat→Prop} {g g1 g2:Ctx} {s s1 s2:St} {a a1 a2:Act} {w1 w2:World} (h:Goes F W g s a g1 s1 a1 w1) (h':Goes F W g1 s1 a1 g2 s2 a2 w2):Goes F W g s a g2 s2 a2 w2:=
  ⟨h.le.trans h'.le,h.upd.trans h'.upd,fun t ht=>by rw [h'.same t ht,h.same t ht],h'.den⟩
def PostX (F:Fr) (W:Nat→Prop) (g:Ctx) (s:St) (a:Act) (K:Ex→St→Prop):Exit→Act→World→Prop
  | .normal,a',w'=>∃g' s',K .normal s'∧Goes F W g s a g' s' a' w'
  | .exit id,a',w'=>∃g' s',K (.exit id) s'∧Goes F W g s a g' s' a' w'
  | .ret,a',w'=>∃g' s',K .ret s'∧Goes F W g s a g' s' a' w'
  | .panic chain,a',w'=>∃g' s' sv v,K (.panic sv) s'∧chain=[{v,recovered:=false}]∧Rep g' sv v∧Goes F W g s a g' s' a' w'
  | _,_,_=>False
theorem PostX.trans {F:Fr} {W:Nat→Prop} {g g1:Ctx} {s s1:St} {a a1:Act} {w1:World} {K:Ex→St→Prop} (h:Goes F W g s a g1 s1 a1 w1) {e:Exit} {a2:Act} {w2:World}
    (h':PostX F W g1 s1 a1 K e a2 w2):PostX F W g s a K e a2 w2:=by
  cases e with
  | normal=>obtain⟨g',s',k,x⟩:=h';exact⟨g',s',k,h.trans x⟩
  | exit id=>obtain⟨g',s',k,x⟩:=h';exact⟨g',s',k,h.trans x⟩
  | ret=>obtain⟨g',s',k,x⟩:=h';exact⟨g',s',k,h.trans x⟩
  | panic ch=>obtain⟨g',s',sv,v,k,e1,e2,x⟩:=h';exact⟨g',s',sv,v,k,e1,e2,h.trans x⟩
  | goto _=>exact h'.elim
  | outgrown=>exact h'.elim
theorem Goes.refl {F:Fr} {W:Nat→Prop} {g:Ctx} {s:St} {a:Act} {w:World} (h:Den F g s a w):Goes F W g s a g s a w:=
  ⟨Ctx.le.refl g,Upd.refl s.m,fun _ _=>rfl,h⟩
def CallPost (F:Fr) (g:Ctx) (m:MS) (kp k:SV→MS→Prop):Ending→World→Prop
  | .returned v,w'=>∃g' m' sv,k sv m'∧g.le g'∧Upd m m'∧Mem F g' m' w'∧Rep g' sv v
  | .panicked chain,w'=>∃g' m' sv v,kp sv m'∧chain=[{v,recovered:=false}]∧g.le g'∧Upd m m'∧Mem F g' m' w'∧Rep g' sv v
  | .outgrown,_=>False
def SpecOK (P:Program) (f:FuncId) (S:CallSpec):Prop:=
  ∀args m kp k,S args m kp k → ∀F g w vs,RepL g args vs→Mem F g m w→Calls P f ⟨vs⟩ w (CallPost F g m kp k)
def asg:Code→List Nat
  | .region _ ops _=>ops.toList.filterMap (·.dst)
  | .seq a b=>asg a++asg b
  | .cond _ a b=>asg a++asg b
  | .block _ b=>asg b
  | .loop b=>asg b
  | .scope b=>asg b
  | _=>[]
def RunOK (P:Program) (c:Code) (run:(Ex→St→Prop)→St→Prop):Prop:=
  ∀K s,run K s → ∀F W g a w,(∀t,t∈asg c→W t)→Den F g s a w→c.wp P (PostX F W g s a K) a w
def RunOKp (p:Fr→Ctx→Prop) (P:Program) (c:Code) (run:(Ex→St→Prop)→St→Prop):Prop:=
  ∀K s,run K s → ∀F W g a w,(∀t,t∈asg c→W t)→Den F g s a w→p F g→c.wp P (PostX F W g s a K) a w
theorem RunOKp.ok {P:Program} {c:Code} {run:(Ex→St→Prop)→St→Prop} (h:RunOK P c run) {p:Fr→Ctx→Prop}:RunOKp p P c run:=fun K s hr F W g a w hW hd _=>h K s hr F W g a w hW hd
def LW (P:Program) (c:Code) (Q:Exit→Act→World→Prop) (a:Act) (w:World):Prop:=
  ∀(b:Frame) (k:List Item) (cs:List Frame),∃e a' w',Q e a' w'∧Arrives P (lone (b.at a (.code c :: .inLoop c::k)) cs w) b k cs e a' w'
theorem LW.wp {P:Program} {c:Code} {Q:Exit→Act→World→Prop} {a:Act} {w:World} (h:LW P c Q a w):(Code.loop c).wp P Q a w:=by
  intro b k cs
  obtain⟨e,a',w',hq,harr⟩:=h b k cs
  exact⟨e,a',w',hq,.of_steps (.one step_loop) harr⟩
theorem LW.round {P:Program} {c:Code} {Q:Exit→Act→World→Prop} {a:Act} {w:World} (h:c.wp P (Exit.then (LW P c Q) Q) a w):LW P c Q a w:=by
  intro b k cs
  obtain⟨e,a₁,w₁,hq,harr⟩:=h b (.inLoop c::k) cs
  cases e with
  | normal=>
    obtain⟨e₂,a₂,w₂,hq₂,harr₂⟩:=hq b k cs
    exact⟨e₂,a₂,w₂,hq₂,.of_steps (Steps.trans harr (.one step_inLoop)) harr₂⟩
  | exit id=>exact⟨_,a₁,w₁,hq,.pass (x:=.inLoop c) rfl (fun _ _=>.inl (by simp)) harr⟩
  | goto l=>exact⟨_,a₁,w₁,hq,.pass (x:=.inLoop c) rfl (fun _ _=>.inl (by simp)) harr⟩
  | ret=>exact⟨_,a₁,w₁,hq,.pass (x:=.inLoop c) rfl (fun _ _=>.inl (by simp)) harr⟩
  | panic ch=>exact⟨_,a₁,w₁,hq,.pass (x:=.inLoop c) rfl (fun _ _=>.inl (by simp)) harr⟩
  | outgrown=>exact⟨_,a₁,w₁,hq,.pass (x:=.inLoop c) rfl (fun _ _=>.inl (by simp)) harr⟩
def RunLW (P:Program) (c:Code) (run:(Ex→St→Prop)→St→Prop):Prop:=
  ∀K s,run K s → ∀F W g a w,(∀t,t∈asg c→W t)→Den F g s a w→LW P c (PostX F W g s a K) a w
def RunLWp (p:Fr→Ctx→Prop) (P:Program) (c:Code) (run:(Ex→St→Prop)→St→Prop):Prop:=
  ∀K s,run K s → ∀F W g a w,(∀t,t∈asg c→W t)→Den F g s a w→p F g→LW P c (PostX F W g s a K) a w
def LoopOK (P:Program) (L:LoopSpec):Prop:=
  ∀(p:Fr→Ctx→Prop),(∀F g g',g.le g'→p F g→p F g') → ∀c run,RunOKp p P c run→RunLWp p P c (L c run)
structure EnvOK (E:Envr):Prop where
  spec:∀f S,E.spec f=some S→SpecOK E.P f S
  loop:∀r L,E.loop r=some L→LoopOK E.P L
  ext:∀f R,E.ext f=some R → ∀(g:Ctx) (w:World) args vs,RepL g args vs→(R args).NextS E.P w g (callFunc f ⟨vs⟩)
  named:∀(f:FuncId) (fn:Func),E.P.funcs[f]?=some fn→(fn.name == "runtime.NumGoroutine")=false
theorem getE_enter (args:List SV):∀(i t:Nat),getE (enterEnv i args) t=if i≤t then (args[t-i]?).getD .undef else .undef:=by
  induction args with
  | nil=>intro i t;simp [enterEnv,getE]
  | cons v r ih=>
    intro i t
    simp only [enterEnv,getE]
    by_cases h:i=t
    · subst h;simp
    · have hb:Nat.beq i t=false:=by
        cases hb:Nat.beq i t
        · rfl
        · exact absurd (Nat.eq_of_beq_eq_true hb) h
      rw [hb,cond_false,ih]
      by_cases h2:i≤t
      · rw [if_pos (by omega),if_pos h2,show t-i=(t-(i+1))+1 by omega]
        simp
      · rw [if_neg (by omega),if_neg h2]
def rv1 (tmps:Array Value):ResultVar→Sem Value
  | .tmp t=>pure (tmps.getD t undef)
  | .cell x t=>do loadVar t (←asAddr (tmps.getD x undef))
theorem results_eq (fn:Func) (tmps:Array Value):results fn tmps=(do let vs ←fn.results.mapM (rv1 tmps);pure (if h:vs.size=1 then vs[0] else .tuple vs)):=by
  unfold results
  congr 1
theorem evResults_sound {P:Program} {F:Fr} {g:Ctx} {s:St} {a:Act} {w:World} (h:Den F g s a w) {k:List SV→Prop}:∀(l:List ResultVar) (acc:List SV) (av:List Value),evResults P s k l acc→RepL g acc av→
    ∃svs vs,k svs∧RepL g svs (av++vs)∧(l.mapM (rv1 a.tmps)).run P w = .ok vs w
  | [],acc,av,hk,r=>⟨acc,[],hk,by simpa using r,by simp⟩
  | .tmp t::l,acc,av,hk,r=>by
    obtain⟨svs,vs,h1,h2,h3⟩:=evResults_sound h l _ (av++[a.tmps.getD t undef]) hk (r.append (.cons (h.env t) (RepL.nil g)))
    exact⟨svs,a.tmps.getD t undef::vs,h1,by simpa using h2,by rw [List.mapM_cons];simp only [rv1,Sem.run_bind,Sem.run_pure,Result.andThen_ok,h3]⟩
  | .cell x t::l,acc,av,hk,r=>by
    unfold evResults at hk
    have hl:=loadSV_sound (P:=P) h.mem.mem t (h.env x)
    have key:∀sv,RunsTo P w g (Instr.loadAt t (a.tmps.getD x undef)) sv→evResults P s k l (acc++[sv])→
        ∃svs vs,k svs∧RepL g svs (av++vs)∧((ResultVar.cell x t::l).mapM (rv1 a.tmps)).run P w = .ok vs w:=by
      rintro sv ⟨u,hu,ru⟩ hk
      obtain⟨svs,vs,h1,h2,h3⟩:=evResults_sound h l _ (av++[u]) hk (r.append (.cons ru (RepL.nil g)))
      refine⟨svs,u::vs,h1,by simpa using h2,?_⟩
      have hu2:(do loadVar t (←asAddr (a.tmps.getD x undef)):Sem Value).run P w = .ok u w:=by
        simp only [Instr.loadAt,Sem.run_bind] at hu
        cases hx:a.tmps.getD x undef with
        | pointer o=>
          rw [hx] at hu
          cases o with
          | none=>simp [Instr.sureAddr] at hu
          | some o=>simp [Instr.sureAddr] at hu;simp [asAddr,hu]
        | _=>rw [hx] at hu;simp [Instr.sureAddr] at hu
      rw [List.mapM_cons]
      have hu3:(rv1 a.tmps (.cell x t)).run P w = .ok u w:=hu2
      simp only [Sem.run_bind,hu3,Result.andThen_ok,Sem.run_pure]
      simp only [Result.andThen_ok,h3]
    cases hr:loadSV P s.m.blks t (getE s.env x) with
    | bad=>rw [hr] at hk;exact (by cases hk)
    | ok v=>rw [hr] at hk hl;exact key v hl hk
    | chk b v=>
      rw [hr] at hk hl
      cases b with
      | true=>exact key v (hl rfl) hk
      | false=>exact (by cases hk)
    | asm p v=>rw [hr] at hk hl;exact key v hl.2 hk
    | anyB q f=>rw [hr] at hk hl;obtain⟨b,hb,hl⟩:=hl;exact key _ hl (hk b hb)
theorem tupleOf_rep {g:Ctx} {svs:List SV} {vs:List Value} (r:RepL g svs vs):Rep g (tupleOf svs) (if h:(⟨vs⟩:Array Value).size=1 then (⟨vs⟩:Array Value)[0] else .tuple ⟨vs⟩):=by
  unfold tupleOf
  split
  · rename_i v
    obtain⟨u,_,rfl,ru,r'⟩:=r.uncons
    rw [r'.eq_nil]
    exact ru
  · rename_i hne
    rw [dif_neg]
    · exact .tuple _ _ r.1 r.2
    · intro h1
      have:svs.length=1:=by rw [r.1];exact h1
      match svs,this with
      | [v],_=>exact hne v rfl
theorem evCall_sound {E:Envr} (hE:EnvOK E) {run:Code→(Ex→St→Prop)→St→Prop} (hrun:∀c,RunOK E.P c (run c)) {f:FuncId} {args:List SV} {m:MS} {kp k:SV→MS→Prop}
    (h:evCall E run f args m kp k) {F:Fr} {g:Ctx} {w:World} {vs:List Value} (r:RepL g args vs) (hm:Mem F g m w) :
    (∃fn,E.P.funcs[f]?=some fn∧fn.body.isSome=true)∧Calls E.P f ⟨vs⟩ w (CallPost F g m kp k):=by
  unfold evCall at h
  split at h
  · rename_i S hS
    cases hb:hasBody E.P f
    · rw [hb] at h;cases h
    rw [hb] at h
    refine⟨?_,hE.spec f S hS args m kp k h F g w vs r hm⟩
    unfold hasBody at hb
    split at hb
    · exact⟨_,‹_›,hb⟩
    · cases hb
  · split at h
    · rename_i fn hfn
      split at h
      · rename_i c hc
        refine⟨⟨fn,hfn,by rw [hc];rfl⟩,calls_of_wp hfn hc ?_⟩
        have hsz:((⟨vs⟩:Array Value)++Array.replicate (fn.ntmps-(⟨vs⟩:Array Value).size) undef).size=args.length+(fn.ntmps-args.length):=by
          simp [r.1]
        have hm0:Mem {F with dfs:=[]} g m w:=hm.dfs []
        have hden:Den {F with dfs:=[]} g ⟨enterEnv 0 args,args.length+(fn.ntmps-args.length),m⟩ {tmps:=(⟨vs⟩:Array Value)++Array.replicate (fn.ntmps-(⟨vs⟩:Array Value).size) undef,defers:=[]} w:=by
          refine⟨fun t=>?_,hsz,rfl,hm0⟩
          rw [getE_enter,if_pos (Nat.zero_le _),Nat.sub_zero]
          by_cases ht:t<args.length
          · have hx:args[t]?=some args[t]:=by simp [ht]
            rw [hx]
            obtain⟨u,hu,ru⟩:=r.get hx
            have:((⟨vs⟩:Array Value)++Array.replicate (fn.ntmps-(⟨vs⟩:Array Value).size) undef).getD t undef=u:=by
              rw [Array.getD_eq_getD_getElem?,Array.getElem?_append_left (by simpa [←r.1] using ht)]
              simp [hu]
            rw [this]
            exact ru
          · rw [List.getElem?_eq_none (by omega)]
            exact .undef _
        refine Code.wp_mono ?_ (hrun c _ _ h {F with dfs:=[]} (fun _=>True) g _ w (fun _ _=>trivial) hden)
        have hres:∀(a':Act) (w':World) (g':Ctx) (s':St),evResults E.P s' (fun l=>k (tupleOf l) s'.m) fn.results.toList []→Goes {F with dfs:=[]} (fun _=>True) g ⟨enterEnv 0 args,args.length+(fn.ntmps-args.length),m⟩ {tmps:=(⟨vs⟩:Array Value)++Array.replicate (fn.ntmps-(⟨vs⟩:Array Value).size) undef,defers:=[]} g' s' a' w'→
            a'.defers=[] ∧ ∃v,(results fn a'.tmps).run E.P w' = .ok v w'∧CallPost F g m kp k (.returned v) w':=by
          intro a' w' g' s' hr hg
          obtain⟨svs,us,h1,h2,h3⟩:=evResults_sound hg.den _ _ [] hr (RepL.nil _)
          simp only [List.nil_append] at h2
          refine⟨hg.den.defers,_,?_,g',s'.m,_,h1,hg.le,hg.upd,hg.den.mem.dfs F.dfs,tupleOf_rep h2⟩
          rw [results_eq]
          simp only [Sem.run_bind]
          rw [Array.mapM_eq_mapM_toList,Sem.run_map]
          rw [h3]
          simp only [Result.andThen_ok,Sem.run_pure]
        intro e a' w' hp
        cases e with
        | normal=>obtain⟨g',s',hk,hg⟩:=hp;exact hres a' w' g' s' hk hg
        | ret=>obtain⟨g',s',hk,hg⟩:=hp;exact hres a' w' g' s' hk hg
        | exit id=>obtain⟨g',s',hk,hg⟩:=hp;exact (by cases hk)
        | panic ch=>
          obtain⟨g',s',sv,v,hk,e1,e2,hg⟩:=hp
          exact⟨hg.den.defers,g',s'.m,sv,v,hk,e1,hg.le,hg.upd,hg.den.mem.dfs F.dfs,e2⟩
        | goto _=>exact hp.elim
        | outgrown=>exact hp.elim
      · cases h
    · cases h
theorem run_call {E:Envr} (hE:EnvOK E) {f:FuncId} {fn:Func} (hfn:E.P.funcs[f]?=some fn) (hb:fn.body.isSome=true) {w:World} {args:Array Value} :
    (callFunc f args).run E.P w = .ok (.enter f args) w:=by
  have hn:=hE.named f fn hfn
  have hb':fn.body.isNone=false:=by cases h:fn.body<;>rw [h] at hb<;>simp at hb ⊢
  simp only [callFunc,Sem.run_bind,run_program,Result.andThen_ok,hfn,hn,hb',Bool.false_eq_true,if_false,Sem.run_pure]
theorem evOpV_sound {E:Envr} (hE:EnvOK E) {run:Code→(Ex→St→Prop)→St→Prop} (hrun:∀c,RunOK E.P c (run c)) {kp:SV→MS→Prop} {o:Oper} {k:SV→MS→Prop} {ρ:Operand→SV} {m:MS}
    (h:evOpV E run kp o k ρ m) {F:Fr} {g:Ctx} {a:Act} {w:World} {ev':Operand→Value} (hev:execOp a.eval o=execOp ev' o) (hρ:∀x,Rep g (ρ x) (ev' x)) (hm:Mem F g m w)
    {next:Act→World→Prop} {Q:Exit→Act→World→Prop} (hk:∀g' m' sv v w',k sv m'→g.le g'→Upd m m'→Mem F g' m' w'→Rep g' sv v→next (a.put o.dst v) w')
    (hx:∀g' m' sv v w',kp sv m'→g.le g'→Upd m m'→Mem F g' m' w'→Rep g' sv v→Q (.panic [{v,recovered:=false}]) a w') :
    o.wp E.P a w next Q:=by
  unfold evOpV at h
  unfold Oper.wp
  rw [hev]
  split at h
  · -- silent
    have hs:=sil2_sound (P:=E.P) hm.mem hρ o
    have key:∀sv,NextTo E.P w g (execOp ev' o) sv→k sv m→o.upon E.P a next Q ((execOp ev' o).run E.P w):=by
      rintro sv ⟨v,h1,h2⟩ hk'
      rw [h1,Oper.upon_value]
      exact hk g m sv v w hk' (Ctx.le.refl g) (Upd.refl m) hm h2
    cases hr:sil2 E.P m.blks ρ o.op with
    | bad=>rw [hr] at h;cases h
    | ok sv=>rw [hr] at h hs;exact key sv hs h
    | chk b sv=>
      rw [hr] at h hs
      cases b with
      | true=>exact key sv (hs rfl) h
      | false=>cases h
    | asm p sv=>
      rw [hr] at h hs
      simp only [Res.K] at h
      cases hf:E.facts
      · rw [hf] at h;exact key sv hs.2 h
      · rw [hf] at h;exact key sv hs.2 (h hs.1)
    | anyB q f=>
      rw [hr] at h hs
      obtain⟨b,hb,hs⟩:=hs
      exact key _ hs (h b hb)
  · -- makes or writes memory
    have hs:=loud_sound (P:=E.P) (codec:=E.codec) hm hρ o
    have key:∀sv m',LRuns E.P F w g m (execOp ev' o) sv m'→k sv m'→o.upon E.P a next Q ((execOp ev' o).run E.P w):=by
      rintro sv m' ⟨nx,v,w',g',h1,h2,h3,h4,h5,h6⟩ hk'
      rw [h1]
      rcases h2 with rfl | ⟨rfl,rfl⟩
      · rw [Oper.upon_value]
        exact hk g' m' sv v w' hk' h3 h5 h4 h6
      · rw [Oper.upon_skip]
        exact hk g' m' sv undef w' hk' h3 h5 h4 h6
    cases hr:loud E.P E.codec m ρ o.op with
    | bad=>rw [hr] at h;cases h
    | ok sv m'=>rw [hr] at h hs;exact key sv m' hs h
    | chk b sv m'=>
      rw [hr] at h hs
      cases b with
      | true=>exact key sv m' (hs rfl) h
      | false=>cases h
    | chkA p b sv m'=>
      rw [hr] at h hs
      simp only [LRes.K] at h
      cases hf:E.facts
      · rw [hf] at h
        cases b with
        | true=>exact key sv m' (hs.2 rfl) h
        | false=>cases h
      · rw [hf] at h
        have h:=h hs.1
        cases b with
        | true=>exact key sv m' (hs.2 rfl) h
        | false=>cases h
  · -- a call
    split at h
    case h_2=>cases h
    rename_i fv args ts hop
    split at h
    case h_2=>cases h
    rename_i f first caps hfv
    have rf:=hρ fv
    rw [hfv] at rf
    cases hv:ev' fv<;>rw [hv] at rf<;>cases rf
    rename_i us vs l1 r1 l2 r2
    have rargs:RepL g (first++args.toList.map ρ++caps) (us++args.toList.map ev'++vs):=
      (RepL.append (RepL.append ⟨l1,r1⟩ (RepL.map hρ args.toList)) ⟨l2,r2⟩)
    have he:((⟨us⟩:Array Value)++Array.map ev' args++(⟨vs⟩:Array Value))=⟨us++args.toList.map ev'++vs⟩:=by
      apply Array.ext';simp
    have hinv:(execOp ev' o).run E.P w=(callFunc f ⟨us++args.toList.map ev'++vs⟩).run E.P w:=by
      unfold execOp
      rw [hop]
      simp only [resolve,hv,Deferred.ofValue,Sem.run_bind,Sem.run_pure,Result.andThen_ok,invoke]
      rw [he]
    split at h
    · rename_i R hR
      have hs:=hE.ext f R hR g w _ _ rargs
      have key:∀sv,NextTo E.P w g (callFunc f ⟨us++args.toList.map ev'++vs⟩) sv→k sv m→o.upon E.P a next Q ((execOp ev' o).run E.P w):=by
        rintro sv ⟨v,h1,h2⟩ hk'
        rw [hinv,h1,Oper.upon_value]
        exact hk g m sv v w hk' (Ctx.le.refl g) (Upd.refl m) hm h2
      cases hr:R (first++args.toList.map ρ++caps) with
      | bad=>rw [hr] at h;cases h
      | ok sv=>rw [hr] at h hs;exact key sv hs h
      | chk b sv=>
        rw [hr] at h hs
        cases b with
        | true=>exact key sv (hs rfl) h
        | false=>cases h
      | asm p sv=>
        rw [hr] at h hs
        simp only [Res.K] at h
        cases hf:E.facts
        · rw [hf] at h;exact key sv hs.2 h
        · rw [hf] at h;exact key sv hs.2 (h hs.1)
      | anyB q fb=>
        rw [hr] at h hs
        obtain⟨b,hb,hs⟩:=hs
        exact key _ hs (h b hb)
    obtain⟨⟨fn,hfn,hbody⟩,hc⟩:=evCall_sound hE hrun h rargs hm
    have hrunop:(execOp ev' o).run E.P w = .ok (.enter f ⟨us++args.toList.map ev'++vs⟩) w:=by
      rw [hinv,run_call hE hfn hbody]
    rw [hrunop,Oper.upon_enter]
    refine hc.mono fun e w' hp=>?_
    cases e with
    | returned v=>
      obtain⟨g',m',sv,h1,h2,h3,h4,h5⟩:=hp
      exact hk g' m' sv v w' h1 h2 h3 h4 h5
    | panicked chain=>
      obtain⟨g',m',sv,v,h1,e1,h2,h3,h4,h5⟩:=hp
      subst e1
      exact hx g' m' sv v w' h1 h2 h3 h4 h5
    | outgrown=>exact hp.elim
  · -- a panic
    split at h
    case h_2=>cases h
    rename_i x hop
    split at h
    case h_2=>cases h
    rename_i t sv hsv
    have rx:=hρ x
    rw [hsv] at rx
    cases hv:ev' x<;>rw [hv] at rx<;>cases rx
    rename_i u ru
    have hrunop:(execOp ev' o).run E.P w = .halt (.panic (.iface t u)) w:=by
      unfold execOp
      rw [hop]
      simp [hv,Instr.panic]
    rw [hrunop,Oper.upon_panic]
    exact hx g m _ _ w h (Ctx.le.refl g) (Upd.refl m) hm (.iface t sv u ru)
theorem evOp_sound {E:Envr} (hE:EnvOK E) {run:Code→(Ex→St→Prop)→St→Prop} (hrun:∀c,RunOK E.P c (run c)) {kx:Ex→St→Prop} {o:Oper} {k:St→Prop} {s:St}
    (h:evOp E run kx o k s) {F:Fr} {W:Nat→Prop} {g:Ctx} {a:Act} {w:World} (hd:Den F g s a w) (hW:∀d,o.dst=some d→W d)
    {next:Act→World→Prop} {Q:Exit→Act→World→Prop} (hk:∀g' s' a' w',k s'→Goes F W g s a g' s' a' w'→next a' w')
    (hx:∀g' s' sv v a' w',kx (.panic sv) s'→Rep g' sv v→Goes F W g s a g' s' a' w'→Q (.panic [{v,recovered:=false}]) a' w') :
    o.wp E.P a w next Q:=by
  unfold evOp at h
  cases hhas:s.has o.dst
  · rw [hhas] at h;cases h
  rw [hhas] at h
  simp only [Bool.not_true,cond_false] at h
  have hsame:∀v t,¬W t→(a.put o.dst v).tmps.getD t undef=a.tmps.getD t undef:=by
    intro v t ht
    cases hdst:o.dst with
    | none=>rfl
    | some d=>
      have hdlt:d<a.tmps.size:=by rw [hd.nt];rw [hdst] at hhas;simpa [St.has] using hhas
      rw [put_getD hdlt,if_neg]
      intro e
      subst e
      exact ht (hW _ hdst)
  have fin:∀g' m' sv v w',g.le g'→Upd s.m m'→Mem F g' m' w'→Rep g' sv v→Goes F W g s a g' ({s with m:=m'}.put o.dst sv) (a.put o.dst v) w':=by
    intro g' m' sv v w' h1 h2 h3 h4
    refine⟨h1,?_,hsame v,hd.put h1 h3 hhas h4⟩
    cases hdst:o.dst<;>exact h2
  exact evOpV_sound hE hrun h rfl (fun x=>hd.ev x) hd.mem (fun g' m' sv v w' h1 h2 h3 h4 h5=>hk _ _ _ _ h1 (fin g' m' sv v w' h2 h3 h4 h5))
    (fun g' m' sv v w' h1 h2 h3 h4 h5=>hx g' {s with m:=m'} sv v a w' h1 h5 ⟨h2,h3,fun _ _=>rfl,⟨fun t=>(hd.env t).mono h2,hd.nt,hd.defers,h4⟩⟩)
theorem evList_sound {E:Envr} (hE:EnvOK E) {run:Code→(Ex→St→Prop)→St→Prop} (hrun:∀c,RunOK E.P c (run c)) {kx:Ex→St→Prop} (ops:Array Oper) (tl:List Oper) {F:Fr} {W:Nat→Prop} {Q:Exit→Act→World→Prop} :
    ∀(l:List Oper) {k:St→Prop} {s:St},evList E run kx ops.toList l k s → ∀ {g:Ctx} {a:Act} {w:World},Den F g s a w→(∀o∈l,∀d,o.dst=some d→W d)→
      (∀g' s' a' w',k s'→Goes F W g s a g' s' a' w'→wpList E.P ops Q tl a' w')→
      (∀g' s' sv v a' w',kx (.panic sv) s'→Rep g' sv v→Goes F W g s a g' s' a' w'→Q (.panic [{v,recovered:=false}]) a' w')→wpList E.P ops Q (l++tl) a w:=by
  intro l
  induction l with
  | nil=>intro k s h g a w hd _ hk _;exact hk g s a w h (Goes.refl hd)
  | cons o r ih=>
    intro k s h g a w hd hW hk hx
    rw [List.cons_append]
    unfold evList evGuardL at h
    have yes:∀s0,Den F g s0 a w→s0.m=s.m→Region.wanted o (yielded ops a.tmps)=true→evOp E run kx o (evList E run kx ops.toList r k) s0→wpList E.P ops Q (o::(r++tl)) a w:=by
      intro s0 hd0 hm0 hwant h0
      unfold wpList
      rw [if_pos hwant]
      refine .inl ?_
      have conv:∀ {g' s' a' w'},Goes F W g s0 a g' s' a' w'→Goes F W g s a g' s' a' w':=fun x=>⟨x.le,hm0 ▸ x.upd,x.same,x.den⟩
      exact evOp_sound hE hrun h0 hd0 (hW o (by simp)) (fun g' s' a' w' hk' hg=>ih hk' hg.den (fun o' ho'=>hW o' (by simp [ho'])) (fun g2 s2 a2 w2 h2 hg2=>hk _ _ _ _ h2 ((conv hg).trans hg2))
        (fun g2 s2 sv v a2 w2 h2 r2 hg2=>hx _ _ _ _ _ _ h2 r2 ((conv hg).trans hg2))) (fun g' s' sv v a' w' h2 r2 hg=>hx _ _ _ _ _ _ h2 r2 (conv hg))
    have no:∀s0,Den F g s0 a w→s0.m=s.m→Region.wanted o (yielded ops a.tmps)=false→(bif !(s0.has o.dst) then Bad "slot" o.pos else evList E run kx ops.toList r k (s0.put o.dst (.tuple [])))→wpList E.P ops Q (o::(r++tl)) a w:=by
      intro s0 hd0 hm0 hwant h0
      cases hhas:s0.has o.dst
      · rw [hhas] at h0;cases h0
      rw [hhas] at h0
      unfold wpList
      rw [if_neg (by rw [hwant];simp)]
      have hput:=hd0.put (Ctx.le.refl g) hd0.mem hhas (sv:=.tuple []) (v:=undef) (.tuple [] [] rfl (fun j sv v a=>by simp at a))
      have hgo:Goes F W g s a g (s0.put o.dst (.tuple [])) (a.put o.dst undef) w:=by
        refine⟨Ctx.le.refl g,?_,fun t ht=>?_,hput⟩
        · cases hdst:o.dst<;>(simp only [St.put];rw [hm0];exact Upd.refl _)
        · cases hdst:o.dst with
          | none=>rfl
          | some d=>
            have hdlt:d<a.tmps.size:=by rw [hd0.nt];rw [hdst] at hhas;simpa [St.has] using hhas
            rw [put_getD hdlt,if_neg]
            intro e
            subst e
            exact ht (hW o (by simp) _ hdst)
      exact ih h0 hput (fun o' ho'=>hW o' (by simp [ho'])) (fun g2 s2 a2 w2 h2 hg2=>hk _ _ _ _ h2 (hgo.trans hg2)) (fun g2 s2 sv v a2 w2 h2 r2 hg2=>hx _ _ _ _ _ _ h2 r2 (hgo.trans hg2))
    split at h
    · rename_i hg
      exact yes s hd rfl (by simp [Region.wanted,hg]) h
    · rename_i j want hg
      split at h
      · cases h
      · rename_i d hdst
        split at h
        · rename_i b hb
          have hdst':(ops[j]?).bind (·.dst)=some d:=by simpa using hdst
          have hbv:a.tmps[d]?=some (.bool b):=by
            have r0:=hd.env d
            rw [hb] at r0
            rw [Array.getD_eq_getD_getElem?] at r0
            cases hx0:a.tmps[d]? with
            | none=>rw [hx0] at r0;cases r0
            | some v=>rw [hx0] at r0;cases r0;rfl
          have hy:yielded ops a.tmps j=some b:=by
            unfold yielded
            rw [hdst']
            simp [hbv]
          have hkn:=hd.known hb
          have hkn':Den F g (s.put (some d) (.bool b)) a w:=hkn
          cases b<;>cases want
          · exact yes _ hkn rfl (by simp [Region.wanted,hg,hy]) h
          · exact no _ hkn rfl (by simp [Region.wanted,hg,hy]) h
          · exact no _ hkn rfl (by simp [Region.wanted,hg,hy]) h
          · exact yes _ hkn rfl (by simp [Region.wanted,hg,hy]) h
        · rename_i vs hb
          have hdst':(ops[j]?).bind (·.dst)=some d:=by simpa using hdst
          have hy:yielded ops a.tmps j=none:=by
            have r0:=hd.env d
            rw [hb] at r0
            rw [Array.getD_eq_getD_getElem?] at r0
            unfold yielded
            rw [hdst']
            cases hx0:a.tmps[d]? with
            | none=>simp [hx0]
            | some v=>
              rw [hx0] at r0
              simp only [Option.getD_some] at r0
              cases r0
              simp [hx0]
          exact no _ hd rfl (by simp [Region.wanted,hg,hy]) h
        · cases h
theorem PostX.mono {F:Fr} {W:Nat→Prop} {g:Ctx} {s:St} {a:Act} {K K':Ex→St→Prop} (h:∀e s,K e s→K' e s) {e:Exit} {a':Act} {w':World} (hp:PostX F W g s a K e a' w'):PostX F W g s a K' e a' w':=by
  cases e with
  | normal=>obtain⟨g',s',k,x⟩:=hp;exact⟨g',s',h _ _ k,x⟩
  | exit id=>obtain⟨g',s',k,x⟩:=hp;exact⟨g',s',h _ _ k,x⟩
  | ret=>obtain⟨g',s',k,x⟩:=hp;exact⟨g',s',h _ _ k,x⟩
  | panic ch=>obtain⟨g',s',sv,v,k,e1,e2,x⟩:=hp;exact⟨g',s',sv,v,h _ _ k,e1,e2,x⟩
  | goto _=>exact hp.elim
  | outgrown=>exact hp.elim
theorem region_sound {E:Envr} (hE:EnvOK E) {run:Code→(Ex→St→Prop)→St→Prop} (hrun:∀c,RunOK E.P c (run c)) {id:Nat} {ops:Array Oper} {K:Ex→St→Prop} {s:St}
    (h:evList E run K ops.toList ops.toList (endR E (K .normal)) s) {F:Fr} {W:Nat→Prop} {g:Ctx} {a:Act} {w:World} (hW:∀t,t∈asg (.region id ops false)→W t) (hd:Den F g s a w) :
    (Code.region id ops false).wp E.P (PostX F W g s a K) a w:=by
  refine wp_region_list ?_
  rw [←List.append_nil ops.toList]
  refine evList_sound hE hrun ops [] ops.toList h hd (fun o ho d hdst=>hW d ?_) (fun g' s' a' w' hk hg=>show PostX F W g s a K .normal a' w' from ⟨g',s',endR_sound hk,hg⟩) (fun g' s' sv v a' w' hk r hg=>⟨g',s',sv,v,hk,rfl,r,hg⟩)
  exact List.mem_filterMap.2 ⟨o,ho,hdst⟩
structure Sched (ops:Array Oper) (l:List Nat):Prop where
  mem:∀i,i∈l↔i<ops.size
  nodup:l.Nodup
  ord:∀l1 i l2,l=l1++i::l2 → ∀o,ops[i]?=some o → ∀e,e∈o.after.toList→Region.binds .any e=true→e.on∈l1
theorem nodup_bound:∀(n:Nat) (l:List Nat),l.Nodup→(∀x∈l,x<n)→l.length≤n
  | 0,l,_,h=>by
    cases l with
    | nil=>simp
    | cons x r=>exact absurd (h x (by simp)) (Nat.not_lt_zero x)
  | n+1,l,hn,h=>by
    by_cases hm:n∈l
    · have h1:=nodup_bound n (l.erase n) (hn.erase n) (fun x hx=>by
        have h2:=h x (List.mem_of_mem_erase hx)
        have h3:x≠n:=fun e=>by subst e;exact (hn.not_mem_erase) hx
        omega)
      rw [List.length_erase_of_mem hm] at h1
      omega
    · have:=nodup_bound n l hn (fun x hx=>by
        have h2:=h x hx
        have h3:x≠n:=fun e=>hm (e ▸ hx)
        omega)
      omega
theorem binds_of_any {m:Region.Mode} {e:Edge} (h:Region.binds .any e=true):Region.binds m e=true:=by
  unfold Region.binds at *
  split at h<;>simp_all
def RankOK (m:Region.Mode) (ops:Array Oper) (rank:Nat→Nat):Prop:=
  ∀(i:Nat) o,ops[i]?=some o → ∀e,e∈o.after.toList→Region.binds m e=true→e.on<ops.size∧rank e.on<rank i
theorem avail {m:Region.Mode} {ops:Array Oper} {rank:Nat→Nat} (hr:RankOK m ops rank) (acc:List Nat):∀r i,i<ops.size→i ∉ acc→rank i≤r→
    ∃i,i<ops.size∧i ∉ acc ∧ ∀o,ops[i]?=some o → ∀e,e∈o.after.toList→Region.binds m e=true→e.on∈acc
  | 0,i,hi,hn,h=>⟨i,hi,hn,fun o ho e he hb=>absurd (hr i o ho e he hb).2 (by omega)⟩
  | r+1,i,hi,hn,h=>by
    by_cases hall:∀o,ops[i]?=some o → ∀e,e∈o.after.toList→Region.binds m e=true→e.on∈acc
    · exact⟨i,hi,hn,hall⟩
    · have:∃o e,ops[i]?=some o∧e∈o.after.toList∧Region.binds m e=true∧e.on ∉ acc:=by
        refine Classical.byContradiction fun hc=>hall fun o ho e he hb=>Classical.byContradiction fun hna=>hc ⟨o,e,ho,he,hb,hna⟩
      obtain⟨o,e,ho,he,hb,hna⟩:=this
      obtain⟨h1,h2⟩:=hr i o ho e he hb
      exact avail hr acc r e.on h1 hna (by omega)
theorem go_sched {m:Region.Mode} {ops:Array Oper} {rank:Nat→Nat} (hr:RankOK m ops rank):∀(fuel t:Nat) (listed:Array Bool) (acc:List Nat),listed.size=ops.size→
    (∀i,i<ops.size→(listed[i]?=some true↔i∈acc))→acc.Nodup→(∀i∈acc,i<ops.size)→acc.length+fuel=ops.size→
    (∀l1 i l2,acc.reverse=l1++i::l2 → ∀o,ops[i]?=some o → ∀e,e∈o.after.toList→Region.binds m e=true→e.on∈l1)→
    let out:=Region.linearise.go m ops fuel t listed acc
    out.Nodup∧(∀i∈out,i<ops.size)∧out.length=ops.size∧(∀l1 i l2,out=l1++i::l2 → ∀o,ops[i]?=some o → ∀e,e∈o.after.toList→Region.binds m e=true→e.on∈l1)
  | 0,t,listed,acc,hs,hl,hn,hb,hlen,ho=>by
    simp only [Region.linearise.go]
    exact⟨by unfold List.Nodup at *;rw [List.pairwise_reverse];exact hn.imp (fun h=>Ne.symm h),fun i hi=>hb i (by simpa using hi),by simpa using hlen,ho⟩
  | fuel+1,t,listed,acc,hs,hl,hn,hb,hlen,ho=>by
    simp only [Region.linearise.go]
    generalize hrs:(List.range ops.size).filter (fun i=>!listed.getD i true&&((ops[i]?).map (fun o=>o.after.all fun e=>!Region.binds m e||listed.getD e.on false)).getD false)=rs
    have hmem:∀i,i∈rs↔i<ops.size∧i ∉ acc ∧ ∀o,ops[i]?=some o → ∀e,e∈o.after.toList→Region.binds m e=true→e.on∈acc:=by
      intro i
      rw [←hrs,List.mem_filter,List.mem_range]
      constructor
      · rintro ⟨h1,h2⟩
        simp only [Bool.and_eq_true,Bool.not_eq_true'] at h2
        obtain⟨h3,h4⟩:=h2
        have hna:i ∉ acc:=by
          intro hc
          have:=(hl i h1).2 hc
          rw [Array.getD_eq_getD_getElem?,this] at h3
          simp at h3
        refine⟨h1,hna,fun o hoo e he hbd=>?_⟩
        rw [hoo] at h4
        simp only [Option.map_some,Option.getD_some] at h4
        have h5:=(Array.all_eq_true'.1 h4) e (by simpa using he)
        rw [hbd] at h5
        simp only [Bool.not_true,Bool.false_or] at h5
        have h6:=(hr i o hoo e he hbd).1
        refine (hl _ h6).1 ?_
        rw [Array.getD_eq_getD_getElem?] at h5
        cases hx:listed[e.on]? with
        | none=>rw [hx] at h5;simp at h5
        | some b=>rw [hx] at h5;simp at h5;rw [h5]
      · rintro ⟨h1,hna,h2⟩
        refine⟨h1,?_⟩
        simp only [Bool.and_eq_true,Bool.not_eq_true']
        constructor
        · have:listed[i]?≠some true:=fun hc=>hna ((hl i h1).1 hc)
          have hx:listed[i]?=some (listed[i]'(by omega)):=by simp
          rw [Array.getD_eq_getD_getElem?,hx]
          rw [hx] at this
          simp at this ⊢
          exact this
        · have hoi:ops[i]?=some (ops[i]'h1):=by simp
          rw [hoi]
          simp only [Option.map_some,Option.getD_some]
          rw [Array.all_eq_true']
          intro e he
          cases hbd:Region.binds m e
          · simp
          · have h3:=h2 _ hoi e (by simpa using he) hbd
            have h6:=(hr i _ hoi e (by simpa using he) hbd).1
            have:=(hl _ h6).2 h3
            rw [Array.getD_eq_getD_getElem?,this]
            simp
    have hne:rs≠[]:=by
      intro hc
      have:∃i,i<ops.size∧i ∉ acc:=by
        refine Classical.byContradiction fun hcc=>?_
        have hall:∀i,i<ops.size→i∈acc:=fun i hi=>Classical.byContradiction fun h=>hcc ⟨i,hi,h⟩
        have h1:ops.size≤acc.length:=by
          have:=List.Nodup.length_le_of_subset (l₁:=List.range ops.size) (l₂:=acc) List.nodup_range (fun i hi=>hall i (List.mem_range.1 hi))
          simpa using this
        omega
      obtain⟨i,hi,hna⟩:=this
      obtain⟨j,h1,h2,h3⟩:=avail hr acc (rank i) i hi hna (Nat.le_refl _)
      have:=(hmem j).2 ⟨h1,h2,h3⟩
      rw [hc] at this
      cases this
    have hlt:t % rs.length<rs.length:=Nat.mod_lt _ (List.length_pos_iff.2 hne)
    rw [List.getElem?_eq_getElem hlt]
    dsimp only
    generalize hi:rs[t % rs.length]=i
    have him:i∈rs:=by rw [←hi];exact List.getElem_mem hlt
    obtain⟨h1,h2,h3⟩:=(hmem i).1 him
    refine go_sched hr fuel _ _ (i::acc) (by simpa using hs) (fun j hj=>?_) (List.nodup_cons.2 ⟨h2,hn⟩) (fun j hj=>?_) (by simp;omega) (fun l1 j l2 hj o hoo e he hbd=>?_)
    · rw [Array.getElem?_setIfInBounds]
      by_cases e:i=j
      · subst e
        rw [if_pos rfl,if_pos (by omega)]
        simp
      · rw [if_neg e,hl j hj]
        simp [Ne.symm e]
    · rcases List.mem_cons.1 hj with rfl | hj
      · exact h1
      · exact hb j hj
    · rw [List.reverse_cons] at hj
      rcases List.eq_nil_or_concat l2 with rfl | ⟨l2',x,rfl⟩
      · have h4:acc.reverse=l1∧i=j:=by
          have:=List.append_inj' hj rfl
          simpa using this
        obtain⟨rfl,rfl⟩:=h4
        simpa using h3 o hoo e he hbd
      · have h4:acc.reverse=l1++j::l2':=by
          have h5:acc.reverse++[i]=(l1++j::l2')++[x]:=by rw [hj];simp
          exact (List.append_inj' h5 rfl).1
        exact ho l1 j l2' h4 o hoo e he hbd
theorem linearise_sched {m:Region.Mode} {ops:Array Oper} {rank:Nat→Nat} (hr:RankOK m ops rank) (t:Nat):Sched ops (Region.linearise m ops t):=by
  have h:=go_sched hr ops.size t (Array.replicate ops.size false) [] (by simp) (fun i hi=>by simp [hi]) List.nodup_nil (by simp) (by simp) (by simp)
  obtain⟨h1,h2,h3,h4⟩:=h
  refine⟨fun i=>⟨h2 i,fun hi=>?_⟩,h1,fun l1 i l2 e o ho ed he hb=>h4 l1 i l2 e o ho ed he (binds_of_any hb)⟩
  refine Classical.byContradiction fun hn=>?_
  have:=nodup_bound ops.size (i::Region.linearise m ops t) (List.nodup_cons.2 ⟨hn,h1⟩) (fun x hx=>by
    rcases List.mem_cons.1 hx with rfl | hx
    · exact hi
    · exact h2 x hx)
  rw [List.length_cons] at this
  have h5:(Region.linearise m ops t).length=ops.size:=h3
  omega
theorem map_congr_arr {α β:Type} {f g:α→β} {l:Array α} (h:∀x,x∈l.toList→f x=g x):l.map f=l.map g:=by
  apply Array.ext'
  simp only [Array.toList_map]
  exact List.map_congr_left h
theorem execOp_congr {ρ ρ':Operand→Value} (o:Oper) (h:∀x,x∈o.op.operands.toList→ρ x=ρ' x):execOp ρ o=execOp ρ' o:=by
  obtain⟨dst,op,ty,pos,after,guard⟩:=o
  have hc:∀(c:Call),(∀x,x∈c.operands.toList→ρ x=ρ' x)→resolve ρ c ty=resolve ρ' c ty:=by
    intro c hc
    have ha:c.args.map ρ=c.args.map ρ':=map_congr_arr fun x hx=>hc x (by unfold Call.operands;simp at hx ⊢;exact .inr hx)
    unfold resolve
    rw [ha]
    cases hce:c.callee with
    | value f=>
      have:ρ f=ρ' f:=hc f (by unfold Call.operands;rw [hce];simp)
      simp [this]
    | invoke r n=>
      have:ρ r=ρ' r:=hc r (by unfold Call.operands;rw [hce];simp)
      simp [this]
    | builtin b=>rfl
  have hopt:∀(x:Option Operand),(∀y,x=some y→ρ y=ρ' y)→x.map ρ=x.map ρ':=by
    intro x hx
    cases x with
    | none=>rfl
    | some y=>simp [hx y rfl]
  cases op<;>simp only [Op.operands] at h<;>unfold execOp<;>dsimp only
  case makeFunc fn first caps=>
    rw [map_congr_arr (l:=first) (fun x hx=>h x (by simp at hx ⊢;exact .inl hx)),map_congr_arr (l:=caps) (fun x hx=>h x (by simp at hx ⊢;exact .inr hx))]
  case build t ps=>
    have:(ps.map fun (i,x)=>(i,ρ x))=(ps.map fun (i,x)=>(i,ρ' x)):=map_congr_arr fun x hx=>by
      have:=h x.2 (by simp at hx ⊢;exact⟨x.1,hx⟩)
      obtain⟨i,y⟩:=x
      simp at this ⊢
      exact this
    rw [this]
  case buildSlice t n ps=>
    have:(ps.map fun (i,x)=>(i,ρ x))=(ps.map fun (i,x)=>(i,ρ' x)):=map_congr_arr fun x hx=>by
      have:=h x.2 (by simp at hx ⊢;exact⟨x.1,hx⟩)
      obtain⟨i,y⟩:=x
      simp at this ⊢
      exact this
    rw [this]
  case slice t x lo hi mx=>
    rw [h x (by simp),hopt lo (fun y hy=>h y (by subst hy;simp)),hopt hi (fun y hy=>h y (by subst hy;simp)),hopt mx (fun y hy=>h y (by subst hy;simp))]
  case makeMap t r=>rw [hopt r (fun y hy=>h y (by subst hy;simp))]
  case call c=>rw [hc c h]
  case go c=>rw [hc c h]
  case defer c=>rw [hc c h]
  case select cs b=>
    have:∀s:SelectCase,s∈cs.toList→(do pure {chan:=ρ s.chan,send:=s.send.map ρ,zero:=←zeroValue s.elem:CommCase}:Sem CommCase)=(do pure {chan:=ρ' s.chan,send:=s.send.map ρ',zero:=←zeroValue s.elem:CommCase}):=by
      intro s hs
      have h1:ρ s.chan=ρ' s.chan:=h _ (by simp at hs ⊢;exact⟨s,hs,.inl rfl⟩)
      have h2:s.send.map ρ=s.send.map ρ':=hopt _ (fun y hy=>h y (by simp at hs ⊢;exact⟨s,hs,.inr hy⟩))
      rw [h1,h2]
    have hm:∀(l:List SelectCase),(∀s∈l,s∈cs.toList)→(l.mapM fun s=>(do pure {chan:=ρ s.chan,send:=s.send.map ρ,zero:=←zeroValue s.elem:CommCase}:Sem CommCase))=(l.mapM fun s=>(do pure {chan:=ρ' s.chan,send:=s.send.map ρ',zero:=←zeroValue s.elem:CommCase}:Sem CommCase)):=by
      intro l
      induction l with
      | nil=>intro _;rfl
      | cons s r ih=>
        intro hl
        rw [List.mapM_cons,List.mapM_cons,this s (hl s (by simp)),ih (fun q hq=>hl q (by simp [hq]))]
    rw [Array.mapM_eq_mapM_toList,Array.mapM_eq_mapM_toList,hm cs.toList (fun s hs=>hs)]
  all_goals first
    | rfl
    | (simp only [h _ (by simp:_∈_)];done)
    | (rw [h _ (by simp)];done)
    | (rw [h _ (by simp),h _ (by simp)];done)
    | skip
  all_goals simp_all
theorem sil2_congr {P:Program} {B:Blks} {ρ ρ':Operand→SV} (op:Op) (h:∀x,x∈op.operands.toList→ρ x=ρ' x):sil2 P B ρ op=sil2 P B ρ' op:=by
  have hopt:∀(x:Option Operand),(∀y,x=some y→ρ y=ρ' y)→x.map ρ=x.map ρ':=by
    intro x hx
    cases x with
    | none=>rfl
    | some y=>simp [hx y rfl]
  cases op<;>simp only [Op.operands] at h<;>unfold sil2<;>(try dsimp only)<;>(try unfold sil)<;>(try dsimp only)
  case build t ps=>
    unfold buildSV
    have:ps.toList.map (fun p=>(p.1,ρ p.2))=ps.toList.map (fun p=>(p.1,ρ' p.2)):=List.map_congr_left fun x hx=>by
      have:=h x.2 (by simp at hx ⊢;exact⟨x.1,hx⟩)
      rw [this]
    rw [this]
  case makeFunc fn first caps=>
    cases fn<;>dsimp only
    rw [List.map_congr_left (l:=first.toList) (fun x hx=>h x (by simp at hx ⊢;exact .inl hx)),List.map_congr_left (l:=caps.toList) (fun x hx=>h x (by simp at hx ⊢;exact .inr hx))]
  case slice t x lo hi mx=>
    rw [h x (by simp),hopt lo (fun y hy=>h y (by subst hy;simp)),hopt hi (fun y hy=>h y (by subst hy;simp)),hopt mx (fun y hy=>h y (by subst hy;simp))]
    cases mx with
    | none=>rfl
    | some y=>
      cases y with
      | const cv=>have:=h (.const cv) (by simp);dsimp only;rw [this]
      | _=>rfl
  case call c=>
    obtain⟨ce,args,ts⟩:=c
    cases ce<;>(try dsimp only)
    rename_i b
    have hargs:args.toList.map ρ=args.toList.map ρ':=List.map_congr_left fun x hx=>h x (by
      unfold Call.operands
      simp at hx ⊢
      exact hx)
    cases b<;>(try dsimp only)
    case max=>rw [hargs]
    case min=>rw [hargs]
    cases hts:ts[0]?<;>(try dsimp only)
    cases ha:args[0]? with
    | none=>rfl
    | some x=>
      dsimp only
      rw [h x (by
        have:=Array.mem_of_getElem? ha
        unfold Call.operands
        simp at this ⊢
        exact this)]
  all_goals first
    | rfl
    | (rw [h _ (by simp)];done)
    | (rw [h _ (by simp),h _ (by simp)];done)
    | skip
  all_goals simp_all
theorem readC_blks {B B':Blks} {p:SV} (h:∀n,n∈svName p→B.get n=B'.get n) (n:Nat):readC B p n=readC B' p n:=by
  unfold readC
  cases p<;>dsimp only
  · rw [h _ (by simp [svName])]
  · rw [h _ (by simp [svName])]
theorem bytesSV_blks {B B':Blks} {p:SV} (h:∀n,n∈svName p→B.get n=B'.get n):bytesSV B p=bytesSV B' p:=by
  unfold bytesSV
  cases p<;>(try dsimp only)
  case mslice c n lo len=>
    have:=h n (by simp [svName])
    cases c<;>(try dsimp only)
    rw [this]
  case cslice k n lo len=>rw [h _ (by simp [svName])]
  case rslice nn c l=>cases c<;>rfl
theorem lookupSV_blks {P:Program} {B B':Blks} {t:TypeId} {p i:SV} {ok:Bool} (h:∀n,n∈svName p→B.get n=B'.get n):lookupSV P B t p i ok=lookupSV P B' t p i ok:=by
  unfold lookupSV
  cases p
  case mmap n=>
    have:=h n (by simp [svName])
    cases i<;>dsimp only
    rw [this]
  all_goals (cases i<;>rfl)
theorem sil2_blks {P:Program} {B B':Blks} {ρ:Operand→SV} (op:Op) (h:∀n,n∈silReads op ρ→B.get n=B'.get n):sil2 P B ρ op=sil2 P B' ρ op:=by
  cases op<;>unfold sil2<;>(try dsimp only)<;>(try unfold sil)<;>(try dsimp only)
  case load t p=>
    unfold loadSV
    rw [readC_blks (B:=B) (B':=B') (fun n hn=>h n (by unfold silReads;exact hn)),readC_blks (B:=B) (B':=B') (fun n hn=>h n (by unfold silReads;exact hn))]
  case convert s d x=>
    have hb:bytesSV B (ρ x)=bytesSV B' (ρ x):=bytesSV_blks (fun n hn=>h n (by unfold silReads;exact hn))
    unfold convSV
    revert hb
    generalize ρ x=y
    intro hb
    cases P.underlying s with
    | none=>rfl
    | some s'=>
      cases P.underlying d with
      | none=>rfl
      | some d'=>
        cases d'
        case int k=>cases y<;>rfl
        case string=>
          cases s'
          case slice e=>
            dsimp only
            rw [hb]
          case string=>cases y<;>rfl
          all_goals rfl
        all_goals rfl
  case makeFunc fn a b=>cases fn<;>rfl
  case lookup t x i ok=>exact lookupSV_blks (fun n hn=>h n (by unfold silReads;exact hn))
  case call c=>
    obtain⟨ce,args,ts⟩:=c
    cases ce<;>(try rfl)
    rename_i b
    cases b<;>rfl
theorem maskOf_bit (acc:List Nat) (o:Oper) (j:Nat) (h:(maskOf acc o).testBit j=true) :
    ∃e,e∈o.after.toList∧Region.binds .any e=true∧(e.on=j∨(acc.getD e.on 0).testBit j=true):=by
  have key:∀(l:List Edge) (s:Nat),(l.foldl (fun s e=>bif Region.binds .any e then s ||| 2 ^ e.on ||| acc.getD e.on 0 else s) s).testBit j=true→
      s.testBit j=true ∨ ∃e,e∈l∧Region.binds .any e=true∧(e.on=j∨(acc.getD e.on 0).testBit j=true):=by
    intro l
    induction l with
    | nil=>intro s hs;exact .inl hs
    | cons e r ih=>
      intro s hs
      rw [List.foldl_cons] at hs
      rcases ih _ hs with h1 | ⟨e',he',hb,hj⟩
      · cases hb:Region.binds .any e
        · rw [hb] at h1;exact .inl h1
        · rw [hb] at h1
          simp only [cond_true,Nat.testBit_or,Bool.or_eq_true] at h1
          rcases h1 with (h1 | h1) | h1
          · exact .inl h1
          · refine .inr ⟨e,by simp,hb,.inl ?_⟩
            rw [Nat.testBit_two_pow] at h1
            exact of_decide_eq_true h1
          · exact .inr ⟨e,by simp,hb,.inr h1⟩
      · exact .inr ⟨e',by simp [he'],hb,hj⟩
  rcases key _ _ h with h1 | h1
  · simp at h1
  · exact h1
theorem befs_append:∀(l:List Oper) (acc:List Nat),∃r,befs acc l=acc++r∧r.length=l.length
  | [],acc=>⟨[],by simp [befs],rfl⟩
  | o::l,acc=>by
    obtain⟨r,h1,h2⟩:=befs_append l (acc++[maskOf acc o])
    exact⟨maskOf acc o::r,by rw [befs,h1];simp,by simp [h2]⟩
theorem befs_get:∀(l:List Oper) (acc:List Nat) (k:Nat) (o:Oper),l[k]?=some o→(befs acc l)[acc.length+k]?=some (maskOf ((befs acc l).take (acc.length+k)) o)
  | [],acc,k,o,h=>by simp at h
  | x::l,acc,0,o,h=>by
    simp at h
    subst h
    obtain⟨r,h1,h2⟩:=befs_append l (acc++[maskOf acc x])
    rw [befs,h1]
    simp
  | x::l,acc,k+1,o,h=>by
    have:=befs_get l (acc++[maskOf acc x]) k o (by simpa using h)
    rw [befs]
    rw [List.length_append] at this
    simp only [List.length_cons,List.length_nil,Nat.zero_add] at this
    rw [show acc.length+(k+1)=acc.length+1+k by omega]
    exact this
structure RegionOK (ops:Array Oper):Prop where
  edge:∀(i:Nat) o,ops[i]?=some o → ∀e,e∈o.after.toList→Region.binds .any e=true→e.on<i
  guard:∀(i:Nat) o j want,ops[i]?=some o→o.guard=some (j,want)→bitB (befs [] ops.toList) i j=true
  self:∀(i:Nat) o d,ops[i]?=some o→o.dst=some d→isS o=true→(tmpsOf o.op).any (Nat.beq d)=false
  other:∀(i j:Nat) o o' d,ops[i]?=some o→ops[j]?=some o'→i≠j→o.dst=some d→namesT ops.toList o' d=true→
    bitB (befs [] ops.toList) j i=true∨(isS o=false∧bitB (befs [] ops.toList) i j=true)
theorem regionOk_sound {ops:Array Oper} (h:regionOk ops.toList (befs [] ops.toList)=true):RegionOK ops:=by
  unfold regionOk at h
  have row:∀(i:Nat) o,ops[i]?=some o→(o,i)∈ops.toList.zipIdx:=by
    intro i o ho
    rw [List.mem_iff_getElem?]
    exact⟨i,by simp [ho]⟩
  have all:=List.all_eq_true.1 h
  refine⟨fun i o ho e he hb=>?_,fun i o j want ho hg=>?_,fun i o d ho hd hs=>?_,fun i j o o' d ho ho' hne hd hn=>?_⟩
  · have:=all _ (row i o ho)
    simp only [Bool.and_eq_true] at this
    have:=List.all_eq_true.1 this.1.1 e he
    rw [hb] at this
    simp only [Bool.not_true,Bool.false_or,Nat.blt_eq] at this
    exact this
  · have:=all _ (row i o ho)
    simp only [Bool.and_eq_true,hg] at this
    exact this.1.2
  · have:=all _ (row i o ho)
    simp only [Bool.and_eq_true,hd,hs] at this
    have:=this.2.1
    simpa using this
  · have:=all _ (row i o ho)
    simp only [Bool.and_eq_true,hd] at this
    have:=List.all_eq_true.1 this.2.2 _ (row j o' ho')
    have hb:Nat.beq i j=false:=by
      cases hb:Nat.beq i j
      · rfl
      · exact absurd (Nat.eq_of_beq_eq_true hb) hne
    simp only [hb,hn,Bool.not_true,Bool.false_or,Bool.or_eq_true,Bool.and_eq_true,Bool.not_eq_true'] at this
    exact this
theorem bit_spec {ops:Array Oper} {i j:Nat} (h:bitB (befs [] ops.toList) i j=true) (hed:∀(i:Nat) o,ops[i]?=some o → ∀e,e∈o.after.toList→Region.binds .any e=true→e.on<i) :
    ∃o e,ops[i]?=some o∧e∈o.after.toList∧Region.binds .any e=true∧(e.on=j∨bitB (befs [] ops.toList) e.on j=true):=by
  unfold bitB at h
  rw [List.getD_eq_getElem?_getD] at h
  have hi:i<ops.size:=by
    rcases Nat.lt_or_ge i ops.size with h1 | h1
    · exact h1
    · obtain⟨r,h2,h3⟩:=befs_append ops.toList []
      rw [List.getElem?_eq_none (by rw [h2];simp [h3];exact h1)] at h
      simp at h
  have ho:ops.toList[i]?=some (ops[i]'hi):=by simp
  have hg:=befs_get ops.toList [] i _ ho
  simp only [List.length_nil,Nat.zero_add] at hg
  rw [hg] at h
  simp only [Option.getD_some] at h
  obtain⟨e,h1,h2,h3⟩:=maskOf_bit _ _ _ h
  refine⟨_,e,by simp,h1,h2,?_⟩
  rcases h3 with h3 | h3
  · exact .inl h3
  · refine .inr ?_
    have hlt:=hed i _ (by simp) e h1 h2
    unfold bitB
    rw [List.getD_eq_getElem?_getD] at h3 ⊢
    rwa [List.getElem?_take_of_lt hlt] at h3
theorem bit_mem {ops:Array Oper} (hR:RegionOK ops) {S:List Nat} (hS:∀(i:Nat) o,i∈S→ops[i]?=some o → ∀e,e∈o.after.toList→Region.binds .any e=true→e.on∈S) :
    ∀(n i:Nat),i≤n→(∀o,ops[i]?=some o → ∀e,e∈o.after.toList→Region.binds .any e=true→e.on∈S) → ∀j,bitB (befs [] ops.toList) i j=true→j∈S∧j<i:=by
  intro n
  induction n with
  | zero=>
    intro i hi hd j hb
    obtain⟨o,e,ho,he,hbd,_⟩:=bit_spec hb hR.edge
    have:=hR.edge i o ho e he hbd
    omega
  | succ n ih=>
    intro i hi hd j hb
    obtain⟨o,e,ho,he,hbd,hj⟩:=bit_spec hb hR.edge
    have hlt:=hR.edge i o ho e he hbd
    have hin:=hd o ho e he hbd
    rcases hj with rfl | hj
    · exact⟨hin,hlt⟩
    · obtain⟨h1,h2⟩:=ih e.on (by omega) (fun o' ho' e' he' hb'=>hS e.on o' hin ho' e' he' hb') j hj
      exact⟨h1,by omega⟩
def wantS (ops:List Oper) (o:Oper) (s:St):Option Bool:=
  match o.guard with
  | none=>some true
  | some (j,want)=>match (ops[j]?).bind (·.dst) with
    | none=>none
    | some d=>match getE s.env d with
      | .bool b=>some (b==want)
      | .tuple _=>some false
      | _=>none
def Good (r:Res) (sv:SV):Prop:=r = .ok sv∨r = .chk true sv ∨ ∃p,r = .asm p sv
structure Pend (P:Program) (ops:Array Oper) (s:St) (rd:List (Nat × List Nat)) (i:Nat) (o:Oper):Prop where
  has:s.has o.dst=true
  ex:(wantS ops.toList o s=some true∧(∃sv,Good (sil2 P s.m.blks s.ev o.op) sv ∧ ∀d,o.dst=some d→getE s.env d=sv)∧(i,silReads o.op s.ev)∈rd)∨
    (wantS ops.toList o s=some false ∧ ∀d,o.dst=some d→getE s.env d = .tuple [])
structure DInv (P:Program) (ops:Array Oper) (F:Fr) (W:Nat→Prop) (g0:Ctx) (s0:St) (a0:Act) (D done:List Nat) (rd:List (Nat × List Nat)) (g:Ctx) (s:St) (a:Act) (w:World):Prop where
  sub:∀i,i∈D→i∈done
  lt:∀i,i∈done→i<ops.size
  nodup:done.Nodup
  sil:∀(i:Nat) o,i∈done→i ∉ D→ops[i]?=some o→isS o=true
  down:∀(i:Nat) o,i∈done→ops[i]?=some o → ∀e,e∈o.after.toList→Region.binds .any e=true→e.on∈done
  le:g0.le g
  upd:Upd s0.m s.m
  same:∀t,¬W t→a.tmps.getD t undef=a0.tmps.getD t undef
  nt:a.tmps.size=s.nt
  defers:a.defers=F.dfs
  mem:Mem F g s.m w
  slots:∀t,(∀(i:Nat) o,i∈done→i ∉ D→ops[i]?=some o→o.dst≠some t)→Rep g (getE s.env t) (a.tmps.getD t undef)
  pend:∀(i:Nat) o,i∈done→i ∉ D→ops[i]?=some o→Pend P ops s rd i o
theorem tmpsOf_mem {op:Op} {t:Nat} (h:Operand.tmp t∈op.operands.toList):(tmpsOf op).any (Nat.beq t)=true:=by
  rw [List.any_eq_true]
  exact⟨t,List.mem_filterMap.2 ⟨_,h,rfl⟩,Nat.beq_refl t⟩
theorem namesT_tmp {ops:List Oper} {o:Oper} {t:Nat} (h:(tmpsOf o.op).any (Nat.beq t)=true):namesT ops o t=true:=by
  simp [namesT,h]
theorem namesT_guard {ops:List Oper} {o:Oper} {t:Nat} (h:guardTmp ops o=some t):namesT ops o t=true:=by
  simp [namesT,h]
theorem namesT_dst {ops:List Oper} {o:Oper} {t:Nat} (h:o.dst=some t):namesT ops o t=true:=by
  simp [namesT,h]
theorem sil_at {P:Program} {F:Fr} {g:Ctx} {s:St} {a:Act} {w:World} (hm:Mem F g s.m w) (o:Oper) (hop:∀t,(tmpsOf o.op).any (Nat.beq t)=true→Rep g (getE s.env t) (a.tmps.getD t undef)) :
    (sil2 P s.m.blks s.ev o.op).NextS P w g (execOp a.eval o):=by
  classical
  let ρ:Operand→SV:=fun x=>if Rep g (s.ev x) (a.eval x) then s.ev x else .undef
  have hρ:∀x,Rep g (ρ x) (a.eval x):=by
    intro x
    by_cases h:Rep g (s.ev x) (a.eval x)
    · simp only [ρ,if_pos h];exact h
    · simp only [ρ,if_neg h];exact .undef _
  have he:sil2 P s.m.blks s.ev o.op=sil2 P s.m.blks ρ o.op:=by
    refine sil2_congr o.op fun x hx=>?_
    have:Rep g (s.ev x) (a.eval x):=by
      cases x with
      | tmp t=>exact hop t (tmpsOf_mem hx)
      | const v=>exact ofVal_rep g v
      | global _=>exact .undef _
      | func f=>exact .fn f [] [] [] [] rfl rfl (fun j sv v a=>by simp at a) (fun j sv v a=>by simp at a)
    simp only [ρ,if_pos this]
  rw [he]
  exact sil2_sound hm.mem hρ o
theorem DInv.virt {P:Program} {ops:Array Oper} (hR:RegionOK ops) {F:Fr} {W:Nat→Prop} {g0:Ctx} {s0:St} {a0:Act} {D done:List Nat} {rd:List (Nat × List Nat)} {g:Ctx} {s:St} {a:Act} {w:World}
    (h:DInv P ops F W g0 s0 a0 D done rd g s a w) :
    ∃a2,Den F g s a2 w ∧ ∀t,(∀(i:Nat) o,i∈done→i ∉ D→ops[i]?=some o→o.dst≠some t)→a2.tmps.getD t undef=a.tmps.getD t undef:=by
  have key:∀n,∃a2:Act,a2.tmps.size=s.nt∧a2.defers=F.dfs∧(∀t,(∀(i:Nat) o,i∈done→i ∉ D→ops[i]?=some o→o.dst≠some t)→a2.tmps.getD t undef=a.tmps.getD t undef)∧
      ∀t,(∀(i:Nat) o,n≤i→i∈done→i ∉ D→ops[i]?=some o→o.dst≠some t)→Rep g (getE s.env t) (a2.tmps.getD t undef):=by
    intro n
    induction n with
    | zero=>exact⟨a,h.nt,h.defers,fun _ _=>rfl,fun t ht=>h.slots t fun i o=>ht i o (Nat.zero_le _)⟩
    | succ n ih=>
      obtain⟨a2,e1,e2,e3,e4⟩:=ih
      by_cases hp:n∈done∧n ∉ D
      · have hn:n<ops.size:=h.lt n hp.1
        obtain⟨o,ho⟩:∃o,ops[n]?=some o:=⟨ops[n],by simp [hn]⟩
        have hs:=h.sil n o hp.1 hp.2 ho
        have hpd:=h.pend n o hp.1 hp.2 ho
        cases hdst:o.dst with
        | none=>exact⟨a2,e1,e2,e3,fun t ht=>e4 t fun i o' hi hd hD ho'=>by
            rcases Nat.eq_or_lt_of_le hi with rfl | hlt
            · rw [ho] at ho';cases ho';rw [hdst];simp
            · exact ht i o' hlt hd hD ho'⟩
        | some d=>
          have hhas:=hpd.has
          rw [hdst] at hhas
          have hdlt:d<a2.tmps.size:=by rw [e1];simpa [St.has] using hhas
          have fin:∀v,Rep g (getE s.env d) v → ∃a3:Act,a3.tmps.size=s.nt∧a3.defers=F.dfs∧(∀t,(∀(i:Nat) o,i∈done→i ∉ D→ops[i]?=some o→o.dst≠some t)→a3.tmps.getD t undef=a.tmps.getD t undef)∧
              ∀t,(∀(i:Nat) o,n+1≤i→i∈done→i ∉ D→ops[i]?=some o→o.dst≠some t)→Rep g (getE s.env t) (a3.tmps.getD t undef):=by
            intro v rv
            refine⟨a2.put (some d) v,by simp [Act.put,e1],e2,fun t ht=>?_,fun t ht=>?_⟩
            · rw [put_getD hdlt,if_neg]
              · exact e3 t ht
              · intro e;subst e;exact ht n o hp.1 hp.2 ho hdst
            · rw [put_getD hdlt]
              by_cases e:t=d
              · subst e;rw [if_pos rfl];exact rv
              · rw [if_neg e]
                refine e4 t fun i o' hi hd hD ho'=>?_
                rcases Nat.eq_or_lt_of_le hi with rfl | hlt
                · rw [ho] at ho';cases ho';rw [hdst];simpa using fun e'=>e e'.symm
                · exact ht i o' hlt hd hD ho'
          rcases hpd.ex with ⟨_,⟨sv,hg,hsv⟩,_⟩ | ⟨_,hu⟩
          · have hrun:=sil_at (P:=P) (a:=a2) h.mem o (fun t ht=>e4 t fun i o' hi hd hD ho' hc=>by
              by_cases e:i=n
              · subst e
                rw [ho] at ho';cases ho'
                have:=hR.self i o t ho hc hs
                rw [ht] at this;cases this
              · rcases hR.other i n o' o t ho' ho e hc (namesT_tmp ht) with h1 | ⟨h1,_⟩
                · have:=(bit_mem hR (S:=done) (fun i o=>h.down i o) n n (Nat.le_refl _) (fun o' ho' e' he' hb'=>h.down n o' hp.1 ho' e' he' hb') i h1).2
                  omega
                · rw [h.sil i o' hd hD ho'] at h1;cases h1)
            rcases hg with hg | hg | ⟨p,hg⟩<;>rw [hg] at hrun
            · obtain⟨v,_,rv⟩:=hrun;exact fin v (by rw [hsv d hdst];exact rv)
            · obtain⟨v,_,rv⟩:=hrun rfl;exact fin v (by rw [hsv d hdst];exact rv)
            · obtain⟨_,v,_,rv⟩:=hrun;exact fin v (by rw [hsv d hdst];exact rv)
          · exact fin undef (by rw [hu d hdst];exact (.tuple [] [] rfl (fun j sv v a=>by simp at a)))
      · exact⟨a2,e1,e2,e3,fun t ht=>e4 t fun i o hi hd hD ho=>by
          rcases Nat.eq_or_lt_of_le hi with rfl | hlt
          · exact absurd ⟨hd,hD⟩ hp
          · exact ht i o hlt hd hD ho⟩
  obtain⟨a2,e1,e2,e3,e4⟩:=key ops.size
  exact⟨a2,⟨fun t=>e4 t fun i o hi hd=>absurd (h.lt i hd) (by omega),e1,e2,h.mem⟩,e3⟩
theorem ev_eq {s s':St} (h:∀t,getE s'.env t=getE s.env t):s'.ev=s.ev:=by
  funext x
  cases x<;>first | rfl | exact h _
theorem known_env {s:St} {d:Nat} {v:SV} (h:getE s.env d=v):∀t,getE (s.put (some d) v).env t=getE s.env t:=by
  intro t
  simp only [St.put]
  by_cases e:t=d
  · subst e;rw [getE_put_same,h]
  · rw [getE_put_other _ _ e]
theorem wantS_congr {ops:List Oper} {o:Oper} {s s':St} (h:∀d,guardTmp ops o=some d→getE s'.env d=getE s.env d):wantS ops o s'=wantS ops o s:=by
  unfold wantS
  cases hg:o.guard with
  | none=>rfl
  | some x=>
    obtain⟨j,want⟩:=x
    dsimp only
    cases hd:(ops[j]?).bind (·.dst) with
    | none=>rfl
    | some d=>
      dsimp only
      rw [h d (by unfold guardTmp;rw [hg];exact hd)]
theorem DInv.known {P:Program} {ops:Array Oper} {F:Fr} {W:Nat→Prop} {g0:Ctx} {s0:St} {a0:Act} {D done:List Nat} {rd:List (Nat × List Nat)} {g:Ctx} {s:St} {a:Act} {w:World}
    (h:DInv P ops F W g0 s0 a0 D done rd g s a w) {d:Nat} {v:SV} (hv:getE s.env d=v):DInv P ops F W g0 s0 a0 D done rd g (s.put (some d) v) a w:=by
  have he:=known_env hv
  have hev:=ev_eq he
  refine⟨h.sub,h.lt,h.nodup,h.sil,h.down,h.le,h.upd,h.same,h.nt,h.defers,h.mem,fun t ht=>by rw [he];exact h.slots t ht,fun i o h1 h2 h3=>?_⟩
  have hp:=h.pend i o h1 h2 h3
  refine⟨hp.has,?_⟩
  rw [wantS_congr (s:=s) (fun d _=>he d),hev]
  rcases hp.ex with ⟨a1,⟨sv,a2,a3⟩,a4⟩ | ⟨a1,a2⟩
  · exact .inl ⟨a1,⟨sv,a2,fun d hd=>by rw [he];exact a3 d hd⟩,a4⟩
  · exact .inr ⟨a1,fun d hd=>by rw [he];exact a2 d hd⟩
theorem put_env_other {s:St} {dst:Option Nat} {v:SV} {t:Nat} (h:∀d,dst=some d→t≠d):getE (s.put dst v).env t=getE s.env t:=by
  cases dst with
  | none=>rfl
  | some d=>simp only [St.put];rw [getE_put_other _ _ (h d rfl)]
theorem put_m (s:St) (dst:Option Nat) (v:SV):(s.put dst v).m=s.m:=by cases dst<;>rfl
theorem put_nt (s:St) (dst:Option Nat) (v:SV):(s.put dst v).nt=s.nt:=by cases dst<;>rfl
theorem put_has (s:St) (dst dst':Option Nat) (v:SV):(s.put dst v).has dst'=s.has dst':=by cases dst<;>cases dst'<;>rfl
theorem ev_put_op {s:St} {dst:Option Nat} {v:SV} {op:Op} (h:∀d,dst=some d→(tmpsOf op).any (Nat.beq d)=false):∀x,x∈op.operands.toList→(s.put dst v).ev x=s.ev x:=by
  intro x hx
  cases x with
  | tmp t=>
    exact put_env_other fun d hd e=>by
      subst e
      have:=h _ hd
      rw [tmpsOf_mem hx] at this
      cases this
  | _=>rfl
theorem silReads_congr {op:Op} {ρ ρ':Operand→SV} (h:∀x,x∈op.operands.toList→ρ x=ρ' x):silReads op ρ=silReads op ρ':=by
  cases op<;>simp only [silReads,Op.operands] at h ⊢
  all_goals rw [h _ (by simp)]
theorem Pend.put {P:Program} {ops:Array Oper} {s:St} {rd rd':List (Nat × List Nat)} {i:Nat} {o:Oper} (h:Pend P ops s rd i o) {dst:Option Nat} {v:SV}
    (hn:∀d,dst=some d→namesT ops.toList o d=false) (hrd:∀x,x∈rd→x∈rd'):Pend P ops (s.put dst v) rd' i o:=by
  have h1:∀d,dst=some d→(tmpsOf o.op).any (Nat.beq d)=false:=fun d hd=>by
    have:=hn d hd
    simp only [namesT,Bool.or_eq_false_iff] at this
    exact this.1.1
  have h2:∀x,x∈o.op.operands.toList→(s.put dst v).ev x=s.ev x:=ev_put_op h1
  have h3:wantS ops.toList o (s.put dst v)=wantS ops.toList o s:=wantS_congr fun d hd=>put_env_other fun d' hd' e=>by
    subst e
    have:=hn _ hd'
    rw [namesT_guard hd] at this
    cases this
  have h4:∀d,o.dst=some d→getE (s.put dst v).env d=getE s.env d:=fun d hd=>put_env_other fun d' hd' e=>by
    subst e
    have:=hn _ hd'
    rw [namesT_dst hd] at this
    cases this
  refine⟨by rw [put_has];exact h.has,?_⟩
  rw [h3,put_m,sil2_congr o.op h2,silReads_congr h2]
  rcases h.ex with ⟨a1,⟨sv,a2,a3⟩,a4⟩ | ⟨a1,a2⟩
  · exact .inl ⟨a1,⟨sv,a2,fun d hd=>by rw [h4 d hd];exact a3 d hd⟩,hrd _ a4⟩
  · exact .inr ⟨a1,fun d hd=>by rw [h4 d hd];exact a2 d hd⟩
theorem DInv.more {P:Program} {ops:Array Oper} (hR:RegionOK ops) {F:Fr} {W:Nat→Prop} {g0:Ctx} {s0:St} {a0:Act} {D done:List Nat} {rd:List (Nat × List Nat)} {g:Ctx} {s:St} {a:Act} {w:World}
    (h:DInv P ops F W g0 s0 a0 D done rd g s a w) {i:Nat} {o:Oper} (ho:ops[i]?=some o) (hni:i ∉ done) (hs:isS o=true) (hdeps:∀e,e∈o.after.toList→Region.binds .any e=true→e.on∈done)
    {v:SV} {rd':List (Nat × List Nat)} (hrd:∀x,x∈rd→x∈rd') (hp:Pend P ops (s.put o.dst v) rd' i o):DInv P ops F W g0 s0 a0 D (i::done) rd' g (s.put o.dst v) a w:=by
  have hlt:i<ops.size:=(Array.getElem?_eq_some_iff.1 ho).1
  refine⟨fun j hj=>List.mem_cons_of_mem _ (h.sub j hj),fun j hj=>?_,List.nodup_cons.2 ⟨hni,h.nodup⟩,fun j o' hj hjD ho'=>?_,fun j o' hj ho' e he hb=>?_,h.le,by rw [put_m];exact h.upd,h.same,
    by rw [put_nt];exact h.nt,h.defers,by rw [put_m];exact h.mem,fun t ht=>?_,fun j o' hj hjD ho'=>?_⟩
  · rcases List.mem_cons.1 hj with rfl | hj
    · exact hlt
    · exact h.lt j hj
  · rcases List.mem_cons.1 hj with rfl | hj
    · rw [ho] at ho';cases ho';exact hs
    · exact h.sil j o' hj hjD ho'
  · rcases List.mem_cons.1 hj with rfl | hj
    · rw [ho] at ho';cases ho';exact List.mem_cons_of_mem _ (hdeps e he hb)
    · exact List.mem_cons_of_mem _ (h.down j o' hj ho' e he hb)
  · have hiD:i ∉ D:=fun hc=>hni (h.sub i hc)
    have hne:∀d,o.dst=some d→t≠d:=fun d hd e=>by subst e;exact ht i o (by simp) hiD ho hd
    rw [put_env_other hne]
    exact h.slots t fun j o' hj hjD ho'=>ht j o' (List.mem_cons_of_mem _ hj) hjD ho'
  · rcases List.mem_cons.1 hj with rfl | hj
    · rw [ho] at ho';cases ho';exact hp
    · refine (h.pend j o' hj hjD ho').put (fun d hd=>?_) hrd
      cases hn:namesT ops.toList o' d
      · rfl
      · have hne:i≠j:=fun e=>hni (e ▸ hj)
        rcases hR.other i j o o' d ho ho' hne hd hn with h1 | ⟨h1,_⟩
        · exact absurd (bit_mem hR (S:=done) (fun i o=>h.down i o) j j (Nat.le_refl _) (fun o2 ho2 e' he' hb'=>h.down j o2 hj ho2 e' he' hb') i h1).1 hni
        · rw [hs] at h1;cases h1
def ClosedL (ops:List (Oper × Nat)) (done:List Nat):Prop:=
  ∀x,x∈ops→isS x.1=true→(∀e,e∈x.1.after.toList→Region.binds .any e=true→e.on∈done)→x.2∈done
theorem any_beq {l:List Nat} {i:Nat}:l.any (Nat.beq i)=true↔i∈l:=by
  rw [List.any_eq_true]
  constructor
  · rintro ⟨x,hx,hb⟩
    have:=Nat.eq_of_beq_eq_true hb
    subst this
    exact hx
  · exact fun h=>⟨i,h,Nat.beq_refl i⟩
theorem ready_iff {o:Oper} {done:List Nat}:ready o done=true ↔ ∀e,e∈o.after.toList→Region.binds .any e=true→e.on∈done:=by
  unfold ready
  rw [List.all_eq_true]
  constructor
  · intro h e he hb
    have:=h e he
    rw [hb] at this
    simpa [any_beq] using this
  · intro h e he
    cases hb:Region.binds .any e
    · rfl
    · have:=h e he hb
      simp only [Bool.not_true,Bool.false_or]
      exact any_beq.2 this
theorem evClose_sound {E:Envr} {ops:Array Oper} (hR:RegionOK ops) {F:Fr} {W:Nat→Prop} {g0:Ctx} {s0:St} {a0:Act} {D:List Nat} {g:Ctx} {a:Act} {w:World} {k:List Nat→List (Nat × List Nat)→St→Prop} :
    ∀(l:List (Oper × Nat)) (lo:Nat),(∀x,x∈l→ops[x.2]?=some x.1∧lo≤x.2)→l.Pairwise (fun x y=>x.2<y.2) → ∀ {done rd s},DInv E.P ops F W g0 s0 a0 D done rd g s a w→evClose E ops.toList l done rd k s→
      ∃done' rd' s',k done' rd' s'∧DInv E.P ops F W g0 s0 a0 D done' rd' g s' a w∧(∀j,j∈done→j∈done')∧(∀j,j∈done'→j∈done∨lo≤j)∧ClosedL l done'
  | [],lo,_,_,done,rd,s,hi,h=>⟨done,rd,s,h,hi,fun _ h=>h,fun _ h=>.inl h,fun x hx=>by cases hx⟩
  | (o,i)::r,lo,hl,hpw,done,rd,s,hi,h=>by
    obtain⟨ho,hlo⟩:=hl (o,i) (by simp)
    rw [List.pairwise_cons] at hpw
    have hr:∀x,x∈r→ops[x.2]?=some x.1∧i+1≤x.2:=fun x hx=>⟨(hl x (by simp [hx])).1,hpw.1 x hx⟩
    have rest:∀ {done1 rd1 s1},DInv E.P ops F W g0 s0 a0 D done1 rd1 g s1 a w→(∀j,j∈done→j∈done1)→(∀j,j∈done1→j∈done∨j=i)→
        (isS o=true→(∀e,e∈o.after.toList→Region.binds .any e=true→e.on∈done)→i∈done1)→evClose E ops.toList r done1 rd1 k s1→
        ∃done' rd' s',k done' rd' s'∧DInv E.P ops F W g0 s0 a0 D done' rd' g s' a w∧(∀j,j∈done→j∈done')∧(∀j,j∈done'→j∈done∨lo≤j)∧ClosedL ((o,i)::r) done':=by
      intro done1 rd1 s1 hi1 hsub hback hthis h1
      obtain⟨done',rd',s',k1,k2,k3,k4,k5⟩:=evClose_sound hR r (i+1) hr hpw.2 hi1 h1
      refine⟨done',rd',s',k1,k2,fun j hj=>k3 j (hsub j hj),fun j hj=>?_,fun x hx hs hd=>?_⟩
      · rcases k4 j hj with h2 | h2
        · rcases hback j h2 with h3 | h3
          · exact .inl h3
          · exact .inr (by omega)
        · exact .inr (by omega)
      · rcases List.mem_cons.1 hx with rfl | hx
        · refine k3 i (hthis hs fun e he hb=>?_)
          have h2:=hd e he hb
          have h3:=hR.edge i o ho e he hb
          rcases k4 _ h2 with h4 | h4
          · rcases hback _ h4 with h5 | h5
            · exact h5
            · omega
          · omega
        · exact k5 x hx hs hd
    unfold evClose at h
    cases hc:(isS o && !(done.any (Nat.beq i))&&ready o done)
    · rw [hc] at h
      refine rest hi (fun _ h=>h) (fun _ h=>.inl h) (fun hs hd=>?_) h
      rw [hs,(ready_iff).2 hd] at hc
      simp only [Bool.true_and,Bool.and_true,Bool.not_eq_false'] at hc
      exact any_beq.1 hc
    · rw [hc] at h
      simp only [cond_true] at h
      simp only [Bool.and_eq_true,Bool.not_eq_true'] at hc
      obtain⟨⟨hs,hnd⟩,hrdy⟩:=hc
      have hni:i ∉ done:=fun hc=>by rw [any_beq.2 hc] at hnd;cases hnd
      have hdeps:=ready_iff.1 hrdy
      cases hhas:s.has o.dst
      · rw [hhas] at h;cases h
      rw [hhas] at h
      simp only [Bool.not_true,cond_false] at h
      have hself:∀d,o.dst=some d→(tmpsOf o.op).any (Nat.beq d)=false:=fun d hd=>hR.self i o d ho hd hs
      have hg0:∀(s1:St) (v:SV) d,guardTmp ops.toList o=some d→getE (s1.put o.dst v).env d=getE s1.env d:=by
        intro s1 v d hd
        refine put_env_other fun d' hd' e=>?_
        subst e
        unfold guardTmp at hd
        cases hgd:o.guard with
        | none=>rw [hgd] at hd;cases hd
        | some x=>
          obtain⟨j,want⟩:=x
          rw [hgd] at hd
          dsimp only at hd
          obtain⟨oj,hoj,hdj⟩:=Option.bind_eq_some_iff.1 hd
          have hbit:=hR.guard i o j want ho hgd
          have hjlt:=(bit_mem hR (S:=done) (fun i o=>hi.down i o) i i (Nat.le_refl _) (fun o2 ho2 e' he' hb'=>by rw [ho] at ho2;cases ho2;exact hdeps e' he' hb') j hbit).2
          have hoj':ops[j]?=some oj:=by simpa using hoj
          rcases hR.other i j o oj d ho hoj' (by omega) hd' (namesT_dst hdj) with h3 | ⟨h3,_⟩
          · have:=(bit_mem hR (S:=List.range j) (fun i o h1 h2 e h3 h4=>by have:=hR.edge i o h2 e h3 h4;simp at h1 ⊢;omega) j j (Nat.le_refl _) (fun o2 ho2 e' he' hb'=>by have:=hR.edge j o2 ho2 e' he' hb';simp;omega) i h3).2
            omega
          · rw [hs] at h3;cases h3
      have yes:∀s1,(∀t,getE s1.env t=getE s.env t)→s1.m=s.m→s1.nt=s.nt→DInv E.P ops F W g0 s0 a0 D done rd g s1 a w→wantS ops.toList o s1=some true→
          (sil2 E.P s1.m.blks s1.ev o.op).K0 E.facts o.pos (fun v=>evClose E ops.toList r (i::done) ((i,silReads o.op s1.ev)::rd) k (s1.put o.dst v))→
          ∃done' rd' s',k done' rd' s'∧DInv E.P ops F W g0 s0 a0 D done' rd' g s' a w∧(∀j,j∈done→j∈done')∧(∀j,j∈done'→j∈done∨lo≤j)∧ClosedL ((o,i)::r) done':=by
        intro s1 he hme hnt hi1 hwant h1
        have fin:∀v,Good (sil2 E.P s1.m.blks s1.ev o.op) v→evClose E ops.toList r (i::done) ((i,silReads o.op s1.ev)::rd) k (s1.put o.dst v)→
            ∃done' rd' s',k done' rd' s'∧DInv E.P ops F W g0 s0 a0 D done' rd' g s' a w∧(∀j,j∈done→j∈done')∧(∀j,j∈done'→j∈done∨lo≤j)∧ClosedL ((o,i)::r) done':=by
          intro v hgood h2
          have hev:∀x,x∈o.op.operands.toList→(s1.put o.dst v).ev x=s1.ev x:=ev_put_op hself
          have hpend:Pend E.P ops (s1.put o.dst v) ((i,silReads o.op s1.ev)::rd) i o:=by
            refine⟨by rw [put_has];cases hdst:o.dst with
              | none=>rfl
              | some d=>rw [hdst] at hhas;simp only [St.has] at hhas ⊢;rw [hnt];exact hhas,.inl ⟨by rw [wantS_congr (hg0 s1 v)];exact hwant,⟨v,?_,fun d hd=>?_⟩,?_⟩⟩
            · rw [put_m,sil2_congr o.op hev];exact hgood
            · rw [hd];simp only [St.put];rw [getE_put_same]
            · rw [silReads_congr hev];simp
          exact rest (hi1.more hR ho hni hs hdeps (fun x hx=>List.mem_cons_of_mem _ hx) hpend) (fun j hj=>List.mem_cons_of_mem _ hj)
            (fun j hj=>by rcases List.mem_cons.1 hj with h3 | h3;exact .inr h3;exact .inl h3) (fun _ _=>by simp) h2
        cases hres:sil2 E.P s1.m.blks s1.ev o.op with
        | bad=>rw [hres] at h1;cases h1
        | ok v=>rw [hres] at h1 fin;exact fin v (.inl rfl) h1
        | chk b v=>
          rw [hres] at h1 fin
          cases b with
          | true=>exact fin v (.inr (.inl rfl)) h1
          | false=>cases h1
        | asm p v=>
          rw [hres] at h1 fin
          simp only [Res.K0,Res.K] at h1
          cases hf:E.facts
          · rw [hf] at h1;exact fin v (.inr (.inr ⟨p,rfl⟩)) h1
          · rw [hf] at h1
            obtain⟨a2,hden,_⟩:=hi1.virt hR
            have:=sil_at (P:=E.P) (a:=a2) hden.mem o (fun t _=>hden.env t)
            rw [hres] at this
            exact fin v (.inr (.inr ⟨p,rfl⟩)) (h1 this.1)
        | anyB q f=>rw [hres] at h1;cases h1
      have no:∀s1,(∀t,getE s1.env t=getE s.env t)→s1.nt=s.nt→DInv E.P ops F W g0 s0 a0 D done rd g s1 a w→wantS ops.toList o s1=some false→evClose E ops.toList r (i::done) rd k (s1.put o.dst (.tuple []))→
          ∃done' rd' s',k done' rd' s'∧DInv E.P ops F W g0 s0 a0 D done' rd' g s' a w∧(∀j,j∈done→j∈done')∧(∀j,j∈done'→j∈done∨lo≤j)∧ClosedL ((o,i)::r) done':=by
        intro s1 he hnt hi1 hwant h1
        have hpend:Pend E.P ops (s1.put o.dst (.tuple [])) rd i o:=by
          refine⟨by rw [put_has];cases hdst:o.dst with
            | none=>rfl
            | some d=>rw [hdst] at hhas;simp only [St.has] at hhas ⊢;rw [hnt];exact hhas,.inr ⟨by rw [wantS_congr (hg0 s1 (.tuple []))];exact hwant,fun d hd=>?_⟩⟩
          rw [hd];simp only [St.put];rw [getE_put_same]
        exact rest (hi1.more hR ho hni hs hdeps (fun x hx=>hx) hpend) (fun j hj=>List.mem_cons_of_mem _ hj)
          (fun j hj=>by rcases List.mem_cons.1 hj with h3 | h3;exact .inr h3;exact .inl h3) (fun _ _=>by simp) h1
      unfold evGuardL at h
      split at h
      · rename_i hgd
        exact yes s (fun _=>rfl) rfl rfl hi (by simp [wantS,hgd]) h
      · rename_i j want hgd
        split at h
        · cases h
        · rename_i d hdst
          split at h
          · rename_i b hb
            have hw:wantS ops.toList o s=some (b==want):=by unfold wantS;rw [hgd];dsimp only;rw [hdst];dsimp only;rw [hb]
            have hk:=known_env hb
            have hw':wantS ops.toList o (s.put (some d) (.bool b))=some (b==want):=by rw [wantS_congr (s:=s) (fun d' _=>hk d')];exact hw
            have hi':=hi.known hb
            cases b<;>cases want
            · exact yes _ hk rfl rfl hi' hw' h
            · exact no _ hk rfl hi' hw' h
            · exact no _ hk rfl hi' hw' h
            · exact yes _ hk rfl rfl hi' hw' h
          · rename_i vs hb
            have hw:wantS ops.toList o s=some false:=by unfold wantS;rw [hgd];dsimp only;rw [hdst];dsimp only;rw [hb]
            exact no s (fun _=>rfl) rfl hi hw h
          · cases h
theorem allP_mem {α:Type} {p:α→Prop}:∀ {l:List α},allP p l → ∀x,x∈l→p x
  | [],_,x,hx=>by cases hx
  | [y],h,x,hx=>by
    rcases List.mem_singleton.1 hx with rfl
    exact h
  | y::z::r,h,x,hx=>by
    rcases List.mem_cons.1 hx with rfl | hx
    · exact h.1
    · exact allP_mem h.2 x hx
theorem Mem.relog {F:Fr} {g:Ctx} {m:MS} {w:World} (h:Mem F g m w) (l:List Nat):Mem F g {m with log:=l} w:=⟨h.mem,h.next,h.own,h.ext,h.fix⟩
theorem svName_lt {g:Ctx} {x:SV} {v:Value} (r:Rep g x v) {n:Nat} (h:n∈svName x):n<g.β.length:=by
  cases r<;>simp [svName] at h
  all_goals subst h
  all_goals exact (List.getElem?_eq_some_iff.1 ‹_›).1
theorem silReads_lt {g:Ctx} {op:Op} {ρ:Operand→SV} {ev:Operand→Value} (hρ:∀x,Rep g (ρ x) (ev x)) {n:Nat} (h:n∈silReads op ρ):n<g.β.length:=by
  cases op<;>simp only [silReads] at h
  all_goals first
    | exact svName_lt (hρ _) h
    | (cases h)
theorem wanted_of {ops:Array Oper} {o:Oper} {g:Ctx} {s:St} {a:Act} (hg:∀d,guardTmp ops.toList o=some d→Rep g (getE s.env d) (a.tmps.getD d undef)) {b:Bool} (h:wantS ops.toList o s=some b) :
    Region.wanted o (yielded ops a.tmps)=b:=by
  unfold wantS at h
  split at h
  · rename_i hgd
    cases h
    simp [Region.wanted,hgd]
  · rename_i j want hgd
    split at h
    · cases h
    · rename_i d hd
      split at h
      · rename_i c hc
        cases h
        have r:=hg d (by unfold guardTmp;rw [hgd];exact hd)
        rw [hc,Array.getD_eq_getD_getElem?] at r
        have hv:a.tmps[d]?=some (.bool c):=by
          cases hx:a.tmps[d]? with
          | none=>rw [hx] at r;cases r
          | some v=>rw [hx] at r;cases r;rfl
        have hd':(ops[j]?).bind (·.dst)=some d:=by simpa using hd
        simp only [Region.wanted,hgd,yielded,hd',Option.bind_some,hv]
        cases c<;>cases want<;>rfl
      · rename_i vs hc
        cases h
        have r:=hg d (by unfold guardTmp;rw [hgd];exact hd)
        rw [hc,Array.getD_eq_getD_getElem?] at r
        have hd':(ops[j]?).bind (·.dst)=some d:=by simpa using hd
        cases hx:a.tmps[d]? with
        | none=>simp [Region.wanted,hgd,yielded,hd',hx]
        | some v=>
          rw [hx] at r
          cases r
          simp [Region.wanted,hgd,yielded,hd',hx]
      · cases h
theorem DInv.exec {P:Program} {ops:Array Oper} {F:Fr} {W:Nat→Prop} {g0:Ctx} {s0:St} {a0:Act} {D done:List Nat} {rd:List (Nat × List Nat)} {g:Ctx} {s:St} {a:Act} {w:World}
    (h:DInv P ops F W g0 s0 a0 D done rd g s a w) {x:Nat} {o:Oper} (ho:ops[x]?=some o) (hx:x∈done) (hW:∀d,o.dst=some d→W d) (hhas:s.has o.dst=true) {v:Value} (hv:∀d,o.dst=some d→Rep g (getE s.env d) v) :
    DInv P ops F W g0 s0 a0 (D++[x]) done rd g s (a.put o.dst v) w:=by
  have hdlt:∀d,o.dst=some d→d<a.tmps.size:=fun d hd=>by rw [h.nt];rw [hd] at hhas;simpa [St.has] using hhas
  have hother:∀t,(∀d,o.dst=some d→t≠d)→(a.put o.dst v).tmps.getD t undef=a.tmps.getD t undef:=by
    intro t ht
    cases hd:o.dst with
    | none=>rfl
    | some d=>rw [put_getD (hdlt d hd),if_neg (ht d hd)]
  refine⟨fun i hi=>?_,h.lt,h.nodup,fun i o' h1 h2 h3=>h.sil i o' h1 (fun hc=>h2 (List.mem_append_left _ hc)) h3,h.down,h.le,h.upd,fun t ht=>?_,?_,?_,h.mem,fun t ht=>?_,
    fun i o' h1 h2 h3=>h.pend i o' h1 (fun hc=>h2 (List.mem_append_left _ hc)) h3⟩
  · rcases List.mem_append.1 hi with hi | hi
    · exact h.sub i hi
    · rcases List.mem_singleton.1 hi with rfl;exact hx
  · rw [hother t (fun d hd e=>by subst e;exact ht (hW _ hd))]
    exact h.same t ht
  · cases hd:o.dst<;>simp [Act.put,h.nt]
  · cases hd:o.dst<;>exact h.defers
  · by_cases e:o.dst=some t
    · rw [e,put_getD (hdlt t e),if_pos rfl]
      exact hv t e
    · rw [hother t (fun d hd e'=>by subst e';exact e hd)]
      refine h.slots t fun i o' h1 h2 h3 h4=>?_
      by_cases ei:i=x
      · subst ei
        rw [ho] at h3;cases h3
        exact e h4
      · exact ht i o' h1 (fun hc=>by
          rcases List.mem_append.1 hc with hc | hc
          · exact h2 hc
          · exact ei (List.mem_singleton.1 hc)) h3 h4
theorem DInv.loud {P:Program} {ops:Array Oper} (hR:RegionOK ops) {F:Fr} {W:Nat→Prop} {g0:Ctx} {s0:St} {a0:Act} {D done:List Nat} {rd:List (Nat × List Nat)} {g:Ctx} {s:St} {a:Act} {w:World}
    (h:DInv P ops F W g0 s0 a0 D done rd g s a w) (hDdown:∀(i:Nat) o,i∈D→ops[i]?=some o → ∀e,e∈o.after.toList→Region.binds .any e=true→e.on∈D)
    {x:Nat} {o:Oper} (ho:ops[x]?=some o) (hx:x ∉ done) (hdeps:∀e,e∈o.after.toList→Region.binds .any e=true→e.on∈D) (hW:∀d,o.dst=some d→W d) (hhas:s.has o.dst=true)
    {g':Ctx} {m':MS} {sv:SV} {v:Value} {w':World} (hle:g.le g') (hupd:Upd {s.m with log:=[]} m') (hm:Mem F g' m' w') (hv:Rep g' sv v)
    (hrd:∀y,y∈rd→bitB (befs [] ops.toList) x y.1=true ∨ ∀q,q∈y.2→q ∉ m'.log) :
    DInv P ops F W g0 s0 a0 (D++[x]) (x::done) rd g' ({s with m:={m' with log:=m'.log++s.m.log}}.put o.dst sv) (a.put o.dst v) w':=by
  have hlt:x<ops.size:=(Array.getElem?_eq_some_iff.1 ho).1
  have hdlt:∀d,o.dst=some d→d<a.tmps.size:=fun d hd=>by rw [h.nt];rw [hd] at hhas;simpa [St.has] using hhas
  have hother:∀t,(∀d,o.dst=some d→t≠d)→(a.put o.dst v).tmps.getD t undef=a.tmps.getD t undef:=by
    intro t ht
    cases hd:o.dst with
    | none=>rfl
    | some d=>rw [put_getD (hdlt d hd),if_neg (ht d hd)]
  have hbitD:∀j,bitB (befs [] ops.toList) x j=true→j∈D:=fun j hj=>(bit_mem hR hDdown x x (Nat.le_refl _) (fun o2 ho2 e he hb=>by rw [ho] at ho2;cases ho2;exact hdeps e he hb) j hj).1
  have hpendD:∀i,i∈x::done→i ∉ D++[x]→i∈done∧i ∉ D:=by
    intro i h1 h2
    rcases List.mem_cons.1 h1 with rfl | h1
    · exact absurd (List.mem_append_right _ (by simp)) h2
    · exact⟨h1,fun hc=>h2 (List.mem_append_left _ hc)⟩
  obtain⟨a2,hden,_⟩:=h.virt hR
  refine⟨fun i hi=>?_,fun i hi=>?_,List.nodup_cons.2 ⟨hx,h.nodup⟩,fun i o' h1 h2 h3=>h.sil i o' (hpendD i h1 h2).1 (hpendD i h1 h2).2 h3,fun i o' h1 h3 e he hb=>?_,h.le.trans hle,?_,fun t ht=>?_,?_,?_,
    by rw [put_m];exact hm.relog _,fun t ht=>?_,fun i o' h1 h2 h3=>?_⟩
  · rcases List.mem_append.1 hi with hi | hi
    · exact List.mem_cons_of_mem _ (h.sub i hi)
    · rcases List.mem_singleton.1 hi with rfl;simp
  · rcases List.mem_cons.1 hi with rfl | hi
    · exact hlt
    · exact h.lt i hi
  · rcases List.mem_cons.1 h1 with rfl | h1
    · rw [ho] at h3;cases h3
      exact List.mem_cons_of_mem _ (h.sub _ (hdeps e he hb))
    · exact List.mem_cons_of_mem _ (h.down i o' h1 h3 e he hb)
  · rw [put_m]
    refine h.upd.trans ?_
    obtain⟨⟨new,e1,e2⟩,e3⟩:=hupd
    simp only [List.append_nil] at e1
    exact⟨⟨new,by simp only [e1],e2⟩,e3⟩
  · rw [hother t (fun d hd e=>by subst e;exact ht (hW _ hd))]
    exact h.same t ht
  · rw [put_nt]
    cases hd:o.dst<;>simp [Act.put,h.nt]
  · cases hd:o.dst<;>exact h.defers
  · by_cases e:o.dst=some t
    · rw [e,put_getD (hdlt t e),if_pos rfl]
      simp only [St.put]
      rw [getE_put_same]
      exact hv
    · have hne:∀d,o.dst=some d→t≠d:=fun d hd e'=>by subst e';exact e hd
      rw [hother t hne,put_env_other hne]
      refine (h.slots t fun i o' h1 h2 h3 h4=>ht i o' (List.mem_cons_of_mem _ h1) (fun hc=>?_) h3 h4).mono hle
      rcases List.mem_append.1 hc with hc | hc
      · exact h2 hc
      · rcases List.mem_singleton.1 hc with rfl;exact hx h1
  · obtain⟨hid,hiD⟩:=hpendD i h1 h2
    have hne:x≠i:=fun e=>hx (e ▸ hid)
    have hp:=h.pend i o' hid hiD h3
    have hp1:Pend P ops {s with m:={m' with log:=m'.log++s.m.log}} rd i o':=by
      refine⟨hp.has,?_⟩
      rcases hp.ex with ⟨a1,⟨sv',b1,b2⟩,b3⟩ | hno
      · refine .inl ⟨a1,⟨sv',?_,b2⟩,b3⟩
        have:sil2 P m'.blks s.ev o'.op=sil2 P s.m.blks s.ev o'.op:=by
          refine sil2_blks o'.op fun n hn=>?_
          rcases hrd _ b3 with h4 | h4
          · exact absurd (hbitD i h4) hiD
          · obtain⟨⟨new,e1,e2⟩,e3⟩:=hupd
            simp only [List.append_nil] at e1
            refine e2 n ?_ (by rw [←e1];exact h4 n hn)
            show n<s.m.next
            rw [h.mem.next]
            exact silReads_lt (fun x=>hden.ev x) hn
        show Good (sil2 P m'.blks s.ev o'.op) sv'
        rw [this]
        exact b1
      · exact .inr hno
    refine hp1.put (fun d hd=>?_) (fun _ hh=>hh)
    cases hn:namesT ops.toList o' d
    · rfl
    · rcases hR.other x i o o' d ho h3 hne hd hn with h4 | ⟨_,h4⟩
      · exact absurd (bit_mem hR (S:=done) (fun i o=>h.down i o) i i (Nat.le_refl _) (fun o2 ho2 e' he' hb'=>h.down i o2 hid ho2 e' he' hb') x h4).1 hx
      · exact absurd (hbitD i h4) hiD
theorem evD_sound {E:Envr} (hE:EnvOK E) {run:Code→(Ex→St→Prop)→St→Prop} (hrun:∀c,RunOK E.P c (run c)) {kx:Ex→St→Prop} {ops:Array Oper} (hR:RegionOK ops) {k:St→Prop}
    {F:Fr} {W:Nat→Prop} {g0:Ctx} {s0:St} {a0:Act} {Q:Exit→Act→World→Prop} (hW:∀o,o∈ops.toList → ∀d,o.dst=some d→W d)
    (hk:∀g' s' a' w',k s'→Goes F W g0 s0 a0 g' s' a' w'→Q .normal a' w')
    (hx:∀g' s' sv v a' w',kx (.panic sv) s'→Rep g' sv v→Goes F W g0 s0 a0 g' s' a' w'→Q (.panic [{v,recovered:=false}]) a' w') :
    ∀(l D:List Nat),Sched ops (D++l) → ∀ {n done rd g s a w},DInv E.P ops F W g0 s0 a0 D done rd g s a w→ClosedL ops.toList.zipIdx done→
      evStep E run kx ops.toList (befs [] ops.toList) k (evD E run kx ops.toList (befs [] ops.toList) k n) done rd s→wpOps E.P ops Q l a w:=by
  have zip:∀(i:Nat) o,ops[i]?=some o→(o,i)∈ops.toList.zipIdx:=by
    intro i o ho
    rw [List.mem_iff_getElem?]
    exact⟨i,by simp [ho]⟩
  have zip':∀x,x∈ops.toList.zipIdx→ops[x.2]?=some x.1:=by
    intro x hx
    obtain⟨o,i⟩:=x
    have:=List.mem_zipIdx_iff_getElem?.1 hx
    simpa using this
  have zpw:ops.toList.zipIdx.Pairwise (fun x y=>x.2<y.2):=by
    have:∀(l:List Oper) (k:Nat),(l.zipIdx k).Pairwise (fun x y=>x.2<y.2):=by
      intro l
      induction l with
      | nil=>intro k;simp
      | cons o r ih=>
        intro k
        rw [List.zipIdx_cons,List.pairwise_cons]
        refine⟨fun y hy=>?_,ih _⟩
        obtain⟨oy,iy⟩:=y
        have:=List.le_snd_of_mem_zipIdx hy
        simp at this ⊢
        omega
    exact this _ _
  intro l
  induction l with
  | nil=>
    intro D hS n done rd g s a w hi hcl h
    rw [List.append_nil] at hS
    have hall:∀i,i<ops.size→i∈D:=fun i hlt=>(hS.mem i).2 hlt
    have hlen:done.length=ops.size:=by
      have h1:=nodup_bound ops.size done hi.nodup hi.lt
      have h2:(List.range ops.size).length≤done.length:=List.Nodup.length_le_of_subset List.nodup_range (fun i hlt=>hi.sub i (hall i (List.mem_range.1 hlt)))
      simp at h2
      omega
    unfold evStep at h
    have hb:Nat.beq done.length ops.toList.length=true:=by rw [hlen];simp
    rw [hb] at h
    refine hk g s a w h ⟨hi.le,hi.upd,hi.same,⟨fun t=>hi.slots t fun i o h1 h2=>absurd (hall i (hi.lt i h1)) h2,hi.nt,hi.defers,hi.mem⟩⟩
  | cons x l ih=>
    intro D hS n done rd g s a w hi hcl h
    have hxl:x<ops.size:=(hS.mem x).1 (by simp)
    obtain⟨o,ho⟩:∃o,ops[x]?=some o:=⟨ops[x],by simp [hxl]⟩
    have hnd:=hS.nodup
    have hxD:x ∉ D:=by
      intro hc
      rw [List.nodup_append] at hnd
      exact hnd.2.2 x hc x (by simp) rfl
    have hdeps:∀e,e∈o.after.toList→Region.binds .any e=true→e.on∈D:=fun e he hb=>hS.ord D x l rfl o ho e he hb
    have hDdown:∀(i:Nat) o,i∈D→ops[i]?=some o → ∀e,e∈o.after.toList→Region.binds .any e=true→e.on∈D:=by
      intro i o' hiD ho' e he hb
      obtain⟨l1,l2,rfl⟩:=List.append_of_mem hiD
      exact List.mem_append_left _ (hS.ord l1 i (l2++x::l) (by simp) o' ho' e he hb)
    have hbitD:∀j,bitB (befs [] ops.toList) x j=true→j∈D:=fun j hj=>(bit_mem hR hDdown x x (Nat.le_refl _) (fun o2 ho2 e he hb=>by rw [ho] at ho2;cases ho2;exact hdeps e he hb) j hj).1
    have hS':Sched ops ((D++[x])++l):=by rw [List.append_assoc];exact hS
    have hoW:∀d,o.dst=some d→W d:=hW o (by have:=Array.mem_of_getElem? ho;simpa using this)
    have hfree:∀t,namesT ops.toList o t=true→(isS o=true→o.dst≠some t) → ∀(i:Nat) o',i∈done→i ∉ D→ops[i]?=some o'→o'.dst≠some t:=by
      intro t ht hself i o' h1 h2 h3 h4
      by_cases e:i=x
      · subst e
        rw [ho] at h3;cases h3
        exact hself (hi.sil i o h1 h2 ho) h4
      · rcases hR.other i x o' o t h3 ho e h4 ht with h5 | ⟨h5,_⟩
        · exact h2 (hbitD i h5)
        · rw [hi.sil i o' h1 h2 h3] at h5;cases h5
    have hop:∀t,(tmpsOf o.op).any (Nat.beq t)=true → ∀(i:Nat) o',i∈done→i ∉ D→ops[i]?=some o'→o'.dst≠some t:=fun t ht=>
      hfree t (namesT_tmp ht) (fun hs hd=>by have:=hR.self x o t ho hd hs;rw [ht] at this;cases this)
    have hgdn:∀t,guardTmp ops.toList o=some t → ∀(i:Nat) o',i∈done→i ∉ D→ops[i]?=some o'→o'.dst≠some t:=fun t ht=>
      hfree t (namesT_guard ht) (fun hs hd=>by
        unfold guardTmp at ht
        cases hgd:o.guard with
        | none=>rw [hgd] at ht;cases ht
        | some q=>
          obtain⟨j,want⟩:=q
          rw [hgd] at ht
          dsimp only at ht
          obtain⟨oj,hoj,hdj⟩:=Option.bind_eq_some_iff.1 ht
          have hbit:=hR.guard x o j want ho hgd
          have hjlt:=(bit_mem hR hDdown x x (Nat.le_refl _) (fun o2 ho2 e he hb=>by rw [ho] at ho2;cases ho2;exact hdeps e he hb) j hbit).2
          have hoj':ops[j]?=some oj:=by simpa using hoj
          rcases hR.other x j o oj t ho hoj' (by omega) hd (namesT_dst hdj) with h3 | ⟨h3,_⟩
          · have:=(bit_mem hR (S:=List.range j) (fun i o h1 h2 e h3 h4=>by have:=hR.edge i o h2 e h3 h4;simp at h1 ⊢;omega) j j (Nat.le_refl _) (fun o2 ho2 e' he' hb'=>by have:=hR.edge j o2 ho2 e' he' hb';simp;omega) x h3).2
            omega
          · rw [hs] at h3;cases h3)
    have hgrep:∀d,guardTmp ops.toList o=some d→Rep g (getE s.env d) (a.tmps.getD d undef):=fun d hd=>hi.slots d (hgdn d hd)
    simp only [wpOps,ho]
    by_cases hxd:x∈done
    · -- a silent operation that was evaluated
      have hp:=hi.pend x o hxd hxD ho
      rcases hp.ex with ⟨hw,⟨sv,hgood,hsv⟩,_⟩ | ⟨hw,hun⟩
      · rw [if_pos (wanted_of hgrep hw)]
        refine .inl ?_
        have hrun1:=sil_at (P:=E.P) (a:=a) hi.mem o (fun t ht=>hi.slots t (hop t ht))
        have fin:NextTo E.P w g (execOp a.eval o) sv→o.wp E.P a w (wpOps E.P ops Q l) Q:=by
          rintro ⟨v,h1,h2⟩
          unfold Oper.wp
          rw [h1,Oper.upon_value]
          exact ih (D++[x]) hS' (hi.exec ho hxd hoW hp.has (fun d hd=>by rw [hsv d hd];exact h2)) hcl h
        rcases hgood with hg | hg | ⟨p,hg⟩<;>rw [hg] at hrun1
        · exact fin hrun1
        · exact fin (hrun1 rfl)
        · exact fin hrun1.2
      · rw [if_neg (by rw [wanted_of hgrep hw];simp)]
        exact ih (D++[x]) hS' (hi.exec ho hxd hoW hp.has (fun d hd=>by rw [hun d hd];exact (.tuple [] [] rfl (fun j sv v a=>by simp at a)))) hcl h
    · -- another one
      have hns:isS o=false:=by
        cases hs:isS o
        · rfl
        · exact absurd (hcl (o,x) (zip x o ho) hs (fun e he hb=>hi.sub _ (hdeps e he hb))) hxd
      have hlen:done.length≠ops.size:=by
        have:=nodup_bound ops.size (x::done) (List.nodup_cons.2 ⟨hxd,hi.nodup⟩) (fun y hy=>by
          rcases List.mem_cons.1 hy with rfl | hy
          · exact hxl
          · exact hi.lt y hy)
        simp at this
        omega
      unfold evStep at h
      have hb:Nat.beq done.length ops.toList.length=false:=by
        cases hb:Nat.beq done.length ops.toList.length
        · rfl
        · exact absurd (by simpa using Nat.eq_of_beq_eq_true hb) hlen
      rw [hb] at h
      simp only [cond_false] at h
      have hin:(o,x)∈ops.toList.zipIdx.filter (fun x=>!(isS x.1) && !(done.any (Nat.beq x.2))&&ready x.1 done):=by
        rw [List.mem_filter]
        refine⟨zip x o ho,?_⟩
        have h1:done.any (Nat.beq x)=false:=by
          cases h2:done.any (Nat.beq x)
          · rfl
          · exact absurd (any_beq.1 h2) hxd
        have h2:ready o done=true:=ready_iff.2 fun e he hb=>hi.sub _ (hdeps e he hb)
        simp [hns,h1,h2]
      have hstep:bif !(s.has o.dst) then Bad "slot" o.pos else
          evGuardL ops.toList o s
            (fun s0=>evOpV E run
              (fun v m'=>bif ops.toList.zipIdx.all (fun y=>!(isS y.1) || !(done.any (Nat.beq y.2))||bitB (befs [] ops.toList) x y.2) then kx (.panic v) {s0 with m:={m' with log:=m'.log++s0.m.log}} else Bad "draw: panic" o.pos)
              o
              (fun v m'=>bif rd.all (fun y=>bitB (befs [] ops.toList) x y.1||y.2.all (fun q=>!(m'.log.any (Nat.beq q)))) then
                  evD E run kx ops.toList (befs [] ops.toList) k n (x::done) rd ({s0 with m:={m' with log:=m'.log++s0.m.log}}.put o.dst v) else Bad "draw: conflict" o.pos)
              s0.ev {s0.m with log:=[]})
            (fun s0=>evD E run kx ops.toList (befs [] ops.toList) k n (x::done) rd (s0.put o.dst (.tuple []))):=by
        split at h
        · cases h
        · exact allP_mem h (o,x) hin
      clear h
      cases hhas:s.has o.dst
      · rw [hhas] at hstep;cases hstep
      rw [hhas] at hstep
      simp only [Bool.not_true,cond_false] at hstep
      have goOn:∀ {s1 g' a' w'},DInv E.P ops F W g0 s0 a0 (D++[x]) (x::done) rd g' s1 a' w'→evD E run kx ops.toList (befs [] ops.toList) k n (x::done) rd s1→wpOps E.P ops Q l a' w':=by
        intro s1 g' a' w' hi1 h1
        cases n with
        | zero=>cases h1
        | succ n=>
          unfold evD at h1
          obtain⟨done',rd',s',k1,k2,_,_,k5⟩:=evClose_sound hR ops.toList.zipIdx 0 (fun y hy=>⟨zip' y hy,Nat.zero_le _⟩) zpw hi1 h1
          exact ih (D++[x]) hS' k2 k5 k1
      have yes:∀s1,DInv E.P ops F W g0 s0 a0 D done rd g s1 a w→(∀d,guardTmp ops.toList o=some d→Rep g (getE s1.env d) (a.tmps.getD d undef))→s1.has o.dst=true→wantS ops.toList o s1=some true→
          evOpV E run
              (fun v m'=>bif ops.toList.zipIdx.all (fun y=>!(isS y.1) || !(done.any (Nat.beq y.2))||bitB (befs [] ops.toList) x y.2) then kx (.panic v) {s1 with m:={m' with log:=m'.log++s1.m.log}} else Bad "draw: panic" o.pos)
              o
              (fun v m'=>bif rd.all (fun y=>bitB (befs [] ops.toList) x y.1||y.2.all (fun q=>!(m'.log.any (Nat.beq q)))) then
                  evD E run kx ops.toList (befs [] ops.toList) k n (x::done) rd ({s1 with m:={m' with log:=m'.log++s1.m.log}}.put o.dst v) else Bad "draw: conflict" o.pos)
              s1.ev {s1.m with log:=[]}→
          (if Region.wanted o (yielded ops a.tmps)=true then o.wp E.P a w (wpOps E.P ops Q l) Q∨(o.asks E.P a w∧LetsOut Q) else wpOps E.P ops Q l (a.put o.dst undef) w):=by
        intro s1 hi1 hg1 hhas1 hwant h1
        rw [if_pos (wanted_of hg1 hwant)]
        refine .inl ?_
        obtain⟨a2,hden,hag⟩:=hi1.virt hR
        have hev:execOp a.eval o=execOp a2.eval o:=execOp_congr o fun y hy=>by
          cases y with
          | tmp t=>exact (hag t (hop t (tmpsOf_mem hy))).symm
          | _=>rfl
        refine evOpV_sound hE hrun h1 hev (fun y=>hden.ev y) (hi1.mem.relog []) (fun g' m' sv v w' hkk hle hupd hm hr=>?_) (fun g' m' sv v w' hkk hle hupd hm hr=>?_)
        · cases hc:rd.all (fun y=>bitB (befs [] ops.toList) x y.1||y.2.all (fun q=>!(m'.log.any (Nat.beq q))))
          · rw [hc] at hkk;cases hkk
          rw [hc] at hkk
          refine goOn (hi1.loud hR hDdown ho hxd hdeps hoW hhas1 hle hupd hm hr (fun y hy=>?_)) hkk
          have:=List.all_eq_true.1 hc y hy
          simp only [Bool.or_eq_true] at this
          rcases this with h2 | h2
          · exact .inl h2
          · refine .inr fun q hq hql=>?_
            have:=List.all_eq_true.1 h2 q hq
            rw [any_beq.2 hql] at this
            cases this
        · cases hc:ops.toList.zipIdx.all (fun y=>!(isS y.1) || !(done.any (Nat.beq y.2))||bitB (befs [] ops.toList) x y.2)
          · rw [hc] at hkk;cases hkk
          rw [hc] at hkk
          have hnone:∀i,i∈done→i∈D:=by
            intro i hid
            refine Classical.byContradiction fun hiD=>?_
            have hil:=hi1.lt i hid
            have hoi:ops[i]?=some (ops[i]'hil):=by simp
            have:=List.all_eq_true.1 hc _ (zip i _ hoi)
            rw [hi1.sil i _ hid hiD hoi,any_beq.2 hid] at this
            simp only [Bool.not_true,Bool.false_or] at this
            exact hiD (hbitD i this)
          refine hx g' _ sv v a w' hkk hr ⟨hi1.le.trans hle,?_,hi1.same,⟨fun t=>(hi1.slots t fun i o' h2 h3=>absurd (hnone i h2) h3).mono hle,hi1.nt,hi1.defers,hm.relog _⟩⟩
          refine hi1.upd.trans ?_
          obtain⟨⟨new,e1,e2⟩,e3⟩:=hupd
          simp only [List.append_nil] at e1
          exact⟨⟨new,by simp only [e1],e2⟩,e3⟩
      have no:∀s1,DInv E.P ops F W g0 s0 a0 D done rd g s1 a w→(∀d,guardTmp ops.toList o=some d→Rep g (getE s1.env d) (a.tmps.getD d undef))→s1.has o.dst=true→wantS ops.toList o s1=some false→
          evD E run kx ops.toList (befs [] ops.toList) k n (x::done) rd (s1.put o.dst (.tuple []))→
          (if Region.wanted o (yielded ops a.tmps)=true then o.wp E.P a w (wpOps E.P ops Q l) Q∨(o.asks E.P a w∧LetsOut Q) else wpOps E.P ops Q l (a.put o.dst undef) w):=by
        intro s1 hi1 hg1 hhas1 hwant h1
        rw [if_neg (by rw [wanted_of hg1 hwant];simp)]
        have:=hi1.loud hR hDdown ho hxd hdeps hoW hhas1 (Ctx.le.refl g) (m':={s1.m with log:=[]}) (Upd.refl _) (hi1.mem.relog []) (.tuple [] [] rfl (fun j sv v a=>by simp at a)) (fun y _=>.inr fun q _ hq=>by cases hq)
        exact goOn this h1
      unfold evGuardL at hstep
      split at hstep
      · rename_i hgd
        exact yes s hi hgrep hhas (by simp [wantS,hgd]) hstep
      · rename_i j want hgd
        split at hstep
        · cases hstep
        · rename_i d hdst
          split at hstep
          · rename_i b hb
            have hw:wantS ops.toList o s=some (b==want):=by unfold wantS;rw [hgd];dsimp only;rw [hdst];dsimp only;rw [hb]
            have hke:=known_env hb
            have hw':wantS ops.toList o (s.put (some d) (.bool b))=some (b==want):=by rw [wantS_congr (s:=s) (fun d' _=>hke d')];exact hw
            have hi':=hi.known hb
            have hg':∀d',guardTmp ops.toList o=some d'→Rep g (getE (s.put (some d) (.bool b)).env d') (a.tmps.getD d' undef):=fun d' hd'=>by rw [hke];exact hgrep d' hd'
            have hh':(s.put (some d) (.bool b)).has o.dst=true:=by rw [put_has];exact hhas
            cases b<;>cases want
            · exact yes _ hi' hg' hh' hw' hstep
            · exact no _ hi' hg' hh' hw' hstep
            · exact no _ hi' hg' hh' hw' hstep
            · exact yes _ hi' hg' hh' hw' hstep
          · rename_i vs hb
            have hw:wantS ops.toList o s=some false:=by unfold wantS;rw [hgd];dsimp only;rw [hdst];dsimp only;rw [hb]
            exact no s hi hgrep hhas hw hstep
          · cases hstep
theorem schedule_sched {ops:Array Oper} (hR:RegionOK ops) (hm:modesOk ops.toList=true) (mixed:Bool) (t:Nat):Sched ops (Region.schedule mixed ops t):=by
  have hany:RankOK .any ops (fun i=>i):=fun i o ho e he hb=>by
    have h1:=hR.edge i o ho e he hb
    have h2:=(Array.getElem?_eq_some_iff.1 ho).1
    exact⟨by omega,h1⟩
  unfold Region.schedule
  split
  · exact linearise_sched hany t
  · rename_i hdep
    simp only [Bool.or_eq_true,Bool.not_eq_true',not_or,Bool.not_eq_false] at hdep
    unfold modesOk at hm
    simp only [Bool.or_eq_true] at hm
    rcases hm with hm | hm
    · exfalso
      have hd:=hdep.2
      unfold Region.departs at hd
      rw [←Array.any_toList,List.any_eq_true] at hd
      obtain⟨o,ho,h1⟩:=hd
      rw [←Array.any_toList,List.any_eq_true] at h1
      obtain⟨e,he,h2⟩:=h1
      have:=List.all_eq_true.1 (List.all_eq_true.1 hm o ho) e he
      rw [this] at h2
      cases h2
    · have row:∀(i:Nat) o,ops[i]?=some o→(o,i)∈ops.toList.zipIdx:=by
        intro i o ho
        rw [List.mem_iff_getElem?]
        exact⟨i,by simp [ho]⟩
      split
      · refine linearise_sched (m:=.text) (rank:=fun i=>i) (fun i o ho e he hb=>?_) _
        have:=List.all_eq_true.1 (List.all_eq_true.1 hm _ (row i o ho)) e he
        simp only [Bool.and_eq_true] at this
        have h3:=this.1
        rw [hb] at h3
        simp only [Bool.not_true,Bool.false_or,Nat.blt_eq] at h3
        have h2:=(Array.getElem?_eq_some_iff.1 ho).1
        exact⟨by omega,h3⟩
      · refine linearise_sched (m:=.gc) (rank:=posIn (Region.linearise .gc ops.toList.toArray 0)) (fun i o ho e he hb=>?_) _
        have:=List.all_eq_true.1 (List.all_eq_true.1 hm _ (row i o ho)) e he
        simp only [Bool.and_eq_true] at this
        have h3:=this.2
        rw [hb] at h3
        simp only [Bool.not_true,Bool.false_or,Bool.and_eq_true,Nat.blt_eq] at h3
        exact⟨by simpa using h3.1,h3.2⟩
theorem evDraw_sound {E:Envr} (hE:EnvOK E) {run:Code→(Ex→St→Prop)→St→Prop} (hrun:∀c,RunOK E.P c (run c)) {ops:Array Oper} {K:Ex→St→Prop} {s:St}
    (h:evDraw E run K ops.toList (endR E (K .normal)) s) {F:Fr} {W:Nat→Prop} {g:Ctx} {a:Act} {w:World} (hW:∀o,o∈ops.toList → ∀d,o.dst=some d→W d) (hd:Den F g s a w) (t:Nat) :
    wpOps E.P ops (PostX F W g s a K) (Region.schedule (E.P.follows .mixedOrders) ops t) a {w with drawn:=w.drawn+1}:=by
  unfold evDraw at h
  cases hc:(regionOk ops.toList (befs [] ops.toList)&&modesOk ops.toList)
  · rw [hc] at h;cases h
  rw [hc] at h
  simp only [Bool.and_eq_true] at hc
  have hR:=regionOk_sound hc.1
  have hS:=schedule_sched hR hc.2 (E.P.follows .mixedOrders) t
  have hi:DInv E.P ops F W g s a [] [] [] g s a {w with drawn:=w.drawn+1}:=
    ⟨(fun i hi=>by cases hi),(fun i hi=>by cases hi),List.nodup_nil,(fun i o hi=>by cases hi),(fun i o hi=>by cases hi),Ctx.le.refl g,Upd.refl _,fun _ _=>rfl,hd.nt,hd.defers,hd.mem.of_heap ⟨rfl,rfl,rfl⟩,
      fun t _=>hd.env t,(fun i o hi=>by cases hi)⟩
  simp only [cond_true] at h
  unfold evD at h
  have zip':∀x,x∈ops.toList.zipIdx→ops[x.2]?=some x.1:=by
    intro x hx
    obtain⟨o,i⟩:=x
    have:=List.mem_zipIdx_iff_getElem?.1 hx
    simpa using this
  have zpw:ops.toList.zipIdx.Pairwise (fun x y=>x.2<y.2):=by
    have:∀(l:List Oper) (k:Nat),(l.zipIdx k).Pairwise (fun x y=>x.2<y.2):=by
      intro l
      induction l with
      | nil=>intro k;simp
      | cons o r ih=>
        intro k
        rw [List.zipIdx_cons,List.pairwise_cons]
        refine⟨fun y hy=>?_,ih _⟩
        obtain⟨oy,iy⟩:=y
        have:=List.le_snd_of_mem_zipIdx hy
        simp at this ⊢
        omega
    exact this _ _
  obtain⟨done',rd',s',k1,k2,_,_,k5⟩:=evClose_sound hR ops.toList.zipIdx 0 (fun y hy=>⟨zip' y hy,Nat.zero_le _⟩) zpw hi h
  exact evD_sound hE hrun hR hW (fun g' s' a' w' hk hg=>⟨g',s',endR_sound hk,hg⟩) (fun g' s' sv v a' w' hk r hg=>⟨g',s',sv,v,hk,rfl,r,hg⟩) _ [] (by simpa using hS) k2 k5 k1
theorem ev_sound {E:Envr} (hE:EnvOK E):∀n,(∀c,RunOK E.P c (ev E n c))∧(∀(b:Code),RunLW E.P b (ev E n (.loop b)))
  | 0=>And.intro (fun c K s h=>by cases h) (fun b K s h=>by cases h)
  | n+1=>by
    obtain⟨ih,ihl⟩:=ev_sound hE n
    have loops:∀b,RunLW E.P b (ev E (n+1) (.loop b)):=by
      intro b K s h F W g a w hW hd
      unfold ev at h
      split at h
      · rename_i L hL
        obtain⟨r,hr,hL⟩:=Option.bind_eq_some_iff.1 hL
        exact hE.loop r L hL (fun _ _=>True) (fun _ _ _ _ h=>h) b _ (RunOKp.ok (ih b)) K s h F W g a w hW hd trivial
      · refine LW.round ?_
        refine Code.wp_mono ?_ (ih b _ s h F W g a w hW hd)
        intro e a' w' hp
        cases e with
        | normal=>
          obtain⟨g',s',hk,hg⟩:=hp
          have:=ihl b K s' hk F W g' a' w' hW hg.den
          intro b0 k0 cs0
          obtain⟨e2,a2,w2,q2,arr⟩:=this b0 k0 cs0
          exact⟨e2,a2,w2,PostX.trans hg q2,arr⟩
        | exit id=>exact hp
        | ret=>exact hp
        | panic ch=>exact hp
        | goto _=>exact hp.elim
        | outgrown=>exact hp.elim
    refine⟨fun c=>?_,loops⟩
    cases c with
    | skip=>exact fun K s h F W g a w hW hd=>wp_skip ⟨g,s,h,Goes.refl hd⟩
    | label l=>exact fun K s h F W g a w hW hd=>wp_label ⟨g,s,h,Goes.refl hd⟩
    | region id ops draw=>
      intro K s h F W g a w hW hd
      unfold ev at h
      cases draw with
      | false=>exact region_sound hE ih h hW hd
      | true=>
        refine wp_region_draw fun t=>?_
        have hW':∀o,o∈ops.toList → ∀d,o.dst=some d→W d:=fun o ho d hdst=>hW d (List.mem_filterMap.2 ⟨o,ho,hdst⟩)
        exact evDraw_sound hE ih h hW' hd t
    | seq x y=>
      intro K s h F W g a w hW hd
      unfold ev at h
      refine wp_seq ?_
      refine Code.wp_mono ?_ (ih x _ s h F W g a w (fun t ht=>hW t (List.mem_append_left _ ht)) hd)
      intro e a' w' hp
      cases e with
      | normal=>
        obtain⟨g',s',hk,hg⟩:=hp
        exact Code.wp_mono (fun e a2 w2 q=>PostX.trans hg q) (ih y K s' hk F W g' a' w' (fun t ht=>hW t (List.mem_append_right _ ht)) hg.den)
      | exit id=>exact hp
      | ret=>exact hp
      | panic ch=>exact hp
      | goto _=>exact hp.elim
      | outgrown=>exact hp.elim
    | cond c x y=>
      intro K s h F W g a w hW hd
      unfold ev at h
      split at h
      case h_2=>cases h
      rename_i t
      split at h
      case h_2=>cases h
      rename_i b hb
      have r:=hd.env t
      rw [hb] at r
      have hv:a.eval (.tmp t) = .bool b:=by
        show a.tmps.getD t undef=_
        cases hx:a.tmps.getD t undef<;>rw [hx] at r<;>cases r
        rfl
      cases b with
      | true=>
        refine wp_cond (t:=true) hv ?_
        have hk:=hd.known hb
        exact Code.wp_mono (fun e a' w' q=>PostX.trans (s:=s) (s1:=s.put (some t) (.bool true)) (a1:=a) (w1:=w) ⟨Ctx.le.refl g,Upd.refl _,fun _ _=>rfl,hk⟩ q) (ih x K _ h F W g a w (fun t ht=>hW t (List.mem_append_left _ ht)) hk)
      | false=>
        refine wp_cond (t:=false) hv ?_
        have hk:=hd.known hb
        exact Code.wp_mono (fun e a' w' q=>PostX.trans (s:=s) (s1:=s.put (some t) (.bool false)) (a1:=a) (w1:=w) ⟨Ctx.le.refl g,Upd.refl _,fun _ _=>rfl,hk⟩ q) (ih y K _ h F W g a w (fun t ht=>hW t (List.mem_append_right _ ht)) hk)
    | block id b=>
      intro K s h F W g a w hW hd
      unfold ev at h
      refine wp_block ?_
      refine Code.wp_mono ?_ (ih b _ s h F W g a w hW hd)
      intro e a' w' hp
      cases e with
      | normal=>exact hp
      | exit j=>
        obtain⟨g',s',hk,hg⟩:=hp
        simp only [Exit.inBlock]
        dsimp only at hk
        cases hb:Nat.beq j id
        · rw [hb] at hk
          rw [if_neg (fun e=>by rw [e,Nat.beq_refl] at hb;cases hb)]
          exact⟨g',s',hk,hg⟩
        · rw [hb] at hk
          rw [if_pos (Nat.eq_of_beq_eq_true hb)]
          exact⟨g',s',hk,hg⟩
      | ret=>exact hp
      | panic ch=>exact hp
      | goto _=>exact hp.elim
      | outgrown=>exact hp.elim
    | loop b=>exact fun K s h F W g a w hW hd=>(loops b K s h F W g a w hW hd).wp
    | exit id=>exact fun K s h F W g a w hW hd=>wp_exit ⟨g,s,h,Goes.refl hd⟩
    | ret=>exact fun K s h F W g a w hW hd=>wp_ret ⟨g,s,h,Goes.refl hd⟩
    | rangeFunc=>exact fun K s h=>by cases h
    | scope=>exact fun K s h=>by cases h
    | goto=>exact fun K s h=>by cases h
    | refuse=>exact fun K s h=>by cases h
open Go Go.RowKit Go.ChangeShapes
structure Kept (w w':World):Prop where
  os:w'.os=w.os
  out:w'.output=w.output
  size:w.heap.size≤w'.heap.size
  keep:∀b,b<w.heap.size→w'.heap[b]?=w.heap[b]?
theorem kept_of_fix {w w':World} {Γ0:Nat→Nat→Option Value} (h:Fix ⟨w,fun _=>False,Γ0,[]⟩ w'):Kept w w':=
  ⟨h.os,h.out,h.size,fun b hb=>h.keep b hb (fun x=>x)⟩
theorem Kept.frame {w w':World} (h:Kept w w') (may:MemPlace→Prop):w.keptBut w' may:=by
  refine⟨h.os,h.out,fun i hi=>?_⟩
  rw [h.keep i hi]
  cases hx:w.heap[i]? with
  | none=>trivial
  | some o=>cases o<;>simp
theorem Kept.post {H:Type} {enc:TypeId × Value→H} {P:Program} {f:Func} {s:ChangeSpec} {apart fresh handsOn again:Bool} {W W':World} {args:Array Value} {v:Value} {ds gs:List (DataW H)} {before pa pv:List MemPlace}
    (hW:DataW.Whole enc P f.params.toList s.vars apart W args.toList ds gs before)
    (hres:∀(b:Nat) (sp:Nat→Bool) (hd:Bool),DataW.TrodAll enc P W' b sp hd f.resultTypes.toList (v.resultList f.resultTypes.size) (s.fn H (ds++gs)).results [])
    (hargs:∀sp:Nat→Bool,(∀p∈before,sp p.block=true)→DataW.TrodAll enc P W' 0 sp true f.params.toList args.toList (s.fn H (ds++gs)).args pa)
    (hvars:∀sp:Nat→Bool,(∀p∈before,sp p.block=true)→DataW.TrodVars enc P W' sp s.vars (s.fn H (ds++gs)).vars pv)
    (hps:before=pa++pv) (hk:Kept W W')
    (hok:∀(j:Nat) (t:TypeId) (r:Value),f.resultTypes[j]?=some t→(v.resultList f.resultTypes.size)[j]?=some r→Value.okWide P W' .any 0 t r) :
    s.post enc P f apart fresh handsOn again W args v W':=by
  have hold:∀p∈before,(fun b=>decide (b<W.heap.size)) p.block=true:=fun p hp=>by simpa using hW.lt p hp
  have hlt:=fun p hp=>hW.lt p hp
  refine⟨ds,gs,before,[],pa,pv,hW,hres _ _ _,hargs _ hold,hvars _ hold,World.keptBut_mono (fun p hp=>⟨hp,?_⟩) (hk.frame (· ∈ before)),fun _=>?_⟩
  · rw [hps,List.mem_append] at hp
    exact Or.inr hp
  · obtain⟨_,_,_,_,_,hz,hn⟩:=hW
    refine⟨hok,_,_,([]++pa)++pv,⟨[]++pa,pv,trodAll_append (hargs _ (fun _ _=>rfl)) (hres _ _ _),hvars _ (fun _ _=>rfl),rfl,?_,?_⟩,?_⟩
    · intro b off hp
      have hp:MemPlace.cell b off∈before:=by rw [hps];simpa using hp
      have hb:b<W.heap.size:=hlt _ hp
      rw [frozen?_congr (a:=⟨b,off,none⟩) (hk.keep b hb)]
      exact hz b off hp
    · intro ha
      have:=hn ha
      rw [hps] at this
      simpa using this
    · intro p hp _
      rw [hps]
      simpa using hp
def noCount (P:Program):Bool:=P.funcs.toList.all fun fn=>!(fn.name == "runtime.NumGoroutine")
theorem named_of {P:Program} (h:noCount P=true):∀(f:FuncId) (fn:Func),P.funcs[f]?=some fn→(fn.name == "runtime.NumGoroutine")=false:=by
  intro f fn hf
  have:=List.all_eq_true.1 h fn (by have:=Array.mem_of_getElem? hf;simpa using this)
  simpa using this
end Go.Proofs.YtgepebndihfnfaaGreat.Sx
