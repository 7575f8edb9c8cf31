/- Functions of the library by their contracts; words for what the evaluator leaves. No condition. -/
import Derived.Test.YtgepebndihfnfaaGreatJSxD
import Derived.Laws.Externs
import Derived.Lib.Bytealg
import Derived.Lib.Join
import Derived.Below
set_option linter.unusedSimpArgs false
set_option linter.unusedVariables false

namespace Go.Proofs.YtgepebndihfnfaaGreat.Sx
open Go Go.RowKit
def ixbSV:List SV→Res
  | [.str s,.int .u8 c]=>.ok (.int .i64 (Lib.indexByte s c.toNat.toUInt8))
  | _=>.bad
theorem ixb_ok {P:Program} {f:FuncId} {fn:Func} (hf:P.funcs[f]?=some fn) (hname:(fn.name == "runtime.NumGoroutine")=false) (hb:fn.body.isNone=true) (hn:Extern.findNext fn=none)
    (he:Extern.find fn=some Extern.BytealgIndexByte.indexByte):∀(g:Ctx) (w:World) args vs,RepL g args vs→(ixbSV args).NextS P w g (callFunc f ⟨vs⟩):=by
  intro g w args vs r
  unfold ixbSV
  split
  · rename_i s c
    obtain⟨v0,_,rfl,r0,r⟩:=r.uncons
    obtain⟨v1,_,rfl,r1,r⟩:=r.uncons
    rw [r.eq_nil]
    cases r0
    cases r1
    refine⟨.int .i64 (Lib.indexByte s c.toNat.toUInt8),?_,.int _ _⟩
    rw [run_callFunc_extern hf hname hb hn he,Lib.run_indexByteString]
    rfl
  · trivial
theorem Mem.grow {F:Fr} {g:Ctx} {m:MS} {w w':World} (h:Mem F g m w) (hk:∀b,b<w.heap.size→w'.heap[b]?=w.heap[b]?) (hs:w.heap.size≤w'.heap.size) (ho:w'.os=w.os) (hout:w'.output=w.output):Mem F g m w':=by
  refine⟨⟨fun n k hn=>?_,h.mem.inj,fun b o v hv=>?_,h.mem.apart⟩,h.next,h.own,h.ext,⟨Nat.le_trans h.fix.size hs,fun b hb hM=>?_,by rw [ho];exact h.fix.os,by rw [hout];exact h.fix.out⟩⟩
  · obtain⟨x,hx,hok⟩:=h.mem.reg n k hn
    refine⟨x,hx,hok.congr (Ctx.le.refl g) fun r e=>?_⟩
    subst e
    exact hk r.b hok.1.lt
  · have:=h.mem.ro b o v hv
    rw [cell?_congr (hk b (cell?_lt this))]
    exact this
  · rw [hk b (Nat.lt_of_lt_of_le hb h.fix.size)]
    exact h.fix.keep b hb hM
structure JoinA where
  l:List Bs
  sep:Bs
def joinT:Tri:={γ:=JoinA,n0:=0,args:=fun x=>[.rslice false .str x.l,.str x.sep],blks:=fun _=>[],pre:=fun x=>x.l≠[]∧decide ((Lib.join x.l x.sep).length≤room47)=true,δ:=Unit,post:=fun _ _=>True,n1:=0,res:=fun x _=>.str (Lib.join x.l x.sep),blks':=fun _ _=>[],scal:=true}
theorem join_ok {P:Program} {f:FuncId}
    (hj:∀(bk o c:Nat) (xs:List ByteArray) (sep:ByteArray) (w:World),(∀(j:Nat) x,xs[j]?=some x→w.cell? ⟨bk,o+j,none⟩=some (.string x))→bk<w.heap.size→xs.length≤140737488355328→xs.length≤c→
      (Lib.join (xs.map (·.data.toList)) sep.data.toList).length≤140737488355328→
      Calls P f #[.slice (some ⟨bk,o,none⟩) xs.length c,.string sep] w fun e w'=>e = .returned (.string ⟨(Lib.join (xs.map (·.data.toList)) sep.data.toList).toArray⟩)∧Below w.heap.size w w'):SpecOK P f joinT.spec:=by
  refine Tri.ok' joinT fun x hx F g w vs hargs hm=>?_
  obtain⟨l,sep⟩:=x
  obtain⟨hne,hlen⟩:=hx
  have hne:l≠[]:=hne
  have hlen:(Lib.join l sep).length≤room47:=of_decide_eq_true hlen
  have hargs:RepL g [.rslice false .str l,.str sep] vs:=hargs
  obtain⟨v0,_,rfl,r0,r⟩:=hargs.uncons
  obtain⟨v1,_,rfl,r1,r⟩:=r.uncons
  rw [r.eq_nil]
  cases r1
  cases r0 with
  | rnil c a=>exact absurd rfl hne
  | rslice _ _ _ b off cap us h1 h2 h3 h4 h5=>
    have hcell:∀(j:Nat) s,l[j]?=some s→w.cell? ⟨b,off+j,none⟩=some (.string ⟨⟨s⟩⟩):=by
      intro j s hs
      have hj:j<l.length:=(List.getElem?_eq_some_iff.1 hs).1
      obtain⟨u,hu⟩:∃u,us j=[u]:=by
        have:=h3 j
        match hv:us j,this with
        | [u],_=>exact⟨u,rfl⟩
      have hr:=h4 j s hs 0 (.str s) u rfl (by rw [hu];rfl)
      cases hr
      have:=h5 j hj 0 (.string ⟨⟨s⟩⟩) (by rw [hu];rfl)
      simp [Tc.width] at this
      exact hm.mem.ro _ _ _ this
    have hmap:(l.map fun s=>(⟨⟨s⟩⟩:ByteArray)).map (·.data.toList)=l:=(List.map_map ..).trans (List.map_id l)
    have hb:b<w.heap.size:=by
      cases l with
      | nil=>exact absurd rfl hne
      | cons s r=>exact cell?_lt (hcell 0 s rfl)
    have hlen16:l.length*16≤room47:=h2
    have hc:=hj b off cap (l.map fun s=>⟨⟨s⟩⟩) ⟨⟨sep⟩⟩ w (fun j x hx=>by
      rw [List.getElem?_map] at hx
      cases hs:l[j]? with
      | none=>rw [hs] at hx;simp at hx
      | some s=>rw [hs] at hx;simp at hx;subst hx;exact hcell j s hs) hb (by simp [room47] at hlen16 ⊢;omega) (by simpa using h1) (by rw [hmap];exact hlen)
    rw [hmap] at hc
    simp only [List.length_map] at hc
    refine hc.mono fun e w' ⟨he,hw⟩=>?_
    subst he
    refine⟨g,⟨[],0,[]⟩,.str (Lib.join l sep),⟨(),rfl,trivial⟩,Ctx.le.refl g,Upd.refl _,Mem.grow hm (fun k hk=>hw.block k hk) hw.size hw.os hw.output,?_⟩
    exact .str _ (Nat.le_trans hlen (by simp [room47,maxI64]))
open Go
abbrev EqV (a b:VerdictD) (P:Prop):Prop:=a.code=b.code∧a.session=b.session∧a.rev=b.rev∧a.path=b.path∧a.digest=b.digest∧a.commits=b.commits∧a.member=b.member∧P
abbrev EqV7 (c s r:Int) (p:Bs) (d:Int) (l:List CommitD) (m:Int) (b:VerdictD) (P:Prop):Prop:=c=b.code∧s=b.session∧r=b.rev∧p=b.path∧d=b.digest∧l=b.commits∧m=b.member∧P
abbrev EqQ (a b:RequestD) (P:Prop):Prop:=a.kind=b.kind∧a.name=b.name∧a.session=b.session∧a.seq=b.seq∧a.base=b.base∧a.ref=b.ref∧a.changes=b.changes∧a.path=b.path∧a.from_=b.from_∧a.many=b.many∧a.member=b.member∧P
abbrev EqC (a b:CommitD) (P:Prop):Prop:=a.rev=b.rev∧a.base=b.base∧a.ref=b.ref∧a.changes=b.changes∧P
abbrev EqT {α β:Type} (s t:β) (l m:List α) (P:Prop):Prop:=s=t∧0=0∧l.length=m.length∧l=m∧P
theorem br_bad {b:Bool} {A:Prop} {x y:String}:br b A (Bad x y)↔(b=true∧A):=by
  cases b
  · exact⟨fun h=>(nomatch h),fun h=>nomatch h.1⟩
  · exact⟨fun h=>⟨rfl,h⟩,fun h=>h.2⟩
theorem br_iff {b:Bool} {A B:Prop}:br b A B↔((b=true→A)∧(b=false→B)):=by
  cases b
  · exact⟨fun h=>⟨fun e=>(nomatch e),fun _=>h⟩,fun h=>h.2 rfl⟩
  · exact⟨fun h=>⟨fun _=>h,fun e=>nomatch e⟩,fun h=>h.1 rfl⟩
theorem br_true {A B:Prop}:br true A B↔A:=Iff.rfl
theorem br_false {A B:Prop}:br false A B↔B:=Iff.rfl
theorem wrap_id {n:Int} (h1:-9223372036854775808≤n) (h2:n≤9223372036854775807):IntKind.i64.wrap n=n:=by
  unfold IntKind.wrap
  simp [IntKind.signed,IntKind.bits]
  omega
theorem set_self {α:Type} {l:List α} {i:Nat} {d x:α} (hi:i<l.length) (h:x=l.getD i d):l.set i x=l:=by
  subst h
  apply List.ext_getElem?
  intro j
  by_cases e:i=j
  · subst e;simp [hi]
  · simp [e]
theorem take_succ_getD {α:Type} {l:List α} {i:Nat} (d:α) (h:i<l.length):l.take (i+1)=l.take i++[l.getD i d]:=by
  rw [List.take_add_one]
  simp [h]
def lenV:SV→Prop
  | .str s=>s.length≤maxI64
  | .rslice _ c l=>l.length*c.bytes≤room47
  | _=>True
def lenL:List SV→Prop
  | []=>True
  | v::r=>lenV v∧lenL r
def lenB:Blks→Prop
  | []=>True
  | (_,.cells cs)::r=>lenL cs∧lenB r
  | (_,.rows c l)::r=>l.length*c.bytes≤room47∧lenB r
  | (_,.kv _)::r=>lenB r
theorem lenV_rep {g:Ctx} {x:SV} {v:Value} (r:Rep g x v):lenV x:=by
  cases r<;>simp only [lenV]<;>first | assumption | simp
theorem lenL_rep {g:Ctx}:∀ {xs:List SV} {vs:List Value},RepL g xs vs→lenL xs
  | [],_,_=>trivial
  | _::_,_,r=>by
    obtain⟨v,vs,rfl,h,r⟩:=r.uncons
    exact⟨lenV_rep h,lenL_rep r⟩
theorem lenB_of {g:Ctx} {w:World} {B:Blks}:∀ {B':Blks},(∀p,p∈B'→B.get p.1=some p.2)→Mem0 g B w→lenB B'
  | [],_,_=>trivial
  | (n,.cells cs)::r,hB,h=>by
    refine⟨?_,lenB_of (fun p hp=>hB p (by simp [hp])) h⟩
    obtain⟨x,_,hok⟩:=h.reg n _ (hB (n,.cells cs) (by simp))
    cases x with
    | none=>obtain⟨c,hc⟩:=hok;cases hc
    | some r=>obtain⟨_,_,vs,hr,_⟩:=hok;exact lenL_rep hr
  | (n,.kv l)::r,hB,h=>lenB_of (B':=r) (fun p hp=>hB p (by simp [hp])) h
  | (n,.rows c l)::r,hB,h=>by
    refine⟨?_,lenB_of (fun p hp=>hB p (by simp [hp])) h⟩
    obtain⟨x,_,hok⟩:=h.reg n _ (hB (n,.rows c l) (by simp))
    cases x with
    | none=>obtain⟨c,hc⟩:=hok;cases hc;simp
    | some r=>obtain⟨_,_,hl,_⟩:=hok;exact hl
theorem Tri.okF {E:Envr} (hE:EnvOK E) {n:Nat} (T:Tri) {f:FuncId} (hnd:∀x,nodupN (namesOf (T.blks x))=true) (hbody:∀x,T.pre x→lenL (T.args x)→lenB (T.blks x)→evCall E (ev E n) f (T.args x) ⟨T.blks x,T.n0,[]⟩ (fun _ _=>False) (T.ends x)):SpecOK E.P f T.spec:=
  Tri.ok' T fun x hx F g w vs hargs hm=>(evCall_sound hE (ev_sound hE n).1 (hbody x hx (lenL_rep hargs) (lenB_of (fun p hp=>nodupN_get (hnd x) p hp) hm.mem)) hargs hm).2
end Go.Proofs.YtgepebndihfnfaaGreat.Sx
