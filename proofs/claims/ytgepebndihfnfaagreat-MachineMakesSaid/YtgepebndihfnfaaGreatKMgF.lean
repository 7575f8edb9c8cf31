/- A row of requests, run; arguments as data. No condition. -/
import Derived.Test.YtgepebndihfnfaaGreatKMgE
import Derived.KernelRfl
set_option linter.unusedSimpArgs false
set_option linter.unusedVariables false

namespace Go.Proofs.YtgepebndihfnfaaGreat.Ses
open Go Go.Proofs Go.Proofs.YtgepebndihfnfaaGreat.Sx
structure MacW where
  x:MacS
  m:Nat
  g:Nat
  c:Nat
  k:Nat
  t:Nat
  sr:Nat
  e:Nat
  er:Nat
def macOf (B:Blks) (q:Nat):Option MacW:=match B.get q with
  | some (.cells [.int _ a,.int _ b,.int _ d,.mptr g _,.mptr t _,.mptr e _])=>match B.get g,B.get t,B.get e with
    | some (.cells [.mslice _ c _ _,_,.mmap k]),some (.cells [_,.mslice _ sr _ _]),some (.cells [_,.mslice _ er _ _])=>match B.get c,B.get sr,B.get er with
      | some (.rows .commit C),some (.rows .session S),some (.rows .epoch E)=>some ⟨⟨a,b,d,C,S,E⟩,q,g,c,k,t,sr,e,er⟩
      | _,_,_=>none
    | _,_,_=>none
  | _=>none
def macAt (s:St) (ms:Nat):Option MacW:=match getE s.env ms with
  | .mptr q _=>macOf s.m.blks q
  | _=>none
structure RmcW where
  x:MacS
  m:Nat
  a:Nat
  b:Nat
  c:Nat
  t:Nat
  sr:Nat
  e:Nat
  er:Nat
def rmcOf (B:Blks) (q:Nat):Option RmcW:=match B.get q with
  | some (.cells [.int _ d,.mslice _ a _ _,.mslice _ b _ _,.mslice _ c _ _,.mptr t _,.mptr e _])=>match B.get t,B.get e,B.get a with
    | some (.cells [.int _ z,.mslice _ sr _ _]),some (.cells [.int _ al,.mslice _ er _ _]),some (.rows .commit C)=>match B.get sr,B.get er with
      | some (.rows .session S),some (.rows .epoch E)=>some ⟨⟨al,z,d,C,S,E⟩,q,a,b,c,t,sr,e,er⟩
      | _,_=>none
    | _,_,_=>none
  | _=>none
def rmcAt (s:St) (ms:Nat):Option RmcW:=match getE s.env ms with
  | .mptr q _=>rmcOf s.m.blks q
  | _=>none
structure CfgD where
  M:List Int
  a:Int
  z:Int
  keep:Int
  beat:Int
  term:Int
  lease:Int
  num:Int
  den:Int
def CfgD.sv (c:CfgD):SV:=.agg [.rslice false .int c.M,.int .i64 c.a,.int .i64 c.z,.int .i64 c.keep,.int .i64 c.beat,.int .i64 c.term,.int .i64 c.lease,.int .i64 c.num,.int .i64 c.den]
structure RunA where
  c:CfgD
  l:List RequestD
def okL (l:List RequestD):Bool:=decide (l.length≤4000)&&l.all fun r=>okRq r&&fewX r.changes
def RunA.ok (x:RunA):Bool:=okCf x.c.a x.c.z x.c.M&&okL x.l
def RunA.f (x:RunA):MacS:=freshM x.c.a x.c.z x.c.M
set_option maxRecDepth 100000
theorem okL_of {l:List RequestD} (h:okL l=true):l.length≤4000 ∧ ∀r,r∈l→okRq r=true∧fewX r.changes=true:=by
  unfold okL at h
  simp only [Bool.and_eq_true,decide_eq_true_eq,List.all_eq_true] at h
  exact h
theorem how_short {x:MacS} (h:shortM x.C=true) {r:RequestD} (hr:okRq r=true):shortM (howM x r).2.C=true:=by
  have q1:=(okRq_of hr).1
  have hl:shortM (landC ⟨x.C,r.base,r.ref,r.changes⟩)=true:=by
    unfold landC
    cases isLd ⟨x.C,r.base,r.ref,r.changes⟩
    · exact h
    · have hss:shortC (insS r.changes)=true:=by
        unfold shortC at q1 ⊢
        rw [List.all_eq_true] at q1 ⊢
        exact fun y hy=>q1 y (mem_insS.1 hy)
      unfold shortM at h ⊢
      simp only [cond_true]
      rw [List.all_append,h]
      show (true&&(shortC (insS r.changes)&&true))=true
      rw [hss];rfl
  unfold howM
  cases r.kind==2
  · cases r.kind==3<;>cases r.kind==4<;>cases r.kind==5<;>cases r.kind==6<;>cases r.kind==7<;>exact h
  · exact hl
theorem apply_short {x:MacS} (h:shortM x.C=true) {r:RequestD} (hr:okRq r=true):shortM (applyM x r).2.C=true:=by
  unfold applyM
  cases decide (x.applied≥1099511627776)
  · show shortM (doM x r).2.C=true
    unfold doM
    cases r.kind==0
    · cases r.kind==1
      · cases (askM x r).1.2
        · exact how_short (x:=withS x (askM x r).2) h hr
        · exact h
      · cases wordOk r.name false<;>exact h
    · exact h
  · exact h
theorem run_short:∀(l:List RequestD) {x:MacS},shortM x.C=true→(∀r,r∈l→okRq r=true)→shortM (runF x l).C=true
  | [],_,h,_=>h
  | r::l,x,h,hr=>run_short l (x:=stepM x r) (apply_short h (hr r (List.mem_cons_self ..))) fun q hq=>hr q (List.mem_cons_of_mem _ hq)
theorem MOk.okr {a z:Int} {n:Nat} {x:MacS} (h:MOk a z n x) (hn:n≤4000) (hs:shortM x.C=true) {r:RequestD} (hr:okRq r=true) (hf:fewX r.changes=true):okRm x r=true:=
  okRm_mk (h.ok hn) hr hs hf (by rw [h.sz];exact h.s)
theorem okR_of {r:RequestD} (h:okQ r=true) (hi:inI r.from_=true):okRq r=true∧fewX r.changes=true:=by
  refine⟨okQ_of h hi,?_⟩
  unfold okQ at h
  simp only [Bool.and_eq_true,decide_eq_true_eq] at h
  exact decide_eq_true (by have:=h.2.2.2.1;omega)
theorem runZ_in {a z:Int} {M:List Int} (hc:okCf a z M=true) {l:List RequestD} (h:okL l=true) (i:Nat):(∃n,n≤l.length∧MDs a z n (runF (freshM a z M) (l.take i)))∧shortM (runF (freshM a z M) (l.take i)).C=true:=by
  obtain⟨h4,hq⟩:=okL_of h
  have hl:(l.take i).length≤l.length:=by rw [List.length_take];omega
  exact⟨⟨_,hl,runZD_ok hc _ (by omega)⟩,run_short _ (x:=freshM a z M) rfl fun r hr=>(hq r (List.mem_of_mem_take hr)).1⟩
end Go.Proofs.YtgepebndihfnfaaGreat.Ses

namespace Go.Proofs.YtgepebndihfnfaaGreat.Sx
open Go Go.RowKit Go.ChangeShapes Go.WideShapes
section
variable {H : Type} {en : TypeId × Value → H} {P : Program} {w : World}
theorem opens_sliceP {t e:TypeId} {c:Tc} {ok:c.den→Prop} (ht:P.underlying t=some (.slice e)) (he:Opens en P w e (fun a:{a:c.den // ok a}=>Sx.enc c a.1)) (hc:P.cellsOf e=c.width) (hb:P.bytesOf e=c.bytes) :
    Opens en P w t (fun l:{l:List c.den // ∀x,x∈l→ok x}=>[.rslice false c l.1]):=by
  intro m cs x hx hw
  have hc0:0<c.width:=by cases c<;>decide
  rcases DataW.trod_slice ht hx with ⟨rfl,rfl⟩ | ⟨a,len,cap,elems,rest,n,rfl,rfl,rfl,_,hle,_,hel,helem,hspare,_⟩
  · exact⟨⟨[],fun x hx=>(nomatch hx)⟩,fun β=>.cons (.rnil _ _) (RepL.nil _)⟩
  · simp only [DataW.weights,ht,List.all_cons,List.all_append,Bool.and_eq_true,decide_eq_true_eq,List.length_map] at hw
    obtain⟨hw0,hw1,_⟩:=hw
    have hbytes:len*c.bytes≤room47:=by
      have h1:len*P.bytesOf e≤(elems.length+rest.length)*P.bytesOf e:=Nat.mul_le_mul_right _ (by omega)
      have h2:reachBytes<2 ^ 47:=reachBytes_lt
      rw [←hb]
      have:room47=2 ^ 47:=rfl
      omega
    rcases Nat.eq_zero_or_pos cap with h0 | hpos
    · have:len=0:=by omega
      subst this
      subst h0
      exact⟨⟨[],fun x hx=>(nomatch hx)⟩,fun β=>.cons (.rnil _ _) (RepL.nil _)⟩
    · have hread:∃y,(w.cells? 0 a (P.cellsOf e)).bind (DataW.trod en P w 0 (fun _=>true) true n e)=some y:=by
        rcases Nat.eq_zero_or_pos len with h1 | h1
        · obtain⟨hrl,hr⟩:=hspare rfl
          have:=hr 0 (by omega)
          have hlt:0<rest.length:=by omega
          rw [List.getElem?_eq_getElem hlt] at this
          subst h1
          simp [Addr.add] at this
          exact⟨_,this⟩
        · have:=helem 0 h1
          have hlt:0<elems.length:=by omega
          rw [List.getElem?_eq_getElem hlt] at this
          simp [Addr.add] at this
          exact⟨_,this⟩
      have hsp:a=⟨a.block,a.off,none⟩:=by
        obtain⟨y,hy⟩:=hread
        cases hcs:w.cells? 0 a (P.cellsOf e) with
        | none=>rw [hcs] at hy;simp at hy
        | some l0=>
          obtain⟨_,hl,hg⟩:=World.cells?_some hcs
          have h1:=hg 0 (by omega)
          have hlt:0<l0.length:=by omega
          rw [List.getElem?_eq_getElem hlt] at h1
          simp only [Addr.add,if_true] at h1
          unfold World.cell? at h1
          obtain⟨b,o,s⟩:=a
          cases s with
          | none=>rfl
          | some s=>
            simp only at h1
            split at h1<;>simp at h1
      have hadd:∀k,a.add k=⟨a.block,a.off+k,none⟩:=by
        intro k
        unfold Addr.add
        split
        · rename_i hk;subst hk;exact hsp
        · rfl
      have each:∀i,i<len → ∃(p:{a:c.den // ok a} × List Value),p.2.length=c.width∧(∀β,RepL ⟨β,wholeΓ w⟩ (Sx.enc c p.1.1) p.2) ∧ ∀(j:Nat) v,p.2[j]?=some v→w.cell? ⟨a.block,a.off+(i*c.width+j),none⟩=some v:=by
        intro i hi
        have h1:=helem i hi
        have hlt:i<elems.length:=by omega
        rw [List.getElem?_eq_getElem hlt] at h1
        cases hcs:w.cells? 0 (a.add (i*P.cellsOf e)) (P.cellsOf e) with
        | none=>rw [hcs] at h1;simp at h1
        | some l0=>
          rw [hcs] at h1
          simp only [Option.bind_some] at h1
          obtain⟨_,hl,hg⟩:=World.cells?_some hcs
          obtain⟨d,hd⟩:=he n l0 _ h1 (weightsAll_mem hw1 _ (List.mem_map.2 ⟨elems[i],List.getElem_mem hlt,rfl⟩))
          refine⟨(d,l0),by rw [←hc];exact hl,hd,fun j v hv=>?_⟩
          have hj:j<l0.length:=(List.getElem?_eq_some_iff.1 hv).1
          have:=hg j (by omega)
          rw [hv,hadd] at this
          unfold Addr.add at this
          split at this
          · rename_i hj0;subst hj0;rw [hc] at this;simpa using this
          · rw [hc] at this
            simp only at this
            rw [←this,Nat.add_assoc]
      obtain⟨ps,hpl,hp⟩:=choose_list (β:=Unit) len each
      refine⟨⟨ps.map (·.1.1),fun x hx=>by obtain⟨p,_,rfl⟩:=List.mem_map.1 hx;exact p.1.2⟩,fun β=>.cons ?_ (RepL.nil _)⟩
      dsimp only
      rw [hsp]
      have:=Rep.rslice (g:=⟨β,wholeΓ w⟩) false c (ps.map (·.1.1)) a.block a.off cap (fun i=>match ps[i]? with | some p=>p.2 | none=>List.replicate c.width undef) (by simp [hpl];exact hle) (by simp [hpl];exact hbytes) (fun i=>by
        cases hi:ps[i]? with
        | none=>simp
        | some p=>exact (hp i p hi).1) (fun i x hx j sv v h1 h2=>by
        rw [List.getElem?_map] at hx
        cases hi:ps[i]? with
        | none=>rw [hi] at hx;simp at hx
        | some p=>
          rw [hi] at hx h2
          simp at hx
          subst hx
          exact ((hp i p hi).2.1 β).2 j sv v h1 h2) (fun i hi j v h1=>by
        cases hq:ps[i]? with
        | none=>rw [List.getElem?_eq_none_iff] at hq;simp at hi;omega
        | some p=>
          rw [hq] at h1
          exact (hp i p hq).2.2 j v h1)
      simp only [List.length_map,hpl] at this
      exact this
theorem opens_intw {t:TypeId} {k:IntKind} (ht:P.underlying t=some (.int k)):Opens en P w t (fun n:{n:Int // (Lit.int k n).wf=true}=>[.int k n.1]):=by
  intro m cs x hx _
  obtain⟨n,rfl,_,hw⟩:=DataW.trod_int ht hx
  exact⟨⟨n,hw⟩,fun β=>.cons (.int k n) (RepL.nil _)⟩
theorem arg_sliceP {H:Type} {en:TypeId × Value→H} {P:Program} {w:World} {t e:TypeId} {c:Tc} {ok:c.den→Prop} {v:Value} {d:DataW H} {ps:List MemPlace} {r:Reach} {b0:Nat} (ht:P.underlying t=some (.slice e))
    (ho:Opens en P w t (fun l:{l:List c.den // ∀x,x∈l→ok x}=>[.rslice false c l.1])) (hval:Value.okWide P w r b0 t v) (hd:DataW.Trod en P w 0 (fun _=>true) true t v d ps) (hw:(d.weights P t).all (· ≤ reachBytes)=true) :
    ∃l:{l:List c.den // ∀x,x∈l→ok x},∀β,Rep ⟨β,wholeΓ w⟩ (.rslice false c l.1) v:=by
  obtain⟨a,len,cap,rfl⟩:=okWide_slice ht hval
  obtain⟨fuel,hf⟩:=hd
  obtain⟨l,hl⟩:=ho fuel _ _ hf hw
  exact⟨l,fun β=>(hl β).2 0 _ _ rfl rfl⟩
theorem arg_agg {H:Type} {en:TypeId × Value→H} {P:Program} {w:World} {t:TypeId} {fs:Array Field} {α:Type} {mk:α→List SV} {v:Value} {d:DataW H} {ps:List MemPlace} {r:Reach} {b0:Nat} (ht:P.underlying t=some (.struct fs))
    (ho:Opens en P w t mk) (hval:Value.okWide P w r b0 t v) (hd:DataW.Trod en P w 0 (fun _=>true) true t v d ps) (hw:(d.weights P t).all (· ≤ reachBytes)=true) :
    ∃a:α,∀β,Rep ⟨β,wholeΓ w⟩ (.agg (mk a)) v:=by
  obtain⟨cs,rfl,_⟩:=okWide_struct ht hval
  obtain⟨fuel,hf⟩:=hd
  obtain⟨a,ha⟩:=ho fuel _ _ hf hw
  obtain⟨cs⟩:=cs
  exact⟨a,fun β=>.agg _ _ (ha β).1 (ha β).2⟩
end
end Go.Proofs.YtgepebndihfnfaaGreat.Sx
namespace Go.Proofs.YtgepebndihfnfaaGreat.Ses
open Go Go.Proofs Go.Proofs.YtgepebndihfnfaaGreat.Sx
theorem inI_wf {n:Int} (h:(Lit.int .i64 n).wf=true):inI n=true:=by
  simp [Lit.wf,IntKind.min,IntKind.max,IntKind.signed,IntKind.bits] at h
  exact decide_eq_true h.2
section
variable {H : Type} {en : TypeId × Value → H} {w : World}
theorem opens_in {t:TypeId} (ht:Tryz.prog.underlying t=some (.int .i64)):Opens en Tryz.prog w t (fun n:{n:Int // inI n=true}=>[.int .i64 n.1]):=
  (opens_intw ht).map (fun a=>⟨a.1,inI_wf a.2⟩) (fun _=>rfl)
abbrev RqIn:={r:RequestD // inI r.from_=true}
theorem op_request:Opens en Tryz.prog w 42 (fun r:RqIn=>enc .request r.1):=
  (opens_struct Tryz.underlying42 (by kernel_rfl) (opensF_cons (sz:=1) rfl (by kernel_rfl) (opens_int Tryz.underlying3) (opensF_cons (sz:=1) rfl (by kernel_rfl) (opens_str Tryz.underlying9) (opensF_cons (sz:=1) rfl (by kernel_rfl) (opens_int Tryz.underlying3) (opensF_cons (sz:=1) rfl (by kernel_rfl) (opens_int Tryz.underlying3) (opensF_cons (sz:=1) rfl (by kernel_rfl) (opens_int Tryz.underlying3)
    (opensF_cons (sz:=1) rfl (by kernel_rfl) (opens_str Tryz.underlying9) (opensF_cons (sz:=1) rfl (by kernel_rfl) op_changes (opensF_cons (sz:=1) rfl (by kernel_rfl) (opens_str Tryz.underlying9) (opensF_cons (sz:=1) rfl (by kernel_rfl) (opens_in Tryz.underlying3) (opensF_cons (sz:=1) rfl (by kernel_rfl) (opens_int Tryz.underlying3) (opensF_cons (sz:=1) rfl (by kernel_rfl) (opens_int Tryz.underlying3) opensF_nil)))))))))))).map
    (fun a=>(⟨⟨a.1,a.2.1,a.2.2.1,a.2.2.2.1,a.2.2.2.2.1,a.2.2.2.2.2.1,a.2.2.2.2.2.2.1,a.2.2.2.2.2.2.2.1,a.2.2.2.2.2.2.2.2.1.1,a.2.2.2.2.2.2.2.2.2.1,a.2.2.2.2.2.2.2.2.2.2.1⟩,a.2.2.2.2.2.2.2.2.1.2⟩:RqIn)) (fun _=>rfl)
theorem op_requests:Opens en Tryz.prog w 22 (fun l:{l:List RequestD // ∀x,x∈l→inI x.from_=true}=>[.rslice false .request l.1]):=opens_sliceP (c:=.request) (ok:=fun r:RequestD=>inI r.from_=true) Tryz.underlying22 op_request (by kernel_rfl) (by kernel_rfl)
end
section
variable {H : Type} {en : TypeId × Value → H} {w : World}
theorem op_ints:Opens en Tryz.prog w 30 (fun l:List Int=>[.rslice false .int l]):=opens_slice (c:=.int) Tryz.underlying30 (opens_int Tryz.underlying3) (by kernel_rfl) (by kernel_rfl)
def CfgD.enc (c:CfgD):List SV:=[.rslice false .int c.M,.int .i64 c.a,.int .i64 c.z,.int .i64 c.keep,.int .i64 c.beat,.int .i64 c.term,.int .i64 c.lease,.int .i64 c.num,.int .i64 c.den]
theorem op_config:Opens en Tryz.prog w 32 CfgD.enc:=
  (opens_struct Tryz.underlying32 (by kernel_rfl) (opensF_cons (sz:=1) rfl (by kernel_rfl) op_ints (opensF_cons (sz:=1) rfl (by kernel_rfl) (opens_int Tryz.underlying3) (opensF_cons (sz:=1) rfl (by kernel_rfl) (opens_int Tryz.underlying3) (opensF_cons (sz:=1) rfl (by kernel_rfl) (opens_int Tryz.underlying3) (opensF_cons (sz:=1) rfl (by kernel_rfl) (opens_int Tryz.underlying3)
    (opensF_cons (sz:=1) rfl (by kernel_rfl) (opens_int Tryz.underlying3) (opensF_cons (sz:=1) rfl (by kernel_rfl) (opens_int Tryz.underlying3) (opensF_cons (sz:=1) rfl (by kernel_rfl) (opens_int Tryz.underlying3) (opensF_cons (sz:=1) rfl (by kernel_rfl) (opens_int Tryz.underlying3) opensF_nil)))))))))).map
    (fun a=>(⟨a.1,a.2.1,a.2.2.1,a.2.2.2.1,a.2.2.2.2.1,a.2.2.2.2.2.1,a.2.2.2.2.2.2.1,a.2.2.2.2.2.2.2.1,a.2.2.2.2.2.2.2.2.1⟩:CfgD)) (fun _=>rfl)
end
end Go.Proofs.YtgepebndihfnfaaGreat.Ses
