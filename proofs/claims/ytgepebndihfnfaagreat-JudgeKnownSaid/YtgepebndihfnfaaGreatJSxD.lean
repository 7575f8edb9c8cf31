/- Contracts of functions and invariants of loops for the evaluator, and that they are sound; arguments as data. No condition. -/
import Derived.Test.YtgepebndihfnfaaGreatJSxC
import Derived.OpenShut
import Derived.SizedLaws
set_option linter.unusedSimpArgs false
set_option linter.unusedVariables false

namespace Go.Proofs.YtgepebndihfnfaaGreat.Sx
open Go
def SV.free:SV→Bool
  | .int .. | .bool _ | .str _ | .nilp | .nils | .nilm | .nilfn | .nilif | .emp _ | .rslice .. | .tree _ | .yk _=>true
  | _=>false
theorem enc_free (c:Tc) (x:c.den):∀(j:Nat) sv,(enc c x)[j]?=some sv→sv.free=true:=by
  have h:(enc c x).all SV.free=true:=by cases c<;>rfl
  intro j sv hj
  exact List.all_eq_true.1 h sv (List.mem_of_getElem? hj)
theorem Rep.free {g:Ctx} {sv:SV} {v:Value} (h:Rep g sv v):∀ {g':Ctx},sv.free=true→(∀b o v,g.Γ b o=some v→g'.Γ b o=some v)→Rep g' sv v:=by
  induction h with
  | int k n=>exact fun _ _=>.int k n
  | bool b=>exact fun _ _=>.bool b
  | str s hs=>exact fun _ _=>.str s hs
  | nilp=>exact fun _ _=>.nilp
  | nils=>exact fun _ _=>.nils
  | nilm=>exact fun _ _=>.nilm
  | nilfn=>exact fun _ _=>.nilfn
  | nilif=>exact fun _ _=>.nilif
  | yk l=>exact fun _ _=>.yk l
  | emp c a=>exact fun _ _=>.emp c a
  | rnil c a=>exact fun _ _=>.rnil c a
  | rslice nn c l b off cap vs h1 h2 h3 h4 h5 ih=>exact fun _ hΓ=>.rslice nn c l b off cap vs h1 h2 h3 (fun i x hx j sv v a b=>ih i x hx j sv v a b (enc_free c x j sv a) hΓ) (fun i hi j v e=>hΓ _ _ _ (h5 i hi j v e))
  | treeNil t ht=>exact fun _ _=>.treeNil t ht
  | tree t b off vs h0 h1 h2 h3 ih=>exact fun _ hΓ=>.tree t b off vs h0 h1 (fun j sv v a b=>ih j sv v a b (List.all_eq_true.1 (by rfl:t.cells.all SV.free=true) sv (List.mem_of_getElem? a)) hΓ) (fun j v e=>hΓ _ _ _ (h3 j v e))
  | _=>intro g' hf;simp [SV.free] at hf
theorem RepL.enc {g g':Ctx} {c:Tc} {x:c.den} {vs:List Value} (h:RepL g (enc c x) vs) (hΓ:∀b o v,g.Γ b o=some v→g'.Γ b o=some v):RepL g' (enc c x) vs:=
  ⟨h.1,fun j sv v a b=>(h.2 j sv v a b).free (enc_free c x j sv a) hΓ⟩
theorem Rep.both {g0:Ctx} {sv:SV} {v0:Value} (h0:Rep g0 sv v0):∀ {g1 g2:Ctx} {v:Value},g0.le g1→(∀(n:Nat) x,g0.β[n]?=some x→g2.β[n]?=some x)→(∀b o v,g1.Γ b o=some v→g2.Γ b o=some v)→Rep g1 sv v→Rep g2 sv v:=by
  induction h0 with
  | undef v=>exact fun _ _ _ _=>.undef _
  | int k n=>exact fun _ _ hΓ h=>h.free rfl hΓ
  | bool b=>exact fun _ _ hΓ h=>h.free rfl hΓ
  | str s hs=>exact fun _ _ hΓ h=>h.free rfl hΓ
  | nilp=>exact fun _ _ hΓ h=>h.free rfl hΓ
  | nils=>exact fun _ _ hΓ h=>h.free rfl hΓ
  | nilm=>exact fun _ _ hΓ h=>h.free rfl hΓ
  | nilfn=>exact fun _ _ hΓ h=>h.free rfl hΓ
  | nilif=>exact fun _ _ hΓ h=>h.free rfl hΓ
  | yk l=>exact fun _ _ hΓ h=>h.free rfl hΓ
  | emp c a=>exact fun _ _ hΓ h=>h.free rfl hΓ
  | rnil c a=>exact fun _ _ hΓ h=>h.free rfl hΓ
  | rslice nn c l b off cap vs h1 h2 h3 h4 h5 ih=>exact fun _ _ hΓ h=>h.free rfl hΓ
  | treeNil t ht=>exact fun _ _ hΓ h=>h.free rfl hΓ
  | tree t b off vs h0 h1 h2 h3 ih=>exact fun _ _ hΓ h=>h.free rfl hΓ
  | mptr n j r hr=>
    intro g1 g2 v hl h2 hΓ h
    cases h with
    | mptr _ _ r' hr'=>
      have:=hl.β _ _ hr
      rw [hr'] at this
      cases this
      exact .mptr n j _ (h2 _ _ hr)
  | mmap n r hr=>
    intro g1 g2 v hl h2 hΓ h
    cases h with
    | mmap _ r' hr'=>
      have:=hl.β _ _ hr
      rw [hr'] at this
      cases this
      exact .mmap n _ (h2 _ _ hr)
  | seqk f n b r hr hb=>
    intro g1 g2 v hl h2 hΓ h
    cases h with
    | seqk _ _ b' r' hr' hb'=>
      have:=hl.β _ _ hr
      rw [hr'] at this
      cases this
      exact .seqk f n b' _ (h2 _ _ hr) (hΓ _ _ _ hb')
  | mrow c n i j r hr=>
    intro g1 g2 v hl h2 hΓ h
    cases h with
    | mrow _ _ _ _ r' hr'=>
      have:=hl.β _ _ hr
      rw [hr'] at this
      cases this
      exact .mrow c n i j _ (h2 _ _ hr)
  | mslice c n lo len cap off r hr e1 e2 e3=>
    intro g1 g2 v hl h2 hΓ h
    have:=hl.β _ _ hr
    cases h with
    | mslice _ _ _ _ cap' off' r' hr' f1 f2 f3 f4=>
      rw [hr'] at this
      cases this
      exact .mslice c n lo len cap' off' _ (h2 _ _ hr) f1 f2 f3 f4
    | mslice0 _ _ _ a x hx=>exact .mslice0 c n lo a _ (h2 _ _ hr)
  | mslice0 c n lo a x hx=>
    intro g1 g2 v hl h2 hΓ h
    have:=hl.β _ _ hx
    cases h with
    | mslice _ _ _ _ cap' off' r' hr' f1 f2 f3 f4=>
      rw [hr'] at this
      cases this
      exact .mslice c n lo 0 cap' off' _ (h2 _ _ hx) f1 f2 f3 f4
    | mslice0 _ _ _ a' x' hx'=>exact .mslice0 c n lo a' _ (h2 _ _ hx)
  | cslice w n lo len cap off r hr e1 e3=>
    intro g1 g2 v hl h2 hΓ h
    cases h with
    | cslice _ _ _ _ cap' off' r' hr' f1 f3=>
      have:=hl.β _ _ hr
      rw [hr'] at this
      cases this
      exact .cslice w n lo len cap' off' _ (h2 _ _ hr) f1 f3
  | rptr cs b off vs e1 e2 e3 ih=>
    intro g1 g2 v hl h2 hΓ h
    cases h with
    | rptr _ b' off' vs' f1 f2 f3=>
      refine .rptr cs b' off' vs' f1 (fun j sv v a b=>?_) (fun j v e=>hΓ _ _ _ (f3 j v e))
      obtain⟨v0,hv0,_⟩:=RepL.get (g:=g0) ⟨e1,e2⟩ a
      exact ih j sv v0 a hv0 hl h2 hΓ (f2 j sv v a b)
  | fn f fs cs us vs e1 e2 e3 e4 ih1 ih2=>
    intro g1 g2 v hl h2 hΓ h
    cases h with
    | fn _ _ _ us' vs' f1 f2 f3 f4=>
      refine .fn f fs cs us' vs' f1 f2 (fun j sv v a b=>?_) (fun j sv v a b=>?_)
      · obtain⟨v0,hv0,_⟩:=RepL.get (g:=g0) ⟨e1,e3⟩ a
        exact ih1 j sv v0 a hv0 hl h2 hΓ (f3 j sv v a b)
      · obtain⟨v0,hv0,_⟩:=RepL.get (g:=g0) ⟨e2,e4⟩ a
        exact ih2 j sv v0 a hv0 hl h2 hΓ (f4 j sv v a b)
  | iface t sv v hv ih=>
    intro g1 g2 v hl h2 hΓ h
    cases h with
    | iface _ _ v' hv'=>exact .iface t sv v' (ih hl h2 hΓ hv')
  | agg cs vs e1 e2 ih=>
    intro g1 g2 v hl h2 hΓ h
    cases h with
    | agg _ vs' f1 f2=>
      refine .agg cs vs' f1 (fun j sv v a b=>?_)
      obtain⟨v0,hv0,_⟩:=RepL.get (g:=g0) ⟨e1,e2⟩ a
      exact ih j sv v0 a hv0 hl h2 hΓ (f2 j sv v a b)
  | tuple cs vs e1 e2 ih=>
    intro g1 g2 v hl h2 hΓ h
    cases h with
    | tuple _ vs' f1 f2=>
      refine .tuple cs vs' f1 (fun j sv v a b=>?_)
      obtain⟨v0,hv0,_⟩:=RepL.get (g:=g0) ⟨e1,e2⟩ a
      exact ih j sv v0 a hv0 hl h2 hΓ (f2 j sv v a b)
mutual
def ren (ρ:List Nat):SV→SV
  | .mptr n j=>.mptr (ρ.getD n 0) j
  | .mrow c n i j=>.mrow c (ρ.getD n 0) i j
  | .mslice c n lo len=>.mslice c (ρ.getD n 0) lo len
  | .cslice w n lo len=>.cslice w (ρ.getD n 0) lo len
  | .rptr cs=>.rptr (renL ρ cs)
  | .fn f fs cs=>.fn f (renL ρ fs) (renL ρ cs)
  | .iface t v=>.iface t (ren ρ v)
  | .agg cs=>.agg (renL ρ cs)
  | .tuple cs=>.tuple (renL ρ cs)
  | .undef=>.undef
  | .int k n=>.int k n
  | .bool b=>.bool b
  | .str s=>.str s
  | .nilp=>.nilp
  | .nils=>.nils
  | .nilm=>.nilm
  | .nilfn=>.nilfn
  | .nilif=>.nilif
  | .emp c=>.emp c
  | .rslice nn c l=>.rslice nn c l
  | .tree t=>.tree t
  | .mmap n=>.mmap (ρ.getD n 0)
  | .seqk f n=>.seqk f (ρ.getD n 0)
  | .yk l=>.yk l
def renL (ρ:List Nat):List SV→List SV
  | []=>[]
  | x::r=>ren ρ x::renL ρ r
end
theorem renL_length (ρ:List Nat):∀l,(renL ρ l).length=l.length
  | []=>by simp [renL]
  | x::r=>by simp [renL,renL_length ρ r]
theorem renL_get (ρ:List Nat):∀(l:List SV) (j:Nat),(renL ρ l)[j]?=(l[j]?).map (ren ρ)
  | [],j=>by simp [renL]
  | x::r,0=>by simp [renL]
  | x::r,j+1=>by simp [renL,renL_get ρ r j]
theorem Rep.ren {g:Ctx} {sv:SV} {v:Value} (h:Rep g sv v) {g':Ctx} {ρ:List Nat} (hβ:∀n x,g.β[n]?=some x→g'.β[ρ.getD n 0]?=some x) (hΓ:∀b o v,g.Γ b o=some v→g'.Γ b o=some v):Rep g' (Sx.ren ρ sv) v:=by
  have list:∀(cs:List SV) (vs:List Value),(∀(j:Nat) sv v,cs[j]?=some sv→vs[j]?=some v→Rep g' (Sx.ren ρ sv) v) → ∀(j:Nat) sv v,(renL ρ cs)[j]?=some sv→vs[j]?=some v→Rep g' sv v:=by
    intro cs vs ih j sv v a b
    rw [renL_get] at a
    cases hc:cs[j]? with
    | none=>rw [hc] at a;simp at a
    | some y=>rw [hc] at a;simp at a;subst a;exact ih j y v hc b
  induction h with
  | undef v=>exact .undef v
  | int k n=>exact .int k n
  | bool b=>exact .bool b
  | str s hs=>exact .str s hs
  | nilp=>exact .nilp
  | nils=>exact .nils
  | nilm=>exact .nilm
  | nilfn=>exact .nilfn
  | nilif=>exact .nilif
  | yk l=>exact .yk l
  | emp c a=>exact .emp c a
  | rnil c a=>exact .rnil c a
  | rslice nn c l b off cap vs h1 h2 h3 h4 h5 ih=>exact (Rep.rslice (g:=g) nn c l b off cap vs h1 h2 h3 h4 h5).free rfl hΓ
  | treeNil t ht=>exact .treeNil t ht
  | tree t b off vs h0 h1 h2 h3 ih=>exact (Rep.tree (g:=g) t b off vs h0 h1 h2 h3).free rfl hΓ
  | mptr n j r hr=>exact .mptr _ j r (hβ _ _ hr)
  | mrow c n i j r hr=>exact .mrow c _ i j r (hβ _ _ hr)
  | mmap n r hr=>exact .mmap _ r (hβ _ _ hr)
  | seqk f n b r hr hb=>exact .seqk f _ b r (hβ _ _ hr) (hΓ _ _ _ hb)
  | mslice c n lo len cap off r hr h1 h2 h3 h4=>exact .mslice c _ lo len cap off r (hβ _ _ hr) h1 h2 h3 h4
  | mslice0 c n lo a x hr=>exact .mslice0 c _ lo a x (hβ _ _ hr)
  | cslice w n lo len cap off r hr h1 h2=>exact .cslice w _ lo len cap off r (hβ _ _ hr) h1 h2
  | rptr cs b off vs h1 _ h3 ih=>simp only [Sx.ren];exact .rptr _ b off vs (by rw [renL_length];exact h1) (list cs vs ih) (fun j v e=>hΓ _ _ _ (h3 j v e))
  | fn f fs cs us vs h1 h2 _ _ ih1 ih2=>simp only [Sx.ren];exact .fn f _ _ us vs (by rw [renL_length];exact h1) (by rw [renL_length];exact h2) (list fs us ih1) (list cs vs ih2)
  | iface t sv v _ ih=>simp only [Sx.ren];exact .iface t _ v ih
  | agg cs vs h1 _ ih=>simp only [Sx.ren];exact .agg _ vs (by rw [renL_length];exact h1) (list cs vs ih)
  | tuple cs vs h1 _ ih=>simp only [Sx.ren];exact .tuple _ vs (by rw [renL_length];exact h1) (list cs vs ih)
def renB (ρ:List Nat):Blk→Blk
  | .cells cs=>.cells (renL ρ cs)
  | .rows c l=>.rows c l
  | .kv l=>.kv l
theorem RegOK.ren {w:World} {r:Reg} {k:Blk} {ρ:List Nat} (h:RegOK w r k):RegOK w r (renB ρ k):=by cases k<;>exact h
theorem BlkOK.ren {g:Ctx} {r:Reg} {w:World} {k:Blk} (h:BlkOK g r w k) {g':Ctx} {ρ:List Nat} (hβ:∀n x,g.β[n]?=some x→g'.β[ρ.getD n 0]?=some x) (hΓ:∀b o v,g.Γ b o=some v→g'.Γ b o=some v) :
    BlkOK g' r w (renB ρ k):=by
  cases k with
  | cells cs=>
    obtain⟨a,vs,b,c⟩:=h
    refine⟨by rw [renL_length];exact a,vs,⟨by rw [renL_length];exact b.1,fun j sv v x y=>?_⟩,c⟩
    rw [renL_get] at x
    cases hc:cs[j]? with
    | none=>rw [hc] at x;simp at x
    | some z=>rw [hc] at x;simp at x;subst x;exact (b.2 j z v hc y).ren hβ hΓ
  | rows c l=>
    obtain⟨a,a',vs,b,b',e⟩:=h
    exact⟨a,a',vs,b,fun i x hx=>(b' i x hx).enc hΓ,e⟩
  | kv l=>exact h
theorem BlkOK.both {g0 g1 g2:Ctx} {r:Reg} {w0 w:World} {k:Blk} (h0:BlkOK g0 r w0 k) (hl:g0.le g1) (h2:∀(n:Nat) x,g0.β[n]?=some x→g2.β[n]?=some x) (hΓ:∀b o v,g1.Γ b o=some v→g2.Γ b o=some v)
    (h:BlkOK g1 r w k):BlkOK g2 r w k:=by
  cases k with
  | cells cs=>
    obtain⟨_,vs0,b0,_⟩:=h0
    obtain⟨a,vs,b,c⟩:=h
    refine⟨a,vs,⟨b.1,fun j sv v x y=>?_⟩,c⟩
    obtain⟨v0,hv0,r0⟩:=b0.get x
    exact r0.both hl h2 hΓ (b.2 j sv v x y)
  | rows c l=>
    obtain⟨a,a',vs,b,b',e⟩:=h
    exact⟨a,a',vs,b,fun i x hx=>(b' i x hx).enc hΓ,e⟩
  | kv l=>exact h
universe u
structure Mt where
  σ:List (Nat × Option Nat)
  bor:List Nat
def lookN {α:Type u}:List (Nat × α)→Nat→Option α
  | [],_=>none
  | (m,v)::r,n=>bif Nat.beq m n then some v else lookN r n
theorem lookN_cons_same {α:Type u} (l:List (Nat × α)) (n:Nat) (x:α):lookN ((n,x)::l) n=some x:=by simp [lookN]
theorem lookN_cons_other {α:Type u} (l:List (Nat × α)) {n q:Nat} (x:α) (h:q≠n):lookN ((n,x)::l) q=lookN l q:=by
  have:Nat.beq n q=false:=by
    cases hb:Nat.beq n q
    · rfl
    · exact absurd (Nat.eq_of_beq_eq_true hb).symm h
  simp [lookN,this]
def Mt.get (t:Mt) (n:Nat):Option (Option Nat):=lookN t.σ n
structure Mt.le (t t':Mt):Prop where
  σ:∀n y,t.get n=some y→t'.get n=some y
  bor:∀n,n∈t.bor→n∈t'.bor
theorem Mt.le.refl (t:Mt):t.le t:=⟨fun _ _ h=>h,fun _ h=>h⟩
theorem Mt.le.trans {a b c:Mt} (h:a.le b) (h':b.le c):a.le c:=⟨fun n y e=>h'.σ n y (h.σ n y e),fun n e=>h'.bor n (h.bor n e)⟩
structure Lk (g1:Ctx) (w:World) (base:Nat) (t:Mt) (g2:Ctx):Prop where
  kept:∀(n:Nat) x,n<base→g1.β[n]?=some x→g2.β[n]?=some x
  bound:∀(n n':Nat) x,base≤n→t.get n=some (some n')→g1.β[n']?=some x→g2.β[n]?=some x
  absent:∀(n:Nat),base≤n→t.get n=some none→g2.β[n]?=some none
  Γ:∀b o v,g1.Γ b o=some v→g2.Γ b o=some v
  bor:∀(n':Nat) (r:Reg) o v,n'∈t.bor→g1.β[n']?=some (some r)→w.cell? ⟨r.b,o,none⟩=some v→g2.Γ r.b o=some v
theorem Lk.mono {g1 g2:Ctx} {w:World} {base:Nat} {t t':Mt} (h:Lk g1 w base t' g2) (hl:t.le t'):Lk g1 w base t g2:=
  ⟨h.kept,fun n n' x a b c=>h.bound n n' x a (hl.σ _ _ b) c,fun n a b=>h.absent n a (hl.σ _ _ b),h.Γ,fun n' r o v a b c=>h.bor n' r o v (hl.bor _ a) b c⟩
structure Mt.OK (t:Mt) (B:Blks):Prop where
  σ:∀n n',t.get n=some (some n') → ∃k,B.get n'=some k
  bor:∀n',n'∈t.bor → ∃k,B.get n'=some k
def bindN (B:Blks) (base n n':Nat) (t:Mt) (k:Mt→Prop):Prop:=
  bif Nat.blt n base then (bif Nat.beq n n' then k t else Bad "match: another name" "")
  else match t.get n with
    | some (some q)=>bif Nat.beq q n' then k t else Bad "match: two names" ""
    | some none=>Bad "match: absent" ""
    | none=>match B.get n' with
      | some _=>k {t with σ:=(n,some n')::t.σ}
      | none=>Bad "match: no region" ""
def bindA (base n:Nat) (t:Mt) (k:Mt→Prop):Prop:=
  bif Nat.blt n base then Bad "match: nil" ""
  else match t.get n with
    | some (some _)=>Bad "match: nil" ""
    | some none=>k t
    | none=>k {t with σ:=(n,none)::t.σ}
def eqL (c c':Tc) (l':List c'.den) (l:List c.den) (k:Prop):Prop:=
  match castL c c' l' with
  | some r=>r=l∧k
  | none=>Bad "match: kind" ""
def coeLw (f:SV→SV→Mt→(Mt→Prop)→Prop):List SV→List SV→Mt→(Mt→Prop)→Prop
  | [],[],t,k=>k t
  | p::ps,a::as,t,k=>f p a t fun t=>coeLw f ps as t k
  | _,_,_,_=>Bad "match: length" ""
def asT:SV→Option TreeD
  | .tree t=>some t
  | .nilp=>some .nil
  | _=>none
def decT:List SV→Option TreeD
  | [.bool th,.str p,.int .u64 d,.int .i64 r,.bool g,a,b,.int .i64 dep,.int .i64 m]=>
    match asT a,asT b with
    | some l,some r'=>some (.node th ⟨p,d,r,g⟩ l r' dep m)
    | _,_=>none
  | _=>none
def coeV (B:Blks) (base:Nat):Nat→SV→SV→Mt→(Mt→Prop)→Prop
  | 0,_,_,_,_=>Bad "match: fuel" ""
  | d+1,p,a,t,k=>
    match p with
    | .undef=>k t
    | .int c n=>match a with
      | .int c' n'=>bif Nat.beq (ikNum c) (ikNum c') then n'=n∧k t else Bad "match: int" ""
      | _=>Bad "match: int" ""
    | .bool b=>match a with
      | .bool b'=>b'=b∧k t
      | _=>Bad "match: bool" ""
    | .str s=>match a with
      | .str s'=>s'=s∧k t
      | _=>Bad "match: str" ""
    | .nilp=>match a with
      | .nilp=>k t
      | _=>Bad "match: nilp" ""
    | .nils=>match a with
      | .nils=>k t
      | _=>Bad "match: nils" ""
    | .nilm=>match a with
      | .nilm=>k t
      | _=>Bad "match: nilm" ""
    | .nilfn=>match a with
      | .nilfn=>k t
      | _=>Bad "match: nilfn" ""
    | .nilif=>match a with
      | .nilif=>k t
      | _=>Bad "match: nilif" ""
    | .emp c=>match a with
      | .emp c'=>bif Nat.beq c.num c'.num then k t else Bad "match: kind" ""
      | _=>Bad "match: emp" ""
    | .mptr n j=>match a with
      | .mptr n' j'=>bif Nat.beq j j' then bindN B base n n' t k else Bad "match: offset" ""
      | _=>Bad "match: mptr" ""
    | .mmap n=>match a with
      | .mmap n'=>bindN B base n n' t k
      | _=>Bad "match: mmap" ""
    | .seqk f n=>match a with
      | .seqk f' n'=>bif Nat.beq f f' then bindN B base n n' t k else Bad "match: seqk" ""
      | _=>Bad "match: seqk" ""
    | .mrow c n i j=>match a with
      | .mrow c' n' i' j'=>bif Nat.beq c.num c'.num&&Nat.beq j j' then bindN B base n n' t fun t=>i'=i∧k t else Bad "match: mrow" ""
      | _=>Bad "match: mrow" ""
    | .mslice c n lo len=>match a with
      | .mslice c' n' lo' len'=>bif Nat.beq c.num c'.num then bindN B base n n' t fun t=>lo'=lo∧len'=len∧k t else Bad "match: kind" ""
      | .nils=>bindA base n t fun t=>0=len∧k t
      | .emp _=>bindA base n t fun t=>0=len∧k t
      | _=>Bad "match: mslice" ""
    | .cslice x n lo len=>match a with
      | .cslice x' n' lo' len'=>bif Nat.beq x x'&&Nat.beq lo lo'&&Nat.beq len len' then bindN B base n n' t k else Bad "match: cslice" ""
      | _=>Bad "match: cslice" ""
    | .rptr cs=>match a with
      | .rptr cs'=>coeLw (coeV B base d) cs cs' t k
      | _=>Bad "match: rptr" ""
    | .rslice nn c l=>match a with
      | .rslice nn' c' l'=>bif nn && !nn' then Bad "match: nil" "" else eqL c c' l' l (k t)
      | .nils=>bif nn then Bad "match: nil" "" else ([]:List c.den)=l∧k t
      | .emp _=>bif nn then Bad "match: nil" "" else ([]:List c.den)=l∧k t
      | .mslice c' n' lo len=>bif nn then Bad "match: nil" "" else match B.get n' with
        | some (.rows c'' l')=>bif Nat.beq c'.num c''.num then lo+len≤l'.length∧eqL c c'' ((l'.drop lo).take len) l (k {t with bor:=n'::t.bor}) else Bad "match: kind" ""
        | _=>Bad "match: no rows" ""
      | _=>Bad "match: rslice" ""
    | .fn f x y=>match a with
      | .fn f' x' y'=>bif Nat.beq f f' then coeLw (coeV B base d) x x' t fun t=>coeLw (coeV B base d) y y' t k else Bad "match: function" ""
      | _=>Bad "match: fn" ""
    | .iface T x=>match a with
      | .iface T' x'=>bif Nat.beq T T' then coeV B base d x x' t k else Bad "match: type" ""
      | _=>Bad "match: iface" ""
    | .agg cs=>match a with
      | .agg cs'=>coeLw (coeV B base d) cs cs' t k
      | _=>Bad "match: agg" ""
    | .tuple cs=>match a with
      | .tuple cs'=>coeLw (coeV B base d) cs cs' t k
      | _=>Bad "match: tuple" ""
    | .tree x=>match a with
      | .tree x'=>x'=x∧k t
      | .nilp=>TreeD.nil=x∧k t
      | .mptr n' j=>bif Nat.beq j 0 then (match B.get n' with
        | some (.cells cs)=>match decT cs with
          | some x'=>x'=x∧k {t with bor:=n'::t.bor}
          | none=>Bad "match: no tree" ""
        | _=>Bad "match: no cells" "") else Bad "match: offset" ""
      | _=>Bad "match: tree" ""
    | .yk _=>Bad "match: yk" ""
theorem asT_rep {g:Ctx} {s:SV} {t:TreeD} (h:asT s=some t) {v:Value} (r:Rep g s v):Rep g (.tree t) v:=by
  unfold asT at h
  split at h
  · cases h;exact r
  · cases h;cases r;exact .treeNil _ rfl
  · cases h
theorem decT_rep {g:Ctx} {cs:List SV} {t:TreeD} (h:decT cs=some t) {vs:List Value} (r:RepL g cs vs):t.isNil=false∧RepL g t.cells vs:=by
  unfold decT at h
  split at h
  case h_2=>cases h
  split at h
  case h_2=>cases h
  rename_i l r' hl hr
  cases h
  refine⟨rfl,?_⟩
  obtain⟨v0,_,rfl,r0,r⟩:=r.uncons
  obtain⟨v1,_,rfl,r1,r⟩:=r.uncons
  obtain⟨v2,_,rfl,r2,r⟩:=r.uncons
  obtain⟨v3,_,rfl,r3,r⟩:=r.uncons
  obtain⟨v4,_,rfl,r4,r⟩:=r.uncons
  obtain⟨v5,_,rfl,r5,r⟩:=r.uncons
  obtain⟨v6,_,rfl,r6,r⟩:=r.uncons
  exact .cons r0 (.cons r1 (.cons r2 (.cons r3 (.cons r4 (.cons (asT_rep hl r5) (.cons (asT_rep hr r6) r))))))
theorem bindN_sound {B:Blks} {base n n':Nat} {t:Mt} {k:Mt→Prop} (h:bindN B base n n' t k) (hok:t.OK B) :
    ∃t',k t'∧t.le t'∧t'.OK B ∧ ∀(g1 g2:Ctx) (w:World) x,Lk g1 w base t' g2→g1.β[n']?=some x→g2.β[n]?=some x:=by
  unfold bindN at h
  cases hb:Nat.blt n base
  · rw [hb] at h
    simp only [cond_false] at h
    have hge:base≤n:=by
      rcases Nat.lt_or_ge n base with h1 | h1
      · rw [show Nat.blt n base=true by simpa using h1] at hb;cases hb
      · exact h1
    split at h
    · rename_i q hq
      cases hb2:Nat.beq q n'
      · rw [hb2] at h;cases h
      rw [hb2] at h
      have:=Nat.eq_of_beq_eq_true hb2
      subst this
      exact⟨t,h,Mt.le.refl t,hok,fun g1 g2 w x hl hx=>hl.bound _ _ _ hge hq hx⟩
    · cases h
    · rename_i hq
      split at h
      · rename_i k' hk'
        refine⟨_,h,⟨fun m y hm=>?_,fun _ h=>h⟩,⟨fun m m' hm=>?_,hok.bor⟩,fun g1 g2 w x hl hx=>hl.bound n n' _ hge (lookN_cons_same _ _ _) hx⟩
        · have:m≠n:=by intro e;subst e;rw [hq] at hm;cases hm
          show lookN ((n,some n')::t.σ) m=_
          rw [lookN_cons_other _ _ this]
          exact hm
        · by_cases e:m=n
          · subst e
            have:lookN ((m,some n')::t.σ) m=some (some m'):=hm
            rw [lookN_cons_same] at this
            cases this
            exact⟨k',hk'⟩
          · have hm:lookN ((n,some n')::t.σ) m=some (some m'):=hm
            rw [lookN_cons_other _ _ e] at hm
            exact hok.σ _ _ hm
      · cases h
  · rw [hb] at h
    simp only [cond_true] at h
    cases hb2:Nat.beq n n'
    · rw [hb2] at h;cases h
    rw [hb2] at h
    have:=Nat.eq_of_beq_eq_true hb2
    subst this
    exact⟨t,h,Mt.le.refl t,hok,fun g1 g2 w x hl hx=>hl.kept _ _ (by simpa using hb) hx⟩
theorem bindA_sound {B:Blks} {base n:Nat} {t:Mt} {k:Mt→Prop} (h:bindA base n t k) (hok:t.OK B) :
    ∃t',k t'∧t.le t'∧t'.OK B ∧ ∀(g1 g2:Ctx) (w:World),Lk g1 w base t' g2→g2.β[n]?=some none:=by
  unfold bindA at h
  cases hb:Nat.blt n base
  · rw [hb] at h
    simp only [cond_false] at h
    have hge:base≤n:=by
      rcases Nat.lt_or_ge n base with h1 | h1
      · rw [show Nat.blt n base=true by simpa using h1] at hb;cases hb
      · exact h1
    split at h
    · cases h
    · rename_i hq
      exact⟨t,h,Mt.le.refl t,hok,fun g1 g2 w hl=>hl.absent _ hge hq⟩
    · rename_i hq
      refine⟨_,h,⟨fun m y hm=>?_,fun _ h=>h⟩,⟨fun m m' hm=>?_,hok.bor⟩,fun g1 g2 w hl=>hl.absent _ hge (lookN_cons_same _ _ _)⟩
      · have:m≠n:=by intro e;subst e;rw [hq] at hm;cases hm
        show lookN ((n,none)::t.σ) m=_
        rw [lookN_cons_other _ _ this]
        exact hm
      · by_cases e:m=n
        · subst e
          have:lookN ((m,none)::t.σ) m=some (some m'):=hm
          rw [lookN_cons_same] at this
          cases this
        · have hm:lookN ((n,none)::t.σ) m=some (some m'):=hm
          rw [lookN_cons_other _ _ e] at hm
          exact hok.σ _ _ hm
  · rw [hb] at h
    cases h
theorem eqL_true {c c':Tc} {l':List c'.den} {l:List c.den} {k:Prop} (h:eqL c c' l' l k):k ∧ ∃e:c'=c,e ▸ l'=l:=by
  unfold eqL at h
  split at h
  · rename_i r e
    obtain⟨e1,e2⟩:=castL_some e
    exact⟨h.2,e1,by rw [e2];exact h.1⟩
  · cases h
def CoeOK (B:Blks) (base:Nat) (f:SV→SV→Mt→(Mt→Prop)→Prop):Prop:=
  ∀p a t k,f p a t k→t.OK B → ∃t',k t'∧t.le t'∧t'.OK B ∧ ∀(g1 g2:Ctx) (w:World) v,Mem0 g1 B w→Lk g1 w base t' g2→Rep g1 a v→Rep g2 p v
theorem coeLw_sound {B:Blks} {base:Nat} {f:SV→SV→Mt→(Mt→Prop)→Prop} (hf:CoeOK B base f):∀(ps as:List SV) (t:Mt) (k:Mt→Prop),coeLw f ps as t k→t.OK B→
    ∃t',k t'∧t.le t'∧t'.OK B ∧ ∀(g1 g2:Ctx) (w:World) vs,Mem0 g1 B w→Lk g1 w base t' g2→RepL g1 as vs→RepL g2 ps vs
  | [],[],t,k,h,hok=>⟨t,h,Mt.le.refl t,hok,fun g1 g2 w vs _ _ r=>by rw [r.eq_nil];exact RepL.nil _⟩
  | p::ps,a::as,t,k,h,hok=>by
    obtain⟨t1,h1,l1,o1,r1⟩:=hf p a t _ h hok
    obtain⟨t2,h2,l2,o2,r2⟩:=coeLw_sound hf ps as t1 k h1 o1
    refine⟨t2,h2,l1.trans l2,o2,fun g1 g2 w vs hm hl r=>?_⟩
    obtain⟨v,vs',rfl,rv,r'⟩:=r.uncons
    exact .cons (r1 g1 g2 w v hm (hl.mono l2) rv) (r2 g1 g2 w vs' hm hl r')
  | [],_::_,t,k,h,_=>by cases h
  | _::_,[],t,k,h,_=>by cases h
theorem coeV_sound (B:Blks) (base:Nat):∀d,CoeOK B base (coeV B base d)
  | 0=>fun p a t k h _=>by cases h
  | d+1=>fun p a t k h hok=>by
    have ih:=coeV_sound B base d
    have same:k t→(∀(g1 g2:Ctx) (w:World) v,Mem0 g1 B w→Lk g1 w base t g2→Rep g1 a v→Rep g2 p v)→
        ∃t',k t'∧t.le t'∧t'.OK B ∧ ∀(g1 g2:Ctx) (w:World) v,Mem0 g1 B w→Lk g1 w base t' g2→Rep g1 a v→Rep g2 p v:=
      fun h1 h2=>⟨t,h1,Mt.le.refl t,hok,h2⟩
    unfold coeV at h
    split at h
    · exact same h fun _ _ _ v _ _ _=>.undef v
    · rename_i c n
      split at h
      · rename_i c' n'
        cases hb:Nat.beq (ikNum c) (ikNum c')
        · rw [hb] at h;cases h
        rw [hb] at h
        obtain⟨rfl,h⟩:=h
        have:=ikNum_inj hb
        subst this
        exact same h fun _ _ _ v _ hl r=>r.free rfl hl.Γ
      · cases h
    · split at h
      · obtain⟨rfl,h⟩:=h
        exact same h fun _ _ _ v _ hl r=>r.free rfl hl.Γ
      · cases h
    · split at h
      · obtain⟨rfl,h⟩:=h
        exact same h fun _ _ _ v _ hl r=>r.free rfl hl.Γ
      · cases h
    · split at h
      · exact same h fun _ _ _ v _ hl r=>r.free rfl hl.Γ
      · cases h
    · split at h
      · exact same h fun _ _ _ v _ hl r=>r.free rfl hl.Γ
      · cases h
    · split at h
      · exact same h fun _ _ _ v _ hl r=>r.free rfl hl.Γ
      · cases h
    · split at h
      · exact same h fun _ _ _ v _ hl r=>r.free rfl hl.Γ
      · cases h
    · split at h
      · exact same h fun _ _ _ v _ hl r=>r.free rfl hl.Γ
      · cases h
    · rename_i c
      split at h
      · rename_i c'
        cases hb:Nat.beq c.num c'.num
        · rw [hb] at h;cases h
        rw [hb] at h
        have:=Tc.num_inj (Nat.eq_of_beq_eq_true hb)
        subst this
        exact same h fun _ _ _ v _ hl r=>r.free rfl hl.Γ
      · cases h
    · rename_i n j
      split at h
      · rename_i n' j'
        cases hb:Nat.beq j j'
        · rw [hb] at h;cases h
        rw [hb] at h
        have:=Nat.eq_of_beq_eq_true hb
        subst this
        obtain⟨t',h1,h2,h3,h4⟩:=bindN_sound h hok
        refine⟨t',h1,h2,h3,fun g1 g2 w v _ hl r=>?_⟩
        cases r with
        | mptr _ _ r hr=>exact .mptr n j r (h4 g1 g2 w _ hl hr)
      · cases h
    · rename_i n
      split at h
      · rename_i n'
        obtain⟨t',h1,h2,h3,h4⟩:=bindN_sound h hok
        refine⟨t',h1,h2,h3,fun g1 g2 w v _ hl r=>?_⟩
        cases r with
        | mmap _ r hr=>exact .mmap n r (h4 g1 g2 w _ hl hr)
      · cases h
    · rename_i f n
      split at h
      · rename_i f' n'
        cases hb:Nat.beq f f'
        · rw [hb] at h;cases h
        rw [hb] at h
        have:=Nat.eq_of_beq_eq_true hb
        subst this
        obtain⟨t',h1,h2,h3,h4⟩:=bindN_sound h hok
        refine⟨t',h1,h2,h3,fun g1 g2 w v _ hl r=>?_⟩
        cases r with
        | seqk _ _ b r hr hb=>exact .seqk f n b r (h4 g1 g2 w _ hl hr) (hl.Γ _ _ _ hb)
      · cases h
    · rename_i c n i j
      split at h
      · rename_i c' n' i' j'
        cases hb:(Nat.beq c.num c'.num&&Nat.beq j j')
        · rw [hb] at h;cases h
        rw [hb] at h
        simp only [Bool.and_eq_true] at hb
        have:=Nat.eq_of_beq_eq_true hb.2
        subst this
        have:=Tc.num_inj (Nat.eq_of_beq_eq_true hb.1)
        subst this
        simp only [cond_true] at h
        obtain⟨t',⟨rfl,h1⟩,h2,h3,h4⟩:=bindN_sound h hok
        refine⟨t',h1,h2,h3,fun g1 g2 w v _ hl r=>?_⟩
        cases r with
        | mrow _ _ _ _ r hr=>exact .mrow c n i' j r (h4 g1 g2 w _ hl hr)
      · cases h
    · rename_i c n lo len
      split at h
      · rename_i c' n' lo' len'
        cases hb:Nat.beq c.num c'.num
        · rw [hb] at h;cases h
        rw [hb] at h
        have:=Tc.num_inj (Nat.eq_of_beq_eq_true hb)
        subst this
        simp only [cond_true] at h
        obtain⟨t',⟨rfl,rfl,h1⟩,h2,h3,h4⟩:=bindN_sound h hok
        refine⟨t',h1,h2,h3,fun g1 g2 w v _ hl r=>?_⟩
        cases r with
        | mslice _ _ _ _ cap off r hr e1 e2 e3 e4=>exact .mslice c n _ _ cap off r (h4 g1 g2 w _ hl hr) e1 e2 e3 e4
        | mslice0 _ _ _ a x hx=>exact .mslice0 c n _ a x (h4 g1 g2 w _ hl hx)
      · obtain⟨t',⟨rfl,h1⟩,h2,h3,h4⟩:=bindA_sound h hok
        refine⟨t',h1,h2,h3,fun g1 g2 w v _ hl r=>?_⟩
        cases r with
        | nils=>exact .mslice0 _ _ _ _ none (h4 g1 g2 w hl)
      · obtain⟨t',⟨rfl,h1⟩,h2,h3,h4⟩:=bindA_sound h hok
        refine⟨t',h1,h2,h3,fun g1 g2 w v _ hl r=>?_⟩
        cases r with
        | emp _ a=>exact .mslice0 _ _ _ _ none (h4 g1 g2 w hl)
      · cases h
    · rename_i x n lo len
      split at h
      · rename_i x' n' lo' len'
        cases hb:(Nat.beq x x'&&Nat.beq lo lo'&&Nat.beq len len')
        · rw [hb] at h;cases h
        rw [hb] at h
        simp only [Bool.and_eq_true] at hb
        have:=Nat.eq_of_beq_eq_true hb.1.1
        subst this
        have:=Nat.eq_of_beq_eq_true hb.1.2
        subst this
        have:=Nat.eq_of_beq_eq_true hb.2
        subst this
        obtain⟨t',h1,h2,h3,h4⟩:=bindN_sound h hok
        refine⟨t',h1,h2,h3,fun g1 g2 w v _ hl r=>?_⟩
        cases r with
        | cslice _ _ _ _ cap off r hr e1 e3=>exact .cslice x n _ _ cap off r (h4 g1 g2 w _ hl hr) e1 e3
      · cases h
    · rename_i cs
      split at h
      · rename_i cs'
        obtain⟨t',h1,h2,h3,h4⟩:=coeLw_sound ih _ _ _ _ h hok
        refine⟨t',h1,h2,h3,fun g1 g2 w v hm hl r=>?_⟩
        cases r with
        | rptr _ b off vs e1 e2 e3=>
          obtain⟨f1,f2⟩:=h4 g1 g2 w vs hm hl ⟨e1,e2⟩
          exact .rptr cs b off vs f1 f2 (fun j v e=>hl.Γ _ _ _ (e3 j v e))
      · cases h
    · rename_i nn c l
      split at h
      · rename_i nn' c' l'
        cases hb:(nn && !nn')
        · rw [hb] at h
          obtain⟨h',rfl,rfl⟩:=eqL_true h
          refine same h' fun _ _ _ v _ hl r=>?_
          have r:=r.free (g':=_) rfl hl.Γ
          cases r with
          | rnil _ a=>
            cases nn
            · exact .rnil _ _
            · simp at hb
          | rslice _ _ _ b off cap vs e1 e2 e3 e4 e5=>exact .rslice nn _ _ b off cap vs e1 e2 e3 e4 e5
        · rw [hb] at h;cases h
      · cases nn
        · obtain⟨rfl,h⟩:=h
          refine same h fun _ _ _ v _ hl r=>?_
          cases r
          exact .rnil _ _
        · cases h
      · cases nn
        · obtain⟨rfl,h⟩:=h
          refine same h fun _ _ _ v _ hl r=>?_
          cases r
          exact .rnil _ _
        · cases h
      · rename_i c' n' lo len
        cases nn
        · simp only [cond_false] at h
          split at h
          case h_2=>cases h
          rename_i c'' l' hn
          cases hb:Nat.beq c'.num c''.num
          · rw [hb] at h;cases h
          rw [hb] at h
          have:=Tc.num_inj (Nat.eq_of_beq_eq_true hb)
          subst this
          obtain⟨hle,h⟩:=h
          obtain⟨h',rfl,rfl⟩:=eqL_true h
          refine⟨_,h',⟨fun _ _ q=>q,fun n hn=>List.mem_cons_of_mem _ hn⟩,⟨hok.σ,fun q hq=>?_⟩,fun g1 g2 w v hm hl r=>?_⟩
          · rcases List.mem_cons.1 hq with e | e
            · subst e;exact⟨_,hn⟩
            · exact hok.bor _ e
          · cases r with
            | mslice0 _ _ _ a q hq=>
              simp only [List.take_zero]
              exact .rnil _ _
            | mslice _ _ _ _ cap off r hr h1 h2 h3=>
              obtain⟨_,_,_,vs,hw,hrow,hc⟩:=hm.at_name hn hr
              have hw':=hrow
              refine rows_still (g:=g2) (w:=w) (r:=r) (vs:=vs) hw (fun i x hx=>(hrow i x hx).enc hl.Γ) hc (fun _ _ q=>q) (fun o v hv=>hl.bor n' r o v (by simp) hr hv) hle h1 h2 h3
        · cases h
      · cases h
    · rename_i f x y
      split at h
      · rename_i f' x' y'
        cases hb:Nat.beq f f'
        · rw [hb] at h;cases h
        rw [hb] at h
        have:=Nat.eq_of_beq_eq_true hb
        subst this
        obtain⟨t1,h1,l1,o1,r1⟩:=coeLw_sound ih _ _ _ _ h hok
        obtain⟨t2,h2,l2,o2,r2⟩:=coeLw_sound ih _ _ _ _ h1 o1
        refine⟨t2,h2,l1.trans l2,o2,fun g1 g2 w v hm hl r=>?_⟩
        cases r with
        | fn _ _ _ us vs e1 e2 e3 e4=>
          obtain⟨a1,a2⟩:=r1 g1 g2 w us hm (hl.mono l2) ⟨e1,e3⟩
          obtain⟨b1,b2⟩:=r2 g1 g2 w vs hm hl ⟨e2,e4⟩
          exact .fn f _ _ us vs a1 b1 a2 b2
      · cases h
    · rename_i T x
      split at h
      · rename_i T' x'
        cases hb:Nat.beq T T'
        · rw [hb] at h;cases h
        rw [hb] at h
        have:=Nat.eq_of_beq_eq_true hb
        subst this
        obtain⟨t',h1,h2,h3,h4⟩:=ih _ _ _ _ h hok
        refine⟨t',h1,h2,h3,fun g1 g2 w v hm hl r=>?_⟩
        cases r with
        | iface _ _ v' hv'=>exact .iface T _ v' (h4 g1 g2 w v' hm hl hv')
      · cases h
    · split at h
      · obtain⟨t',h1,h2,h3,h4⟩:=coeLw_sound ih _ _ _ _ h hok
        refine⟨t',h1,h2,h3,fun g1 g2 w v hm hl r=>?_⟩
        cases r with
        | agg _ vs e1 e2=>
          obtain⟨f1,f2⟩:=h4 g1 g2 w vs hm hl ⟨e1,e2⟩
          exact .agg _ vs f1 f2
      · cases h
    · split at h
      · obtain⟨t',h1,h2,h3,h4⟩:=coeLw_sound ih _ _ _ _ h hok
        refine⟨t',h1,h2,h3,fun g1 g2 w v hm hl r=>?_⟩
        cases r with
        | tuple _ vs e1 e2=>
          obtain⟨f1,f2⟩:=h4 g1 g2 w vs hm hl ⟨e1,e2⟩
          exact .tuple _ vs f1 f2
      · cases h
    · rename_i x
      split at h
      · obtain⟨rfl,h⟩:=h
        exact same h fun _ _ _ v _ hl r=>r.free rfl hl.Γ
      · obtain⟨rfl,h⟩:=h
        refine same h fun _ _ _ v _ hl r=>?_
        cases r
        exact .treeNil _ rfl
      · rename_i n' j
        cases hb:Nat.beq j 0
        · rw [hb] at h;cases h
        rw [hb] at h
        have:=Nat.eq_of_beq_eq_true hb
        subst this
        simp only [cond_true] at h
        split at h
        case h_2=>cases h
        rename_i cs hn
        split at h
        case h_2=>cases h
        rename_i x' hx
        obtain⟨rfl,h'⟩:=h
        refine⟨_,h',⟨fun _ _ q=>q,fun n hn=>List.mem_cons_of_mem _ hn⟩,⟨hok.σ,fun q hq=>?_⟩,fun g1 g2 w v hm hl r=>?_⟩
        · rcases List.mem_cons.1 hq with e | e
          · subst e;exact⟨_,hn⟩
          · exact hok.bor _ e
        · cases r with
          | mptr _ _ r hr=>
            obtain⟨_,_,vs,hrow,hc⟩:=hm.at_name hn hr
            obtain⟨h0,hrow⟩:=decT_rep hx hrow
            have hrow2:RepL g2 x'.cells vs:=⟨hrow.1,fun j sv v a b=>(hrow.2 j sv v a b).free (List.all_eq_true.1 (by rfl:x'.cells.all SV.free=true) sv (List.mem_of_getElem? a)) hl.Γ⟩
            exact .tree x' r.b (r.base+0) vs h0 hrow2.1 hrow2.2 (fun j v hj=>hl.bor n' r _ v (by simp) hr (by simpa using hc j v hj))
      · cases h
    · cases h
end Go.Proofs.YtgepebndihfnfaaGreat.Sx
namespace Go.Proofs.YtgepebndihfnfaaGreat.Sx
universe u
open Go
def coeB (B:Blks) (base d:Nat) (kp ka:Blk) (t:Mt) (k:Mt→Prop):Prop:=
  match kp with
  | .cells ps=>match ka with
    | .cells as=>coeLw (coeV B base d) ps as t k
    | _=>Bad "match: cells" ""
  | .rows c l=>match ka with
    | .rows c' l'=>eqL c c' l' l (k t)
    | _=>Bad "match: rows" ""
  | .kv l=>match ka with
    | .kv l'=>l'=l∧k t
    | _=>Bad "match: kv" ""
def coeBs (B:Blks) (base d:Nat):Blks→Mt→(Mt→Prop)→Prop
  | [],t,k=>k t
  | (n,kp)::r,t,k=>
    bif Nat.blt n base then
      match B.get n with
      | some ka=>coeB B base d kp ka t fun t=>coeBs B base d r t k
      | none=>Bad "match: no region" ""
    else match t.get n with
      | some (some n')=>match B.get n' with
        | some ka=>coeB B base d kp ka t fun t=>coeBs B base d r t k
        | none=>Bad "match: no region" ""
      | some none=>match kp with
        | .rows c l=>([]:List c.den)=l∧coeBs B base d r t k
        | _=>Bad "match: absent cells" ""
      | none=>Bad "match: not bound" ""
def SrcAt (g1 g2:Ctx) (w:World) (B:Blks) (base:Nat) (t:Mt) (n:Nat) (kp:Blk):Prop:=
  ∃x,g2.β[n]?=some x∧NameOK g2 w kp x ∧ ∀r,x=some r → ∃q ka,(n<base∧q=n∨base≤n∧t.get n=some (some q))∧B.get q=some ka∧g1.β[q]?=some (some r)
theorem SrcAt.mono {g1 g2:Ctx} {w:World} {B:Blks} {base:Nat} {t t':Mt} {n:Nat} {kp:Blk} (h:SrcAt g1 g2 w B base t n kp) (hl:t.le t'):SrcAt g1 g2 w B base t' n kp:=by
  obtain⟨x,a,b,c⟩:=h
  refine⟨x,a,b,fun r e=>?_⟩
  obtain⟨q,ka,h1,h2,h3⟩:=c r e
  exact⟨q,ka,h1.imp (fun h=>h) (fun h=>⟨h.1,hl.σ _ _ h.2⟩),h2,h3⟩
theorem coeB_sound {B:Blks} {base d:Nat} {kp ka:Blk} {t:Mt} {k:Mt→Prop} (h:coeB B base d kp ka t k) (hok:t.OK B) :
    ∃t',k t'∧t.le t'∧t'.OK B ∧ ∀(g1 g2:Ctx) (w:World) x,Mem0 g1 B w→Lk g1 w base t' g2→NameOK g1 w ka x→NameOK g2 w kp x:=by
  unfold coeB at h
  split at h
  · rename_i ps
    split at h
    · rename_i as
      obtain⟨t',h1,h2,h3,h4⟩:=coeLw_sound (coeV_sound B base d) _ _ _ _ h hok
      refine⟨t',h1,h2,h3,fun g1 g2 w x hm hl hn=>?_⟩
      cases x with
      | none=>obtain⟨c,hc⟩:=hn;cases hc
      | some r=>
        obtain⟨hr,hle,vs,rv,hc⟩:=hn
        have:=h4 g1 g2 w vs hm hl rv
        exact⟨hr,by rw [this.1,←rv.1];exact hle,vs,this,hc⟩
    · cases h
  · rename_i c l
    split at h
    · rename_i c' l'
      obtain⟨h',rfl,rfl⟩:=eqL_true h
      refine⟨t,h',Mt.le.refl t,hok,fun g1 g2 w x hm hl hn=>?_⟩
      cases x with
      | none=>exact hn
      | some r=>
        obtain⟨hr,a,a',vs,b,b',e⟩:=hn
        exact⟨hr,a,a',vs,b,fun i x hx=>(b' i x hx).enc hl.Γ,e⟩
    · cases h
  · rename_i l
    split at h
    · obtain⟨rfl,h'⟩:=h
      refine⟨t,h',Mt.le.refl t,hok,fun g1 g2 w x hm hl hn=>?_⟩
      cases x with
      | none=>obtain⟨c,hc⟩:=hn;cases hc
      | some r=>exact hn
    · cases h
theorem coeBs_sound {B:Blks} {base d:Nat}:∀(pb:Blks) (t:Mt) (k:Mt→Prop),coeBs B base d pb t k→t.OK B→
    ∃t',k t'∧t.le t'∧t'.OK B ∧ ∀(g1 g2:Ctx) (w:World),Mem0 g1 B w→Lk g1 w base t' g2 → ∀p,p∈pb→SrcAt g1 g2 w B base t' p.1 p.2
  | [],t,k,h,hok=>⟨t,h,Mt.le.refl t,hok,fun _ _ _ _ _ p hp=>by cases hp⟩
  | (n,kp)::r,t,k,h,hok=>by
    unfold coeBs at h
    cases hb:Nat.blt n base
    · rw [hb] at h
      simp only [cond_false] at h
      have hge:base≤n:=by
        rcases Nat.lt_or_ge n base with h1 | h1
        · rw [show Nat.blt n base=true by simpa using h1] at hb;cases hb
        · exact h1
      split at h
      · rename_i n' hn'
        split at h
        · rename_i ka hka
          obtain⟨t1,h1,l1,o1,s1⟩:=coeB_sound h hok
          obtain⟨t2,h2,l2,o2,s2⟩:=coeBs_sound r t1 k h1 o1
          refine⟨t2,h2,l1.trans l2,o2,fun g1 g2 w hm hl p hp=>?_⟩
          rcases List.mem_cons.1 hp with e | e
          · subst e
            obtain⟨x,hx,hok'⟩:=hm.reg _ _ hka
            have hg:=(l1.trans l2).σ _ _ hn'
            refine⟨x,hl.bound _ _ _ hge hg hx,s1 g1 g2 w x hm (hl.mono l2) hok',fun r e=>⟨n',ka,.inr ⟨hge,hg⟩,hka,?_⟩⟩
            subst e;exact hx
          · exact s2 g1 g2 w hm hl p e
        · cases h
      · rename_i hn'
        split at h
        · rename_i c l
          obtain⟨rfl,h⟩:=h
          obtain⟨t2,h2,l2,o2,s2⟩:=coeBs_sound r t k h hok
          refine⟨t2,h2,l2,o2,fun g1 g2 w hm hl p hp=>?_⟩
          rcases List.mem_cons.1 hp with e | e
          · subst e
            exact⟨none,hl.absent _ hge (l2.σ _ _ hn'),⟨c,rfl⟩,fun r e=>by cases e⟩
          · exact s2 g1 g2 w hm hl p e
        · cases h
      · cases h
    · rw [hb] at h
      simp only [cond_true] at h
      have hlt:n<base:=by simpa using hb
      split at h
      · rename_i ka hka
        obtain⟨t1,h1,l1,o1,s1⟩:=coeB_sound h hok
        obtain⟨t2,h2,l2,o2,s2⟩:=coeBs_sound r t1 k h1 o1
        refine⟨t2,h2,l1.trans l2,o2,fun g1 g2 w hm hl p hp=>?_⟩
        rcases List.mem_cons.1 hp with e | e
        · subst e
          obtain⟨x,hx,hok'⟩:=hm.reg _ _ hka
          refine⟨x,hl.kept _ _ hlt hx,s1 g1 g2 w x hm (hl.mono l2) hok',fun r e=>⟨n,ka,.inl ⟨hlt,rfl⟩,hka,?_⟩⟩
          subst e;exact hx
        · exact s2 g1 g2 w hm hl p e
      · cases h
def anyN (l:List Nat) (n:Nat):Bool:=l.any (Nat.beq n)
theorem anyN_iff {l:List Nat} {n:Nat}:anyN l n=true↔n∈l:=by
  simp [anyN]
theorem anyN_false {l:List Nat} {n:Nat} (h:anyN l n=false):n ∉ l:=fun e=>by rw [anyN_iff.2 e] at h;cases h
def injN:List (Nat × Option Nat)→Bool
  | []=>true
  | (_,none)::r=>injN r
  | (_,some q)::r=>r.all (fun p=>match p.2 with
    | some q'=>!(Nat.beq q q')
    | none=>true)&&injN r
def allTo:Nat→(Nat→Bool)→Bool
  | 0,_=>true
  | n+1,f=>f n&&allTo n f
theorem allTo_iff {n:Nat} {f:Nat→Bool} (h:allTo n f=true):∀i,i<n→f i=true:=by
  induction n with
  | zero=>intro i hi;omega
  | succ n ih=>
    simp only [allTo,Bool.and_eq_true] at h
    intro i hi
    by_cases e:i=n
    · subst e;exact h.1
    · exact ih h.2 i (by omega)
def okMt (base fresh:Nat) (kept:List Nat) (t:Mt):Bool:=
  allTo fresh (fun i=>(t.get (base+i)).isSome)&&injN t.σ &&
  t.σ.all (fun p=>Nat.blt p.1 (base+fresh)&&(match p.2 with
    | some q=>!(anyN kept q) && !(anyN t.bor q)
    | none=>true))&&kept.all (fun n=>!(anyN t.bor n))
structure OkMt (base fresh:Nat) (ks:List Nat) (t:Mt):Prop where
  all:∀i,i<fresh → ∃y,t.get (base+i)=some y
  below:∀n y,t.get n=some y→n<base+fresh
  inj:∀n n' q,t.get n=some (some q)→t.get n'=some (some q)→n=n'
  kept:∀n q,t.get n=some (some q)→q ∉ ks
  bor:∀n q,t.get n=some (some q)→q ∉ t.bor
  kb:∀n,n∈ks→n ∉ t.bor
theorem lookN_mem {α:Type u} {l:List (Nat × α)} {n:Nat} {x:α} (h:lookN l n=some x):(n,x)∈l:=by
  induction l with
  | nil=>cases h
  | cons p r ih=>
    obtain⟨m,y⟩:=p
    simp only [lookN] at h
    cases hb:Nat.beq m n
    · rw [hb] at h;exact List.mem_cons_of_mem _ (ih h)
    · rw [hb] at h
      have:=Nat.eq_of_beq_eq_true hb
      subst this
      cases h
      exact List.mem_cons_self ..
theorem injN_sound {l:List (Nat × Option Nat)} (h:injN l=true):∀n n' q,lookN l n=some (some q)→lookN l n'=some (some q)→n=n':=by
  induction l with
  | nil=>intro n n' q h;cases h
  | cons p r ih=>
    obtain⟨m,y⟩:=p
    intro n n' q h1 h2
    cases y with
    | none=>
      simp only [injN] at h
      simp only [lookN] at h1 h2
      cases hb:Nat.beq m n<;>rw [hb] at h1<;>cases hb':Nat.beq m n'<;>rw [hb'] at h2
      · exact ih h n n' q h1 h2
      · cases h2
      · cases h1
      · cases h1
    | some z=>
      simp only [injN,Bool.and_eq_true] at h
      simp only [lookN] at h1 h2
      have key:∀n,lookN r n=some (some z)→False:=fun n hn=>by
        have:=List.all_eq_true.1 h.1 _ (lookN_mem hn)
        simp at this
      cases hb:Nat.beq m n<;>rw [hb] at h1<;>cases hb':Nat.beq m n'<;>rw [hb'] at h2
      · exact ih h.2 n n' q h1 h2
      · cases h2;exact (key n h1).elim
      · cases h1;exact (key n' h2).elim
      · rw [←Nat.eq_of_beq_eq_true hb,←Nat.eq_of_beq_eq_true hb']
theorem okMt_sound {base fresh:Nat} {kept:List Nat} {t:Mt} (h:okMt base fresh kept t=true):OkMt base fresh kept t:=by
  simp only [okMt,Bool.and_eq_true] at h
  obtain⟨⟨⟨h1,h2⟩,h3⟩,h4⟩:=h
  have h5:∀n y,t.get n=some y→n<base+fresh∧(match y with
      | some q=>!(anyN kept q) && !(anyN t.bor q)
      | none=>true)=true:=fun n y hn=>by
    have:=List.all_eq_true.1 h3 _ (lookN_mem hn)
    simp only [Bool.and_eq_true,Nat.blt_eq] at this
    exact this
  refine⟨fun i hi=>Option.isSome_iff_exists.1 (allTo_iff h1 i hi),fun n y hn=>(h5 n y hn).1,injN_sound h2,fun n q hn=>?_,fun n q hn=>?_,fun n hn=>?_⟩
  · have:=(h5 n _ hn).2
    simp only [Bool.and_eq_true,Bool.not_eq_true'] at this
    exact anyN_false this.1
  · have:=(h5 n _ hn).2
    simp only [Bool.and_eq_true,Bool.not_eq_true'] at this
    exact anyN_false this.2
  · have:=List.all_eq_true.1 h4 n hn
    simp only [Bool.not_eq_true'] at this
    exact anyN_false this
theorem Mt.land {g1:Ctx} {B:Blks} {w:World} {base fresh:Nat} {kept:List Nat} {t:Mt} (hm:Mem0 g1 B w) (hbase:base≤g1.β.length) (ok:OkMt base fresh kept t) (tok:t.OK B) :
    ∃g2:Ctx,Lk g1 w base t g2∧g2.β.length=base+fresh∧(∀(n:Nat),n<base→g2.β[n]?=g1.β[n]?)∧
      (∀b o v,g2.Γ b o=some v→g1.Γ b o=some v ∨ ∃n',n'∈t.bor ∧ ∃r:Reg,g1.β[n']?=some (some r)∧r.b=b)∧(∀b o v,g2.Γ b o=some v→w.cell? ⟨b,o,none⟩=some v):=by
  classical
  let pick:Nat→Option Reg:=fun i=>match t.get (base+i) with
    | some (some n')=>(g1.β[n']?).getD none
    | _=>none
  let isB:Nat→Prop:=fun b=>∃n',n'∈t.bor ∧ ∃r:Reg,g1.β[n']?=some (some r)∧r.b=b
  let g2:Ctx:=⟨g1.β.take base++(List.range fresh).map pick,fun b o=>if isB b then w.cell? ⟨b,o,none⟩ else g1.Γ b o⟩
  have hlen:(g1.β.take base).length=base:=by simp;omega
  have hlo:∀n,n<base→g2.β[n]?=g1.β[n]?:=fun n hn=>by
    show (g1.β.take base++_)[n]?=_
    rw [List.getElem?_append_left (by omega),List.getElem?_take_of_lt hn]
  have hhi:∀n,base≤n→n<base+fresh→g2.β[n]?=some (pick (n-base)):=fun n h1 h2=>by
    show (g1.β.take base++_)[n]?=_
    rw [List.getElem?_append_right (by omega),hlen,List.getElem?_map,List.getElem?_range (by omega)]
    rfl
  refine⟨g2,⟨fun n x hn hx=>?_,fun n n' x hn hg hx=>?_,fun n hn hg=>?_,fun b o v hv=>?_,fun n' r o v hn hr hv=>?_⟩,?_,hlo,fun b o v hv=>?_,fun b o v hv=>?_⟩
  · rw [hlo n hn];exact hx
  · rw [hhi n hn (ok.below _ _ hg)]
    simp only [pick,show base+(n-base)=n by omega,hg,hx,Option.getD_some]
  · rw [hhi n hn (ok.below _ _ hg)]
    simp only [pick,show base+(n-base)=n by omega,hg]
  · show (if isB b then _ else _)=some v
    split
    · exact hm.ro _ _ _ hv
    · exact hv
  · show (if isB r.b then _ else _)=some v
    rw [if_pos ⟨n',hn,r,hr,rfl⟩]
    exact hv
  · show (g1.β.take base++_).length=_
    simp;omega
  · have hv:(if isB b then w.cell? ⟨b,o,none⟩ else g1.Γ b o)=some v:=hv
    split at hv
    · rename_i hb;exact .inr hb
    · exact .inl hv
  · have hv:(if isB b then w.cell? ⟨b,o,none⟩ else g1.Γ b o)=some v:=hv
    split at hv
    · exact hv
    · exact hm.ro _ _ _ hv
theorem Mt.mem0 {g1 g2:Ctx} {B B2:Blks} {w:World} {base fresh:Nat} {kept:List Nat} {t:Mt} (hm:Mem0 g1 B w) (ok:OkMt base fresh kept t) (tok:t.OK B)
    (hΓ:∀b o v,g2.Γ b o=some v→g1.Γ b o=some v ∨ ∃n',n'∈t.bor ∧ ∃r:Reg,g1.β[n']?=some (some r)∧r.b=b) (hro:∀b o v,g2.Γ b o=some v→w.cell? ⟨b,o,none⟩=some v)
    (hB:∀n k,B2.get n=some k→SrcAt g1 g2 w B base t n k∧(n<base→n∈kept)):Mem0 g2 B2 w:=by
  have src:∀n k r,B2.get n=some k→g2.β[n]?=some (some r) → ∃q ka,(n<base∧q=n∧n∈kept∨base≤n∧t.get n=some (some q))∧B.get q=some ka∧g1.β[q]?=some (some r):=by
    intro n k r hn hr
    obtain⟨⟨x,a,_,c⟩,hk⟩:=hB n k hn
    rw [hr] at a
    cases a
    obtain⟨q,ka,h1,h2,h3⟩:=c r rfl
    refine⟨q,ka,?_,h2,h3⟩
    rcases h1 with ⟨h1,h4⟩ | h1
    · exact .inl ⟨h1,h4,hk h1⟩
    · exact .inr h1
  refine⟨fun n k hn=>?_,fun n n' k k' r r' h1 h2 hr hr' hb=>?_,fun b o v hv=>hro b o v hv,fun n k r o hn hr=>?_⟩
  · obtain⟨⟨x,a,b,_⟩,_⟩:=hB n k hn
    exact⟨x,a,b⟩
  · obtain⟨q,ka,s1,b1,r1⟩:=src n k r h1 hr
    obtain⟨q',ka',s2,b2,r2⟩:=src n' k' r' h2 hr'
    have:=hm.inj q q' ka ka' r r' b1 b2 r1 r2 hb
    subst this
    rcases s1 with ⟨_,e1,m1⟩ | ⟨_,e1⟩<;>rcases s2 with ⟨_,e2,m2⟩ | ⟨_,e2⟩
    · rw [←e1,←e2]
    · subst e1;exact absurd m1 (ok.kept _ _ e2)
    · subst e2;exact absurd m2 (ok.kept _ _ e1)
    · exact ok.inj _ _ _ e1 e2
  · obtain⟨q,ka,s1,b1,r1⟩:=src n k r hn hr
    cases hv:g2.Γ r.b o with
    | none=>rfl
    | some v=>
      rcases hΓ _ _ _ hv with h | ⟨n',hn',r',hr',hb⟩
      · rw [hm.apart q ka r o b1 r1] at h;cases h
      · obtain⟨kb,hkb⟩:=tok.bor n' hn'
        have:=hm.inj n' q kb ka r' r hkb b1 hr' r1 hb
        subst this
        rcases s1 with ⟨_,e1,m1⟩ | ⟨_,e1⟩
        · subst e1;exact absurd hn' (ok.kb _ m1)
        · exact absurd hn' (ok.bor _ _ e1)
def matchTo (m:MS) (base fresh:Nat) (kept:List Nat) (ps as:List SV) (pb:Blks) (k:Mt→Prop):Prop:=
  coeLw (coeV m.blks base 12) ps as ⟨[],[]⟩ (fun t=>coeBs m.blks base 12 pb t fun t=>bif okMt base fresh kept t then k t else Bad "match: names" "")
theorem matchTo_sound {m:MS} {base fresh:Nat} {kept:List Nat} {ps as:List SV} {pb:Blks} {k:Mt→Prop} (h:matchTo m base fresh kept ps as pb k) :
    ∃t,k t∧OkMt base fresh kept t∧t.OK m.blks∧(∀(g1 g2:Ctx) (w:World) vs,Mem0 g1 m.blks w→Lk g1 w base t g2→RepL g1 as vs→RepL g2 ps vs)∧
      ∀(g1 g2:Ctx) (w:World),Mem0 g1 m.blks w→Lk g1 w base t g2 → ∀p,p∈pb→SrcAt g1 g2 w m.blks base t p.1 p.2:=by
  obtain⟨t1,h1,l1,o1,r1⟩:=coeLw_sound (coeV_sound m.blks base 12) _ _ _ _ h ⟨(fun n n' h=>by cases h),(fun n h=>by cases h)⟩
  obtain⟨t2,h2,l2,o2,s2⟩:=coeBs_sound _ _ _ h1 o1
  cases hb:okMt base fresh kept t2
  · rw [hb] at h2;cases h2
  rw [hb] at h2
  exact⟨t2,h2,okMt_sound hb,o2,fun g1 g2 w vs hm hl r=>r1 g1 g2 w vs hm (hl.mono l2) r,s2⟩
theorem Blks.get_mem {B:Blks} {n:Nat} {k:Blk} (h:B.get n=some k):(n,k)∈B:=by
  induction B with
  | nil=>cases h
  | cons p r ih=>
    obtain⟨m,y⟩:=p
    simp only [Blks.get] at h
    cases hb:Nat.beq m n
    · rw [hb] at h;exact List.mem_cons_of_mem _ (ih h)
    · rw [hb] at h
      have:=Nat.eq_of_beq_eq_true hb
      subst this
      cases h
      exact List.mem_cons_self ..
end Go.Proofs.YtgepebndihfnfaaGreat.Sx
namespace Go.Proofs.YtgepebndihfnfaaGreat.Sx
open Go
structure LInv where
  σ:Type
  I:σ→Prop
  μ:σ→Nat
  env:σ→List (Nat × SV)
  blk:σ→Blks
  fresh:Nat
  drop:List Nat
def eqNs:List Nat→List Nat→Bool
  | [],[]=>true
  | a::r,b::q=>Nat.beq a b&&eqNs r q
  | _,_=>false
theorem eqNs_sound:∀ {a b:List Nat},eqNs a b=true→a=b
  | [],[],_=>rfl
  | a::r,b::q,h=>by
    simp only [eqNs,Bool.and_eq_true] at h
    rw [Nat.eq_of_beq_eq_true h.1,eqNs_sound h.2]
def namesOf (B:Blks):List Nat:=B.map (·.1)
def keptOf (B:Blks) (drop:List Nat):List Nat:=(namesOf B).filter fun n=>!(anyN drop n)
def headBlks (B pb:Blks) (drop:List Nat):Blks:=pb++B.filter fun p=>!(anyN drop p.1) && !(anyN (namesOf pb) p.1)
def headSt (s:St) (as:List Nat) (L:LInv) (x:L.σ):St:=
  {env:=L.env x++s.env.filter (fun p=>!(anyN as p.1)),nt:=s.nt,
    m:={blks:=headBlks s.m.blks (L.blk x) L.drop,next:=s.m.next+L.fresh,log:=[]}}
def atHead (s0:St) (L:LInv) (s:St) (x:L.σ) (Q:Prop):Prop:=
  matchTo s.m s0.m.next L.fresh (keptOf s0.m.blks L.drop) ((L.env x).map (·.2)) ((L.env x).map fun p=>getE s.env p.1) (L.blk x)
    fun _=>bif Nat.beq s.nt s0.nt&&(namesOf (L.blk x)).all (fun n=>!(Nat.blt n s0.m.next)||anyN (keptOf s0.m.blks L.drop) n) then Q else Bad "loop: names" ""
def loopSpec (inv:St→LInv):LoopSpec:=fun c run K s=>
  (∃x,atHead s (inv s) s x ((inv s).I x))∧
  ∀x,(inv s).I x→run (fun e s'=>match e with
    | .normal=>bif s'.m.log.all (fun n=>!(Nat.blt n s.m.next)||anyN (inv s).drop n||anyN (namesOf ((inv s).blk x)) n) then
        ∃y,atHead s (inv s) s' y (bif eqNs (namesOf ((inv s).blk y)) (namesOf ((inv s).blk x)) then (inv s).I y∧(inv s).μ y<(inv s).μ x else Bad "loop: names" "") else Bad "loop: other regions" ""
    | e=>K e {s' with m:={s'.m with log:=s'.m.log++((inv s).drop++namesOf ((inv s).blk x)++s.m.log)}}) (headSt s (asg c) (inv s) x)
theorem Ctx.le.length {g g':Ctx} (h:g.le g'):g.β.length≤g'.β.length:=by
  rcases Nat.eq_zero_or_pos g.β.length with e | e
  · omega
  · have:g.β[g.β.length-1]?=some g.β[g.β.length-1]:=List.getElem?_eq_getElem (by omega)
    have:=(List.getElem?_eq_some_iff.1 (h.β _ _ this)).1
    omega
theorem get_filter {B:Blks} {f:Nat→Bool}:∀ {n:Nat},(Blks.get (B.filter fun p=>f p.1) n)=if f n=true then B.get n else none:=by
  induction B with
  | nil=>intro n;simp [Blks.get]
  | cons p r ih=>
    obtain⟨m,y⟩:=p
    intro n
    by_cases hf:f m=true
    · rw [List.filter_cons_of_pos (by exact hf)]
      simp only [Blks.get]
      cases hb:Nat.beq m n
      · simp only [cond_false];exact ih
      · have:=Nat.eq_of_beq_eq_true hb
        subst this
        simp [hf]
    · rw [List.filter_cons_of_neg (by exact hf),ih]
      simp only [Blks.get]
      cases hb:Nat.beq m n
      · rfl
      · have:=Nat.eq_of_beq_eq_true hb
        subst this
        simp [hf]
theorem get_append {A B:Blks} {n:Nat}:Blks.get (A++B) n=match A.get n with
    | some k=>some k
    | none=>B.get n:=by
  induction A with
  | nil=>rfl
  | cons p r ih=>
    obtain⟨m,y⟩:=p
    simp only [List.cons_append,Blks.get]
    cases hb:Nat.beq m n
    · simpa using ih
    · rfl
theorem get_none_iff {B:Blks} {n:Nat}:B.get n=none↔n ∉ namesOf B:=by
  induction B with
  | nil=>simp [Blks.get,namesOf]
  | cons p r ih=>
    obtain⟨m,y⟩:=p
    simp only [Blks.get,namesOf,List.map_cons,List.mem_cons]
    cases hb:Nat.beq m n
    · simp only [cond_false,ih,namesOf]
      have:n≠m:=by intro e;subst e;rw [Nat.beq_refl] at hb;cases hb
      simp [this]
    · have:=Nat.eq_of_beq_eq_true hb
      subst this
      simp
theorem mem_names {B:Blks} {n:Nat} {k:Blk} (h:B.get n=some k):n∈namesOf B:=by
  by_cases e:n∈namesOf B
  · exact e
  · rw [get_none_iff.2 e] at h;cases h
theorem getE_append (A B:List (Nat × SV)) (t:Nat):getE (A++B) t=if t∈A.map (·.1) then getE A t else getE B t:=by
  induction A with
  | nil=>simp
  | cons p r ih=>
    obtain⟨m,y⟩:=p
    simp only [List.cons_append,getE,List.map_cons,List.mem_cons]
    cases hb:Nat.beq m t
    · have:t≠m:=by intro e;subst e;rw [Nat.beq_refl] at hb;cases hb
      simp only [cond_false,ih,this,false_or]
    · have:=Nat.eq_of_beq_eq_true hb
      subst this
      simp
theorem getE_filter (A:List (Nat × SV)) (f:Nat→Bool) (t:Nat):getE (A.filter fun p=>f p.1) t=if f t=true then getE A t else .undef:=by
  induction A with
  | nil=>simp [getE]
  | cons p r ih=>
    obtain⟨m,y⟩:=p
    by_cases hf:f m=true
    · rw [List.filter_cons_of_pos (by exact hf)]
      simp only [getE]
      cases hb:Nat.beq m t
      · simp only [cond_false];exact ih
      · have:=Nat.eq_of_beq_eq_true hb
        subst this
        simp [hf]
    · rw [List.filter_cons_of_neg (by exact hf),ih]
      simp only [getE]
      cases hb:Nat.beq m t
      · rfl
      · have:=Nat.eq_of_beq_eq_true hb
        subst this
        simp [hf]
theorem getE_mem {A:List (Nat × SV)} {t:Nat} (h:t∈A.map (·.1)):∃j:Nat,A[j]?=some (t,getE A t):=by
  induction A with
  | nil=>simp at h
  | cons p r ih=>
    obtain⟨m,y⟩:=p
    simp only [getE]
    cases hb:Nat.beq m t
    · have hne:t≠m:=by intro e;subst e;rw [Nat.beq_refl] at hb;cases hb
      simp only [List.map_cons,List.mem_cons,hne,false_or] at h
      obtain⟨j,hj⟩:=ih h
      exact⟨j+1,by simpa using hj⟩
    · have:=Nat.eq_of_beq_eq_true hb
      subst this
      exact⟨0,by simp⟩
theorem repL_slots {g:Ctx} {env:List (Nat × SV)} {tv:Nat→Value} (h:∀t,Rep g (getE env t) (tv t)) (l:List (Nat × SV)):RepL g (l.map fun p=>getE env p.1) (l.map fun p=>tv p.1):=by
  induction l with
  | nil=>exact RepL.nil g
  | cons p r ih=>exact .cons (h p.1) ih
theorem atHead_sound {F:Fr} {g g1:Ctx} {s s1:St} {a a1:Act} {w w1:World} {L:LInv} {x:L.σ} {Q:Prop} {as:List Nat} (hd:Den F g s a w) (hd1:Den F g1 s1 a1 w1) (hg:g.le g1)
    (hsame:∀t,t ∉ as→a1.tmps.getD t undef=a.tmps.getD t undef)
    (hkept:∀n,n<s.m.next→n ∉ L.drop→n ∉ namesOf (L.blk x)→s1.m.blks.get n=s.m.blks.get n) (h:atHead s L s1 x Q) :
    Q ∧ ∃g2,g.le g2∧Den F g2 (headSt s as L x) a1 w1:=by
  obtain⟨t,hq,ok,tok,hr,hs⟩:=matchTo_sound h
  cases hb:(Nat.beq s1.nt s.nt&&(namesOf (L.blk x)).all (fun n=>!(Nat.blt n s.m.next)||anyN (keptOf s.m.blks L.drop) n))
  · rw [hb] at hq;cases hq
  rw [hb] at hq
  simp only [Bool.and_eq_true] at hb
  obtain⟨hnt,hb⟩:=hb
  have hnt:=Nat.eq_of_beq_eq_true hnt
  have hment:∀n,n∈namesOf (L.blk x)→n<s.m.next→n∈keptOf s.m.blks L.drop:=fun n hn hlt=>by
    have:=List.all_eq_true.1 hb n hn
    rw [show Nat.blt n s.m.next=true by simpa using hlt] at this
    simpa [anyN_iff] using this
  have hbl:s.m.next≤g1.β.length:=by rw [hd.mem.next];exact hg.length
  obtain⟨g2,lk,len,hlo,hΓ,hro⟩:=Mt.land hd1.mem.mem hbl ok tok
  have hle:g.le g2:=⟨fun n y hy=>by
    have hn:n<s.m.next:=by rw [hd.mem.next];exact (List.getElem?_eq_some_iff.1 hy).1
    rw [hlo n hn];exact hg.β _ _ hy,fun b o v hv=>lk.Γ _ _ _ (hg.Γ _ _ _ hv)⟩
  have hB:∀n k,(headBlks s.m.blks (L.blk x) L.drop).get n=some k→SrcAt g1 g2 w1 s1.m.blks s.m.next t n k∧(n<s.m.next→n∈keptOf s.m.blks L.drop):=by
    intro n k hn
    unfold headBlks at hn
    rw [get_append] at hn
    split at hn
    · rename_i k' hk'
      cases hn
      exact⟨hs g1 g2 w1 hd1.mem.mem lk _ (Blks.get_mem hk'),hment n (mem_names hk')⟩
    · rename_i hno
      rw [get_filter (f:=fun n=>!(anyN L.drop n) && !(anyN (namesOf (L.blk x)) n))] at hn
      split at hn
      case isFalse=>cases hn
      rename_i hf
      simp only [Bool.and_eq_true,Bool.not_eq_true'] at hf
      have hnd:=anyN_false hf.1
      have hnm:=anyN_false hf.2
      have hlt:n<s.m.next:=by rw [hd.mem.next];exact hd.mem.mem.lt_next hn
      have hcur:s1.m.blks.get n=some k:=by rw [hkept n hlt hnd hnm];exact hn
      refine⟨?_,fun _=>by unfold keptOf;rw [List.mem_filter];exact⟨mem_names hn,by rw [hf.1];rfl⟩⟩
      obtain⟨y0,hy0,hok0⟩:=hd.mem.mem.reg n k hn
      obtain⟨y,hy,hok⟩:=hd1.mem.mem.reg n k hcur
      have hyy:=hg.β _ _ hy0
      rw [hy] at hyy
      cases hyy
      refine⟨y0,by rw [hlo n hlt];exact hy,?_,fun r e=>⟨n,k,.inl ⟨hlt,rfl⟩,hcur,by subst e;exact hy⟩⟩
      cases y0 with
      | none=>exact hok
      | some r=>exact⟨hok.1,hok0.2.both hg hle.β lk.Γ hok.2⟩
  have hmem0:=Mt.mem0 hd1.mem.mem ok tok hΓ hro hB
  refine⟨hq,g2,hle,⟨fun q=>?_,by rw [hd1.nt];exact hnt,hd1.defers,⟨hmem0,len.symm,fun n k r hn hr=>?_,fun b o v hv=>?_,hd1.mem.fix⟩⟩⟩
  · show Rep g2 (getE (L.env x++s.env.filter (fun p=>!(anyN as p.1))) q) _
    rw [getE_append]
    split
    · rename_i hin
      obtain⟨j,hj⟩:=getE_mem hin
      have hl:=repL_slots (tv:=fun t=>a1.tmps.getD t undef) hd1.env (L.env x)
      have:=hr g1 g2 w1 _ hd1.mem.mem lk hl
      exact this.2 j _ _ (by rw [List.getElem?_map,hj];rfl) (by rw [List.getElem?_map,hj];rfl)
    · rw [getE_filter (f:=fun n=>!(anyN as n))]
      split
      · rename_i hf
        simp only [Bool.not_eq_true'] at hf
        rw [hsame q (anyN_false hf)]
        exact (hd.env q).mono hle
      · exact .undef _
  · obtain⟨⟨y,h1,_,h3⟩,_⟩:=hB n k hn
    rw [hr] at h1
    cases h1
    obtain⟨q,ka,_,h5,h6⟩:=h3 r rfl
    exact hd1.mem.own q ka r h5 h6
  · rcases hΓ b o v hv with h1 | ⟨n',hn',r,hr',hb'⟩
    · exact hd1.mem.ext _ _ _ h1
    · obtain⟨ka,hka⟩:=tok.bor n' hn'
      subst hb'
      exact .inr (hd1.mem.own n' ka r hka hr')
theorem loopSpec_ok {P:Program} (inv:St→LInv):LoopOK P (loopSpec inv):=by
  intro p hp c run hrun K s h F W g a w hW hd hpF
  obtain⟨⟨x0,hx0⟩,hbody⟩:=h
  generalize hL:inv s=L at *
  have rounds:∀(N:Nat) (x:L.σ),L.μ x=N→L.I x→namesOf (L.blk x)=namesOf (L.blk x0) → ∀g2 a2 w2,g.le g2→Den F g2 (headSt s (asg c) L x) a2 w2→(∀t,t ∉ asg c→a2.tmps.getD t undef=a.tmps.getD t undef)→
      LW P c (PostX F W g s a K) a2 w2:=by
    intro N
    induction N using Nat.strongRecOn with
    | _ N ih=>
    intro x hN hI hnm g2 a2 w2 hle hd2 hsame2
    refine LW.round ?_
    refine Code.wp_mono ?_ (hrun _ _ (hbody x hI) F (fun t=>t∈asg c) g2 a2 w2 (fun _ h=>h) hd2 (hp _ _ _ hle hpF))
    intro e a3 w3 hp
    have unch:∀(s3:St) (g3:Ctx),Upd (headSt s (asg c) L x).m s3.m → ∀n,n<s.m.next→n ∉ L.drop→n ∉ namesOf (L.blk x)→n ∉ s3.m.log→s3.m.blks.get n=s.m.blks.get n:=by
      intro s3 g3 hu n hlt hnd hnm hnl
      obtain⟨new,e1,e2⟩:=hu.ex
      have e1:s3.m.log=new++[]:=e1
      rw [List.append_nil] at e1
      rw [e2 n (by show n<s.m.next+L.fresh;omega) (by rw [←e1];exact hnl)]
      show (headBlks s.m.blks (L.blk x) L.drop).get n=_
      unfold headBlks
      rw [get_append,get_none_iff.2 hnm]
      dsimp only
      rw [get_filter (f:=fun n=>!(anyN L.drop n) && !(anyN (namesOf (L.blk x)) n)),if_pos]
      simp only [Bool.and_eq_true,Bool.not_eq_true']
      constructor
      · cases hq:anyN L.drop n
        · rfl
        · exact absurd (anyN_iff.1 hq) hnd
      · cases hq:anyN (namesOf (L.blk x)) n
        · rfl
        · exact absurd (anyN_iff.1 hq) hnm
    have out:∀(g3:Ctx) (s3:St),Goes F (fun t=>t∈asg c) g2 (headSt s (asg c) L x) a2 g3 s3 a3 w3→
        Goes F W g s a g3 {s3 with m:={s3.m with log:=s3.m.log++(L.drop++namesOf (L.blk x)++s.m.log)}} a3 w3:=by
      intro g3 s3 hg3
      refine⟨hle.trans hg3.le,⟨⟨s3.m.log++(L.drop++namesOf (L.blk x)),by simp,fun n hn hnot=>?_⟩,?_⟩,fun t ht=>?_,?_⟩
      · simp only [List.mem_append,not_or] at hnot
        exact unch s3 g3 hg3.upd n hn hnot.2.1 hnot.2.2 hnot.1
      · have:=hg3.upd.next
        have h2:s.m.next≤(headSt s (asg c) L x).m.next:=Nat.le_add_right _ _
        exact Nat.le_trans h2 this
      · have hna:t ∉ asg c:=fun h=>ht (hW t h)
        rw [hg3.same t hna,hsame2 t hna]
      · exact⟨hg3.den.env,hg3.den.nt,hg3.den.defers,hg3.den.mem.relog _⟩
    cases e with
    | normal=>
      obtain⟨g3,s3,hk,hg3⟩:=hp
      dsimp only at hk
      cases hlog:s3.m.log.all (fun n=>!(Nat.blt n s.m.next)||anyN L.drop n||anyN (namesOf (L.blk x)) n)
      · rw [hlog] at hk;cases hk
      rw [hlog] at hk
      obtain⟨y,hy⟩:=hk
      have hsame3:∀t,t ∉ asg c→a3.tmps.getD t undef=a.tmps.getD t undef:=fun t ht=>by rw [hg3.same t ht,hsame2 t ht]
      have hk2:∀n,n<s.m.next→n ∉ L.drop→n ∉ namesOf (L.blk x)→s3.m.blks.get n=s.m.blks.get n:=fun n hlt hnd hnm=>by
        refine unch s3 g3 hg3.upd n hlt hnd hnm fun hin=>?_
        have:=List.all_eq_true.1 hlog n hin
        rw [show Nat.blt n s.m.next=true by simpa using hlt] at this
        simp only [Bool.not_true,Bool.false_or,Bool.or_eq_true,anyN_iff] at this
        rcases this with h1 | h1
        · exact hnd h1
        · exact hnm h1
      have hyn:namesOf (L.blk y)=namesOf (L.blk x)∧L.I y∧L.μ y<L.μ x:=by
        obtain⟨t,hq,_⟩:=matchTo_sound hy
        cases hb:(Nat.beq s3.nt s.nt&&(namesOf (L.blk y)).all (fun n=>!(Nat.blt n s.m.next)||anyN (keptOf s.m.blks L.drop) n))
        · rw [hb] at hq;cases hq
        · rw [hb] at hq
          simp only [cond_true] at hq
          cases hn:eqNs (namesOf (L.blk y)) (namesOf (L.blk x))
          · rw [hn] at hq;cases hq
          · rw [hn] at hq;exact⟨eqNs_sound hn,hq⟩
      obtain⟨hyn,hIy,hμ⟩:=hyn
      obtain⟨_,g4,hl4,hd4⟩:=atHead_sound (as:=asg c) hd hg3.den (hle.trans hg3.le) hsame3 (fun n h1 h2 h3=>hk2 n h1 h2 (by rw [←hyn];exact h3)) hy
      exact ih (L.μ y) (by rw [←hN];exact hμ) y rfl hIy (by rw [hyn,hnm]) g4 a3 w3 hl4 hd4 hsame3
    | exit id=>obtain⟨g3,s3,hk,hg3⟩:=hp;exact⟨g3,_,hk,out g3 s3 hg3⟩
    | ret=>obtain⟨g3,s3,hk,hg3⟩:=hp;exact⟨g3,_,hk,out g3 s3 hg3⟩
    | panic ch=>obtain⟨g3,s3,sv,v,hk,e1,e2,hg3⟩:=hp;exact⟨g3,_,sv,v,hk,e1,e2,out g3 s3 hg3⟩
    | goto _=>exact hp.elim
    | outgrown=>exact hp.elim
  obtain⟨hI0,g2,hl2,hd2⟩:=atHead_sound (as:=asg c) hd hd (Ctx.le.refl g) (fun _ _=>rfl) (fun _ _ _ _=>rfl) hx0
  exact rounds _ x0 rfl hI0 rfl g2 a w hl2 hd2 (fun _ _=>rfl)
structure Tri where
  γ:Type
  n0:Nat
  args:γ→List SV
  blks:γ→Blks
  pre:γ→Prop
  δ:Type
  post:γ→δ→Prop
  n1:Nat
  res:γ→δ→SV
  blks':γ→δ→Blks
  scal:Bool
def renFrom (t:Mt):Nat→Nat→Nat→List Nat
  | 0,_,_=>[]
  | c+1,i,nx=>match t.get i with
    | some (some q)=>q::renFrom t c (i+1) nx
    | _=>nx::renFrom t c (i+1) (nx+1)
def nextFrom (t:Mt):Nat→Nat→Nat→Nat
  | 0,_,nx=>nx
  | c+1,i,nx=>match t.get i with
    | some (some _)=>nextFrom t c (i+1) nx
    | _=>nextFrom t c (i+1) (nx+1)
def flat1:SV→Bool
  | .int .. | .bool _ | .str _ | .nilp | .nils | .nilm | .nilfn | .nilif | .emp _ | .mptr .. | .mrow .. | .mslice .. | .cslice .. | .mmap .. | .undef=>true
  | _=>false
def flat2:SV→Bool
  | .agg cs=>cs.all flat1
  | x=>flat1 x
def flatV:SV→Bool
  | .tuple cs=>cs.all flat2
  | .agg cs=>cs.all flat1
  | x=>flat1 x
def flatTc:Tc→Bool
  | .byte | .int | .str | .change | .leaf | .bool | .ref=>true
  | _=>false
def flatB:Blk→Bool
  | .cells cs=>cs.all flat1
  | .rows c _=>flatTc c
  | .kv _=>true
def dropNames (t:Mt) (scal:Bool):List Nat:=t.σ.filterMap (·.2)++(bif scal then [] else t.bor)
def backBlks (t:Mt) (scal:Bool) (ρ:List Nat) (B B':Blks):Blks:=
  B'.map (fun p=>(ρ.getD p.1 0,renB ρ p.2))++B.filter fun p=>!(anyN (dropNames t scal) p.1)
def Tri.spec (T:Tri):CallSpec:=fun args m _ k=>
  ∃x:T.γ,matchTo m 0 T.n0 [] (T.args x) args (T.blks x) fun t=>
    T.pre x ∧ ∀d,T.post x d→
      k (ren (renFrom t (T.n0+T.n1) 0 m.next) (T.res x d))
        {blks:=backBlks t T.scal (renFrom t (T.n0+T.n1) 0 m.next) m.blks (T.blks' x d),next:=nextFrom t (T.n0+T.n1) 0 m.next,log:=dropNames t T.scal++m.log}
def nodupN:List Nat→Bool
  | []=>true
  | n::r=>!(anyN r n)&&nodupN r
def Tri.ends (T:Tri) (x:T.γ) (v:SV) (m:MS):Prop:=
  ∃d,matchTo m T.n0 T.n1 ((namesOf (T.blks' x d)).filter fun n=>Nat.blt n T.n0) [T.res x d] [v] (T.blks' x d) fun _=>
    bif nodupN (namesOf (T.blks' x d))&&(!T.scal||(flatV (T.res x d)&&(T.blks' x d).all fun p=>flatB p.2)) then T.post x d else Bad "end" ""
theorem Rep.flat1 {g g':Ctx} {sv:SV} {v:Value} {ρ:List Nat} (h:Rep g sv v) (hf:Sx.flat1 sv=true) (hβ:∀n x,g.β[n]?=some x→g'.β[ρ.getD n 0]?=some x):Rep g' (Sx.ren ρ sv) v:=by
  cases h<;>simp [Sx.flat1] at hf<;>simp only [Sx.ren]
  case undef=>exact .undef _
  case int=>exact .int _ _
  case bool=>exact .bool _
  case str h=>exact .str _ h
  case nilp=>exact .nilp
  case nils=>exact .nils
  case nilm=>exact .nilm
  case nilfn=>exact .nilfn
  case nilif=>exact .nilif
  case emp=>exact .emp _ _
  case mptr n j r hr=>exact .mptr _ j r (hβ _ _ hr)
  case mmap n r hr=>exact .mmap _ r (hβ _ _ hr)
  case mrow c n i j r hr=>exact .mrow c _ i j r (hβ _ _ hr)
  case mslice c n lo len cap off r hr h1 h2 h3 h4=>exact .mslice c _ lo len cap off r (hβ _ _ hr) h1 h2 h3 h4
  case mslice0 c n lo a x hr=>exact .mslice0 c _ lo a x (hβ _ _ hr)
  case cslice w n lo len cap off r hr h1 h2=>exact .cslice w _ lo len cap off r (hβ _ _ hr) h1 h2
theorem RepL.flat1 {g g':Ctx} {cs:List SV} {vs:List Value} {ρ:List Nat} (h:RepL g cs vs) (hf:cs.all Sx.flat1=true) (hβ:∀n x,g.β[n]?=some x→g'.β[ρ.getD n 0]?=some x):RepL g' (renL ρ cs) vs:=
  ⟨by rw [renL_length];exact h.1,fun j sv v a b=>by
    rw [renL_get] at a
    cases hc:cs[j]? with
    | none=>rw [hc] at a;simp at a
    | some y=>rw [hc] at a;simp at a;subst a;exact (h.2 j y v hc b).flat1 (List.all_eq_true.1 hf y (List.mem_of_getElem? hc)) hβ⟩
theorem Rep.flat2 {g g':Ctx} {sv:SV} {v:Value} {ρ:List Nat} (h:Rep g sv v) (hf:Sx.flat2 sv=true) (hβ:∀n x,g.β[n]?=some x→g'.β[ρ.getD n 0]?=some x):Rep g' (Sx.ren ρ sv) v:=by
  unfold Sx.flat2 at hf
  split at hf
  · cases h with
    | agg _ vs h1 h2=>
      obtain⟨a,b⟩:=RepL.flat1 ⟨h1,h2⟩ hf hβ
      simp only [Sx.ren];exact .agg _ vs a b
  · exact h.flat1 hf hβ
theorem RepL.flat2 {g g':Ctx} {cs:List SV} {vs:List Value} {ρ:List Nat} (h:RepL g cs vs) (hf:cs.all Sx.flat2=true) (hβ:∀n x,g.β[n]?=some x→g'.β[ρ.getD n 0]?=some x):RepL g' (renL ρ cs) vs:=
  ⟨by rw [renL_length];exact h.1,fun j sv v a b=>by
    rw [renL_get] at a
    cases hc:cs[j]? with
    | none=>rw [hc] at a;simp at a
    | some y=>rw [hc] at a;simp at a;subst a;exact (h.2 j y v hc b).flat2 (List.all_eq_true.1 hf y (List.mem_of_getElem? hc)) hβ⟩
theorem Rep.flatV {g g':Ctx} {sv:SV} {v:Value} {ρ:List Nat} (h:Rep g sv v) (hf:Sx.flatV sv=true) (hβ:∀n x,g.β[n]?=some x→g'.β[ρ.getD n 0]?=some x):Rep g' (Sx.ren ρ sv) v:=by
  unfold Sx.flatV at hf
  split at hf
  · cases h with
    | tuple _ vs h1 h2=>
      obtain⟨a,b⟩:=RepL.flat2 ⟨h1,h2⟩ hf hβ
      simp only [Sx.ren];exact .tuple _ vs a b
  · cases h with
    | agg _ vs h1 h2=>
      obtain⟨a,b⟩:=RepL.flat1 ⟨h1,h2⟩ hf hβ
      simp only [Sx.ren];exact .agg _ vs a b
  · exact h.flat1 hf hβ
theorem enc_flat {c:Tc} (h:flatTc c=true) (x:c.den):(enc c x).all flat1=true:=by
  cases c<;>simp [flatTc] at h<;>rfl
theorem renL_free {ρ:List Nat} {c:Tc} (h:flatTc c=true) (x:c.den):renL ρ (enc c x)=enc c x:=by
  cases c<;>simp [flatTc] at h<;>rfl
theorem BlkOK.flat {g g':Ctx} {r:Reg} {w:World} {k:Blk} {ρ:List Nat} (h:BlkOK g r w k) (hf:flatB k=true) (hβ:∀n x,g.β[n]?=some x→g'.β[ρ.getD n 0]?=some x):BlkOK g' r w (renB ρ k):=by
  cases k with
  | cells cs=>
    obtain⟨a,vs,b,c⟩:=h
    have:=b.flat1 hf hβ
    exact⟨by rw [renL_length];exact a,vs,this,c⟩
  | rows c l=>
    obtain⟨a,a',vs,b,b',e⟩:=h
    refine⟨a,a',vs,b,fun i x hx=>?_,e⟩
    have:=(b' i x hx).flat1 (enc_flat hf x) hβ
    rwa [renL_free hf] at this
  | kv l=>exact h
theorem renFrom_spec (t:Mt) (X:Nat→Option Reg):∀c i nx,∃ex:List (Option Reg),nextFrom t c i nx=nx+ex.length∧
    (∀j,j<c → ∃y,(renFrom t c i nx)[j]?=some y∧(t.get (i+j)=some (some y)∨(∀q,t.get (i+j)≠some (some q))∧nx≤y∧ex[y-nx]?=some (X (i+j)))):=by
  intro c
  induction c with
  | zero=>intro i nx;exact⟨[],rfl,fun j hj=>absurd hj (Nat.not_lt_zero _)⟩
  | succ c ih=>
    intro i nx
    unfold renFrom nextFrom
    split
    · rename_i q hq
      obtain⟨ex,h1,h2⟩:=ih (i+1) nx
      refine⟨ex,h1,fun j hj=>?_⟩
      cases j with
      | zero=>exact⟨q,rfl,.inl hq⟩
      | succ j=>
        obtain⟨y,a,b⟩:=h2 j (by omega)
        rw [show i+1+j=i+(j+1) by omega] at b
        exact⟨y,by simpa using a,b⟩
    · rename_i hq
      obtain⟨ex,h1,h2⟩:=ih (i+1) (nx+1)
      refine⟨X i::ex,by rw [h1];simp;omega,fun j hj=>?_⟩
      cases j with
      | zero=>exact⟨nx,rfl,.inr ⟨fun q h=>hq q h,Nat.le_refl _,by simp⟩⟩
      | succ j=>
        obtain⟨y,a,b⟩:=h2 j (by omega)
        rw [show i+1+j=i+(j+1) by omega] at b
        refine⟨y,by simpa using a,b.imp (fun h=>h) fun ⟨b1,b2,b3⟩=>⟨b1,by omega,?_⟩⟩
        rw [show y-nx=(y-(nx+1))+1 by omega]
        simpa using b3
theorem nodupN_get {B:Blks} (h:nodupN (namesOf B)=true):∀p,p∈B→B.get p.1=some p.2:=by
  induction B with
  | nil=>intro p hp;cases hp
  | cons q r ih=>
    obtain⟨m,y⟩:=q
    simp only [namesOf,List.map_cons,nodupN,Bool.and_eq_true,Bool.not_eq_true'] at h
    intro p hp
    simp only [Blks.get]
    rcases List.mem_cons.1 hp with e | e
    · subst e;simp
    · have hne:m≠p.1:=fun e2=>anyN_false h.1 (by rw [e2];exact List.mem_map.2 ⟨p,e,rfl⟩)
      have:Nat.beq m p.1=false:=by
        cases hb:Nat.beq m p.1
        · rfl
        · exact absurd (Nat.eq_of_beq_eq_true hb) hne
      rw [this]
      exact ih h.2 p e
theorem Tri.ok' {P:Program} (T:Tri) {f:FuncId} (hbody:∀x,T.pre x → ∀(F:Fr) (g:Ctx) (w:World) vs,RepL g (T.args x) vs→Mem F g ⟨T.blks x,T.n0,[]⟩ w→Calls P f ⟨vs⟩ w (CallPost F g ⟨T.blks x,T.n0,[]⟩ (fun _ _=>False) (T.ends x))):SpecOK P f T.spec:=by
  intro args m kp k h F g w vs hargs hm
  obtain⟨x,hx⟩:=h
  obtain⟨t,⟨hpre,hk⟩,ok,tok,hr,hs⟩:=matchTo_sound hx
  have hw:=hm.mem
  obtain⟨g2,lk,len,_,hΓ,hro⟩:=Mt.land (base:=0) hw (Nat.zero_le _) ok tok
  let M2:Nat→Prop:=fun b=>∃i q r,t.get i=some (some q)∧g.β[q]?=some (some r)∧r.b=b
  let F2:Fr:=⟨w,M2,g2.Γ,[]⟩
  have hM2:∀b,M2 b→F.Own b∧b<w.heap.size:=by
    rintro b ⟨i,q,r,h1,h2,rfl⟩
    obtain⟨ka,hka⟩:=tok.σ _ _ h1
    exact⟨hm.own q ka r hka h2,(hw.at_name hka h2).1.lt⟩
  have hB:∀i kk,(T.blks x).get i=some kk→SrcAt g g2 w m.blks 0 t i kk∧(i<0→i∈([]:List Nat)):=fun i kk hi=>⟨hs g g2 w hw lk _ (Blks.get_mem hi),fun h=>absurd h (Nat.not_lt_zero _)⟩
  have hm2:Mem F2 g2 ⟨T.blks x,T.n0,[]⟩ w:=by
    refine⟨Mt.mem0 hw ok tok hΓ hro hB,by show T.n0=_;rw [len];omega,fun i kk r hi hr'=>?_,fun b o v hv=>.inl hv,⟨Nat.le_refl _,fun b _ _=>rfl,rfl,rfl⟩⟩
    · obtain⟨⟨y,h1,_,h3⟩,_⟩:=hB i kk hi
      have hr':g2.β[i]?=some (some r):=hr'
      rw [hr'] at h1
      cases h1
      obtain⟨q,ka,h4,_,h6⟩:=h3 r rfl
      rcases h4 with ⟨h4,_⟩ | ⟨_,h4⟩
      · exact absurd h4 (Nat.not_lt_zero _)
      · exact .inr ⟨i,q,r,h4,h6,rfl⟩
  have hargs2:=hr g g2 w vs hw lk hargs
  have hcall:=hbody x hpre F2 g2 w vs hargs2 hm2
  refine hcall.mono fun e w3 hp=>?_
  cases e with
  | panicked chain=>obtain⟨_,_,_,_,hv,_⟩:=hp;exact hv.elim
  | outgrown=>exact hp.elim
  | returned v=>
  obtain⟨g3,m3,sv,hend,hl3,hu3,hm3,hrv⟩:=hp
  obtain⟨d,hd⟩:=hend
  obtain⟨t',hq,ok',tok',hr',hs'⟩:=matchTo_sound hd
  cases hchk:(nodupN (namesOf (T.blks' x d))&&(!T.scal||(Sx.flatV (T.res x d)&&(T.blks' x d).all fun p=>flatB p.2)))
  · rw [hchk] at hq;cases hq
  rw [hchk] at hq
  simp only [cond_true] at hq
  simp only [Bool.and_eq_true] at hchk
  obtain⟨hnd,hfl⟩:=hchk
  have hbl:T.n0≤g3.β.length:=by have:=hl3.length;rw [len] at this;omega
  obtain⟨g4,lk',len',hlo',hΓ',hro'⟩:=Mt.land hm3.mem hbl ok' tok'
  have hB':∀i kk,(T.blks' x d).get i=some kk→SrcAt g3 g4 w3 m3.blks T.n0 t' i kk∧(i<T.n0→i∈(namesOf (T.blks' x d)).filter fun n=>Nat.blt n T.n0):=
    fun i kk hi=>⟨hs' g3 g4 w3 hm3.mem lk' _ (Blks.get_mem hi),fun h=>List.mem_filter.2 ⟨mem_names hi,by simpa using h⟩⟩
  have hm4:=Mt.mem0 hm3.mem ok' tok' hΓ' hro' hB'
  have hres:Rep g4 (T.res x d) v:=by
    have:=hr' g3 g4 w3 [v] hm3.mem lk' (.cons hrv (RepL.nil _))
    exact this.2 0 _ _ rfl rfl
  generalize hρ:renFrom t (T.n0+T.n1) 0 m.next=ρ
  obtain⟨ex,hnext,hren⟩:=renFrom_spec t (fun i=>(g4.β[i]?).getD none) (T.n0+T.n1) 0 m.next
  rw [hρ] at hren
  let g5:Ctx:=⟨g.β++ex,if T.scal=true then g.Γ else g4.Γ⟩
  have hlt4:∀i y,g4.β[i]?=some y→i<T.n0+T.n1:=fun i y h=>by rw [←len'];exact (List.getElem?_eq_some_iff.1 h).1
  have hget:∀i,i<T.n0+T.n1 → ∃y,ρ.getD i 0=y∧(t.get i=some (some y)∨(∀q,t.get i≠some (some q))∧m.next≤y∧ex[y-m.next]?=some ((g4.β[i]?).getD none)):=by
    intro i hi
    obtain⟨y,h1,h2⟩:=hren i hi
    refine⟨y,by simp [List.getD,h1],?_⟩
    simpa using h2
  have hβ:∀i y,g4.β[i]?=some y→g5.β[ρ.getD i 0]?=some y:=by
    intro i y hy
    obtain⟨z,hz,h⟩:=hget i (hlt4 i y hy)
    rw [hz]
    rcases h with h | ⟨_,h2,h3⟩
    · have hi:i<T.n0:=by have:=ok.below _ _ h;omega
      obtain⟨ka,hka⟩:=tok.σ _ _ h
      obtain⟨u,hu,_⟩:=hw.reg _ _ hka
      have h4:=hl3.β _ _ (lk.bound i z u (Nat.zero_le _) h hu)
      rw [hlo' i hi,h4] at hy
      cases hy
      show (g.β++ex)[z]?=_
      rw [List.getElem?_append_left (List.getElem?_eq_some_iff.1 hu).1]
      exact hu
    · show (g.β++ex)[z]?=_
      rw [hm.next] at h2 h3
      rw [List.getElem?_append_right h2,h3,hy]
      rfl
  have hnew:∀i,i<T.n0+T.n1→(∃q,t.get i=some (some q)∧ρ.getD i 0=q)∨m.next≤ρ.getD i 0:=by
    intro i hi
    obtain⟨z,hz,h⟩:=hget i hi
    rcases h with h | ⟨_,h2,_⟩
    · exact .inl ⟨z,h,hz⟩
    · exact .inr (by rw [hz];exact h2)
  have hΓ4:∀b o v,g.Γ b o=some v→g4.Γ b o=some v:=fun b o v h=>lk'.Γ _ _ _ (hl3.Γ _ _ _ (lk.Γ _ _ _ h))
  have hg5:g.le g5:=⟨fun i y hy=>by
    show (g.β++ex)[i]?=_
    rw [List.getElem?_append_left (List.getElem?_eq_some_iff.1 hy).1];exact hy,fun b o v hv=>by
    show (if T.scal=true then g.Γ else g4.Γ) b o=_
    split
    · exact hv
    · exact hΓ4 _ _ _ hv⟩
  have own4:∀i kk r,(T.blks' x d).get i=some kk→g4.β[i]?=some (some r)→F2.Own r.b:=by
    intro i kk r hi hr4
    obtain⟨⟨y,h1,_,h3⟩,_⟩:=hB' i kk hi
    rw [hr4] at h1
    cases h1
    obtain⟨q,ka,_,h5,h6⟩:=h3 r rfl
    exact hm3.own q ka r h5 h6
  have ownF:∀b,F2.Own b→F.Own b:=by
    intro b hb
    rcases hb with hb | hb
    · exact .inl (Nat.le_trans hm.fix.size hb)
    · exact (hM2 b hb).1
  have kept:∀i kk,Blks.get (m.blks.filter fun p=>!(anyN (dropNames t T.scal) p.1)) i=some kk→m.blks.get i=some kk∧i ∉ dropNames t T.scal:=by
    intro i kk hi
    rw [get_filter (f:=fun n=>!(anyN (dropNames t T.scal) n))] at hi
    split at hi
    · rename_i hf
      simp only [Bool.not_eq_true'] at hf
      exact⟨hi,anyN_false hf⟩
    · cases hi
  have lookmem:∀i q,t.get i=some (some q)→q∈dropNames t T.scal:=fun i q h=>List.mem_append_left _ (List.mem_filterMap.2 ⟨_,lookN_mem h,rfl⟩)
  have keptM:∀i kk r,m.blks.get i=some kk→i ∉ dropNames t T.scal→g.β[i]?=some (some r)→¬F2.Own r.b:=by
    intro i kk r hi hnot hr5 hown
    rcases hown with h1 | ⟨j,q,r',h1,h2,h3⟩
    · have:=(hw.at_name hi hr5).1.lt
      exact absurd h1 (Nat.not_le.2 this)
    · obtain⟨ka,hka⟩:=tok.σ _ _ h1
      have:=hw.inj q i ka kk r' r hka hi h2 hr5 h3
      subst this
      exact hnot (lookmem _ _ h1)
  have same:∀b,b<w.heap.size→¬M2 b→w3.heap[b]?=w.heap[b]?:=fun b h1 h2=>hm3.fix.keep b h1 h2
  have back:∀i kk,(backBlks t T.scal ρ m.blks (T.blks' x d)).get i=some kk→
      (∃j kj,(T.blks' x d).get j=some kj∧i=ρ.getD j 0∧kk=renB ρ kj∧flatB kj=(flatB kj)∧(T.scal=true→flatB kj=true))∨(m.blks.get i=some kk∧i ∉ dropNames t T.scal):=by
    intro i kk hi
    unfold backBlks at hi
    rw [get_append] at hi
    split at hi
    · rename_i k' hk'
      cases hi
      obtain⟨p,hp,he⟩:=List.mem_map.1 (Blks.get_mem hk')
      have h1:=nodupN_get hnd p hp
      cases he
      refine .inl ⟨p.1,p.2,h1,rfl,rfl,rfl,fun hsc=>?_⟩
      rw [hsc] at hfl
      simp only [Bool.not_true,Bool.false_or,Bool.and_eq_true] at hfl
      exact List.all_eq_true.1 hfl.2 p hp
    · exact .inr (kept i kk hi)
  have hmem5:Mem F g5 {blks:=backBlks t T.scal ρ m.blks (T.blks' x d),next:=nextFrom t (T.n0+T.n1) 0 m.next,log:=dropNames t T.scal++m.log} w3:=by
    refine⟨⟨fun i kk hi=>?_,fun i i' k1 k2 r r' h1 h2 hr1 hr2 hb=>?_,fun b o v hv=>?_,fun i kk r o hi hr5=>?_⟩,?_,fun i kk r hi hr5=>?_,fun b o v hv=>?_,⟨?_,fun b hb hMb=>?_,?_,?_⟩⟩
    · -- what names hold
      rcases back i kk hi with ⟨j,kj,hj,rfl,rfl,_,hfj⟩ | ⟨hi,hnot⟩
      · obtain⟨y,hy,hok⟩:=hm4.reg j kj hj
        refine⟨y,hβ _ _ hy,?_⟩
        cases y with
        | none=>obtain⟨c,rfl⟩:=hok;exact⟨c,rfl⟩
        | some r=>
          refine⟨hok.1.ren,?_⟩
          by_cases hsc:T.scal=true
          · exact hok.2.flat (hfj hsc) hβ
          · refine hok.2.ren hβ fun b o v hv=>?_
            show (if T.scal=true then g.Γ else g4.Γ) b o=_
            rw [if_neg hsc];exact hv
      · obtain⟨y,hy,hok⟩:=hw.reg i kk hi
        refine⟨y,hg5.β _ _ hy,hok.congr hg5 fun r e=>?_⟩
        subst e
        exact same r.b hok.1.lt (fun h=>keptM i kk r hi hnot hy (.inr h))
    · -- no two names,one block
      rcases back i k1 h1 with ⟨j,kj,hj,rfl,rfl,_,_⟩ | ⟨h1,hnot1⟩<;>rcases back i' k2 h2 with ⟨j',kj',hj',rfl,rfl,_,_⟩ | ⟨h2,hnot2⟩
      · obtain⟨y,hy,_⟩:=hm4.reg j kj hj
        obtain⟨y',hy',_⟩:=hm4.reg j' kj' hj'
        have e1:=hβ _ _ hy
        have e2:=hβ _ _ hy'
        rw [hr1] at e1
        rw [hr2] at e2
        cases e1
        cases e2
        rw [hm4.inj j j' kj kj' r r' hj hj' hy hy' hb]
      · obtain⟨y,hy,_⟩:=hm4.reg j kj hj
        have e1:=hβ _ _ hy
        rw [hr1] at e1
        cases e1
        obtain⟨u,hu,_⟩:=hw.reg i' k2 h2
        have e2:=hg5.β _ _ hu
        rw [hr2] at e2
        cases e2
        exact absurd (by rw [←hb];exact own4 j kj r hj hy) (keptM i' k2 r' h2 hnot2 hu)
      · obtain⟨y,hy,_⟩:=hm4.reg j' kj' hj'
        have e1:=hβ _ _ hy
        rw [hr2] at e1
        cases e1
        obtain⟨u,hu,_⟩:=hw.reg i k1 h1
        have e2:=hg5.β _ _ hu
        rw [hr1] at e2
        cases e2
        exact absurd (by rw [hb];exact own4 j' kj' r' hj' hy) (keptM i k1 r h1 hnot1 hu)
      · obtain⟨u,hu,_⟩:=hw.reg i k1 h1
        obtain⟨u',hu',_⟩:=hw.reg i' k2 h2
        have e1:=hg5.β _ _ hu
        have e2:=hg5.β _ _ hu'
        rw [hr1] at e1
        rw [hr2] at e2
        cases e1
        cases e2
        exact hw.inj i i' k1 k2 r r' h1 h2 hu hu' hb
    · -- the memory that stays
      have hv:(if T.scal=true then g.Γ else g4.Γ) b o=some v:=hv
      split at hv
      · have hc:=hw.ro b o v hv
        have hlt:=cell?_lt hc
        rw [cell?_congr (same b hlt ?_)]
        · exact hc
        · rintro ⟨j,q,r,h1,h2,rfl⟩
          obtain⟨ka,hka⟩:=tok.σ _ _ h1
          rw [hw.apart q ka r o hka h2] at hv
          cases hv
      · exact hro' b o v hv
    · -- apart
      show (if T.scal=true then g.Γ else g4.Γ) r.b o=none
      rcases back i kk hi with ⟨j,kj,hj,rfl,rfl,_,_⟩ | ⟨hi,hnot⟩
      · obtain⟨y,hy,_⟩:=hm4.reg j kj hj
        have e1:=hβ _ _ hy
        rw [hr5] at e1
        cases e1
        split
        · cases hv:g.Γ r.b o with
          | none=>rfl
          | some v=>
            exfalso
            rcases own4 j kj r hj hy with h1 | ⟨j',q,r',h1,h2,h3⟩
            · have:=cell?_lt (hw.ro _ _ _ hv)
              exact absurd h1 (Nat.not_le.2 this)
            · obtain⟨ka,hka⟩:=tok.σ _ _ h1
              have:=hw.apart q ka r' o hka h2
              rw [h3,hv] at this
              cases this
        · exact hm4.apart j kj r o hj hy
      · obtain⟨u,hu,_⟩:=hw.reg i kk hi
        have e1:=hg5.β _ _ hu
        rw [hr5] at e1
        cases e1
        split
        · exact hw.apart i kk r o hi hu
        · rename_i hsc
          cases hv:g4.Γ r.b o with
          | none=>rfl
          | some v=>
            exfalso
            have hno:=keptM i kk r hi hnot hu
            rcases hΓ' _ _ _ hv with h1 | ⟨n',hn',r',hr'',hb'⟩
            · rcases hm3.ext _ _ _ h1 with h2 | h2
              · rcases hΓ _ _ _ h2 with h3 | ⟨n',hn',r',hr'',hb'⟩
                · rw [hw.apart i kk r o hi hu] at h3;cases h3
                · obtain⟨ka,hka⟩:=tok.bor n' hn'
                  have:=hw.inj n' i ka kk r' r hka hi hr'' hu hb'
                  subst this
                  refine hnot (List.mem_append_right _ ?_)
                  have:T.scal=false:=by cases hq:T.scal<;>simp [hq] at hsc ⊢
                  rw [this]
                  exact hn'
              · exact hno h2
            · obtain⟨ka,hka⟩:=tok'.bor n' hn'
              exact hno (by rw [←hb'];exact hm3.own n' ka r' hka hr'')
    · show nextFrom t (T.n0+T.n1) 0 m.next=(g.β++ex).length
      rw [hnext,hm.next,List.length_append]
    · rcases back i kk hi with ⟨j,kj,hj,rfl,rfl,_,_⟩ | ⟨hi,hnot⟩
      · obtain⟨y,hy,_⟩:=hm4.reg j kj hj
        have e1:=hβ _ _ hy
        rw [hr5] at e1
        cases e1
        exact ownF _ (own4 j kj r hj hy)
      · obtain⟨u,hu,_⟩:=hw.reg i kk hi
        have e1:=hg5.β _ _ hu
        rw [hr5] at e1
        cases e1
        exact hm.own i kk r hi hu
    · have hv:(if T.scal=true then g.Γ else g4.Γ) b o=some v:=hv
      split at hv
      · exact hm.ext _ _ _ hv
      · rcases hΓ' _ _ _ hv with h1 | ⟨n',hn',r',hr'',hb'⟩
        · rcases hm3.ext _ _ _ h1 with h2 | h2
          · rcases hΓ _ _ _ h2 with h3 | ⟨n',hn',r',hr'',hb'⟩
            · exact hm.ext _ _ _ h3
            · obtain⟨ka,hka⟩:=tok.bor n' hn'
              exact .inr (by rw [←hb'];exact hm.own n' ka r' hka hr'')
          · exact .inr (ownF _ h2)
        · obtain⟨ka,hka⟩:=tok'.bor n' hn'
          exact .inr (ownF _ (by rw [←hb'];exact hm3.own n' ka r' hka hr''))
    · exact Nat.le_trans hm.fix.size hm3.fix.size
    · have hlt:b<w.heap.size:=Nat.lt_of_lt_of_le hb hm.fix.size
      rw [same b hlt (fun h=>by
        rcases (hM2 b h).1 with h1 | h1
        · omega
        · exact hMb h1)]
      exact hm.fix.keep b hb hMb
    · rw [hm3.fix.os];exact hm.fix.os
    · rw [hm3.fix.out];exact hm.fix.out
  have hkk:=hk d hq
  rw [hρ] at hkk
  refine⟨g5,_,_,hkk,hg5,⟨⟨dropNames t T.scal,rfl,fun i hi hnot=>?_⟩,?_⟩,hmem5,?_⟩
  · show (backBlks t T.scal ρ m.blks (T.blks' x d)).get i=_
    unfold backBlks
    rw [get_append]
    have hnone:Blks.get ((T.blks' x d).map fun p=>(ρ.getD p.1 0,renB ρ p.2)) i=none:=by
      rw [get_none_iff]
      intro hin
      obtain⟨p,hp,he⟩:=List.mem_map.1 hin
      obtain⟨p',hp',he'⟩:=List.mem_map.1 hp
      subst he'
      subst he
      obtain⟨y,hy,_⟩:=hm4.reg p'.1 p'.2 (nodupN_get hnd p' hp')
      rcases hnew p'.1 (hlt4 _ _ hy) with ⟨q,h1,h2⟩ | h1
      · have hi:ρ.getD p'.1 0<m.next:=hi
        exact hnot (by show ρ.getD p'.1 0∈_;rw [h2];exact lookmem _ _ h1)
      · exact absurd hi (Nat.not_lt.2 h1)
    rw [hnone]
    dsimp only
    rw [get_filter (f:=fun n=>!(anyN (dropNames t T.scal) n)),if_pos]
    cases hq:anyN (dropNames t T.scal) i
    · rfl
    · exact absurd (anyN_iff.1 hq) hnot
  · show m.next≤nextFrom t (T.n0+T.n1) 0 m.next
    rw [hnext];omega
  · by_cases hsc:T.scal=true
    · rw [hsc] at hfl
      simp only [Bool.not_true,Bool.false_or,Bool.and_eq_true] at hfl
      exact hres.flatV hfl.1 hβ
    · refine hres.ren hβ fun b o v hv=>?_
      show (if T.scal=true then g.Γ else g4.Γ) b o=_
      rw [if_neg hsc];exact hv
theorem Tri.ok {E:Envr} (hE:EnvOK E) {n:Nat} (T:Tri) {f:FuncId} (hbody:∀x,T.pre x→evCall E (ev E n) f (T.args x) ⟨T.blks x,T.n0,[]⟩ (fun _ _=>False) (T.ends x)):SpecOK E.P f T.spec:=
  Tri.ok' T fun x hx F g w vs hargs hm=>(evCall_sound hE (ev_sound hE n).1 (hbody x hx) hargs hm).2
noncomputable def Env (P:Program) (codec:TypeId→Option Tc) (specs:List (Nat × CallSpec)) (loops:List (Nat × (St→LInv))) (ext:List (Nat × (List SV→Res)):=[]):Envr:=
  {P,codec,facts:=true,spec:=lookN specs,loop:=fun r=>match lookN loops r with
    | some i=>some (loopSpec i)
    | none=>none,ext:=lookN ext}
theorem Env_ok' {P:Program} {codec:TypeId→Option Tc} {specs:List (Nat × CallSpec)} {loops:List (Nat × (St→LInv))} {ext:List (Nat × (List SV→Res))} (hn:noCount P=true) (h:∀p,p∈specs→SpecOK P p.1 p.2)
    (hx:∀p,p∈ext → ∀(g:Ctx) (w:World) args vs,RepL g args vs→(p.2 args).NextS P w g (callFunc p.1 ⟨vs⟩)):EnvOK (Env P codec specs loops ext):=
  ⟨fun f S hf=>h _ (lookN_mem hf),(fun r L hL=>by
    have hL:(match lookN loops r with
      | some i=>some (loopSpec i)
      | none=>none)=some L:=hL
    split at hL
    · cases hL;exact loopSpec_ok _
    · cases hL),(fun f R hf=>hx _ (lookN_mem hf)),named_of hn⟩
theorem Env_ok {P:Program} {codec:TypeId→Option Tc} {specs:List (Nat × CallSpec)} {loops:List (Nat × (St→LInv))} (hn:noCount P=true) (h:∀p,p∈specs→SpecOK P p.1 p.2):EnvOK (Env P codec specs loops):=
  Env_ok' hn h (fun p hp=>by cases hp)
theorem br_i {b:Bool} {A B:Prop} (h1:b=true→A) (h2:b=false→B):br b A B:=by
  cases b
  · exact h2 rfl
  · exact h1 rfl
theorem br_t {b:Bool} {A B:Prop} (h1:b=true) (h2:A):br b A B:=by
  subst h1
  exact h2
theorem br_f {b:Bool} {A B:Prop} (h1:b=false) (h2:B):br b A B:=by
  subst h1
  exact h2
def LInv.none:LInv:={σ:=Unit,I:=fun _=>False,μ:=fun _=>0,env:=fun _=>[],blk:=fun _=>[],fresh:=0,drop:=[]}
open Go Go.RowKit Go.ChangeShapes Go.WideShapes
def wholeΓ (w:World):Nat→Nat→Option Value:=fun b o=>w.cell? ⟨b,o,none⟩
theorem Mem.whole (w:World) (β:List (Option Reg)):Mem ⟨w,fun _=>False,wholeΓ w,[]⟩ ⟨β,wholeΓ w⟩ ⟨[],β.length,[]⟩ w:=by
  refine⟨⟨(fun n k h=>by cases h),(fun n m k k' r r' h=>by cases h),(fun b o v h=>h),(fun n k r o h=>by cases h)⟩,rfl,(fun n k r h=>by cases h),(fun b o v h=>.inl h),⟨Nat.le_refl _,fun b _ _=>rfl,rfl,rfl⟩⟩
theorem Kept.sameAt {w w':World} (h:Kept w w') {p:MemPlace} (hp:p.block<w.heap.size):w.sameAt w' p:=by
  cases p with
  | cell b off=>exact cell?_congr (h.keep b hp) off
  | map b=>exact h.keep b hp
theorem Kept.args {H:Type} {enc:TypeId × Value→H} {P:Program} {w w':World} {sp:Nat→Bool} (h:Kept w w') (hl:laidOutB P=true):∀ {ts:List TypeId} {vs:List Value} {ds:List (DataW H)} {ps:List MemPlace},
    ts.all (fun t=>P.readableRec t&&decide (t<P.types.size))=true→DataW.TrodAll enc P w 0 (fun _=>true) true ts vs ds ps→(∀p∈ps,p.block<w.heap.size)→(∀p∈ps,sp p.block=true)→
    DataW.TrodAll enc P w' 0 sp true ts vs ds ps
  | [],[],[],_,_,ht,_,_=>ht
  | t::ts,v::vs,d::ds,ps,hr,⟨p,q,h1,h2,e⟩,hlt,hsp=>by
    subst e
    simp only [List.all_cons,Bool.and_eq_true,decide_eq_true_eq] at hr
    exact⟨p,q,WideElems.Trod_stays hl hr.1.1 hr.1.2 h1 (fun x hx=>h.sameAt (hlt x (List.mem_append_left _ hx))) (fun x hx=>hsp x (List.mem_append_left _ hx)),
      Kept.args h hl (ts:=ts) (by simpa using hr.2) h2 (fun x hx=>hlt x (List.mem_append_right _ hx)) (fun x hx=>hsp x (List.mem_append_right _ hx)),rfl⟩
  | [],[],_::_,_,_,ht,_,_=>ht.elim
  | [],_::_,_,_,_,ht,_,_=>ht.elim
  | _::_,[],_,_,_,ht,_,_=>ht.elim
  | _::_,_::_,[],_,_,ht,_,_=>ht.elim
def TrueV (v:SV):Prop:=match v with
  | .bool b=>b=true
  | _=>False
theorem law_of {E:Envr} (hE:EnvOK E) {f:FuncId} {n k:Nat} {args:List SV} (h:evCall E (ev E n) f args ⟨[],k,[]⟩ (fun _ _=>False) (fun v _=>TrueV v)) {w:World} {β:List (Option Reg)} (hk:k=β.length)
    {vs:List Value} (r:RepL ⟨β,wholeΓ w⟩ args vs):Calls E.P f ⟨vs⟩ w fun e w'=>e = .returned (.bool true)∧Kept w w':=by
  subst hk
  obtain⟨_,hc⟩:=evCall_sound hE (ev_sound hE n).1 h r (Mem.whole w β)
  refine hc.mono fun e w' hp=>?_
  cases e with
  | returned v=>
    obtain⟨g',m',sv,hv,_,_,hm,r⟩:=hp
    unfold TrueV at hv
    split at hv
    · subst hv
      cases r
      exact⟨rfl,kept_of_fix hm.fix⟩
    · exact hv.elim
  | panicked chain=>obtain⟨_,_,_,_,hv,_⟩:=hp;exact hv.elim
  | outgrown=>exact hp.elim
def Opens {H:Type} (en:TypeId × Value→H) (P:Program) (w:World) (t:TypeId) {α:Type} (mk:α→List SV):Prop:=
  ∀m cs x,DataW.trod en P w 0 (fun _=>true) true m t cs=some x→(x.1.weights P t).all (· ≤ reachBytes)=true → ∃a,∀β,RepL ⟨β,wholeΓ w⟩ (mk a) cs
section
variable {H : Type} {en : TypeId × Value → H} {P : Program} {w : World}
theorem Opens.map {t:TypeId} {α α':Type} {mk:α→List SV} {mk':α'→List SV} (h:Opens en P w t mk) (f:α→α') (e:∀a,mk' (f a)=mk a):Opens en P w t mk':=by
  intro m cs x hx hw
  obtain⟨a,ha⟩:=h m cs x hx hw
  exact⟨f a,fun β=>by rw [e];exact ha β⟩
theorem opens_int {t:TypeId} {k:IntKind} (ht:P.underlying t=some (.int k)):Opens en P w t (fun n:Int=>[.int k n]):=by
  intro m cs x hx _
  obtain⟨n,rfl,_⟩:=DataW.trod_int ht hx
  exact⟨n,fun β=>.cons (.int k n) (RepL.nil _)⟩
theorem opens_bool {t:TypeId} (ht:P.underlying t=some .bool):Opens en P w t (fun b:Bool=>[.bool b]):=by
  intro m cs x hx _
  obtain⟨b,rfl,_⟩:=DataW.trod_bool ht hx
  exact⟨b,fun β=>.cons (.bool b) (RepL.nil _)⟩
theorem opens_str {t:TypeId} (ht:P.underlying t=some .string):Opens en P w t (fun s:Bs=>[.str s]):=by
  intro m cs x hx _
  obtain⟨s,rfl,_,hs⟩:=DataW.trod_string ht hx
  obtain⟨⟨l⟩⟩:=s
  exact⟨l,fun β=>.cons (.str l (by simpa [maxLen,maxI64,ByteArray.size] using hs)) (RepL.nil _)⟩
theorem weightsAll_mem {e:TypeId}:∀ {l:List (DataW H)},(DataW.weightsAll P e l).all (· ≤ reachBytes)=true → ∀d∈l,(d.weights P e).all (· ≤ reachBytes)=true
  | [],_,d,hd=>by cases hd
  | y::r,h,d,hd=>by
    simp only [DataW.weightsAll,List.all_append,Bool.and_eq_true] at h
    rcases List.mem_cons.1 hd with rfl | hd
    · exact h.1
    · exact weightsAll_mem h.2 d hd
theorem weightsEach_get:∀ {ts:List TypeId} {l:List (DataW H)},(DataW.weightsEach P ts l).all (· ≤ reachBytes)=true → ∀(i:Nat) t d,ts[i]?=some t→l[i]?=some d→(d.weights P t).all (· ≤ reachBytes)=true
  | [],_,_,i,t,d,ht,_=>by simp at ht
  | t0::ts,[],_,i,t,d,_,hd=>by simp at hd
  | t0::ts,d0::l,h,i,t,d,ht,hd=>by
    simp only [DataW.weightsEach,List.all_append,Bool.and_eq_true] at h
    cases i with
    | zero=>simp at ht hd;subst ht;subst hd;exact h.1
    | succ i=>exact weightsEach_get h.2 i t d (by simpa using ht) (by simpa using hd)
theorem choose_list {α β:Type} {p:Nat→α→Prop}:∀(n:Nat),(∀i,i<n → ∃a,p i a) → ∃l:List α,l.length=n ∧ ∀(i:Nat) a,l[i]?=some a→p i a
  | 0,_=>⟨[],rfl,fun i a h=>by simp at h⟩
  | n+1,h=>by
    obtain⟨l,hl,hp⟩:=choose_list n (fun i hi=>h i (by omega)) (p:=p) (β:=β)
    obtain⟨a,ha⟩:=h n (by omega)
    refine⟨l++[a],by simp [hl],fun i b hb=>?_⟩
    rcases Nat.lt_or_ge i n with h1 | h1
    · rw [List.getElem?_append_left (by omega)] at hb
      exact hp i b hb
    · rw [List.getElem?_append_right (by omega)] at hb
      have:i-l.length=0:=by
        rcases Nat.eq_zero_or_pos (i-l.length) with h2 | h2
        · exact h2
        · rw [List.getElem?_eq_none (by simp;omega)] at hb;simp at hb
      rw [this] at hb
      simp at hb
      subst hb
      have:i=n:=by omega
      subst this
      exact ha
theorem opens_slice {t e:TypeId} {c:Tc} (ht:P.underlying t=some (.slice e)) (he:Opens en P w e (Sx.enc c)) (hc:P.cellsOf e=c.width) (hb:P.bytesOf e=c.bytes) :
    Opens en P w t (fun l:List c.den=>[.rslice false c l]):=by
  intro m cs x hx hw
  have hc0:0<c.width:=by cases c<;>decide
  rcases DataW.trod_slice ht hx with ⟨rfl,rfl⟩ | ⟨a,len,cap,elems,rest,n,rfl,rfl,rfl,_,hle,_,hel,helem,hspare,_⟩
  · exact⟨[],fun β=>.cons (.rnil _ _) (RepL.nil _)⟩
  · simp only [DataW.weights,ht,List.all_cons,List.all_append,Bool.and_eq_true,decide_eq_true_eq,List.length_map] at hw
    obtain⟨hw0,hw1,_⟩:=hw
    have hbytes:len*c.bytes≤room47:=by
      have h1:len*P.bytesOf e≤(elems.length+rest.length)*P.bytesOf e:=Nat.mul_le_mul_right _ (by omega)
      have h2:reachBytes<2 ^ 47:=reachBytes_lt
      rw [←hb]
      have:room47=2 ^ 47:=rfl
      omega
    rcases Nat.eq_zero_or_pos cap with h0 | hpos
    · have:len=0:=by omega
      subst this
      subst h0
      exact⟨[],fun β=>.cons (.rnil _ _) (RepL.nil _)⟩
    · have hread:∃y,(w.cells? 0 a (P.cellsOf e)).bind (DataW.trod en P w 0 (fun _=>true) true n e)=some y:=by
        rcases Nat.eq_zero_or_pos len with h1 | h1
        · obtain⟨hrl,hr⟩:=hspare rfl
          have:=hr 0 (by omega)
          have hlt:0<rest.length:=by omega
          rw [List.getElem?_eq_getElem hlt] at this
          subst h1
          simp [Addr.add] at this
          exact⟨_,this⟩
        · have:=helem 0 h1
          have hlt:0<elems.length:=by omega
          rw [List.getElem?_eq_getElem hlt] at this
          simp [Addr.add] at this
          exact⟨_,this⟩
      have hsp:a=⟨a.block,a.off,none⟩:=by
        obtain⟨y,hy⟩:=hread
        cases hcs:w.cells? 0 a (P.cellsOf e) with
        | none=>rw [hcs] at hy;simp at hy
        | some l0=>
          obtain⟨_,hl,hg⟩:=World.cells?_some hcs
          have h1:=hg 0 (by omega)
          have hlt:0<l0.length:=by omega
          rw [List.getElem?_eq_getElem hlt] at h1
          simp only [Addr.add,if_true] at h1
          unfold World.cell? at h1
          obtain⟨b,o,s⟩:=a
          cases s with
          | none=>rfl
          | some s=>
            simp only at h1
            split at h1<;>simp at h1
      have hadd:∀k,a.add k=⟨a.block,a.off+k,none⟩:=by
        intro k
        unfold Addr.add
        split
        · rename_i hk;subst hk;exact hsp
        · rfl
      have each:∀i,i<len → ∃(p:c.den × List Value),p.2.length=c.width∧(∀β,RepL ⟨β,wholeΓ w⟩ (Sx.enc c p.1) p.2) ∧ ∀(j:Nat) v,p.2[j]?=some v→w.cell? ⟨a.block,a.off+(i*c.width+j),none⟩=some v:=by
        intro i hi
        have h1:=helem i hi
        have hlt:i<elems.length:=by omega
        rw [List.getElem?_eq_getElem hlt] at h1
        cases hcs:w.cells? 0 (a.add (i*P.cellsOf e)) (P.cellsOf e) with
        | none=>rw [hcs] at h1;simp at h1
        | some l0=>
          rw [hcs] at h1
          simp only [Option.bind_some] at h1
          obtain⟨_,hl,hg⟩:=World.cells?_some hcs
          obtain⟨d,hd⟩:=he n l0 _ h1 (weightsAll_mem hw1 _ (List.mem_map.2 ⟨elems[i],List.getElem_mem hlt,rfl⟩))
          refine⟨(d,l0),by rw [←hc];exact hl,hd,fun j v hv=>?_⟩
          have hj:j<l0.length:=(List.getElem?_eq_some_iff.1 hv).1
          have:=hg j (by omega)
          rw [hv,hadd] at this
          unfold Addr.add at this
          split at this
          · rename_i hj0;subst hj0;rw [hc] at this;simpa using this
          · rw [hc] at this
            simp only at this
            rw [←this,Nat.add_assoc]
      obtain⟨ps,hpl,hp⟩:=choose_list (β:=Unit) len each
      refine⟨ps.map (·.1),fun β=>.cons ?_ (RepL.nil _)⟩
      rw [hsp]
      have:=Rep.rslice (g:=⟨β,wholeΓ w⟩) false c (ps.map (·.1)) a.block a.off cap (fun i=>match ps[i]? with | some p=>p.2 | none=>List.replicate c.width undef) (by simp [hpl];exact hle) (by simp [hpl];exact hbytes) (fun i=>by
        cases hi:ps[i]? with
        | none=>simp
        | some p=>exact (hp i p hi).1) (fun i x hx j sv v h1 h2=>by
        rw [List.getElem?_map] at hx
        cases hi:ps[i]? with
        | none=>rw [hi] at hx;simp at hx
        | some p=>
          rw [hi] at hx h2
          simp at hx
          subst hx
          exact ((hp i p hi).2.1 β).2 j sv v h1 h2) (fun i hi j v h1=>by
        cases hq:ps[i]? with
        | none=>rw [List.getElem?_eq_none_iff] at hq;simp at hi;omega
        | some p=>
          rw [hq] at h1
          exact (hp i p hq).2.2 j v h1)
      simp only [List.length_map,hpl] at this
      exact this
def OpensF {H:Type} (en:TypeId × Value→H) (P:Program) (w:World) (fs:List Field) (off:Nat) {α:Type} (mk:α→List SV):Prop:=
  ∀m (cs:List Value),(∀(i:Nat) f,fs[i]?=some f → ∃y,DataW.trod en P w 0 (fun _=>true) true m f.type ((cs.drop f.offset).take (P.cellsOf f.type))=some y∧(y.1.weights P f.type).all (· ≤ reachBytes)=true)→
    cs.length=(fs.map fun f=>P.cellsOf f.type).foldr (· + ·) off → ∃a,∀β,RepL ⟨β,wholeΓ w⟩ (mk a) (cs.drop off)
theorem opensF_nil {off:Nat}:OpensF en P w [] off (fun _:Unit=>[]):=by
  intro m cs _ hl
  refine⟨(),fun β=>?_⟩
  have:cs.drop off=[]:=by
    apply List.drop_eq_nil_of_le
    simp at hl
    omega
  rw [this]
  exact RepL.nil _
theorem foldr_off (l:List Nat) (a b:Nat):l.foldr (· + ·) (a+b)=b+l.foldr (· + ·) a:=by
  induction l with
  | nil=>simp [Nat.add_comm]
  | cons x r ih=>simp only [List.foldr_cons,ih];omega
theorem opensF_cons {f:Field} {fs:List Field} {off sz:Nat} {α α':Type} {mk:α→List SV} {mk':α'→List SV} (ho:f.offset=off) (hs:P.cellsOf f.type=sz) (h1:Opens en P w f.type mk) (h2:OpensF en P w fs (off+sz) mk') :
    OpensF en P w (f::fs) off (fun x:α × α'=>mk x.1++mk' x.2):=by
  intro m cs hf hl
  obtain⟨y,hy,hyw⟩:=hf 0 f rfl
  obtain⟨a,ha⟩:=h1 m _ y hy hyw
  obtain⟨b,hb⟩:=h2 m cs (fun i g hg=>hf (i+1) g (by simpa using hg)) (by
    rw [hl,List.map_cons,List.foldr_cons,hs,foldr_off])
  refine⟨(a,b),fun β=>?_⟩
  have e:cs.drop off=(cs.drop off).take sz++cs.drop (off+sz):=by
    rw [←List.drop_drop,List.take_append_drop]
  rw [e]
  rw [ho,hs] at ha
  exact (ha β).append (hb β)
theorem opens_struct {t:TypeId} {fs:Array Field} {α:Type} {mk:α→List SV} (ht:P.underlying t=some (.struct fs)) (hl:P.cellsOf t=(fs.toList.map fun f=>P.cellsOf f.type).foldr (· + ·) 0)
    (h:OpensF en P w fs.toList 0 mk):Opens en P w t mk:=by
  intro m cs x hx hw
  obtain⟨xs,n,rfl,rfl,hcl,hxl,hf⟩:=DataW.trod_struct ht hx
  simp only [DataW.weights,ht] at hw
  obtain⟨a,ha⟩:=h n cs (fun i f hi=>by
    have hi':fs[i]?=some f:=by simpa using hi
    have h1:=hf i f hi'
    have hlt:i<xs.length:=by
      rw [hxl];exact (Array.getElem?_eq_some_iff.1 hi').1
    rw [List.getElem?_eq_getElem hlt] at h1
    refine⟨_,h1,weightsEach_get hw i f.type _ ?_ ?_⟩
    · rw [List.getElem?_map,hi];rfl
    · rw [List.getElem?_map,List.getElem?_eq_getElem hlt];rfl) (by rw [hcl,hl])
  exact⟨a,fun β=>by simpa using ha β⟩
end
end Go.Proofs.YtgepebndihfnfaaGreat.Sx
