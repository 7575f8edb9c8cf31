/- Numbers put in and taken out of slices; what the machine does with a request. No condition. -/
import Derived.Test.YtgepebndihfnfaaGreatJMsA
import Derived.Shelf.Spec.SlicesInsertGrow
import Derived.Shelf.Spec.SlicesInsert
import Derived.Shelf.Slices.Delete
import Derived.Shelf.Slices.SearchI
import Derived.KernelRfl
set_option linter.unusedSimpArgs false
set_option linter.unusedVariables false

namespace Go.Proofs.YtgepebndihfnfaaGreat.Ses
open Go Go.Proofs Go.Proofs.YtgepebndihfnfaaGreat.Sx
open Go.Shelf
def refI_ren:Go.Shelf.Ren:=⟨fun | 21=>271 | 27=>291 | 28=>292 | 35=>301 | 39=>310 | n=>n,fun | 22=>30 | 3=>3 | 4=>4 | 0=>0 | n=>n,fun | n=>n⟩
theorem refI:Go.Proofs.Lays2.n21 Tryz.prog refI_ren where
  mixed:=by kernel_rfl
  f21:=Tryz.func271.trans (congrArg some (by kernel_rfl))
  f27:=Tryz.func291.trans (congrArg some (by kernel_rfl))
  f28:=Tryz.func292.trans (congrArg some (by kernel_rfl))
  f35:=Tryz.func301.trans (congrArg some (by kernel_rfl))
  f39:=Tryz.func310.trans (congrArg some (by kernel_rfl))
  t0:=Tryz.underlying0
  a0:=Tryz.isAgg0
  z0:=Tryz.sizeOf0
  v0:=Tryz.zeroValue0
  t3:=Tryz.underlying3
  a3:=Tryz.isAgg3
  z3:=Tryz.sizeOf3
  v3:=Tryz.zeroValue3
  t4:=Tryz.underlying4
  a4:=Tryz.isAgg4
  z4:=Tryz.sizeOf4
  v4:=Tryz.zeroValue4
  t22:=Tryz.underlying30
  a22:=Tryz.isAgg30
  z22:=Tryz.sizeOf30
  v22:=Tryz.zeroValue30
  i3:=by kernel_rfl
def refD_ren:Go.Shelf.Ren:=⟨fun | 23=>272 | n=>n,fun | 22=>30 | 3=>3 | 4=>4 | 0=>0 | n=>n,fun | n=>n⟩
theorem refD:Go.Proofs.Lays2.n23 Tryz.prog refD_ren where
  mixed:=by kernel_rfl
  f23:=Tryz.func272.trans (congrArg some (by kernel_rfl))
  t0:=Tryz.underlying0
  a0:=Tryz.isAgg0
  z0:=Tryz.sizeOf0
  v0:=Tryz.zeroValue0
  t3:=Tryz.underlying3
  a3:=Tryz.isAgg3
  z3:=Tryz.sizeOf3
  v3:=Tryz.zeroValue3
  t4:=Tryz.underlying4
  a4:=Tryz.isAgg4
  z4:=Tryz.sizeOf4
  v4:=Tryz.zeroValue4
  t22:=Tryz.underlying30
  a22:=Tryz.isAgg30
  z22:=Tryz.sizeOf30
  v22:=Tryz.zeroValue30
  i3:=by kernel_rfl
def refB_ren:Go.Shelf.Ren:=⟨fun | 25=>270 | 31=>247 | 32=>290 | 37=>267 | n=>n,fun | 22=>30 | 3=>3 | 4=>4 | 40=>238 | 0=>0 | n=>n,fun | n=>n⟩
theorem refB:Go.Proofs.Lays2.n25 Tryz.prog refB_ren where
  mixed:=by kernel_rfl
  f25:=Tryz.func270.trans (congrArg some (by kernel_rfl))
  f31:=Tryz.func247.trans (congrArg some (by kernel_rfl))
  f32:=Tryz.func290.trans (congrArg some (by kernel_rfl))
  f37:=Tryz.func267.trans (congrArg some (by kernel_rfl))
  t0:=Tryz.underlying0
  a0:=Tryz.isAgg0
  z0:=Tryz.sizeOf0
  v0:=Tryz.zeroValue0
  t3:=Tryz.underlying3
  a3:=Tryz.isAgg3
  z3:=Tryz.sizeOf3
  v3:=Tryz.zeroValue3
  t4:=Tryz.underlying4
  a4:=Tryz.isAgg4
  z4:=Tryz.sizeOf4
  v4:=Tryz.zeroValue4
  t22:=Tryz.underlying30
  a22:=Tryz.isAgg30
  z22:=Tryz.sizeOf30
  v22:=Tryz.zeroValue30
  t40:=Tryz.underlying238
  a40:=Tryz.isAgg238
  z40:=Tryz.sizeOf238
  v40:=Tryz.zeroValue238
end Go.Proofs.YtgepebndihfnfaaGreat.Ses

namespace Go.Proofs.YtgepebndihfnfaaGreat.Sx
open Go
theorem setCells_put {b:Nat} {T:TypeId}:∀(vs:List Value) (o:Nat) (w:World) (c:Array Value),w.heap[b]?=some (.cells c T (0,0))→w.setCells b o vs=putBlk w b (splice c o vs) T
  | [],o,w,c,h=>by
    unfold World.setCells putBlk splice
    cases w
    congr 1
    apply Array.ext_getElem?
    intro k
    rw [Array.getElem?_setIfInBounds]
    split
    · subst_vars;simp at h ⊢;split<;>simp_all
    · rfl
  | v::r,o,w,c,h=>by
    have hb:b<w.heap.size:=(Array.getElem?_eq_some_iff.1 h).1
    unfold World.setCells
    rw [setCell_putBlk h,setCells_put r (o+1) _ (c.setIfInBounds o v) (putBlk_get hb),putBlk_putBlk]
    rfl
theorem putBlk_size {w:World} {b:Nat} {c:Array Value} {T:TypeId}:(putBlk w b c T).heap.size=w.heap.size:=by simp [putBlk]
theorem Mem.inPlace {F:Fr} {g:Ctx} {m:MS} {w w':World} (h:Mem F g m w) {n:Nat} {l:List Int} {r:Reg} (hn:m.blks.get n=some (.rows .int l)) (hr:g.β[n]?=some (some r)) {l2:List Int} {c':Array Value} {T:TypeId}
    (hos:w'.os=w.os) (hout:w'.output=w.output) (hsz:w'.heap.size=w.heap.size) (hoth:∀b,b≠r.b→w'.heap[b]?=w.heap[b]?) (hc':w'.heap[r.b]?=some (.cells c' T (0,0))) (hcs:c'.size=r.base+r.sz)
    (hl:l2.length≤r.sz) (hby:l2.length*8≤room47) (hrow:∀(i:Nat) x,l2[i]?=some x→c'[r.base+i]?=some (.int .i64 x)):Mem F (g.add (some r)) ((m.kill n).new (.rows .int l2)) w':=by
  have hdel:∀n' k',(m.blks.del n).get n'=some k'→n'≠n∧m.blks.get n'=some k':=fun n' k' e=>by
    by_cases e2:n'=n
    · subst e2;rw [Blks.get_del_same] at e;cases e
    · exact⟨e2,by rwa [Blks.get_del_other _ e2] at e⟩
  refine (h.kill n).adopt r (.rows .int l2) (fun n' k' r' h1 h2 e=>?_) (h.own n _ r hn hr) (fun o=>h.mem.apart n _ r o hn hr) hos hout hsz hoth ⟨c',T,hc',hcs⟩ ?_
  · obtain⟨h3,h4⟩:=hdel n' k' h1
    exact h3 (h.mem.inj _ _ _ _ _ _ h4 hn h2 hr e)
  · refine⟨by show l2.length*1≤r.sz;omega,hby,fun i=>[.int .i64 (l2.getD i 0)],fun i=>rfl,fun i x hx=>?_,fun i hi j v hv=>?_⟩
    · have e:l2.getD i 0=x:=by simp [List.getD,hx]
      show RepL _ [.int .i64 x] [.int .i64 (l2.getD i 0)]
      rw [e]
      exact .cons (.int _ _) (RepL.nil _)
    · cases j with
      | succ j=>simp at hv
      | zero=>
        simp at hv
        subst hv
        show w'.cell? ⟨r.b,r.base+(i*1+0),none⟩=_
        rw [cell?_of_blk hc']
        have:=hrow i l2[i] (by simp [hi])
        rw [Nat.mul_one,Nat.add_zero,this]
        simp [List.getD,hi]
theorem Mem.newInts {F:Fr} {g:Ctx} {m:MS} {w w':World} (h:Mem F g m w) {l2:List Int} {c':Array Value} {T:TypeId} (hos:w'.os=w.os) (hout:w'.output=w.output) (hheap:w'.heap=w.heap.push (.cells c' T))
    (hl:l2.length≤c'.size) (hby:l2.length*8≤room47) (hrow:∀(i:Nat) x,l2[i]?=some x→c'[i]?=some (.int .i64 x)):Mem F (g.add (some ⟨w.heap.size,0,c'.size⟩)) (m.new (.rows .int l2)) w':=by
  have h1:=h.newRows (k:=.int) (l:=l2) (c:=c') T (by show l2.length*1≤c'.size;omega) hby (fun i x hx=>by
    have:=hrow i x hx
    have e:(c'.toList.drop (i*1)).take 1=[.int .i64 x]:=by
      have hlt:i<c'.toList.length:=by
        have:=(Array.getElem?_eq_some_iff.1 this).1
        simpa using this
      rw [Nat.mul_one,List.drop_eq_getElem_cons hlt]
      have e2:c'.toList[i] = .int .i64 x:=by
        have h3:=(Array.getElem?_eq_some_iff.1 this).2
        simpa using h3
      rw [e2];rfl
    show RepL g [.int .i64 x] ((c'.toList.drop (i*1)).take 1)
    rw [e]
    exact .cons (.int _ _) (RepL.nil _))
  exact h1.of_heap ⟨hheap,hos,hout⟩
end Go.Proofs.YtgepebndihfnfaaGreat.Sx
namespace Go.Proofs.YtgepebndihfnfaaGreat.Ses
open Go Go.Proofs Go.Proofs.YtgepebndihfnfaaGreat.Sx Go.Shelf
theorem ints_of {g:Ctx} {l:List Int} {u:Value} (r:Rep g (.rslice false .int l) u) (hne:0<l.length):∃b off cap,u = .slice (some ⟨b,off,none⟩) l.length cap∧l.length≤cap ∧ ∀(j:Nat) x,l[j]?=some x→g.Γ b (off+j)=some (.int .i64 x):=by
  cases r with
  | rnil _ _=>exact absurd hne (by simp)
  | rslice _ _ _ b off cap vs h1 h2 h3 h4 h5=>
    refine⟨b,off,cap,rfl,h1,fun j x hx=>?_⟩
    have hj:j<l.length:=(List.getElem?_eq_some_iff.1 hx).1
    have hl:=h3 j
    obtain⟨v,hv⟩:∃v,vs j=[v]:=by
      match h:vs j,hl with
      | [v],_=>exact⟨v,rfl⟩
    have hr:=h4 j x hx 0 (.int .i64 x) v rfl (by rw [hv];rfl)
    have hc:=h5 j hj 0 v (by rw [hv];rfl)
    cases hr
    have e:off+(j*Tc.int.width+0)=off+j:=by show off+(j*1+0)=off+j;omega
    rw [e] at hc
    exact hc
theorem ownInts {F:Fr} {g:Ctx} {m:MS} {w:World} (h:Mem F g m w) {n len:Nat} {l:List Int} {v:Value} (hn:m.blks.get n=some (.rows .int l)) (r:Rep g (.mslice .int n 0 len) v) (h0:0<len) :
    ∃r1 cap c T,g.β[n]?=some (some r1)∧v = .slice (some ⟨r1.b,r1.base,none⟩) len cap∧len≤cap∧cap≤9223372036854775807∧cap≤r1.sz∧w.heap[r1.b]?=some (.cells c T (0,0))∧c.size=r1.base+r1.sz∧
      ∀(i:Nat) x,l[i]?=some x→c[r1.base+i]?=some (.int .i64 x):=by
  cases r with
  | mslice0=>exact absurd h0 (by simp)
  | mslice _ _ _ _ cap off r1 hr h1 h2 h3 h4=>
    obtain⟨x,hx,hok⟩:=h.mem.reg n _ hn
    rw [hr] at hx
    cases hx
    obtain⟨⟨c,T,hc,hcs⟩,hb⟩:=hok
    obtain⟨b1,b2,vs,b3,b4,b5⟩:=hb
    rcases h3 with h3 | ⟨h3,h5⟩
    · omega
    · have e:off=r1.base:=by rw [h3];simp
      subst e
      refine⟨r1,cap,c,T,hr,rfl,h1,h4,by have:(0+cap)*1≤r1.sz:=h5;omega,hc,hcs,fun i x hx=>?_⟩
      have hi:i<l.length:=(List.getElem?_eq_some_iff.1 hx).1
      obtain⟨u,hu⟩:∃u,vs i=[u]:=by
        match h:vs i,b3 i with
        | [u],_=>exact⟨u,rfl⟩
      have hrep:=(b4 i x hx).2 0 (.int .i64 x) u rfl (by rw [hu];rfl)
      have hcell:=b5 i hi 0 u (by rw [hu];rfl)
      cases hrep
      have e:r1.base+(i*Tc.int.width+0)=r1.base+i:=by show r1.base+(i*1+0)=r1.base+i;omega
      rw [e,cell?_of_blk hc] at hcell
      exact hcell
theorem bin_calls (b off cap:Nat) (l:List Int) (mm:Int) (w:World) (hz:l.length≤l.length) (hbig:l.length<4611686018427387904)
   (hc:∀j,j<l.length→w.cell? ⟨b,off+j,none⟩=some (.int .i64 (l.getD j 0))) (hs:(l.take l.length).Pairwise (· ≤ ·)):Calls Tryz.prog 270 #[.slice (some ⟨b,off,none⟩) l.length cap,.int .i64 mm] w (fun e w'=>e = .returned (.tuple #[.int .i64 ((l.take l.length).countP (· < mm):Nat),.bool ((l.take l.length).contains mm)]) ∧ ∃q,w'=w.drewN q):=
  Any.slices_BinarySearch_int refB b off l.length cap l mm w hz hbig hc hs
structure BnsA where
  l:List Int
  m:Int
def binT:Tri:={γ:=BnsA,n0:=0,args:=fun x=>[.rslice false .int x.l,.int .i64 x.m],blks:=fun _=>[],pre:=fun x=>x.l.Pairwise (· ≤ ·)∧0<x.l.length∧x.l.length≤1000,δ:=Unit,post:=fun _ _=>True,n1:=0,res:=fun x _=>.tuple [.int .i64 ((x.l.countP (· < x.m):Nat):Int),.bool (x.l.contains x.m)],blks':=fun _ _=>[],scal:=true}
theorem bin_ends (x:BnsA):binT.ends x (.tuple [.int .i64 ((x.l.countP (· < x.m):Nat):Int),.bool (x.l.contains x.m)]) ⟨[],0,[]⟩:=by
  have e:binT.ends x (.tuple [.int .i64 ((x.l.countP (· < x.m):Nat):Int),.bool (x.l.contains x.m)]) ⟨[],0,[]⟩=(∃x1:Unit,((((x.l.countP (· < x.m):Nat):Int)=((x.l.countP (· < x.m):Nat):Int))∧((x.l.contains x.m=x.l.contains x.m)∧True))):=by kernel_rfl
  rw [e]
  exact⟨(),rfl,rfl,trivial⟩
theorem bin_ok:SpecOK Tryz.prog 270 binT.spec:=by
  refine Tri.ok' binT fun x hx F g w vs hargs hm=>?_
  obtain⟨l,mm⟩:=x
  obtain⟨p1,p2,p3⟩:l.Pairwise (· ≤ ·)∧0<l.length∧l.length≤1000:=hx
  have hargs:RepL g [.rslice false .int l,.int .i64 mm] vs:=hargs
  obtain⟨u0,_,rfl,r0,r⟩:=hargs.uncons
  obtain⟨u1,_,rfl,r1,r⟩:=r.uncons
  rw [r.eq_nil]
  cases r1
  obtain⟨b,off,cap,rfl,hcap,hcell⟩:=ints_of r0 p2
  have hc:=bin_calls b off cap l mm w (Nat.le_refl _) (by omega) (fun j hj=>by
    have:=hm.mem.ro _ _ _ (hcell j l[j] (by simp [hj]))
    rw [this]
    simp [List.getD,hj]) (by rw [List.take_length];exact p1)
  refine hc.mono ?_
  rintro e w' ⟨rfl,q,rfl⟩
  rw [List.take_length]
  refine⟨g,⟨[],0,[]⟩,.tuple [.int .i64 ((l.countP (· < mm):Nat):Int),.bool (l.contains mm)],?_,Ctx.le.refl g,Upd.refl _,hm.of_heap ⟨rfl,rfl,rfl⟩,.tuple _ _ rfl ?_⟩
  · exact bin_ends ⟨l,mm⟩
  · exact (RepL.cons (.int _ _) (.cons (.bool _) (RepL.nil _))).2
def innAt (l:List Int) (i:Nat) (m:Int):List Int:=l.take i++m::l.drop i
theorem innAt_len {l:List Int} {i:Nat} {m:Int} (hi:i≤l.length):(innAt l i m).length=l.length+1:=by
  unfold innAt
  rw [List.length_append,List.length_cons,List.length_take,List.length_drop]
  omega
theorem innAt_get {l:List Int} {i:Nat} {m:Int} (hi:i≤l.length) (j:Nat):(innAt l i m)[j]?=if j<i then l[j]? else if j=i then some m else l[j-1]?:=by
  unfold innAt
  by_cases h1:j<i
  · rw [if_pos h1,List.getElem?_append_left (by rw [List.length_take];omega),List.getElem?_take_of_lt h1]
  · rw [if_neg h1,List.getElem?_append_right (by rw [List.length_take];omega),List.length_take,Nat.min_eq_left hi]
    by_cases h2:j=i
    · subst h2;simp
    · rw [if_neg h2,show j-i=(j-i-1)+1 by omega,List.getElem?_cons_succ,List.getElem?_drop,show i+(j-i-1)=j-1 by omega]
theorem shift_get {c:Array Value} {l:List Int} {b0 i:Nat} {m:Int} (hi:i≤l.length) (hsz:b0+l.length+1≤c.size) (hc:∀(j:Nat) x,l[j]?=some x→c[b0+j]?=some (.int .i64 x)) (j:Nat) (x:Int) (hx:(innAt l i m)[j]?=some x) :
    (splice (splice c (b0+(i+1)) ((l.map (Value.int .i64)).drop i)) (b0+i) [.int .i64 m])[b0+j]?=some (.int .i64 x):=by
  rw [innAt_get hi] at hx
  rw [splice_get _ _ _ _ (by rw [splice_size];simp;omega),splice_get _ _ _ _ (by simp;omega)]
  by_cases h1:j<i
  · rw [if_pos h1] at hx
    rw [if_neg (by simp;omega),if_neg (by simp;omega)]
    exact hc j x hx
  · rw [if_neg h1] at hx
    by_cases h2:j=i
    · subst h2
      rw [if_pos rfl] at hx
      cases hx
      rw [if_pos (by simp)]
      simp
    · rw [if_neg h2] at hx
      have hjl:j-1<l.length:=(List.getElem?_eq_some_iff.1 hx).1
      rw [if_neg (by simp;omega),if_pos (by simp;omega),List.getElem?_drop,List.getElem?_map,show i+(b0+j-(b0+(i+1)))=j-1 by omega,hx]
      rfl
theorem grow_get {A:Array Value} {l:List Int} {i:Nat} {m:Int} (hi:i≤l.length) (hsz:l.length+1≤A.size) (hc:∀(j:Nat) x,j<i→l[j]?=some x→A[j]?=some (.int .i64 x)) (j:Nat) (x:Int) (hx:(innAt l i m)[j]?=some x) :
    (splice (splice A i [.int .i64 m]) (i+1) ((l.map (Value.int .i64)).drop i))[j]?=some (.int .i64 x):=by
  rw [innAt_get hi] at hx
  rw [splice_get _ _ _ _ (by rw [splice_size];simp;omega),splice_get _ _ _ _ (by simp;omega)]
  by_cases h1:j<i
  · rw [if_pos h1] at hx
    rw [if_neg (by simp;omega),if_neg (by simp;omega)]
    exact hc j x h1 hx
  · rw [if_neg h1] at hx
    by_cases h2:j=i
    · subst h2
      rw [if_pos rfl] at hx
      cases hx
      rw [if_neg (by simp;omega),if_pos (by simp)]
      simp
    · rw [if_neg h2] at hx
      have hjl:j-1<l.length:=(List.getElem?_eq_some_iff.1 hx).1
      rw [if_pos (by simp;omega),List.getElem?_drop,List.getElem?_map,show i+(j-(i+1))=j-1 by omega,hx]
      rfl
theorem push_put (a:Array Obj) (x y:Obj):(a.push x).setIfInBounds a.size y=a.push y:=by
  apply Array.ext_getElem?
  intro k
  rw [Array.getElem?_setIfInBounds]
  by_cases e:a.size=k
  · subst e;simp
  · rw [if_neg e,Array.getElem?_push,Array.getElem?_push,if_neg (fun h=>e h.symm),if_neg (fun h=>e h.symm)]
structure InnA where
  l:List Int
  i:Nat
  m:Int
def innT:Tri:={γ:=InnA,n0:=2,args:=fun x=>[.mslice .int 0 0 x.l.length,.int .i64 x.i,.mslice .int 1 0 1],blks:=fun x=>[(0,.rows .int x.l),(1,.rows .int [x.m])],pre:=fun x=>(1≤x.l.length∧x.l.length≤1000)∧x.i≤x.l.length,δ:=Unit,post:=fun _ _=>True,n1:=0,res:=fun x _=>.rslice false .int (innAt x.l x.i x.m),blks':=fun _ _=>[],scal:=false}
theorem inn_in {F:Fr} {g:Ctx} {x:InnA} {w w':World} (hm:Mem F g ⟨innT.blks x,2,[]⟩ w) (hi:x.i≤x.l.length) (hb:x.l.length≤1000) {r1:Reg} {cap:Nat} {c':Array Value} {T:TypeId} (hr:g.β[0]?=some (some r1)) (h1:x.l.length+1≤cap) (h2:cap≤9223372036854775807) (h3:cap≤r1.sz)
    (hos:w'.os=w.os) (hout:w'.output=w.output) (hsz:w'.heap.size=w.heap.size) (hoth:∀b,b≠r1.b→w'.heap[b]?=w.heap[b]?) (hc':w'.heap[r1.b]?=some (.cells c' T (0,0))) (hcs:c'.size=r1.base+r1.sz)
    (hrow:∀(i:Nat) y,(innAt x.l x.i x.m)[i]?=some y→c'[r1.base+i]?=some (.int .i64 y)) :
    CallPost F g ⟨innT.blks x,innT.n0,[]⟩ (fun _ _=>False) (innT.ends x) (.returned (.slice (some ⟨r1.b,r1.base,none⟩) (x.l.length+1) cap)) w':=by
  have hlen:=innAt_len (m:=x.m) hi
  have hA:=hm.inPlace (n:=0) (l:=x.l) (r:=r1) (l2:=innAt x.l x.i x.m) (c':=c') (T:=T) rfl hr hos hout hsz hoth hc' hcs (by omega) (by rw [hlen];unfold room47;omega) hrow
  have hnx:g.β.length=2:=hm.next.symm
  refine⟨_,_,.mslice .int 2 0 (x.l.length+1),?_,g.le_add _,(Upd.kill _ 0).trans (Upd.new _ _),hA,?_⟩
  · refine⟨(),?_⟩
    show ((0+(x.l.length+1))≤(innAt x.l x.i x.m).length∧((innAt x.l x.i x.m).drop 0).take (x.l.length+1)=innAt x.l x.i x.m∧True)
    rw [List.drop_zero,List.take_of_length_le (by omega)]
    exact⟨by omega,rfl,trivial⟩
  · have:=Rep.mslice (g:=g.add (some r1)) .int 2 0 (x.l.length+1) cap r1.base r1 (by rw [←hnx];exact Ctx.add_get _ _) h1 (by show (x.l.length+1)*8≤room47;unfold room47;omega) (.inr ⟨by simp,by show (0+cap)*1≤r1.sz;omega⟩) h2
    exact this
theorem inn_new {F:Fr} {g:Ctx} {x:InnA} {w w':World} (hm:Mem F g ⟨innT.blks x,2,[]⟩ w) (hi:x.i≤x.l.length) (hb:x.l.length≤1000) {cap:Nat} {c':Array Value} {T:TypeId} (h1:x.l.length+1≤cap) (h2:cap≤9223372036854775807) (h3:c'.size=cap)
    (hos:w'.os=w.os) (hout:w'.output=w.output) (hheap:w'.heap=w.heap.push (.cells c' T)) (hrow:∀(i:Nat) y,(innAt x.l x.i x.m)[i]?=some y→c'[i]?=some (.int .i64 y)) :
    CallPost F g ⟨innT.blks x,innT.n0,[]⟩ (fun _ _=>False) (innT.ends x) (.returned (.slice (some ⟨w.heap.size,0,none⟩) (x.l.length+1) cap)) w':=by
  have hlen:=innAt_len (m:=x.m) hi
  have hA:=hm.newInts (l2:=innAt x.l x.i x.m) (c':=c') (T:=T) hos hout hheap (by omega) (by rw [hlen];unfold room47;omega) hrow
  have hnx:g.β.length=2:=hm.next.symm
  refine⟨_,_,.mslice .int 2 0 (x.l.length+1),?_,g.le_add _,Upd.new _ _,hA,?_⟩
  · refine⟨(),?_⟩
    show ((0+(x.l.length+1))≤(innAt x.l x.i x.m).length∧((innAt x.l x.i x.m).drop 0).take (x.l.length+1)=innAt x.l x.i x.m∧True)
    rw [List.drop_zero,List.take_of_length_le (by omega)]
    exact⟨by omega,rfl,trivial⟩
  · have:=Rep.mslice (g:=g.add (some ⟨w.heap.size,0,c'.size⟩)) .int 2 0 (x.l.length+1) cap 0 ⟨w.heap.size,0,c'.size⟩ (by rw [←hnx];exact Ctx.add_get _ _) h1 (by show (x.l.length+1)*8≤room47;unfold room47;omega) (.inr ⟨by simp,by show (0+cap)*1≤c'.size;omega⟩) h2
    exact this
theorem grown_bounds (w:World) (need old:Nat) (e:TypeId) (h:need≤1001):need≤grownCap w need old e∧grownCap w need old e≤9223372036854775807:=by
  unfold grownCap Question.cut
  have hlt:=Nat.mod_lt (w.tape w.drawn (.appendCap need old e)) (show 2 ^ 63-need>0 by omega)
  dsimp only
  omega
theorem onesC {l:List Int}:∀v∈l.map (Value.int .i64),v.oneCell'=true:=by
  intro v hv
  obtain⟨n,_,rfl⟩:=List.mem_map.1 hv
  rfl
set_option maxHeartbeats 0 in
theorem inn_ok:SpecOK Tryz.prog 271 innT.spec:=by
  refine Tri.ok' innT fun x hx F g w vs hargs hm=>?_
  obtain⟨⟨p1,p2⟩,p3⟩:(1≤x.l.length∧x.l.length≤1000)∧x.i≤x.l.length:=hx
  have hargs:RepL g [.mslice .int 0 0 x.l.length,.int .i64 x.i,.mslice .int 1 0 1] vs:=hargs
  obtain⟨u0,_,rfl,r0,r⟩:=hargs.uncons
  obtain⟨u1,_,rfl,r1,r⟩:=r.uncons
  obtain⟨u2,_,rfl,r2,r⟩:=r.uncons
  rw [r.eq_nil]
  cases r1
  have hm:Mem F g ⟨innT.blks x,2,[]⟩ w:=hm
  obtain⟨q0,cap,c,T,hq0,rfl,hc1,hc2,hc3,hblk,hsz,hcell⟩:=ownInts (l:=x.l) hm rfl r0 (by omega)
  obtain⟨q1,cap1,c1,T1,hq1,rfl,hd1,hd2,hd3,hblk1,hsz1,hcell1⟩:=ownInts (l:=[x.m]) hm rfl r2 (by omega)
  have hne:q1.b≠q0.b:=fun e=>by
    have:=hm.mem.inj 1 0 _ _ _ _ rfl rfl hq1 hq0 e
    omega
  have hfr:∀o,w.frozen? ⟨q0.b,o,none⟩=false:=fun o=>by simp [World.frozen?,hblk]
  have hfr1:∀o,w.frozen? ⟨q1.b,o,none⟩=false:=fun o=>by simp [World.frozen?,hblk1]
  have hcs:∀(j:Nat) v,(x.l.map (Value.int .i64))[j]?=some v→w.cell? ⟨q0.b,q0.base+j,none⟩=some v:=fun j v hv=>by
    rw [List.getElem?_map] at hv
    cases hy:x.l[j]? with
    | none=>rw [hy] at hv;cases hv
    | some y=>rw [hy] at hv;cases hv;rw [cell?_of_blk hblk];exact hcell j y hy
  have hvs:∀(j:Nat) v,[Value.int .i64 x.m][j]?=some v→w.cell? ⟨q1.b,q1.base+j,none⟩=some v:=fun j v hv=>by
    cases j with
    | succ j=>simp at hv
    | zero=>cases hv;rw [cell?_of_blk hblk1];exact hcell1 0 x.m rfl
  have hml:(x.l.map (Value.int .i64)).length=x.l.length:=List.length_map ..
  have hsp:∀j,j<cap→(w.cell? ⟨q0.b,q0.base+j,none⟩).isSome=true:=fun j hj=>by
    rw [cell?_of_blk hblk,Array.getElem?_eq_getElem (by omega)];rfl
  have hbs:q0.b<w.heap.size:=(Array.getElem?_eq_some_iff.1 hblk).1
  by_cases hroom:x.l.length+1≤cap
  · rcases Nat.lt_or_ge x.i x.l.length with hlt | hge
    · have hc:Calls Tryz.prog 271 #[.slice (some ⟨q0.b,q0.base,none⟩) x.l.length cap,.int .i64 (x.i:Nat),.slice (some ⟨q1.b,q1.base,none⟩) 1 cap1] w _:=
        Any2.slices_Insert_int_shift refI q0.b q0.base x.l.length cap x.i q1.b q1.base 1 cap1 (x.l.map (Value.int .i64)) [Value.int .i64 x.m] w hlt (by omega) hroom hc2 hne hml rfl hcs (fun j hj=>hsp j (by omega)) (fun j _=>hfr _) hvs onesC (fun v hv=>by simp at hv;subst hv;rfl)
          T1 T c1.size c.size (by simp [World.shape?,hblk1]) (by simp [World.shape?,hblk]) (by omega) (hfr1 _) (hfr1 _)
      refine hc.mono ?_
      rintro e w' ⟨rfl,rfl⟩
      have hb2:w.drew.heap[q0.b]?=some (.cells c T (0,0)):=hblk
      rw [setCells_put _ _ _ _ hb2,setCells_put _ _ _ _ (putBlk_get (w:=w.drew) hbs),putBlk_putBlk]
      exact inn_in hm p3 p2 hq0 hroom hc2 hc3 rfl rfl putBlk_size (fun b hb=>putBlk_other hb) (putBlk_get (w:=w.drew) hbs) (by rw [splice_size,splice_size];exact hsz) (shift_get p3 (by omega) hcell)
    · have hie:x.i=x.l.length:=by omega
      have hc:Calls Tryz.prog 271 #[.slice (some ⟨q0.b,q0.base,none⟩) x.l.length cap,.int .i64 (x.l.length:Nat),.slice (some ⟨q1.b,q1.base,none⟩) 1 cap1] w _:=
        Any2.slices_Insert_int_end_room refI q0.b q0.base x.l.length cap q1.b q1.base 1 cap1 [Value.int .i64 x.m] w (by omega) hroom hc2 rfl (fun j hj=>by rw [Nat.add_assoc];exact hsp _ (by omega)) (fun j _=>hfr _) hvs (fun v hv=>by simp at hv;subst hv;rfl)
      rw [hie]
      refine hc.mono ?_
      rintro e w' ⟨rfl,rfl⟩
      rw [setCells_put _ _ _ _ hblk]
      refine inn_in hm p3 p2 hq0 hroom hc2 hc3 rfl rfl putBlk_size (fun b hb=>putBlk_other hb) (putBlk_get hbs) (by rw [splice_size];exact hsz) ?_
      intro j y hy
      have:=shift_get (c:=c) (b0:=q0.base) (m:=x.m) p3 (by omega) hcell j y hy
      rw [hie,List.drop_of_length_le (by rw [hml];exact Nat.le_refl _)] at this
      exact this
  · rcases Nat.lt_or_ge x.i x.l.length with hlt | hge
    · have hc:Calls Tryz.prog 271 #[.slice (some ⟨q0.b,q0.base,none⟩) x.l.length cap,.int .i64 (x.i:Nat),.slice (some ⟨q1.b,q1.base,none⟩) 1 cap1] w _:=
        Any2.slices_Insert_int_grow refI q0.b q0.base x.l.length cap x.i q1.b q1.base 1 cap1 (x.l.map (Value.int .i64)) [Value.int .i64 x.m] w hlt (by omega) hc1 (by omega) (by omega) hml rfl hcs hvs onesC (fun v hv=>by simp at hv;subst hv;rfl)
      refine hc.mono ?_
      rintro e w' ⟨rfl,rfl⟩
      obtain⟨b1,b2⟩:=grown_bounds w (x.l.length+1) cap (refI_ren.t 3) (by omega)
      generalize grownCap w (x.l.length+1) cap (refI_ren.t 3)=gc at b1 b2 ⊢
      generalize hA:(((x.l.map (Value.int .i64)).take x.i).toArray++Builtin.zeroCells (Value.int .i64 0).cells (x.l.length+1-x.i)++Builtin.zeroCells (Value.int .i64 0).cells (gc-(x.l.length+1)))=A
      have hAs:A.size=gc:=by
        rw [←hA]
        simp [Builtin.zeroCells,Value.cells]
        omega
      have hAc:∀(j:Nat) y,j<x.i→x.l[j]?=some y→A[j]?=some (.int .i64 y):=fun j y hj hy=>by
        rw [←hA,Array.getElem?_append_left (by simp [Builtin.zeroCells,Value.cells];omega),Array.getElem?_append_left (by simp;omega)]
        simp [List.getElem?_take_of_lt hj,hy]
      have hg1:((w.alloc (.cells A (refI_ren.t 3))).drew).heap[w.heap.size]?=some (.cells A (refI_ren.t 3) (0,0)):=by
        show (w.heap.push (.cells A (refI_ren.t 3)))[w.heap.size]?=_
        rw [Array.getElem?_push_size]
      have hs1:w.heap.size<((w.alloc (.cells A (refI_ren.t 3))).drew).heap.size:=by
        show w.heap.size<(w.heap.push (.cells A (refI_ren.t 3))).size
        rw [Array.size_push];omega
      rw [setCells_put _ _ _ _ hg1]
      have hg2:((putBlk (w.alloc (.cells A (refI_ren.t 3))).drew w.heap.size (splice A x.i [Value.int .i64 x.m]) (refI_ren.t 3)).drew).heap[w.heap.size]?=some (.cells (splice A x.i [Value.int .i64 x.m]) (refI_ren.t 3) (0,0)):=putBlk_get hs1
      rw [setCells_put _ _ _ _ hg2]
      refine inn_new (c':=splice (splice A x.i [Value.int .i64 x.m]) (x.i+1) ((x.l.map (Value.int .i64)).drop x.i)) (T:=refI_ren.t 3) hm p3 p2 b1 b2 (by rw [splice_size,splice_size];exact hAs) rfl rfl ?_ (grow_get p3 (by omega) hAc)
      show (((w.heap.push _).setIfInBounds w.heap.size _).setIfInBounds w.heap.size _)=_
      rw [push_put,push_put]
    · have hie:x.i=x.l.length:=by omega
      have hc:Calls Tryz.prog 271 #[.slice (some ⟨q0.b,q0.base,none⟩) x.l.length cap,.int .i64 (x.l.length:Nat),.slice (some ⟨q1.b,q1.base,none⟩) 1 cap1] w _:=
        Any2.slices_Insert_int_end_grow refI (some ⟨q0.b,q0.base,none⟩) x.l.length cap q1.b q1.base 1 cap1 (x.l.map (Value.int .i64)) [Value.int .i64 x.m] w (by omega) hc1 (by omega) (by omega) hml rfl (fun h=>by cases h) (fun a ha j v hv=>by cases ha;rw [add_none];exact hcs j v hv) hvs (fun v hv=>by simp at hv;subst hv;rfl)
      rw [hie]
      refine hc.mono ?_
      rintro e w' ⟨rfl,rfl⟩
      obtain⟨b1,b2⟩:=grown_bounds w (x.l.length+1) cap (refI_ren.t 3) (by omega)
      generalize grownCap w (x.l.length+1) cap (refI_ren.t 3)=gc at b1 b2 ⊢
      refine inn_new (c':=((x.l.map (Value.int .i64)++[Value.int .i64 x.m]).toArray++Builtin.zeroCells (Value.int .i64 0).cells (gc-(x.l.length+1)))) (T:=refI_ren.t 3) hm p3 p2 b1 b2 (by simp [Builtin.zeroCells,Value.cells];omega) rfl rfl rfl ?_
      intro j y hy
      have hlen:=innAt_len (m:=x.m) p3
      have hj:j<x.l.length+1:=by rw [←hlen];exact (List.getElem?_eq_some_iff.1 hy).1
      rw [innAt_get p3,hie] at hy
      rw [Array.getElem?_append_left (by simp;omega)]
      by_cases h1:j<x.l.length
      · rw [if_pos h1] at hy
        rw [List.getElem?_toArray,List.getElem?_append_left (by rw [hml];exact h1),List.getElem?_map,hy]
        rfl
      · have:j=x.l.length:=by omega
        subst this
        rw [if_neg h1,if_pos rfl] at hy
        cases hy
        simp
open Go Go.Proofs Go.Proofs.YtgepebndihfnfaaGreat.Sx Go.Shelf Go.Sort
structure DllA where
  l:List Int
  i:Nat
def delAt (l:List Int) (i:Nat):List Int:=l.take i++l.drop (i+1)
theorem delAt_len {l:List Int} {i:Nat} (hi:i<l.length):(delAt l i).length=l.length-1:=by
  unfold delAt
  rw [List.length_append,List.length_take,List.length_drop]
  omega
def delT:Tri:={γ:=DllA,n0:=1,args:=fun x=>[.mslice .int 0 0 x.l.length,.int .i64 x.i,.int .i64 ((x.i+1:Nat):Int)],blks:=fun x=>[(0,.rows .int x.l)],pre:=fun x=>x.l.length≤1000∧x.i<x.l.length,δ:=Unit,post:=fun _ _=>True,n1:=0,res:=fun x _=>.rslice false .int (delAt x.l x.i),blks':=fun _ _=>[],scal:=false}
set_option maxHeartbeats 0 in
theorem del_ok:SpecOK Tryz.prog 272 delT.spec:=by
  refine Tri.ok' delT fun x hx F g w vs hargs hm=>?_
  obtain⟨p2,p3⟩:x.l.length≤1000∧x.i<x.l.length:=hx
  have hargs:RepL g [.mslice .int 0 0 x.l.length,.int .i64 x.i,.int .i64 ((x.i+1:Nat):Int)] vs:=hargs
  obtain⟨u0,_,rfl,r0,r⟩:=hargs.uncons
  obtain⟨u1,_,rfl,r1,r⟩:=r.uncons
  obtain⟨u2,_,rfl,r2,r⟩:=r.uncons
  rw [r.eq_nil]
  cases r1
  cases r2
  have hm:Mem F g ⟨delT.blks x,1,[]⟩ w:=hm
  obtain⟨q0,cap,c,T,hq0,rfl,hc1,hc2,hc3,hblk,hsz,hcell⟩:=ownInts (l:=x.l) hm rfl r0 (by omega)
  have hfr:∀o,w.frozen? ⟨q0.b,o,none⟩=false:=fun o=>by simp [World.frozen?,hblk]
  have hH:Holds (Value.int .i64) w q0.b q0.base x.l.toArray:=fun j hj=>by
    have hj:j<x.l.length:=by simpa using hj
    refine⟨?_,hfr _⟩
    rw [cell?_of_blk hblk,hcell j x.l[j] (by simp [hj])]
    simp [hj]
  have hc:Calls Tryz.prog 272 #[.slice (some ⟨q0.b,q0.base,none⟩) x.l.length cap,.int .i64 (x.i:Nat),.int .i64 (x.i+1:Nat)] w _:=
    Any.slices_Delete_int refD q0.b q0.base cap x.i (x.i+1) x.l w hH hc1 hc2 (by omega) (by omega)
  refine hc.mono ?_
  rintro e w' ⟨rfl,q,rfl⟩
  have e1:x.i+1-x.i=1:=by omega
  rw [e1]
  generalize hd:(x.l.take x.i++x.l.drop (x.i+1)++List.replicate 1 0).toArray=d
  have hds:d.size=x.l.length:=by rw [←hd];simp;omega
  have hput:(putRow (Value.int .i64) (Go.Sort.ahead w q) q0.b q0.base d).heap[q0.b]?=some (.cells (putCells (Value.int .i64) q0.base d c) T (0,0)):=by
    unfold putRow mapBlock
    simp only [Go.Sort.ahead,Array.getElem?_modify,hblk]
    simp [onCells]
  have hoth:∀b,b≠q0.b→(putRow (Value.int .i64) (Go.Sort.ahead w q) q0.b q0.base d).heap[b]?=w.heap[b]?:=fun b hb=>by
    unfold putRow mapBlock
    simp only [Go.Sort.ahead,Array.getElem?_modify]
    rw [if_neg (fun e:q0.b=b=>hb e.symm)]
  have hsize:(putRow (Value.int .i64) (Go.Sort.ahead w q) q0.b q0.base d).heap.size=w.heap.size:=by
    unfold putRow mapBlock
    simp [Go.Sort.ahead]
  have hH2:Holds (Value.int .i64) (Go.Sort.ahead w q) q0.b q0.base x.l.toArray:=hH
  have hcs2:∀(j:Nat) y,(delAt x.l x.i)[j]?=some y→(putCells (Value.int .i64) q0.base d c)[q0.base+j]?=some (.int .i64 y):=fun j y hy=>by
    have hj:j<x.l.length-1:=by rw [←delAt_len p3];exact (List.getElem?_eq_some_iff.1 hy).1
    have h1:=cell?_putRow (Value.int .i64) (Go.Sort.ahead w q) q0.b q0.base x.l.toArray d hH2 (by simpa using hds) j (by omega)
    rw [cell?_of_blk hput] at h1
    rw [h1]
    have h2:d[j]?=some y:=by
      rw [←hd,List.getElem?_toArray,List.getElem?_append_left (by have:=delAt_len p3;unfold delAt at this;omega)]
      exact hy
    have h3:d[j]! = y:=by
      have hj2:j<d.size:=by omega
      rw [Array.getElem?_eq_getElem hj2] at h2
      rw [getElem!_pos d j hj2]
      exact Option.some.inj h2
    rw [h3]
  have hlen:=delAt_len p3
  have hpc:(putCells (Value.int .i64) q0.base d c).size=c.size:=by unfold putCells;simp
  have hA:=hm.inPlace (n:=0) (l:=x.l) (r:=q0) (l2:=delAt x.l x.i) (c':=putCells (Value.int .i64) q0.base d c) (T:=T) (w':=putRow (Value.int .i64) (Go.Sort.ahead w q) q0.b q0.base d) rfl hq0 rfl rfl hsize hoth hput (by rw [hpc];exact hsz) (by omega) (by rw [hlen];unfold room47;omega) hcs2
  have hnx:g.β.length=1:=hm.next.symm
  refine⟨_,_,.mslice .int 1 0 (x.l.length-1),?_,g.le_add _,(Upd.kill _ 0).trans (Upd.new _ _),hA,?_⟩
  · refine⟨(),?_⟩
    show ((0+(x.l.length-1))≤(delAt x.l x.i).length∧((delAt x.l x.i).drop 0).take (x.l.length-1)=delAt x.l x.i∧True)
    rw [List.drop_zero,List.take_of_length_le (by omega)]
    exact⟨by omega,rfl,trivial⟩
  · have:=Rep.mslice (g:=g.add (some q0)) .int 1 0 (x.l.length-1) cap q0.base q0 (by rw [←hnx];exact Ctx.add_get _ _) (by omega) (by show (x.l.length-1)*8≤room47;unfold room47;omega) (.inr ⟨by simp,by show (0+cap)*1≤q0.sz;omega⟩) hc2
    exact this
open Go Go.Proofs Go.Proofs.YtgepebndihfnfaaGreat.Sx
structure ChgA where
  alpha:Int
  E:List EpochD
  slot:Int
  member:Int
  add:Bool
def lastEp (E:List EpochD):EpochD:=E.getD (E.length-1) ⟨0,[]⟩
def insM (M:List Int) (m:Int):List Int:=M.take (M.countP (· < m))++m::M.drop (M.countP (· < m))
def delM (M:List Int) (m:Int):List Int:=M.take (M.countP (· < m))++M.drop (M.countP (· < m)+1)
def chgE (x:ChgA):Int × List EpochD:=
  let l:=lastEp x.E
  bif decide (x.slot<0)||(decide (x.slot>1099511627776-x.alpha)||(decide (x.member<0)||decide (x.member≥15))) then (1,x.E)
  else bif decide (l.from_>x.slot) then (12,x.E)
  else bif x.add&&l.members.contains x.member then (9,x.E)
  else bif !x.add && !(l.members.contains x.member) then (8,x.E)
  else bif !x.add&&decide (l.members.length=1) then (1,x.E)
  else (0,x.E++[⟨x.slot+x.alpha,bif x.add then insM l.members x.member else delM l.members x.member⟩])
def okEp (alpha:Int) (E:List EpochD):Bool:=decide (1≤alpha)&&(decide (alpha≤8)&&(decide (1≤E.length)&&(decide (E.length≤1000000)&&E.all fun p=>mayE p.members)))
noncomputable def echgT:Tri:={γ:=ChgA,n0:=2,args:=fun x=>[.mptr 0 0,.int .i64 x.slot,.int .i64 x.member,.bool x.add],blks:=fun x=>epB x.alpha x.E 0 1,pre:=fun x=>okEp x.alpha x.E=true∧(0≤x.slot∧x.slot≤2199023255552),δ:=Unit,post:=fun _ _=>True,n1:=1,res:=fun x _=>.int .i64 (chgE x).1,blks':=fun x _=>epB x.alpha (chgE x).2 0 2,scal:=false}
structure MacS where
  alpha:Int
  size:Int
  applied:Int
  C:List CommitD
  S:List SessionD
  E:List EpochD
abbrev EqM (a b:MacS) (P:Prop):Prop:=a.alpha=b.alpha∧a.size=b.size∧a.applied=b.applied∧EqG a.C b.C (EqT a.size b.size a.S b.S (EqT a.alpha b.alpha a.E b.E P))
def mcell (x:MacS) (g s e:Nat):Blk:=.cells [.int .i64 x.alpha,.int .i64 x.size,.int .i64 x.applied,.mptr g 0,.mptr s 0,.mptr e 0]
def mB (x:MacS) (m g c k s sr e er:Nat):Blks:=[(m,mcell x g s e),(g,gcell x.C c k),(c,.rows .commit x.C),(k,.kv (kvC x.C)),(s,.cells [.int .i64 x.size,.mslice .session sr 0 x.S.length]),(sr,.rows .session x.S),(e,.cells [.int .i64 x.alpha,.mslice .epoch er 0 x.E.length]),(er,.rows .epoch x.E)]
def withC (x:MacS) (C:List CommitD):MacS:=⟨x.alpha,x.size,x.applied,C,x.S,x.E⟩
def withS (x:MacS) (S:List SessionD):MacS:=⟨x.alpha,x.size,x.applied,x.C,S,x.E⟩
def withE (x:MacS) (E:List EpochD):MacS:=⟨x.alpha,x.size,x.applied,x.C,x.S,E⟩
def chgM (x:MacS) (r:RequestD) (add:Bool) (code:Int):VerdictD × MacS:=
  let c:=chgE ⟨x.alpha,x.E,x.applied,r.member,add⟩
  (⟨bif c.1 != 0 then 14 else code,0,0,[],0,[],r.member⟩,withE x c.2)
def howM (x:MacS) (r:RequestD):VerdictD × MacS:=
  bif r.kind==2 then (landV ⟨x.C,r.base,r.ref,r.changes⟩,withC x (landC ⟨x.C,r.base,r.ref,r.changes⟩))
  else bif r.kind==3 then (⟨8,0,x.C.length,[],0,[],0⟩,x)
  else bif r.kind==4 then (readV ⟨x.C,r.path⟩,x)
  else bif r.kind==5 then (logV ⟨x.C,r.from_,r.many⟩,x)
  else bif r.kind==6 then chgM x r true 12
  else bif r.kind==7 then chgM x r false 13
  else (vd 5,x)
def askM (x:MacS) (r:RequestD):(VerdictD × Bool) × List SessionD:=askL ⟨x.size,x.S,r.session,r.seq⟩
def doneM (x:MacS) (r:RequestD) (h:VerdictD × MacS):VerdictD × MacS:=(h.1,withS h.2 (doneL ⟨x.size,(askM x r).2,r.session,r.seq,h.1⟩).2)
def doM (x:MacS) (r:RequestD):VerdictD × MacS:=
  bif r.kind==0 then (vd 0,x)
  else bif r.kind==1 then bif wordOk r.name false then (⟨1,(openL ⟨x.size,x.S,r.name,x.applied+1⟩).1,0,[],0,[],0⟩,withS x (openL ⟨x.size,x.S,r.name,x.applied+1⟩).2) else (vd 5,x)
  else bif (askM x r).1.2 then ((askM x r).1.1,withS x (askM x r).2)
  else doneM x r (howM (withS x (askM x r).2) r)
def applyM (x:MacS) (r:RequestD):VerdictD × MacS:=
  bif decide (x.applied≥1099511627776) then (vd 5,x)
  else ((doM x r).1,⟨x.alpha,x.size,x.applied+1,(doM x r).2.C,(doM x r).2.S,cutE (doM x r).2.E (x.applied+1)⟩)
def okMS (x:MacS):Bool:=fewG x.C&&(decide (0<x.size)&&(decide (x.S.length≤1024)&&(okEp x.alpha x.E&&(decide (0≤x.applied)&&decide (x.applied≤1099511627776)))))
def okRq (r:RequestD):Bool:=shortC r.changes&&(shortB r.path&&inI r.from_)
structure MacA where
  x:MacS
  r:RequestD
noncomputable def doesT:Tri:={γ:=MacA,n0:=8,args:=fun a=>[.mptr 0 0,.agg a.r.enc],blks:=fun a=>mB a.x 0 1 2 3 4 5 6 7,pre:=fun a=>okMS a.x=true∧okRq a.r=true,δ:=Unit,post:=fun _ _=>True,n1:=3,res:=fun a _=>.agg (doM a.x a.r).1.enc,blks':=fun a _=>mB (doM a.x a.r).2 0 1 8 3 4 9 6 10,scal:=false}
noncomputable def doesE:Envr:=Env Tryz.prog cod [(72,landT.spec),(102,gheadT.spec),(214,readT.spec),(215,logT.spec),(253,echgT.spec),(185,nameT.spec),(200,openT.spec),(148,askT.spec),(149,doneT.spec)] []
noncomputable def applyT:Tri:={γ:=MacA,n0:=8,args:=fun a=>[.mptr 0 0,.agg a.r.enc],blks:=fun a=>mB a.x 0 1 2 3 4 5 6 7,pre:=fun a=>okMS a.x=true∧okRq a.r=true,δ:=Unit,post:=fun _ _=>True,n1:=3,res:=fun a _=>.agg (applyM a.x a.r).1.enc,blks':=fun a _=>mB (applyM a.x a.r).2 0 1 8 3 4 9 6 10,scal:=false}
noncomputable def applyE:Envr:=Env Tryz.prog cod [(80,doesT.spec),(81,ecutT.spec)] []
set_option maxRecDepth 100000
abbrev doesQ1 (x:doesT.γ):=(doM (MacA.x x) (MacA.r x)).2.alpha
abbrev doesQ2 (x:doesT.γ):=(doM (MacA.x x) (MacA.r x)).2.size
abbrev doesQ3 (x:doesT.γ):=(MacA.x x).applied=(doM (MacA.x x) (MacA.r x)).2.applied
abbrev doesQ4 (x:doesT.γ):=(doM (MacA.x x) (MacA.r x)).2.C
abbrev doesQ5 (x:doesT.γ):=(doM (MacA.x x) (MacA.r x)).2.S
abbrev doesQ6 (x:doesT.γ):=EqT (MacA.x x).alpha (doesQ1 x) (MacA.x x).E (doM (MacA.x x) (MacA.r x)).2.E True
abbrev doesQ7 (x13:DoneA):=decide ((0:Int)<x13.size)=true
abbrev doesQ8 (x13:DoneA) (x:doesT.γ):=EqT x13.size (doesQ2 x) (doneL x13).2 (doesQ5 x) (doesQ6 x)
abbrev doesQ9 (x:doesT.γ) (x8:AskA):=∃x11:LandA,(MacA.r x).base=x11.base∧
(MacA.r x).ref=x11.ref∧
(MacA.r x).changes=x11.l∧
EqG (MacA.x x).C x11.C ((fewG x11.C=true∧
shortC x11.l=true)∧
∀x12:Unit,True→
∃x13:DoneA,(MacA.r x).session=x13.id∧
(MacA.r x).seq=x13.seq∧
EqV (landV x11) x13.v (EqT x8.size x13.size (askL x8).2 x13.l (doesQ7 x13∧
∀x14:Unit,True→
∃x15:Unit,EqV (landV x11) (doM (MacA.x x) (MacA.r x)).1 ((MacA.x x).alpha=doesQ1 x∧
(MacA.x x).size=doesQ2 x∧
doesQ3 x∧
EqG (landC x11) (doesQ4 x) (doesQ8 x13 x)))))
abbrev doesQ10 (x:doesT.γ) (x8:AskA):=∃x16:(List CommitD),EqG (MacA.x x).C x16 (True∧
∀x17:Unit,True→
∃x18:DoneA,(MacA.r x).session=x18.id∧
(MacA.r x).seq=x18.seq∧
EqV7 (8:Int) (0:Int) (↑x16.length:Int) ([]:List UInt8) (0:Int) ([]:List CommitD) (0:Int) x18.v (EqT x8.size x18.size (askL x8).2 x18.l (doesQ7 x18∧
∀x19:Unit,True→
∃x20:Unit,EqV7 (8:Int) (0:Int) (↑x16.length:Int) ([]:List UInt8) (0:Int) ([]:List CommitD) (0:Int) (doM (MacA.x x) (MacA.r x)).1 ((MacA.x x).alpha=doesQ1 x∧
(MacA.x x).size=doesQ2 x∧
doesQ3 x∧
EqG x16 (doesQ4 x) (doesQ8 x18 x)))))
abbrev doesQ11 (x:doesT.γ) (x8:AskA):=∃x21:ReadA,(MacA.r x).path=x21.p∧
EqG (MacA.x x).C x21.C (shortB x21.p=true∧
∀x22:Unit,True→
∃x23:DoneA,(MacA.r x).session=x23.id∧
(MacA.r x).seq=x23.seq∧
EqV (readV x21) x23.v (EqT x8.size x23.size (askL x8).2 x23.l (doesQ7 x23∧
∀x24:Unit,True→
∃x25:Unit,EqV (readV x21) (doM (MacA.x x) (MacA.r x)).1 ((MacA.x x).alpha=doesQ1 x∧
(MacA.x x).size=doesQ2 x∧
doesQ3 x∧
EqG x21.C (doesQ4 x) (doesQ8 x23 x)))))
abbrev doesQ12 (x:doesT.γ) (x8:AskA):=∃x26:LogA,(MacA.r x).from_=x26.frm∧
(MacA.r x).many=x26.many∧
EqG (MacA.x x).C x26.C ((fewG x26.C=true∧
inI x26.frm=true)∧
∀x27:Unit,True→
∃x28:DoneA,(MacA.r x).session=x28.id∧
(MacA.r x).seq=x28.seq∧
EqV (logV x26) x28.v (EqT x8.size x28.size (askL x8).2 x28.l (doesQ7 x28∧
∀x29:Unit,True→
∃x30:Unit,EqV (logV x26) (doM (MacA.x x) (MacA.r x)).1 ((MacA.x x).alpha=doesQ1 x∧
(MacA.x x).size=doesQ2 x∧
doesQ3 x∧
EqG x26.C (doesQ4 x) (doesQ8 x28 x)))))
abbrev doesQ13 (x31:ChgA):=okEp x31.alpha x31.E=true∧
(0:Int)≤x31.slot∧
x31.slot≤(2199023255552:Int)
abbrev doesQ14 (x:doesT.γ) (x33:DoneA) (x31:ChgA):=(MacA.x x).alpha=doesQ1 x∧
(MacA.x x).size=doesQ2 x∧
doesQ3 x∧
EqG (MacA.x x).C (doesQ4 x) (EqT x33.size (doesQ2 x) (doneL x33).2 (doesQ5 x) (EqT x31.alpha (doesQ1 x) (chgE x31).2 (doM (MacA.x x) (MacA.r x)).2.E True))
abbrev doesQ15 (x:doesT.γ) (x8:AskA) (x31:ChgA):=∃x33:DoneA,(MacA.r x).session=x33.id∧
(MacA.r x).seq=x33.seq∧
EqV7 (14:Int) (0:Int) (0:Int) ([]:List UInt8) (0:Int) ([]:List CommitD) (MacA.r x).member x33.v (EqT x8.size x33.size (askL x8).2 x33.l (doesQ7 x33∧
∀x34:Unit,True→
∃x35:Unit,EqV7 (14:Int) (0:Int) (0:Int) ([]:List UInt8) (0:Int) ([]:List CommitD) (MacA.r x).member (doM (MacA.x x) (MacA.r x)).1 (doesQ14 x x33 x31)))
abbrev doesQ16 (x:doesT.γ) (x8:AskA):=∃x31:ChgA,(MacA.x x).applied=x31.slot∧
(MacA.r x).member=x31.member∧
true=x31.add∧
EqT (MacA.x x).alpha x31.alpha (MacA.x x).E x31.E (doesQ13 x31∧
∀x32:Unit,True→
br ((chgE x31).1 != (0:Int)) (doesQ15 x x8 x31) (∃x36:DoneA,(MacA.r x).session=x36.id∧
(MacA.r x).seq=x36.seq∧
EqV7 (12:Int) (0:Int) (0:Int) ([]:List UInt8) (0:Int) ([]:List CommitD) (MacA.r x).member x36.v (EqT x8.size x36.size (askL x8).2 x36.l (doesQ7 x36∧
∀x37:Unit,True→
∃x38:Unit,EqV7 (12:Int) (0:Int) (0:Int) ([]:List UInt8) (0:Int) ([]:List CommitD) (MacA.r x).member (doM (MacA.x x) (MacA.r x)).1 (doesQ14 x x36 x31)))))
abbrev doesQ17 (x:doesT.γ) (x8:AskA):=∃x39:ChgA,(MacA.x x).applied=x39.slot∧
(MacA.r x).member=x39.member∧
false=x39.add∧
EqT (MacA.x x).alpha x39.alpha (MacA.x x).E x39.E (doesQ13 x39∧
∀x40:Unit,True→
br ((chgE x39).1 != (0:Int)) (doesQ15 x x8 x39) (∃x44:DoneA,(MacA.r x).session=x44.id∧
(MacA.r x).seq=x44.seq∧
EqV7 (13:Int) (0:Int) (0:Int) ([]:List UInt8) (0:Int) ([]:List CommitD) (MacA.r x).member x44.v (EqT x8.size x44.size (askL x8).2 x44.l (doesQ7 x44∧
∀x45:Unit,True→
∃x46:Unit,EqV7 (13:Int) (0:Int) (0:Int) ([]:List UInt8) (0:Int) ([]:List CommitD) (MacA.r x).member (doM (MacA.x x) (MacA.r x)).1 (doesQ14 x x44 x39)))))
abbrev doesQ18 (x:doesT.γ) (x8:AskA):=∃x47:DoneA,(MacA.r x).session=x47.id∧
(MacA.r x).seq=x47.seq∧
EqV7 (5:Int) (0:Int) (0:Int) ([]:List UInt8) (0:Int) ([]:List CommitD) (0:Int) x47.v (EqT x8.size x47.size (askL x8).2 x47.l (doesQ7 x47∧
∀x48:Unit,True→
∃x49:Unit,EqV7 (5:Int) (0:Int) (0:Int) ([]:List UInt8) (0:Int) ([]:List CommitD) (0:Int) (doM (MacA.x x) (MacA.r x)).1 ((MacA.x x).alpha=doesQ1 x∧
(MacA.x x).size=doesQ2 x∧
doesQ3 x∧
EqG (MacA.x x).C (doesQ4 x) (doesQ8 x47 x))))
theorem does_vc (x:doesT.γ):evCall doesE (ev doesE 1000) 80 (doesT.args x) ⟨doesT.blks x,doesT.n0,[]⟩ (fun _ _=>False) (doesT.ends x)=(
br ((MacA.r x).kind==(0:Int)) (∃x1:Unit,EqV7 (0:Int) (0:Int) (0:Int) ([]:List UInt8) (0:Int) ([]:List CommitD) (0:Int) (doM (MacA.x x) (MacA.r x)).1 (EqM (MacA.x x) (doM (MacA.x x) (MacA.r x)).2 True)) (br ((MacA.r x).kind==(1:Int)) (∃x2:(List UInt8),(MacA.r x).name=x2∧
True∧
∀x3:Unit,True→
br (wordOk x2 false).not (∃x4:Unit,EqV7 (5:Int) (0:Int) (0:Int) ([]:List UInt8) (0:Int) ([]:List CommitD) (0:Int) (doM (MacA.x x) (MacA.r x)).1 (EqM (MacA.x x) (doM (MacA.x x) (MacA.r x)).2 True)) (∃x5:OpenA,(MacA.r x).name=x5.name∧
IntKind.wrap IntKind.i64 ((MacA.x x).applied+(1:Int))=x5.id∧
EqT (MacA.x x).size x5.size (MacA.x x).S x5.l ((decide ((0:Int)<x5.size)=true∧
decide (x5.l.length≤1024)=true)∧
∀x6:Unit,True→
∃x7:Unit,EqV7 (1:Int) (openL x5).1 (0:Int) ([]:List UInt8) (0:Int) ([]:List CommitD) (0:Int) (doM (MacA.x x) (MacA.r x)).1 ((MacA.x x).alpha=doesQ1 x∧
(MacA.x x).size=doesQ2 x∧
doesQ3 x∧
EqG (MacA.x x).C (doesQ4 x) (EqT x5.size (doesQ2 x) (openL x5).2 (doesQ5 x) (doesQ6 x)))))) (Twice (∃x8:AskA,(MacA.r x).session=x8.id∧
(MacA.r x).seq=x8.seq∧
EqT (MacA.x x).size x8.size (MacA.x x).S x8.l ((decide ((0:Int)<x8.size)=true∧
decide (x8.l.length≤1024)=true)∧
∀x9:Unit,True→
br (askL x8).1.2 (∃x10:Unit,EqV (askL x8).1.1 (doM (MacA.x x) (MacA.r x)).1 ((MacA.x x).alpha=doesQ1 x∧
(MacA.x x).size=doesQ2 x∧
doesQ3 x∧
EqG (MacA.x x).C (doesQ4 x) (EqT x8.size (doesQ2 x) (askL x8).2 (doesQ5 x) (doesQ6 x)))) (br ((MacA.r x).kind==(2:Int)) (Twice (doesQ9 x x8)) (br ((MacA.r x).kind==(3:Int)) (Twice (doesQ10 x x8)) (br ((MacA.r x).kind==(4:Int)) (Twice (doesQ11 x x8)) (br ((MacA.r x).kind==(5:Int)) (Twice (doesQ12 x x8)) (br ((MacA.r x).kind==(6:Int)) (Twice (doesQ16 x x8)) (br ((MacA.r x).kind==(7:Int)) (Twice (doesQ17 x x8)) (Twice (doesQ18 x x8)))))))∧
br ((MacA.r x).kind==(2:Int)) (doesQ9 x x8) (br ((MacA.r x).kind==(3:Int)) (doesQ10 x x8) (br ((MacA.r x).kind==(4:Int)) (doesQ11 x x8) (br ((MacA.r x).kind==(5:Int)) (doesQ12 x x8) (br ((MacA.r x).kind==(6:Int)) (doesQ16 x x8) (br ((MacA.r x).kind==(7:Int)) (doesQ17 x x8) (doesQ18 x x8)))))))))))):=by kernel_rfl
abbrev applyQ1 (x:applyT.γ):=(applyM (MacA.x x) (MacA.r x)).2
abbrev applyQ2 (x2:MacA):=IntKind.wrap IntKind.i64 ((doM x2.x x2.r).2.applied+(1:Int))
theorem apply_vc (x:applyT.γ):evCall applyE (ev applyE 1000) 24 (applyT.args x) ⟨applyT.blks x,applyT.n0,[]⟩ (fun _ _=>False) (applyT.ends x)=(
br (decide (@GE.ge Int _ (MacA.x x).applied (1099511627776:Int))) (∃x1:Unit,EqV7 (5:Int) (0:Int) (0:Int) ([]:List UInt8) (0:Int) ([]:List CommitD) (0:Int) (applyM (MacA.x x) (MacA.r x)).1 (EqM (MacA.x x) (applyQ1 x) True)) (∃x2:MacA,EqQ (MacA.r x) x2.r (EqM (MacA.x x) x2.x ((okMS x2.x=true∧
okRq x2.r=true)∧
∀x3:Unit,True→
∃x4:EpA,applyQ2 x2=x4.slot∧
EqT (doM x2.x x2.r).2.alpha x4.alpha (doM x2.x x2.r).2.E x4.E (decide (1≤x4.E.length)=true∧
∀x5:Unit,True→
∃x6:Unit,EqV (doM x2.x x2.r).1 (applyM (MacA.x x) (MacA.r x)).1 ((doM x2.x x2.r).2.alpha=(applyQ1 x).alpha∧
(doM x2.x x2.r).2.size=(applyQ1 x).size∧
applyQ2 x2=(applyQ1 x).applied∧
EqG (doM x2.x x2.r).2.C (applyQ1 x).C (EqT (doM x2.x x2.r).2.size (applyQ1 x).size (doM x2.x x2.r).2.S (applyQ1 x).S (EqT x4.alpha (applyQ1 x).alpha (cutE x4.E x4.slot) (applyQ1 x).E True)))))))):=by kernel_rfl
theorem okMS_of {x:MacS} (h:okMS x=true):fewG x.C=true∧0<x.size∧x.S.length≤1024∧okEp x.alpha x.E=true∧0≤x.applied∧x.applied≤1099511627776:=by
  unfold okMS at h
  simp only [Bool.and_eq_true,decide_eq_true_eq] at h
  exact⟨h.1,h.2.1,h.2.2.1,h.2.2.2.1,h.2.2.2.2.1,h.2.2.2.2.2⟩
theorem okRq_of {r:RequestD} (h:okRq r=true):shortC r.changes=true∧shortB r.path=true∧inI r.from_=true:=by
  unfold okRq at h
  simp only [Bool.and_eq_true] at h
  exact⟨h.1,h.2.1,h.2.2⟩
theorem ask_len {x:AskA}:(askL x).2.length=x.l.length:=by
  have b1:=idxF_lt (idIs x.id) x.l
  unfold askL
  dsimp only
  by_cases h:idxF (idIs x.id) x.l<0
  · rw [decide_eq_true h];rfl
  · rw [decide_eq_false h]
    exact usedL_length ⟨by omega,b1.2⟩
theorem doesE_ok (hc:SpecOK Tryz.prog 253 echgT.spec):EnvOK doesE:=Env_ok (by decide +kernel) (by
  intro p hp
  simp only [List.mem_cons,List.mem_nil_iff,or_false] at hp
  rcases hp with rfl | rfl | rfl | rfl | rfl | rfl | rfl | rfl | rfl
  · exact land_ok
  · exact ghead_ok
  · exact read_ok
  · exact log_ok
  · exact hc
  · exact name_ok
  · exact open_ok
  · exact ask_ok
  · exact done_ok)
set_option maxHeartbeats 0 in
theorem does_ok (hc:SpecOK Tryz.prog 253 echgT.spec):SpecOK Tryz.prog 80 doesT.spec:=by
  refine Tri.ok (E:=doesE) (doesE_ok hc) (n:=1000) doesT fun a ha=>?_
  rw [does_vc]
  delta doesQ18 doesQ17 doesQ16 doesQ15 doesQ14 doesQ13 doesQ12 doesQ11 doesQ10 doesQ9 doesQ8 doesQ7 doesQ6 doesQ5 doesQ4 doesQ3 doesQ2 doesQ1 EqM EqG EqT EqV EqV7
  obtain⟨x,r⟩:=a
  obtain⟨h1,h2⟩:okMS x=true∧okRq r=true:=ha
  obtain⟨p1,p2,p3,p4,p5,p6⟩:=okMS_of h1
  obtain⟨q1,q2,q3⟩:=okRq_of h2
  dsimp only
  refine br_i (fun k0=>?_) fun k0=>br_i (fun k1=>?_) fun k1=>?_
  · have hd:doM x r=(vd 0,x):=by unfold doM;rw [k0];rfl
    rw [hd]
    exact⟨(),(by repeat' (first | exact trivial | refine And.intro ?_ ?_ | rfl))⟩
  · refine⟨r.name,rfl,trivial,fun _ _=>br_i (fun g=>?_) fun g=>?_⟩
    · have g:wordOk r.name false=false:=by rw [Bool.not_eq_true'] at g;exact g
      have hd:doM x r=(vd 5,x):=by unfold doM;rw [k0,k1,g];rfl
      rw [hd]
      exact⟨(),(by repeat' (first | exact trivial | refine And.intro ?_ ?_ | rfl))⟩
    · have g:wordOk r.name false=true:=by rw [Bool.not_eq_false'] at g;exact g
      have hd:doM x r=(⟨1,(openL ⟨x.size,x.S,r.name,x.applied+1⟩).1,0,[],0,[],0⟩,withS x (openL ⟨x.size,x.S,r.name,x.applied+1⟩).2):=by unfold doM;rw [k0,k1,g];rfl
      rw [hd]
      exact⟨⟨x.size,x.S,r.name,x.applied+1⟩,rfl,wrap_id (by omega) (by omega),rfl,rfl,rfl,rfl,⟨decide_eq_true p2,decide_eq_true p3⟩,fun _ _=>⟨(),(by repeat' (first | exact trivial | refine And.intro ?_ ?_ | rfl))⟩⟩
  refine twice ⟨⟨x.size,x.S,r.session,r.seq⟩,rfl,rfl,rfl,rfl,rfl,rfl,⟨decide_eq_true p2,decide_eq_true p3⟩,fun _ _=>br_i (fun g=>?_) fun g=>?_⟩
  · have g:(askM x r).1.2=true:=g
    have hd:doM x r=((askM x r).1.1,withS x (askM x r).2):=by unfold doM;rw [k0,k1,g];rfl
    rw [hd]
    exact⟨(),(by repeat' (first | exact trivial | refine And.intro ?_ ?_ | rfl))⟩
  have g:(askM x r).1.2=false:=g
  have hd:doM x r=doneM x r (howM (withS x (askM x r).2) r):=by unfold doM;rw [k0,k1,g];rfl
  rw [hd]
  refine⟨br_i (fun k2=>twice ?_) fun k2=>br_i (fun k3=>twice ?_) fun k3=>br_i (fun k4=>twice ?_) fun k4=>br_i (fun k5=>twice ?_) fun k5=>br_i (fun k6=>twice ?_) fun k6=>br_i (fun k7=>twice ?_) fun k7=>twice ?_,
    br_i (fun k2=>?_) fun k2=>br_i (fun k3=>?_) fun k3=>br_i (fun k4=>?_) fun k4=>br_i (fun k5=>?_) fun k5=>br_i (fun k6=>?_) fun k6=>br_i (fun k7=>?_) fun k7=>?_⟩
  · have hh:howM (withS x (askM x r).2) r=(landV ⟨x.C,r.base,r.ref,r.changes⟩,withC (withS x (askM x r).2) (landC ⟨x.C,r.base,r.ref,r.changes⟩)):=by unfold howM;rw [k2];rfl
    rw [hh]
    exact⟨⟨x.C,r.base,r.ref,r.changes⟩,rfl,rfl,rfl,rfl,rfl,rfl,rfl,rfl,⟨p1,q1⟩,fun _ _=>⟨⟨x.size,(askM x r).2,r.session,r.seq,landV ⟨x.C,r.base,r.ref,r.changes⟩⟩,rfl,rfl,rfl,rfl,rfl,rfl,rfl,rfl,rfl,rfl,rfl,rfl,rfl,decide_eq_true p2,fun _ _=>⟨(),(by repeat' (first | exact trivial | refine And.intro ?_ ?_ | rfl))⟩⟩⟩
  · have hh:howM (withS x (askM x r).2) r=(⟨8,0,x.C.length,[],0,[],0⟩,withS x (askM x r).2):=by unfold howM;rw [k2,k3];rfl
    rw [hh]
    exact⟨x.C,rfl,rfl,rfl,rfl,rfl,trivial,fun _ _=>⟨⟨x.size,(askM x r).2,r.session,r.seq,⟨8,0,x.C.length,[],0,[],0⟩⟩,rfl,rfl,rfl,rfl,rfl,rfl,rfl,rfl,rfl,rfl,rfl,rfl,rfl,decide_eq_true p2,fun _ _=>⟨(),(by repeat' (first | exact trivial | refine And.intro ?_ ?_ | rfl))⟩⟩⟩
  · have hh:howM (withS x (askM x r).2) r=(readV ⟨x.C,r.path⟩,withS x (askM x r).2):=by unfold howM;rw [k2,k3,k4];rfl
    rw [hh]
    exact⟨⟨x.C,r.path⟩,rfl,rfl,rfl,rfl,rfl,rfl,q2,fun _ _=>⟨⟨x.size,(askM x r).2,r.session,r.seq,readV ⟨x.C,r.path⟩⟩,rfl,rfl,rfl,rfl,rfl,rfl,rfl,rfl,rfl,rfl,rfl,rfl,rfl,decide_eq_true p2,fun _ _=>⟨(),(by repeat' (first | exact trivial | refine And.intro ?_ ?_ | rfl))⟩⟩⟩
  · have hh:howM (withS x (askM x r).2) r=(logV ⟨x.C,r.from_,r.many⟩,withS x (askM x r).2):=by unfold howM;rw [k2,k3,k4,k5];rfl
    rw [hh]
    exact⟨⟨x.C,r.from_,r.many⟩,rfl,rfl,rfl,rfl,rfl,rfl,rfl,⟨p1,q3⟩,fun _ _=>⟨⟨x.size,(askM x r).2,r.session,r.seq,logV ⟨x.C,r.from_,r.many⟩⟩,rfl,rfl,rfl,rfl,rfl,rfl,rfl,rfl,rfl,rfl,rfl,rfl,rfl,decide_eq_true p2,fun _ _=>⟨(),(by repeat' (first | exact trivial | refine And.intro ?_ ?_ | rfl))⟩⟩⟩
  · have hh:howM (withS x (askM x r).2) r=chgM (withS x (askM x r).2) r true 12:=by unfold howM;rw [k2,k3,k4,k5,k6];rfl
    rw [hh]
    refine⟨⟨x.alpha,x.E,x.applied,r.member,true⟩,rfl,rfl,rfl,rfl,rfl,rfl,rfl,⟨p4,p5,by show x.applied≤2199023255552;omega⟩,fun _ _=>br_i (fun e=>?_) fun e=>?_⟩
    · have hg:chgM (withS x (askM x r).2) r true 12=(⟨14,0,0,[],0,[],r.member⟩,withE (withS x (askM x r).2) (chgE ⟨x.alpha,x.E,x.applied,r.member,true⟩).2):=by unfold chgM;dsimp only [withS];rw [e];rfl
      rw [hg]
      exact⟨⟨x.size,(askM x r).2,r.session,r.seq,⟨14,0,0,[],0,[],r.member⟩⟩,rfl,rfl,rfl,rfl,rfl,rfl,rfl,rfl,rfl,rfl,rfl,rfl,rfl,decide_eq_true p2,fun _ _=>⟨(),(by repeat' (first | exact trivial | refine And.intro ?_ ?_ | rfl))⟩⟩
    · have hg:chgM (withS x (askM x r).2) r true 12=(⟨12,0,0,[],0,[],r.member⟩,withE (withS x (askM x r).2) (chgE ⟨x.alpha,x.E,x.applied,r.member,true⟩).2):=by unfold chgM;dsimp only [withS];rw [e];rfl
      rw [hg]
      exact⟨⟨x.size,(askM x r).2,r.session,r.seq,⟨12,0,0,[],0,[],r.member⟩⟩,rfl,rfl,rfl,rfl,rfl,rfl,rfl,rfl,rfl,rfl,rfl,rfl,rfl,decide_eq_true p2,fun _ _=>⟨(),(by repeat' (first | exact trivial | refine And.intro ?_ ?_ | rfl))⟩⟩
  · have hh:howM (withS x (askM x r).2) r=chgM (withS x (askM x r).2) r false 13:=by unfold howM;rw [k2,k3,k4,k5,k6,k7];rfl
    rw [hh]
    refine⟨⟨x.alpha,x.E,x.applied,r.member,false⟩,rfl,rfl,rfl,rfl,rfl,rfl,rfl,⟨p4,p5,by show x.applied≤2199023255552;omega⟩,fun _ _=>br_i (fun e=>?_) fun e=>?_⟩
    · have hg:chgM (withS x (askM x r).2) r false 13=(⟨14,0,0,[],0,[],r.member⟩,withE (withS x (askM x r).2) (chgE ⟨x.alpha,x.E,x.applied,r.member,false⟩).2):=by unfold chgM;dsimp only [withS];rw [e];rfl
      rw [hg]
      exact⟨⟨x.size,(askM x r).2,r.session,r.seq,⟨14,0,0,[],0,[],r.member⟩⟩,rfl,rfl,rfl,rfl,rfl,rfl,rfl,rfl,rfl,rfl,rfl,rfl,rfl,decide_eq_true p2,fun _ _=>⟨(),(by repeat' (first | exact trivial | refine And.intro ?_ ?_ | rfl))⟩⟩
    · have hg:chgM (withS x (askM x r).2) r false 13=(⟨13,0,0,[],0,[],r.member⟩,withE (withS x (askM x r).2) (chgE ⟨x.alpha,x.E,x.applied,r.member,false⟩).2):=by unfold chgM;dsimp only [withS];rw [e];rfl
      rw [hg]
      exact⟨⟨x.size,(askM x r).2,r.session,r.seq,⟨13,0,0,[],0,[],r.member⟩⟩,rfl,rfl,rfl,rfl,rfl,rfl,rfl,rfl,rfl,rfl,rfl,rfl,rfl,decide_eq_true p2,fun _ _=>⟨(),(by repeat' (first | exact trivial | refine And.intro ?_ ?_ | rfl))⟩⟩
  · have hh:howM (withS x (askM x r).2) r=(vd 5,withS x (askM x r).2):=by unfold howM;rw [k2,k3,k4,k5,k6,k7];rfl
    rw [hh]
    exact⟨⟨x.size,(askM x r).2,r.session,r.seq,vd 5⟩,rfl,rfl,rfl,rfl,rfl,rfl,rfl,rfl,rfl,rfl,rfl,rfl,rfl,decide_eq_true p2,fun _ _=>⟨(),(by repeat' (first | exact trivial | refine And.intro ?_ ?_ | rfl))⟩⟩
  · have hh:howM (withS x (askM x r).2) r=(landV ⟨x.C,r.base,r.ref,r.changes⟩,withC (withS x (askM x r).2) (landC ⟨x.C,r.base,r.ref,r.changes⟩)):=by unfold howM;rw [k2];rfl
    rw [hh]
    exact⟨⟨x.C,r.base,r.ref,r.changes⟩,rfl,rfl,rfl,rfl,rfl,rfl,rfl,rfl,⟨p1,q1⟩,fun _ _=>⟨⟨x.size,(askM x r).2,r.session,r.seq,landV ⟨x.C,r.base,r.ref,r.changes⟩⟩,rfl,rfl,rfl,rfl,rfl,rfl,rfl,rfl,rfl,rfl,rfl,rfl,rfl,decide_eq_true p2,fun _ _=>⟨(),(by repeat' (first | exact trivial | refine And.intro ?_ ?_ | rfl))⟩⟩⟩
  · have hh:howM (withS x (askM x r).2) r=(⟨8,0,x.C.length,[],0,[],0⟩,withS x (askM x r).2):=by unfold howM;rw [k2,k3];rfl
    rw [hh]
    exact⟨x.C,rfl,rfl,rfl,rfl,rfl,trivial,fun _ _=>⟨⟨x.size,(askM x r).2,r.session,r.seq,⟨8,0,x.C.length,[],0,[],0⟩⟩,rfl,rfl,rfl,rfl,rfl,rfl,rfl,rfl,rfl,rfl,rfl,rfl,rfl,decide_eq_true p2,fun _ _=>⟨(),(by repeat' (first | exact trivial | refine And.intro ?_ ?_ | rfl))⟩⟩⟩
  · have hh:howM (withS x (askM x r).2) r=(readV ⟨x.C,r.path⟩,withS x (askM x r).2):=by unfold howM;rw [k2,k3,k4];rfl
    rw [hh]
    exact⟨⟨x.C,r.path⟩,rfl,rfl,rfl,rfl,rfl,rfl,q2,fun _ _=>⟨⟨x.size,(askM x r).2,r.session,r.seq,readV ⟨x.C,r.path⟩⟩,rfl,rfl,rfl,rfl,rfl,rfl,rfl,rfl,rfl,rfl,rfl,rfl,rfl,decide_eq_true p2,fun _ _=>⟨(),(by repeat' (first | exact trivial | refine And.intro ?_ ?_ | rfl))⟩⟩⟩
  · have hh:howM (withS x (askM x r).2) r=(logV ⟨x.C,r.from_,r.many⟩,withS x (askM x r).2):=by unfold howM;rw [k2,k3,k4,k5];rfl
    rw [hh]
    exact⟨⟨x.C,r.from_,r.many⟩,rfl,rfl,rfl,rfl,rfl,rfl,rfl,⟨p1,q3⟩,fun _ _=>⟨⟨x.size,(askM x r).2,r.session,r.seq,logV ⟨x.C,r.from_,r.many⟩⟩,rfl,rfl,rfl,rfl,rfl,rfl,rfl,rfl,rfl,rfl,rfl,rfl,rfl,decide_eq_true p2,fun _ _=>⟨(),(by repeat' (first | exact trivial | refine And.intro ?_ ?_ | rfl))⟩⟩⟩
  · have hh:howM (withS x (askM x r).2) r=chgM (withS x (askM x r).2) r true 12:=by unfold howM;rw [k2,k3,k4,k5,k6];rfl
    rw [hh]
    refine⟨⟨x.alpha,x.E,x.applied,r.member,true⟩,rfl,rfl,rfl,rfl,rfl,rfl,rfl,⟨p4,p5,by show x.applied≤2199023255552;omega⟩,fun _ _=>br_i (fun e=>?_) fun e=>?_⟩
    · have hg:chgM (withS x (askM x r).2) r true 12=(⟨14,0,0,[],0,[],r.member⟩,withE (withS x (askM x r).2) (chgE ⟨x.alpha,x.E,x.applied,r.member,true⟩).2):=by unfold chgM;dsimp only [withS];rw [e];rfl
      rw [hg]
      exact⟨⟨x.size,(askM x r).2,r.session,r.seq,⟨14,0,0,[],0,[],r.member⟩⟩,rfl,rfl,rfl,rfl,rfl,rfl,rfl,rfl,rfl,rfl,rfl,rfl,rfl,decide_eq_true p2,fun _ _=>⟨(),(by repeat' (first | exact trivial | refine And.intro ?_ ?_ | rfl))⟩⟩
    · have hg:chgM (withS x (askM x r).2) r true 12=(⟨12,0,0,[],0,[],r.member⟩,withE (withS x (askM x r).2) (chgE ⟨x.alpha,x.E,x.applied,r.member,true⟩).2):=by unfold chgM;dsimp only [withS];rw [e];rfl
      rw [hg]
      exact⟨⟨x.size,(askM x r).2,r.session,r.seq,⟨12,0,0,[],0,[],r.member⟩⟩,rfl,rfl,rfl,rfl,rfl,rfl,rfl,rfl,rfl,rfl,rfl,rfl,rfl,decide_eq_true p2,fun _ _=>⟨(),(by repeat' (first | exact trivial | refine And.intro ?_ ?_ | rfl))⟩⟩
  · have hh:howM (withS x (askM x r).2) r=chgM (withS x (askM x r).2) r false 13:=by unfold howM;rw [k2,k3,k4,k5,k6,k7];rfl
    rw [hh]
    refine⟨⟨x.alpha,x.E,x.applied,r.member,false⟩,rfl,rfl,rfl,rfl,rfl,rfl,rfl,⟨p4,p5,by show x.applied≤2199023255552;omega⟩,fun _ _=>br_i (fun e=>?_) fun e=>?_⟩
    · have hg:chgM (withS x (askM x r).2) r false 13=(⟨14,0,0,[],0,[],r.member⟩,withE (withS x (askM x r).2) (chgE ⟨x.alpha,x.E,x.applied,r.member,false⟩).2):=by unfold chgM;dsimp only [withS];rw [e];rfl
      rw [hg]
      exact⟨⟨x.size,(askM x r).2,r.session,r.seq,⟨14,0,0,[],0,[],r.member⟩⟩,rfl,rfl,rfl,rfl,rfl,rfl,rfl,rfl,rfl,rfl,rfl,rfl,rfl,decide_eq_true p2,fun _ _=>⟨(),(by repeat' (first | exact trivial | refine And.intro ?_ ?_ | rfl))⟩⟩
    · have hg:chgM (withS x (askM x r).2) r false 13=(⟨13,0,0,[],0,[],r.member⟩,withE (withS x (askM x r).2) (chgE ⟨x.alpha,x.E,x.applied,r.member,false⟩).2):=by unfold chgM;dsimp only [withS];rw [e];rfl
      rw [hg]
      exact⟨⟨x.size,(askM x r).2,r.session,r.seq,⟨13,0,0,[],0,[],r.member⟩⟩,rfl,rfl,rfl,rfl,rfl,rfl,rfl,rfl,rfl,rfl,rfl,rfl,rfl,decide_eq_true p2,fun _ _=>⟨(),(by repeat' (first | exact trivial | refine And.intro ?_ ?_ | rfl))⟩⟩
  · have hh:howM (withS x (askM x r).2) r=(vd 5,withS x (askM x r).2):=by unfold howM;rw [k2,k3,k4,k5,k6,k7];rfl
    rw [hh]
    exact⟨⟨x.size,(askM x r).2,r.session,r.seq,vd 5⟩,rfl,rfl,rfl,rfl,rfl,rfl,rfl,rfl,rfl,rfl,rfl,rfl,rfl,decide_eq_true p2,fun _ _=>⟨(),(by repeat' (first | exact trivial | refine And.intro ?_ ?_ | rfl))⟩⟩
theorem how_alpha (x:MacS) (r:RequestD):(howM x r).2.alpha=x.alpha:=by
  unfold howM
  cases r.kind==2<;>cases r.kind==3<;>cases r.kind==4<;>cases r.kind==5<;>cases r.kind==6<;>cases r.kind==7<;>rfl
theorem how_size (x:MacS) (r:RequestD):(howM x r).2.size=x.size:=by
  unfold howM
  cases r.kind==2<;>cases r.kind==3<;>cases r.kind==4<;>cases r.kind==5<;>cases r.kind==6<;>cases r.kind==7<;>rfl
theorem how_applied (x:MacS) (r:RequestD):(howM x r).2.applied=x.applied:=by
  unfold howM
  cases r.kind==2<;>cases r.kind==3<;>cases r.kind==4<;>cases r.kind==5<;>cases r.kind==6<;>cases r.kind==7<;>rfl
theorem chg_len (x:ChgA):x.E.length≤(chgE x).2.length∧(chgE x).2.length≤x.E.length+1:=by
  unfold chgE
  dsimp only
  generalize (decide (x.slot<0)||(decide (x.slot>1099511627776-x.alpha)||(decide (x.member<0)||decide (x.member≥15))))=a
  generalize decide ((lastEp x.E).from_>x.slot)=b
  generalize (lastEp x.E).members.contains x.member=c
  generalize decide ((lastEp x.E).members.length=1)=d
  cases a<;>cases b<;>cases c<;>cases d<;>cases x.add<;>simp
theorem do_same (x:MacS) (r:RequestD):(doM x r).2.alpha=x.alpha∧(doM x r).2.size=x.size∧(doM x r).2.applied=x.applied:=by
  unfold doM
  cases r.kind==0
  · cases r.kind==1
    · cases (askM x r).1.2
      · exact⟨how_alpha _ r,how_size _ r,how_applied _ r⟩
      · exact⟨rfl,rfl,rfl⟩
    · cases wordOk r.name false<;>exact⟨rfl,rfl,rfl⟩
  · exact⟨rfl,rfl,rfl⟩
theorem how_E (x:MacS) (r:RequestD):x.E.length≤(howM x r).2.E.length∧(howM x r).2.E.length≤x.E.length+1:=by
  unfold howM
  have h6:=chg_len ⟨x.alpha,x.E,x.applied,r.member,true⟩
  have h7:=chg_len ⟨x.alpha,x.E,x.applied,r.member,false⟩
  cases r.kind==2<;>cases r.kind==3<;>cases r.kind==4<;>cases r.kind==5<;>cases r.kind==6<;>cases r.kind==7<;>first | exact h6 | exact h7 | exact⟨Nat.le_refl _,Nat.le_succ _⟩
theorem do_E (x:MacS) (r:RequestD):x.E.length≤(doM x r).2.E.length∧(doM x r).2.E.length≤x.E.length+1:=by
  unfold doM
  cases r.kind==0
  · cases r.kind==1
    · cases (askM x r).1.2
      · exact how_E (withS x (askM x r).2) r
      · exact⟨Nat.le_refl _,Nat.le_succ _⟩
    · cases wordOk r.name false<;>exact⟨Nat.le_refl _,Nat.le_succ _⟩
  · exact⟨Nat.le_refl _,Nat.le_succ _⟩
theorem okEp_of {a:Int} {E:List EpochD} (h:okEp a E=true):1≤a∧a≤8∧1≤E.length∧E.length≤1000000 ∧ ∀p,p∈E→mayE p.members=true:=by
  unfold okEp at h
  simp only [Bool.and_eq_true,decide_eq_true_eq,List.all_eq_true] at h
  exact⟨h.1,h.2.1,h.2.2.1,h.2.2.2.1,h.2.2.2.2⟩
set_option maxHeartbeats 0 in
theorem apply_ok (hc:SpecOK Tryz.prog 253 echgT.spec):SpecOK Tryz.prog 24 applyT.spec:=by
  refine Tri.ok (E:=applyE) (Env_ok (by decide +kernel) (by
    intro p hp
    simp only [List.mem_cons,List.mem_nil_iff,or_false] at hp
    rcases hp with rfl | rfl
    · exact does_ok hc
    · exact ecut_ok)) (n:=1000) applyT fun a ha=>?_
  rw [apply_vc]
  delta applyQ2 applyQ1 EqM EqG EqQ EqT EqV EqV7
  obtain⟨x,r⟩:=a
  obtain⟨h1,h2⟩:okMS x=true∧okRq r=true:=ha
  obtain⟨p1,p2,p3,p4,p5,p6⟩:=okMS_of h1
  dsimp only
  refine br_i (fun k=>?_) fun k=>?_
  · have hd:applyM x r=(vd 5,x):=by unfold applyM;rw [k];rfl
    rw [hd]
    exact⟨(),(by repeat' (first | exact trivial | refine And.intro ?_ ?_ | rfl))⟩
  · have hd:applyM x r=((doM x r).1,⟨x.alpha,x.size,x.applied+1,(doM x r).2.C,(doM x r).2.S,cutE (doM x r).2.E (x.applied+1)⟩):=by unfold applyM;rw [k];rfl
    obtain⟨s1,s2,s3⟩:=do_same x r
    have s4:IntKind.i64.wrap ((doM x r).2.applied+1)=x.applied+1:=by rw [s3];exact wrap_id (by omega) (by omega)
    have s5:1≤(doM x r).2.E.length:=Nat.le_trans (okEp_of p4).2.2.1 (do_E x r).1
    rw [hd]
    refine⟨⟨x,r⟩,rfl,rfl,rfl,rfl,rfl,rfl,rfl,rfl,rfl,rfl,rfl,rfl,rfl,rfl,rfl,rfl,rfl,rfl,rfl,rfl,rfl,rfl,rfl,rfl,rfl,rfl,rfl,⟨h1,h2⟩,fun _ _=>?_⟩
    dsimp only
    rw [s4,s1,s2]
    exact⟨⟨x.alpha,(doM x r).2.E,x.applied+1⟩,rfl,rfl,rfl,rfl,rfl,decide_eq_true s5,fun _ _=>⟨(),(by repeat' (first | exact trivial | refine And.intro ?_ ?_ | rfl))⟩⟩
end Go.Proofs.YtgepebndihfnfaaGreat.Ses
