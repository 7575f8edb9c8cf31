/- Numbers sorted, each once; the sessions of the reference. No condition. -/
import Derived.Test.YtgepebndihfnfaaGreatKMgA
import Derived.Shelf.SortM.Plain
import Derived.Shelf.Slices.CompactI
import Derived.Lib.SlicesCompact
import Derived.KernelRfl
set_option linter.unusedSimpArgs false
set_option linter.unusedVariables false

namespace Go.Proofs.YtgepebndihfnfaaGreat.Ses
open Go Go.Proofs Go.Proofs.YtgepebndihfnfaaGreat.Sx
open Go.Shelf
def refU_ren:Go.Shelf.Ren:=⟨fun | 20=>165 | n=>n,fun | 22=>30 | 3=>3 | 4=>4 | 0=>0 | n=>n,fun | n=>n⟩
theorem refU:Go.Proofs.Lays2.n20 Tryz.prog refU_ren where
  mixed:=by kernel_rfl
  f20:=Tryz.func165.trans (congrArg some (by kernel_rfl))
  t0:=Tryz.underlying0
  a0:=Tryz.isAgg0
  z0:=Tryz.sizeOf0
  v0:=Tryz.zeroValue0
  t3:=Tryz.underlying3
  a3:=Tryz.isAgg3
  z3:=Tryz.sizeOf3
  v3:=Tryz.zeroValue3
  t4:=Tryz.underlying4
  a4:=Tryz.isAgg4
  z4:=Tryz.sizeOf4
  v4:=Tryz.zeroValue4
  t22:=Tryz.underlying30
  a22:=Tryz.isAgg30
  z22:=Tryz.sizeOf30
  v22:=Tryz.zeroValue30
  i3:=by kernel_rfl
def refO_ren:Go.Shelf.Ren:=⟨fun | 5=>164 | 8=>213 | 7=>212 | 19=>250 | 20=>251 | 10=>241 | 11=>242 | 12=>243 | 13=>244 | 14=>245 | 15=>246 | 16=>247 | 17=>248 | 18=>249 | 30=>262 | 31=>263 | 32=>264 | 33=>265 | 34=>266 | 35=>267 | 40=>286 | n=>n,fun | 23=>30 | 25=>3 | 3=>3 | 32=>238 | 22=>30 | 0=>0 | 44=>261 | 46=>35 | 4=>4 | 36=>254 | 35=>253 | 41=>221 | 5=>5 | 9=>9 | 53=>272 | 57=>276 | 63=>291 | 64=>292 | n=>n,fun | n=>n⟩
theorem refO:Go.Proofs.SlLaysM.n5 Tryz.prog refO_ren where
  mixed:=by kernel_rfl
  f5:=⟨"slices.Sort[[]int,int]",by decide,Tryz.func164.trans (congrArg some (by kernel_rfl))⟩
  f7:=⟨"slices.pdqsortOrdered[int]",by decide,Tryz.func212.trans (congrArg some (by kernel_rfl))⟩
  f8:=Tryz.func213.trans (congrArg some (by kernel_rfl))
  f10:=⟨"slices.insertionSortOrdered[int]",by decide,Tryz.func241.trans (congrArg some (by kernel_rfl))⟩
  f11:=⟨"slices.heapSortOrdered[int]",by decide,Tryz.func242.trans (congrArg some (by kernel_rfl))⟩
  f12:=⟨"slices.breakPatternsOrdered[int]",by decide,Tryz.func243.trans (congrArg some (by kernel_rfl))⟩
  f13:=⟨"slices.choosePivotOrdered[int]",by decide,Tryz.func244.trans (congrArg some (by kernel_rfl))⟩
  f14:=⟨"slices.reverseRangeOrdered[int]",by decide,Tryz.func245.trans (congrArg some (by kernel_rfl))⟩
  f15:=⟨"slices.partialInsertionSortOrdered[int]",by decide,Tryz.func246.trans (congrArg some (by kernel_rfl))⟩
  f16:=⟨"cmp.Less[int]",by decide,Tryz.func247.trans (congrArg some (by kernel_rfl))⟩
  f17:=⟨"slices.partitionEqualOrdered[int]",by decide,Tryz.func248.trans (congrArg some (by kernel_rfl))⟩
  f18:=⟨"slices.partitionOrdered[int]",by decide,Tryz.func249.trans (congrArg some (by kernel_rfl))⟩
  f19:=Tryz.func250.trans (congrArg some (by kernel_rfl))
  f20:=Tryz.func251.trans (congrArg some (by kernel_rfl))
  f30:=⟨"slices.siftDownOrdered[int]",by decide,Tryz.func262.trans (congrArg some (by kernel_rfl))⟩
  f31:=Tryz.func263.trans (congrArg some (by kernel_rfl))
  f32:=Tryz.func264.trans (congrArg some (by kernel_rfl))
  f33:=⟨"slices.medianAdjacentOrdered[int]",by decide,Tryz.func265.trans (congrArg some (by kernel_rfl))⟩
  f34:=⟨"slices.medianOrdered[int]",by decide,Tryz.func266.trans (congrArg some (by kernel_rfl))⟩
  f35:=⟨"cmp.isNaN[int]",by decide,Tryz.func267.trans (congrArg some (by kernel_rfl))⟩
  f40:=⟨"slices.order2Ordered[int]",by decide,Tryz.func286.trans (congrArg some (by kernel_rfl))⟩
  t0:=Tryz.underlying0
  a0:=Tryz.isAgg0
  z0:=Tryz.sizeOf0
  v0:=Tryz.zeroValue0
  t3:=Tryz.underlying3
  a3:=Tryz.isAgg3
  z3:=Tryz.sizeOf3
  v3:=Tryz.zeroValue3
  t4:=Tryz.underlying4
  a4:=Tryz.isAgg4
  z4:=Tryz.sizeOf4
  v4:=Tryz.zeroValue4
  t5:=Tryz.underlying5
  a5:=Tryz.isAgg5
  z5:=Tryz.sizeOf5
  v5:=Tryz.zeroValue5
  t9:=Tryz.underlying9
  a9:=Tryz.isAgg9
  z9:=Tryz.sizeOf9
  v9:=Tryz.zeroValue9
  t22:=Tryz.underlying30
  a22:=Tryz.isAgg30
  z22:=Tryz.sizeOf30
  v22:=Tryz.zeroValue30
  t23:=Tryz.underlying30
  a23:=Tryz.isAgg30
  z23:=Tryz.sizeOf30
  v23:=Tryz.zeroValue30
  t25:=Tryz.underlying3
  a25:=Tryz.isAgg3
  z25:=Tryz.sizeOf3
  v25:=Tryz.zeroValue3
  t32:=Tryz.underlying238
  a32:=Tryz.isAgg238
  z32:=Tryz.sizeOf238
  v32:=Tryz.zeroValue238
  t35:=Tryz.underlying253
  a35:=Tryz.isAgg253
  z35:=Tryz.sizeOf253
  v35:=Tryz.zeroValue253
  t36:=Tryz.underlying254
  a36:=Tryz.isAgg254
  z36:=Tryz.sizeOf254
  v36:=Tryz.zeroValue254
  t41:=Tryz.underlying221
  a41:=Tryz.isAgg221
  z41:=Tryz.sizeOf221
  v41:=Tryz.zeroValue221
  t44:=Tryz.underlying261
  a44:=Tryz.isAgg261
  z44:=Tryz.sizeOf261
  v44:=Tryz.zeroValue261
  t46:=Tryz.underlying35
  a46:=Tryz.isAgg35
  z46:=Tryz.sizeOf35
  v46:=Tryz.zeroValue35
  t53:=Tryz.underlying272
  a53:=Tryz.isAgg272
  z53:=Tryz.sizeOf272
  v53:=Tryz.zeroValue272
  t57:=Tryz.underlying276
  a57:=Tryz.isAgg276
  z57:=Tryz.sizeOf276
  v57:=Tryz.zeroValue276
  t63:=Tryz.underlying291
  a63:=Tryz.isAgg291
  z63:=Tryz.sizeOf291
  v63:=Tryz.zeroValue291
  t64:=Tryz.underlying292
  a64:=Tryz.isAgg292
  z64:=Tryz.sizeOf292
  v64:=Tryz.zeroValue292
open Go
theorem ups_eq:∀ {a b:List Int},a.Pairwise (· < ·)→b.Pairwise (· < ·)→(∀n,n∈a↔n∈b)→a=b
  | [],[],_,_,_=>rfl
  | [],y::r,_,_,h=>absurd ((h y).2 (by simp)) (by simp)
  | x::r,[],_,_,h=>absurd ((h x).1 (by simp)) (by simp)
  | x::r,y::s,ha,hb,h=>by
    obtain⟨a1,a2⟩:=List.pairwise_cons.1 ha
    obtain⟨b1,b2⟩:=List.pairwise_cons.1 hb
    have e:x=y:=by
      rcases List.mem_cons.1 ((h x).1 (by simp)) with e | e
      · exact e
      · rcases List.mem_cons.1 ((h y).2 (by simp)) with e2 | e2
        · exact e2.symm
        · have:=a1 y e2;have:=b1 x e;omega
    subst e
    congr 1
    refine ups_eq a2 b2 fun n=>⟨fun hn=>?_,fun hn=>?_⟩
    · rcases List.mem_cons.1 ((h n).1 (List.mem_cons_of_mem _ hn)) with e | e
      · subst e;have:=a1 n hn;omega
      · exact e
    · rcases List.mem_cons.1 ((h n).2 (List.mem_cons_of_mem _ hn)) with e | e
      · subst e;have:=b1 n hn;omega
      · exact e
theorem upto_sorted (zs:List Int) (h:zs.Pairwise (· ≤ ·)):∀m,m≤zs.length→(Lib.compactUpTo zs.toArray m).Pairwise (· < ·) ∧ ∀n,n∈Lib.compactUpTo zs.toArray m ↔ ∃j,j<m∧zs[j]?=some n
  | 0,_=>⟨List.Pairwise.nil,fun n=>⟨fun h=>by simp [Lib.compactUpTo] at h,fun ⟨j,hj,_⟩=>absurd hj (Nat.not_lt_zero _)⟩⟩
  | m+1,hm=>by
    obtain⟨h1,h2⟩:=upto_sorted zs h m (by omega)
    have get:∀j (hj:j<zs.length),zs.toArray[j]! = zs[j]:=fun j hj=>by simp [hj]
    have le:∀i j (hi:i<zs.length) (hj:j<zs.length),i<j→zs[i]≤zs[j]:=fun i j hi hj hij=>List.pairwise_iff_getElem.1 h i j hi hj hij
    rw [Lib.compactUpTo_succ]
    cases hk:Lib.keeps zs.toArray m
    · rw [if_neg (by simp),List.append_nil]
      refine⟨h1,fun n=>?_⟩
      have hk':¬(m=0∨zs.toArray[m]! ≠ zs.toArray[m-1]!):=by simpa [Lib.keeps] using hk
      have h0:m≠0:=fun e=>hk' (.inl e)
      have he:zs.toArray[m]! = zs.toArray[m-1]! := Decidable.byContradiction fun e=>hk' (.inr e)
      rw [get m (by omega),get (m-1) (by omega)] at he
      rw [h2]
      refine⟨fun ⟨j,hj,e⟩=>⟨j,by omega,e⟩,fun ⟨j,hj,e⟩=>?_⟩
      by_cases q:j=m
      · subst q
        refine⟨j-1,by omega,?_⟩
        rw [List.getElem?_eq_getElem (by omega)] at e ⊢
        rw [←he];exact e
      · exact⟨j,by omega,e⟩
    · rw [if_pos rfl]
      have hk':m=0∨zs.toArray[m]! ≠ zs.toArray[m-1]! := by simpa [Lib.keeps] using hk
      rw [get m (by omega)] at *
      refine⟨?_,fun n=>?_⟩
      · rw [List.pairwise_append]
        refine⟨h1,by simp,fun a ha b hb=>?_⟩
        obtain⟨j,hj,e⟩:=(h2 a).1 ha
        have hb:b=zs[m]:=by simpa using hb
        subst hb
        rw [List.getElem?_eq_getElem (by omega)] at e
        cases e
        rcases hk' with e | e
        · omega
        · rw [get (m-1) (by omega)] at e
          have l1:=le (m-1) m (by omega) (by omega) (by omega)
          rcases Nat.lt_or_ge j (m-1) with q | q
          · have l2:=le j (m-1) (by omega) (by omega) q
            omega
          · have:j=m-1:=by omega
            subst this
            omega
      · rw [List.mem_append,h2]
        constructor
        · rintro (⟨j,hj,e⟩ | e)
          · exact⟨j,by omega,e⟩
          · have e:n=zs[m]:=by simpa using e
            exact⟨m,by omega,by rw [List.getElem?_eq_getElem (by omega),e]⟩
        · rintro ⟨j,hj,e⟩
          by_cases q:j=m
          · subst q
            rw [List.getElem?_eq_getElem (by omega)] at e
            cases e
            exact .inr (by simp)
          · exact .inl ⟨j,by omega,e⟩
theorem compact_sorted (zs:List Int) (h:zs.Pairwise (· ≤ ·)):(Lib.compact zs).Pairwise (· < ·) ∧ ∀n,n∈Lib.compact zs↔n∈zs:=by
  obtain⟨h1,h2⟩:=upto_sorted zs h zs.length (Nat.le_refl _)
  refine⟨h1,fun n=>?_⟩
  show n∈Lib.compactUpTo zs.toArray zs.length↔_
  rw [h2]
  refine⟨fun ⟨j,_,e⟩=>List.mem_of_getElem? e,fun hn=>?_⟩
  obtain⟨j,e⟩:=List.getElem?_of_mem hn
  exact⟨j,(List.getElem?_eq_some_iff.1 e).1,e⟩
theorem uniq_sort (zs:List Int):(Lib.compact (zs.mergeSort fun x y=>decide (x≤y))).Pairwise (· < ·) ∧ ∀n,n∈Lib.compact (zs.mergeSort fun x y=>decide (x≤y))↔n∈zs:=by
  have hs:(zs.mergeSort fun x y=>decide (x≤y)).Pairwise (· ≤ ·):=by
    have:=List.pairwise_mergeSort (le:=fun (x y:Int)=>decide (x≤y)) (fun a b c h1 h2=>by simp at *;omega) (fun a b=>by simp;omega) zs
    exact this.imp fun h=>by simpa using h
  obtain⟨h1,h2⟩:=compact_sorted _ hs
  exact⟨h1,fun n=>by rw [h2];exact List.mem_mergeSort⟩
end Go.Proofs.YtgepebndihfnfaaGreat.Ses

namespace Go.Proofs.YtgepebndihfnfaaGreat.Sx
open Go Go.Sort
theorem sorted_heap {w:World} {b off k:Nat} {d:Array Int} {os:Array Obj} {c:Array Value} {T:TypeId} (hc:w.heap[b]?=some (.cells c T (0,0))) :
    (grow (putRow (Value.int .i64) (Sort.ahead w k) b off d) os).heap[b]?=some (.cells (putCells (Value.int .i64) off d c) T (0,0)):=by
  have hg:b<w.heap.size:=(Array.getElem?_eq_some_iff.1 hc).1
  rw [heap_grow_old _ _ (by simpa using hg)]
  simp [putRow,mapBlock,Sort.ahead,Array.getElem?_modify,hc,onCells]
theorem sorted_other {w:World} {b off k:Nat} {d:Array Int} {os:Array Obj} {b':Nat} (h:b'<w.heap.size) (hne:b'≠b) :
    (grow (putRow (Value.int .i64) (Sort.ahead w k) b off d) os).heap[b']?=w.heap[b']?:=by
  rw [heap_grow_old _ _ (by simpa using h)]
  have:b≠b':=fun e=>hne e.symm
  simp [putRow,mapBlock,Sort.ahead,Array.getElem?_modify,this]
theorem putCells_at {off:Nat} {l:List Int} {c:Array Value} (hs:off+l.length≤c.size) {i:Nat} {x:Int} (hx:l[i]?=some x):(putCells (Value.int .i64) off l.toArray c)[off+i]?=some (.int .i64 x):=by
  have hi:i<l.length:=(List.getElem?_eq_some_iff.1 hx).1
  have e:l[i]=x:=(List.getElem?_eq_some_iff.1 hx).2
  unfold putCells
  rw [Array.getElem?_mapIdx,Array.getElem?_eq_getElem (by omega)]
  simp only [Option.map_some,List.size_toArray]
  rw [if_pos (by omega),Nat.add_sub_cancel_left]
  simp [hi,e]
theorem putCells_size {off:Nat} {d:Array Int} {c:Array Value}:(putCells (Value.int .i64) off d c).size=c.size:=by simp [putCells]
theorem Mem.sortRow {F:Fr} {g:Ctx} {m:MS} {w:World} (h:Mem F g m w) {n:Nat} {l:List Int} {r:Reg} (hn:m.blks.get n=some (.rows .int l)) (hr:g.β[n]?=some (some r)) {c:Array Value} {T:TypeId}
    (hc:w.heap[r.b]?=some (.cells c T (0,0))) (hcs:c.size=r.base+r.sz) {l2:List Int} (hl:l2.length≤r.sz) (hby:l2.length*8≤room47) {k:Nat} {os:Array Obj} :
    Mem F g {m with blks:=m.blks.set n (.rows .int l2),log:=n::m.log} (Go.Sort.grow (putRow (Value.int .i64) (Sort.ahead w k) r.b r.base l2.toArray) os):=by
  have hlt:r.b<w.heap.size:=(Array.getElem?_eq_some_iff.1 hc).1
  have h1:=h.write (k':=.rows .int l2) hn hr hc (c':=putCells (Value.int .i64) r.base l2.toArray c) putCells_size (by
    refine⟨by show l2.length*1≤r.sz;omega,hby,fun i=>[.int .i64 (l2.getD i 0)],fun i=>rfl,fun i x hx=>?_,fun i hi j v hv=>?_⟩
    · have e:l2.getD i 0=x:=by simp [List.getD,hx]
      show RepL _ [.int .i64 x] [.int .i64 (l2.getD i 0)]
      rw [e]
      exact .cons (.int _ _) (RepL.nil _)
    · cases j with
      | succ j=>simp at hv
      | zero=>
        simp at hv
        subst hv
        show (putBlk w r.b _ T).cell? ⟨r.b,r.base+(i*1+0),none⟩=_
        rw [cell?_of_blk (putBlk_get hlt),Nat.mul_one,Nat.add_zero,putCells_at (by omega) (x:=l2[i]) (by simp [hi])]
        simp [List.getD,hi])
  refine h1.grow (fun b hb=>?_) ?_ rfl rfl
  · by_cases e:b=r.b
    · subst e
      rw [sorted_heap hc,putBlk_get hlt]
    · rw [putBlk_other e]
      have hb':b<w.heap.size:=by simpa [putBlk] using hb
      exact sorted_other hb' e
  · simp [putBlk,grow,Sort.ahead]
end Go.Proofs.YtgepebndihfnfaaGreat.Sx
namespace Go.Proofs.YtgepebndihfnfaaGreat.Ses
open Go Go.Proofs Go.Proofs.YtgepebndihfnfaaGreat.Sx Go.Shelf Go.Sort
def sortI (l:List Int):List Int:=l.mergeSort fun x y=>decide (x≤y)
theorem sortI_len (l:List Int):(sortI l).length=l.length:=by simp [sortI]
theorem compact_len (l:List Int):(Lib.compact l).length≤l.length:=by
  unfold Lib.compact Lib.compactUpTo
  rw [List.length_map]
  refine Nat.le_trans (List.length_filter_le _ _) (by simp)
theorem holds_own {w:World} {b off:Nat} {c:Array Value} {T:TypeId} {l:List Int} (hb:w.heap[b]?=some (.cells c T (0,0))) (hx:∀(i:Nat) x,l[i]?=some x→c[off+i]?=some (.int .i64 x)):Holds (Value.int .i64) w b off l.toArray:=by
  intro j hj
  have hj':j<l.length:=by simpa using hj
  refine⟨?_,by simp [World.frozen?,hb]⟩
  rw [cell?_of_blk hb,hx j l[j] (by simp [hj'])]
  simp [hj']
def isortT:Tri:={γ:=List Int,n0:=1,args:=fun l=>[.mslice .int 0 0 l.length],blks:=fun l=>[(0,.rows .int l)],pre:=fun l=>1≤l.length∧l.length≤1000000,δ:=Unit,post:=fun _ _=>True,n1:=0,res:=fun _ _=>.tuple [],blks':=fun l _=>[(0,.rows .int (sortI l))],scal:=false}
theorem isort_ok:SpecOK Tryz.prog 164 isortT.spec:=by
  refine Tri.ok' isortT fun l hx F g w vs hargs hm=>?_
  change List Int at l
  obtain⟨p1,p2⟩:1≤l.length∧l.length≤1000000:=hx
  have hargs:RepL g [.mslice .int 0 0 l.length] vs:=hargs
  obtain⟨u0,_,rfl,r0,r⟩:=hargs.uncons
  rw [r.eq_nil]
  obtain⟨q0,cap,c,T,hq0,rfl,hc1,hc2,hc3,hblk,hsz,hcell⟩:=ownInts (l:=l) hm rfl r0 (by omega)
  have hc:Calls Tryz.prog 164 #[.slice (some ⟨q0.b,q0.base,none⟩) l.length cap] w _:=
    AnyM.slices_Sort_int refO q0.b q0.base cap l w (holds_own hblk hcell) (Array.getElem?_eq_some_iff.1 hblk).1 (by omega)
  refine hc.mono ?_
  rintro e w' ⟨rfl,n,os,rfl⟩
  have hM:=hm.sortRow (n:=0) (l:=l) (r:=q0) rfl hq0 hblk hsz (l2:=sortI l) (by rw [sortI_len];omega) (by rw [sortI_len];unfold room47;omega) (k:=n) (os:=os)
  refine⟨g,⟨[(0,.rows .int (sortI l))],1,[0]⟩,.tuple [],?_,Ctx.le.refl g,⟨⟨[0],rfl,fun q hq hn=>?_⟩,Nat.le_refl _⟩,hM,.tuple [] [] rfl fun j sv v a=>by simp at a⟩
  · have e:isortT.ends l (.tuple []) ⟨[(0,.rows .int (sortI l))],1,[0]⟩=(∃x1:Unit,((sortI l)=(sortI l))∧True):=by kernel_rfl
    show isortT.ends l (.tuple []) ⟨[(0,.rows .int (sortI l))],1,[0]⟩
    rw [e]
    exact⟨(),rfl,trivial⟩
  · exact Blks.get_set_other (isortT.blks l) _ (fun e=>hn (by rw [e];exact List.mem_singleton.2 rfl))
def icompT:Tri:={γ:=List Int,n0:=1,args:=fun l=>[.mslice .int 0 0 l.length],blks:=fun l=>[(0,.rows .int l)],pre:=fun l=>1≤l.length∧l.length≤1000000,δ:=Unit,post:=fun _ _=>True,n1:=0,res:=fun l _=>.rslice false .int (Lib.compact l),blks':=fun _ _=>[],scal:=false}
theorem icomp_in {F:Fr} {g:Ctx} {l l2:List Int} {w:World} (hm:Mem F g ⟨icompT.blks l,1,[]⟩ w) (he:Lib.compact l=l2) (hcl:l2.length≤l.length) (p2:l.length≤1000000) {q0:Reg} {cap:Nat} {c:Array Value} {T:TypeId} (hq0:g.β[0]?=some (some q0)) (hc1:l.length≤cap) (hc2:cap≤9223372036854775807) (hc3:cap≤q0.sz)
    (hblk:w.heap[q0.b]?=some (.cells c T (0,0))) (hsz:c.size=q0.base+q0.sz) {n:Nat} :
    CallPost F g ⟨icompT.blks l,icompT.n0,[]⟩ (fun _ _=>False) (icompT.ends l) (.returned (.slice (some ⟨q0.b,q0.base,none⟩) l2.length cap)) (putRow (Value.int .i64) (Sort.ahead w n) q0.b q0.base (l2++List.replicate (l.length-l2.length) 0).toArray):=by
  have hrow:∀(i:Nat) x,l2[i]?=some x→(putCells (Value.int .i64) q0.base (l2++List.replicate (l.length-l2.length) 0).toArray c)[q0.base+i]?=some (.int .i64 x):=fun i x hx=>
    putCells_at (l:=l2++List.replicate (l.length-l2.length) 0) (by simp;omega) (by
      rw [List.getElem?_append_left (List.getElem?_eq_some_iff.1 hx).1];exact hx)
  have hA:=hm.inPlace (n:=0) (l:=l) (r:=q0) (l2:=l2) (c':=putCells (Value.int .i64) q0.base (l2++List.replicate (l.length-l2.length) 0).toArray c) (T:=T) rfl hq0
    (w':=putRow (Value.int .i64) (Sort.ahead w n) q0.b q0.base (l2++List.replicate (l.length-l2.length) 0).toArray) rfl rfl (by simp [Sort.ahead]) (fun b hb=>by
      by_cases hb2:b<w.heap.size
      · have:=sorted_other (w:=w) (b:=q0.b) (off:=q0.base) (k:=n) (d:=(l2++List.replicate (l.length-l2.length) 0).toArray) (os:=#[]) hb2 hb
        simpa using this
      · rw [Array.getElem?_eq_none (by simp [Sort.ahead];omega),Array.getElem?_eq_none (by omega)]) (by
      have:=sorted_heap (w:=w) (b:=q0.b) (off:=q0.base) (k:=n) (d:=(l2++List.replicate (l.length-l2.length) 0).toArray) (os:=#[]) hblk
      simpa using this) (by rw [putCells_size];exact hsz) (by omega) (by unfold room47;omega) hrow
  have hnx:g.β.length=1:=hm.next.symm
  refine⟨_,_,.mslice .int 1 0 l2.length,?_,g.le_add _,(Upd.kill _ 0).trans (Upd.new _ _),hA,?_⟩
  · refine⟨(),?_⟩
    show ((0+l2.length)≤l2.length∧(l2.drop 0).take l2.length=Lib.compact l∧True)
    rw [List.drop_zero,List.take_of_length_le (Nat.le_refl _)]
    exact⟨by omega,he.symm,trivial⟩
  · have:=Rep.mslice (g:=g.add (some q0)) .int 1 0 l2.length cap q0.base q0 (by rw [←hnx];exact Ctx.add_get _ _) (by omega) (by show l2.length*8≤room47;unfold room47;omega) (.inr ⟨by simp,by show (0+cap)*1≤q0.sz;omega⟩) hc2
    exact this
theorem icomp_ok:SpecOK Tryz.prog 165 icompT.spec:=by
  refine Tri.ok' icompT fun l hx F g w vs hargs hm=>?_
  change List Int at l
  obtain⟨p1,p2⟩:1≤l.length∧l.length≤1000000:=hx
  have hargs:RepL g [.mslice .int 0 0 l.length] vs:=hargs
  obtain⟨u0,_,rfl,r0,r⟩:=hargs.uncons
  rw [r.eq_nil]
  obtain⟨q0,cap,c,T,hq0,rfl,hc1,hc2,hc3,hblk,hsz,hcell⟩:=ownInts (l:=l) hm rfl r0 (by omega)
  have hcl:=compact_len l
  have hc:Calls Tryz.prog 165 #[.slice (some ⟨q0.b,q0.base,none⟩) l.length cap] w _:=
    Any.slices_Compact_int refU q0.b q0.base cap l w (holds_own hblk hcell) (by omega) hc1
  refine hc.mono ?_
  rintro e w' ⟨rfl,n,rfl⟩
  exact icomp_in hm rfl hcl p2 hq0 hc1 hc2 hc3 hblk hsz
open Go Go.Proofs Go.Proofs.YtgepebndihfnfaaGreat.Sx
noncomputable def ccomT:Tri:={γ:=CommitD,n0:=0,args:=fun c=>[.agg (enc .commit c)],blks:=fun _=>[],pre:=fun _=>True,δ:=Unit,post:=fun _ _=>True,n1:=0,res:=fun c _=>.agg (enc .commit c),blks':=fun _ _=>[],scal:=false}
noncomputable def ccomsI:St→LInv:=fun s=>match getE s.env 0 with
  | .rslice _ .commit l=>{σ:=Nat,I:=fun i=>i≤l.length,μ:=fun i=>l.length-i,env:=fun i=>[(4,.int .i64 i),(3,.mslice .commit s.m.next 0 i)],blk:=fun i=>[(s.m.next,.rows .commit (l.take i))],fresh:=1,drop:=[]}
  | _=>LInv.none
noncomputable def ccomsE:Envr:=Env Tryz.prog cod [(157,ccomT.spec)] [(3,ccomsI)]
noncomputable def ccomsT:Tri:={γ:=List CommitD,n0:=0,args:=fun l=>[.rslice false .commit l],blks:=fun _=>[],pre:=fun _=>True,δ:=Unit,post:=fun _ _=>True,n1:=0,res:=fun l _=>.rslice false .commit l,blks':=fun _ _=>[],scal:=false}
noncomputable def cverE:Envr:=Env Tryz.prog cod [(141,ccomsT.spec)] []
noncomputable def cverT:Tri:={γ:=VerdictD,n0:=0,args:=fun v=>[.agg v.enc],blks:=fun _=>[],pre:=fun _=>True,δ:=Unit,post:=fun _ _=>True,n1:=0,res:=fun v _=>.agg v.enc,blks':=fun _ _=>[],scal:=false}
noncomputable def csesE:Envr:=Env Tryz.prog cod [(100,cverT.spec)] []
noncomputable def csesT:Tri:={γ:=SessionD,n0:=0,args:=fun v=>[.agg (enc .session v)],blks:=fun _=>[],pre:=fun _=>True,δ:=Unit,post:=fun _ _=>True,n1:=0,res:=fun v _=>.agg (enc .session v),blks':=fun _ _=>[],scal:=false}
noncomputable def seekI (ix key:Nat):St→LInv:=fun s=>match getE s.env 0,getE s.env key with
  | .mptr n _,k=>match s.m.blks.get n with
    | some (.cells [_,.mslice _ q _ _])=>match s.m.blks.get q with
      | some (.rows .session l)=>
        {σ:=Nat,I:=fun i=>i≤l.length ∧ ∀(j:Nat) x,j<i→l[j]?=some x→(match k with | .int _ n=>idIs n x | .str n=>nameIs n x | _=>false)=false,
          μ:=fun i=>l.length-i,env:=fun i=>[(ix,.int .i64 i)],blk:=fun _=>[],fresh:=0,drop:=[]}
      | _=>LInv.none
    | _=>LInv.none
  | _,_=>LInv.none
noncomputable def rfindE:Envr:=Env Tryz.prog cod [] [(2,seekI 5 1)]
noncomputable def rfindT:Tri:={γ:=TabI,n0:=2,args:=fun x=>[.mptr 0 0,.int .i64 x.n],blks:=fun x=>tabB x.size x.l 1,pre:=fun x=>True,δ:=Unit,post:=fun _ _=>True,n1:=0,res:=fun x _=>.int .i64 (idxF (idIs x.n) x.l),blks':=fun x _=>tabB x.size x.l 1,scal:=false}
noncomputable def rlastT:Tri:={γ:=TabI,n0:=2,args:=fun x=>[.mptr 0 0,.int .i64 x.n],blks:=fun x=>tabB x.size x.l 1,pre:=fun x=>decide (0≤x.n∧x.n<x.l.length)=true∧decide (x.l.length≤1024)=true,δ:=Unit,post:=fun _ _=>True,n1:=1,res:=fun x _=>.tuple [],blks':=fun x _=>tabB x.size (usedL x.l x.n) 2,scal:=false}
noncomputable def ropenE:Envr:=Env Tryz.prog cod [(209,rfindT.spec),(208,rlastT.spec)] [(2,seekI 7 1)]
noncomputable def ropenT:Tri:={γ:=OpenA,n0:=2,args:=fun x=>[.mptr 0 0,.str x.name,.int .i64 x.id],blks:=fun x=>tabB x.size x.l 1,pre:=fun x=>decide (0<x.size)=true∧decide (x.l.length≤1024)=true∧decide ((x.l.length:Int)≤x.size)=true,δ:=Unit,post:=fun _ _=>True,n1:=1,res:=fun x _=>.int .i64 (openL x).1,blks':=fun x _=>tabB x.size (openL x).2 2,scal:=false}
noncomputable def raskE:Envr:=Env Tryz.prog cod [(209,rfindT.spec),(208,rlastT.spec),(100,cverT.spec)] []
noncomputable def raskT:Tri:={γ:=AskA,n0:=2,args:=fun x=>[.mptr 0 0,.int .i64 x.id,.int .i64 x.seq],blks:=fun x=>tabB x.size x.l 1,pre:=fun x=>decide (x.l.length≤1024)=true,δ:=Unit,post:=fun _ _=>True,n1:=1,res:=fun x _=>.tuple [.agg (askL x).1.1.enc,.bool (askL x).1.2],blks':=fun x _=>tabB x.size (askL x).2 2,scal:=false}
noncomputable def rdoneT:Tri:={γ:=DoneA,n0:=2,args:=fun x=>[.mptr 0 0,.int .i64 x.id,.int .i64 x.seq,.agg x.v.enc],blks:=fun x=>tabB x.size x.l 1,pre:=fun x=>True,δ:=Unit,post:=fun _ _=>True,n1:=1,res:=fun x _=>.bool (doneL x).1,blks':=fun x _=>tabB x.size (doneL x).2 2,scal:=false}
set_option maxRecDepth 100000
abbrev ccomQ1 (x:ccomT.γ):=0+(CommitD.changes x).length
abbrev ccomQ2 (x:ccomT.γ):=@HAppend.hAppend (List ChangeD) (List ChangeD) (List ChangeD) _ (List.take 0 (List.drop 0 ([]:List ChangeD))) (CommitD.changes x)
theorem ccom_vc (x:ccomT.γ):evCall noE (ev noE 1000) 157 (ccomT.args x) ⟨ccomT.blks x,ccomT.n0,[]⟩ (fun _ _=>False) (ccomT.ends x)=(
Nat.le (0*32) room47∧
Nat.le ((CommitD.changes x).length*32) room47→
br (Bool.and (Bool.and true (decide (0+0≤([]:List ChangeD).length))) (decide (ccomQ1 x*32≤room47))) (∃x1:Unit,CommitD.rev x=CommitD.rev x∧
CommitD.base x=CommitD.base x∧
CommitD.ref x=CommitD.ref x∧
0+ccomQ1 x≤(ccomQ2 x).length∧
List.take (ccomQ1 x) (List.drop 0 (ccomQ2 x))=CommitD.changes x∧
True) (Bad "check" "ref.go:140")):=by kernel_rfl
abbrev ccomsQ1 (x3:CommitD):=List.take 1 (List.drop 0 [CommitD.mk x3.rev x3.base x3.ref x3.changes])
theorem ccoms_vc (x:ccomsT.γ):evCall ccomsE (ev ccomsE 1000) 141 (ccomsT.args x) ⟨ccomsT.blks x,ccomsT.n0,[]⟩ (fun _ _=>False) (ccomsT.ends x)=(
(∃x1:Nat,(0:Int)=(↑x1:Int)∧
0=x1∧
([]:List CommitD)=List.take x1 x∧
Nat.le x1 (List.length x))∧
∀x2:Nat,Nat.le x2 (List.length x)→
List.length x*56≤room47→
br (decide ((↑x2:Int)<(↑(List.length x):Int))) (br (decide ((0:Int)≤(↑x2:Int)∧
(↑x2:Int)<(↑(List.length x):Int))) (∃x3:CommitD,EqC (List.getD x (↑x2:Int).toNat (CommitD.mk (0:Int) (0:Int) ([]:List UInt8) ([]:List ChangeD))) x3 (True∧
∀x4:Unit,True→
Nat.le (x2*56) room47∧
Nat.le (1*56) room47→
br (Bool.and (Bool.and (decide (0+1≤[CommitD.mk x3.rev x3.base x3.ref x3.changes].length)) (decide (0+x2≤(List.take x2 x).length))) (decide ((x2+(ccomsQ1 x3).length)*56≤room47))) (∃x5:Nat,IntKind.wrap IntKind.i64 ((↑x2:Int)+(1:Int))=(↑x5:Int)∧
0=0∧
x2+(ccomsQ1 x3).length=x5∧
@HAppend.hAppend (List CommitD) (List CommitD) (List CommitD) _ (List.take x2 (List.drop 0 (List.take x2 x))) (ccomsQ1 x3)=List.take x5 x∧
Nat.le x5 (List.length x)∧
Nat.sub (List.length x) x5<Nat.sub (List.length x) x2) (Bad "check" "ref.go:148"))) (Bad "check" "ref.go:148")) (∃x6:Unit,0+x2≤(List.take x2 x).length∧
List.take x2 (List.drop 0 (List.take x2 x))=x∧
True)):=by kernel_rfl
theorem cver_vc (x:cverT.γ):evCall cverE (ev cverE 1000) 100 (cverT.args x) ⟨cverT.blks x,cverT.n0,[]⟩ (fun _ _=>False) (cverT.ends x)=(
∃x1:(List CommitD),VerdictD.commits x=x1∧
True∧
∀x2:Unit,True→
∃x3:Unit,EqV7 (VerdictD.code x) (VerdictD.session x) (VerdictD.rev x) (VerdictD.path x) (VerdictD.digest x) x1 (VerdictD.member x) x True):=by kernel_rfl
theorem cses_vc (x:csesT.γ):evCall csesE (ev csesE 1000) 179 (csesT.args x) ⟨csesT.blks x,csesT.n0,[]⟩ (fun _ _=>False) (csesT.ends x)=(
∃x1:VerdictD,EqV (SessionD.last x) x1 (True∧
∀x2:Unit,True→
∃x3:Unit,SessionD.id x=SessionD.id x∧
SessionD.seq x=SessionD.seq x∧
SessionD.name x=SessionD.name x∧
EqV x1 (SessionD.last x) True)):=by kernel_rfl
abbrev rfindQ1 (x1:Nat) (x:rfindT.γ):=x1≤(TabI.l x).length∧
∀x2:Nat,∀x3:SessionD,x2<x1→
@GetElem?.getElem? (List SessionD) Nat SessionD (fun x4:(List SessionD)=>fun x5:Nat=>x5<x4.length) _ (TabI.l x) x2=Option.some x3→
idIs (TabI.n x) x3=false
abbrev rfindQ2 (x:rfindT.γ):=EqT (TabI.size x) (TabI.size x) (TabI.l x) (TabI.l x) True
theorem rfind_vc (x:rfindT.γ):evCall rfindE (ev rfindE 1000) 209 (rfindT.args x) ⟨rfindT.blks x,rfindT.n0,[]⟩ (fun _ _=>False) (rfindT.ends x)=(
(∃x1:Nat,(0:Int)=(↑x1:Int)∧
rfindQ1 x1 x)∧
∀x6:Nat,rfindQ1 x6 x→
(TabI.l x).length*112≤room47→
br (decide ((↑x6:Int)<(↑(TabI.l x).length:Int))) (br (decide ((0:Int)≤(↑x6:Int)∧
(↑x6:Int)<(↑(TabI.l x).length:Int))) (br (decide (0+(↑x6:Int).toNat<(TabI.l x).length)) (br ((List.getD (TabI.l x) (0+(↑x6:Int).toNat) (SessionD.mk (0:Int) (0:Int) ([]:List UInt8) VerdictD.dflt)).id==TabI.n x) (∃x11:Unit,(↑x6:Int)=idxF (idIs (TabI.n x)) (TabI.l x)∧
rfindQ2 x) (∃x12:Nat,IntKind.wrap IntKind.i64 ((↑x6:Int)+(1:Int))=(↑x12:Int)∧
rfindQ1 x12 x∧
Nat.sub (TabI.l x).length x12<Nat.sub (TabI.l x).length x6)) (Bad "check" "ref.go:68")) (Bad "check" "ref.go:68")) (∃x17:Unit,@Neg.neg Int _ (1:Int)=idxF (idIs (TabI.n x)) (TabI.l x)∧
rfindQ2 x)):=by kernel_rfl
abbrev rlastQ1 (x:rlastT.γ):=cutN (TabI.l x).length (none:Option Int) (Option.some (TabI.n x))
abbrev rlastQ2 (x:rlastT.γ):=List.take (rlastQ1 x) (List.drop (addN 0 (none:Option Int)) (TabI.l x))
abbrev rlastQ3 (x:rlastT.γ):=Option.some (IntKind.wrap IntKind.i64 (TabI.n x+(1:Int)))
abbrev rlastQ4 (x:rlastT.γ):=cutN (TabI.l x).length (rlastQ3 x) (none:Option Int)
abbrev rlastQ5 (x:rlastT.γ):=@HAppend.hAppend (List SessionD) (List SessionD) (List SessionD) _ (List.take 0 (List.drop 0 ([]:List SessionD))) (rlastQ2 x)
abbrev rlastQ6 (x:rlastT.γ):=List.take (rlastQ4 x) (List.drop (addN 0 (rlastQ3 x)) (TabI.l x))
abbrev rlastQ7 (x:rlastT.γ):=0+(rlastQ2 x).length+(rlastQ6 x).length
abbrev rlastQ8 (x:rlastT.γ):=List.getD (TabI.l x) (0+(TabI.n x).toNat) (SessionD.mk (0:Int) (0:Int) ([]:List UInt8) VerdictD.dflt)
abbrev rlastQ9 (x:rlastT.γ):=[SessionD.mk (rlastQ8 x).id (rlastQ8 x).seq (rlastQ8 x).name (VerdictD.mk (rlastQ8 x).last.code (rlastQ8 x).last.session (rlastQ8 x).last.rev (rlastQ8 x).last.path (rlastQ8 x).last.digest (rlastQ8 x).last.commits (rlastQ8 x).last.member)]
abbrev rlastQ10 (x:rlastT.γ):=@HAppend.hAppend (List SessionD) (List SessionD) (List SessionD) _ (List.take (0+(rlastQ2 x).length) (List.drop 0 (rlastQ5 x))) (rlastQ6 x)
abbrev rlastQ11 (x:rlastT.γ):=rlastQ7 x+(List.take 1 (List.drop 0 (rlastQ9 x))).length
theorem rlast_vc (x:rlastT.γ):evCall noE (ev noE 1000) 208 (rlastT.args x) ⟨rlastT.blks x,rlastT.n0,[]⟩ (fun _ _=>False) (rlastT.ends x)=(
br (decide ((0:Int)≤TabI.n x∧
TabI.n x<(↑(TabI.l x).length:Int))) (br (decide (0+(TabI.n x).toNat<(TabI.l x).length)) (br (bndB (TabI.l x).length (none:Option Int) (Option.some (TabI.n x)) (none:Option Int)) (Nat.le (0*112) room47∧
Nat.le (rlastQ1 x*112) room47→
br (Bool.and (Bool.and (decide (addN 0 (none:Option Int)+rlastQ1 x≤(TabI.l x).length)) (decide (0+0≤([]:List SessionD).length))) (decide ((0+(rlastQ2 x).length)*112≤room47))) (br (bndB (TabI.l x).length (rlastQ3 x) (none:Option Int) (none:Option Int)) (Nat.le ((0+(rlastQ2 x).length)*112) room47∧
Nat.le (rlastQ4 x*112) room47→
br (Bool.and (Bool.and (decide (addN 0 (rlastQ3 x)+rlastQ4 x≤(TabI.l x).length)) (decide (0+(0+(rlastQ2 x).length)≤(rlastQ5 x).length))) (decide (rlastQ7 x*112≤room47))) (Nat.le (rlastQ7 x*112) room47∧
Nat.le (1*112) room47→
br (Bool.and (Bool.and (decide (0+1≤(rlastQ9 x).length)) (decide (0+rlastQ7 x≤(rlastQ10 x).length))) (decide (rlastQ11 x*112≤room47))) (∃x1:Unit,TabI.size x=TabI.size x∧
0=0∧
rlastQ11 x=(usedL (TabI.l x) (TabI.n x)).length∧
@HAppend.hAppend (List SessionD) (List SessionD) (List SessionD) _ (List.take (rlastQ7 x) (List.drop 0 (rlastQ10 x))) (List.take 1 (List.drop 0 (rlastQ9 x)))=usedL (TabI.l x) (TabI.n x)∧
True) (Bad "check" "ref.go:62")) (Bad "check" "ref.go:61")) (Bad "check" "ref.go:61")) (Bad "check" "ref.go:60")) (Bad "check" "ref.go:60")) (Bad "check" "ref.go:59")) (Bad "check" "ref.go:59")):=by kernel_rfl
abbrev ropenQ1 (x1:Nat) (x:ropenT.γ):=x1≤(OpenA.l x).length∧
∀x2:Nat,∀x3:SessionD,x2<x1→
@GetElem?.getElem? (List SessionD) Nat SessionD (fun x4:(List SessionD)=>fun x5:Nat=>x5<x4.length) _ (OpenA.l x) x2=Option.some x3→
nameIs (OpenA.name x) x3=false
abbrev ropenQ2 (x6:Nat) (x:ropenT.γ):=decide ((0:Int)≤(↑x6:Int)∧
(↑x6:Int)<(↑(OpenA.l x).length:Int))
abbrev ropenQ3 (x:ropenT.γ) (x6:Nat):=List.getD (OpenA.l x) (0+(↑x6:Int).toNat) (SessionD.mk (0:Int) (0:Int) ([]:List UInt8) VerdictD.dflt)
abbrev ropenQ4 (x19:TabI):=cutN x19.l.length (none:Option Int) (Option.some (idxF (idIs x19.n) x19.l))
abbrev ropenQ5  := decide (0+0≤([]:List SessionD).length)
abbrev ropenQ6 (x19:TabI):=List.take (ropenQ4 x19) (List.drop (addN 0 (none:Option Int)) x19.l)
abbrev ropenQ7 (x19:TabI):=Option.some (IntKind.wrap IntKind.i64 (idxF (idIs x19.n) x19.l+(1:Int)))
abbrev ropenQ8 (x19:TabI):=cutN x19.l.length (ropenQ7 x19) (none:Option Int)
abbrev ropenQ9  := List.take 0 (List.drop 0 ([]:List SessionD))
abbrev ropenQ10 (x19:TabI):=@HAppend.hAppend (List SessionD) (List SessionD) (List SessionD) _ ropenQ9 (ropenQ6 x19)
abbrev ropenQ11 (x19:TabI):=List.take (ropenQ8 x19) (List.drop (addN 0 (ropenQ7 x19)) x19.l)
abbrev ropenQ12 (x19:TabI):=0+(ropenQ6 x19).length+(ropenQ11 x19).length
abbrev ropenQ13 (x19:TabI):=cutN (ropenQ12 x19) (Option.some (1:Int)) (none:Option Int)
abbrev ropenQ14  := addN 0 (Option.some (1:Int))
abbrev ropenQ15 (x19:TabI):=@HAppend.hAppend (List SessionD) (List SessionD) (List SessionD) _ (List.take (0+(ropenQ6 x19).length) (List.drop 0 (ropenQ10 x19))) (ropenQ11 x19)
abbrev ropenQ16 (x19:TabI):=List.take (ropenQ13 x19) (List.drop ropenQ14 (ropenQ15 x19))
abbrev ropenQ17 (x:ropenT.γ):=[SessionD.mk (OpenA.id x) (0:Int) (OpenA.name x) (VerdictD.mk (0:Int) (0:Int) (0:Int) ([]:List UInt8) (0:Int) ([]:List CommitD) (0:Int))]
abbrev ropenQ18 (x:ropenT.γ):=decide (0+1≤(ropenQ17 x).length)
abbrev ropenQ19 (x19:TabI):=@HAppend.hAppend (List SessionD) (List SessionD) (List SessionD) _ ropenQ9 (ropenQ16 x19)
abbrev ropenQ20 (x:ropenT.γ):=List.take 1 (List.drop 0 (ropenQ17 x))
abbrev ropenQ21 (x19:TabI):=cutN x19.l.length (Option.some (1:Int)) (none:Option Int)
abbrev ropenQ22 (x19:TabI):=0+(List.take (ropenQ21 x19) (List.drop ropenQ14 x19.l)).length
abbrev ropenQ23 (x19:TabI):=@HAppend.hAppend (List SessionD) (List SessionD) (List SessionD) _ ropenQ9 (List.take (ropenQ21 x19) (List.drop ropenQ14 x19.l))
theorem ropen_vc (x:ropenT.γ):evCall ropenE (ev ropenE 1000) 158 (ropenT.args x) ⟨ropenT.blks x,ropenT.n0,[]⟩ (fun _ _=>False) (ropenT.ends x)=(
(∃x1:Nat,(0:Int)=(↑x1:Int)∧
ropenQ1 x1 x)∧
∀x6:Nat,ropenQ1 x6 x→
(OpenA.l x).length*112≤room47→
br (decide ((↑x6:Int)<(↑(OpenA.l x).length:Int))) (br (ropenQ2 x6 x) (br (decide (0+(↑x6:Int).toNat<(OpenA.l x).length)) (br ((ropenQ3 x x6).name==OpenA.name x) (br (ropenQ2 x6 x) (br (decide (0+(↑x6:Int).toNat<(OpenA.l x).length)) (∃x11:TabI,(↑x6:Int)=x11.n∧
EqT (OpenA.size x) x11.size (OpenA.l x) x11.l ((decide ((0:Int)≤x11.n∧
x11.n<(↑x11.l.length:Int))=true∧
decide (x11.l.length≤1024)=true)∧
∀x12:Unit,True→
∃x13:Unit,(ropenQ3 x x6).id=(openL x).1∧
EqT x11.size (OpenA.size x) (usedL x11.l x11.n) (openL x).2 True)) (Bad "check" "ref.go:79")) (Bad "check" "ref.go:79")) (∃x14:Nat,IntKind.wrap IntKind.i64 ((↑x6:Int)+(1:Int))=(↑x14:Int)∧
ropenQ1 x14 x∧
Nat.sub (OpenA.l x).length x14<Nat.sub (OpenA.l x).length x6)) (Bad "check" "ref.go:78")) (Bad "check" "ref.go:78")) (∃x19:TabI,OpenA.id x=x19.n∧
EqT (OpenA.size x) x19.size (OpenA.l x) x19.l (True∧
∀x20:Unit,True→
br (decide (@GE.ge Int _ (idxF (idIs x19.n) x19.l) (0:Int))) (br (bndB x19.l.length (none:Option Int) (Option.some (idxF (idIs x19.n) x19.l)) (none:Option Int)) (Nat.le (0*112) room47∧
Nat.le (ropenQ4 x19*112) room47→
br (Bool.and (Bool.and (decide (addN 0 (none:Option Int)+ropenQ4 x19≤x19.l.length)) ropenQ5) (decide ((0+(ropenQ6 x19).length)*112≤room47))) (br (bndB x19.l.length (ropenQ7 x19) (none:Option Int) (none:Option Int)) (Nat.le ((0+(ropenQ6 x19).length)*112) room47∧
Nat.le (ropenQ8 x19*112) room47→
br (Bool.and (Bool.and (decide (addN 0 (ropenQ7 x19)+ropenQ8 x19≤x19.l.length)) (decide (0+(0+(ropenQ6 x19).length)≤(ropenQ10 x19).length))) (decide (ropenQ12 x19*112≤room47))) (ropenQ12 x19*112≤room47→
br (decide (@GE.ge Int _ (↑(ropenQ12 x19):Int) x19.size)) (br (bndB (ropenQ12 x19) (Option.some (1:Int)) (none:Option Int) (none:Option Int)) (Nat.le (0*112) room47∧
Nat.le (ropenQ13 x19*112) room47→
br (Bool.and (Bool.and (decide (ropenQ14+ropenQ13 x19≤(ropenQ15 x19).length)) ropenQ5) (decide ((0+(ropenQ16 x19).length)*112≤room47))) (Nat.le ((0+(ropenQ16 x19).length)*112) room47∧
Nat.le (1*112) room47→
br (Bool.and (Bool.and (ropenQ18 x) (decide (0+(0+(ropenQ16 x19).length)≤(ropenQ19 x19).length))) (decide ((0+(ropenQ16 x19).length+(ropenQ20 x).length)*112≤room47))) (∃x21:Unit,OpenA.id x=(openL x).1∧
x19.size=OpenA.size x∧
0=0∧
0+(ropenQ16 x19).length+(ropenQ20 x).length=(openL x).2.length∧
@HAppend.hAppend (List SessionD) (List SessionD) (List SessionD) _ (List.take (0+(ropenQ16 x19).length) (List.drop 0 (ropenQ19 x19))) (ropenQ20 x)=(openL x).2∧
True) (Bad "check" "ref.go:92")) (Bad "check" "ref.go:90")) (Bad "check" "ref.go:90")) (Nat.le (ropenQ12 x19*112) room47∧
Nat.le (1*112) room47→
br (Bool.and (Bool.and (ropenQ18 x) (decide (0+ropenQ12 x19≤(ropenQ15 x19).length))) (decide ((ropenQ12 x19+(ropenQ20 x).length)*112≤room47))) (∃x22:Unit,OpenA.id x=(openL x).1∧
x19.size=OpenA.size x∧
0=0∧
ropenQ12 x19+(ropenQ20 x).length=(openL x).2.length∧
@HAppend.hAppend (List SessionD) (List SessionD) (List SessionD) _ (List.take (ropenQ12 x19) (List.drop 0 (ropenQ15 x19))) (ropenQ20 x)=(openL x).2∧
True) (Bad "check" "ref.go:92"))) (Bad "check" "ref.go:87")) (Bad "check" "ref.go:87")) (Bad "check" "ref.go:86")) (Bad "check" "ref.go:86")) (x19.l.length*112≤room47→
br (decide (@GE.ge Int _ (↑x19.l.length:Int) x19.size)) (br (bndB x19.l.length (Option.some (1:Int)) (none:Option Int) (none:Option Int)) (Nat.le (0*112) room47∧
Nat.le (ropenQ21 x19*112) room47→
br (Bool.and (Bool.and (decide (ropenQ14+ropenQ21 x19≤x19.l.length)) ropenQ5) (decide (ropenQ22 x19*112≤room47))) (Nat.le (ropenQ22 x19*112) room47∧
Nat.le (1*112) room47→
br (Bool.and (Bool.and (ropenQ18 x) (decide (0+ropenQ22 x19≤(ropenQ23 x19).length))) (decide ((ropenQ22 x19+(ropenQ20 x).length)*112≤room47))) (∃x23:Unit,OpenA.id x=(openL x).1∧
x19.size=OpenA.size x∧
0=0∧
ropenQ22 x19+(ropenQ20 x).length=(openL x).2.length∧
@HAppend.hAppend (List SessionD) (List SessionD) (List SessionD) _ (List.take (ropenQ22 x19) (List.drop 0 (ropenQ23 x19))) (ropenQ20 x)=(openL x).2∧
True) (Bad "check" "ref.go:92")) (Bad "check" "ref.go:90")) (Bad "check" "ref.go:90")) (Nat.le (x19.l.length*112) room47∧
Nat.le (1*112) room47→
br (Bool.and (Bool.and (ropenQ18 x) (decide (0+x19.l.length≤x19.l.length))) (decide ((x19.l.length+(ropenQ20 x).length)*112≤room47))) (∃x24:Unit,OpenA.id x=(openL x).1∧
x19.size=OpenA.size x∧
0=0∧
x19.l.length+(ropenQ20 x).length=(openL x).2.length∧
@HAppend.hAppend (List SessionD) (List SessionD) (List SessionD) _ (List.take x19.l.length (List.drop 0 x19.l)) (ropenQ20 x)=(openL x).2∧
True) (Bad "check" "ref.go:92")))))):=by kernel_rfl
abbrev raskQ1 (x:raskT.γ) (x4:TabI):=true=(askL x).1.2∧
EqT x4.size (AskA.size x) (usedL x4.l x4.n) (askL x).2 True
abbrev raskQ2 (x1:TabI):=List.getD x1.l (0+(idxF (idIs x1.n) x1.l).toNat) (SessionD.mk (0:Int) (0:Int) ([]:List UInt8) VerdictD.dflt)
theorem rask_vc (x:raskT.γ):evCall raskE (ev raskE 1000) 159 (raskT.args x) ⟨raskT.blks x,raskT.n0,[]⟩ (fun _ _=>False) (raskT.ends x)=(
∃x1:TabI,AskA.id x=x1.n∧
EqT (AskA.size x) x1.size (AskA.l x) x1.l (True∧
∀x2:Unit,True→
br (decide (idxF (idIs x1.n) x1.l<(0:Int))) (∃x3:Unit,EqV7 (6:Int) (0:Int) (0:Int) ([]:List UInt8) (0:Int) ([]:List CommitD) (0:Int) (askL x).1.1 (true=(askL x).1.2∧
EqT x1.size (AskA.size x) x1.l (askL x).2 True)) (br (decide ((0:Int)≤idxF (idIs x1.n) x1.l∧
idxF (idIs x1.n) x1.l<(↑x1.l.length:Int))) (br (decide (0+(idxF (idIs x1.n) x1.l).toNat<x1.l.length)) (∃x4:TabI,idxF (idIs x1.n) x1.l=x4.n∧
EqT x1.size x4.size x1.l x4.l ((decide ((0:Int)≤x4.n∧
x4.n<(↑x4.l.length:Int))=true∧
decide (x4.l.length≤1024)=true)∧
∀x5:Unit,True→
br (decide (AskA.seq x<(1:Int))) (∃x6:Unit,EqV7 (5:Int) (0:Int) (0:Int) ([]:List UInt8) (0:Int) ([]:List CommitD) (0:Int) (askL x).1.1 (raskQ1 x x4)) (br (decide (AskA.seq x<(raskQ2 x1).seq)) (∃x7:Unit,EqV7 (7:Int) (0:Int) (0:Int) ([]:List UInt8) (0:Int) ([]:List CommitD) (0:Int) (askL x).1.1 (raskQ1 x x4)) (br (AskA.seq x==(raskQ2 x1).seq) (∃x8:VerdictD,EqV (raskQ2 x1).last x8 (True∧
∀x9:Unit,True→
∃x10:Unit,EqV x8 (askL x).1.1 (raskQ1 x x4))) (∃x11:Unit,EqV7 (0:Int) (0:Int) (0:Int) ([]:List UInt8) (0:Int) ([]:List CommitD) (0:Int) (askL x).1.1 (false=(askL x).1.2∧
EqT x4.size (AskA.size x) (usedL x4.l x4.n) (askL x).2 True)))))) (Bad "check" "ref.go:102")) (Bad "check" "ref.go:102")))):=by kernel_rfl
abbrev rdoneQ1 (x:rdoneT.γ) (x1:TabI):=∃x3:Unit,false=(doneL x).1∧
EqT x1.size (DoneA.size x) x1.l (doneL x).2 True
abbrev rdoneQ2 (x1:TabI):=decide ((0:Int)≤idxF (idIs x1.n) x1.l∧
idxF (idIs x1.n) x1.l<(↑x1.l.length:Int))
abbrev rdoneQ3 (x1:TabI):=0+(idxF (idIs x1.n) x1.l).toNat
abbrev rdoneQ4  := SessionD.mk (0:Int) (0:Int) ([]:List UInt8) VerdictD.dflt
abbrev rdoneQ5 (x1:TabI):=List.getD x1.l (rdoneQ3 x1) rdoneQ4
abbrev rdoneQ6 (x1:TabI) (x:rdoneT.γ):=List.set x1.l (rdoneQ3 x1) (SessionD.mk (rdoneQ5 x1).id (DoneA.seq x) (rdoneQ5 x1).name (VerdictD.mk (rdoneQ5 x1).last.code (rdoneQ5 x1).last.session (rdoneQ5 x1).last.rev (rdoneQ5 x1).last.path (rdoneQ5 x1).last.digest (rdoneQ5 x1).last.commits (rdoneQ5 x1).last.member))
abbrev rdoneQ7 (x1:TabI) (x:rdoneT.γ):=List.getD (rdoneQ6 x1 x) (rdoneQ3 x1) rdoneQ4
theorem rdone_vc (x:rdoneT.γ):evCall raskE (ev raskE 1000) 161 (rdoneT.args x) ⟨rdoneT.blks x,rdoneT.n0,[]⟩ (fun _ _=>False) (rdoneT.ends x)=(
∃x1:TabI,DoneA.id x=x1.n∧
EqT (DoneA.size x) x1.size (DoneA.l x) x1.l (True∧
∀x2:Unit,True→
br (decide (idxF (idIs x1.n) x1.l<(0:Int))) (rdoneQ1 x x1) (br (rdoneQ2 x1) (br (decide (rdoneQ3 x1<x1.l.length)) (br (decide (DoneA.seq x≤(rdoneQ5 x1).seq)) (rdoneQ1 x x1) (br (rdoneQ2 x1) (br (Bool.and true (decide (rdoneQ3 x1<x1.l.length))) (∃x5:VerdictD,EqV (DoneA.v x) x5 (True∧
∀x6:Unit,True→
br (rdoneQ2 x1) (br (Bool.and true (decide (rdoneQ3 x1<(rdoneQ6 x1 x).length))) (∃x7:Unit,true=(doneL x).1∧
x1.size=DoneA.size x∧
0=0∧
x1.l.length=(doneL x).2.length∧
List.set (rdoneQ6 x1 x) (rdoneQ3 x1) (SessionD.mk (rdoneQ7 x1 x).id (rdoneQ7 x1 x).seq (rdoneQ7 x1 x).name (VerdictD.mk x5.code x5.session x5.rev x5.path x5.digest x5.commits x5.member))=(doneL x).2∧
True) (Bad "check" "ref.go:122")) (Bad "check" "ref.go:122"))) (Bad "check" "ref.go:121")) (Bad "check" "ref.go:121"))) (Bad "check" "ref.go:118")) (Bad "check" "ref.go:118")))):=by kernel_rfl
theorem ccom_ok:SpecOK Tryz.prog 157 ccomT.spec:=by
  refine Tri.ok (E:=noE) (Env_ok (by decide +kernel) (by simp)) (n:=1000) ccomT fun x hx=>?_
  rw [ccom_vc]
  delta ccomQ2 ccomQ1
  clear hx
  revert x
  intro (x:CommitD)
  try simp only [br_bad,decide_eq_true_eq,Bool.and_eq_true,List.take_zero,List.nil_append,List.drop_zero,Nat.zero_add,Int.toNat_natCast,Nat.sub_eq,true_and,and_true,exists_const,List.length_nil,Nat.zero_le,Nat.zero_mul,Nat.le_refl,List.length_set,List.take_length,Int.natCast_nonneg,forall_const,implies_true,Int.toNat_zero,Nat.le_eq,Int.le_refl,addN,cutN,loN,hiN,bndB,Option.getD,List.length_cons,List.take_succ_cons,List.length_take,List.length_drop,Option.isNone,Nat.add_zero,Nat.min_self]
  try simp only [br_iff,decide_eq_true_eq,decide_eq_false_iff_not,room47,Bool.not_eq_true',Bool.not_eq_false',gt_iff_lt]
  exact fun h=>h
theorem ccoms_ok:SpecOK Tryz.prog 141 ccomsT.spec:=by
  refine Tri.ok (E:=ccomsE) (Env_ok (by decide +kernel) (by simp [ccom_ok])) (n:=1000) ccomsT fun x hx=>?_
  rw [ccoms_vc]
  delta ccomsQ1 EqC
  clear hx
  revert x
  intro (x:List CommitD)
  try simp only [br_bad,decide_eq_true_eq,Bool.and_eq_true,List.take_zero,List.nil_append,List.drop_zero,Nat.zero_add,Int.toNat_natCast,Nat.sub_eq,true_and,and_true,exists_const,List.length_nil,Nat.zero_le,Nat.zero_mul,Nat.le_refl,List.length_set,List.take_length,Int.natCast_nonneg,forall_const,implies_true,Int.toNat_zero,Nat.le_eq,Int.le_refl,addN,cutN,loN,hiN,bndB,Option.getD,List.length_cons,List.take_succ_cons,List.length_take,List.length_drop,Option.isNone,Nat.add_zero,Nat.min_self]
  try simp only [br_iff,decide_eq_true_eq,decide_eq_false_iff_not,room47,Bool.not_eq_true',Bool.not_eq_false',gt_iff_lt]
  refine⟨⟨0,rfl,rfl,rfl,by omega⟩,fun i hi b=>⟨fun h=>⟨h,x.getD i _,rfl,rfl,rfl,rfl,fun _=>⟨⟨by omega,by omega⟩,i+1,by rw [wrap_id (by omega) (by omega)];rfl,rfl,?_,by omega,by omega⟩⟩,fun h=>⟨by omega,?_⟩⟩⟩
  · have hlt:i<x.length:=by omega
    rw [List.take_of_length_le (l:=x.take i) (by simp;omega)]
    have h2:x.take (i+1)=x.take i++[x[i]]:=by simp
    rw [h2]
    have h3:x.getD i ⟨0,0,[],[]⟩=x[i]:=by simp [hlt]
    rw [h3]
  · rw [List.take_of_length_le (l:=x.take i) (by simp;omega),List.take_of_length_le (by omega)]
theorem cver_ok:SpecOK Tryz.prog 100 cverT.spec:=by
  refine Tri.ok (E:=cverE) (Env_ok (by decide +kernel) (by simp [ccoms_ok])) (n:=1000) cverT fun x hx=>?_
  rw [cver_vc]
  delta EqV7
  clear hx
  revert x
  intro (x:VerdictD)
  try simp only [br_bad,decide_eq_true_eq,Bool.and_eq_true,List.take_zero,List.nil_append,List.drop_zero,Nat.zero_add,Int.toNat_natCast,Nat.sub_eq,true_and,and_true,exists_const,List.length_nil,Nat.zero_le,Nat.zero_mul,Nat.le_refl,List.length_set,List.take_length,Int.natCast_nonneg,forall_const,implies_true,Int.toNat_zero,Nat.le_eq,Int.le_refl,addN,cutN,loN,hiN,bndB,Option.getD,List.length_cons,List.take_succ_cons,List.length_take,List.length_drop,Option.isNone,Nat.add_zero,Nat.min_self]
  try simp only [br_iff,decide_eq_true_eq,decide_eq_false_iff_not,room47,Bool.not_eq_true',Bool.not_eq_false',gt_iff_lt]
  exact⟨_,rfl,rfl⟩
theorem cses_ok:SpecOK Tryz.prog 179 csesT.spec:=by
  refine Tri.ok (E:=csesE) (Env_ok (by decide +kernel) (by simp [cver_ok])) (n:=1000) csesT fun x hx=>?_
  rw [cses_vc]
  delta EqV
  clear hx
  revert x
  intro (x:SessionD)
  try simp only [br_bad,decide_eq_true_eq,Bool.and_eq_true,List.take_zero,List.nil_append,List.drop_zero,Nat.zero_add,Int.toNat_natCast,Nat.sub_eq,true_and,and_true,exists_const,List.length_nil,Nat.zero_le,Nat.zero_mul,Nat.le_refl,List.length_set,List.take_length,Int.natCast_nonneg,forall_const,implies_true,Int.toNat_zero,Nat.le_eq,Int.le_refl,addN,cutN,loN,hiN,bndB,Option.getD,List.length_cons,List.take_succ_cons,List.length_take,List.length_drop,Option.isNone,Nat.add_zero,Nat.min_self]
  try simp only [br_iff,decide_eq_true_eq,decide_eq_false_iff_not,room47,Bool.not_eq_true',Bool.not_eq_false',gt_iff_lt]
  exact⟨x.last,rfl,rfl,rfl,rfl,rfl,rfl,rfl,rfl,rfl,rfl,rfl,rfl,rfl,rfl⟩
theorem rfind_ok:SpecOK Tryz.prog 209 rfindT.spec:=by
  refine Tri.ok (E:=rfindE) (Env_ok (by decide +kernel) (by simp)) (n:=1000) rfindT fun x hx=>?_
  rw [rfind_vc]
  delta rfindQ2 rfindQ1 EqT
  try simp only [br_bad,decide_eq_true_eq,Bool.and_eq_true,List.take_zero,List.nil_append,List.drop_zero,Nat.zero_add,Int.toNat_natCast,Nat.sub_eq,true_and,and_true,exists_const,List.length_nil,Nat.zero_le,Nat.zero_mul,Nat.le_refl,List.length_set,List.take_length,Int.natCast_nonneg,forall_const,implies_true,Int.toNat_zero,Nat.le_eq,Int.le_refl,addN,cutN,loN,hiN,bndB,Option.getD,List.length_cons,List.take_succ_cons,List.length_take,List.length_drop,Option.isNone,Nat.add_zero,Nat.min_self]
  try simp only [br_iff,decide_eq_true_eq,decide_eq_false_iff_not,room47,Bool.not_eq_true',Bool.not_eq_false',gt_iff_lt]
  obtain⟨size,l,n⟩:=x
  dsimp only
  refine⟨⟨0,rfl,by omega,by omega⟩,fun i ⟨h2,h3⟩ h1=>⟨fun h4=>⟨h4,by omega,fun h5=>?_,fun h5=>⟨i+1,?_,⟨by omega,?_⟩,by omega⟩⟩,fun h4=>(idxF_no fun j x hj=>h3 j x ?_ hj).symm⟩⟩
  · have:i<l.length:=by omega
    refine (idxF_at (i:=i) (x:=l[i]) (by simp) ?_ h3).symm
    simpa [this,idIs,nameIs] using h5
  · rw [wrap_id (by omega) (by omega)];rfl
  · intro j x hj hx
    have hlt:i<l.length:=by omega
    by_cases e:j=i
    · subst e
      simp only [hlt,List.getElem?_eq_getElem,Option.some.injEq] at hx
      subst hx
      simpa [hlt,idIs,nameIs] using h5
    · exact h3 j x (by omega) hx
  · have:=(List.getElem?_eq_some_iff.1 hj).1
    omega
theorem rlast_ok:SpecOK Tryz.prog 208 rlastT.spec:=by
  refine Tri.ok (E:=noE) (Env_ok (by decide +kernel) (by simp)) (n:=1000) rlastT fun x hx=>?_
  rw [rlast_vc]
  delta rlastQ11 rlastQ10 rlastQ9 rlastQ8 rlastQ7 rlastQ6 rlastQ5 rlastQ4 rlastQ3 rlastQ2 rlastQ1
  try simp only [br_bad,decide_eq_true_eq,Bool.and_eq_true,List.take_zero,List.nil_append,List.drop_zero,Nat.zero_add,Int.toNat_natCast,Nat.sub_eq,true_and,and_true,exists_const,List.length_nil,Nat.zero_le,Nat.zero_mul,Nat.le_refl,List.length_set,List.take_length,Int.natCast_nonneg,forall_const,implies_true,Int.toNat_zero,Nat.le_eq,Int.le_refl,addN,cutN,loN,hiN,bndB,Option.getD,List.length_cons,List.take_succ_cons,List.length_take,List.length_drop,Option.isNone,Nat.add_zero,Nat.min_self]
  try simp only [br_iff,decide_eq_true_eq,decide_eq_false_iff_not,room47,Bool.not_eq_true',Bool.not_eq_false',gt_iff_lt]
  obtain⟨size,l,n⟩:=x
  have hx:decide (0≤n∧n<l.length)=true∧decide (l.length≤1024)=true:=hx
  have h0:=of_decide_eq_true hx.1
  have h1:=of_decide_eq_true hx.2
  dsimp only
  rw [wrap_id (by omega) (by omega),show (n+1).toNat=n.toNat+1 by omega,show min n.toNat l.length=n.toNat by omega]
  refine⟨h0,by omega,⟨by omega,by omega⟩,fun _=>⟨⟨by omega,by omega⟩,⟨by omega,by omega⟩,fun _=>⟨⟨by omega,by omega⟩,fun _=>⟨⟨by simp;omega,by omega⟩,?_,?_⟩⟩⟩⟩
  · rw [usedL_length h0];omega
  · have e1:List.take (l.length-(n.toNat+1)) (List.drop (n.toNat+1) l)=List.drop (n.toNat+1) l:=List.take_of_length_le (by simp)
    have e2:List.take n.toNat (List.take n.toNat l)=List.take n.toNat l:=List.take_of_length_le (by simp;omega)
    rw [e1,e2,List.take_of_length_le (by simp;omega)]
    rfl
theorem ropen_ok:SpecOK Tryz.prog 158 ropenT.spec:=by
  refine Tri.ok (E:=ropenE) (Env_ok (by decide +kernel) (by simp [rfind_ok,rlast_ok])) (n:=1000) ropenT fun x hx=>?_
  rw [ropen_vc]
  delta ropenQ23 ropenQ22 ropenQ21 ropenQ20 ropenQ19 ropenQ18 ropenQ17 ropenQ16 ropenQ15 ropenQ14 ropenQ13 ropenQ12 ropenQ11 ropenQ10 ropenQ9 ropenQ8 ropenQ7 ropenQ6 ropenQ5 ropenQ4 ropenQ3 ropenQ2 ropenQ1 EqT
  try simp only [br_bad,decide_eq_true_eq,Bool.and_eq_true,List.take_zero,List.nil_append,List.drop_zero,Nat.zero_add,Int.toNat_natCast,Nat.sub_eq,true_and,and_true,exists_const,List.length_nil,Nat.zero_le,Nat.zero_mul,Nat.le_refl,List.length_set,List.take_length,Int.natCast_nonneg,forall_const,implies_true,Int.toNat_zero,Nat.le_eq,Int.le_refl,addN,cutN,loN,hiN,bndB,Option.getD,List.length_cons,List.take_succ_cons,List.length_take,List.length_drop,Option.isNone,Nat.add_zero,Nat.min_self]
  try simp only [br_iff,decide_eq_true_eq,decide_eq_false_iff_not,room47,Bool.not_eq_true',Bool.not_eq_false',gt_iff_lt]
  obtain⟨size,l,name,id⟩:=x
  have hx:decide (0<size)=true∧decide (l.length≤1024)=true∧decide ((l.length:Int)≤size)=true:=hx
  have h0:=of_decide_eq_true hx.1
  have h1:=of_decide_eq_true hx.2.1
  have h2:=of_decide_eq_true hx.2.2
  have b2:=idxF_lt (idIs id) l
  dsimp only
  refine⟨⟨0,rfl,by omega,by omega⟩,fun i ⟨hi,hn⟩ _=>⟨fun h4=>⟨h4,by omega,fun h5=>⟨h4,by omega,⟨size,l,i⟩,rfl,rfl,rfl,rfl,⟨⟨by dsimp only;omega,by dsimp only;omega⟩,by dsimp only;omega⟩,?_⟩,fun h5=>⟨i+1,?_,⟨by omega,?_⟩,by omega⟩⟩,fun h4=>⟨⟨size,l,id⟩,rfl,rfl,rfl,rfl,fun hj=>?_,fun hj _=>⟨fun h6=>?_,fun h6 _=>?_⟩⟩⟩⟩<;>try dsimp only at *
  · have hlt:i<l.length:=by omega
    have hidx:idxF (nameIs name) l=(i:Int):=idxF_at (i:=i) (x:=l[i]) (by simp) (by simpa [hlt,nameIs] using h5) hn
    have ho:openL ⟨size,l,name,id⟩=((atL l (i:Int)).id,usedL l (i:Int)):=by
      unfold openL
      dsimp only
      rw [hidx,show decide ((i:Int)<0)=false by simp,cond_false]
    rw [ho]
    exact⟨rfl,rfl,rfl,rfl⟩
  · rw [wrap_id (by omega) (by omega)];rfl
  · intro j x hj hx
    have hlt:i<l.length:=by omega
    by_cases e:j=i
    · subst e
      simp only [hlt,List.getElem?_eq_getElem,Option.some.injEq] at hx
      subst hx
      simpa [hlt,nameIs] using h5
    · exact hn j x (by omega) hx
  · have hidx:idxF (nameIs name) l = -1:=idxF_no fun j x hj=>hn j x (by have:=(List.getElem?_eq_some_iff.1 hj).1;omega) hj
    have e1:List.take (l.length-((idxF (idIs id) l).toNat+1)) (List.drop ((idxF (idIs id) l).toNat+1) l)=List.drop ((idxF (idIs id) l).toNat+1) l:=List.take_of_length_le (by simp)
    have e2:List.take (idxF (idIs id) l).toNat (List.take (idxF (idIs id) l).toNat l)=List.take (idxF (idIs id) l).toNat l:=List.take_of_length_le (by simp;omega)
    have e3:List.take (idxF (idIs id) l).toNat l++List.drop ((idxF (idIs id) l).toNat+1) l=outL l (idxF (idIs id) l):=rfl
    have e4:=outL_length (l:=l) (i:=idxF (idIs id) l) (by omega)
    have ho:openL ⟨size,l,name,id⟩=(id,outL l (idxF (idIs id) l)++[⟨id,0,name,.dflt⟩]):=by
      unfold openL
      dsimp only
      rw [hidx,show decide ((-1:Int)<0)=true by decide,cond_true,show decide (idxF (idIs id) l<0)=false by simp;omega,cond_false,e4,show decide (((l.length-1:Nat):Int)=size)=false by simp;omega,cond_false]
    rw [wrap_id (by omega) (by omega),show (idxF (idIs id) l+1).toNat=(idxF (idIs id) l).toNat+1 by omega,show min (idxF (idIs id) l).toNat l.length=(idxF (idIs id) l).toNat by omega,e1,e2,e3,ho,e4]
    refine⟨⟨by omega,by omega⟩,fun _=>⟨⟨by omega,by omega⟩,⟨by omega,by omega⟩,fun _=>⟨⟨by omega,by omega⟩,fun _=>⟨fun h6=>absurd h6 (by omega),fun _ _=>⟨⟨by omega,by omega⟩,rfl,rfl,by simp [e4];omega,?_⟩⟩⟩⟩⟩
    rw [List.take_of_length_le (by rw [e4];omega)]
    rfl
  · have hidx:idxF (nameIs name) l = -1:=idxF_no fun j x hj=>hn j x (by have:=(List.getElem?_eq_some_iff.1 hj).1;omega) hj
    have e4:=outL_length (l:=l) (i:=0) (by omega)
    have ho:openL ⟨size,l,name,id⟩=(id,outL l 0++[⟨id,0,name,.dflt⟩]):=by
      unfold openL
      dsimp only
      rw [hidx,show decide ((-1:Int)<0)=true by decide,cond_true,show decide (idxF (idIs id) l<0)=true by simp;omega,cond_true,show decide ((l.length:Int)=size)=true by simp;omega,cond_true]
    rw [ho]
    refine⟨⟨by omega,by omega⟩,fun _=>⟨⟨by simp;omega,by simp;omega⟩,fun _=>⟨by simp;omega,rfl,rfl,by simp [e4],?_⟩⟩⟩
    have e1:∀n,l.length-1≤n→List.take n (List.drop (Int.toNat 1) l)=List.drop 1 l:=fun n h=>List.take_of_length_le (by simpa using h)
    rw [e1 _ (by simp),List.take_of_length_le (by simp)]
    simp [outL,VerdictD.dflt]
  · have hidx:idxF (nameIs name) l = -1:=idxF_no fun j x hj=>hn j x (by have:=(List.getElem?_eq_some_iff.1 hj).1;omega) hj
    have ho:openL ⟨size,l,name,id⟩=(id,l++[⟨id,0,name,.dflt⟩]):=by
      unfold openL
      dsimp only
      rw [hidx,show decide ((-1:Int)<0)=true by decide,cond_true,show decide (idxF (idIs id) l<0)=true by simp;omega,cond_true,show decide ((l.length:Int)=size)=false by simp;omega,cond_false]
    rw [ho]
    exact⟨by omega,rfl,rfl,by simp,rfl⟩
theorem rask_ok:SpecOK Tryz.prog 159 raskT.spec:=by
  refine Tri.ok (E:=raskE) (Env_ok (by decide +kernel) (by simp [rfind_ok,rlast_ok,cver_ok])) (n:=1000) raskT fun x hx=>?_
  rw [rask_vc]
  delta raskQ2 raskQ1 EqT EqV EqV7
  try simp only [br_bad,decide_eq_true_eq,Bool.and_eq_true,List.take_zero,List.nil_append,List.drop_zero,Nat.zero_add,Int.toNat_natCast,Nat.sub_eq,true_and,and_true,exists_const,List.length_nil,Nat.zero_le,Nat.zero_mul,Nat.le_refl,List.length_set,List.take_length,Int.natCast_nonneg,forall_const,implies_true,Int.toNat_zero,Nat.le_eq,Int.le_refl,addN,cutN,loN,hiN,bndB,Option.getD,List.length_cons,List.take_succ_cons,List.length_take,List.length_drop,Option.isNone,Nat.add_zero,Nat.min_self]
  try simp only [br_iff,decide_eq_true_eq,decide_eq_false_iff_not,room47,Bool.not_eq_true',Bool.not_eq_false',gt_iff_lt]
  obtain⟨size,l,id,seq⟩:=x
  have hx:decide (l.length≤1024)=true:=hx
  have h1:=of_decide_eq_true hx
  have b1:=idxF_lt (idIs id) l
  dsimp only
  refine⟨⟨size,l,id⟩,rfl,rfl,rfl,rfl,fun hi=>?_,fun hi=>⟨by dsimp only at *;omega,by dsimp only at *;omega,⟨size,l,_⟩,rfl,rfl,rfl,rfl,by dsimp only at *;omega,fun h2=>?_,fun h2=>⟨fun h3=>?_,fun h3=>⟨fun h4=>⟨(atL l (idxF (idIs id) l)).last,rfl,rfl,rfl,rfl,rfl,rfl,rfl,?_⟩,fun h4=>?_⟩⟩⟩⟩<;>try dsimp only at *
  · simp [askL,hi,vd]
  · simp [askL,hi,h2,vd]
  · have h3:seq<(atL l (idxF (idIs id) l)).seq:=h3
    simp [askL,hi,h2,h3,vd]
  · simp only [beq_iff_eq] at h4
    have h4:seq=(atL l (idxF (idIs id) l)).seq:=h4
    simp [askL,hi,h2,←h4,vd]
  · simp only [beq_eq_false_iff_ne,ne_eq] at h4
    have h4:¬seq=(atL l (idxF (idIs id) l)).seq:=h4
    have h3:¬seq<(atL l (idxF (idIs id) l)).seq:=h3
    simp [askL,hi,h2,h3,h4,vd]
theorem rdone_ok:SpecOK Tryz.prog 161 rdoneT.spec:=by
  refine Tri.ok (E:=raskE) (Env_ok (by decide +kernel) (by simp [rfind_ok,rlast_ok,cver_ok])) (n:=1000) rdoneT fun x hx=>?_
  rw [rdone_vc]
  delta rdoneQ7 rdoneQ6 rdoneQ5 rdoneQ4 rdoneQ3 rdoneQ2 rdoneQ1 EqT EqV
  try simp only [br_bad,decide_eq_true_eq,Bool.and_eq_true,List.take_zero,List.nil_append,List.drop_zero,Nat.zero_add,Int.toNat_natCast,Nat.sub_eq,true_and,and_true,exists_const,List.length_nil,Nat.zero_le,Nat.zero_mul,Nat.le_refl,List.length_set,List.take_length,Int.natCast_nonneg,forall_const,implies_true,Int.toNat_zero,Nat.le_eq,Int.le_refl,addN,cutN,loN,hiN,bndB,Option.getD,List.length_cons,List.take_succ_cons,List.length_take,List.length_drop,Option.isNone,Nat.add_zero,Nat.min_self]
  try simp only [br_iff,decide_eq_true_eq,decide_eq_false_iff_not,room47,Bool.not_eq_true',Bool.not_eq_false',gt_iff_lt]
  obtain⟨size,l,id,seq,v⟩:=x
  have b1:=idxF_lt (idIs id) l
  dsimp only
  refine⟨⟨size,l,id⟩,rfl,rfl,rfl,rfl,fun hi=>?_,fun hi=>⟨by dsimp only at *;omega,by dsimp only at *;omega,fun h2=>?_,fun h2=>⟨by dsimp only at *;omega,by dsimp only at *;omega,v,rfl,rfl,rfl,rfl,rfl,rfl,rfl,by dsimp only at *;omega,by dsimp only at *;omega,?_⟩⟩⟩<;>try dsimp only at *
  · simp [doneL,hi]
  · have h2:seq≤(atL l (idxF (idIs id) l)).seq:=h2
    simp [doneL,hi,h2]
  · have h2:¬seq≤(atL l (idxF (idIs id) l)).seq:=h2
    have hi':(idxF (idIs id) l).toNat<l.length:=by omega
    simp only [doneL,hi,h2,decide_false,Bool.or_false,cond_false,List.length_set,true_and]
    simp [hi',atL]
end Go.Proofs.YtgepebndihfnfaaGreat.Ses
