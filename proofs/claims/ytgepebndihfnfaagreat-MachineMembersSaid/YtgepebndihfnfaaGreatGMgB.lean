/- Numbers sorted, each once; the sessions of the reference. No condition. -/
import Derived.Test.YtgepebndihfnfaaGreatGMgA
import Derived.Shelf.SortM.Plain
import Derived.Shelf.Slices.CompactI
import Derived.Lib.SlicesCompact
import Derived.KernelRfl
set_option linter.unusedSimpArgs false
set_option linter.unusedVariables false

namespace Go.Proofs.YtgepebndihfnfaaGreat.Ses
open Go Go.Proofs Go.Proofs.YtgepebndihfnfaaGreat.Sx
open Go.Shelf
def refU_ren : Go.Shelf.Ren := ⟨fun | 20 => 165 | n => n, fun | 22 => 30 | 3 => 3 | 4 => 4 | 0 => 0 | n => n, fun | n => n⟩
theorem refU : Go.Proofs.Lays2.n20 Tryz.prog refU_ren where
  mixed := by kernel_rfl
  f20 := Tryz.func165.trans (congrArg some (by kernel_rfl))
  t0 := Tryz.underlying0
  a0 := Tryz.isAgg0
  z0 := Tryz.sizeOf0
  v0 := Tryz.zeroValue0
  t3 := Tryz.underlying3
  a3 := Tryz.isAgg3
  z3 := Tryz.sizeOf3
  v3 := Tryz.zeroValue3
  t4 := Tryz.underlying4
  a4 := Tryz.isAgg4
  z4 := Tryz.sizeOf4
  v4 := Tryz.zeroValue4
  t22 := Tryz.underlying30
  a22 := Tryz.isAgg30
  z22 := Tryz.sizeOf30
  v22 := Tryz.zeroValue30
  i3 := by kernel_rfl
def refO_ren : Go.Shelf.Ren := ⟨fun | 5 => 164 | 8 => 213 | 7 => 212 | 19 => 250 | 20 => 251 | 10 => 241 | 11 => 242 | 12 => 243 | 13 => 244 | 14 => 245 | 15 => 246 | 16 => 247 | 17 => 248 | 18 => 249 | 30 => 262 | 31 => 263 | 32 => 264 | 33 => 265 | 34 => 266 | 35 => 267 | 40 => 286 | n => n, fun | 23 => 30 | 25 => 3 | 3 => 3 | 32 => 238 | 22 => 30 | 0 => 0 | 44 => 261 | 46 => 35 | 4 => 4 | 36 => 254 | 35 => 253 | 41 => 221 | 5 => 5 | 9 => 9 | 53 => 272 | 57 => 276 | 63 => 291 | 64 => 292 | n => n, fun | n => n⟩
theorem refO : Go.Proofs.SlLaysM.n5 Tryz.prog refO_ren where
  mixed := by kernel_rfl
  f5 := ⟨"slices.Sort[[]int,int]", by decide, Tryz.func164.trans (congrArg some (by kernel_rfl))⟩
  f7 := ⟨"slices.pdqsortOrdered[int]", by decide, Tryz.func212.trans (congrArg some (by kernel_rfl))⟩
  f8 := Tryz.func213.trans (congrArg some (by kernel_rfl))
  f10 := ⟨"slices.insertionSortOrdered[int]", by decide, Tryz.func241.trans (congrArg some (by kernel_rfl))⟩
  f11 := ⟨"slices.heapSortOrdered[int]", by decide, Tryz.func242.trans (congrArg some (by kernel_rfl))⟩
  f12 := ⟨"slices.breakPatternsOrdered[int]", by decide, Tryz.func243.trans (congrArg some (by kernel_rfl))⟩
  f13 := ⟨"slices.choosePivotOrdered[int]", by decide, Tryz.func244.trans (congrArg some (by kernel_rfl))⟩
  f14 := ⟨"slices.reverseRangeOrdered[int]", by decide, Tryz.func245.trans (congrArg some (by kernel_rfl))⟩
  f15 := ⟨"slices.partialInsertionSortOrdered[int]", by decide, Tryz.func246.trans (congrArg some (by kernel_rfl))⟩
  f16 := ⟨"cmp.Less[int]", by decide, Tryz.func247.trans (congrArg some (by kernel_rfl))⟩
  f17 := ⟨"slices.partitionEqualOrdered[int]", by decide, Tryz.func248.trans (congrArg some (by kernel_rfl))⟩
  f18 := ⟨"slices.partitionOrdered[int]", by decide, Tryz.func249.trans (congrArg some (by kernel_rfl))⟩
  f19 := Tryz.func250.trans (congrArg some (by kernel_rfl))
  f20 := Tryz.func251.trans (congrArg some (by kernel_rfl))
  f30 := ⟨"slices.siftDownOrdered[int]", by decide, Tryz.func262.trans (congrArg some (by kernel_rfl))⟩
  f31 := Tryz.func263.trans (congrArg some (by kernel_rfl))
  f32 := Tryz.func264.trans (congrArg some (by kernel_rfl))
  f33 := ⟨"slices.medianAdjacentOrdered[int]", by decide, Tryz.func265.trans (congrArg some (by kernel_rfl))⟩
  f34 := ⟨"slices.medianOrdered[int]", by decide, Tryz.func266.trans (congrArg some (by kernel_rfl))⟩
  f35 := ⟨"cmp.isNaN[int]", by decide, Tryz.func267.trans (congrArg some (by kernel_rfl))⟩
  f40 := ⟨"slices.order2Ordered[int]", by decide, Tryz.func286.trans (congrArg some (by kernel_rfl))⟩
  t0 := Tryz.underlying0
  a0 := Tryz.isAgg0
  z0 := Tryz.sizeOf0
  v0 := Tryz.zeroValue0
  t3 := Tryz.underlying3
  a3 := Tryz.isAgg3
  z3 := Tryz.sizeOf3
  v3 := Tryz.zeroValue3
  t4 := Tryz.underlying4
  a4 := Tryz.isAgg4
  z4 := Tryz.sizeOf4
  v4 := Tryz.zeroValue4
  t5 := Tryz.underlying5
  a5 := Tryz.isAgg5
  z5 := Tryz.sizeOf5
  v5 := Tryz.zeroValue5
  t9 := Tryz.underlying9
  a9 := Tryz.isAgg9
  z9 := Tryz.sizeOf9
  v9 := Tryz.zeroValue9
  t22 := Tryz.underlying30
  a22 := Tryz.isAgg30
  z22 := Tryz.sizeOf30
  v22 := Tryz.zeroValue30
  t23 := Tryz.underlying30
  a23 := Tryz.isAgg30
  z23 := Tryz.sizeOf30
  v23 := Tryz.zeroValue30
  t25 := Tryz.underlying3
  a25 := Tryz.isAgg3
  z25 := Tryz.sizeOf3
  v25 := Tryz.zeroValue3
  t32 := Tryz.underlying238
  a32 := Tryz.isAgg238
  z32 := Tryz.sizeOf238
  v32 := Tryz.zeroValue238
  t35 := Tryz.underlying253
  a35 := Tryz.isAgg253
  z35 := Tryz.sizeOf253
  v35 := Tryz.zeroValue253
  t36 := Tryz.underlying254
  a36 := Tryz.isAgg254
  z36 := Tryz.sizeOf254
  v36 := Tryz.zeroValue254
  t41 := Tryz.underlying221
  a41 := Tryz.isAgg221
  z41 := Tryz.sizeOf221
  v41 := Tryz.zeroValue221
  t44 := Tryz.underlying261
  a44 := Tryz.isAgg261
  z44 := Tryz.sizeOf261
  v44 := Tryz.zeroValue261
  t46 := Tryz.underlying35
  a46 := Tryz.isAgg35
  z46 := Tryz.sizeOf35
  v46 := Tryz.zeroValue35
  t53 := Tryz.underlying272
  a53 := Tryz.isAgg272
  z53 := Tryz.sizeOf272
  v53 := Tryz.zeroValue272
  t57 := Tryz.underlying276
  a57 := Tryz.isAgg276
  z57 := Tryz.sizeOf276
  v57 := Tryz.zeroValue276
  t63 := Tryz.underlying291
  a63 := Tryz.isAgg291
  z63 := Tryz.sizeOf291
  v63 := Tryz.zeroValue291
  t64 := Tryz.underlying292
  a64 := Tryz.isAgg292
  z64 := Tryz.sizeOf292
  v64 := Tryz.zeroValue292
end Go.Proofs.YtgepebndihfnfaaGreat.Ses

namespace Go.Proofs.YtgepebndihfnfaaGreat.Ses
open Go
theorem ups_eq : ∀ {a b : List Int}, a.Pairwise (· < ·) → b.Pairwise (· < ·) → (∀ n, n ∈ a ↔ n ∈ b) → a = b
  | [], [], _, _, _ => rfl
  | [], y :: r, _, _, h => absurd ((h y).2 (by simp)) (by simp)
  | x :: r, [], _, _, h => absurd ((h x).1 (by simp)) (by simp)
  | x :: r, y :: s, ha, hb, h => by
    obtain ⟨a1, a2⟩ := List.pairwise_cons.1 ha
    obtain ⟨b1, b2⟩ := List.pairwise_cons.1 hb
    have e : x = y := by
      rcases List.mem_cons.1 ((h x).1 (by simp)) with e | e
      · exact e
      · rcases List.mem_cons.1 ((h y).2 (by simp)) with e2 | e2
        · exact e2.symm
        · have := a1 y e2; have := b1 x e; omega
    subst e
    congr 1
    refine ups_eq a2 b2 fun n => ⟨fun hn => ?_, fun hn => ?_⟩
    · rcases List.mem_cons.1 ((h n).1 (List.mem_cons_of_mem _ hn)) with e | e
      · subst e; have := a1 n hn; omega
      · exact e
    · rcases List.mem_cons.1 ((h n).2 (List.mem_cons_of_mem _ hn)) with e | e
      · subst e; have := b1 n hn; omega
      · exact e
theorem upto_sorted (zs : List Int) (h : zs.Pairwise (· ≤ ·)) : ∀ m, m ≤ zs.length → (Lib.compactUpTo zs.toArray m).Pairwise (· < ·) ∧ ∀ n, n ∈ Lib.compactUpTo zs.toArray m ↔ ∃ j, j < m ∧ zs[j]? = some n
  | 0, _ => ⟨List.Pairwise.nil, fun n => ⟨fun h => by simp [Lib.compactUpTo] at h, fun ⟨j, hj, _⟩ => absurd hj (Nat.not_lt_zero _)⟩⟩
  | m + 1, hm => by
    obtain ⟨h1, h2⟩ := upto_sorted zs h m (by omega)
    have get : ∀ j (hj : j < zs.length), zs.toArray[j]! = zs[j] := fun j hj => by simp [hj]
    have le : ∀ i j (hi : i < zs.length) (hj : j < zs.length), i < j → zs[i] ≤ zs[j] := fun i j hi hj hij => List.pairwise_iff_getElem.1 h i j hi hj hij
    rw [Lib.compactUpTo_succ]
    cases hk : Lib.keeps zs.toArray m
    · rw [if_neg (by simp), List.append_nil]
      refine ⟨h1, fun n => ?_⟩
      have hk' : ¬ (m = 0 ∨ zs.toArray[m]! ≠ zs.toArray[m - 1]!) := by simpa [Lib.keeps] using hk
      have h0 : m ≠ 0 := fun e => hk' (.inl e)
      have he : zs.toArray[m]! = zs.toArray[m - 1]! := Decidable.byContradiction fun e => hk' (.inr e)
      rw [get m (by omega), get (m - 1) (by omega)] at he
      rw [h2]
      refine ⟨fun ⟨j, hj, e⟩ => ⟨j, by omega, e⟩, fun ⟨j, hj, e⟩ => ?_⟩
      by_cases q : j = m
      · subst q
        refine ⟨j - 1, by omega, ?_⟩
        rw [List.getElem?_eq_getElem (by omega)] at e ⊢
        rw [← he]; exact e
      · exact ⟨j, by omega, e⟩
    · rw [if_pos rfl]
      have hk' : m = 0 ∨ zs.toArray[m]! ≠ zs.toArray[m - 1]! := by simpa [Lib.keeps] using hk
      rw [get m (by omega)] at *
      refine ⟨?_, fun n => ?_⟩
      · rw [List.pairwise_append]
        refine ⟨h1, by simp, fun a ha b hb => ?_⟩
        obtain ⟨j, hj, e⟩ := (h2 a).1 ha
        have hb : b = zs[m] := by simpa using hb
        subst hb
        rw [List.getElem?_eq_getElem (by omega)] at e
        cases e
        rcases hk' with e | e
        · omega
        · rw [get (m - 1) (by omega)] at e
          have l1 := le (m - 1) m (by omega) (by omega) (by omega)
          rcases Nat.lt_or_ge j (m - 1) with q | q
          · have l2 := le j (m - 1) (by omega) (by omega) q
            omega
          · have : j = m - 1 := by omega
            subst this
            omega
      · rw [List.mem_append, h2]
        constructor
        · rintro (⟨j, hj, e⟩ | e)
          · exact ⟨j, by omega, e⟩
          · have e : n = zs[m] := by simpa using e
            exact ⟨m, by omega, by rw [List.getElem?_eq_getElem (by omega), e]⟩
        · rintro ⟨j, hj, e⟩
          by_cases q : j = m
          · subst q
            rw [List.getElem?_eq_getElem (by omega)] at e
            cases e
            exact .inr (by simp)
          · exact .inl ⟨j, by omega, e⟩
theorem compact_sorted (zs : List Int) (h : zs.Pairwise (· ≤ ·)) : (Lib.compact zs).Pairwise (· < ·) ∧ ∀ n, n ∈ Lib.compact zs ↔ n ∈ zs := by
  obtain ⟨h1, h2⟩ := upto_sorted zs h zs.length (Nat.le_refl _)
  refine ⟨h1, fun n => ?_⟩
  show n ∈ Lib.compactUpTo zs.toArray zs.length ↔ _
  rw [h2]
  refine ⟨fun ⟨j, _, e⟩ => List.mem_of_getElem? e, fun hn => ?_⟩
  obtain ⟨j, e⟩ := List.getElem?_of_mem hn
  exact ⟨j, (List.getElem?_eq_some_iff.1 e).1, e⟩
theorem uniq_sort (zs : List Int) : (Lib.compact (zs.mergeSort fun x y => decide (x ≤ y))).Pairwise (· < ·) ∧ ∀ n, n ∈ Lib.compact (zs.mergeSort fun x y => decide (x ≤ y)) ↔ n ∈ zs := by
  have hs : (zs.mergeSort fun x y => decide (x ≤ y)).Pairwise (· ≤ ·) := by
    have := List.pairwise_mergeSort (le := fun (x y : Int) => decide (x ≤ y)) (fun a b c h1 h2 => by simp at *; omega) (fun a b => by simp; omega) zs
    exact this.imp fun h => by simpa using h
  obtain ⟨h1, h2⟩ := compact_sorted _ hs
  exact ⟨h1, fun n => by rw [h2]; exact List.mem_mergeSort⟩
end Go.Proofs.YtgepebndihfnfaaGreat.Ses

namespace Go.Proofs.YtgepebndihfnfaaGreat.Sx
open Go Go.Sort
theorem sorted_heap {w : World} {b off k : Nat} {d : Array Int} {os : Array Obj} {c : Array Value} {T : TypeId} (hc : w.heap[b]? = some (.cells c T (0, 0))) :
    (grow (putRow (Value.int .i64) (Sort.ahead w k) b off d) os).heap[b]? = some (.cells (putCells (Value.int .i64) off d c) T (0, 0)) := by
  have hg : b < w.heap.size := (Array.getElem?_eq_some_iff.1 hc).1
  rw [heap_grow_old _ _ (by simpa using hg)]
  simp [putRow, mapBlock, Sort.ahead, Array.getElem?_modify, hc, onCells]
theorem sorted_other {w : World} {b off k : Nat} {d : Array Int} {os : Array Obj} {b' : Nat} (h : b' < w.heap.size) (hne : b' ≠ b) :
    (grow (putRow (Value.int .i64) (Sort.ahead w k) b off d) os).heap[b']? = w.heap[b']? := by
  rw [heap_grow_old _ _ (by simpa using h)]
  have : b ≠ b' := fun e => hne e.symm
  simp [putRow, mapBlock, Sort.ahead, Array.getElem?_modify, this]
theorem putCells_at {off : Nat} {l : List Int} {c : Array Value} (hs : off + l.length ≤ c.size) {i : Nat} {x : Int} (hx : l[i]? = some x) : (putCells (Value.int .i64) off l.toArray c)[off + i]? = some (.int .i64 x) := by
  have hi : i < l.length := (List.getElem?_eq_some_iff.1 hx).1
  have e : l[i] = x := (List.getElem?_eq_some_iff.1 hx).2
  unfold putCells
  rw [Array.getElem?_mapIdx, Array.getElem?_eq_getElem (by omega)]
  simp only [Option.map_some, List.size_toArray]
  rw [if_pos (by omega), Nat.add_sub_cancel_left]
  simp [hi, e]
theorem putCells_size {off : Nat} {d : Array Int} {c : Array Value} : (putCells (Value.int .i64) off d c).size = c.size := by simp [putCells]
theorem Mem.sortRow {F : Fr} {g : Ctx} {m : MS} {w : World} (h : Mem F g m w) {n : Nat} {l : List Int} {r : Reg} (hn : m.blks.get n = some (.rows .int l)) (hr : g.β[n]? = some (some r)) {c : Array Value} {T : TypeId}
    (hc : w.heap[r.b]? = some (.cells c T (0, 0))) (hcs : c.size = r.base + r.sz) {l2 : List Int} (hl : l2.length ≤ r.sz) (hby : l2.length * 8 ≤ room47) {k : Nat} {os : Array Obj} :
    Mem F g { m with blks := m.blks.set n (.rows .int l2), log := n :: m.log } (Go.Sort.grow (putRow (Value.int .i64) (Sort.ahead w k) r.b r.base l2.toArray) os) := by
  have hlt : r.b < w.heap.size := (Array.getElem?_eq_some_iff.1 hc).1
  have h1 := h.write (k' := .rows .int l2) hn hr hc (c' := putCells (Value.int .i64) r.base l2.toArray c) putCells_size (by
    refine ⟨by show l2.length * 1 ≤ r.sz; omega, hby, fun i => [.int .i64 (l2.getD i 0)], fun i => rfl, fun i x hx => ?_, fun i hi j v hv => ?_⟩
    · have e : l2.getD i 0 = x := by simp [List.getD, hx]
      show RepL _ [.int .i64 x] [.int .i64 (l2.getD i 0)]
      rw [e]
      exact .cons (.int _ _) (RepL.nil _)
    · cases j with
      | succ j => simp at hv
      | zero =>
        simp at hv
        subst hv
        show (putBlk w r.b _ T).cell? ⟨r.b, r.base + (i * 1 + 0), none⟩ = _
        rw [cell?_of_blk (putBlk_get hlt), Nat.mul_one, Nat.add_zero, putCells_at (by omega) (x := l2[i]) (by simp [hi])]
        simp [List.getD, hi])
  refine h1.grow (fun b hb => ?_) ?_ rfl rfl
  · by_cases e : b = r.b
    · subst e
      rw [sorted_heap hc, putBlk_get hlt]
    · rw [putBlk_other e]
      have hb' : b < w.heap.size := by simpa [putBlk] using hb
      exact sorted_other hb' e
  · simp [putBlk, grow, Sort.ahead]
end Go.Proofs.YtgepebndihfnfaaGreat.Sx
namespace Go.Proofs.YtgepebndihfnfaaGreat.Ses
open Go Go.Proofs Go.Proofs.YtgepebndihfnfaaGreat.Sx Go.Shelf Go.Sort
def sortI (l : List Int) : List Int := l.mergeSort fun x y => decide (x ≤ y)
theorem sortI_len (l : List Int) : (sortI l).length = l.length := by simp [sortI]
theorem compact_len (l : List Int) : (Lib.compact l).length ≤ l.length := by
  unfold Lib.compact Lib.compactUpTo
  rw [List.length_map]
  refine Nat.le_trans (List.length_filter_le _ _) (by simp)
theorem holds_own {w : World} {b off : Nat} {c : Array Value} {T : TypeId} {l : List Int} (hb : w.heap[b]? = some (.cells c T (0, 0))) (hx : ∀ (i : Nat) x, l[i]? = some x → c[off + i]? = some (.int .i64 x)) : Holds (Value.int .i64) w b off l.toArray := by
  intro j hj
  have hj' : j < l.length := by simpa using hj
  refine ⟨?_, by simp [World.frozen?, hb]⟩
  rw [cell?_of_blk hb, hx j l[j] (by simp [hj'])]
  simp [hj']
def isortT : Tri := { γ := List Int, n0 := 1, args := fun l => [.mslice .int 0 0 l.length], blks := fun l => [(0, .rows .int l)], pre := fun l => 1 ≤ l.length ∧ l.length ≤ 1000000, δ := Unit, post := fun _ _ => True, n1 := 0, res := fun _ _ => .tuple [], blks' := fun l _ => [(0, .rows .int (sortI l))], scal := false }
theorem isort_ok : SpecOK Tryz.prog 164 isortT.spec := by
  refine Tri.ok' isortT fun l hx F g w vs hargs hm => ?_
  change List Int at l
  obtain ⟨p1, p2⟩ : 1 ≤ l.length ∧ l.length ≤ 1000000 := hx
  have hargs : RepL g [.mslice .int 0 0 l.length] vs := hargs
  obtain ⟨u0, _, rfl, r0, r⟩ := hargs.uncons
  rw [r.eq_nil]
  obtain ⟨q0, cap, c, T, hq0, rfl, hc1, hc2, hc3, hblk, hsz, hcell⟩ := ownInts (l := l) hm rfl r0 (by omega)
  have hc : Calls Tryz.prog 164 #[.slice (some ⟨q0.b, q0.base, none⟩) l.length cap] w _ :=
    AnyM.slices_Sort_int refO q0.b q0.base cap l w (holds_own hblk hcell) (Array.getElem?_eq_some_iff.1 hblk).1 (by omega)
  refine hc.mono ?_
  rintro e w' ⟨rfl, n, os, rfl⟩
  have hM := hm.sortRow (n := 0) (l := l) (r := q0) rfl hq0 hblk hsz (l2 := sortI l) (by rw [sortI_len]; omega) (by rw [sortI_len]; unfold room47; omega) (k := n) (os := os)
  refine ⟨g, ⟨[(0, .rows .int (sortI l))], 1, [0]⟩, .tuple [], ?_, Ctx.le.refl g, ⟨⟨[0], rfl, fun q hq hn => ?_⟩, Nat.le_refl _⟩, hM, .tuple [] [] rfl fun j sv v a => by simp at a⟩
  · have e : isortT.ends l (.tuple []) ⟨[(0, .rows .int (sortI l))], 1, [0]⟩ = (∃ x1 : Unit, ((sortI l) = (sortI l)) ∧ True) := by kernel_rfl
    show isortT.ends l (.tuple []) ⟨[(0, .rows .int (sortI l))], 1, [0]⟩
    rw [e]
    exact ⟨(), rfl, trivial⟩
  · exact Blks.get_set_other (isortT.blks l) _ (fun e => hn (by rw [e]; exact List.mem_singleton.2 rfl))
def icompT : Tri := { γ := List Int, n0 := 1, args := fun l => [.mslice .int 0 0 l.length], blks := fun l => [(0, .rows .int l)], pre := fun l => 1 ≤ l.length ∧ l.length ≤ 1000000, δ := Unit, post := fun _ _ => True, n1 := 0, res := fun l _ => .rslice false .int (Lib.compact l), blks' := fun _ _ => [], scal := false }
theorem icomp_in {F : Fr} {g : Ctx} {l l2 : List Int} {w : World} (hm : Mem F g ⟨icompT.blks l, 1, []⟩ w) (he : Lib.compact l = l2) (hcl : l2.length ≤ l.length) (p2 : l.length ≤ 1000000) {q0 : Reg} {cap : Nat} {c : Array Value} {T : TypeId} (hq0 : g.β[0]? = some (some q0)) (hc1 : l.length ≤ cap) (hc2 : cap ≤ 9223372036854775807) (hc3 : cap ≤ q0.sz)
    (hblk : w.heap[q0.b]? = some (.cells c T (0, 0))) (hsz : c.size = q0.base + q0.sz) {n : Nat} :
    CallPost F g ⟨icompT.blks l, icompT.n0, []⟩ (fun _ _ => False) (icompT.ends l) (.returned (.slice (some ⟨q0.b, q0.base, none⟩) l2.length cap)) (putRow (Value.int .i64) (Sort.ahead w n) q0.b q0.base (l2 ++ List.replicate (l.length - l2.length) 0).toArray) := by
  have hrow : ∀ (i : Nat) x, l2[i]? = some x → (putCells (Value.int .i64) q0.base (l2 ++ List.replicate (l.length - l2.length) 0).toArray c)[q0.base + i]? = some (.int .i64 x) := fun i x hx =>
    putCells_at (l := l2 ++ List.replicate (l.length - l2.length) 0) (by simp; omega) (by
      rw [List.getElem?_append_left (List.getElem?_eq_some_iff.1 hx).1]; exact hx)
  have hA := hm.inPlace (n := 0) (l := l) (r := q0) (l2 := l2) (c' := putCells (Value.int .i64) q0.base (l2 ++ List.replicate (l.length - l2.length) 0).toArray c) (T := T) rfl hq0
    (w' := putRow (Value.int .i64) (Sort.ahead w n) q0.b q0.base (l2 ++ List.replicate (l.length - l2.length) 0).toArray) rfl rfl (by simp [Sort.ahead]) (fun b hb => by
      by_cases hb2 : b < w.heap.size
      · have := sorted_other (w := w) (b := q0.b) (off := q0.base) (k := n) (d := (l2 ++ List.replicate (l.length - l2.length) 0).toArray) (os := #[]) hb2 hb
        simpa using this
      · rw [Array.getElem?_eq_none (by simp [Sort.ahead]; omega), Array.getElem?_eq_none (by omega)]) (by
      have := sorted_heap (w := w) (b := q0.b) (off := q0.base) (k := n) (d := (l2 ++ List.replicate (l.length - l2.length) 0).toArray) (os := #[]) hblk
      simpa using this) (by rw [putCells_size]; exact hsz) (by omega) (by unfold room47; omega) hrow
  have hnx : g.β.length = 1 := hm.next.symm
  refine ⟨_, _, .mslice .int 1 0 l2.length, ?_, g.le_add _, (Upd.kill _ 0).trans (Upd.new _ _), hA, ?_⟩
  · refine ⟨(), ?_⟩
    show ((0 + l2.length) ≤ l2.length ∧ (l2.drop 0).take l2.length = Lib.compact l ∧ True)
    rw [List.drop_zero, List.take_of_length_le (Nat.le_refl _)]
    exact ⟨by omega, he.symm, trivial⟩
  · have := Rep.mslice (g := g.add (some q0)) .int 1 0 l2.length cap q0.base q0 (by rw [← hnx]; exact Ctx.add_get _ _) (by omega) (by show l2.length * 8 ≤ room47; unfold room47; omega) (.inr ⟨by simp, by show (0 + cap) * 1 ≤ q0.sz; omega⟩) hc2
    exact this
theorem icomp_ok : SpecOK Tryz.prog 165 icompT.spec := by
  refine Tri.ok' icompT fun l hx F g w vs hargs hm => ?_
  change List Int at l
  obtain ⟨p1, p2⟩ : 1 ≤ l.length ∧ l.length ≤ 1000000 := hx
  have hargs : RepL g [.mslice .int 0 0 l.length] vs := hargs
  obtain ⟨u0, _, rfl, r0, r⟩ := hargs.uncons
  rw [r.eq_nil]
  obtain ⟨q0, cap, c, T, hq0, rfl, hc1, hc2, hc3, hblk, hsz, hcell⟩ := ownInts (l := l) hm rfl r0 (by omega)
  have hcl := compact_len l
  have hc : Calls Tryz.prog 165 #[.slice (some ⟨q0.b, q0.base, none⟩) l.length cap] w _ :=
    Any.slices_Compact_int refU q0.b q0.base cap l w (holds_own hblk hcell) (by omega) hc1
  refine hc.mono ?_
  rintro e w' ⟨rfl, n, rfl⟩
  exact icomp_in hm rfl hcl p2 hq0 hc1 hc2 hc3 hblk hsz
end Go.Proofs.YtgepebndihfnfaaGreat.Ses

namespace Go.Proofs.YtgepebndihfnfaaGreat.Ses
open Go Go.Proofs Go.Proofs.YtgepebndihfnfaaGreat.Sx
end Go.Proofs.YtgepebndihfnfaaGreat.Ses

namespace Go.Proofs.YtgepebndihfnfaaGreat.Ses
open Go Go.Proofs Go.Proofs.YtgepebndihfnfaaGreat.Sx
set_option maxRecDepth 100000
end Go.Proofs.YtgepebndihfnfaaGreat.Ses

namespace Go.Proofs.YtgepebndihfnfaaGreat.Ses
open Go Go.Proofs Go.Proofs.YtgepebndihfnfaaGreat.Sx
end Go.Proofs.YtgepebndihfnfaaGreat.Ses
