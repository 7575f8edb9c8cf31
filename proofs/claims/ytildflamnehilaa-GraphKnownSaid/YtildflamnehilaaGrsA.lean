/- A map's keys, sorted; the refs and the log of a graph: what the evaluator leaves of each, and that it holds. No condition. -/
import Derived.Test.YtildflamnehilaaGrlC
import Derived.Shelf.SlIter.Nil
import Derived.Shelf.SortM.Plain
import Derived.Shelf.SortM.SortNone
import Derived.KernelRfl
set_option linter.unusedSimpArgs false
set_option linter.unusedVariables false

namespace Go.Proofs.Ytildflamnehilaa.Ses
open Go Go.Proofs Go.Proofs.Ytildflamnehilaa.Sx Go.Proofs.Ytildflamnehilaa.Trx
open Go.Shelf

def ref7_ren : Go.Shelf.Ren := ⟨fun | 7 => 37 | 10 => 59 | n => n, fun | 23 => 67 | 26 => 9 | 3 => 3 | 28 => 81 | 0 => 0 | 27 => 80 | 33 => 90 | 4 => 4 | n => n, fun | n => n⟩
theorem ref7 : SlLaysZ.n7 Try.prog ref7_ren where
  mixed := by kernel_rfl
  f7 := ⟨"maps.Keys[map[string]int,string,int]", by decide, Try.func37.trans (congrArg some (by kernel_rfl))⟩
  f10 := ⟨"maps.Keys[map[string]int,string,int]$1", by decide, Try.func59.trans (congrArg some (by kernel_rfl))⟩
  t0 := Try.underlying0
  a0 := Try.isAgg0
  z0 := Try.sizeOf0
  v0 := Try.zeroValue0
  t4 := Try.underlying4
  a4 := Try.isAgg4
  z4 := Try.sizeOf4
  v4 := Try.zeroValue4
  t23 := Try.underlying67
  a23 := Try.isAgg67
  z23 := Try.sizeOf67
  v23 := Try.zeroValue67
  t26 := Try.underlying9
  a26 := Try.isAgg9
  z26 := Try.sizeOf9
  v26 := Try.zeroValue9
  t27 := Try.underlying80
  a27 := Try.isAgg80
  z27 := Try.sizeOf80
  v27 := Try.zeroValue80
  t28 := Try.underlying81
  a28 := Try.isAgg81
  z28 := Try.sizeOf81
  v28 := Try.zeroValue81
  t33 := Try.underlying90
  a33 := Try.isAgg90
  z33 := Try.sizeOf90
  v33 := Try.zeroValue90
def ref6_ren : Go.Shelf.Ren := ⟨fun | 6 => 36 | 8 => 57 | 9 => 58 | 11 => 80 | 13 => 82 | 12 => 81 | 23 => 100 | 24 => 101 | 14 => 91 | 15 => 92 | 16 => 93 | 17 => 94 | 18 => 95 | 19 => 96 | 20 => 97 | 21 => 98 | 22 => 99 | 25 => 106 | 26 => 107 | 27 => 108 | 28 => 109 | 29 => 110 | 30 => 85 | 31 => 117 | n => n, fun | 26 => 9 | 28 => 81 | 24 => 78 | 0 => 0 | 3 => 3 | 37 => 120 | 48 => 136 | 50 => 31 | 4 => 4 | 40 => 128 | 39 => 127 | 45 => 133 | 5 => 5 | 9 => 9 | 51 => 142 | 55 => 146 | 57 => 152 | 58 => 153 | 33 => 90 | n => n, fun | n => n⟩
theorem ref6 : SlLaysZ.n6 Try.prog ref6_ren where
  mixed := by kernel_rfl
  f6 := ⟨"slices.Sorted[string]", by decide, Try.func36.trans (congrArg some (by kernel_rfl))⟩
  f8 := ⟨"slices.Collect[string]", by decide, Try.func57.trans (congrArg some (by kernel_rfl))⟩
  f11 := ⟨"slices.AppendSeq[[]string,string]", by decide, Try.func80.trans (congrArg some (by kernel_rfl))⟩
  t0 := Try.underlying0
  a0 := Try.isAgg0
  z0 := Try.sizeOf0
  v0 := Try.zeroValue0
  t24 := Try.underlying78
  a24 := Try.isAgg78
  z24 := Try.sizeOf78
  v24 := Try.zeroValue78
  t26 := Try.underlying9
  a26 := Try.isAgg9
  z26 := Try.sizeOf9
  v26 := Try.zeroValue9
  t28 := Try.underlying81
  a28 := Try.isAgg81
  z28 := Try.sizeOf81
  v28 := Try.zeroValue81
  i26 := by kernel_rfl
def refM_ren : Go.Shelf.Ren := ⟨fun | 6 => 58 | 8 => 82 | 9 => 81 | 19 => 100 | 20 => 101 | 21 => 91 | 22 => 92 | 23 => 93 | 24 => 94 | 25 => 95 | 26 => 96 | 27 => 97 | 28 => 98 | 29 => 99 | 36 => 106 | 31 => 107 | 32 => 108 | 37 => 109 | 38 => 110 | 39 => 85 | 41 => 117 | n => n, fun | 27 => 78 | 29 => 9 | 3 => 3 | 32 => 120 | 26 => 78 | 0 => 0 | 44 => 136 | 46 => 31 | 4 => 4 | 36 => 128 | 35 => 127 | 41 => 133 | 5 => 5 | 9 => 9 | 53 => 142 | 57 => 146 | 63 => 152 | 64 => 153 | n => n, fun | n => n⟩
theorem refM : SlLaysM.n6 Try.prog refM_ren where
  mixed := by kernel_rfl
  f6 := ⟨"slices.Sort[[]string,string]", by decide, Try.func58.trans (congrArg some (by kernel_rfl))⟩
  f8 := Try.func82.trans (congrArg some (by kernel_rfl))
  f9 := ⟨"slices.pdqsortOrdered[string]", by decide, Try.func81.trans (congrArg some (by kernel_rfl))⟩
  f19 := Try.func100.trans (congrArg some (by kernel_rfl))
  f20 := Try.func101.trans (congrArg some (by kernel_rfl))
  f21 := ⟨"slices.insertionSortOrdered[string]", by decide, Try.func91.trans (congrArg some (by kernel_rfl))⟩
  f22 := ⟨"slices.heapSortOrdered[string]", by decide, Try.func92.trans (congrArg some (by kernel_rfl))⟩
  f23 := ⟨"slices.breakPatternsOrdered[string]", by decide, Try.func93.trans (congrArg some (by kernel_rfl))⟩
  f24 := ⟨"slices.choosePivotOrdered[string]", by decide, Try.func94.trans (congrArg some (by kernel_rfl))⟩
  f25 := ⟨"slices.reverseRangeOrdered[string]", by decide, Try.func95.trans (congrArg some (by kernel_rfl))⟩
  f26 := ⟨"slices.partialInsertionSortOrdered[string]", by decide, Try.func96.trans (congrArg some (by kernel_rfl))⟩
  f27 := ⟨"cmp.Less[string]", by decide, Try.func97.trans (congrArg some (by kernel_rfl))⟩
  f28 := ⟨"slices.partitionEqualOrdered[string]", by decide, Try.func98.trans (congrArg some (by kernel_rfl))⟩
  f29 := ⟨"slices.partitionOrdered[string]", by decide, Try.func99.trans (congrArg some (by kernel_rfl))⟩
  f31 := Try.func107.trans (congrArg some (by kernel_rfl))
  f32 := Try.func108.trans (congrArg some (by kernel_rfl))
  f36 := ⟨"slices.siftDownOrdered[string]", by decide, Try.func106.trans (congrArg some (by kernel_rfl))⟩
  f37 := ⟨"slices.medianAdjacentOrdered[string]", by decide, Try.func109.trans (congrArg some (by kernel_rfl))⟩
  f38 := ⟨"slices.medianOrdered[string]", by decide, Try.func110.trans (congrArg some (by kernel_rfl))⟩
  f39 := ⟨"cmp.isNaN[string]", by decide, Try.func85.trans (congrArg some (by kernel_rfl))⟩
  f41 := ⟨"slices.order2Ordered[string]", by decide, Try.func117.trans (congrArg some (by kernel_rfl))⟩
  t0 := Try.underlying0
  a0 := Try.isAgg0
  z0 := Try.sizeOf0
  v0 := Try.zeroValue0
  t3 := Try.underlying3
  a3 := Try.isAgg3
  z3 := Try.sizeOf3
  v3 := Try.zeroValue3
  t4 := Try.underlying4
  a4 := Try.isAgg4
  z4 := Try.sizeOf4
  v4 := Try.zeroValue4
  t5 := Try.underlying5
  a5 := Try.isAgg5
  z5 := Try.sizeOf5
  v5 := Try.zeroValue5
  t9 := Try.underlying9
  a9 := Try.isAgg9
  z9 := Try.sizeOf9
  v9 := Try.zeroValue9
  t26 := Try.underlying78
  a26 := Try.isAgg78
  z26 := Try.sizeOf78
  v26 := Try.zeroValue78
  t27 := Try.underlying78
  a27 := Try.isAgg78
  z27 := Try.sizeOf78
  v27 := Try.zeroValue78
  t29 := Try.underlying9
  a29 := Try.isAgg9
  z29 := Try.sizeOf9
  v29 := Try.zeroValue9
  t32 := Try.underlying120
  a32 := Try.isAgg120
  z32 := Try.sizeOf120
  v32 := Try.zeroValue120
  t35 := Try.underlying127
  a35 := Try.isAgg127
  z35 := Try.sizeOf127
  v35 := Try.zeroValue127
  t36 := Try.underlying128
  a36 := Try.isAgg128
  z36 := Try.sizeOf128
  v36 := Try.zeroValue128
  t41 := Try.underlying133
  a41 := Try.isAgg133
  z41 := Try.sizeOf133
  v41 := Try.zeroValue133
  t44 := Try.underlying136
  a44 := Try.isAgg136
  z44 := Try.sizeOf136
  v44 := Try.zeroValue136
  t46 := Try.underlying31
  a46 := Try.isAgg31
  z46 := Try.sizeOf31
  v46 := Try.zeroValue31
  t53 := Try.underlying142
  a53 := Try.isAgg142
  z53 := Try.sizeOf142
  v53 := Try.zeroValue142
  t57 := Try.underlying146
  a57 := Try.isAgg146
  z57 := Try.sizeOf146
  v57 := Try.zeroValue146
  t63 := Try.underlying152
  a63 := Try.isAgg152
  z63 := Try.sizeOf152
  v63 := Try.zeroValue152
  t64 := Try.underlying153
  a64 := Try.isAgg153
  z64 := Try.sizeOf153
  v64 := Try.zeroValue153
end Go.Proofs.Ytildflamnehilaa.Ses

namespace Go.Proofs.Ytildflamnehilaa.Sx
open Go

/-- the world has grown, and one of its new blocks stays -/
theorem Mem.stillNew {F : Fr} {g : Ctx} {m : MS} {w w' : World} (h : Mem F g m w) (hk : ∀ b, b < w.heap.size → w'.heap[b]? = w.heap[b]?) (hs : w.heap.size ≤ w'.heap.size) (ho : w'.os = w.os) (hout : w'.output = w.output)
    {b0 : Nat} (hb0 : w.heap.size ≤ b0) : g.le (g.still w' b0) ∧ Mem F (g.still w' b0) m w' := by
  have hm := h.grow hk hs ho hout
  have hlt : g.le (g.still w' b0) := ⟨fun _ _ e => e, fun b o v hv => by
    have hb : b < w.heap.size := cell?_lt (h.mem.ro b o v hv)
    simp only [Ctx.still]
    rw [if_neg (by omega)]
    exact hv⟩
  have hother : ∀ q y r', m.blks.get q = some y → g.β[q]? = some (some r') → r'.b ≠ b0 := by
    intro q y r' hq hr' e
    obtain ⟨x, hx, hok⟩ := h.mem.reg q y hq
    rw [hr'] at hx
    cases hx
    have : r'.b < w.heap.size := hok.1.lt
    omega
  refine ⟨hlt, ⟨⟨fun q y hq => ?_, hm.mem.inj, fun b o v hv => ?_, fun q y r' o hq hr' => ?_⟩, hm.next, hm.own, fun b o v hv => ?_, hm.fix⟩⟩
  · obtain ⟨x, hx, hok⟩ := hm.mem.reg q y hq
    exact ⟨x, hx, hok.congr hlt fun _ _ => rfl⟩
  · simp only [Ctx.still] at hv
    split at hv
    · rename_i e; subst e; exact hv
    · exact hm.mem.ro _ _ _ hv
  · simp only [Ctx.still]
    rw [if_neg (hother q y r' hq hr')]
    exact hm.mem.apart q y r' o hq hr'
  · simp only [Ctx.still] at hv
    split at hv
    · rename_i e; subst e; exact .inr (.inl (Nat.le_trans h.fix.size hb0))
    · exact hm.ext _ _ _ hv

end Go.Proofs.Ytildflamnehilaa.Sx
namespace Go.Proofs.Ytildflamnehilaa.Ses
open Go Go.Proofs Go.Proofs.Ytildflamnehilaa.Sx Go.Proofs.Ytildflamnehilaa.Trx Go.Shelf Go.Maps

/-- maps.Keys -/
def keysT : Tri := { γ := List (Bs × Int), n0 := 1, args := fun _ => [.mmap 0], blks := fun l => [(0, .kv l)], pre := fun _ => True, δ := Unit, post := fun _ _ => True, n1 := 0, res := fun _ _ => .seqk 59 0, blks' := fun l _ => [(0, .kv l)], scal := false }

theorem keys_ok : SpecOK Try.prog 37 keysT.spec := by
  refine Tri.ok' keysT fun l hl F g w vs hargs hm => ?_
  have hargs : RepL g [.mmap 0] vs := hargs
  obtain ⟨v0, _, rfl, r0, r⟩ := hargs.uncons
  rw [r.eq_nil]
  cases r0 with
  | mmap _ r1 hr1 =>
    have hc : Calls Try.prog 37 #[.map (some r1.b)] w fun e W' => e = .returned (.func (.func 59) #[] #[.pointer (some ⟨w.heap.size, 0, none⟩)]) ∧ W' = w.alloc (.cells #[.map (some r1.b)] 67) :=
      (callsIn_wide (n := 5)).1 (AnyZ.keys_in ref7 Fence.wide 5 trivial rfl (some r1.b) w)
    refine hc.mono ?_
    rintro e w' ⟨rfl, rfl⟩
    obtain ⟨hle, hm2⟩ := hm.stillNew (w' := w.alloc (.cells #[.map (some r1.b)] 67)) (fun b hb => push_other hb) (by simp) rfl rfl (Nat.le_refl _)
    refine ⟨_, ⟨[(0, .kv l)], 1, []⟩, .seqk 59 0, ⟨(), by first | trivial | exact ⟨rfl, trivial⟩⟩, hle, Upd.refl _, hm2, .seqk 59 0 w.heap.size r1 hr1 ?_⟩
    show (if w.heap.size = w.heap.size then (push w #[.map (some r1.b)] 67).cell? ⟨w.heap.size, 0, none⟩ else _) = _
    rw [if_pos rfl]
    simp [World.cell?, push_get]

abbrev kvD (P : Program) (es : Array MapEntry) : DataW Unit := .map ((es.toList.map (WideElems.rg P 9 (fun _ => some (DataW.nil, [])))).foldr DataW.insert [])

/-- slices.Sorted of a map's keys -/
def sortKT : Tri := { γ := List (Bs × Int), n0 := 1, args := fun _ => [.seqk 59 0], blks := fun l => [(0, .kv l)], pre := fun l => decide (l.length * 16 ≤ room47) = true, δ := Unit, post := fun _ _ => True, n1 := 0, res := fun l _ => .rslice false .str ((l.map (·.1)).mergeSort leB), blks' := fun l _ => [(0, .kv l)], scal := false }

theorem rd_kv {k : Value × Value} {p : Bs × Int} {x : MapEntry} (h1 : x.key = Value.string ⟨⟨p.1⟩⟩) (h2 : p.1.length ≤ maxI64) : WideElems.rd Try.prog 9 (H := Unit) (fun _ => some (DataW.nil, [])) x = some (.string p.1, .nil) := by
  have hk : keyOf Try.prog 9 x.key = some (Lit.string p.1) := by
    rw [h1]
    have : (⟨⟨p.1⟩⟩ : ByteArray).size ≤ maxLen := h2
    simp [keyOf, mapKey, Try.underlying9, this]
  simp [WideElems.rd, hk]

theorem sortsK (m : Nat) : AnyZ.SortsIn Try.prog ref6_ren Fence.wide m :=
  ⟨fun blk off cap ss W hH hblk hsz => callsIn_wide.2 (AnyM.slices_Sort_string refM blk off cap ss W hH hblk hsz),
   fun p cap W => callsIn_wide.2 (AnyM.slices_Sort_string_none refM p cap W)⟩

theorem sortK_ok : SpecOK Try.prog 36 sortKT.spec := by
  refine Tri.ok' sortKT fun l hl F g w vs hargs hm => ?_
  change List (Bs × Int) at l
  have hl : l.length * 16 ≤ room47 := of_decide_eq_true hl
  have hargs : RepL g [.seqk 59 0] vs := hargs
  obtain ⟨v0, _, rfl, r0, r⟩ := hargs.uncons
  rw [r.eq_nil]
  cases r0 with
  | seqk _ _ b r1 hr1 hb =>
    obtain ⟨x, hx, hok⟩ := hm.mem.reg 0 (.kv l) rfl
    rw [hr1] at hx
    cases hx
    obtain ⟨es, ck, hes, hkv, hst⟩ := hok.2
    have hsz : es.size = l.length := by
      have := congrArg List.length hkv.1
      simpa using this
    have hrd : ∀ (i : Nat) x, es.toList[i]? = some x → ∃ p, l[i]? = some p ∧ WideElems.rd Try.prog 9 (H := Unit) (fun _ => some (DataW.nil, [])) x = some (.string p.1, .nil) := by
      intro i x hx
      have h1 := congrArg (·[i]?) hkv.1
      simp only [List.getElem?_map, hx, Option.map_some] at h1
      cases hp : l[i]? with
      | none => rw [hp] at h1; cases h1
      | some p =>
        rw [hp] at h1
        simp only [Option.map_some, Option.some.injEq, Prod.mk.injEq] at h1
        exact ⟨p, rfl, rd_kv (k := (x.key, x.val)) h1.1 (hkv.2 p (List.mem_of_getElem? hp))⟩
    have hown : w.ownsMap Try.prog 9 (fun _ => some (DataW.nil, [])) r1.b l.length (kvD Try.prog es) := by
      refine ⟨es, ck, hes, ⟨by rw [hsz]; simp [room47, maxLen] at hl ⊢; omega, hst, fun x hx => ?_⟩, by omega, rfl⟩
      obtain ⟨i, hi⟩ := List.getElem?_of_mem hx
      obtain ⟨p, _, h2⟩ := hrd i x hi
      exact ⟨_, h2⟩
    have hcell := hm.mem.ro b 0 _ hb
    have hseq := AnyZ.keys_gives (ρ := ref7_ren) { ref7 with } Fence.wide 2 trivial rfl (by omega) b r1.b l.length (kvD Try.prog es) w (cell?_lt hcell) hcell hown
    have hsize : Maps.size (kvD Try.prog es) = l.length := by
      show ((es.toList.map _).foldr DataW.insert []).length = _
      rw [length_sorted]; simp [hsz]
    have hperm : (strKeys (kvD Try.prog es)).Perm (l.map (·.1)) := by
      show ((((es.toList.map (WideElems.rg Try.prog 9 _)).foldr DataW.insert []).map fun p => strOf p.1)).Perm _
      refine ((WideShapes.sorted_perm _).map _).trans ?_
      have : ((es.toList.map (WideElems.rg Try.prog 9 (H := Unit) (fun _ => some (DataW.nil, [])))).map fun p => strOf p.1) = l.map (·.1) := by
        refine List.ext_getElem? fun i => ?_
        simp only [List.getElem?_map]
        cases hx : es.toList[i]? with
        | none =>
          have : l[i]? = none := by
            rw [List.getElem?_eq_none_iff] at hx ⊢
            simp at hx; omega
          rw [this]; rfl
        | some x =>
          obtain ⟨p, hp, h2⟩ := hrd i x hx
          rw [hp]
          simp [WideElems.rg_of h2, strOf]
      rw [this]
    have cS := AnyZ.sorted_in ref6 Fence.wide 5 trivial trivial trivial trivial rfl (by omega) (sortsK _) (enters_of Try.func58 (by kernel_rfl) rfl) 59 #[.pointer (some ⟨b, 0, none⟩)] trivial (enters_of Try.func59 (by kernel_rfl) rfl) _ _ (by rw [hsize]; simp [room47, maxLen] at hl ⊢; omega) (by rw [hsize]; simpa [room47] using hl) w hseq
    have cS : Calls Try.prog 36 #[.func (.func 59) #[] #[.pointer (some ⟨b, 0, none⟩)]] w _ := callsIn_wide.1 cS
    refine cS.mono ?_
    rintro e w' ⟨v, ss, rfl, hS, hrow, hnil, hbel⟩
    have hsort : ss.mergeSort leB = (l.map (·.1)).mergeSort leB := mergeSort_of_perm (hS.trans hperm)
    have hrow : w'.ownsRow w.heap.size 9 1 v ss.length ((ss.mergeSort leB).map encStr) := hrow
    rw [hsort] at hrow
    have hlen : ss.length = l.length := by rw [(hS.trans hperm).length_eq]; simp
    rcases hrow.2 with ⟨rfl, h0⟩ | ⟨gb, cap, cur, rfl, h1, h2, h3, h4, h5, h6⟩
    · have : l = [] := by rw [hlen] at h0; exact List.eq_nil_of_length_eq_zero h0
      have hr : Rep g (.rslice false .str ((l.map (·.1)).mergeSort leB)) (.slice none 0 0) := by
        rw [this]
        rw [show (([] : List (Bs × Int)).map (·.1)).mergeSort leB = [] by simp]
        exact .rnil _ _
      exact ⟨g, ⟨[(0, .kv l)], 1, []⟩, .rslice false .str ((l.map (·.1)).mergeSort leB), ⟨(), by first | trivial | exact ⟨rfl, trivial⟩⟩, Ctx.le.refl g, Upd.refl _, hm.grow hbel.block hbel.size hbel.os hbel.output, hr⟩
    · obtain ⟨hle, hm2⟩ := hm.stillNew hbel.block hbel.size hbel.os hbel.output h1
      have hLl : ((l.map (·.1)).mergeSort leB).length = l.length := by simp
      have hLb : ∀ s ∈ (l.map (·.1)).mergeSort leB, s.length ≤ maxI64 := by
        intro s hs
        have := ((l.map (·.1)).mergeSort_perm leB).mem_iff.1 hs
        obtain ⟨p, hp, rfl⟩ := List.mem_map.1 this
        exact hkv.2 p hp
      have hcells : ∀ (i : Nat) s, ((l.map (·.1)).mergeSort leB)[i]? = some s → w'.cell? ⟨gb, i, none⟩ = some (.string ⟨⟨s⟩⟩) := by
        intro i s hs
        have hi : i < ss.length := by rw [hlen, ← hLl]; exact (List.getElem?_eq_some_iff.1 hs).1
        have h7 := congrArg (·[i]?) h6
        simp only [List.getElem?_map, hs, Option.map_some] at h7
        rw [List.getElem?_take_of_lt (by omega)] at h7
        have h8 : cur[i]? = some (encStr s) := by rw [← h7]; simp
        simp [World.cell?, h2, h8]
      have hrep := Rep.rslice (g := g.still w' gb) false .str ((l.map (·.1)).mergeSort leB) gb 0 cap (fun i => [.string ⟨⟨((l.map (·.1)).mergeSort leB).getD i []⟩⟩]) (by rw [hLl, ← hlen]; exact h3) (by rw [hLl]; exact hl) (fun i => rfl)
        (fun i s hs j sv v a b => by
          have e : ((l.map (·.1)).mergeSort leB).getD i [] = s := by rw [List.getD_eq_getElem?_getD, hs]; rfl
          cases j with
          | succ j => simp [enc] at a
          | zero =>
            simp [enc] at a b
            subst a; subst b
            have e' : ((l.map (·.1)).mergeSort leB)[i]?.getD [] = s := by rw [hs]; rfl
            first | (rw [e]; exact .str _ (hLb s (List.mem_of_getElem? hs))) | (rw [e']; exact .str _ (hLb s (List.mem_of_getElem? hs))))
        (fun i hi j v hv => by
          cases j with
          | succ j => simp at hv
          | zero =>
            simp at hv
            subst hv
            show (if gb = gb then w'.cell? _ else _) = _
            rw [if_pos rfl]
            have := hcells i ((l.map (·.1)).mergeSort leB)[i] (by simp [hi])
            simp [Tc.width] at this ⊢
            rw [this, List.getElem?_eq_getElem hi]
            rfl)
      rw [hLl, ← hlen] at hrep
      exact ⟨_, ⟨[(0, .kv l)], 1, []⟩, .rslice false .str ((l.map (·.1)).mergeSort leB), ⟨(), by first | trivial | exact ⟨rfl, trivial⟩⟩, hle, Upd.refl _, hm2, hrep⟩
end Go.Proofs.Ytildflamnehilaa.Ses

namespace Go.Proofs.Ytildflamnehilaa.Ses
open Go Go.Proofs Go.Proofs.Ytildflamnehilaa.Sx Go.Proofs.Ytildflamnehilaa.Trx

/-! ### refs, log -/

def refK (K : List (Bs × Int)) (n : Bs) : RefD := ⟨n, (lookK K n).getD 0⟩
def namesK (K : List (Bs × Int)) : List Bs := (K.map (·.1)).mergeSort leB
def refsC (C : List CommitD) : List RefD := (namesK (kvC C)).map (refK (kvC C))
noncomputable def refsT : Tri := { γ := ComL, n0 := 3, args := fun _ => [.mptr 0 0], blks := fun C => gB C 1, pre := fun C => fewG C = true, δ := Unit, post := fun _ _ => True, n1 := 0, res := fun C _ => .rslice false .ref (refsC C), blks' := fun C _ => gB C 1, scal := false }
noncomputable def refsI : St → LInv := fun s => match getE s.env 14, getE s.env 0 with
  | .rslice _ .str ns, .mptr q _ => (match s.m.blks.get q with
    | some (.cells [_, _, .mmap k]) => (match s.m.blks.get k with
      | some (.kv K) => { σ := Nat, I := fun i => i ≤ ns.length, μ := fun i => ns.length - i, env := fun i => [(16, .int .i64 i), (3, .mslice .ref s.m.next 0 ((ns.take i).map (refK K)).length)], blk := fun i => [(s.m.next, .rows .ref ((ns.take i).map (refK K)))], fresh := 1, drop := [] }
      | _ => LInv.none)
    | _ => LInv.none)
  | _, _ => LInv.none
noncomputable def refsE : Envr := Env Try.prog cod [(37, keysT.spec), (36, sortKT.spec)] [(5, refsI)]

structure LogA where
  C : List CommitD
  frm : Int
  many : Int
def logC (x : LogA) : List CommitD := (x.C.drop (x.frm - 1).toNat).take (min x.many 32).toNat
def logV (x : LogA) : VerdictD := bif decide (x.frm < 1) || decide (x.many < 1) then ⟨5, 0, 0, [], 0, [], 0⟩ else ⟨11, 0, 0, [], 0, logC x, 0⟩
def inI (n : Int) : Bool := decide (n ≤ 9223372036854775807)
noncomputable def logT : Tri := { γ := LogA, n0 := 3, args := fun x => [.mptr 0 0, .int .i64 x.frm, .int .i64 x.many], blks := fun x => gB x.C 1, pre := fun x => fewG x.C = true ∧ inI x.frm = true, δ := Unit, post := fun _ _ => True, n1 := 0, res := fun x _ => .agg (logV x).enc, blks' := fun x _ => gB x.C 1, scal := false }
end Go.Proofs.Ytildflamnehilaa.Ses

namespace Go.Proofs.Ytildflamnehilaa.Ses
open Go Go.Proofs Go.Proofs.Ytildflamnehilaa.Sx Go.Proofs.Ytildflamnehilaa.Trx
set_option maxRecDepth 100000

theorem refs_vc (x : refsT.γ) : evCall refsE (ev refsE 1000) 21 (refsT.args x) ⟨refsT.blks x, refsT.n0, []⟩ (fun _ _ => False) (refsT.ends x) = (
(∃ x1 : (@List (@Prod Bs Int)),
 ((@Eq (@List (@Prod Bs Int)) (@kvC x) x1) ∧
 (True ∧
 (∀ x2 : Unit,
 (True →
 (∃ x3 : (@List (@Prod Bs Int)),
 ((@Eq (@List (@Prod Bs Int)) x1 x3) ∧
 ((@Eq Bool (@Decidable.decide (@LE.le Nat _ (@HMul.hMul _ _ _ _ (@List.length (@Prod Bs Int) x3) (16 : Nat)) room47) _) Bool.true) ∧
 (∀ x4 : Unit,
 (True →
 ((@LE.le Nat _ (@HMul.hMul _ _ _ _ (@List.length (@List UInt8) (@List.mergeSort (@List UInt8) (@List.map (@Prod Bs Int) (@List UInt8) (fun x5 : (@Prod Bs Int) => (@Prod.fst Bs Int x5)) x3) Go.leB)) (16 : Nat)) room47) →
 ((∃ x6 : Nat,
 ((@Eq Int (0 : Int) (Nat.cast x6 : Int)) ∧
 ((@Eq Nat (0 : Nat) (@List.length RefD (@List.map Bs RefD (@refK x3) (@List.take (@List UInt8) x6 (@List.mergeSort (@List UInt8) (@List.map (@Prod Bs Int) (@List UInt8) (fun x7 : (@Prod Bs Int) => (@Prod.fst Bs Int x7)) x3) Go.leB))))) ∧
 ((@Eq (@List RefD) (@List.nil RefD) (@List.map Bs RefD (@refK x3) (@List.take (@List UInt8) x6 (@List.mergeSort (@List UInt8) (@List.map (@Prod Bs Int) (@List UInt8) (fun x8 : (@Prod Bs Int) => (@Prod.fst Bs Int x8)) x3) Go.leB)))) ∧
 (@Nat.le x6 (@List.length (@List UInt8) (@List.mergeSort (@List UInt8) (@List.map (@Prod Bs Int) (@List UInt8) (fun x9 : (@Prod Bs Int) => (@Prod.fst Bs Int x9)) x3) Go.leB))))))) ∧
 (∀ x10 : Nat,
 ((@Nat.le x10 (@List.length (@List UInt8) (@List.mergeSort (@List UInt8) (@List.map (@Prod Bs Int) (@List UInt8) (fun x11 : (@Prod Bs Int) => (@Prod.fst Bs Int x11)) x3) Go.leB))) →
 (br (@Decidable.decide (@LT.lt Int _ (Nat.cast x10 : Int) (Nat.cast (@List.length (@List UInt8) (@List.mergeSort (@List UInt8) (@List.map (@Prod Bs Int) (@List UInt8) (fun x12 : (@Prod Bs Int) => (@Prod.fst Bs Int x12)) x3) Go.leB)) : Int)) _)
 (br (@Decidable.decide ((@LE.le Int _ (0 : Int) (Nat.cast x10 : Int)) ∧
 (@LT.lt Int _ (Nat.cast x10 : Int) (Nat.cast (@List.length (@List UInt8) (@List.mergeSort (@List UInt8) (@List.map (@Prod Bs Int) (@List UInt8) (fun x13 : (@Prod Bs Int) => (@Prod.fst Bs Int x13)) x3) Go.leB)) : Int))) _)
 (((@Nat.le (@HMul.hMul _ _ _ _ (@List.length RefD (@List.map Bs RefD (@refK x3) (@List.take (@List UInt8) x10 (@List.mergeSort (@List UInt8) (@List.map (@Prod Bs Int) (@List UInt8) (fun x14 : (@Prod Bs Int) => (@Prod.fst Bs Int x14)) x3) Go.leB)))) (24 : Nat)) room47) ∧
 (@Nat.le (@HMul.hMul _ _ _ _ (1 : Nat) (24 : Nat)) room47)) →
 (br (@Bool.and (@Bool.and (@Decidable.decide (@LE.le Nat _ (@HAdd.hAdd _ _ _ _ (0 : Nat) (1 : Nat)) (@List.length RefD (@List.cons RefD (@RefD.mk (@List.getD (@List UInt8) (@List.mergeSort (@List UInt8) (@List.map (@Prod Bs Int) (@List UInt8) (fun x15 : (@Prod Bs Int) => (@Prod.fst Bs Int x15)) x3) Go.leB) (@Int.toNat (Nat.cast x10 : Int)) (@List.nil UInt8)) (@Option.getD Int (@lookK x3 (@List.getD (@List UInt8) (@List.mergeSort (@List UInt8) (@List.map (@Prod Bs Int) (@List UInt8) (fun x16 : (@Prod Bs Int) => (@Prod.fst Bs Int x16)) x3) Go.leB) (@Int.toNat (Nat.cast x10 : Int)) (@List.nil UInt8))) (0 : Int))) (@List.nil RefD)))) _) (@Decidable.decide (@LE.le Nat _ (@HAdd.hAdd _ _ _ _ (0 : Nat) (@List.length RefD (@List.map Bs RefD (@refK x3) (@List.take (@List UInt8) x10 (@List.mergeSort (@List UInt8) (@List.map (@Prod Bs Int) (@List UInt8) (fun x17 : (@Prod Bs Int) => (@Prod.fst Bs Int x17)) x3) Go.leB))))) (@List.length RefD (@List.map Bs RefD (@refK x3) (@List.take (@List UInt8) x10 (@List.mergeSort (@List UInt8) (@List.map (@Prod Bs Int) (@List UInt8) (fun x18 : (@Prod Bs Int) => (@Prod.fst Bs Int x18)) x3) Go.leB))))) _)) (@Decidable.decide (@LE.le Nat _ (@HMul.hMul _ _ _ _ (@HAdd.hAdd _ _ _ _ (@List.length RefD (@List.map Bs RefD (@refK x3) (@List.take (@List UInt8) x10 (@List.mergeSort (@List UInt8) (@List.map (@Prod Bs Int) (@List UInt8) (fun x19 : (@Prod Bs Int) => (@Prod.fst Bs Int x19)) x3) Go.leB)))) (@List.length RefD (@List.take RefD (1 : Nat) (@List.drop RefD (0 : Nat) (@List.cons RefD (@RefD.mk (@List.getD (@List UInt8) (@List.mergeSort (@List UInt8) (@List.map (@Prod Bs Int) (@List UInt8) (fun x20 : (@Prod Bs Int) => (@Prod.fst Bs Int x20)) x3) Go.leB) (@Int.toNat (Nat.cast x10 : Int)) (@List.nil UInt8)) (@Option.getD Int (@lookK x3 (@List.getD (@List UInt8) (@List.mergeSort (@List UInt8) (@List.map (@Prod Bs Int) (@List UInt8) (fun x21 : (@Prod Bs Int) => (@Prod.fst Bs Int x21)) x3) Go.leB) (@Int.toNat (Nat.cast x10 : Int)) (@List.nil UInt8))) (0 : Int))) (@List.nil RefD)))))) (24 : Nat)) room47) _))
 (∃ x22 : Nat,
 ((@Eq Int (@Go.IntKind.wrap Go.IntKind.i64 (@HAdd.hAdd Int Int Int _ (Nat.cast x10 : Int) (1 : Int))) (Nat.cast x22 : Int)) ∧
 ((@Eq Nat (0 : Nat) (0 : Nat)) ∧
 ((@Eq Nat (@HAdd.hAdd _ _ _ _ (@List.length RefD (@List.map Bs RefD (@refK x3) (@List.take (@List UInt8) x10 (@List.mergeSort (@List UInt8) (@List.map (@Prod Bs Int) (@List UInt8) (fun x23 : (@Prod Bs Int) => (@Prod.fst Bs Int x23)) x3) Go.leB)))) (@List.length RefD (@List.take RefD (1 : Nat) (@List.drop RefD (0 : Nat) (@List.cons RefD (@RefD.mk (@List.getD (@List UInt8) (@List.mergeSort (@List UInt8) (@List.map (@Prod Bs Int) (@List UInt8) (fun x24 : (@Prod Bs Int) => (@Prod.fst Bs Int x24)) x3) Go.leB) (@Int.toNat (Nat.cast x10 : Int)) (@List.nil UInt8)) (@Option.getD Int (@lookK x3 (@List.getD (@List UInt8) (@List.mergeSort (@List UInt8) (@List.map (@Prod Bs Int) (@List UInt8) (fun x25 : (@Prod Bs Int) => (@Prod.fst Bs Int x25)) x3) Go.leB) (@Int.toNat (Nat.cast x10 : Int)) (@List.nil UInt8))) (0 : Int))) (@List.nil RefD)))))) (@List.length RefD (@List.map Bs RefD (@refK x3) (@List.take (@List UInt8) x22 (@List.mergeSort (@List UInt8) (@List.map (@Prod Bs Int) (@List UInt8) (fun x26 : (@Prod Bs Int) => (@Prod.fst Bs Int x26)) x3) Go.leB))))) ∧
 ((@Eq (@List RefD) (@HAppend.hAppend (@List RefD) (@List RefD) (@List RefD) _ (@List.take RefD (@List.length RefD (@List.map Bs RefD (@refK x3) (@List.take (@List UInt8) x10 (@List.mergeSort (@List UInt8) (@List.map (@Prod Bs Int) (@List UInt8) (fun x27 : (@Prod Bs Int) => (@Prod.fst Bs Int x27)) x3) Go.leB)))) (@List.drop RefD (0 : Nat) (@List.map Bs RefD (@refK x3) (@List.take (@List UInt8) x10 (@List.mergeSort (@List UInt8) (@List.map (@Prod Bs Int) (@List UInt8) (fun x28 : (@Prod Bs Int) => (@Prod.fst Bs Int x28)) x3) Go.leB))))) (@List.take RefD (1 : Nat) (@List.drop RefD (0 : Nat) (@List.cons RefD (@RefD.mk (@List.getD (@List UInt8) (@List.mergeSort (@List UInt8) (@List.map (@Prod Bs Int) (@List UInt8) (fun x29 : (@Prod Bs Int) => (@Prod.fst Bs Int x29)) x3) Go.leB) (@Int.toNat (Nat.cast x10 : Int)) (@List.nil UInt8)) (@Option.getD Int (@lookK x3 (@List.getD (@List UInt8) (@List.mergeSort (@List UInt8) (@List.map (@Prod Bs Int) (@List UInt8) (fun x30 : (@Prod Bs Int) => (@Prod.fst Bs Int x30)) x3) Go.leB) (@Int.toNat (Nat.cast x10 : Int)) (@List.nil UInt8))) (0 : Int))) (@List.nil RefD))))) (@List.map Bs RefD (@refK x3) (@List.take (@List UInt8) x22 (@List.mergeSort (@List UInt8) (@List.map (@Prod Bs Int) (@List UInt8) (fun x31 : (@Prod Bs Int) => (@Prod.fst Bs Int x31)) x3) Go.leB)))) ∧
 ((@Nat.le x22 (@List.length (@List UInt8) (@List.mergeSort (@List UInt8) (@List.map (@Prod Bs Int) (@List UInt8) (fun x32 : (@Prod Bs Int) => (@Prod.fst Bs Int x32)) x3) Go.leB))) ∧
 (@LT.lt Nat _ (@Nat.sub (@List.length (@List UInt8) (@List.mergeSort (@List UInt8) (@List.map (@Prod Bs Int) (@List UInt8) (fun x33 : (@Prod Bs Int) => (@Prod.fst Bs Int x33)) x3) Go.leB)) x22) (@Nat.sub (@List.length (@List UInt8) (@List.mergeSort (@List UInt8) (@List.map (@Prod Bs Int) (@List UInt8) (fun x34 : (@Prod Bs Int) => (@Prod.fst Bs Int x34)) x3) Go.leB)) x10))))))))
 (Bad "check" "graph.go:129")))
 (Bad "check" "graph.go:128"))
 (∃ x35 : Unit,
 ((@LE.le Nat _ (@HAdd.hAdd _ _ _ _ (0 : Nat) (@List.length RefD (@List.map Bs RefD (@refK x3) (@List.take (@List UInt8) x10 (@List.mergeSort (@List UInt8) (@List.map (@Prod Bs Int) (@List UInt8) (fun x36 : (@Prod Bs Int) => (@Prod.fst Bs Int x36)) x3) Go.leB))))) (@List.length RefD (@List.map Bs RefD (@refK x3) (@List.take (@List UInt8) x10 (@List.mergeSort (@List UInt8) (@List.map (@Prod Bs Int) (@List UInt8) (fun x37 : (@Prod Bs Int) => (@Prod.fst Bs Int x37)) x3) Go.leB))))) ∧
 ((@Eq (@List RefD) (@List.take RefD (@List.length RefD (@List.map Bs RefD (@refK x3) (@List.take (@List UInt8) x10 (@List.mergeSort (@List UInt8) (@List.map (@Prod Bs Int) (@List UInt8) (fun x38 : (@Prod Bs Int) => (@Prod.fst Bs Int x38)) x3) Go.leB)))) (@List.drop RefD (0 : Nat) (@List.map Bs RefD (@refK x3) (@List.take (@List UInt8) x10 (@List.mergeSort (@List UInt8) (@List.map (@Prod Bs Int) (@List UInt8) (fun x39 : (@Prod Bs Int) => (@Prod.fst Bs Int x39)) x3) Go.leB))))) (@refsC x)) ∧
 ((@Eq Nat (0 : Nat) (0 : Nat)) ∧
 ((@Eq Nat (@List.length CommitD x) (@List.length CommitD x)) ∧
 ((@Eq TreeD (@treeC x) (@treeC x)) ∧
 ((@Eq (@List CommitD) x x) ∧
 ((@Eq (@List (@Prod Bs Int)) x3 (@kvC x)) ∧
 True)))))))))))))))))))))))) := by kernel_rfl

theorem log_vc (x : logT.γ) : evCall commitsE (ev commitsE 1000) 22 (logT.args x) ⟨logT.blks x, logT.n0, []⟩ (fun _ _ => False) (logT.ends x) = (
(br (@Decidable.decide (@LT.lt Int _ (@LogA.frm x) (1 : Int)) _)
 (∃ x1 : Unit,
 ((@Eq Int (5 : Int) (@VerdictD.code (@logV x))) ∧
 ((@Eq Int (0 : Int) (@VerdictD.session (@logV x))) ∧
 ((@Eq Int (0 : Int) (@VerdictD.rev (@logV x))) ∧
 ((@Eq Bs (@Array.toList UInt8 (@ByteArray.data (@ByteArray.mk (@List.toArray UInt8 (@List.nil UInt8))))) (@VerdictD.path (@logV x))) ∧
 ((@Eq Int (0 : Int) (@VerdictD.digest (@logV x))) ∧
 ((@Eq (@List CommitD) (@List.nil CommitD) (@VerdictD.commits (@logV x))) ∧
 ((@Eq Int (0 : Int) (@VerdictD.member (@logV x))) ∧
 ((@Eq Nat (0 : Nat) (0 : Nat)) ∧
 ((@Eq Nat (@List.length CommitD (@LogA.C x)) (@List.length CommitD (@LogA.C x))) ∧
 ((@Eq TreeD (@treeC (@LogA.C x)) (@treeC (@LogA.C x))) ∧
 ((@Eq (@List CommitD) (@LogA.C x) (@LogA.C x)) ∧
 ((@Eq (@List (@Prod Bs Int)) (@kvC (@LogA.C x)) (@kvC (@LogA.C x))) ∧
 True)))))))))))))
 (br (@Decidable.decide (@LT.lt Int _ (@LogA.many x) (1 : Int)) _)
 (∃ x2 : Unit,
 ((@Eq Int (5 : Int) (@VerdictD.code (@logV x))) ∧
 ((@Eq Int (0 : Int) (@VerdictD.session (@logV x))) ∧
 ((@Eq Int (0 : Int) (@VerdictD.rev (@logV x))) ∧
 ((@Eq Bs (@Array.toList UInt8 (@ByteArray.data (@ByteArray.mk (@List.toArray UInt8 (@List.nil UInt8))))) (@VerdictD.path (@logV x))) ∧
 ((@Eq Int (0 : Int) (@VerdictD.digest (@logV x))) ∧
 ((@Eq (@List CommitD) (@List.nil CommitD) (@VerdictD.commits (@logV x))) ∧
 ((@Eq Int (0 : Int) (@VerdictD.member (@logV x))) ∧
 ((@Eq Nat (0 : Nat) (0 : Nat)) ∧
 ((@Eq Nat (@List.length CommitD (@LogA.C x)) (@List.length CommitD (@LogA.C x))) ∧
 ((@Eq TreeD (@treeC (@LogA.C x)) (@treeC (@LogA.C x))) ∧
 ((@Eq (@List CommitD) (@LogA.C x) (@LogA.C x)) ∧
 ((@Eq (@List (@Prod Bs Int)) (@kvC (@LogA.C x)) (@kvC (@LogA.C x))) ∧
 True)))))))))))))
 ((@LE.le Nat _ (@HMul.hMul _ _ _ _ (@List.length CommitD (@LogA.C x)) (56 : Nat)) room47) →
 (br (@bndB (@List.length CommitD (@LogA.C x)) (@Option.some Int (@mmI Bool.true (@Go.IntKind.wrap Go.IntKind.i64 (@HSub.hSub Int Int Int _ (@LogA.frm x) (1 : Int))) (Nat.cast (@List.length CommitD (@LogA.C x)) : Int))) (@Option.none Int) (@Option.none Int))
 ((@LE.le Nat _ (@HMul.hMul _ _ _ _ (@cutN (@List.length CommitD (@LogA.C x)) (@Option.some Int (@mmI Bool.true (@Go.IntKind.wrap Go.IntKind.i64 (@HSub.hSub Int Int Int _ (@LogA.frm x) (1 : Int))) (Nat.cast (@List.length CommitD (@LogA.C x)) : Int))) (@Option.none Int)) (56 : Nat)) room47) →
 (br (@bndB (@cutN (@List.length CommitD (@LogA.C x)) (@Option.some Int (@mmI Bool.true (@Go.IntKind.wrap Go.IntKind.i64 (@HSub.hSub Int Int Int _ (@LogA.frm x) (1 : Int))) (Nat.cast (@List.length CommitD (@LogA.C x)) : Int))) (@Option.none Int)) (@Option.none Int) (@Option.some Int (@mmI Bool.true (@mmI Bool.true (Nat.cast (@cutN (@List.length CommitD (@LogA.C x)) (@Option.some Int (@mmI Bool.true (@Go.IntKind.wrap Go.IntKind.i64 (@HSub.hSub Int Int Int _ (@LogA.frm x) (1 : Int))) (Nat.cast (@List.length CommitD (@LogA.C x)) : Int))) (@Option.none Int)) : Int) (@LogA.many x)) (32 : Int))) (@Option.none Int))
 (∀ x3 : Bool,
 (((@Eq Bool x3 Bool.true) →
 (@Eq Nat (@cutN (@cutN (@List.length CommitD (@LogA.C x)) (@Option.some Int (@mmI Bool.true (@Go.IntKind.wrap Go.IntKind.i64 (@HSub.hSub Int Int Int _ (@LogA.frm x) (1 : Int))) (Nat.cast (@List.length CommitD (@LogA.C x)) : Int))) (@Option.none Int)) (@Option.none Int) (@Option.some Int (@mmI Bool.true (@mmI Bool.true (Nat.cast (@cutN (@List.length CommitD (@LogA.C x)) (@Option.some Int (@mmI Bool.true (@Go.IntKind.wrap Go.IntKind.i64 (@HSub.hSub Int Int Int _ (@LogA.frm x) (1 : Int))) (Nat.cast (@List.length CommitD (@LogA.C x)) : Int))) (@Option.none Int)) : Int) (@LogA.many x)) (32 : Int)))) (0 : Nat))) →
 (br x3
 ((∃ x4 : Unit,
 ((@Eq Int (0 : Int) (0 : Int)) ∧
 True)) ∧
 (∀ x5 : Unit,
 (True →
 (∃ x6 : Unit,
 ((@Eq Int (11 : Int) (@VerdictD.code (@logV x))) ∧
 ((@Eq Int (0 : Int) (@VerdictD.session (@logV x))) ∧
 ((@Eq Int (0 : Int) (@VerdictD.rev (@logV x))) ∧
 ((@Eq Bs (@Array.toList UInt8 (@ByteArray.data (@ByteArray.mk (@List.toArray UInt8 (@List.nil UInt8))))) (@VerdictD.path (@logV x))) ∧
 ((@Eq Int (0 : Int) (@VerdictD.digest (@logV x))) ∧
 ((@Eq (@List CommitD) (@List.nil CommitD) (@VerdictD.commits (@logV x))) ∧
 ((@Eq Int (0 : Int) (@VerdictD.member (@logV x))) ∧
 ((@Eq Nat (0 : Nat) (0 : Nat)) ∧
 ((@Eq Nat (@List.length CommitD (@LogA.C x)) (@List.length CommitD (@LogA.C x))) ∧
 ((@Eq TreeD (@treeC (@LogA.C x)) (@treeC (@LogA.C x))) ∧
 ((@Eq (@List CommitD) (@LogA.C x) (@LogA.C x)) ∧
 ((@Eq (@List (@Prod Bs Int)) (@kvC (@LogA.C x)) (@kvC (@LogA.C x))) ∧
 True))))))))))))))))
 (((@Nat.le (@HMul.hMul _ _ _ _ (0 : Nat) (56 : Nat)) room47) ∧
 (@Nat.le (@HMul.hMul _ _ _ _ (@cutN (@cutN (@List.length CommitD (@LogA.C x)) (@Option.some Int (@mmI Bool.true (@Go.IntKind.wrap Go.IntKind.i64 (@HSub.hSub Int Int Int _ (@LogA.frm x) (1 : Int))) (Nat.cast (@List.length CommitD (@LogA.C x)) : Int))) (@Option.none Int)) (@Option.none Int) (@Option.some Int (@mmI Bool.true (@mmI Bool.true (Nat.cast (@cutN (@List.length CommitD (@LogA.C x)) (@Option.some Int (@mmI Bool.true (@Go.IntKind.wrap Go.IntKind.i64 (@HSub.hSub Int Int Int _ (@LogA.frm x) (1 : Int))) (Nat.cast (@List.length CommitD (@LogA.C x)) : Int))) (@Option.none Int)) : Int) (@LogA.many x)) (32 : Int)))) (56 : Nat)) room47)) →
 (br (@Bool.and (@Bool.and (@Decidable.decide (@LE.le Nat _ (@HAdd.hAdd _ _ _ _ (@addN (@addN (0 : Nat) (@Option.some Int (@mmI Bool.true (@Go.IntKind.wrap Go.IntKind.i64 (@HSub.hSub Int Int Int _ (@LogA.frm x) (1 : Int))) (Nat.cast (@List.length CommitD (@LogA.C x)) : Int)))) (@Option.none Int)) (@cutN (@cutN (@List.length CommitD (@LogA.C x)) (@Option.some Int (@mmI Bool.true (@Go.IntKind.wrap Go.IntKind.i64 (@HSub.hSub Int Int Int _ (@LogA.frm x) (1 : Int))) (Nat.cast (@List.length CommitD (@LogA.C x)) : Int))) (@Option.none Int)) (@Option.none Int) (@Option.some Int (@mmI Bool.true (@mmI Bool.true (Nat.cast (@cutN (@List.length CommitD (@LogA.C x)) (@Option.some Int (@mmI Bool.true (@Go.IntKind.wrap Go.IntKind.i64 (@HSub.hSub Int Int Int _ (@LogA.frm x) (1 : Int))) (Nat.cast (@List.length CommitD (@LogA.C x)) : Int))) (@Option.none Int)) : Int) (@LogA.many x)) (32 : Int))))) (@List.length CommitD (@LogA.C x))) _) (@Decidable.decide (@LE.le Nat _ (@HAdd.hAdd _ _ _ _ (0 : Nat) (0 : Nat)) (@List.length CommitD (@List.nil CommitD))) _)) (@Decidable.decide (@LE.le Nat _ (@HMul.hMul _ _ _ _ (@HAdd.hAdd _ _ _ _ (0 : Nat) (@List.length CommitD (@List.take CommitD (@cutN (@cutN (@List.length CommitD (@LogA.C x)) (@Option.some Int (@mmI Bool.true (@Go.IntKind.wrap Go.IntKind.i64 (@HSub.hSub Int Int Int _ (@LogA.frm x) (1 : Int))) (Nat.cast (@List.length CommitD (@LogA.C x)) : Int))) (@Option.none Int)) (@Option.none Int) (@Option.some Int (@mmI Bool.true (@mmI Bool.true (Nat.cast (@cutN (@List.length CommitD (@LogA.C x)) (@Option.some Int (@mmI Bool.true (@Go.IntKind.wrap Go.IntKind.i64 (@HSub.hSub Int Int Int _ (@LogA.frm x) (1 : Int))) (Nat.cast (@List.length CommitD (@LogA.C x)) : Int))) (@Option.none Int)) : Int) (@LogA.many x)) (32 : Int)))) (@List.drop CommitD (@addN (@addN (0 : Nat) (@Option.some Int (@mmI Bool.true (@Go.IntKind.wrap Go.IntKind.i64 (@HSub.hSub Int Int Int _ (@LogA.frm x) (1 : Int))) (Nat.cast (@List.length CommitD (@LogA.C x)) : Int)))) (@Option.none Int)) (@LogA.C x))))) (56 : Nat)) room47) _))
 ((@LE.le Nat _ (@HMul.hMul _ _ _ _ (@HAdd.hAdd _ _ _ _ (0 : Nat) (@List.length CommitD (@List.take CommitD (@cutN (@cutN (@List.length CommitD (@LogA.C x)) (@Option.some Int (@mmI Bool.true (@Go.IntKind.wrap Go.IntKind.i64 (@HSub.hSub Int Int Int _ (@LogA.frm x) (1 : Int))) (Nat.cast (@List.length CommitD (@LogA.C x)) : Int))) (@Option.none Int)) (@Option.none Int) (@Option.some Int (@mmI Bool.true (@mmI Bool.true (Nat.cast (@cutN (@List.length CommitD (@LogA.C x)) (@Option.some Int (@mmI Bool.true (@Go.IntKind.wrap Go.IntKind.i64 (@HSub.hSub Int Int Int _ (@LogA.frm x) (1 : Int))) (Nat.cast (@List.length CommitD (@LogA.C x)) : Int))) (@Option.none Int)) : Int) (@LogA.many x)) (32 : Int)))) (@List.drop CommitD (@addN (@addN (0 : Nat) (@Option.some Int (@mmI Bool.true (@Go.IntKind.wrap Go.IntKind.i64 (@HSub.hSub Int Int Int _ (@LogA.frm x) (1 : Int))) (Nat.cast (@List.length CommitD (@LogA.C x)) : Int)))) (@Option.none Int)) (@LogA.C x))))) (56 : Nat)) room47) →
 ((∃ x7 : Nat,
 ((@Eq Int (0 : Int) (Nat.cast x7 : Int)) ∧
 ((@Eq (@List CommitD) (@HAppend.hAppend (@List CommitD) (@List CommitD) (@List CommitD) _ (@List.take CommitD (0 : Nat) (@List.drop CommitD (0 : Nat) (@List.nil CommitD))) (@List.take CommitD (@cutN (@cutN (@List.length CommitD (@LogA.C x)) (@Option.some Int (@mmI Bool.true (@Go.IntKind.wrap Go.IntKind.i64 (@HSub.hSub Int Int Int _ (@LogA.frm x) (1 : Int))) (Nat.cast (@List.length CommitD (@LogA.C x)) : Int))) (@Option.none Int)) (@Option.none Int) (@Option.some Int (@mmI Bool.true (@mmI Bool.true (Nat.cast (@cutN (@List.length CommitD (@LogA.C x)) (@Option.some Int (@mmI Bool.true (@Go.IntKind.wrap Go.IntKind.i64 (@HSub.hSub Int Int Int _ (@LogA.frm x) (1 : Int))) (Nat.cast (@List.length CommitD (@LogA.C x)) : Int))) (@Option.none Int)) : Int) (@LogA.many x)) (32 : Int)))) (@List.drop CommitD (@addN (@addN (0 : Nat) (@Option.some Int (@mmI Bool.true (@Go.IntKind.wrap Go.IntKind.i64 (@HSub.hSub Int Int Int _ (@LogA.frm x) (1 : Int))) (Nat.cast (@List.length CommitD (@LogA.C x)) : Int)))) (@Option.none Int)) (@LogA.C x)))) (@HAppend.hAppend (@List CommitD) (@List CommitD) (@List CommitD) _ (@List.take CommitD (0 : Nat) (@List.drop CommitD (0 : Nat) (@List.nil CommitD))) (@List.take CommitD (@cutN (@cutN (@List.length CommitD (@LogA.C x)) (@Option.some Int (@mmI Bool.true (@Go.IntKind.wrap Go.IntKind.i64 (@HSub.hSub Int Int Int _ (@LogA.frm x) (1 : Int))) (Nat.cast (@List.length CommitD (@LogA.C x)) : Int))) (@Option.none Int)) (@Option.none Int) (@Option.some Int (@mmI Bool.true (@mmI Bool.true (Nat.cast (@cutN (@List.length CommitD (@LogA.C x)) (@Option.some Int (@mmI Bool.true (@Go.IntKind.wrap Go.IntKind.i64 (@HSub.hSub Int Int Int _ (@LogA.frm x) (1 : Int))) (Nat.cast (@List.length CommitD (@LogA.C x)) : Int))) (@Option.none Int)) : Int) (@LogA.many x)) (32 : Int)))) (@List.drop CommitD (@addN (@addN (0 : Nat) (@Option.some Int (@mmI Bool.true (@Go.IntKind.wrap Go.IntKind.i64 (@HSub.hSub Int Int Int _ (@LogA.frm x) (1 : Int))) (Nat.cast (@List.length CommitD (@LogA.C x)) : Int)))) (@Option.none Int)) (@LogA.C x))))) ∧
 (@Nat.le x7 (@HAdd.hAdd _ _ _ _ (0 : Nat) (@List.length CommitD (@List.take CommitD (@cutN (@cutN (@List.length CommitD (@LogA.C x)) (@Option.some Int (@mmI Bool.true (@Go.IntKind.wrap Go.IntKind.i64 (@HSub.hSub Int Int Int _ (@LogA.frm x) (1 : Int))) (Nat.cast (@List.length CommitD (@LogA.C x)) : Int))) (@Option.none Int)) (@Option.none Int) (@Option.some Int (@mmI Bool.true (@mmI Bool.true (Nat.cast (@cutN (@List.length CommitD (@LogA.C x)) (@Option.some Int (@mmI Bool.true (@Go.IntKind.wrap Go.IntKind.i64 (@HSub.hSub Int Int Int _ (@LogA.frm x) (1 : Int))) (Nat.cast (@List.length CommitD (@LogA.C x)) : Int))) (@Option.none Int)) : Int) (@LogA.many x)) (32 : Int)))) (@List.drop CommitD (@addN (@addN (0 : Nat) (@Option.some Int (@mmI Bool.true (@Go.IntKind.wrap Go.IntKind.i64 (@HSub.hSub Int Int Int _ (@LogA.frm x) (1 : Int))) (Nat.cast (@List.length CommitD (@LogA.C x)) : Int)))) (@Option.none Int)) (@LogA.C x))))))))) ∧
 (∀ x8 : Nat,
 ((@Nat.le x8 (@HAdd.hAdd _ _ _ _ (0 : Nat) (@List.length CommitD (@List.take CommitD (@cutN (@cutN (@List.length CommitD (@LogA.C x)) (@Option.some Int (@mmI Bool.true (@Go.IntKind.wrap Go.IntKind.i64 (@HSub.hSub Int Int Int _ (@LogA.frm x) (1 : Int))) (Nat.cast (@List.length CommitD (@LogA.C x)) : Int))) (@Option.none Int)) (@Option.none Int) (@Option.some Int (@mmI Bool.true (@mmI Bool.true (Nat.cast (@cutN (@List.length CommitD (@LogA.C x)) (@Option.some Int (@mmI Bool.true (@Go.IntKind.wrap Go.IntKind.i64 (@HSub.hSub Int Int Int _ (@LogA.frm x) (1 : Int))) (Nat.cast (@List.length CommitD (@LogA.C x)) : Int))) (@Option.none Int)) : Int) (@LogA.many x)) (32 : Int)))) (@List.drop CommitD (@addN (@addN (0 : Nat) (@Option.some Int (@mmI Bool.true (@Go.IntKind.wrap Go.IntKind.i64 (@HSub.hSub Int Int Int _ (@LogA.frm x) (1 : Int))) (Nat.cast (@List.length CommitD (@LogA.C x)) : Int)))) (@Option.none Int)) (@LogA.C x)))))) →
 (br (@Decidable.decide (@LT.lt Int _ (Nat.cast x8 : Int) (Nat.cast (@HAdd.hAdd _ _ _ _ (0 : Nat) (@List.length CommitD (@List.take CommitD (@cutN (@cutN (@List.length CommitD (@LogA.C x)) (@Option.some Int (@mmI Bool.true (@Go.IntKind.wrap Go.IntKind.i64 (@HSub.hSub Int Int Int _ (@LogA.frm x) (1 : Int))) (Nat.cast (@List.length CommitD (@LogA.C x)) : Int))) (@Option.none Int)) (@Option.none Int) (@Option.some Int (@mmI Bool.true (@mmI Bool.true (Nat.cast (@cutN (@List.length CommitD (@LogA.C x)) (@Option.some Int (@mmI Bool.true (@Go.IntKind.wrap Go.IntKind.i64 (@HSub.hSub Int Int Int _ (@LogA.frm x) (1 : Int))) (Nat.cast (@List.length CommitD (@LogA.C x)) : Int))) (@Option.none Int)) : Int) (@LogA.many x)) (32 : Int)))) (@List.drop CommitD (@addN (@addN (0 : Nat) (@Option.some Int (@mmI Bool.true (@Go.IntKind.wrap Go.IntKind.i64 (@HSub.hSub Int Int Int _ (@LogA.frm x) (1 : Int))) (Nat.cast (@List.length CommitD (@LogA.C x)) : Int)))) (@Option.none Int)) (@LogA.C x))))) : Int)) _)
 (br (@Decidable.decide ((@LE.le Int _ (0 : Int) (Nat.cast x8 : Int)) ∧
 (@LT.lt Int _ (Nat.cast x8 : Int) (Nat.cast (@HAdd.hAdd _ _ _ _ (0 : Nat) (@List.length CommitD (@List.take CommitD (@cutN (@cutN (@List.length CommitD (@LogA.C x)) (@Option.some Int (@mmI Bool.true (@Go.IntKind.wrap Go.IntKind.i64 (@HSub.hSub Int Int Int _ (@LogA.frm x) (1 : Int))) (Nat.cast (@List.length CommitD (@LogA.C x)) : Int))) (@Option.none Int)) (@Option.none Int) (@Option.some Int (@mmI Bool.true (@mmI Bool.true (Nat.cast (@cutN (@List.length CommitD (@LogA.C x)) (@Option.some Int (@mmI Bool.true (@Go.IntKind.wrap Go.IntKind.i64 (@HSub.hSub Int Int Int _ (@LogA.frm x) (1 : Int))) (Nat.cast (@List.length CommitD (@LogA.C x)) : Int))) (@Option.none Int)) : Int) (@LogA.many x)) (32 : Int)))) (@List.drop CommitD (@addN (@addN (0 : Nat) (@Option.some Int (@mmI Bool.true (@Go.IntKind.wrap Go.IntKind.i64 (@HSub.hSub Int Int Int _ (@LogA.frm x) (1 : Int))) (Nat.cast (@List.length CommitD (@LogA.C x)) : Int)))) (@Option.none Int)) (@LogA.C x))))) : Int))) _)
 (br (@Decidable.decide (@LT.lt Nat _ (@HAdd.hAdd _ _ _ _ (0 : Nat) (@Int.toNat (Nat.cast x8 : Int))) (@List.length CommitD (@HAppend.hAppend (@List CommitD) (@List CommitD) (@List CommitD) _ (@List.take CommitD (0 : Nat) (@List.drop CommitD (0 : Nat) (@List.nil CommitD))) (@List.take CommitD (@cutN (@cutN (@List.length CommitD (@LogA.C x)) (@Option.some Int (@mmI Bool.true (@Go.IntKind.wrap Go.IntKind.i64 (@HSub.hSub Int Int Int _ (@LogA.frm x) (1 : Int))) (Nat.cast (@List.length CommitD (@LogA.C x)) : Int))) (@Option.none Int)) (@Option.none Int) (@Option.some Int (@mmI Bool.true (@mmI Bool.true (Nat.cast (@cutN (@List.length CommitD (@LogA.C x)) (@Option.some Int (@mmI Bool.true (@Go.IntKind.wrap Go.IntKind.i64 (@HSub.hSub Int Int Int _ (@LogA.frm x) (1 : Int))) (Nat.cast (@List.length CommitD (@LogA.C x)) : Int))) (@Option.none Int)) : Int) (@LogA.many x)) (32 : Int)))) (@List.drop CommitD (@addN (@addN (0 : Nat) (@Option.some Int (@mmI Bool.true (@Go.IntKind.wrap Go.IntKind.i64 (@HSub.hSub Int Int Int _ (@LogA.frm x) (1 : Int))) (Nat.cast (@List.length CommitD (@LogA.C x)) : Int)))) (@Option.none Int)) (@LogA.C x)))))) _)
 (∀ x9 : Bool,
 (((@Eq Bool x9 Bool.true) →
 (@Eq (@List ChangeD) (@CommitD.changes (@List.getD CommitD (@HAppend.hAppend (@List CommitD) (@List CommitD) (@List CommitD) _ (@List.take CommitD (0 : Nat) (@List.drop CommitD (0 : Nat) (@List.nil CommitD))) (@List.take CommitD (@cutN (@cutN (@List.length CommitD (@LogA.C x)) (@Option.some Int (@mmI Bool.true (@Go.IntKind.wrap Go.IntKind.i64 (@HSub.hSub Int Int Int _ (@LogA.frm x) (1 : Int))) (Nat.cast (@List.length CommitD (@LogA.C x)) : Int))) (@Option.none Int)) (@Option.none Int) (@Option.some Int (@mmI Bool.true (@mmI Bool.true (Nat.cast (@cutN (@List.length CommitD (@LogA.C x)) (@Option.some Int (@mmI Bool.true (@Go.IntKind.wrap Go.IntKind.i64 (@HSub.hSub Int Int Int _ (@LogA.frm x) (1 : Int))) (Nat.cast (@List.length CommitD (@LogA.C x)) : Int))) (@Option.none Int)) : Int) (@LogA.many x)) (32 : Int)))) (@List.drop CommitD (@addN (@addN (0 : Nat) (@Option.some Int (@mmI Bool.true (@Go.IntKind.wrap Go.IntKind.i64 (@HSub.hSub Int Int Int _ (@LogA.frm x) (1 : Int))) (Nat.cast (@List.length CommitD (@LogA.C x)) : Int)))) (@Option.none Int)) (@LogA.C x)))) (@HAdd.hAdd _ _ _ _ (0 : Nat) (@Int.toNat (Nat.cast x8 : Int))) (@CommitD.mk (0 : Int) (0 : Int) (@List.nil UInt8) (@List.nil ChangeD)))) (@List.nil ChangeD))) →
 (br x9
 (br (@Decidable.decide ((@LE.le Int _ (0 : Int) (Nat.cast x8 : Int)) ∧
 (@LT.lt Int _ (Nat.cast x8 : Int) (Nat.cast (@HAdd.hAdd _ _ _ _ (0 : Nat) (@List.length CommitD (@List.take CommitD (@cutN (@cutN (@List.length CommitD (@LogA.C x)) (@Option.some Int (@mmI Bool.true (@Go.IntKind.wrap Go.IntKind.i64 (@HSub.hSub Int Int Int _ (@LogA.frm x) (1 : Int))) (Nat.cast (@List.length CommitD (@LogA.C x)) : Int))) (@Option.none Int)) (@Option.none Int) (@Option.some Int (@mmI Bool.true (@mmI Bool.true (Nat.cast (@cutN (@List.length CommitD (@LogA.C x)) (@Option.some Int (@mmI Bool.true (@Go.IntKind.wrap Go.IntKind.i64 (@HSub.hSub Int Int Int _ (@LogA.frm x) (1 : Int))) (Nat.cast (@List.length CommitD (@LogA.C x)) : Int))) (@Option.none Int)) : Int) (@LogA.many x)) (32 : Int)))) (@List.drop CommitD (@addN (@addN (0 : Nat) (@Option.some Int (@mmI Bool.true (@Go.IntKind.wrap Go.IntKind.i64 (@HSub.hSub Int Int Int _ (@LogA.frm x) (1 : Int))) (Nat.cast (@List.length CommitD (@LogA.C x)) : Int)))) (@Option.none Int)) (@LogA.C x))))) : Int))) _)
 (br (@Bool.and Bool.true (@Decidable.decide (@LT.lt Nat _ (@HAdd.hAdd _ _ _ _ (0 : Nat) (@Int.toNat (Nat.cast x8 : Int))) (@List.length CommitD (@HAppend.hAppend (@List CommitD) (@List CommitD) (@List CommitD) _ (@List.take CommitD (0 : Nat) (@List.drop CommitD (0 : Nat) (@List.nil CommitD))) (@List.take CommitD (@cutN (@cutN (@List.length CommitD (@LogA.C x)) (@Option.some Int (@mmI Bool.true (@Go.IntKind.wrap Go.IntKind.i64 (@HSub.hSub Int Int Int _ (@LogA.frm x) (1 : Int))) (Nat.cast (@List.length CommitD (@LogA.C x)) : Int))) (@Option.none Int)) (@Option.none Int) (@Option.some Int (@mmI Bool.true (@mmI Bool.true (Nat.cast (@cutN (@List.length CommitD (@LogA.C x)) (@Option.some Int (@mmI Bool.true (@Go.IntKind.wrap Go.IntKind.i64 (@HSub.hSub Int Int Int _ (@LogA.frm x) (1 : Int))) (Nat.cast (@List.length CommitD (@LogA.C x)) : Int))) (@Option.none Int)) : Int) (@LogA.many x)) (32 : Int)))) (@List.drop CommitD (@addN (@addN (0 : Nat) (@Option.some Int (@mmI Bool.true (@Go.IntKind.wrap Go.IntKind.i64 (@HSub.hSub Int Int Int _ (@LogA.frm x) (1 : Int))) (Nat.cast (@List.length CommitD (@LogA.C x)) : Int)))) (@Option.none Int)) (@LogA.C x)))))) _))
 (∃ x10 : Nat,
 ((@Eq Int (@Go.IntKind.wrap Go.IntKind.i64 (@HAdd.hAdd Int Int Int _ (Nat.cast x8 : Int) (1 : Int))) (Nat.cast x10 : Int)) ∧
 ((@Eq (@List CommitD) (@List.set CommitD (@HAppend.hAppend (@List CommitD) (@List CommitD) (@List CommitD) _ (@List.take CommitD (0 : Nat) (@List.drop CommitD (0 : Nat) (@List.nil CommitD))) (@List.take CommitD (@cutN (@cutN (@List.length CommitD (@LogA.C x)) (@Option.some Int (@mmI Bool.true (@Go.IntKind.wrap Go.IntKind.i64 (@HSub.hSub Int Int Int _ (@LogA.frm x) (1 : Int))) (Nat.cast (@List.length CommitD (@LogA.C x)) : Int))) (@Option.none Int)) (@Option.none Int) (@Option.some Int (@mmI Bool.true (@mmI Bool.true (Nat.cast (@cutN (@List.length CommitD (@LogA.C x)) (@Option.some Int (@mmI Bool.true (@Go.IntKind.wrap Go.IntKind.i64 (@HSub.hSub Int Int Int _ (@LogA.frm x) (1 : Int))) (Nat.cast (@List.length CommitD (@LogA.C x)) : Int))) (@Option.none Int)) : Int) (@LogA.many x)) (32 : Int)))) (@List.drop CommitD (@addN (@addN (0 : Nat) (@Option.some Int (@mmI Bool.true (@Go.IntKind.wrap Go.IntKind.i64 (@HSub.hSub Int Int Int _ (@LogA.frm x) (1 : Int))) (Nat.cast (@List.length CommitD (@LogA.C x)) : Int)))) (@Option.none Int)) (@LogA.C x)))) (@HAdd.hAdd _ _ _ _ (0 : Nat) (@Int.toNat (Nat.cast x8 : Int))) (@CommitD.mk (@CommitD.rev (@List.getD CommitD (@HAppend.hAppend (@List CommitD) (@List CommitD) (@List CommitD) _ (@List.take CommitD (0 : Nat) (@List.drop CommitD (0 : Nat) (@List.nil CommitD))) (@List.take CommitD (@cutN (@cutN (@List.length CommitD (@LogA.C x)) (@Option.some Int (@mmI Bool.true (@Go.IntKind.wrap Go.IntKind.i64 (@HSub.hSub Int Int Int _ (@LogA.frm x) (1 : Int))) (Nat.cast (@List.length CommitD (@LogA.C x)) : Int))) (@Option.none Int)) (@Option.none Int) (@Option.some Int (@mmI Bool.true (@mmI Bool.true (Nat.cast (@cutN (@List.length CommitD (@LogA.C x)) (@Option.some Int (@mmI Bool.true (@Go.IntKind.wrap Go.IntKind.i64 (@HSub.hSub Int Int Int _ (@LogA.frm x) (1 : Int))) (Nat.cast (@List.length CommitD (@LogA.C x)) : Int))) (@Option.none Int)) : Int) (@LogA.many x)) (32 : Int)))) (@List.drop CommitD (@addN (@addN (0 : Nat) (@Option.some Int (@mmI Bool.true (@Go.IntKind.wrap Go.IntKind.i64 (@HSub.hSub Int Int Int _ (@LogA.frm x) (1 : Int))) (Nat.cast (@List.length CommitD (@LogA.C x)) : Int)))) (@Option.none Int)) (@LogA.C x)))) (@HAdd.hAdd _ _ _ _ (0 : Nat) (@Int.toNat (Nat.cast x8 : Int))) (@CommitD.mk (0 : Int) (0 : Int) (@List.nil UInt8) (@List.nil ChangeD)))) (@CommitD.base (@List.getD CommitD (@HAppend.hAppend (@List CommitD) (@List CommitD) (@List CommitD) _ (@List.take CommitD (0 : Nat) (@List.drop CommitD (0 : Nat) (@List.nil CommitD))) (@List.take CommitD (@cutN (@cutN (@List.length CommitD (@LogA.C x)) (@Option.some Int (@mmI Bool.true (@Go.IntKind.wrap Go.IntKind.i64 (@HSub.hSub Int Int Int _ (@LogA.frm x) (1 : Int))) (Nat.cast (@List.length CommitD (@LogA.C x)) : Int))) (@Option.none Int)) (@Option.none Int) (@Option.some Int (@mmI Bool.true (@mmI Bool.true (Nat.cast (@cutN (@List.length CommitD (@LogA.C x)) (@Option.some Int (@mmI Bool.true (@Go.IntKind.wrap Go.IntKind.i64 (@HSub.hSub Int Int Int _ (@LogA.frm x) (1 : Int))) (Nat.cast (@List.length CommitD (@LogA.C x)) : Int))) (@Option.none Int)) : Int) (@LogA.many x)) (32 : Int)))) (@List.drop CommitD (@addN (@addN (0 : Nat) (@Option.some Int (@mmI Bool.true (@Go.IntKind.wrap Go.IntKind.i64 (@HSub.hSub Int Int Int _ (@LogA.frm x) (1 : Int))) (Nat.cast (@List.length CommitD (@LogA.C x)) : Int)))) (@Option.none Int)) (@LogA.C x)))) (@HAdd.hAdd _ _ _ _ (0 : Nat) (@Int.toNat (Nat.cast x8 : Int))) (@CommitD.mk (0 : Int) (0 : Int) (@List.nil UInt8) (@List.nil ChangeD)))) (@CommitD.ref (@List.getD CommitD (@HAppend.hAppend (@List CommitD) (@List CommitD) (@List CommitD) _ (@List.take CommitD (0 : Nat) (@List.drop CommitD (0 : Nat) (@List.nil CommitD))) (@List.take CommitD (@cutN (@cutN (@List.length CommitD (@LogA.C x)) (@Option.some Int (@mmI Bool.true (@Go.IntKind.wrap Go.IntKind.i64 (@HSub.hSub Int Int Int _ (@LogA.frm x) (1 : Int))) (Nat.cast (@List.length CommitD (@LogA.C x)) : Int))) (@Option.none Int)) (@Option.none Int) (@Option.some Int (@mmI Bool.true (@mmI Bool.true (Nat.cast (@cutN (@List.length CommitD (@LogA.C x)) (@Option.some Int (@mmI Bool.true (@Go.IntKind.wrap Go.IntKind.i64 (@HSub.hSub Int Int Int _ (@LogA.frm x) (1 : Int))) (Nat.cast (@List.length CommitD (@LogA.C x)) : Int))) (@Option.none Int)) : Int) (@LogA.many x)) (32 : Int)))) (@List.drop CommitD (@addN (@addN (0 : Nat) (@Option.some Int (@mmI Bool.true (@Go.IntKind.wrap Go.IntKind.i64 (@HSub.hSub Int Int Int _ (@LogA.frm x) (1 : Int))) (Nat.cast (@List.length CommitD (@LogA.C x)) : Int)))) (@Option.none Int)) (@LogA.C x)))) (@HAdd.hAdd _ _ _ _ (0 : Nat) (@Int.toNat (Nat.cast x8 : Int))) (@CommitD.mk (0 : Int) (0 : Int) (@List.nil UInt8) (@List.nil ChangeD)))) (@List.nil ChangeD))) (@HAppend.hAppend (@List CommitD) (@List CommitD) (@List CommitD) _ (@List.take CommitD (0 : Nat) (@List.drop CommitD (0 : Nat) (@List.nil CommitD))) (@List.take CommitD (@cutN (@cutN (@List.length CommitD (@LogA.C x)) (@Option.some Int (@mmI Bool.true (@Go.IntKind.wrap Go.IntKind.i64 (@HSub.hSub Int Int Int _ (@LogA.frm x) (1 : Int))) (Nat.cast (@List.length CommitD (@LogA.C x)) : Int))) (@Option.none Int)) (@Option.none Int) (@Option.some Int (@mmI Bool.true (@mmI Bool.true (Nat.cast (@cutN (@List.length CommitD (@LogA.C x)) (@Option.some Int (@mmI Bool.true (@Go.IntKind.wrap Go.IntKind.i64 (@HSub.hSub Int Int Int _ (@LogA.frm x) (1 : Int))) (Nat.cast (@List.length CommitD (@LogA.C x)) : Int))) (@Option.none Int)) : Int) (@LogA.many x)) (32 : Int)))) (@List.drop CommitD (@addN (@addN (0 : Nat) (@Option.some Int (@mmI Bool.true (@Go.IntKind.wrap Go.IntKind.i64 (@HSub.hSub Int Int Int _ (@LogA.frm x) (1 : Int))) (Nat.cast (@List.length CommitD (@LogA.C x)) : Int)))) (@Option.none Int)) (@LogA.C x))))) ∧
 ((@Nat.le x10 (@HAdd.hAdd _ _ _ _ (0 : Nat) (@List.length CommitD (@List.take CommitD (@cutN (@cutN (@List.length CommitD (@LogA.C x)) (@Option.some Int (@mmI Bool.true (@Go.IntKind.wrap Go.IntKind.i64 (@HSub.hSub Int Int Int _ (@LogA.frm x) (1 : Int))) (Nat.cast (@List.length CommitD (@LogA.C x)) : Int))) (@Option.none Int)) (@Option.none Int) (@Option.some Int (@mmI Bool.true (@mmI Bool.true (Nat.cast (@cutN (@List.length CommitD (@LogA.C x)) (@Option.some Int (@mmI Bool.true (@Go.IntKind.wrap Go.IntKind.i64 (@HSub.hSub Int Int Int _ (@LogA.frm x) (1 : Int))) (Nat.cast (@List.length CommitD (@LogA.C x)) : Int))) (@Option.none Int)) : Int) (@LogA.many x)) (32 : Int)))) (@List.drop CommitD (@addN (@addN (0 : Nat) (@Option.some Int (@mmI Bool.true (@Go.IntKind.wrap Go.IntKind.i64 (@HSub.hSub Int Int Int _ (@LogA.frm x) (1 : Int))) (Nat.cast (@List.length CommitD (@LogA.C x)) : Int)))) (@Option.none Int)) (@LogA.C x)))))) ∧
 (@LT.lt Nat _ (@Nat.sub (@HAdd.hAdd _ _ _ _ (0 : Nat) (@List.length CommitD (@List.take CommitD (@cutN (@cutN (@List.length CommitD (@LogA.C x)) (@Option.some Int (@mmI Bool.true (@Go.IntKind.wrap Go.IntKind.i64 (@HSub.hSub Int Int Int _ (@LogA.frm x) (1 : Int))) (Nat.cast (@List.length CommitD (@LogA.C x)) : Int))) (@Option.none Int)) (@Option.none Int) (@Option.some Int (@mmI Bool.true (@mmI Bool.true (Nat.cast (@cutN (@List.length CommitD (@LogA.C x)) (@Option.some Int (@mmI Bool.true (@Go.IntKind.wrap Go.IntKind.i64 (@HSub.hSub Int Int Int _ (@LogA.frm x) (1 : Int))) (Nat.cast (@List.length CommitD (@LogA.C x)) : Int))) (@Option.none Int)) : Int) (@LogA.many x)) (32 : Int)))) (@List.drop CommitD (@addN (@addN (0 : Nat) (@Option.some Int (@mmI Bool.true (@Go.IntKind.wrap Go.IntKind.i64 (@HSub.hSub Int Int Int _ (@LogA.frm x) (1 : Int))) (Nat.cast (@List.length CommitD (@LogA.C x)) : Int)))) (@Option.none Int)) (@LogA.C x))))) x10) (@Nat.sub (@HAdd.hAdd _ _ _ _ (0 : Nat) (@List.length CommitD (@List.take CommitD (@cutN (@cutN (@List.length CommitD (@LogA.C x)) (@Option.some Int (@mmI Bool.true (@Go.IntKind.wrap Go.IntKind.i64 (@HSub.hSub Int Int Int _ (@LogA.frm x) (1 : Int))) (Nat.cast (@List.length CommitD (@LogA.C x)) : Int))) (@Option.none Int)) (@Option.none Int) (@Option.some Int (@mmI Bool.true (@mmI Bool.true (Nat.cast (@cutN (@List.length CommitD (@LogA.C x)) (@Option.some Int (@mmI Bool.true (@Go.IntKind.wrap Go.IntKind.i64 (@HSub.hSub Int Int Int _ (@LogA.frm x) (1 : Int))) (Nat.cast (@List.length CommitD (@LogA.C x)) : Int))) (@Option.none Int)) : Int) (@LogA.many x)) (32 : Int)))) (@List.drop CommitD (@addN (@addN (0 : Nat) (@Option.some Int (@mmI Bool.true (@Go.IntKind.wrap Go.IntKind.i64 (@HSub.hSub Int Int Int _ (@LogA.frm x) (1 : Int))) (Nat.cast (@List.length CommitD (@LogA.C x)) : Int)))) (@Option.none Int)) (@LogA.C x))))) x8))))))
 (Bad "check" "graph.go:105"))
 (Bad "check" "graph.go:105"))
 (((@Nat.le (@HMul.hMul _ _ _ _ (0 : Nat) (32 : Nat)) room47) ∧
 (@Nat.le (@HMul.hMul _ _ _ _ (@List.length ChangeD (@CommitD.changes (@List.getD CommitD (@HAppend.hAppend (@List CommitD) (@List CommitD) (@List CommitD) _ (@List.take CommitD (0 : Nat) (@List.drop CommitD (0 : Nat) (@List.nil CommitD))) (@List.take CommitD (@cutN (@cutN (@List.length CommitD (@LogA.C x)) (@Option.some Int (@mmI Bool.true (@Go.IntKind.wrap Go.IntKind.i64 (@HSub.hSub Int Int Int _ (@LogA.frm x) (1 : Int))) (Nat.cast (@List.length CommitD (@LogA.C x)) : Int))) (@Option.none Int)) (@Option.none Int) (@Option.some Int (@mmI Bool.true (@mmI Bool.true (Nat.cast (@cutN (@List.length CommitD (@LogA.C x)) (@Option.some Int (@mmI Bool.true (@Go.IntKind.wrap Go.IntKind.i64 (@HSub.hSub Int Int Int _ (@LogA.frm x) (1 : Int))) (Nat.cast (@List.length CommitD (@LogA.C x)) : Int))) (@Option.none Int)) : Int) (@LogA.many x)) (32 : Int)))) (@List.drop CommitD (@addN (@addN (0 : Nat) (@Option.some Int (@mmI Bool.true (@Go.IntKind.wrap Go.IntKind.i64 (@HSub.hSub Int Int Int _ (@LogA.frm x) (1 : Int))) (Nat.cast (@List.length CommitD (@LogA.C x)) : Int)))) (@Option.none Int)) (@LogA.C x)))) (@HAdd.hAdd _ _ _ _ (0 : Nat) (@Int.toNat (Nat.cast x8 : Int))) (@CommitD.mk (0 : Int) (0 : Int) (@List.nil UInt8) (@List.nil ChangeD))))) (32 : Nat)) room47)) →
 (br (@Bool.and (@Bool.and Bool.true (@Decidable.decide (@LE.le Nat _ (@HAdd.hAdd _ _ _ _ (0 : Nat) (0 : Nat)) (@List.length ChangeD (@List.nil ChangeD))) _)) (@Decidable.decide (@LE.le Nat _ (@HMul.hMul _ _ _ _ (@HAdd.hAdd _ _ _ _ (0 : Nat) (@List.length ChangeD (@CommitD.changes (@List.getD CommitD (@HAppend.hAppend (@List CommitD) (@List CommitD) (@List CommitD) _ (@List.take CommitD (0 : Nat) (@List.drop CommitD (0 : Nat) (@List.nil CommitD))) (@List.take CommitD (@cutN (@cutN (@List.length CommitD (@LogA.C x)) (@Option.some Int (@mmI Bool.true (@Go.IntKind.wrap Go.IntKind.i64 (@HSub.hSub Int Int Int _ (@LogA.frm x) (1 : Int))) (Nat.cast (@List.length CommitD (@LogA.C x)) : Int))) (@Option.none Int)) (@Option.none Int) (@Option.some Int (@mmI Bool.true (@mmI Bool.true (Nat.cast (@cutN (@List.length CommitD (@LogA.C x)) (@Option.some Int (@mmI Bool.true (@Go.IntKind.wrap Go.IntKind.i64 (@HSub.hSub Int Int Int _ (@LogA.frm x) (1 : Int))) (Nat.cast (@List.length CommitD (@LogA.C x)) : Int))) (@Option.none Int)) : Int) (@LogA.many x)) (32 : Int)))) (@List.drop CommitD (@addN (@addN (0 : Nat) (@Option.some Int (@mmI Bool.true (@Go.IntKind.wrap Go.IntKind.i64 (@HSub.hSub Int Int Int _ (@LogA.frm x) (1 : Int))) (Nat.cast (@List.length CommitD (@LogA.C x)) : Int)))) (@Option.none Int)) (@LogA.C x)))) (@HAdd.hAdd _ _ _ _ (0 : Nat) (@Int.toNat (Nat.cast x8 : Int))) (@CommitD.mk (0 : Int) (0 : Int) (@List.nil UInt8) (@List.nil ChangeD)))))) (32 : Nat)) room47) _))
 (br (@Decidable.decide ((@LE.le Int _ (0 : Int) (Nat.cast x8 : Int)) ∧
 (@LT.lt Int _ (Nat.cast x8 : Int) (Nat.cast (@HAdd.hAdd _ _ _ _ (0 : Nat) (@List.length CommitD (@List.take CommitD (@cutN (@cutN (@List.length CommitD (@LogA.C x)) (@Option.some Int (@mmI Bool.true (@Go.IntKind.wrap Go.IntKind.i64 (@HSub.hSub Int Int Int _ (@LogA.frm x) (1 : Int))) (Nat.cast (@List.length CommitD (@LogA.C x)) : Int))) (@Option.none Int)) (@Option.none Int) (@Option.some Int (@mmI Bool.true (@mmI Bool.true (Nat.cast (@cutN (@List.length CommitD (@LogA.C x)) (@Option.some Int (@mmI Bool.true (@Go.IntKind.wrap Go.IntKind.i64 (@HSub.hSub Int Int Int _ (@LogA.frm x) (1 : Int))) (Nat.cast (@List.length CommitD (@LogA.C x)) : Int))) (@Option.none Int)) : Int) (@LogA.many x)) (32 : Int)))) (@List.drop CommitD (@addN (@addN (0 : Nat) (@Option.some Int (@mmI Bool.true (@Go.IntKind.wrap Go.IntKind.i64 (@HSub.hSub Int Int Int _ (@LogA.frm x) (1 : Int))) (Nat.cast (@List.length CommitD (@LogA.C x)) : Int)))) (@Option.none Int)) (@LogA.C x))))) : Int))) _)
 (br (@Bool.and (@Bool.and (@Decidable.decide (@LE.le Nat _ (@HAdd.hAdd _ _ _ _ (0 : Nat) (@HAdd.hAdd _ _ _ _ (0 : Nat) (@List.length ChangeD (@CommitD.changes (@List.getD CommitD (@HAppend.hAppend (@List CommitD) (@List CommitD) (@List CommitD) _ (@List.take CommitD (0 : Nat) (@List.drop CommitD (0 : Nat) (@List.nil CommitD))) (@List.take CommitD (@cutN (@cutN (@List.length CommitD (@LogA.C x)) (@Option.some Int (@mmI Bool.true (@Go.IntKind.wrap Go.IntKind.i64 (@HSub.hSub Int Int Int _ (@LogA.frm x) (1 : Int))) (Nat.cast (@List.length CommitD (@LogA.C x)) : Int))) (@Option.none Int)) (@Option.none Int) (@Option.some Int (@mmI Bool.true (@mmI Bool.true (Nat.cast (@cutN (@List.length CommitD (@LogA.C x)) (@Option.some Int (@mmI Bool.true (@Go.IntKind.wrap Go.IntKind.i64 (@HSub.hSub Int Int Int _ (@LogA.frm x) (1 : Int))) (Nat.cast (@List.length CommitD (@LogA.C x)) : Int))) (@Option.none Int)) : Int) (@LogA.many x)) (32 : Int)))) (@List.drop CommitD (@addN (@addN (0 : Nat) (@Option.some Int (@mmI Bool.true (@Go.IntKind.wrap Go.IntKind.i64 (@HSub.hSub Int Int Int _ (@LogA.frm x) (1 : Int))) (Nat.cast (@List.length CommitD (@LogA.C x)) : Int)))) (@Option.none Int)) (@LogA.C x)))) (@HAdd.hAdd _ _ _ _ (0 : Nat) (@Int.toNat (Nat.cast x8 : Int))) (@CommitD.mk (0 : Int) (0 : Int) (@List.nil UInt8) (@List.nil ChangeD))))))) (@List.length ChangeD (@HAppend.hAppend (@List ChangeD) (@List ChangeD) (@List ChangeD) _ (@List.take ChangeD (0 : Nat) (@List.drop ChangeD (0 : Nat) (@List.nil ChangeD))) (@CommitD.changes (@List.getD CommitD (@HAppend.hAppend (@List CommitD) (@List CommitD) (@List CommitD) _ (@List.take CommitD (0 : Nat) (@List.drop CommitD (0 : Nat) (@List.nil CommitD))) (@List.take CommitD (@cutN (@cutN (@List.length CommitD (@LogA.C x)) (@Option.some Int (@mmI Bool.true (@Go.IntKind.wrap Go.IntKind.i64 (@HSub.hSub Int Int Int _ (@LogA.frm x) (1 : Int))) (Nat.cast (@List.length CommitD (@LogA.C x)) : Int))) (@Option.none Int)) (@Option.none Int) (@Option.some Int (@mmI Bool.true (@mmI Bool.true (Nat.cast (@cutN (@List.length CommitD (@LogA.C x)) (@Option.some Int (@mmI Bool.true (@Go.IntKind.wrap Go.IntKind.i64 (@HSub.hSub Int Int Int _ (@LogA.frm x) (1 : Int))) (Nat.cast (@List.length CommitD (@LogA.C x)) : Int))) (@Option.none Int)) : Int) (@LogA.many x)) (32 : Int)))) (@List.drop CommitD (@addN (@addN (0 : Nat) (@Option.some Int (@mmI Bool.true (@Go.IntKind.wrap Go.IntKind.i64 (@HSub.hSub Int Int Int _ (@LogA.frm x) (1 : Int))) (Nat.cast (@List.length CommitD (@LogA.C x)) : Int)))) (@Option.none Int)) (@LogA.C x)))) (@HAdd.hAdd _ _ _ _ (0 : Nat) (@Int.toNat (Nat.cast x8 : Int))) (@CommitD.mk (0 : Int) (0 : Int) (@List.nil UInt8) (@List.nil ChangeD))))))) _) Bool.true) (@Decidable.decide (@LT.lt Nat _ (@HAdd.hAdd _ _ _ _ (0 : Nat) (@Int.toNat (Nat.cast x8 : Int))) (@List.length CommitD (@HAppend.hAppend (@List CommitD) (@List CommitD) (@List CommitD) _ (@List.take CommitD (0 : Nat) (@List.drop CommitD (0 : Nat) (@List.nil CommitD))) (@List.take CommitD (@cutN (@cutN (@List.length CommitD (@LogA.C x)) (@Option.some Int (@mmI Bool.true (@Go.IntKind.wrap Go.IntKind.i64 (@HSub.hSub Int Int Int _ (@LogA.frm x) (1 : Int))) (Nat.cast (@List.length CommitD (@LogA.C x)) : Int))) (@Option.none Int)) (@Option.none Int) (@Option.some Int (@mmI Bool.true (@mmI Bool.true (Nat.cast (@cutN (@List.length CommitD (@LogA.C x)) (@Option.some Int (@mmI Bool.true (@Go.IntKind.wrap Go.IntKind.i64 (@HSub.hSub Int Int Int _ (@LogA.frm x) (1 : Int))) (Nat.cast (@List.length CommitD (@LogA.C x)) : Int))) (@Option.none Int)) : Int) (@LogA.many x)) (32 : Int)))) (@List.drop CommitD (@addN (@addN (0 : Nat) (@Option.some Int (@mmI Bool.true (@Go.IntKind.wrap Go.IntKind.i64 (@HSub.hSub Int Int Int _ (@LogA.frm x) (1 : Int))) (Nat.cast (@List.length CommitD (@LogA.C x)) : Int)))) (@Option.none Int)) (@LogA.C x)))))) _))
 (∃ x11 : Nat,
 ((@Eq Int (@Go.IntKind.wrap Go.IntKind.i64 (@HAdd.hAdd Int Int Int _ (Nat.cast x8 : Int) (1 : Int))) (Nat.cast x11 : Int)) ∧
 ((@Eq (@List CommitD) (@List.set CommitD (@HAppend.hAppend (@List CommitD) (@List CommitD) (@List CommitD) _ (@List.take CommitD (0 : Nat) (@List.drop CommitD (0 : Nat) (@List.nil CommitD))) (@List.take CommitD (@cutN (@cutN (@List.length CommitD (@LogA.C x)) (@Option.some Int (@mmI Bool.true (@Go.IntKind.wrap Go.IntKind.i64 (@HSub.hSub Int Int Int _ (@LogA.frm x) (1 : Int))) (Nat.cast (@List.length CommitD (@LogA.C x)) : Int))) (@Option.none Int)) (@Option.none Int) (@Option.some Int (@mmI Bool.true (@mmI Bool.true (Nat.cast (@cutN (@List.length CommitD (@LogA.C x)) (@Option.some Int (@mmI Bool.true (@Go.IntKind.wrap Go.IntKind.i64 (@HSub.hSub Int Int Int _ (@LogA.frm x) (1 : Int))) (Nat.cast (@List.length CommitD (@LogA.C x)) : Int))) (@Option.none Int)) : Int) (@LogA.many x)) (32 : Int)))) (@List.drop CommitD (@addN (@addN (0 : Nat) (@Option.some Int (@mmI Bool.true (@Go.IntKind.wrap Go.IntKind.i64 (@HSub.hSub Int Int Int _ (@LogA.frm x) (1 : Int))) (Nat.cast (@List.length CommitD (@LogA.C x)) : Int)))) (@Option.none Int)) (@LogA.C x)))) (@HAdd.hAdd _ _ _ _ (0 : Nat) (@Int.toNat (Nat.cast x8 : Int))) (@CommitD.mk (@CommitD.rev (@List.getD CommitD (@HAppend.hAppend (@List CommitD) (@List CommitD) (@List CommitD) _ (@List.take CommitD (0 : Nat) (@List.drop CommitD (0 : Nat) (@List.nil CommitD))) (@List.take CommitD (@cutN (@cutN (@List.length CommitD (@LogA.C x)) (@Option.some Int (@mmI Bool.true (@Go.IntKind.wrap Go.IntKind.i64 (@HSub.hSub Int Int Int _ (@LogA.frm x) (1 : Int))) (Nat.cast (@List.length CommitD (@LogA.C x)) : Int))) (@Option.none Int)) (@Option.none Int) (@Option.some Int (@mmI Bool.true (@mmI Bool.true (Nat.cast (@cutN (@List.length CommitD (@LogA.C x)) (@Option.some Int (@mmI Bool.true (@Go.IntKind.wrap Go.IntKind.i64 (@HSub.hSub Int Int Int _ (@LogA.frm x) (1 : Int))) (Nat.cast (@List.length CommitD (@LogA.C x)) : Int))) (@Option.none Int)) : Int) (@LogA.many x)) (32 : Int)))) (@List.drop CommitD (@addN (@addN (0 : Nat) (@Option.some Int (@mmI Bool.true (@Go.IntKind.wrap Go.IntKind.i64 (@HSub.hSub Int Int Int _ (@LogA.frm x) (1 : Int))) (Nat.cast (@List.length CommitD (@LogA.C x)) : Int)))) (@Option.none Int)) (@LogA.C x)))) (@HAdd.hAdd _ _ _ _ (0 : Nat) (@Int.toNat (Nat.cast x8 : Int))) (@CommitD.mk (0 : Int) (0 : Int) (@List.nil UInt8) (@List.nil ChangeD)))) (@CommitD.base (@List.getD CommitD (@HAppend.hAppend (@List CommitD) (@List CommitD) (@List CommitD) _ (@List.take CommitD (0 : Nat) (@List.drop CommitD (0 : Nat) (@List.nil CommitD))) (@List.take CommitD (@cutN (@cutN (@List.length CommitD (@LogA.C x)) (@Option.some Int (@mmI Bool.true (@Go.IntKind.wrap Go.IntKind.i64 (@HSub.hSub Int Int Int _ (@LogA.frm x) (1 : Int))) (Nat.cast (@List.length CommitD (@LogA.C x)) : Int))) (@Option.none Int)) (@Option.none Int) (@Option.some Int (@mmI Bool.true (@mmI Bool.true (Nat.cast (@cutN (@List.length CommitD (@LogA.C x)) (@Option.some Int (@mmI Bool.true (@Go.IntKind.wrap Go.IntKind.i64 (@HSub.hSub Int Int Int _ (@LogA.frm x) (1 : Int))) (Nat.cast (@List.length CommitD (@LogA.C x)) : Int))) (@Option.none Int)) : Int) (@LogA.many x)) (32 : Int)))) (@List.drop CommitD (@addN (@addN (0 : Nat) (@Option.some Int (@mmI Bool.true (@Go.IntKind.wrap Go.IntKind.i64 (@HSub.hSub Int Int Int _ (@LogA.frm x) (1 : Int))) (Nat.cast (@List.length CommitD (@LogA.C x)) : Int)))) (@Option.none Int)) (@LogA.C x)))) (@HAdd.hAdd _ _ _ _ (0 : Nat) (@Int.toNat (Nat.cast x8 : Int))) (@CommitD.mk (0 : Int) (0 : Int) (@List.nil UInt8) (@List.nil ChangeD)))) (@CommitD.ref (@List.getD CommitD (@HAppend.hAppend (@List CommitD) (@List CommitD) (@List CommitD) _ (@List.take CommitD (0 : Nat) (@List.drop CommitD (0 : Nat) (@List.nil CommitD))) (@List.take CommitD (@cutN (@cutN (@List.length CommitD (@LogA.C x)) (@Option.some Int (@mmI Bool.true (@Go.IntKind.wrap Go.IntKind.i64 (@HSub.hSub Int Int Int _ (@LogA.frm x) (1 : Int))) (Nat.cast (@List.length CommitD (@LogA.C x)) : Int))) (@Option.none Int)) (@Option.none Int) (@Option.some Int (@mmI Bool.true (@mmI Bool.true (Nat.cast (@cutN (@List.length CommitD (@LogA.C x)) (@Option.some Int (@mmI Bool.true (@Go.IntKind.wrap Go.IntKind.i64 (@HSub.hSub Int Int Int _ (@LogA.frm x) (1 : Int))) (Nat.cast (@List.length CommitD (@LogA.C x)) : Int))) (@Option.none Int)) : Int) (@LogA.many x)) (32 : Int)))) (@List.drop CommitD (@addN (@addN (0 : Nat) (@Option.some Int (@mmI Bool.true (@Go.IntKind.wrap Go.IntKind.i64 (@HSub.hSub Int Int Int _ (@LogA.frm x) (1 : Int))) (Nat.cast (@List.length CommitD (@LogA.C x)) : Int)))) (@Option.none Int)) (@LogA.C x)))) (@HAdd.hAdd _ _ _ _ (0 : Nat) (@Int.toNat (Nat.cast x8 : Int))) (@CommitD.mk (0 : Int) (0 : Int) (@List.nil UInt8) (@List.nil ChangeD)))) (@List.take ChangeD (@HAdd.hAdd _ _ _ _ (0 : Nat) (@List.length ChangeD (@CommitD.changes (@List.getD CommitD (@HAppend.hAppend (@List CommitD) (@List CommitD) (@List CommitD) _ (@List.take CommitD (0 : Nat) (@List.drop CommitD (0 : Nat) (@List.nil CommitD))) (@List.take CommitD (@cutN (@cutN (@List.length CommitD (@LogA.C x)) (@Option.some Int (@mmI Bool.true (@Go.IntKind.wrap Go.IntKind.i64 (@HSub.hSub Int Int Int _ (@LogA.frm x) (1 : Int))) (Nat.cast (@List.length CommitD (@LogA.C x)) : Int))) (@Option.none Int)) (@Option.none Int) (@Option.some Int (@mmI Bool.true (@mmI Bool.true (Nat.cast (@cutN (@List.length CommitD (@LogA.C x)) (@Option.some Int (@mmI Bool.true (@Go.IntKind.wrap Go.IntKind.i64 (@HSub.hSub Int Int Int _ (@LogA.frm x) (1 : Int))) (Nat.cast (@List.length CommitD (@LogA.C x)) : Int))) (@Option.none Int)) : Int) (@LogA.many x)) (32 : Int)))) (@List.drop CommitD (@addN (@addN (0 : Nat) (@Option.some Int (@mmI Bool.true (@Go.IntKind.wrap Go.IntKind.i64 (@HSub.hSub Int Int Int _ (@LogA.frm x) (1 : Int))) (Nat.cast (@List.length CommitD (@LogA.C x)) : Int)))) (@Option.none Int)) (@LogA.C x)))) (@HAdd.hAdd _ _ _ _ (0 : Nat) (@Int.toNat (Nat.cast x8 : Int))) (@CommitD.mk (0 : Int) (0 : Int) (@List.nil UInt8) (@List.nil ChangeD)))))) (@List.drop ChangeD (0 : Nat) (@HAppend.hAppend (@List ChangeD) (@List ChangeD) (@List ChangeD) _ (@List.take ChangeD (0 : Nat) (@List.drop ChangeD (0 : Nat) (@List.nil ChangeD))) (@CommitD.changes (@List.getD CommitD (@HAppend.hAppend (@List CommitD) (@List CommitD) (@List CommitD) _ (@List.take CommitD (0 : Nat) (@List.drop CommitD (0 : Nat) (@List.nil CommitD))) (@List.take CommitD (@cutN (@cutN (@List.length CommitD (@LogA.C x)) (@Option.some Int (@mmI Bool.true (@Go.IntKind.wrap Go.IntKind.i64 (@HSub.hSub Int Int Int _ (@LogA.frm x) (1 : Int))) (Nat.cast (@List.length CommitD (@LogA.C x)) : Int))) (@Option.none Int)) (@Option.none Int) (@Option.some Int (@mmI Bool.true (@mmI Bool.true (Nat.cast (@cutN (@List.length CommitD (@LogA.C x)) (@Option.some Int (@mmI Bool.true (@Go.IntKind.wrap Go.IntKind.i64 (@HSub.hSub Int Int Int _ (@LogA.frm x) (1 : Int))) (Nat.cast (@List.length CommitD (@LogA.C x)) : Int))) (@Option.none Int)) : Int) (@LogA.many x)) (32 : Int)))) (@List.drop CommitD (@addN (@addN (0 : Nat) (@Option.some Int (@mmI Bool.true (@Go.IntKind.wrap Go.IntKind.i64 (@HSub.hSub Int Int Int _ (@LogA.frm x) (1 : Int))) (Nat.cast (@List.length CommitD (@LogA.C x)) : Int)))) (@Option.none Int)) (@LogA.C x)))) (@HAdd.hAdd _ _ _ _ (0 : Nat) (@Int.toNat (Nat.cast x8 : Int))) (@CommitD.mk (0 : Int) (0 : Int) (@List.nil UInt8) (@List.nil ChangeD))))))))) (@HAppend.hAppend (@List CommitD) (@List CommitD) (@List CommitD) _ (@List.take CommitD (0 : Nat) (@List.drop CommitD (0 : Nat) (@List.nil CommitD))) (@List.take CommitD (@cutN (@cutN (@List.length CommitD (@LogA.C x)) (@Option.some Int (@mmI Bool.true (@Go.IntKind.wrap Go.IntKind.i64 (@HSub.hSub Int Int Int _ (@LogA.frm x) (1 : Int))) (Nat.cast (@List.length CommitD (@LogA.C x)) : Int))) (@Option.none Int)) (@Option.none Int) (@Option.some Int (@mmI Bool.true (@mmI Bool.true (Nat.cast (@cutN (@List.length CommitD (@LogA.C x)) (@Option.some Int (@mmI Bool.true (@Go.IntKind.wrap Go.IntKind.i64 (@HSub.hSub Int Int Int _ (@LogA.frm x) (1 : Int))) (Nat.cast (@List.length CommitD (@LogA.C x)) : Int))) (@Option.none Int)) : Int) (@LogA.many x)) (32 : Int)))) (@List.drop CommitD (@addN (@addN (0 : Nat) (@Option.some Int (@mmI Bool.true (@Go.IntKind.wrap Go.IntKind.i64 (@HSub.hSub Int Int Int _ (@LogA.frm x) (1 : Int))) (Nat.cast (@List.length CommitD (@LogA.C x)) : Int)))) (@Option.none Int)) (@LogA.C x))))) ∧
 ((@Nat.le x11 (@HAdd.hAdd _ _ _ _ (0 : Nat) (@List.length CommitD (@List.take CommitD (@cutN (@cutN (@List.length CommitD (@LogA.C x)) (@Option.some Int (@mmI Bool.true (@Go.IntKind.wrap Go.IntKind.i64 (@HSub.hSub Int Int Int _ (@LogA.frm x) (1 : Int))) (Nat.cast (@List.length CommitD (@LogA.C x)) : Int))) (@Option.none Int)) (@Option.none Int) (@Option.some Int (@mmI Bool.true (@mmI Bool.true (Nat.cast (@cutN (@List.length CommitD (@LogA.C x)) (@Option.some Int (@mmI Bool.true (@Go.IntKind.wrap Go.IntKind.i64 (@HSub.hSub Int Int Int _ (@LogA.frm x) (1 : Int))) (Nat.cast (@List.length CommitD (@LogA.C x)) : Int))) (@Option.none Int)) : Int) (@LogA.many x)) (32 : Int)))) (@List.drop CommitD (@addN (@addN (0 : Nat) (@Option.some Int (@mmI Bool.true (@Go.IntKind.wrap Go.IntKind.i64 (@HSub.hSub Int Int Int _ (@LogA.frm x) (1 : Int))) (Nat.cast (@List.length CommitD (@LogA.C x)) : Int)))) (@Option.none Int)) (@LogA.C x)))))) ∧
 (@LT.lt Nat _ (@Nat.sub (@HAdd.hAdd _ _ _ _ (0 : Nat) (@List.length CommitD (@List.take CommitD (@cutN (@cutN (@List.length CommitD (@LogA.C x)) (@Option.some Int (@mmI Bool.true (@Go.IntKind.wrap Go.IntKind.i64 (@HSub.hSub Int Int Int _ (@LogA.frm x) (1 : Int))) (Nat.cast (@List.length CommitD (@LogA.C x)) : Int))) (@Option.none Int)) (@Option.none Int) (@Option.some Int (@mmI Bool.true (@mmI Bool.true (Nat.cast (@cutN (@List.length CommitD (@LogA.C x)) (@Option.some Int (@mmI Bool.true (@Go.IntKind.wrap Go.IntKind.i64 (@HSub.hSub Int Int Int _ (@LogA.frm x) (1 : Int))) (Nat.cast (@List.length CommitD (@LogA.C x)) : Int))) (@Option.none Int)) : Int) (@LogA.many x)) (32 : Int)))) (@List.drop CommitD (@addN (@addN (0 : Nat) (@Option.some Int (@mmI Bool.true (@Go.IntKind.wrap Go.IntKind.i64 (@HSub.hSub Int Int Int _ (@LogA.frm x) (1 : Int))) (Nat.cast (@List.length CommitD (@LogA.C x)) : Int)))) (@Option.none Int)) (@LogA.C x))))) x11) (@Nat.sub (@HAdd.hAdd _ _ _ _ (0 : Nat) (@List.length CommitD (@List.take CommitD (@cutN (@cutN (@List.length CommitD (@LogA.C x)) (@Option.some Int (@mmI Bool.true (@Go.IntKind.wrap Go.IntKind.i64 (@HSub.hSub Int Int Int _ (@LogA.frm x) (1 : Int))) (Nat.cast (@List.length CommitD (@LogA.C x)) : Int))) (@Option.none Int)) (@Option.none Int) (@Option.some Int (@mmI Bool.true (@mmI Bool.true (Nat.cast (@cutN (@List.length CommitD (@LogA.C x)) (@Option.some Int (@mmI Bool.true (@Go.IntKind.wrap Go.IntKind.i64 (@HSub.hSub Int Int Int _ (@LogA.frm x) (1 : Int))) (Nat.cast (@List.length CommitD (@LogA.C x)) : Int))) (@Option.none Int)) : Int) (@LogA.many x)) (32 : Int)))) (@List.drop CommitD (@addN (@addN (0 : Nat) (@Option.some Int (@mmI Bool.true (@Go.IntKind.wrap Go.IntKind.i64 (@HSub.hSub Int Int Int _ (@LogA.frm x) (1 : Int))) (Nat.cast (@List.length CommitD (@LogA.C x)) : Int)))) (@Option.none Int)) (@LogA.C x))))) x8))))))
 (Bad "check" "graph.go:105"))
 (Bad "check" "graph.go:105"))
 (Bad "check" "slices.go:362"))))))
 (Bad "check" "graph.go:105"))
 (Bad "check" "graph.go:105"))
 (∃ x12 : Unit,
 ((@Eq Int (11 : Int) (@VerdictD.code (@logV x))) ∧
 ((@Eq Int (0 : Int) (@VerdictD.session (@logV x))) ∧
 ((@Eq Int (0 : Int) (@VerdictD.rev (@logV x))) ∧
 ((@Eq Bs (@Array.toList UInt8 (@ByteArray.data (@ByteArray.mk (@List.toArray UInt8 (@List.nil UInt8))))) (@VerdictD.path (@logV x))) ∧
 ((@Eq Int (0 : Int) (@VerdictD.digest (@logV x))) ∧
 ((@LE.le Nat _ (@HAdd.hAdd _ _ _ _ (0 : Nat) (@HAdd.hAdd _ _ _ _ (0 : Nat) (@List.length CommitD (@List.take CommitD (@cutN (@cutN (@List.length CommitD (@LogA.C x)) (@Option.some Int (@mmI Bool.true (@Go.IntKind.wrap Go.IntKind.i64 (@HSub.hSub Int Int Int _ (@LogA.frm x) (1 : Int))) (Nat.cast (@List.length CommitD (@LogA.C x)) : Int))) (@Option.none Int)) (@Option.none Int) (@Option.some Int (@mmI Bool.true (@mmI Bool.true (Nat.cast (@cutN (@List.length CommitD (@LogA.C x)) (@Option.some Int (@mmI Bool.true (@Go.IntKind.wrap Go.IntKind.i64 (@HSub.hSub Int Int Int _ (@LogA.frm x) (1 : Int))) (Nat.cast (@List.length CommitD (@LogA.C x)) : Int))) (@Option.none Int)) : Int) (@LogA.many x)) (32 : Int)))) (@List.drop CommitD (@addN (@addN (0 : Nat) (@Option.some Int (@mmI Bool.true (@Go.IntKind.wrap Go.IntKind.i64 (@HSub.hSub Int Int Int _ (@LogA.frm x) (1 : Int))) (Nat.cast (@List.length CommitD (@LogA.C x)) : Int)))) (@Option.none Int)) (@LogA.C x)))))) (@List.length CommitD (@HAppend.hAppend (@List CommitD) (@List CommitD) (@List CommitD) _ (@List.take CommitD (0 : Nat) (@List.drop CommitD (0 : Nat) (@List.nil CommitD))) (@List.take CommitD (@cutN (@cutN (@List.length CommitD (@LogA.C x)) (@Option.some Int (@mmI Bool.true (@Go.IntKind.wrap Go.IntKind.i64 (@HSub.hSub Int Int Int _ (@LogA.frm x) (1 : Int))) (Nat.cast (@List.length CommitD (@LogA.C x)) : Int))) (@Option.none Int)) (@Option.none Int) (@Option.some Int (@mmI Bool.true (@mmI Bool.true (Nat.cast (@cutN (@List.length CommitD (@LogA.C x)) (@Option.some Int (@mmI Bool.true (@Go.IntKind.wrap Go.IntKind.i64 (@HSub.hSub Int Int Int _ (@LogA.frm x) (1 : Int))) (Nat.cast (@List.length CommitD (@LogA.C x)) : Int))) (@Option.none Int)) : Int) (@LogA.many x)) (32 : Int)))) (@List.drop CommitD (@addN (@addN (0 : Nat) (@Option.some Int (@mmI Bool.true (@Go.IntKind.wrap Go.IntKind.i64 (@HSub.hSub Int Int Int _ (@LogA.frm x) (1 : Int))) (Nat.cast (@List.length CommitD (@LogA.C x)) : Int)))) (@Option.none Int)) (@LogA.C x)))))) ∧
 ((@Eq (@List CommitD) (@List.take CommitD (@HAdd.hAdd _ _ _ _ (0 : Nat) (@List.length CommitD (@List.take CommitD (@cutN (@cutN (@List.length CommitD (@LogA.C x)) (@Option.some Int (@mmI Bool.true (@Go.IntKind.wrap Go.IntKind.i64 (@HSub.hSub Int Int Int _ (@LogA.frm x) (1 : Int))) (Nat.cast (@List.length CommitD (@LogA.C x)) : Int))) (@Option.none Int)) (@Option.none Int) (@Option.some Int (@mmI Bool.true (@mmI Bool.true (Nat.cast (@cutN (@List.length CommitD (@LogA.C x)) (@Option.some Int (@mmI Bool.true (@Go.IntKind.wrap Go.IntKind.i64 (@HSub.hSub Int Int Int _ (@LogA.frm x) (1 : Int))) (Nat.cast (@List.length CommitD (@LogA.C x)) : Int))) (@Option.none Int)) : Int) (@LogA.many x)) (32 : Int)))) (@List.drop CommitD (@addN (@addN (0 : Nat) (@Option.some Int (@mmI Bool.true (@Go.IntKind.wrap Go.IntKind.i64 (@HSub.hSub Int Int Int _ (@LogA.frm x) (1 : Int))) (Nat.cast (@List.length CommitD (@LogA.C x)) : Int)))) (@Option.none Int)) (@LogA.C x))))) (@List.drop CommitD (0 : Nat) (@HAppend.hAppend (@List CommitD) (@List CommitD) (@List CommitD) _ (@List.take CommitD (0 : Nat) (@List.drop CommitD (0 : Nat) (@List.nil CommitD))) (@List.take CommitD (@cutN (@cutN (@List.length CommitD (@LogA.C x)) (@Option.some Int (@mmI Bool.true (@Go.IntKind.wrap Go.IntKind.i64 (@HSub.hSub Int Int Int _ (@LogA.frm x) (1 : Int))) (Nat.cast (@List.length CommitD (@LogA.C x)) : Int))) (@Option.none Int)) (@Option.none Int) (@Option.some Int (@mmI Bool.true (@mmI Bool.true (Nat.cast (@cutN (@List.length CommitD (@LogA.C x)) (@Option.some Int (@mmI Bool.true (@Go.IntKind.wrap Go.IntKind.i64 (@HSub.hSub Int Int Int _ (@LogA.frm x) (1 : Int))) (Nat.cast (@List.length CommitD (@LogA.C x)) : Int))) (@Option.none Int)) : Int) (@LogA.many x)) (32 : Int)))) (@List.drop CommitD (@addN (@addN (0 : Nat) (@Option.some Int (@mmI Bool.true (@Go.IntKind.wrap Go.IntKind.i64 (@HSub.hSub Int Int Int _ (@LogA.frm x) (1 : Int))) (Nat.cast (@List.length CommitD (@LogA.C x)) : Int)))) (@Option.none Int)) (@LogA.C x)))))) (@VerdictD.commits (@logV x))) ∧
 ((@Eq Int (0 : Int) (@VerdictD.member (@logV x))) ∧
 ((@Eq Nat (0 : Nat) (0 : Nat)) ∧
 ((@Eq Nat (@List.length CommitD (@LogA.C x)) (@List.length CommitD (@LogA.C x))) ∧
 ((@Eq TreeD (@treeC (@LogA.C x)) (@treeC (@LogA.C x))) ∧
 ((@Eq (@List CommitD) (@LogA.C x) (@LogA.C x)) ∧
 ((@Eq (@List (@Prod Bs Int)) (@kvC (@LogA.C x)) (@kvC (@LogA.C x))) ∧
 True)))))))))))))))))))
 (Bad "check" "slices.go:362"))))))
 (Bad "check" "graph.go:119")))
 (Bad "check" "graph.go:118")))))) := by kernel_rfl

end Go.Proofs.Ytildflamnehilaa.Ses

namespace Go.Proofs.Ytildflamnehilaa.Ses
open Go Go.Proofs Go.Proofs.Ytildflamnehilaa.Sx Go.Proofs.Ytildflamnehilaa.Trx

theorem putK_len : ∀ (K : List (Bs × Int)) s v, (putK K s v).length ≤ K.length + 1
  | [], s, v => by simp [putK]
  | (k, x) :: r, s, v => by
    unfold putK
    cases (k == s)
    · simp only [cond_false, List.length_cons]
      have := putK_len r s v
      omega
    · simp
theorem kvC_snoc (C : List CommitD) (c : CommitD) : kvC (C ++ [c]) = bif c.ref == [] then kvC C else putK (kvC C) c.ref c.rev := by simp [kvC]
theorem kvC_len (C : List CommitD) : (kvC C).length ≤ C.length := by
  refine snocL (p := fun C => (kvC C).length ≤ C.length) (by simp [kvC]) (fun C c ih => ?_) C
  rw [kvC_snoc]
  have := putK_len (kvC C) c.ref c.rev
  cases (c.ref == [])
  · simp; omega
  · simp; omega
theorem refs_ok : SpecOK Try.prog 21 refsT.spec := by
  refine Tri.ok (E := refsE) (Env_ok (by decide +kernel) (by
    intro p hp
    simp only [List.mem_cons, List.mem_nil_iff, or_false] at hp
    rcases hp with rfl | rfl
    · exact keys_ok
    · exact sortK_ok)) (n := 1000) refsT fun x hx => ?_
  rw [refs_vc]
  revert hx
  revert x
  intro (x : List CommitD) (hx : fewG x = true)
  obtain ⟨f1, f2, _⟩ := fewG_of hx
  have h1 := kvC_len x
  have hr : 4000 * 60 ≤ room47 := by decide
  refine ⟨_, rfl, trivial, fun _ _ => ⟨_, rfl, decide_eq_true (by omega), fun _ _ _ => ⟨⟨0, rfl, rfl, rfl, Nat.zero_le _⟩, fun i hi => br_i (fun h1 => ?_) (fun h1 => ?_)⟩⟩⟩
  all_goals
    have e : (namesK (kvC x)).length = (kvC x).length := by simp [namesK]
    change i ≤ (namesK (kvC x)).length at hi
  · have h1 : (i : Int) < ((namesK (kvC x)).length : Int) := of_decide_eq_true h1
    have hi2 : i < (namesK (kvC x)).length := by omega
    have e2 : (namesK (kvC x)).getD (i : Int).toNat [] = (namesK (kvC x))[i] := by simp [List.getD, hi2]
    have e3 : (List.map (refK (kvC x)) (List.take i (namesK (kvC x)))).length = i := by simp; omega
    refine br_t (decide_eq_true ⟨by omega, h1⟩) fun _ => br_t ?_ ⟨i + 1, by rw [wrap_id (by omega) (by omega)]; rfl, rfl, ?_, ?_, hi2, by show (namesK (kvC x)).length - (i + 1) < (namesK (kvC x)).length - i; omega⟩
    · show (decide (0 + 1 ≤ 1) && decide (0 + (List.map (refK (kvC x)) (List.take i (namesK (kvC x)))).length ≤ (List.map (refK (kvC x)) (List.take i (namesK (kvC x)))).length) && decide (((List.map (refK (kvC x)) (List.take i (namesK (kvC x)))).length + 1) * 24 ≤ room47)) = true
      rw [e3]
      simp
      omega
    · show (List.map (refK (kvC x)) (List.take i (namesK (kvC x)))).length + 1 = (List.map (refK (kvC x)) (List.take (i + 1) (namesK (kvC x)))).length
      rw [e3]
      simp
      omega
    · show List.take (List.map (refK (kvC x)) (List.take i (namesK (kvC x)))).length (List.drop 0 (List.map (refK (kvC x)) (List.take i (namesK (kvC x))))) ++ [refK (kvC x) ((namesK (kvC x)).getD (i : Int).toNat [])] = List.map (refK (kvC x)) (List.take (i + 1) (namesK (kvC x)))
      rw [List.drop_zero, List.take_length, e2, List.take_succ_eq_append_getElem hi2, List.map_append]
      rfl
  · have h1 : ¬ (i : Int) < ((namesK (kvC x)).length : Int) := of_decide_eq_false h1
    have e4 : i = (namesK (kvC x)).length := by omega
    refine ⟨(), by omega, ?_, rfl, rfl, rfl, rfl, rfl, trivial⟩
    show List.take (List.map (refK (kvC x)) (List.take i (namesK (kvC x)))).length (List.drop 0 (List.map (refK (kvC x)) (List.take i (namesK (kvC x))))) = refsC x
    rw [List.drop_zero, List.take_length, e4, List.take_length]
    rfl

theorem mmI_min (a b : Int) : mmI true a b = min a b := by
  unfold mmI
  simp only [cond_true]
  split <;> omega
theorem log_ok : SpecOK Try.prog 22 logT.spec := by
  refine Tri.ok (E := commitsE) (Env_ok (by decide +kernel) (by simp)) (n := 1000) logT fun x hx => ?_
  rw [log_vc]
  revert hx
  revert x
  intro (x : LogA) ⟨hx, hf⟩
  have hf : x.frm ≤ 9223372036854775807 := of_decide_eq_true hf
  obtain ⟨f1, f2, _⟩ := fewG_of hx
  have rm : ∀ n b, n ≤ 4000 → b ≤ 60 → decide (n * b ≤ room47) = true := fun n b hn hb => by
    have : 4000 * 60 ≤ room47 := by decide
    exact decide_eq_true (Nat.le_trans (Nat.mul_le_mul hn hb) this)
  have hbad : ∀ h : x.frm < 1 ∨ x.many < 1, logV x = ⟨5, 0, 0, [], 0, [], 0⟩ := fun h => by
    unfold logV
    have : (decide (x.frm < 1) || decide (x.many < 1)) = true := by simpa using h
    rw [this]; rfl
  refine br_i (fun h => ?_) (fun h1 => br_i (fun h => ?_) (fun h2 => ?_))
  · rw [hbad (.inl (of_decide_eq_true h))]
    exact ⟨(), rfl, rfl, rfl, rfl, rfl, rfl, rfl, rfl, rfl, rfl, rfl, rfl, trivial⟩
  · rw [hbad (.inr (of_decide_eq_true h))]
    exact ⟨(), rfl, rfl, rfl, rfl, rfl, rfl, rfl, rfl, rfl, rfl, rfl, rfl, trivial⟩
  · have h1 := of_decide_eq_false h1
    have h2 := of_decide_eq_false h2
    have hv : logV x = ⟨11, 0, 0, [], 0, logC x, 0⟩ := by
      unfold logV
      rw [decide_eq_false h1, decide_eq_false h2]; rfl
    rw [hv, wrap_id (n := x.frm - 1) (by omega) (by omega), mmI_min, mmI_min, mmI_min]
    obtain ⟨F, hF⟩ : ∃ F : Nat, min (x.frm - 1) (x.C.length : Int) = F := ⟨(min (x.frm - 1) (x.C.length : Int)).toNat, by omega⟩
    rw [hF]
    have hFl : F ≤ x.C.length := by omega
    have e3 : cutN x.C.length (some (F : Int)) none = x.C.length - F := by simp [cutN]
    rw [e3]
    obtain ⟨M, hM⟩ : ∃ M : Nat, min (min ((x.C.length - F : Nat) : Int) x.many) 32 = M := ⟨(min (min ((x.C.length - F : Nat) : Int) x.many) 32).toNat, by omega⟩
    rw [hM]
    have hMl : M ≤ x.C.length - F := by omega
    have e4 : cutN (x.C.length - F) none (some (M : Int)) = M := by simp [cutN]
    have e5 : addN (addN 0 (some (F : Int))) none = F := by simp [addN]
    rw [e4, e5]
    have hL : logC x = List.take M (List.drop F x.C) := by
      unfold logC
      by_cases hc : x.frm - 1 ≤ x.C.length
      · have : (x.frm - 1).toNat = F := by omega
        rw [this]
        have hd : (List.drop F x.C).length = x.C.length - F := by simp
        by_cases hk : (min x.many 32).toNat ≤ x.C.length - F
        · have : (min x.many 32).toNat = M := by omega
          rw [this]
        · rw [List.take_of_length_le (by omega), List.take_of_length_le (by omega)]
      · rw [List.drop_of_length_le (by omega), List.drop_of_length_le (l := x.C) (i := F) (by omega)]
        simp
    rw [hL]
    generalize hl : List.take M (List.drop F x.C) = l
    have hll : l.length = M := by rw [← hl]; simp; omega
    have hlm : ∀ c, c ∈ l → c.changes.length ≤ 16 := fun c hc => f2 c (by rw [← hl] at hc; exact List.mem_of_mem_drop (List.mem_of_mem_take hc))
    have e0 : (List.take 0 (List.drop 0 ([] : List CommitD)) ++ l) = l := by simp
    have e1 : (0 + l.length) = l.length := by simp
    rw [e0, e1]
    refine fun _ => br_t ?_ fun _ => br_t ?_ fun b hb => ?_
    · show bndB x.C.length (some (F : Int)) none none = true
      simp [bndB]; omega
    · simp [bndB]; omega
    refine br_i (fun h => ⟨⟨(), rfl, trivial⟩, fun _ _ => ⟨(), rfl, rfl, rfl, rfl, rfl, ?_, rfl, rfl, rfl, rfl, rfl, rfl, trivial⟩⟩) (fun h => fun _ => br_t ?_ fun _ => ⟨⟨0, rfl, rfl, Nat.zero_le _⟩, fun i hi => br_i (fun h1 => ?_) (fun h1 => ⟨(), rfl, rfl, rfl, rfl, rfl, by omega, by simp, rfl, rfl, rfl, rfl, rfl, rfl, trivial⟩)⟩)
    · exact (List.eq_nil_of_length_eq_zero (by rw [hll]; exact hb h)).symm
    · rw [rm _ 56 (by omega) (by omega), decide_eq_true (show F + M ≤ x.C.length by omega)]; simp
    · have h1 := of_decide_eq_true h1
      have e2 : 0 + (i : Int).toNat = i := by simp
      rw [e2]
      have bi : decide ((0 : Int) ≤ (i : Int) ∧ (i : Int) < (l.length : Int)) = true := decide_eq_true ⟨by omega, h1⟩
      have bl : decide (i < l.length) = true := decide_eq_true (by omega)
      have hch := hlm _ (getD_mem (l := l) (d := noM) (i := i) (by omega))
      refine br_t bi (br_t bl fun q hq => br_i (fun h2 => br_t bi (br_t (by rw [bl]; rfl) ⟨i + 1, by rw [wrap_id (by omega) (by omega)]; rfl, set_same (by omega) ?_, by show i + 1 ≤ l.length; omega, by show l.length - (i + 1) < l.length - i; omega⟩)) (fun h2 => fun _ => br_t ?_ (br_t bi (br_t ?_ ⟨i + 1, by rw [wrap_id (by omega) (by omega)]; rfl, set_same (by omega) ?_, by show i + 1 ≤ l.length; omega, by show l.length - (i + 1) < l.length - i; omega⟩))))
      · have h3 : (l.getD i noM).changes = [] := hq h2
        show (⟨(l.getD i noM).rev, (l.getD i noM).base, (l.getD i noM).ref, []⟩ : CommitD) = l.getD i noM
        rw [← h3]
      · have := rm (0 + (l.getD i noM).changes.length) 32 (by omega) (by omega)
        show (true && decide (0 + 0 ≤ ([] : List ChangeD).length) && decide ((0 + (l.getD i noM).changes.length) * 32 ≤ room47)) = true
        rw [this]; rfl
      · simp
        omega
      · show (⟨(l.getD i noM).rev, (l.getD i noM).base, (l.getD i noM).ref, _⟩ : CommitD) = l.getD i noM
        simp
end Go.Proofs.Ytildflamnehilaa.Ses
