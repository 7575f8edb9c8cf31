/- A map's keys, sorted; the refs and the log of a graph: what the evaluator leaves of each, and that it holds. No condition. -/
import Derived.Test.YtildflamnehilaaGreatGrlC
import Derived.Shelf.SlIter.Nil
import Derived.Shelf.SortM.Plain
import Derived.Shelf.SortM.SortNone
import Derived.KernelRfl
set_option linter.unusedSimpArgs false
set_option linter.unusedVariables false

namespace Go.Proofs.YtildflamnehilaaGreat.Ses
open Go Go.Proofs Go.Proofs.YtildflamnehilaaGreat.Sx Go.Proofs.YtildflamnehilaaGreat.Trx
open Go.Shelf

def ref7_ren : Go.Shelf.Ren := ⟨fun | 7 => 128 | 10 => 181 | n => n, fun | 23 => 104 | 26 => 9 | 3 => 3 | 28 => 181 | 0 => 0 | 27 => 180 | 33 => 113 | 4 => 4 | n => n, fun | n => n⟩
theorem ref7 : SlLaysZ.n7 Tryz.prog ref7_ren where
  mixed := by kernel_rfl
  f7 := ⟨"maps.Keys[map[string]int,string,int]", by decide, Tryz.func128.trans (congrArg some (by kernel_rfl))⟩
  f10 := ⟨"maps.Keys[map[string]int,string,int]$1", by decide, Tryz.func181.trans (congrArg some (by kernel_rfl))⟩
  t0 := Tryz.underlying0
  a0 := Tryz.isAgg0
  z0 := Tryz.sizeOf0
  v0 := Tryz.zeroValue0
  t4 := Tryz.underlying4
  a4 := Tryz.isAgg4
  z4 := Tryz.sizeOf4
  v4 := Tryz.zeroValue4
  t23 := Tryz.underlying104
  a23 := Tryz.isAgg104
  z23 := Tryz.sizeOf104
  v23 := Tryz.zeroValue104
  t26 := Tryz.underlying9
  a26 := Tryz.isAgg9
  z26 := Tryz.sizeOf9
  v26 := Tryz.zeroValue9
  t27 := Tryz.underlying180
  a27 := Tryz.isAgg180
  z27 := Tryz.sizeOf180
  v27 := Tryz.zeroValue180
  t28 := Tryz.underlying181
  a28 := Tryz.isAgg181
  z28 := Tryz.sizeOf181
  v28 := Tryz.zeroValue181
  t33 := Tryz.underlying113
  a33 := Tryz.isAgg113
  z33 := Tryz.sizeOf113
  v33 := Tryz.zeroValue113
def ref6_ren : Go.Shelf.Ren := ⟨fun | 6 => 127 | 8 => 179 | 9 => 180 | 11 => 205 | 13 => 196 | 12 => 206 | 23 => 224 | 24 => 225 | 14 => 229 | 15 => 230 | 16 => 231 | 17 => 232 | 18 => 233 | 19 => 234 | 20 => 235 | 21 => 236 | 22 => 237 | 25 => 252 | 26 => 245 | 27 => 246 | 28 => 253 | 29 => 254 | 30 => 203 | 31 => 264 | n => n, fun | 26 => 9 | 28 => 181 | 24 => 178 | 0 => 0 | 3 => 3 | 37 => 230 | 48 => 251 | 50 => 35 | 4 => 4 | 40 => 244 | 39 => 243 | 45 => 172 | 5 => 5 | 9 => 9 | 51 => 268 | 55 => 272 | 57 => 281 | 58 => 282 | 33 => 113 | n => n, fun | n => n⟩
theorem ref6 : SlLaysZ.n6 Tryz.prog ref6_ren where
  mixed := by kernel_rfl
  f6 := ⟨"slices.Sorted[string]", by decide, Tryz.func127.trans (congrArg some (by kernel_rfl))⟩
  f8 := ⟨"slices.Collect[string]", by decide, Tryz.func179.trans (congrArg some (by kernel_rfl))⟩
  f11 := ⟨"slices.AppendSeq[[]string,string]", by decide, Tryz.func205.trans (congrArg some (by kernel_rfl))⟩
  t0 := Tryz.underlying0
  a0 := Tryz.isAgg0
  z0 := Tryz.sizeOf0
  v0 := Tryz.zeroValue0
  t24 := Tryz.underlying178
  a24 := Tryz.isAgg178
  z24 := Tryz.sizeOf178
  v24 := Tryz.zeroValue178
  t26 := Tryz.underlying9
  a26 := Tryz.isAgg9
  z26 := Tryz.sizeOf9
  v26 := Tryz.zeroValue9
  t28 := Tryz.underlying181
  a28 := Tryz.isAgg181
  z28 := Tryz.sizeOf181
  v28 := Tryz.zeroValue181
  i26 := by kernel_rfl
def refM_ren : Go.Shelf.Ren := ⟨fun | 6 => 180 | 8 => 196 | 9 => 206 | 19 => 224 | 20 => 225 | 21 => 229 | 22 => 230 | 23 => 231 | 24 => 232 | 25 => 233 | 26 => 234 | 27 => 235 | 28 => 236 | 29 => 237 | 36 => 252 | 31 => 245 | 32 => 246 | 37 => 253 | 38 => 254 | 39 => 203 | 41 => 264 | n => n, fun | 27 => 178 | 29 => 9 | 3 => 3 | 32 => 230 | 26 => 178 | 0 => 0 | 44 => 251 | 46 => 35 | 4 => 4 | 36 => 244 | 35 => 243 | 41 => 172 | 5 => 5 | 9 => 9 | 53 => 268 | 57 => 272 | 63 => 281 | 64 => 282 | n => n, fun | n => n⟩
theorem refM : SlLaysM.n6 Tryz.prog refM_ren where
  mixed := by kernel_rfl
  f6 := ⟨"slices.Sort[[]string,string]", by decide, Tryz.func180.trans (congrArg some (by kernel_rfl))⟩
  f8 := Tryz.func196.trans (congrArg some (by kernel_rfl))
  f9 := ⟨"slices.pdqsortOrdered[string]", by decide, Tryz.func206.trans (congrArg some (by kernel_rfl))⟩
  f19 := Tryz.func224.trans (congrArg some (by kernel_rfl))
  f20 := Tryz.func225.trans (congrArg some (by kernel_rfl))
  f21 := ⟨"slices.insertionSortOrdered[string]", by decide, Tryz.func229.trans (congrArg some (by kernel_rfl))⟩
  f22 := ⟨"slices.heapSortOrdered[string]", by decide, Tryz.func230.trans (congrArg some (by kernel_rfl))⟩
  f23 := ⟨"slices.breakPatternsOrdered[string]", by decide, Tryz.func231.trans (congrArg some (by kernel_rfl))⟩
  f24 := ⟨"slices.choosePivotOrdered[string]", by decide, Tryz.func232.trans (congrArg some (by kernel_rfl))⟩
  f25 := ⟨"slices.reverseRangeOrdered[string]", by decide, Tryz.func233.trans (congrArg some (by kernel_rfl))⟩
  f26 := ⟨"slices.partialInsertionSortOrdered[string]", by decide, Tryz.func234.trans (congrArg some (by kernel_rfl))⟩
  f27 := ⟨"cmp.Less[string]", by decide, Tryz.func235.trans (congrArg some (by kernel_rfl))⟩
  f28 := ⟨"slices.partitionEqualOrdered[string]", by decide, Tryz.func236.trans (congrArg some (by kernel_rfl))⟩
  f29 := ⟨"slices.partitionOrdered[string]", by decide, Tryz.func237.trans (congrArg some (by kernel_rfl))⟩
  f31 := Tryz.func245.trans (congrArg some (by kernel_rfl))
  f32 := Tryz.func246.trans (congrArg some (by kernel_rfl))
  f36 := ⟨"slices.siftDownOrdered[string]", by decide, Tryz.func252.trans (congrArg some (by kernel_rfl))⟩
  f37 := ⟨"slices.medianAdjacentOrdered[string]", by decide, Tryz.func253.trans (congrArg some (by kernel_rfl))⟩
  f38 := ⟨"slices.medianOrdered[string]", by decide, Tryz.func254.trans (congrArg some (by kernel_rfl))⟩
  f39 := ⟨"cmp.isNaN[string]", by decide, Tryz.func203.trans (congrArg some (by kernel_rfl))⟩
  f41 := ⟨"slices.order2Ordered[string]", by decide, Tryz.func264.trans (congrArg some (by kernel_rfl))⟩
  t0 := Tryz.underlying0
  a0 := Tryz.isAgg0
  z0 := Tryz.sizeOf0
  v0 := Tryz.zeroValue0
  t3 := Tryz.underlying3
  a3 := Tryz.isAgg3
  z3 := Tryz.sizeOf3
  v3 := Tryz.zeroValue3
  t4 := Tryz.underlying4
  a4 := Tryz.isAgg4
  z4 := Tryz.sizeOf4
  v4 := Tryz.zeroValue4
  t5 := Tryz.underlying5
  a5 := Tryz.isAgg5
  z5 := Tryz.sizeOf5
  v5 := Tryz.zeroValue5
  t9 := Tryz.underlying9
  a9 := Tryz.isAgg9
  z9 := Tryz.sizeOf9
  v9 := Tryz.zeroValue9
  t26 := Tryz.underlying178
  a26 := Tryz.isAgg178
  z26 := Tryz.sizeOf178
  v26 := Tryz.zeroValue178
  t27 := Tryz.underlying178
  a27 := Tryz.isAgg178
  z27 := Tryz.sizeOf178
  v27 := Tryz.zeroValue178
  t29 := Tryz.underlying9
  a29 := Tryz.isAgg9
  z29 := Tryz.sizeOf9
  v29 := Tryz.zeroValue9
  t32 := Tryz.underlying230
  a32 := Tryz.isAgg230
  z32 := Tryz.sizeOf230
  v32 := Tryz.zeroValue230
  t35 := Tryz.underlying243
  a35 := Tryz.isAgg243
  z35 := Tryz.sizeOf243
  v35 := Tryz.zeroValue243
  t36 := Tryz.underlying244
  a36 := Tryz.isAgg244
  z36 := Tryz.sizeOf244
  v36 := Tryz.zeroValue244
  t41 := Tryz.underlying172
  a41 := Tryz.isAgg172
  z41 := Tryz.sizeOf172
  v41 := Tryz.zeroValue172
  t44 := Tryz.underlying251
  a44 := Tryz.isAgg251
  z44 := Tryz.sizeOf251
  v44 := Tryz.zeroValue251
  t46 := Tryz.underlying35
  a46 := Tryz.isAgg35
  z46 := Tryz.sizeOf35
  v46 := Tryz.zeroValue35
  t53 := Tryz.underlying268
  a53 := Tryz.isAgg268
  z53 := Tryz.sizeOf268
  v53 := Tryz.zeroValue268
  t57 := Tryz.underlying272
  a57 := Tryz.isAgg272
  z57 := Tryz.sizeOf272
  v57 := Tryz.zeroValue272
  t63 := Tryz.underlying281
  a63 := Tryz.isAgg281
  z63 := Tryz.sizeOf281
  v63 := Tryz.zeroValue281
  t64 := Tryz.underlying282
  a64 := Tryz.isAgg282
  z64 := Tryz.sizeOf282
  v64 := Tryz.zeroValue282
end Go.Proofs.YtildflamnehilaaGreat.Ses

namespace Go.Proofs.YtildflamnehilaaGreat.Sx
open Go

/-- the world has grown, and one of its new blocks stays -/
theorem Mem.stillNew {F : Fr} {g : Ctx} {m : MS} {w w' : World} (h : Mem F g m w) (hk : ∀ b, b < w.heap.size → w'.heap[b]? = w.heap[b]?) (hs : w.heap.size ≤ w'.heap.size) (ho : w'.os = w.os) (hout : w'.output = w.output)
    {b0 : Nat} (hb0 : w.heap.size ≤ b0) : g.le (g.still w' b0) ∧ Mem F (g.still w' b0) m w' := by
  have hm := h.grow hk hs ho hout
  have hlt : g.le (g.still w' b0) := ⟨fun _ _ e => e, fun b o v hv => by
    have hb : b < w.heap.size := cell?_lt (h.mem.ro b o v hv)
    simp only [Ctx.still]
    rw [if_neg (by omega)]
    exact hv⟩
  have hother : ∀ q y r', m.blks.get q = some y → g.β[q]? = some (some r') → r'.b ≠ b0 := by
    intro q y r' hq hr' e
    obtain ⟨x, hx, hok⟩ := h.mem.reg q y hq
    rw [hr'] at hx
    cases hx
    have : r'.b < w.heap.size := hok.1.lt
    omega
  refine ⟨hlt, ⟨⟨fun q y hq => ?_, hm.mem.inj, fun b o v hv => ?_, fun q y r' o hq hr' => ?_⟩, hm.next, hm.own, fun b o v hv => ?_, hm.fix⟩⟩
  · obtain ⟨x, hx, hok⟩ := hm.mem.reg q y hq
    exact ⟨x, hx, hok.congr hlt fun _ _ => rfl⟩
  · simp only [Ctx.still] at hv
    split at hv
    · rename_i e; subst e; exact hv
    · exact hm.mem.ro _ _ _ hv
  · simp only [Ctx.still]
    rw [if_neg (hother q y r' hq hr')]
    exact hm.mem.apart q y r' o hq hr'
  · simp only [Ctx.still] at hv
    split at hv
    · rename_i e; subst e; exact .inr (.inl (Nat.le_trans h.fix.size hb0))
    · exact hm.ext _ _ _ hv

end Go.Proofs.YtildflamnehilaaGreat.Sx
namespace Go.Proofs.YtildflamnehilaaGreat.Ses
open Go Go.Proofs Go.Proofs.YtildflamnehilaaGreat.Sx Go.Proofs.YtildflamnehilaaGreat.Trx Go.Shelf Go.Maps

/-- maps.Keys -/
def keysT : Tri := { γ := List (Bs × Int), n0 := 1, args := fun _ => [.mmap 0], blks := fun l => [(0, .kv l)], pre := fun _ => True, δ := Unit, post := fun _ _ => True, n1 := 0, res := fun _ _ => .seqk 181 0, blks' := fun l _ => [(0, .kv l)], scal := false }

theorem keys_ok : SpecOK Tryz.prog 128 keysT.spec := by
  refine Tri.ok' keysT fun l hl F g w vs hargs hm => ?_
  have hargs : RepL g [.mmap 0] vs := hargs
  obtain ⟨v0, _, rfl, r0, r⟩ := hargs.uncons
  rw [r.eq_nil]
  cases r0 with
  | mmap _ r1 hr1 =>
    have hc : Calls Tryz.prog 128 #[.map (some r1.b)] w fun e W' => e = .returned (.func (.func 181) #[] #[.pointer (some ⟨w.heap.size, 0, none⟩)]) ∧ W' = w.alloc (.cells #[.map (some r1.b)] 104) :=
      (callsIn_wide (n := 5)).1 (AnyZ.keys_in ref7 Fence.wide 5 trivial rfl (some r1.b) w)
    refine hc.mono ?_
    rintro e w' ⟨rfl, rfl⟩
    obtain ⟨hle, hm2⟩ := hm.stillNew (w' := w.alloc (.cells #[.map (some r1.b)] 104)) (fun b hb => push_other hb) (by simp) rfl rfl (Nat.le_refl _)
    refine ⟨_, ⟨[(0, .kv l)], 1, []⟩, .seqk 181 0, ⟨(), by first | trivial | exact ⟨rfl, trivial⟩⟩, hle, Upd.refl _, hm2, .seqk 181 0 w.heap.size r1 hr1 ?_⟩
    show (if w.heap.size = w.heap.size then (push w #[.map (some r1.b)] 104).cell? ⟨w.heap.size, 0, none⟩ else _) = _
    rw [if_pos rfl]
    simp [World.cell?, push_get]

abbrev kvD (P : Program) (es : Array MapEntry) : DataW Unit := .map ((es.toList.map (WideElems.rg P 9 (fun _ => some (DataW.nil, [])))).foldr DataW.insert [])

/-- slices.Sorted of a map's keys -/
def sortKT : Tri := { γ := List (Bs × Int), n0 := 1, args := fun _ => [.seqk 181 0], blks := fun l => [(0, .kv l)], pre := fun l => decide (l.length * 16 ≤ room47) = true, δ := Unit, post := fun _ _ => True, n1 := 0, res := fun l _ => .rslice false .str ((l.map (·.1)).mergeSort leB), blks' := fun l _ => [(0, .kv l)], scal := false }

theorem rd_kv {k : Value × Value} {p : Bs × Int} {x : MapEntry} (h1 : x.key = Value.string ⟨⟨p.1⟩⟩) (h2 : p.1.length ≤ maxI64) : WideElems.rd Tryz.prog 9 (H := Unit) (fun _ => some (DataW.nil, [])) x = some (.string p.1, .nil) := by
  have hk : keyOf Tryz.prog 9 x.key = some (Lit.string p.1) := by
    rw [h1]
    have : (⟨⟨p.1⟩⟩ : ByteArray).size ≤ maxLen := h2
    simp [keyOf, mapKey, Tryz.underlying9, this]
  simp [WideElems.rd, hk]

theorem sortsK (m : Nat) : AnyZ.SortsIn Tryz.prog ref6_ren Fence.wide m :=
  ⟨fun blk off cap ss W hH hblk hsz => callsIn_wide.2 (AnyM.slices_Sort_string refM blk off cap ss W hH hblk hsz),
   fun p cap W => callsIn_wide.2 (AnyM.slices_Sort_string_none refM p cap W)⟩

theorem sortK_ok : SpecOK Tryz.prog 127 sortKT.spec := by
  refine Tri.ok' sortKT fun l hl F g w vs hargs hm => ?_
  change List (Bs × Int) at l
  have hl : l.length * 16 ≤ room47 := of_decide_eq_true hl
  have hargs : RepL g [.seqk 181 0] vs := hargs
  obtain ⟨v0, _, rfl, r0, r⟩ := hargs.uncons
  rw [r.eq_nil]
  cases r0 with
  | seqk _ _ b r1 hr1 hb =>
    obtain ⟨x, hx, hok⟩ := hm.mem.reg 0 (.kv l) rfl
    rw [hr1] at hx
    cases hx
    obtain ⟨es, ck, hes, hkv, hst⟩ := hok.2
    have hsz : es.size = l.length := by
      have := congrArg List.length hkv.1
      simpa using this
    have hrd : ∀ (i : Nat) x, es.toList[i]? = some x → ∃ p, l[i]? = some p ∧ WideElems.rd Tryz.prog 9 (H := Unit) (fun _ => some (DataW.nil, [])) x = some (.string p.1, .nil) := by
      intro i x hx
      have h1 := congrArg (·[i]?) hkv.1
      simp only [List.getElem?_map, hx, Option.map_some] at h1
      cases hp : l[i]? with
      | none => rw [hp] at h1; cases h1
      | some p =>
        rw [hp] at h1
        simp only [Option.map_some, Option.some.injEq, Prod.mk.injEq] at h1
        exact ⟨p, rfl, rd_kv (k := (x.key, x.val)) h1.1 (hkv.2 p (List.mem_of_getElem? hp))⟩
    have hown : w.ownsMap Tryz.prog 9 (fun _ => some (DataW.nil, [])) r1.b l.length (kvD Tryz.prog es) := by
      refine ⟨es, ck, hes, ⟨by rw [hsz]; simp [room47, maxLen] at hl ⊢; omega, hst, fun x hx => ?_⟩, by omega, rfl⟩
      obtain ⟨i, hi⟩ := List.getElem?_of_mem hx
      obtain ⟨p, _, h2⟩ := hrd i x hi
      exact ⟨_, h2⟩
    have hcell := hm.mem.ro b 0 _ hb
    have hseq := AnyZ.keys_gives (ρ := ref7_ren) { ref7 with } Fence.wide 2 trivial rfl (by omega) b r1.b l.length (kvD Tryz.prog es) w (cell?_lt hcell) hcell hown
    have hsize : Maps.size (kvD Tryz.prog es) = l.length := by
      show ((es.toList.map _).foldr DataW.insert []).length = _
      rw [length_sorted]; simp [hsz]
    have hperm : (strKeys (kvD Tryz.prog es)).Perm (l.map (·.1)) := by
      show ((((es.toList.map (WideElems.rg Tryz.prog 9 _)).foldr DataW.insert []).map fun p => strOf p.1)).Perm _
      refine ((WideShapes.sorted_perm _).map _).trans ?_
      have : ((es.toList.map (WideElems.rg Tryz.prog 9 (H := Unit) (fun _ => some (DataW.nil, [])))).map fun p => strOf p.1) = l.map (·.1) := by
        refine List.ext_getElem? fun i => ?_
        simp only [List.getElem?_map]
        cases hx : es.toList[i]? with
        | none =>
          have : l[i]? = none := by
            rw [List.getElem?_eq_none_iff] at hx ⊢
            simp at hx; omega
          rw [this]; rfl
        | some x =>
          obtain ⟨p, hp, h2⟩ := hrd i x hx
          rw [hp]
          simp [WideElems.rg_of h2, strOf]
      rw [this]
    have cS := AnyZ.sorted_in ref6 Fence.wide 5 trivial trivial trivial trivial rfl (by omega) (sortsK _) (enters_of Tryz.func180 (by kernel_rfl) rfl) 181 #[.pointer (some ⟨b, 0, none⟩)] trivial (enters_of Tryz.func181 (by kernel_rfl) rfl) _ _ (by rw [hsize]; simp [room47, maxLen] at hl ⊢; omega) (by rw [hsize]; simpa [room47] using hl) w hseq
    have cS : Calls Tryz.prog 127 #[.func (.func 181) #[] #[.pointer (some ⟨b, 0, none⟩)]] w _ := callsIn_wide.1 cS
    refine cS.mono ?_
    rintro e w' ⟨v, ss, rfl, hS, hrow, hnil, hbel⟩
    have hsort : ss.mergeSort leB = (l.map (·.1)).mergeSort leB := mergeSort_of_perm (hS.trans hperm)
    have hrow : w'.ownsRow w.heap.size 9 1 v ss.length ((ss.mergeSort leB).map encStr) := hrow
    rw [hsort] at hrow
    have hlen : ss.length = l.length := by rw [(hS.trans hperm).length_eq]; simp
    rcases hrow.2 with ⟨rfl, h0⟩ | ⟨gb, cap, cur, rfl, h1, h2, h3, h4, h5, h6⟩
    · have : l = [] := by rw [hlen] at h0; exact List.eq_nil_of_length_eq_zero h0
      have hr : Rep g (.rslice false .str ((l.map (·.1)).mergeSort leB)) (.slice none 0 0) := by
        rw [this]
        rw [show (([] : List (Bs × Int)).map (·.1)).mergeSort leB = [] by simp]
        exact .rnil _ _
      exact ⟨g, ⟨[(0, .kv l)], 1, []⟩, .rslice false .str ((l.map (·.1)).mergeSort leB), ⟨(), by first | trivial | exact ⟨rfl, trivial⟩⟩, Ctx.le.refl g, Upd.refl _, hm.grow hbel.block hbel.size hbel.os hbel.output, hr⟩
    · obtain ⟨hle, hm2⟩ := hm.stillNew hbel.block hbel.size hbel.os hbel.output h1
      have hLl : ((l.map (·.1)).mergeSort leB).length = l.length := by simp
      have hLb : ∀ s ∈ (l.map (·.1)).mergeSort leB, s.length ≤ maxI64 := by
        intro s hs
        have := ((l.map (·.1)).mergeSort_perm leB).mem_iff.1 hs
        obtain ⟨p, hp, rfl⟩ := List.mem_map.1 this
        exact hkv.2 p hp
      have hcells : ∀ (i : Nat) s, ((l.map (·.1)).mergeSort leB)[i]? = some s → w'.cell? ⟨gb, i, none⟩ = some (.string ⟨⟨s⟩⟩) := by
        intro i s hs
        have hi : i < ss.length := by rw [hlen, ← hLl]; exact (List.getElem?_eq_some_iff.1 hs).1
        have h7 := congrArg (·[i]?) h6
        simp only [List.getElem?_map, hs, Option.map_some] at h7
        rw [List.getElem?_take_of_lt (by omega)] at h7
        have h8 : cur[i]? = some (encStr s) := by rw [← h7]; simp
        simp [World.cell?, h2, h8]
      have hrep := Rep.rslice (g := g.still w' gb) false .str ((l.map (·.1)).mergeSort leB) gb 0 cap (fun i => [.string ⟨⟨((l.map (·.1)).mergeSort leB).getD i []⟩⟩]) (by rw [hLl, ← hlen]; exact h3) (by rw [hLl]; exact hl) (fun i => rfl)
        (fun i s hs j sv v a b => by
          have e : ((l.map (·.1)).mergeSort leB).getD i [] = s := by rw [List.getD_eq_getElem?_getD, hs]; rfl
          cases j with
          | succ j => simp [enc] at a
          | zero =>
            simp [enc] at a b
            subst a; subst b
            have e' : ((l.map (·.1)).mergeSort leB)[i]?.getD [] = s := by rw [hs]; rfl
            first | (rw [e]; exact .str _ (hLb s (List.mem_of_getElem? hs))) | (rw [e']; exact .str _ (hLb s (List.mem_of_getElem? hs))))
        (fun i hi j v hv => by
          cases j with
          | succ j => simp at hv
          | zero =>
            simp at hv
            subst hv
            show (if gb = gb then w'.cell? _ else _) = _
            rw [if_pos rfl]
            have := hcells i ((l.map (·.1)).mergeSort leB)[i] (by simp [hi])
            simp [Tc.width] at this ⊢
            rw [this, List.getElem?_eq_getElem hi]
            rfl)
      rw [hLl, ← hlen] at hrep
      exact ⟨_, ⟨[(0, .kv l)], 1, []⟩, .rslice false .str ((l.map (·.1)).mergeSort leB), ⟨(), by first | trivial | exact ⟨rfl, trivial⟩⟩, hle, Upd.refl _, hm2, hrep⟩
end Go.Proofs.YtildflamnehilaaGreat.Ses

namespace Go.Proofs.YtildflamnehilaaGreat.Ses
open Go Go.Proofs Go.Proofs.YtildflamnehilaaGreat.Sx Go.Proofs.YtildflamnehilaaGreat.Trx

/-! ### refs, log -/

def refK (K : List (Bs × Int)) (n : Bs) : RefD := ⟨n, (lookK K n).getD 0⟩
def namesK (K : List (Bs × Int)) : List Bs := (K.map (·.1)).mergeSort leB
def refsC (C : List CommitD) : List RefD := (namesK (kvC C)).map (refK (kvC C))
noncomputable def refsT : Tri := { γ := ComL, n0 := 3, args := fun _ => [.mptr 0 0], blks := fun C => gB C 1, pre := fun C => fewG C = true, δ := Unit, post := fun _ _ => True, n1 := 0, res := fun C _ => .rslice false .ref (refsC C), blks' := fun C _ => gB C 1, scal := false }
noncomputable def refsI : St → LInv := fun s => match getE s.env 14, getE s.env 0 with
  | .rslice _ .str ns, .mptr q _ => (match s.m.blks.get q with
    | some (.cells [_, _, .mmap k]) => (match s.m.blks.get k with
      | some (.kv K) => { σ := Nat, I := fun i => i ≤ ns.length, μ := fun i => ns.length - i, env := fun i => [(16, .int .i64 i), (3, .mslice .ref s.m.next 0 ((ns.take i).map (refK K)).length)], blk := fun i => [(s.m.next, .rows .ref ((ns.take i).map (refK K)))], fresh := 1, drop := [] }
      | _ => LInv.none)
    | _ => LInv.none)
  | _, _ => LInv.none
noncomputable def refsE : Envr := Env Tryz.prog cod [(128, keysT.spec), (127, sortKT.spec)] [(5, refsI)]

structure LogA where
  C : List CommitD
  frm : Int
  many : Int
def logC (x : LogA) : List CommitD := (x.C.drop (x.frm - 1).toNat).take (min x.many 32).toNat
def logV (x : LogA) : VerdictD := bif decide (x.frm < 1) || decide (x.many < 1) then ⟨5, 0, 0, [], 0, [], 0⟩ else ⟨11, 0, 0, [], 0, logC x, 0⟩
def inI (n : Int) : Bool := decide (n ≤ 9223372036854775807)
noncomputable def logT : Tri := { γ := LogA, n0 := 3, args := fun x => [.mptr 0 0, .int .i64 x.frm, .int .i64 x.many], blks := fun x => gB x.C 1, pre := fun x => fewG x.C = true ∧ inI x.frm = true, δ := Unit, post := fun _ _ => True, n1 := 0, res := fun x _ => .agg (logV x).enc, blks' := fun x _ => gB x.C 1, scal := false }
end Go.Proofs.YtildflamnehilaaGreat.Ses

namespace Go.Proofs.YtildflamnehilaaGreat.Ses
open Go Go.Proofs Go.Proofs.YtildflamnehilaaGreat.Sx Go.Proofs.YtildflamnehilaaGreat.Trx
set_option maxRecDepth 100000

theorem refs_vc (x : refsT.γ) : evCall refsE (ev refsE 1000) 79 (refsT.args x) ⟨refsT.blks x, refsT.n0, []⟩ (fun _ _ => False) (refsT.ends x) = (
(∃ x1 : (List (Prod Bs Int)),
 (((kvC x) = x1) ∧
 (True ∧
 (∀ x2 : Unit,
 (True →
 (∃ x3 : (List (Prod Bs Int)),
 ((x1 = x3) ∧
 (((decide (((List.length x3) * (16 : Nat)) ≤ room47)) = Bool.true) ∧
 (∀ x4 : Unit,
 (True →
 ((((List.length (@List.mergeSort (List UInt8) (List.map (fun x5 : (Prod Bs Int) => (Prod.fst x5)) x3) leB)) * (16 : Nat)) ≤ room47) →
 ((∃ x6 : Nat,
 (((0 : Int) = (↑x6 : Int)) ∧
 (((0 : Nat) = (List.length (List.map (refK x3) (List.take x6 (@List.mergeSort (List UInt8) (List.map (fun x7 : (Prod Bs Int) => (Prod.fst x7)) x3) leB))))) ∧
 ((([] : List RefD) = (List.map (refK x3) (List.take x6 (@List.mergeSort (List UInt8) (List.map (fun x8 : (Prod Bs Int) => (Prod.fst x8)) x3) leB)))) ∧
 (Nat.le x6 (List.length (@List.mergeSort (List UInt8) (List.map (fun x9 : (Prod Bs Int) => (Prod.fst x9)) x3) leB))))))) ∧
 (∀ x10 : Nat,
 ((Nat.le x10 (List.length (@List.mergeSort (List UInt8) (List.map (fun x11 : (Prod Bs Int) => (Prod.fst x11)) x3) leB))) →
 (br (decide ((↑x10 : Int) < (↑(List.length (@List.mergeSort (List UInt8) (List.map (fun x12 : (Prod Bs Int) => (Prod.fst x12)) x3) leB)) : Int)))
 (br (decide (((0 : Int) ≤ (↑x10 : Int)) ∧
 ((↑x10 : Int) < (↑(List.length (@List.mergeSort (List UInt8) (List.map (fun x13 : (Prod Bs Int) => (Prod.fst x13)) x3) leB)) : Int))))
 (((Nat.le ((List.length (List.map (refK x3) (List.take x10 (@List.mergeSort (List UInt8) (List.map (fun x14 : (Prod Bs Int) => (Prod.fst x14)) x3) leB)))) * (24 : Nat)) room47) ∧
 (Nat.le ((1 : Nat) * (24 : Nat)) room47)) →
 (br (Bool.and (Bool.and (decide (((0 : Nat) + (1 : Nat)) ≤ (List.length (List.cons (RefD.mk (List.getD (@List.mergeSort (List UInt8) (List.map (fun x15 : (Prod Bs Int) => (Prod.fst x15)) x3) leB) (Int.toNat (↑x10 : Int)) ([] : List UInt8)) (Option.getD (lookK x3 (List.getD (@List.mergeSort (List UInt8) (List.map (fun x16 : (Prod Bs Int) => (Prod.fst x16)) x3) leB) (Int.toNat (↑x10 : Int)) ([] : List UInt8))) (0 : Int))) ([] : List RefD))))) (decide (((0 : Nat) + (List.length (List.map (refK x3) (List.take x10 (@List.mergeSort (List UInt8) (List.map (fun x17 : (Prod Bs Int) => (Prod.fst x17)) x3) leB))))) ≤ (List.length (List.map (refK x3) (List.take x10 (@List.mergeSort (List UInt8) (List.map (fun x18 : (Prod Bs Int) => (Prod.fst x18)) x3) leB))))))) (decide ((((List.length (List.map (refK x3) (List.take x10 (@List.mergeSort (List UInt8) (List.map (fun x19 : (Prod Bs Int) => (Prod.fst x19)) x3) leB)))) + (List.length (List.take (1 : Nat) (List.drop (0 : Nat) (List.cons (RefD.mk (List.getD (@List.mergeSort (List UInt8) (List.map (fun x20 : (Prod Bs Int) => (Prod.fst x20)) x3) leB) (Int.toNat (↑x10 : Int)) ([] : List UInt8)) (Option.getD (lookK x3 (List.getD (@List.mergeSort (List UInt8) (List.map (fun x21 : (Prod Bs Int) => (Prod.fst x21)) x3) leB) (Int.toNat (↑x10 : Int)) ([] : List UInt8))) (0 : Int))) ([] : List RefD)))))) * (24 : Nat)) ≤ room47)))
 (∃ x22 : Nat,
 (((IntKind.wrap IntKind.i64 ((↑x10 : Int) + (1 : Int))) = (↑x22 : Int)) ∧
 (((0 : Nat) = (0 : Nat)) ∧
 ((((List.length (List.map (refK x3) (List.take x10 (@List.mergeSort (List UInt8) (List.map (fun x23 : (Prod Bs Int) => (Prod.fst x23)) x3) leB)))) + (List.length (List.take (1 : Nat) (List.drop (0 : Nat) (List.cons (RefD.mk (List.getD (@List.mergeSort (List UInt8) (List.map (fun x24 : (Prod Bs Int) => (Prod.fst x24)) x3) leB) (Int.toNat (↑x10 : Int)) ([] : List UInt8)) (Option.getD (lookK x3 (List.getD (@List.mergeSort (List UInt8) (List.map (fun x25 : (Prod Bs Int) => (Prod.fst x25)) x3) leB) (Int.toNat (↑x10 : Int)) ([] : List UInt8))) (0 : Int))) ([] : List RefD)))))) = (List.length (List.map (refK x3) (List.take x22 (@List.mergeSort (List UInt8) (List.map (fun x26 : (Prod Bs Int) => (Prod.fst x26)) x3) leB))))) ∧
 (((@HAppend.hAppend (List RefD) (List RefD) (List RefD) _ (List.take (List.length (List.map (refK x3) (List.take x10 (@List.mergeSort (List UInt8) (List.map (fun x27 : (Prod Bs Int) => (Prod.fst x27)) x3) leB)))) (List.drop (0 : Nat) (List.map (refK x3) (List.take x10 (@List.mergeSort (List UInt8) (List.map (fun x28 : (Prod Bs Int) => (Prod.fst x28)) x3) leB))))) (List.take (1 : Nat) (List.drop (0 : Nat) (List.cons (RefD.mk (List.getD (@List.mergeSort (List UInt8) (List.map (fun x29 : (Prod Bs Int) => (Prod.fst x29)) x3) leB) (Int.toNat (↑x10 : Int)) ([] : List UInt8)) (Option.getD (lookK x3 (List.getD (@List.mergeSort (List UInt8) (List.map (fun x30 : (Prod Bs Int) => (Prod.fst x30)) x3) leB) (Int.toNat (↑x10 : Int)) ([] : List UInt8))) (0 : Int))) ([] : List RefD))))) = (List.map (refK x3) (List.take x22 (@List.mergeSort (List UInt8) (List.map (fun x31 : (Prod Bs Int) => (Prod.fst x31)) x3) leB)))) ∧
 ((Nat.le x22 (List.length (@List.mergeSort (List UInt8) (List.map (fun x32 : (Prod Bs Int) => (Prod.fst x32)) x3) leB))) ∧
 ((Nat.sub (List.length (@List.mergeSort (List UInt8) (List.map (fun x33 : (Prod Bs Int) => (Prod.fst x33)) x3) leB)) x22) < (Nat.sub (List.length (@List.mergeSort (List UInt8) (List.map (fun x34 : (Prod Bs Int) => (Prod.fst x34)) x3) leB)) x10))))))))
 (Bad "check" "graph.go:129")))
 (Bad "check" "graph.go:128"))
 (∃ x35 : Unit,
 ((((0 : Nat) + (List.length (List.map (refK x3) (List.take x10 (@List.mergeSort (List UInt8) (List.map (fun x36 : (Prod Bs Int) => (Prod.fst x36)) x3) leB))))) ≤ (List.length (List.map (refK x3) (List.take x10 (@List.mergeSort (List UInt8) (List.map (fun x37 : (Prod Bs Int) => (Prod.fst x37)) x3) leB))))) ∧
 (((List.take (List.length (List.map (refK x3) (List.take x10 (@List.mergeSort (List UInt8) (List.map (fun x38 : (Prod Bs Int) => (Prod.fst x38)) x3) leB)))) (List.drop (0 : Nat) (List.map (refK x3) (List.take x10 (@List.mergeSort (List UInt8) (List.map (fun x39 : (Prod Bs Int) => (Prod.fst x39)) x3) leB))))) = (refsC x)) ∧
 (((0 : Nat) = (0 : Nat)) ∧
 (((List.length x) = (List.length x)) ∧
 (((treeC x) = (treeC x)) ∧
 ((x = x) ∧
 ((x3 = (kvC x)) ∧
 True)))))))))))))))))))))))) := by kernel_rfl

theorem log_vc (x : logT.γ) : evCall commitsE (ev commitsE 1000) 39 (logT.args x) ⟨logT.blks x, logT.n0, []⟩ (fun _ _ => False) (logT.ends x) = (
(br (decide ((LogA.frm x) < (1 : Int)))
 (∃ x1 : Unit,
 (((5 : Int) = (VerdictD.code (logV x))) ∧
 (((0 : Int) = (VerdictD.session (logV x))) ∧
 (((0 : Int) = (VerdictD.rev (logV x))) ∧
 (((Array.toList (ByteArray.data (ByteArray.mk (List.toArray ([] : List UInt8))))) = (VerdictD.path (logV x))) ∧
 (((0 : Int) = (VerdictD.digest (logV x))) ∧
 ((([] : List CommitD) = (VerdictD.commits (logV x))) ∧
 (((0 : Int) = (VerdictD.member (logV x))) ∧
 (((0 : Nat) = (0 : Nat)) ∧
 (((List.length (LogA.C x)) = (List.length (LogA.C x))) ∧
 (((treeC (LogA.C x)) = (treeC (LogA.C x))) ∧
 (((LogA.C x) = (LogA.C x)) ∧
 (((kvC (LogA.C x)) = (kvC (LogA.C x))) ∧
 True)))))))))))))
 (br (decide ((LogA.many x) < (1 : Int)))
 (∃ x2 : Unit,
 (((5 : Int) = (VerdictD.code (logV x))) ∧
 (((0 : Int) = (VerdictD.session (logV x))) ∧
 (((0 : Int) = (VerdictD.rev (logV x))) ∧
 (((Array.toList (ByteArray.data (ByteArray.mk (List.toArray ([] : List UInt8))))) = (VerdictD.path (logV x))) ∧
 (((0 : Int) = (VerdictD.digest (logV x))) ∧
 ((([] : List CommitD) = (VerdictD.commits (logV x))) ∧
 (((0 : Int) = (VerdictD.member (logV x))) ∧
 (((0 : Nat) = (0 : Nat)) ∧
 (((List.length (LogA.C x)) = (List.length (LogA.C x))) ∧
 (((treeC (LogA.C x)) = (treeC (LogA.C x))) ∧
 (((LogA.C x) = (LogA.C x)) ∧
 (((kvC (LogA.C x)) = (kvC (LogA.C x))) ∧
 True)))))))))))))
 ((((List.length (LogA.C x)) * (56 : Nat)) ≤ room47) →
 (br (bndB (List.length (LogA.C x)) (Option.some (mmI Bool.true (IntKind.wrap IntKind.i64 ((LogA.frm x) - (1 : Int))) (↑(List.length (LogA.C x)) : Int))) (none : Option Int) (none : Option Int))
 ((((cutN (List.length (LogA.C x)) (Option.some (mmI Bool.true (IntKind.wrap IntKind.i64 ((LogA.frm x) - (1 : Int))) (↑(List.length (LogA.C x)) : Int))) (none : Option Int)) * (56 : Nat)) ≤ room47) →
 (br (bndB (cutN (List.length (LogA.C x)) (Option.some (mmI Bool.true (IntKind.wrap IntKind.i64 ((LogA.frm x) - (1 : Int))) (↑(List.length (LogA.C x)) : Int))) (none : Option Int)) (none : Option Int) (Option.some (mmI Bool.true (mmI Bool.true (↑(cutN (List.length (LogA.C x)) (Option.some (mmI Bool.true (IntKind.wrap IntKind.i64 ((LogA.frm x) - (1 : Int))) (↑(List.length (LogA.C x)) : Int))) (none : Option Int)) : Int) (LogA.many x)) (32 : Int))) (none : Option Int))
 (∀ x3 : Bool,
 (((x3 = Bool.true) →
 ((cutN (cutN (List.length (LogA.C x)) (Option.some (mmI Bool.true (IntKind.wrap IntKind.i64 ((LogA.frm x) - (1 : Int))) (↑(List.length (LogA.C x)) : Int))) (none : Option Int)) (none : Option Int) (Option.some (mmI Bool.true (mmI Bool.true (↑(cutN (List.length (LogA.C x)) (Option.some (mmI Bool.true (IntKind.wrap IntKind.i64 ((LogA.frm x) - (1 : Int))) (↑(List.length (LogA.C x)) : Int))) (none : Option Int)) : Int) (LogA.many x)) (32 : Int)))) = (0 : Nat))) →
 (br x3
 ((∃ x4 : Unit,
 (((0 : Int) = (0 : Int)) ∧
 True)) ∧
 (∀ x5 : Unit,
 (True →
 (∃ x6 : Unit,
 (((11 : Int) = (VerdictD.code (logV x))) ∧
 (((0 : Int) = (VerdictD.session (logV x))) ∧
 (((0 : Int) = (VerdictD.rev (logV x))) ∧
 (((Array.toList (ByteArray.data (ByteArray.mk (List.toArray ([] : List UInt8))))) = (VerdictD.path (logV x))) ∧
 (((0 : Int) = (VerdictD.digest (logV x))) ∧
 ((([] : List CommitD) = (VerdictD.commits (logV x))) ∧
 (((0 : Int) = (VerdictD.member (logV x))) ∧
 (((0 : Nat) = (0 : Nat)) ∧
 (((List.length (LogA.C x)) = (List.length (LogA.C x))) ∧
 (((treeC (LogA.C x)) = (treeC (LogA.C x))) ∧
 (((LogA.C x) = (LogA.C x)) ∧
 (((kvC (LogA.C x)) = (kvC (LogA.C x))) ∧
 True))))))))))))))))
 (((Nat.le ((0 : Nat) * (56 : Nat)) room47) ∧
 (Nat.le ((cutN (cutN (List.length (LogA.C x)) (Option.some (mmI Bool.true (IntKind.wrap IntKind.i64 ((LogA.frm x) - (1 : Int))) (↑(List.length (LogA.C x)) : Int))) (none : Option Int)) (none : Option Int) (Option.some (mmI Bool.true (mmI Bool.true (↑(cutN (List.length (LogA.C x)) (Option.some (mmI Bool.true (IntKind.wrap IntKind.i64 ((LogA.frm x) - (1 : Int))) (↑(List.length (LogA.C x)) : Int))) (none : Option Int)) : Int) (LogA.many x)) (32 : Int)))) * (56 : Nat)) room47)) →
 (br (Bool.and (Bool.and (decide (((addN (addN (0 : Nat) (Option.some (mmI Bool.true (IntKind.wrap IntKind.i64 ((LogA.frm x) - (1 : Int))) (↑(List.length (LogA.C x)) : Int)))) (none : Option Int)) + (cutN (cutN (List.length (LogA.C x)) (Option.some (mmI Bool.true (IntKind.wrap IntKind.i64 ((LogA.frm x) - (1 : Int))) (↑(List.length (LogA.C x)) : Int))) (none : Option Int)) (none : Option Int) (Option.some (mmI Bool.true (mmI Bool.true (↑(cutN (List.length (LogA.C x)) (Option.some (mmI Bool.true (IntKind.wrap IntKind.i64 ((LogA.frm x) - (1 : Int))) (↑(List.length (LogA.C x)) : Int))) (none : Option Int)) : Int) (LogA.many x)) (32 : Int))))) ≤ (List.length (LogA.C x)))) (decide (((0 : Nat) + (0 : Nat)) ≤ (List.length ([] : List CommitD))))) (decide ((((0 : Nat) + (List.length (List.take (cutN (cutN (List.length (LogA.C x)) (Option.some (mmI Bool.true (IntKind.wrap IntKind.i64 ((LogA.frm x) - (1 : Int))) (↑(List.length (LogA.C x)) : Int))) (none : Option Int)) (none : Option Int) (Option.some (mmI Bool.true (mmI Bool.true (↑(cutN (List.length (LogA.C x)) (Option.some (mmI Bool.true (IntKind.wrap IntKind.i64 ((LogA.frm x) - (1 : Int))) (↑(List.length (LogA.C x)) : Int))) (none : Option Int)) : Int) (LogA.many x)) (32 : Int)))) (List.drop (addN (addN (0 : Nat) (Option.some (mmI Bool.true (IntKind.wrap IntKind.i64 ((LogA.frm x) - (1 : Int))) (↑(List.length (LogA.C x)) : Int)))) (none : Option Int)) (LogA.C x))))) * (56 : Nat)) ≤ room47)))
 (((((0 : Nat) + (List.length (List.take (cutN (cutN (List.length (LogA.C x)) (Option.some (mmI Bool.true (IntKind.wrap IntKind.i64 ((LogA.frm x) - (1 : Int))) (↑(List.length (LogA.C x)) : Int))) (none : Option Int)) (none : Option Int) (Option.some (mmI Bool.true (mmI Bool.true (↑(cutN (List.length (LogA.C x)) (Option.some (mmI Bool.true (IntKind.wrap IntKind.i64 ((LogA.frm x) - (1 : Int))) (↑(List.length (LogA.C x)) : Int))) (none : Option Int)) : Int) (LogA.many x)) (32 : Int)))) (List.drop (addN (addN (0 : Nat) (Option.some (mmI Bool.true (IntKind.wrap IntKind.i64 ((LogA.frm x) - (1 : Int))) (↑(List.length (LogA.C x)) : Int)))) (none : Option Int)) (LogA.C x))))) * (56 : Nat)) ≤ room47) →
 ((∃ x7 : Nat,
 (((0 : Int) = (↑x7 : Int)) ∧
 (((@HAppend.hAppend (List CommitD) (List CommitD) (List CommitD) _ (List.take (0 : Nat) (List.drop (0 : Nat) ([] : List CommitD))) (List.take (cutN (cutN (List.length (LogA.C x)) (Option.some (mmI Bool.true (IntKind.wrap IntKind.i64 ((LogA.frm x) - (1 : Int))) (↑(List.length (LogA.C x)) : Int))) (none : Option Int)) (none : Option Int) (Option.some (mmI Bool.true (mmI Bool.true (↑(cutN (List.length (LogA.C x)) (Option.some (mmI Bool.true (IntKind.wrap IntKind.i64 ((LogA.frm x) - (1 : Int))) (↑(List.length (LogA.C x)) : Int))) (none : Option Int)) : Int) (LogA.many x)) (32 : Int)))) (List.drop (addN (addN (0 : Nat) (Option.some (mmI Bool.true (IntKind.wrap IntKind.i64 ((LogA.frm x) - (1 : Int))) (↑(List.length (LogA.C x)) : Int)))) (none : Option Int)) (LogA.C x)))) = (@HAppend.hAppend (List CommitD) (List CommitD) (List CommitD) _ (List.take (0 : Nat) (List.drop (0 : Nat) ([] : List CommitD))) (List.take (cutN (cutN (List.length (LogA.C x)) (Option.some (mmI Bool.true (IntKind.wrap IntKind.i64 ((LogA.frm x) - (1 : Int))) (↑(List.length (LogA.C x)) : Int))) (none : Option Int)) (none : Option Int) (Option.some (mmI Bool.true (mmI Bool.true (↑(cutN (List.length (LogA.C x)) (Option.some (mmI Bool.true (IntKind.wrap IntKind.i64 ((LogA.frm x) - (1 : Int))) (↑(List.length (LogA.C x)) : Int))) (none : Option Int)) : Int) (LogA.many x)) (32 : Int)))) (List.drop (addN (addN (0 : Nat) (Option.some (mmI Bool.true (IntKind.wrap IntKind.i64 ((LogA.frm x) - (1 : Int))) (↑(List.length (LogA.C x)) : Int)))) (none : Option Int)) (LogA.C x))))) ∧
 (Nat.le x7 ((0 : Nat) + (List.length (List.take (cutN (cutN (List.length (LogA.C x)) (Option.some (mmI Bool.true (IntKind.wrap IntKind.i64 ((LogA.frm x) - (1 : Int))) (↑(List.length (LogA.C x)) : Int))) (none : Option Int)) (none : Option Int) (Option.some (mmI Bool.true (mmI Bool.true (↑(cutN (List.length (LogA.C x)) (Option.some (mmI Bool.true (IntKind.wrap IntKind.i64 ((LogA.frm x) - (1 : Int))) (↑(List.length (LogA.C x)) : Int))) (none : Option Int)) : Int) (LogA.many x)) (32 : Int)))) (List.drop (addN (addN (0 : Nat) (Option.some (mmI Bool.true (IntKind.wrap IntKind.i64 ((LogA.frm x) - (1 : Int))) (↑(List.length (LogA.C x)) : Int)))) (none : Option Int)) (LogA.C x))))))))) ∧
 (∀ x8 : Nat,
 ((Nat.le x8 ((0 : Nat) + (List.length (List.take (cutN (cutN (List.length (LogA.C x)) (Option.some (mmI Bool.true (IntKind.wrap IntKind.i64 ((LogA.frm x) - (1 : Int))) (↑(List.length (LogA.C x)) : Int))) (none : Option Int)) (none : Option Int) (Option.some (mmI Bool.true (mmI Bool.true (↑(cutN (List.length (LogA.C x)) (Option.some (mmI Bool.true (IntKind.wrap IntKind.i64 ((LogA.frm x) - (1 : Int))) (↑(List.length (LogA.C x)) : Int))) (none : Option Int)) : Int) (LogA.many x)) (32 : Int)))) (List.drop (addN (addN (0 : Nat) (Option.some (mmI Bool.true (IntKind.wrap IntKind.i64 ((LogA.frm x) - (1 : Int))) (↑(List.length (LogA.C x)) : Int)))) (none : Option Int)) (LogA.C x)))))) →
 (br (decide ((↑x8 : Int) < (↑((0 : Nat) + (List.length (List.take (cutN (cutN (List.length (LogA.C x)) (Option.some (mmI Bool.true (IntKind.wrap IntKind.i64 ((LogA.frm x) - (1 : Int))) (↑(List.length (LogA.C x)) : Int))) (none : Option Int)) (none : Option Int) (Option.some (mmI Bool.true (mmI Bool.true (↑(cutN (List.length (LogA.C x)) (Option.some (mmI Bool.true (IntKind.wrap IntKind.i64 ((LogA.frm x) - (1 : Int))) (↑(List.length (LogA.C x)) : Int))) (none : Option Int)) : Int) (LogA.many x)) (32 : Int)))) (List.drop (addN (addN (0 : Nat) (Option.some (mmI Bool.true (IntKind.wrap IntKind.i64 ((LogA.frm x) - (1 : Int))) (↑(List.length (LogA.C x)) : Int)))) (none : Option Int)) (LogA.C x))))) : Int)))
 (br (decide (((0 : Int) ≤ (↑x8 : Int)) ∧
 ((↑x8 : Int) < (↑((0 : Nat) + (List.length (List.take (cutN (cutN (List.length (LogA.C x)) (Option.some (mmI Bool.true (IntKind.wrap IntKind.i64 ((LogA.frm x) - (1 : Int))) (↑(List.length (LogA.C x)) : Int))) (none : Option Int)) (none : Option Int) (Option.some (mmI Bool.true (mmI Bool.true (↑(cutN (List.length (LogA.C x)) (Option.some (mmI Bool.true (IntKind.wrap IntKind.i64 ((LogA.frm x) - (1 : Int))) (↑(List.length (LogA.C x)) : Int))) (none : Option Int)) : Int) (LogA.many x)) (32 : Int)))) (List.drop (addN (addN (0 : Nat) (Option.some (mmI Bool.true (IntKind.wrap IntKind.i64 ((LogA.frm x) - (1 : Int))) (↑(List.length (LogA.C x)) : Int)))) (none : Option Int)) (LogA.C x))))) : Int))))
 (br (decide (((0 : Nat) + (Int.toNat (↑x8 : Int))) < (List.length (@HAppend.hAppend (List CommitD) (List CommitD) (List CommitD) _ (List.take (0 : Nat) (List.drop (0 : Nat) ([] : List CommitD))) (List.take (cutN (cutN (List.length (LogA.C x)) (Option.some (mmI Bool.true (IntKind.wrap IntKind.i64 ((LogA.frm x) - (1 : Int))) (↑(List.length (LogA.C x)) : Int))) (none : Option Int)) (none : Option Int) (Option.some (mmI Bool.true (mmI Bool.true (↑(cutN (List.length (LogA.C x)) (Option.some (mmI Bool.true (IntKind.wrap IntKind.i64 ((LogA.frm x) - (1 : Int))) (↑(List.length (LogA.C x)) : Int))) (none : Option Int)) : Int) (LogA.many x)) (32 : Int)))) (List.drop (addN (addN (0 : Nat) (Option.some (mmI Bool.true (IntKind.wrap IntKind.i64 ((LogA.frm x) - (1 : Int))) (↑(List.length (LogA.C x)) : Int)))) (none : Option Int)) (LogA.C x)))))))
 (∀ x9 : Bool,
 (((x9 = Bool.true) →
 ((CommitD.changes (List.getD (@HAppend.hAppend (List CommitD) (List CommitD) (List CommitD) _ (List.take (0 : Nat) (List.drop (0 : Nat) ([] : List CommitD))) (List.take (cutN (cutN (List.length (LogA.C x)) (Option.some (mmI Bool.true (IntKind.wrap IntKind.i64 ((LogA.frm x) - (1 : Int))) (↑(List.length (LogA.C x)) : Int))) (none : Option Int)) (none : Option Int) (Option.some (mmI Bool.true (mmI Bool.true (↑(cutN (List.length (LogA.C x)) (Option.some (mmI Bool.true (IntKind.wrap IntKind.i64 ((LogA.frm x) - (1 : Int))) (↑(List.length (LogA.C x)) : Int))) (none : Option Int)) : Int) (LogA.many x)) (32 : Int)))) (List.drop (addN (addN (0 : Nat) (Option.some (mmI Bool.true (IntKind.wrap IntKind.i64 ((LogA.frm x) - (1 : Int))) (↑(List.length (LogA.C x)) : Int)))) (none : Option Int)) (LogA.C x)))) ((0 : Nat) + (Int.toNat (↑x8 : Int))) (CommitD.mk (0 : Int) (0 : Int) ([] : List UInt8) ([] : List ChangeD)))) = ([] : List ChangeD))) →
 (br x9
 (br (decide (((0 : Int) ≤ (↑x8 : Int)) ∧
 ((↑x8 : Int) < (↑((0 : Nat) + (List.length (List.take (cutN (cutN (List.length (LogA.C x)) (Option.some (mmI Bool.true (IntKind.wrap IntKind.i64 ((LogA.frm x) - (1 : Int))) (↑(List.length (LogA.C x)) : Int))) (none : Option Int)) (none : Option Int) (Option.some (mmI Bool.true (mmI Bool.true (↑(cutN (List.length (LogA.C x)) (Option.some (mmI Bool.true (IntKind.wrap IntKind.i64 ((LogA.frm x) - (1 : Int))) (↑(List.length (LogA.C x)) : Int))) (none : Option Int)) : Int) (LogA.many x)) (32 : Int)))) (List.drop (addN (addN (0 : Nat) (Option.some (mmI Bool.true (IntKind.wrap IntKind.i64 ((LogA.frm x) - (1 : Int))) (↑(List.length (LogA.C x)) : Int)))) (none : Option Int)) (LogA.C x))))) : Int))))
 (br (Bool.and Bool.true (decide (((0 : Nat) + (Int.toNat (↑x8 : Int))) < (List.length (@HAppend.hAppend (List CommitD) (List CommitD) (List CommitD) _ (List.take (0 : Nat) (List.drop (0 : Nat) ([] : List CommitD))) (List.take (cutN (cutN (List.length (LogA.C x)) (Option.some (mmI Bool.true (IntKind.wrap IntKind.i64 ((LogA.frm x) - (1 : Int))) (↑(List.length (LogA.C x)) : Int))) (none : Option Int)) (none : Option Int) (Option.some (mmI Bool.true (mmI Bool.true (↑(cutN (List.length (LogA.C x)) (Option.some (mmI Bool.true (IntKind.wrap IntKind.i64 ((LogA.frm x) - (1 : Int))) (↑(List.length (LogA.C x)) : Int))) (none : Option Int)) : Int) (LogA.many x)) (32 : Int)))) (List.drop (addN (addN (0 : Nat) (Option.some (mmI Bool.true (IntKind.wrap IntKind.i64 ((LogA.frm x) - (1 : Int))) (↑(List.length (LogA.C x)) : Int)))) (none : Option Int)) (LogA.C x))))))))
 (∃ x10 : Nat,
 (((IntKind.wrap IntKind.i64 ((↑x8 : Int) + (1 : Int))) = (↑x10 : Int)) ∧
 (((List.set (@HAppend.hAppend (List CommitD) (List CommitD) (List CommitD) _ (List.take (0 : Nat) (List.drop (0 : Nat) ([] : List CommitD))) (List.take (cutN (cutN (List.length (LogA.C x)) (Option.some (mmI Bool.true (IntKind.wrap IntKind.i64 ((LogA.frm x) - (1 : Int))) (↑(List.length (LogA.C x)) : Int))) (none : Option Int)) (none : Option Int) (Option.some (mmI Bool.true (mmI Bool.true (↑(cutN (List.length (LogA.C x)) (Option.some (mmI Bool.true (IntKind.wrap IntKind.i64 ((LogA.frm x) - (1 : Int))) (↑(List.length (LogA.C x)) : Int))) (none : Option Int)) : Int) (LogA.many x)) (32 : Int)))) (List.drop (addN (addN (0 : Nat) (Option.some (mmI Bool.true (IntKind.wrap IntKind.i64 ((LogA.frm x) - (1 : Int))) (↑(List.length (LogA.C x)) : Int)))) (none : Option Int)) (LogA.C x)))) ((0 : Nat) + (Int.toNat (↑x8 : Int))) (CommitD.mk (CommitD.rev (List.getD (@HAppend.hAppend (List CommitD) (List CommitD) (List CommitD) _ (List.take (0 : Nat) (List.drop (0 : Nat) ([] : List CommitD))) (List.take (cutN (cutN (List.length (LogA.C x)) (Option.some (mmI Bool.true (IntKind.wrap IntKind.i64 ((LogA.frm x) - (1 : Int))) (↑(List.length (LogA.C x)) : Int))) (none : Option Int)) (none : Option Int) (Option.some (mmI Bool.true (mmI Bool.true (↑(cutN (List.length (LogA.C x)) (Option.some (mmI Bool.true (IntKind.wrap IntKind.i64 ((LogA.frm x) - (1 : Int))) (↑(List.length (LogA.C x)) : Int))) (none : Option Int)) : Int) (LogA.many x)) (32 : Int)))) (List.drop (addN (addN (0 : Nat) (Option.some (mmI Bool.true (IntKind.wrap IntKind.i64 ((LogA.frm x) - (1 : Int))) (↑(List.length (LogA.C x)) : Int)))) (none : Option Int)) (LogA.C x)))) ((0 : Nat) + (Int.toNat (↑x8 : Int))) (CommitD.mk (0 : Int) (0 : Int) ([] : List UInt8) ([] : List ChangeD)))) (CommitD.base (List.getD (@HAppend.hAppend (List CommitD) (List CommitD) (List CommitD) _ (List.take (0 : Nat) (List.drop (0 : Nat) ([] : List CommitD))) (List.take (cutN (cutN (List.length (LogA.C x)) (Option.some (mmI Bool.true (IntKind.wrap IntKind.i64 ((LogA.frm x) - (1 : Int))) (↑(List.length (LogA.C x)) : Int))) (none : Option Int)) (none : Option Int) (Option.some (mmI Bool.true (mmI Bool.true (↑(cutN (List.length (LogA.C x)) (Option.some (mmI Bool.true (IntKind.wrap IntKind.i64 ((LogA.frm x) - (1 : Int))) (↑(List.length (LogA.C x)) : Int))) (none : Option Int)) : Int) (LogA.many x)) (32 : Int)))) (List.drop (addN (addN (0 : Nat) (Option.some (mmI Bool.true (IntKind.wrap IntKind.i64 ((LogA.frm x) - (1 : Int))) (↑(List.length (LogA.C x)) : Int)))) (none : Option Int)) (LogA.C x)))) ((0 : Nat) + (Int.toNat (↑x8 : Int))) (CommitD.mk (0 : Int) (0 : Int) ([] : List UInt8) ([] : List ChangeD)))) (CommitD.ref (List.getD (@HAppend.hAppend (List CommitD) (List CommitD) (List CommitD) _ (List.take (0 : Nat) (List.drop (0 : Nat) ([] : List CommitD))) (List.take (cutN (cutN (List.length (LogA.C x)) (Option.some (mmI Bool.true (IntKind.wrap IntKind.i64 ((LogA.frm x) - (1 : Int))) (↑(List.length (LogA.C x)) : Int))) (none : Option Int)) (none : Option Int) (Option.some (mmI Bool.true (mmI Bool.true (↑(cutN (List.length (LogA.C x)) (Option.some (mmI Bool.true (IntKind.wrap IntKind.i64 ((LogA.frm x) - (1 : Int))) (↑(List.length (LogA.C x)) : Int))) (none : Option Int)) : Int) (LogA.many x)) (32 : Int)))) (List.drop (addN (addN (0 : Nat) (Option.some (mmI Bool.true (IntKind.wrap IntKind.i64 ((LogA.frm x) - (1 : Int))) (↑(List.length (LogA.C x)) : Int)))) (none : Option Int)) (LogA.C x)))) ((0 : Nat) + (Int.toNat (↑x8 : Int))) (CommitD.mk (0 : Int) (0 : Int) ([] : List UInt8) ([] : List ChangeD)))) ([] : List ChangeD))) = (@HAppend.hAppend (List CommitD) (List CommitD) (List CommitD) _ (List.take (0 : Nat) (List.drop (0 : Nat) ([] : List CommitD))) (List.take (cutN (cutN (List.length (LogA.C x)) (Option.some (mmI Bool.true (IntKind.wrap IntKind.i64 ((LogA.frm x) - (1 : Int))) (↑(List.length (LogA.C x)) : Int))) (none : Option Int)) (none : Option Int) (Option.some (mmI Bool.true (mmI Bool.true (↑(cutN (List.length (LogA.C x)) (Option.some (mmI Bool.true (IntKind.wrap IntKind.i64 ((LogA.frm x) - (1 : Int))) (↑(List.length (LogA.C x)) : Int))) (none : Option Int)) : Int) (LogA.many x)) (32 : Int)))) (List.drop (addN (addN (0 : Nat) (Option.some (mmI Bool.true (IntKind.wrap IntKind.i64 ((LogA.frm x) - (1 : Int))) (↑(List.length (LogA.C x)) : Int)))) (none : Option Int)) (LogA.C x))))) ∧
 ((Nat.le x10 ((0 : Nat) + (List.length (List.take (cutN (cutN (List.length (LogA.C x)) (Option.some (mmI Bool.true (IntKind.wrap IntKind.i64 ((LogA.frm x) - (1 : Int))) (↑(List.length (LogA.C x)) : Int))) (none : Option Int)) (none : Option Int) (Option.some (mmI Bool.true (mmI Bool.true (↑(cutN (List.length (LogA.C x)) (Option.some (mmI Bool.true (IntKind.wrap IntKind.i64 ((LogA.frm x) - (1 : Int))) (↑(List.length (LogA.C x)) : Int))) (none : Option Int)) : Int) (LogA.many x)) (32 : Int)))) (List.drop (addN (addN (0 : Nat) (Option.some (mmI Bool.true (IntKind.wrap IntKind.i64 ((LogA.frm x) - (1 : Int))) (↑(List.length (LogA.C x)) : Int)))) (none : Option Int)) (LogA.C x)))))) ∧
 ((Nat.sub ((0 : Nat) + (List.length (List.take (cutN (cutN (List.length (LogA.C x)) (Option.some (mmI Bool.true (IntKind.wrap IntKind.i64 ((LogA.frm x) - (1 : Int))) (↑(List.length (LogA.C x)) : Int))) (none : Option Int)) (none : Option Int) (Option.some (mmI Bool.true (mmI Bool.true (↑(cutN (List.length (LogA.C x)) (Option.some (mmI Bool.true (IntKind.wrap IntKind.i64 ((LogA.frm x) - (1 : Int))) (↑(List.length (LogA.C x)) : Int))) (none : Option Int)) : Int) (LogA.many x)) (32 : Int)))) (List.drop (addN (addN (0 : Nat) (Option.some (mmI Bool.true (IntKind.wrap IntKind.i64 ((LogA.frm x) - (1 : Int))) (↑(List.length (LogA.C x)) : Int)))) (none : Option Int)) (LogA.C x))))) x10) < (Nat.sub ((0 : Nat) + (List.length (List.take (cutN (cutN (List.length (LogA.C x)) (Option.some (mmI Bool.true (IntKind.wrap IntKind.i64 ((LogA.frm x) - (1 : Int))) (↑(List.length (LogA.C x)) : Int))) (none : Option Int)) (none : Option Int) (Option.some (mmI Bool.true (mmI Bool.true (↑(cutN (List.length (LogA.C x)) (Option.some (mmI Bool.true (IntKind.wrap IntKind.i64 ((LogA.frm x) - (1 : Int))) (↑(List.length (LogA.C x)) : Int))) (none : Option Int)) : Int) (LogA.many x)) (32 : Int)))) (List.drop (addN (addN (0 : Nat) (Option.some (mmI Bool.true (IntKind.wrap IntKind.i64 ((LogA.frm x) - (1 : Int))) (↑(List.length (LogA.C x)) : Int)))) (none : Option Int)) (LogA.C x))))) x8))))))
 (Bad "check" "graph.go:105"))
 (Bad "check" "graph.go:105"))
 (((Nat.le ((0 : Nat) * (32 : Nat)) room47) ∧
 (Nat.le ((List.length (CommitD.changes (List.getD (@HAppend.hAppend (List CommitD) (List CommitD) (List CommitD) _ (List.take (0 : Nat) (List.drop (0 : Nat) ([] : List CommitD))) (List.take (cutN (cutN (List.length (LogA.C x)) (Option.some (mmI Bool.true (IntKind.wrap IntKind.i64 ((LogA.frm x) - (1 : Int))) (↑(List.length (LogA.C x)) : Int))) (none : Option Int)) (none : Option Int) (Option.some (mmI Bool.true (mmI Bool.true (↑(cutN (List.length (LogA.C x)) (Option.some (mmI Bool.true (IntKind.wrap IntKind.i64 ((LogA.frm x) - (1 : Int))) (↑(List.length (LogA.C x)) : Int))) (none : Option Int)) : Int) (LogA.many x)) (32 : Int)))) (List.drop (addN (addN (0 : Nat) (Option.some (mmI Bool.true (IntKind.wrap IntKind.i64 ((LogA.frm x) - (1 : Int))) (↑(List.length (LogA.C x)) : Int)))) (none : Option Int)) (LogA.C x)))) ((0 : Nat) + (Int.toNat (↑x8 : Int))) (CommitD.mk (0 : Int) (0 : Int) ([] : List UInt8) ([] : List ChangeD))))) * (32 : Nat)) room47)) →
 (br (Bool.and (Bool.and Bool.true (decide (((0 : Nat) + (0 : Nat)) ≤ (List.length ([] : List ChangeD))))) (decide ((((0 : Nat) + (List.length (CommitD.changes (List.getD (@HAppend.hAppend (List CommitD) (List CommitD) (List CommitD) _ (List.take (0 : Nat) (List.drop (0 : Nat) ([] : List CommitD))) (List.take (cutN (cutN (List.length (LogA.C x)) (Option.some (mmI Bool.true (IntKind.wrap IntKind.i64 ((LogA.frm x) - (1 : Int))) (↑(List.length (LogA.C x)) : Int))) (none : Option Int)) (none : Option Int) (Option.some (mmI Bool.true (mmI Bool.true (↑(cutN (List.length (LogA.C x)) (Option.some (mmI Bool.true (IntKind.wrap IntKind.i64 ((LogA.frm x) - (1 : Int))) (↑(List.length (LogA.C x)) : Int))) (none : Option Int)) : Int) (LogA.many x)) (32 : Int)))) (List.drop (addN (addN (0 : Nat) (Option.some (mmI Bool.true (IntKind.wrap IntKind.i64 ((LogA.frm x) - (1 : Int))) (↑(List.length (LogA.C x)) : Int)))) (none : Option Int)) (LogA.C x)))) ((0 : Nat) + (Int.toNat (↑x8 : Int))) (CommitD.mk (0 : Int) (0 : Int) ([] : List UInt8) ([] : List ChangeD)))))) * (32 : Nat)) ≤ room47)))
 (br (decide (((0 : Int) ≤ (↑x8 : Int)) ∧
 ((↑x8 : Int) < (↑((0 : Nat) + (List.length (List.take (cutN (cutN (List.length (LogA.C x)) (Option.some (mmI Bool.true (IntKind.wrap IntKind.i64 ((LogA.frm x) - (1 : Int))) (↑(List.length (LogA.C x)) : Int))) (none : Option Int)) (none : Option Int) (Option.some (mmI Bool.true (mmI Bool.true (↑(cutN (List.length (LogA.C x)) (Option.some (mmI Bool.true (IntKind.wrap IntKind.i64 ((LogA.frm x) - (1 : Int))) (↑(List.length (LogA.C x)) : Int))) (none : Option Int)) : Int) (LogA.many x)) (32 : Int)))) (List.drop (addN (addN (0 : Nat) (Option.some (mmI Bool.true (IntKind.wrap IntKind.i64 ((LogA.frm x) - (1 : Int))) (↑(List.length (LogA.C x)) : Int)))) (none : Option Int)) (LogA.C x))))) : Int))))
 (br (Bool.and (Bool.and (decide (((0 : Nat) + ((0 : Nat) + (List.length (CommitD.changes (List.getD (@HAppend.hAppend (List CommitD) (List CommitD) (List CommitD) _ (List.take (0 : Nat) (List.drop (0 : Nat) ([] : List CommitD))) (List.take (cutN (cutN (List.length (LogA.C x)) (Option.some (mmI Bool.true (IntKind.wrap IntKind.i64 ((LogA.frm x) - (1 : Int))) (↑(List.length (LogA.C x)) : Int))) (none : Option Int)) (none : Option Int) (Option.some (mmI Bool.true (mmI Bool.true (↑(cutN (List.length (LogA.C x)) (Option.some (mmI Bool.true (IntKind.wrap IntKind.i64 ((LogA.frm x) - (1 : Int))) (↑(List.length (LogA.C x)) : Int))) (none : Option Int)) : Int) (LogA.many x)) (32 : Int)))) (List.drop (addN (addN (0 : Nat) (Option.some (mmI Bool.true (IntKind.wrap IntKind.i64 ((LogA.frm x) - (1 : Int))) (↑(List.length (LogA.C x)) : Int)))) (none : Option Int)) (LogA.C x)))) ((0 : Nat) + (Int.toNat (↑x8 : Int))) (CommitD.mk (0 : Int) (0 : Int) ([] : List UInt8) ([] : List ChangeD))))))) ≤ (List.length (@HAppend.hAppend (List ChangeD) (List ChangeD) (List ChangeD) _ (List.take (0 : Nat) (List.drop (0 : Nat) ([] : List ChangeD))) (CommitD.changes (List.getD (@HAppend.hAppend (List CommitD) (List CommitD) (List CommitD) _ (List.take (0 : Nat) (List.drop (0 : Nat) ([] : List CommitD))) (List.take (cutN (cutN (List.length (LogA.C x)) (Option.some (mmI Bool.true (IntKind.wrap IntKind.i64 ((LogA.frm x) - (1 : Int))) (↑(List.length (LogA.C x)) : Int))) (none : Option Int)) (none : Option Int) (Option.some (mmI Bool.true (mmI Bool.true (↑(cutN (List.length (LogA.C x)) (Option.some (mmI Bool.true (IntKind.wrap IntKind.i64 ((LogA.frm x) - (1 : Int))) (↑(List.length (LogA.C x)) : Int))) (none : Option Int)) : Int) (LogA.many x)) (32 : Int)))) (List.drop (addN (addN (0 : Nat) (Option.some (mmI Bool.true (IntKind.wrap IntKind.i64 ((LogA.frm x) - (1 : Int))) (↑(List.length (LogA.C x)) : Int)))) (none : Option Int)) (LogA.C x)))) ((0 : Nat) + (Int.toNat (↑x8 : Int))) (CommitD.mk (0 : Int) (0 : Int) ([] : List UInt8) ([] : List ChangeD)))))))) Bool.true) (decide (((0 : Nat) + (Int.toNat (↑x8 : Int))) < (List.length (@HAppend.hAppend (List CommitD) (List CommitD) (List CommitD) _ (List.take (0 : Nat) (List.drop (0 : Nat) ([] : List CommitD))) (List.take (cutN (cutN (List.length (LogA.C x)) (Option.some (mmI Bool.true (IntKind.wrap IntKind.i64 ((LogA.frm x) - (1 : Int))) (↑(List.length (LogA.C x)) : Int))) (none : Option Int)) (none : Option Int) (Option.some (mmI Bool.true (mmI Bool.true (↑(cutN (List.length (LogA.C x)) (Option.some (mmI Bool.true (IntKind.wrap IntKind.i64 ((LogA.frm x) - (1 : Int))) (↑(List.length (LogA.C x)) : Int))) (none : Option Int)) : Int) (LogA.many x)) (32 : Int)))) (List.drop (addN (addN (0 : Nat) (Option.some (mmI Bool.true (IntKind.wrap IntKind.i64 ((LogA.frm x) - (1 : Int))) (↑(List.length (LogA.C x)) : Int)))) (none : Option Int)) (LogA.C x))))))))
 (∃ x11 : Nat,
 (((IntKind.wrap IntKind.i64 ((↑x8 : Int) + (1 : Int))) = (↑x11 : Int)) ∧
 (((List.set (@HAppend.hAppend (List CommitD) (List CommitD) (List CommitD) _ (List.take (0 : Nat) (List.drop (0 : Nat) ([] : List CommitD))) (List.take (cutN (cutN (List.length (LogA.C x)) (Option.some (mmI Bool.true (IntKind.wrap IntKind.i64 ((LogA.frm x) - (1 : Int))) (↑(List.length (LogA.C x)) : Int))) (none : Option Int)) (none : Option Int) (Option.some (mmI Bool.true (mmI Bool.true (↑(cutN (List.length (LogA.C x)) (Option.some (mmI Bool.true (IntKind.wrap IntKind.i64 ((LogA.frm x) - (1 : Int))) (↑(List.length (LogA.C x)) : Int))) (none : Option Int)) : Int) (LogA.many x)) (32 : Int)))) (List.drop (addN (addN (0 : Nat) (Option.some (mmI Bool.true (IntKind.wrap IntKind.i64 ((LogA.frm x) - (1 : Int))) (↑(List.length (LogA.C x)) : Int)))) (none : Option Int)) (LogA.C x)))) ((0 : Nat) + (Int.toNat (↑x8 : Int))) (CommitD.mk (CommitD.rev (List.getD (@HAppend.hAppend (List CommitD) (List CommitD) (List CommitD) _ (List.take (0 : Nat) (List.drop (0 : Nat) ([] : List CommitD))) (List.take (cutN (cutN (List.length (LogA.C x)) (Option.some (mmI Bool.true (IntKind.wrap IntKind.i64 ((LogA.frm x) - (1 : Int))) (↑(List.length (LogA.C x)) : Int))) (none : Option Int)) (none : Option Int) (Option.some (mmI Bool.true (mmI Bool.true (↑(cutN (List.length (LogA.C x)) (Option.some (mmI Bool.true (IntKind.wrap IntKind.i64 ((LogA.frm x) - (1 : Int))) (↑(List.length (LogA.C x)) : Int))) (none : Option Int)) : Int) (LogA.many x)) (32 : Int)))) (List.drop (addN (addN (0 : Nat) (Option.some (mmI Bool.true (IntKind.wrap IntKind.i64 ((LogA.frm x) - (1 : Int))) (↑(List.length (LogA.C x)) : Int)))) (none : Option Int)) (LogA.C x)))) ((0 : Nat) + (Int.toNat (↑x8 : Int))) (CommitD.mk (0 : Int) (0 : Int) ([] : List UInt8) ([] : List ChangeD)))) (CommitD.base (List.getD (@HAppend.hAppend (List CommitD) (List CommitD) (List CommitD) _ (List.take (0 : Nat) (List.drop (0 : Nat) ([] : List CommitD))) (List.take (cutN (cutN (List.length (LogA.C x)) (Option.some (mmI Bool.true (IntKind.wrap IntKind.i64 ((LogA.frm x) - (1 : Int))) (↑(List.length (LogA.C x)) : Int))) (none : Option Int)) (none : Option Int) (Option.some (mmI Bool.true (mmI Bool.true (↑(cutN (List.length (LogA.C x)) (Option.some (mmI Bool.true (IntKind.wrap IntKind.i64 ((LogA.frm x) - (1 : Int))) (↑(List.length (LogA.C x)) : Int))) (none : Option Int)) : Int) (LogA.many x)) (32 : Int)))) (List.drop (addN (addN (0 : Nat) (Option.some (mmI Bool.true (IntKind.wrap IntKind.i64 ((LogA.frm x) - (1 : Int))) (↑(List.length (LogA.C x)) : Int)))) (none : Option Int)) (LogA.C x)))) ((0 : Nat) + (Int.toNat (↑x8 : Int))) (CommitD.mk (0 : Int) (0 : Int) ([] : List UInt8) ([] : List ChangeD)))) (CommitD.ref (List.getD (@HAppend.hAppend (List CommitD) (List CommitD) (List CommitD) _ (List.take (0 : Nat) (List.drop (0 : Nat) ([] : List CommitD))) (List.take (cutN (cutN (List.length (LogA.C x)) (Option.some (mmI Bool.true (IntKind.wrap IntKind.i64 ((LogA.frm x) - (1 : Int))) (↑(List.length (LogA.C x)) : Int))) (none : Option Int)) (none : Option Int) (Option.some (mmI Bool.true (mmI Bool.true (↑(cutN (List.length (LogA.C x)) (Option.some (mmI Bool.true (IntKind.wrap IntKind.i64 ((LogA.frm x) - (1 : Int))) (↑(List.length (LogA.C x)) : Int))) (none : Option Int)) : Int) (LogA.many x)) (32 : Int)))) (List.drop (addN (addN (0 : Nat) (Option.some (mmI Bool.true (IntKind.wrap IntKind.i64 ((LogA.frm x) - (1 : Int))) (↑(List.length (LogA.C x)) : Int)))) (none : Option Int)) (LogA.C x)))) ((0 : Nat) + (Int.toNat (↑x8 : Int))) (CommitD.mk (0 : Int) (0 : Int) ([] : List UInt8) ([] : List ChangeD)))) (List.take ((0 : Nat) + (List.length (CommitD.changes (List.getD (@HAppend.hAppend (List CommitD) (List CommitD) (List CommitD) _ (List.take (0 : Nat) (List.drop (0 : Nat) ([] : List CommitD))) (List.take (cutN (cutN (List.length (LogA.C x)) (Option.some (mmI Bool.true (IntKind.wrap IntKind.i64 ((LogA.frm x) - (1 : Int))) (↑(List.length (LogA.C x)) : Int))) (none : Option Int)) (none : Option Int) (Option.some (mmI Bool.true (mmI Bool.true (↑(cutN (List.length (LogA.C x)) (Option.some (mmI Bool.true (IntKind.wrap IntKind.i64 ((LogA.frm x) - (1 : Int))) (↑(List.length (LogA.C x)) : Int))) (none : Option Int)) : Int) (LogA.many x)) (32 : Int)))) (List.drop (addN (addN (0 : Nat) (Option.some (mmI Bool.true (IntKind.wrap IntKind.i64 ((LogA.frm x) - (1 : Int))) (↑(List.length (LogA.C x)) : Int)))) (none : Option Int)) (LogA.C x)))) ((0 : Nat) + (Int.toNat (↑x8 : Int))) (CommitD.mk (0 : Int) (0 : Int) ([] : List UInt8) ([] : List ChangeD)))))) (List.drop (0 : Nat) (@HAppend.hAppend (List ChangeD) (List ChangeD) (List ChangeD) _ (List.take (0 : Nat) (List.drop (0 : Nat) ([] : List ChangeD))) (CommitD.changes (List.getD (@HAppend.hAppend (List CommitD) (List CommitD) (List CommitD) _ (List.take (0 : Nat) (List.drop (0 : Nat) ([] : List CommitD))) (List.take (cutN (cutN (List.length (LogA.C x)) (Option.some (mmI Bool.true (IntKind.wrap IntKind.i64 ((LogA.frm x) - (1 : Int))) (↑(List.length (LogA.C x)) : Int))) (none : Option Int)) (none : Option Int) (Option.some (mmI Bool.true (mmI Bool.true (↑(cutN (List.length (LogA.C x)) (Option.some (mmI Bool.true (IntKind.wrap IntKind.i64 ((LogA.frm x) - (1 : Int))) (↑(List.length (LogA.C x)) : Int))) (none : Option Int)) : Int) (LogA.many x)) (32 : Int)))) (List.drop (addN (addN (0 : Nat) (Option.some (mmI Bool.true (IntKind.wrap IntKind.i64 ((LogA.frm x) - (1 : Int))) (↑(List.length (LogA.C x)) : Int)))) (none : Option Int)) (LogA.C x)))) ((0 : Nat) + (Int.toNat (↑x8 : Int))) (CommitD.mk (0 : Int) (0 : Int) ([] : List UInt8) ([] : List ChangeD))))))))) = (@HAppend.hAppend (List CommitD) (List CommitD) (List CommitD) _ (List.take (0 : Nat) (List.drop (0 : Nat) ([] : List CommitD))) (List.take (cutN (cutN (List.length (LogA.C x)) (Option.some (mmI Bool.true (IntKind.wrap IntKind.i64 ((LogA.frm x) - (1 : Int))) (↑(List.length (LogA.C x)) : Int))) (none : Option Int)) (none : Option Int) (Option.some (mmI Bool.true (mmI Bool.true (↑(cutN (List.length (LogA.C x)) (Option.some (mmI Bool.true (IntKind.wrap IntKind.i64 ((LogA.frm x) - (1 : Int))) (↑(List.length (LogA.C x)) : Int))) (none : Option Int)) : Int) (LogA.many x)) (32 : Int)))) (List.drop (addN (addN (0 : Nat) (Option.some (mmI Bool.true (IntKind.wrap IntKind.i64 ((LogA.frm x) - (1 : Int))) (↑(List.length (LogA.C x)) : Int)))) (none : Option Int)) (LogA.C x))))) ∧
 ((Nat.le x11 ((0 : Nat) + (List.length (List.take (cutN (cutN (List.length (LogA.C x)) (Option.some (mmI Bool.true (IntKind.wrap IntKind.i64 ((LogA.frm x) - (1 : Int))) (↑(List.length (LogA.C x)) : Int))) (none : Option Int)) (none : Option Int) (Option.some (mmI Bool.true (mmI Bool.true (↑(cutN (List.length (LogA.C x)) (Option.some (mmI Bool.true (IntKind.wrap IntKind.i64 ((LogA.frm x) - (1 : Int))) (↑(List.length (LogA.C x)) : Int))) (none : Option Int)) : Int) (LogA.many x)) (32 : Int)))) (List.drop (addN (addN (0 : Nat) (Option.some (mmI Bool.true (IntKind.wrap IntKind.i64 ((LogA.frm x) - (1 : Int))) (↑(List.length (LogA.C x)) : Int)))) (none : Option Int)) (LogA.C x)))))) ∧
 ((Nat.sub ((0 : Nat) + (List.length (List.take (cutN (cutN (List.length (LogA.C x)) (Option.some (mmI Bool.true (IntKind.wrap IntKind.i64 ((LogA.frm x) - (1 : Int))) (↑(List.length (LogA.C x)) : Int))) (none : Option Int)) (none : Option Int) (Option.some (mmI Bool.true (mmI Bool.true (↑(cutN (List.length (LogA.C x)) (Option.some (mmI Bool.true (IntKind.wrap IntKind.i64 ((LogA.frm x) - (1 : Int))) (↑(List.length (LogA.C x)) : Int))) (none : Option Int)) : Int) (LogA.many x)) (32 : Int)))) (List.drop (addN (addN (0 : Nat) (Option.some (mmI Bool.true (IntKind.wrap IntKind.i64 ((LogA.frm x) - (1 : Int))) (↑(List.length (LogA.C x)) : Int)))) (none : Option Int)) (LogA.C x))))) x11) < (Nat.sub ((0 : Nat) + (List.length (List.take (cutN (cutN (List.length (LogA.C x)) (Option.some (mmI Bool.true (IntKind.wrap IntKind.i64 ((LogA.frm x) - (1 : Int))) (↑(List.length (LogA.C x)) : Int))) (none : Option Int)) (none : Option Int) (Option.some (mmI Bool.true (mmI Bool.true (↑(cutN (List.length (LogA.C x)) (Option.some (mmI Bool.true (IntKind.wrap IntKind.i64 ((LogA.frm x) - (1 : Int))) (↑(List.length (LogA.C x)) : Int))) (none : Option Int)) : Int) (LogA.many x)) (32 : Int)))) (List.drop (addN (addN (0 : Nat) (Option.some (mmI Bool.true (IntKind.wrap IntKind.i64 ((LogA.frm x) - (1 : Int))) (↑(List.length (LogA.C x)) : Int)))) (none : Option Int)) (LogA.C x))))) x8))))))
 (Bad "check" "graph.go:105"))
 (Bad "check" "graph.go:105"))
 (Bad "check" "slices.go:362"))))))
 (Bad "check" "graph.go:105"))
 (Bad "check" "graph.go:105"))
 (∃ x12 : Unit,
 (((11 : Int) = (VerdictD.code (logV x))) ∧
 (((0 : Int) = (VerdictD.session (logV x))) ∧
 (((0 : Int) = (VerdictD.rev (logV x))) ∧
 (((Array.toList (ByteArray.data (ByteArray.mk (List.toArray ([] : List UInt8))))) = (VerdictD.path (logV x))) ∧
 (((0 : Int) = (VerdictD.digest (logV x))) ∧
 ((((0 : Nat) + ((0 : Nat) + (List.length (List.take (cutN (cutN (List.length (LogA.C x)) (Option.some (mmI Bool.true (IntKind.wrap IntKind.i64 ((LogA.frm x) - (1 : Int))) (↑(List.length (LogA.C x)) : Int))) (none : Option Int)) (none : Option Int) (Option.some (mmI Bool.true (mmI Bool.true (↑(cutN (List.length (LogA.C x)) (Option.some (mmI Bool.true (IntKind.wrap IntKind.i64 ((LogA.frm x) - (1 : Int))) (↑(List.length (LogA.C x)) : Int))) (none : Option Int)) : Int) (LogA.many x)) (32 : Int)))) (List.drop (addN (addN (0 : Nat) (Option.some (mmI Bool.true (IntKind.wrap IntKind.i64 ((LogA.frm x) - (1 : Int))) (↑(List.length (LogA.C x)) : Int)))) (none : Option Int)) (LogA.C x)))))) ≤ (List.length (@HAppend.hAppend (List CommitD) (List CommitD) (List CommitD) _ (List.take (0 : Nat) (List.drop (0 : Nat) ([] : List CommitD))) (List.take (cutN (cutN (List.length (LogA.C x)) (Option.some (mmI Bool.true (IntKind.wrap IntKind.i64 ((LogA.frm x) - (1 : Int))) (↑(List.length (LogA.C x)) : Int))) (none : Option Int)) (none : Option Int) (Option.some (mmI Bool.true (mmI Bool.true (↑(cutN (List.length (LogA.C x)) (Option.some (mmI Bool.true (IntKind.wrap IntKind.i64 ((LogA.frm x) - (1 : Int))) (↑(List.length (LogA.C x)) : Int))) (none : Option Int)) : Int) (LogA.many x)) (32 : Int)))) (List.drop (addN (addN (0 : Nat) (Option.some (mmI Bool.true (IntKind.wrap IntKind.i64 ((LogA.frm x) - (1 : Int))) (↑(List.length (LogA.C x)) : Int)))) (none : Option Int)) (LogA.C x)))))) ∧
 (((List.take ((0 : Nat) + (List.length (List.take (cutN (cutN (List.length (LogA.C x)) (Option.some (mmI Bool.true (IntKind.wrap IntKind.i64 ((LogA.frm x) - (1 : Int))) (↑(List.length (LogA.C x)) : Int))) (none : Option Int)) (none : Option Int) (Option.some (mmI Bool.true (mmI Bool.true (↑(cutN (List.length (LogA.C x)) (Option.some (mmI Bool.true (IntKind.wrap IntKind.i64 ((LogA.frm x) - (1 : Int))) (↑(List.length (LogA.C x)) : Int))) (none : Option Int)) : Int) (LogA.many x)) (32 : Int)))) (List.drop (addN (addN (0 : Nat) (Option.some (mmI Bool.true (IntKind.wrap IntKind.i64 ((LogA.frm x) - (1 : Int))) (↑(List.length (LogA.C x)) : Int)))) (none : Option Int)) (LogA.C x))))) (List.drop (0 : Nat) (@HAppend.hAppend (List CommitD) (List CommitD) (List CommitD) _ (List.take (0 : Nat) (List.drop (0 : Nat) ([] : List CommitD))) (List.take (cutN (cutN (List.length (LogA.C x)) (Option.some (mmI Bool.true (IntKind.wrap IntKind.i64 ((LogA.frm x) - (1 : Int))) (↑(List.length (LogA.C x)) : Int))) (none : Option Int)) (none : Option Int) (Option.some (mmI Bool.true (mmI Bool.true (↑(cutN (List.length (LogA.C x)) (Option.some (mmI Bool.true (IntKind.wrap IntKind.i64 ((LogA.frm x) - (1 : Int))) (↑(List.length (LogA.C x)) : Int))) (none : Option Int)) : Int) (LogA.many x)) (32 : Int)))) (List.drop (addN (addN (0 : Nat) (Option.some (mmI Bool.true (IntKind.wrap IntKind.i64 ((LogA.frm x) - (1 : Int))) (↑(List.length (LogA.C x)) : Int)))) (none : Option Int)) (LogA.C x)))))) = (VerdictD.commits (logV x))) ∧
 (((0 : Int) = (VerdictD.member (logV x))) ∧
 (((0 : Nat) = (0 : Nat)) ∧
 (((List.length (LogA.C x)) = (List.length (LogA.C x))) ∧
 (((treeC (LogA.C x)) = (treeC (LogA.C x))) ∧
 (((LogA.C x) = (LogA.C x)) ∧
 (((kvC (LogA.C x)) = (kvC (LogA.C x))) ∧
 True)))))))))))))))))))
 (Bad "check" "slices.go:362"))))))
 (Bad "check" "graph.go:119")))
 (Bad "check" "graph.go:118")))))) := by kernel_rfl

end Go.Proofs.YtildflamnehilaaGreat.Ses

namespace Go.Proofs.YtildflamnehilaaGreat.Ses
open Go Go.Proofs Go.Proofs.YtildflamnehilaaGreat.Sx Go.Proofs.YtildflamnehilaaGreat.Trx

theorem putK_len : ∀ (K : List (Bs × Int)) s v, (putK K s v).length ≤ K.length + 1
  | [], s, v => by simp [putK]
  | (k, x) :: r, s, v => by
    unfold putK
    cases (k == s)
    · simp only [cond_false, List.length_cons]
      have := putK_len r s v
      omega
    · simp
theorem kvC_snoc (C : List CommitD) (c : CommitD) : kvC (C ++ [c]) = bif c.ref == [] then kvC C else putK (kvC C) c.ref c.rev := by simp [kvC]
theorem kvC_len (C : List CommitD) : (kvC C).length ≤ C.length := by
  refine snocL (p := fun C => (kvC C).length ≤ C.length) (by simp [kvC]) (fun C c ih => ?_) C
  rw [kvC_snoc]
  have := putK_len (kvC C) c.ref c.rev
  cases (c.ref == [])
  · simp; omega
  · simp; omega
theorem refs_ok : SpecOK Tryz.prog 79 refsT.spec := by
  refine Tri.ok (E := refsE) (Env_ok (by decide +kernel) (by
    intro p hp
    simp only [List.mem_cons, List.mem_nil_iff, or_false] at hp
    rcases hp with rfl | rfl
    · exact keys_ok
    · exact sortK_ok)) (n := 1000) refsT fun x hx => ?_
  rw [refs_vc]
  revert hx
  revert x
  intro (x : List CommitD) (hx : fewG x = true)
  obtain ⟨f1, f2, _⟩ := fewG_of hx
  have h1 := kvC_len x
  have hr : 4000 * 60 ≤ room47 := by decide
  refine ⟨_, rfl, trivial, fun _ _ => ⟨_, rfl, decide_eq_true (by omega), fun _ _ _ => ⟨⟨0, rfl, rfl, rfl, Nat.zero_le _⟩, fun i hi => br_i (fun h1 => ?_) (fun h1 => ?_)⟩⟩⟩
  all_goals
    have e : (namesK (kvC x)).length = (kvC x).length := by simp [namesK]
    change i ≤ (namesK (kvC x)).length at hi
  · have h1 : (i : Int) < ((namesK (kvC x)).length : Int) := of_decide_eq_true h1
    have hi2 : i < (namesK (kvC x)).length := by omega
    have e2 : (namesK (kvC x)).getD (i : Int).toNat [] = (namesK (kvC x))[i] := by simp [List.getD, hi2]
    have e3 : (List.map (refK (kvC x)) (List.take i (namesK (kvC x)))).length = i := by simp; omega
    refine br_t (decide_eq_true ⟨by omega, h1⟩) fun _ => br_t ?_ ⟨i + 1, by rw [wrap_id (by omega) (by omega)]; rfl, rfl, ?_, ?_, hi2, by show (namesK (kvC x)).length - (i + 1) < (namesK (kvC x)).length - i; omega⟩
    · show (decide (0 + 1 ≤ 1) && decide (0 + (List.map (refK (kvC x)) (List.take i (namesK (kvC x)))).length ≤ (List.map (refK (kvC x)) (List.take i (namesK (kvC x)))).length) && decide (((List.map (refK (kvC x)) (List.take i (namesK (kvC x)))).length + 1) * 24 ≤ room47)) = true
      rw [e3]
      simp
      omega
    · show (List.map (refK (kvC x)) (List.take i (namesK (kvC x)))).length + 1 = (List.map (refK (kvC x)) (List.take (i + 1) (namesK (kvC x)))).length
      rw [e3]
      simp
      omega
    · show List.take (List.map (refK (kvC x)) (List.take i (namesK (kvC x)))).length (List.drop 0 (List.map (refK (kvC x)) (List.take i (namesK (kvC x))))) ++ [refK (kvC x) ((namesK (kvC x)).getD (i : Int).toNat [])] = List.map (refK (kvC x)) (List.take (i + 1) (namesK (kvC x)))
      rw [List.drop_zero, List.take_length, e2, List.take_succ_eq_append_getElem hi2, List.map_append]
      rfl
  · have h1 : ¬ (i : Int) < ((namesK (kvC x)).length : Int) := of_decide_eq_false h1
    have e4 : i = (namesK (kvC x)).length := by omega
    refine ⟨(), by omega, ?_, rfl, rfl, rfl, rfl, rfl, trivial⟩
    show List.take (List.map (refK (kvC x)) (List.take i (namesK (kvC x)))).length (List.drop 0 (List.map (refK (kvC x)) (List.take i (namesK (kvC x))))) = refsC x
    rw [List.drop_zero, List.take_length, e4, List.take_length]
    rfl

theorem mmI_min (a b : Int) : mmI true a b = min a b := by
  unfold mmI
  simp only [cond_true]
  split <;> omega
theorem log_ok : SpecOK Tryz.prog 39 logT.spec := by
  refine Tri.ok (E := commitsE) (Env_ok (by decide +kernel) (by simp)) (n := 1000) logT fun x hx => ?_
  rw [log_vc]
  revert hx
  revert x
  intro (x : LogA) ⟨hx, hf⟩
  have hf : x.frm ≤ 9223372036854775807 := of_decide_eq_true hf
  obtain ⟨f1, f2, _⟩ := fewG_of hx
  have rm : ∀ n b, n ≤ 4000 → b ≤ 60 → decide (n * b ≤ room47) = true := fun n b hn hb => by
    have : 4000 * 60 ≤ room47 := by decide
    exact decide_eq_true (Nat.le_trans (Nat.mul_le_mul hn hb) this)
  have hbad : ∀ h : x.frm < 1 ∨ x.many < 1, logV x = ⟨5, 0, 0, [], 0, [], 0⟩ := fun h => by
    unfold logV
    have : (decide (x.frm < 1) || decide (x.many < 1)) = true := by simpa using h
    rw [this]; rfl
  refine br_i (fun h => ?_) (fun h1 => br_i (fun h => ?_) (fun h2 => ?_))
  · rw [hbad (.inl (of_decide_eq_true h))]
    exact ⟨(), rfl, rfl, rfl, rfl, rfl, rfl, rfl, rfl, rfl, rfl, rfl, rfl, trivial⟩
  · rw [hbad (.inr (of_decide_eq_true h))]
    exact ⟨(), rfl, rfl, rfl, rfl, rfl, rfl, rfl, rfl, rfl, rfl, rfl, rfl, trivial⟩
  · have h1 := of_decide_eq_false h1
    have h2 := of_decide_eq_false h2
    have hv : logV x = ⟨11, 0, 0, [], 0, logC x, 0⟩ := by
      unfold logV
      rw [decide_eq_false h1, decide_eq_false h2]; rfl
    rw [hv, wrap_id (n := x.frm - 1) (by omega) (by omega), mmI_min, mmI_min, mmI_min]
    obtain ⟨F, hF⟩ : ∃ F : Nat, min (x.frm - 1) (x.C.length : Int) = F := ⟨(min (x.frm - 1) (x.C.length : Int)).toNat, by omega⟩
    rw [hF]
    have hFl : F ≤ x.C.length := by omega
    have e3 : cutN x.C.length (some (F : Int)) none = x.C.length - F := by simp [cutN]
    rw [e3]
    obtain ⟨M, hM⟩ : ∃ M : Nat, min (min ((x.C.length - F : Nat) : Int) x.many) 32 = M := ⟨(min (min ((x.C.length - F : Nat) : Int) x.many) 32).toNat, by omega⟩
    rw [hM]
    have hMl : M ≤ x.C.length - F := by omega
    have e4 : cutN (x.C.length - F) none (some (M : Int)) = M := by simp [cutN]
    have e5 : addN (addN 0 (some (F : Int))) none = F := by simp [addN]
    rw [e4, e5]
    have hL : logC x = List.take M (List.drop F x.C) := by
      unfold logC
      by_cases hc : x.frm - 1 ≤ x.C.length
      · have : (x.frm - 1).toNat = F := by omega
        rw [this]
        have hd : (List.drop F x.C).length = x.C.length - F := by simp
        by_cases hk : (min x.many 32).toNat ≤ x.C.length - F
        · have : (min x.many 32).toNat = M := by omega
          rw [this]
        · rw [List.take_of_length_le (by omega), List.take_of_length_le (by omega)]
      · rw [List.drop_of_length_le (by omega), List.drop_of_length_le (l := x.C) (i := F) (by omega)]
        simp
    rw [hL]
    generalize hl : List.take M (List.drop F x.C) = l
    have hll : l.length = M := by rw [← hl]; simp; omega
    have hlm : ∀ c, c ∈ l → c.changes.length ≤ 16 := fun c hc => f2 c (by rw [← hl] at hc; exact List.mem_of_mem_drop (List.mem_of_mem_take hc))
    have e0 : (List.take 0 (List.drop 0 ([] : List CommitD)) ++ l) = l := by simp
    have e1 : (0 + l.length) = l.length := by simp
    rw [e0, e1]
    refine fun _ => br_t ?_ fun _ => br_t ?_ fun b hb => ?_
    · show bndB x.C.length (some (F : Int)) none none = true
      simp [bndB]; omega
    · simp [bndB]; omega
    refine br_i (fun h => ⟨⟨(), rfl, trivial⟩, fun _ _ => ⟨(), rfl, rfl, rfl, rfl, rfl, ?_, rfl, rfl, rfl, rfl, rfl, rfl, trivial⟩⟩) (fun h => fun _ => br_t ?_ fun _ => ⟨⟨0, rfl, rfl, Nat.zero_le _⟩, fun i hi => br_i (fun h1 => ?_) (fun h1 => ⟨(), rfl, rfl, rfl, rfl, rfl, by omega, by simp, rfl, rfl, rfl, rfl, rfl, rfl, trivial⟩)⟩)
    · exact (List.eq_nil_of_length_eq_zero (by rw [hll]; exact hb h)).symm
    · rw [rm _ 56 (by omega) (by omega), decide_eq_true (show F + M ≤ x.C.length by omega)]; simp
    · have h1 := of_decide_eq_true h1
      have e2 : 0 + (i : Int).toNat = i := by simp
      rw [e2]
      have bi : decide ((0 : Int) ≤ (i : Int) ∧ (i : Int) < (l.length : Int)) = true := decide_eq_true ⟨by omega, h1⟩
      have bl : decide (i < l.length) = true := decide_eq_true (by omega)
      have hch := hlm _ (getD_mem (l := l) (d := noM) (i := i) (by omega))
      refine br_t bi (br_t bl fun q hq => br_i (fun h2 => br_t bi (br_t (by rw [bl]; rfl) ⟨i + 1, by rw [wrap_id (by omega) (by omega)]; rfl, set_same (by omega) ?_, by show i + 1 ≤ l.length; omega, by show l.length - (i + 1) < l.length - i; omega⟩)) (fun h2 => fun _ => br_t ?_ (br_t bi (br_t ?_ ⟨i + 1, by rw [wrap_id (by omega) (by omega)]; rfl, set_same (by omega) ?_, by show i + 1 ≤ l.length; omega, by show l.length - (i + 1) < l.length - i; omega⟩))))
      · have h3 : (l.getD i noM).changes = [] := hq h2
        show (⟨(l.getD i noM).rev, (l.getD i noM).base, (l.getD i noM).ref, []⟩ : CommitD) = l.getD i noM
        rw [← h3]
      · have := rm (0 + (l.getD i noM).changes.length) 32 (by omega) (by omega)
        show (true && decide (0 + 0 ≤ ([] : List ChangeD).length) && decide ((0 + (l.getD i noM).changes.length) * 32 ≤ room47)) = true
        rw [this]; rfl
      · simp
        omega
      · show (⟨(l.getD i noM).rev, (l.getD i noM).base, (l.getD i noM).ref, _⟩ : CommitD) = l.getD i noM
        simp
end Go.Proofs.YtildflamnehilaaGreat.Ses
