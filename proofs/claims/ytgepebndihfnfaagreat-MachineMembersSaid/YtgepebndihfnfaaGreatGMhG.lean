/- A machine's clone; the law MachineMembers: what the evaluator leaves, and that it holds. No condition. -/
import Derived.Test.YtgepebndihfnfaaGreatGMhA
import Derived.Shelf.SlMaps.Clone
import Derived.KernelRfl
set_option linter.unusedSimpArgs false
set_option linter.unusedVariables false

namespace Go.Proofs.YtgepebndihfnfaaGreat.Sx
open Go Go.MapKept
theorem Mem.newMapOf {F : Fr} {g : Ctx} {m : MS} {w : World} (h : Mem F g m w) {es : Array MapEntry} {ck : Nat} {l : List (Bs × Int)} (hes : KvOK es l) (hst : Stamped es ck) :
    Mem F (g.add (some ⟨w.heap.size, 0, 0⟩)) (m.new (.kv l)) (w.alloc (.map es ck)) := by
  have hle := g.le_add (some ⟨w.heap.size, 0, 0⟩)
  have hnx := h.next
  have hnew : (w.alloc (.map es ck)).heap[w.heap.size]? = some (.map es ck) := (heap_alloc w _).1
  have hother : ∀ b, b < w.heap.size → (w.alloc (.map es ck)).heap[b]? = w.heap[b]? := (heap_alloc w _).2
  have hget : ∀ n k', Blks.get ((m.next, .kv l) :: m.blks) n = some k' → (n = m.next ∧ k' = .kv l) ∨ (n ≠ m.next ∧ m.blks.get n = some k') := by
    intro n k' hn
    by_cases e : n = m.next
    · subst e; rw [Blks.get_cons_same] at hn; exact .inl ⟨rfl, (Option.some.inj hn).symm⟩
    · rw [Blks.get_cons_other _ _ e] at hn; exact .inr ⟨e, hn⟩
  have hold : ∀ n k', m.blks.get n = some k' → ∀ r, g.β[n]? = some (some r) → r.b < w.heap.size := fun n k' hn r hr => (h.mem.at_name hn hr).1.lt
  refine ⟨⟨?_, ?_, ?_, ?_⟩, by simp [Ctx.add, MS.new, hnx], ?_, h.ext, ?_⟩
  · intro n k' hn
    rcases hget n k' hn with ⟨rfl, rfl⟩ | ⟨hne, hn⟩
    · exact ⟨some ⟨w.heap.size, 0, 0⟩, by rw [hnx]; exact Ctx.add_get _ _, ⟨_, _, hnew⟩, _, _, hnew, hes, hst⟩
    · obtain ⟨x, hx, hok⟩ := h.mem.reg n k' hn
      refine ⟨x, hle.β _ _ hx, hok.congr hle fun r e => ?_⟩
      subst e
      exact hother _ hok.1.lt
  · intro n n' k1 k2 r r' h1 h2 hr hr' hb
    rcases hget n k1 h1 with ⟨e1, e2⟩ | ⟨hne, g1⟩ <;> rcases hget n' k2 h2 with ⟨e3, e4⟩ | ⟨hne', g2⟩
    · rw [e1, e3]
    · subst e1
      rw [hnx, Ctx.add_get] at hr
      have := hold n' k2 g2 r' (Ctx.add_get_other (by rw [← hnx]; exact hne') hr')
      cases hr
      simp at hb
      omega
    · subst e3
      rw [hnx, Ctx.add_get] at hr'
      have := hold n k1 g1 r (Ctx.add_get_other (by rw [← hnx]; exact hne) hr)
      cases hr'
      simp at hb
      omega
    · exact h.mem.inj n n' k1 k2 r r' g1 g2 (Ctx.add_get_other (by rw [← hnx]; exact hne) hr) (Ctx.add_get_other (by rw [← hnx]; exact hne') hr') hb
  · intro b o v hv
    have := h.mem.ro b o v hv
    rw [cell?_congr (hother _ (cell?_lt this))]
    exact this
  · intro n k' r o hn hr
    rcases hget n k' hn with ⟨rfl, rfl⟩ | ⟨hne, hn⟩
    · rw [hnx, Ctx.add_get] at hr
      cases hr
      show g.Γ w.heap.size o = none
      cases hv : g.Γ w.heap.size o with
      | none => rfl
      | some v => exact absurd (cell?_lt (h.mem.ro _ _ _ hv)) (Nat.lt_irrefl _)
    · exact h.mem.apart n k' r o hn (Ctx.add_get_other (by rw [← hnx]; exact hne) hr)
  · intro n k' r hn hr
    rcases hget n k' hn with ⟨rfl, rfl⟩ | ⟨hne, hn⟩
    · rw [hnx, Ctx.add_get] at hr
      cases hr
      exact .inl h.fix.size
    · exact h.own n k' r hn (Ctx.add_get_other (by rw [← hnx]; exact hne) hr)
  · have hsz : (w.alloc (.map es ck)).heap.size = w.heap.size + 1 := by show (w.heap.push _).size = _; rw [Array.size_push]
    refine ⟨by have := h.fix.size; omega, fun b hb hM => ?_, h.fix.os, h.fix.out⟩
    rw [hother _ (by have := h.fix.size; omega)]
    exact h.fix.keep b hb hM
end Go.Proofs.YtgepebndihfnfaaGreat.Sx
namespace Go.Proofs.YtgepebndihfnfaaGreat.Ses
open Go Go.Proofs Go.Proofs.YtgepebndihfnfaaGreat.Sx
open Go.Shelf
def refC_ren : Go.Shelf.Ren := ⟨fun | 5 => 139 | 7 => 195 | n => n, fun | 23 => 125 | 25 => 9 | 3 => 3 | 4 => 4 | 20 => 20 | n => n, fun | n => n⟩
theorem refC : Go.Proofs.SlLaysW.n5 Tryz.prog refC_ren where
  mixed := by kernel_rfl
  f5 := ⟨"maps.Clone[map[string]int,string,int]", by decide, Tryz.func139.trans (congrArg some (by kernel_rfl))⟩
  f7 := Tryz.func195.trans (congrArg some (by kernel_rfl))
  t4 := Tryz.underlying4
  a4 := Tryz.isAgg4
  z4 := Tryz.sizeOf4
  v4 := Tryz.zeroValue4
  t20 := Tryz.underlying20
  a20 := Tryz.isAgg20
  z20 := Tryz.sizeOf20
  v20 := Tryz.zeroValue20
  t23 := Tryz.underlying125
  a23 := Tryz.isAgg125
  z23 := Tryz.sizeOf125
  v23 := Tryz.zeroValue125
def mclT : Tri := { γ := List (Bs × Int), n0 := 1, args := fun _ => [.mmap 0], blks := fun l => [(0, .kv l)], pre := fun _ => True, δ := Unit, post := fun _ _ => True, n1 := 1, res := fun _ _ => .mmap 1, blks' := fun l _ => [(0, .kv l), (1, .kv l)], scal := false }
theorem mcl_ok : SpecOK Tryz.prog 139 mclT.spec := by
  refine Tri.ok' mclT fun l hl F g w vs hargs hm => ?_
  change List (Bs × Int) at l
  have hargs : RepL g [.mmap 0] vs := hargs
  obtain ⟨v0, _, rfl, r0, r⟩ := hargs.uncons
  rw [r.eq_nil]
  cases r0 with
  | mmap _ r1 hr1 =>
    obtain ⟨x, hx, hok⟩ := hm.mem.reg 0 (.kv l) rfl
    rw [hr1] at hx
    cases hx
    obtain ⟨es, ck, hes, hkv, hst⟩ := hok.2
    have hc : Calls Tryz.prog 139 #[.map (some r1.b)] w fun e w' => e = .returned (.map (some w.heap.size)) ∧ w' = w.alloc (.map es ck) := AnyW.maps_Clone refC r1.b es ck w hes
    refine hc.mono ?_
    rintro e w' ⟨rfl, rfl⟩
    have hM := hm.newMapOf hkv hst
    have hnx : g.β.length = 1 := hm.next.symm
    refine ⟨_, _, .mmap 1, ?_, g.le_add _, Upd.new _ _, hM, Rep.mmap (g := g.add (some ⟨w.heap.size, 0, 0⟩)) 1 ⟨w.heap.size, 0, 0⟩ (by rw [← hnx]; exact Ctx.add_get _ _)⟩
    have e : mclT.ends l (.mmap 1) ⟨[(1, .kv l), (0, .kv l)], 2, []⟩ = (∃ x1 : Unit, l = l ∧ l = l ∧ True) := by kernel_rfl
    show mclT.ends l (.mmap 1) ⟨[(1, .kv l), (0, .kv l)], 2, []⟩
    rw [e]
    exact ⟨(), rfl, rfl, trivial⟩
end Go.Proofs.YtgepebndihfnfaaGreat.Ses

namespace Go.Proofs.YtgepebndihfnfaaGreat.Ses
open Go Go.Proofs Go.Proofs.YtgepebndihfnfaaGreat.Sx
noncomputable def mcnT : Tri := { γ := MacS, n0 := 8, args := fun _ => [.mptr 0 0], blks := fun x => mB x 0 1 2 3 4 5 6 7, pre := fun x => okMS x = true, δ := Unit, post := fun _ _ => True, n1 := 8, res := fun _ _ => .mptr 8 0, blks' := fun x _ => mB x 0 1 2 3 4 5 6 7 ++ mB x 8 9 10 11 12 13 14 15, scal := false }
noncomputable def mcnE : Envr := Env Tryz.prog cod [(139, mclT.spec), (167, cpT.spec), (151, eownT.spec)] []
end Go.Proofs.YtgepebndihfnfaaGreat.Ses

namespace Go.Proofs.YtgepebndihfnfaaGreat.Ses
open Go Go.Proofs Go.Proofs.YtgepebndihfnfaaGreat.Sx
set_option maxRecDepth 100000
abbrev mcnQ1 (x : mcnT.γ) := (MacS.E x).length * 32 ≤ room47
abbrev mcnQ2 (x : mcnT.γ) := (decide ((↑(MacS.E x).length : Int) > (0 : Int))).not
abbrev mcnQ3 (x : mcnT.γ) := MacS.applied x = MacS.applied x
abbrev mcnQ4 (x : mcnT.γ) := (MacS.C x).length = (MacS.C x).length
abbrev mcnQ5 (x : mcnT.γ) := treeC (MacS.C x) = treeC (MacS.C x)
abbrev mcnQ6 (x : mcnT.γ) := MacS.alpha x = MacS.alpha x ∧
MacS.size x = MacS.size x ∧
mcnQ3 x ∧
Bad "match: mptr" ""
abbrev mcnQ7 (x : mcnT.γ) := EqT (MacS.alpha x) (MacS.alpha x) (MacS.E x) (MacS.E x) (mcnQ6 x)
abbrev mcnQ8 (x : mcnT.γ) (x5 : EoA) := (MacS.E x).length = x5.E.length - x5.lo
abbrev mcnQ9 (x5 : EoA) := decide (x5.lo ≤ x5.E.length) = true
abbrev mcnQ10 (x : mcnT.γ) := (MacS.E x).length = (MacS.E x).length
abbrev mcnQ11 (x : mcnT.γ) (x2 : List (Prod Bs Int)) := mcnQ1 x →
br (mcnQ2 x) (∃ x4 : Unit, MacS.alpha x = MacS.alpha x ∧
MacS.size x = MacS.size x ∧
mcnQ3 x ∧
0 = 0 ∧
mcnQ4 x ∧
mcnQ5 x ∧
MacS.C x = MacS.C x ∧
x2 = kvC (MacS.C x) ∧
EqT (MacS.size x) (MacS.size x) (MacS.S x) (MacS.S x) (mcnQ7 x)) (∃ x5 : EoA, 0 = x5.lo ∧
mcnQ8 x x5 ∧
MacS.E x = x5.E ∧
mcnQ9 x5 ∧
∀ x6 : Unit, True →
∃ x7 : Unit, MacS.alpha x = MacS.alpha x ∧
MacS.size x = MacS.size x ∧
mcnQ3 x ∧
0 = 0 ∧
mcnQ4 x ∧
mcnQ5 x ∧
MacS.C x = MacS.C x ∧
x2 = kvC (MacS.C x) ∧
EqT (MacS.size x) (MacS.size x) (MacS.S x) (MacS.S x) (MacS.alpha x = MacS.alpha x ∧
0 = 0 ∧
mcnQ10 x ∧
x5.E = MacS.E x ∧
mcnQ6 x))
abbrev mcnQ12 (x : mcnT.γ) := (MacS.S x).length = (MacS.S x).length
abbrev mcnQ13 (x : mcnT.γ) (x2 : List (Prod Bs Int)) (x8 : List SessionD) := ∃ x10 : Unit, MacS.alpha x = MacS.alpha x ∧
MacS.size x = MacS.size x ∧
mcnQ3 x ∧
0 = 0 ∧
mcnQ4 x ∧
mcnQ5 x ∧
MacS.C x = MacS.C x ∧
x2 = kvC (MacS.C x) ∧
MacS.size x = MacS.size x ∧
0 = 0 ∧
mcnQ12 x ∧
x8 = MacS.S x ∧
mcnQ7 x
abbrev mcnQ14 (x2 : List (Prod Bs Int)) (x : mcnT.γ) (x8 : List SessionD) (x11 : EoA) := x2 = kvC (MacS.C x) ∧
EqT (MacS.size x) (MacS.size x) x8 (MacS.S x) (EqT (MacS.alpha x) (MacS.alpha x) (List.drop x11.lo x11.E) (MacS.E x) True)
abbrev mcnQ15 (x : mcnT.γ) := List.take (MacS.C x).length (List.drop 0 (MacS.C x))
theorem mcn_vc (x : mcnT.γ) : evCall mcnE (ev mcnE 1000) 53 (mcnT.args x) ⟨mcnT.blks x, mcnT.n0, []⟩ (fun _ _ => False) (mcnT.ends x) = (
∀ x1 : Bool, (x1 = true →
(MacS.C x).length = 0) →
br x1 (∃ x2 : (List (Prod Bs Int)), kvC (MacS.C x) = x2 ∧
True ∧
∀ x3 : Unit, True →
br (decide (MacS.size x > (0 : Int))).not (mcnQ11 x x2) (∃ x8 : (List SessionD), 0 = 0 ∧
(MacS.S x).length = x8.length ∧
MacS.S x = x8 ∧
True ∧
∀ x9 : Unit, True →
mcnQ1 x →
br (mcnQ2 x) (mcnQ13 x x2 x8) (∃ x11 : EoA, 0 = x11.lo ∧
mcnQ8 x x11 ∧
MacS.E x = x11.E ∧
mcnQ9 x11 ∧
∀ x12 : Unit, True →
∃ x13 : Unit, MacS.alpha x = MacS.alpha x ∧
MacS.size x = MacS.size x ∧
mcnQ3 x ∧
0 = 0 ∧
mcnQ4 x ∧
mcnQ5 x ∧
MacS.C x = MacS.C x ∧
x2 = kvC (MacS.C x) ∧
MacS.size x = MacS.size x ∧
0 = 0 ∧
mcnQ12 x ∧
x8 = MacS.S x ∧
MacS.alpha x = MacS.alpha x ∧
0 = 0 ∧
mcnQ10 x ∧
x11.E = MacS.E x ∧
MacS.alpha x = MacS.alpha x ∧
MacS.size x = MacS.size x ∧
mcnQ3 x ∧
0 = (MacS.C x).length ∧
mcnQ5 x ∧
([] : List CommitD) = MacS.C x ∧
mcnQ14 x2 x x8 x11))) (Nat.le (0 * 56) room47 ∧
Nat.le ((MacS.C x).length * 56) room47 →
br (Bool.and (Bool.and (decide (0 + (MacS.C x).length ≤ (MacS.C x).length)) (decide (0 + 0 ≤ ([] : List CommitD).length))) (decide ((0 + (mcnQ15 x).length) * 56 ≤ room47))) (∃ x14 : (List (Prod Bs Int)), kvC (MacS.C x) = x14 ∧
True ∧
∀ x15 : Unit, True →
br (decide (MacS.size x > (0 : Int))).not (mcnQ11 x x14) (∃ x20 : (List SessionD), 0 = 0 ∧
(MacS.S x).length = x20.length ∧
MacS.S x = x20 ∧
True ∧
∀ x21 : Unit, True →
mcnQ1 x →
br (mcnQ2 x) (mcnQ13 x x14 x20) (∃ x23 : EoA, 0 = x23.lo ∧
mcnQ8 x x23 ∧
MacS.E x = x23.E ∧
mcnQ9 x23 ∧
∀ x24 : Unit, True →
∃ x25 : Unit, MacS.alpha x = MacS.alpha x ∧
MacS.size x = MacS.size x ∧
mcnQ3 x ∧
0 = 0 ∧
mcnQ4 x ∧
mcnQ5 x ∧
MacS.C x = MacS.C x ∧
x14 = kvC (MacS.C x) ∧
MacS.size x = MacS.size x ∧
0 = 0 ∧
mcnQ12 x ∧
x20 = MacS.S x ∧
MacS.alpha x = MacS.alpha x ∧
0 = 0 ∧
mcnQ10 x ∧
x23.E = MacS.E x ∧
MacS.alpha x = MacS.alpha x ∧
MacS.size x = MacS.size x ∧
mcnQ3 x ∧
0 = 0 ∧
0 + (mcnQ15 x).length = (MacS.C x).length ∧
mcnQ5 x ∧
@HAppend.hAppend (List CommitD) (List CommitD) (List CommitD) _ (List.take 0 (List.drop 0 ([] : List CommitD))) (mcnQ15 x) = MacS.C x ∧
mcnQ14 x14 x x20 x23))) (Bad "check" "slices.go:362"))) := by kernel_rfl
end Go.Proofs.YtgepebndihfnfaaGreat.Ses

namespace Go.Proofs.YtgepebndihfnfaaGreat.Ses
open Go Go.Proofs Go.Proofs.YtgepebndihfnfaaGreat.Sx
theorem mcn_ok : SpecOK Tryz.prog 53 mcnT.spec := by
  refine Tri.ok (E := mcnE) (Env_ok (by decide +kernel) (by simp [mcl_ok, cp_ok, eown_ok])) (n := 1000) mcnT fun x hx => ?_
  rw [mcn_vc]
  delta mcnQ15 mcnQ14 mcnQ13 mcnQ12 mcnQ11 mcnQ10 mcnQ9 mcnQ8 mcnQ7 mcnQ6 mcnQ5 mcnQ4 mcnQ3 mcnQ2 mcnQ1 EqT
  obtain ⟨al, sz, ap, C, S, E⟩ := x
  have hx : okMS ⟨al, sz, ap, C, S, E⟩ = true := hx
  have h2 : 0 < sz ∧ 0 < E.length := by
    obtain ⟨_, h1, _, h2, _⟩ := okMS_of hx
    have h2 : okEp al E = true := h2
    unfold okEp at h2
    simp only [Bool.and_eq_true, decide_eq_true_eq] at h2
    exact ⟨h1, by omega⟩
  have bs : (!(decide (sz > (0 : Int)))) = false := by rw [decide_eq_true (by omega : sz > 0)]; rfl
  have be : (!(decide ((E.length : Int) > (0 : Int)))) = false := by rw [decide_eq_true (by omega : (E.length : Int) > 0)]; rfl
  intro b hb
  refine br_i (fun h => ?_) (fun h hr => ?_)
  · have : C = [] := List.eq_nil_of_length_eq_zero (hb h)
    subst this
    exact ⟨_, rfl, trivial, fun _ _ => br_f bs ⟨S, rfl, rfl, rfl, trivial, fun _ _ _ => br_f be ⟨{ lo := 0, E := E }, rfl, rfl, rfl, by simp, fun _ _ => ⟨(), (by repeat' (first | exact trivial | refine And.intro ?_ ?_ | rfl))⟩⟩⟩⟩
  · refine br_t ?_ ⟨_, rfl, trivial, fun _ _ => br_f bs ⟨S, rfl, rfl, rfl, trivial, fun _ _ _ => br_f be ⟨{ lo := 0, E := E }, rfl, rfl, rfl, by simp, fun _ _ => ⟨(), (by repeat' (first | exact trivial | refine And.intro ?_ ?_ | rfl | simp))⟩⟩⟩⟩
    have hr : C.length * 56 ≤ room47 := hr.2
    simp
    exact hr
end Go.Proofs.YtgepebndihfnfaaGreat.Ses

namespace Go.Proofs.YtgepebndihfnfaaGreat.Ses
open Go Go.Proofs Go.Proofs.YtgepebndihfnfaaGreat.Sx
structure MmbA where
  l : List RequestD
  k : List RequestD
def mmbArgs (x : MmbA) : List SV := [.rslice false .request x.l, .rslice false .request x.k]
noncomputable def mmbI23 : St → LInv := fun s => { σ := Nat, I := fun i => i ≤ 2, μ := fun i => 2 - i, env := fun i => [(12, .int .i64 i)], blk := fun _ => [], fresh := 0, drop := [] }
noncomputable def mmbI26 : St → LInv := fun s => match getE s.env 9, getE s.env 12 with
  | .mslice .ints b _ _, .int _ a => match s.m.blks.get b with
    | some (.rows .ints (L : List (List Int))) => { σ := Nat, I := fun j => j ≤ (L.getD a.toNat []).length, μ := fun j => (L.getD a.toNat []).length - j, env := fun j => [(13, .int .i64 j)], blk := fun _ => [], fresh := 0, drop := [] }
    | _ => LInv.none
  | _, _ => LInv.none
noncomputable def mmbE : Envr := Env Tryz.prog cod [(49, aw8T.spec), (50, freshT.spec), (24, applyT.spec), (20, mroomT.spec), (53, mcnT.spec), (25, appMT.spec), (54, atMT.spec), (42, sintT.spec), (52, unMT.spec), (55, hasT.spec)] [(9, runL 6 5 0), (16, runL 10 7 1), (23, mmbI23), (26, mmbI26)]
end Go.Proofs.YtgepebndihfnfaaGreat.Ses

namespace Go.Proofs.YtgepebndihfnfaaGreat.Ses
open Go Go.Proofs Go.Proofs.YtgepebndihfnfaaGreat.Sx
set_option maxRecDepth 100000
abbrev mmbQ1 (x9 : Nat) (x : MmbA) := runF fresh0 (List.take x9 (MmbA.l x))
abbrev mmbQ2 (x10 : Nat) (x13 : Nat) := IntKind.wrap IntKind.i64 ((↑x10 : Int) + (1 : Int)) = (↑x13 : Int)
abbrev mmbQ3 (x18 : MatA) := decide (1 ≤ x18.x.E.length) = true
abbrev mmbQ4 (x23 : Nat) := decide ((0 : Int) ≤ (↑x23 : Int) ∧
(↑x23 : Int) < (↑2 : Int))
abbrev mmbQ5 (x18 : MatA) := (List.getD x18.x.E (atN x18.x.E x18.slot x18.x.E.length) (EpochD.mk (0 : Int) ([] : List Int))).members
abbrev mmbQ6 (x23 : Nat) (x18 : MatA) (x20 : MatA) := decide (0 + (↑x23 : Int).toNat < [mmbQ5 x18, mmbQ5 x20].length)
abbrev mmbQ7 (x18 : MatA) (x20 : MatA) (x23 : Nat) := List.getD [mmbQ5 x18, mmbQ5 x20] (0 + (↑x23 : Int).toNat) ([] : List Int)
abbrev mmbQ8 (x23 : Nat) (x : MmbA) := decide ((0 : Int) ≤ (↑x23 : Int) ∧
(↑x23 : Int) < (↑(MmbA.k x).length : Int))
abbrev mmbQ9 (x28 : MacA) (x23 : Nat) (x14 : MacS) (x : MmbA) := (okMS x28.x = true ∧
okRq x28.r = true) ∧
∀ x29 : Unit, True →
∃ x30 : Nat, mmbQ2 x23 x30 ∧
EqM (applyM x28.x x28.r).2 (runF x14 (List.take x30 (MmbA.k x))) (Nat.le x30 (MmbA.k x).length ∧
Nat.sub (MmbA.k x).length x30 < Nat.sub (MmbA.k x).length x23)
abbrev mmbQ10 (x38 : Nat) (x18 : MatA) (x20 : MatA) (x37 : Nat) := Nat.le x38 (List.getD [mmbQ5 x18, mmbQ5 x20] (↑x37 : Int).toNat ([] : List Int)).length
theorem mmb_vc (x : MmbA) : evCall mmbE (ev mmbE 1000) 13 (mmbArgs x) ⟨[], 0, []⟩ (fun _ _ => False) (fun v _ => TrueV v) = (
∃ x1 : Unit, True ∧
∀ x2 : Unit, True →
∃ x3 : RmA, MmbA.l x = x3.l ∧
(60 : Int) = x3.most ∧
True ∧
∀ x4 : Unit, True →
br (roomM x3.l x3.most).not (true = true) (∃ x5 : RmA, MmbA.k x = x5.l ∧
(60 : Int) = x5.most ∧
True ∧
∀ x6 : Unit, True →
br (roomM x5.l x5.most).not (true = true) (∃ x7 : Unit, True ∧
∀ x8 : Unit, True →
(∃ x9 : Nat, (0 : Int) = (↑x9 : Int) ∧
EqM fresh0 (mmbQ1 x9 x) (Nat.le x9 (MmbA.l x).length)) ∧
∀ x10 : Nat, Nat.le x10 (MmbA.l x).length →
(MmbA.l x).length * 128 ≤ room47 →
br (decide ((↑x10 : Int) < (↑(MmbA.l x).length : Int))) (br (decide ((0 : Int) ≤ (↑x10 : Int) ∧
(↑x10 : Int) < (↑(MmbA.l x).length : Int))) (∃ x11 : MacA, EqQ (List.getD (MmbA.l x) (↑x10 : Int).toNat RequestD.dflt) x11.r (EqM (mmbQ1 x10 x) x11.x ((okMS x11.x = true ∧
okRq x11.r = true) ∧
∀ x12 : Unit, True →
∃ x13 : Nat, mmbQ2 x10 x13 ∧
EqM (applyM x11.x x11.r).2 (mmbQ1 x13 x) (Nat.le x13 (MmbA.l x).length ∧
Nat.sub (MmbA.l x).length x13 < Nat.sub (MmbA.l x).length x10)))) (Bad "check" "law.go:296")) (∃ x14 : MacS, EqM (mmbQ1 x10 x) x14 (okMS x14 = true ∧
∀ x15 : Unit, True →
∃ x16 : MacS, EqM x14 x16 (True ∧
∀ x17 : Unit, True →
∃ x18 : MatA, x16.applied = x18.slot ∧
EqM x16 x18.x (mmbQ3 x18 ∧
∀ x19 : Unit, True →
∃ x20 : MatA, IntKind.wrap IntKind.i64 (x16.applied + (1 : Int)) = x20.slot ∧
EqM x18.x x20.x (mmbQ3 x20 ∧
∀ x21 : Unit, True →
(∃ x22 : Nat, (0 : Int) = (↑x22 : Int) ∧
EqM x14 (runF x14 (List.take x22 (MmbA.k x))) (Nat.le x22 (MmbA.k x).length)) ∧
∀ x23 : Nat, Nat.le x23 (MmbA.k x).length →
(MmbA.k x).length * 128 ≤ room47 →
br (decide ((↑x23 : Int) < (↑(MmbA.k x).length : Int))) (br (decide ((↑x23 : Int) < (2 : Int))) (br (mmbQ4 x23) (br (mmbQ6 x23 x18 x20) (∃ x24 : MatA, IntKind.wrap IntKind.i64 (x16.applied + (↑x23 : Int)) = x24.slot ∧
EqM (runF x14 (List.take x23 (MmbA.k x))) x24.x (mmbQ3 x24 ∧
∀ x25 : Unit, True →
∃ x26 : (List Int), mmbQ5 x24 = x26 ∧
mmbQ7 x18 x20 x23 = x26 ∧
True ∧
∀ x27 : Unit, True →
br (mmbQ8 x23 x) (∃ x28 : MacA, EqQ (List.getD (MmbA.k x) (↑x23 : Int).toNat RequestD.dflt) x28.r (EqM x24.x x28.x (mmbQ9 x28 x23 x14 x))) (Bad "check" "law.go:305"))) (Bad "check" "law.go:302")) (Bad "check" "law.go:302")) (br (mmbQ8 x23 x) (∃ x31 : MacA, EqQ (List.getD (MmbA.k x) (↑x23 : Int).toNat RequestD.dflt) x31.r (EqM (runF x14 (List.take x23 (MmbA.k x))) x31.x (mmbQ9 x31 x23 x14 x))) (Bad "check" "law.go:305"))) (∃ x34 : MacS, EqM x20.x x34 (okEl x34.E = true ∧
∀ x35 : Unit, True →
(∃ x36 : Nat, (0 : Int) = (↑x36 : Int) ∧
Nat.le x36 2) ∧
∀ x37 : Nat, Nat.le x37 2 →
br (decide ((↑x37 : Int) < (2 : Int))) ((∃ x38 : Nat, (0 : Int) = (↑x38 : Int) ∧
mmbQ10 x38 x18 x20 x37) ∧
∀ x39 : Nat, mmbQ10 x39 x18 x20 x37 →
br (mmbQ4 x37) (br (mmbQ6 x37 x18 x20) ((mmbQ7 x18 x20 x37).length * 8 ≤ room47 →
br (decide ((↑x39 : Int) < (↑(mmbQ7 x18 x20 x37).length : Int))) (br (mmbQ4 x37) (br (mmbQ6 x37 x18 x20) (br (decide ((0 : Int) ≤ (↑x39 : Int) ∧
(↑x39 : Int) < (↑(mmbQ7 x18 x20 x37).length : Int))) (∃ x40 : HasA, unionE x34.E = x40.l ∧
List.getD (mmbQ7 x18 x20 x37) (↑x39 : Int).toNat (Int.ofNat 0) = x40.n ∧
True ∧
∀ x41 : Unit, True →
br (@List.contains Int _ x40.l x40.n).not (false = true) (∃ x42 : Nat, mmbQ2 x39 x42 ∧
mmbQ10 x42 x18 x20 x37 ∧
Nat.sub (List.getD [mmbQ5 x18, mmbQ5 x20] (↑x37 : Int).toNat ([] : List Int)).length x42 < Nat.sub (List.getD [mmbQ5 x18, mmbQ5 x20] (↑x37 : Int).toNat ([] : List Int)).length x39)) (Bad "check" "law.go:310")) (Bad "check" "law.go:310")) (Bad "check" "law.go:310")) (∃ x43 : Nat, mmbQ2 x37 x43 ∧
Nat.le x43 2 ∧
Nat.sub 2 x43 < Nat.sub 2 x37)) (Bad "check" "law.go:309")) (Bad "check" "law.go:309")) (true = true))))))))))) := by kernel_rfl
end Go.Proofs.YtgepebndihfnfaaGreat.Ses

namespace Go.Proofs.YtgepebndihfnfaaGreat.Ses
open Go Go.Proofs Go.Proofs.YtgepebndihfnfaaGreat.Sx
theorem atN_spec (E : List EpochD) (s : Int) : ∀ n, (atN E s n = 0 ∧ ∀ j, j < n → ¬ (E.getD j ⟨0, []⟩).from_ ≤ s) ∨ (atN E s n < n ∧ (E.getD (atN E s n) ⟨0, []⟩).from_ ≤ s ∧ ∀ j, atN E s n < j → j < n → ¬ (E.getD j ⟨0, []⟩).from_ ≤ s)
  | 0 => .inl ⟨rfl, fun j h => absurd h (Nat.not_lt_zero _)⟩
  | n + 1 => by
    by_cases h : (E.getD n ⟨0, []⟩).from_ ≤ s
    · have e : atN E s (n + 1) = n := by unfold atN; rw [decide_eq_true h]; rfl
      rw [e]
      exact .inr ⟨by omega, h, fun j h1 h2 => by omega⟩
    · have e : atN E s (n + 1) = atN E s n := by conv => lhs; unfold atN
                                                 rw [decide_eq_false h]; rfl
      rw [e]
      rcases atN_spec E s n with ⟨h1, h2⟩ | ⟨h1, h2, h3⟩
      · refine .inl ⟨h1, fun j hj => ?_⟩
        by_cases c : j = n
        · rw [c]; exact h
        · exact h2 j (by omega)
      · refine .inr ⟨by omega, h2, fun j hj hn => ?_⟩
        by_cases c : j = n
        · rw [c]; exact h
        · exact h3 j hj (by omega)
theorem atN_congr {E D : List EpochD} (s : Int) : ∀ n, (∀ j, j < n → E.getD j ⟨0, []⟩ = D.getD j ⟨0, []⟩) → atN E s n = atN D s n
  | 0, _ => rfl
  | n + 1, h => by
    unfold atN
    rw [h n (by omega), atN_congr s n fun j hj => h j (by omega)]
def atMem (E : List EpochD) (s : Int) : List Int := (E.getD (atN E s E.length) ⟨0, []⟩).members
theorem atMem_snoc {E : List EpochD} {e : EpochD} {s : Int} (h1 : 1 ≤ E.length) (h : ¬ e.from_ ≤ s) : atMem (E ++ [e]) s = atMem E s := by
  have hl : (E ++ [e]).length = E.length + 1 := by simp
  have hg : ∀ j, j < E.length → (E ++ [e]).getD j ⟨0, []⟩ = E.getD j ⟨0, []⟩ := fun j hj => by
    rw [List.getD_eq_getElem?_getD, List.getD_eq_getElem?_getD, List.getElem?_append_left hj]
  have he : (E ++ [e]).getD E.length ⟨0, []⟩ = e := by
    rw [List.getD_eq_getElem?_getD, List.getElem?_append_right (Nat.le_refl _), Nat.sub_self]; rfl
  have e1 : atN (E ++ [e]) s (E.length + 1) = atN E s E.length := by
    conv => lhs; unfold atN
    rw [he, decide_eq_false h]
    exact atN_congr s _ hg
  unfold atMem
  rw [hl, e1, hg _ (atN_lt E s _ (by omega))]
theorem atMem_cut {E : List EpochD} {s : Int} (h1 : 1 ≤ E.length) : atMem (cutE E s) s = atMem E s := by
  unfold cutE
  rcases atN_spec E s E.length with ⟨h2, _⟩ | ⟨h2, h3, h4⟩
  · rw [h2, List.drop_zero]
  · have hg : ∀ j, (E.drop (atN E s E.length)).getD j ⟨0, []⟩ = E.getD (atN E s E.length + j) ⟨0, []⟩ := fun j => by
      rw [List.getD_eq_getElem?_getD, List.getD_eq_getElem?_getD, List.getElem?_drop]
    have hl : (E.drop (atN E s E.length)).length = E.length - atN E s E.length := List.length_drop ..
    have h0 : atN (E.drop (atN E s E.length)) s (E.drop (atN E s E.length)).length = 0 := by
      rcases atN_spec (E.drop (atN E s E.length)) s (E.drop (atN E s E.length)).length with ⟨q, _⟩ | ⟨q1, q2, q3⟩
      · exact q
      · rw [hg] at q2
        rcases Nat.eq_zero_or_pos (atN (E.drop (atN E s E.length)) s (E.drop (atN E s E.length)).length) with c | c
        · exact c
        · exact absurd q2 (h4 _ (by omega) (by omega))
    unfold atMem
    rw [h0, hg, Nat.add_zero]
theorem cond_or {α : Type} {P : α → Prop} {b : Bool} {p q : α} (h1 : P p) (h2 : P q) : P (bif b then p else q) := by cases b <;> assumption
abbrev NewE (x : MacS) (E : List EpochD) : Prop := E = x.E ∨ ∃ e : EpochD, e.from_ = x.applied + x.alpha ∧ E = x.E ++ [e]
theorem chgE2 (x : MacS) (r : RequestD) (add : Bool) : NewE x (chgE ⟨x.alpha, x.E, x.applied, r.member, add⟩).2 := by
  unfold chgE
  exact cond_or (P := fun c : Int × List EpochD => NewE x c.2) (.inl rfl) (cond_or (P := fun c : Int × List EpochD => NewE x c.2) (.inl rfl) (cond_or (P := fun c : Int × List EpochD => NewE x c.2) (.inl rfl) (cond_or (P := fun c : Int × List EpochD => NewE x c.2) (.inl rfl) (cond_or (P := fun c : Int × List EpochD => NewE x c.2) (.inl rfl) (.inr ⟨_, rfl, rfl⟩)))))
theorem howE2 (x : MacS) (S : List SessionD) (r : RequestD) : NewE x (howM (withS x S) r).2.E := by
  unfold howM
  exact cond_or (P := fun c : VerdictD × MacS => NewE x c.2.E) (.inl rfl) (cond_or (P := fun c : VerdictD × MacS => NewE x c.2.E) (.inl rfl) (cond_or (P := fun c : VerdictD × MacS => NewE x c.2.E) (.inl rfl) (cond_or (P := fun c : VerdictD × MacS => NewE x c.2.E) (.inl rfl) (cond_or (P := fun c : VerdictD × MacS => NewE x c.2.E) (chgE2 (withS x S) r true) (cond_or (P := fun c : VerdictD × MacS => NewE x c.2.E) (chgE2 (withS x S) r false) (.inl rfl))))))
theorem doE2 (x : MacS) (r : RequestD) : NewE x (doM x r).2.E := by
  unfold doM
  exact cond_or (P := fun c : VerdictD × MacS => NewE x c.2.E) (.inl rfl) (cond_or (P := fun c : VerdictD × MacS => NewE x c.2.E) (cond_or (P := fun c : VerdictD × MacS => NewE x c.2.E) (.inl rfl) (.inl rfl)) (cond_or (P := fun c : VerdictD × MacS => NewE x c.2.E) (.inl rfl) (howE2 x _ r)))
theorem atMem_apply {a z : Int} {n : Nat} {x : MacS} (h : MOk a z n x) (hn : n < 1099511627776) (h2 : 2 ≤ a) (r : RequestD) : atMem (applyM x r).2.E (x.applied + 1) = atMem x.E (x.applied + 1) := by
  rw [apply_eq h hn r]
  show atMem (cutE (doM x r).2.E (x.applied + 1)) (x.applied + 1) = _
  have h1 := h.e1
  rcases doE2 x r with e | ⟨e, he, e'⟩
  · rw [e, atMem_cut h1]
  · rw [e', atMem_cut (by simp), atMem_snoc h1 (by rw [he, h.al]; omega)]
theorem mayE_in {M : List Int} (h : mayE M = true) {v : Int} (hv : v ∈ M) : 0 ≤ v ∧ v < 15 := (mayE_of h).2.2.1 v hv
theorem union_has {E : List EpochD} (h : ∀ p, p ∈ E → mayE p.members = true) {p : EpochD} (hp : p ∈ E) {v : Int} (hv : v ∈ p.members) : (unionE E).contains v = true := by
  obtain ⟨v0, v1⟩ := mayE_in (h p hp) hv
  refine List.contains_iff_mem.2 ?_
  unfold unionE
  refine List.mem_filter.2 ⟨List.mem_map.2 ⟨v.toNat, List.mem_range.2 (by omega), by omega⟩, ?_⟩
  exact List.any_eq_true.2 ⟨p, hp, List.contains_iff_mem.2 hv⟩
theorem atMem_has {E : List EpochD} (h : ∀ p, p ∈ E → mayE p.members = true) (h1 : 1 ≤ E.length) {s : Int} {v : Int} (hv : v ∈ atMem E s) : (unionE E).contains v = true :=
  union_has h (getD_mem (atN_lt E s _ (by omega))) hv
theorem mmb_ok : EnvOK mmbE := Env_ok (by decide +kernel) (by
  intro p hp
  simp only [List.mem_cons, List.mem_nil_iff, or_false] at hp
  rcases hp with rfl | rfl | rfl | rfl | rfl | rfl | rfl | rfl | rfl | rfl
  · exact aw8_ok
  · exact fresh_ok
  · exact apply_ok echg_ok
  · exact mroom_ok
  · exact mcn_ok
  · exact appM_ok
  · exact atM_ok
  · exact sint_ok
  · exact unM_ok
  · exact has_ok)
set_option maxHeartbeats 0 in
theorem mmb_body (x : MmbA) (hl : ∀ r, r ∈ x.l → inI r.from_ = true) (hk : ∀ r, r ∈ x.k → inI r.from_ = true) : evCall mmbE (ev mmbE 1000) 13 (mmbArgs x) ⟨[], 0, []⟩ (fun _ _ => False) (fun v _ => TrueV v) := by
  rw [mmb_vc]
  delta mmbQ10 mmbQ9 mmbQ8 mmbQ7 mmbQ6 mmbQ5 mmbQ4 mmbQ3 mmbQ2 mmbQ1 EqM EqQ EqG EqT
  obtain ⟨l, k⟩ := x
  dsimp only at *
  refine ⟨(), trivial, fun _ _ => ⟨⟨l, 60⟩, rfl, rfl, trivial, fun _ _ => br_i (fun _ => rfl) fun hr => ⟨⟨k, 60⟩, rfl, rfl, trivial, fun _ _ => br_i (fun _ => rfl) fun hr' => ⟨(), trivial, fun _ _ => ?_⟩⟩⟩⟩
  rw [Bool.not_eq_false'] at hr hr'
  obtain ⟨l60, lQ⟩ := roomM_of hr
  have l60 : (l.length : Int) ≤ 60 := l60
  obtain ⟨k60, kQ⟩ := roomM_of hr'
  have k60 : (k.length : Int) ≤ 60 := k60
  refine ⟨⟨0, (by repeat' (first | exact Nat.zero_le _ | refine And.intro ?_ ?_ | rfl))⟩, fun i hi _ => br_i (fun h1 => ?_) (fun h1 => ?_)⟩
  · have h1 := of_decide_eq_true h1
    have bi : decide ((0 : Int) ≤ (i : Int) ∧ (i : Int) < (l.length : Int)) = true := decide_eq_true ⟨by omega, h1⟩
    have e0 : (i : Int).toNat = i := rfl
    rw [e0]
    have eg : l.getD i RequestD.dflt = l.getD i noR0 := rfl
    rw [eg]
    have hgo := run_at (x := fresh0) (l := l) (i := i) (by omega)
    have hmem : l.getD i noR0 ∈ l := getD_mem (by omega)
    have okr := (okR_of (lQ _ hmem) (hl _ hmem)).1
    have htl := take_le l i
    have okm := (runD0 (l.take i) (by omega)).ok.ok (by omega)
    generalize l.getD i noR0 = r at hgo okr ⊢
    generalize runF fresh0 (l.take i) = y at hgo okm ⊢
    have hw : IntKind.i64.wrap ((i : Int) + 1) = ((i + 1 : Nat) : Int) := by rw [wrap_id (by omega) (by omega)]; rfl
    have hle : (i + 1).le l.length := by show i + 1 ≤ l.length; omega
    have hms : l.length.sub (i + 1) < l.length.sub i := by show l.length - (i + 1) < l.length - i; omega
    refine br_t bi ⟨⟨y, r⟩, rfl, rfl, rfl, rfl, rfl, rfl, rfl, rfl, rfl, rfl, rfl, rfl, rfl, rfl, rfl, rfl, rfl, rfl, rfl, rfl, rfl, rfl, rfl, rfl, rfl, rfl, rfl, ⟨okm, okr⟩, fun _ _ => ⟨i + 1, hw, ?_⟩⟩
    rw [hgo]
    exact (by repeat' (first | exact hle | exact hms | refine And.intro ?_ ?_ | rfl))
  · have h1 := of_decide_eq_false h1
    rw [List.take_of_length_le (by omega)]
    have hX := runD0 l (by omega)
    have hrun : ∀ i, MDs 2 3 (l.length + (k.take i).length) (runF (runF fresh0 l) (k.take i)) := fun i => by
      have := runD0 (l ++ k.take i) (by rw [List.length_append]; have := take_le k i; omega)
      rw [run_app, List.length_append] at this
      exact this
    generalize runF fresh0 l = X at hX hrun ⊢
    have okX := hX.ok.ok (by omega)
    have elX := hX.ok.el (by omega)
    have e1 := hX.ok.e1
    have hap : X.applied = (l.length : Int) := hX.ok.ap
    have hem : ∀ p, p ∈ X.E → mayE p.members = true := fun p hp => (hX.ok.em p hp).1
    have hw1 : IntKind.i64.wrap (X.applied + 1) = X.applied + 1 := wrap_id (by omega) (by omega)
    have len1 : decide (1 ≤ X.E.length) = true := decide_eq_true e1
    refine ⟨X, rfl, rfl, rfl, rfl, rfl, rfl, rfl, rfl, rfl, rfl, rfl, rfl, rfl, rfl, rfl, rfl, okX, fun _ _ => ⟨X, rfl, rfl, rfl, rfl, rfl, rfl, rfl, rfl, rfl, rfl, rfl, rfl, rfl, rfl, rfl, rfl, trivial, fun _ _ => ⟨⟨X, X.applied⟩, rfl, rfl, rfl, rfl, rfl, rfl, rfl, rfl, rfl, rfl, rfl, rfl, rfl, rfl, rfl, rfl, rfl, len1, fun _ _ => ⟨⟨X, X.applied + 1⟩, hw1, rfl, rfl, rfl, rfl, rfl, rfl, rfl, rfl, rfl, rfl, rfl, rfl, rfl, rfl, rfl, rfl, len1, fun _ _ => ⟨⟨0, (by repeat' (first | exact Nat.zero_le _ | refine And.intro ?_ ?_ | rfl))⟩, fun i hi _ => br_i (fun h2 => ?_) (fun h2 => ?_)⟩⟩⟩⟩⟩
    · have h2 := of_decide_eq_true h2
      have bi : decide ((0 : Int) ≤ (i : Int) ∧ (i : Int) < (k.length : Int)) = true := decide_eq_true ⟨by omega, h2⟩
      have e0 : (i : Int).toNat = i := rfl
      rw [e0]
      have eg : k.getD i RequestD.dflt = k.getD i noR0 := rfl
      rw [eg]
      have hgo := run_at (x := X) (l := k) (i := i) (by omega)
      have hmem : k.getD i noR0 ∈ k := getD_mem (by omega)
      have okr := (okR_of (kQ _ hmem) (hk _ hmem)).1
      have htl := take_le k i
      have hY := hrun i
      have okm := hY.ok.ok (by omega)
      have hwi : IntKind.i64.wrap (X.applied + (i : Int)) = X.applied + i := wrap_id (by omega) (by omega)
      have hat : i < 2 → atMem (runF X (k.take i)).E (X.applied + i) = [atMem X.E X.applied, atMem X.E (X.applied + 1)].getD i [] := fun hi2 => by
        match i, hi2 with
        | 0, _ =>
          show atMem X.E (X.applied + 0) = atMem X.E X.applied
          rw [Int.add_zero]
        | 1, _ =>
          have := run_at (x := X) (l := k) (i := 0) (by omega)
          rw [this]
          exact atMem_apply hX.ok (by omega) (by omega) _
      have lenY : decide (1 ≤ (runF X (k.take i)).E.length) = true := decide_eq_true hY.ok.e1
      generalize k.getD i noR0 = r at hgo okr ⊢
      generalize runF X (k.take i) = y at hgo okm hat lenY ⊢
      have hw : IntKind.i64.wrap ((i : Int) + 1) = ((i + 1 : Nat) : Int) := by rw [wrap_id (by omega) (by omega)]; rfl
      have hle : (i + 1).le k.length := by show i + 1 ≤ k.length; omega
      have hms : k.length.sub (i + 1) < k.length.sub i := by show k.length - (i + 1) < k.length - i; omega
      refine br_i (fun g => ?_) (fun _ => br_t bi ⟨⟨y, r⟩, rfl, rfl, rfl, rfl, rfl, rfl, rfl, rfl, rfl, rfl, rfl, rfl, rfl, rfl, rfl, rfl, rfl, rfl, rfl, rfl, rfl, rfl, rfl, rfl, rfl, rfl, rfl, ⟨okm, okr⟩, fun _ _ => ⟨i + 1, hw, ?_⟩⟩)
      · have g := of_decide_eq_true g
        refine br_t (decide_eq_true ⟨by omega, by omega⟩) (br_t (decide_eq_true (by show 0 + i < 2; omega)) ⟨⟨y, X.applied + i⟩, hwi, rfl, rfl, rfl, rfl, rfl, rfl, rfl, rfl, rfl, rfl, rfl, rfl, rfl, rfl, rfl, rfl, lenY, fun _ _ => ⟨_, rfl, ?_, trivial, fun _ _ => br_t bi ⟨⟨y, r⟩, rfl, rfl, rfl, rfl, rfl, rfl, rfl, rfl, rfl, rfl, rfl, rfl, rfl, rfl, rfl, rfl, rfl, rfl, rfl, rfl, rfl, rfl, rfl, rfl, rfl, rfl, rfl, ⟨okm, okr⟩, fun _ _ => ⟨i + 1, hw, ?_⟩⟩⟩⟩)
        · rw [Nat.zero_add]
          exact (hat (by omega)).symm
        · rw [hgo]
          exact (by repeat' (first | exact hle | exact hms | refine And.intro ?_ ?_ | rfl))
      · rw [hgo]
        exact (by repeat' (first | exact hle | exact hms | refine And.intro ?_ ?_ | rfl))
    · refine ⟨X, rfl, rfl, rfl, rfl, rfl, rfl, rfl, rfl, rfl, rfl, rfl, rfl, rfl, rfl, rfl, rfl, elX, fun _ _ => ⟨⟨0, rfl, Nat.zero_le _⟩, fun i hi => br_i (fun h3 => ?_) (fun _ => rfl)⟩⟩
      have h3 := of_decide_eq_true h3
      have bi : decide ((0 : Int) ≤ (i : Int) ∧ (i : Int) < ((2 : Nat) : Int)) = true := decide_eq_true ⟨by omega, by omega⟩
      have e0 : (i : Int).toNat = i := rfl
      rw [e0, Nat.zero_add]
      have hu : ∀ v, v ∈ [atMem X.E X.applied, atMem X.E (X.applied + 1)].getD i [] → (unionE X.E).contains v = true := fun v hv => by
        match i, (by omega : i < 2) with
        | 0, _ => exact atMem_has hem e1 hv
        | 1, _ => exact atMem_has hem e1 hv
      have hlt2 : decide (i < [atMem X.E X.applied, atMem X.E (X.applied + 1)].length) = true := decide_eq_true (by show i < 2; omega)
      have hwi : IntKind.i64.wrap ((i : Int) + 1) = ((i + 1 : Nat) : Int) := by rw [wrap_id (by omega) (by omega)]; rfl
      refine ⟨⟨0, rfl, Nat.zero_le _⟩, fun j hj => br_t bi (br_t hlt2 ?_)⟩
      change _ → _
      intro hroom
      have hroom : ([atMem X.E X.applied, atMem X.E (X.applied + 1)].getD i []).length * 8 ≤ room47 := hroom
      have hsm : ([atMem X.E X.applied, atMem X.E (X.applied + 1)].getD i []).length ≤ 17592186044416 := by unfold room47 at hroom; omega
      refine br_i (fun h4 => ?_) (fun _ => ⟨i + 1, hwi, by show i + 1 ≤ 2; omega, by show 2 - (i + 1) < 2 - i; omega⟩)
      have h4 : (j : Int) < (([atMem X.E X.applied, atMem X.E (X.applied + 1)].getD i []).length : Int) := of_decide_eq_true h4
      have hmem : ([atMem X.E X.applied, atMem X.E (X.applied + 1)].getD i []).getD j 0 ∈ [atMem X.E X.applied, atMem X.E (X.applied + 1)].getD i [] := getD_mem (by omega)
      refine br_t bi (br_t hlt2 (br_t (decide_eq_true ⟨by omega, h4⟩) ⟨⟨unionE X.E, _⟩, rfl, rfl, trivial, fun _ _ => br_f ?_ ⟨j + 1, by rw [wrap_id (by omega) (by omega)]; rfl, by show j + 1 ≤ ([atMem X.E X.applied, atMem X.E (X.applied + 1)].getD i []).length; omega, by show ([atMem X.E X.applied, atMem X.E (X.applied + 1)].getD i []).length - (j + 1) < ([atMem X.E X.applied, atMem X.E (X.applied + 1)].getD i []).length - j; omega⟩⟩))
      have := hu _ hmem
      show (!((unionE X.E).contains _)) = false
      rw [Bool.not_eq_false']
      exact this
end Go.Proofs.YtgepebndihfnfaaGreat.Ses
