/- A machine's clone; the law MachineMembers: what the evaluator leaves, and that it holds. No condition. -/
import Derived.Test.YtgepebndihfnfaaGreatCMhA
import Derived.Shelf.SlMaps.Clone
import Derived.KernelRfl
set_option linter.unusedSimpArgs false
set_option linter.unusedVariables false

namespace Go.Proofs.YtgepebndihfnfaaGreat.Sx
open Go Go.MapKept
theorem Mem.newMapOf {F : Fr} {g : Ctx} {m : MS} {w : World} (h : Mem F g m w) {es : Array MapEntry} {ck : Nat} {l : List (Bs × Int)} (hes : KvOK es l) (hst : Stamped es ck) :
    Mem F (g.add (some ⟨w.heap.size, 0, 0⟩)) (m.new (.kv l)) (w.alloc (.map es ck)) := by
  have hle := g.le_add (some ⟨w.heap.size, 0, 0⟩)
  have hnx := h.next
  have hnew : (w.alloc (.map es ck)).heap[w.heap.size]? = some (.map es ck) := (heap_alloc w _).1
  have hother : ∀ b, b < w.heap.size → (w.alloc (.map es ck)).heap[b]? = w.heap[b]? := (heap_alloc w _).2
  have hget : ∀ n k', Blks.get ((m.next, .kv l) :: m.blks) n = some k' → (n = m.next ∧ k' = .kv l) ∨ (n ≠ m.next ∧ m.blks.get n = some k') := by
    intro n k' hn
    by_cases e : n = m.next
    · subst e; rw [Blks.get_cons_same] at hn; exact .inl ⟨rfl, (Option.some.inj hn).symm⟩
    · rw [Blks.get_cons_other _ _ e] at hn; exact .inr ⟨e, hn⟩
  have hold : ∀ n k', m.blks.get n = some k' → ∀ r, g.β[n]? = some (some r) → r.b < w.heap.size := fun n k' hn r hr => (h.mem.at_name hn hr).1.lt
  refine ⟨⟨?_, ?_, ?_, ?_⟩, by simp [Ctx.add, MS.new, hnx], ?_, h.ext, ?_⟩
  · intro n k' hn
    rcases hget n k' hn with ⟨rfl, rfl⟩ | ⟨hne, hn⟩
    · exact ⟨some ⟨w.heap.size, 0, 0⟩, by rw [hnx]; exact Ctx.add_get _ _, ⟨_, _, hnew⟩, _, _, hnew, hes, hst⟩
    · obtain ⟨x, hx, hok⟩ := h.mem.reg n k' hn
      refine ⟨x, hle.β _ _ hx, hok.congr hle fun r e => ?_⟩
      subst e
      exact hother _ hok.1.lt
  · intro n n' k1 k2 r r' h1 h2 hr hr' hb
    rcases hget n k1 h1 with ⟨e1, e2⟩ | ⟨hne, g1⟩ <;> rcases hget n' k2 h2 with ⟨e3, e4⟩ | ⟨hne', g2⟩
    · rw [e1, e3]
    · subst e1
      rw [hnx, Ctx.add_get] at hr
      have := hold n' k2 g2 r' (Ctx.add_get_other (by rw [← hnx]; exact hne') hr')
      cases hr
      simp at hb
      omega
    · subst e3
      rw [hnx, Ctx.add_get] at hr'
      have := hold n k1 g1 r (Ctx.add_get_other (by rw [← hnx]; exact hne) hr)
      cases hr'
      simp at hb
      omega
    · exact h.mem.inj n n' k1 k2 r r' g1 g2 (Ctx.add_get_other (by rw [← hnx]; exact hne) hr) (Ctx.add_get_other (by rw [← hnx]; exact hne') hr') hb
  · intro b o v hv
    have := h.mem.ro b o v hv
    rw [cell?_congr (hother _ (cell?_lt this))]
    exact this
  · intro n k' r o hn hr
    rcases hget n k' hn with ⟨rfl, rfl⟩ | ⟨hne, hn⟩
    · rw [hnx, Ctx.add_get] at hr
      cases hr
      show g.Γ w.heap.size o = none
      cases hv : g.Γ w.heap.size o with
      | none => rfl
      | some v => exact absurd (cell?_lt (h.mem.ro _ _ _ hv)) (Nat.lt_irrefl _)
    · exact h.mem.apart n k' r o hn (Ctx.add_get_other (by rw [← hnx]; exact hne) hr)
  · intro n k' r hn hr
    rcases hget n k' hn with ⟨rfl, rfl⟩ | ⟨hne, hn⟩
    · rw [hnx, Ctx.add_get] at hr
      cases hr
      exact .inl h.fix.size
    · exact h.own n k' r hn (Ctx.add_get_other (by rw [← hnx]; exact hne) hr)
  · have hsz : (w.alloc (.map es ck)).heap.size = w.heap.size + 1 := by show (w.heap.push _).size = _; rw [Array.size_push]
    refine ⟨by have := h.fix.size; omega, fun b hb hM => ?_, h.fix.os, h.fix.out⟩
    rw [hother _ (by have := h.fix.size; omega)]
    exact h.fix.keep b hb hM
end Go.Proofs.YtgepebndihfnfaaGreat.Sx
namespace Go.Proofs.YtgepebndihfnfaaGreat.Ses
open Go Go.Proofs Go.Proofs.YtgepebndihfnfaaGreat.Sx
open Go.Shelf
def refC_ren : Go.Shelf.Ren := ⟨fun | 5 => 139 | 7 => 195 | n => n, fun | 23 => 125 | 25 => 9 | 3 => 3 | 4 => 4 | 20 => 20 | n => n, fun | n => n⟩
theorem refC : Go.Proofs.SlLaysW.n5 Tryz.prog refC_ren where
  mixed := by kernel_rfl
  f5 := ⟨"maps.Clone[map[string]int,string,int]", by decide, Tryz.func139.trans (congrArg some (by kernel_rfl))⟩
  f7 := Tryz.func195.trans (congrArg some (by kernel_rfl))
  t4 := Tryz.underlying4
  a4 := Tryz.isAgg4
  z4 := Tryz.sizeOf4
  v4 := Tryz.zeroValue4
  t20 := Tryz.underlying20
  a20 := Tryz.isAgg20
  z20 := Tryz.sizeOf20
  v20 := Tryz.zeroValue20
  t23 := Tryz.underlying125
  a23 := Tryz.isAgg125
  z23 := Tryz.sizeOf125
  v23 := Tryz.zeroValue125
def mclT : Tri := { γ := List (Bs × Int), n0 := 1, args := fun _ => [.mmap 0], blks := fun l => [(0, .kv l)], pre := fun _ => True, δ := Unit, post := fun _ _ => True, n1 := 1, res := fun _ _ => .mmap 1, blks' := fun l _ => [(0, .kv l), (1, .kv l)], scal := false }
theorem mcl_ok : SpecOK Tryz.prog 139 mclT.spec := by
  refine Tri.ok' mclT fun l hl F g w vs hargs hm => ?_
  change List (Bs × Int) at l
  have hargs : RepL g [.mmap 0] vs := hargs
  obtain ⟨v0, _, rfl, r0, r⟩ := hargs.uncons
  rw [r.eq_nil]
  cases r0 with
  | mmap _ r1 hr1 =>
    obtain ⟨x, hx, hok⟩ := hm.mem.reg 0 (.kv l) rfl
    rw [hr1] at hx
    cases hx
    obtain ⟨es, ck, hes, hkv, hst⟩ := hok.2
    have hc : Calls Tryz.prog 139 #[.map (some r1.b)] w fun e w' => e = .returned (.map (some w.heap.size)) ∧ w' = w.alloc (.map es ck) := AnyW.maps_Clone refC r1.b es ck w hes
    refine hc.mono ?_
    rintro e w' ⟨rfl, rfl⟩
    have hM := hm.newMapOf hkv hst
    have hnx : g.β.length = 1 := hm.next.symm
    refine ⟨_, _, .mmap 1, ?_, g.le_add _, Upd.new _ _, hM, Rep.mmap (g := g.add (some ⟨w.heap.size, 0, 0⟩)) 1 ⟨w.heap.size, 0, 0⟩ (by rw [← hnx]; exact Ctx.add_get _ _)⟩
    have e : mclT.ends l (.mmap 1) ⟨[(1, .kv l), (0, .kv l)], 2, []⟩ = (∃ x1 : Unit, l = l ∧ l = l ∧ True) := by kernel_rfl
    show mclT.ends l (.mmap 1) ⟨[(1, .kv l), (0, .kv l)], 2, []⟩
    rw [e]
    exact ⟨(), rfl, rfl, trivial⟩
end Go.Proofs.YtgepebndihfnfaaGreat.Ses

namespace Go.Proofs.YtgepebndihfnfaaGreat.Ses
open Go Go.Proofs Go.Proofs.YtgepebndihfnfaaGreat.Sx
noncomputable def mcnT : Tri := { γ := MacS, n0 := 8, args := fun _ => [.mptr 0 0], blks := fun x => mB x 0 1 2 3 4 5 6 7, pre := fun x => okMS x = true, δ := Unit, post := fun _ _ => True, n1 := 8, res := fun _ _ => .mptr 8 0, blks' := fun x _ => mB x 0 1 2 3 4 5 6 7 ++ mB x 8 9 10 11 12 13 14 15, scal := false }
noncomputable def mcnE : Envr := Env Tryz.prog cod [(139, mclT.spec), (167, cpT.spec), (151, eownT.spec)] []
end Go.Proofs.YtgepebndihfnfaaGreat.Ses

namespace Go.Proofs.YtgepebndihfnfaaGreat.Ses
open Go Go.Proofs Go.Proofs.YtgepebndihfnfaaGreat.Sx
set_option maxRecDepth 100000
abbrev mcnQ1 (x : mcnT.γ) := (MacS.E x).length * 32 ≤ room47
abbrev mcnQ2 (x : mcnT.γ) := (decide ((↑(MacS.E x).length : Int) > (0 : Int))).not
abbrev mcnQ3 (x : mcnT.γ) := MacS.applied x = MacS.applied x
abbrev mcnQ4 (x : mcnT.γ) := (MacS.C x).length = (MacS.C x).length
abbrev mcnQ5 (x : mcnT.γ) := treeC (MacS.C x) = treeC (MacS.C x)
abbrev mcnQ6 (x : mcnT.γ) := MacS.alpha x = MacS.alpha x ∧
MacS.size x = MacS.size x ∧
mcnQ3 x ∧
Bad "match: mptr" ""
abbrev mcnQ7 (x : mcnT.γ) := EqT (MacS.alpha x) (MacS.alpha x) (MacS.E x) (MacS.E x) (mcnQ6 x)
abbrev mcnQ8 (x : mcnT.γ) (x5 : EoA) := (MacS.E x).length = x5.E.length - x5.lo
abbrev mcnQ9 (x5 : EoA) := decide (x5.lo ≤ x5.E.length) = true
abbrev mcnQ10 (x : mcnT.γ) := (MacS.E x).length = (MacS.E x).length
abbrev mcnQ11 (x : mcnT.γ) (x2 : List (Prod Bs Int)) := mcnQ1 x →
br (mcnQ2 x) (∃ x4 : Unit, MacS.alpha x = MacS.alpha x ∧
MacS.size x = MacS.size x ∧
mcnQ3 x ∧
0 = 0 ∧
mcnQ4 x ∧
mcnQ5 x ∧
MacS.C x = MacS.C x ∧
x2 = kvC (MacS.C x) ∧
EqT (MacS.size x) (MacS.size x) (MacS.S x) (MacS.S x) (mcnQ7 x)) (∃ x5 : EoA, 0 = x5.lo ∧
mcnQ8 x x5 ∧
MacS.E x = x5.E ∧
mcnQ9 x5 ∧
∀ x6 : Unit, True →
∃ x7 : Unit, MacS.alpha x = MacS.alpha x ∧
MacS.size x = MacS.size x ∧
mcnQ3 x ∧
0 = 0 ∧
mcnQ4 x ∧
mcnQ5 x ∧
MacS.C x = MacS.C x ∧
x2 = kvC (MacS.C x) ∧
EqT (MacS.size x) (MacS.size x) (MacS.S x) (MacS.S x) (MacS.alpha x = MacS.alpha x ∧
0 = 0 ∧
mcnQ10 x ∧
x5.E = MacS.E x ∧
mcnQ6 x))
abbrev mcnQ12 (x : mcnT.γ) := (MacS.S x).length = (MacS.S x).length
abbrev mcnQ13 (x : mcnT.γ) (x2 : List (Prod Bs Int)) (x8 : List SessionD) := ∃ x10 : Unit, MacS.alpha x = MacS.alpha x ∧
MacS.size x = MacS.size x ∧
mcnQ3 x ∧
0 = 0 ∧
mcnQ4 x ∧
mcnQ5 x ∧
MacS.C x = MacS.C x ∧
x2 = kvC (MacS.C x) ∧
MacS.size x = MacS.size x ∧
0 = 0 ∧
mcnQ12 x ∧
x8 = MacS.S x ∧
mcnQ7 x
abbrev mcnQ14 (x2 : List (Prod Bs Int)) (x : mcnT.γ) (x8 : List SessionD) (x11 : EoA) := x2 = kvC (MacS.C x) ∧
EqT (MacS.size x) (MacS.size x) x8 (MacS.S x) (EqT (MacS.alpha x) (MacS.alpha x) (List.drop x11.lo x11.E) (MacS.E x) True)
abbrev mcnQ15 (x : mcnT.γ) := List.take (MacS.C x).length (List.drop 0 (MacS.C x))
theorem mcn_vc (x : mcnT.γ) : evCall mcnE (ev mcnE 1000) 53 (mcnT.args x) ⟨mcnT.blks x, mcnT.n0, []⟩ (fun _ _ => False) (mcnT.ends x) = (
∀ x1 : Bool, (x1 = true →
(MacS.C x).length = 0) →
br x1 (∃ x2 : (List (Prod Bs Int)), kvC (MacS.C x) = x2 ∧
True ∧
∀ x3 : Unit, True →
br (decide (MacS.size x > (0 : Int))).not (mcnQ11 x x2) (∃ x8 : (List SessionD), 0 = 0 ∧
(MacS.S x).length = x8.length ∧
MacS.S x = x8 ∧
True ∧
∀ x9 : Unit, True →
mcnQ1 x →
br (mcnQ2 x) (mcnQ13 x x2 x8) (∃ x11 : EoA, 0 = x11.lo ∧
mcnQ8 x x11 ∧
MacS.E x = x11.E ∧
mcnQ9 x11 ∧
∀ x12 : Unit, True →
∃ x13 : Unit, MacS.alpha x = MacS.alpha x ∧
MacS.size x = MacS.size x ∧
mcnQ3 x ∧
0 = 0 ∧
mcnQ4 x ∧
mcnQ5 x ∧
MacS.C x = MacS.C x ∧
x2 = kvC (MacS.C x) ∧
MacS.size x = MacS.size x ∧
0 = 0 ∧
mcnQ12 x ∧
x8 = MacS.S x ∧
MacS.alpha x = MacS.alpha x ∧
0 = 0 ∧
mcnQ10 x ∧
x11.E = MacS.E x ∧
MacS.alpha x = MacS.alpha x ∧
MacS.size x = MacS.size x ∧
mcnQ3 x ∧
0 = (MacS.C x).length ∧
mcnQ5 x ∧
([] : List CommitD) = MacS.C x ∧
mcnQ14 x2 x x8 x11))) (Nat.le (0 * 56) room47 ∧
Nat.le ((MacS.C x).length * 56) room47 →
br (Bool.and (Bool.and (decide (0 + (MacS.C x).length ≤ (MacS.C x).length)) (decide (0 + 0 ≤ ([] : List CommitD).length))) (decide ((0 + (mcnQ15 x).length) * 56 ≤ room47))) (∃ x14 : (List (Prod Bs Int)), kvC (MacS.C x) = x14 ∧
True ∧
∀ x15 : Unit, True →
br (decide (MacS.size x > (0 : Int))).not (mcnQ11 x x14) (∃ x20 : (List SessionD), 0 = 0 ∧
(MacS.S x).length = x20.length ∧
MacS.S x = x20 ∧
True ∧
∀ x21 : Unit, True →
mcnQ1 x →
br (mcnQ2 x) (mcnQ13 x x14 x20) (∃ x23 : EoA, 0 = x23.lo ∧
mcnQ8 x x23 ∧
MacS.E x = x23.E ∧
mcnQ9 x23 ∧
∀ x24 : Unit, True →
∃ x25 : Unit, MacS.alpha x = MacS.alpha x ∧
MacS.size x = MacS.size x ∧
mcnQ3 x ∧
0 = 0 ∧
mcnQ4 x ∧
mcnQ5 x ∧
MacS.C x = MacS.C x ∧
x14 = kvC (MacS.C x) ∧
MacS.size x = MacS.size x ∧
0 = 0 ∧
mcnQ12 x ∧
x20 = MacS.S x ∧
MacS.alpha x = MacS.alpha x ∧
0 = 0 ∧
mcnQ10 x ∧
x23.E = MacS.E x ∧
MacS.alpha x = MacS.alpha x ∧
MacS.size x = MacS.size x ∧
mcnQ3 x ∧
0 = 0 ∧
0 + (mcnQ15 x).length = (MacS.C x).length ∧
mcnQ5 x ∧
@HAppend.hAppend (List CommitD) (List CommitD) (List CommitD) _ (List.take 0 (List.drop 0 ([] : List CommitD))) (mcnQ15 x) = MacS.C x ∧
mcnQ14 x14 x x20 x23))) (Bad "check" "slices.go:362"))) := by kernel_rfl
end Go.Proofs.YtgepebndihfnfaaGreat.Ses

namespace Go.Proofs.YtgepebndihfnfaaGreat.Ses
open Go Go.Proofs Go.Proofs.YtgepebndihfnfaaGreat.Sx
theorem mcn_ok : SpecOK Tryz.prog 53 mcnT.spec := by
  refine Tri.ok (E := mcnE) (Env_ok (by decide +kernel) (by simp [mcl_ok, cp_ok, eown_ok])) (n := 1000) mcnT fun x hx => ?_
  rw [mcn_vc]
  delta mcnQ15 mcnQ14 mcnQ13 mcnQ12 mcnQ11 mcnQ10 mcnQ9 mcnQ8 mcnQ7 mcnQ6 mcnQ5 mcnQ4 mcnQ3 mcnQ2 mcnQ1 EqT
  obtain ⟨al, sz, ap, C, S, E⟩ := x
  have hx : okMS ⟨al, sz, ap, C, S, E⟩ = true := hx
  have h2 : 0 < sz ∧ 0 < E.length := by
    obtain ⟨_, h1, _, h2, _⟩ := okMS_of hx
    have h2 : okEp al E = true := h2
    unfold okEp at h2
    simp only [Bool.and_eq_true, decide_eq_true_eq] at h2
    exact ⟨h1, by omega⟩
  have bs : (!(decide (sz > (0 : Int)))) = false := by rw [decide_eq_true (by omega : sz > 0)]; rfl
  have be : (!(decide ((E.length : Int) > (0 : Int)))) = false := by rw [decide_eq_true (by omega : (E.length : Int) > 0)]; rfl
  intro b hb
  refine br_i (fun h => ?_) (fun h hr => ?_)
  · have : C = [] := List.eq_nil_of_length_eq_zero (hb h)
    subst this
    exact ⟨_, rfl, trivial, fun _ _ => br_f bs ⟨S, rfl, rfl, rfl, trivial, fun _ _ _ => br_f be ⟨{ lo := 0, E := E }, rfl, rfl, rfl, by simp, fun _ _ => ⟨(), (by repeat' (first | exact trivial | refine And.intro ?_ ?_ | rfl))⟩⟩⟩⟩
  · refine br_t ?_ ⟨_, rfl, trivial, fun _ _ => br_f bs ⟨S, rfl, rfl, rfl, trivial, fun _ _ _ => br_f be ⟨{ lo := 0, E := E }, rfl, rfl, rfl, by simp, fun _ _ => ⟨(), (by repeat' (first | exact trivial | refine And.intro ?_ ?_ | rfl | simp))⟩⟩⟩⟩
    have hr : C.length * 56 ≤ room47 := hr.2
    simp
    exact hr
end Go.Proofs.YtgepebndihfnfaaGreat.Ses

namespace Go.Proofs.YtgepebndihfnfaaGreat.Ses
open Go Go.Proofs Go.Proofs.YtgepebndihfnfaaGreat.Sx
structure MmbA where
  l : List RequestD
  k : List RequestD
end Go.Proofs.YtgepebndihfnfaaGreat.Ses

namespace Go.Proofs.YtgepebndihfnfaaGreat.Ses
open Go Go.Proofs Go.Proofs.YtgepebndihfnfaaGreat.Sx
set_option maxRecDepth 100000
end Go.Proofs.YtgepebndihfnfaaGreat.Ses

namespace Go.Proofs.YtgepebndihfnfaaGreat.Ses
open Go Go.Proofs Go.Proofs.YtgepebndihfnfaaGreat.Sx
end Go.Proofs.YtgepebndihfnfaaGreat.Ses
