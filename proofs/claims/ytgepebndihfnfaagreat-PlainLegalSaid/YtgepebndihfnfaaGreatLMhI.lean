/- May commits stand one behind the other: here as there; one landed revision for a session's number. No condition. -/
import Derived.Test.YtgepebndihfnfaaGreatLMhD
import Derived.KernelRfl
set_option linter.unusedSimpArgs false
set_option linter.unusedVariables false

namespace Go.Proofs.YtgepebndihfnfaaGreat.Ses
open Go Go.Proofs Go.Proofs.YtgepebndihfnfaaGreat.Sx
def comAt (l : List CommitD) (i : Nat) : CommitD := l.getD i ⟨0, 0, [], []⟩
def pathAt (l : List CommitD) (i a : Nat) : Bs := ((comAt l i).changes.getD a ⟨[], false, 0⟩).path
def freeK (l : List CommitD) (i a k : Nat) : Bool := (List.range (comAt l k).changes.length).all fun b => !(pathAt l k b == pathAt l i a)
def chOk (l : List CommitD) (i a : Nat) : Bool := ((List.range a).all fun b => !(pathAt l i a == pathAt l i b)) && (List.range i).all fun k => decide ((k : Int) < (comAt l i).base) || freeK l i a k
def rowOk (l : List CommitD) (i : Nat) : Bool := (comAt l i).rev == (i : Int) + 1 && (decide (0 ≤ (comAt l i).base) && (decide ((comAt l i).base ≤ i) && (List.range (comAt l i).changes.length).all (chOk l i)))
def legR (l : List CommitD) : Bool := (List.range l.length).all (rowOk l)
noncomputable def lgr2 : St → LInv := fun s => match getE s.env 0 with
  | .rslice _ .commit l => { σ := Nat, I := fun i => i ≤ l.length ∧ ∀ j, j < i → rowOk l j = true, μ := fun i => l.length - i, env := fun i => [(3, .int .i64 i)], blk := fun _ => [], fresh := 0, drop := [] }
  | _ => LInv.none
noncomputable def lgr7 : St → LInv := fun s => match getE s.env 0, getE s.env 3 with
  | .rslice _ .commit l, .int _ i => { σ := Nat, I := fun a => a ≤ (comAt l i.toNat).changes.length ∧ ∀ j, j < a → chOk l i.toNat j = true, μ := fun a => (comAt l i.toNat).changes.length - a, env := fun a => [(4, .int .i64 a)], blk := fun _ => [], fresh := 0, drop := [] }
  | _, _ => LInv.none
noncomputable def lgr10 : St → LInv := fun s => match getE s.env 0, getE s.env 3, getE s.env 4 with
  | .rslice _ .commit l, .int _ i, .int _ a => { σ := Nat, I := fun b => b ≤ a.toNat ∧ ∀ j, j < b → (pathAt l i.toNat a.toNat == pathAt l i.toNat j) = false, μ := fun b => a.toNat - b, env := fun b => [(5, .int .i64 b)], blk := fun _ => [], fresh := 0, drop := [] }
  | _, _, _ => LInv.none
noncomputable def lgr15 : St → LInv := fun s => match getE s.env 0, getE s.env 3, getE s.env 4 with
  | .rslice _ .commit l, .int _ i, .int _ a => { σ := Nat, I := fun k => (comAt l i.toNat).base ≤ (k : Int) ∧ k ≤ i.toNat ∧ ∀ j, j < k → (decide ((j : Int) < (comAt l i.toNat).base) || freeK l i.toNat a.toNat j) = true, μ := fun k => i.toNat - k, env := fun k => [(6, .int .i64 k)], blk := fun _ => [], fresh := 0, drop := [] }
  | _, _, _ => LInv.none
noncomputable def lgr18 : St → LInv := fun s => match getE s.env 0, getE s.env 3, getE s.env 4, getE s.env 6 with
  | .rslice _ .commit l, .int _ i, .int _ a, .int _ k => { σ := Nat, I := fun b => b ≤ (comAt l k.toNat).changes.length ∧ ∀ j, j < b → (pathAt l k.toNat j == pathAt l i.toNat a.toNat) = false, μ := fun b => (comAt l k.toNat).changes.length - b, env := fun b => [(7, .int .i64 b)], blk := fun _ => [], fresh := 0, drop := [] }
  | _, _, _, _ => LInv.none
noncomputable def lgrT : Tri := { γ := List CommitD, n0 := 0, args := fun l => [.rslice false .commit l], blks := fun _ => [], pre := fun _ => True, δ := Unit, post := fun _ _ => True, n1 := 0, res := fun l _ => .bool (legR l), blks' := fun _ _ => [], scal := true }
noncomputable def lgrE : Envr := Env Tryz.prog cod [] [(2, lgr2), (7, lgr7), (10, lgr10), (15, lgr15), (18, lgr18)]
end Go.Proofs.YtgepebndihfnfaaGreat.Ses

namespace Go.Proofs.YtgepebndihfnfaaGreat.Ses
open Go Go.Proofs Go.Proofs.YtgepebndihfnfaaGreat.Sx
set_option maxRecDepth 100000
abbrev lgrQ1 (x1 : Nat) (x : lgrT.γ) := x1 ≤ List.length x ∧
∀ x2 : Nat, x2 < x1 →
rowOk x x2 = true
abbrev lgrQ2 (x3 : Nat) (x : lgrT.γ) := decide ((0 : Int) ≤ (↑x3 : Int) ∧
(↑x3 : Int) < (↑(List.length x) : Int))
abbrev lgrQ3 (x : lgrT.γ) (x3 : Nat) := List.getD x (↑x3 : Int).toNat (CommitD.mk (0 : Int) (0 : Int) ([] : List UInt8) ([] : List ChangeD))
abbrev lgrQ4 (x3 : Nat) := IntKind.wrap IntKind.i64 ((↑x3 : Int) + (1 : Int))
abbrev lgrQ5 (x : lgrT.γ) := ∃ x5 : Unit, false = legR x ∧
True
abbrev lgrQ6 (x8 : Nat) (x : lgrT.γ) (x3 : Nat) := x8 ≤ (comAt x (↑x3 : Int).toNat).changes.length ∧
∀ x9 : Nat, x9 < x8 →
chOk x (↑x3 : Int).toNat x9 = true
abbrev lgrQ7 (x12 : Nat) (x10 : Nat) (x : lgrT.γ) (x3 : Nat) := x12 ≤ (↑x10 : Int).toNat ∧
∀ x13 : Nat, x13 < x12 →
(pathAt x (↑x3 : Int).toNat (↑x10 : Int).toNat == pathAt x (↑x3 : Int).toNat x13) = false
abbrev lgrQ8 (x10 : Nat) (x : lgrT.γ) (x3 : Nat) := decide ((0 : Int) ≤ (↑x10 : Int) ∧
(↑x10 : Int) < (↑(lgrQ3 x x3).changes.length : Int))
abbrev lgrQ9 (x : lgrT.γ) (x3 : Nat) (x10 : Nat) := (List.getD (lgrQ3 x x3).changes (↑x10 : Int).toNat (ChangeD.mk ([] : List UInt8) false (0 : Int))).path
abbrev lgrQ10 (x : lgrT.γ) (x3 : Nat) (x19 : Nat) (x10 : Nat) := (comAt x (↑x3 : Int).toNat).base ≤ (↑x19 : Int) ∧
x19 ≤ (↑x3 : Int).toNat ∧
∀ x20 : Nat, x20 < x19 →
Bool.or (decide ((↑x20 : Int) < (comAt x (↑x3 : Int).toNat).base)) (freeK x (↑x3 : Int).toNat (↑x10 : Int).toNat x20) = true
abbrev lgrQ11 (x23 : Nat) (x : lgrT.γ) (x21 : Nat) (x3 : Nat) (x10 : Nat) := x23 ≤ (comAt x (↑x21 : Int).toNat).changes.length ∧
∀ x24 : Nat, x24 < x23 →
(pathAt x (↑x21 : Int).toNat x24 == pathAt x (↑x3 : Int).toNat (↑x10 : Int).toNat) = false
abbrev lgrQ12 (x : lgrT.γ) (x21 : Nat) (x28 : Nat) (x25 : Nat) := Nat.sub (comAt x (↑x21 : Int).toNat).changes.length x28 < Nat.sub (comAt x (↑x21 : Int).toNat).changes.length x25
theorem lgr_vc (x : lgrT.γ) : evCall lgrE (ev lgrE 1000) 29 (lgrT.args x) ⟨lgrT.blks x, lgrT.n0, []⟩ (fun _ _ => False) (lgrT.ends x) = (
(∃ x1 : Nat, (0 : Int) = (↑x1 : Int) ∧
lgrQ1 x1 x) ∧
∀ x3 : Nat, lgrQ1 x3 x →
List.length x * 56 ≤ room47 →
br (decide ((↑x3 : Int) < (↑(List.length x) : Int))) (br (lgrQ2 x3 x) (br ((lgrQ3 x x3).rev != lgrQ4 x3) (lgrQ5 x) (br (lgrQ2 x3 x) (br (decide ((lgrQ3 x x3).base < (0 : Int))) (lgrQ5 x) (br (lgrQ2 x3 x) (br (decide ((lgrQ3 x x3).base > (↑x3 : Int))) (lgrQ5 x) ((∃ x8 : Nat, (0 : Int) = (↑x8 : Int) ∧
lgrQ6 x8 x x3) ∧
∀ x10 : Nat, lgrQ6 x10 x x3 →
br (lgrQ2 x3 x) ((lgrQ3 x x3).changes.length * 32 ≤ room47 →
br (decide ((↑x10 : Int) < (↑(lgrQ3 x x3).changes.length : Int))) ((∃ x12 : Nat, (0 : Int) = (↑x12 : Int) ∧
lgrQ7 x12 x10 x x3) ∧
∀ x14 : Nat, lgrQ7 x14 x10 x x3 →
br (decide ((↑x14 : Int) < (↑x10 : Int))) (br (lgrQ2 x3 x) (br (lgrQ8 x10 x x3) (br (lgrQ2 x3 x) (br (lgrQ8 x14 x x3) (br (lgrQ9 x x3 x10 == lgrQ9 x x3 x14) (lgrQ5 x) (∃ x17 : Nat, lgrQ4 x14 = (↑x17 : Int) ∧
lgrQ7 x17 x10 x x3 ∧
Nat.sub (↑x10 : Int).toNat x17 < Nat.sub (↑x10 : Int).toNat x14)) (Bad "check" "ref.go:272")) (Bad "check" "ref.go:272")) (Bad "check" "ref.go:272")) (Bad "check" "ref.go:272")) (br (lgrQ2 x3 x) ((∃ x19 : Nat, (lgrQ3 x x3).base = (↑x19 : Int) ∧
lgrQ10 x x3 x19 x10) ∧
∀ x21 : Nat, lgrQ10 x x3 x21 x10 →
br (decide ((↑x21 : Int) < (↑x3 : Int))) ((∃ x23 : Nat, (0 : Int) = (↑x23 : Int) ∧
lgrQ11 x23 x x21 x3 x10) ∧
∀ x25 : Nat, lgrQ11 x25 x x21 x3 x10 →
br (lgrQ2 x21 x) ((lgrQ3 x x21).changes.length * 32 ≤ room47 →
br (decide ((↑x25 : Int) < (↑(lgrQ3 x x21).changes.length : Int))) (br (lgrQ2 x21 x) (br (lgrQ8 x25 x x21) (br (lgrQ2 x3 x) (br (lgrQ8 x10 x x3) (br (lgrQ9 x x21 x25 == lgrQ9 x x3 x10) (lgrQ5 x) (∃ x28 : Nat, lgrQ4 x25 = (↑x28 : Int) ∧
lgrQ11 x28 x x21 x3 x10 ∧
lgrQ12 x x21 x28 x25)) (Bad "check" "ref.go:278")) (Bad "check" "ref.go:278")) (Bad "check" "ref.go:278")) (Bad "check" "ref.go:278")) (∃ x30 : Nat, lgrQ4 x21 = (↑x30 : Int) ∧
lgrQ10 x x3 x30 x10 ∧
Nat.sub (↑x3 : Int).toNat x30 < Nat.sub (↑x3 : Int).toNat x21)) (Bad "check" "ref.go:277")) (∃ x32 : Nat, lgrQ4 x10 = (↑x32 : Int) ∧
lgrQ6 x32 x x3 ∧
lgrQ12 x x3 x32 x10)) (Bad "check" "ref.go:276"))) (∃ x34 : Nat, lgrQ4 x3 = (↑x34 : Int) ∧
lgrQ1 x34 x ∧
Nat.sub (List.length x) x34 < Nat.sub (List.length x) x3)) (Bad "check" "ref.go:270"))) (Bad "check" "ref.go:267"))) (Bad "check" "ref.go:267"))) (Bad "check" "ref.go:267")) (∃ x36 : Unit, true = legR x ∧
True)) := by kernel_rfl
end Go.Proofs.YtgepebndihfnfaaGreat.Ses

namespace Go.Proofs.YtgepebndihfnfaaGreat.Ses
open Go Go.Proofs Go.Proofs.YtgepebndihfnfaaGreat.Sx
theorem all_range {p : Nat → Bool} {n : Nat} (h : ∀ j, j < n → p j = true) : (List.range n).all p = true := List.all_eq_true.2 fun j hj => h j (List.mem_range.1 hj)
theorem all_not {p : Nat → Bool} {n i : Nat} (h : i < n) (hp : p i = false) : (List.range n).all p = false := by
  cases e : (List.range n).all p
  · rfl
  · have := List.all_eq_true.1 e i (List.mem_range.2 h)
    rw [hp] at this; cases this
theorem upto_succ {P : Nat → Prop} {n : Nat} (h : ∀ j, j < n → P j) (h1 : P n) : ∀ j, j < n + 1 → P j := fun j hj => by
  by_cases e : j = n
  · rw [e]; exact h1
  · exact h j (by omega)
theorem lgr_ok : SpecOK Tryz.prog 29 lgrT.spec := by
  refine Tri.ok (E := lgrE) (Env_ok (by decide +kernel) (by simp)) (n := 1000) lgrT fun l hp => ?_
  rw [lgr_vc]
  delta lgrQ12 lgrQ11 lgrQ10 lgrQ9 lgrQ8 lgrQ7 lgrQ6 lgrQ5 lgrQ4 lgrQ3 lgrQ2 lgrQ1
  clear hp
  revert l
  intro (l : List CommitD)
  have ec : ∀ i, l.getD i ⟨0, 0, [], []⟩ = comAt l i := fun _ => rfl
  refine ⟨⟨0, rfl, Nat.zero_le _, fun j hj => absurd hj (Nat.not_lt_zero _)⟩, fun i hi hr => br_i (fun h1 => ?_) (fun h1 => ⟨(), ?_, trivial⟩)⟩
  · have h1 : (i : Int) < (l.length : Int) := of_decide_eq_true h1
    have hr : l.length * 56 ≤ room47 := hr
    have hsm : l.length ≤ 4398046511104 := by unfold room47 at hr; omega
    obtain ⟨i1, i2⟩ := hi
    have bi : decide ((0 : Int) ≤ (i : Int) ∧ (i : Int) < (l.length : Int)) = true := decide_eq_true ⟨by omega, h1⟩
    have e0 : (i : Int).toNat = i := rfl
    have hw : IntKind.i64.wrap ((i : Int) + 1) = (i : Int) + 1 := by rw [wrap_id (by omega) (by omega)]
    rw [e0, ec, hw]
    have bad : rowOk l i = false → false = legR l := fun h => (all_not (by omega) h).symm
    have hrow : rowOk l i = ((comAt l i).rev == (i : Int) + 1 && (decide (0 ≤ (comAt l i).base) && (decide ((comAt l i).base ≤ i) && (List.range (comAt l i).changes.length).all (chOk l i)))) := rfl
    refine br_t bi (br_i (fun g1 => ⟨(), bad ?_, trivial⟩) fun g1 => br_t bi (br_i (fun g2 => ⟨(), bad ?_, trivial⟩) fun g2 => br_t bi (br_i (fun g3 => ⟨(), bad ?_, trivial⟩) fun g3 => ⟨⟨0, rfl, Nat.zero_le _, fun j hj => absurd hj (Nat.not_lt_zero _)⟩, fun a ha => br_t bi fun hc => br_i (fun h2 => ?_) (fun h2 => ⟨i + 1, rfl, ⟨by omega, upto_succ i2 ?_⟩, by show l.length - (i + 1) < l.length - i; omega⟩)⟩)))
    · have : ((comAt l i).rev == (i : Int) + 1) = false := by
        rw [← Bool.not_eq_true']; exact g1
      rw [hrow, this]; rfl
    · have g2 := of_decide_eq_true g2
      rw [hrow, decide_eq_false (by omega : ¬ 0 ≤ (comAt l i).base)]; simp
    · have g3 := of_decide_eq_true g3
      rw [hrow, decide_eq_false (by omega : ¬ (comAt l i).base ≤ (i : Int))]; simp
    · have h2 : (a : Int) < ((comAt l i).changes.length : Int) := of_decide_eq_true h2
      have hsc : (comAt l i).changes.length ≤ 4398046511104 := by unfold room47 at hc; omega
      obtain ⟨a1, a2⟩ := ha
      have ea : (a : Int).toNat = a := rfl
      rw [ea]
      have ba : decide ((0 : Int) ≤ (a : Int) ∧ (a : Int) < ((comAt l i).changes.length : Int)) = true := decide_eq_true ⟨by omega, h2⟩
      have bad2 : chOk l i a = false → false = legR l := fun h => bad (by rw [hrow, all_not (by omega : a < (comAt l i).changes.length) h]; simp)
      have hch : chOk l i a = (((List.range a).all fun b => !(pathAt l i a == pathAt l i b)) && (List.range i).all fun k => decide ((k : Int) < (comAt l i).base) || freeK l i a k) := rfl
      have g2 := of_decide_eq_false g2
      have g3 := of_decide_eq_false g3
      refine ⟨⟨0, rfl, Nat.zero_le _, fun j hj => absurd hj (Nat.not_lt_zero _)⟩, fun b hb => br_i (fun h3 => ?_) (fun h3 => br_t bi ⟨⟨(comAt l i).base.toNat, by omega, by omega, by omega, fun j hj => by rw [decide_eq_true (by omega : (j : Int) < (comAt l i).base)]; rfl⟩, fun k hk => br_i (fun h4 => ?_) (fun h4 => ⟨a + 1, by rw [wrap_id (by omega) (by omega)]; rfl, ⟨by omega, upto_succ a2 ?_⟩, by show (comAt l i).changes.length - (a + 1) < (comAt l i).changes.length - a; omega⟩)⟩)⟩
      · have h3 : (b : Int) < (a : Int) := of_decide_eq_true h3
        obtain ⟨b1, b2⟩ := hb
        have eb : (b : Int).toNat = b := rfl
        rw [eb]
        refine br_t bi (br_t ba (br_t bi (br_t (decide_eq_true ⟨by omega, by omega⟩) (br_i (fun e => ⟨(), bad2 ?_, trivial⟩) (fun e => ⟨b + 1, by rw [wrap_id (by omega) (by omega)]; rfl, ⟨by omega, upto_succ b2 e⟩, by show a - (b + 1) < a - b; omega⟩)))))
        have e : (pathAt l i a == pathAt l i b) = true := e
        rw [hch, all_not (by omega : b < a) (by rw [e]; rfl)]; rfl
      · have h4 : (k : Int) < (i : Int) := of_decide_eq_true h4
        obtain ⟨k0, k1, k2⟩ := hk
        have ek : (k : Int).toNat = k := rfl
        rw [ek, ec]
        have bk : decide ((0 : Int) ≤ (k : Int) ∧ (k : Int) < (l.length : Int)) = true := decide_eq_true ⟨by omega, by omega⟩
        have hfr : freeK l i a k = (List.range (comAt l k).changes.length).all fun b => !(pathAt l k b == pathAt l i a) := rfl
        refine ⟨⟨0, rfl, Nat.zero_le _, fun j hj => absurd hj (Nat.not_lt_zero _)⟩, fun b hb => br_t bk fun hd => br_i (fun h5 => ?_) (fun h5 => ⟨k + 1, by rw [wrap_id (by omega) (by omega)]; rfl, ⟨by omega, by omega, upto_succ k2 ?_⟩, by show i - (k + 1) < i - k; omega⟩)⟩
        · have h5 : (b : Int) < ((comAt l k).changes.length : Int) := of_decide_eq_true h5
          have hsd : (comAt l k).changes.length ≤ 4398046511104 := by unfold room47 at hd; omega
          obtain ⟨b1, b2⟩ := hb
          have eb : (b : Int).toNat = b := rfl
          rw [eb]
          refine br_t bk (br_t (decide_eq_true ⟨by omega, h5⟩) (br_t bi (br_t ba (br_i (fun e => ⟨(), bad2 ?_, trivial⟩) (fun e => ⟨b + 1, by rw [wrap_id (by omega) (by omega)]; rfl, ⟨by omega, upto_succ b2 e⟩, by show (comAt l k).changes.length - (b + 1) < (comAt l k).changes.length - b; omega⟩)))))
          have e : (pathAt l k b == pathAt l i a) = true := e
          rw [hch, all_not (p := fun k => decide ((k : Int) < (comAt l i).base) || freeK l i a k) (by omega : k < i) ?_, Bool.and_false]
          have hf : freeK l i a k = false := by rw [hfr, all_not (by omega : b < (comAt l k).changes.length) (by rw [e]; rfl)]
          rw [hf, decide_eq_false (by omega : ¬ (k : Int) < (comAt l i).base)]; rfl
        · have h5 : ¬ (b : Int) < ((comAt l k).changes.length : Int) := of_decide_eq_false h5
          have : freeK l i a k = true := by
            rw [hfr]
            exact all_range fun j hj => by rw [hb.2 j (by omega)]; rfl
          rw [this, Bool.or_true]
      · have h3 : ¬ (b : Int) < (a : Int) := of_decide_eq_false h3
        have h4 : ¬ (k : Int) < (i : Int) := of_decide_eq_false h4
        rw [hch, all_range fun j hj => by rw [hb.2 j (by omega)]; rfl, all_range fun j hj => hk.2.2 j (by have := hk.2.1; omega)]; rfl
    · have h2 : ¬ (a : Int) < ((comAt l i).changes.length : Int) := of_decide_eq_false h2
      have g2 := of_decide_eq_false g2
      have g3 := of_decide_eq_false g3
      have : ((comAt l i).rev == (i : Int) + 1) = true := by
        rw [← Bool.not_eq_false']; exact g1
      rw [hrow, this, decide_eq_true (by omega : 0 ≤ (comAt l i).base), decide_eq_true (by omega : (comAt l i).base ≤ (i : Int)), all_range fun j hj => ha.2 j (by omega)]; rfl
  · have h1 : ¬ (i : Int) < (l.length : Int) := of_decide_eq_false h1
    exact (all_range fun j hj => hi.2 j (by omega)).symm
end Go.Proofs.YtgepebndihfnfaaGreat.Ses

namespace Go.Proofs.YtgepebndihfnfaaGreat.Ses
open Go Go.Proofs Go.Proofs.YtgepebndihfnfaaGreat.Sx
theorem look_put (K : List (Bs × Int)) (q p : Bs) (v : Int) : (lookK (putK K q v) p).getD 0 = bif q == p then v else (lookK K p).getD 0 := by
  rw [lookK_put]
  cases q == p <;> rfl
def hasQ (c : CommitD) (p : Bs) : Bool := c.changes.any fun x => x.path == p
theorem chg_look (v : Int) (p : Bs) : ∀ (l : List ChangeD) (K : List (Bs × Int)), (lookK (l.foldl (chgP v) K) p).getD 0 = bif l.any (fun x => x.path == p) then v else (lookK K p).getD 0
  | [], K => rfl
  | x :: l, K => by
    show (lookK (l.foldl (chgP v) (chgP v K x)) p).getD 0 = _
    rw [chg_look v p l]
    show (bif _ then v else (lookK (putK K x.path v) p).getD 0) = bif (x.path == p || l.any fun x => x.path == p) then v else _
    rw [look_put]
    cases x.path == p <;> cases (l.any fun x => x.path == p) <;> rfl
theorem chgC_look (K : List (Bs × Int)) (c : CommitD) (p : Bs) : (lookK (chgC K c) p).getD 0 = bif hasQ c p then c.rev else (lookK K p).getD 0 := chg_look _ _ _ _
theorem chgL_look {l : List CommitD} {b : Int} (hb : 0 ≤ b) (p : Bs) : ∀ i, i ≤ l.length → (∀ j, j < i → (comAt l j).rev = (j : Int) + 1) → ((lookK (chgL (l.take i)) p).getD 0 > b ↔ ∃ k : Nat, k < i ∧ b ≤ (k : Int) ∧ hasQ (comAt l k) p = true)
  | 0, _, _ => by
    constructor
    · intro h
      have h : (0 : Int) > b := h
      omega
    · rintro ⟨k, h, _⟩; omega
  | i + 1, hi, hr => by
    have ih := chgL_look hb p i (by omega) fun j hj => hr j (by omega)
    have e : chgL (l.take (i + 1)) = chgC (chgL (l.take i)) (comAt l i) := chgL_at _ (by omega)
    rw [e, chgC_look]
    have hri := hr i (by omega)
    cases h : hasQ (comAt l i) p
    · rw [show (bif false then (comAt l i).rev else (lookK (chgL (l.take i)) p).getD 0) = (lookK (chgL (l.take i)) p).getD 0 from rfl, ih]
      constructor
      · rintro ⟨k, h1, h2, h3⟩; exact ⟨k, by omega, h2, h3⟩
      · rintro ⟨k, h1, h2, h3⟩
        by_cases c : k = i
        · rw [c, h] at h3; cases h3
        · exact ⟨k, by omega, h2, h3⟩
    · rw [show (bif true then (comAt l i).rev else (lookK (chgL (l.take i)) p).getD 0) = (comAt l i).rev from rfl, hri]
      constructor
      · intro h1; exact ⟨i, by omega, by omega, h⟩
      · rintro ⟨k, h1, h2, _⟩; omega
theorem met_look (p : Bs) {l : List ChangeD} (hl : l.length ≤ 4398046511104) : ∀ a, a ≤ l.length → (lookK (metL (l.take a)) p).getD 0 = ((l.take a).countP (fun x => x.path == p) : Int)
  | 0, _ => rfl
  | a + 1, ha => by
    have ih := met_look p hl a (by omega)
    have ih2 := met_look (l.getD a ⟨[], false, 0⟩).path hl a (by omega)
    have hc : (l.take a).countP (fun x => x.path == (l.getD a ⟨[], false, 0⟩).path) ≤ a := Nat.le_trans List.countP_le_length (by rw [List.length_take]; omega)
    have hs : ∀ y : ChangeD, [y].countP (fun x => x.path == p) = bif y.path == p then 1 else 0 := fun y => by
      rw [List.countP_cons, List.countP_nil]
      cases y.path == p <;> rfl
    rw [metL_at ⟨[], false, 0⟩ (by omega : a < l.length), take_succ_getD ⟨[], false, 0⟩ (by omega : a < l.length), List.countP_append, hs]
    show (lookK (putK _ _ _) p).getD 0 = _
    rw [look_put, ih, ih2, wrap_id (by omega) (by omega)]
    cases h : (l.getD a ⟨[], false, 0⟩).path == p
    · rfl
    · have : (l.getD a ⟨[], false, 0⟩).path = p := eq_of_beq h
      rw [this]; rfl
theorem any_get {l : List ChangeD} {p : Bs} : (l.any fun x => x.path == p) = (List.range l.length).any fun b => (l.getD b ⟨[], false, 0⟩).path == p := by
  cases h : (List.range l.length).any fun b => (l.getD b ⟨[], false, 0⟩).path == p
  · refine List.any_eq_false.2 fun x hx hc => ?_
    obtain ⟨i, hi, rfl⟩ := List.mem_iff_getElem.1 hx
    have := List.any_eq_false.1 h i (List.mem_range.2 hi)
    refine this ?_
    rw [List.getD_eq_getElem?_getD, List.getElem?_eq_getElem hi]
    exact hc
  · obtain ⟨b, hb, hc⟩ := List.any_eq_true.1 h
    have hb := List.mem_range.1 hb
    exact List.any_eq_true.2 ⟨_, getD_mem hb, hc⟩
theorem free_has (l : List CommitD) (i a k : Nat) : freeK l i a k = !(hasQ (comAt l k) (pathAt l i a)) := by
  unfold hasQ
  rw [any_get, List.not_any_eq_all_not]
  rfl
theorem legC_eq {l : List CommitD} {i : Nat} (hi : i < l.length) (hr : ∀ j, j < i → (comAt l j).rev = (j : Int) + 1) (hb : 0 ≤ (comAt l i).base) (hsz : (comAt l i).changes.length ≤ 4398046511104) :
    ∀ n a, a + n = (comAt l i).changes.length → legC (chgL (l.take i)) (comAt l i).base (metL ((comAt l i).changes.take a)) ((comAt l i).changes.drop a) = (List.range n).all fun d => chOk l i (a + d)
  | 0, a, ha => by rw [List.drop_of_length_le (by omega)]; rfl
  | n + 1, a, ha => by
    have hlt : a < (comAt l i).changes.length := by omega
    have ih := legC_eq hi hr hb hsz n (a + 1) (by omega)
    rw [drop_getD ⟨[], false, 0⟩ hlt]
    have hp : ((comAt l i).changes.getD a ⟨[], false, 0⟩).path = pathAt l i a := rfl
    have hm := met_look (pathAt l i a) hsz a (by omega)
    have hk := chgL_look hb (pathAt l i a) i (by omega) hr
    have e1 : (lookK (metL ((comAt l i).changes.take a)) (pathAt l i a)).getD 0 > 0 ↔ ∃ b, b < a ∧ (pathAt l i a == pathAt l i b) = true := by
      rw [hm]
      constructor
      · intro h
        have h : 0 < ((comAt l i).changes.take a).countP (fun x => x.path == pathAt l i a) := by omega
        obtain ⟨x, hx, hc⟩ := List.countP_pos_iff.1 h
        obtain ⟨b, hb, rfl⟩ := List.mem_iff_getElem.1 hx
        rw [List.length_take] at hb
        refine ⟨b, by omega, ?_⟩
        rw [List.getElem_take] at hc
        have : pathAt l i b = ((comAt l i).changes[b]'(by omega)).path := by
          unfold pathAt
          rw [List.getD_eq_getElem?_getD, List.getElem?_eq_getElem (by omega)]; rfl
        rw [this, ← eq_of_beq hc]; exact beq_self_eq_true _
      · rintro ⟨b, hb, hc⟩
        have : 0 < ((comAt l i).changes.take a).countP (fun x => x.path == pathAt l i a) := List.countP_pos_iff.2 ⟨(comAt l i).changes.getD b ⟨[], false, 0⟩, by
          rw [List.mem_iff_getElem]
          refine ⟨b, by rw [List.length_take]; omega, ?_⟩
          rw [List.getElem_take, List.getD_eq_getElem?_getD, List.getElem?_eq_getElem (by omega)]; rfl, by
          show (pathAt l i b == pathAt l i a) = true
          rw [← eq_of_beq hc]; exact beq_self_eq_true _⟩
        omega
    have e2 : chOk l i a = !(decide ((lookK (metL ((comAt l i).changes.take a)) (pathAt l i a)).getD 0 > 0) || decide ((lookK (chgL (l.take i)) (pathAt l i a)).getD 0 > (comAt l i).base)) := by
      rw [(@decide_eq_decide _ _ _ (Classical.propDecidable _)).2 e1, (@decide_eq_decide _ _ _ (Classical.propDecidable _)).2 hk]
      unfold chOk
      rw [Bool.not_or]
      congr 1
      · rw [Bool.eq_iff_iff, List.all_eq_true, Bool.not_eq_true', decide_eq_false_iff_not]
        constructor
        · rintro h ⟨b, hb, hc⟩
          have := h b (List.mem_range.2 hb)
          rw [hc] at this; cases this
        · intro h b hb
          cases hc : pathAt l i a == pathAt l i b
          · rfl
          · exact absurd ⟨b, List.mem_range.1 hb, hc⟩ h
      · rw [Bool.eq_iff_iff, List.all_eq_true, Bool.not_eq_true', decide_eq_false_iff_not]
        constructor
        · rintro h ⟨k, hk1, hk2, hk3⟩
          have := h k (List.mem_range.2 hk1)
          rw [decide_eq_false (by omega : ¬ (k : Int) < (comAt l i).base), free_has, hk3] at this; cases this
        · intro h k hk1
          by_cases c : (k : Int) < (comAt l i).base
          · rw [decide_eq_true c]; rfl
          · rw [free_has]
            cases hc : hasQ (comAt l k) (pathAt l i a)
            · simp
            · exact absurd ⟨k, List.mem_range.1 hk1, by omega, hc⟩ h
    conv => lhs; unfold legC
    rw [hp]
    have e3 : (List.range (n + 1)).all (fun d => chOk l i (a + d)) = (chOk l i a && (List.range n).all fun d => chOk l i (a + 1 + d)) := by
      rw [List.range_succ_eq_map, List.all_cons, List.all_map]
      have : (fun d => chOk l i (a + d)) ∘ Nat.succ = fun d => chOk l i (a + 1 + d) := by
        funext d
        show chOk l i (a + (d + 1)) = _
        rw [Nat.add_right_comm, Nat.add_assoc]
      rw [this]; rfl
    rw [e3, e2]
    cases hq : (decide ((lookK (metL ((comAt l i).changes.take a)) (pathAt l i a)).getD 0 > 0) || decide ((lookK (chgL (l.take i)) (pathAt l i a)).getD 0 > (comAt l i).base))
    · rw [← ih]
      have : metP (metL ((comAt l i).changes.take a)) ((comAt l i).changes.getD a ⟨[], false, 0⟩) = metL ((comAt l i).changes.take (a + 1)) := (metL_at _ hlt).symm
      rw [this]; rfl
    · rfl
theorem legL_eq {l : List CommitD} (hsz : ∀ i, i < l.length → (comAt l i).changes.length ≤ 4398046511104) : ∀ n i, i + n = l.length → (∀ j, j < i → rowOk l j = true) → legL (chgL (l.take i)) i (l.drop i) = (List.range n).all fun d => rowOk l (i + d)
  | 0, i, hi, _ => by rw [List.drop_of_length_le (by omega)]; rfl
  | n + 1, i, hi, hj => by
    have hlt : i < l.length := by omega
    have hrev : ∀ j, j < i → (comAt l j).rev = (j : Int) + 1 := fun j h => by
      have := hj j h
      unfold rowOk at this
      rw [Bool.and_eq_true] at this
      exact eq_of_beq this.1
    have e3 : (List.range (n + 1)).all (fun d => rowOk l (i + d)) = (rowOk l i && (List.range n).all fun d => rowOk l (i + 1 + d)) := by
      rw [List.range_succ_eq_map, List.all_cons, List.all_map]
      have : (fun d => rowOk l (i + d)) ∘ Nat.succ = fun d => rowOk l (i + 1 + d) := by
        funext d
        show rowOk l (i + (d + 1)) = _
        rw [Nat.add_right_comm, Nat.add_assoc]
      rw [this]; rfl
    rw [e3, drop_getD ⟨0, 0, [], []⟩ hlt]
    have ec : l.getD i ⟨0, 0, [], []⟩ = comAt l i := rfl
    rw [ec]
    conv => lhs; unfold legL
    have hrow : rowOk l i = ((comAt l i).rev == (i : Int) + 1 && (decide (0 ≤ (comAt l i).base) && (decide ((comAt l i).base ≤ i) && (List.range (comAt l i).changes.length).all (chOk l i)))) := rfl
    have heq : ((comAt l i).rev != (i : Int) + 1 || (decide ((comAt l i).base < 0) || (decide ((comAt l i).base > (i : Int)) || !(legC (chgL (l.take i)) (comAt l i).base [] (comAt l i).changes)))) = !(rowOk l i) := by
      rw [hrow]
      by_cases c1 : (comAt l i).base < 0
      · rw [decide_eq_true c1, decide_eq_false (by omega : ¬ 0 ≤ (comAt l i).base)]; simp
      · by_cases c2 : (comAt l i).base > (i : Int)
        · rw [decide_eq_true c2, decide_eq_false (by omega : ¬ (comAt l i).base ≤ (i : Int))]; simp
        · have := legC_eq hlt hrev (by omega) (hsz i hlt) (comAt l i).changes.length 0 (by omega)
          rw [List.take_zero, List.drop_zero] at this
          have this : legC (chgL (l.take i)) (comAt l i).base [] (comAt l i).changes = (List.range (comAt l i).changes.length).all (chOk l i) := by
            rw [show ([] : List (Bs × Int)) = metL [] from rfl, this]
            congr 1
            funext d
            rw [Nat.zero_add]
          rw [this, decide_eq_false c1, decide_eq_false c2, decide_eq_true (by omega : 0 ≤ (comAt l i).base), decide_eq_true (by omega : (comAt l i).base ≤ (i : Int))]
          show ((comAt l i).rev != (i : Int) + 1 || (false || (false || !_))) = !((comAt l i).rev == (i : Int) + 1 && (true && (true && _)))
          rw [Bool.not_and]; rfl
    rw [heq]
    cases hq : rowOk l i
    · rfl
    · have ih := legL_eq hsz n (i + 1) (by omega) fun j hj' => by
        by_cases e : j = i
        · rw [e]; exact hq
        · exact hj j (by omega)
      have e : chgC (chgL (l.take i)) (comAt l i) = chgL (l.take (i + 1)) := (chgL_at _ hlt).symm
      rw [← ih, e]; rfl
theorem leg_same {l : List CommitD} (hsz : ∀ i, i < l.length → (comAt l i).changes.length ≤ 4398046511104) : legL [] 0 l = legR l := by
  have := legL_eq hsz l.length 0 (by omega) fun j h => absurd h (Nat.not_lt_zero _)
  rw [List.take_zero, List.drop_zero] at this
  have e : (fun d => rowOk l (0 + d)) = rowOk l := by funext d; rw [Nat.zero_add]
  rw [e] at this
  exact this
end Go.Proofs.YtgepebndihfnfaaGreat.Ses

namespace Go.Proofs.YtgepebndihfnfaaGreat.Ses
open Go Go.Proofs Go.Proofs.YtgepebndihfnfaaGreat.Sx
theorem cond_oR {α : Type} {P : α → Prop} {b : Bool} {p q : α} (h1 : P p) (h2 : P q) : P (bif b then p else q) := by cases b <;> assumption
theorem at_mem {l : List SessionD} {p : SessionD → Bool} (h : ¬ idxF p l < 0) : atL l (idxF p l) ∈ l := by
  have b := idxF_lt p l
  unfold atL
  exact getD_mem (by omega)
theorem used_mem {l : List SessionD} {p : SessionD → Bool} (h : ¬ idxF p l < 0) {e : SessionD} (he : e ∈ usedL l (idxF p l)) : e ∈ l :=
  (used_perm ⟨by omega, (idxF_lt p l).2⟩).mem_iff.1 he
theorem open_mem {x : OpenA} {e : SessionD} (he : e ∈ (openL x).2) : e ∈ x.l ∨ e.id = x.id := by
  unfold openL at he
  dsimp only at he
  by_cases h : idxF (nameIs x.name) x.l < 0
  · rw [decide_eq_true h] at he
    dsimp only [cond_true] at he
    rcases List.mem_append.1 he with he | he
    · refine .inl ?_
      have h1 : ∀ {l1 : List SessionD}, e ∈ (bif decide ((l1.length : Int) = x.size) then outL l1 0 else l1) → e ∈ l1 := fun {l1} h => by
        cases hc : decide ((l1.length : Int) = x.size)
        · rw [hc] at h; exact h
        · rw [hc] at h; exact (out_sub _ _).mem h
      have he := h1 he
      cases hc : decide (idxF (idIs x.id) x.l < 0)
      · rw [hc] at he; exact (out_sub _ _).mem he
      · rw [hc] at he; exact he
    · refine .inr ?_
      rw [List.mem_singleton] at he
      rw [he]
  · rw [decide_eq_false h] at he
    exact .inl (used_mem h he)
theorem ask_mem {x : AskA} {e : SessionD} (he : e ∈ (askL x).2) : e ∈ x.l := by
  unfold askL at he
  dsimp only at he
  by_cases h : idxF (idIs x.id) x.l < 0
  · rw [decide_eq_true h] at he; exact he
  · rw [decide_eq_false h] at he; exact used_mem h he
theorem done_mem {x : DoneA} {e : SessionD} (he : e ∈ (doneL x).2) : e ∈ x.l ∨ ∃ s ∈ x.l, s.id = e.id ∧ s.seq < e.seq := by
  unfold doneL at he
  dsimp only at he
  cases h : (decide (idxF (idIs x.id) x.l < 0) || decide (x.seq ≤ (atL x.l (idxF (idIs x.id) x.l)).seq))
  · rw [h] at he
    rw [Bool.or_eq_false_iff] at h
    have h1 := of_decide_eq_false h.1
    have h2 := of_decide_eq_false h.2
    rcases List.mem_or_eq_of_mem_set he with he | he
    · exact .inl he
    · refine .inr ⟨_, at_mem h1, ?_⟩
      rw [he]
      exact ⟨rfl, by show (atL x.l (idxF (idIs x.id) x.l)).seq < x.seq; omega⟩
  · rw [h] at he; exact .inl he
theorem do_mem {x : MacS} {r : RequestD} {e : SessionD} (he : e ∈ (doM x r).2.S) : e ∈ x.S ∨ e.id = x.applied + 1 ∨ ∃ s ∈ x.S, s.id = e.id ∧ s.seq < e.seq := by
  revert he
  refine cond_oR (P := fun c : VerdictD × MacS => e ∈ c.2.S → _) (fun h => .inl h) (cond_oR (P := fun c : VerdictD × MacS => e ∈ c.2.S → _) (cond_oR (P := fun c : VerdictD × MacS => e ∈ c.2.S → _) (fun h => (open_mem h).imp id .inl) (fun h => .inl h)) (cond_oR (P := fun c : VerdictD × MacS => e ∈ c.2.S → _) (fun h => .inl (ask_mem h)) fun h => ?_))
  rcases done_mem (x := ⟨x.size, (askM x r).2, r.session, r.seq, (howM (withS x (askM x r).2) r).1⟩) h with h | ⟨s, hs, h1, h2⟩
  · exact .inl (ask_mem h)
  · exact .inr (.inr ⟨s, ask_mem hs, h1, h2⟩)
def idsLe (x : MacS) : Prop := 0 ≤ x.applied ∧ ∀ e ∈ x.S, e.id ≤ x.applied
theorem apply_S {x : MacS} {r : RequestD} {e : SessionD} (he : e ∈ (applyM x r).2.S) : e ∈ x.S ∨ (e.id = x.applied + 1 ∧ (applyM x r).2.applied = x.applied + 1) ∨ ∃ s ∈ x.S, s.id = e.id ∧ s.seq < e.seq := by
  unfold applyM at he ⊢
  cases h : decide (x.applied ≥ 1099511627776)
  · rw [h] at he
    rcases do_mem he with h1 | h1 | h1
    · exact .inl h1
    · exact .inr (.inl ⟨h1, rfl⟩)
    · exact .inr (.inr h1)
  · rw [h] at he; exact .inl he
theorem apply_le (x : MacS) (r : RequestD) : x.applied ≤ (applyM x r).2.applied := by
  unfold applyM
  cases decide (x.applied ≥ 1099511627776)
  · show x.applied ≤ x.applied + 1; omega
  · exact Int.le_refl _
theorem idsLe.step {x : MacS} (h : idsLe x) (r : RequestD) : idsLe (applyM x r).2 := by
  have h1 := apply_le x r
  refine ⟨by have := h.1; omega, fun e he => ?_⟩
  rcases apply_S he with h2 | ⟨h2, h3⟩ | ⟨s, hs, h2, _⟩
  · have := h.2 e h2; omega
  · omega
  · have := h.2 s hs; omega
def keeps (x : MacS) (n s r : Int) : Prop := n ≤ x.applied ∧ ∀ e ∈ x.S, e.id = n → s < 1 ∨ s < e.seq ∨ (s = e.seq ∧ (e.last.code = 2 → e.last.rev = r))
theorem keeps.step {x : MacS} {n s r : Int} (h : keeps x n s r) (q : RequestD) : keeps (applyM x q).2 n s r := by
  have h1 := apply_le x q
  refine ⟨by have := h.1; omega, fun e he hn => ?_⟩
  rcases apply_S he with h2 | ⟨h2, _⟩ | ⟨t, ht, h2, h3⟩
  · exact h.2 e h2 hn
  · have := h.1; omega
  · rcases h.2 t ht (by omega) with c | c | ⟨c, _⟩
    · exact .inl c
    · exact .inr (.inl (by omega))
    · exact .inr (.inl (by omega))
theorem keeps.run {n s r : Int} : ∀ (l : List RequestD) {x : MacS}, keeps x n s r → keeps (runF x l) n s r
  | [], _, h => h
  | q :: l, _, h => keeps.run l (h.step q)
theorem idsLe.run : ∀ (l : List RequestD) {x : MacS}, idsLe x → idsLe (runF x l)
  | [], _, h => h
  | q :: l, _, h => idsLe.run l (h.step q)
theorem ids_oneS : ∀ {S : List SessionD}, (ids S).Nodup → ∀ {e f : SessionD}, e ∈ S → f ∈ S → e.id = f.id → e = f
  | [], _, _, _, h, _, _ => absurd h List.not_mem_nil
  | x :: S, hn, e, f, he, hf, h => by
    have hn : (x.id :: ids S).Nodup := hn
    rw [List.nodup_cons] at hn
    rcases List.mem_cons.1 he with he | he <;> rcases List.mem_cons.1 hf with hf | hf
    · rw [he, hf]
    · exact absurd (List.mem_map.2 ⟨f, hf, by rw [← h, he]⟩) hn.1
    · exact absurd (List.mem_map.2 ⟨e, he, by rw [h, hf]⟩) hn.1
    · exact ids_oneS hn.2 he hf h
theorem ask_is (z : Int) (S : List SessionD) (n s : Int) : (askL ⟨z, S, n, s⟩).1 = (bif decide (idxF (idIs n) S < 0) then (vd 6, true) else (bif decide (s < 1) then (vd 5, true) else bif decide (s < (atL S (idxF (idIs n) S)).seq) then (vd 7, true) else bif decide (s = (atL S (idxF (idIs n) S)).seq) then ((atL S (idxF (idIs n) S)).last, true) else (vd 0, false))) := by
  unfold askL
  dsimp only
  cases decide (idxF (idIs n) S < 0) <;> rfl
theorem keeps_new {x : MacS} (hn : (ids x.S).Nodup) (hle : idsLe x) {q : RequestD} (k0 : (q.kind == 0) = false) (k1 : (q.kind == 1) = false) (hc : (applyM x q).1.code = 2) : keeps (applyM x q).2 q.session q.seq (applyM x q).1.rev := by
  have hL := hle.step q
  revert hc hL
  unfold applyM
  cases h : decide (x.applied ≥ 1099511627776)
  · intro hc hL
    dsimp only [cond_false] at hc hL ⊢
    have ha := ask_again hn k0 k1 (z := 0)
    rw [ask_is] at ha
    have hN := ids_do hn q
    generalize (doM x q).1 = v at ha hc ⊢
    generalize (doM x q).2.S = S at ha hN hL ⊢
    by_cases hi : idxF (idIs q.session) S < 0
    · rw [decide_eq_true hi] at ha
      have : v = vd 6 := (Prod.mk.inj ha).1.symm
      rw [this] at hc
      have hc : (6 : Int) = 2 := hc
      omega
    · rw [decide_eq_false hi] at ha
      have hm := at_mem hi
      have hid := ids_at hi
      refine ⟨by have := hL.2 _ hm; rw [hid] at this; exact this, fun e he hen => ?_⟩
      have : e = atL S (idxF (idIs q.session) S) := ids_oneS hN he hm (by rw [hen, hid])
      rw [this]
      generalize atL S (idxF (idIs q.session) S) = f at ha ⊢
      by_cases c1 : q.seq < 1
      · exact .inl c1
      · by_cases c2 : q.seq < f.seq
        · exact .inr (.inl c2)
        · by_cases c3 : q.seq = f.seq
          · refine .inr (.inr ⟨c3, fun _ => ?_⟩)
            rw [decide_eq_false c1, decide_eq_false c2, decide_eq_true c3] at ha
            have ha : (f.last, true) = (v, true) := ha
            rw [(Prod.mk.inj ha).1]
          · rw [decide_eq_false c1, decide_eq_false c2, decide_eq_false c3] at ha
            have ha : (vd 0, false) = (v, true) := ha
            exact absurd (Prod.mk.inj ha).2 (by decide)
  · intro hc _
    have hc : (5 : Int) = 2 := hc
    omega
theorem keeps_use {x : MacS} {q : RequestD} {r : Int} (h : keeps x q.session q.seq r) (k0 : (q.kind == 0) = false) (k1 : (q.kind == 1) = false) (hc : (applyM x q).1.code = 2) : (applyM x q).1.rev = r := by
  revert hc
  unfold applyM
  cases hd : decide (x.applied ≥ 1099511627776)
  · intro hc
    dsimp only [cond_false] at hc ⊢
    have ha := ask_is x.size x.S q.session q.seq
    have hdo : doM x q = bif (askM x q).1.2 then ((askM x q).1.1, withS x (askM x q).2) else doneM x q (howM (withS x (askM x q).2) q) := by
      unfold doM
      rw [k0, k1]; rfl
    have ha : (askM x q).1 = _ := ha
    by_cases hi : idxF (idIs q.session) x.S < 0
    · rw [decide_eq_true hi] at ha
      have ha : (askM x q).1 = (vd 6, true) := ha
      rw [hdo, ha] at hc
      have hc : (6 : Int) = 2 := hc
      omega
    · rw [decide_eq_false hi] at ha
      have hk := h.2 _ (at_mem hi) (ids_at hi)
      generalize atL x.S (idxF (idIs q.session) x.S) = f at ha hk
      by_cases c1 : q.seq < 1
      · rw [decide_eq_true c1] at ha
        have ha : (askM x q).1 = (vd 5, true) := ha
        rw [hdo, ha] at hc
        have hc : (5 : Int) = 2 := hc
        omega
      · by_cases c2 : q.seq < f.seq
        · rw [decide_eq_false c1, decide_eq_true c2] at ha
          have ha : (askM x q).1 = (vd 7, true) := ha
          rw [hdo, ha] at hc
          have hc : (7 : Int) = 2 := hc
          omega
        · obtain ⟨c3, hr⟩ : q.seq = f.seq ∧ (f.last.code = 2 → f.last.rev = r) := by
            rcases hk with c | c | c
            · omega
            · omega
            · exact c
          rw [decide_eq_false c1, decide_eq_false c2, decide_eq_true c3] at ha
          have ha : (askM x q).1 = (f.last, true) := ha
          rw [hdo, ha] at hc ⊢
          exact hr hc
  · intro hc
    have hc : (5 : Int) = 2 := hc
    omega
end Go.Proofs.YtgepebndihfnfaaGreat.Ses
