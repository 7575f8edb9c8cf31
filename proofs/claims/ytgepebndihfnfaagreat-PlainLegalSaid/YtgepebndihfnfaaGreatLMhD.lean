/- May commits stand one behind the other: what the evaluator leaves, and that it holds. No condition. -/
import Derived.Test.YtgepebndihfnfaaGreatLMhB
import Derived.KernelRfl
set_option linter.unusedSimpArgs false
set_option linter.unusedVariables false

namespace Go.Proofs.YtgepebndihfnfaaGreat.Ses
open Go Go.Proofs Go.Proofs.YtgepebndihfnfaaGreat.Sx
def metP (M : List (Bs × Int)) (x : ChangeD) : List (Bs × Int) := putK M x.path (IntKind.i64.wrap ((lookK M x.path).getD 0 + 1))
def metL (l : List ChangeD) : List (Bs × Int) := l.foldl metP []
def legC (K : List (Bs × Int)) (b : Int) : List (Bs × Int) → List ChangeD → Bool
  | _, [] => true
  | M, x :: t => bif decide ((lookK M x.path).getD 0 > 0) || decide ((lookK K x.path).getD 0 > b) then false else legC K b (metP M x) t
def chgP (v : Int) (K : List (Bs × Int)) (x : ChangeD) : List (Bs × Int) := putK K x.path v
def chgC (K : List (Bs × Int)) (c : CommitD) : List (Bs × Int) := c.changes.foldl (chgP c.rev) K
def chgL (l : List CommitD) : List (Bs × Int) := l.foldl chgC []
def legL (K : List (Bs × Int)) (i : Int) : List CommitD → Bool
  | [] => true
  | c :: t => bif c.rev != i + 1 || (decide (c.base < 0) || (decide (c.base > i) || !legC K c.base [] c.changes)) then false else legL (chgC K c) (i + 1) t
structure LgA where
  K : List (Bs × Int)
  c : CommitD
noncomputable def lgcI : St → LInv := fun s => match getE s.env 0, getE s.env 5, getE s.env 3 with
  | .mmap k, .mmap m, .mptr q _ => match s.m.blks.get k, s.m.blks.get q with
    | some (.kv K), some (.cells cs) => match dec .commit cs with
      | some (c : CommitD) => { σ := Nat, I := fun i => i ≤ c.changes.length ∧ legC K c.base (metL (c.changes.take i)) (c.changes.drop i) = legC K c.base [] c.changes, μ := fun i => c.changes.length - i, env := fun i => [(12, .int .i64 i)], blk := fun i => [(m, .kv (metL (c.changes.take i)))], fresh := 0, drop := [] }
      | none => LInv.none
    | _, _ => LInv.none
  | _, _, _ => LInv.none
noncomputable def lgcT : Tri := { γ := LgA, n0 := 1, args := fun x => [.mmap 0, .agg (enc .commit x.c)], blks := fun x => [(0, .kv x.K)], pre := fun _ => True, δ := Unit, post := fun _ _ => True, n1 := 0, res := fun x _ => .bool (legC x.K x.c.base [] x.c.changes), blks' := fun x _ => [(0, .kv x.K)], scal := false }
noncomputable def lgcE : Envr := Env Tryz.prog cod [] [(3, lgcI)]
noncomputable def lgs3 : St → LInv := fun s => match getE s.env 9, getE s.env 3 with
  | .rslice _ .commit l, .mmap m => { σ := Nat, I := fun i => i ≤ l.length ∧ legL (chgL (l.take i)) i (l.drop i) = legL [] 0 l, μ := fun i => l.length - i, env := fun i => [(11, .int .i64 i)], blk := fun i => [(m, .kv (chgL (l.take i)))], fresh := 0, drop := [] }
  | _, _ => LInv.none
noncomputable def lgs8 : St → LInv := fun s => match getE s.env 3, getE s.env 5 with
  | .mmap m, .mptr q _ => match s.m.blks.get m, s.m.blks.get q with
    | some (.kv K), some (.cells cs) => match dec .commit cs with
      | some (c : CommitD) => { σ := Nat, I := fun i => i ≤ c.changes.length, μ := fun i => c.changes.length - i, env := fun i => [(41, .int .i64 i)], blk := fun i => [(m, .kv ((c.changes.take i).foldl (chgP c.rev) K))], fresh := 0, drop := [] }
      | none => LInv.none
    | _, _ => LInv.none
  | _, _ => LInv.none
noncomputable def lgsT : Tri := { γ := List CommitD, n0 := 0, args := fun l => [.rslice false .commit l], blks := fun _ => [], pre := fun _ => True, δ := Unit, post := fun _ _ => True, n1 := 0, res := fun l _ => .bool (legL [] 0 l), blks' := fun _ _ => [], scal := true }
noncomputable def lgsE : Envr := Env Tryz.prog cod [(86, lgcT.spec)] [(3, lgs3), (8, lgs8)]
def pknArgs (_ : Unit) : List SV := []
noncomputable def pknE : Envr := Env Tryz.prog cod [(19, pawT.spec), (21, prun2T.spec), (26, firT.spec), (28, lgsT.spec)] []
end Go.Proofs.YtgepebndihfnfaaGreat.Ses

namespace Go.Proofs.YtgepebndihfnfaaGreat.Ses
open Go Go.Proofs Go.Proofs.YtgepebndihfnfaaGreat.Sx
set_option maxRecDepth 100000
abbrev lgcQ1 (x1 : Nat) (x : lgcT.γ) := metL (List.take x1 (LgA.c x).changes)
abbrev lgcQ2 (x : lgcT.γ) := legC (LgA.K x) (LgA.c x).base ([] : List (Prod Bs Int)) (LgA.c x).changes
abbrev lgcQ3 (x1 : Nat) (x : lgcT.γ) := x1 ≤ (LgA.c x).changes.length ∧
legC (LgA.K x) (LgA.c x).base (lgcQ1 x1 x) (List.drop x1 (LgA.c x).changes) = lgcQ2 x
abbrev lgcQ4 (x : lgcT.γ) (x2 : Nat) := (List.getD (LgA.c x).changes (↑x2 : Int).toNat (ChangeD.mk ([] : List UInt8) false (0 : Int))).path
abbrev lgcQ5 (x : lgcT.γ) := ∃ x3 : Unit, false = lgcQ2 x ∧
LgA.K x = LgA.K x ∧
True
theorem lgc_vc (x : lgcT.γ) : evCall lgcE (ev lgcE 1000) 86 (lgcT.args x) ⟨lgcT.blks x, lgcT.n0, []⟩ (fun _ _ => False) (lgcT.ends x) = (
(LgA.c x).changes.length * 32 ≤ room47 →
(∃ x1 : Nat, (0 : Int) = (↑x1 : Int) ∧
([] : List (Prod Bs Int)) = lgcQ1 x1 x ∧
lgcQ3 x1 x) ∧
∀ x2 : Nat, lgcQ3 x2 x →
br (decide ((↑x2 : Int) < (↑(LgA.c x).changes.length : Int))) (br (decide ((0 : Int) ≤ (↑x2 : Int) ∧
(↑x2 : Int) < (↑(LgA.c x).changes.length : Int))) (br (decide (Option.getD (lookK (lgcQ1 x2 x) (lgcQ4 x x2)) (0 : Int) > (0 : Int))) (lgcQ5 x) (br (decide (Option.getD (lookK (LgA.K x) (lgcQ4 x x2)) (0 : Int) > (LgA.c x).base)) (lgcQ5 x) (∃ x5 : Nat, IntKind.wrap IntKind.i64 ((↑x2 : Int) + (1 : Int)) = (↑x5 : Int) ∧
putK (lgcQ1 x2 x) (lgcQ4 x x2) (IntKind.wrap IntKind.i64 (Option.getD (lookK (lgcQ1 x2 x) (lgcQ4 x x2)) (0 : Int) + (1 : Int))) = lgcQ1 x5 x ∧
lgcQ3 x5 x ∧
Nat.sub (LgA.c x).changes.length x5 < Nat.sub (LgA.c x).changes.length x2))) (Bad "check" "plain.go:53")) (∃ x6 : Unit, true = lgcQ2 x ∧
LgA.K x = LgA.K x ∧
True)) := by kernel_rfl
abbrev lgsQ1 (x : lgsT.γ) := legL ([] : List (Prod Bs Int)) (0 : Int) x
abbrev lgsQ2 (x1 : Nat) (x : lgsT.γ) := x1 ≤ List.length x ∧
legL (chgL (List.take x1 x)) (↑x1 : Int) (List.drop x1 x) = lgsQ1 x
abbrev lgsQ3 (x : lgsT.γ) (x2 : Nat) := List.getD x (↑x2 : Int).toNat (CommitD.mk (0 : Int) (0 : Int) ([] : List UInt8) ([] : List ChangeD))
abbrev lgsQ4 (x2 : Nat) := IntKind.wrap IntKind.i64 ((↑x2 : Int) + (1 : Int))
abbrev lgsQ5 (x : lgsT.γ) := ∃ x3 : Unit, false = lgsQ1 x ∧
True
abbrev lgsQ6 (x : lgsT.γ) (x2 : Nat) (x6 : LgA) (x9 : Nat) := @List.foldl (List (Prod Bs Int)) ChangeD (chgP (lgsQ3 x x2).rev) x6.K (List.take x9 (lgsQ3 x x2).changes)
theorem lgs_vc (x : lgsT.γ) : evCall lgsE (ev lgsE 1000) 28 (lgsT.args x) ⟨lgsT.blks x, lgsT.n0, []⟩ (fun _ _ => False) (lgsT.ends x) = (
List.length x * 56 ≤ room47 →
(∃ x1 : Nat, (0 : Int) = (↑x1 : Int) ∧
([] : List (Prod Bs Int)) = chgL (List.take x1 x) ∧
lgsQ2 x1 x) ∧
∀ x2 : Nat, lgsQ2 x2 x →
br (decide ((↑x2 : Int) < (↑(List.length x) : Int))) (br (decide ((0 : Int) ≤ (↑x2 : Int) ∧
(↑x2 : Int) < (↑(List.length x) : Int))) (br ((lgsQ3 x x2).rev != lgsQ4 x2) (lgsQ5 x) (br (decide ((lgsQ3 x x2).base < (0 : Int))) (lgsQ5 x) (br (decide ((lgsQ3 x x2).base > (↑x2 : Int))) (lgsQ5 x) (∃ x6 : LgA, EqC (lgsQ3 x x2) x6.c (chgL (List.take x2 x) = x6.K ∧
True ∧
∀ x7 : Unit, True →
br (legC x6.K x6.c.base ([] : List (Prod Bs Int)) x6.c.changes).not (lgsQ5 x) ((lgsQ3 x x2).changes.length * 32 ≤ room47 →
(∃ x9 : Nat, (0 : Int) = (↑x9 : Int) ∧
x6.K = lgsQ6 x x2 x6 x9 ∧
Nat.le x9 (lgsQ3 x x2).changes.length) ∧
∀ x10 : Nat, Nat.le x10 (lgsQ3 x x2).changes.length →
br (decide ((↑x10 : Int) < (↑(lgsQ3 x x2).changes.length : Int))) (br (decide ((0 : Int) ≤ (↑x10 : Int) ∧
(↑x10 : Int) < (↑(lgsQ3 x x2).changes.length : Int))) (∃ x11 : Nat, lgsQ4 x10 = (↑x11 : Int) ∧
putK (lgsQ6 x x2 x6 x10) (List.getD (lgsQ3 x x2).changes (↑x10 : Int).toNat (ChangeD.mk ([] : List UInt8) false (0 : Int))).path (lgsQ3 x x2).rev = lgsQ6 x x2 x6 x11 ∧
Nat.le x11 (lgsQ3 x x2).changes.length ∧
Nat.sub (lgsQ3 x x2).changes.length x11 < Nat.sub (lgsQ3 x x2).changes.length x10) (Bad "check" "plain.go:69")) (∃ x12 : Nat, lgsQ4 x2 = (↑x12 : Int) ∧
lgsQ6 x x2 x6 x10 = chgL (List.take x12 x) ∧
lgsQ2 x12 x ∧
Nat.sub (List.length x) x12 < Nat.sub (List.length x) x2))))))) (Bad "check" "plain.go:65")) (∃ x13 : Unit, true = lgsQ1 x ∧
True)) := by kernel_rfl
abbrev pknQ1  := [CommitD.mk (1 : Int) (1 : Int) ([] : List UInt8) ([] : List ChangeD)]
abbrev pknQ2 (x5 : List CommitD) := legL ([] : List (Prod Bs Int)) (0 : Int) x5
abbrev pknQ3  := [CommitD.mk (1 : Int) (0 : Int) ([] : List UInt8) ([] : List ChangeD), CommitD.mk (2 : Int) (1 : Int) ([] : List UInt8) ([] : List ChangeD)]
abbrev pknQ4  := [RequestD.mk (0 : Int) ([] : List UInt8) (0 : Int) (0 : Int) (0 : Int) ([] : List UInt8) ([] : List ChangeD) ([] : List UInt8) (0 : Int) (0 : Int) (0 : Int), RequestD.mk (3 : Int) ([] : List UInt8) (0 : Int) (0 : Int) (0 : Int) ([] : List UInt8) ([] : List ChangeD) ([] : List UInt8) (0 : Int) (0 : Int) (0 : Int)]
theorem pkn_vc (x : Unit) : evCall pknE (ev pknE 1000) 5 (pknArgs x) ⟨[], 0, []⟩ (fun _ _ => False) (fun v _ => TrueV v) = (
∃ x1 : Unit, True ∧
∀ x2 : Unit, True →
∃ x3 : RunA, ([] : List Int) = CfgD.M (RunA.c x3) ∧
(0 : Int) = CfgD.a (RunA.c x3) ∧
(0 : Int) = CfgD.z (RunA.c x3) ∧
(0 : Int) = CfgD.keep (RunA.c x3) ∧
(0 : Int) = CfgD.beat (RunA.c x3) ∧
(0 : Int) = CfgD.term (RunA.c x3) ∧
(0 : Int) = CfgD.lease (RunA.c x3) ∧
(0 : Int) = CfgD.num (RunA.c x3) ∧
(0 : Int) = CfgD.den (RunA.c x3) ∧
([] : List RequestD) = RunA.l x3 ∧
okCf (CfgD.a (RunA.c x3)) (CfgD.z (RunA.c x3)) (CfgD.M (RunA.c x3)) = false ∧
∀ x4 : Unit, True →
∃ x5 : (List CommitD), 0 + 1 ≤ pknQ1.length ∧
List.take 1 (List.drop 0 pknQ1) = x5 ∧
True ∧
∀ x6 : Unit, True →
br (pknQ2 x5).not (∃ x7 : (List CommitD), 0 + 2 ≤ pknQ3.length ∧
List.take 2 (List.drop 0 pknQ3) = x7 ∧
True ∧
∀ x8 : Unit, True →
br (pknQ2 x7) (∃ x9 : (List CommitD), ([] : List CommitD) = x9 ∧
True ∧
∀ x10 : Unit, True →
br (pknQ2 x9) (∃ x11 : FirA, 0 + 2 ≤ pknQ4.length ∧
List.take 2 (List.drop 0 pknQ4) = x11.l ∧
(3 : Int) = x11.r.kind ∧
([] : List UInt8) = x11.r.name ∧
(0 : Int) = x11.r.session ∧
(0 : Int) = x11.r.seq ∧
(0 : Int) = x11.r.base ∧
([] : List UInt8) = x11.r.ref ∧
([] : List ChangeD) = x11.r.changes ∧
([] : List UInt8) = x11.r.path ∧
(0 : Int) = x11.r.from_ ∧
(0 : Int) = x11.r.many ∧
(0 : Int) = x11.r.member ∧
True ∧
∀ x12 : Unit, True →
(idxR x11.r x11.l == (1 : Int)) = true) (false = true)) (false = true)) (false = true)) := by kernel_rfl
end Go.Proofs.YtgepebndihfnfaaGreat.Ses

namespace Go.Proofs.YtgepebndihfnfaaGreat.Ses
open Go Go.Proofs Go.Proofs.YtgepebndihfnfaaGreat.Sx
theorem metL_at {l : List ChangeD} {i : Nat} (d : ChangeD) (h : i < l.length) : metL (l.take (i + 1)) = metP (metL (l.take i)) (l.getD i d) := by
  unfold metL
  rw [take_succ_getD d h, List.foldl_append]; rfl
theorem lgc_ok : SpecOK Tryz.prog 86 lgcT.spec := by
  refine Tri.ok (E := lgcE) (Env_ok (by decide +kernel) (by simp)) (n := 1000) lgcT fun x _ => ?_
  rw [lgc_vc]
  delta lgcQ5 lgcQ4 lgcQ3 lgcQ2 lgcQ1
  obtain ⟨K, c⟩ := x
  dsimp only
  generalize c.changes = l
  generalize c.base = b
  refine fun hr => ⟨⟨0, rfl, rfl, Nat.zero_le _, rfl⟩, fun i hi => br_i (fun h1 => ?_) (fun h1 => ?_)⟩
  · have h1 : (i : Int) < (l.length : Int) := of_decide_eq_true h1
    have hsm : l.length ≤ 4398046511104 := by unfold room47 at hr; omega
    obtain ⟨i1, i2⟩ := hi
    have e0 : (i : Int).toNat = i := rfl
    rw [e0]
    have hw : IntKind.i64.wrap ((i : Int) + 1) = ((i + 1 : Nat) : Int) := by rw [wrap_id (by omega) (by omega)]; rfl
    have hst := i2
    rw [drop_getD ⟨[], false, 0⟩ (by omega : i < l.length)] at hst
    have hM := metL_at (l := l) (i := i) ⟨[], false, 0⟩ (by omega)
    generalize l.getD i ⟨[], false, 0⟩ = x at hst hM ⊢
    refine br_t (decide_eq_true ⟨by omega, h1⟩) (br_i (fun g1 => ⟨(), ?_, rfl, trivial⟩) fun g1 => br_i (fun g2 => ⟨(), ?_, rfl, trivial⟩) fun g2 => ⟨i + 1, hw, hM.symm, ⟨by omega, ?_⟩, by show l.length - (i + 1) < l.length - i; omega⟩)
    · rw [← hst]
      unfold legC
      rw [g1]; rfl
    · rw [← hst]
      unfold legC
      rw [g1, g2]; rfl
    · rw [← hst, hM]
      conv => rhs; unfold legC
      rw [g1, g2]; rfl
  · have h1 : ¬ (i : Int) < (l.length : Int) := of_decide_eq_false h1
    obtain ⟨i1, i2⟩ := hi
    rw [List.drop_of_length_le (by omega)] at i2
    refine ⟨(), ?_, rfl, trivial⟩
    rw [← i2]; rfl
theorem chgL_at {l : List CommitD} {i : Nat} (d : CommitD) (h : i < l.length) : chgL (l.take (i + 1)) = chgC (chgL (l.take i)) (l.getD i d) := by
  unfold chgL
  rw [take_succ_getD d h, List.foldl_append]; rfl
theorem lgs_ok : SpecOK Tryz.prog 28 lgsT.spec := by
  refine Tri.ok (E := lgsE) (Env_ok (by decide +kernel) (by simp [lgc_ok])) (n := 1000) lgsT fun l hp => ?_
  rw [lgs_vc]
  delta lgsQ6 lgsQ5 lgsQ4 lgsQ3 lgsQ2 lgsQ1 EqC
  clear hp
  revert l
  intro (l : List CommitD)
  refine fun hr => ⟨⟨0, rfl, rfl, Nat.zero_le _, rfl⟩, fun i hi => br_i (fun h1 => ?_) (fun h1 => ?_)⟩
  · have h1 : (i : Int) < (List.length l : Int) := of_decide_eq_true h1
    have hr : List.length l * 56 ≤ room47 := hr
    have hsm : List.length l ≤ 4398046511104 := by unfold room47 at hr; omega
    obtain ⟨i1, i2⟩ := hi
    have e0 : (i : Int).toNat = i := rfl
    rw [e0]
    have hw : IntKind.i64.wrap ((i : Int) + 1) = ((i + 1 : Nat) : Int) := by rw [wrap_id (by omega) (by omega)]; rfl
    have hw' : IntKind.i64.wrap ((i : Int) + 1) = (i : Int) + 1 := by rw [wrap_id (by omega) (by omega)]
    have hst := i2
    rw [drop_getD ⟨0, 0, [], []⟩ (by omega : i < List.length l)] at hst
    have hM := chgL_at (l := l) (i := i) ⟨0, 0, [], []⟩ (by omega)
    generalize List.getD l i ⟨0, 0, [], []⟩ = x at hst hM ⊢
    generalize chgL (List.take i l) = K at hst hM ⊢
    rw [hw']
    refine br_t (decide_eq_true ⟨by omega, h1⟩) (br_i (fun g1 => ⟨(), ?_, trivial⟩) fun g1 => br_i (fun g2 => ⟨(), ?_, trivial⟩) fun g2 => br_i (fun g3 => ⟨(), ?_, trivial⟩) fun g3 => ⟨⟨K, x⟩, rfl, rfl, rfl, rfl, rfl, trivial, fun _ _ => br_i (fun g4 => ⟨(), ?_, trivial⟩) fun g4 hc => ⟨⟨0, rfl, rfl, Nat.zero_le _⟩, fun j hj => br_i (fun h2 => ?_) fun h2 => ⟨i + 1, rfl, ?_, ⟨by omega, ?_⟩, by show List.length l - (i + 1) < List.length l - i; omega⟩⟩⟩)
    · rw [← hst]
      unfold legL
      rw [g1]; rfl
    · rw [← hst]
      unfold legL
      rw [g1, g2]; rfl
    · rw [← hst]
      unfold legL
      rw [g1, g2, g3]; rfl
    · have g4 : (!legC K x.base [] x.changes) = true := g4
      rw [← hst]
      unfold legL
      rw [g1, g2, g3, g4]; rfl
    · have h2 : (j : Int) < (x.changes.length : Int) := of_decide_eq_true h2
      have hj : j ≤ x.changes.length := hj
      have hsm : x.changes.length ≤ 4398046511104 := by unfold room47 at hc; omega
      refine br_t (decide_eq_true ⟨by omega, h2⟩) ⟨j + 1, by rw [wrap_id (by omega) (by omega)]; rfl, ?_, by show j + 1 ≤ x.changes.length; omega, by show x.changes.length - (j + 1) < x.changes.length - j; omega⟩
      rw [take_succ_getD ⟨[], false, 0⟩ (by omega : j < x.changes.length), List.foldl_append]; rfl
    · have h2 : ¬ (j : Int) < (x.changes.length : Int) := of_decide_eq_false h2
      rw [List.take_of_length_le (by omega), hM]; rfl
    · have g4 : (!legC K x.base [] x.changes) = false := g4
      rw [← hst, hM]
      conv => rhs; unfold legL
      rw [g1, g2, g3, g4]; rfl
  · have h1 : ¬ (i : Int) < (List.length l : Int) := of_decide_eq_false h1
    obtain ⟨i1, i2⟩ := hi
    have i2 : legL (chgL (List.take i l)) (i : Int) (List.drop i l) = legL [] 0 l := i2
    rw [List.drop_of_length_le (by omega)] at i2
    refine ⟨(), ?_, trivial⟩
    rw [← i2]; rfl
theorem pkn_ok : EnvOK pknE := Env_ok (by decide +kernel) (by
  intro p hp
  simp only [List.mem_cons, List.mem_nil_iff, or_false] at hp
  rcases hp with rfl | rfl | rfl | rfl
  · exact paw_ok
  · exact prun2_ok
  · exact fir_ok
  · exact lgs_ok)
theorem pkn_body (x : Unit) : evCall pknE (ev pknE 1000) 5 (pknArgs x) ⟨[], 0, []⟩ (fun _ _ => False) (fun v _ => TrueV v) := by
  rw [pkn_vc]
  delta pknQ4 pknQ3 pknQ2 pknQ1
  refine ⟨(), trivial, fun _ _ => ⟨⟨⟨[], 0, 0, 0, 0, 0, 0, 0, 0⟩, []⟩, rfl, rfl, rfl, rfl, rfl, rfl, rfl, rfl, rfl, rfl, by decide, fun _ _ => ⟨_, Nat.le_refl 1, rfl, trivial, fun _ _ => br_t (by decide) ⟨_, Nat.le_refl 2, rfl, trivial, fun _ _ => br_t (by decide) ⟨[], rfl, trivial, fun _ _ => br_t (by decide) ⟨⟨_, ⟨3, [], 0, 0, 0, [], [], [], 0, 0, 0⟩⟩, Nat.le_refl 2, rfl, rfl, rfl, rfl, rfl, rfl, rfl, rfl, rfl, rfl, rfl, rfl, trivial, fun _ _ => by decide⟩⟩⟩⟩⟩⟩
end Go.Proofs.YtgepebndihfnfaaGreat.Ses
