/- The reference's clone; the law MachineClones: what the evaluator leaves, and that it holds. No condition. -/
import Derived.Test.YtgepebndihfnfaaGreatCMhG
import Derived.KernelRfl
set_option linter.unusedSimpArgs false
set_option linter.unusedVariables false

namespace Go.Proofs.YtgepebndihfnfaaGreat.Ses
open Go Go.Proofs Go.Proofs.YtgepebndihfnfaaGreat.Sx
noncomputable def ccoI : St → LInv := fun s => match getE s.env 0 with
  | .mslice _ n _ _ => match s.m.blks.get n with
    | some (.rows .commit l) => { σ := Nat, I := fun i => i ≤ l.length, μ := fun i => l.length - i, env := fun i => [(4, .int .i64 i), (3, .mslice .commit s.m.next 0 i)], blk := fun i => [(s.m.next, .rows .commit (l.take i))], fresh := 1, drop := [] }
    | _ => LInv.none
  | _ => LInv.none
noncomputable def ccoE : Envr := Env Tryz.prog cod [(157, ccomT.spec)] [(3, ccoI)]
noncomputable def ccoT : Tri := { γ := List CommitD, n0 := 1, args := fun l => [.mslice .commit 0 0 l.length], blks := fun l => [(0, .rows .commit l)], pre := fun _ => True, δ := Unit, post := fun _ _ => True, n1 := 1, res := fun l _ => .mslice .commit 1 0 l.length, blks' := fun l _ => [(0, .rows .commit l), (1, .rows .commit l)], scal := false }
noncomputable def tclI : St → LInv := fun s => match getE s.env 0, getE s.env 3 with
  | .mptr t _, .mptr q _ => match s.m.blks.get t with
    | some (.cells [.int _ sz, .mslice _ sr _ _]) => match s.m.blks.get sr with
      | some (.rows .session S) => { σ := Nat, I := fun i => i ≤ S.length, μ := fun i => S.length - i, env := fun i => [(4, .int .i64 i)], blk := fun i => [(q, .cells [.int .i64 sz, .mslice .session s.m.next 0 i]), (s.m.next, .rows .session (S.take i))], fresh := 1, drop := [] }
      | _ => LInv.none
    | _ => LInv.none
  | _, _ => LInv.none
structure GclA where
  C : List CommitD
  L : List LeafD
  R : List RefD
noncomputable def gcnT : Tri := { γ := GclA, n0 := 3, args := fun x => [.agg [.mslice .commit 0 0 x.C.length, .mslice .leaf 1 0 x.L.length, .mslice .ref 2 0 x.R.length]], blks := fun x => [(0, .rows .commit x.C), (1, .rows .leaf x.L), (2, .rows .ref x.R)], pre := fun _ => True, δ := Unit, post := fun _ _ => True, n1 := 3, res := fun x _ => .agg [.mslice .commit 3 0 x.C.length, .mslice .leaf 4 0 x.L.length, .mslice .ref 5 0 x.R.length], blks' := fun x _ => [(0, .rows .commit x.C), (1, .rows .leaf x.L), (2, .rows .ref x.R), (3, .rows .commit x.C), (4, .rows .leaf x.L), (5, .rows .ref x.R)], scal := false }
noncomputable def gcnE : Envr := Env Tryz.prog cod [(141, ccoT.spec)] []
structure TclA where
  size : Int
  S : List SessionD
noncomputable def tclT : Tri := { γ := TclA, n0 := 2, args := fun _ => [.mptr 0 0], blks := fun x => [(0, .cells [.int .i64 x.size, .mslice .session 1 0 x.S.length]), (1, .rows .session x.S)], pre := fun _ => True, δ := Unit, post := fun _ _ => True, n1 := 2, res := fun _ _ => .mptr 2 0, blks' := fun x _ => [(0, .cells [.int .i64 x.size, .mslice .session 1 0 x.S.length]), (1, .rows .session x.S), (2, .cells [.int .i64 x.size, .mslice .session 3 0 x.S.length]), (3, .rows .session x.S)], scal := false }
noncomputable def tclE : Envr := Env Tryz.prog cod [(179, csesT.spec)] [(3, tclI)]
noncomputable def rcnT : Tri := { γ := MacS, n0 := 8, args := fun _ => [.mptr 0 0], blks := fun x => rmB x 0 1 2 3 4 5 6 7, pre := fun _ => True, δ := Unit, post := fun _ _ => True, n1 := 8, res := fun _ _ => .mptr 8 0, blks' := fun x _ => rmB x 0 1 2 3 4 5 6 7 ++ rmB x 8 9 10 11 12 13 14 15, scal := false }
noncomputable def rcnE : Envr := Env Tryz.prog cod [(76, gcnT.spec), (116, tclT.spec), (117, cepT.spec)] []
end Go.Proofs.YtgepebndihfnfaaGreat.Ses

namespace Go.Proofs.YtgepebndihfnfaaGreat.Ses
open Go Go.Proofs Go.Proofs.YtgepebndihfnfaaGreat.Sx
set_option maxRecDepth 100000
theorem cco_vc (x : ccoT.γ) : evCall ccoE (ev ccoE 1000) 141 (ccoT.args x) ⟨ccoT.blks x, ccoT.n0, []⟩ (fun _ _ => False) (ccoT.ends x) = (
(∃ x1 : Nat, (0 : Int) = (↑x1 : Int) ∧
0 = x1 ∧
([] : List CommitD) = List.take x1 x ∧
Nat.le x1 (List.length x)) ∧
∀ x2 : Nat, Nat.le x2 (List.length x) →
List.length x * 56 ≤ room47 →
br (decide ((↑x2 : Int) < (↑(List.length x) : Int))) (br (decide ((0 : Int) ≤ (↑x2 : Int) ∧
(↑x2 : Int) < (↑(List.length x) : Int))) (br (decide (0 + (↑x2 : Int).toNat < List.length x)) (∃ x3 : CommitD, EqC (List.getD x (0 + (↑x2 : Int).toNat) (CommitD.mk (0 : Int) (0 : Int) ([] : List UInt8) ([] : List ChangeD))) x3 (True ∧
∀ x4 : Unit, True →
Nat.le (x2 * 56) room47 ∧
Nat.le (1 * 56) room47 →
br (Bool.and (Bool.and (decide (0 + 1 ≤ [x3].length)) (decide (0 + x2 ≤ (List.take x2 x).length))) (decide ((x2 + (List.take 1 (List.drop 0 [x3])).length) * 56 ≤ room47))) (∃ x5 : Nat, IntKind.wrap IntKind.i64 ((↑x2 : Int) + (1 : Int)) = (↑x5 : Int) ∧
0 = 0 ∧
x2 + (List.take 1 (List.drop 0 [x3])).length = x5 ∧
@HAppend.hAppend (List CommitD) (List CommitD) (List CommitD) _ (List.take x2 (List.drop 0 (List.take x2 x))) (List.take 1 (List.drop 0 [x3])) = List.take x5 x ∧
Nat.le x5 (List.length x) ∧
Nat.sub (List.length x) x5 < Nat.sub (List.length x) x2) (Bad "check" "ref.go:148"))) (Bad "check" "ref.go:148")) (Bad "check" "ref.go:148")) (∃ x6 : Unit, 0 = 0 ∧
x2 = List.length x ∧
x = x ∧
List.take x2 x = x ∧
True)) := by kernel_rfl
abbrev gcnQ1 (x : gcnT.γ) := List.take (GclA.L x).length (List.drop 0 (GclA.L x))
abbrev gcnQ2 (x : gcnT.γ) := List.take (GclA.R x).length (List.drop 0 (GclA.R x))
abbrev gcnQ3 (x : gcnT.γ) (x1 : List CommitD) := Nat.le (0 * 40) room47 ∧
Nat.le ((GclA.L x).length * 40) room47 →
br (Bool.and (Bool.and (decide (0 + (GclA.L x).length ≤ (GclA.L x).length)) (decide (0 + 0 ≤ ([] : List LeafD).length))) (decide ((0 + (gcnQ1 x).length) * 40 ≤ room47))) (Nat.le (0 * 24) room47 ∧
Nat.le ((GclA.R x).length * 24) room47 →
br (Bool.and (Bool.and (decide (0 + (GclA.R x).length ≤ (GclA.R x).length)) (decide (0 + 0 ≤ ([] : List RefD).length))) (decide ((0 + (gcnQ2 x).length) * 24 ≤ room47))) (∃ x3 : Unit, 0 = 0 ∧
x1.length = (GclA.C x).length ∧
0 = 0 ∧
0 + (gcnQ1 x).length = (GclA.L x).length ∧
0 = 0 ∧
0 + (gcnQ2 x).length = (GclA.R x).length ∧
x1 = GclA.C x ∧
GclA.L x = GclA.L x ∧
GclA.R x = GclA.R x ∧
x1 = GclA.C x ∧
@HAppend.hAppend (List LeafD) (List LeafD) (List LeafD) _ (List.take 0 (List.drop 0 ([] : List LeafD))) (gcnQ1 x) = GclA.L x ∧
@HAppend.hAppend (List RefD) (List RefD) (List RefD) _ (List.take 0 (List.drop 0 ([] : List RefD))) (gcnQ2 x) = GclA.R x ∧
True) (Bad "check" "ref.go:173")) (Bad "check" "ref.go:173")
abbrev gcnQ4 (x : gcnT.γ) := ∃ x8 : (List CommitD), 0 = 0 ∧
(GclA.C x).length = x8.length ∧
GclA.C x = x8 ∧
True ∧
∀ x9 : Unit, True →
gcnQ3 x x8
theorem gcn_vc (x : gcnT.γ) : evCall gcnE (ev gcnE 1000) 76 (gcnT.args x) ⟨gcnT.blks x, gcnT.n0, []⟩ (fun _ _ => False) (gcnT.ends x) = (
(∃ x1 : (List CommitD), 0 = 0 ∧
(GclA.C x).length = x1.length ∧
GclA.C x = x1 ∧
True ∧
∀ x2 : Unit, True →
Twice (gcnQ3 x x1) ∧
gcnQ3 x x1) ∧
((∃ x5 : (List CommitD), 0 = 0 ∧
(GclA.C x).length = x5.length ∧
GclA.C x = x5 ∧
True ∧
∀ x6 : Unit, True →
Twice (gcnQ3 x x5)) ∧
gcnQ4 x) ∧
Twice (gcnQ4 x)) := by kernel_rfl
abbrev tclQ1 (x : tclT.γ) (x2 : Nat) := List.getD (TclA.S x) (0 + (↑x2 : Int).toNat) (SessionD.mk (0 : Int) (0 : Int) ([] : List UInt8) VerdictD.dflt)
theorem tcl_vc (x : tclT.γ) : evCall tclE (ev tclE 1000) 116 (tclT.args x) ⟨tclT.blks x, tclT.n0, []⟩ (fun _ _ => False) (tclT.ends x) = (
(∃ x1 : Nat, (0 : Int) = (↑x1 : Int) ∧
TclA.size x = TclA.size x ∧
0 = x1 ∧
([] : List SessionD) = List.take x1 (TclA.S x) ∧
Nat.le x1 (TclA.S x).length) ∧
∀ x2 : Nat, Nat.le x2 (TclA.S x).length →
(TclA.S x).length * 112 ≤ room47 →
br (decide ((↑x2 : Int) < (↑(TclA.S x).length : Int))) (br (decide ((0 : Int) ≤ (↑x2 : Int) ∧
(↑x2 : Int) < (↑(TclA.S x).length : Int))) (br (decide (0 + (↑x2 : Int).toNat < (TclA.S x).length)) (∃ x3 : SessionD, (tclQ1 x x2).id = x3.id ∧
(tclQ1 x x2).seq = x3.seq ∧
(tclQ1 x x2).name = x3.name ∧
EqV (tclQ1 x x2).last x3.last (True ∧
∀ x4 : Unit, True →
Nat.le (x2 * 112) room47 ∧
Nat.le (1 * 112) room47 →
br (Bool.and (Bool.and (decide (0 + 1 ≤ [x3].length)) (decide (0 + x2 ≤ (List.take x2 (TclA.S x)).length))) (decide ((x2 + (List.take 1 (List.drop 0 [x3])).length) * 112 ≤ room47))) (∃ x5 : Nat, IntKind.wrap IntKind.i64 ((↑x2 : Int) + (1 : Int)) = (↑x5 : Int) ∧
TclA.size x = TclA.size x ∧
0 = 0 ∧
x2 + (List.take 1 (List.drop 0 [x3])).length = x5 ∧
@HAppend.hAppend (List SessionD) (List SessionD) (List SessionD) _ (List.take x2 (List.drop 0 (List.take x2 (TclA.S x)))) (List.take 1 (List.drop 0 [x3])) = List.take x5 (TclA.S x) ∧
Nat.le x5 (TclA.S x).length ∧
Nat.sub (TclA.S x).length x5 < Nat.sub (TclA.S x).length x2) (Bad "check" "ref.go:52"))) (Bad "check" "ref.go:52")) (Bad "check" "ref.go:52")) (∃ x6 : Unit, EqT (TclA.size x) (TclA.size x) (TclA.S x) (TclA.S x) (TclA.size x = TclA.size x ∧
0 = 0 ∧
x2 = (TclA.S x).length ∧
List.take x2 (TclA.S x) = TclA.S x ∧
True))) := by kernel_rfl
theorem rcn_vc (x : rcnT.γ) : evCall rcnE (ev rcnE 1000) 60 (rcnT.args x) ⟨rcnT.blks x, rcnT.n0, []⟩ (fun _ _ => False) (rcnT.ends x) = (
∃ x1 : GclA, EqR6 (MacS.C x) x1.C (rowC (MacS.C x)) x1.L (refsR (MacS.C x)) x1.R (True ∧
∀ x2 : Unit, True →
∃ x3 : TclA, EqT (MacS.size x) x3.size (MacS.S x) x3.S (True ∧
∀ x4 : Unit, True →
∃ x5 : EoA, 0 = x5.lo ∧
(MacS.E x).length = x5.E.length - x5.lo ∧
MacS.E x = x5.E ∧
decide (x5.lo ≤ x5.E.length) = true ∧
∀ x6 : Unit, True →
∃ x7 : Unit, MacS.applied x = MacS.applied x ∧
0 = 0 ∧
(MacS.C x).length = (MacS.C x).length ∧
0 = 0 ∧
(rowC (MacS.C x)).length = (rowC (MacS.C x)).length ∧
0 = 0 ∧
(refsR (MacS.C x)).length = (refsR (MacS.C x)).length ∧
x1.C = MacS.C x ∧
x1.L = rowC (MacS.C x) ∧
x1.R = refsR (MacS.C x) ∧
EqT x3.size (MacS.size x) x3.S (MacS.S x) (MacS.alpha x = MacS.alpha x ∧
0 = 0 ∧
(MacS.E x).length = (MacS.E x).length ∧
x5.E = MacS.E x ∧
MacS.applied x = MacS.applied x ∧
EqR6 x1.C (MacS.C x) x1.L (rowC (MacS.C x)) x1.R (refsR (MacS.C x)) (EqT x3.size (MacS.size x) x3.S (MacS.S x) (EqT (MacS.alpha x) (MacS.alpha x) (List.drop x5.lo x5.E) (MacS.E x) True)))))) := by kernel_rfl
end Go.Proofs.YtgepebndihfnfaaGreat.Ses

namespace Go.Proofs.YtgepebndihfnfaaGreat.Ses
open Go Go.Proofs Go.Proofs.YtgepebndihfnfaaGreat.Sx
theorem put_any {α : Type} {L : List α} {i : Nat} (d : α) (h : i < L.length) : List.take i (List.drop 0 (List.take i L)) ++ List.take 1 (List.drop 0 [L.getD i d]) = List.take (i + 1) L := by
  rw [take_succ_getD d h, List.drop_zero, List.take_take, Nat.min_self]; rfl
theorem put_c {α : Type} {L : List α} {i size : Nat} (z : α) (h : i < L.length) (hr : L.length * size ≤ room47) : ((decide (0 + 1 ≤ [z].length) && decide (0 + i ≤ (List.take i L).length)) && decide ((i + (List.take 1 (List.drop 0 [z])).length) * size ≤ room47)) = true := by
  have h1 : (List.take i L).length = i := by rw [List.length_take]; omega
  have h2 : (i + 1) * size ≤ room47 := Nat.le_trans (Nat.mul_le_mul_right size h) hr
  rw [h1, decide_eq_true (by omega : 0 + i ≤ i)]
  show (true && true && decide ((i + 1) * size ≤ room47)) = true
  rw [decide_eq_true h2]; rfl
theorem cco_ok : SpecOK Tryz.prog 141 ccoT.spec := by
  refine Tri.ok (E := ccoE) (Env_ok (by decide +kernel) (by simp [ccom_ok])) (n := 1000) ccoT fun l hp => ?_
  rw [cco_vc]
  delta EqC
  clear hp
  revert l
  intro (l : List CommitD)
  refine ⟨⟨0, rfl, rfl, rfl, Nat.zero_le _⟩, fun i hi hr => br_i (fun h1 => ?_) (fun h1 => ?_)⟩
  · have h1 : (i : Int) < (l.length : Int) := of_decide_eq_true h1
    have hr : l.length * 56 ≤ room47 := hr
    have hsm : l.length ≤ 4398046511104 := by unfold room47 at hr; omega
    have hlt : i < l.length := by omega
    have e0 : (i : Int).toNat = i := rfl
    have en : 0 + i = i := Nat.zero_add i
    rw [e0]
    have eg : ∀ d, List.getD l (0 + i) d = List.getD l i d := fun _ => by rw [en]
    rw [eg]
    exact br_t (decide_eq_true ⟨by omega, h1⟩) (br_t (decide_eq_true (by omega)) ⟨l.getD i ⟨0, 0, [], []⟩, rfl, rfl, rfl, rfl, trivial, fun _ _ _ => br_t (put_c _ hlt hr) ⟨i + 1, by rw [wrap_id (by omega) (by omega)]; rfl, rfl, rfl, put_any _ hlt, hlt, by show l.length - (i + 1) < l.length - i; omega⟩⟩)
  · have h1 : ¬ (i : Int) < (l.length : Int) := of_decide_eq_false h1
    have hi : i ≤ l.length := hi
    have : i = l.length := by omega
    subst this
    exact ⟨(), rfl, rfl, rfl, List.take_length, trivial⟩
theorem gcn_ok : SpecOK Tryz.prog 76 gcnT.spec := by
  refine Tri.ok (E := gcnE) (Env_ok (by decide +kernel) (by simp [cco_ok])) (n := 1000) gcnT fun x _ => ?_
  rw [gcn_vc]
  delta gcnQ4 gcnQ3 gcnQ2 gcnQ1
  obtain ⟨C, L, R⟩ := x
  dsimp only
  refine ⟨⟨C, rfl, rfl, rfl, trivial, fun _ _ => ⟨twice ?_, ?_⟩⟩, ⟨⟨C, rfl, rfl, rfl, trivial, fun _ _ => twice ?_⟩, ⟨C, rfl, rfl, rfl, trivial, fun _ _ => ?_⟩⟩, twice ⟨C, rfl, rfl, rfl, trivial, fun _ _ => ?_⟩⟩
  all_goals
    intro h1
    have h1 : L.length * 40 ≤ room47 := h1.2
    refine br_t (by simp; exact h1) fun h2 => ?_
    have h2 : R.length * 24 ≤ room47 := h2.2
    exact br_t (by simp; exact h2) ⟨(), (by repeat' (first | exact trivial | refine And.intro ?_ ?_ | rfl | simp))⟩
theorem tcl_ok : SpecOK Tryz.prog 116 tclT.spec := by
  refine Tri.ok (E := tclE) (Env_ok (by decide +kernel) (by simp [cses_ok])) (n := 1000) tclT fun x _ => ?_
  rw [tcl_vc]
  delta tclQ1 EqT EqV
  obtain ⟨z, S⟩ := x
  dsimp only
  refine ⟨⟨0, rfl, rfl, rfl, rfl, Nat.zero_le _⟩, fun i hi hr => br_i (fun h1 => ?_) (fun h1 => ?_)⟩
  · have h1 : (i : Int) < (S.length : Int) := of_decide_eq_true h1
    have hsm : S.length ≤ 4398046511104 := by unfold room47 at hr; omega
    have hlt : i < S.length := by omega
    have e0 : (i : Int).toNat = i := rfl
    have en : 0 + i = i := Nat.zero_add i
    rw [e0]
    have eg : ∀ d, List.getD S (0 + i) d = List.getD S i d := fun _ => by rw [en]
    rw [eg]
    exact br_t (decide_eq_true ⟨by omega, h1⟩) (br_t (decide_eq_true (by omega)) ⟨S.getD i ⟨0, 0, [], VerdictD.dflt⟩, rfl, rfl, rfl, rfl, rfl, rfl, rfl, rfl, rfl, rfl, trivial, fun _ _ _ => br_t (put_c _ hlt hr) ⟨i + 1, by rw [wrap_id (by omega) (by omega)]; rfl, rfl, rfl, rfl, put_any _ hlt, hlt, by show S.length - (i + 1) < S.length - i; omega⟩⟩)
  · have h1 : ¬ (i : Int) < (S.length : Int) := of_decide_eq_false h1
    have hi : i ≤ S.length := hi
    have : i = S.length := by omega
    subst this
    exact ⟨(), rfl, rfl, rfl, rfl, rfl, rfl, rfl, List.take_length, trivial⟩
theorem rcn_ok : SpecOK Tryz.prog 60 rcnT.spec := by
  refine Tri.ok (E := rcnE) (Env_ok (by decide +kernel) (by simp [gcn_ok, tcl_ok, cep_ok])) (n := 1000) rcnT fun x _ => ?_
  rw [rcn_vc]
  delta EqR6 EqT
  exact ⟨⟨x.C, rowC x.C, refsR x.C⟩, rfl, rfl, rfl, rfl, rfl, rfl, rfl, rfl, rfl, trivial, fun _ _ => ⟨⟨x.size, x.S⟩, rfl, rfl, rfl, rfl, trivial, fun _ _ => ⟨{ lo := 0, E := x.E }, rfl, rfl, rfl, decide_eq_true (Nat.zero_le _), fun _ _ => ⟨(), (by repeat' (first | exact trivial | refine And.intro ?_ ?_ | rfl))⟩⟩⟩⟩
end Go.Proofs.YtgepebndihfnfaaGreat.Ses

namespace Go.Proofs.YtgepebndihfnfaaGreat.Ses
open Go Go.Proofs Go.Proofs.YtgepebndihfnfaaGreat.Sx
structure MkkA where
  l : List RequestD
  k : List RequestD
def mkkArgs (x : MkkA) : List SV := [.rslice false .request x.l, .rslice false .request x.k]
noncomputable def twoI (is ms rs ls : Nat) : St → LInv := fun s => match macAt s ms, rmcAt s rs, getE s.env ls with
  | some ⟨x, m, g, c, k, t, sr, e, er⟩, some ⟨_, m', a', b', c', t', sr', e', er'⟩, .rslice _ .request l => { σ := Nat, I := fun i => i ≤ l.length, μ := fun i => l.length - i, env := fun i => [(is, .int .i64 i)], blk := fun i => mB (runF x (l.take i)) m g s.m.next k t (s.m.next + 1) e (s.m.next + 2) ++ rmB (runF x (l.take i)) m' (s.m.next + 3) (s.m.next + 4) (s.m.next + 5) t' (s.m.next + 6) e' (s.m.next + 7), fresh := 8, drop := [c, sr, er, a', b', c', sr', er'] }
  | _, _, _ => LInv.none
noncomputable def mkkE : Envr := Env Tryz.prog cod [(49, aw8T.spec), (20, mroomT.spec), (50, freshT.spec), (57, rnew1T.spec), (24, applyT.spec), (48, rappT.spec), (53, mcnT.spec), (60, rcnT.spec), (59, looks8T.spec)] [(10, twoI 8 5 6 0), (17, twoI 11 9 10 1)]
end Go.Proofs.YtgepebndihfnfaaGreat.Ses

namespace Go.Proofs.YtgepebndihfnfaaGreat.Ses
open Go Go.Proofs Go.Proofs.YtgepebndihfnfaaGreat.Sx
set_option maxRecDepth 100000
abbrev mkkQ1  := [(0 : Int), (1 : Int), (2 : Int)]
abbrev mkkQ2 (x11 : Nat) (x : MkkA) := runF fresh0 (List.take x11 (MkkA.l x))
abbrev mkkQ3 (x12 : Nat) (x : MkkA) := decide ((0 : Int) ≤ (↑x12 : Int) ∧
(↑x12 : Int) < (↑(MkkA.l x).length : Int))
abbrev mkkQ4 (x18 : MacS) (x22 : Nat) (x : MkkA) := runF x18 (List.take x22 (MkkA.k x))
abbrev mkkQ5 (x23 : Nat) (x : MkkA) := decide ((0 : Int) ≤ (↑x23 : Int) ∧
(↑x23 : Int) < (↑(MkkA.k x).length : Int))
theorem mkk_vc (x : MkkA) : evCall mkkE (ev mkkE 1000) 15 (mkkArgs x) ⟨[], 0, []⟩ (fun _ _ => False) (fun v _ => TrueV v) = (
∃ x1 : Unit, True ∧
∀ x2 : Unit, True →
∃ x3 : RmA, MkkA.l x = x3.l ∧
(60 : Int) = x3.most ∧
True ∧
∀ x4 : Unit, True →
br (roomM x3.l x3.most).not (true = true) (∃ x5 : RmA, MkkA.k x = x5.l ∧
(60 : Int) = x5.most ∧
True ∧
∀ x6 : Unit, True →
br (roomM x5.l x5.most).not (true = true) (∃ x7 : Unit, True ∧
∀ x8 : Unit, True →
∃ x9 : CfA, 0 + 3 ≤ mkkQ1.length ∧
List.take 3 (List.drop 0 mkkQ1) = x9.M ∧
(2 : Int) = x9.a ∧
(3 : Int) = x9.z ∧
okCf x9.a x9.z x9.M = true ∧
∀ x10 : Unit, True →
(∃ x11 : Nat, (0 : Int) = (↑x11 : Int) ∧
EqM fresh0 (mkkQ2 x11 x) (EqN (freshM x9.a x9.z x9.M) (mkkQ2 x11 x) (Nat.le x11 (MkkA.l x).length))) ∧
∀ x12 : Nat, Nat.le x12 (MkkA.l x).length →
(MkkA.l x).length * 128 ≤ room47 →
br (decide ((↑x12 : Int) < (↑(MkkA.l x).length : Int))) (br (mkkQ3 x12 x) (∃ x13 : MacA, EqQ (List.getD (MkkA.l x) (↑x12 : Int).toNat RequestD.dflt) x13.r (EqM (mkkQ2 x12 x) x13.x ((okMS x13.x = true ∧
okRq x13.r = true) ∧
∀ x14 : Unit, True →
br (mkkQ3 x12 x) (∃ x15 : MacA, EqQ (List.getD (MkkA.l x) (↑x12 : Int).toNat RequestD.dflt) x15.r (EqN (mkkQ2 x12 x) x15.x (okRm x15.x x15.r = true ∧
∀ x16 : Unit, True →
∃ x17 : Nat, IntKind.wrap IntKind.i64 ((↑x12 : Int) + (1 : Int)) = (↑x17 : Int) ∧
EqM (applyM x13.x x13.r).2 (mkkQ2 x17 x) (EqN (applyM x15.x x15.r).2 (mkkQ2 x17 x) (Nat.le x17 (MkkA.l x).length ∧
Nat.sub (MkkA.l x).length x17 < Nat.sub (MkkA.l x).length x12))))) (Bad "check" "law.go:204")))) (Bad "check" "law.go:203")) (∃ x18 : MacS, EqM (mkkQ2 x12 x) x18 (okMS x18 = true ∧
∀ x19 : Unit, True →
∃ x20 : MacS, EqN (mkkQ2 x12 x) x20 (True ∧
∀ x21 : Unit, True →
(∃ x22 : Nat, (0 : Int) = (↑x22 : Int) ∧
EqM x18 (mkkQ4 x18 x22 x) (EqN x20 (mkkQ4 x18 x22 x) (Nat.le x22 (MkkA.k x).length))) ∧
∀ x23 : Nat, Nat.le x23 (MkkA.k x).length →
(MkkA.k x).length * 128 ≤ room47 →
br (decide ((↑x23 : Int) < (↑(MkkA.k x).length : Int))) (br (mkkQ5 x23 x) (∃ x24 : MacA, EqQ (List.getD (MkkA.k x) (↑x23 : Int).toNat RequestD.dflt) x24.r (EqM (mkkQ4 x18 x23 x) x24.x ((okMS x24.x = true ∧
okRq x24.r = true) ∧
∀ x25 : Unit, True →
br (mkkQ5 x23 x) (∃ x26 : MacA, EqQ (List.getD (MkkA.k x) (↑x23 : Int).toNat RequestD.dflt) x26.r (EqN (mkkQ4 x18 x23 x) x26.x (okRm x26.x x26.r = true ∧
∀ x27 : Unit, True →
∃ x28 : Nat, IntKind.wrap IntKind.i64 ((↑x23 : Int) + (1 : Int)) = (↑x28 : Int) ∧
EqM (applyM x24.x x24.r).2 (mkkQ4 x18 x28 x) (EqN (applyM x26.x x26.r).2 (mkkQ4 x18 x28 x) (Nat.le x28 (MkkA.k x).length ∧
Nat.sub (MkkA.k x).length x28 < Nat.sub (MkkA.k x).length x23))))) (Bad "check" "law.go:210")))) (Bad "check" "law.go:209")) (∃ x29 : MacS, EqM x18 x29 (EqN x20 x29 (okLk x29 = true ∧
∀ x30 : Unit, True →
∃ x31 : MacS, EqM (mkkQ4 x18 x23 x) x31 (EqN (mkkQ4 x18 x23 x) x31 (okLk x31 = true ∧
∀ x32 : Unit, True →
true = true))))))))))) := by kernel_rfl
end Go.Proofs.YtgepebndihfnfaaGreat.Ses

namespace Go.Proofs.YtgepebndihfnfaaGreat.Ses
open Go Go.Proofs Go.Proofs.YtgepebndihfnfaaGreat.Sx
theorem okL_app {l k : List RequestD} (h1 : okL l = true) (h2 : okL k = true) (h : l.length + k.length ≤ 4000) : okL (l ++ k) = true := by
  obtain ⟨_, a⟩ := okL_of h1
  obtain ⟨_, b⟩ := okL_of h2
  unfold okL
  rw [decide_eq_true (by rw [List.length_append]; exact h : (l ++ k).length ≤ 4000), List.all_eq_true.2 fun r hr => by
    rcases List.mem_append.1 hr with hr | hr
    · obtain ⟨p, q⟩ := a r hr
      rw [p, q]; rfl
    · obtain ⟨p, q⟩ := b r hr
      rw [p, q]; rfl]; rfl
theorem mkk_ok : EnvOK mkkE := Env_ok (by decide +kernel) (by
  intro p hp
  simp only [List.mem_cons, List.mem_nil_iff, or_false] at hp
  rcases hp with rfl | rfl | rfl | rfl | rfl | rfl | rfl | rfl | rfl
  · exact aw8_ok
  · exact mroom_ok
  · exact fresh_ok
  · exact rnew1_ok
  · exact apply_ok echg_ok
  · exact rapp_ok
  · exact mcn_ok
  · exact rcn_ok
  · exact looks8_ok)
set_option maxHeartbeats 0 in
theorem mkk_body (x : MkkA) (hl : ∀ r, r ∈ x.l → inI r.from_ = true) (hk : ∀ r, r ∈ x.k → inI r.from_ = true) : evCall mkkE (ev mkkE 1000) 15 (mkkArgs x) ⟨[], 0, []⟩ (fun _ _ => False) (fun v _ => TrueV v) := by
  rw [mkk_vc]
  delta mkkQ5 mkkQ4 mkkQ3 mkkQ2 mkkQ1 EqM EqN EqR EqQ EqG EqT EqR6
  obtain ⟨l, k⟩ := x
  dsimp only at *
  refine ⟨(), trivial, fun _ _ => ⟨⟨l, 60⟩, rfl, rfl, trivial, fun _ _ => br_i (fun _ => rfl) fun hr => ⟨⟨k, 60⟩, rfl, rfl, trivial, fun _ _ => br_i (fun _ => rfl) fun hr' => ⟨(), trivial, fun _ _ => ?_⟩⟩⟩⟩
  rw [Bool.not_eq_false'] at hr hr'
  have hL : okL l = true := room_okL hr (by show (60 : Int) ≤ 4000; omega) hl
  have hK : okL k = true := room_okL hr' (by show (60 : Int) ≤ 4000; omega) hk
  obtain ⟨l60, _⟩ := roomM_of hr
  have l60 : (l.length : Int) ≤ 60 := l60
  obtain ⟨k60, _⟩ := roomM_of hr'
  have k60 : (k.length : Int) ≤ 60 := k60
  have hcf : okCf 2 3 [0, 1, 2] = true := by decide
  have hin : ∀ i, (∃ n, n ≤ l.length ∧ MDs 2 3 n (runF fresh0 (l.take i))) ∧ shortM (runF fresh0 (l.take i)).C = true := fun i => runZ_in hcf hL i
  have hin2 : ∀ i, (∃ n, n ≤ 120 ∧ MDs 2 3 n (runF (runF fresh0 l) (k.take i))) ∧ shortM (runF (runF fresh0 l) (k.take i)).C = true := fun i => by
    obtain ⟨⟨n, hn, a⟩, b⟩ := runZ_in hcf (okL_app hL hK (by omega)) (l.length + i)
    have e : (l ++ k).take (l.length + i) = l ++ k.take i := by rw [List.take_append, List.take_of_length_le (by omega), Nat.add_sub_cancel_left]
    have e2 : runF (freshM 2 3 [0, 1, 2]) (l ++ k.take i) = runF (runF fresh0 l) (k.take i) := run_app _ _ _
    rw [e, e2] at a b
    exact ⟨⟨n, by rw [List.length_append] at hn; omega, a⟩, b⟩
  refine ⟨⟨[0, 1, 2], 2, 3⟩, Nat.le_refl 3, rfl, rfl, rfl, hcf, fun _ _ => ⟨⟨0, (by repeat' (first | exact Nat.zero_le _ | refine And.intro ?_ ?_ | rfl))⟩, fun i hi _ => br_i (fun h1 => ?_) (fun h1 => ?_)⟩⟩
  · have h1 := of_decide_eq_true h1
    have bi : decide ((0 : Int) ≤ (i : Int) ∧ (i : Int) < (l.length : Int)) = true := decide_eq_true ⟨by omega, h1⟩
    have e0 : (i : Int).toNat = i := rfl
    rw [e0]
    have eg : l.getD i RequestD.dflt = l.getD i noR0 := rfl
    rw [eg]
    have hgo := run_at (x := fresh0) (l := l) (i := i) (by omega)
    obtain ⟨⟨n, hn, hG⟩, hS⟩ := hin i
    obtain ⟨okr, okf⟩ := (okL_of hL).2 (l.getD i noR0) (getD_mem (by omega))
    have okm := hG.ok.ok (by omega)
    have okR := hG.ok.okr (by omega) hS okr okf
    generalize l.getD i noR0 = r at hgo okr okR ⊢
    generalize runF fresh0 (l.take i) = y at hgo okm okR ⊢
    have hw : IntKind.i64.wrap ((i : Int) + 1) = ((i + 1 : Nat) : Int) := by rw [wrap_id (by omega) (by omega)]; rfl
    have hle : (i + 1).le l.length := by show i + 1 ≤ l.length; omega
    have hms : l.length.sub (i + 1) < l.length.sub i := by show l.length - (i + 1) < l.length - i; omega
    refine br_t bi ⟨⟨y, r⟩, rfl, rfl, rfl, rfl, rfl, rfl, rfl, rfl, rfl, rfl, rfl, rfl, rfl, rfl, rfl, rfl, rfl, rfl, rfl, rfl, rfl, rfl, rfl, rfl, rfl, rfl, rfl, ⟨okm, okr⟩, fun _ _ => br_t bi ⟨⟨y, r⟩, rfl, rfl, rfl, rfl, rfl, rfl, rfl, rfl, rfl, rfl, rfl, rfl, rfl, rfl, rfl, rfl, rfl, rfl, rfl, rfl, rfl, rfl, rfl, rfl, rfl, rfl, rfl, rfl, rfl, okR, fun _ _ => ⟨i + 1, hw, ?_⟩⟩⟩
    rw [hgo]
    exact (by repeat' (first | exact hle | exact hms | refine And.intro ?_ ?_ | rfl))
  · have h1 := of_decide_eq_false h1
    rw [List.take_of_length_le (by omega)]
    obtain ⟨⟨n0, hn0, hX⟩, _⟩ := hin l.length
    rw [List.take_length] at hX
    generalize runF fresh0 l = X at hX hin2 ⊢
    have okX := hX.ok.ok (by omega)
    have lkX := hX.ok.lk (by omega)
    refine ⟨X, rfl, rfl, rfl, rfl, rfl, rfl, rfl, rfl, rfl, rfl, rfl, rfl, rfl, rfl, rfl, rfl, okX, fun _ _ => ⟨X, rfl, rfl, rfl, rfl, rfl, rfl, rfl, rfl, rfl, rfl, rfl, rfl, rfl, rfl, rfl, rfl, rfl, rfl, trivial, fun _ _ => ⟨⟨0, (by repeat' (first | exact Nat.zero_le _ | refine And.intro ?_ ?_ | rfl))⟩, fun i hi _ => br_i (fun h1 => ?_) (fun h1 => ?_)⟩⟩⟩
    · have h1 := of_decide_eq_true h1
      have bi : decide ((0 : Int) ≤ (i : Int) ∧ (i : Int) < (k.length : Int)) = true := decide_eq_true ⟨by omega, h1⟩
      have e0 : (i : Int).toNat = i := rfl
      rw [e0]
      have eg : k.getD i RequestD.dflt = k.getD i noR0 := rfl
      rw [eg]
      have hgo := run_at (x := X) (l := k) (i := i) (by omega)
      obtain ⟨⟨n, hn, hG⟩, hS⟩ := hin2 i
      obtain ⟨okr, okf⟩ := (okL_of hK).2 (k.getD i noR0) (getD_mem (by omega))
      have okm := hG.ok.ok (by omega)
      have okR := hG.ok.okr (by omega) hS okr okf
      generalize k.getD i noR0 = r at hgo okr okR ⊢
      generalize runF X (k.take i) = y at hgo okm okR ⊢
      have hw : IntKind.i64.wrap ((i : Int) + 1) = ((i + 1 : Nat) : Int) := by rw [wrap_id (by omega) (by omega)]; rfl
      have hle : (i + 1).le k.length := by show i + 1 ≤ k.length; omega
      have hms : k.length.sub (i + 1) < k.length.sub i := by show k.length - (i + 1) < k.length - i; omega
      refine br_t bi ⟨⟨y, r⟩, rfl, rfl, rfl, rfl, rfl, rfl, rfl, rfl, rfl, rfl, rfl, rfl, rfl, rfl, rfl, rfl, rfl, rfl, rfl, rfl, rfl, rfl, rfl, rfl, rfl, rfl, rfl, ⟨okm, okr⟩, fun _ _ => br_t bi ⟨⟨y, r⟩, rfl, rfl, rfl, rfl, rfl, rfl, rfl, rfl, rfl, rfl, rfl, rfl, rfl, rfl, rfl, rfl, rfl, rfl, rfl, rfl, rfl, rfl, rfl, rfl, rfl, rfl, rfl, rfl, rfl, okR, fun _ _ => ⟨i + 1, hw, ?_⟩⟩⟩
      rw [hgo]
      exact (by repeat' (first | exact hle | exact hms | refine And.intro ?_ ?_ | rfl))
    · have h1 := of_decide_eq_false h1
      rw [List.take_of_length_le (by omega)]
      obtain ⟨⟨n1, hn1, hY⟩, _⟩ := hin2 k.length
      rw [List.take_length] at hY
      generalize runF X k = Y at hY ⊢
      have lkY := hY.ok.lk (by omega)
      exact ⟨X, rfl, rfl, rfl, rfl, rfl, rfl, rfl, rfl, rfl, rfl, rfl, rfl, rfl, rfl, rfl, rfl, rfl, rfl, rfl, rfl, rfl, rfl, rfl, rfl, rfl, rfl, rfl, rfl, rfl, rfl, rfl, rfl, rfl, rfl, lkX, fun _ _ => ⟨Y, rfl, rfl, rfl, rfl, rfl, rfl, rfl, rfl, rfl, rfl, rfl, rfl, rfl, rfl, rfl, rfl, rfl, rfl, rfl, rfl, rfl, rfl, rfl, rfl, rfl, rfl, rfl, rfl, rfl, rfl, rfl, rfl, rfl, rfl, lkY, fun _ _ => rfl⟩⟩
end Go.Proofs.YtgepebndihfnfaaGreat.Ses
