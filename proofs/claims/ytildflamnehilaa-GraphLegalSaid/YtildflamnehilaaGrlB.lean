/- A law of graphs: that it holds. No condition. -/
import Derived.Test.YtildflamnehilaaGrlA
set_option linter.unusedSimpArgs false
set_option linter.unusedVariables false

namespace Go.Proofs.Ytildflamnehilaa.Ses
open Go Go.Proofs Go.Proofs.Ytildflamnehilaa.Sx Go.Proofs.Ytildflamnehilaa.Trx

theorem lgl_ok : EnvOK lglE := glaw_ok
set_option maxHeartbeats 0 in
theorem lgl_body (l : DeeL) : evCall lglE (ev lglE 1000) 4 (deeArgs l) ⟨[], 0, []⟩ (fun _ _ => False) (fun v _ => TrueV v) := by
  rw [lgl_vc]
  revert l
  intro (l : List Deed5D)
  refine ⟨(), trivial, fun _ _ => ⟨l, rfl, trivial, fun _ _ => br_i (fun _ => rfl) fun hr => ⟨(), trivial, fun _ _ => ⟨⟨0, rfl, rfl, rfl, rfl, rfl, rfl, Nat.zero_le _⟩, fun i hi _ => br_i (fun h1 => ?_) (fun h1 => ?_)⟩⟩⟩⟩
  all_goals
    rw [Bool.not_eq_false'] at hr
    obtain ⟨r1, r2⟩ := roomG_of hr
  · have h1 := of_decide_eq_true h1
    have bi : decide ((0 : Int) ≤ (i : Int) ∧ (i : Int) < (l.length : Int)) = true := decide_eq_true ⟨by omega, h1⟩
    have hgo : landC ⟨goC (l.take i), (l.getD i noD).base, (l.getD i noD).ref, (l.getD i noD).l⟩ = goC (l.take (i + 1)) := (goC_at (by omega)).symm
    exact br_t bi (br_t bi (br_t bi ⟨⟨goC (l.take i), (l.getD i noD).base, (l.getD i noD).ref, (l.getD i noD).l⟩, rfl, rfl, rfl, rfl, rfl, rfl, rfl, rfl, ⟨go_few r1 i, r2 i (by omega)⟩, fun _ _ => ⟨i + 1, by rw [wrap_id (by omega) (by omega)]; rfl, rfl, congrArg List.length hgo, congrArg treeC hgo, hgo, congrArg kvC hgo, by show i + 1 ≤ l.length; omega, by show l.length - (i + 1) < l.length - i; omega⟩⟩))
  have h1 := of_decide_eq_false h1
  have hi : i ≤ l.length := hi
  have hfew := go_few r1 i
  rw [List.take_of_length_le (by omega)] at hfew ⊢
  have ho := goC_ok l (by omega)
  have hCl := ho.len
  have hok := ho.ok
  clear ho h1 hi r2 hr
  generalize goC l = C at hfew hok hCl ⊢
  refine ⟨C, rfl, rfl, rfl, rfl, rfl, hfew, fun _ _ => ⟨C, rfl, hok, fun _ _ => ⟨C, rfl, rfl, rfl, rfl, rfl, trivial, fun _ _ _ => br_f (by simp) ⟨C, rfl, rfl, rfl, rfl, rfl, hfew, fun _ _ => ⟨⟨0, rfl, Nat.zero_le _⟩, fun i hi hrl => br_i (fun h1 => ?_) (fun _ => rfl)⟩⟩⟩⟩⟩
  have hrl : (rowC C).length * 40 ≤ room47 := hrl
  simp only [room47] at hrl
  have h1 := of_decide_eq_true h1
  have bi : decide ((0 : Int) ≤ (i : Int) ∧ (i : Int) < ((rowC C).length : Int)) = true := decide_eq_true ⟨by omega, h1⟩
  have hx := getD_mem (l := rowC C) (d := noL) (i := i) (by omega)
  obtain ⟨x1, x2, x3⟩ := leaf_at hok hx
  have e0 : (i : Int).toNat = i := rfl
  rw [e0]
  generalize hxd : (rowC C).getD i noL = x at hx x1 x2 x3 ⊢
  refine ⟨⟨0, rfl, rfl, Nat.zero_le _⟩, fun k hk _ => br_i (fun h2 => ?_) (fun h2 => ?_)⟩
  · have h2 := of_decide_eq_true h2
    have bk : decide ((0 : Int) ≤ (k : Int) ∧ (k : Int) < (C.length : Int)) = true := decide_eq_true ⟨by omega, h2⟩
    have e1 : (k : Int).toNat = k := rfl
    rw [e1]
    have x3 := x3 k (by omega)
    have hks : lastK C x.path (k + 1) = lastJ (C.getD k noM) x.path (C.getD k noM).changes.length (lastK C x.path k) := lastK_suc
    have hjs : ∀ j w, j < (C.getD k noM).changes.length → lastJ (C.getD k noM) x.path (j + 1) w = bif ((C.getD k noM).changes.getD j noC).path == x.path then (C.getD k noM).rev else lastJ (C.getD k noM) x.path j w := fun j w hj => lastJ_suc hj
    generalize C.getD k noM = d at x3 hks hjs ⊢
    refine ⟨⟨0, rfl, rfl, Nat.zero_le _⟩, fun j hj => br_t bk fun hlj => br_i (fun h3 => ?_) (fun h3 => ?_)⟩
    · have hlj : d.changes.length * 32 ≤ room47 := hlj
      simp only [room47] at hlj
      have h3 := of_decide_eq_true h3
      have bj : decide ((0 : Int) ≤ (j : Int) ∧ (j : Int) < (d.changes.length : Int)) = true := decide_eq_true ⟨by omega, h3⟩
      have hs := hjs j (lastK C x.path k) (by omega)
      have e2 : (j : Int).toNat = j := rfl
      rw [e2]
      have hcm := getD_mem (l := d.changes) (d := noC) (i := j) (by omega)
      have hn : ∀ w', lastJ d x.path (j + 1) (lastK C x.path k) = w' → ∃ q : Nat, IntKind.i64.wrap ((j : Int) + 1) = (q : Int) ∧ w' = lastJ d x.path q (lastK C x.path k) ∧ Nat.le q d.changes.length ∧ Nat.sub d.changes.length q < Nat.sub d.changes.length j := fun w' hw =>
        ⟨j + 1, by rw [wrap_id (by omega) (by omega)]; rfl, hw.symm, by show j + 1 ≤ d.changes.length; omega, by show d.changes.length - (j + 1) < d.changes.length - j; omega⟩
      refine br_t bk (br_t bj (br_t bi (br_i (fun h4 => br_t bk (br_t bi (br_i (fun h5 => br_t bi (br_f ?_ (br_t bi (br_f ?_ (hn _ ?_))))) (fun h5 => hn _ ?_)))) (fun h4 => hn _ ?_))))
      · have := (x3 (eq_of_beq h5) _ hcm (eq_of_beq h4)).1
        show ((d.changes.getD j noC).digest != x.digest) = false
        rw [this]; simp
      · have := (x3 (eq_of_beq h5) _ hcm (eq_of_beq h4)).2
        show (!((d.changes.getD j noC).gone == x.gone)) = false
        rw [this]; simp
      · rw [hs, show ((d.changes.getD j noC).path == x.path) = true from h4]; rfl
      · rw [hs, show ((d.changes.getD j noC).path == x.path) = true from h4]; rfl
      · rw [hs, show ((d.changes.getD j noC).path == x.path) = false from h4]; rfl
    · have h3 := of_decide_eq_false h3
      have hj : j ≤ d.changes.length := hj
      have : j = d.changes.length := by omega
      subst this
      exact ⟨k + 1, by rw [wrap_id (by omega) (by omega)]; rfl, hks.symm, by show k + 1 ≤ C.length; omega, by show C.length - (k + 1) < C.length - k; omega⟩
  · have h2 := of_decide_eq_false h2
    have hk : k ≤ C.length := hk
    have hkl : k = C.length := by omega
    have hlk : lastK C x.path k = x.rev := by
      rw [hkl]
      unfold lastK
      rw [x1]; rfl
    rw [hlk]
    exact br_t bi (br_f (by simp) (br_f (by simpa using x2) ⟨i + 1, by rw [wrap_id (by omega) (by omega)]; rfl, by show i + 1 ≤ (rowC C).length; omega, by show (rowC C).length - (i + 1) < (rowC C).length - i; omega⟩))
end Go.Proofs.Ytildflamnehilaa.Ses
