/- A law of graphs: that it holds. No condition. -/
import Derived.Test.YtildflamnehilaaGrlA
set_option linter.unusedSimpArgs false
set_option linter.unusedVariables false

namespace Go.Proofs.Ytildflamnehilaa.Ses
open Go Go.Proofs Go.Proofs.Ytildflamnehilaa.Sx Go.Proofs.Ytildflamnehilaa.Trx

theorem eqM_self (c : CommitD) : eqM c c = true := by
  unfold eqM
  rw [sameC_self]; simp
theorem sameM_self (l : List CommitD) : sameM l l = true := by
  unfold sameM
  have h1 : Nat.beq l.length l.length = true := by simp
  rw [h1, Bool.true_and, List.all_eq_true]
  intro x hx
  obtain ⟨i, hi⟩ := List.mem_iff_getElem?.1 hx
  rw [List.getElem?_zipWith] at hi
  cases hl : l[i]? with
  | none => rw [hl] at hi; cases hi
  | some y =>
    rw [hl] at hi
    have hi : eqM y y = x := by simpa using hi
    show x = true
    rw [← hi]
    exact eqM_self y
theorem eqV_self (v : VerdictD) : eqV v v = true := by
  unfold eqV
  rw [sameM_self]; simp
theorem hitV_suc {C : List CommitD} {b : Int} {p : Bs} {k : Nat} {w : VerdictD} (h : b ≤ k) : hitV C b p (k + 1) w = hitJ (C.getD k noM) p (C.getD k noM).changes.length (hitV C b p k w) := by
  unfold hitV hitJ
  rw [hit_suc, decide_eq_true h, Bool.true_and, List.take_length]
  show _ = bif hasP p (C.getD k noM) then _ else _
  cases hasP p (C.getD k noM) <;> rfl
theorem hitJ_suc {c : CommitD} {p : Bs} {j : Nat} {w : VerdictD} (h : j < c.changes.length) : hitJ c p (j + 1) w = bif (c.changes.getD j noC).path == p then vC 3 c.rev p else hitJ c p j w := by
  unfold hitJ
  rw [take_succ_getD noC h, List.any_append]
  simp only [List.any_cons, List.any_nil, Bool.or_false]
  cases ((c.changes.getD j noC).path == p) <;> cases (c.changes.take j).any (fun x => x.path == p) <;> rfl
theorem want_cons {C : List CommitD} {b : Int} {S : List ChangeD} {z : Nat} (h : z < S.length) : wantV C b (S.drop z) = hitV C b (S.getD z noC).path C.length (wantV C b (S.drop (z + 1))) := by
  rw [dropC h]
  rfl
theorem want_eq {C : List CommitD} (h : OkC C) {ch : List ChangeD} (hc : chkC ch = 0) {b : Nat} (hb : b ≤ C.length) : landV ⟨C, b, [], ch⟩ = wantV C b (insS ch) := by
  have hbad : badLd ⟨C, b, [], ch⟩ = false := by
    unfold badLd
    dsimp only
    rw [hc]
    have : decide ((b : Int) < 0) = false := decide_eq_false (by omega)
    rw [this]; rfl
  have key : ∀ s : List ChangeD, (match confL (rowC C) b s with
      | some q => vC 3 q.2 q.1
      | none => vC 2 ((C.length : Int) + 1) []) = wantV C b s := by
    intro s
    induction s with
    | nil => rfl
    | cons c r ih =>
      have hr := hit_row h b c.path
      unfold confL wantV
      rw [hr, ← ih]
      cases getL c.path (rowC C) with
      | none => rfl
      | some x =>
        dsimp only
        cases decide (x.rev > (b : Int)) <;> rfl
  have := key (insS ch)
  unfold landV
  rw [hbad, decide_eq_false (show ¬ (b : Int) > (C.length : Int) by omega)]
  rw [← this]
  unfold confA
  dsimp only
  cases confL (rowC C) (b : Int) (insS ch) <;> rfl
theorem mod_in (a : Int) {n : Nat} (hn : n ≤ 4000) : ∃ b : Nat, Int.tmod (IntKind.i64.wrap (IntKind.i64.wrap (Int.tmod a (IntKind.i64.wrap ((n : Int) + 1)) + (n : Int)) + 1)) (IntKind.i64.wrap ((n : Int) + 1)) = (b : Int) ∧ b ≤ n := by
  rw [wrap_id (n := (n : Int) + 1) (by omega) (by omega)]
  have h1 := Int.tmod_lt_of_pos a (show (0 : Int) < (n : Int) + 1 by omega)
  have h2 := Int.lt_tmod_of_pos a (show (0 : Int) < (n : Int) + 1 by omega)
  rw [wrap_id (n := Int.tmod a ((n : Int) + 1) + (n : Int)) (by omega) (by omega), wrap_id (by omega) (by omega)]
  have h3 := Int.tmod_nonneg (a := Int.tmod a ((n : Int) + 1) + (n : Int) + 1) ((n : Int) + 1) (by omega)
  have h4 := Int.tmod_lt_of_pos (Int.tmod a ((n : Int) + 1) + (n : Int) + 1) (show (0 : Int) < (n : Int) + 1 by omega)
  obtain ⟨b, hb⟩ := Int.eq_ofNat_of_zero_le h3
  exact ⟨b, hb, by omega⟩
theorem con_ok : EnvOK conE := glaw_ok
set_option maxHeartbeats 0 in
theorem con_body (x : ConA) : evCall conE (ev conE 1000) 3 (conArgs x) ⟨[], 0, []⟩ (fun _ _ => False) (fun v _ => TrueV v) := by
  rw [con_vc]
  obtain ⟨l, base, ch⟩ := x
  dsimp only
  refine ⟨(), trivial, fun _ _ => ⟨l, rfl, trivial, fun _ _ => br_i (fun _ => rfl) fun hr => ⟨[⟨0, [], ch⟩], by simp, rfl, trivial, fun _ _ => br_i (fun _ => rfl) fun hr2 => ?_⟩⟩⟩
  rw [Bool.not_eq_false'] at hr hr2
  obtain ⟨r1, r2⟩ := roomG_of hr
  have hsh : shortC ch = true := (roomG_of hr2).2 0 (by simp)
  refine ⟨ch, rfl, hsh, fun _ _ => br_i (fun _ => rfl) fun hck => ⟨(), trivial, fun _ _ => ⟨⟨0, rfl, rfl, rfl, rfl, rfl, rfl, Nat.zero_le _⟩, fun i hi _ => br_i (fun h1 => ?_) (fun h1 => ?_)⟩⟩⟩
  · have h1 := of_decide_eq_true h1
    have bi : decide ((0 : Int) ≤ (i : Int) ∧ (i : Int) < (l.length : Int)) = true := decide_eq_true ⟨by omega, h1⟩
    have hgo : landC ⟨goC (l.take i), (l.getD i noD).base, (l.getD i noD).ref, (l.getD i noD).l⟩ = goC (l.take (i + 1)) := (goC_at (by omega)).symm
    exact br_t bi (br_t bi (br_t bi ⟨⟨goC (l.take i), (l.getD i noD).base, (l.getD i noD).ref, (l.getD i noD).l⟩, rfl, rfl, rfl, rfl, rfl, rfl, rfl, rfl, ⟨go_few r1 i, r2 i (by omega)⟩, fun _ _ => ⟨i + 1, by rw [wrap_id (by omega) (by omega)]; rfl, rfl, congrArg List.length hgo, congrArg treeC hgo, hgo, congrArg kvC hgo, by show i + 1 ≤ l.length; omega, by show l.length - (i + 1) < l.length - i; omega⟩⟩))
  have h1 := of_decide_eq_false h1
  have hi : i ≤ l.length := hi
  have hck : chkC ch = 0 := by simpa using hck
  have hfew := go_few r1 i
  rw [List.take_of_length_le (by omega)] at hfew ⊢
  have ho := goC_ok l (by omega)
  have hCl := ho.len
  have hok := ho.ok
  have hchl := (chk_few hck).1
  have hfx : fewX ch = true := decide_eq_true (by omega)
  clear ho h1 hi r2 hr hr2
  generalize goC l = C at hfew hok hCl ⊢
  have hnz : (IntKind.i64.wrap ((C.length : Int) + 1) != 0) = true := by
    rw [wrap_id (by omega) (by omega)]
    simp
    omega
  refine ⟨C, rfl, rfl, rfl, rfl, rfl, trivial, fun _ _ => br_t hnz ⟨C, rfl, rfl, rfl, rfl, rfl, trivial, fun _ _ => ⟨C, rfl, rfl, rfl, rfl, rfl, trivial, fun _ _ => br_t hnz ⟨C, rfl, rfl, rfl, rfl, rfl, hfew, fun _ _ => ⟨ch, rfl, ⟨hsh, hfx⟩, fun _ _ => ⟨C, rfl, rfl, rfl, rfl, rfl, trivial, fun _ _ _ => ?_⟩⟩⟩⟩⟩⟩
  obtain ⟨b, hb, hbn⟩ := mod_in base (n := C.length) (by omega)
  rw [hb]
  have hw : IntKind.i64.wrap ((C.length : Int) + 1) = (C.length : Int) + 1 := wrap_id (by omega) (by omega)
  rw [hw]
  have hfin : landV ⟨C, b, [], ch⟩ = wantV C b (insS ch) := want_eq hok hck hbn
  have hsl := insS_len ch
  generalize insS ch = S at hsl hfin ⊢
  refine ⟨⟨⟨0, vC 2 ((C.length : Int) + 1) []⟩, by rw [wrap_id (by omega) (by omega)]; show (ch.length : Int) - 1 = (S.length : Int) - 1 - ((0 : Nat) : Int); omega, rfl, rfl, rfl, rfl, rfl, rfl, rfl, Nat.zero_le _, ?_⟩, fun x hx => br_i (fun h2 => ?_) (fun h2 => ?_)⟩
  · show _ = wantV C b (S.drop (S.length - 0))
    rw [Nat.sub_zero, List.drop_length]
    rfl
  · obtain ⟨x1, x2⟩ := hx
    have h2 := of_decide_eq_true h2
    obtain ⟨z, hz⟩ : ∃ z : Nat, (S.length : Int) - 1 - (x.k : Int) = (z : Int) := ⟨((S.length : Int) - 1 - (x.k : Int)).toNat, by omega⟩
    rw [hz]
    have e0 : (z : Int).toNat = z := rfl
    rw [e0]
    have e1 : 0 + z = z := by omega
    rw [e1]
    have hzl : z < S.length := by omega
    have bz : decide ((0 : Int) ≤ (z : Int) ∧ (z : Int) < (ch.length : Int)) = true := decide_eq_true ⟨by omega, by omega⟩
    have dz : decide (z < S.length) = true := decide_eq_true hzl
    have hwant := want_cons (C := C) (b := b) hzl
    rw [show S.length - x.k = z + 1 by omega] at x2
    rw [← x2] at hwant
    obtain ⟨xk, xw⟩ := x
    dsimp only at x1 x2 hwant hz ⊢
    have hp : (S.getD z ⟨[], false, 0⟩).path = (S.getD z noC).path := rfl
    rw [hp]
    generalize (S.getD z noC).path = p at hwant ⊢
    refine ⟨⟨⟨b, xw⟩, rfl, rfl, rfl, rfl, rfl, rfl, rfl, rfl, ⟨Int.le_refl _, hbn⟩, ?_⟩, fun y hy _ => br_i (fun h3 => ?_) (fun h3 => ?_)⟩
    · show xw = hitV C b p b xw
      unfold hitV
      rw [hit_low (Int.le_refl _)]
    · obtain ⟨yk, yw⟩ := y
      obtain ⟨⟨y1, y2⟩, y3⟩ := hy
      have y3 : yw = hitV C b p yk xw := y3
      dsimp only at y1 y2 h3 ⊢
      have h3 := of_decide_eq_true h3
      have bk : decide ((0 : Int) ≤ (yk : Int) ∧ (yk : Int) < (C.length : Int)) = true := decide_eq_true ⟨by omega, h3⟩
      have e2 : (yk : Int).toNat = yk := rfl
      rw [e2]
      have hstep := hitV_suc (C := C) (b := b) (p := p) (k := yk) (w := xw) y1
      rw [← y3] at hstep
      have hj : ∀ j, j < (C.getD yk noM).changes.length → hitJ (C.getD yk noM) p (j + 1) yw = bif ((C.getD yk noM).changes.getD j noC).path == p then vC 3 (C.getD yk noM).rev p else hitJ (C.getD yk noM) p j yw := fun j hj => hitJ_suc hj
      generalize C.getD yk noM = d at hstep hj ⊢
      refine ⟨⟨⟨0, yw⟩, rfl, rfl, rfl, rfl, rfl, rfl, rfl, rfl, Nat.zero_le _, rfl⟩, fun v hv => br_t bk fun hlv => br_i (fun h4 => ?_) (fun h4 => ?_)⟩
      · obtain ⟨vk, vw⟩ := v
        obtain ⟨v1, v2⟩ := hv
        have v2 : vw = hitJ d p vk yw := v2
        dsimp only at v1 h4 ⊢
        have hlv : d.changes.length * 32 ≤ room47 := hlv
        simp only [room47] at hlv
        have h4 := of_decide_eq_true h4
        have bv : decide ((0 : Int) ≤ (vk : Int) ∧ (vk : Int) < (d.changes.length : Int)) = true := decide_eq_true ⟨by omega, h4⟩
        have hs := hj vk (by omega)
        rw [← v2] at hs
        refine br_t bk (br_t bv (br_t bz (br_t dz (br_i (fun h5 => br_t bz (br_t dz (br_t bk ⟨⟨vk + 1, vC 3 d.rev p⟩, by rw [wrap_id (by omega) (by omega)]; rfl, rfl, rfl, rfl, rfl, rfl, rfl, rfl, ⟨by show vk + 1 ≤ d.changes.length; omega, ?_⟩, by show d.changes.length - (vk + 1) < d.changes.length - vk; omega⟩))) (fun h5 => ⟨⟨vk + 1, vw⟩, by rw [wrap_id (by omega) (by omega)]; rfl, rfl, rfl, rfl, rfl, rfl, rfl, rfl, ⟨by show vk + 1 ≤ d.changes.length; omega, ?_⟩, by show d.changes.length - (vk + 1) < d.changes.length - vk; omega⟩)))))
        · show vC 3 d.rev p = hitJ d p (vk + 1) yw
          rw [hs, show ((d.changes.getD vk noC).path == p) = true from h5]; rfl
        · show vw = hitJ d p (vk + 1) yw
          rw [hs, show ((d.changes.getD vk noC).path == p) = false from h5]; rfl
      · obtain ⟨vk, vw⟩ := v
        obtain ⟨v1, v2⟩ := hv
        have v2 : vw = hitJ d p vk yw := v2
        dsimp only at v1 h4 ⊢
        have h4 := of_decide_eq_false h4
        have : vk = d.changes.length := by omega
        subst this
        refine ⟨⟨yk + 1, vw⟩, by rw [wrap_id (by omega) (by omega)]; rfl, rfl, rfl, rfl, rfl, rfl, rfl, rfl, ⟨⟨by show (b : Int) ≤ ((yk + 1 : Nat) : Int); omega, by show yk + 1 ≤ C.length; omega⟩, ?_⟩, by show C.length - (yk + 1) < C.length - yk; omega⟩
        show vw = hitV C b p (yk + 1) xw
        rw [hstep, v2]
    · obtain ⟨yk, yw⟩ := y
      obtain ⟨⟨y1, y2⟩, y3⟩ := hy
      have y3 : yw = hitV C b p yk xw := y3
      dsimp only at y1 y2 h3 ⊢
      have h3 := of_decide_eq_false h3
      have : yk = C.length := by omega
      subst this
      refine ⟨⟨xk + 1, yw⟩, by rw [wrap_id (by omega) (by omega)]; show (z : Int) - 1 = (S.length : Int) - 1 - ((xk + 1 : Nat) : Int); omega, rfl, rfl, rfl, rfl, rfl, rfl, rfl, ⟨by show xk + 1 ≤ S.length; omega, ?_⟩, by show S.length - (xk + 1) < S.length - xk; omega⟩
      show yw = wantV C b (S.drop (S.length - (xk + 1)))
      rw [show S.length - (xk + 1) = z by omega, hwant, y3]
  · obtain ⟨xk, xw⟩ := x
    obtain ⟨x1, x2⟩ := hx
    dsimp only at x1 x2 h2 ⊢
    have h2 := of_decide_eq_false h2
    rw [show S.length - xk = 0 by omega, List.drop_zero] at x2
    refine ⟨⟨C, b, [], ch⟩, rfl, rfl, rfl, rfl, rfl, rfl, rfl, rfl, ⟨hfew, hsh⟩, fun _ _ => ⟨⟨landV ⟨C, b, [], ch⟩, xw⟩, rfl, rfl, rfl, rfl, rfl, rfl, rfl, rfl, rfl, rfl, rfl, rfl, rfl, rfl, trivial, fun _ _ => ?_⟩⟩
    show eqV (landV ⟨C, b, [], ch⟩) xw = true
    rw [hfin, x2]
    exact eqV_self _
end Go.Proofs.Ytildflamnehilaa.Ses
