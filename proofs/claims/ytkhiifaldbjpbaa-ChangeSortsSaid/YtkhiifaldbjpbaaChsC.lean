/- That sorting by merging holds. No condition. -/
import Derived.Test.YtkhiifaldbjpbaaChsB
set_option linter.unusedSimpArgs false
set_option linter.unusedVariables false

namespace Go.Proofs.Ytkhiifaldbjpbaa.Ses
open Go Go.Proofs Go.Proofs.Ytkhiifaldbjpbaa.Sx

theorem swpL_len {x : SwpA} (h : x.U.length = x.V.length) {i : Nat} (hi : i ≤ x.U.length) : (swpL x i).length = x.l.length := by
  simp [swpL, SwpA.l]
  omega
theorem swp_ok : SpecOK Try.prog 105 swpT.spec := by
  refine Tri.ok (E := swpE) (Env_ok (by decide +kernel) (by simp)) (n := 1000) swpT fun x hx => ?_
  rw [swp_vc]
  revert hx
  revert x
  intro (x : SwpA) (hp : x.U.length = x.V.length ∧ x.l.length ≤ 100000)
  have hl : x.l.length = x.P.length + (x.U.length + (x.W.length + (x.V.length + x.Q.length))) := by simp [SwpA.l]
  simp only [Int.toNat_natCast, swpOf_l x hp.1, Nat.zero_add]
  refine ⟨⟨0, rfl, by simp [swpL, SwpA.l], Nat.zero_le _⟩, fun i hi => br_i (fun h1 => ?_) (fun h1 => ⟨(), ?_, trivial⟩)⟩
  · have h1 : (i : Int) < x.U.length := of_decide_eq_true h1
    have hi' : i < x.U.length := by omega
    have hlen := swpL_len hp.1 (Nat.le_of_lt hi')
    have w1 : IntKind.i64.wrap (((x.P.length : Nat) : Int) + (i : Int)) = ((x.P.length + i : Nat) : Int) := by rw [wrap_id (by omega) (by omega)]; omega
    have w2 : IntKind.i64.wrap (((x.P.length + (x.U.length + x.W.length) : Nat) : Int) + (i : Int)) = ((x.P.length + (x.U.length + x.W.length) + i : Nat) : Int) := by rw [wrap_id (by omega) (by omega)]; omega
    rw [w1, w2]
    simp only [Int.toNat_natCast, List.length_set, hlen, Bool.true_and]
    have c1 : decide ((0 : Int) ≤ ((x.P.length + i : Nat) : Int) ∧ ((x.P.length + i : Nat) : Int) < (x.l.length : Int)) = true := decide_eq_true ⟨by omega, by omega⟩
    have c2 : decide ((0 : Int) ≤ ((x.P.length + (x.U.length + x.W.length) + i : Nat) : Int) ∧ ((x.P.length + (x.U.length + x.W.length) + i : Nat) : Int) < (x.l.length : Int)) = true := decide_eq_true ⟨by omega, by omega⟩
    have d1 : decide (x.P.length + i < x.l.length) = true := decide_eq_true (by omega)
    have d2 : decide (x.P.length + (x.U.length + x.W.length) + i < x.l.length) = true := decide_eq_true (by omega)
    refine br_t c2 (br_t d2 (br_t c1 (br_t d1 (br_t c1 (br_t d1 (br_t c2 (br_t d2 ⟨i + 1, by rw [wrap_id (by omega) (by omega)]; rfl, ?_, by show i + 1 ≤ x.U.length; omega, by show x.U.length - (i + 1) < x.U.length - i; omega⟩)))))))
    show ((swpL x i).set (x.P.length + i) ((swpL x i).getD (x.P.length + (x.U.length + x.W.length) + i) noC)).set (x.P.length + (x.U.length + x.W.length) + i) ((swpL x i).getD (x.P.length + i) noC) = swpL x (i + 1)
    have hn : x.P.length + i = (x.P ++ x.V.take i).length := by simp; omega
    have hk : x.P.length + (x.U.length + x.W.length) + i = (x.P ++ x.V.take i).length + (x.U.drop (i + 1) ++ (x.W ++ x.U.take i)).length + 1 := by simp; omega
    rw [swpL_at hp.1 hi', two_get1 _ _ _ _ _ hn, two_get2 _ _ _ _ _ hk, two_set _ _ _ _ _ _ _ hn hk, swpL_suc hp.1 hi']
  · have h1 : ¬ (i : Int) < x.U.length := of_decide_eq_false h1
    have hi : i ≤ x.U.length := hi
    have e : i = x.U.length := by omega
    subst e
    unfold swpL
    rw [List.take_length, List.drop_length, List.take_of_length_le (by omega), List.drop_of_length_le (by omega)]
    simp

theorem ne_nil {l : List ChangeD} (h : 0 < l.length) : l ≠ [] := fun e => by rw [e] at h; exact absurd h (by simp)
theorem rot_ok : SpecOK Try.prog 102 rotT.spec := by
  refine Tri.ok (E := rotE) (Env_ok (by decide +kernel) (by simp [swp_ok])) (n := 1000) rotT fun x hx => ?_
  rw [rot_vc]
  revert hx
  revert x
  intro (x : RotA) (hp : (x.U ≠ [] ∧ x.V ≠ []) ∧ x.l.length ≤ 100000)
  have hl : x.l.length = x.P.length + (x.U.length + (x.V.length + x.Q.length)) := by simp [RotA.l]
  simp only [Int.toNat_natCast, rotOf_l x, Nat.zero_add]
  refine ⟨⟨x, by rw [wrap_id (by omega) (by omega)]; omega, by rw [wrap_id (by omega) (by omega)]; omega, rfl, rfl, rfl, hp.1.1, hp.1.2⟩, fun y hy => ?_⟩
  obtain ⟨hr, hm, hU, hV⟩ := hy
  have hyl : y.l.length = x.l.length := by
    have h5 := congrArg List.length hr
    simp [RotA.r] at h5
    simp [RotA.l]
    omega
  have hyl2 : y.l.length = y.P.length + (y.U.length + (y.V.length + y.Q.length)) := by simp [RotA.l]
  have pU : 0 < y.U.length := List.length_pos_iff.2 hU
  have pV : 0 < y.V.length := List.length_pos_iff.2 hV
  have e1 : IntKind.i64.wrap (((x.P.length + x.U.length : Nat) : Int) - (y.U.length : Int)) = (y.P.length : Int) := by rw [wrap_id (by omega) (by omega)]; omega
  refine br_i (fun h1 => br_i (fun h2 => ?_) (fun h2 => ?_)) (fun h1 => ?_)
  · have h2 : (y.U.length : Int) > y.V.length := of_decide_eq_true h2
    have t1 : (y.U.take y.V.length).length = y.V.length := by rw [List.length_take]; omega
    have t2 : (y.U.drop y.V.length).length = y.U.length - y.V.length := List.length_drop
    refine ⟨⟨y.P, y.U.take y.V.length, y.U.drop y.V.length, y.V, y.Q⟩, trivial, ?_, e1, by dsimp only; rw [t1, t2]; omega, by rw [t1], ?_, ⟨t1, ?_⟩, fun _ _ => ⟨⟨y.P ++ y.V, y.U.drop y.V.length, y.U.take y.V.length, y.Q⟩, by rw [wrap_id (by omega) (by omega), t2]; omega, by rw [t1], by simp [RotA.l], ⟨?_, ?_, ne_nil (by show 0 < (y.U.drop y.V.length).length; omega), ne_nil (by show 0 < (y.U.take y.V.length).length; omega)⟩, by show (y.U.drop y.V.length).length + (y.U.take y.V.length).length < y.U.length + y.V.length; omega⟩⟩
    · rw [← hyl]; simp [RotA.l, SwpA.l]; omega
    · simp only [RotA.l, SwpA.l]; rw [← List.append_assoc (y.U.take _), List.take_append_drop]
    · simp only [SwpA.l, List.length_append]; omega
    · rw [← hr]; simp only [RotA.r]; rw [List.append_assoc, ← List.append_assoc (y.U.take _), List.take_append_drop]
    · show (y.P ++ y.V).length + (y.U.drop y.V.length).length = _; rw [List.length_append, t2]; omega
  · have h2 : ¬ (y.U.length : Int) > y.V.length := of_decide_eq_false h2
    have h1 : ¬ (y.U.length : Int) = y.V.length := by simpa using h1
    have t1 : (y.V.take (y.V.length - y.U.length)).length = y.V.length - y.U.length := by rw [List.length_take]; omega
    have t2 : (y.V.drop (y.V.length - y.U.length)).length = y.U.length := by rw [List.length_drop]; omega
    refine ⟨⟨y.P, y.U, y.V.take (y.V.length - y.U.length), y.V.drop (y.V.length - y.U.length), y.Q⟩, trivial, ?_, e1, by dsimp only; rw [t1, wrap_id (n := ((x.P.length + x.U.length : Nat) : Int) + (y.V.length : Int)) (by omega) (by omega), wrap_id (by omega) (by omega)]; omega, rfl, ?_, ⟨t2.symm, ?_⟩, fun _ _ => ⟨⟨y.P, y.V.drop (y.V.length - y.U.length), y.V.take (y.V.length - y.U.length), y.U ++ y.Q⟩, by rw [t2], by rw [wrap_id (by omega) (by omega), t1]; omega, by simp [RotA.l], ⟨?_, ?_, ne_nil (by show 0 < (y.V.drop (y.V.length - y.U.length)).length; omega), ne_nil (by show 0 < (y.V.take (y.V.length - y.U.length)).length; omega)⟩, by show (y.V.drop (y.V.length - y.U.length)).length + (y.V.take (y.V.length - y.U.length)).length < y.U.length + y.V.length; omega⟩⟩
    · rw [← hyl]; simp [RotA.l, SwpA.l]; omega
    · simp only [RotA.l, SwpA.l]; rw [← List.append_assoc (y.V.take _), List.take_append_drop]
    · simp only [SwpA.l, List.length_append]; omega
    · rw [← hr]; simp only [RotA.r]; rw [← List.append_assoc (y.V.take _), List.take_append_drop]
    · show y.P.length + (y.V.drop (y.V.length - y.U.length)).length = _; omega
  · have h1 : (y.U.length : Int) = y.V.length := by simpa using h1
    refine ⟨⟨y.P, y.U, [], y.V, y.Q⟩, trivial, by rw [← hyl]; simp [RotA.l, SwpA.l], e1, by simp; omega, rfl, rfl, ⟨by show y.U.length = y.V.length; omega, by simp only [SwpA.l, List.length_append, List.length_nil]; omega⟩, fun _ _ => ⟨(), ?_, trivial⟩⟩
    exact hr
end Go.Proofs.Ytkhiifaldbjpbaa.Ses

namespace Go.Proofs.Ytkhiifaldbjpbaa.Ses
open Go Go.Proofs Go.Proofs.Ytkhiifaldbjpbaa.Sx

theorem wrapU {n : Int} (h1 : 0 ≤ n) (h2 : n ≤ 18446744073709551615) : IntKind.u64.wrap n = n := by
  unfold IntKind.wrap
  simp [IntKind.signed, IntKind.bits]
  omega
theorem half {a b : Nat} (h : a + b ≤ 1000000) : IntKind.i64.wrap (Int.fdiv (IntKind.u64.wrap (IntKind.i64.wrap ((a : Int) + (b : Int)))) ((2 : Int) ^ (min (Int.toNat 1) IntKind.u64.bits))) = (((a + b) / 2 : Nat) : Int) := by
  have e : (2 : Int) ^ (min (Int.toNat 1) IntKind.u64.bits) = 2 := rfl
  rw [wrap_id (n := (a : Int) + b) (by omega) (by omega), wrapU (by omega) (by omega), e, Int.fdiv_eq_ediv_of_nonneg _ (by omega), wrap_id (by omega) (by omega)]
  omega
theorem mrg1_len {l : List ChangeD} {a b k : Nat} (ha : a < b) (hl : b ≤ l.length) : (mrg1 l a b k).length = l.length := by
  unfold mrg1
  simp only [List.length_append, List.length_take, List.length_cons, List.length_drop, sliceL_len hl]
  omega
theorem mrg2_len {l : List ChangeD} {a m k : Nat} (ha : a ≤ m) (hl : m < l.length) : (mrg2 l a m k).length = l.length := by
  unfold mrg2
  simp only [List.length_append, List.length_take, List.length_cons, List.length_drop, sliceL_len (Nat.le_of_lt hl)]
  omega
theorem mrg1_start {l : List ChangeD} {a b : Nat} (ha : a < b) (hl : b ≤ l.length) : mrg1 l a b a = l := by
  have e := sliceL_split (l := l) (a := a) (m := a + 1) (b := b) (by omega) ha hl
  rw [sliceL_snoc (Nat.le_refl _) (by omega)] at e
  have e0 : sliceL l a a = [] := List.eq_nil_of_length_eq_zero (by rw [sliceL_len (by omega)]; omega)
  have e2 := midL_self (Nat.le_of_lt ha) hl
  rw [e, e0] at e2
  unfold mrg1
  rw [Nat.sub_self]
  conv => rhs; rw [← e2]
  unfold midL
  simp
theorem mrg2_start {l : List ChangeD} {a m : Nat} (ha : a ≤ m) (hl : m < l.length) : mrg2 l a m m = l := by
  have e := sliceL_snoc (l := l) ha hl
  have e2 := midL_self (l := l) (a := a) (b := m + 1) (by omega) hl
  rw [e] at e2
  unfold mrg2
  have hk : (sliceL l a m).length ≤ m - a := by rw [sliceL_len (Nat.le_of_lt hl)]; exact Nat.le_refl _
  rw [List.take_of_length_le hk, List.drop_of_length_le hk]
  conv => rhs; rw [← e2]
  unfold midL
  simp
set_option maxHeartbeats 0 in
set_option maxRecDepth 20000 in
theorem mrg_body (n : Nat) (x : (mrgS n).γ) (hx : (mrgS n).pre x) : evCall bareE (ev (mrgE n) 1000) 97 ((mrgS n).args x) ⟨(mrgS n).blks x, (mrgS n).n0, []⟩ (fun _ _ => False) ((mrgS n).ends x) := by
  rw [mrg_vc n x]
  revert hx
  revert x
  intro (x : MrgA) (hp : ((x.U ≠ [] ∧ x.V ≠ []) ∧ x.l.length ≤ 100000) ∧ srtC x.U ∧ srtC x.V ∧ x.U.length + x.V.length < n + 1)
  obtain ⟨⟨⟨hU, hV⟩, hlim⟩, hsU, hsV, hlt⟩ := hp
  have pU : 0 < x.U.length := List.length_pos_iff.2 hU
  have pV : 0 < x.V.length := List.length_pos_iff.2 hV
  have hl := (mrgOf x).len
  simp only [Int.toNat_natCast, Nat.zero_add]
  refine br_i (fun h1 => ?_) (fun h1 => br_i (fun h2 => ?_) (fun h2 => ?_))
  · have hU1 : x.U.length = 1 := by
      have h5 : IntKind.i64.wrap (((x.P.length + x.U.length : Nat) : Int) - (x.P.length : Int)) = 1 := by simpa using h1
      rw [wrap_id (by omega) (by omega)] at h5
      omega
    refine ⟨⟨⟨x.P.length + x.U.length, x.P.length + (x.U.length + x.V.length)⟩, rfl, rfl, ⟨Nat.le_refl _, by dsimp only; omega, Nat.le_refl _⟩, fun h => absurd h (Nat.lt_irrefl _), fun h => absurd h (Nat.lt_irrefl _)⟩, fun y hy => br_i (fun h3 => ?_) (fun h3 => ?_)⟩
    · obtain ⟨⟨i1, i2, i3⟩, i4, i5⟩ := hy
      have h3 : (y.i : Int) < y.j := of_decide_eq_true h3
      have hh := half (a := y.i) (b := y.j) (by omega)
      rw [hh]
      generalize hc : (y.i + y.j) / 2 = c
      have hc1 : y.i ≤ c ∧ c < y.j := by omega
      simp only [Int.toNat_natCast, Nat.zero_add]
      exact br_t (decide_eq_true ⟨by omega, by omega⟩) (br_t (decide_eq_true (by omega)) (br_t (decide_eq_true ⟨by omega, by omega⟩) (br_t (decide_eq_true (by omega)) ⟨⟨(x.l.getD c noC).path, (x.l.getD x.P.length noC).path⟩, rfl, rfl, trivial, fun _ _ => br_i
        (fun g => ⟨⟨c + 1, y.j⟩, by rw [wrap_id (by omega) (by omega)]; rfl, rfl, ⟨⟨by show _ ≤ c + 1; omega, by show c + 1 ≤ y.j; omega, i3⟩, fun _ => of_decide_eq_true g, i5⟩, by show y.j - (c + 1) < y.j - y.i; omega⟩)
        (fun g => ⟨⟨y.i, c⟩, rfl, rfl, ⟨⟨i1, by show y.i ≤ c; omega, by show c ≤ _; omega⟩, i4, fun _ => of_decide_eq_false g⟩, by show c - y.i < y.j - y.i; omega⟩)⟩)))
    · obtain ⟨⟨i1, i2, i3⟩, i4, i5⟩ := hy
      have h3 : ¬ (y.i : Int) < y.j := of_decide_eq_false h3
      have hij : y.j = y.i := by omega
      rw [hij] at i3 i5
      refine ⟨⟨x.P.length, rfl, (mrg1_start (by omega) (by omega)).symm, Nat.le_refl _, by omega⟩, fun k hk => br_i (fun h4 => ?_) (fun h4 => ⟨(), ?_, trivial⟩)⟩
      · have h4 := of_decide_eq_true h4
        rw [wrap_id (n := (y.i : Int) - 1) (by omega) (by omega)] at h4
        obtain ⟨k1, k2⟩ := hk
        have w : IntKind.i64.wrap ((k : Int) + 1) = ((k + 1 : Nat) : Int) := by rw [wrap_id (by omega) (by omega)]; omega
        rw [w]
        have hlen := mrg1_len (l := x.l) (a := x.P.length) (b := x.P.length + (x.U.length + x.V.length)) (k := k) (by omega) (by omega)
        simp only [Int.toNat_natCast, List.length_set, hlen, Bool.true_and]
        have c1 : decide ((0 : Int) ≤ (k : Int) ∧ (k : Int) < (x.l.length : Int)) = true := decide_eq_true ⟨by omega, by omega⟩
        have c2 : decide ((0 : Int) ≤ ((k + 1 : Nat) : Int) ∧ ((k + 1 : Nat) : Int) < (x.l.length : Int)) = true := decide_eq_true ⟨by omega, by omega⟩
        have d1 : decide (k < x.l.length) = true := decide_eq_true (by omega)
        have d2 : decide (k + 1 < x.l.length) = true := decide_eq_true (by omega)
        refine br_t c2 (br_t d2 (br_t c1 (br_t d1 (br_t c1 (br_t d1 (br_t c2 (br_t d2 ⟨k + 1, rfl, ?_, ⟨by show _ ≤ k + 1; omega, by show k + 1 + 1 ≤ y.i; omega⟩, by show y.i - (k + 1) < y.i - k; omega⟩)))))))
        show ((mrg1 x.l x.P.length (x.P.length + (x.U.length + x.V.length)) k).set k ((mrg1 x.l x.P.length (x.P.length + (x.U.length + x.V.length)) k).getD (k + 1) noC)).set (k + 1) ((mrg1 x.l x.P.length (x.P.length + (x.U.length + x.V.length)) k).getD k noC) = mrg1 x.l x.P.length (x.P.length + (x.U.length + x.V.length)) (k + 1)
        have hX : k = (x.l.take x.P.length ++ (sliceL x.l (x.P.length + 1) (x.P.length + (x.U.length + x.V.length))).take (k - x.P.length)).length := by
          rw [List.length_append, List.length_take, List.length_take, sliceL_len (by omega)]; omega
        have hY : k + 1 = (x.l.take x.P.length ++ (sliceL x.l (x.P.length + 1) (x.P.length + (x.U.length + x.V.length))).take (k - x.P.length)).length + ([] : List ChangeD).length + 1 := by
          rw [← hX]; rfl
        rw [mrg1_suc k1 (by omega) (by omega), mrg1_at k1 (by omega) (by omega), two_get1 _ _ _ _ _ hX, two_get2 _ _ _ _ _ hY, two_set _ _ _ _ _ _ _ hX hY]
      · have h4 := of_decide_eq_false h4
        rw [wrap_id (n := (y.i : Int) - 1) (by omega) (by omega)] at h4
        obtain ⟨k1, k2⟩ := hk
        have e : k = y.i - 1 := by omega
        rw [e]
        exact mrg1_end hU1 hsV i1 i3 i4 i5
  · have hV1 : x.V.length = 1 := by
      have h5 : IntKind.i64.wrap (((x.P.length + (x.U.length + x.V.length) : Nat) : Int) - ((x.P.length + x.U.length : Nat) : Int)) = 1 := by simpa using h2
      rw [wrap_id (by omega) (by omega)] at h5
      omega
    refine ⟨⟨⟨x.P.length, x.P.length + x.U.length⟩, rfl, rfl, ⟨Nat.le_refl _, by dsimp only; omega, Nat.le_refl _⟩, fun h => absurd h (Nat.lt_irrefl _), fun h => absurd h (Nat.lt_irrefl _)⟩, fun y hy => br_i (fun h3 => ?_) (fun h3 => ?_)⟩
    · obtain ⟨⟨i1, i2, i3⟩, i4, i5⟩ := hy
      have h3 : (y.i : Int) < y.j := of_decide_eq_true h3
      have hh := half (a := y.i) (b := y.j) (by omega)
      rw [hh]
      generalize hc : (y.i + y.j) / 2 = c
      have hc1 : y.i ≤ c ∧ c < y.j := by omega
      simp only [Int.toNat_natCast, Nat.zero_add]
      refine br_t (decide_eq_true ⟨by omega, by omega⟩) (br_t (decide_eq_true (by omega)) (br_t (decide_eq_true ⟨by omega, by omega⟩) (br_t (decide_eq_true (by omega)) ⟨⟨(x.l.getD (x.P.length + x.U.length) noC).path, (x.l.getD c noC).path⟩, rfl, rfl, trivial, fun _ _ => br_i (fun g => ?_) (fun g => ?_)⟩)))
      · have g : decide (cmpC (x.l.getD (x.P.length + x.U.length) noC) (x.l.getD c noC) < 0) = false := by rw [Bool.not_eq_true'] at g; exact g
        exact ⟨⟨c + 1, y.j⟩, by rw [wrap_id (by omega) (by omega)]; rfl, rfl, ⟨⟨by show _ ≤ c + 1; omega, by show c + 1 ≤ y.j; omega, i3⟩, fun _ => of_decide_eq_false g, i5⟩, by show y.j - (c + 1) < y.j - y.i; omega⟩
      · have g : decide (cmpC (x.l.getD (x.P.length + x.U.length) noC) (x.l.getD c noC) < 0) = true := by rw [Bool.not_eq_false'] at g; exact g
        exact ⟨⟨y.i, c⟩, rfl, rfl, ⟨⟨i1, by show y.i ≤ c; omega, by show c ≤ _; omega⟩, i4, fun _ => of_decide_eq_true g⟩, by show c - y.i < y.j - y.i; omega⟩
    · obtain ⟨⟨i1, i2, i3⟩, i4, i5⟩ := hy
      have h3 : ¬ (y.i : Int) < y.j := of_decide_eq_false h3
      have hij : y.j = y.i := by omega
      rw [hij] at i3 i5
      refine ⟨⟨x.P.length + x.U.length, rfl, (mrg2_start (by omega) (by omega)).symm, i3, Nat.le_refl _⟩, fun k hk => br_i (fun h4 => ?_) (fun h4 => ⟨(), ?_, trivial⟩)⟩
      · have h4 := of_decide_eq_true h4
        obtain ⟨k1, k2⟩ := hk
        obtain ⟨k, rfl⟩ : ∃ k', k = k' + 1 := ⟨k - 1, by omega⟩
        have w : IntKind.i64.wrap (((k + 1 : Nat) : Int) - 1) = (k : Int) := by rw [wrap_id (by omega) (by omega)]; omega
        rw [w]
        have hlen := mrg2_len (l := x.l) (a := x.P.length) (m := x.P.length + x.U.length) (k := k + 1) (by omega) (by omega)
        simp only [Int.toNat_natCast, List.length_set, hlen, Bool.true_and]
        have c1 : decide ((0 : Int) ≤ (k : Int) ∧ (k : Int) < (x.l.length : Int)) = true := decide_eq_true ⟨by omega, by omega⟩
        have c2 : decide ((0 : Int) ≤ ((k + 1 : Nat) : Int) ∧ ((k + 1 : Nat) : Int) < (x.l.length : Int)) = true := decide_eq_true ⟨by omega, by omega⟩
        have d1 : decide (k < x.l.length) = true := decide_eq_true (by omega)
        have d2 : decide (k + 1 < x.l.length) = true := decide_eq_true (by omega)
        refine br_t c1 (br_t d1 (br_t c2 (br_t d2 (br_t c2 (br_t d2 (br_t c1 (br_t d1 ⟨k, rfl, ?_, ⟨by omega, by omega⟩, by omega⟩)))))))
        show ((mrg2 x.l x.P.length (x.P.length + x.U.length) (k + 1)).set (k + 1) ((mrg2 x.l x.P.length (x.P.length + x.U.length) (k + 1)).getD k noC)).set k ((mrg2 x.l x.P.length (x.P.length + x.U.length) (k + 1)).getD (k + 1) noC) = mrg2 x.l x.P.length (x.P.length + x.U.length) k
        have hX : k = (x.l.take x.P.length ++ (sliceL x.l x.P.length (x.P.length + x.U.length)).take (k - x.P.length)).length := by
          rw [List.length_append, List.length_take, List.length_take, sliceL_len (by omega)]; omega
        have hY : k + 1 = (x.l.take x.P.length ++ (sliceL x.l x.P.length (x.P.length + x.U.length)).take (k - x.P.length)).length + ([] : List ChangeD).length + 1 := by
          rw [← hX]; rfl
        rw [mrg2_suc (k := k) (by omega) (by omega) (by omega), mrg2_at (k := k) (by omega) (by omega) (by omega), two_get1 _ _ _ _ _ hX, two_get2 _ _ _ _ _ hY, two_set' _ _ _ _ _ _ _ hX hY]
      · have h4 := of_decide_eq_false h4
        obtain ⟨k1, k2⟩ := hk
        have e : k = y.i := by omega
        rw [e]
        exact mrg2_end hV1 hsU i1 i3 i4 i5
  have hh := half (a := x.P.length) (b := x.P.length + (x.U.length + x.V.length)) (by omega)
  rw [hh]
  generalize hM : (x.P.length + (x.P.length + (x.U.length + x.V.length))) / 2 = mid
  have hn : IntKind.i64.wrap ((mid : Int) + ((x.P.length + x.U.length : Nat) : Int)) = ((mid + (x.P.length + x.U.length) : Nat) : Int) := by rw [wrap_id (by omega) (by omega)]; omega
  rw [hn]
  have hp1 : IntKind.i64.wrap (((mid + (x.P.length + x.U.length) : Nat) : Int) - 1) = ((mid + (x.P.length + x.U.length) - 1 : Nat) : Int) := by rw [wrap_id (by omega) (by omega)]; omega
  rw [hp1]
  simp only [Int.toNat_natCast]
  refine br_i (fun h3 => ?_) (fun h3 => ?_)
  · have h3 := of_decide_eq_true h3
    have hs0 : IntKind.i64.wrap (((mid + (x.P.length + x.U.length) : Nat) : Int) - ((x.P.length + (x.U.length + x.V.length) : Nat) : Int)) = ((mid + (x.P.length + x.U.length) - (x.P.length + (x.U.length + x.V.length)) : Nat) : Int) := by rw [wrap_id (by omega) (by omega)]; omega
    rw [hs0]
    simp only [Int.toNat_natCast]
    refine ⟨⟨⟨mid + (x.P.length + x.U.length) - (x.P.length + (x.U.length + x.V.length)), mid⟩, rfl, rfl, ⟨Nat.le_refl _, by dsimp only; omega, Nat.le_refl _⟩, fun h => absurd h (Nat.lt_irrefl _), fun h => absurd h (Nat.lt_irrefl _)⟩, fun y hy => br_i (fun h4 => ?_) (fun h4 => ?_)⟩
    · obtain ⟨⟨i1, i2, i3⟩, i4, i5⟩ := hy
      have h4 : (y.i : Int) < y.j := of_decide_eq_true h4
      have hh2 := half (a := y.i) (b := y.j) (by omega)
      rw [hh2]
      generalize hc : (y.i + y.j) / 2 = c
      have hc1 : y.i ≤ c ∧ c < y.j := by omega
      have hpc : IntKind.i64.wrap (((mid + (x.P.length + x.U.length) - 1 : Nat) : Int) - (c : Int)) = ((mid + (x.P.length + x.U.length) - 1 - c : Nat) : Int) := by rw [wrap_id (by omega) (by omega)]; omega
      rw [hpc]
      simp only [Int.toNat_natCast, Nat.zero_add]
      refine br_t (decide_eq_true ⟨by omega, by omega⟩) (br_t (decide_eq_true (by omega)) (br_t (decide_eq_true ⟨by omega, by omega⟩) (br_t (decide_eq_true (by omega)) ⟨⟨(x.l.getD (mid + (x.P.length + x.U.length) - 1 - c) noC).path, (x.l.getD c noC).path⟩, rfl, rfl, trivial, fun _ _ => br_i (fun g => ?_) (fun g => ?_)⟩)))
      · have g : decide (cmpC (x.l.getD (mid + (x.P.length + x.U.length) - 1 - c) noC) (x.l.getD c noC) < 0) = false := by rw [Bool.not_eq_true'] at g; exact g
        exact ⟨⟨c + 1, y.j⟩, by rw [wrap_id (by omega) (by omega)]; rfl, rfl, ⟨⟨by show _ ≤ c + 1; omega, by show c + 1 ≤ y.j; omega, i3⟩, fun _ => of_decide_eq_false g, i5⟩, by show y.j - (c + 1) < y.j - y.i; omega⟩
      · have g : decide (cmpC (x.l.getD (mid + (x.P.length + x.U.length) - 1 - c) noC) (x.l.getD c noC) < 0) = true := by rw [Bool.not_eq_false'] at g; exact g
        exact ⟨⟨y.i, c⟩, rfl, rfl, ⟨⟨i1, by show y.i ≤ c; omega, by show c ≤ _; omega⟩, i4, fun _ => of_decide_eq_true g⟩, by show c - y.i < y.j - y.i; omega⟩
    · obtain ⟨⟨i1, i2, i3⟩, i4, i5⟩ := hy
      have h4 : ¬ (y.i : Int) < y.j := of_decide_eq_false h4
      have hij : y.j = y.i := by omega
      rw [hij] at i3 i5
      generalize hs : y.i = s at i1 i2 i3 i4 i5 ⊢
      have he : IntKind.i64.wrap (((mid + (x.P.length + x.U.length) : Nat) : Int) - (s : Int)) = ((mid + (x.P.length + x.U.length) - s : Nat) : Int) := by rw [wrap_id (by omega) (by omega)]; omega
      rw [he]
      generalize hE : mid + (x.P.length + x.U.length) - s = e
      obtain ⟨A1, A2, B1, B2, eU, eV, l1, l2, hres⟩ := mrg_split (x := x) (s := s) (e := e) hsU hsV (by omega) (by omega) (by omega) (by omega)
        (fun q1 q2 => by
          have := i4 (by omega)
          rw [show mid + (x.P.length + x.U.length) - 1 - (s - 1) = e by omega] at this
          exact this)
        (fun q1 q2 => by
          have := i5 (by omega)
          rw [show mid + (x.P.length + x.U.length) - 1 - s = e - 1 by omega] at this
          exact this)
      have hUl : x.U.length = A1.length + A2.length := by rw [eU, List.length_append]
      have hVl : x.V.length = B1.length + B2.length := by rw [eV, List.length_append]
      have hxl : x.l = x.P ++ (A1 ++ (A2 ++ (B1 ++ (B2 ++ x.Q)))) := by
        unfold MrgA.l
        rw [eU, eV]
        simp only [List.append_assoc]
      have hxr : x.r = x.P ++ (insS (A1 ++ B1) ++ (insS (A2 ++ B2) ++ x.Q)) := by
        unfold MrgA.r
        rw [eU, eV, hres]
        simp only [List.append_assoc]
      have hlen : x.P.length + (A1.length + (A2.length + (B1.length + (B2.length + x.Q.length)))) ≤ 100000 := by omega
      have sA1 : srtC A1 := srt_left (b := A2) (by rw [← eU]; exact hsU)
      have sA2 : srtC A2 := srt_right (a := A1) (by rw [← eU]; exact hsU)
      have sB1 : srtC B1 := srt_left (b := B2) (by rw [← eV]; exact hsV)
      have sB2 : srtC B2 := srt_right (a := B1) (by rw [← eV]; exact hsV)
      clear eU eV hres i4 i5 hsU hsV hh hn hp1 he
      generalize x.r = xr at hxr ⊢
      subst hxr
      generalize x.l = xl at hxl hl hlim ⊢
      refine br_i (fun q1 => br_i (fun q2 => ?_) (fun q2 => ?_)) (fun q1 => ?_)
      · have q1 := of_decide_eq_true q1
        have q2 := of_decide_eq_true q2
        subst hxl
        refine ⟨⟨x.P ++ A1, A2, B1, B2 ++ x.Q⟩, trivial, ?_, ?_, ?_, ?_, ?_, ⟨⟨ne_nil ?_, ne_nil ?_⟩, ?_⟩, fun _ _ => ?_⟩
        rotate_right
        · refine br_i (fun g1 => br_i (fun g2 => ?_) (fun g2 => ?_)) (fun g1 => ?_)
          · have g1 := of_decide_eq_true g1
            have g2 := of_decide_eq_true g2
            refine ⟨⟨x.P, A1, B1, A2 ++ (B2 ++ x.Q)⟩, trivial, ?_, ?_, ?_, ?_, ?_, ⟨⟨⟨ne_nil ?_, ne_nil ?_⟩, ?_⟩, sA1, sB1, ?_⟩, fun _ _ => ?_⟩
            rotate_right
            · refine br_i (fun g3 => br_i (fun g4 => ?_) (fun g4 => ?_)) (fun g3 => ?_)
              · have g3 := of_decide_eq_true g3
                have g4 := of_decide_eq_true g4
                refine ⟨⟨x.P ++ insS (A1 ++ B1), A2, B2, x.Q⟩, trivial, ?_, ?_, ?_, ?_, ?_, ⟨⟨⟨ne_nil ?_, ne_nil ?_⟩, ?_⟩, sA2, sB2, ?_⟩, fun _ _ => ⟨(), ?_, trivial⟩⟩
                all_goals first | omega | (simp only [MrgA.l, RotA.l, List.length_append, insS_len]; omega) | (simp only [MrgA.l, MrgA.r, RotA.l, RotA.r, List.append_assoc])
              · have g3 := of_decide_eq_true g3
                have g4 := of_decide_eq_false g4
                have hI2 := insS_one sA2 sB2 (.inr (List.eq_nil_of_length_eq_zero (show B2.length = 0 by omega)))
                refine ⟨(), ?_, trivial⟩
                all_goals first | omega | (simp only [MrgA.l, RotA.l, List.length_append, insS_len]; omega) | (simp only [hI2, MrgA.l, MrgA.r, RotA.l, RotA.r, List.append_assoc])
              · have g3 := of_decide_eq_false g3
                have hI2 := insS_one sA2 sB2 (.inl (List.eq_nil_of_length_eq_zero (show A2.length = 0 by omega)))
                refine ⟨(), ?_, trivial⟩
                all_goals first | omega | (simp only [MrgA.l, RotA.l, List.length_append, insS_len]; omega) | (simp only [hI2, MrgA.l, MrgA.r, RotA.l, RotA.r, List.append_assoc])
            all_goals first | omega | (simp only [MrgA.l, RotA.l, List.length_append, insS_len]; omega) | (simp only [MrgA.l, MrgA.r, RotA.l, RotA.r, List.append_assoc])
          · have g1 := of_decide_eq_true g1
            have g2 := of_decide_eq_false g2
            have hI1 := insS_one sA1 sB1 (.inr (List.eq_nil_of_length_eq_zero (show B1.length = 0 by omega)))
            refine br_i (fun g3 => br_i (fun g4 => ?_) (fun g4 => ?_)) (fun g3 => ?_)
            · have g3 := of_decide_eq_true g3
              have g4 := of_decide_eq_true g4
              refine ⟨⟨x.P ++ insS (A1 ++ B1), A2, B2, x.Q⟩, trivial, ?_, ?_, ?_, ?_, ?_, ⟨⟨⟨ne_nil ?_, ne_nil ?_⟩, ?_⟩, sA2, sB2, ?_⟩, fun _ _ => ⟨(), ?_, trivial⟩⟩
              all_goals first | omega | (simp only [MrgA.l, RotA.l, List.length_append, insS_len]; omega) | (simp only [hI1, MrgA.l, MrgA.r, RotA.l, RotA.r, List.append_assoc])
            · have g3 := of_decide_eq_true g3
              have g4 := of_decide_eq_false g4
              have hI2 := insS_one sA2 sB2 (.inr (List.eq_nil_of_length_eq_zero (show B2.length = 0 by omega)))
              refine ⟨(), ?_, trivial⟩
              all_goals first | omega | (simp only [MrgA.l, RotA.l, List.length_append, insS_len]; omega) | (simp only [hI1, hI2, MrgA.l, MrgA.r, RotA.l, RotA.r, List.append_assoc])
            · have g3 := of_decide_eq_false g3
              have hI2 := insS_one sA2 sB2 (.inl (List.eq_nil_of_length_eq_zero (show A2.length = 0 by omega)))
              refine ⟨(), ?_, trivial⟩
              all_goals first | omega | (simp only [MrgA.l, RotA.l, List.length_append, insS_len]; omega) | (simp only [hI1, hI2, MrgA.l, MrgA.r, RotA.l, RotA.r, List.append_assoc])
          · have g1 := of_decide_eq_false g1
            have hI1 := insS_one sA1 sB1 (.inl (List.eq_nil_of_length_eq_zero (show A1.length = 0 by omega)))
            refine br_i (fun g3 => br_i (fun g4 => ?_) (fun g4 => ?_)) (fun g3 => ?_)
            · have g3 := of_decide_eq_true g3
              have g4 := of_decide_eq_true g4
              refine ⟨⟨x.P ++ insS (A1 ++ B1), A2, B2, x.Q⟩, trivial, ?_, ?_, ?_, ?_, ?_, ⟨⟨⟨ne_nil ?_, ne_nil ?_⟩, ?_⟩, sA2, sB2, ?_⟩, fun _ _ => ⟨(), ?_, trivial⟩⟩
              all_goals first | omega | (simp only [MrgA.l, RotA.l, List.length_append, insS_len]; omega) | (simp only [hI1, MrgA.l, MrgA.r, RotA.l, RotA.r, List.append_assoc])
            · have g3 := of_decide_eq_true g3
              have g4 := of_decide_eq_false g4
              have hI2 := insS_one sA2 sB2 (.inr (List.eq_nil_of_length_eq_zero (show B2.length = 0 by omega)))
              refine ⟨(), ?_, trivial⟩
              all_goals first | omega | (simp only [MrgA.l, RotA.l, List.length_append, insS_len]; omega) | (simp only [hI1, hI2, MrgA.l, MrgA.r, RotA.l, RotA.r, List.append_assoc])
            · have g3 := of_decide_eq_false g3
              have hI2 := insS_one sA2 sB2 (.inl (List.eq_nil_of_length_eq_zero (show A2.length = 0 by omega)))
              refine ⟨(), ?_, trivial⟩
              all_goals first | omega | (simp only [MrgA.l, RotA.l, List.length_append, insS_len]; omega) | (simp only [hI1, hI2, MrgA.l, MrgA.r, RotA.l, RotA.r, List.append_assoc])
        all_goals first | omega | (simp only [MrgA.l, RotA.l, List.length_append, insS_len]; omega) | (simp only [MrgA.l, MrgA.r, RotA.l, RotA.r, List.append_assoc])
      · have q1 := of_decide_eq_true q1
        have q2 := of_decide_eq_false q2
        have hB1 : B1 = [] := List.eq_nil_of_length_eq_zero (by omega)
        have hxl2 : xl = x.P ++ (A1 ++ (B1 ++ (A2 ++ (B2 ++ x.Q)))) := by rw [hxl, hB1]; simp only [List.nil_append]
        clear hxl
        have hB0 : B1.length = 0 := by rw [hB1]; rfl
        subst hxl2
        refine br_i (fun g1 => br_i (fun g2 => ?_) (fun g2 => ?_)) (fun g1 => ?_)
        · have g1 := of_decide_eq_true g1
          have g2 := of_decide_eq_true g2
          refine ⟨⟨x.P, A1, B1, A2 ++ (B2 ++ x.Q)⟩, trivial, ?_, ?_, ?_, ?_, ?_, ⟨⟨⟨ne_nil ?_, ne_nil ?_⟩, ?_⟩, sA1, sB1, ?_⟩, fun _ _ => ?_⟩
          rotate_right
          · refine br_i (fun g3 => br_i (fun g4 => ?_) (fun g4 => ?_)) (fun g3 => ?_)
            · have g3 := of_decide_eq_true g3
              have g4 := of_decide_eq_true g4
              refine ⟨⟨x.P ++ insS (A1 ++ B1), A2, B2, x.Q⟩, trivial, ?_, ?_, ?_, ?_, ?_, ⟨⟨⟨ne_nil ?_, ne_nil ?_⟩, ?_⟩, sA2, sB2, ?_⟩, fun _ _ => ⟨(), ?_, trivial⟩⟩
              all_goals first | omega | (simp only [MrgA.l, RotA.l, List.length_append, insS_len]; omega) | (simp only [MrgA.l, MrgA.r, RotA.l, RotA.r, List.append_assoc])
            · have g3 := of_decide_eq_true g3
              have g4 := of_decide_eq_false g4
              have hI2 := insS_one sA2 sB2 (.inr (List.eq_nil_of_length_eq_zero (show B2.length = 0 by omega)))
              refine ⟨(), ?_, trivial⟩
              all_goals first | omega | (simp only [MrgA.l, RotA.l, List.length_append, insS_len]; omega) | (simp only [hI2, MrgA.l, MrgA.r, RotA.l, RotA.r, List.append_assoc])
            · have g3 := of_decide_eq_false g3
              have hI2 := insS_one sA2 sB2 (.inl (List.eq_nil_of_length_eq_zero (show A2.length = 0 by omega)))
              refine ⟨(), ?_, trivial⟩
              all_goals first | omega | (simp only [MrgA.l, RotA.l, List.length_append, insS_len]; omega) | (simp only [hI2, MrgA.l, MrgA.r, RotA.l, RotA.r, List.append_assoc])
          all_goals first | omega | (simp only [MrgA.l, RotA.l, List.length_append, insS_len]; omega) | (simp only [MrgA.l, MrgA.r, RotA.l, RotA.r, List.append_assoc])
        · have g1 := of_decide_eq_true g1
          have g2 := of_decide_eq_false g2
          have hI1 := insS_one sA1 sB1 (.inr (List.eq_nil_of_length_eq_zero (show B1.length = 0 by omega)))
          refine br_i (fun g3 => br_i (fun g4 => ?_) (fun g4 => ?_)) (fun g3 => ?_)
          · have g3 := of_decide_eq_true g3
            have g4 := of_decide_eq_true g4
            refine ⟨⟨x.P ++ insS (A1 ++ B1), A2, B2, x.Q⟩, trivial, ?_, ?_, ?_, ?_, ?_, ⟨⟨⟨ne_nil ?_, ne_nil ?_⟩, ?_⟩, sA2, sB2, ?_⟩, fun _ _ => ⟨(), ?_, trivial⟩⟩
            all_goals first | omega | (simp only [MrgA.l, RotA.l, List.length_append, insS_len]; omega) | (simp only [hI1, MrgA.l, MrgA.r, RotA.l, RotA.r, List.append_assoc])
          · have g3 := of_decide_eq_true g3
            have g4 := of_decide_eq_false g4
            have hI2 := insS_one sA2 sB2 (.inr (List.eq_nil_of_length_eq_zero (show B2.length = 0 by omega)))
            refine ⟨(), ?_, trivial⟩
            all_goals first | omega | (simp only [MrgA.l, RotA.l, List.length_append, insS_len]; omega) | (simp only [hI1, hI2, MrgA.l, MrgA.r, RotA.l, RotA.r, List.append_assoc])
          · have g3 := of_decide_eq_false g3
            have hI2 := insS_one sA2 sB2 (.inl (List.eq_nil_of_length_eq_zero (show A2.length = 0 by omega)))
            refine ⟨(), ?_, trivial⟩
            all_goals first | omega | (simp only [MrgA.l, RotA.l, List.length_append, insS_len]; omega) | (simp only [hI1, hI2, MrgA.l, MrgA.r, RotA.l, RotA.r, List.append_assoc])
        · have g1 := of_decide_eq_false g1
          have hI1 := insS_one sA1 sB1 (.inl (List.eq_nil_of_length_eq_zero (show A1.length = 0 by omega)))
          refine br_i (fun g3 => br_i (fun g4 => ?_) (fun g4 => ?_)) (fun g3 => ?_)
          · have g3 := of_decide_eq_true g3
            have g4 := of_decide_eq_true g4
            refine ⟨⟨x.P ++ insS (A1 ++ B1), A2, B2, x.Q⟩, trivial, ?_, ?_, ?_, ?_, ?_, ⟨⟨⟨ne_nil ?_, ne_nil ?_⟩, ?_⟩, sA2, sB2, ?_⟩, fun _ _ => ⟨(), ?_, trivial⟩⟩
            all_goals first | omega | (simp only [MrgA.l, RotA.l, List.length_append, insS_len]; omega) | (simp only [hI1, MrgA.l, MrgA.r, RotA.l, RotA.r, List.append_assoc])
          · have g3 := of_decide_eq_true g3
            have g4 := of_decide_eq_false g4
            have hI2 := insS_one sA2 sB2 (.inr (List.eq_nil_of_length_eq_zero (show B2.length = 0 by omega)))
            refine ⟨(), ?_, trivial⟩
            all_goals first | omega | (simp only [MrgA.l, RotA.l, List.length_append, insS_len]; omega) | (simp only [hI1, hI2, MrgA.l, MrgA.r, RotA.l, RotA.r, List.append_assoc])
          · have g3 := of_decide_eq_false g3
            have hI2 := insS_one sA2 sB2 (.inl (List.eq_nil_of_length_eq_zero (show A2.length = 0 by omega)))
            refine ⟨(), ?_, trivial⟩
            all_goals first | omega | (simp only [MrgA.l, RotA.l, List.length_append, insS_len]; omega) | (simp only [hI1, hI2, MrgA.l, MrgA.r, RotA.l, RotA.r, List.append_assoc])
      · have q1 := of_decide_eq_false q1
        have hA2 : A2 = [] := List.eq_nil_of_length_eq_zero (by omega)
        have hxl2 : xl = x.P ++ (A1 ++ (B1 ++ (A2 ++ (B2 ++ x.Q)))) := by rw [hxl, hA2]; simp only [List.nil_append]
        clear hxl
        have hA0 : A2.length = 0 := by rw [hA2]; rfl
        subst hxl2
        refine br_i (fun g1 => br_i (fun g2 => ?_) (fun g2 => ?_)) (fun g1 => ?_)
        · have g1 := of_decide_eq_true g1
          have g2 := of_decide_eq_true g2
          refine ⟨⟨x.P, A1, B1, A2 ++ (B2 ++ x.Q)⟩, trivial, ?_, ?_, ?_, ?_, ?_, ⟨⟨⟨ne_nil ?_, ne_nil ?_⟩, ?_⟩, sA1, sB1, ?_⟩, fun _ _ => ?_⟩
          rotate_right
          · refine br_i (fun g3 => br_i (fun g4 => ?_) (fun g4 => ?_)) (fun g3 => ?_)
            · have g3 := of_decide_eq_true g3
              have g4 := of_decide_eq_true g4
              refine ⟨⟨x.P ++ insS (A1 ++ B1), A2, B2, x.Q⟩, trivial, ?_, ?_, ?_, ?_, ?_, ⟨⟨⟨ne_nil ?_, ne_nil ?_⟩, ?_⟩, sA2, sB2, ?_⟩, fun _ _ => ⟨(), ?_, trivial⟩⟩
              all_goals first | omega | (simp only [MrgA.l, RotA.l, List.length_append, insS_len]; omega) | (simp only [MrgA.l, MrgA.r, RotA.l, RotA.r, List.append_assoc])
            · have g3 := of_decide_eq_true g3
              have g4 := of_decide_eq_false g4
              have hI2 := insS_one sA2 sB2 (.inr (List.eq_nil_of_length_eq_zero (show B2.length = 0 by omega)))
              refine ⟨(), ?_, trivial⟩
              all_goals first | omega | (simp only [MrgA.l, RotA.l, List.length_append, insS_len]; omega) | (simp only [hI2, MrgA.l, MrgA.r, RotA.l, RotA.r, List.append_assoc])
            · have g3 := of_decide_eq_false g3
              have hI2 := insS_one sA2 sB2 (.inl (List.eq_nil_of_length_eq_zero (show A2.length = 0 by omega)))
              refine ⟨(), ?_, trivial⟩
              all_goals first | omega | (simp only [MrgA.l, RotA.l, List.length_append, insS_len]; omega) | (simp only [hI2, MrgA.l, MrgA.r, RotA.l, RotA.r, List.append_assoc])
          all_goals first | omega | (simp only [MrgA.l, RotA.l, List.length_append, insS_len]; omega) | (simp only [MrgA.l, MrgA.r, RotA.l, RotA.r, List.append_assoc])
        · have g1 := of_decide_eq_true g1
          have g2 := of_decide_eq_false g2
          have hI1 := insS_one sA1 sB1 (.inr (List.eq_nil_of_length_eq_zero (show B1.length = 0 by omega)))
          refine br_i (fun g3 => br_i (fun g4 => ?_) (fun g4 => ?_)) (fun g3 => ?_)
          · have g3 := of_decide_eq_true g3
            have g4 := of_decide_eq_true g4
            refine ⟨⟨x.P ++ insS (A1 ++ B1), A2, B2, x.Q⟩, trivial, ?_, ?_, ?_, ?_, ?_, ⟨⟨⟨ne_nil ?_, ne_nil ?_⟩, ?_⟩, sA2, sB2, ?_⟩, fun _ _ => ⟨(), ?_, trivial⟩⟩
            all_goals first | omega | (simp only [MrgA.l, RotA.l, List.length_append, insS_len]; omega) | (simp only [hI1, MrgA.l, MrgA.r, RotA.l, RotA.r, List.append_assoc])
          · have g3 := of_decide_eq_true g3
            have g4 := of_decide_eq_false g4
            have hI2 := insS_one sA2 sB2 (.inr (List.eq_nil_of_length_eq_zero (show B2.length = 0 by omega)))
            refine ⟨(), ?_, trivial⟩
            all_goals first | omega | (simp only [MrgA.l, RotA.l, List.length_append, insS_len]; omega) | (simp only [hI1, hI2, MrgA.l, MrgA.r, RotA.l, RotA.r, List.append_assoc])
          · have g3 := of_decide_eq_false g3
            have hI2 := insS_one sA2 sB2 (.inl (List.eq_nil_of_length_eq_zero (show A2.length = 0 by omega)))
            refine ⟨(), ?_, trivial⟩
            all_goals first | omega | (simp only [MrgA.l, RotA.l, List.length_append, insS_len]; omega) | (simp only [hI1, hI2, MrgA.l, MrgA.r, RotA.l, RotA.r, List.append_assoc])
        · have g1 := of_decide_eq_false g1
          have hI1 := insS_one sA1 sB1 (.inl (List.eq_nil_of_length_eq_zero (show A1.length = 0 by omega)))
          refine br_i (fun g3 => br_i (fun g4 => ?_) (fun g4 => ?_)) (fun g3 => ?_)
          · have g3 := of_decide_eq_true g3
            have g4 := of_decide_eq_true g4
            refine ⟨⟨x.P ++ insS (A1 ++ B1), A2, B2, x.Q⟩, trivial, ?_, ?_, ?_, ?_, ?_, ⟨⟨⟨ne_nil ?_, ne_nil ?_⟩, ?_⟩, sA2, sB2, ?_⟩, fun _ _ => ⟨(), ?_, trivial⟩⟩
            all_goals first | omega | (simp only [MrgA.l, RotA.l, List.length_append, insS_len]; omega) | (simp only [hI1, MrgA.l, MrgA.r, RotA.l, RotA.r, List.append_assoc])
          · have g3 := of_decide_eq_true g3
            have g4 := of_decide_eq_false g4
            have hI2 := insS_one sA2 sB2 (.inr (List.eq_nil_of_length_eq_zero (show B2.length = 0 by omega)))
            refine ⟨(), ?_, trivial⟩
            all_goals first | omega | (simp only [MrgA.l, RotA.l, List.length_append, insS_len]; omega) | (simp only [hI1, hI2, MrgA.l, MrgA.r, RotA.l, RotA.r, List.append_assoc])
          · have g3 := of_decide_eq_false g3
            have hI2 := insS_one sA2 sB2 (.inl (List.eq_nil_of_length_eq_zero (show A2.length = 0 by omega)))
            refine ⟨(), ?_, trivial⟩
            all_goals first | omega | (simp only [MrgA.l, RotA.l, List.length_append, insS_len]; omega) | (simp only [hI1, hI2, MrgA.l, MrgA.r, RotA.l, RotA.r, List.append_assoc])
  · have h3 := of_decide_eq_false h3
    refine ⟨⟨⟨x.P.length, x.P.length + x.U.length⟩, rfl, rfl, ⟨Nat.le_refl _, by dsimp only; omega, Nat.le_refl _⟩, fun h => absurd h (Nat.lt_irrefl _), fun h => absurd h (Nat.lt_irrefl _)⟩, fun y hy => br_i (fun h4 => ?_) (fun h4 => ?_)⟩
    · obtain ⟨⟨i1, i2, i3⟩, i4, i5⟩ := hy
      have h4 : (y.i : Int) < y.j := of_decide_eq_true h4
      have hh2 := half (a := y.i) (b := y.j) (by omega)
      rw [hh2]
      generalize hc : (y.i + y.j) / 2 = c
      have hc1 : y.i ≤ c ∧ c < y.j := by omega
      have hpc : IntKind.i64.wrap (((mid + (x.P.length + x.U.length) - 1 : Nat) : Int) - (c : Int)) = ((mid + (x.P.length + x.U.length) - 1 - c : Nat) : Int) := by rw [wrap_id (by omega) (by omega)]; omega
      rw [hpc]
      simp only [Int.toNat_natCast, Nat.zero_add]
      refine br_t (decide_eq_true ⟨by omega, by omega⟩) (br_t (decide_eq_true (by omega)) (br_t (decide_eq_true ⟨by omega, by omega⟩) (br_t (decide_eq_true (by omega)) ⟨⟨(x.l.getD (mid + (x.P.length + x.U.length) - 1 - c) noC).path, (x.l.getD c noC).path⟩, rfl, rfl, trivial, fun _ _ => br_i (fun g => ?_) (fun g => ?_)⟩)))
      · have g : decide (cmpC (x.l.getD (mid + (x.P.length + x.U.length) - 1 - c) noC) (x.l.getD c noC) < 0) = false := by rw [Bool.not_eq_true'] at g; exact g
        exact ⟨⟨c + 1, y.j⟩, by rw [wrap_id (by omega) (by omega)]; rfl, rfl, ⟨⟨by show _ ≤ c + 1; omega, by show c + 1 ≤ y.j; omega, i3⟩, fun _ => of_decide_eq_false g, i5⟩, by show y.j - (c + 1) < y.j - y.i; omega⟩
      · have g : decide (cmpC (x.l.getD (mid + (x.P.length + x.U.length) - 1 - c) noC) (x.l.getD c noC) < 0) = true := by rw [Bool.not_eq_false'] at g; exact g
        exact ⟨⟨y.i, c⟩, rfl, rfl, ⟨⟨i1, by show y.i ≤ c; omega, by show c ≤ _; omega⟩, i4, fun _ => of_decide_eq_true g⟩, by show c - y.i < y.j - y.i; omega⟩
    · obtain ⟨⟨i1, i2, i3⟩, i4, i5⟩ := hy
      have h4 : ¬ (y.i : Int) < y.j := of_decide_eq_false h4
      have hij : y.j = y.i := by omega
      rw [hij] at i3 i5
      generalize hs : y.i = s at i1 i2 i3 i4 i5 ⊢
      have he : IntKind.i64.wrap (((mid + (x.P.length + x.U.length) : Nat) : Int) - (s : Int)) = ((mid + (x.P.length + x.U.length) - s : Nat) : Int) := by rw [wrap_id (by omega) (by omega)]; omega
      rw [he]
      generalize hE : mid + (x.P.length + x.U.length) - s = e
      obtain ⟨A1, A2, B1, B2, eU, eV, l1, l2, hres⟩ := mrg_split (x := x) (s := s) (e := e) hsU hsV (by omega) (by omega) (by omega) (by omega)
        (fun q1 q2 => by
          have := i4 (by omega)
          rw [show mid + (x.P.length + x.U.length) - 1 - (s - 1) = e by omega] at this
          exact this)
        (fun q1 q2 => by
          have := i5 (by omega)
          rw [show mid + (x.P.length + x.U.length) - 1 - s = e - 1 by omega] at this
          exact this)
      have hUl : x.U.length = A1.length + A2.length := by rw [eU, List.length_append]
      have hVl : x.V.length = B1.length + B2.length := by rw [eV, List.length_append]
      have hxl : x.l = x.P ++ (A1 ++ (A2 ++ (B1 ++ (B2 ++ x.Q)))) := by
        unfold MrgA.l
        rw [eU, eV]
        simp only [List.append_assoc]
      have hxr : x.r = x.P ++ (insS (A1 ++ B1) ++ (insS (A2 ++ B2) ++ x.Q)) := by
        unfold MrgA.r
        rw [eU, eV, hres]
        simp only [List.append_assoc]
      have hlen : x.P.length + (A1.length + (A2.length + (B1.length + (B2.length + x.Q.length)))) ≤ 100000 := by omega
      have sA1 : srtC A1 := srt_left (b := A2) (by rw [← eU]; exact hsU)
      have sA2 : srtC A2 := srt_right (a := A1) (by rw [← eU]; exact hsU)
      have sB1 : srtC B1 := srt_left (b := B2) (by rw [← eV]; exact hsV)
      have sB2 : srtC B2 := srt_right (a := B1) (by rw [← eV]; exact hsV)
      clear eU eV hres i4 i5 hsU hsV hh hn hp1 he
      generalize x.r = xr at hxr ⊢
      subst hxr
      generalize x.l = xl at hxl hl hlim ⊢
      refine br_i (fun q1 => br_i (fun q2 => ?_) (fun q2 => ?_)) (fun q1 => ?_)
      · have q1 := of_decide_eq_true q1
        have q2 := of_decide_eq_true q2
        subst hxl
        refine ⟨⟨x.P ++ A1, A2, B1, B2 ++ x.Q⟩, trivial, ?_, ?_, ?_, ?_, ?_, ⟨⟨ne_nil ?_, ne_nil ?_⟩, ?_⟩, fun _ _ => ?_⟩
        rotate_right
        · refine br_i (fun g1 => br_i (fun g2 => ?_) (fun g2 => ?_)) (fun g1 => ?_)
          · have g1 := of_decide_eq_true g1
            have g2 := of_decide_eq_true g2
            refine ⟨⟨x.P, A1, B1, A2 ++ (B2 ++ x.Q)⟩, trivial, ?_, ?_, ?_, ?_, ?_, ⟨⟨⟨ne_nil ?_, ne_nil ?_⟩, ?_⟩, sA1, sB1, ?_⟩, fun _ _ => ?_⟩
            rotate_right
            · refine br_i (fun g3 => br_i (fun g4 => ?_) (fun g4 => ?_)) (fun g3 => ?_)
              · have g3 := of_decide_eq_true g3
                have g4 := of_decide_eq_true g4
                refine ⟨⟨x.P ++ insS (A1 ++ B1), A2, B2, x.Q⟩, trivial, ?_, ?_, ?_, ?_, ?_, ⟨⟨⟨ne_nil ?_, ne_nil ?_⟩, ?_⟩, sA2, sB2, ?_⟩, fun _ _ => ⟨(), ?_, trivial⟩⟩
                all_goals first | omega | (simp only [MrgA.l, RotA.l, List.length_append, insS_len]; omega) | (simp only [MrgA.l, MrgA.r, RotA.l, RotA.r, List.append_assoc])
              · have g3 := of_decide_eq_true g3
                have g4 := of_decide_eq_false g4
                have hI2 := insS_one sA2 sB2 (.inr (List.eq_nil_of_length_eq_zero (show B2.length = 0 by omega)))
                refine ⟨(), ?_, trivial⟩
                all_goals first | omega | (simp only [MrgA.l, RotA.l, List.length_append, insS_len]; omega) | (simp only [hI2, MrgA.l, MrgA.r, RotA.l, RotA.r, List.append_assoc])
              · have g3 := of_decide_eq_false g3
                have hI2 := insS_one sA2 sB2 (.inl (List.eq_nil_of_length_eq_zero (show A2.length = 0 by omega)))
                refine ⟨(), ?_, trivial⟩
                all_goals first | omega | (simp only [MrgA.l, RotA.l, List.length_append, insS_len]; omega) | (simp only [hI2, MrgA.l, MrgA.r, RotA.l, RotA.r, List.append_assoc])
            all_goals first | omega | (simp only [MrgA.l, RotA.l, List.length_append, insS_len]; omega) | (simp only [MrgA.l, MrgA.r, RotA.l, RotA.r, List.append_assoc])
          · have g1 := of_decide_eq_true g1
            have g2 := of_decide_eq_false g2
            have hI1 := insS_one sA1 sB1 (.inr (List.eq_nil_of_length_eq_zero (show B1.length = 0 by omega)))
            refine br_i (fun g3 => br_i (fun g4 => ?_) (fun g4 => ?_)) (fun g3 => ?_)
            · have g3 := of_decide_eq_true g3
              have g4 := of_decide_eq_true g4
              refine ⟨⟨x.P ++ insS (A1 ++ B1), A2, B2, x.Q⟩, trivial, ?_, ?_, ?_, ?_, ?_, ⟨⟨⟨ne_nil ?_, ne_nil ?_⟩, ?_⟩, sA2, sB2, ?_⟩, fun _ _ => ⟨(), ?_, trivial⟩⟩
              all_goals first | omega | (simp only [MrgA.l, RotA.l, List.length_append, insS_len]; omega) | (simp only [hI1, MrgA.l, MrgA.r, RotA.l, RotA.r, List.append_assoc])
            · have g3 := of_decide_eq_true g3
              have g4 := of_decide_eq_false g4
              have hI2 := insS_one sA2 sB2 (.inr (List.eq_nil_of_length_eq_zero (show B2.length = 0 by omega)))
              refine ⟨(), ?_, trivial⟩
              all_goals first | omega | (simp only [MrgA.l, RotA.l, List.length_append, insS_len]; omega) | (simp only [hI1, hI2, MrgA.l, MrgA.r, RotA.l, RotA.r, List.append_assoc])
            · have g3 := of_decide_eq_false g3
              have hI2 := insS_one sA2 sB2 (.inl (List.eq_nil_of_length_eq_zero (show A2.length = 0 by omega)))
              refine ⟨(), ?_, trivial⟩
              all_goals first | omega | (simp only [MrgA.l, RotA.l, List.length_append, insS_len]; omega) | (simp only [hI1, hI2, MrgA.l, MrgA.r, RotA.l, RotA.r, List.append_assoc])
          · have g1 := of_decide_eq_false g1
            have hI1 := insS_one sA1 sB1 (.inl (List.eq_nil_of_length_eq_zero (show A1.length = 0 by omega)))
            refine br_i (fun g3 => br_i (fun g4 => ?_) (fun g4 => ?_)) (fun g3 => ?_)
            · have g3 := of_decide_eq_true g3
              have g4 := of_decide_eq_true g4
              refine ⟨⟨x.P ++ insS (A1 ++ B1), A2, B2, x.Q⟩, trivial, ?_, ?_, ?_, ?_, ?_, ⟨⟨⟨ne_nil ?_, ne_nil ?_⟩, ?_⟩, sA2, sB2, ?_⟩, fun _ _ => ⟨(), ?_, trivial⟩⟩
              all_goals first | omega | (simp only [MrgA.l, RotA.l, List.length_append, insS_len]; omega) | (simp only [hI1, MrgA.l, MrgA.r, RotA.l, RotA.r, List.append_assoc])
            · have g3 := of_decide_eq_true g3
              have g4 := of_decide_eq_false g4
              have hI2 := insS_one sA2 sB2 (.inr (List.eq_nil_of_length_eq_zero (show B2.length = 0 by omega)))
              refine ⟨(), ?_, trivial⟩
              all_goals first | omega | (simp only [MrgA.l, RotA.l, List.length_append, insS_len]; omega) | (simp only [hI1, hI2, MrgA.l, MrgA.r, RotA.l, RotA.r, List.append_assoc])
            · have g3 := of_decide_eq_false g3
              have hI2 := insS_one sA2 sB2 (.inl (List.eq_nil_of_length_eq_zero (show A2.length = 0 by omega)))
              refine ⟨(), ?_, trivial⟩
              all_goals first | omega | (simp only [MrgA.l, RotA.l, List.length_append, insS_len]; omega) | (simp only [hI1, hI2, MrgA.l, MrgA.r, RotA.l, RotA.r, List.append_assoc])
        all_goals first | omega | (simp only [MrgA.l, RotA.l, List.length_append, insS_len]; omega) | (simp only [MrgA.l, MrgA.r, RotA.l, RotA.r, List.append_assoc])
      · have q1 := of_decide_eq_true q1
        have q2 := of_decide_eq_false q2
        have hB1 : B1 = [] := List.eq_nil_of_length_eq_zero (by omega)
        have hxl2 : xl = x.P ++ (A1 ++ (B1 ++ (A2 ++ (B2 ++ x.Q)))) := by rw [hxl, hB1]; simp only [List.nil_append]
        clear hxl
        have hB0 : B1.length = 0 := by rw [hB1]; rfl
        subst hxl2
        refine br_i (fun g1 => br_i (fun g2 => ?_) (fun g2 => ?_)) (fun g1 => ?_)
        · have g1 := of_decide_eq_true g1
          have g2 := of_decide_eq_true g2
          refine ⟨⟨x.P, A1, B1, A2 ++ (B2 ++ x.Q)⟩, trivial, ?_, ?_, ?_, ?_, ?_, ⟨⟨⟨ne_nil ?_, ne_nil ?_⟩, ?_⟩, sA1, sB1, ?_⟩, fun _ _ => ?_⟩
          rotate_right
          · refine br_i (fun g3 => br_i (fun g4 => ?_) (fun g4 => ?_)) (fun g3 => ?_)
            · have g3 := of_decide_eq_true g3
              have g4 := of_decide_eq_true g4
              refine ⟨⟨x.P ++ insS (A1 ++ B1), A2, B2, x.Q⟩, trivial, ?_, ?_, ?_, ?_, ?_, ⟨⟨⟨ne_nil ?_, ne_nil ?_⟩, ?_⟩, sA2, sB2, ?_⟩, fun _ _ => ⟨(), ?_, trivial⟩⟩
              all_goals first | omega | (simp only [MrgA.l, RotA.l, List.length_append, insS_len]; omega) | (simp only [MrgA.l, MrgA.r, RotA.l, RotA.r, List.append_assoc])
            · have g3 := of_decide_eq_true g3
              have g4 := of_decide_eq_false g4
              have hI2 := insS_one sA2 sB2 (.inr (List.eq_nil_of_length_eq_zero (show B2.length = 0 by omega)))
              refine ⟨(), ?_, trivial⟩
              all_goals first | omega | (simp only [MrgA.l, RotA.l, List.length_append, insS_len]; omega) | (simp only [hI2, MrgA.l, MrgA.r, RotA.l, RotA.r, List.append_assoc])
            · have g3 := of_decide_eq_false g3
              have hI2 := insS_one sA2 sB2 (.inl (List.eq_nil_of_length_eq_zero (show A2.length = 0 by omega)))
              refine ⟨(), ?_, trivial⟩
              all_goals first | omega | (simp only [MrgA.l, RotA.l, List.length_append, insS_len]; omega) | (simp only [hI2, MrgA.l, MrgA.r, RotA.l, RotA.r, List.append_assoc])
          all_goals first | omega | (simp only [MrgA.l, RotA.l, List.length_append, insS_len]; omega) | (simp only [MrgA.l, MrgA.r, RotA.l, RotA.r, List.append_assoc])
        · have g1 := of_decide_eq_true g1
          have g2 := of_decide_eq_false g2
          have hI1 := insS_one sA1 sB1 (.inr (List.eq_nil_of_length_eq_zero (show B1.length = 0 by omega)))
          refine br_i (fun g3 => br_i (fun g4 => ?_) (fun g4 => ?_)) (fun g3 => ?_)
          · have g3 := of_decide_eq_true g3
            have g4 := of_decide_eq_true g4
            refine ⟨⟨x.P ++ insS (A1 ++ B1), A2, B2, x.Q⟩, trivial, ?_, ?_, ?_, ?_, ?_, ⟨⟨⟨ne_nil ?_, ne_nil ?_⟩, ?_⟩, sA2, sB2, ?_⟩, fun _ _ => ⟨(), ?_, trivial⟩⟩
            all_goals first | omega | (simp only [MrgA.l, RotA.l, List.length_append, insS_len]; omega) | (simp only [hI1, MrgA.l, MrgA.r, RotA.l, RotA.r, List.append_assoc])
          · have g3 := of_decide_eq_true g3
            have g4 := of_decide_eq_false g4
            have hI2 := insS_one sA2 sB2 (.inr (List.eq_nil_of_length_eq_zero (show B2.length = 0 by omega)))
            refine ⟨(), ?_, trivial⟩
            all_goals first | omega | (simp only [MrgA.l, RotA.l, List.length_append, insS_len]; omega) | (simp only [hI1, hI2, MrgA.l, MrgA.r, RotA.l, RotA.r, List.append_assoc])
          · have g3 := of_decide_eq_false g3
            have hI2 := insS_one sA2 sB2 (.inl (List.eq_nil_of_length_eq_zero (show A2.length = 0 by omega)))
            refine ⟨(), ?_, trivial⟩
            all_goals first | omega | (simp only [MrgA.l, RotA.l, List.length_append, insS_len]; omega) | (simp only [hI1, hI2, MrgA.l, MrgA.r, RotA.l, RotA.r, List.append_assoc])
        · have g1 := of_decide_eq_false g1
          have hI1 := insS_one sA1 sB1 (.inl (List.eq_nil_of_length_eq_zero (show A1.length = 0 by omega)))
          refine br_i (fun g3 => br_i (fun g4 => ?_) (fun g4 => ?_)) (fun g3 => ?_)
          · have g3 := of_decide_eq_true g3
            have g4 := of_decide_eq_true g4
            refine ⟨⟨x.P ++ insS (A1 ++ B1), A2, B2, x.Q⟩, trivial, ?_, ?_, ?_, ?_, ?_, ⟨⟨⟨ne_nil ?_, ne_nil ?_⟩, ?_⟩, sA2, sB2, ?_⟩, fun _ _ => ⟨(), ?_, trivial⟩⟩
            all_goals first | omega | (simp only [MrgA.l, RotA.l, List.length_append, insS_len]; omega) | (simp only [hI1, MrgA.l, MrgA.r, RotA.l, RotA.r, List.append_assoc])
          · have g3 := of_decide_eq_true g3
            have g4 := of_decide_eq_false g4
            have hI2 := insS_one sA2 sB2 (.inr (List.eq_nil_of_length_eq_zero (show B2.length = 0 by omega)))
            refine ⟨(), ?_, trivial⟩
            all_goals first | omega | (simp only [MrgA.l, RotA.l, List.length_append, insS_len]; omega) | (simp only [hI1, hI2, MrgA.l, MrgA.r, RotA.l, RotA.r, List.append_assoc])
          · have g3 := of_decide_eq_false g3
            have hI2 := insS_one sA2 sB2 (.inl (List.eq_nil_of_length_eq_zero (show A2.length = 0 by omega)))
            refine ⟨(), ?_, trivial⟩
            all_goals first | omega | (simp only [MrgA.l, RotA.l, List.length_append, insS_len]; omega) | (simp only [hI1, hI2, MrgA.l, MrgA.r, RotA.l, RotA.r, List.append_assoc])
      · have q1 := of_decide_eq_false q1
        have hA2 : A2 = [] := List.eq_nil_of_length_eq_zero (by omega)
        have hxl2 : xl = x.P ++ (A1 ++ (B1 ++ (A2 ++ (B2 ++ x.Q)))) := by rw [hxl, hA2]; simp only [List.nil_append]
        clear hxl
        have hA0 : A2.length = 0 := by rw [hA2]; rfl
        subst hxl2
        refine br_i (fun g1 => br_i (fun g2 => ?_) (fun g2 => ?_)) (fun g1 => ?_)
        · have g1 := of_decide_eq_true g1
          have g2 := of_decide_eq_true g2
          refine ⟨⟨x.P, A1, B1, A2 ++ (B2 ++ x.Q)⟩, trivial, ?_, ?_, ?_, ?_, ?_, ⟨⟨⟨ne_nil ?_, ne_nil ?_⟩, ?_⟩, sA1, sB1, ?_⟩, fun _ _ => ?_⟩
          rotate_right
          · refine br_i (fun g3 => br_i (fun g4 => ?_) (fun g4 => ?_)) (fun g3 => ?_)
            · have g3 := of_decide_eq_true g3
              have g4 := of_decide_eq_true g4
              refine ⟨⟨x.P ++ insS (A1 ++ B1), A2, B2, x.Q⟩, trivial, ?_, ?_, ?_, ?_, ?_, ⟨⟨⟨ne_nil ?_, ne_nil ?_⟩, ?_⟩, sA2, sB2, ?_⟩, fun _ _ => ⟨(), ?_, trivial⟩⟩
              all_goals first | omega | (simp only [MrgA.l, RotA.l, List.length_append, insS_len]; omega) | (simp only [MrgA.l, MrgA.r, RotA.l, RotA.r, List.append_assoc])
            · have g3 := of_decide_eq_true g3
              have g4 := of_decide_eq_false g4
              have hI2 := insS_one sA2 sB2 (.inr (List.eq_nil_of_length_eq_zero (show B2.length = 0 by omega)))
              refine ⟨(), ?_, trivial⟩
              all_goals first | omega | (simp only [MrgA.l, RotA.l, List.length_append, insS_len]; omega) | (simp only [hI2, MrgA.l, MrgA.r, RotA.l, RotA.r, List.append_assoc])
            · have g3 := of_decide_eq_false g3
              have hI2 := insS_one sA2 sB2 (.inl (List.eq_nil_of_length_eq_zero (show A2.length = 0 by omega)))
              refine ⟨(), ?_, trivial⟩
              all_goals first | omega | (simp only [MrgA.l, RotA.l, List.length_append, insS_len]; omega) | (simp only [hI2, MrgA.l, MrgA.r, RotA.l, RotA.r, List.append_assoc])
          all_goals first | omega | (simp only [MrgA.l, RotA.l, List.length_append, insS_len]; omega) | (simp only [MrgA.l, MrgA.r, RotA.l, RotA.r, List.append_assoc])
        · have g1 := of_decide_eq_true g1
          have g2 := of_decide_eq_false g2
          have hI1 := insS_one sA1 sB1 (.inr (List.eq_nil_of_length_eq_zero (show B1.length = 0 by omega)))
          refine br_i (fun g3 => br_i (fun g4 => ?_) (fun g4 => ?_)) (fun g3 => ?_)
          · have g3 := of_decide_eq_true g3
            have g4 := of_decide_eq_true g4
            refine ⟨⟨x.P ++ insS (A1 ++ B1), A2, B2, x.Q⟩, trivial, ?_, ?_, ?_, ?_, ?_, ⟨⟨⟨ne_nil ?_, ne_nil ?_⟩, ?_⟩, sA2, sB2, ?_⟩, fun _ _ => ⟨(), ?_, trivial⟩⟩
            all_goals first | omega | (simp only [MrgA.l, RotA.l, List.length_append, insS_len]; omega) | (simp only [hI1, MrgA.l, MrgA.r, RotA.l, RotA.r, List.append_assoc])
          · have g3 := of_decide_eq_true g3
            have g4 := of_decide_eq_false g4
            have hI2 := insS_one sA2 sB2 (.inr (List.eq_nil_of_length_eq_zero (show B2.length = 0 by omega)))
            refine ⟨(), ?_, trivial⟩
            all_goals first | omega | (simp only [MrgA.l, RotA.l, List.length_append, insS_len]; omega) | (simp only [hI1, hI2, MrgA.l, MrgA.r, RotA.l, RotA.r, List.append_assoc])
          · have g3 := of_decide_eq_false g3
            have hI2 := insS_one sA2 sB2 (.inl (List.eq_nil_of_length_eq_zero (show A2.length = 0 by omega)))
            refine ⟨(), ?_, trivial⟩
            all_goals first | omega | (simp only [MrgA.l, RotA.l, List.length_append, insS_len]; omega) | (simp only [hI1, hI2, MrgA.l, MrgA.r, RotA.l, RotA.r, List.append_assoc])
        · have g1 := of_decide_eq_false g1
          have hI1 := insS_one sA1 sB1 (.inl (List.eq_nil_of_length_eq_zero (show A1.length = 0 by omega)))
          refine br_i (fun g3 => br_i (fun g4 => ?_) (fun g4 => ?_)) (fun g3 => ?_)
          · have g3 := of_decide_eq_true g3
            have g4 := of_decide_eq_true g4
            refine ⟨⟨x.P ++ insS (A1 ++ B1), A2, B2, x.Q⟩, trivial, ?_, ?_, ?_, ?_, ?_, ⟨⟨⟨ne_nil ?_, ne_nil ?_⟩, ?_⟩, sA2, sB2, ?_⟩, fun _ _ => ⟨(), ?_, trivial⟩⟩
            all_goals first | omega | (simp only [MrgA.l, RotA.l, List.length_append, insS_len]; omega) | (simp only [hI1, MrgA.l, MrgA.r, RotA.l, RotA.r, List.append_assoc])
          · have g3 := of_decide_eq_true g3
            have g4 := of_decide_eq_false g4
            have hI2 := insS_one sA2 sB2 (.inr (List.eq_nil_of_length_eq_zero (show B2.length = 0 by omega)))
            refine ⟨(), ?_, trivial⟩
            all_goals first | omega | (simp only [MrgA.l, RotA.l, List.length_append, insS_len]; omega) | (simp only [hI1, hI2, MrgA.l, MrgA.r, RotA.l, RotA.r, List.append_assoc])
          · have g3 := of_decide_eq_false g3
            have hI2 := insS_one sA2 sB2 (.inl (List.eq_nil_of_length_eq_zero (show A2.length = 0 by omega)))
            refine ⟨(), ?_, trivial⟩
            all_goals first | omega | (simp only [MrgA.l, RotA.l, List.length_append, insS_len]; omega) | (simp only [hI1, hI2, MrgA.l, MrgA.r, RotA.l, RotA.r, List.append_assoc])
theorem mrg_two {E0 E : Envr} (hE0 : EnvOK E0) (hE : EnvOK E) (hP : E.P = E0.P) {n : Nat} (T : Tri) {f : FuncId} (hbody : ∀ x, T.pre x → evCall E0 (ev E n) f (T.args x) ⟨T.blks x, T.n0, []⟩ (fun _ _ => False) (T.ends x)) : SpecOK E0.P f T.spec :=
  Tri.ok' T fun x hx F g w vs hargs hm => (evCall_sound hE0 (fun c => hP ▸ (ev_sound hE n).1 c) (hbody x hx) hargs hm).2
set_option maxRecDepth 100000 in
theorem mrg_env {n : Nat} (h : SpecOK Try.prog 97 (mrgT n).spec) : EnvOK (mrgE n) := Env_ok (by decide +kernel) (by
  intro p hp
  simp only [List.mem_cons, List.mem_nil_iff, or_false] at hp
  rcases hp with rfl | rfl | rfl
  · exact compare_ok
  · exact rot_ok
  · exact h)
theorem bare_mrg : EnvOK bareE := Env_ok (by decide +kernel) (by simp)
set_option maxRecDepth 100000 in
theorem mrg_ok (n : Nat) : SpecOK Try.prog 97 (mrgT n).spec := by
  induction n with
  | zero =>
    refine Tri.ok' (mrgT 0) fun x hx => ?_
    obtain ⟨_, _, _, h⟩ := hx
    exact absurd h (Nat.not_lt_zero _)
  | succ n ih => exact mrg_two (E0 := bareE) (E := mrgE n) bare_mrg (mrg_env ih) rfl (n := 1000) (mrgS n) (fun x hx => mrg_body n x hx)
end Go.Proofs.Ytkhiifaldbjpbaa.Ses

namespace Go.Proofs.Ytkhiifaldbjpbaa.Ses
open Go Go.Proofs Go.Proofs.Ytkhiifaldbjpbaa.Sx

/-- a merge, by places -/
theorem mrg_mid {l : List ChangeD} {a m b : Nat} (h1 : a ≤ m) (h2 : m ≤ b) (h3 : b ≤ l.length) :
    (MrgA.l ⟨l.take a, sliceL l a m, sliceL l m b, l.drop b⟩) = l ∧ (MrgA.r ⟨l.take a, sliceL l a m, sliceL l m b, l.drop b⟩) = midL l a b (insS (sliceL l a b)) := by
  have e := sliceL_split h1 h2 h3
  have e2 := midL_self (l := l) (Nat.le_trans h1 h2) h3
  refine ⟨?_, ?_⟩
  · conv => rhs; rw [← e2]
    unfold MrgA.l midL
    rw [e]; simp
  · unfold MrgA.r midL
    rw [e]
set_option maxHeartbeats 0 in
theorem stb_ok : SpecOK Try.prog 92 stbT.spec := by
  refine Tri.ok (E := stbE) (Env_ok (by decide +kernel) (by simp [ins_ok, mrg_ok])) (n := 1000) stbT fun x hx => ?_
  rw [stb_vc]
  revert hx
  revert x
  intro (x : List ChangeD) (hp : fewX x = true)
  have hp : x.length ≤ 100000 := of_decide_eq_true hp
  simp only [Int.toNat_natCast, Nat.zero_add]
  refine ⟨⟨⟨0, 0, x⟩, rfl, rfl, rfl, ⟨rfl, Nat.zero_le _⟩, rfl, fun _ => rfl, fun q hq => absurd hq (Nat.not_lt_zero _)⟩, fun y hy => br_i (fun h1 => ?_) (fun h1 => ?_)⟩
  · obtain ⟨⟨y1, y2⟩, y3, y4, y5⟩ := hy
    replace h1 := of_decide_eq_true h1
    have hk : 20 * (y.k + 1) = 20 * y.k + 20 := by omega
    have hb : 20 * y.k + 20 ≤ y.l.length := by omega
    have hlen := midS_len (l := y.l) (a := 20 * y.k) (b := 20 * y.k + 20) (by omega) hb
    have hcl := midL_cls (l := y.l) (a := 20 * y.k) (b := 20 * y.k + 20) (by omega) hb
    refine ⟨⟨y.l, 20 * y.k, 20 * y.k + 20⟩, trivial, y1.symm, rfl, rfl, rfl, ⟨by show 20 * y.k ≤ 20 * y.k + 20; omega, hb⟩, fun _ _ => ⟨⟨0, y.k + 1, _⟩, by show ((20 * y.k + 20 : Nat) : Int) = ((20 * (y.k + 1) : Nat) : Int); omega, by rw [wrap_id (by omega) (by omega)]; show ((20 * y.k + 20 : Nat) : Int) + 20 = ((20 * (y.k + 1) + 20 : Nat) : Int); omega, rfl, ⟨⟨hlen.trans y1, by show 20 * (y.k + 1) ≤ x.length; omega⟩, ?_, fun p => (hcl p).trans (y4 p), ?_⟩, by show x.length - 20 * (y.k + 1) < x.length - 20 * y.k; omega⟩⟩
    · show (midL y.l (20 * y.k) (20 * y.k + 20) (insS (sliceL y.l (20 * y.k) (20 * y.k + 20)))).drop (20 * (y.k + 1)) = x.drop (20 * (y.k + 1))
      rw [hk, midL_drop (by omega) hb (by rw [insS_len, sliceL_len hb]), ← List.drop_drop, y3, List.drop_drop]
    · exact blk_step (l := y.l) (w := 20) (k := y.k) (b := 20 * y.k + 20) (by omega) (by omega) y5
  · obtain ⟨⟨y1, y2⟩, y3, y4, y5⟩ := hy
    replace h1 := of_decide_eq_false h1
    have hb : x.length ≤ y.l.length := by omega
    have hlen := midS_len (l := y.l) (a := 20 * y.k) (b := x.length) y2 hb
    have hcls := midL_cls (l := y.l) (a := 20 * y.k) (b := x.length) y2 hb
    have hall := blk_step (l := y.l) (w := 20) (k := y.k) (b := x.length) (by omega) (by omega) y5
    refine ⟨⟨y.l, 20 * y.k, x.length⟩, trivial, y1.symm, rfl, rfl, rfl, ⟨y2, hb⟩, fun _ _ => ?_⟩
    dsimp only
    have hall2 := blk_all (w := 20) (k := y.k) (by rw [hlen]; omega) hall
    generalize midL y.l (20 * y.k) x.length (insS (sliceL y.l (20 * y.k) x.length)) = z at hlen hcls hall2 ⊢
    clear hall
    have hzl : z.length = x.length := hlen.trans y1
    have hzc : ∀ p, clsC p z = clsC p x := fun p => (hcls p).trans (y4 p)
    refine ⟨⟨⟨20, 0, z⟩, rfl, rfl, ⟨rfl, Nat.le_refl _, by show 20 ≤ 20 + 2 * z.length; omega⟩, fun _ => rfl, hall2⟩, fun t ht => br_i (fun h2 => ?_) (fun h2 => ?_)⟩
    · obtain ⟨⟨t1, t2, t3⟩, t4, t5⟩ := ht
      replace h2 := of_decide_eq_true h2
      have w2 : IntKind.i64.wrap (2 * (t.w : Int)) = ((2 * t.w : Nat) : Int) := by rw [wrap_id (by omega) (by omega)]; omega
      have w3 : IntKind.i64.wrap ((t.w : Int) * 2) = ((2 * t.w : Nat) : Int) := by rw [wrap_id (by omega) (by omega)]; omega
      rw [w2, w3]
      refine ⟨⟨⟨0, 0, t.l⟩, by show (0 : Int) = ((2 * t.w * 0 : Nat) : Int); simp, by show ((2 * t.w : Nat) : Int) = ((2 * t.w * 0 + 2 * t.w : Nat) : Int); simp, rfl, ⟨rfl, by show 2 * t.w * 0 ≤ _; simp⟩, fun _ => rfl, fun q hq => absurd hq (Nat.not_lt_zero _), fun q _ => t5 q⟩, fun u hu => br_i (fun h3 => ?_) (fun h3 => ?_)⟩
      · obtain ⟨⟨u1, u2⟩, u3, u4, u5⟩ := hu
        replace h3 := of_decide_eq_true h3
        have hk : 2 * t.w * (u.k + 1) = 2 * t.w * u.k + 2 * t.w := Nat.mul_succ _ _
        generalize hm : 2 * t.w * u.k = m at *
        have hb : m + 2 * t.w ≤ u.l.length := by omega
        have hs := blk_two (l := u.l) (w := t.w) (k := u.k) u5 (by rw [hm]; omega)
        rw [hm] at hs
        have hs2 := hs.2 (m + 2 * t.w) (by omega)
        obtain ⟨e1, e2⟩ := mrg_mid (l := u.l) (a := m) (m := m + t.w) (b := m + 2 * t.w) (by omega) (by omega) hb
        have l1 : (u.l.take m).length = m := by rw [List.length_take]; omega
        have l2 : (sliceL u.l m (m + t.w)).length = t.w := by rw [sliceL_len (by omega)]; omega
        have l3 : (sliceL u.l (m + t.w) (m + 2 * t.w)).length = t.w := by rw [sliceL_len hb]; omega
        have hlen2 := midS_len (l := u.l) (a := m) (b := m + 2 * t.w) (by omega) hb
        refine ⟨⟨u.l.take m, sliceL u.l m (m + t.w), sliceL u.l (m + t.w) (m + 2 * t.w), u.l.drop (m + 2 * t.w)⟩, trivial, by rw [e1]; omega, by rw [l1], by rw [wrap_id (by omega) (by omega)]; dsimp only; rw [l1, l2]; omega, by dsimp only; rw [l1, l2, l3]; omega, e1.symm, ⟨⟨⟨ne_nil (by dsimp only; omega), ne_nil (by dsimp only; omega)⟩, by rw [e1]; omega⟩, hs.1, hs2, by dsimp only; omega⟩, fun _ _ => ⟨⟨0, u.k + 1, _⟩, by dsimp only; rw [hk], by rw [wrap_id (by omega) (by omega)]; dsimp only; rw [hk]; omega, e2, ⟨⟨hlen2.trans u1, by dsimp only; rw [hk]; omega⟩, fun p => (midL_cls (by omega) hb p).trans (u3 p), ?_, ?_⟩, by show t.l.length - 2 * t.w * (u.k + 1) < t.l.length - m; rw [hk]; omega⟩⟩
        · have := blk_step (l := u.l) (w := 2 * t.w) (k := u.k) (b := m + 2 * t.w) (by rw [hk]; omega) (by rw [hm]; omega) u4
          rw [hm] at this
          exact this
        · have := blk_hi (l := u.l) (w := t.w) (k := u.k) (b := m + 2 * t.w) (by rw [hm]) hb u5
          rw [hm] at this
          exact this
      · obtain ⟨⟨u1, u2⟩, u3, u4, u5⟩ := hu
        replace h3 := of_decide_eq_false h3
        have hk : 2 * t.w * (u.k + 1) = 2 * t.w * u.k + 2 * t.w := Nat.mul_succ _ _
        have hlast := blk_last (l := u.l) (w := t.w) (k := u.k) u5 (by omega)
        have hst := blk_step (l := u.l) (w := 2 * t.w) (k := u.k) (b := x.length) (by rw [hk]; omega) (by omega) u4
        have hs := blk_two (l := u.l) (w := t.w) (k := u.k) u5
        have hul : u.l.length = x.length := by omega
        have w4 : IntKind.i64.wrap (((2 * t.w * u.k : Nat) : Int) + (t.w : Int)) = ((2 * t.w * u.k + t.w : Nat) : Int) := by rw [wrap_id (by omega) (by omega)]; omega
        simp only [w4]
        have hlen2 := midS_len (l := u.l) (a := (2 * t.w * u.k)) (b := x.length) (by omega) (by omega)
        have hcl2 := midL_cls (l := u.l) (a := (2 * t.w * u.k)) (b := x.length) (by omega) (by omega)
        have hall3 := blk_all (w := 2 * t.w) (k := u.k) (by rw [hlen2, hk]; omega) hst
        refine br_i (fun h4 => ?_) (fun h4 => ?_)
        · replace h4 := of_decide_eq_true h4
          have hs := hs (by omega)
          have hs2 := hs.2 x.length (by omega)
          obtain ⟨e1, e2⟩ := mrg_mid (l := u.l) (a := (2 * t.w * u.k)) (m := (2 * t.w * u.k) + t.w) (b := x.length) (by omega) (by omega) (by omega)
          have l1 : (u.l.take (2 * t.w * u.k)).length = 2 * t.w * u.k := by rw [List.length_take]; omega
          have l2 : (sliceL u.l (2 * t.w * u.k) ((2 * t.w * u.k) + t.w)).length = t.w := by rw [sliceL_len (by omega)]; omega
          have l3 : (sliceL u.l ((2 * t.w * u.k) + t.w) x.length).length = x.length - ((2 * t.w * u.k) + t.w) := sliceL_len (by omega)
          exact ⟨⟨u.l.take (2 * t.w * u.k), sliceL u.l (2 * t.w * u.k) ((2 * t.w * u.k) + t.w), sliceL u.l ((2 * t.w * u.k) + t.w) x.length, u.l.drop x.length⟩, trivial, by rw [e1]; omega, by rw [l1], by dsimp only; rw [l1, l2], by dsimp only; rw [l1, l2, l3]; omega, e1.symm, ⟨⟨⟨ne_nil (by dsimp only; omega), ne_nil (by dsimp only; omega)⟩, by rw [e1]; omega⟩, hs.1, hs2, by dsimp only; omega⟩, fun _ _ => ⟨⟨2 * t.w, 0, _⟩, rfl, e2, ⟨⟨hlen2.trans (u1.trans t1), by dsimp only; omega, by dsimp only; omega⟩, fun p => ((hcl2 p).trans (u3 p)).trans (t4 p), hall3⟩, by show z.length - 2 * t.w < z.length - t.w; omega⟩⟩
        · replace h4 := of_decide_eq_false h4
          have hm2 : midL u.l (2 * t.w * u.k) x.length (insS (sliceL u.l (2 * t.w * u.k) x.length)) = u.l := by
            rw [← hul, insS_self (hlast (by omega))]
            exact midL_self (by omega) (Nat.le_refl _)
          rw [hm2] at hall3
          exact ⟨⟨2 * t.w, 0, u.l⟩, rfl, rfl, ⟨⟨by dsimp only; omega, by dsimp only; omega, by dsimp only; omega⟩, fun p => (u3 p).trans (t4 p), hall3⟩, by show z.length - 2 * t.w < z.length - t.w; omega⟩
    · obtain ⟨⟨t1, t2, t3⟩, t4, t5⟩ := ht
      replace h2 := of_decide_eq_false h2
      exact ⟨(), insS_of (blk_one (w := t.w) (by omega) (t5 0)) fun p => (t4 p).trans (hzc p), trivial⟩
theorem ssx_ok : SpecOK Try.prog 86 ssxT.spec := by
  refine Tri.ok (E := ssxE) (Env_ok (by decide +kernel) (by simp [stb_ok])) (n := 1000) ssxT fun x hx => ?_
  rw [ssx_vc]
  exact fun _ => ⟨x, rfl, rfl, rfl, rfl, hx, fun _ _ => ⟨(), rfl, trivial⟩⟩
theorem sorx_ok : SpecOK Try.prog 49 sorxT.spec := by
  refine Tri.ok (E := sorxE) (Env_ok (by decide +kernel) (by simp [clo_ok, ssx_ok])) (n := 1000) sorxT fun x hx => ?_
  rw [sorx_vc]
  exact ⟨x, rfl, trivial, fun _ _ => ⟨x, rfl, rfl, rfl, hx, fun _ _ => ⟨(), rfl, rfl, rfl, trivial⟩⟩⟩
end Go.Proofs.Ytkhiifaldbjpbaa.Ses
