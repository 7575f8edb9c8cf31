/- Sorting any changes, so that what is alike stays as it stood: plain laws. No condition. -/
import Derived.Test.YtkhiifaldbjpbaaChbA
import Derived.KernelRfl
set_option linter.unusedSimpArgs false
set_option linter.unusedVariables false

namespace Go.Proofs.Ytkhiifaldbjpbaa.Ses
open Go Go.Proofs Go.Proofs.Ytkhiifaldbjpbaa.Sx

/-! ### sorted rows; what is alike stays as it stood -/

def leC (a b : ChangeD) : Prop := cmpC a b ≤ 0
def srtC (l : List ChangeD) : Prop := l.Pairwise leC
/-- those of a path, as they stand -/
def clsC (p : Bs) (l : List ChangeD) : List ChangeD := l.filter fun x => x.path == p

theorem cmpC_swap (a b : ChangeD) : cmpC b a = -cmpC a b := cmpL_swap _ _
theorem cmpC_vals (a b : ChangeD) : cmpC a b = -1 ∨ cmpC a b = 0 ∨ cmpC a b = 1 := cmpL_vals _ _
theorem cmpC_zero {a b : ChangeD} : cmpC a b = 0 ↔ a.path = b.path := by
  unfold cmpC
  rw [cmpL_zero]
  exact ⟨fun h => split_inj h, fun h => by rw [h]⟩
theorem leC_trans {a b c : ChangeD} (h1 : leC a b) (h2 : leC b c) : leC a c := (cmpL_trans h1 h2).1
theorem leC_of_lt {a b : ChangeD} (h : cmpC a b < 0) : leC a b := by unfold leC; omega
theorem leC_not {a b : ChangeD} (h : ¬ cmpC a b < 0) : leC b a := by unfold leC; rw [cmpC_swap a b]; omega
theorem lt_leC {a b c : ChangeD} (h1 : cmpC a b < 0) (h2 : leC b c) : cmpC a c < 0 := by
  obtain ⟨h3, h4⟩ := cmpL_trans (leC_of_lt h1) h2
  have h3 : cmpC a c ≤ 0 := h3
  have h4 : cmpC a c = 0 → cmpC a b = 0 ∧ cmpC b c = 0 := h4
  rcases cmpC_vals a c with h | h | h
  · omega
  · have := (h4 h).1; omega
  · omega
theorem leC_lt {a b c : ChangeD} (h1 : leC a b) (h2 : cmpC b c < 0) : cmpC a c < 0 := by
  obtain ⟨h3, h4⟩ := cmpL_trans h1 (leC_of_lt h2)
  have h3 : cmpC a c ≤ 0 := h3
  have h4 : cmpC a c = 0 → cmpC a b = 0 ∧ cmpC b c = 0 := h4
  rcases cmpC_vals a c with h | h | h
  · omega
  · have := (h4 h).2; omega
  · omega

theorem clsC_append (p : Bs) (a b : List ChangeD) : clsC p (a ++ b) = clsC p a ++ clsC p b := List.filter_append _ _
theorem clsC_cons (p : Bs) (x : ChangeD) (l : List ChangeD) : clsC p (x :: l) = clsC p [x] ++ clsC p l := clsC_append p [x] l
theorem clsC_mem {p : Bs} {l : List ChangeD} {x : ChangeD} : x ∈ clsC p l ↔ x ∈ l ∧ x.path = p := by
  unfold clsC
  rw [List.mem_filter]
  simp

theorem srt_uniq : ∀ {a b : List ChangeD}, srtC a → srtC b → (∀ p, clsC p a = clsC p b) → a = b
  | [], [], _, _, _ => rfl
  | [], y :: r, _, _, h => by
    have := h y.path
    have hm : y ∈ clsC y.path (y :: r) := clsC_mem.2 ⟨by simp, rfl⟩
    rw [← this] at hm
    cases hm
  | x :: r, [], _, _, h => by
    have := h x.path
    have hm : x ∈ clsC x.path (x :: r) := clsC_mem.2 ⟨by simp, rfl⟩
    rw [this] at hm
    cases hm
  | x :: a, y :: b, ha, hb, h => by
    have ha' := List.pairwise_cons.1 ha
    have hb' := List.pairwise_cons.1 hb
    have hp : x.path = y.path := by
      have h1 : leC x y := by
        have hm : y ∈ clsC y.path (y :: b) := clsC_mem.2 ⟨by simp, rfl⟩
        rw [← h y.path] at hm
        rcases List.mem_cons.1 (clsC_mem.1 hm).1 with e | e
        · rw [e]; unfold leC; rw [cmpC_zero.2 rfl]; omega
        · exact ha'.1 _ e
      have h2 : leC y x := by
        have hm : x ∈ clsC x.path (x :: a) := clsC_mem.2 ⟨by simp, rfl⟩
        rw [h x.path] at hm
        rcases List.mem_cons.1 (clsC_mem.1 hm).1 with e | e
        · rw [e]; unfold leC; rw [cmpC_zero.2 rfl]; omega
        · exact hb'.1 _ e
      unfold leC at h1 h2
      rw [cmpC_swap x y] at h2
      exact cmpC_zero.1 (by omega)
    have hx := h x.path
    have e : x = y := by
      unfold clsC at hx
      rw [List.filter_cons_of_pos (by simp), List.filter_cons_of_pos (by simp [hp])] at hx
      exact (List.cons.inj hx).1
    subst e
    have : a = b := srt_uniq ha'.2 hb'.2 fun p => by
      have := h p
      unfold clsC at this ⊢
      by_cases hq : x.path = p
      · rw [List.filter_cons_of_pos (by simpa using hq), List.filter_cons_of_pos (by simpa using hq)] at this
        exact (List.cons.inj this).2
      · rw [List.filter_cons_of_neg (by simpa using hq), List.filter_cons_of_neg (by simpa using hq)] at this
        exact this
    rw [this]

theorem mem_insF {x a : ChangeD} : ∀ {l : List ChangeD}, a ∈ insF x l ↔ a = x ∨ a ∈ l
  | [] => by simp [insF]
  | s :: r => by
    unfold insF
    cases decide (cmpC x s < 0)
    · simp
    · simp only [cond_true, List.mem_cons, mem_insF (l := r)]
      constructor
      · rintro (h | h | h)
        · exact .inr (.inl h)
        · exact .inl h
        · exact .inr (.inr h)
      · rintro (h | h | h)
        · exact .inr (.inl h)
        · exact .inl h
        · exact .inr (.inr h)
theorem mem_insR {x a : ChangeD} {l : List ChangeD} : a ∈ insR x l ↔ a = x ∨ a ∈ l := by
  unfold insR
  rw [List.mem_reverse, mem_insF, List.mem_reverse]

theorem insR_srt {x : ChangeD} {l : List ChangeD} (h : srtC l) : srtC (insR x l) := by
  refine snocC (p := fun l => srtC l → srtC (insR x l)) (fun _ => by simp [insR_nil, srtC]) (fun S s ih h => ?_) l h
  have hS : srtC S := (List.pairwise_append.1 h).1
  have hs : ∀ a, a ∈ S → leC a s := fun a ha => (List.pairwise_append.1 h).2.2 a ha s (by simp)
  by_cases g : cmpC x s < 0
  · rw [insR_lt g]
    unfold srtC
    rw [List.pairwise_append]
    refine ⟨ih hS, by simp, fun a ha b hb => ?_⟩
    have hb : b = s := by simpa using hb
    subst hb
    rcases mem_insR.1 ha with rfl | ha
    · exact leC_of_lt g
    · exact hs a ha
  · rw [insR_ge g]
    unfold srtC
    rw [List.pairwise_append]
    refine ⟨h, by simp, fun a ha b hb => ?_⟩
    have hb : b = x := by simpa using hb
    subst hb
    rcases List.mem_append.1 ha with ha | ha
    · exact leC_trans (hs a ha) (leC_not g)
    · have ha : a = s := by simpa using ha
      rw [ha]; exact leC_not g
where
  snocC {p : List ChangeD → Prop} (h0 : p []) (h1 : ∀ l x, p l → p (l ++ [x])) (l : List ChangeD) : p l := by
    have : ∀ r : List ChangeD, p r.reverse := by
      intro r
      induction r with
      | nil => exact h0
      | cons x r ih => rw [List.reverse_cons]; exact h1 _ _ ih
    have := this l.reverse
    rwa [List.reverse_reverse] at this

theorem snocC {p : List ChangeD → Prop} (h0 : p []) (h1 : ∀ l x, p l → p (l ++ [x])) (l : List ChangeD) : p l := insR_srt.snocC h0 h1 l

theorem insR_cls {x : ChangeD} (p : Bs) {l : List ChangeD} : clsC p (insR x l) = clsC p l ++ clsC p [x] := by
  refine snocC (p := fun l => clsC p (insR x l) = clsC p l ++ clsC p [x]) (by simp [insR_nil, clsC]) (fun S s ih => ?_) l
  by_cases g : cmpC x s < 0
  · rw [insR_lt g, clsC_append, ih, clsC_append, List.append_assoc, List.append_assoc]
    congr 1
    unfold clsC
    by_cases h1 : x.path = p
    · have h2 : s.path ≠ p := fun e => by rw [cmpC_zero.2 (h1.trans e.symm)] at g; omega
      simp [h1, h2]
    · simp [h1]
  · rw [insR_ge g, clsC_append]

theorem insS_srt (l : List ChangeD) : srtC (insS l) := snocC (p := fun l => srtC (insS l)) List.Pairwise.nil (fun l x h => by rw [insS_snoc]; exact insR_srt h) l
theorem insS_cls (p : Bs) (l : List ChangeD) : clsC p (insS l) = clsC p l :=
  snocC (p := fun l => clsC p (insS l) = clsC p l) rfl (fun l x h => by rw [insS_snoc, insR_cls, h, clsC_append]) l
/-- sorted, and alike in each path's own: the sorted one -/
theorem insS_of {a l : List ChangeD} (h1 : srtC a) (h2 : ∀ p, clsC p a = clsC p l) : a = insS l :=
  srt_uniq h1 (insS_srt l) fun p => by rw [h2, insS_cls]
theorem insS_self {l : List ChangeD} (h : srtC l) : insS l = l := (insS_of h fun _ => rfl).symm
theorem mem_insS {l : List ChangeD} {x : ChangeD} : x ∈ insS l ↔ x ∈ l := by
  have h := insS_cls x.path l
  constructor
  · intro hx
    have : x ∈ clsC x.path (insS l) := clsC_mem.2 ⟨hx, rfl⟩
    rw [h] at this
    exact (clsC_mem.1 this).1
  · intro hx
    have : x ∈ clsC x.path l := clsC_mem.2 ⟨hx, rfl⟩
    rw [← h] at this
    exact (clsC_mem.1 this).1

theorem srt_append {a b : List ChangeD} (ha : srtC a) (hb : srtC b) (h : ∀ x, x ∈ a → ∀ y, y ∈ b → leC x y) : srtC (a ++ b) := List.pairwise_append.2 ⟨ha, hb, h⟩
theorem srt_left {a b : List ChangeD} (h : srtC (a ++ b)) : srtC a := (List.pairwise_append.1 h).1
theorem srt_right {a b : List ChangeD} (h : srtC (a ++ b)) : srtC b := (List.pairwise_append.1 h).2.1
theorem srt_cross {a b : List ChangeD} (h : srtC (a ++ b)) : ∀ x, x ∈ a → ∀ y, y ∈ b → leC x y := (List.pairwise_append.1 h).2.2

/-- two rows, of which the second stands ahead of the first throughout -/
theorem cls_swap {a b : List ChangeD} (h : ∀ x, x ∈ a → ∀ y, y ∈ b → cmpC y x < 0) (p : Bs) : clsC p b ++ clsC p a = clsC p a ++ clsC p b := by
  cases ha : clsC p a with
  | nil => simp
  | cons x r =>
    have hx : x ∈ clsC p a := by rw [ha]; simp
    have hb : clsC p b = [] := by
      cases hb : clsC p b with
      | nil => rfl
      | cons y s =>
        have hy : y ∈ clsC p b := by rw [hb]; simp
        have h1 := clsC_mem.1 hx
        have h2 := clsC_mem.1 hy
        have := h x h1.1 y h2.1
        rw [cmpC_zero.2 (h2.2.trans h1.2.symm)] at this
        omega
    rw [hb]; simp

/-- merging by halves: the parts that change places -/
theorem merge_parts {A1 A2 B1 B2 : List ChangeD} (hA : srtC (A1 ++ A2)) (hB : srtC (B1 ++ B2)) (h1 : ∀ x, x ∈ A2 → ∀ y, y ∈ B1 → cmpC y x < 0) (h2 : ∀ x, x ∈ A1 → ∀ y, y ∈ B2 → leC x y) :
    insS ((A1 ++ A2) ++ (B1 ++ B2)) = insS (A1 ++ B1) ++ insS (A2 ++ B2) := by
  refine (insS_of (srt_append (insS_srt _) (insS_srt _) ?_) ?_).symm
  · intro x hx y hy
    rw [mem_insS, List.mem_append] at hx hy
    rcases hx with hx | hx <;> rcases hy with hy | hy
    · exact srt_cross hA x hx y hy
    · exact h2 x hx y hy
    · exact leC_of_lt (h1 y hy x hx)
    · exact srt_cross hB x hx y hy
  · intro p
    simp only [clsC_append, insS_cls, List.append_assoc]
    congr 1
    rw [← List.append_assoc, cls_swap h1 p, List.append_assoc]

/-- one ahead of a sorted row -/
theorem merge_first {x : ChangeD} {P Q : List ChangeD} (h : srtC (P ++ Q)) (hP : ∀ y, y ∈ P → cmpC y x < 0) (hQ : ∀ y, y ∈ Q → leC x y) : insS (x :: (P ++ Q)) = P ++ x :: Q := by
  refine (insS_of ?_ fun p => ?_).symm
  · refine srt_append (srt_left h) (List.pairwise_cons.2 ⟨hQ, srt_right h⟩) fun a ha b hb => ?_
    rcases List.mem_cons.1 hb with rfl | hb
    · exact leC_of_lt (hP a ha)
    · exact srt_cross h a ha b hb
  · have := cls_swap (a := [x]) (b := P) (by simpa using hP) p
    rw [clsC_append, clsC_cons p x Q, ← List.append_assoc, this, clsC_cons p x (P ++ Q), clsC_append, List.append_assoc]
/-- one behind a sorted row -/
theorem merge_last {x : ChangeD} {P Q : List ChangeD} (h : srtC (P ++ Q)) (hP : ∀ y, y ∈ P → leC y x) (hQ : ∀ y, y ∈ Q → cmpC x y < 0) : insS ((P ++ Q) ++ [x]) = P ++ x :: Q := by
  refine (insS_of ?_ fun p => ?_).symm
  · refine srt_append (srt_left h) (List.pairwise_cons.2 ⟨fun y hy => leC_of_lt (hQ y hy), srt_right h⟩) fun a ha b hb => ?_
    rcases List.mem_cons.1 hb with rfl | hb
    · exact hP a ha
    · exact srt_cross h a ha b hb
  · have := cls_swap (a := Q) (b := [x]) (fun y hy z hz => by have : z = x := by simpa using hz
                                                              rw [this]; exact hQ y hy) p
    rw [clsC_append, clsC_cons p x Q, this, clsC_append, clsC_append, List.append_assoc]

/-! ### parts of rows -/

theorem sliceL_split {l : List ChangeD} {a m b : Nat} (h1 : a ≤ m) (h2 : m ≤ b) (h3 : b ≤ l.length) : sliceL l a b = sliceL l a m ++ sliceL l m b := by
  unfold sliceL
  apply List.ext_getElem?
  intro i
  rw [List.getElem?_append]
  simp only [List.getElem?_drop, List.length_drop, List.length_take, List.getElem?_take]
  by_cases hi : i < min m l.length - a
  · rw [if_pos hi]
    rw [if_pos (by omega), if_pos (by omega)]
  · rw [if_neg hi]
    rw [show m + (i - (min m l.length - a)) = a + i by omega]
theorem sliceL_get {l : List ChangeD} {a b i : Nat} (h1 : a ≤ i) (h2 : i < b) (h3 : b ≤ l.length) : l.getD i noC ∈ sliceL l a b := by
  unfold sliceL
  refine List.mem_iff_getElem?.2 ⟨i - a, ?_⟩
  rw [List.getElem?_drop, List.getElem?_take, if_pos (by omega), show a + (i - a) = i by omega]
  simp [show i < l.length by omega]
theorem sliceL_mem {l : List ChangeD} {a b : Nat} (h3 : b ≤ l.length) {x : ChangeD} (h : x ∈ sliceL l a b) : ∃ i, a ≤ i ∧ i < b ∧ x = l.getD i noC := by
  obtain ⟨j, hj⟩ := List.mem_iff_getElem?.1 h
  unfold sliceL at hj
  rw [List.getElem?_drop, List.getElem?_take] at hj
  by_cases hb : a + j < b
  · rw [if_pos hb] at hj
    exact ⟨a + j, by omega, hb, by simp [hj]⟩
  · rw [if_neg hb] at hj; cases hj
theorem midL_self {l : List ChangeD} {a b : Nat} (h1 : a ≤ b) (h2 : b ≤ l.length) : midL l a b (sliceL l a b) = l := by
  unfold midL sliceL
  conv => rhs; rw [← List.take_append_drop b l]
  rw [← List.append_assoc]
  congr 1
  conv => rhs; rw [← List.take_append_drop a (l.take b)]
  rw [List.take_take, Nat.min_eq_left h1]
theorem midL_len {l M : List ChangeD} {a b : Nat} (h1 : a ≤ b) (h2 : b ≤ l.length) (hM : M.length = b - a) : (midL l a b M).length = l.length := by
  unfold midL
  simp only [List.length_append, List.length_take, List.length_drop]
  omega
theorem srt_slice {l : List ChangeD} {a b i j : Nat} (h : srtC (sliceL l a b)) (h1 : a ≤ i) (h2 : i ≤ j) (h3 : j < b) (h4 : b ≤ l.length) : leC (l.getD i noC) (l.getD j noC) := by
  rcases Nat.lt_or_ge i j with hij | hij
  · have e : sliceL l a b = sliceL l a j ++ sliceL l j b := sliceL_split (by omega) (by omega) h4
    rw [e] at h
    exact srt_cross h _ (sliceL_get h1 hij (by omega)) _ (sliceL_get (Nat.le_refl _) h3 h4)
  · have : i = j := by omega
    subst this
    unfold leC
    rw [cmpC_zero.2 rfl]; omega

theorem dropC {l : List ChangeD} {i : Nat} (h : i < l.length) : l.drop i = l.getD i noC :: l.drop (i + 1) := by
  rw [List.drop_eq_getElem_cons h]
  simp [h]
theorem sliceL_app (P U R : List ChangeD) : sliceL (P ++ (U ++ R)) P.length (P.length + U.length) = U := by
  unfold sliceL
  rw [← List.append_assoc, ← List.length_append, List.take_left, List.drop_left]
theorem sliceL_app2 (P U V R : List ChangeD) : sliceL (P ++ (U ++ (V ++ R))) (P.length + U.length) (P.length + (U.length + V.length)) = V := by
  have := sliceL_app (P ++ U) V R
  rw [List.length_append, List.append_assoc, Nat.add_assoc] at this
  exact this
theorem sliceL_app3 (P U V W R : List ChangeD) : sliceL (P ++ (U ++ (V ++ (W ++ R)))) (P.length + (U.length + V.length)) (P.length + (U.length + V.length) + W.length) = W := by
  have := sliceL_app (P ++ (U ++ V)) W R
  rw [List.length_append, List.length_append, List.append_assoc, List.append_assoc] at this
  exact this
theorem drop_app2 (P U R : List ChangeD) : (P ++ (U ++ R)).drop (P.length + U.length) = R := by
  rw [← List.append_assoc, ← List.length_append, List.drop_left]
theorem drop_app3 (P U V R : List ChangeD) : (P ++ (U ++ (V ++ R))).drop (P.length + (U.length + V.length)) = R := by
  have := drop_app2 P (U ++ V) R
  rw [List.length_append, List.append_assoc] at this
  exact this
theorem drop_app4 (P U V W R : List ChangeD) : (P ++ (U ++ (V ++ (W ++ R)))).drop (P.length + (U.length + V.length) + W.length) = R := by
  have := drop_app3 P (U ++ V) W R
  rw [List.length_append, List.append_assoc, ← Nat.add_assoc] at this
  exact this

theorem two_len (X M Y : List ChangeD) (u v : ChangeD) : (X ++ u :: (M ++ v :: Y)).length = X.length + M.length + Y.length + 2 := by
  simp; omega
theorem two_get1 (X M Y : List ChangeD) (u v : ChangeD) {n : Nat} (h : n = X.length) : (X ++ u :: (M ++ v :: Y)).getD n noC = u := by
  subst h; exact get_mid _ _ _ _
theorem two_get2 (X M Y : List ChangeD) (u v : ChangeD) {n : Nat} (h : n = X.length + M.length + 1) : (X ++ u :: (M ++ v :: Y)).getD n noC = v := by
  have := get_mid (X ++ u :: M) v Y noC
  rw [List.append_assoc, List.cons_append] at this
  have e : n = (X ++ u :: M).length := by simp; omega
  rw [e]
  exact this
theorem two_set (X M Y : List ChangeD) (u v y z : ChangeD) {n k : Nat} (hn : n = X.length) (hk : k = X.length + M.length + 1) : ((X ++ u :: (M ++ v :: Y)).set n y).set k z = X ++ y :: (M ++ z :: Y) := by
  subst hn
  rw [set_mid]
  have := set_mid (X ++ y :: M) v z Y
  rw [List.append_assoc, List.cons_append, List.append_assoc, List.cons_append] at this
  have e : k = (X ++ y :: M).length := by simp; omega
  rw [e]
  exact this
theorem two_set' (X M Y : List ChangeD) (u v y z : ChangeD) {n k : Nat} (hn : n = X.length) (hk : k = X.length + M.length + 1) : ((X ++ u :: (M ++ v :: Y)).set k z).set n y = X ++ y :: (M ++ z :: Y) := by
  rw [List.set_comm _ _ (by omega)]
  exact two_set X M Y u v y z hn hk
end Go.Proofs.Ytkhiifaldbjpbaa.Ses

namespace Go.Proofs.Ytkhiifaldbjpbaa.Ses
open Go Go.Proofs Go.Proofs.Ytkhiifaldbjpbaa.Sx

/-! ### changes that may be, sorted -/

theorem okUpto_iff (l : List ChangeD) : ∀ n, n ≤ l.length → (okUpto l n = true ↔ (∀ x, x ∈ l.take n → goodC x = true) ∧ (l.take n).Pairwise fun a b => a.path ≠ b.path)
  | 0, _ => by simp [okUpto]
  | n + 1, h => by
    have ih := okUpto_iff l n (by omega)
    have e : okUpto l (n + 1) = (okUpto l n && (goodC (l.getD n noC) && !(hasC (l.getD n noC).path (l.take n)))) := rfl
    rw [e, take_succ_getD noC (by omega), Bool.and_eq_true, Bool.and_eq_true, ih, List.pairwise_append, Bool.not_eq_true']
    unfold hasC
    rw [List.any_eq_false]
    constructor
    · rintro ⟨⟨h1, h2⟩, h3, h4⟩
      refine ⟨fun x hx => ?_, h2, by simp, fun a ha b hb => ?_⟩
      · rcases List.mem_append.1 hx with hx | hx
        · exact h1 x hx
        · have : x = l.getD n noC := by simpa using hx
          rw [this]; exact h3
      · have hb : b = l.getD n noC := by simpa using hb
        rw [hb]
        intro e
        exact h4 a ha (by simpa using e)
    · rintro ⟨h1, h2, _, h3⟩
      exact ⟨⟨fun x hx => h1 x (List.mem_append_left _ hx), h2⟩, h1 _ (List.mem_append_right _ (List.mem_singleton.2 rfl)), fun a ha e => h3 a ha _ (List.mem_singleton.2 rfl) (by simpa using e)⟩
theorem unlike_cls : ∀ {l : List ChangeD}, (l.Pairwise fun a b => a.path ≠ b.path) ↔ ∀ p, (clsC p l).length ≤ 1
  | [] => by simp [clsC]
  | x :: r => by
    have ih := unlike_cls (l := r)
    rw [List.pairwise_cons, ih]
    have hx : clsC x.path [x] = [x] := by simp [clsC]
    constructor
    · rintro ⟨h1, h2⟩ p
      rw [clsC_cons]
      by_cases e : x.path = p
      · subst e
        have : clsC x.path r = [] := by
          unfold clsC
          rw [List.filter_eq_nil_iff]
          intro b hb hc
          exact h1 b hb (by simpa using hc : b.path = x.path).symm
        rw [this, hx]; simp
      · have : clsC p [x] = [] := by simp [clsC, e]
        rw [this]; exact h2 p
    · intro h
      refine ⟨fun b hb e => ?_, fun p => ?_⟩
      · have h1 := h x.path
        have hm : b ∈ clsC x.path r := clsC_mem.2 ⟨hb, e.symm⟩
        rw [clsC_cons, List.length_append, hx] at h1
        have h3 := List.length_pos_of_mem hm
        simp at h1
        omega
      · have h1 := h p
        rw [clsC_cons, List.length_append] at h1
        omega
theorem chk_insS (l : List ChangeD) : chkC (insS l) = chkC l := by
  have : okUpto (insS l) (insS l).length = okUpto l l.length := by
    rw [Bool.eq_iff_iff, okUpto_iff _ _ (Nat.le_refl _), okUpto_iff _ _ (Nat.le_refl _), List.take_length, List.take_length, unlike_cls, unlike_cls]
    constructor
    · rintro ⟨h1, h2⟩
      exact ⟨fun x hx => h1 x (mem_insS.2 hx), fun p => by rw [← insS_cls]; exact h2 p⟩
    · rintro ⟨h1, h2⟩
      exact ⟨fun x hx => h1 x (mem_insS.1 hx), fun p => by rw [insS_cls]; exact h2 p⟩
  unfold chkC
  rw [this, insS_len]
theorem chkC_vals (l : List ChangeD) : chkC l = 0 ∨ chkC l = 1 := by
  unfold chkC
  cases (Nat.beq l.length 0 || decide (16 < l.length) || !(okUpto l l.length))
  · exact .inl rfl
  · exact .inr rfl
theorem chk_unlike {l : List ChangeD} (h : chkC l = 0) : l.Pairwise fun a b => a.path ≠ b.path := by
  unfold chkC at h
  cases h2 : (Nat.beq l.length 0 || decide (16 < l.length) || !(okUpto l l.length))
  · simp only [Bool.or_eq_false_iff, Bool.not_eq_false'] at h2
    have := ((okUpto_iff l l.length (Nat.le_refl _)).1 h2.2).2
    rwa [List.take_length] at this
  · rw [h2] at h; cases h
theorem chk_few {l : List ChangeD} (h : chkC l = 0) : l.length ≤ 16 ∧ l ≠ [] := by
  unfold chkC at h
  cases h2 : (Nat.beq l.length 0 || decide (16 < l.length) || !(okUpto l l.length))
  · simp only [Bool.or_eq_false_iff, Bool.not_eq_false'] at h2
    refine ⟨by have := h2.1.2; simp at this; exact this, fun e => ?_⟩
    subst e
    cases h2.1.1
  · rw [h2] at h; cases h
theorem pair_at {R : ChangeD → ChangeD → Prop} {l : List ChangeD} (h : l.Pairwise R) {i j : Nat} (hi : i < j) (hj : j < l.length) : R (l.getD i noC) (l.getD j noC) := by
  have := List.pairwise_iff_getElem.1 h i j (by omega) hj hi
  simpa [List.getD, List.getElem?_eq_getElem hj, List.getElem?_eq_getElem (show i < l.length by omega)] using this
theorem eqC_iff {a b : ChangeD} : eqC a b = true ↔ a = b := by
  obtain ⟨p, g, d⟩ := a
  obtain ⟨q, h, e⟩ := b
  simp [eqC]
theorem sameC_self (l : List ChangeD) : sameC l l = true := by
  unfold sameC
  have h1 : Nat.beq l.length l.length = true := by simp
  rw [h1, Bool.true_and, List.all_eq_true]
  intro x hx
  obtain ⟨i, hi⟩ := List.mem_iff_getElem?.1 hx
  rw [List.getElem?_zipWith] at hi
  cases hl : l[i]? with
  | none => rw [hl] at hi; cases hi
  | some y =>
    rw [hl] at hi
    have hi : eqC y y = x := by simpa using hi
    show x = true
    rw [← hi]
    exact eqC_iff.2 rfl
/-- where one is put -/
theorem insR_split {x : ChangeD} {P Q : List ChangeD} (hP : P = [] ∨ ∃ P' s, P = P' ++ [s] ∧ ¬ cmpC x s < 0) (hQ : ∀ y, y ∈ Q → cmpC x y < 0) : insR x (P ++ Q) = P ++ x :: Q := by
  revert hQ
  refine snocC (p := fun Q => (∀ y, y ∈ Q → cmpC x y < 0) → insR x (P ++ Q) = P ++ x :: Q) (fun _ => ?_) (fun Q s ih h => ?_) Q
  · rw [List.append_nil]
    rcases hP with rfl | ⟨P', s, rfl, h⟩
    · rfl
    · exact insR_ge h P'
  · rw [← List.append_assoc, insR_lt (h s (by simp)), ih fun y hy => h y (List.mem_append_left _ hy)]
    simp
theorem insR_put {x : ChangeD} {l : List ChangeD} {k : Nat} (hk : k ≤ l.length) (h1 : 0 < k → ¬ cmpC x (l.getD (k - 1) noC) < 0) (h2 : ∀ j, k ≤ j → j < l.length → cmpC x (l.getD j noC) < 0) : insR x l = l.take k ++ (x :: l.drop k) := by
  have := insR_split (x := x) (P := l.take k) (Q := l.drop k) ?_ ?_
  · rwa [List.take_append_drop] at this
  · cases k with
    | zero => exact .inl rfl
    | succ k => exact .inr ⟨l.take k, l.getD k noC, take_succ_getD noC (by omega), h1 (by omega)⟩
  · intro y hy
    obtain ⟨j, hj⟩ := List.mem_iff_getElem?.1 hy
    rw [List.getElem?_drop] at hj
    have hl : k + j < l.length := by
      rcases Nat.lt_or_ge (k + j) l.length with h | h
      · exact h
      · rw [List.getElem?_eq_none h] at hj; cases hj
    have := h2 (k + j) (by omega) hl
    simp only [List.getD, hj] at this
    exact this
end Go.Proofs.Ytkhiifaldbjpbaa.Ses

namespace Go.Proofs.Ytkhiifaldbjpbaa.Ses
open Go Go.Proofs Go.Proofs.Ytkhiifaldbjpbaa.Sx

structure SwpA where
  P : List ChangeD
  U : List ChangeD
  W : List ChangeD
  V : List ChangeD
  Q : List ChangeD
def SwpA.l (x : SwpA) : List ChangeD := x.P ++ (x.U ++ (x.W ++ (x.V ++ x.Q)))
noncomputable def swpT : Tri := { γ := SwpA, n0 := 1, args := fun x => [.mslice .change 0 0 x.l.length, .int .i64 x.P.length, .int .i64 (x.P.length + (x.U.length + x.W.length) : Nat), .int .i64 x.U.length, .fn 71 [] []], blks := fun x => [(0, .rows .change x.l)], pre := fun x => x.U.length = x.V.length ∧ x.l.length ≤ 100000, δ := Unit, post := fun _ _ => True, n1 := 0, res := fun x _ => .tuple [], blks' := fun x _ => [(0, .rows .change (x.P ++ (x.V ++ (x.W ++ (x.U ++ x.Q)))))], scal := true }
def swpL (x : SwpA) (i : Nat) : List ChangeD := x.P ++ ((x.V.take i ++ x.U.drop i) ++ (x.W ++ ((x.U.take i ++ x.V.drop i) ++ x.Q)))
def swpOf (l : List ChangeD) (a b n : Nat) : SwpA := ⟨l.take a, sliceL l a (a + n), sliceL l (a + n) b, sliceL l b (b + n), l.drop (b + n)⟩
noncomputable def swpI : St → LInv := fun s => match getE s.env 1, getE s.env 2, getE s.env 3, s.m.blks.get 0 with
  | .int _ a, .int _ b, .int _ n, some (.rows .change l) => { σ := Nat, I := fun i => i ≤ n.toNat, μ := fun i => n.toNat - i, env := fun i => [(10, .int .i64 i)], blk := fun i => [(0, .rows .change (swpL (swpOf l a.toNat b.toNat n.toNat) i))], fresh := 0, drop := [] }
  | _, _, _, _ => LInv.none
noncomputable def swpE : Envr := Env Try.prog cod [] [(1, swpI)]

structure RotA where
  P : List ChangeD
  U : List ChangeD
  V : List ChangeD
  Q : List ChangeD
def RotA.l (x : RotA) : List ChangeD := x.P ++ (x.U ++ (x.V ++ x.Q))
def RotA.r (x : RotA) : List ChangeD := x.P ++ (x.V ++ (x.U ++ x.Q))
noncomputable def rotT : Tri := { γ := RotA, n0 := 1, args := fun x => [.mslice .change 0 0 x.l.length, .int .i64 x.P.length, .int .i64 (x.P.length + x.U.length : Nat), .int .i64 (x.P.length + (x.U.length + x.V.length) : Nat), .fn 71 [] []], blks := fun x => [(0, .rows .change x.l)], pre := fun x => (x.U ≠ [] ∧ x.V ≠ []) ∧ x.l.length ≤ 100000, δ := Unit, post := fun _ _ => True, n1 := 0, res := fun x _ => .tuple [], blks' := fun x _ => [(0, .rows .change x.r)], scal := true }
def rotOf (l : List ChangeD) (a m b : Nat) : RotA := ⟨l.take a, sliceL l a m, sliceL l m b, l.drop b⟩
noncomputable def rotI : St → LInv := fun s => match getE s.env 1, getE s.env 2, getE s.env 3, s.m.blks.get 0 with
  | .int _ a, .int _ m, .int _ b, some (.rows .change l) => { σ := RotA, I := fun x => x.r = (rotOf l a.toNat m.toNat b.toNat).r ∧ x.P.length + x.U.length = m.toNat ∧ x.U ≠ [] ∧ x.V ≠ [], μ := fun x => x.U.length + x.V.length, env := fun x => [(10, .int .i64 x.U.length), (11, .int .i64 x.V.length)], blk := fun x => [(0, .rows .change x.l)], fresh := 0, drop := [] }
  | _, _, _, _ => LInv.none
noncomputable def rotE : Envr := Env Try.prog cod [(105, swpT.spec)] [(2, rotI)]

structure MrgA where
  P : List ChangeD
  U : List ChangeD
  V : List ChangeD
  Q : List ChangeD
def MrgA.l (x : MrgA) : List ChangeD := x.P ++ (x.U ++ (x.V ++ x.Q))
def MrgA.r (x : MrgA) : List ChangeD := x.P ++ (insS (x.U ++ x.V) ++ x.Q)
/-- the one ahead, put into the second row up to a place -/
def mrg1 (l : List ChangeD) (a b k : Nat) : List ChangeD := l.take a ++ ((sliceL l (a + 1) b).take (k - a) ++ (l.getD a ⟨[], false, 0⟩ :: (sliceL l (a + 1) b).drop (k - a))) ++ l.drop b
/-- the one behind, put into the first row down to a place -/
def mrg2 (l : List ChangeD) (a m k : Nat) : List ChangeD := l.take a ++ ((sliceL l a m).take (k - a) ++ (l.getD m ⟨[], false, 0⟩ :: (sliceL l a m).drop (k - a))) ++ l.drop (m + 1)
noncomputable def mrgT (n : Nat) : Tri := { γ := MrgA, n0 := 1, args := fun x => [.mslice .change 0 0 x.l.length, .int .i64 x.P.length, .int .i64 (x.P.length + x.U.length : Nat), .int .i64 (x.P.length + (x.U.length + x.V.length) : Nat), .fn 71 [] []], blks := fun x => [(0, .rows .change x.l)], pre := fun x => ((x.U ≠ [] ∧ x.V ≠ []) ∧ x.l.length ≤ 100000) ∧ srtC x.U ∧ srtC x.V ∧ x.U.length + x.V.length < n, δ := Unit, post := fun _ _ => True, n1 := 0, res := fun x _ => .tuple [], blks' := fun x _ => [(0, .rows .change x.r)], scal := true }
structure TwoN where
  i : Nat
  j : Nat
noncomputable def mrgI3 : St → LInv := fun s => match getE s.env 1, getE s.env 2, getE s.env 3, s.m.blks.get 0 with
  | .int _ a, .int _ m, .int _ b, some (.rows .change l) => { σ := TwoN, I := fun x => (m.toNat ≤ x.i ∧ x.i ≤ x.j ∧ x.j ≤ b.toNat) ∧ (m.toNat < x.i → cmpC (l.getD (x.i - 1) ⟨[], false, 0⟩) (l.getD a.toNat ⟨[], false, 0⟩) < 0) ∧ (x.j < b.toNat → ¬ cmpC (l.getD x.j ⟨[], false, 0⟩) (l.getD a.toNat ⟨[], false, 0⟩) < 0), μ := fun x => x.j - x.i, env := fun x => [(10, .int .i64 x.i), (11, .int .i64 x.j)], blk := fun _ => [], fresh := 0, drop := [] }
  | _, _, _, _ => LInv.none
noncomputable def mrgI9 : St → LInv := fun s => match getE s.env 1, getE s.env 3, getE s.env 10, s.m.blks.get 0 with
  | .int _ a, .int _ b, .int _ i, some (.rows .change l) => { σ := Nat, I := fun k => a.toNat ≤ k ∧ k + 1 ≤ i.toNat, μ := fun k => i.toNat - k, env := fun k => [(13, .int .i64 k)], blk := fun k => [(0, .rows .change (mrg1 l a.toNat b.toNat k))], fresh := 0, drop := [] }
  | _, _, _, _ => LInv.none
noncomputable def mrgI15 : St → LInv := fun s => match getE s.env 1, getE s.env 2, s.m.blks.get 0 with
  | .int _ a, .int _ m, some (.rows .change l) => { σ := TwoN, I := fun x => (a.toNat ≤ x.i ∧ x.i ≤ x.j ∧ x.j ≤ m.toNat) ∧ (a.toNat < x.i → ¬ cmpC (l.getD m.toNat ⟨[], false, 0⟩) (l.getD (x.i - 1) ⟨[], false, 0⟩) < 0) ∧ (x.j < m.toNat → cmpC (l.getD m.toNat ⟨[], false, 0⟩) (l.getD x.j ⟨[], false, 0⟩) < 0), μ := fun x => x.j - x.i, env := fun x => [(14, .int .i64 x.i), (15, .int .i64 x.j)], blk := fun _ => [], fresh := 0, drop := [] }
  | _, _, _ => LInv.none
noncomputable def mrgI21 : St → LInv := fun s => match getE s.env 1, getE s.env 2, getE s.env 14, s.m.blks.get 0 with
  | .int _ a, .int _ m, .int _ i, some (.rows .change l) => { σ := Nat, I := fun k => i.toNat ≤ k ∧ k ≤ m.toNat, μ := fun k => k, env := fun k => [(17, .int .i64 k)], blk := fun k => [(0, .rows .change (mrg2 l a.toNat m.toNat k))], fresh := 0, drop := [] }
  | _, _, _, _ => LInv.none
noncomputable def mrgI33 : St → LInv := fun s => match getE s.env 20, getE s.env 21, getE s.env 22, s.m.blks.get 0 with
  | .int _ s0, .int _ r0, .int _ p, some (.rows .change l) => { σ := TwoN, I := fun x => (s0.toNat ≤ x.i ∧ x.i ≤ x.j ∧ x.j ≤ r0.toNat) ∧ (s0.toNat < x.i → ¬ cmpC (l.getD (p.toNat - (x.i - 1)) ⟨[], false, 0⟩) (l.getD (x.i - 1) ⟨[], false, 0⟩) < 0) ∧ (x.j < r0.toNat → cmpC (l.getD (p.toNat - x.j) ⟨[], false, 0⟩) (l.getD x.j ⟨[], false, 0⟩) < 0), μ := fun x => x.j - x.i, env := fun x => [(20, .int .i64 x.i), (21, .int .i64 x.j)], blk := fun _ => [], fresh := 0, drop := [] }
  | _, _, _, _ => LInv.none
noncomputable def mrgE (n : Nat) : Envr := Env Try.prog cod [(30, compareT.spec), (102, rotT.spec), (97, (mrgT n).spec)] [(3, mrgI3), (9, mrgI9), (15, mrgI15), (21, mrgI21), (33, mrgI33)]
noncomputable def mrgS (n : Nat) : Tri := mrgT (n + 1)
-- VP mrg mrgS mrgE 97 MrgA.l MrgA.r RotA.l RotA.r srtC mrg1 mrg2 cmpL cmpC splitB

/-- blocks of a length are sorted, those up to a number at twice the length -/
def blkS (l : List ChangeD) (w : Nat) (q : Nat) : Prop := srtC (sliceL l (w * q) (min (w * (q + 1)) l.length))
structure StbI where
  w : Nat
  k : Nat
  l : List ChangeD
noncomputable def stbI2 : St → LInv := fun s => match s.m.blks.get 0 with
  | some (.rows .change l) => { σ := StbI, I := fun x => (x.l.length = l.length ∧ 20 * x.k ≤ l.length) ∧ x.l.drop (20 * x.k) = l.drop (20 * x.k) ∧ (∀ p, clsC p x.l = clsC p l) ∧ ∀ q, q < x.k → blkS x.l 20 q, μ := fun x => l.length - 20 * x.k, env := fun x => [(7, .int .i64 (20 * x.k : Nat)), (8, .int .i64 (20 * x.k + 20 : Nat))], blk := fun x => [(0, .rows .change x.l)], fresh := 0, drop := [] }
  | _ => LInv.none
noncomputable def stbI7 : St → LInv := fun s => match s.m.blks.get 0 with
  | some (.rows .change l) => { σ := StbI, I := fun x => (x.l.length = l.length ∧ 20 ≤ x.w ∧ x.w ≤ 20 + 2 * l.length) ∧ (∀ p, clsC p x.l = clsC p l) ∧ ∀ q, blkS x.l x.w q, μ := fun x => l.length - x.w, env := fun x => [(6, .int .i64 x.w)], blk := fun x => [(0, .rows .change x.l)], fresh := 0, drop := [] }
  | _ => LInv.none
noncomputable def stbI9 : St → LInv := fun s => match getE s.env 6, s.m.blks.get 0 with
  | .int _ w, some (.rows .change l) => { σ := StbI, I := fun x => (x.l.length = l.length ∧ 2 * w.toNat * x.k ≤ l.length) ∧ (∀ p, clsC p x.l = clsC p l) ∧ (∀ q, q < x.k → blkS x.l (2 * w.toNat) q) ∧ ∀ q, 2 * x.k ≤ q → blkS x.l w.toNat q, μ := fun x => l.length - 2 * w.toNat * x.k, env := fun x => [(7, .int .i64 (2 * w.toNat * x.k : Nat)), (8, .int .i64 (2 * w.toNat * x.k + 2 * w.toNat : Nat))], blk := fun x => [(0, .rows .change x.l)], fresh := 0, drop := [] }
  | _, _ => LInv.none
def fewX (l : List ChangeD) : Bool := decide (l.length ≤ 100000)
noncomputable def stbT : Tri := { γ := List ChangeD, n0 := 1, args := fun l => [.mslice .change 0 0 l.length, .int .i64 l.length, .fn 71 [] []], blks := fun l => [(0, .rows .change l)], pre := fun l => fewX l = true, δ := Unit, post := fun _ _ => True, n1 := 0, res := fun x _ => .tuple [], blks' := fun l _ => [(0, .rows .change (insS l))], scal := true }
noncomputable def stbE : Envr := Env Try.prog cod [(96, insT.spec), (97, (mrgT 200001).spec)] [(2, stbI2), (7, stbI7), (9, stbI9)]
noncomputable def ssxT : Tri := { γ := List ChangeD, n0 := 1, args := fun l => [.mslice .change 0 0 l.length, .fn 71 [] []], blks := fun l => [(0, .rows .change l)], pre := fun l => fewX l = true, δ := Unit, post := fun _ _ => True, n1 := 0, res := fun x _ => .tuple [], blks' := fun l _ => [(0, .rows .change (insS l))], scal := true }
noncomputable def ssxE : Envr := Env Try.prog cod [(92, stbT.spec)] []
noncomputable def sorxT : Tri := { γ := List ChangeD, n0 := 0, args := fun l => [.rslice false .change l], blks := fun _ => [], pre := fun l => fewX l = true, δ := Unit, post := fun _ _ => True, n1 := 1, res := fun l _ => .mslice .change 0 0 l.length, blks' := fun l _ => [(0, .rows .change (insS l))], scal := true }
noncomputable def sorxE : Envr := Env Try.prog cod [(85, cloT.spec), (86, ssxT.spec)] []
end Go.Proofs.Ytkhiifaldbjpbaa.Ses

namespace Go.Proofs.Ytkhiifaldbjpbaa.Ses
open Go Go.Proofs Go.Proofs.Ytkhiifaldbjpbaa.Sx

/-! ### swapping, turning, merging: rows -/

theorem swpOf_l (x : SwpA) (h : x.U.length = x.V.length) : swpOf x.l x.P.length (x.P.length + (x.U.length + x.W.length)) x.U.length = x := by
  obtain ⟨P, U, W, V, Q⟩ := x
  have h : U.length = V.length := h
  have e1 : (P ++ (U ++ (W ++ (V ++ Q)))).take P.length = P := List.take_left
  have e2 := sliceL_app P U (W ++ (V ++ Q))
  have e3 := sliceL_app2 P U W (V ++ Q)
  have e4 := sliceL_app3 P U W V Q
  have e5 := drop_app4 P U W V Q
  rw [← h] at e4 e5
  unfold swpOf SwpA.l
  dsimp only
  rw [e1, e2, e3, e4, e5]
theorem swpL_at {x : SwpA} {i : Nat} (h : x.U.length = x.V.length) (hi : i < x.U.length) :
    swpL x i = (x.P ++ x.V.take i) ++ x.U.getD i noC :: ((x.U.drop (i + 1) ++ (x.W ++ x.U.take i)) ++ x.V.getD i noC :: (x.V.drop (i + 1) ++ x.Q)) := by
  unfold swpL
  rw [dropC hi, dropC (show i < x.V.length by omega)]
  simp
theorem swpL_suc {x : SwpA} {i : Nat} (h : x.U.length = x.V.length) (hi : i < x.U.length) :
    swpL x (i + 1) = (x.P ++ x.V.take i) ++ x.V.getD i noC :: ((x.U.drop (i + 1) ++ (x.W ++ x.U.take i)) ++ x.U.getD i noC :: (x.V.drop (i + 1) ++ x.Q)) := by
  unfold swpL
  rw [take_succ_getD noC hi, take_succ_getD noC (show i < x.V.length by omega)]
  simp

theorem rotOf_l (x : RotA) : rotOf x.l x.P.length (x.P.length + x.U.length) (x.P.length + (x.U.length + x.V.length)) = x := by
  obtain ⟨P, U, V, Q⟩ := x
  have e1 : (P ++ (U ++ (V ++ Q))).take P.length = P := List.take_left
  have e2 := sliceL_app P U (V ++ Q)
  have e3 := sliceL_app2 P U V Q
  have e4 := drop_app3 P U V Q
  unfold rotOf RotA.l
  dsimp only
  rw [e1, e2, e3, e4]

theorem sliceL_getD {l : List ChangeD} {a b i : Nat} (h : a + i < b) (hb : b ≤ l.length) : (sliceL l a b).getD i noC = l.getD (a + i) noC := by
  unfold sliceL
  simp only [List.getD, List.getElem?_drop, List.getElem?_take]
  rw [if_pos h]

theorem mrg1_at {l : List ChangeD} {a b k : Nat} (hk : a ≤ k) (hb : k + 1 < b) (hl : b ≤ l.length) :
    mrg1 l a b k = (l.take a ++ (sliceL l (a + 1) b).take (k - a)) ++ l.getD a noC :: ([] ++ l.getD (k + 1) noC :: ((sliceL l (a + 1) b).drop (k - a + 1) ++ l.drop b)) := by
  unfold mrg1
  rw [dropC (l := sliceL l (a + 1) b) (i := k - a) (by rw [sliceL_len hl]; omega), sliceL_getD (by omega) hl, show a + 1 + (k - a) = k + 1 by omega]
  simp
theorem mrg1_suc {l : List ChangeD} {a b k : Nat} (hk : a ≤ k) (hb : k + 1 < b) (hl : b ≤ l.length) :
    mrg1 l a b (k + 1) = (l.take a ++ (sliceL l (a + 1) b).take (k - a)) ++ l.getD (k + 1) noC :: ([] ++ l.getD a noC :: ((sliceL l (a + 1) b).drop (k - a + 1) ++ l.drop b)) := by
  unfold mrg1
  rw [show k + 1 - a = k - a + 1 by omega, take_succ_getD noC (l := sliceL l (a + 1) b) (by rw [sliceL_len hl]; omega), sliceL_getD (by omega) hl, show a + 1 + (k - a) = k + 1 by omega]
  simp
theorem mrg2_at {l : List ChangeD} {a m k : Nat} (hk : a ≤ k) (hm : k < m) (hl : m < l.length) :
    mrg2 l a m (k + 1) = (l.take a ++ (sliceL l a m).take (k - a)) ++ l.getD k noC :: ([] ++ l.getD m noC :: ((sliceL l a m).drop (k - a + 1) ++ l.drop (m + 1))) := by
  unfold mrg2
  rw [show k + 1 - a = k - a + 1 by omega, take_succ_getD noC (l := sliceL l a m) (by rw [sliceL_len (by omega)]; omega), sliceL_getD (by omega) (by omega), show a + (k - a) = k by omega]
  simp
theorem mrg2_suc {l : List ChangeD} {a m k : Nat} (hk : a ≤ k) (hm : k < m) (hl : m < l.length) :
    mrg2 l a m k = (l.take a ++ (sliceL l a m).take (k - a)) ++ l.getD m noC :: ([] ++ l.getD k noC :: ((sliceL l a m).drop (k - a + 1) ++ l.drop (m + 1))) := by
  unfold mrg2
  rw [dropC (l := sliceL l a m) (i := k - a) (by rw [sliceL_len (by omega)]; omega), sliceL_getD (by omega) (by omega), show a + (k - a) = k by omega]
  simp

/-- the row of a merge, by places -/
structure MrgOf (x : MrgA) : Prop where
  len : x.l.length = x.P.length + (x.U.length + x.V.length) + x.Q.length
  p : x.l.take x.P.length = x.P
  u : sliceL x.l x.P.length (x.P.length + x.U.length) = x.U
  v : sliceL x.l (x.P.length + x.U.length) (x.P.length + (x.U.length + x.V.length)) = x.V
  q : x.l.drop (x.P.length + (x.U.length + x.V.length)) = x.Q
theorem mrgOf (x : MrgA) : MrgOf x := by
  obtain ⟨P, U, V, Q⟩ := x
  exact ⟨by show (P ++ (U ++ (V ++ Q))).length = _; simp; omega, List.take_left, sliceL_app P U (V ++ Q), sliceL_app2 P U V Q, drop_app3 P U V Q⟩

/-- one ahead of a sorted row: where it is put -/
theorem mrg1_end {x : MrgA} {i : Nat} (h1 : x.U.length = 1) (hV : srtC x.V) (hi : x.P.length + x.U.length ≤ i) (hb : i ≤ x.P.length + (x.U.length + x.V.length))
    (hlt : x.P.length + x.U.length < i → cmpC (x.l.getD (i - 1) noC) (x.l.getD x.P.length noC) < 0) (hge : i < x.P.length + (x.U.length + x.V.length) → ¬ cmpC (x.l.getD i noC) (x.l.getD x.P.length noC) < 0) :
    mrg1 x.l x.P.length (x.P.length + (x.U.length + x.V.length)) (i - 1) = x.r := by
  have o := mrgOf x
  have hl := o.len
  have hs : sliceL x.l (x.P.length + 1) (x.P.length + (x.U.length + x.V.length)) = x.V := by rw [← h1]; exact o.v
  have hu : x.U = [x.l.getD x.P.length noC] := by
    have e := o.u
    rw [h1, sliceL_snoc (Nat.le_refl _) (by omega)] at e
    rw [← e]
    simp [sliceL]
  have hgv : ∀ j, j < x.V.length → x.V.getD j noC = x.l.getD (x.P.length + 1 + j) noC := fun j hj => by
    have := sliceL_getD (l := x.l) (a := x.P.length + 1) (b := x.P.length + (x.U.length + x.V.length)) (i := j) (by omega) (by omega)
    rw [hs] at this
    exact this
  have hsrt : ∀ j k, j ≤ k → k < x.V.length → leC (x.V.getD j noC) (x.V.getD k noC) := fun j k hjk hk => by
    rcases Nat.lt_or_ge j k with h | h
    · exact pair_at hV h hk
    · have : j = k := by omega
      subst this
      unfold leC; rw [cmpC_zero.2 rfl]; omega
  unfold mrg1 MrgA.r
  rw [hs, o.p, o.q]
  generalize hd : i - 1 - x.P.length = d
  have hVs : srtC (x.V.take d ++ x.V.drop d) := by rw [List.take_append_drop]; exact hV
  have := merge_first (x := x.l.getD x.P.length noC) (P := x.V.take d) (Q := x.V.drop d) hVs ?_ ?_
  · rw [List.take_append_drop] at this
    conv => rhs; rw [hu]
    rw [List.singleton_append, this]
    simp
  · intro y hy
    obtain ⟨j, hj⟩ := List.mem_iff_getElem?.1 hy
    rw [List.getElem?_take] at hj
    by_cases hjd : j < d
    · rw [if_pos hjd] at hj
      have hjl : j < x.V.length := by
        rcases Nat.lt_or_ge j x.V.length with h | h
        · exact h
        · rw [List.getElem?_eq_none h] at hj; cases hj
      have ey : x.V.getD j noC = y := by simp [List.getD, hj]
      have e2 := hgv (d - 1) (by omega)
      have e3 : x.P.length + 1 + (d - 1) = i - 1 := by omega
      rw [e3] at e2
      have := hlt (by omega)
      rw [← e2] at this
      rw [← ey]
      exact leC_lt (hsrt j (d - 1) (by omega) (by omega)) this
    · rw [if_neg hjd] at hj; cases hj
  · intro y hy
    obtain ⟨j, hj⟩ := List.mem_iff_getElem?.1 hy
    rw [List.getElem?_drop] at hj
    have hjl : d + j < x.V.length := by
      rcases Nat.lt_or_ge (d + j) x.V.length with h | h
      · exact h
      · rw [List.getElem?_eq_none h] at hj; cases hj
    have ey : x.V.getD (d + j) noC = y := by simp [List.getD, hj]
    have e2 := hgv d (by omega)
    rw [show x.P.length + 1 + d = i by omega] at e2
    have := hge (by omega)
    rw [← e2] at this
    rw [← ey]
    exact leC_trans (leC_not this) (hsrt d (d + j) (by omega) hjl)

/-- one behind a sorted row -/
theorem mrg2_end {x : MrgA} {i : Nat} (h1 : x.V.length = 1) (hU : srtC x.U) (hi : x.P.length ≤ i) (hb : i ≤ x.P.length + x.U.length)
    (hlt : x.P.length < i → ¬ cmpC (x.l.getD (x.P.length + x.U.length) noC) (x.l.getD (i - 1) noC) < 0) (hge : i < x.P.length + x.U.length → cmpC (x.l.getD (x.P.length + x.U.length) noC) (x.l.getD i noC) < 0) :
    mrg2 x.l x.P.length (x.P.length + x.U.length) i = x.r := by
  have o := mrgOf x
  have hl := o.len
  have hv : x.V = [x.l.getD (x.P.length + x.U.length) noC] := by
    have e := o.v
    rw [h1, show x.P.length + (x.U.length + 1) = x.P.length + x.U.length + 1 by omega, sliceL_snoc (Nat.le_refl _) (by omega)] at e
    rw [← e]
    simp [sliceL]
  have hgu : ∀ j, j < x.U.length → x.U.getD j noC = x.l.getD (x.P.length + j) noC := fun j hj => by
    have := sliceL_getD (l := x.l) (a := x.P.length) (b := x.P.length + x.U.length) (i := j) (by omega) (by omega)
    rw [o.u] at this
    exact this
  have hsrt : ∀ j k, j ≤ k → k < x.U.length → leC (x.U.getD j noC) (x.U.getD k noC) := fun j k hjk hk => by
    rcases Nat.lt_or_ge j k with h | h
    · exact pair_at hU h hk
    · have : j = k := by omega
      subst this
      unfold leC; rw [cmpC_zero.2 rfl]; omega
  have hq : x.l.drop (x.P.length + x.U.length + 1) = x.Q := by
    have := o.q
    rw [h1, show x.P.length + (x.U.length + 1) = x.P.length + x.U.length + 1 by omega] at this
    exact this
  unfold mrg2 MrgA.r
  rw [o.u, o.p, hq]
  generalize hd : i - x.P.length = d
  have hUs : srtC (x.U.take d ++ x.U.drop d) := by rw [List.take_append_drop]; exact hU
  have := merge_last (x := x.l.getD (x.P.length + x.U.length) noC) (P := x.U.take d) (Q := x.U.drop d) hUs ?_ ?_
  · rw [List.take_append_drop] at this
    conv => rhs; rw [hv]
    rw [this]
    simp
  · intro y hy
    obtain ⟨j, hj⟩ := List.mem_iff_getElem?.1 hy
    rw [List.getElem?_take] at hj
    by_cases hjd : j < d
    · rw [if_pos hjd] at hj
      have hjl : j < x.U.length := by
        rcases Nat.lt_or_ge j x.U.length with h | h
        · exact h
        · rw [List.getElem?_eq_none h] at hj; cases hj
      have ey : x.U.getD j noC = y := by simp [List.getD, hj]
      have e2 := hgu (d - 1) (by omega)
      have e3 : x.P.length + (d - 1) = i - 1 := by omega
      rw [e3] at e2
      have := hlt (by omega)
      rw [← e2] at this
      rw [← ey]
      exact leC_trans (hsrt j (d - 1) (by omega) (by omega)) (leC_not this)
    · rw [if_neg hjd] at hj; cases hj
  · intro y hy
    obtain ⟨j, hj⟩ := List.mem_iff_getElem?.1 hy
    rw [List.getElem?_drop] at hj
    have hjl : d + j < x.U.length := by
      rcases Nat.lt_or_ge (d + j) x.U.length with h | h
      · exact h
      · rw [List.getElem?_eq_none h] at hj; cases hj
    have ey : x.U.getD (d + j) noC = y := by simp [List.getD, hj]
    have e2 := hgu d (by omega)
    rw [show x.P.length + d = i by omega] at e2
    have := hge (by omega)
    rw [← e2] at this
    rw [← ey]
    exact lt_leC this (hsrt d (d + j) (by omega) hjl)

/-- merging by halves: which parts change places -/
theorem mrg_split {x : MrgA} {s e : Nat} (hU : srtC x.U) (hV : srtC x.V) (h1 : x.P.length ≤ s) (h2 : s ≤ x.P.length + x.U.length) (h3 : x.P.length + x.U.length ≤ e) (h4 : e ≤ x.P.length + (x.U.length + x.V.length))
    (H1 : x.P.length < s → e < x.P.length + (x.U.length + x.V.length) → ¬ cmpC (x.l.getD e noC) (x.l.getD (s - 1) noC) < 0)
    (H2 : s < x.P.length + x.U.length → x.P.length + x.U.length < e → cmpC (x.l.getD (e - 1) noC) (x.l.getD s noC) < 0) :
    ∃ A1 A2 B1 B2 : List ChangeD, x.U = A1 ++ A2 ∧ x.V = B1 ++ B2 ∧ x.P.length + A1.length = s ∧ x.P.length + x.U.length + B1.length = e ∧
      insS ((A1 ++ A2) ++ (B1 ++ B2)) = insS (A1 ++ B1) ++ insS (A2 ++ B2) := by
  have o := mrgOf x
  have hl := o.len
  have eU : x.U = sliceL x.l x.P.length s ++ sliceL x.l s (x.P.length + x.U.length) := by
    conv => lhs; rw [← o.u]
    exact sliceL_split h1 h2 (by omega)
  have eV : x.V = sliceL x.l (x.P.length + x.U.length) e ++ sliceL x.l e (x.P.length + (x.U.length + x.V.length)) := by
    conv => lhs; rw [← o.v]
    exact sliceL_split h3 h4 (by omega)
  have sU : srtC (sliceL x.l x.P.length (x.P.length + x.U.length)) := by rw [o.u]; exact hU
  have sV : srtC (sliceL x.l (x.P.length + x.U.length) (x.P.length + (x.U.length + x.V.length))) := by rw [o.v]; exact hV
  refine ⟨_, _, _, _, eU, eV, by rw [sliceL_len (by omega)]; omega, by rw [sliceL_len (by omega)]; omega, merge_parts (by rw [← eU]; exact hU) (by rw [← eV]; exact hV) ?_ ?_⟩
  · intro a ha b hb
    obtain ⟨i, hi1, hi2, rfl⟩ := sliceL_mem (by omega) ha
    obtain ⟨j, hj1, hj2, rfl⟩ := sliceL_mem (by omega) hb
    have q := H2 (by omega) (by omega)
    have q1 := srt_slice sU h1 hi1 hi2 (by omega)
    have q2 := srt_slice (i := j) (j := e - 1) sV hj1 (by omega) (by omega) (by omega)
    exact lt_leC (leC_lt q2 q) q1
  · intro a ha b hb
    obtain ⟨i, hi1, hi2, rfl⟩ := sliceL_mem (by omega) ha
    obtain ⟨j, hj1, hj2, rfl⟩ := sliceL_mem (by omega) hb
    have q := leC_not (H1 (by omega) (by omega))
    have q1 := srt_slice (i := i) (j := s - 1) sU hi1 (by omega) (by omega) (by omega)
    have q2 := srt_slice sV h3 hj1 hj2 (by omega)
    exact leC_trans (leC_trans q1 q) q2
theorem insS_one {a b : List ChangeD} (ha : srtC a) (hb : srtC b) (h : a = [] ∨ b = []) : insS (a ++ b) = a ++ b := by
  rcases h with rfl | rfl
  · exact insS_self hb
  · rw [List.append_nil]; exact insS_self ha

/-! ### sorting by blocks -/

theorem midL_sl {l M : List ChangeD} {a b : Nat} (h1 : a ≤ b) (h2 : b ≤ l.length) (hM : M.length = b - a) : sliceL (midL l a b M) a b = M := by
  have := sliceL_app (l.take a) M (l.drop b)
  rw [List.length_take, Nat.min_eq_left (by omega), hM, show a + (b - a) = b by omega] at this
  exact this
theorem midL_lo {l M : List ChangeD} {a b c d : Nat} (h1 : a ≤ l.length) (hd : d ≤ a) : sliceL (midL l a b M) c d = sliceL l c d := by
  unfold sliceL midL
  rw [List.take_append_of_le_length (by rw [List.length_take]; omega), List.take_take, Nat.min_eq_left hd]
theorem midL_drop {l M : List ChangeD} {a b : Nat} (h1 : a ≤ b) (h2 : b ≤ l.length) (hM : M.length = b - a) : (midL l a b M).drop b = l.drop b := by
  unfold midL
  have e : (l.take a ++ M).length = b := by rw [List.length_append, List.length_take]; omega
  rw [← List.append_assoc, ← e, List.drop_left, e]
theorem midL_hi {l M : List ChangeD} {a b c d : Nat} (h1 : a ≤ b) (h2 : b ≤ l.length) (hM : M.length = b - a) (hc : b ≤ c) : sliceL (midL l a b M) c d = sliceL l c d := by
  have e : ∀ r : List ChangeD, r.drop c = (r.drop b).drop (c - b) := fun r => by rw [List.drop_drop, show b + (c - b) = c by omega]
  unfold sliceL
  rw [List.drop_take, List.drop_take, e, midL_drop h1 h2 hM, ← e]
theorem midL_cls {l : List ChangeD} {a b : Nat} (h1 : a ≤ b) (h2 : b ≤ l.length) (p : Bs) : clsC p (midL l a b (insS (sliceL l a b))) = clsC p l := by
  conv => rhs; rw [← midL_self h1 h2]
  unfold midL
  rw [clsC_append, clsC_append, insS_cls, clsC_append, clsC_append]
theorem midS_len {l : List ChangeD} {a b : Nat} (h1 : a ≤ b) (h2 : b ≤ l.length) : (midL l a b (insS (sliceL l a b))).length = l.length :=
  midL_len h1 h2 (by rw [insS_len, sliceL_len h2])
theorem blk_far {l : List ChangeD} {w q : Nat} (h : l.length ≤ w * q) : blkS l w q := by
  unfold blkS sliceL
  rw [List.drop_eq_nil_of_le (by rw [List.length_take]; omega)]
  exact List.Pairwise.nil
theorem blk_lo {l M : List ChangeD} {w k b q : Nat} (h1 : w * k ≤ l.length) (hq : q < k) (h : blkS l w q) (hl : (midL l (w * k) b M).length = l.length) : blkS (midL l (w * k) b M) w q := by
  have hm : w * (q + 1) ≤ w * k := Nat.mul_le_mul_left w hq
  unfold blkS at h ⊢
  rw [hl, midL_lo h1 (by omega)]
  exact h
theorem blk_step {l : List ChangeD} {w k b : Nat} (hb : b = min (w * (k + 1)) l.length) (ha : w * k ≤ l.length) (h : ∀ q, q < k → blkS l w q) :
    ∀ q, q < k + 1 → blkS (midL l (w * k) b (insS (sliceL l (w * k) b))) w q := by
  intro q hq
  have hw : w * (k + 1) = w * k + w := Nat.mul_succ w k
  have hl := midS_len (l := l) (a := w * k) (b := b) (by omega) (by omega)
  by_cases e : q = k
  · subst e
    unfold blkS
    rw [hl, ← hb, midL_sl (by omega) (by omega) (by rw [insS_len, sliceL_len (by omega)])]
    exact insS_srt _
  · exact blk_lo ha (by omega) (h q (by omega)) hl
/-- the last block is sorted: so are all -/
theorem blk_all {l : List ChangeD} {w k : Nat} (hb : l.length ≤ w * (k + 1)) (h : ∀ q, q < k + 1 → blkS l w q) : ∀ q, blkS l w q := by
  intro q
  by_cases e : q < k + 1
  · exact h q e
  · exact blk_far (Nat.le_trans hb (Nat.mul_le_mul_left w (by omega)))
theorem blk_one {l : List ChangeD} {w : Nat} (hw : l.length ≤ w) (h : blkS l w 0) : srtC l := by
  unfold blkS sliceL at h
  rw [show min (w * (0 + 1)) l.length = l.length by omega] at h
  simpa using h
/-- two neighbours -/
theorem blk_two {l : List ChangeD} {w k : Nat} (h : ∀ q, 2 * k ≤ q → blkS l w q) (ha : 2 * w * k + w ≤ l.length) : srtC (sliceL l (2 * w * k) (2 * w * k + w)) ∧ ∀ b, b = min (2 * w * k + 2 * w) l.length → srtC (sliceL l (2 * w * k + w) b) := by
  have e : w * (2 * k) = 2 * w * k := by rw [Nat.mul_comm 2 w, Nat.mul_assoc]
  have e1 : w * (2 * k + 1) = 2 * w * k + w := by rw [Nat.mul_succ, e]
  have e2 : w * (2 * k + 1 + 1) = 2 * w * k + 2 * w := by rw [Nat.mul_succ, e1]; omega
  have h0 := h (2 * k) (by omega)
  have h1 := h (2 * k + 1) (by omega)
  unfold blkS at h0 h1
  rw [e, e1, Nat.min_eq_left ha] at h0
  rw [e1, e2] at h1
  exact ⟨h0, fun b hb => by rw [hb]; exact h1⟩
theorem blk_last {l : List ChangeD} {w k : Nat} (h : ∀ q, 2 * k ≤ q → blkS l w q) (ha : 2 * w * k ≤ l.length) (hb : l.length ≤ 2 * w * k + w) : srtC (sliceL l (2 * w * k) l.length) := by
  have e : w * (2 * k) = 2 * w * k := by rw [Nat.mul_comm 2 w, Nat.mul_assoc]
  have e1 : w * (2 * k + 1) = 2 * w * k + w := by rw [Nat.mul_succ, e]
  have h0 := h (2 * k) (by omega)
  unfold blkS at h0
  rw [e, e1, Nat.min_eq_right hb] at h0
  exact h0
theorem blk_hi {l : List ChangeD} {w k : Nat} {b : Nat} (hb : b = 2 * w * k + 2 * w) (hl : b ≤ l.length) (h : ∀ q, 2 * k ≤ q → blkS l w q) :
    ∀ q, 2 * (k + 1) ≤ q → blkS (midL l (2 * w * k) b (insS (sliceL l (2 * w * k) b))) w q := by
  intro q hq
  have e : w * (2 * k) = 2 * w * k := by rw [Nat.mul_comm 2 w, Nat.mul_assoc]
  have e2 : w * (2 * k + 2) = 2 * w * k + 2 * w := by rw [Nat.mul_add, e, Nat.mul_comm w 2]
  have e3 : w * (2 * k + 2) ≤ w * q := Nat.mul_le_mul_left w (by omega)
  have h0 := h q (by omega)
  have hlen := midS_len (l := l) (a := 2 * w * k) (b := b) (by omega) hl
  unfold blkS at h0 ⊢
  rw [hlen, midL_hi (by omega) hl (by rw [insS_len, sliceL_len hl]) (by omega)]
  exact h0
end Go.Proofs.Ytkhiifaldbjpbaa.Ses

namespace Go.Proofs.Ytkhiifaldbjpbaa.Ses
open Go Go.Proofs Go.Proofs.Ytkhiifaldbjpbaa.Sx

section
variable {H : Type} {en : TypeId × Value → H} {w : World}

theorem op_change : Opens en Try.prog w 56 (enc .change) :=
  (opens_struct Try.underlying56 (by kernel_rfl) (opensF_cons (sz := 1) rfl (by kernel_rfl) (opens_str Try.underlying9) (opensF_cons (sz := 1) rfl (by kernel_rfl) (opens_bool Try.underlying4) (opensF_cons (sz := 1) rfl (by kernel_rfl) (opens_int Try.underlying31) opensF_nil)))).map
    (fun a => (⟨a.1, a.2.1, a.2.2.1⟩ : ChangeD)) (fun _ => rfl)
theorem op_changes : Opens en Try.prog w 57 (fun l : List ChangeD => [.rslice false .change l]) := opens_slice Try.underlying57 op_change (by kernel_rfl) (by kernel_rfl)
end
end Go.Proofs.Ytkhiifaldbjpbaa.Ses
