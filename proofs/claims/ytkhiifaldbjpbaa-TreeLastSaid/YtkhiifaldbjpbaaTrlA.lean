/- Leaves put one behind the other: the laws of trees in plain words. No condition. -/
import Derived.Test.YtkhiifaldbjpbaaTrcA
set_option linter.unusedSimpArgs false
set_option linter.unusedVariables false

namespace Go.Proofs.Ytkhiifaldbjpbaa.Ses
open Go Go.Proofs Go.Proofs.Ytkhiifaldbjpbaa.Sx Go.Proofs.Ytkhiifaldbjpbaa.Trx

/-! ### leaves put one behind the other -/

abbrev newD : TreeD := .node false ⟨[], 0, 0, false⟩ .nil .nil 0 0
def putsD (l : List LeafD) : TreeD := l.foldl (fun t x => putD x t) newD
def insLs (l : List LeafD) : List LeafD := l.foldl (fun t x => insL x t) []
def lastOf (p : Bs) (l : List LeafD) : Option LeafD := l.reverse.find? fun x => x.path == p

theorem putsD_snoc (l : List LeafD) (x : LeafD) : putsD (l ++ [x]) = putD x (putsD l) := by simp [putsD]
theorem insLs_snoc (l : List LeafD) (x : LeafD) : insLs (l ++ [x]) = insL x (insLs l) := by simp [insLs]
theorem putsD_at {l : List LeafD} {i : Nat} (h : i < l.length) : putsD (l.take (i + 1)) = putD (l.getD i noL) (putsD (l.take i)) := by
  rw [take_succ_getD noL h, putsD_snoc]
theorem insLs_at {l : List LeafD} {i : Nat} (h : i < l.length) : insLs (l.take (i + 1)) = insL (l.getD i noL) (insLs (l.take i)) := by
  rw [take_succ_getD noL h, insLs_snoc]

theorem snocL {α : Type} {p : List α → Prop} (h0 : p []) (h1 : ∀ l x, p l → p (l ++ [x])) (l : List α) : p l := by
  have : ∀ r : List α, p r.reverse := by
    intro r
    induction r with
    | nil => exact h0
    | cons x r ih => rw [List.reverse_cons]; exact h1 _ _ ih
  have := this l.reverse
  rwa [List.reverse_reverse] at this

theorem tok_new : TOK newD := ⟨.inl rfl, List.Pairwise.nil⟩

structure PutsOK (l : List LeafD) : Prop where
  tok : TOK (putsD l)
  ino : TreeD.inorder (putsD l) = insLs l
  shape : putsD l = newD ∨ wfT (putsD l) = true

theorem puts_ok (l : List LeafD) : PutsOK l := by
  refine snocL (p := PutsOK) ⟨tok_new, rfl, .inl rfl⟩ (fun l x h => ?_) l
  obtain ⟨h1, h2, h3⟩ := tok_put h.tok x
  exact ⟨by rw [putsD_snoc]; exact h1, by rw [putsD_snoc, insLs_snoc, h3, h.ino], by rw [putsD_snoc]; exact .inr h2⟩

theorem insLs_len (l : List LeafD) : (insLs l).length ≤ l.length := by
  refine snocL (p := fun l => (insLs l).length ≤ l.length) (Nat.le_refl _) (fun l x h => ?_) l
  rw [insLs_snoc, List.length_append]
  have := (insL_len x (insLs l)).1
  simp; omega

theorem insLs_ord (l : List LeafD) : ordL (insLs l) := by
  have := (puts_ok l).tok.ord
  rwa [(puts_ok l).ino] at this

theorem puts_len (l : List LeafD) : lenD (putsD l) = (insLs l).length := by
  rw [tok_len (puts_ok l).tok, (puts_ok l).ino]

theorem puts_few {l : List LeafD} (h : l.length ≤ 100000) : fewL (putsD l) = true := by
  unfold fewL
  rw [(puts_ok l).ino]
  have := insLs_len l
  exact decide_eq_true (by omega)

theorem puts_may {l : List LeafD} (h : l.length ≤ 700) : putP (putsD l) ∧ ht (putsD l) < 100000 := by
  have h1 := insLs_len l
  have h2 := puts_len l
  have h3 := tok_ht (puts_ok l).tok (puts_ok l).shape
  rw [(puts_ok l).ino] at h3
  exact ⟨⟨(puts_ok l).tok.ok, by omega⟩, by omega⟩

theorem puts_get (l : List LeafD) (p : Bs) : getD' p (putsD l) = getL p (insLs l) := by
  rw [tok_get (puts_ok l).tok, (puts_ok l).ino]

/-! ### lists in order -/

theorem cmp_path {x y : LeafD} (h : cmpP x.path y = 0) : x.path = y.path := split_inj (cmpL_zero.1 h)
theorem cmp_ne {a b : LeafD} (h : cmpL (splitB a.path) (splitB b.path) < 0) : a.path ≠ b.path := by
  intro e
  rw [e, cmpL_self] at h
  omega

theorem ord_tail {y : LeafD} {r : List LeafD} (h : ordL (y :: r)) : ordL r := (List.pairwise_cons.1 h).2
theorem ord_head {y : LeafD} {r : List LeafD} (h : ordL (y :: r)) : ∀ b, b ∈ r → cmpL (splitB y.path) (splitB b.path) < 0 := (List.pairwise_cons.1 h).1

theorem mem_ins {x : LeafD} : ∀ {l : List LeafD}, ordL l → ∀ a, a ∈ insL x l ↔ (a = x ∨ (a ∈ l ∧ a.path ≠ x.path))
  | [], _, a => by simp [insL]
  | y :: r, h, a => by
    have ih := mem_ins (x := x) (ord_tail h) a
    have hh := ord_head h
    rw [insL_cons]
    by_cases g0 : cmpP x.path y = 0
    · have e0 : (cmpP x.path y == 0) = true := by simp [g0]
      have ep := cmp_path g0
      rw [e0]
      simp only [cond_true, List.mem_cons]
      constructor
      · rintro (h1 | h1)
        · exact .inl h1
        · refine .inr ⟨.inr h1, fun e => ?_⟩
          exact cmp_ne (hh a h1) (by rw [e, ep])
      · rintro (h1 | ⟨h1 | h1, h2⟩)
        · exact .inl h1
        · subst h1; exact absurd ep.symm h2
        · exact .inr h1
    · have e0 : (cmpP x.path y == 0) = false := by simp [g0]
      rw [e0]
      simp only [cond_false]
      by_cases g1 : cmpP x.path y < 0
      · rw [decide_eq_true g1]
        simp only [cond_true, List.mem_cons]
        have hy : ∀ b, (b = y ∨ b ∈ r) → b.path ≠ x.path := by
          rintro b (rfl | hb) e
          · exact cmp_ne (a := x) (b := b) g1 e.symm
          · exact cmp_ne (a := x) (b := b) (cmp_lt_trans g1 (hh b hb)) e.symm
        constructor
        · rintro (h1 | h1)
          · exact .inl h1
          · exact .inr ⟨h1, hy a h1⟩
        · rintro (h1 | ⟨h1, _⟩)
          · exact .inl h1
          · exact .inr h1
      · rw [decide_eq_false g1]
        simp only [cond_false, List.mem_cons, ih]
        have hyx : y.path ≠ x.path := by
          intro e
          apply g0
          unfold cmpP
          rw [e, cmpL_self]
        constructor
        · rintro (h1 | h1 | ⟨h1, h2⟩)
          · exact .inr ⟨.inl h1, by rw [h1]; exact hyx⟩
          · exact .inl h1
          · exact .inr ⟨.inr h1, h2⟩
        · rintro (h1 | ⟨h1 | h1, h2⟩)
          · exact .inr (.inl h1)
          · exact .inl h1
          · exact .inr (.inr ⟨h1, h2⟩)

theorem getL_iff {p : Bs} {x : LeafD} : ∀ {l : List LeafD}, ordL l → (getL p l = some x ↔ (x ∈ l ∧ x.path = p))
  | [], _ => by simp [getL]
  | y :: r, h => by
    have ih := getL_iff (p := p) (x := x) (ord_tail h)
    have hh := ord_head h
    rw [getL_cons]
    by_cases g0 : cmpP p y = 0
    · have e0 : (cmpP p y == 0) = true := by simp [g0]
      have ep : p = y.path := split_inj (cmpL_zero.1 g0)
      rw [e0]
      simp only [cond_true, List.mem_cons, Option.some.injEq]
      constructor
      · rintro rfl; exact ⟨.inl rfl, ep.symm⟩
      · rintro ⟨rfl | h1, h2⟩
        · rfl
        · exact absurd (h2.trans ep).symm (cmp_ne (hh x h1))
    · have e0 : (cmpP p y == 0) = false := by simp [g0]
      have hpy : y.path ≠ p := by
        rintro rfl
        apply g0
        unfold cmpP
        rw [cmpL_self]
      rw [e0]
      simp only [cond_false]
      by_cases g1 : cmpP p y < 0
      · rw [decide_eq_true g1]
        simp only [cond_true, List.mem_cons]
        constructor
        · intro h; cases h
        · rintro ⟨rfl | h1, h2⟩
          · exact absurd h2 hpy
          · have h3 : cmpL (splitB p) (splitB x.path) < 0 := cmp_lt_trans g1 (hh x h1)
            rw [h2, cmpL_self] at h3
            omega
      · rw [decide_eq_false g1]
        simp only [cond_false, List.mem_cons, ih]
        constructor
        · rintro ⟨h1, h2⟩; exact ⟨.inr h1, h2⟩
        · rintro ⟨rfl | h1, h2⟩
          · exact absurd h2 hpy
          · exact ⟨h1, h2⟩

theorem ord_ext : ∀ {a b : List LeafD}, ordL a → ordL b → (∀ x, x ∈ a ↔ x ∈ b) → a = b
  | [], [], _, _, _ => rfl
  | [], y :: r, _, _, h => absurd ((h y).2 (by simp)) (by simp)
  | y :: r, [], _, _, h => absurd ((h y).1 (by simp)) (by simp)
  | x :: a, y :: b, ha, hb, h => by
    have h1 := ord_head ha
    have h2 := ord_head hb
    have e : x = y := by
      rcases List.mem_cons.1 ((h x).1 (by simp)) with e | hx
      · exact e
      rcases List.mem_cons.1 ((h y).2 (by simp)) with e | hy
      · exact e.symm
      have := cmp_lt_trans (h1 y hy) (h2 x hx)
      rw [cmpL_self] at this
      omega
    subst e
    have := ord_ext (ord_tail ha) (ord_tail hb) fun z => by
      constructor
      · intro hz
        rcases List.mem_cons.1 ((h z).1 (by simp [hz])) with e | hz'
        · subst e; have := h1 z hz; rw [cmpL_self] at this; omega
        · exact hz'
      · intro hz
        rcases List.mem_cons.1 ((h z).2 (by simp [hz])) with e | hz'
        · subst e; have := h2 z hz; rw [cmpL_self] at this; omega
        · exact hz'
    rw [this]

theorem lastOf_snoc (p : Bs) (l : List LeafD) (x : LeafD) : lastOf p (l ++ [x]) = if x.path = p then some x else lastOf p l := by
  unfold lastOf
  rw [List.reverse_append]
  simp only [List.reverse_cons, List.reverse_nil, List.nil_append, List.cons_append, List.find?_cons]
  by_cases e : x.path = p
  · simp [e]
  · have : (x.path == p) = false := by simpa using e
    simp [e, this]
theorem lastOf_cons (p : Bs) (x : LeafD) (l : List LeafD) : lastOf p (x :: l) = (lastOf p l).or (if x.path = p then some x else none) := by
  unfold lastOf
  rw [List.reverse_cons, List.find?_append]
  congr 1
  by_cases e : x.path = p
  · simp [e]
  · have : (x.path == p) = false := by simpa using e
    simp [e, this]
theorem lastOf_some {p : Bs} {l : List LeafD} {x : LeafD} (h : lastOf p l = some x) : x ∈ l ∧ x.path = p := by
  unfold lastOf at h
  exact ⟨by simpa using List.mem_of_find?_eq_some h, by simpa using List.find?_some h⟩
theorem lastOf_none {p : Bs} {l : List LeafD} : lastOf p l = none ↔ (l.any fun x => x.path == p) = false := by
  unfold lastOf
  rw [List.find?_eq_none, List.any_eq_false]
  simp

theorem mem_insLs (a : LeafD) (l : List LeafD) : a ∈ insLs l ↔ lastOf a.path l = some a := by
  refine snocL (p := fun l => a ∈ insLs l ↔ lastOf a.path l = some a) (by simp [insLs, lastOf]) (fun l x ih => ?_) l
  rw [insLs_snoc, mem_ins (insLs_ord l), lastOf_snoc, ih]
  by_cases e : x.path = a.path
  · rw [if_pos e]
    constructor
    · rintro (h | ⟨_, h⟩)
      · rw [h]
      · exact absurd e.symm h
    · intro h; exact .inl (Option.some.inj h).symm
  · rw [if_neg e]
    constructor
    · rintro (h | ⟨h, _⟩)
      · exact absurd (by rw [h]) e
      · exact h
    · intro h; exact .inr ⟨h, fun e' => e e'.symm⟩

theorem get_insLs (p : Bs) (l : List LeafD) : getL p (insLs l) = lastOf p l := by
  cases h : lastOf p l with
  | some x =>
    have := (lastOf_some h).2
    subst this
    exact (getL_iff (insLs_ord l)).2 ⟨(mem_insLs x l).2 h, rfl⟩
  | none =>
    cases h2 : getL p (insLs l) with
    | none => rfl
    | some x =>
      obtain ⟨h3, rfl⟩ := (getL_iff (insLs_ord l)).1 h2
      rw [(mem_insLs x l).1 h3] at h
      cases h

/-! ### unlike paths -/

def unlikeL (l : List LeafD) : Prop := l.Pairwise fun a b => a.path ≠ b.path

theorem unlike_eq : ∀ {l : List LeafD}, unlikeL l → ∀ {a b}, a ∈ l → b ∈ l → a.path = b.path → a = b
  | [], _, a, b, ha, _, _ => by cases ha
  | y :: r, h, a, b, ha, hb, e => by
    have hh := (List.pairwise_cons.1 h).1
    have ht := (List.pairwise_cons.1 h).2
    rcases List.mem_cons.1 ha with rfl | ha' <;> rcases List.mem_cons.1 hb with rfl | hb'
    · rfl
    · exact absurd e (hh b hb')
    · exact absurd e.symm (hh a ha')
    · exact unlike_eq ht ha' hb' e

theorem unlike_mem {l : List LeafD} (h : unlikeL l) (a : LeafD) : a ∈ insLs l ↔ a ∈ l := by
  rw [mem_insLs]
  constructor
  · exact fun h => (lastOf_some h).1
  · intro ha
    cases hl : lastOf a.path l with
    | none =>
      have := lastOf_none.1 hl
      rw [List.any_eq_false] at this
      exact absurd (this a ha) (by simp)
    | some b =>
      obtain ⟨hb, e⟩ := lastOf_some hl
      rw [unlike_eq h hb ha e]

theorem unlike_rev {l : List LeafD} (h : unlikeL l) : unlikeL l.reverse := by
  unfold unlikeL
  rw [List.pairwise_reverse]
  exact h.imp fun h e => h e.symm

theorem insLs_rev {l : List LeafD} (h : unlikeL l) : insLs l.reverse = insLs l :=
  ord_ext (insLs_ord _) (insLs_ord _) fun x => by rw [unlike_mem (unlike_rev h), unlike_mem h, List.mem_reverse]

/-! ### how many unlike paths there are -/

def lastU : List LeafD → Nat
  | [] => 0
  | x :: r => (bif r.any fun y => y.path == x.path then 0 else 1) + lastU r
def lastF : List LeafD → List LeafD
  | [] => []
  | x :: r => bif r.any fun y => y.path == x.path then lastF r else insL x (lastF r)
theorem ins_new {x : LeafD} : ∀ {l : List LeafD}, (∀ a, a ∈ l → a.path ≠ x.path) → (insL x l).length = l.length + 1
  | [], _ => rfl
  | y :: r, h => by
    have ih := ins_new (x := x) (l := r) fun a ha => h a (by simp [ha])
    have h0 : (cmpP x.path y == 0) = false := by
      have := h y (by simp)
      cases e : cmpP x.path y == 0
      · rfl
      · exact absurd (cmp_path (by simpa using e)).symm this
    rw [insL_cons, h0]
    cases decide (cmpP x.path y < 0)
    · simp [ih]
    · simp
theorem lastF_ord : ∀ l, ordL (lastF l)
  | [] => List.Pairwise.nil
  | x :: r => by
    unfold lastF
    cases r.any fun y => y.path == x.path
    · exact insL_ord (lastF_ord r)
    · exact lastF_ord r
theorem mem_lastF (a : LeafD) : ∀ l, a ∈ lastF l ↔ lastOf a.path l = some a
  | [] => by simp [lastF, lastOf]
  | x :: r => by
    have ih := mem_lastF a r
    rw [lastOf_cons]
    unfold lastF
    cases hany : r.any fun y => y.path == x.path
    · have hx : lastOf x.path r = none := lastOf_none.2 hany
      simp only [cond_false]
      rw [mem_ins (lastF_ord r), ih]
      by_cases e : x.path = a.path
      · rw [if_pos e, ← e, hx]
        simp only [Option.none_or, Option.some.injEq]
        constructor
        · rintro (h | ⟨h, _⟩)
          · exact h.symm
          · cases h
        · exact fun h => .inl h.symm
      · rw [if_neg e]
        simp only [Option.or_none]
        constructor
        · rintro (h | ⟨h, _⟩)
          · exact absurd (by rw [h]) e
          · exact h
        · exact fun h => .inr ⟨h, fun e' => e e'.symm⟩
    · simp only [cond_true]
      rw [ih]
      cases hl : lastOf a.path r with
      | some b => simp
      | none =>
        by_cases e : x.path = a.path
        · rw [← e] at hl
          rw [lastOf_none.1 hl] at hany
          cases hany
        · rw [if_neg e]; simp
theorem lastF_eq (l : List LeafD) : lastF l = insLs l := ord_ext (lastF_ord l) (insLs_ord l) fun x => by rw [mem_lastF, mem_insLs]
theorem lastF_len : ∀ l, (lastF l).length = lastU l
  | [] => rfl
  | x :: r => by
    have ih := lastF_len r
    unfold lastF lastU
    cases hany : r.any fun y => y.path == x.path
    · simp only [cond_false]
      rw [ins_new, ih]
      · omega
      · intro a ha e
        have := (mem_lastF a r).1 ha
        rw [e, lastOf_none.2 hany] at this
        cases this
    · simp only [cond_true]; omega
theorem lastU_len (l : List LeafD) : lenD (putsD l) = lastU l := by rw [puts_len, ← lastF_eq, lastF_len]

/-! ### depth, cuts -/

theorem wf_pow : ∀ (t : TreeD), wfT t = true → ∀ k : Nat, (2 * k : Int) ≤ depthD t → (2 ^ k : Int) ≤ lenD t + 1 := by
  have key : ∀ (n : Nat) (t : TreeD), ht t ≤ n → wfT t = true → ∀ k : Nat, (2 * k : Int) ≤ depthD t → (2 ^ k : Int) ≤ lenD t + 1 := by
    intro n
    induction n with
    | zero =>
      intro t hn h k hk
      have h1 := wf_ht t h
      have h2 := wf_num t h
      have : k = 0 := by omega
      subst this
      simp; omega
    | succ n ih =>
      intro t hn h k hk
      cases k with
      | zero => have h2 := wf_num t h; simp; omega
      | succ k =>
        obtain ⟨x, l, r, rfl, hl, hr, b1, b2⟩ := wf_pos h (by omega)
        rw [depth_join] at hk
        rw [len_join]
        have hd : ht (joinD x l r) = max (ht l) (ht r) + 1 := rfl
        have il := ih l (by omega) hl k (by omega)
        have ir := ih r (by omega) hr k (by omega)
        rw [Int.pow_succ]
        omega
  exact fun t h k hk => key (ht t) t (Nat.le_refl _) h k hk

theorem ge_nil (p : Bs) : 0 ≤ cmpL (splitB p) (splitB []) := by
  have h : splitB [] = [[]] := rfl
  rw [h]
  cases hp : splitB p with
  | nil => exact absurd hp (split_ne p)
  | cons a r =>
    rw [cmpL_cons]
    split
    · cases r with
      | nil => exact Int.le_refl _
      | cons b r => exact (by decide : (0 : Int) ≤ 1)
    · rcases cmpB_vals a [] with e | e | e
      · rw [cmpB_neg] at e
        exact absurd e (by simp)
      · omega
      · omega

theorem inR_low {cut p : Bs} (hc : cut ≠ []) : inR [] cut p = decide (cmpL (splitB p) (splitB cut) < 0) := by
  unfold inR
  rw [show decide (cmpL (splitB p) (splitB []) ≥ 0) = true from decide_eq_true (ge_nil p), show (cut == []) = false by simpa using hc]
  rfl
theorem inR_high {cut p : Bs} : inR cut [] p = decide (cmpL (splitB p) (splitB cut) ≥ 0) := by
  unfold inR
  simp
theorem inR_none {cut p : Bs} (hc : cut ≠ []) : inR cut cut p = false := by
  unfold inR
  rw [show (cut == []) = false by simpa using hc]
  by_cases h : cmpL (splitB p) (splitB cut) ≥ 0
  · simp
  · simp [h]

theorem cut_both {cut : Bs} (hc : cut ≠ []) : ∀ {l : List LeafD}, ordL l → (l.filter fun y => inR [] cut y.path) ++ (l.filter fun y => inR cut [] y.path) = l
  | [], _ => rfl
  | y :: r, h => by
    have ih := cut_both hc (ord_tail h)
    have hh := ord_head h
    simp only [inR_low hc, inR_high] at ih ⊢
    by_cases g : cmpL (splitB y.path) (splitB cut) < 0
    · rw [List.filter_cons_of_pos (by simpa using g), List.filter_cons_of_neg (by simpa using g), List.cons_append, ih]
    · have h1 : (r.filter fun y => decide (cmpL (splitB y.path) (splitB cut) < 0)) = [] := by
        rw [List.filter_eq_nil_iff]
        intro b hb hc'
        have hc' : cmpL (splitB b.path) (splitB cut) < 0 := by simpa using hc'
        have := cmp_lt_trans (hh b hb) hc'
        omega
      rw [h1, List.nil_append] at ih
      rw [List.filter_cons_of_neg (by simpa using g), List.filter_cons_of_pos (by simpa using g), h1, List.nil_append, ih]
end Go.Proofs.Ytkhiifaldbjpbaa.Ses

namespace Go.Proofs.Ytkhiifaldbjpbaa.Ses
open Go Go.Proofs Go.Proofs.Ytkhiifaldbjpbaa.Sx Go.Proofs.Ytkhiifaldbjpbaa.Trx

abbrev LeaL := List LeafD
def leafArgs (l : LeaL) : List SV := [.rslice false .leaf l]
def leafpArgs (x : LeaP) : List SV := [.rslice false .leaf x.l, .str x.p]
def leafrArgs (x : LeaR) : List SV := [.rslice false .leaf x.l, .str x.a, .str x.b]
def uniqL (l : List LeafD) : List LeafD := l.foldl (fun o x => bif o.any fun y => y.path == x.path then o else o ++ [x]) []
def treesL (l : List LeafD) (i : Nat) : List TreeD := (List.range (i + 1)).map fun j => putsD (l.take j)
def wasL (l : List LeafD) (i : Nat) : List (List LeafD) := (List.range i).map fun j => TreeD.inorder (putsD (l.take j))
noncomputable def tlawS : List (Nat × CallSpec) := [(19, tawakeT.spec), (20, roomT.spec), (21, newT.spec), (22, allT.spec), (23, (putT 100000).spec), (24, sameLT.spec), (25, tlenT.spec), (26, tdepthT.spec), (27, underT.spec), (28, withinT.spec), (29, rangeT.spec), (30, compareT.spec), (31, getT.spec), (32, rputT.spec), (33, rgetT.spec), (34, rrangeT.spec), (35, runderT.spec)]

/-- leaves are put one behind the other: the tree's slot, the number's -/
noncomputable def putsI (tt ti : Nat) : St → LInv := fun s => match getE s.env 0 with
  | .rslice _ .leaf l => { σ := Nat, I := fun i => i ≤ l.length, μ := fun i => l.length - i, env := fun i => [(ti, .int .i64 i), (tt, .tree (putsD (l.take i)))], blk := fun _ => [], fresh := 0, drop := [] }
  | _ => LInv.none

noncomputable def tdepE : Envr := Env Try.prog cod tlawS [(7, putsI 3 4)]

noncomputable def lastI1 : St → LInv := fun s => match getE s.env 0 with
  | .rslice _ .leaf l => { σ := Nat, I := fun j => j ≤ l.length, μ := fun j => l.length - j, env := fun j => [(6, .int .i64 ((l.length : Int) - 1 - j)), (5, .int .i64 (lastU (l.drop (l.length - j))))], blk := fun _ => [], fresh := 0, drop := [] }
  | _ => LInv.none
noncomputable def lastI2 : St → LInv := fun s => match getE s.env 0, getE s.env 6 with
  | .rslice _ .leaf l, .int _ z => { σ := Nat, I := fun k => z.toNat + 1 ≤ k ∧ k ≤ l.length, μ := fun k => l.length - k, env := fun k => [(8, .int .i64 k), (7, .bool (((l.take k).drop (z.toNat + 1)).any fun y => y.path == (l.getD z.toNat noL).path))], blk := fun _ => [], fresh := 0, drop := [] }
  | _, _ => LInv.none
noncomputable def tlastE : Envr := Env Try.prog cod tlawS [(7, putsI 3 4), (12, lastI1), (16, lastI2)]

noncomputable def tputsI : St → LInv := fun s => match getE s.env 0, getE s.env 8 with
  | .rslice _ .leaf l, .mptr n _ => { σ := Nat, I := fun i => i ≤ l.length, μ := fun i => l.length - i, env := fun i => [(9, .int .i64 i), (7, .tree (putsD (l.take i)))], blk := fun i => [(n, .cells [.mslice .leaf s.m.next 0 (insLs (l.take i)).length]), (s.m.next, .rows .leaf (insLs (l.take i)))], fresh := 1, drop := [] }
  | _, _ => LInv.none
noncomputable def tputsE : Envr := Env Try.prog cod tlawS [(8, tputsI)]

noncomputable def staysI1 : St → LInv := fun s => match getE s.env 0 with
  | .rslice _ .leaf l => { σ := Nat, I := fun i => i ≤ l.length, μ := fun i => l.length - i, env := fun i => [(5, .int .i64 i), (3, .mslice .tree s.m.next 0 (treesL l i).length), (4, .mslice .leafs (s.m.next + 1) 0 (wasL l i).length)], blk := fun i => [(s.m.next, .rows .tree (treesL l i)), (s.m.next + 1, .rows .leafs (wasL l i))], fresh := 2, drop := [] }
  | _ => LInv.none
noncomputable def staysI2 : St → LInv := fun s => match getE s.env 0 with
  | .rslice _ .leaf l => { σ := Nat, I := fun i => i ≤ l.length, μ := fun i => l.length - i, env := fun i => [(6, .int .i64 i)], blk := fun _ => [], fresh := 0, drop := [] }
  | _ => LInv.none
noncomputable def tstaysE : Envr := Env Try.prog cod tlawS [(8, staysI1), (13, staysI2)]

noncomputable def ordI1 : St → LInv := fun s => match getE s.env 0 with
  | .rslice _ .leaf l => { σ := Nat, I := fun i => i ≤ l.length, μ := fun i => l.length - i, env := fun i => [(6, .int .i64 i), (5, .mslice .leaf s.m.next 0 (uniqL (l.take i)).length)], blk := fun i => [(s.m.next, .rows .leaf (uniqL (l.take i)))], fresh := 1, drop := [] }
  | _ => LInv.none
noncomputable def ordI2 : St → LInv := fun s => match getE s.env 0, getE s.env 5, getE s.env 6 with
  | .rslice _ .leaf l, .mslice _ n _ _, .int _ z => (match s.m.blks.get n with
    | some (.rows .leaf one) => { σ := Nat, I := fun k => k ≤ one.length, μ := fun k => one.length - k, env := fun k => [(8, .int .i64 k), (7, .bool ((one.take k).any fun y => y.path == (l.getD z.toNat noL).path))], blk := fun _ => [], fresh := 0, drop := [] }
    | _ => LInv.none)
  | _, _, _ => LInv.none
noncomputable def ordI3 : St → LInv := fun s => match getE s.env 5 with
  | .mslice _ n _ _ => (match s.m.blks.get n with
    | some (.rows .leaf one) => { σ := Nat, I := fun k => k ≤ one.length, μ := fun k => one.length - k, env := fun k => [(11, .int .i64 k), (9, .tree (putsD (one.take k))), (10, .tree (putsD (one.reverse.take k)))], blk := fun _ => [], fresh := 0, drop := [] }
    | _ => LInv.none)
  | _ => LInv.none
noncomputable def ordI4 : St → LInv := fun s => match getE s.env 12 with
  | .mslice _ n _ len => { σ := Nat, I := fun k => k ≤ len, μ := fun k => len - k, env := fun k => [(13, .int .i64 k)], blk := fun _ => [], fresh := 0, drop := [] }
  | _ => LInv.none
noncomputable def tordE : Envr := Env Try.prog cod tlawS [(7, ordI1), (11, ordI2), (19, ordI3), (25, ordI4)]

noncomputable def rngI2 : St → LInv := fun s => match getE s.env 1, getE s.env 7 with
  | .str c, .mslice _ n _ _ => (match s.m.blks.get n with
    | some (.rows .leaf all) => { σ := Nat, I := fun k => k ≤ all.length, μ := fun k => all.length - k, env := fun k => [(10, .int .i64 k), (9, .int .i64 ((all.take k).filter fun y => withinB c y.path).length)], blk := fun _ => [], fresh := 0, drop := [] }
    | _ => LInv.none)
  | _, _ => LInv.none
noncomputable def trngE : Envr := Env Try.prog cod tlawS [(7, putsI 5 6), (14, rngI2)]
noncomputable def tknE : Envr := Env Try.prog cod tlawS []
end Go.Proofs.Ytkhiifaldbjpbaa.Ses

namespace Go.Proofs.Ytkhiifaldbjpbaa.Ses
open Go Go.Proofs Go.Proofs.Ytkhiifaldbjpbaa.Sx Go.Proofs.Ytkhiifaldbjpbaa.Trx

theorem room_of {l : List LeafD} (h : (!roomB l) = false) : l.length ≤ 300 ∧ ∀ x, x ∈ l → x.path.length ≤ 300 := by
  unfold roomB at h
  simp only [Bool.not_eq_false', Bool.and_eq_true, decide_eq_true_eq, List.all_eq_true] at h
  exact h
theorem tlaw_ok {loops : List (Nat × (St → LInv))} : EnvOK (Env Try.prog cod tlawS loops) := Env_ok (by decide +kernel) (by
  intro p hp
  simp only [tlawS, List.mem_cons, List.mem_nil_iff, or_false] at hp
  rcases hp with rfl | rfl | rfl | rfl | rfl | rfl | rfl | rfl | rfl | rfl | rfl | rfl | rfl | rfl | rfl | rfl | rfl
  · exact tawake_ok
  · exact room_ok
  · exact new_ok
  · exact all_ok
  · exact put_ok _
  · exact samel_ok
  · exact tlen_ok
  · exact tdepth_ok
  · exact under_ok
  · exact within_ok
  · exact range_ok
  · exact compare_ok
  · exact get_ok
  · exact rput_ok
  · exact rget_ok
  · exact rrange_ok
  · exact runder_ok)
theorem take_may {l : List LeafD} (h : l.length ≤ 300) (i : Nat) : putP (putsD (l.take i)) ∧ ht (putsD (l.take i)) < 100000 :=
  puts_may (by rw [List.length_take]; omega)
theorem put_step {l : List LeafD} {i : Nat} (h : (i : Int) < l.length) : putD (l.getD i noL) (putsD (l.take i)) = putsD (l.take (i + 1)) := (putsD_at (by omega)).symm
theorem len_may {l : List LeafD} : lenD (putsD l) ≤ l.length := by
  rw [puts_len]
  have := insLs_len l
  omega
theorem level_ne (x : LeafD) (l r : TreeD) : (levelD (joinD x l r)).isNil = false := by
  unfold levelD
  cases decide (depthD (joinD x l r).left - depthD (joinD x l r).right > 1)
  · cases decide (depthD (joinD x l r).left - depthD (joinD x l r).right < -1)
    · rfl
    · cases decide (depthD (joinD x l r).right.right < depthD (joinD x l r).right.left) <;> rfl
  · cases decide (depthD (joinD x l r).left.left < depthD (joinD x l r).left.right) <;> rfl
theorem putD_ne (x : LeafD) (t : TreeD) : (putD x t).isNil = false := by
  cases t with
  | nil => rfl
  | node th y l r d m =>
    unfold putD
    cases th
    · rfl
    · simp only [cond_true]
      cases decide (cmpL (splitB x.path) (splitB y.path) < 0)
      · cases decide (0 < cmpL (splitB x.path) (splitB y.path))
        · rfl
        · exact level_ne _ _ _
      · exact level_ne _ _ _
theorem wf_puts {l : List LeafD} (h : l ≠ []) : wfT (putsD l) = true := by
  obtain ⟨r, x, rfl⟩ : ∃ r x, l = r ++ [x] := ⟨l.dropLast, l.getLast h, (List.dropLast_concat_getLast h).symm⟩
  rw [putsD_snoc]
  exact (tok_put (puts_ok r).tok x).2.1
theorem wrap_u64 {n : Int} (h1 : 0 ≤ n) (h2 : n ≤ 18446744073709551615) : IntKind.u64.wrap n = n := by
  unfold IntKind.wrap
  simp [IntKind.signed, IntKind.bits]
  omega
end Go.Proofs.Ytkhiifaldbjpbaa.Ses
