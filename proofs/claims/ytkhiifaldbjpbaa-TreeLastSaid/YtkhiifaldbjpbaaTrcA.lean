/- What the functions of the reference for trees do. No condition. -/
import Derived.Test.YtkhiifaldbjpbaaTrbA
import Derived.KernelRfl
set_option linter.unusedSimpArgs false
set_option linter.unusedVariables false

namespace Go.Proofs.Ytkhiifaldbjpbaa.Ses
open Go Go.Proofs Go.Proofs.Ytkhiifaldbjpbaa.Sx Go.Proofs.Ytkhiifaldbjpbaa.Trx

abbrev noL : LeafD := ⟨[], 0, 0, false⟩
def eqLf (a b : LeafD) : Bool := a.path == b.path && (a.digest == b.digest && (a.rev == b.rev && (a.gone == b.gone && true)))
def sameLB (a b : List LeafD) : Bool := Nat.beq a.length b.length && (List.zipWith eqLf a b).all id
def roomB (l : List LeafD) : Bool := decide (l.length ≤ 300) && l.all fun x => decide (x.path.length ≤ 300)
def shortLf (l : List LeafD) : Bool := l.all fun x => shortB x.path
def fewLf (l : List LeafD) : Bool := decide (l.length ≤ 100000)
def cmpP (p : Bs) (y : LeafD) : Int := cmpL (splitB p) (splitB y.path)
def placeL (p : Bs) : List LeafD → Nat × Bool
  | [] => (0, false)
  | y :: r => bif cmpP p y == 0 then (0, true) else bif decide (cmpP p y < 0) then (0, false) else ((placeL p r).1 + 1, (placeL p r).2)
def insL (x : LeafD) : List LeafD → List LeafD
  | [] => [x]
  | y :: r => bif cmpP x.path y == 0 then x :: r else bif decide (cmpP x.path y < 0) then x :: y :: r else y :: insL x r
def getL (p : Bs) : List LeafD → Option LeafD
  | [] => none
  | y :: r => bif cmpP p y == 0 then some y else bif decide (cmpP p y < 0) then none else getL p r
structure Lea2 where
  a : List LeafD
  b : List LeafD
structure LeaP where
  l : List LeafD
  p : Bs
structure LeaX where
  l : List LeafD
  x : LeafD
structure LeaR where
  l : List LeafD
  a : Bs
  b : Bs

noncomputable def roomT : Tri := { γ := List LeafD, n0 := 0, args := fun l => [.rslice false .leaf l], blks := fun _ => [], pre := fun _ => True, δ := Unit, post := fun _ _ => True, n1 := 0, res := fun l _ => .bool (roomB l), blks' := fun _ _ => [], scal := true }
noncomputable def roomI : St → LInv := fun s => match getE s.env 0 with
  | .rslice _ .leaf l => { σ := Nat, I := fun i => i ≤ l.length ∧ ∀ (j : Nat) x, j < i → l[j]? = some x → x.path.length ≤ 300, μ := fun i => l.length - i, env := fun i => [(3, .int .i64 i)], blk := fun _ => [], fresh := 0, drop := [] }
  | _ => LInv.none
noncomputable def roomE : Envr := Env Try.prog cod [] [(4, roomI)]

noncomputable def sameLT : Tri := { γ := Lea2, n0 := 0, args := fun x => [.rslice false .leaf x.a, .rslice false .leaf x.b], blks := fun _ => [], pre := fun _ => True, δ := Unit, post := fun _ _ => True, n1 := 0, res := fun x _ => .bool (sameLB x.a x.b), blks' := fun _ _ => [], scal := true }
noncomputable def sameLI : St → LInv := fun s => match getE s.env 0, getE s.env 1 with
  | .rslice _ .leaf a, .rslice _ .leaf b => { σ := Nat, I := fun i => i ≤ a.length ∧ sameLB (a.drop i) (b.drop i) = sameLB a b, μ := fun i => a.length - i, env := fun i => [(5, .int .i64 i)], blk := fun _ => [], fresh := 0, drop := [] }
  | _, _ => LInv.none
noncomputable def sameLE : Envr := Env Try.prog cod [] [(4, sameLI)]

noncomputable def placeT : Tri := { γ := LeaP, n0 := 0, args := fun x => [.agg [.rslice false .leaf x.l], .str x.p], blks := fun _ => [], pre := fun x => shortLf x.l = true ∧ shortB x.p = true, δ := Unit, post := fun _ _ => True, n1 := 0, res := fun x _ => .tuple [.int .i64 (placeL x.p x.l).1, .bool (placeL x.p x.l).2], blks' := fun _ _ => [], scal := true }
noncomputable def placeI : St → LInv := fun s => match getE s.env 0, getE s.env 1 with
  | .agg [.rslice _ .leaf l], .str p => { σ := Nat, I := fun i => i ≤ l.length ∧ (placeL p (l.drop i)).1 + i = (placeL p l).1 ∧ (placeL p (l.drop i)).2 = (placeL p l).2, μ := fun i => l.length - i, env := fun i => [(6, .int .i64 i)], blk := fun _ => [], fresh := 0, drop := [] }
  | _, _ => LInv.none
noncomputable def placeE : Envr := Env Try.prog cod [(39, rcompareT.spec)] [(2, placeI)]

noncomputable def rputT : Tri := { γ := LeaX, n0 := 0, args := fun x => [.agg [.rslice false .leaf x.l], .agg (enc .leaf x.x)], blks := fun _ => [], pre := fun x => shortLf x.l = true ∧ shortB x.x.path = true ∧ fewLf x.l = true, δ := Unit, post := fun _ _ => True, n1 := 1, res := fun x _ => .agg [.mslice .leaf 0 0 (insL x.x x.l).length], blks' := fun x _ => [(0, .rows .leaf (insL x.x x.l))], scal := true }
noncomputable def rputE : Envr := Env Try.prog cod [(61, placeT.spec)] []
noncomputable def rgetT : Tri := { γ := LeaP, n0 := 0, args := fun x => [.agg [.rslice false .leaf x.l], .str x.p], blks := fun _ => [], pre := fun x => shortLf x.l = true ∧ shortB x.p = true, δ := Unit, post := fun _ _ => True, n1 := 0, res := fun x _ => .tuple [.agg (enc .leaf ((getL x.p x.l).getD ⟨[], 0, 0, false⟩)), .bool (getL x.p x.l).isSome], blks' := fun _ _ => [], scal := true }

noncomputable def rrangeT : Tri := { γ := LeaR, n0 := 0, args := fun x => [.agg [.rslice false .leaf x.l], .str x.a, .str x.b], blks := fun _ => [], pre := fun x => shortLf x.l = true ∧ shortB x.a = true ∧ shortB x.b = true ∧ fewLf x.l = true, δ := Unit, post := fun _ _ => True, n1 := 1, res := fun x _ => .mslice .leaf 0 0 (x.l.filter fun y => inR x.a x.b y.path).length, blks' := fun x _ => [(0, .rows .leaf (x.l.filter fun y => inR x.a x.b y.path))], scal := true }
noncomputable def rrangeI : St → LInv := fun s => match getE s.env 0, getE s.env 1, getE s.env 2 with
  | .agg [.rslice _ .leaf l], .str a, .str b => { σ := Nat, I := fun i => i ≤ l.length, μ := fun i => l.length - i, env := fun i => [(8, .int .i64 i), (7, .mslice .leaf s.m.next 0 ((l.take i).filter fun y => inR a b y.path).length)], blk := fun i => [(s.m.next, .rows .leaf ((l.take i).filter fun y => inR a b y.path))], fresh := 1, drop := [] }
  | _, _, _ => LInv.none
noncomputable def rrangeE : Envr := Env Try.prog cod [(39, rcompareT.spec)] [(3, rrangeI)]
noncomputable def runderT : Tri := { γ := LeaP, n0 := 0, args := fun x => [.agg [.rslice false .leaf x.l], .str x.p], blks := fun _ => [], pre := fun x => fewLf x.l = true, δ := Unit, post := fun _ _ => True, n1 := 1, res := fun x _ => .mslice .leaf 0 0 (x.l.filter fun y => withinB x.p y.path).length, blks' := fun x _ => [(0, .rows .leaf (x.l.filter fun y => withinB x.p y.path))], scal := true }
noncomputable def runderI : St → LInv := fun s => match getE s.env 0, getE s.env 1 with
  | .agg [.rslice _ .leaf l], .str p => { σ := Nat, I := fun i => i ≤ l.length, μ := fun i => l.length - i, env := fun i => [(6, .int .i64 i), (5, .mslice .leaf s.m.next 0 ((l.take i).filter fun y => withinB p y.path).length)], blk := fun i => [(s.m.next, .rows .leaf ((l.take i).filter fun y => withinB p y.path))], fresh := 1, drop := [] }
  | _, _ => LInv.none
noncomputable def runderE : Envr := Env Try.prog cod [(42, withinT.spec)] [(3, runderI)]

noncomputable def tawakeT : Tri := { γ := Unit, n0 := 0, args := fun _ => [], blks := fun _ => [], pre := fun _ => True, δ := Unit, post := fun _ _ => True, n1 := 0, res := fun _ _ => .bool true, blks' := fun _ _ => [], scal := true }
noncomputable def treeSpecs : List (Nat × CallSpec) := [(21, newT.spec), (23, (putT 100000).spec), (22, allT.spec), (25, tlenT.spec), (26, tdepthT.spec), (27, underT.spec), (29, rangeT.spec), (31, getT.spec)]
noncomputable def tawakeE : Envr := Env Try.prog cod [(21, newT.spec), (23, (putT 100000).spec), (22, allT.spec), (25, tlenT.spec)] []
end Go.Proofs.Ytkhiifaldbjpbaa.Ses

namespace Go.Proofs.Ytkhiifaldbjpbaa.Ses
open Go Go.Proofs Go.Proofs.Ytkhiifaldbjpbaa.Sx Go.Proofs.Ytkhiifaldbjpbaa.Trx

theorem drop_getD {α : Type} {l : List α} {i : Nat} (d : α) (h : i < l.length) : l.drop i = l.getD i d :: l.drop (i + 1) := by
  rw [List.drop_eq_getElem_cons h]
  simp [h]
theorem placeL_cons (p : Bs) (y : LeafD) (r : List LeafD) : placeL p (y :: r) = (bif cmpP p y == 0 then (0, true) else bif decide (cmpP p y < 0) then (0, false) else ((placeL p r).1 + 1, (placeL p r).2)) := rfl
theorem insL_cons (x y : LeafD) (r : List LeafD) : insL x (y :: r) = (bif cmpP x.path y == 0 then x :: r else bif decide (cmpP x.path y < 0) then x :: y :: r else y :: insL x r) := rfl
theorem getL_cons (p : Bs) (y : LeafD) (r : List LeafD) : getL p (y :: r) = (bif cmpP p y == 0 then some y else bif decide (cmpP p y < 0) then none else getL p r) := rfl

theorem placeL_le (p : Bs) : ∀ l, (placeL p l).1 ≤ l.length ∧ ((placeL p l).2 = true → (placeL p l).1 < l.length)
  | [] => ⟨Nat.le_refl _, fun h => by cases h⟩
  | y :: r => by
    have ih := placeL_le p r
    rw [placeL_cons]
    cases cmpP p y == 0
    · cases decide (cmpP p y < 0)
      · simp only [cond_false, List.length_cons]
        exact ⟨by omega, fun h => by have := ih.2 h; omega⟩
      · simp
    · simp

theorem insL_place (x : LeafD) : ∀ l, insL x l = l.take (placeL x.path l).1 ++ x :: l.drop (bif (placeL x.path l).2 then (placeL x.path l).1 + 1 else (placeL x.path l).1)
  | [] => rfl
  | y :: r => by
    have ih := insL_place x r
    rw [placeL_cons, insL_cons]
    cases cmpP x.path y == 0
    · cases decide (cmpP x.path y < 0)
      · simp only [cond_false]
        rw [ih]
        cases (placeL x.path r).2 <;> simp
      · simp
    · simp

theorem getL_place (p : Bs) : ∀ l, getL p l = bif (placeL p l).2 then some (l.getD (placeL p l).1 noL) else none
  | [] => rfl
  | y :: r => by
    have ih := getL_place p r
    rw [placeL_cons, getL_cons]
    cases cmpP p y == 0
    · cases decide (cmpP p y < 0)
      · simp only [cond_false]
        rw [ih]
        simp
      · simp
    · simp

theorem insL_len (x : LeafD) (l : List LeafD) : (insL x l).length ≤ l.length + 1 ∧ l.length ≤ (insL x l).length := by
  rw [insL_place]
  have := placeL_le x.path l
  simp only [List.length_append, List.length_take, List.length_cons, List.length_drop]
  cases h : (placeL x.path l).2
  · simp only [cond_false]; omega
  · have := this.2 h
    simp only [cond_true]; omega

theorem filter_take {f : LeafD → Bool} {l : List LeafD} {i : Nat} (h : i < l.length) : (l.take (i + 1)).filter f = (l.take i).filter f ++ (bif f (l.getD i noL) then [l.getD i noL] else []) := by
  rw [take_succ_getD noL h, List.filter_append]
  congr 1

theorem sameL_at {a b : List LeafD} {i : Nat} (h1 : i < a.length) (h2 : i < b.length) : sameLB (a.drop i) (b.drop i) = (eqLf (a.getD i noL) (b.getD i noL) && sameLB (a.drop (i + 1)) (b.drop (i + 1))) := by
  rw [drop_getD noL h1, drop_getD noL h2]
  unfold sameLB
  simp only [List.length_cons, List.zipWith_cons_cons, List.all_cons, id]
  have : Nat.beq ((a.drop (i + 1)).length + 1) ((b.drop (i + 1)).length + 1) = Nat.beq (a.drop (i + 1)).length (b.drop (i + 1)).length := rfl
  rw [this]
  cases Nat.beq (a.drop (i + 1)).length (b.drop (i + 1)).length <;> cases eqLf (a.getD i noL) (b.getD i noL) <;> rfl

theorem eqLf_self (a : LeafD) : eqLf a a = true := by simp [eqLf]
theorem eqLf_iff {a b : LeafD} : eqLf a b = true ↔ a = b := by
  constructor
  · intro h
    simp [eqLf] at h
    obtain ⟨p, d, r, g⟩ := a
    obtain ⟨p', d', r', g'⟩ := b
    simp at h
    obtain ⟨rfl, rfl, rfl, rfl⟩ := h
    rfl
  · rintro rfl; exact eqLf_self a
theorem sameLB_self : ∀ a, sameLB a a = true
  | [] => rfl
  | x :: r => by
    have := sameLB_self r
    unfold sameLB at this ⊢
    simp only [List.zipWith_cons_cons, List.all_cons, id, eqLf_self, Bool.true_and]
    simpa using this

/-! ### trees of leaves, in order -/

theorem wf_ht : ∀ (t : TreeD), wfT t = true → (ht t : Int) = depthD t
  | .nil, _ => by simp [ht, depthD, TreeD.isNil]
  | .node th x l r d m, h => by
    simp only [wfT, Bool.and_eq_true, decide_eq_true_eq] at h
    obtain ⟨h1, h2, h3, h4, h5, h6, h7⟩ := h
    subst h1 h4 h5
    have hl := wf_ht l h2
    have hr := wf_ht r h3
    show ((max (ht l) (ht r) + 1 : Nat) : Int) = depthD (joinD x l r)
    rw [depth_join]
    omega

/-- strictly rising -/
def ordL (l : List LeafD) : Prop := l.Pairwise fun a b => cmpL (splitB a.path) (splitB b.path) < 0

theorem cmpP_swap (x y : LeafD) : cmpP x.path y = -cmpP y.path x := by
  unfold cmpP
  rw [cmpL_swap (splitB y.path) (splitB x.path)]

theorem cmp_lt_trans {a b c : List Bs} (h1 : cmpL a b < 0) (h2 : cmpL b c < 0) : cmpL a c < 0 := by
  have := cmpL_trans (a := a) (b := b) (c := c) (by omega) (by omega)
  rcases cmpL_vals a c with h | h | h
  · omega
  · have := (this.2 h).1; omega
  · omega
theorem cmp_eq_left {a b c : List Bs} (h1 : cmpL a b = 0) : cmpL a c = cmpL b c := by rw [cmpL_zero.1 h1]

theorem insL_left {x y : LeafD} (h : cmpP x.path y < 0) : ∀ (A B : List LeafD), insL x (A ++ y :: B) = insL x A ++ y :: B
  | [], B => by
    rw [List.nil_append, insL_cons]
    have h0 : (cmpP x.path y == 0) = false := by simp; omega
    rw [h0, decide_eq_true h]; rfl
  | a :: A, B => by
    rw [List.cons_append, insL_cons, insL_cons, insL_left h A B]
    cases cmpP x.path a == 0
    · cases decide (cmpP x.path a < 0) <;> rfl
    · rfl

theorem insL_right {x y : LeafD} (h : 0 < cmpP x.path y) : ∀ (A B : List LeafD), (∀ a, a ∈ A → cmpL (splitB a.path) (splitB y.path) < 0) → insL x (A ++ y :: B) = A ++ y :: insL x B
  | [], B, _ => by
    rw [List.nil_append, insL_cons]
    have h0 : (cmpP x.path y == 0) = false := by simp; omega
    have h1 : decide (cmpP x.path y < 0) = false := by simp; omega
    rw [h0, h1]; rfl
  | a :: A, B, hA => by
    rw [List.cons_append, insL_cons, insL_right h A B (fun b hb => hA b (by simp [hb]))]
    have ha : 0 < cmpP x.path a := by
      have h2 : cmpP y.path x < 0 := by rw [cmpP_swap]; omega
      have := cmp_lt_trans (hA a (by simp)) h2
      have h3 : cmpP a.path x < 0 := this
      rw [cmpP_swap]; omega
    have h0 : (cmpP x.path a == 0) = false := by simp; omega
    have h1 : decide (cmpP x.path a < 0) = false := by simp; omega
    rw [h0, h1]; rfl

theorem insL_same {x y : LeafD} (h : cmpP x.path y = 0) : ∀ (A B : List LeafD), (∀ a, a ∈ A → cmpL (splitB a.path) (splitB y.path) < 0) → insL x (A ++ y :: B) = A ++ x :: B
  | [], B, _ => by
    rw [List.nil_append, insL_cons]
    have h0 : (cmpP x.path y == 0) = true := by simp [h]
    rw [h0]; rfl
  | a :: A, B, hA => by
    rw [List.cons_append, insL_cons, insL_same h A B (fun b hb => hA b (by simp [hb]))]
    have ha : 0 < cmpP x.path a := by
      have h2 : cmpL (splitB a.path) (splitB x.path) < 0 := by
        have e := cmpL_zero.1 h
        rw [e]; exact hA a (by simp)
      have h3 : cmpP a.path x < 0 := h2
      rw [cmpP_swap]; omega
    have h0 : (cmpP x.path a == 0) = false := by simp; omega
    have h1 : decide (cmpP x.path a < 0) = false := by simp; omega
    rw [h0, h1]; rfl

theorem getL_left {p : Bs} {y : LeafD} (h : cmpP p y < 0) : ∀ (A B : List LeafD), getL p (A ++ y :: B) = getL p A
  | [], B => by
    rw [List.nil_append, getL_cons]
    have h0 : (cmpP p y == 0) = false := by simp; omega
    rw [h0, decide_eq_true h]; rfl
  | a :: A, B => by rw [List.cons_append, getL_cons, getL_cons, getL_left h A B]

theorem getL_right {p : Bs} {y : LeafD} (h : 0 ≤ cmpP p y) : ∀ (A B : List LeafD), (∀ a, a ∈ A → cmpL (splitB a.path) (splitB y.path) < 0) → getL p (A ++ y :: B) = getL p (y :: B)
  | [], B, _ => rfl
  | a :: A, B, hA => by
    rw [List.cons_append, getL_cons, getL_right h A B (fun b hb => hA b (by simp [hb]))]
    have ha : 0 < cmpP p a := by
      have h1 := hA a (by simp)
      have h2 : cmpL (splitB y.path) (splitB p) ≤ 0 := by rw [cmpL_swap (splitB p) (splitB y.path)]; unfold cmpP at h; omega
      have h3 := cmpL_trans (a := splitB a.path) (b := splitB y.path) (c := splitB p) (by omega) h2
      unfold cmpP
      rw [cmpL_swap (splitB a.path) (splitB p)]
      rcases cmpL_vals (splitB a.path) (splitB p) with g | g | g
      · omega
      · have := (h3.2 g).1; omega
      · omega
    have h0 : (cmpP p a == 0) = false := by simp; omega
    have h1 : decide (cmpP p a < 0) = false := by simp; omega
    rw [h0, h1]; rfl

/-- a tree that has been put together -/
structure TOK (t : TreeD) : Prop where
  ok : (t.isNil || !t.there) = true ∨ wfT t = true
  ord : ordL (TreeD.inorder t)

theorem inorder_empty {t : TreeD} (h : (t.isNil || !t.there) = true) : TreeD.inorder t = [] := by
  cases t with
  | nil => rfl
  | node th x l r d m =>
    have : th = false := by simpa [TreeD.isNil, TreeD.there] using h
    subst this
    rfl
theorem putD_empty {x : LeafD} {t : TreeD} (h : (t.isNil || !t.there) = true) : putD x t = joinD x .nil .nil := by
  cases t with
  | nil => rfl
  | node th y l r d m =>
    have : th = false := by simpa [TreeD.isNil, TreeD.there] using h
    subst this
    rfl
theorem lenD_empty {t : TreeD} (h : (t.isNil || !t.there) = true) : lenD t = 0 := by unfold lenD; rw [h]; rfl
theorem depthD_empty {t : TreeD} (h : (t.isNil || !t.there) = true) : depthD t = 0 := by unfold depthD; rw [h]; rfl

theorem putD_in (x : LeafD) : ∀ (t : TreeD), wfT t = true → ordL (TreeD.inorder t) → TreeD.inorder (putD x t) = insL x (TreeD.inorder t)
  | .nil, _, _ => rfl
  | .node th y l r d m, h, ho => by
    simp only [wfT, Bool.and_eq_true, decide_eq_true_eq] at h
    obtain ⟨h1, h2, h3, h4, h5, h6, h7⟩ := h
    subst h1 h4 h5
    have ho : ordL (TreeD.inorder l ++ y :: TreeD.inorder r) := ho
    unfold ordL at ho
    rw [List.pairwise_append] at ho
    obtain ⟨o1, o2, o3⟩ := ho
    rw [List.pairwise_cons] at o2
    have il := putD_in x l h2 o1
    have ir := putD_in x r h3 o2.2
    have wl := put_wf x l h2
    have wr := put_wf x r h3
    have hA : ∀ a, a ∈ TreeD.inorder l → cmpL (splitB a.path) (splitB y.path) < 0 := fun a ha => o3 a ha y (by simp)
    show TreeD.inorder (putD x (joinD y l r)) = insL x (TreeD.inorder l ++ y :: TreeD.inorder r)
    have e : putD x (joinD y l r) = (bif decide (cmpP x.path y < 0) then levelD (joinD y (putD x l) r)
       else bif decide (0 < cmpP x.path y) then levelD (joinD y l (putD x r)) else joinD x l r) := rfl
    rw [e]
    by_cases g1 : cmpP x.path y < 0
    · rw [decide_eq_true g1]
      simp only [cond_true]
      rw [(level_wf y wl.1 h3 (by omega) (by omega)).2.2.2.1, il, insL_left g1]
    · rw [decide_eq_false g1]
      simp only [cond_false]
      by_cases g2 : 0 < cmpP x.path y
      · rw [decide_eq_true g2]
        simp only [cond_true]
        rw [(level_wf y h2 wr.1 (by omega) (by omega)).2.2.2.1, ir, insL_right g2 _ _ hA]
      · rw [decide_eq_false g2]
        simp only [cond_false]
        rw [in_join, insL_same (by omega) _ _ hA]

theorem insL_mem {x a : LeafD} : ∀ {l : List LeafD}, a ∈ insL x l → a = x ∨ a ∈ l
  | [], h => by simp [insL] at h; exact .inl h
  | y :: r, h => by
    rw [insL_cons] at h
    revert h
    cases cmpP x.path y == 0
    · cases decide (cmpP x.path y < 0)
      · simp only [cond_false]
        intro h
        rcases List.mem_cons.1 h with rfl | h
        · exact .inr (by simp)
        · rcases insL_mem h with rfl | h
          · exact .inl rfl
          · exact .inr (by simp [h])
      · simp only [cond_true, cond_false]
        intro h
        rcases List.mem_cons.1 h with rfl | h
        · exact .inl rfl
        · exact .inr h
    · simp only [cond_true]
      intro h
      rcases List.mem_cons.1 h with rfl | h
      · exact .inl rfl
      · exact .inr (by simp [h])

theorem insL_ord {x : LeafD} : ∀ {l : List LeafD}, ordL l → ordL (insL x l)
  | [], _ => by simp [insL, ordL]
  | y :: r, h => by
    unfold ordL at h ⊢
    rw [List.pairwise_cons] at h
    rw [insL_cons]
    by_cases g0 : cmpP x.path y = 0
    · have e0 : (cmpP x.path y == 0) = true := by simp [g0]
      rw [e0]
      simp only [cond_true]
      rw [List.pairwise_cons]
      refine ⟨fun b hb => ?_, h.2⟩
      rw [cmpL_zero.1 g0]
      exact h.1 b hb
    · have e0 : (cmpP x.path y == 0) = false := by simp [g0]
      rw [e0]
      simp only [cond_false]
      by_cases g1 : cmpP x.path y < 0
      · rw [decide_eq_true g1]
        simp only [cond_true]
        rw [List.pairwise_cons, List.pairwise_cons]
        refine ⟨fun b hb => ?_, h⟩
        rcases List.mem_cons.1 hb with rfl | hb
        · exact g1
        · exact cmp_lt_trans g1 (h.1 b hb)
      · rw [decide_eq_false g1]
        simp only [cond_false]
        rw [List.pairwise_cons]
        refine ⟨fun b hb => ?_, insL_ord h.2⟩
        rcases insL_mem hb with rfl | hb
        · have : cmpP y.path b = -cmpP b.path y := cmpP_swap y b
          unfold cmpP at this g1 g0
          omega
        · exact h.1 b hb

theorem tok_put {t : TreeD} (h : TOK t) (x : LeafD) : TOK (putD x t) ∧ wfT (putD x t) = true ∧ TreeD.inorder (putD x t) = insL x (TreeD.inorder t) := by
  have hw : wfT (putD x t) = true ∧ TreeD.inorder (putD x t) = insL x (TreeD.inorder t) := by
    rcases h.ok with h1 | h1
    · rw [putD_empty h1, inorder_empty h1]
      exact ⟨wf_join rfl rfl (by omega) (by omega), rfl⟩
    · exact ⟨(put_wf x t h1).1, putD_in x t h1 h.ord⟩
  exact ⟨⟨.inr hw.1, by rw [hw.2]; exact insL_ord h.ord⟩, hw⟩

theorem tok_len {t : TreeD} (h : TOK t) : lenD t = (TreeD.inorder t).length := by
  rcases h.ok with h1 | h1
  · rw [lenD_empty h1, inorder_empty h1]; rfl
  · exact (wf_num t h1).2.2
theorem tok_ht {t : TreeD} (h : TOK t) (hn : t = .node false noL .nil .nil 0 0 ∨ wfT t = true) : (ht t : Int) ≤ (TreeD.inorder t).length + 1 := by
  rcases hn with rfl | h1
  · simp [ht]; omega
  · have := wf_ht t h1
    have := wf_num t h1
    omega
theorem tok_get {t : TreeD} (h : TOK t) (p : Bs) : getD' p t = getL p (TreeD.inorder t) := by
  rcases h.ok with h1 | h1
  · rw [inorder_empty h1]
    cases t with
    | nil => rfl
    | node th y l r d m =>
      have : th = false := by simpa [TreeD.isNil, TreeD.there] using h1
      subst this
      rfl
  · have : ∀ (t : TreeD), wfT t = true → ordL (TreeD.inorder t) → getD' p t = getL p (TreeD.inorder t) := by
      intro t
      induction t with
      | nil => intro _ _; rfl
      | node th y l r d m il ir =>
        intro h ho
        simp only [wfT, Bool.and_eq_true, decide_eq_true_eq] at h
        obtain ⟨h1, h2, h3, h4, h5, h6, h7⟩ := h
        subst h1 h4 h5
        have ho : ordL (TreeD.inorder l ++ y :: TreeD.inorder r) := ho
        unfold ordL at ho
        rw [List.pairwise_append] at ho
        obtain ⟨o1, o2, o3⟩ := ho
        rw [List.pairwise_cons] at o2
        have hA : ∀ a, a ∈ TreeD.inorder l → cmpL (splitB a.path) (splitB y.path) < 0 := fun a ha => o3 a ha y (by simp)
        show getD' p (joinD y l r) = getL p (TreeD.inorder l ++ y :: TreeD.inorder r)
        have e : getD' p (joinD y l r) = (bif cmpP p y == 0 then some y else bif decide (cmpP p y < 0) then getD' p l else getD' p r) := rfl
        rw [e]
        by_cases g1 : cmpP p y < 0
        · have h0 : (cmpP p y == 0) = false := by simp; omega
          rw [h0, decide_eq_true g1, getL_left g1]
          exact il h2 o1
        · rw [getL_right (by omega) _ _ hA, getL_cons]
          cases cmpP p y == 0
          · rw [decide_eq_false g1]
            exact ir h3 o2.2
          · rfl
    exact this t h1 h.ord
end Go.Proofs.Ytkhiifaldbjpbaa.Ses

namespace Go.Proofs.Ytkhiifaldbjpbaa.Ses
open Go Go.Proofs Go.Proofs.Ytkhiifaldbjpbaa.Sx Go.Proofs.Ytkhiifaldbjpbaa.Trx
set_option maxRecDepth 100000

theorem room_vc (x : roomT.γ) : evCall roomE (ev roomE 1000) 20 (roomT.args x) ⟨roomT.blks x, roomT.n0, []⟩ (fun _ _ => False) (roomT.ends x) = (
((@LE.le Nat _ (@HMul.hMul _ _ _ _ (@List.length LeafD x) (40 : Nat)) room47) →
 (br (@Decidable.decide (@GT.gt Int _ (Nat.cast (@List.length LeafD x) : Int) (300 : Int)) _)
 (∃ x1 : Unit,
 ((@Eq Bool Bool.false (@roomB x)) ∧
 True))
 ((∃ x2 : Nat,
 ((@Eq Int (0 : Int) (Nat.cast x2 : Int)) ∧
 ((@LE.le Nat _ x2 (@List.length LeafD x)) ∧
 (∀ x3 : Nat,
 (∀ x4 : LeafD,
 ((@LT.lt Nat _ x3 x2) →
 ((@Eq (@Option LeafD) (@GetElem?.getElem? (@List LeafD) Nat LeafD (fun x5 : (@List LeafD) => (fun x6 : Nat => (@LT.lt Nat _ x6 (@List.length LeafD x5)))) _ x x3) (@Option.some LeafD x4)) →
 (@LE.le Nat _ (@List.length UInt8 (@LeafD.path x4)) (300 : Nat))))))))) ∧
 (∀ x7 : Nat,
 (((@LE.le Nat _ x7 (@List.length LeafD x)) ∧
 (∀ x8 : Nat,
 (∀ x9 : LeafD,
 ((@LT.lt Nat _ x8 x7) →
 ((@Eq (@Option LeafD) (@GetElem?.getElem? (@List LeafD) Nat LeafD (fun x10 : (@List LeafD) => (fun x11 : Nat => (@LT.lt Nat _ x11 (@List.length LeafD x10)))) _ x x8) (@Option.some LeafD x9)) →
 (@LE.le Nat _ (@List.length UInt8 (@LeafD.path x9)) (300 : Nat))))))) →
 ((@LE.le Nat _ (@HMul.hMul _ _ _ _ (@List.length LeafD x) (40 : Nat)) room47) →
 (br (@Decidable.decide (@LT.lt Int _ (Nat.cast x7 : Int) (Nat.cast (@List.length LeafD x) : Int)) _)
 (br (@Decidable.decide ((@LE.le Int _ (0 : Int) (Nat.cast x7 : Int)) ∧
 (@LT.lt Int _ (Nat.cast x7 : Int) (Nat.cast (@List.length LeafD x) : Int))) _)
 ((@LE.le Nat _ (@List.length UInt8 (@LeafD.path (@List.getD LeafD x (@Int.toNat (Nat.cast x7 : Int)) (@LeafD.mk (@List.nil UInt8) (0 : Int) (0 : Int) Bool.false)))) maxI64) →
 (br (@Decidable.decide (@GT.gt Int _ (Nat.cast (@List.length UInt8 (@LeafD.path (@List.getD LeafD x (@Int.toNat (Nat.cast x7 : Int)) (@LeafD.mk (@List.nil UInt8) (0 : Int) (0 : Int) Bool.false)))) : Int) (300 : Int)) _)
 (∃ x12 : Unit,
 ((@Eq Bool Bool.false (@roomB x)) ∧
 True))
 (∃ x13 : Nat,
 ((@Eq Int (@Go.IntKind.wrap Go.IntKind.i64 (@HAdd.hAdd Int Int Int _ (Nat.cast x7 : Int) (1 : Int))) (Nat.cast x13 : Int)) ∧
 (((@LE.le Nat _ x13 (@List.length LeafD x)) ∧
 (∀ x14 : Nat,
 (∀ x15 : LeafD,
 ((@LT.lt Nat _ x14 x13) →
 ((@Eq (@Option LeafD) (@GetElem?.getElem? (@List LeafD) Nat LeafD (fun x16 : (@List LeafD) => (fun x17 : Nat => (@LT.lt Nat _ x17 (@List.length LeafD x16)))) _ x x14) (@Option.some LeafD x15)) →
 (@LE.le Nat _ (@List.length UInt8 (@LeafD.path x15)) (300 : Nat))))))) ∧
 (@LT.lt Nat _ (@Nat.sub (@List.length LeafD x) x13) (@Nat.sub (@List.length LeafD x) x7)))))))
 (Bad "check" "law.go:26"))
 (∃ x18 : Unit,
 ((@Eq Bool Bool.true (@roomB x)) ∧
 True)))))))))) := by kernel_rfl

theorem samel_vc (x : sameLT.γ) : evCall sameLE (ev sameLE 1000) 24 (sameLT.args x) ⟨sameLT.blks x, sameLT.n0, []⟩ (fun _ _ => False) (sameLT.ends x) = (
((@LE.le Nat _ (@HMul.hMul _ _ _ _ (@List.length LeafD (@Lea2.a x)) (40 : Nat)) room47) →
 ((@LE.le Nat _ (@HMul.hMul _ _ _ _ (@List.length LeafD (@Lea2.b x)) (40 : Nat)) room47) →
 (br (@bne Int _ (Nat.cast (@List.length LeafD (@Lea2.a x)) : Int) (Nat.cast (@List.length LeafD (@Lea2.b x)) : Int))
 (∃ x1 : Unit,
 ((@Eq Bool Bool.false (@sameLB (@Lea2.a x) (@Lea2.b x))) ∧
 True))
 ((∃ x2 : Nat,
 ((@Eq Int (0 : Int) (Nat.cast x2 : Int)) ∧
 ((@LE.le Nat _ x2 (@List.length LeafD (@Lea2.a x))) ∧
 (@Eq Bool (@sameLB (@List.drop LeafD x2 (@Lea2.a x)) (@List.drop LeafD x2 (@Lea2.b x))) (@sameLB (@Lea2.a x) (@Lea2.b x)))))) ∧
 (∀ x3 : Nat,
 (((@LE.le Nat _ x3 (@List.length LeafD (@Lea2.a x))) ∧
 (@Eq Bool (@sameLB (@List.drop LeafD x3 (@Lea2.a x)) (@List.drop LeafD x3 (@Lea2.b x))) (@sameLB (@Lea2.a x) (@Lea2.b x)))) →
 ((@LE.le Nat _ (@HMul.hMul _ _ _ _ (@List.length LeafD (@Lea2.a x)) (40 : Nat)) room47) →
 (br (@Decidable.decide (@LT.lt Int _ (Nat.cast x3 : Int) (Nat.cast (@List.length LeafD (@Lea2.a x)) : Int)) _)
 (br (@Decidable.decide ((@LE.le Int _ (0 : Int) (Nat.cast x3 : Int)) ∧
 (@LT.lt Int _ (Nat.cast x3 : Int) (Nat.cast (@List.length LeafD (@Lea2.a x)) : Int))) _)
 (br (@Decidable.decide ((@LE.le Int _ (0 : Int) (Nat.cast x3 : Int)) ∧
 (@LT.lt Int _ (Nat.cast x3 : Int) (Nat.cast (@List.length LeafD (@Lea2.b x)) : Int))) _)
 (br (@Bool.not (@Bool.and (@BEq.beq Bs _ (@LeafD.path (@List.getD LeafD (@Lea2.a x) (@Int.toNat (Nat.cast x3 : Int)) (@LeafD.mk (@List.nil UInt8) (0 : Int) (0 : Int) Bool.false))) (@LeafD.path (@List.getD LeafD (@Lea2.b x) (@Int.toNat (Nat.cast x3 : Int)) (@LeafD.mk (@List.nil UInt8) (0 : Int) (0 : Int) Bool.false)))) (@Bool.and (@BEq.beq Int _ (@LeafD.digest (@List.getD LeafD (@Lea2.a x) (@Int.toNat (Nat.cast x3 : Int)) (@LeafD.mk (@List.nil UInt8) (0 : Int) (0 : Int) Bool.false))) (@LeafD.digest (@List.getD LeafD (@Lea2.b x) (@Int.toNat (Nat.cast x3 : Int)) (@LeafD.mk (@List.nil UInt8) (0 : Int) (0 : Int) Bool.false)))) (@Bool.and (@BEq.beq Int _ (@LeafD.rev (@List.getD LeafD (@Lea2.a x) (@Int.toNat (Nat.cast x3 : Int)) (@LeafD.mk (@List.nil UInt8) (0 : Int) (0 : Int) Bool.false))) (@LeafD.rev (@List.getD LeafD (@Lea2.b x) (@Int.toNat (Nat.cast x3 : Int)) (@LeafD.mk (@List.nil UInt8) (0 : Int) (0 : Int) Bool.false)))) (@Bool.and (@BEq.beq Bool _ (@LeafD.gone (@List.getD LeafD (@Lea2.a x) (@Int.toNat (Nat.cast x3 : Int)) (@LeafD.mk (@List.nil UInt8) (0 : Int) (0 : Int) Bool.false))) (@LeafD.gone (@List.getD LeafD (@Lea2.b x) (@Int.toNat (Nat.cast x3 : Int)) (@LeafD.mk (@List.nil UInt8) (0 : Int) (0 : Int) Bool.false)))) Bool.true)))))
 (∃ x4 : Unit,
 ((@Eq Bool Bool.false (@sameLB (@Lea2.a x) (@Lea2.b x))) ∧
 True))
 (∃ x5 : Nat,
 ((@Eq Int (@Go.IntKind.wrap Go.IntKind.i64 (@HAdd.hAdd Int Int Int _ (Nat.cast x3 : Int) (1 : Int))) (Nat.cast x5 : Int)) ∧
 (((@LE.le Nat _ x5 (@List.length LeafD (@Lea2.a x))) ∧
 (@Eq Bool (@sameLB (@List.drop LeafD x5 (@Lea2.a x)) (@List.drop LeafD x5 (@Lea2.b x))) (@sameLB (@Lea2.a x) (@Lea2.b x)))) ∧
 (@LT.lt Nat _ (@Nat.sub (@List.length LeafD (@Lea2.a x)) x5) (@Nat.sub (@List.length LeafD (@Lea2.a x)) x3))))))
 (Bad "check" "ref.go:74"))
 (Bad "check" "ref.go:74"))
 (∃ x6 : Unit,
 ((@Eq Bool Bool.true (@sameLB (@Lea2.a x) (@Lea2.b x))) ∧
 True))))))))))) := by kernel_rfl

theorem place_vc (x : placeT.γ) : evCall placeE (ev placeE 1000) 61 (placeT.args x) ⟨placeT.blks x, placeT.n0, []⟩ (fun _ _ => False) (placeT.ends x) = (
((∃ x1 : Nat,
 ((@Eq Int (0 : Int) (Nat.cast x1 : Int)) ∧
 ((@LE.le Nat _ x1 (@List.length LeafD (@LeaP.l x))) ∧
 ((@Eq Nat (@HAdd.hAdd _ _ _ _ (@Prod.fst Nat Bool (@placeL (@LeaP.p x) (@List.drop LeafD x1 (@LeaP.l x)))) x1) (@Prod.fst Nat Bool (@placeL (@LeaP.p x) (@LeaP.l x)))) ∧
 (@Eq Bool (@Prod.snd Nat Bool (@placeL (@LeaP.p x) (@List.drop LeafD x1 (@LeaP.l x)))) (@Prod.snd Nat Bool (@placeL (@LeaP.p x) (@LeaP.l x)))))))) ∧
 (∀ x2 : Nat,
 (((@LE.le Nat _ x2 (@List.length LeafD (@LeaP.l x))) ∧
 ((@Eq Nat (@HAdd.hAdd _ _ _ _ (@Prod.fst Nat Bool (@placeL (@LeaP.p x) (@List.drop LeafD x2 (@LeaP.l x)))) x2) (@Prod.fst Nat Bool (@placeL (@LeaP.p x) (@LeaP.l x)))) ∧
 (@Eq Bool (@Prod.snd Nat Bool (@placeL (@LeaP.p x) (@List.drop LeafD x2 (@LeaP.l x)))) (@Prod.snd Nat Bool (@placeL (@LeaP.p x) (@LeaP.l x)))))) →
 ((@LE.le Nat _ (@HMul.hMul _ _ _ _ (@List.length LeafD (@LeaP.l x)) (40 : Nat)) room47) →
 (br (@Decidable.decide (@LT.lt Int _ (Nat.cast x2 : Int) (Nat.cast (@List.length LeafD (@LeaP.l x)) : Int)) _)
 (br (@Decidable.decide ((@LE.le Int _ (0 : Int) (Nat.cast x2 : Int)) ∧
 (@LT.lt Int _ (Nat.cast x2 : Int) (Nat.cast (@List.length LeafD (@LeaP.l x)) : Int))) _)
 (∃ x3 : TwoA,
 ((@Eq Bs (@LeaP.p x) (@TwoA.a x3)) ∧
 ((@Eq Bs (@LeafD.path (@List.getD LeafD (@LeaP.l x) (@Int.toNat (Nat.cast x2 : Int)) (@LeafD.mk (@List.nil UInt8) (0 : Int) (0 : Int) Bool.false))) (@TwoA.b x3)) ∧
 (((@Eq Bool (@shortB (@TwoA.a x3)) Bool.true) ∧
 (@Eq Bool (@shortB (@TwoA.b x3)) Bool.true)) ∧
 (∀ x4 : Unit,
 (True →
 (br (@BEq.beq Int _ (@cmpL (@splitB (@TwoA.a x3)) (@splitB (@TwoA.b x3))) (0 : Int))
 (∃ x5 : Unit,
 ((@Eq Int (Nat.cast x2 : Int) (Nat.cast (@Prod.fst Nat Bool (@placeL (@LeaP.p x) (@LeaP.l x))) : Int)) ∧
 ((@Eq Bool Bool.true (@Prod.snd Nat Bool (@placeL (@LeaP.p x) (@LeaP.l x)))) ∧
 True)))
 (br (@Decidable.decide (@LT.lt Int _ (@cmpL (@splitB (@TwoA.a x3)) (@splitB (@TwoA.b x3))) (0 : Int)) _)
 (∃ x6 : Unit,
 ((@Eq Int (Nat.cast x2 : Int) (Nat.cast (@Prod.fst Nat Bool (@placeL (@LeaP.p x) (@LeaP.l x))) : Int)) ∧
 ((@Eq Bool Bool.false (@Prod.snd Nat Bool (@placeL (@LeaP.p x) (@LeaP.l x)))) ∧
 True)))
 (∃ x7 : Nat,
 ((@Eq Int (@Go.IntKind.wrap Go.IntKind.i64 (@HAdd.hAdd Int Int Int _ (Nat.cast x2 : Int) (1 : Int))) (Nat.cast x7 : Int)) ∧
 (((@LE.le Nat _ x7 (@List.length LeafD (@LeaP.l x))) ∧
 ((@Eq Nat (@HAdd.hAdd _ _ _ _ (@Prod.fst Nat Bool (@placeL (@LeaP.p x) (@List.drop LeafD x7 (@LeaP.l x)))) x7) (@Prod.fst Nat Bool (@placeL (@LeaP.p x) (@LeaP.l x)))) ∧
 (@Eq Bool (@Prod.snd Nat Bool (@placeL (@LeaP.p x) (@List.drop LeafD x7 (@LeaP.l x)))) (@Prod.snd Nat Bool (@placeL (@LeaP.p x) (@LeaP.l x)))))) ∧
 (@LT.lt Nat _ (@Nat.sub (@List.length LeafD (@LeaP.l x)) x7) (@Nat.sub (@List.length LeafD (@LeaP.l x)) x2)))))))))))))
 (Bad "check" "ref.go:15"))
 ((@LE.le Nat _ (@HMul.hMul _ _ _ _ (@List.length LeafD (@LeaP.l x)) (40 : Nat)) room47) →
 (∃ x8 : Unit,
 ((@Eq Int (Nat.cast (@List.length LeafD (@LeaP.l x)) : Int) (Nat.cast (@Prod.fst Nat Bool (@placeL (@LeaP.p x) (@LeaP.l x))) : Int)) ∧
 ((@Eq Bool Bool.false (@Prod.snd Nat Bool (@placeL (@LeaP.p x) (@LeaP.l x)))) ∧
 True)))))))))) := by kernel_rfl

theorem rput_vc (x : rputT.γ) : evCall rputE (ev rputE 1000) 32 (rputT.args x) ⟨rputT.blks x, rputT.n0, []⟩ (fun _ _ => False) (rputT.ends x) = (
(∃ x1 : LeaP,
 ((@Eq (@List LeafD) (@LeaX.l x) (@LeaP.l x1)) ∧
 ((@Eq Bs (@LeafD.path (@LeaX.x x)) (@LeaP.p x1)) ∧
 (((@Eq Bool (@shortLf (@LeaP.l x1)) Bool.true) ∧
 (@Eq Bool (@shortB (@LeaP.p x1)) Bool.true)) ∧
 (∀ x2 : Unit,
 (True →
 (br (@bndB (@List.length LeafD (@LeaX.l x)) (@Option.none Int) (@Option.some Int (Nat.cast (@Prod.fst Nat Bool (@placeL (@LeaP.p x1) (@LeaP.l x1))) : Int)) (@Option.none Int))
 (((@Nat.le (@HMul.hMul _ _ _ _ (0 : Nat) (40 : Nat)) room47) ∧
 (@Nat.le (@HMul.hMul _ _ _ _ (@List.length LeafD (@cutL LeafD (@LeaX.l x) (@Option.none Int) (@Option.some Int (Nat.cast (@Prod.fst Nat Bool (@placeL (@LeaP.p x1) (@LeaP.l x1))) : Int)))) (40 : Nat)) room47)) →
 (br (@Bool.and (@Bool.and Bool.true (@Decidable.decide (@LE.le Nat _ (@HAdd.hAdd _ _ _ _ (0 : Nat) (0 : Nat)) (@List.length LeafD (@List.nil LeafD))) _)) (@Decidable.decide (@LE.le Nat _ (@HMul.hMul _ _ _ _ (@HAdd.hAdd _ _ _ _ (0 : Nat) (@List.length LeafD (@cutL LeafD (@LeaX.l x) (@Option.none Int) (@Option.some Int (Nat.cast (@Prod.fst Nat Bool (@placeL (@LeaP.p x1) (@LeaP.l x1))) : Int))))) (40 : Nat)) room47) _))
 (((@Nat.le (@HMul.hMul _ _ _ _ (@HAdd.hAdd _ _ _ _ (0 : Nat) (@List.length LeafD (@cutL LeafD (@LeaX.l x) (@Option.none Int) (@Option.some Int (Nat.cast (@Prod.fst Nat Bool (@placeL (@LeaP.p x1) (@LeaP.l x1))) : Int))))) (40 : Nat)) room47) ∧
 (@Nat.le (@HMul.hMul _ _ _ _ (1 : Nat) (40 : Nat)) room47)) →
 (br (@Bool.and (@Bool.and (@Decidable.decide (@LE.le Nat _ (@HAdd.hAdd _ _ _ _ (0 : Nat) (1 : Nat)) (@List.length LeafD (@List.cons LeafD (@LeafD.mk (@LeafD.path (@LeaX.x x)) (@LeafD.digest (@LeaX.x x)) (@LeafD.rev (@LeaX.x x)) (@LeafD.gone (@LeaX.x x))) (@List.nil LeafD)))) _) (@Decidable.decide (@LE.le Nat _ (@HAdd.hAdd _ _ _ _ (0 : Nat) (@HAdd.hAdd _ _ _ _ (0 : Nat) (@List.length LeafD (@cutL LeafD (@LeaX.l x) (@Option.none Int) (@Option.some Int (Nat.cast (@Prod.fst Nat Bool (@placeL (@LeaP.p x1) (@LeaP.l x1))) : Int)))))) (@List.length LeafD (@HAppend.hAppend (@List LeafD) (@List LeafD) (@List LeafD) _ (@List.take LeafD (0 : Nat) (@List.drop LeafD (0 : Nat) (@List.nil LeafD))) (@cutL LeafD (@LeaX.l x) (@Option.none Int) (@Option.some Int (Nat.cast (@Prod.fst Nat Bool (@placeL (@LeaP.p x1) (@LeaP.l x1))) : Int)))))) _)) (@Decidable.decide (@LE.le Nat _ (@HMul.hMul _ _ _ _ (@HAdd.hAdd _ _ _ _ (@HAdd.hAdd _ _ _ _ (0 : Nat) (@List.length LeafD (@cutL LeafD (@LeaX.l x) (@Option.none Int) (@Option.some Int (Nat.cast (@Prod.fst Nat Bool (@placeL (@LeaP.p x1) (@LeaP.l x1))) : Int))))) (@List.length LeafD (@List.take LeafD (1 : Nat) (@List.drop LeafD (0 : Nat) (@List.cons LeafD (@LeafD.mk (@LeafD.path (@LeaX.x x)) (@LeafD.digest (@LeaX.x x)) (@LeafD.rev (@LeaX.x x)) (@LeafD.gone (@LeaX.x x))) (@List.nil LeafD)))))) (40 : Nat)) room47) _))
 (br (@Prod.snd Nat Bool (@placeL (@LeaP.p x1) (@LeaP.l x1)))
 (br (@bndB (@List.length LeafD (@LeaX.l x)) (@Option.some Int (@Go.IntKind.wrap Go.IntKind.i64 (@HAdd.hAdd Int Int Int _ (Nat.cast (@Prod.fst Nat Bool (@placeL (@LeaP.p x1) (@LeaP.l x1))) : Int) (1 : Int)))) (@Option.none Int) (@Option.none Int))
 (((@Nat.le (@HMul.hMul _ _ _ _ (@HAdd.hAdd _ _ _ _ (@HAdd.hAdd _ _ _ _ (0 : Nat) (@List.length LeafD (@cutL LeafD (@LeaX.l x) (@Option.none Int) (@Option.some Int (Nat.cast (@Prod.fst Nat Bool (@placeL (@LeaP.p x1) (@LeaP.l x1))) : Int))))) (@List.length LeafD (@List.take LeafD (1 : Nat) (@List.drop LeafD (0 : Nat) (@List.cons LeafD (@LeafD.mk (@LeafD.path (@LeaX.x x)) (@LeafD.digest (@LeaX.x x)) (@LeafD.rev (@LeaX.x x)) (@LeafD.gone (@LeaX.x x))) (@List.nil LeafD)))))) (40 : Nat)) room47) ∧
 (@Nat.le (@HMul.hMul _ _ _ _ (@List.length LeafD (@cutL LeafD (@LeaX.l x) (@Option.some Int (@Go.IntKind.wrap Go.IntKind.i64 (@HAdd.hAdd Int Int Int _ (Nat.cast (@Prod.fst Nat Bool (@placeL (@LeaP.p x1) (@LeaP.l x1))) : Int) (1 : Int)))) (@Option.none Int))) (40 : Nat)) room47)) →
 (br (@Bool.and (@Bool.and Bool.true (@Decidable.decide (@LE.le Nat _ (@HAdd.hAdd _ _ _ _ (0 : Nat) (@HAdd.hAdd _ _ _ _ (@HAdd.hAdd _ _ _ _ (0 : Nat) (@List.length LeafD (@cutL LeafD (@LeaX.l x) (@Option.none Int) (@Option.some Int (Nat.cast (@Prod.fst Nat Bool (@placeL (@LeaP.p x1) (@LeaP.l x1))) : Int))))) (@List.length LeafD (@List.take LeafD (1 : Nat) (@List.drop LeafD (0 : Nat) (@List.cons LeafD (@LeafD.mk (@LeafD.path (@LeaX.x x)) (@LeafD.digest (@LeaX.x x)) (@LeafD.rev (@LeaX.x x)) (@LeafD.gone (@LeaX.x x))) (@List.nil LeafD))))))) (@List.length LeafD (@HAppend.hAppend (@List LeafD) (@List LeafD) (@List LeafD) _ (@List.take LeafD (@HAdd.hAdd _ _ _ _ (0 : Nat) (@List.length LeafD (@cutL LeafD (@LeaX.l x) (@Option.none Int) (@Option.some Int (Nat.cast (@Prod.fst Nat Bool (@placeL (@LeaP.p x1) (@LeaP.l x1))) : Int))))) (@List.drop LeafD (0 : Nat) (@HAppend.hAppend (@List LeafD) (@List LeafD) (@List LeafD) _ (@List.take LeafD (0 : Nat) (@List.drop LeafD (0 : Nat) (@List.nil LeafD))) (@cutL LeafD (@LeaX.l x) (@Option.none Int) (@Option.some Int (Nat.cast (@Prod.fst Nat Bool (@placeL (@LeaP.p x1) (@LeaP.l x1))) : Int)))))) (@List.take LeafD (1 : Nat) (@List.drop LeafD (0 : Nat) (@List.cons LeafD (@LeafD.mk (@LeafD.path (@LeaX.x x)) (@LeafD.digest (@LeaX.x x)) (@LeafD.rev (@LeaX.x x)) (@LeafD.gone (@LeaX.x x))) (@List.nil LeafD))))))) _)) (@Decidable.decide (@LE.le Nat _ (@HMul.hMul _ _ _ _ (@HAdd.hAdd _ _ _ _ (@HAdd.hAdd _ _ _ _ (@HAdd.hAdd _ _ _ _ (0 : Nat) (@List.length LeafD (@cutL LeafD (@LeaX.l x) (@Option.none Int) (@Option.some Int (Nat.cast (@Prod.fst Nat Bool (@placeL (@LeaP.p x1) (@LeaP.l x1))) : Int))))) (@List.length LeafD (@List.take LeafD (1 : Nat) (@List.drop LeafD (0 : Nat) (@List.cons LeafD (@LeafD.mk (@LeafD.path (@LeaX.x x)) (@LeafD.digest (@LeaX.x x)) (@LeafD.rev (@LeaX.x x)) (@LeafD.gone (@LeaX.x x))) (@List.nil LeafD)))))) (@List.length LeafD (@cutL LeafD (@LeaX.l x) (@Option.some Int (@Go.IntKind.wrap Go.IntKind.i64 (@HAdd.hAdd Int Int Int _ (Nat.cast (@Prod.fst Nat Bool (@placeL (@LeaP.p x1) (@LeaP.l x1))) : Int) (1 : Int)))) (@Option.none Int)))) (40 : Nat)) room47) _))
 (∃ x3 : Unit,
 ((@Eq Nat (0 : Nat) (0 : Nat)) ∧
 ((@Eq Nat (@HAdd.hAdd _ _ _ _ (@HAdd.hAdd _ _ _ _ (@HAdd.hAdd _ _ _ _ (0 : Nat) (@List.length LeafD (@cutL LeafD (@LeaX.l x) (@Option.none Int) (@Option.some Int (Nat.cast (@Prod.fst Nat Bool (@placeL (@LeaP.p x1) (@LeaP.l x1))) : Int))))) (@List.length LeafD (@List.take LeafD (1 : Nat) (@List.drop LeafD (0 : Nat) (@List.cons LeafD (@LeafD.mk (@LeafD.path (@LeaX.x x)) (@LeafD.digest (@LeaX.x x)) (@LeafD.rev (@LeaX.x x)) (@LeafD.gone (@LeaX.x x))) (@List.nil LeafD)))))) (@List.length LeafD (@cutL LeafD (@LeaX.l x) (@Option.some Int (@Go.IntKind.wrap Go.IntKind.i64 (@HAdd.hAdd Int Int Int _ (Nat.cast (@Prod.fst Nat Bool (@placeL (@LeaP.p x1) (@LeaP.l x1))) : Int) (1 : Int)))) (@Option.none Int)))) (@List.length LeafD (@insL (@LeaX.x x) (@LeaX.l x)))) ∧
 ((@Eq (@List LeafD) (@HAppend.hAppend (@List LeafD) (@List LeafD) (@List LeafD) _ (@List.take LeafD (@HAdd.hAdd _ _ _ _ (@HAdd.hAdd _ _ _ _ (0 : Nat) (@List.length LeafD (@cutL LeafD (@LeaX.l x) (@Option.none Int) (@Option.some Int (Nat.cast (@Prod.fst Nat Bool (@placeL (@LeaP.p x1) (@LeaP.l x1))) : Int))))) (@List.length LeafD (@List.take LeafD (1 : Nat) (@List.drop LeafD (0 : Nat) (@List.cons LeafD (@LeafD.mk (@LeafD.path (@LeaX.x x)) (@LeafD.digest (@LeaX.x x)) (@LeafD.rev (@LeaX.x x)) (@LeafD.gone (@LeaX.x x))) (@List.nil LeafD)))))) (@List.drop LeafD (0 : Nat) (@HAppend.hAppend (@List LeafD) (@List LeafD) (@List LeafD) _ (@List.take LeafD (@HAdd.hAdd _ _ _ _ (0 : Nat) (@List.length LeafD (@cutL LeafD (@LeaX.l x) (@Option.none Int) (@Option.some Int (Nat.cast (@Prod.fst Nat Bool (@placeL (@LeaP.p x1) (@LeaP.l x1))) : Int))))) (@List.drop LeafD (0 : Nat) (@HAppend.hAppend (@List LeafD) (@List LeafD) (@List LeafD) _ (@List.take LeafD (0 : Nat) (@List.drop LeafD (0 : Nat) (@List.nil LeafD))) (@cutL LeafD (@LeaX.l x) (@Option.none Int) (@Option.some Int (Nat.cast (@Prod.fst Nat Bool (@placeL (@LeaP.p x1) (@LeaP.l x1))) : Int)))))) (@List.take LeafD (1 : Nat) (@List.drop LeafD (0 : Nat) (@List.cons LeafD (@LeafD.mk (@LeafD.path (@LeaX.x x)) (@LeafD.digest (@LeaX.x x)) (@LeafD.rev (@LeaX.x x)) (@LeafD.gone (@LeaX.x x))) (@List.nil LeafD))))))) (@cutL LeafD (@LeaX.l x) (@Option.some Int (@Go.IntKind.wrap Go.IntKind.i64 (@HAdd.hAdd Int Int Int _ (Nat.cast (@Prod.fst Nat Bool (@placeL (@LeaP.p x1) (@LeaP.l x1))) : Int) (1 : Int)))) (@Option.none Int))) (@insL (@LeaX.x x) (@LeaX.l x))) ∧
 True))))
 (Bad "check" "ref.go:34")))
 (Bad "check" "ref.go:34"))
 (br (@bndB (@List.length LeafD (@LeaX.l x)) (@Option.some Int (Nat.cast (@Prod.fst Nat Bool (@placeL (@LeaP.p x1) (@LeaP.l x1))) : Int)) (@Option.none Int) (@Option.none Int))
 (((@Nat.le (@HMul.hMul _ _ _ _ (@HAdd.hAdd _ _ _ _ (@HAdd.hAdd _ _ _ _ (0 : Nat) (@List.length LeafD (@cutL LeafD (@LeaX.l x) (@Option.none Int) (@Option.some Int (Nat.cast (@Prod.fst Nat Bool (@placeL (@LeaP.p x1) (@LeaP.l x1))) : Int))))) (@List.length LeafD (@List.take LeafD (1 : Nat) (@List.drop LeafD (0 : Nat) (@List.cons LeafD (@LeafD.mk (@LeafD.path (@LeaX.x x)) (@LeafD.digest (@LeaX.x x)) (@LeafD.rev (@LeaX.x x)) (@LeafD.gone (@LeaX.x x))) (@List.nil LeafD)))))) (40 : Nat)) room47) ∧
 (@Nat.le (@HMul.hMul _ _ _ _ (@List.length LeafD (@cutL LeafD (@LeaX.l x) (@Option.some Int (Nat.cast (@Prod.fst Nat Bool (@placeL (@LeaP.p x1) (@LeaP.l x1))) : Int)) (@Option.none Int))) (40 : Nat)) room47)) →
 (br (@Bool.and (@Bool.and Bool.true (@Decidable.decide (@LE.le Nat _ (@HAdd.hAdd _ _ _ _ (0 : Nat) (@HAdd.hAdd _ _ _ _ (@HAdd.hAdd _ _ _ _ (0 : Nat) (@List.length LeafD (@cutL LeafD (@LeaX.l x) (@Option.none Int) (@Option.some Int (Nat.cast (@Prod.fst Nat Bool (@placeL (@LeaP.p x1) (@LeaP.l x1))) : Int))))) (@List.length LeafD (@List.take LeafD (1 : Nat) (@List.drop LeafD (0 : Nat) (@List.cons LeafD (@LeafD.mk (@LeafD.path (@LeaX.x x)) (@LeafD.digest (@LeaX.x x)) (@LeafD.rev (@LeaX.x x)) (@LeafD.gone (@LeaX.x x))) (@List.nil LeafD))))))) (@List.length LeafD (@HAppend.hAppend (@List LeafD) (@List LeafD) (@List LeafD) _ (@List.take LeafD (@HAdd.hAdd _ _ _ _ (0 : Nat) (@List.length LeafD (@cutL LeafD (@LeaX.l x) (@Option.none Int) (@Option.some Int (Nat.cast (@Prod.fst Nat Bool (@placeL (@LeaP.p x1) (@LeaP.l x1))) : Int))))) (@List.drop LeafD (0 : Nat) (@HAppend.hAppend (@List LeafD) (@List LeafD) (@List LeafD) _ (@List.take LeafD (0 : Nat) (@List.drop LeafD (0 : Nat) (@List.nil LeafD))) (@cutL LeafD (@LeaX.l x) (@Option.none Int) (@Option.some Int (Nat.cast (@Prod.fst Nat Bool (@placeL (@LeaP.p x1) (@LeaP.l x1))) : Int)))))) (@List.take LeafD (1 : Nat) (@List.drop LeafD (0 : Nat) (@List.cons LeafD (@LeafD.mk (@LeafD.path (@LeaX.x x)) (@LeafD.digest (@LeaX.x x)) (@LeafD.rev (@LeaX.x x)) (@LeafD.gone (@LeaX.x x))) (@List.nil LeafD))))))) _)) (@Decidable.decide (@LE.le Nat _ (@HMul.hMul _ _ _ _ (@HAdd.hAdd _ _ _ _ (@HAdd.hAdd _ _ _ _ (@HAdd.hAdd _ _ _ _ (0 : Nat) (@List.length LeafD (@cutL LeafD (@LeaX.l x) (@Option.none Int) (@Option.some Int (Nat.cast (@Prod.fst Nat Bool (@placeL (@LeaP.p x1) (@LeaP.l x1))) : Int))))) (@List.length LeafD (@List.take LeafD (1 : Nat) (@List.drop LeafD (0 : Nat) (@List.cons LeafD (@LeafD.mk (@LeafD.path (@LeaX.x x)) (@LeafD.digest (@LeaX.x x)) (@LeafD.rev (@LeaX.x x)) (@LeafD.gone (@LeaX.x x))) (@List.nil LeafD)))))) (@List.length LeafD (@cutL LeafD (@LeaX.l x) (@Option.some Int (Nat.cast (@Prod.fst Nat Bool (@placeL (@LeaP.p x1) (@LeaP.l x1))) : Int)) (@Option.none Int)))) (40 : Nat)) room47) _))
 (∃ x4 : Unit,
 ((@Eq Nat (0 : Nat) (0 : Nat)) ∧
 ((@Eq Nat (@HAdd.hAdd _ _ _ _ (@HAdd.hAdd _ _ _ _ (@HAdd.hAdd _ _ _ _ (0 : Nat) (@List.length LeafD (@cutL LeafD (@LeaX.l x) (@Option.none Int) (@Option.some Int (Nat.cast (@Prod.fst Nat Bool (@placeL (@LeaP.p x1) (@LeaP.l x1))) : Int))))) (@List.length LeafD (@List.take LeafD (1 : Nat) (@List.drop LeafD (0 : Nat) (@List.cons LeafD (@LeafD.mk (@LeafD.path (@LeaX.x x)) (@LeafD.digest (@LeaX.x x)) (@LeafD.rev (@LeaX.x x)) (@LeafD.gone (@LeaX.x x))) (@List.nil LeafD)))))) (@List.length LeafD (@cutL LeafD (@LeaX.l x) (@Option.some Int (Nat.cast (@Prod.fst Nat Bool (@placeL (@LeaP.p x1) (@LeaP.l x1))) : Int)) (@Option.none Int)))) (@List.length LeafD (@insL (@LeaX.x x) (@LeaX.l x)))) ∧
 ((@Eq (@List LeafD) (@HAppend.hAppend (@List LeafD) (@List LeafD) (@List LeafD) _ (@List.take LeafD (@HAdd.hAdd _ _ _ _ (@HAdd.hAdd _ _ _ _ (0 : Nat) (@List.length LeafD (@cutL LeafD (@LeaX.l x) (@Option.none Int) (@Option.some Int (Nat.cast (@Prod.fst Nat Bool (@placeL (@LeaP.p x1) (@LeaP.l x1))) : Int))))) (@List.length LeafD (@List.take LeafD (1 : Nat) (@List.drop LeafD (0 : Nat) (@List.cons LeafD (@LeafD.mk (@LeafD.path (@LeaX.x x)) (@LeafD.digest (@LeaX.x x)) (@LeafD.rev (@LeaX.x x)) (@LeafD.gone (@LeaX.x x))) (@List.nil LeafD)))))) (@List.drop LeafD (0 : Nat) (@HAppend.hAppend (@List LeafD) (@List LeafD) (@List LeafD) _ (@List.take LeafD (@HAdd.hAdd _ _ _ _ (0 : Nat) (@List.length LeafD (@cutL LeafD (@LeaX.l x) (@Option.none Int) (@Option.some Int (Nat.cast (@Prod.fst Nat Bool (@placeL (@LeaP.p x1) (@LeaP.l x1))) : Int))))) (@List.drop LeafD (0 : Nat) (@HAppend.hAppend (@List LeafD) (@List LeafD) (@List LeafD) _ (@List.take LeafD (0 : Nat) (@List.drop LeafD (0 : Nat) (@List.nil LeafD))) (@cutL LeafD (@LeaX.l x) (@Option.none Int) (@Option.some Int (Nat.cast (@Prod.fst Nat Bool (@placeL (@LeaP.p x1) (@LeaP.l x1))) : Int)))))) (@List.take LeafD (1 : Nat) (@List.drop LeafD (0 : Nat) (@List.cons LeafD (@LeafD.mk (@LeafD.path (@LeaX.x x)) (@LeafD.digest (@LeaX.x x)) (@LeafD.rev (@LeaX.x x)) (@LeafD.gone (@LeaX.x x))) (@List.nil LeafD))))))) (@cutL LeafD (@LeaX.l x) (@Option.some Int (Nat.cast (@Prod.fst Nat Bool (@placeL (@LeaP.p x1) (@LeaP.l x1))) : Int)) (@Option.none Int))) (@insL (@LeaX.x x) (@LeaX.l x))) ∧
 True))))
 (Bad "check" "ref.go:34")))
 (Bad "check" "ref.go:34")))
 (Bad "check" "ref.go:30")))
 (Bad "check" "ref.go:29")))
 (Bad "check" "ref.go:29"))))))))) := by kernel_rfl

theorem rget_vc (x : rgetT.γ) : evCall rputE (ev rputE 1000) 33 (rgetT.args x) ⟨rgetT.blks x, rgetT.n0, []⟩ (fun _ _ => False) (rgetT.ends x) = (
(∃ x1 : LeaP,
 ((@Eq (@List LeafD) (@LeaP.l x) (@LeaP.l x1)) ∧
 ((@Eq Bs (@LeaP.p x) (@LeaP.p x1)) ∧
 (((@Eq Bool (@shortLf (@LeaP.l x1)) Bool.true) ∧
 (@Eq Bool (@shortB (@LeaP.p x1)) Bool.true)) ∧
 (∀ x2 : Unit,
 (True →
 (br (@Bool.not (@Prod.snd Nat Bool (@placeL (@LeaP.p x1) (@LeaP.l x1))))
 (∃ x3 : Unit,
 ((@Eq Bs (@Array.toList UInt8 (@ByteArray.data (@ByteArray.mk (@List.toArray UInt8 (@List.nil UInt8))))) (@LeafD.path (@Option.getD LeafD (@getL (@LeaP.p x) (@LeaP.l x)) (@LeafD.mk (@List.nil UInt8) (0 : Int) (0 : Int) Bool.false)))) ∧
 ((@Eq Int (0 : Int) (@LeafD.digest (@Option.getD LeafD (@getL (@LeaP.p x) (@LeaP.l x)) (@LeafD.mk (@List.nil UInt8) (0 : Int) (0 : Int) Bool.false)))) ∧
 ((@Eq Int (0 : Int) (@LeafD.rev (@Option.getD LeafD (@getL (@LeaP.p x) (@LeaP.l x)) (@LeafD.mk (@List.nil UInt8) (0 : Int) (0 : Int) Bool.false)))) ∧
 ((@Eq Bool Bool.false (@LeafD.gone (@Option.getD LeafD (@getL (@LeaP.p x) (@LeaP.l x)) (@LeafD.mk (@List.nil UInt8) (0 : Int) (0 : Int) Bool.false)))) ∧
 ((@Eq Bool Bool.false (@Option.isSome LeafD (@getL (@LeaP.p x) (@LeaP.l x)))) ∧
 True))))))
 (br (@Decidable.decide ((@LE.le Int _ (0 : Int) (Nat.cast (@Prod.fst Nat Bool (@placeL (@LeaP.p x1) (@LeaP.l x1))) : Int)) ∧
 (@LT.lt Int _ (Nat.cast (@Prod.fst Nat Bool (@placeL (@LeaP.p x1) (@LeaP.l x1))) : Int) (Nat.cast (@List.length LeafD (@LeaP.l x)) : Int))) _)
 (∃ x4 : Unit,
 ((@Eq Bs (@LeafD.path (@List.getD LeafD (@LeaP.l x) (@Int.toNat (Nat.cast (@Prod.fst Nat Bool (@placeL (@LeaP.p x1) (@LeaP.l x1))) : Int)) (@LeafD.mk (@List.nil UInt8) (0 : Int) (0 : Int) Bool.false))) (@LeafD.path (@Option.getD LeafD (@getL (@LeaP.p x) (@LeaP.l x)) (@LeafD.mk (@List.nil UInt8) (0 : Int) (0 : Int) Bool.false)))) ∧
 ((@Eq Int (@LeafD.digest (@List.getD LeafD (@LeaP.l x) (@Int.toNat (Nat.cast (@Prod.fst Nat Bool (@placeL (@LeaP.p x1) (@LeaP.l x1))) : Int)) (@LeafD.mk (@List.nil UInt8) (0 : Int) (0 : Int) Bool.false))) (@LeafD.digest (@Option.getD LeafD (@getL (@LeaP.p x) (@LeaP.l x)) (@LeafD.mk (@List.nil UInt8) (0 : Int) (0 : Int) Bool.false)))) ∧
 ((@Eq Int (@LeafD.rev (@List.getD LeafD (@LeaP.l x) (@Int.toNat (Nat.cast (@Prod.fst Nat Bool (@placeL (@LeaP.p x1) (@LeaP.l x1))) : Int)) (@LeafD.mk (@List.nil UInt8) (0 : Int) (0 : Int) Bool.false))) (@LeafD.rev (@Option.getD LeafD (@getL (@LeaP.p x) (@LeaP.l x)) (@LeafD.mk (@List.nil UInt8) (0 : Int) (0 : Int) Bool.false)))) ∧
 ((@Eq Bool (@LeafD.gone (@List.getD LeafD (@LeaP.l x) (@Int.toNat (Nat.cast (@Prod.fst Nat Bool (@placeL (@LeaP.p x1) (@LeaP.l x1))) : Int)) (@LeafD.mk (@List.nil UInt8) (0 : Int) (0 : Int) Bool.false))) (@LeafD.gone (@Option.getD LeafD (@getL (@LeaP.p x) (@LeaP.l x)) (@LeafD.mk (@List.nil UInt8) (0 : Int) (0 : Int) Bool.false)))) ∧
 ((@Eq Bool Bool.true (@Option.isSome LeafD (@getL (@LeaP.p x) (@LeaP.l x)))) ∧
 True))))))
 (Bad "check" "ref.go:43")))))))))) := by kernel_rfl

theorem rrange_vc (x : rrangeT.γ) : evCall rrangeE (ev rrangeE 1000) 34 (rrangeT.args x) ⟨rrangeT.blks x, rrangeT.n0, []⟩ (fun _ _ => False) (rrangeT.ends x) = (
((∃ x1 : Nat,
 ((@Eq Int (0 : Int) (Nat.cast x1 : Int)) ∧
 ((@Eq Nat (0 : Nat) (@List.length LeafD (@List.filter LeafD (fun x2 : LeafD => (@inR (@LeaR.a x) (@LeaR.b x) (@LeafD.path x2))) (@List.take LeafD x1 (@LeaR.l x))))) ∧
 ((@Eq (@List LeafD) (@List.nil LeafD) (@List.filter LeafD (fun x3 : LeafD => (@inR (@LeaR.a x) (@LeaR.b x) (@LeafD.path x3))) (@List.take LeafD x1 (@LeaR.l x)))) ∧
 (@Nat.le x1 (@List.length LeafD (@LeaR.l x))))))) ∧
 (∀ x4 : Nat,
 ((@Nat.le x4 (@List.length LeafD (@LeaR.l x))) →
 ((@LE.le Nat _ (@HMul.hMul _ _ _ _ (@List.length LeafD (@LeaR.l x)) (40 : Nat)) room47) →
 (br (@Decidable.decide (@LT.lt Int _ (Nat.cast x4 : Int) (Nat.cast (@List.length LeafD (@LeaR.l x)) : Int)) _)
 (br (@Decidable.decide ((@LE.le Int _ (0 : Int) (Nat.cast x4 : Int)) ∧
 (@LT.lt Int _ (Nat.cast x4 : Int) (Nat.cast (@List.length LeafD (@LeaR.l x)) : Int))) _)
 (∃ x5 : TwoA,
 ((@Eq Bs (@LeafD.path (@List.getD LeafD (@LeaR.l x) (@Int.toNat (Nat.cast x4 : Int)) (@LeafD.mk (@List.nil UInt8) (0 : Int) (0 : Int) Bool.false))) (@TwoA.a x5)) ∧
 ((@Eq Bs (@LeaR.a x) (@TwoA.b x5)) ∧
 (((@Eq Bool (@shortB (@TwoA.a x5)) Bool.true) ∧
 (@Eq Bool (@shortB (@TwoA.b x5)) Bool.true)) ∧
 (∀ x6 : Unit,
 (True →
 (br (@Decidable.decide (@GE.ge Int _ (@cmpL (@splitB (@TwoA.a x5)) (@splitB (@TwoA.b x5))) (0 : Int)) _)
 (br (@BEq.beq Bs _ (@LeaR.b x) (@Array.toList UInt8 (@ByteArray.data (@ByteArray.mk (@List.toArray UInt8 (@List.nil UInt8))))))
 (br (@Decidable.decide ((@LE.le Int _ (0 : Int) (Nat.cast x4 : Int)) ∧
 (@LT.lt Int _ (Nat.cast x4 : Int) (Nat.cast (@List.length LeafD (@LeaR.l x)) : Int))) _)
 (((@Nat.le (@HMul.hMul _ _ _ _ (@List.length LeafD (@List.filter LeafD (fun x7 : LeafD => (@inR (@LeaR.a x) (@LeaR.b x) (@LeafD.path x7))) (@List.take LeafD x4 (@LeaR.l x)))) (40 : Nat)) room47) ∧
 (@Nat.le (@HMul.hMul _ _ _ _ (1 : Nat) (40 : Nat)) room47)) →
 (br (@Bool.and (@Bool.and (@Decidable.decide (@LE.le Nat _ (@HAdd.hAdd _ _ _ _ (0 : Nat) (1 : Nat)) (@List.length LeafD (@List.cons LeafD (@LeafD.mk (@LeafD.path (@List.getD LeafD (@LeaR.l x) (@Int.toNat (Nat.cast x4 : Int)) (@LeafD.mk (@List.nil UInt8) (0 : Int) (0 : Int) Bool.false))) (@LeafD.digest (@List.getD LeafD (@LeaR.l x) (@Int.toNat (Nat.cast x4 : Int)) (@LeafD.mk (@List.nil UInt8) (0 : Int) (0 : Int) Bool.false))) (@LeafD.rev (@List.getD LeafD (@LeaR.l x) (@Int.toNat (Nat.cast x4 : Int)) (@LeafD.mk (@List.nil UInt8) (0 : Int) (0 : Int) Bool.false))) (@LeafD.gone (@List.getD LeafD (@LeaR.l x) (@Int.toNat (Nat.cast x4 : Int)) (@LeafD.mk (@List.nil UInt8) (0 : Int) (0 : Int) Bool.false)))) (@List.nil LeafD)))) _) (@Decidable.decide (@LE.le Nat _ (@HAdd.hAdd _ _ _ _ (0 : Nat) (@List.length LeafD (@List.filter LeafD (fun x8 : LeafD => (@inR (@LeaR.a x) (@LeaR.b x) (@LeafD.path x8))) (@List.take LeafD x4 (@LeaR.l x))))) (@List.length LeafD (@List.filter LeafD (fun x9 : LeafD => (@inR (@LeaR.a x) (@LeaR.b x) (@LeafD.path x9))) (@List.take LeafD x4 (@LeaR.l x))))) _)) (@Decidable.decide (@LE.le Nat _ (@HMul.hMul _ _ _ _ (@HAdd.hAdd _ _ _ _ (@List.length LeafD (@List.filter LeafD (fun x10 : LeafD => (@inR (@LeaR.a x) (@LeaR.b x) (@LeafD.path x10))) (@List.take LeafD x4 (@LeaR.l x)))) (@List.length LeafD (@List.take LeafD (1 : Nat) (@List.drop LeafD (0 : Nat) (@List.cons LeafD (@LeafD.mk (@LeafD.path (@List.getD LeafD (@LeaR.l x) (@Int.toNat (Nat.cast x4 : Int)) (@LeafD.mk (@List.nil UInt8) (0 : Int) (0 : Int) Bool.false))) (@LeafD.digest (@List.getD LeafD (@LeaR.l x) (@Int.toNat (Nat.cast x4 : Int)) (@LeafD.mk (@List.nil UInt8) (0 : Int) (0 : Int) Bool.false))) (@LeafD.rev (@List.getD LeafD (@LeaR.l x) (@Int.toNat (Nat.cast x4 : Int)) (@LeafD.mk (@List.nil UInt8) (0 : Int) (0 : Int) Bool.false))) (@LeafD.gone (@List.getD LeafD (@LeaR.l x) (@Int.toNat (Nat.cast x4 : Int)) (@LeafD.mk (@List.nil UInt8) (0 : Int) (0 : Int) Bool.false)))) (@List.nil LeafD)))))) (40 : Nat)) room47) _))
 (∃ x11 : Nat,
 ((@Eq Int (@Go.IntKind.wrap Go.IntKind.i64 (@HAdd.hAdd Int Int Int _ (Nat.cast x4 : Int) (1 : Int))) (Nat.cast x11 : Int)) ∧
 ((@Eq Nat (0 : Nat) (0 : Nat)) ∧
 ((@Eq Nat (@HAdd.hAdd _ _ _ _ (@List.length LeafD (@List.filter LeafD (fun x12 : LeafD => (@inR (@LeaR.a x) (@LeaR.b x) (@LeafD.path x12))) (@List.take LeafD x4 (@LeaR.l x)))) (@List.length LeafD (@List.take LeafD (1 : Nat) (@List.drop LeafD (0 : Nat) (@List.cons LeafD (@LeafD.mk (@LeafD.path (@List.getD LeafD (@LeaR.l x) (@Int.toNat (Nat.cast x4 : Int)) (@LeafD.mk (@List.nil UInt8) (0 : Int) (0 : Int) Bool.false))) (@LeafD.digest (@List.getD LeafD (@LeaR.l x) (@Int.toNat (Nat.cast x4 : Int)) (@LeafD.mk (@List.nil UInt8) (0 : Int) (0 : Int) Bool.false))) (@LeafD.rev (@List.getD LeafD (@LeaR.l x) (@Int.toNat (Nat.cast x4 : Int)) (@LeafD.mk (@List.nil UInt8) (0 : Int) (0 : Int) Bool.false))) (@LeafD.gone (@List.getD LeafD (@LeaR.l x) (@Int.toNat (Nat.cast x4 : Int)) (@LeafD.mk (@List.nil UInt8) (0 : Int) (0 : Int) Bool.false)))) (@List.nil LeafD)))))) (@List.length LeafD (@List.filter LeafD (fun x13 : LeafD => (@inR (@LeaR.a x) (@LeaR.b x) (@LeafD.path x13))) (@List.take LeafD x11 (@LeaR.l x))))) ∧
 ((@Eq (@List LeafD) (@HAppend.hAppend (@List LeafD) (@List LeafD) (@List LeafD) _ (@List.take LeafD (@List.length LeafD (@List.filter LeafD (fun x14 : LeafD => (@inR (@LeaR.a x) (@LeaR.b x) (@LeafD.path x14))) (@List.take LeafD x4 (@LeaR.l x)))) (@List.drop LeafD (0 : Nat) (@List.filter LeafD (fun x15 : LeafD => (@inR (@LeaR.a x) (@LeaR.b x) (@LeafD.path x15))) (@List.take LeafD x4 (@LeaR.l x))))) (@List.take LeafD (1 : Nat) (@List.drop LeafD (0 : Nat) (@List.cons LeafD (@LeafD.mk (@LeafD.path (@List.getD LeafD (@LeaR.l x) (@Int.toNat (Nat.cast x4 : Int)) (@LeafD.mk (@List.nil UInt8) (0 : Int) (0 : Int) Bool.false))) (@LeafD.digest (@List.getD LeafD (@LeaR.l x) (@Int.toNat (Nat.cast x4 : Int)) (@LeafD.mk (@List.nil UInt8) (0 : Int) (0 : Int) Bool.false))) (@LeafD.rev (@List.getD LeafD (@LeaR.l x) (@Int.toNat (Nat.cast x4 : Int)) (@LeafD.mk (@List.nil UInt8) (0 : Int) (0 : Int) Bool.false))) (@LeafD.gone (@List.getD LeafD (@LeaR.l x) (@Int.toNat (Nat.cast x4 : Int)) (@LeafD.mk (@List.nil UInt8) (0 : Int) (0 : Int) Bool.false)))) (@List.nil LeafD))))) (@List.filter LeafD (fun x16 : LeafD => (@inR (@LeaR.a x) (@LeaR.b x) (@LeafD.path x16))) (@List.take LeafD x11 (@LeaR.l x)))) ∧
 ((@Nat.le x11 (@List.length LeafD (@LeaR.l x))) ∧
 (@LT.lt Nat _ (@Nat.sub (@List.length LeafD (@LeaR.l x)) x11) (@Nat.sub (@List.length LeafD (@LeaR.l x)) x4))))))))
 (Bad "check" "ref.go:51")))
 (Bad "check" "ref.go:51"))
 (br (@Decidable.decide ((@LE.le Int _ (0 : Int) (Nat.cast x4 : Int)) ∧
 (@LT.lt Int _ (Nat.cast x4 : Int) (Nat.cast (@List.length LeafD (@LeaR.l x)) : Int))) _)
 (∃ x17 : TwoA,
 ((@Eq Bs (@LeafD.path (@List.getD LeafD (@LeaR.l x) (@Int.toNat (Nat.cast x4 : Int)) (@LeafD.mk (@List.nil UInt8) (0 : Int) (0 : Int) Bool.false))) (@TwoA.a x17)) ∧
 ((@Eq Bs (@LeaR.b x) (@TwoA.b x17)) ∧
 (((@Eq Bool (@shortB (@TwoA.a x17)) Bool.true) ∧
 (@Eq Bool (@shortB (@TwoA.b x17)) Bool.true)) ∧
 (∀ x18 : Unit,
 (True →
 (br (@Decidable.decide (@LT.lt Int _ (@cmpL (@splitB (@TwoA.a x17)) (@splitB (@TwoA.b x17))) (0 : Int)) _)
 (br (@Decidable.decide ((@LE.le Int _ (0 : Int) (Nat.cast x4 : Int)) ∧
 (@LT.lt Int _ (Nat.cast x4 : Int) (Nat.cast (@List.length LeafD (@LeaR.l x)) : Int))) _)
 (((@Nat.le (@HMul.hMul _ _ _ _ (@List.length LeafD (@List.filter LeafD (fun x19 : LeafD => (@inR (@LeaR.a x) (@LeaR.b x) (@LeafD.path x19))) (@List.take LeafD x4 (@LeaR.l x)))) (40 : Nat)) room47) ∧
 (@Nat.le (@HMul.hMul _ _ _ _ (1 : Nat) (40 : Nat)) room47)) →
 (br (@Bool.and (@Bool.and (@Decidable.decide (@LE.le Nat _ (@HAdd.hAdd _ _ _ _ (0 : Nat) (1 : Nat)) (@List.length LeafD (@List.cons LeafD (@LeafD.mk (@LeafD.path (@List.getD LeafD (@LeaR.l x) (@Int.toNat (Nat.cast x4 : Int)) (@LeafD.mk (@List.nil UInt8) (0 : Int) (0 : Int) Bool.false))) (@LeafD.digest (@List.getD LeafD (@LeaR.l x) (@Int.toNat (Nat.cast x4 : Int)) (@LeafD.mk (@List.nil UInt8) (0 : Int) (0 : Int) Bool.false))) (@LeafD.rev (@List.getD LeafD (@LeaR.l x) (@Int.toNat (Nat.cast x4 : Int)) (@LeafD.mk (@List.nil UInt8) (0 : Int) (0 : Int) Bool.false))) (@LeafD.gone (@List.getD LeafD (@LeaR.l x) (@Int.toNat (Nat.cast x4 : Int)) (@LeafD.mk (@List.nil UInt8) (0 : Int) (0 : Int) Bool.false)))) (@List.nil LeafD)))) _) (@Decidable.decide (@LE.le Nat _ (@HAdd.hAdd _ _ _ _ (0 : Nat) (@List.length LeafD (@List.filter LeafD (fun x20 : LeafD => (@inR (@LeaR.a x) (@LeaR.b x) (@LeafD.path x20))) (@List.take LeafD x4 (@LeaR.l x))))) (@List.length LeafD (@List.filter LeafD (fun x21 : LeafD => (@inR (@LeaR.a x) (@LeaR.b x) (@LeafD.path x21))) (@List.take LeafD x4 (@LeaR.l x))))) _)) (@Decidable.decide (@LE.le Nat _ (@HMul.hMul _ _ _ _ (@HAdd.hAdd _ _ _ _ (@List.length LeafD (@List.filter LeafD (fun x22 : LeafD => (@inR (@LeaR.a x) (@LeaR.b x) (@LeafD.path x22))) (@List.take LeafD x4 (@LeaR.l x)))) (@List.length LeafD (@List.take LeafD (1 : Nat) (@List.drop LeafD (0 : Nat) (@List.cons LeafD (@LeafD.mk (@LeafD.path (@List.getD LeafD (@LeaR.l x) (@Int.toNat (Nat.cast x4 : Int)) (@LeafD.mk (@List.nil UInt8) (0 : Int) (0 : Int) Bool.false))) (@LeafD.digest (@List.getD LeafD (@LeaR.l x) (@Int.toNat (Nat.cast x4 : Int)) (@LeafD.mk (@List.nil UInt8) (0 : Int) (0 : Int) Bool.false))) (@LeafD.rev (@List.getD LeafD (@LeaR.l x) (@Int.toNat (Nat.cast x4 : Int)) (@LeafD.mk (@List.nil UInt8) (0 : Int) (0 : Int) Bool.false))) (@LeafD.gone (@List.getD LeafD (@LeaR.l x) (@Int.toNat (Nat.cast x4 : Int)) (@LeafD.mk (@List.nil UInt8) (0 : Int) (0 : Int) Bool.false)))) (@List.nil LeafD)))))) (40 : Nat)) room47) _))
 (∃ x23 : Nat,
 ((@Eq Int (@Go.IntKind.wrap Go.IntKind.i64 (@HAdd.hAdd Int Int Int _ (Nat.cast x4 : Int) (1 : Int))) (Nat.cast x23 : Int)) ∧
 ((@Eq Nat (0 : Nat) (0 : Nat)) ∧
 ((@Eq Nat (@HAdd.hAdd _ _ _ _ (@List.length LeafD (@List.filter LeafD (fun x24 : LeafD => (@inR (@LeaR.a x) (@LeaR.b x) (@LeafD.path x24))) (@List.take LeafD x4 (@LeaR.l x)))) (@List.length LeafD (@List.take LeafD (1 : Nat) (@List.drop LeafD (0 : Nat) (@List.cons LeafD (@LeafD.mk (@LeafD.path (@List.getD LeafD (@LeaR.l x) (@Int.toNat (Nat.cast x4 : Int)) (@LeafD.mk (@List.nil UInt8) (0 : Int) (0 : Int) Bool.false))) (@LeafD.digest (@List.getD LeafD (@LeaR.l x) (@Int.toNat (Nat.cast x4 : Int)) (@LeafD.mk (@List.nil UInt8) (0 : Int) (0 : Int) Bool.false))) (@LeafD.rev (@List.getD LeafD (@LeaR.l x) (@Int.toNat (Nat.cast x4 : Int)) (@LeafD.mk (@List.nil UInt8) (0 : Int) (0 : Int) Bool.false))) (@LeafD.gone (@List.getD LeafD (@LeaR.l x) (@Int.toNat (Nat.cast x4 : Int)) (@LeafD.mk (@List.nil UInt8) (0 : Int) (0 : Int) Bool.false)))) (@List.nil LeafD)))))) (@List.length LeafD (@List.filter LeafD (fun x25 : LeafD => (@inR (@LeaR.a x) (@LeaR.b x) (@LeafD.path x25))) (@List.take LeafD x23 (@LeaR.l x))))) ∧
 ((@Eq (@List LeafD) (@HAppend.hAppend (@List LeafD) (@List LeafD) (@List LeafD) _ (@List.take LeafD (@List.length LeafD (@List.filter LeafD (fun x26 : LeafD => (@inR (@LeaR.a x) (@LeaR.b x) (@LeafD.path x26))) (@List.take LeafD x4 (@LeaR.l x)))) (@List.drop LeafD (0 : Nat) (@List.filter LeafD (fun x27 : LeafD => (@inR (@LeaR.a x) (@LeaR.b x) (@LeafD.path x27))) (@List.take LeafD x4 (@LeaR.l x))))) (@List.take LeafD (1 : Nat) (@List.drop LeafD (0 : Nat) (@List.cons LeafD (@LeafD.mk (@LeafD.path (@List.getD LeafD (@LeaR.l x) (@Int.toNat (Nat.cast x4 : Int)) (@LeafD.mk (@List.nil UInt8) (0 : Int) (0 : Int) Bool.false))) (@LeafD.digest (@List.getD LeafD (@LeaR.l x) (@Int.toNat (Nat.cast x4 : Int)) (@LeafD.mk (@List.nil UInt8) (0 : Int) (0 : Int) Bool.false))) (@LeafD.rev (@List.getD LeafD (@LeaR.l x) (@Int.toNat (Nat.cast x4 : Int)) (@LeafD.mk (@List.nil UInt8) (0 : Int) (0 : Int) Bool.false))) (@LeafD.gone (@List.getD LeafD (@LeaR.l x) (@Int.toNat (Nat.cast x4 : Int)) (@LeafD.mk (@List.nil UInt8) (0 : Int) (0 : Int) Bool.false)))) (@List.nil LeafD))))) (@List.filter LeafD (fun x28 : LeafD => (@inR (@LeaR.a x) (@LeaR.b x) (@LeafD.path x28))) (@List.take LeafD x23 (@LeaR.l x)))) ∧
 ((@Nat.le x23 (@List.length LeafD (@LeaR.l x))) ∧
 (@LT.lt Nat _ (@Nat.sub (@List.length LeafD (@LeaR.l x)) x23) (@Nat.sub (@List.length LeafD (@LeaR.l x)) x4))))))))
 (Bad "check" "ref.go:51")))
 (Bad "check" "ref.go:51"))
 (∃ x29 : Nat,
 ((@Eq Int (@Go.IntKind.wrap Go.IntKind.i64 (@HAdd.hAdd Int Int Int _ (Nat.cast x4 : Int) (1 : Int))) (Nat.cast x29 : Int)) ∧
 ((@Eq Nat (0 : Nat) (0 : Nat)) ∧
 ((@Eq Nat (@List.length LeafD (@List.filter LeafD (fun x30 : LeafD => (@inR (@LeaR.a x) (@LeaR.b x) (@LeafD.path x30))) (@List.take LeafD x4 (@LeaR.l x)))) (@List.length LeafD (@List.filter LeafD (fun x31 : LeafD => (@inR (@LeaR.a x) (@LeaR.b x) (@LeafD.path x31))) (@List.take LeafD x29 (@LeaR.l x))))) ∧
 ((@Eq (@List LeafD) (@List.filter LeafD (fun x32 : LeafD => (@inR (@LeaR.a x) (@LeaR.b x) (@LeafD.path x32))) (@List.take LeafD x4 (@LeaR.l x))) (@List.filter LeafD (fun x33 : LeafD => (@inR (@LeaR.a x) (@LeaR.b x) (@LeafD.path x33))) (@List.take LeafD x29 (@LeaR.l x)))) ∧
 ((@Nat.le x29 (@List.length LeafD (@LeaR.l x))) ∧
 (@LT.lt Nat _ (@Nat.sub (@List.length LeafD (@LeaR.l x)) x29) (@Nat.sub (@List.length LeafD (@LeaR.l x)) x4)))))))))))))))
 (Bad "check" "ref.go:50")))
 (∃ x34 : Nat,
 ((@Eq Int (@Go.IntKind.wrap Go.IntKind.i64 (@HAdd.hAdd Int Int Int _ (Nat.cast x4 : Int) (1 : Int))) (Nat.cast x34 : Int)) ∧
 ((@Eq Nat (0 : Nat) (0 : Nat)) ∧
 ((@Eq Nat (@List.length LeafD (@List.filter LeafD (fun x35 : LeafD => (@inR (@LeaR.a x) (@LeaR.b x) (@LeafD.path x35))) (@List.take LeafD x4 (@LeaR.l x)))) (@List.length LeafD (@List.filter LeafD (fun x36 : LeafD => (@inR (@LeaR.a x) (@LeaR.b x) (@LeafD.path x36))) (@List.take LeafD x34 (@LeaR.l x))))) ∧
 ((@Eq (@List LeafD) (@List.filter LeafD (fun x37 : LeafD => (@inR (@LeaR.a x) (@LeaR.b x) (@LeafD.path x37))) (@List.take LeafD x4 (@LeaR.l x))) (@List.filter LeafD (fun x38 : LeafD => (@inR (@LeaR.a x) (@LeaR.b x) (@LeafD.path x38))) (@List.take LeafD x34 (@LeaR.l x)))) ∧
 ((@Nat.le x34 (@List.length LeafD (@LeaR.l x))) ∧
 (@LT.lt Nat _ (@Nat.sub (@List.length LeafD (@LeaR.l x)) x34) (@Nat.sub (@List.length LeafD (@LeaR.l x)) x4)))))))))))))))
 (Bad "check" "ref.go:50"))
 (∃ x39 : Unit,
 ((@Eq Nat (0 : Nat) (0 : Nat)) ∧
 ((@Eq Nat (@List.length LeafD (@List.filter LeafD (fun x40 : LeafD => (@inR (@LeaR.a x) (@LeaR.b x) (@LeafD.path x40))) (@List.take LeafD x4 (@LeaR.l x)))) (@List.length LeafD (@List.filter LeafD (fun x41 : LeafD => (@inR (@LeaR.a x) (@LeaR.b x) (@LeafD.path x41))) (@LeaR.l x)))) ∧
 ((@Eq (@List LeafD) (@List.filter LeafD (fun x42 : LeafD => (@inR (@LeaR.a x) (@LeaR.b x) (@LeafD.path x42))) (@List.take LeafD x4 (@LeaR.l x))) (@List.filter LeafD (fun x43 : LeafD => (@inR (@LeaR.a x) (@LeaR.b x) (@LeafD.path x43))) (@LeaR.l x))) ∧
 True)))))))))) := by kernel_rfl

theorem runder_vc (x : runderT.γ) : evCall runderE (ev runderE 1000) 35 (runderT.args x) ⟨runderT.blks x, runderT.n0, []⟩ (fun _ _ => False) (runderT.ends x) = (
((∃ x1 : Nat,
 ((@Eq Int (0 : Int) (Nat.cast x1 : Int)) ∧
 ((@Eq Nat (0 : Nat) (@List.length LeafD (@List.filter LeafD (fun x2 : LeafD => (@withinB (@LeaP.p x) (@LeafD.path x2))) (@List.take LeafD x1 (@LeaP.l x))))) ∧
 ((@Eq (@List LeafD) (@List.nil LeafD) (@List.filter LeafD (fun x3 : LeafD => (@withinB (@LeaP.p x) (@LeafD.path x3))) (@List.take LeafD x1 (@LeaP.l x)))) ∧
 (@Nat.le x1 (@List.length LeafD (@LeaP.l x))))))) ∧
 (∀ x4 : Nat,
 ((@Nat.le x4 (@List.length LeafD (@LeaP.l x))) →
 ((@LE.le Nat _ (@HMul.hMul _ _ _ _ (@List.length LeafD (@LeaP.l x)) (40 : Nat)) room47) →
 (br (@Decidable.decide (@LT.lt Int _ (Nat.cast x4 : Int) (Nat.cast (@List.length LeafD (@LeaP.l x)) : Int)) _)
 (br (@Decidable.decide ((@LE.le Int _ (0 : Int) (Nat.cast x4 : Int)) ∧
 (@LT.lt Int _ (Nat.cast x4 : Int) (Nat.cast (@List.length LeafD (@LeaP.l x)) : Int))) _)
 (∃ x5 : TwoA,
 ((@Eq Bs (@LeaP.p x) (@TwoA.a x5)) ∧
 ((@Eq Bs (@LeafD.path (@List.getD LeafD (@LeaP.l x) (@Int.toNat (Nat.cast x4 : Int)) (@LeafD.mk (@List.nil UInt8) (0 : Int) (0 : Int) Bool.false))) (@TwoA.b x5)) ∧
 (True ∧
 (∀ x6 : Unit,
 (True →
 (br (@withinB (@TwoA.a x5) (@TwoA.b x5))
 (br (@Decidable.decide ((@LE.le Int _ (0 : Int) (Nat.cast x4 : Int)) ∧
 (@LT.lt Int _ (Nat.cast x4 : Int) (Nat.cast (@List.length LeafD (@LeaP.l x)) : Int))) _)
 (((@Nat.le (@HMul.hMul _ _ _ _ (@List.length LeafD (@List.filter LeafD (fun x7 : LeafD => (@withinB (@LeaP.p x) (@LeafD.path x7))) (@List.take LeafD x4 (@LeaP.l x)))) (40 : Nat)) room47) ∧
 (@Nat.le (@HMul.hMul _ _ _ _ (1 : Nat) (40 : Nat)) room47)) →
 (br (@Bool.and (@Bool.and (@Decidable.decide (@LE.le Nat _ (@HAdd.hAdd _ _ _ _ (0 : Nat) (1 : Nat)) (@List.length LeafD (@List.cons LeafD (@LeafD.mk (@LeafD.path (@List.getD LeafD (@LeaP.l x) (@Int.toNat (Nat.cast x4 : Int)) (@LeafD.mk (@List.nil UInt8) (0 : Int) (0 : Int) Bool.false))) (@LeafD.digest (@List.getD LeafD (@LeaP.l x) (@Int.toNat (Nat.cast x4 : Int)) (@LeafD.mk (@List.nil UInt8) (0 : Int) (0 : Int) Bool.false))) (@LeafD.rev (@List.getD LeafD (@LeaP.l x) (@Int.toNat (Nat.cast x4 : Int)) (@LeafD.mk (@List.nil UInt8) (0 : Int) (0 : Int) Bool.false))) (@LeafD.gone (@List.getD LeafD (@LeaP.l x) (@Int.toNat (Nat.cast x4 : Int)) (@LeafD.mk (@List.nil UInt8) (0 : Int) (0 : Int) Bool.false)))) (@List.nil LeafD)))) _) (@Decidable.decide (@LE.le Nat _ (@HAdd.hAdd _ _ _ _ (0 : Nat) (@List.length LeafD (@List.filter LeafD (fun x8 : LeafD => (@withinB (@LeaP.p x) (@LeafD.path x8))) (@List.take LeafD x4 (@LeaP.l x))))) (@List.length LeafD (@List.filter LeafD (fun x9 : LeafD => (@withinB (@LeaP.p x) (@LeafD.path x9))) (@List.take LeafD x4 (@LeaP.l x))))) _)) (@Decidable.decide (@LE.le Nat _ (@HMul.hMul _ _ _ _ (@HAdd.hAdd _ _ _ _ (@List.length LeafD (@List.filter LeafD (fun x10 : LeafD => (@withinB (@LeaP.p x) (@LeafD.path x10))) (@List.take LeafD x4 (@LeaP.l x)))) (@List.length LeafD (@List.take LeafD (1 : Nat) (@List.drop LeafD (0 : Nat) (@List.cons LeafD (@LeafD.mk (@LeafD.path (@List.getD LeafD (@LeaP.l x) (@Int.toNat (Nat.cast x4 : Int)) (@LeafD.mk (@List.nil UInt8) (0 : Int) (0 : Int) Bool.false))) (@LeafD.digest (@List.getD LeafD (@LeaP.l x) (@Int.toNat (Nat.cast x4 : Int)) (@LeafD.mk (@List.nil UInt8) (0 : Int) (0 : Int) Bool.false))) (@LeafD.rev (@List.getD LeafD (@LeaP.l x) (@Int.toNat (Nat.cast x4 : Int)) (@LeafD.mk (@List.nil UInt8) (0 : Int) (0 : Int) Bool.false))) (@LeafD.gone (@List.getD LeafD (@LeaP.l x) (@Int.toNat (Nat.cast x4 : Int)) (@LeafD.mk (@List.nil UInt8) (0 : Int) (0 : Int) Bool.false)))) (@List.nil LeafD)))))) (40 : Nat)) room47) _))
 (∃ x11 : Nat,
 ((@Eq Int (@Go.IntKind.wrap Go.IntKind.i64 (@HAdd.hAdd Int Int Int _ (Nat.cast x4 : Int) (1 : Int))) (Nat.cast x11 : Int)) ∧
 ((@Eq Nat (0 : Nat) (0 : Nat)) ∧
 ((@Eq Nat (@HAdd.hAdd _ _ _ _ (@List.length LeafD (@List.filter LeafD (fun x12 : LeafD => (@withinB (@LeaP.p x) (@LeafD.path x12))) (@List.take LeafD x4 (@LeaP.l x)))) (@List.length LeafD (@List.take LeafD (1 : Nat) (@List.drop LeafD (0 : Nat) (@List.cons LeafD (@LeafD.mk (@LeafD.path (@List.getD LeafD (@LeaP.l x) (@Int.toNat (Nat.cast x4 : Int)) (@LeafD.mk (@List.nil UInt8) (0 : Int) (0 : Int) Bool.false))) (@LeafD.digest (@List.getD LeafD (@LeaP.l x) (@Int.toNat (Nat.cast x4 : Int)) (@LeafD.mk (@List.nil UInt8) (0 : Int) (0 : Int) Bool.false))) (@LeafD.rev (@List.getD LeafD (@LeaP.l x) (@Int.toNat (Nat.cast x4 : Int)) (@LeafD.mk (@List.nil UInt8) (0 : Int) (0 : Int) Bool.false))) (@LeafD.gone (@List.getD LeafD (@LeaP.l x) (@Int.toNat (Nat.cast x4 : Int)) (@LeafD.mk (@List.nil UInt8) (0 : Int) (0 : Int) Bool.false)))) (@List.nil LeafD)))))) (@List.length LeafD (@List.filter LeafD (fun x13 : LeafD => (@withinB (@LeaP.p x) (@LeafD.path x13))) (@List.take LeafD x11 (@LeaP.l x))))) ∧
 ((@Eq (@List LeafD) (@HAppend.hAppend (@List LeafD) (@List LeafD) (@List LeafD) _ (@List.take LeafD (@List.length LeafD (@List.filter LeafD (fun x14 : LeafD => (@withinB (@LeaP.p x) (@LeafD.path x14))) (@List.take LeafD x4 (@LeaP.l x)))) (@List.drop LeafD (0 : Nat) (@List.filter LeafD (fun x15 : LeafD => (@withinB (@LeaP.p x) (@LeafD.path x15))) (@List.take LeafD x4 (@LeaP.l x))))) (@List.take LeafD (1 : Nat) (@List.drop LeafD (0 : Nat) (@List.cons LeafD (@LeafD.mk (@LeafD.path (@List.getD LeafD (@LeaP.l x) (@Int.toNat (Nat.cast x4 : Int)) (@LeafD.mk (@List.nil UInt8) (0 : Int) (0 : Int) Bool.false))) (@LeafD.digest (@List.getD LeafD (@LeaP.l x) (@Int.toNat (Nat.cast x4 : Int)) (@LeafD.mk (@List.nil UInt8) (0 : Int) (0 : Int) Bool.false))) (@LeafD.rev (@List.getD LeafD (@LeaP.l x) (@Int.toNat (Nat.cast x4 : Int)) (@LeafD.mk (@List.nil UInt8) (0 : Int) (0 : Int) Bool.false))) (@LeafD.gone (@List.getD LeafD (@LeaP.l x) (@Int.toNat (Nat.cast x4 : Int)) (@LeafD.mk (@List.nil UInt8) (0 : Int) (0 : Int) Bool.false)))) (@List.nil LeafD))))) (@List.filter LeafD (fun x16 : LeafD => (@withinB (@LeaP.p x) (@LeafD.path x16))) (@List.take LeafD x11 (@LeaP.l x)))) ∧
 ((@Nat.le x11 (@List.length LeafD (@LeaP.l x))) ∧
 (@LT.lt Nat _ (@Nat.sub (@List.length LeafD (@LeaP.l x)) x11) (@Nat.sub (@List.length LeafD (@LeaP.l x)) x4))))))))
 (Bad "check" "ref.go:62")))
 (Bad "check" "ref.go:62"))
 (∃ x17 : Nat,
 ((@Eq Int (@Go.IntKind.wrap Go.IntKind.i64 (@HAdd.hAdd Int Int Int _ (Nat.cast x4 : Int) (1 : Int))) (Nat.cast x17 : Int)) ∧
 ((@Eq Nat (0 : Nat) (0 : Nat)) ∧
 ((@Eq Nat (@List.length LeafD (@List.filter LeafD (fun x18 : LeafD => (@withinB (@LeaP.p x) (@LeafD.path x18))) (@List.take LeafD x4 (@LeaP.l x)))) (@List.length LeafD (@List.filter LeafD (fun x19 : LeafD => (@withinB (@LeaP.p x) (@LeafD.path x19))) (@List.take LeafD x17 (@LeaP.l x))))) ∧
 ((@Eq (@List LeafD) (@List.filter LeafD (fun x20 : LeafD => (@withinB (@LeaP.p x) (@LeafD.path x20))) (@List.take LeafD x4 (@LeaP.l x))) (@List.filter LeafD (fun x21 : LeafD => (@withinB (@LeaP.p x) (@LeafD.path x21))) (@List.take LeafD x17 (@LeaP.l x)))) ∧
 ((@Nat.le x17 (@List.length LeafD (@LeaP.l x))) ∧
 (@LT.lt Nat _ (@Nat.sub (@List.length LeafD (@LeaP.l x)) x17) (@Nat.sub (@List.length LeafD (@LeaP.l x)) x4)))))))))))))))
 (Bad "check" "ref.go:61"))
 (∃ x22 : Unit,
 ((@Eq Nat (0 : Nat) (0 : Nat)) ∧
 ((@Eq Nat (@List.length LeafD (@List.filter LeafD (fun x23 : LeafD => (@withinB (@LeaP.p x) (@LeafD.path x23))) (@List.take LeafD x4 (@LeaP.l x)))) (@List.length LeafD (@List.filter LeafD (fun x24 : LeafD => (@withinB (@LeaP.p x) (@LeafD.path x24))) (@LeaP.l x)))) ∧
 ((@Eq (@List LeafD) (@List.filter LeafD (fun x25 : LeafD => (@withinB (@LeaP.p x) (@LeafD.path x25))) (@List.take LeafD x4 (@LeaP.l x))) (@List.filter LeafD (fun x26 : LeafD => (@withinB (@LeaP.p x) (@LeafD.path x26))) (@LeaP.l x))) ∧
 True)))))))))) := by kernel_rfl

theorem tawake_vc (x : tawakeT.γ) : evCall tawakeE (ev tawakeE 1000) 19 (tawakeT.args x) ⟨tawakeT.blks x, tawakeT.n0, []⟩ (fun _ _ => False) (tawakeT.ends x) = (
(∃ x1 : Unit,
 (True ∧
 (∀ x2 : Unit,
 (True →
 (∃ x3 : PutA,
 ((@Eq TreeD (@TreeD.node Bool.false (@LeafD.mk (@List.nil UInt8) (0 : Int) (0 : Int) Bool.false) TreeD.nil TreeD.nil (0 : Int) (0 : Int)) (@PutA.t x3)) ∧
 ((@Eq Bs (@Array.toList UInt8 (@ByteArray.data (@ByteArray.mk (@List.toArray UInt8 (@List.cons UInt8 (98 : UInt8) (@List.nil UInt8)))))) (@LeafD.path (@PutA.x x3))) ∧
 ((@Eq Int (0 : Int) (@LeafD.digest (@PutA.x x3))) ∧
 ((@Eq Int (1 : Int) (@LeafD.rev (@PutA.x x3))) ∧
 ((@Eq Bool Bool.false (@LeafD.gone (@PutA.x x3))) ∧
 (((@putP (@PutA.t x3)) ∧
 (@LT.lt Nat _ (@ht (@PutA.t x3)) (100000 : Nat))) ∧
 (∀ x4 : Unit,
 (True →
 (∃ x5 : PutA,
 ((@Eq TreeD (@putD (@PutA.x x3) (@PutA.t x3)) (@PutA.t x5)) ∧
 ((@Eq Bs (@Array.toList UInt8 (@ByteArray.data (@ByteArray.mk (@List.toArray UInt8 (@List.cons UInt8 (97 : UInt8) (@List.nil UInt8)))))) (@LeafD.path (@PutA.x x5))) ∧
 ((@Eq Int (0 : Int) (@LeafD.digest (@PutA.x x5))) ∧
 ((@Eq Int (2 : Int) (@LeafD.rev (@PutA.x x5))) ∧
 ((@Eq Bool Bool.false (@LeafD.gone (@PutA.x x5))) ∧
 (((@putP (@PutA.t x5)) ∧
 (@LT.lt Nat _ (@ht (@PutA.t x5)) (100000 : Nat))) ∧
 (∀ x6 : Unit,
 (True →
 (∃ x7 : TreeD,
 ((@Eq TreeD (@putD (@PutA.x x5) (@PutA.t x5)) x7) ∧
 ((@Eq Bool (@fewL x7) Bool.true) ∧
 (∀ x8 : Unit,
 (True →
 (∃ x9 : TreeD,
 ((@Eq TreeD (@TreeD.node Bool.false (@LeafD.mk (@List.nil UInt8) (0 : Int) (0 : Int) Bool.false) TreeD.nil TreeD.nil (0 : Int) (0 : Int)) x9) ∧
 (True ∧
 (∀ x10 : Unit,
 (True →
 (br (@BEq.beq Int _ (@lenD x9) (0 : Int))
 (∃ x11 : TreeD,
 ((@Eq TreeD (@putD (@PutA.x x3) (@PutA.t x3)) x11) ∧
 (True ∧
 (∀ x12 : Unit,
 (True →
 (br (@BEq.beq Int _ (@lenD x11) (1 : Int))
 ((@LE.le Nat _ (@HMul.hMul _ _ _ _ (@List.length LeafD (@TreeD.inorder x7)) (40 : Nat)) room47) →
 (br (@BEq.beq Int _ (Nat.cast (@List.length LeafD (@TreeD.inorder x7)) : Int) (2 : Int))
 (br (@Decidable.decide ((@LE.le Int _ (0 : Int) (0 : Int)) ∧
 (@LT.lt Int _ (0 : Int) (Nat.cast (@List.length LeafD (@TreeD.inorder x7)) : Int))) _)
 (br (@Decidable.decide (@LT.lt Nat _ (@HAdd.hAdd _ _ _ _ (0 : Nat) (@Int.toNat (0 : Int))) (@List.length LeafD (@TreeD.inorder x7))) _)
 (br (@BEq.beq Bs _ (@LeafD.path (@List.getD LeafD (@TreeD.inorder x7) (@HAdd.hAdd _ _ _ _ (0 : Nat) (@Int.toNat (0 : Int))) (@LeafD.mk (@List.nil UInt8) (0 : Int) (0 : Int) Bool.false))) (@Array.toList UInt8 (@ByteArray.data (@ByteArray.mk (@List.toArray UInt8 (@List.cons UInt8 (97 : UInt8) (@List.nil UInt8)))))))
 (∃ x13 : TreeD,
 ((@Eq TreeD (@putD (@PutA.x x3) (@PutA.t x3)) x13) ∧
 ((@Eq Bool (@fewL x13) Bool.true) ∧
 (∀ x14 : Unit,
 (True →
 ((@LE.le Nat _ (@HMul.hMul _ _ _ _ (@List.length LeafD (@TreeD.inorder x13)) (40 : Nat)) room47) →
 (∃ x15 : Unit,
 ((@Eq Bool (@BEq.beq Int _ (Nat.cast (@List.length LeafD (@TreeD.inorder x13)) : Int) (1 : Int)) Bool.true) ∧
 True))))))))
 (∃ x16 : Unit,
 ((@Eq Bool Bool.false Bool.true) ∧
 True)))
 (Bad "check" "law.go:17"))
 (Bad "check" "law.go:17"))
 (∃ x17 : Unit,
 ((@Eq Bool Bool.false Bool.true) ∧
 True))))
 (∃ x18 : Unit,
 ((@Eq Bool Bool.false Bool.true) ∧
 True))))))))
 (∃ x19 : Unit,
 ((@Eq Bool Bool.false Bool.true) ∧
 True)))))))))))))))))))))))))))))))))))) := by kernel_rfl

end Go.Proofs.Ytkhiifaldbjpbaa.Ses

namespace Go.Proofs.Ytkhiifaldbjpbaa.Ses
open Go Go.Proofs Go.Proofs.Ytkhiifaldbjpbaa.Sx Go.Proofs.Ytkhiifaldbjpbaa.Trx

theorem room_ok : SpecOK Try.prog 20 roomT.spec := by
  refine Tri.ok (E := roomE) (Env_ok (by decide +kernel) (by simp)) (n := 1000) roomT fun x hx => ?_
  rw [room_vc]
  revert x
  intro (l : List LeafD) hx
  simp only [br_bad, br_true, br_false, List.length_singleton, and_self, Bool.not_true, Bool.not_false, Bool.not_not, decide_eq_true_eq, Bool.and_eq_true, List.take_zero, List.nil_append, List.drop_zero, Nat.zero_add, Int.toNat_natCast, Nat.sub_eq, true_and, and_true, exists_const, List.length_nil, Nat.zero_le, Nat.zero_mul, Nat.le_refl, List.length_set, List.take_length, Int.natCast_nonneg, forall_const, implies_true, Int.toNat_zero, Nat.le_eq, Int.le_refl, addN, cutN, loN, hiN, bndB, List.length_cons, List.take_succ_cons, List.length_take, List.length_drop, Option.isNone, Nat.add_zero, Nat.min_self]
  try simp only [br_iff, decide_eq_true_eq, decide_eq_false_iff_not, room47, Bool.not_eq_true', Bool.not_eq_false', gt_iff_lt]
  intro hl
  refine ⟨fun h => ?_, fun h => ⟨⟨0, rfl, by omega, fun j c h => by omega⟩, fun i ⟨h1, h2⟩ _ => ⟨fun h3 => ⟨h3, fun _ => ⟨fun h4 => ?_, fun h4 => ⟨i + 1, by rw [wrap_id (by omega) (by omega)]; rfl, ⟨by omega, all_step' (⟨[], 0, 0, false⟩ : LeafD) h2 (by omega) (by omega)⟩, by omega⟩⟩⟩, fun h3 => ?_⟩⟩⟩
  · unfold roomB
    have : decide (l.length ≤ 300) = false := by simp; omega
    rw [this]; rfl
  · unfold roomB
    have : (l.all fun x => decide (x.path.length ≤ 300)) = false := by
      cases hq : l.all fun x => decide (x.path.length ≤ 300)
      · rfl
      · have := List.all_eq_true.1 hq (l.getD i (⟨[], 0, 0, false⟩ : LeafD)) (getD_mem (by omega))
        simp only [decide_eq_true_eq] at this
        omega
    rw [this, Bool.and_false]
  · unfold roomB
    have e1 : decide (l.length ≤ 300) = true := by simp; omega
    have e2 : (l.all fun x => decide (x.path.length ≤ 300)) = true := by
      rw [List.all_eq_true]
      intro x hx
      obtain ⟨j, hj⟩ := List.getElem?_of_mem hx
      have := (List.getElem?_eq_some_iff.1 hj).1
      exact decide_eq_true (h2 j x (by omega) hj)
    rw [e1, e2]; rfl

theorem samel_ok : SpecOK Try.prog 24 sameLT.spec := by
  refine Tri.ok (E := sameLE) (Env_ok (by decide +kernel) (by simp)) (n := 1000) sameLT fun x hx => ?_
  rw [samel_vc]
  obtain ⟨a, b⟩ := x
  simp only [br_bad, br_true, br_false, List.length_singleton, and_self, Bool.not_true, Bool.not_false, Bool.not_not, decide_eq_true_eq, Bool.and_eq_true, List.take_zero, List.nil_append, List.drop_zero, Nat.zero_add, Int.toNat_natCast, Nat.sub_eq, true_and, and_true, exists_const, List.length_nil, Nat.zero_le, Nat.zero_mul, Nat.le_refl, List.length_set, List.take_length, Int.natCast_nonneg, forall_const, implies_true, Int.toNat_zero, Nat.le_eq, Int.le_refl, addN, cutN, loN, hiN, bndB, List.length_cons, List.take_succ_cons, List.length_take, List.length_drop, Option.isNone, Nat.add_zero, Nat.min_self]
  try simp only [br_iff, decide_eq_true_eq, decide_eq_false_iff_not, room47, Bool.not_eq_true', Bool.not_eq_false', gt_iff_lt]
  intro ha hb
  refine ⟨fun h => ?_, fun h => ⟨⟨0, rfl, by omega, rfl⟩, fun i ⟨h1, h2⟩ _ => ⟨fun h3 => ?_, fun h3 => ?_⟩⟩⟩
  · have : Nat.beq a.length b.length = false := by
      cases h' : Nat.beq a.length b.length
      · rfl
      · rw [Nat.eq_of_beq_eq_true h'] at h; simp at h
    unfold sameLB
    rw [this]; rfl
  · have he : a.length = b.length := by
      have : (a.length : Int) = b.length := by simpa using h
      omega
    have hs := sameL_at (a := a) (b := b) (i := i) (by omega) (by omega)
    rw [h2] at hs
    refine ⟨h3, by omega, fun h4 => ?_, fun h4 => ⟨i + 1, by rw [wrap_id (by omega) (by omega)]; rfl, ⟨by omega, ?_⟩, by omega⟩⟩
    · rw [hs, show eqLf (a.getD i noL) (b.getD i noL) = false from h4]; rfl
    · rw [hs, show eqLf (a.getD i noL) (b.getD i noL) = true from h4]; rfl
  · have he : a.length = b.length := by
      have : (a.length : Int) = b.length := by simpa using h
      omega
    rw [← h2, List.drop_of_length_le (by omega : a.length ≤ i), List.drop_of_length_le (by omega : b.length ≤ i)]; rfl

theorem place_ok : SpecOK Try.prog 61 placeT.spec := by
  refine Tri.ok (E := placeE) (Env_ok (by decide +kernel) (by simp [rcompare_ok])) (n := 1000) placeT fun x hx => ?_
  rw [place_vc]
  obtain ⟨l, p⟩ := x
  obtain ⟨h1, h2⟩ := hx
  simp only [br_bad, br_true, br_false, List.length_singleton, and_self, Bool.not_true, Bool.not_false, Bool.not_not, decide_eq_true_eq, Bool.and_eq_true, List.take_zero, List.nil_append, List.drop_zero, Nat.zero_add, Int.toNat_natCast, Nat.sub_eq, true_and, and_true, exists_const, List.length_nil, Nat.zero_le, Nat.zero_mul, Nat.le_refl, List.length_set, List.take_length, Int.natCast_nonneg, forall_const, implies_true, Int.toNat_zero, Nat.le_eq, Int.le_refl, addN, cutN, loN, hiN, bndB, List.length_cons, List.take_succ_cons, List.length_take, List.length_drop, Option.isNone, Nat.add_zero, Nat.min_self]
  try simp only [br_iff, decide_eq_true_eq, decide_eq_false_iff_not, room47, Bool.not_eq_true', Bool.not_eq_false', gt_iff_lt]
  refine ⟨⟨0, rfl, by omega, rfl, rfl⟩, fun i ⟨g1, g2, g3⟩ hl => ⟨fun g4 => ⟨g4, ⟨p, (l.getD i noL).path⟩, rfl, rfl, ⟨h2, List.all_eq_true.1 h1 _ (getD_mem (show i < l.length by omega))⟩, fun g5 => ?_, fun g5 => ⟨fun g6 => ?_, fun g6 => ⟨i + 1, by rw [wrap_id (by omega) (by omega)]; rfl, ⟨by omega, ?_⟩, by omega⟩⟩⟩, fun g4 _ => ?_⟩⟩
  · rw [drop_getD noL (by omega), placeL_cons, show (cmpP p (l.getD i noL) == 0) = true from g5] at g2 g3
    simp only [cond_true] at g2 g3
    exact ⟨by omega, g3⟩
  · rw [drop_getD noL (by omega), placeL_cons, show (cmpP p (l.getD i noL) == 0) = false from g5, show decide (cmpP p (l.getD i noL) < 0) = true from decide_eq_true g6] at g2 g3
    simp only [cond_true, cond_false] at g2 g3
    exact ⟨by omega, g3⟩
  · rw [drop_getD noL (by omega), placeL_cons, show (cmpP p (l.getD i noL) == 0) = false from g5, show decide (cmpP p (l.getD i noL) < 0) = false from decide_eq_false g6] at g2 g3
    simp only [cond_false] at g2 g3
    exact ⟨by omega, g3⟩
  · rw [List.drop_of_length_le (by omega : l.length ≤ i)] at g2 g3
    have : (placeL p []).1 = 0 := rfl
    rw [this] at g2
    exact ⟨by omega, g3⟩

theorem rput_ok : SpecOK Try.prog 32 rputT.spec := by
  refine Tri.ok (E := rputE) (Env_ok (by decide +kernel) (by simp [place_ok])) (n := 1000) rputT fun x hx => ?_
  rw [rput_vc]
  obtain ⟨l, x⟩ := x
  obtain ⟨h1, h2, h3⟩ := hx
  simp only [br_bad, br_true, br_false, List.length_singleton, and_self, Bool.not_true, Bool.not_false, Bool.not_not, decide_eq_true_eq, Bool.and_eq_true, List.take_zero, List.nil_append, List.drop_zero, Nat.zero_add, Int.toNat_natCast, Nat.sub_eq, true_and, and_true, exists_const, List.length_nil, Nat.zero_le, Nat.zero_mul, Nat.le_refl, List.length_set, List.take_length, Int.natCast_nonneg, forall_const, implies_true, Int.toNat_zero, Nat.le_eq, Int.le_refl, addN, cutN, loN, hiN, bndB, List.length_cons, List.take_succ_cons, List.length_take, List.length_drop, Option.isNone, Nat.add_zero, Nat.min_self]
  try simp only [br_iff, decide_eq_true_eq, decide_eq_false_iff_not, room47, Bool.not_eq_true', Bool.not_eq_false', gt_iff_lt]
  have h3 : l.length ≤ 100000 := of_decide_eq_true h3
  refine ⟨⟨l, x.path⟩, rfl, rfl, ⟨h1, h2⟩, ?_⟩
  have hp := placeL_le x.path l
  have hi := insL_place x l
  dsimp only
  generalize (placeL x.path l).1 = k at hp hi ⊢
  generalize (placeL x.path l).2 = b at hp hi ⊢
  have c1 : cutL l none (some (k : Int)) = l.take k := by simp [cutL, loN, hiN]
  have c2 : cutL l (some (k : Int)) none = l.drop k := by simp [cutL, loN, hiN]
  have c3 : cutL l (some ((k + 1 : Nat) : Int)) none = l.drop (k + 1) := by simp [cutL, loN, hiN]
  have hw : IntKind.i64.wrap ((k : Int) + 1) = ((k + 1 : Nat) : Int) := by rw [wrap_id (by omega) (by omega)]; rfl
  rw [hw, c1, c2, c3]
  have l1 : (l.take k).length = k := by rw [List.length_take]; omega
  have l2 : (l.drop (k + 1)).length = l.length - (k + 1) := List.length_drop
  have l3 : (l.drop k).length = l.length - k := List.length_drop
  have tk : (l.take k ++ [x]).take (k + 1) = l.take k ++ [x] := List.take_of_length_le (by simp; omega)
  rw [l1, l2, l3]
  refine ⟨by simp; omega, fun _ => ⟨by omega, fun _ => ⟨by omega, fun hb => ⟨by simp; have := hp.2 hb; omega, fun _ => ⟨⟨by simp; omega, by omega⟩, ?_, ?_⟩⟩, fun hb => ⟨by simp; omega, fun _ => ⟨⟨by simp; omega, by omega⟩, ?_, ?_⟩⟩⟩⟩⟩
  · rw [hi, hb]; simp; have := hp.2 hb; omega
  · rw [hi, hb]
    show (l.take k ++ [x]).take (k + 1) ++ _ = _
    rw [tk]; simp
  · rw [hi, hb]; simp; omega
  · rw [hi, hb]
    show (l.take k ++ [x]).take (k + 1) ++ _ = _
    rw [tk]; simp

theorem rget_ok : SpecOK Try.prog 33 rgetT.spec := by
  refine Tri.ok (E := rputE) (Env_ok (by decide +kernel) (by simp [place_ok])) (n := 1000) rgetT fun x hx => ?_
  rw [rget_vc]
  obtain ⟨l, p⟩ := x
  obtain ⟨h1, h2⟩ := hx
  simp only [br_bad, br_true, br_false, List.length_singleton, and_self, Bool.not_true, Bool.not_false, Bool.not_not, decide_eq_true_eq, Bool.and_eq_true, List.take_zero, List.nil_append, List.drop_zero, Nat.zero_add, Int.toNat_natCast, Nat.sub_eq, true_and, and_true, exists_const, List.length_nil, Nat.zero_le, Nat.zero_mul, Nat.le_refl, List.length_set, List.take_length, Int.natCast_nonneg, forall_const, implies_true, Int.toNat_zero, Nat.le_eq, Int.le_refl, addN, cutN, loN, hiN, bndB, List.length_cons, List.take_succ_cons, List.length_take, List.length_drop, Option.isNone, Nat.add_zero, Nat.min_self]
  try simp only [br_iff, decide_eq_true_eq, decide_eq_false_iff_not, room47, Bool.not_eq_true', Bool.not_eq_false', gt_iff_lt]
  have hp := placeL_le p l
  refine ⟨⟨l, p⟩, rfl, rfl, ⟨h1, h2⟩, fun hb => ?_, fun hb => ⟨by have := hp.2 hb; dsimp only; omega, ?_⟩⟩
  · rw [getL_place, show (placeL p l).2 = false from hb]
    exact ⟨rfl, rfl, rfl, rfl, rfl⟩
  · rw [getL_place, show (placeL p l).2 = true from hb]
    exact ⟨rfl, rfl, rfl, rfl, rfl⟩

theorem rrange_ok : SpecOK Try.prog 34 rrangeT.spec := by
  refine Tri.ok (E := rrangeE) (Env_ok (by decide +kernel) (by simp [rcompare_ok])) (n := 1000) rrangeT fun x hx => ?_
  rw [rrange_vc]
  obtain ⟨l, a, b⟩ := x
  obtain ⟨h1, h2, h3, h4⟩ := hx
  have h4 : l.length ≤ 100000 := of_decide_eq_true h4
  simp only [br_bad, br_true, br_false, List.length_singleton, and_self, Bool.not_true, Bool.not_false, Bool.not_not, decide_eq_true_eq, Bool.and_eq_true, List.take_zero, List.nil_append, List.drop_zero, Nat.zero_add, Int.toNat_natCast, Nat.sub_eq, true_and, and_true, exists_const, List.length_nil, Nat.zero_le, Nat.zero_mul, Nat.le_refl, List.length_set, List.take_length, Int.natCast_nonneg, forall_const, implies_true, Int.toNat_zero, Nat.le_eq, Int.le_refl, addN, cutN, loN, hiN, bndB, List.length_cons, List.take_succ_cons, List.length_take, List.length_drop, Option.isNone, Nat.add_zero, Nat.min_self]
  try simp only [br_iff, decide_eq_true_eq, decide_eq_false_iff_not, room47, Bool.not_eq_true', Bool.not_eq_false', gt_iff_lt]
  refine ⟨⟨0, rfl, rfl, rfl, by omega⟩, fun i hi hl => ⟨fun g1 => ⟨g1, ⟨(l.getD i noL).path, a⟩, rfl, rfl, ⟨List.all_eq_true.1 h1 _ (getD_mem (show i < l.length by omega)), h2⟩, fun g2 => ⟨fun g3 => ⟨g1, fun _ => ?_⟩, fun g3 => ⟨g1, ⟨(l.getD i noL).path, b⟩, rfl, rfl, ⟨List.all_eq_true.1 h1 _ (getD_mem (show i < l.length by omega)), h3⟩, fun g4 => ⟨g1, fun _ => ?_⟩, fun g4 => ?_⟩⟩, fun g2 => ?_⟩, fun g1 => ?_⟩⟩
  all_goals try have hle : ((l.take i).filter fun y => inR a b y.path).length ≤ i := Nat.le_trans (List.length_filter_le _ _) (by rw [List.length_take]; omega)
  · have hf : inR a b (l.getD i noL).path = true := by
      unfold inR
      rw [show decide (cmpL (splitB (l.getD i noL).path) (splitB a) ≥ 0) = true from decide_eq_true g2, show (b == []) = true from g3]; rfl
    have e := filter_take (f := fun y => inR a b y.path) (l := l) (i := i) (by omega)
    simp only [hf, cond_true] at e
    exact ⟨by omega, i + 1, by rw [wrap_id (by omega) (by omega)]; rfl, by rw [e]; simp, e.symm, by omega, by omega⟩
  · have hf : inR a b (l.getD i noL).path = true := by
      unfold inR
      rw [show decide (cmpL (splitB (l.getD i noL).path) (splitB a) ≥ 0) = true from decide_eq_true g2, show (b == []) = false from g3, show decide (cmpL (splitB (l.getD i noL).path) (splitB b) < 0) = true from decide_eq_true g4]; rfl
    have e := filter_take (f := fun y => inR a b y.path) (l := l) (i := i) (by omega)
    simp only [hf, cond_true] at e
    exact ⟨by omega, i + 1, by rw [wrap_id (by omega) (by omega)]; rfl, by rw [e]; simp, e.symm, by omega, by omega⟩
  · have hf : inR a b (l.getD i noL).path = false := by
      unfold inR
      rw [show decide (cmpL (splitB (l.getD i noL).path) (splitB a) ≥ 0) = true from decide_eq_true g2, show (b == []) = false from g3, show decide (cmpL (splitB (l.getD i noL).path) (splitB b) < 0) = false from decide_eq_false g4]; rfl
    have e := filter_take (f := fun y => inR a b y.path) (l := l) (i := i) (by omega)
    simp only [hf, cond_false, List.append_nil] at e
    exact ⟨i + 1, by rw [wrap_id (by omega) (by omega)]; rfl, by rw [e], e.symm, by omega, by omega⟩
  · have hf : inR a b (l.getD i noL).path = false := by
      unfold inR
      rw [show decide (cmpL (splitB (l.getD i noL).path) (splitB a) ≥ 0) = false from decide_eq_false g2]; rfl
    have e := filter_take (f := fun y => inR a b y.path) (l := l) (i := i) (by omega)
    simp only [hf, cond_false, List.append_nil] at e
    exact ⟨i + 1, by rw [wrap_id (by omega) (by omega)]; rfl, by rw [e], e.symm, by omega, by omega⟩
  · rw [List.take_of_length_le (by omega : l.length ≤ i)]
    exact ⟨rfl, rfl⟩

theorem runder_ok : SpecOK Try.prog 35 runderT.spec := by
  refine Tri.ok (E := runderE) (Env_ok (by decide +kernel) (by simp [rwithin_ok])) (n := 1000) runderT fun x hx => ?_
  rw [runder_vc]
  obtain ⟨l, p⟩ := x
  have h4 : l.length ≤ 100000 := of_decide_eq_true hx
  simp only [br_bad, br_true, br_false, List.length_singleton, and_self, Bool.not_true, Bool.not_false, Bool.not_not, decide_eq_true_eq, Bool.and_eq_true, List.take_zero, List.nil_append, List.drop_zero, Nat.zero_add, Int.toNat_natCast, Nat.sub_eq, true_and, and_true, exists_const, List.length_nil, Nat.zero_le, Nat.zero_mul, Nat.le_refl, List.length_set, List.take_length, Int.natCast_nonneg, forall_const, implies_true, Int.toNat_zero, Nat.le_eq, Int.le_refl, addN, cutN, loN, hiN, bndB, List.length_cons, List.take_succ_cons, List.length_take, List.length_drop, Option.isNone, Nat.add_zero, Nat.min_self]
  try simp only [br_iff, decide_eq_true_eq, decide_eq_false_iff_not, room47, Bool.not_eq_true', Bool.not_eq_false', gt_iff_lt]
  refine ⟨⟨0, rfl, rfl, rfl, by omega⟩, fun i hi hl => ⟨fun g1 => ⟨g1, ⟨p, (l.getD i noL).path⟩, rfl, rfl, fun g2 => ⟨g1, fun _ => ?_⟩, fun g2 => ?_⟩, fun g1 => ?_⟩⟩
  all_goals try have hle : ((l.take i).filter fun y => withinB p y.path).length ≤ i := Nat.le_trans (List.length_filter_le _ _) (by rw [List.length_take]; omega)
  · have hf : withinB p (l.getD i noL).path = true := g2
    have e := filter_take (f := fun y => withinB p y.path) (l := l) (i := i) (by omega)
    simp only [hf, cond_true] at e
    exact ⟨by omega, i + 1, by rw [wrap_id (by omega) (by omega)]; rfl, by rw [e]; simp, e.symm, by omega, by omega⟩
  · have hf : withinB p (l.getD i noL).path = false := g2
    have e := filter_take (f := fun y => withinB p y.path) (l := l) (i := i) (by omega)
    simp only [hf, cond_false, List.append_nil] at e
    exact ⟨i + 1, by rw [wrap_id (by omega) (by omega)]; rfl, by rw [e], e.symm, by omega, by omega⟩
  · rw [List.take_of_length_le (by omega : l.length ≤ i)]
    exact ⟨rfl, rfl⟩

theorem tawake_ok : SpecOK Try.prog 19 tawakeT.spec := by
  refine Tri.ok (E := tawakeE) (Env_ok (by decide +kernel) (by
    intro p hp
    simp only [List.mem_cons, List.mem_nil_iff, or_false] at hp
    rcases hp with rfl | rfl | rfl | rfl
    · exact new_ok
    · exact put_ok _
    · exact all_ok
    · exact tlen_ok)) (n := 1000) tawakeT fun x hx => ?_
  rw [tawake_vc]
  simp only [br_bad, br_true, br_false, List.length_singleton, and_self, Bool.not_true, Bool.not_false, Bool.not_not, decide_eq_true_eq, Bool.and_eq_true, List.take_zero, List.nil_append, List.drop_zero, Nat.zero_add, Int.toNat_natCast, Nat.sub_eq, true_and, and_true, exists_const, List.length_nil, Nat.zero_le, Nat.zero_mul, Nat.le_refl, List.length_set, List.take_length, Int.natCast_nonneg, forall_const, implies_true, Int.toNat_zero, Nat.le_eq, Int.le_refl, addN, cutN, loN, hiN, bndB, List.length_cons, List.take_succ_cons, List.length_take, List.length_drop, Option.isNone, Nat.add_zero, Nat.min_self]
  try simp only [br_iff, decide_eq_true_eq, decide_eq_false_iff_not, room47, Bool.not_eq_true', Bool.not_eq_false', gt_iff_lt]
  have p1 : putP (.node false ⟨[], 0, 0, false⟩ .nil .nil 0 0) := ⟨.inl rfl, by decide⟩
  have p2 : putP (putD ⟨[98], 0, 1, false⟩ (.node false ⟨[], 0, 0, false⟩ .nil .nil 0 0)) := ⟨.inr (by decide +kernel), by decide +kernel⟩
  refine ⟨⟨_, ⟨[98], 0, 1, false⟩⟩, rfl, rfl, rfl, rfl, rfl, ⟨p1, by decide +kernel⟩, ⟨_, ⟨[97], 0, 2, false⟩⟩, rfl, rfl, rfl, rfl, rfl, ⟨p2, by decide +kernel⟩, _, rfl, by decide +kernel, _, rfl, fun _ => ⟨_, rfl, fun _ _ => ⟨fun _ => ⟨by decide +kernel, by decide +kernel, fun _ => ⟨_, rfl, by decide +kernel, fun _ => by decide +kernel⟩, fun h => (by revert h; decide +kernel)⟩, fun h => (by revert h; decide +kernel)⟩, fun h => (by revert h; decide +kernel)⟩, fun h => (by revert h; decide +kernel)⟩
end Go.Proofs.Ytkhiifaldbjpbaa.Ses
