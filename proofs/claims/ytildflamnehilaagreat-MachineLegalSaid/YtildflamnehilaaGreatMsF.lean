/- Whatever is applied: a machine in plain words; what its verdicts say of commits; the law MachineLegal. No condition. -/
import Derived.Test.YtildflamnehilaaGreatMsC
import Derived.KernelRfl
set_option linter.unusedSimpArgs false
set_option linter.unusedVariables false

namespace Go.Proofs.YtildflamnehilaaGreat.Ses
open Go Go.Proofs Go.Proofs.YtildflamnehilaaGreat.Sx

/-! ### members that may be -/

theorem upE_len : ∀ {M : List Int} {a : Int}, upE a M = true → -1 ≤ a → a ≤ 14 → (M.length : Int) ≤ 14 - a
  | [], a, _, _, h2 => by simp; omega
  | m :: r, a, h, h1, h2 => by
    unfold upE at h
    simp only [Bool.and_eq_true, decide_eq_true_eq] at h
    have := upE_len (M := r) (a := m) h.2.2 (by omega) (by omega)
    simp only [List.length_cons]
    omega
theorem upE_low {M : List Int} {a b : Int} (h : upE a M = true) (hb : b ≤ a) : upE b M = true := by
  cases M with
  | nil => rfl
  | cons m r =>
    unfold upE at h ⊢
    simp only [Bool.and_eq_true, decide_eq_true_eq] at h ⊢
    exact ⟨by omega, h.2⟩
theorem upE_del : ∀ {M : List Int} {a : Int} (k : Nat), upE a M = true → upE a (M.take k ++ M.drop (k + 1)) = true
  | [], a, k, h => by simpa using h
  | m :: r, a, 0, h => by
    unfold upE at h
    simp only [Bool.and_eq_true, decide_eq_true_eq] at h
    show upE a r = true
    exact upE_low h.2.2 (by omega)
  | m :: r, a, k + 1, h => by
    unfold upE at h
    simp only [Bool.and_eq_true, decide_eq_true_eq] at h
    show upE a (m :: (r.take k ++ r.drop (k + 1))) = true
    unfold upE
    simp only [Bool.and_eq_true, decide_eq_true_eq]
    exact ⟨h.1, h.2.1, upE_del k h.2.2⟩
theorem cnt_zero {r : List Int} {y m : Int} (h : upE y r = true) (hm : m ≤ y) : r.countP (· < m) = 0 := by
  rw [List.countP_eq_zero]
  intro z hz
  have := (upE_all h).1 z hz
  simp
  omega
theorem upE_ins : ∀ {M : List Int} {a m : Int}, upE a M = true → a < m → m < 15 → m ∉ M → upE a (insM M m) = true
  | [], a, m, _, h1, h2, _ => by
    show upE a [m] = true
    unfold upE upE
    simp only [Bool.and_eq_true, decide_eq_true_eq]
    exact ⟨h1, h2, trivial⟩
  | y :: r, a, m, h, h1, h2, h3 => by
    unfold upE at h
    simp only [Bool.and_eq_true, decide_eq_true_eq] at h
    have hne : y ≠ m := fun e => h3 (by rw [e]; exact List.mem_cons_self ..)
    rcases Int.lt_or_le y m with hlt | hge
    · have e : insM (y :: r) m = y :: insM r m := by
        unfold insM
        rw [List.countP_cons_of_pos (by simpa using hlt)]
        rfl
      rw [e]
      unfold upE
      simp only [Bool.and_eq_true, decide_eq_true_eq]
      exact ⟨h.1, h.2.1, upE_ins h.2.2 hlt h2 fun hm => h3 (List.mem_cons_of_mem _ hm)⟩
    · have e : insM (y :: r) m = m :: y :: r := by
        unfold insM
        rw [List.countP_cons_of_neg (by simp; omega), cnt_zero h.2.2 (by omega)]
        rfl
      rw [e]
      unfold upE upE
      simp only [Bool.and_eq_true, decide_eq_true_eq]
      exact ⟨h1, h2, by omega, h.2.1, h.2.2⟩
theorem mayE_mk {M : List Int} (h1 : 1 ≤ M.length) (h : upE (-1) M = true) : mayE M = true := by
  unfold mayE
  have := upE_len h (by omega) (by omega)
  rw [h, decide_eq_true h1, decide_eq_true (by omega : M.length ≤ 15)]; rfl
theorem mayE_up {M : List Int} (h : mayE M = true) : upE (-1) M = true := by
  unfold mayE at h
  simp only [Bool.and_eq_true] at h
  exact h.2.2
theorem chg_may {x : ChgA} (h : ∀ p, p ∈ x.E → mayE p.members = true) (h1 : 1 ≤ x.E.length) {B : Int} (hf : ∀ p, p ∈ x.E → p.from_ ≤ B) (hs : x.slot + x.alpha ≤ B) : ∀ p, p ∈ (chgE x).2 → mayE p.members = true ∧ p.from_ ≤ B := by
  have hold : ∀ p, p ∈ x.E → mayE p.members = true ∧ p.from_ ≤ B := fun p hp => ⟨h p hp, hf p hp⟩
  have hl : lastEp x.E ∈ x.E := getD_mem (by omega)
  have hlm := mayE_up (h _ hl)
  have hlk := mayE_of (h _ hl)
  unfold chgE
  dsimp only
  cases q1 : (decide (x.slot < 0) || (decide (x.slot > 1099511627776 - x.alpha) || (decide (x.member < 0) || decide (x.member ≥ 15))))
  · cases q2 : decide ((lastEp x.E).from_ > x.slot)
    · cases q3 : (x.add && (lastEp x.E).members.contains x.member)
      · cases q4 : (!x.add && !((lastEp x.E).members.contains x.member))
        · cases q5 : (!x.add && decide ((lastEp x.E).members.length = 1))
          · simp only [Bool.or_eq_false_iff, decide_eq_false_iff_not] at q1
            intro p hp
            simp only [cond_false] at hp
            rcases List.mem_append.1 hp with hp | hp
            · exact hold p hp
            · have : p = ⟨x.slot + x.alpha, bif x.add then insM (lastEp x.E).members x.member else delM (lastEp x.E).members x.member⟩ := by simpa using hp
              subst this
              refine ⟨?_, hs⟩
              cases ha : x.add
              · rw [ha] at q5
                simp only [Bool.not_false, Bool.true_and, decide_eq_false_iff_not] at q5
                show mayE (delM (lastEp x.E).members x.member) = true
                refine mayE_mk ?_ (upE_del _ hlm)
                unfold delM
                rw [List.length_append, List.length_take, List.length_drop]
                omega
              · rw [ha] at q3
                simp only [Bool.true_and] at q3
                have hni : x.member ∉ (lastEp x.E).members := fun hm => by
                  rw [List.contains_iff_mem.2 hm] at q3
                  cases q3
                show mayE (insM (lastEp x.E).members x.member) = true
                refine mayE_mk ?_ (upE_ins hlm (by omega) (by omega) hni)
                unfold insM
                rw [List.length_append, List.length_cons]
                omega
          · exact hold
        · exact hold
      · exact hold
    · exact hold
  · exact hold
theorem cut_mem {E : List EpochD} {s : Int} {p : EpochD} (h : p ∈ cutE E s) : p ∈ E := List.mem_of_mem_drop h
theorem cut_len {E : List EpochD} {s : Int} (h : 1 ≤ E.length) : 1 ≤ (cutE E s).length ∧ (cutE E s).length ≤ E.length := by
  have := atN_lt E s E.length (by omega)
  unfold cutE
  rw [List.length_drop]
  omega
/-! ### sessions -/

theorem open_len {x : OpenA} (h0 : 0 < x.size) (h : (x.l.length : Int) ≤ x.size) : ((openL x).2.length : Int) ≤ x.size := by
  have b1 := idxF_lt (nameIs x.name) x.l
  have b2 := idxF_lt (idIs x.id) x.l
  unfold openL
  dsimp only
  by_cases q : idxF (nameIs x.name) x.l < 0
  · rw [decide_eq_true q]
    simp only [cond_true]
    rw [List.length_append]
    generalize hl1 : (bif decide (idxF (idIs x.id) x.l < 0) then x.l else outL x.l (idxF (idIs x.id) x.l)) = l1
    have h1 : (l1.length : Int) ≤ x.size := by
      rw [← hl1]
      by_cases q2 : idxF (idIs x.id) x.l < 0
      · rw [decide_eq_true q2]; exact h
      · rw [decide_eq_false q2]
        show ((outL x.l (idxF (idIs x.id) x.l)).length : Int) ≤ x.size
        rw [outL_length ⟨by omega, b2.2⟩]
        omega
    by_cases q3 : (l1.length : Int) = x.size
    · rw [decide_eq_true q3]
      show ((outL l1 0).length + 1 : Int) ≤ x.size
      rw [outL_length ⟨by omega, by omega⟩]
      omega
    · rw [decide_eq_false q3]
      show ((l1.length + 1 : Nat) : Int) ≤ x.size
      omega
  · rw [decide_eq_false q]
    show ((usedL x.l (idxF (nameIs x.name) x.l)).length : Int) ≤ x.size
    rw [usedL_length ⟨by omega, b1.2⟩]
    exact h
theorem done_len {x : DoneA} : (doneL x).2.length = x.l.length := by
  unfold doneL
  dsimp only
  cases (decide (idxF (idIs x.id) x.l < 0) || decide (x.seq ≤ (atL x.l (idxF (idIs x.id) x.l)).seq))
  · simp
  · rfl

def noR0 : RequestD := ⟨0, [], 0, 0, 0, [], [], [], 0, 0, 0⟩

/-! ### the machine, whatever is applied -/

structure MOk (n : Nat) (x : MacS) : Prop where
  al : x.alpha = 2
  sz : x.size = 3
  ap : x.applied = n
  c : ∃ d : List Deed5D, d.length ≤ n ∧ x.C = goC d
  s : x.S.length ≤ 3
  e1 : 1 ≤ x.E.length
  eM : x.E.length ≤ n + 1
  em : ∀ p, p ∈ x.E → mayE p.members = true ∧ p.from_ ≤ (n : Int) + 1
theorem mok_zero : MOk 0 fresh0 := ⟨rfl, rfl, rfl, ⟨[], Nat.le_refl _, rfl⟩, by decide, by decide, by decide, fun p hp => by
  have : p = ⟨0, [0, 1, 2]⟩ := by simpa [fresh0] using hp
  subst this
  exact ⟨by decide, by decide⟩⟩
/-- what a request makes of commits and epochs -/
structure DoOk (n : Nat) (y : MacS) : Prop where
  c : ∃ d : List Deed5D, d.length ≤ n + 1 ∧ y.C = goC d
  s : y.S.length ≤ 3
  e1 : 1 ≤ y.E.length
  eM : y.E.length ≤ n + 2
  em : ∀ p, p ∈ y.E → mayE p.members = true ∧ p.from_ ≤ (n : Int) + 2
theorem MOk.toDo {n : Nat} {x : MacS} (h : MOk n x) : DoOk n x := by
  obtain ⟨d, h1, h2⟩ := h.c
  exact ⟨⟨d, by omega, h2⟩, h.s, h.e1, by have := h.eM; omega, fun p hp => ⟨(h.em p hp).1, by have := (h.em p hp).2; omega⟩⟩
theorem how_do {n : Nat} {x : MacS} (h : MOk n x) (S : List SessionD) (hS : S.length ≤ 3) (r : RequestD) : DoOk n (howM (withS x S) r).2 := by
  obtain ⟨d, d1, d2⟩ := h.c
  have h0 : DoOk n (withS x S) := ⟨h.toDo.c, hS, h.toDo.e1, h.toDo.eM, h.toDo.em⟩
  have hchg : ∀ add code, DoOk n (chgM (withS x S) r add code).2 := fun add code => by
    have hl := chg_len ⟨x.alpha, x.E, x.applied, r.member, add⟩
    have hm := chg_may (x := ⟨x.alpha, x.E, x.applied, r.member, add⟩) (B := (n : Int) + 2) (fun p hp => (h.em p hp).1) h.e1 (fun p hp => by have := (h.em p hp).2; omega) (by
      show x.applied + x.alpha ≤ (n : Int) + 2
      rw [h.ap, h.al]; omega)
    exact ⟨h.toDo.c, hS, Nat.le_trans h.e1 hl.1, Nat.le_trans hl.2 (by have := h.eM; show x.E.length + 1 ≤ n + 2; omega), hm⟩
  unfold howM
  cases r.kind == 2
  · cases r.kind == 3
    · cases r.kind == 4
      · cases r.kind == 5
        · cases r.kind == 6
          · cases r.kind == 7
            · exact h0
            · exact hchg _ _
          · exact hchg _ _
        · exact h0
      · exact h0
    · exact h0
  · refine ⟨⟨d ++ [⟨r.base, r.ref, r.changes⟩], by simp; omega, ?_⟩, hS, h.toDo.e1, h.toDo.eM, h.toDo.em⟩
    show landC ⟨x.C, r.base, r.ref, r.changes⟩ = _
    rw [d2]
    simp [goC, oneC]
theorem do_do {n : Nat} {x : MacS} (h : MOk n x) (r : RequestD) : DoOk n (doM x r).2 := by
  have hask : (askM x r).2.length ≤ 3 := by
    unfold askM
    rw [ask_len]
    exact h.s
  have h0 := h.toDo
  unfold doM
  cases r.kind == 0
  · cases r.kind == 1
    · cases (askM x r).1.2
      · have hh := how_do h _ hask r
        refine ⟨hh.c, ?_, hh.e1, hh.eM, hh.em⟩
        show (doneL _).2.length ≤ 3
        rw [done_len]
        exact hask
      · exact ⟨h0.c, hask, h0.e1, h0.eM, h0.em⟩
    · cases wordOk r.name false
      · exact h0
      · refine ⟨h0.c, ?_, h0.e1, h0.eM, h0.em⟩
        have hs := h.s
        have hz := h.sz
        have := open_len (x := ⟨x.size, x.S, r.name, x.applied + 1⟩) (by show 0 < x.size; omega) (by show (x.S.length : Int) ≤ x.size; omega)
        have this : ((openL ⟨x.size, x.S, r.name, x.applied + 1⟩).2.length : Int) ≤ x.size := this
        show (openL ⟨x.size, x.S, r.name, x.applied + 1⟩).2.length ≤ 3
        omega
  · exact h0
theorem apply_eq {n : Nat} {x : MacS} (h : MOk n x) (hn : n < 1099511627776) (r : RequestD) : applyM x r = ((doM x r).1, ⟨x.alpha, x.size, x.applied + 1, (doM x r).2.C, (doM x r).2.S, cutE (doM x r).2.E (x.applied + 1)⟩) := by
  unfold applyM
  rw [decide_eq_false (by rw [h.ap]; omega)]
  rfl
theorem MOk.step {n : Nat} {x : MacS} (h : MOk n x) (hn : n < 1099511627776) (r : RequestD) : MOk (n + 1) (applyM x r).2 := by
  have hd := do_do h r
  rw [apply_eq h hn r]
  have hc := cut_len (s := x.applied + 1) hd.e1
  refine ⟨h.al, h.sz, by show x.applied + 1 = _; rw [h.ap]; omega, hd.c, hd.s, hc.1, Nat.le_trans hc.2 hd.eM, fun p hp => ?_⟩
  have := hd.em p (cut_mem hp)
  exact ⟨this.1, by have := this.2; omega⟩
theorem MOk.ok {n : Nat} {x : MacS} (h : MOk n x) (hn : n ≤ 4000) : okMS x = true := by
  obtain ⟨d, d1, d2⟩ := h.c
  have hg := goC_ok d (by omega)
  unfold okMS okEp fewG
  simp only [Bool.and_eq_true, decide_eq_true_eq, List.all_eq_true]
  rw [d2, h.sz, h.al, h.ap]
  have := hg.len
  have := h.s
  have := h.eM
  exact ⟨⟨by omega, hg.ch⟩, by omega, by omega, ⟨by omega, by omega, h.e1, by omega, fun p hp => (h.em p hp).1⟩, by omega, by omega⟩
theorem MOk.few {n : Nat} {x : MacS} (h : MOk n x) (hn : n ≤ 4000) : fewG x.C = true := (okMS_of (h.ok hn)).1
end Go.Proofs.YtildflamnehilaaGreat.Ses

namespace Go.Proofs.YtildflamnehilaaGreat.Ses
open Go Go.Proofs Go.Proofs.YtildflamnehilaaGreat.Sx

def stepM (x : MacS) (r : RequestD) : MacS := (applyM x r).2
def runF (x : MacS) (l : List RequestD) : MacS := l.foldl stepM x
structure MacW where
  x : MacS
  m : Nat
  g : Nat
  c : Nat
  k : Nat
  t : Nat
  sr : Nat
  e : Nat
  er : Nat
def macAt (s : St) (ms : Nat) : Option MacW := match getE s.env ms with
  | .mptr q _ => match s.m.blks.get q with
    | some (.cells [.int _ a, .int _ b, .int _ d, .mptr g _, .mptr t _, .mptr e _]) => match s.m.blks.get g, s.m.blks.get t, s.m.blks.get e with
      | some (.cells [.mslice _ c _ _, _, .mmap k]), some (.cells [_, .mslice _ sr _ _]), some (.cells [_, .mslice _ er _ _]) => match s.m.blks.get c, s.m.blks.get sr, s.m.blks.get er with
        | some (.rows .commit C), some (.rows .session S), some (.rows .epoch E) => some ⟨⟨a, b, d, C, S, E⟩, q, g, c, k, t, sr, e, er⟩
        | _, _, _ => none
      | _, _, _ => none
    | _ => none
  | _ => none
def revL (n k : Nat) : List Bool := (List.range n).map fun j => decide (1 ≤ j) && decide (j ≤ k)
noncomputable def legI : St → LInv := fun s => match macAt s 3, getE s.env 0, getE s.env 4 with
  | some ⟨x, m, g, c, k, t, sr, e, er⟩, .rslice _ .request l, .mslice _ vr _ _ => { σ := Nat, I := fun i => i ≤ l.length, μ := fun i => l.length - i, env := fun i => [(6, .int .i64 i), (5, .int .i64 (runF x (l.take i)).C.length)], blk := fun i => (vr, .rows .bool (revL (l.length + 2) (runF x (l.take i)).C.length)) :: mB (runF x (l.take i)) m g s.m.next k t (s.m.next + 1) e (s.m.next + 2), fresh := 3, drop := [c, sr, er] }
  | _, _, _ => LInv.none
abbrev ReqL := List RequestD
def legArgs (l : ReqL) : List SV := [.rslice false .request l]
noncomputable def legE : Envr := Env Tryz.prog cod [(24, aw8T.spec), (25, freshT.spec), (26, applyT.spec), (30, mroomT.spec), (31, legalT.spec), (32, comMT.spec), (33, headMT.spec)] [(11, legI)]
end Go.Proofs.YtildflamnehilaaGreat.Ses

namespace Go.Proofs.YtildflamnehilaaGreat.Ses
open Go Go.Proofs Go.Proofs.YtildflamnehilaaGreat.Sx
set_option maxRecDepth 100000

theorem leg_vc (x : ReqL) : evCall legE (ev legE 1000) 5 (legArgs x) ⟨[], 0, []⟩ (fun _ _ => False) (fun v _ => TrueV v) = (
(∃ x1 : Unit,
 (True ∧
 (∀ x2 : Unit,
 (True →
 (∃ x3 : RmA,
 ((x = (RmA.l x3)) ∧
 (((100 : Int) = (RmA.most x3)) ∧
 (True ∧
 (∀ x4 : Unit,
 (True →
 (br (Bool.not (roomM (RmA.l x3) (RmA.most x3)))
 (Bool.true = Bool.true)
 (∃ x5 : Unit,
 (True ∧
 (∀ x6 : Unit,
 (True →
 ((((List.length x) * (128 : Nat)) ≤ room47) →
 (br (Bool.and (decide ((IntKind.wrap IntKind.i64 ((↑(List.length x) : Int) + (2 : Int))) = (IntKind.wrap IntKind.i64 ((↑(List.length x) : Int) + (2 : Int))))) (Bool.and (decide ((0 : Int) ≤ (IntKind.wrap IntKind.i64 ((↑(List.length x) : Int) + (2 : Int))))) (decide ((IntKind.wrap IntKind.i64 ((↑(List.length x) : Int) + (2 : Int))) ≤ (1000000 : Int)))))
 ((∃ x7 : Nat,
 (((0 : Int) = (↑x7 : Int)) ∧
 (((0 : Int) = (↑(List.length (MacS.C (runF (MacS.mk (MacS.alpha fresh0) (MacS.size fresh0) (MacS.applied fresh0) (MacS.C fresh0) (MacS.S fresh0) (MacS.E fresh0)) (List.take x7 x)))) : Int)) ∧
 (((@List.replicate Bool (Int.toNat (IntKind.wrap IntKind.i64 ((↑(List.length x) : Int) + (2 : Int)))) Bool.false) = (revL ((List.length x) + (2 : Nat)) (List.length (MacS.C (runF (MacS.mk (MacS.alpha fresh0) (MacS.size fresh0) (MacS.applied fresh0) (MacS.C fresh0) (MacS.S fresh0) (MacS.E fresh0)) (List.take x7 x)))))) ∧
 (((MacS.alpha fresh0) = (MacS.alpha (runF (MacS.mk (MacS.alpha fresh0) (MacS.size fresh0) (MacS.applied fresh0) (MacS.C fresh0) (MacS.S fresh0) (MacS.E fresh0)) (List.take x7 x)))) ∧
 (((MacS.size fresh0) = (MacS.size (runF (MacS.mk (MacS.alpha fresh0) (MacS.size fresh0) (MacS.applied fresh0) (MacS.C fresh0) (MacS.S fresh0) (MacS.E fresh0)) (List.take x7 x)))) ∧
 (((MacS.applied fresh0) = (MacS.applied (runF (MacS.mk (MacS.alpha fresh0) (MacS.size fresh0) (MacS.applied fresh0) (MacS.C fresh0) (MacS.S fresh0) (MacS.E fresh0)) (List.take x7 x)))) ∧
 (((0 : Nat) = (0 : Nat)) ∧
 (((List.length (MacS.C fresh0)) = (List.length (MacS.C (runF (MacS.mk (MacS.alpha fresh0) (MacS.size fresh0) (MacS.applied fresh0) (MacS.C fresh0) (MacS.S fresh0) (MacS.E fresh0)) (List.take x7 x))))) ∧
 (((treeC (MacS.C fresh0)) = (treeC (MacS.C (runF (MacS.mk (MacS.alpha fresh0) (MacS.size fresh0) (MacS.applied fresh0) (MacS.C fresh0) (MacS.S fresh0) (MacS.E fresh0)) (List.take x7 x))))) ∧
 (((MacS.C fresh0) = (MacS.C (runF (MacS.mk (MacS.alpha fresh0) (MacS.size fresh0) (MacS.applied fresh0) (MacS.C fresh0) (MacS.S fresh0) (MacS.E fresh0)) (List.take x7 x)))) ∧
 (((kvC (MacS.C fresh0)) = (kvC (MacS.C (runF (MacS.mk (MacS.alpha fresh0) (MacS.size fresh0) (MacS.applied fresh0) (MacS.C fresh0) (MacS.S fresh0) (MacS.E fresh0)) (List.take x7 x))))) ∧
 (((MacS.size fresh0) = (MacS.size (runF (MacS.mk (MacS.alpha fresh0) (MacS.size fresh0) (MacS.applied fresh0) (MacS.C fresh0) (MacS.S fresh0) (MacS.E fresh0)) (List.take x7 x)))) ∧
 (((0 : Nat) = (0 : Nat)) ∧
 (((List.length (MacS.S fresh0)) = (List.length (MacS.S (runF (MacS.mk (MacS.alpha fresh0) (MacS.size fresh0) (MacS.applied fresh0) (MacS.C fresh0) (MacS.S fresh0) (MacS.E fresh0)) (List.take x7 x))))) ∧
 (((MacS.S fresh0) = (MacS.S (runF (MacS.mk (MacS.alpha fresh0) (MacS.size fresh0) (MacS.applied fresh0) (MacS.C fresh0) (MacS.S fresh0) (MacS.E fresh0)) (List.take x7 x)))) ∧
 (((MacS.alpha fresh0) = (MacS.alpha (runF (MacS.mk (MacS.alpha fresh0) (MacS.size fresh0) (MacS.applied fresh0) (MacS.C fresh0) (MacS.S fresh0) (MacS.E fresh0)) (List.take x7 x)))) ∧
 (((0 : Nat) = (0 : Nat)) ∧
 (((List.length (MacS.E fresh0)) = (List.length (MacS.E (runF (MacS.mk (MacS.alpha fresh0) (MacS.size fresh0) (MacS.applied fresh0) (MacS.C fresh0) (MacS.S fresh0) (MacS.E fresh0)) (List.take x7 x))))) ∧
 (((MacS.E fresh0) = (MacS.E (runF (MacS.mk (MacS.alpha fresh0) (MacS.size fresh0) (MacS.applied fresh0) (MacS.C fresh0) (MacS.S fresh0) (MacS.E fresh0)) (List.take x7 x)))) ∧
 (Nat.le x7 (List.length x)))))))))))))))))))))) ∧
 (∀ x8 : Nat,
 ((Nat.le x8 (List.length x)) →
 ((((List.length x) * (128 : Nat)) ≤ room47) →
 (br (decide ((↑x8 : Int) < (↑(List.length x) : Int)))
 (br (decide (((0 : Int) ≤ (↑x8 : Int)) ∧
 ((↑x8 : Int) < (↑(List.length x) : Int))))
 (∃ x9 : MacA,
 (((RequestD.kind (List.getD x (Int.toNat (↑x8 : Int)) (RequestD.mk (0 : Int) ([] : List UInt8) (0 : Int) (0 : Int) (0 : Int) ([] : List UInt8) ([] : List ChangeD) ([] : List UInt8) (0 : Int) (0 : Int) (0 : Int)))) = (RequestD.kind (MacA.r x9))) ∧
 (((RequestD.name (List.getD x (Int.toNat (↑x8 : Int)) (RequestD.mk (0 : Int) ([] : List UInt8) (0 : Int) (0 : Int) (0 : Int) ([] : List UInt8) ([] : List ChangeD) ([] : List UInt8) (0 : Int) (0 : Int) (0 : Int)))) = (RequestD.name (MacA.r x9))) ∧
 (((RequestD.session (List.getD x (Int.toNat (↑x8 : Int)) (RequestD.mk (0 : Int) ([] : List UInt8) (0 : Int) (0 : Int) (0 : Int) ([] : List UInt8) ([] : List ChangeD) ([] : List UInt8) (0 : Int) (0 : Int) (0 : Int)))) = (RequestD.session (MacA.r x9))) ∧
 (((RequestD.seq (List.getD x (Int.toNat (↑x8 : Int)) (RequestD.mk (0 : Int) ([] : List UInt8) (0 : Int) (0 : Int) (0 : Int) ([] : List UInt8) ([] : List ChangeD) ([] : List UInt8) (0 : Int) (0 : Int) (0 : Int)))) = (RequestD.seq (MacA.r x9))) ∧
 (((RequestD.base (List.getD x (Int.toNat (↑x8 : Int)) (RequestD.mk (0 : Int) ([] : List UInt8) (0 : Int) (0 : Int) (0 : Int) ([] : List UInt8) ([] : List ChangeD) ([] : List UInt8) (0 : Int) (0 : Int) (0 : Int)))) = (RequestD.base (MacA.r x9))) ∧
 (((RequestD.ref (List.getD x (Int.toNat (↑x8 : Int)) (RequestD.mk (0 : Int) ([] : List UInt8) (0 : Int) (0 : Int) (0 : Int) ([] : List UInt8) ([] : List ChangeD) ([] : List UInt8) (0 : Int) (0 : Int) (0 : Int)))) = (RequestD.ref (MacA.r x9))) ∧
 (((RequestD.changes (List.getD x (Int.toNat (↑x8 : Int)) (RequestD.mk (0 : Int) ([] : List UInt8) (0 : Int) (0 : Int) (0 : Int) ([] : List UInt8) ([] : List ChangeD) ([] : List UInt8) (0 : Int) (0 : Int) (0 : Int)))) = (RequestD.changes (MacA.r x9))) ∧
 (((RequestD.path (List.getD x (Int.toNat (↑x8 : Int)) (RequestD.mk (0 : Int) ([] : List UInt8) (0 : Int) (0 : Int) (0 : Int) ([] : List UInt8) ([] : List ChangeD) ([] : List UInt8) (0 : Int) (0 : Int) (0 : Int)))) = (RequestD.path (MacA.r x9))) ∧
 (((RequestD.from_ (List.getD x (Int.toNat (↑x8 : Int)) (RequestD.mk (0 : Int) ([] : List UInt8) (0 : Int) (0 : Int) (0 : Int) ([] : List UInt8) ([] : List ChangeD) ([] : List UInt8) (0 : Int) (0 : Int) (0 : Int)))) = (RequestD.from_ (MacA.r x9))) ∧
 (((RequestD.many (List.getD x (Int.toNat (↑x8 : Int)) (RequestD.mk (0 : Int) ([] : List UInt8) (0 : Int) (0 : Int) (0 : Int) ([] : List UInt8) ([] : List ChangeD) ([] : List UInt8) (0 : Int) (0 : Int) (0 : Int)))) = (RequestD.many (MacA.r x9))) ∧
 (((RequestD.member (List.getD x (Int.toNat (↑x8 : Int)) (RequestD.mk (0 : Int) ([] : List UInt8) (0 : Int) (0 : Int) (0 : Int) ([] : List UInt8) ([] : List ChangeD) ([] : List UInt8) (0 : Int) (0 : Int) (0 : Int)))) = (RequestD.member (MacA.r x9))) ∧
 (((MacS.alpha (runF (MacS.mk (MacS.alpha fresh0) (MacS.size fresh0) (MacS.applied fresh0) (MacS.C fresh0) (MacS.S fresh0) (MacS.E fresh0)) (List.take x8 x))) = (MacS.alpha (MacA.x x9))) ∧
 (((MacS.size (runF (MacS.mk (MacS.alpha fresh0) (MacS.size fresh0) (MacS.applied fresh0) (MacS.C fresh0) (MacS.S fresh0) (MacS.E fresh0)) (List.take x8 x))) = (MacS.size (MacA.x x9))) ∧
 (((MacS.applied (runF (MacS.mk (MacS.alpha fresh0) (MacS.size fresh0) (MacS.applied fresh0) (MacS.C fresh0) (MacS.S fresh0) (MacS.E fresh0)) (List.take x8 x))) = (MacS.applied (MacA.x x9))) ∧
 (((0 : Nat) = (0 : Nat)) ∧
 (((List.length (MacS.C (runF (MacS.mk (MacS.alpha fresh0) (MacS.size fresh0) (MacS.applied fresh0) (MacS.C fresh0) (MacS.S fresh0) (MacS.E fresh0)) (List.take x8 x)))) = (List.length (MacS.C (MacA.x x9)))) ∧
 (((treeC (MacS.C (runF (MacS.mk (MacS.alpha fresh0) (MacS.size fresh0) (MacS.applied fresh0) (MacS.C fresh0) (MacS.S fresh0) (MacS.E fresh0)) (List.take x8 x)))) = (treeC (MacS.C (MacA.x x9)))) ∧
 (((MacS.C (runF (MacS.mk (MacS.alpha fresh0) (MacS.size fresh0) (MacS.applied fresh0) (MacS.C fresh0) (MacS.S fresh0) (MacS.E fresh0)) (List.take x8 x))) = (MacS.C (MacA.x x9))) ∧
 (((kvC (MacS.C (runF (MacS.mk (MacS.alpha fresh0) (MacS.size fresh0) (MacS.applied fresh0) (MacS.C fresh0) (MacS.S fresh0) (MacS.E fresh0)) (List.take x8 x)))) = (kvC (MacS.C (MacA.x x9)))) ∧
 (((MacS.size (runF (MacS.mk (MacS.alpha fresh0) (MacS.size fresh0) (MacS.applied fresh0) (MacS.C fresh0) (MacS.S fresh0) (MacS.E fresh0)) (List.take x8 x))) = (MacS.size (MacA.x x9))) ∧
 (((0 : Nat) = (0 : Nat)) ∧
 (((List.length (MacS.S (runF (MacS.mk (MacS.alpha fresh0) (MacS.size fresh0) (MacS.applied fresh0) (MacS.C fresh0) (MacS.S fresh0) (MacS.E fresh0)) (List.take x8 x)))) = (List.length (MacS.S (MacA.x x9)))) ∧
 (((MacS.S (runF (MacS.mk (MacS.alpha fresh0) (MacS.size fresh0) (MacS.applied fresh0) (MacS.C fresh0) (MacS.S fresh0) (MacS.E fresh0)) (List.take x8 x))) = (MacS.S (MacA.x x9))) ∧
 (((MacS.alpha (runF (MacS.mk (MacS.alpha fresh0) (MacS.size fresh0) (MacS.applied fresh0) (MacS.C fresh0) (MacS.S fresh0) (MacS.E fresh0)) (List.take x8 x))) = (MacS.alpha (MacA.x x9))) ∧
 (((0 : Nat) = (0 : Nat)) ∧
 (((List.length (MacS.E (runF (MacS.mk (MacS.alpha fresh0) (MacS.size fresh0) (MacS.applied fresh0) (MacS.C fresh0) (MacS.S fresh0) (MacS.E fresh0)) (List.take x8 x)))) = (List.length (MacS.E (MacA.x x9)))) ∧
 (((MacS.E (runF (MacS.mk (MacS.alpha fresh0) (MacS.size fresh0) (MacS.applied fresh0) (MacS.C fresh0) (MacS.S fresh0) (MacS.E fresh0)) (List.take x8 x))) = (MacS.E (MacA.x x9))) ∧
 ((((okMS (MacA.x x9)) = Bool.true) ∧
 ((okRq (MacA.r x9)) = Bool.true)) ∧
 (∀ x10 : Unit,
 (True →
 (br ((VerdictD.code (Prod.fst (applyM (MacA.x x9) (MacA.r x9)))) != (2 : Int))
 (∃ x11 : Nat,
 (((IntKind.wrap IntKind.i64 ((↑x8 : Int) + (1 : Int))) = (↑x11 : Int)) ∧
 (((↑(List.length (MacS.C (runF (MacS.mk (MacS.alpha fresh0) (MacS.size fresh0) (MacS.applied fresh0) (MacS.C fresh0) (MacS.S fresh0) (MacS.E fresh0)) (List.take x8 x)))) : Int) = (↑(List.length (MacS.C (runF (MacS.mk (MacS.alpha fresh0) (MacS.size fresh0) (MacS.applied fresh0) (MacS.C fresh0) (MacS.S fresh0) (MacS.E fresh0)) (List.take x11 x)))) : Int)) ∧
 (((revL ((List.length x) + (2 : Nat)) (List.length (MacS.C (runF (MacS.mk (MacS.alpha fresh0) (MacS.size fresh0) (MacS.applied fresh0) (MacS.C fresh0) (MacS.S fresh0) (MacS.E fresh0)) (List.take x8 x))))) = (revL ((List.length x) + (2 : Nat)) (List.length (MacS.C (runF (MacS.mk (MacS.alpha fresh0) (MacS.size fresh0) (MacS.applied fresh0) (MacS.C fresh0) (MacS.S fresh0) (MacS.E fresh0)) (List.take x11 x)))))) ∧
 (((MacS.alpha (Prod.snd (applyM (MacA.x x9) (MacA.r x9)))) = (MacS.alpha (runF (MacS.mk (MacS.alpha fresh0) (MacS.size fresh0) (MacS.applied fresh0) (MacS.C fresh0) (MacS.S fresh0) (MacS.E fresh0)) (List.take x11 x)))) ∧
 (((MacS.size (Prod.snd (applyM (MacA.x x9) (MacA.r x9)))) = (MacS.size (runF (MacS.mk (MacS.alpha fresh0) (MacS.size fresh0) (MacS.applied fresh0) (MacS.C fresh0) (MacS.S fresh0) (MacS.E fresh0)) (List.take x11 x)))) ∧
 (((MacS.applied (Prod.snd (applyM (MacA.x x9) (MacA.r x9)))) = (MacS.applied (runF (MacS.mk (MacS.alpha fresh0) (MacS.size fresh0) (MacS.applied fresh0) (MacS.C fresh0) (MacS.S fresh0) (MacS.E fresh0)) (List.take x11 x)))) ∧
 (((0 : Nat) = (0 : Nat)) ∧
 (((List.length (MacS.C (Prod.snd (applyM (MacA.x x9) (MacA.r x9))))) = (List.length (MacS.C (runF (MacS.mk (MacS.alpha fresh0) (MacS.size fresh0) (MacS.applied fresh0) (MacS.C fresh0) (MacS.S fresh0) (MacS.E fresh0)) (List.take x11 x))))) ∧
 (((treeC (MacS.C (Prod.snd (applyM (MacA.x x9) (MacA.r x9))))) = (treeC (MacS.C (runF (MacS.mk (MacS.alpha fresh0) (MacS.size fresh0) (MacS.applied fresh0) (MacS.C fresh0) (MacS.S fresh0) (MacS.E fresh0)) (List.take x11 x))))) ∧
 (((MacS.C (Prod.snd (applyM (MacA.x x9) (MacA.r x9)))) = (MacS.C (runF (MacS.mk (MacS.alpha fresh0) (MacS.size fresh0) (MacS.applied fresh0) (MacS.C fresh0) (MacS.S fresh0) (MacS.E fresh0)) (List.take x11 x)))) ∧
 (((kvC (MacS.C (Prod.snd (applyM (MacA.x x9) (MacA.r x9))))) = (kvC (MacS.C (runF (MacS.mk (MacS.alpha fresh0) (MacS.size fresh0) (MacS.applied fresh0) (MacS.C fresh0) (MacS.S fresh0) (MacS.E fresh0)) (List.take x11 x))))) ∧
 (((MacS.size (Prod.snd (applyM (MacA.x x9) (MacA.r x9)))) = (MacS.size (runF (MacS.mk (MacS.alpha fresh0) (MacS.size fresh0) (MacS.applied fresh0) (MacS.C fresh0) (MacS.S fresh0) (MacS.E fresh0)) (List.take x11 x)))) ∧
 (((0 : Nat) = (0 : Nat)) ∧
 (((List.length (MacS.S (Prod.snd (applyM (MacA.x x9) (MacA.r x9))))) = (List.length (MacS.S (runF (MacS.mk (MacS.alpha fresh0) (MacS.size fresh0) (MacS.applied fresh0) (MacS.C fresh0) (MacS.S fresh0) (MacS.E fresh0)) (List.take x11 x))))) ∧
 (((MacS.S (Prod.snd (applyM (MacA.x x9) (MacA.r x9)))) = (MacS.S (runF (MacS.mk (MacS.alpha fresh0) (MacS.size fresh0) (MacS.applied fresh0) (MacS.C fresh0) (MacS.S fresh0) (MacS.E fresh0)) (List.take x11 x)))) ∧
 (((MacS.alpha (Prod.snd (applyM (MacA.x x9) (MacA.r x9)))) = (MacS.alpha (runF (MacS.mk (MacS.alpha fresh0) (MacS.size fresh0) (MacS.applied fresh0) (MacS.C fresh0) (MacS.S fresh0) (MacS.E fresh0)) (List.take x11 x)))) ∧
 (((0 : Nat) = (0 : Nat)) ∧
 (((List.length (MacS.E (Prod.snd (applyM (MacA.x x9) (MacA.r x9))))) = (List.length (MacS.E (runF (MacS.mk (MacS.alpha fresh0) (MacS.size fresh0) (MacS.applied fresh0) (MacS.C fresh0) (MacS.S fresh0) (MacS.E fresh0)) (List.take x11 x))))) ∧
 (((MacS.E (Prod.snd (applyM (MacA.x x9) (MacA.r x9)))) = (MacS.E (runF (MacS.mk (MacS.alpha fresh0) (MacS.size fresh0) (MacS.applied fresh0) (MacS.C fresh0) (MacS.S fresh0) (MacS.E fresh0)) (List.take x11 x)))) ∧
 ((Nat.le x11 (List.length x)) ∧
 ((Nat.sub (List.length x) x11) < (Nat.sub (List.length x) x8)))))))))))))))))))))))
 (br (decide ((VerdictD.rev (Prod.fst (applyM (MacA.x x9) (MacA.r x9)))) < (1 : Int)))
 (Bool.false = Bool.true)
 ((((List.length x) * (128 : Nat)) ≤ room47) →
 (br (decide ((VerdictD.rev (Prod.fst (applyM (MacA.x x9) (MacA.r x9)))) > (↑(List.length x) : Int)))
 (Bool.false = Bool.true)
 (br (decide (((0 : Int) ≤ (VerdictD.rev (Prod.fst (applyM (MacA.x x9) (MacA.r x9))))) ∧
 ((VerdictD.rev (Prod.fst (applyM (MacA.x x9) (MacA.r x9)))) < (↑(Int.toNat (IntKind.wrap IntKind.i64 ((↑(List.length x) : Int) + (2 : Int)))) : Int))))
 (br (decide (((0 : Nat) + (Int.toNat (VerdictD.rev (Prod.fst (applyM (MacA.x x9) (MacA.r x9)))))) < (List.length (revL ((List.length x) + (2 : Nat)) (List.length (MacS.C (runF (MacS.mk (MacS.alpha fresh0) (MacS.size fresh0) (MacS.applied fresh0) (MacS.C fresh0) (MacS.S fresh0) (MacS.E fresh0)) (List.take x8 x))))))))
 (br (Bool.not (List.getD (revL ((List.length x) + (2 : Nat)) (List.length (MacS.C (runF (MacS.mk (MacS.alpha fresh0) (MacS.size fresh0) (MacS.applied fresh0) (MacS.C fresh0) (MacS.S fresh0) (MacS.E fresh0)) (List.take x8 x))))) ((0 : Nat) + (Int.toNat (VerdictD.rev (Prod.fst (applyM (MacA.x x9) (MacA.r x9)))))) Bool.false))
 (br (decide (((0 : Int) ≤ (VerdictD.rev (Prod.fst (applyM (MacA.x x9) (MacA.r x9))))) ∧
 ((VerdictD.rev (Prod.fst (applyM (MacA.x x9) (MacA.r x9)))) < (↑(Int.toNat (IntKind.wrap IntKind.i64 ((↑(List.length x) : Int) + (2 : Int)))) : Int))))
 (br (Bool.and Bool.true (decide (((0 : Nat) + (Int.toNat (VerdictD.rev (Prod.fst (applyM (MacA.x x9) (MacA.r x9)))))) < (List.length (revL ((List.length x) + (2 : Nat)) (List.length (MacS.C (runF (MacS.mk (MacS.alpha fresh0) (MacS.size fresh0) (MacS.applied fresh0) (MacS.C fresh0) (MacS.S fresh0) (MacS.E fresh0)) (List.take x8 x)))))))))
 (∃ x12 : Nat,
 (((IntKind.wrap IntKind.i64 ((↑x8 : Int) + (1 : Int))) = (↑x12 : Int)) ∧
 (((IntKind.wrap IntKind.i64 ((↑(List.length (MacS.C (runF (MacS.mk (MacS.alpha fresh0) (MacS.size fresh0) (MacS.applied fresh0) (MacS.C fresh0) (MacS.S fresh0) (MacS.E fresh0)) (List.take x8 x)))) : Int) + (1 : Int))) = (↑(List.length (MacS.C (runF (MacS.mk (MacS.alpha fresh0) (MacS.size fresh0) (MacS.applied fresh0) (MacS.C fresh0) (MacS.S fresh0) (MacS.E fresh0)) (List.take x12 x)))) : Int)) ∧
 (((List.set (revL ((List.length x) + (2 : Nat)) (List.length (MacS.C (runF (MacS.mk (MacS.alpha fresh0) (MacS.size fresh0) (MacS.applied fresh0) (MacS.C fresh0) (MacS.S fresh0) (MacS.E fresh0)) (List.take x8 x))))) ((0 : Nat) + (Int.toNat (VerdictD.rev (Prod.fst (applyM (MacA.x x9) (MacA.r x9)))))) Bool.true) = (revL ((List.length x) + (2 : Nat)) (List.length (MacS.C (runF (MacS.mk (MacS.alpha fresh0) (MacS.size fresh0) (MacS.applied fresh0) (MacS.C fresh0) (MacS.S fresh0) (MacS.E fresh0)) (List.take x12 x)))))) ∧
 (((MacS.alpha (Prod.snd (applyM (MacA.x x9) (MacA.r x9)))) = (MacS.alpha (runF (MacS.mk (MacS.alpha fresh0) (MacS.size fresh0) (MacS.applied fresh0) (MacS.C fresh0) (MacS.S fresh0) (MacS.E fresh0)) (List.take x12 x)))) ∧
 (((MacS.size (Prod.snd (applyM (MacA.x x9) (MacA.r x9)))) = (MacS.size (runF (MacS.mk (MacS.alpha fresh0) (MacS.size fresh0) (MacS.applied fresh0) (MacS.C fresh0) (MacS.S fresh0) (MacS.E fresh0)) (List.take x12 x)))) ∧
 (((MacS.applied (Prod.snd (applyM (MacA.x x9) (MacA.r x9)))) = (MacS.applied (runF (MacS.mk (MacS.alpha fresh0) (MacS.size fresh0) (MacS.applied fresh0) (MacS.C fresh0) (MacS.S fresh0) (MacS.E fresh0)) (List.take x12 x)))) ∧
 (((0 : Nat) = (0 : Nat)) ∧
 (((List.length (MacS.C (Prod.snd (applyM (MacA.x x9) (MacA.r x9))))) = (List.length (MacS.C (runF (MacS.mk (MacS.alpha fresh0) (MacS.size fresh0) (MacS.applied fresh0) (MacS.C fresh0) (MacS.S fresh0) (MacS.E fresh0)) (List.take x12 x))))) ∧
 (((treeC (MacS.C (Prod.snd (applyM (MacA.x x9) (MacA.r x9))))) = (treeC (MacS.C (runF (MacS.mk (MacS.alpha fresh0) (MacS.size fresh0) (MacS.applied fresh0) (MacS.C fresh0) (MacS.S fresh0) (MacS.E fresh0)) (List.take x12 x))))) ∧
 (((MacS.C (Prod.snd (applyM (MacA.x x9) (MacA.r x9)))) = (MacS.C (runF (MacS.mk (MacS.alpha fresh0) (MacS.size fresh0) (MacS.applied fresh0) (MacS.C fresh0) (MacS.S fresh0) (MacS.E fresh0)) (List.take x12 x)))) ∧
 (((kvC (MacS.C (Prod.snd (applyM (MacA.x x9) (MacA.r x9))))) = (kvC (MacS.C (runF (MacS.mk (MacS.alpha fresh0) (MacS.size fresh0) (MacS.applied fresh0) (MacS.C fresh0) (MacS.S fresh0) (MacS.E fresh0)) (List.take x12 x))))) ∧
 (((MacS.size (Prod.snd (applyM (MacA.x x9) (MacA.r x9)))) = (MacS.size (runF (MacS.mk (MacS.alpha fresh0) (MacS.size fresh0) (MacS.applied fresh0) (MacS.C fresh0) (MacS.S fresh0) (MacS.E fresh0)) (List.take x12 x)))) ∧
 (((0 : Nat) = (0 : Nat)) ∧
 (((List.length (MacS.S (Prod.snd (applyM (MacA.x x9) (MacA.r x9))))) = (List.length (MacS.S (runF (MacS.mk (MacS.alpha fresh0) (MacS.size fresh0) (MacS.applied fresh0) (MacS.C fresh0) (MacS.S fresh0) (MacS.E fresh0)) (List.take x12 x))))) ∧
 (((MacS.S (Prod.snd (applyM (MacA.x x9) (MacA.r x9)))) = (MacS.S (runF (MacS.mk (MacS.alpha fresh0) (MacS.size fresh0) (MacS.applied fresh0) (MacS.C fresh0) (MacS.S fresh0) (MacS.E fresh0)) (List.take x12 x)))) ∧
 (((MacS.alpha (Prod.snd (applyM (MacA.x x9) (MacA.r x9)))) = (MacS.alpha (runF (MacS.mk (MacS.alpha fresh0) (MacS.size fresh0) (MacS.applied fresh0) (MacS.C fresh0) (MacS.S fresh0) (MacS.E fresh0)) (List.take x12 x)))) ∧
 (((0 : Nat) = (0 : Nat)) ∧
 (((List.length (MacS.E (Prod.snd (applyM (MacA.x x9) (MacA.r x9))))) = (List.length (MacS.E (runF (MacS.mk (MacS.alpha fresh0) (MacS.size fresh0) (MacS.applied fresh0) (MacS.C fresh0) (MacS.S fresh0) (MacS.E fresh0)) (List.take x12 x))))) ∧
 (((MacS.E (Prod.snd (applyM (MacA.x x9) (MacA.r x9)))) = (MacS.E (runF (MacS.mk (MacS.alpha fresh0) (MacS.size fresh0) (MacS.applied fresh0) (MacS.C fresh0) (MacS.S fresh0) (MacS.E fresh0)) (List.take x12 x)))) ∧
 ((Nat.le x12 (List.length x)) ∧
 ((Nat.sub (List.length x) x12) < (Nat.sub (List.length x) x8)))))))))))))))))))))))
 (Bad "check" "law.go:153"))
 (Bad "check" "law.go:153"))
 (br (decide (((0 : Int) ≤ (VerdictD.rev (Prod.fst (applyM (MacA.x x9) (MacA.r x9))))) ∧
 ((VerdictD.rev (Prod.fst (applyM (MacA.x x9) (MacA.r x9)))) < (↑(Int.toNat (IntKind.wrap IntKind.i64 ((↑(List.length x) : Int) + (2 : Int)))) : Int))))
 (br (Bool.and Bool.true (decide (((0 : Nat) + (Int.toNat (VerdictD.rev (Prod.fst (applyM (MacA.x x9) (MacA.r x9)))))) < (List.length (revL ((List.length x) + (2 : Nat)) (List.length (MacS.C (runF (MacS.mk (MacS.alpha fresh0) (MacS.size fresh0) (MacS.applied fresh0) (MacS.C fresh0) (MacS.S fresh0) (MacS.E fresh0)) (List.take x8 x)))))))))
 (∃ x13 : Nat,
 (((IntKind.wrap IntKind.i64 ((↑x8 : Int) + (1 : Int))) = (↑x13 : Int)) ∧
 (((↑(List.length (MacS.C (runF (MacS.mk (MacS.alpha fresh0) (MacS.size fresh0) (MacS.applied fresh0) (MacS.C fresh0) (MacS.S fresh0) (MacS.E fresh0)) (List.take x8 x)))) : Int) = (↑(List.length (MacS.C (runF (MacS.mk (MacS.alpha fresh0) (MacS.size fresh0) (MacS.applied fresh0) (MacS.C fresh0) (MacS.S fresh0) (MacS.E fresh0)) (List.take x13 x)))) : Int)) ∧
 (((List.set (revL ((List.length x) + (2 : Nat)) (List.length (MacS.C (runF (MacS.mk (MacS.alpha fresh0) (MacS.size fresh0) (MacS.applied fresh0) (MacS.C fresh0) (MacS.S fresh0) (MacS.E fresh0)) (List.take x8 x))))) ((0 : Nat) + (Int.toNat (VerdictD.rev (Prod.fst (applyM (MacA.x x9) (MacA.r x9)))))) Bool.true) = (revL ((List.length x) + (2 : Nat)) (List.length (MacS.C (runF (MacS.mk (MacS.alpha fresh0) (MacS.size fresh0) (MacS.applied fresh0) (MacS.C fresh0) (MacS.S fresh0) (MacS.E fresh0)) (List.take x13 x)))))) ∧
 (((MacS.alpha (Prod.snd (applyM (MacA.x x9) (MacA.r x9)))) = (MacS.alpha (runF (MacS.mk (MacS.alpha fresh0) (MacS.size fresh0) (MacS.applied fresh0) (MacS.C fresh0) (MacS.S fresh0) (MacS.E fresh0)) (List.take x13 x)))) ∧
 (((MacS.size (Prod.snd (applyM (MacA.x x9) (MacA.r x9)))) = (MacS.size (runF (MacS.mk (MacS.alpha fresh0) (MacS.size fresh0) (MacS.applied fresh0) (MacS.C fresh0) (MacS.S fresh0) (MacS.E fresh0)) (List.take x13 x)))) ∧
 (((MacS.applied (Prod.snd (applyM (MacA.x x9) (MacA.r x9)))) = (MacS.applied (runF (MacS.mk (MacS.alpha fresh0) (MacS.size fresh0) (MacS.applied fresh0) (MacS.C fresh0) (MacS.S fresh0) (MacS.E fresh0)) (List.take x13 x)))) ∧
 (((0 : Nat) = (0 : Nat)) ∧
 (((List.length (MacS.C (Prod.snd (applyM (MacA.x x9) (MacA.r x9))))) = (List.length (MacS.C (runF (MacS.mk (MacS.alpha fresh0) (MacS.size fresh0) (MacS.applied fresh0) (MacS.C fresh0) (MacS.S fresh0) (MacS.E fresh0)) (List.take x13 x))))) ∧
 (((treeC (MacS.C (Prod.snd (applyM (MacA.x x9) (MacA.r x9))))) = (treeC (MacS.C (runF (MacS.mk (MacS.alpha fresh0) (MacS.size fresh0) (MacS.applied fresh0) (MacS.C fresh0) (MacS.S fresh0) (MacS.E fresh0)) (List.take x13 x))))) ∧
 (((MacS.C (Prod.snd (applyM (MacA.x x9) (MacA.r x9)))) = (MacS.C (runF (MacS.mk (MacS.alpha fresh0) (MacS.size fresh0) (MacS.applied fresh0) (MacS.C fresh0) (MacS.S fresh0) (MacS.E fresh0)) (List.take x13 x)))) ∧
 (((kvC (MacS.C (Prod.snd (applyM (MacA.x x9) (MacA.r x9))))) = (kvC (MacS.C (runF (MacS.mk (MacS.alpha fresh0) (MacS.size fresh0) (MacS.applied fresh0) (MacS.C fresh0) (MacS.S fresh0) (MacS.E fresh0)) (List.take x13 x))))) ∧
 (((MacS.size (Prod.snd (applyM (MacA.x x9) (MacA.r x9)))) = (MacS.size (runF (MacS.mk (MacS.alpha fresh0) (MacS.size fresh0) (MacS.applied fresh0) (MacS.C fresh0) (MacS.S fresh0) (MacS.E fresh0)) (List.take x13 x)))) ∧
 (((0 : Nat) = (0 : Nat)) ∧
 (((List.length (MacS.S (Prod.snd (applyM (MacA.x x9) (MacA.r x9))))) = (List.length (MacS.S (runF (MacS.mk (MacS.alpha fresh0) (MacS.size fresh0) (MacS.applied fresh0) (MacS.C fresh0) (MacS.S fresh0) (MacS.E fresh0)) (List.take x13 x))))) ∧
 (((MacS.S (Prod.snd (applyM (MacA.x x9) (MacA.r x9)))) = (MacS.S (runF (MacS.mk (MacS.alpha fresh0) (MacS.size fresh0) (MacS.applied fresh0) (MacS.C fresh0) (MacS.S fresh0) (MacS.E fresh0)) (List.take x13 x)))) ∧
 (((MacS.alpha (Prod.snd (applyM (MacA.x x9) (MacA.r x9)))) = (MacS.alpha (runF (MacS.mk (MacS.alpha fresh0) (MacS.size fresh0) (MacS.applied fresh0) (MacS.C fresh0) (MacS.S fresh0) (MacS.E fresh0)) (List.take x13 x)))) ∧
 (((0 : Nat) = (0 : Nat)) ∧
 (((List.length (MacS.E (Prod.snd (applyM (MacA.x x9) (MacA.r x9))))) = (List.length (MacS.E (runF (MacS.mk (MacS.alpha fresh0) (MacS.size fresh0) (MacS.applied fresh0) (MacS.C fresh0) (MacS.S fresh0) (MacS.E fresh0)) (List.take x13 x))))) ∧
 (((MacS.E (Prod.snd (applyM (MacA.x x9) (MacA.r x9)))) = (MacS.E (runF (MacS.mk (MacS.alpha fresh0) (MacS.size fresh0) (MacS.applied fresh0) (MacS.C fresh0) (MacS.S fresh0) (MacS.E fresh0)) (List.take x13 x)))) ∧
 ((Nat.le x13 (List.length x)) ∧
 ((Nat.sub (List.length x) x13) < (Nat.sub (List.length x) x8)))))))))))))))))))))))
 (Bad "check" "law.go:153"))
 (Bad "check" "law.go:153")))
 (Bad "check" "law.go:150"))
 (Bad "check" "law.go:150")))))))))))))))))))))))))))))))))))))
 (Bad "check" "law.go:143"))
 (∃ x14 : MacS,
 (((MacS.alpha (runF (MacS.mk (MacS.alpha fresh0) (MacS.size fresh0) (MacS.applied fresh0) (MacS.C fresh0) (MacS.S fresh0) (MacS.E fresh0)) (List.take x8 x))) = (MacS.alpha x14)) ∧
 (((MacS.size (runF (MacS.mk (MacS.alpha fresh0) (MacS.size fresh0) (MacS.applied fresh0) (MacS.C fresh0) (MacS.S fresh0) (MacS.E fresh0)) (List.take x8 x))) = (MacS.size x14)) ∧
 (((MacS.applied (runF (MacS.mk (MacS.alpha fresh0) (MacS.size fresh0) (MacS.applied fresh0) (MacS.C fresh0) (MacS.S fresh0) (MacS.E fresh0)) (List.take x8 x))) = (MacS.applied x14)) ∧
 (((0 : Nat) = (0 : Nat)) ∧
 (((List.length (MacS.C (runF (MacS.mk (MacS.alpha fresh0) (MacS.size fresh0) (MacS.applied fresh0) (MacS.C fresh0) (MacS.S fresh0) (MacS.E fresh0)) (List.take x8 x)))) = (List.length (MacS.C x14))) ∧
 (((treeC (MacS.C (runF (MacS.mk (MacS.alpha fresh0) (MacS.size fresh0) (MacS.applied fresh0) (MacS.C fresh0) (MacS.S fresh0) (MacS.E fresh0)) (List.take x8 x)))) = (treeC (MacS.C x14))) ∧
 (((MacS.C (runF (MacS.mk (MacS.alpha fresh0) (MacS.size fresh0) (MacS.applied fresh0) (MacS.C fresh0) (MacS.S fresh0) (MacS.E fresh0)) (List.take x8 x))) = (MacS.C x14)) ∧
 (((kvC (MacS.C (runF (MacS.mk (MacS.alpha fresh0) (MacS.size fresh0) (MacS.applied fresh0) (MacS.C fresh0) (MacS.S fresh0) (MacS.E fresh0)) (List.take x8 x)))) = (kvC (MacS.C x14))) ∧
 (((MacS.size (runF (MacS.mk (MacS.alpha fresh0) (MacS.size fresh0) (MacS.applied fresh0) (MacS.C fresh0) (MacS.S fresh0) (MacS.E fresh0)) (List.take x8 x))) = (MacS.size x14)) ∧
 (((0 : Nat) = (0 : Nat)) ∧
 (((List.length (MacS.S (runF (MacS.mk (MacS.alpha fresh0) (MacS.size fresh0) (MacS.applied fresh0) (MacS.C fresh0) (MacS.S fresh0) (MacS.E fresh0)) (List.take x8 x)))) = (List.length (MacS.S x14))) ∧
 (((MacS.S (runF (MacS.mk (MacS.alpha fresh0) (MacS.size fresh0) (MacS.applied fresh0) (MacS.C fresh0) (MacS.S fresh0) (MacS.E fresh0)) (List.take x8 x))) = (MacS.S x14)) ∧
 (((MacS.alpha (runF (MacS.mk (MacS.alpha fresh0) (MacS.size fresh0) (MacS.applied fresh0) (MacS.C fresh0) (MacS.S fresh0) (MacS.E fresh0)) (List.take x8 x))) = (MacS.alpha x14)) ∧
 (((0 : Nat) = (0 : Nat)) ∧
 (((List.length (MacS.E (runF (MacS.mk (MacS.alpha fresh0) (MacS.size fresh0) (MacS.applied fresh0) (MacS.C fresh0) (MacS.S fresh0) (MacS.E fresh0)) (List.take x8 x)))) = (List.length (MacS.E x14))) ∧
 (((MacS.E (runF (MacS.mk (MacS.alpha fresh0) (MacS.size fresh0) (MacS.applied fresh0) (MacS.C fresh0) (MacS.S fresh0) (MacS.E fresh0)) (List.take x8 x))) = (MacS.E x14)) ∧
 (((fewG (MacS.C x14)) = Bool.true) ∧
 (∀ x15 : Unit,
 (True →
 (∃ x16 : (List CommitD),
 (((MacS.C x14) = x16) ∧
 ((OkC x16) ∧
 (∀ x17 : Unit,
 (True →
 (∃ x18 : MacS,
 (((MacS.alpha x14) = (MacS.alpha x18)) ∧
 (((MacS.size x14) = (MacS.size x18)) ∧
 (((MacS.applied x14) = (MacS.applied x18)) ∧
 (((0 : Nat) = (0 : Nat)) ∧
 (((List.length (MacS.C x14)) = (List.length (MacS.C x18))) ∧
 (((treeC (MacS.C x14)) = (treeC (MacS.C x18))) ∧
 (((MacS.C x14) = (MacS.C x18)) ∧
 (((kvC (MacS.C x14)) = (kvC (MacS.C x18))) ∧
 (((MacS.size x14) = (MacS.size x18)) ∧
 (((0 : Nat) = (0 : Nat)) ∧
 (((List.length (MacS.S x14)) = (List.length (MacS.S x18))) ∧
 (((MacS.S x14) = (MacS.S x18)) ∧
 (((MacS.alpha x14) = (MacS.alpha x18)) ∧
 (((0 : Nat) = (0 : Nat)) ∧
 (((List.length (MacS.E x14)) = (List.length (MacS.E x18))) ∧
 (((MacS.E x14) = (MacS.E x18)) ∧
 (True ∧
 (∀ x19 : Unit,
 (True →
 (((↑(List.length (MacS.C (runF (MacS.mk (MacS.alpha fresh0) (MacS.size fresh0) (MacS.applied fresh0) (MacS.C fresh0) (MacS.S fresh0) (MacS.E fresh0)) (List.take x8 x)))) : Int) == (↑(List.length (MacS.C x18)) : Int)) = Bool.true)))))))))))))))))))))))))))))))))))))))))))))))))))
 (Bad "check" "law.go:140"))))))))))))))))))) := by kernel_rfl

end Go.Proofs.YtildflamnehilaaGreat.Ses

namespace Go.Proofs.YtildflamnehilaaGreat.Ses
open Go Go.Proofs Go.Proofs.YtildflamnehilaaGreat.Sx

/-! ### what sessions keep -/

def LastOk (S : List SessionD) (c : Nat) : Prop := ∀ s, s ∈ S → s.last.code = 2 → 1 ≤ s.last.rev ∧ s.last.rev ≤ c
theorem LastOk.le {S : List SessionD} {a b : Nat} (h : LastOk S a) (hab : a ≤ b) : LastOk S b := fun s hs hc => by
  have := h s hs hc
  omega
theorem out_mem {l : List SessionD} {i : Int} {s : SessionD} (h : s ∈ outL l i) : s ∈ l := by
  unfold outL at h
  rcases List.mem_append.1 h with h | h
  · exact List.mem_of_mem_take h
  · exact List.mem_of_mem_drop h
theorem used_mem {l : List SessionD} {i : Int} (hi : 0 ≤ i ∧ i < l.length) {s : SessionD} (h : s ∈ usedL l i) : s ∈ l := by
  unfold usedL at h
  rcases List.mem_append.1 h with h | h
  · exact out_mem h
  · have : s = atL l i := by simpa using h
    subst this
    exact getD_mem (by omega)
theorem open_mem {x : OpenA} {s : SessionD} (h : s ∈ (openL x).2) : s ∈ x.l ∨ s.last = VerdictD.dflt := by
  have b1 := idxF_lt (nameIs x.name) x.l
  unfold openL at h
  dsimp only at h
  by_cases q : idxF (nameIs x.name) x.l < 0
  · rw [decide_eq_true q] at h
    simp only [cond_true] at h
    rcases List.mem_append.1 h with h | h
    · refine .inl ?_
      have hl1 : ∀ s, s ∈ (bif decide (idxF (idIs x.id) x.l < 0) then x.l else outL x.l (idxF (idIs x.id) x.l)) → s ∈ x.l := fun s hs => by
        cases hq : decide (idxF (idIs x.id) x.l < 0)
        · rw [hq] at hs; exact out_mem hs
        · rw [hq] at hs; exact hs
      generalize (bif decide (idxF (idIs x.id) x.l < 0) then x.l else outL x.l (idxF (idIs x.id) x.l)) = l1 at h hl1
      cases hq : decide ((l1.length : Int) = x.size)
      · rw [hq] at h; exact hl1 s h
      · rw [hq] at h; exact hl1 s (out_mem h)
    · have : s = ⟨x.id, 0, x.name, .dflt⟩ := by simpa using h
      subst this
      exact .inr rfl
  · rw [decide_eq_false q] at h
    exact .inl (used_mem ⟨by omega, b1.2⟩ h)
theorem ask_mem {x : AskA} {s : SessionD} (h : s ∈ (askL x).2) : s ∈ x.l := by
  have b1 := idxF_lt (idIs x.id) x.l
  unfold askL at h
  dsimp only at h
  by_cases q : idxF (idIs x.id) x.l < 0
  · rw [decide_eq_true q] at h; exact h
  · rw [decide_eq_false q] at h
    exact used_mem ⟨by omega, b1.2⟩ h
theorem ask_says {x : AskA} (h : (askL x).1.1.code = 2) : ∃ s, s ∈ x.l ∧ (askL x).1.1 = s.last := by
  have b1 := idxF_lt (idIs x.id) x.l
  revert h
  unfold askL
  dsimp only
  by_cases q : idxF (idIs x.id) x.l < 0
  · rw [decide_eq_true q]; intro h; cases h
  · rw [decide_eq_false q]
    simp only [cond_false]
    cases decide (x.seq < 1)
    · cases decide (x.seq < (atL x.l (idxF (idIs x.id) x.l)).seq)
      · cases decide (x.seq = (atL x.l (idxF (idIs x.id) x.l)).seq)
        · intro h; cases h
        · intro _; exact ⟨atL x.l (idxF (idIs x.id) x.l), getD_mem (by omega), rfl⟩
      · intro h; cases h
    · intro h; cases h
theorem done_mem {x : DoneA} {s : SessionD} (h : s ∈ (doneL x).2) : s ∈ x.l ∨ s.last = x.v := by
  unfold doneL at h
  dsimp only at h
  cases hq : (decide (idxF (idIs x.id) x.l < 0) || decide (x.seq ≤ (atL x.l (idxF (idIs x.id) x.l)).seq))
  · rw [hq] at h
    rcases List.mem_or_eq_of_mem_set h with h | h
    · exact .inl h
    · subst h; exact .inr rfl
  · rw [hq] at h
    exact .inl h

/-! ### what a verdict says of commits -/

/-- of a verdict, and the commits ahead of it and behind it -/
structure SaysC (v : VerdictD) (C D : List CommitD) : Prop where
  not : ¬ v.code = 2 → D = C
  two : v.code = 2 → (D = C ∧ 1 ≤ v.rev ∧ v.rev ≤ C.length) ∨ (D.length = C.length + 1 ∧ v.rev = (C.length : Int) + 1)
theorem SaysC.plain {v : VerdictD} {C : List CommitD} (h : ¬ v.code = 2) : SaysC v C C := ⟨fun _ => rfl, fun e => absurd e h⟩
theorem land_says (x : LandA) : SaysC (landV x) x.C (landC x) := by
  refine ⟨fun h => ?_, fun h => ?_⟩
  · cases hb : badLd x
    · by_cases ha : x.base > x.C.length
      · exact (land_ahead hb ha).2
      · cases hc : confA x with
        | none => exact absurd (by rw [(land_in hb ha hc).1]; rfl) h
        | some q => exact (land_conf hb ha hc).2
    · exact (land_bad hb).2
  · obtain ⟨_, hV, hC⟩ := land_two h
    rw [hV, hC]
    exact .inr ⟨by simp, rfl⟩
theorem read_code (x : ReadA) : ¬ (readV x).code = 2 := by
  unfold readV
  cases (!(normB x.p == some x.p))
  · simp only [cond_false]
    cases getL x.p (rowC x.C) with
    | none => intro h; cases h
    | some y =>
      cases hg : y.gone
      · simp only [hg, cond_false]; decide
      · simp only [hg, cond_true]; decide
  · intro h; cases h
theorem log_code (x : LogA) : ¬ (logV x).code = 2 := by
  unfold logV
  cases (decide (x.frm < 1) || decide (x.many < 1)) <;> (intro h; cases h)
theorem how_says (x : MacS) (r : RequestD) : SaysC (howM x r).1 x.C (howM x r).2.C := by
  unfold howM
  cases r.kind == 2
  · cases r.kind == 3
    · cases r.kind == 4
      · cases r.kind == 5
        · have hchg : ∀ add code, ¬ code = (2 : Int) → SaysC (chgM x r add code).1 x.C (chgM x r add code).2.C := fun add code hcd => by
            refine SaysC.plain ?_
            show ¬ (bif (chgE ⟨x.alpha, x.E, x.applied, r.member, add⟩).1 != 0 then (14 : Int) else code) = 2
            cases ((chgE ⟨x.alpha, x.E, x.applied, r.member, add⟩).1 != 0)
            · exact hcd
            · intro h; cases h
          cases r.kind == 6
          · cases r.kind == 7
            · exact SaysC.plain (by intro h; cases h)
            · exact hchg _ _ (by decide)
          · exact hchg _ _ (by decide)
        · exact SaysC.plain (log_code _)
      · exact SaysC.plain (read_code _)
    · exact SaysC.plain (by intro h; cases h)
  · exact land_says ⟨x.C, r.base, r.ref, r.changes⟩
theorem SaysC.len {v : VerdictD} {C D : List CommitD} (h : SaysC v C D) : C.length ≤ D.length := by
  by_cases hc : v.code = 2
  · rcases h.two hc with ⟨e, _⟩ | ⟨e, _⟩
    · rw [e]; exact Nat.le_refl _
    · omega
  · rw [h.not hc]; exact Nat.le_refl _
theorem do_says {x : MacS} (h : LastOk x.S x.C.length) (r : RequestD) : SaysC (doM x r).1 x.C (doM x r).2.C ∧ LastOk (doM x r).2.S (doM x r).2.C.length := by
  have hask : LastOk (askM x r).2 x.C.length := fun s hs => h s (ask_mem (x := ⟨x.size, x.S, r.session, r.seq⟩) hs)
  unfold doM
  cases r.kind == 0
  · cases r.kind == 1
    · cases (askM x r).1.2
      · have hh := how_says (withS x (askM x r).2) r
        have hlen := hh.len
        refine ⟨hh, fun s hs hc => ?_⟩
        rcases done_mem (x := ⟨x.size, (askM x r).2, r.session, r.seq, (howM (withS x (askM x r).2) r).1⟩) hs with hs | hs
        · exact (hask.le hlen) s hs hc
        · rw [hs] at hc ⊢
          show 1 ≤ (howM (withS x (askM x r).2) r).1.rev ∧ (howM (withS x (askM x r).2) r).1.rev ≤ ((howM (withS x (askM x r).2) r).2.C.length : Int)
          have hc : (howM (withS x (askM x r).2) r).1.code = 2 := hc
          rcases hh.two hc with ⟨e, e1, e2⟩ | ⟨e, e1⟩
          · rw [e]; exact ⟨e1, e2⟩
          · rw [e, e1]
            have : (0 : Int) ≤ ((withS x (askM x r).2).C.length : Int) := by omega
            exact ⟨by omega, by omega⟩
      · refine ⟨⟨fun _ => rfl, fun hc => .inl ⟨rfl, ?_⟩⟩, hask⟩
        obtain ⟨s, hs, e⟩ := ask_says (x := ⟨x.size, x.S, r.session, r.seq⟩) hc
        have hc : (askM x r).1.1.code = 2 := hc
        have e : (askM x r).1.1 = s.last := e
        show 1 ≤ (askM x r).1.1.rev ∧ (askM x r).1.1.rev ≤ (x.C.length : Int)
        rw [e] at hc ⊢
        exact h s hs hc
    · cases wordOk r.name false
      · exact ⟨SaysC.plain (by intro h; cases h), h⟩
      · refine ⟨SaysC.plain (by intro h; cases h), fun s hs hc => ?_⟩
        rcases open_mem (x := ⟨x.size, x.S, r.name, x.applied + 1⟩) hs with hs | hs
        · exact h s hs hc
        · rw [hs] at hc; cases hc
  · exact ⟨SaysC.plain (by intro h; cases h), h⟩
structure MLg (n : Nat) (x : MacS) : Prop where
  ok : MOk n x
  la : LastOk x.S x.C.length
theorem MLg.step {n : Nat} {x : MacS} (h : MLg n x) (hn : n < 1099511627776) (r : RequestD) : MLg (n + 1) (applyM x r).2 ∧ SaysC (applyM x r).1 x.C (applyM x r).2.C := by
  have hd := do_says h.la r
  refine ⟨⟨h.ok.step hn r, ?_⟩, ?_⟩
  · rw [apply_eq h.ok hn r]
    exact hd.2
  · rw [apply_eq h.ok hn r]
    exact hd.1
theorem mlg_zero : MLg 0 fresh0 := ⟨mok_zero, fun s hs => by cases hs⟩
theorem MOk.legal {n : Nat} {x : MacS} (h : MOk n x) (hn : n ≤ 4000) : OkC x.C ∧ x.C.length ≤ n := by
  obtain ⟨d, d1, d2⟩ := h.c
  have hg := goC_ok d (by omega)
  rw [d2]
  exact ⟨hg.ok, by have := hg.len; omega⟩
end Go.Proofs.YtildflamnehilaaGreat.Ses

namespace Go.Proofs.YtildflamnehilaaGreat.Ses
open Go Go.Proofs Go.Proofs.YtildflamnehilaaGreat.Sx

theorem run_snoc (x : MacS) (l : List RequestD) (r : RequestD) : runF x (l ++ [r]) = (applyM (runF x l) r).2 := by
  unfold runF
  rw [List.foldl_append]
  rfl
theorem run_at {l : List RequestD} {i : Nat} (h : i < l.length) : runF fresh0 (l.take (i + 1)) = (applyM (runF fresh0 (l.take i)) (l.getD i noR0)).2 := by
  rw [take_succ_getD noR0 h, run_snoc]
theorem runG_ok (l : List RequestD) : l.length ≤ 4000 → MLg l.length (runF fresh0 l) := by
  refine snocL (p := fun l => l.length ≤ 4000 → MLg l.length (runF fresh0 l)) (fun _ => mlg_zero) (fun l r ih h => ?_) l
  have h : l.length + 1 ≤ 4000 := by simpa using h
  rw [run_snoc, List.length_append]
  exact ((ih (by omega)).step (by omega) r).1
theorem okQ_of {r : RequestD} (h : okQ r = true) (hi : inI r.from_ = true) : okRq r = true := by
  unfold okQ at h
  simp only [Bool.and_eq_true, decide_eq_true_eq, List.all_eq_true] at h
  unfold okRq
  have e1 : shortC r.changes = true := List.all_eq_true.2 fun c hc => decide_eq_true (by have := h.2.2.2.2 c hc; omega)
  have e2 : shortB r.path = true := decide_eq_true (by omega)
  rw [hi, e1, e2]
  rfl
theorem roomM_of {l : List RequestD} {m : Int} (h : roomM l m = true) : (l.length : Int) ≤ m ∧ ∀ r, r ∈ l → okQ r = true := by
  unfold roomM at h
  simp only [Bool.and_eq_true, decide_eq_true_eq, List.all_eq_true] at h
  exact h
theorem rev_len (n k : Nat) : (revL n k).length = n := by unfold revL; simp
theorem rev_get {n k j : Nat} (h : j < n) : (revL n k).getD j false = (decide (1 ≤ j) && decide (j ≤ k)) := by
  unfold revL
  simp [List.getD, h]
theorem rev_ext {a : List Bool} {n k : Nat} (hl : a.length = n) (h : ∀ j, j < n → a.getD j false = (decide (1 ≤ j) && decide (j ≤ k))) : a = revL n k := by
  apply List.ext_getElem?
  intro j
  by_cases hj : j < n
  · have h1 := h j hj
    have h2 := rev_get (n := n) (k := k) hj
    rw [← h2] at h1
    have ha : j < a.length := by omega
    have hb : j < (revL n k).length := by rw [rev_len]; exact hj
    rw [List.getElem?_eq_getElem ha, List.getElem?_eq_getElem hb]
    have e1 : a.getD j false = a[j] := by simp [List.getD, ha]
    have e2 : (revL n k).getD j false = (revL n k)[j] := by simp [List.getD, hb]
    rw [e1, e2] at h1
    rw [h1]
  · rw [List.getElem?_eq_none (by omega), List.getElem?_eq_none (by rw [rev_len]; omega)]
theorem rev_zero (n : Nat) : List.replicate n false = revL n 0 := by
  refine rev_ext (by simp) fun j hj => ?_
  have : (List.replicate n false).getD j false = false := by simp [List.getD, List.getElem?_replicate, hj]
  rw [this]
  by_cases h : 1 ≤ j
  · rw [decide_eq_false (by omega : ¬ j ≤ 0), Bool.and_false]
  · rw [decide_eq_false h]; rfl
theorem rev_set {n k j k2 : Nat} (hj : j < n) (h : ∀ i, i < n → (if i = j then true else (decide (1 ≤ i) && decide (i ≤ k))) = (decide (1 ≤ i) && decide (i ≤ k2))) : (revL n k).set j true = revL n k2 := by
  refine rev_ext (by rw [List.length_set, rev_len]) fun i hi => ?_
  rw [← h i hi]
  by_cases e : i = j
  · subst e
    rw [if_pos rfl]
    simp [List.getD, rev_len, hi]
  · rw [if_neg e, ← rev_get (k := k) hi]
    simp [List.getD, Ne.symm e]
theorem leg_ok : EnvOK legE := Env_ok (by decide +kernel) (by
  intro p hp
  simp only [List.mem_cons, List.mem_nil_iff, or_false] at hp
  rcases hp with rfl | rfl | rfl | rfl | rfl | rfl | rfl
  · exact aw8_ok
  · exact fresh_ok
  · exact apply_ok echg_ok
  · exact mroom_ok
  · exact legal_ok
  · exact comM_ok
  · exact headM_ok)
set_option maxHeartbeats 0 in
theorem leg_body (l : ReqL) (hl : ∀ r, r ∈ l → inI r.from_ = true) : evCall legE (ev legE 1000) 5 (legArgs l) ⟨[], 0, []⟩ (fun _ _ => False) (fun v _ => TrueV v) := by
  rw [leg_vc]
  revert hl
  revert l
  intro (l : List RequestD) hl
  have ef : MacS.mk (MacS.alpha fresh0) (MacS.size fresh0) (MacS.applied fresh0) (MacS.C fresh0) (MacS.S fresh0) (MacS.E fresh0) = fresh0 := rfl
  rw [ef]
  refine ⟨(), trivial, fun _ _ => ⟨⟨l, 100⟩, rfl, rfl, trivial, fun _ _ => br_i (fun _ => rfl) fun hr => ⟨(), trivial, fun _ _ hroom => ?_⟩⟩⟩
  rw [Bool.not_eq_false'] at hr
  obtain ⟨l100, lQ⟩ := roomM_of hr
  have l100 : (l.length : Int) ≤ 100 := l100
  have w5 : IntKind.i64.wrap ((l.length : Int) + 2) = ((l.length + 2 : Nat) : Int) := by rw [wrap_id (by omega) (by omega)]; omega
  rw [w5]
  have w6 : ((l.length + 2 : Nat) : Int).toNat = l.length + 2 := by omega
  rw [w6]
  refine br_t (by simp; omega) ⟨⟨0, rfl, rfl, rev_zero _, rfl, rfl, rfl, rfl, rfl, rfl, rfl, rfl, rfl, rfl, rfl, rfl, rfl, rfl, rfl, rfl, Nat.zero_le _⟩, fun i hi _ => br_i (fun h1 => ?_) (fun h1 => ?_)⟩
  · have h1 := of_decide_eq_true h1
    have bi : decide ((0 : Int) ≤ (i : Int) ∧ (i : Int) < (l.length : Int)) = true := decide_eq_true ⟨by omega, h1⟩
    have e0 : (i : Int).toNat = i := rfl
    rw [e0]
    have eg : l.getD i ⟨0, [], 0, 0, 0, [], [], [], 0, 0, 0⟩ = l.getD i noR0 := rfl
    rw [eg]
    have hgo := run_at (l := l) (i := i) (by omega)
    have htl : (l.take i).length = i := by rw [List.length_take]; omega
    have hG := runG_ok (l.take i) (by omega)
    rw [htl] at hG
    have hmem : l.getD i noR0 ∈ l := getD_mem (by omega)
    have okr := okQ_of (lQ _ hmem) (hl _ hmem)
    have okm := hG.ok.ok (by omega)
    generalize l.getD i noR0 = r at hgo okr ⊢
    obtain ⟨hN, hS⟩ := hG.step (by omega) r
    have hDl := (hN.ok.legal (by omega)).2
    have hCl := (hG.ok.legal (by omega)).2
    generalize runF fresh0 (l.take i) = y at hgo okm hS hDl hCl ⊢
    have hw : IntKind.i64.wrap ((i : Int) + 1) = ((i + 1 : Nat) : Int) := by rw [wrap_id (by omega) (by omega)]; rfl
    have hle : (i + 1).le l.length := by show i + 1 ≤ l.length; omega
    have hms : l.length.sub (i + 1) < l.length.sub i := by show l.length - (i + 1) < l.length - i; omega
    refine br_t bi ⟨⟨y, r⟩, rfl, rfl, rfl, rfl, rfl, rfl, rfl, rfl, rfl, rfl, rfl, rfl, rfl, rfl, rfl, rfl, rfl, rfl, rfl, rfl, rfl, rfl, rfl, rfl, rfl, rfl, rfl, ⟨okm, okr⟩, fun _ _ => br_i (fun hne => ⟨i + 1, hw, ?_⟩) (fun heq => ?_)⟩
    · have hD := hS.not (by simpa using hne)
      rw [hgo]
      exact ⟨by rw [hD], by rw [hD], rfl, rfl, rfl, rfl, rfl, rfl, rfl, rfl, rfl, rfl, rfl, rfl, rfl, rfl, rfl, rfl, hle, hms⟩
    have heq : (applyM y r).1.code = 2 := by simpa using heq
    dsimp only
    rcases hS.two heq with ⟨hD, v1, v2⟩ | ⟨hD, hv⟩
    · obtain ⟨j, hj⟩ := Int.eq_ofNat_of_zero_le (show 0 ≤ (applyM y r).1.rev by omega)
      rw [hj] at v1 v2 ⊢
      have ej : 0 + (j : Int).toNat = j := by simp
      rw [ej]
      have bj : decide ((0 : Int) ≤ (j : Int) ∧ (j : Int) < ((l.length + 2 : Nat) : Int)) = true := decide_eq_true ⟨by omega, by omega⟩
      have bk : decide (j < (revL (l.length + 2) y.C.length).length) = true := by rw [rev_len]; exact decide_eq_true (by omega)
      have hget : (revL (l.length + 2) y.C.length).getD j false = true := by rw [rev_get (by omega), decide_eq_true (by omega), decide_eq_true (by omega)]; rfl
      refine br_f (decide_eq_false (by omega)) fun _ => br_f (decide_eq_false (by omega)) (br_t bj (br_t bk (br_f (by rw [hget]; rfl) (br_t bj (br_t (by rw [Bool.true_and]; exact bk) ⟨i + 1, hw, ?_⟩)))))
      rw [hgo]
      refine ⟨by rw [hD], ?_, rfl, rfl, rfl, rfl, rfl, rfl, rfl, rfl, rfl, rfl, rfl, rfl, rfl, rfl, rfl, rfl, hle, hms⟩
      rw [hD]
      refine rev_set (by omega) fun q hq => ?_
      by_cases e : q = j
      · rw [if_pos e, decide_eq_true (by omega), decide_eq_true (by omega)]; rfl
      · rw [if_neg e]
    · have hj : (applyM y r).1.rev = ((y.C.length + 1 : Nat) : Int) := by rw [hv]; omega
      rw [hj]
      have ej : 0 + ((y.C.length + 1 : Nat) : Int).toNat = y.C.length + 1 := by omega
      rw [ej]
      have bj : decide ((0 : Int) ≤ ((y.C.length + 1 : Nat) : Int) ∧ ((y.C.length + 1 : Nat) : Int) < ((l.length + 2 : Nat) : Int)) = true := decide_eq_true ⟨by omega, by omega⟩
      have bk : decide (y.C.length + 1 < (revL (l.length + 2) y.C.length).length) = true := by rw [rev_len]; exact decide_eq_true (by omega)
      have hget : (revL (l.length + 2) y.C.length).getD (y.C.length + 1) false = false := by rw [rev_get (by omega), decide_eq_false (by omega : ¬ y.C.length + 1 ≤ y.C.length), Bool.and_false]
      refine br_f (decide_eq_false (by omega)) fun _ => br_f (decide_eq_false (by omega)) (br_t bj (br_t bk (br_t (by rw [hget]; rfl) (br_t bj (br_t (by rw [Bool.true_and]; exact bk) ⟨i + 1, hw, ?_⟩)))))
      rw [hgo]
      refine ⟨by rw [hD, wrap_id (by omega) (by omega)]; omega, ?_, rfl, rfl, rfl, rfl, rfl, rfl, rfl, rfl, rfl, rfl, rfl, rfl, rfl, rfl, rfl, rfl, hle, hms⟩
      rw [hD]
      refine rev_set (by omega) fun q hq => ?_
      by_cases e : q = y.C.length + 1
      · rw [if_pos e, decide_eq_true (by omega), decide_eq_true (by omega)]; rfl
      · rw [if_neg e]
        by_cases e1 : 1 ≤ q
        · by_cases e2 : q ≤ y.C.length
          · rw [decide_eq_true e2, decide_eq_true (by omega : q ≤ y.C.length + 1)]
          · rw [decide_eq_false e2, decide_eq_false (by omega : ¬ q ≤ y.C.length + 1)]
        · rw [decide_eq_false e1]; rfl
  have h1 := of_decide_eq_false h1
  have hi : i ≤ l.length := hi
  rw [List.take_of_length_le (by omega)]
  have hG := runG_ok l (by omega)
  have hlg := (hG.ok.legal (by omega)).1
  generalize runF fresh0 l = y at hG hlg ⊢
  refine ⟨y, rfl, rfl, rfl, rfl, rfl, rfl, rfl, rfl, rfl, rfl, rfl, rfl, rfl, rfl, rfl, rfl, hG.ok.few (by omega), fun _ _ => ⟨y.C, rfl, hlg, fun _ _ => ⟨y, rfl, rfl, rfl, rfl, rfl, rfl, rfl, rfl, rfl, rfl, rfl, rfl, rfl, rfl, rfl, rfl, trivial, fun _ _ => ?_⟩⟩⟩
  simp
end Go.Proofs.YtildflamnehilaaGreat.Ses

namespace Go.Proofs.YtildflamnehilaaGreat.Sx
open Go Go.RowKit Go.ChangeShapes Go.WideShapes

section
variable {H : Type} {en : TypeId × Value → H} {P : Program} {w : World}

/-- a slice -/
theorem opens_sliceP {t e : TypeId} {c : Tc} {ok : c.den → Prop} (ht : P.underlying t = some (.slice e)) (he : Opens en P w e (fun a : {a : c.den // ok a} => Sx.enc c a.1)) (hc : P.cellsOf e = c.width) (hb : P.bytesOf e = c.bytes) :
    Opens en P w t (fun l : {l : List c.den // ∀ x, x ∈ l → ok x} => [.rslice false c l.1]) := by
  intro m cs x hx hw
  have hc0 : 0 < c.width := by cases c <;> decide
  rcases DataW.trod_slice ht hx with ⟨rfl, rfl⟩ | ⟨a, len, cap, elems, rest, n, rfl, rfl, rfl, _, hle, _, hel, helem, hspare, _⟩
  · exact ⟨⟨[], fun x hx => (nomatch hx)⟩, fun β => .cons (.rnil _ _) (RepL.nil _)⟩
  · simp only [DataW.weights, ht, List.all_cons, List.all_append, Bool.and_eq_true, decide_eq_true_eq, List.length_map] at hw
    obtain ⟨hw0, hw1, _⟩ := hw
    have hbytes : len * c.bytes ≤ room47 := by
      have h1 : len * P.bytesOf e ≤ (elems.length + rest.length) * P.bytesOf e := Nat.mul_le_mul_right _ (by omega)
      have h2 : reachBytes < 2 ^ 47 := reachBytes_lt
      rw [← hb]
      have : room47 = 2 ^ 47 := rfl
      omega
    rcases Nat.eq_zero_or_pos cap with h0 | hpos
    · have : len = 0 := by omega
      subst this
      subst h0
      exact ⟨⟨[], fun x hx => (nomatch hx)⟩, fun β => .cons (.rnil _ _) (RepL.nil _)⟩
    · have hread : ∃ y, (w.cells? 0 a (P.cellsOf e)).bind (DataW.trod en P w 0 (fun _ => true) true n e) = some y := by
        rcases Nat.eq_zero_or_pos len with h1 | h1
        · obtain ⟨hrl, hr⟩ := hspare rfl
          have := hr 0 (by omega)
          have hlt : 0 < rest.length := by omega
          rw [List.getElem?_eq_getElem hlt] at this
          subst h1
          simp [Addr.add] at this
          exact ⟨_, this⟩
        · have := helem 0 h1
          have hlt : 0 < elems.length := by omega
          rw [List.getElem?_eq_getElem hlt] at this
          simp [Addr.add] at this
          exact ⟨_, this⟩
      have hsp : a = ⟨a.block, a.off, none⟩ := by
        obtain ⟨y, hy⟩ := hread
        cases hcs : w.cells? 0 a (P.cellsOf e) with
        | none => rw [hcs] at hy; simp at hy
        | some l0 =>
          obtain ⟨_, hl, hg⟩ := World.cells?_some hcs
          have h1 := hg 0 (by omega)
          have hlt : 0 < l0.length := by omega
          rw [List.getElem?_eq_getElem hlt] at h1
          simp only [Addr.add, if_true] at h1
          unfold World.cell? at h1
          obtain ⟨b, o, s⟩ := a
          cases s with
          | none => rfl
          | some s =>
            simp only at h1
            split at h1 <;> simp at h1
      have hadd : ∀ k, a.add k = ⟨a.block, a.off + k, none⟩ := by
        intro k
        unfold Addr.add
        split
        · rename_i hk; subst hk; exact hsp
        · rfl
      have each : ∀ i, i < len → ∃ (p : {a : c.den // ok a} × List Value), p.2.length = c.width ∧ (∀ β, RepL ⟨β, wholeΓ w⟩ (Sx.enc c p.1.1) p.2) ∧ ∀ (j : Nat) v, p.2[j]? = some v → w.cell? ⟨a.block, a.off + (i * c.width + j), none⟩ = some v := by
        intro i hi
        have h1 := helem i hi
        have hlt : i < elems.length := by omega
        rw [List.getElem?_eq_getElem hlt] at h1
        cases hcs : w.cells? 0 (a.add (i * P.cellsOf e)) (P.cellsOf e) with
        | none => rw [hcs] at h1; simp at h1
        | some l0 =>
          rw [hcs] at h1
          simp only [Option.bind_some] at h1
          obtain ⟨_, hl, hg⟩ := World.cells?_some hcs
          obtain ⟨d, hd⟩ := he n l0 _ h1 (weightsAll_mem hw1 _ (List.mem_map.2 ⟨elems[i], List.getElem_mem hlt, rfl⟩))
          refine ⟨(d, l0), by rw [← hc]; exact hl, hd, fun j v hv => ?_⟩
          have hj : j < l0.length := (List.getElem?_eq_some_iff.1 hv).1
          have := hg j (by omega)
          rw [hv, hadd] at this
          unfold Addr.add at this
          split at this
          · rename_i hj0; subst hj0; rw [hc] at this; simpa using this
          · rw [hc] at this
            simp only at this
            rw [← this, Nat.add_assoc]
      obtain ⟨ps, hpl, hp⟩ := choose_list (β := Unit) len each
      refine ⟨⟨ps.map (·.1.1), fun x hx => by obtain ⟨p, _, rfl⟩ := List.mem_map.1 hx; exact p.1.2⟩, fun β => .cons ?_ (RepL.nil _)⟩
      dsimp only
      rw [hsp]
      have := Rep.rslice (g := ⟨β, wholeΓ w⟩) false c (ps.map (·.1.1)) a.block a.off cap (fun i => match ps[i]? with | some p => p.2 | none => List.replicate c.width undef) (by simp [hpl]; exact hle) (by simp [hpl]; exact hbytes) (fun i => by
        cases hi : ps[i]? with
        | none => simp
        | some p => exact (hp i p hi).1) (fun i x hx j sv v h1 h2 => by
        rw [List.getElem?_map] at hx
        cases hi : ps[i]? with
        | none => rw [hi] at hx; simp at hx
        | some p =>
          rw [hi] at hx h2
          simp at hx
          subst hx
          exact ((hp i p hi).2.1 β).2 j sv v h1 h2) (fun i hi j v h1 => by
        cases hq : ps[i]? with
        | none => rw [List.getElem?_eq_none_iff] at hq; simp at hi; omega
        | some p =>
          rw [hq] at h1
          exact (hp i p hq).2.2 j v h1)
      simp only [List.length_map, hpl] at this
      exact this


theorem opens_intw {t : TypeId} {k : IntKind} (ht : P.underlying t = some (.int k)) : Opens en P w t (fun n : {n : Int // (Lit.int k n).wf = true} => [.int k n.1]) := by
  intro m cs x hx _
  obtain ⟨n, rfl, _, hw⟩ := DataW.trod_int ht hx
  exact ⟨⟨n, hw⟩, fun β => .cons (.int k n) (RepL.nil _)⟩
/-- an argument that is a slice of what is so -/
theorem arg_sliceP {H : Type} {en : TypeId × Value → H} {P : Program} {w : World} {t e : TypeId} {c : Tc} {ok : c.den → Prop} {v : Value} {d : DataW H} {ps : List MemPlace} {r : Reach} {b0 : Nat} (ht : P.underlying t = some (.slice e))
    (ho : Opens en P w t (fun l : {l : List c.den // ∀ x, x ∈ l → ok x} => [.rslice false c l.1])) (hval : Value.okWide P w r b0 t v) (hd : DataW.Trod en P w 0 (fun _ => true) true t v d ps) (hw : (d.weights P t).all (· ≤ reachBytes) = true) :
    ∃ l : {l : List c.den // ∀ x, x ∈ l → ok x}, ∀ β, Rep ⟨β, wholeΓ w⟩ (.rslice false c l.1) v := by
  obtain ⟨a, len, cap, rfl⟩ := okWide_slice ht hval
  obtain ⟨fuel, hf⟩ := hd
  obtain ⟨l, hl⟩ := ho fuel _ _ hf hw
  exact ⟨l, fun β => (hl β).2 0 _ _ rfl rfl⟩
end
end Go.Proofs.YtildflamnehilaaGreat.Sx
namespace Go.Proofs.YtildflamnehilaaGreat.Ses
open Go Go.Proofs Go.Proofs.YtildflamnehilaaGreat.Sx

theorem inI_wf {n : Int} (h : (Lit.int .i64 n).wf = true) : inI n = true := by
  simp [Lit.wf, IntKind.min, IntKind.max, IntKind.signed, IntKind.bits] at h
  exact decide_eq_true h.2
section
variable {H : Type} {en : TypeId × Value → H} {w : World}
theorem opens_in {t : TypeId} (ht : Tryz.prog.underlying t = some (.int .i64)) : Opens en Tryz.prog w t (fun n : {n : Int // inI n = true} => [.int .i64 n.1]) :=
  (opens_intw ht).map (fun a => ⟨a.1, inI_wf a.2⟩) (fun _ => rfl)
abbrev RqIn := {r : RequestD // inI r.from_ = true}
theorem op_request : Opens en Tryz.prog w 54 (fun r : RqIn => enc .request r.1) :=
  (opens_struct Tryz.underlying54 (by kernel_rfl) (opensF_cons (sz := 1) rfl (by kernel_rfl) (opens_int Tryz.underlying3) (opensF_cons (sz := 1) rfl (by kernel_rfl) (opens_str Tryz.underlying9) (opensF_cons (sz := 1) rfl (by kernel_rfl) (opens_int Tryz.underlying3) (opensF_cons (sz := 1) rfl (by kernel_rfl) (opens_int Tryz.underlying3) (opensF_cons (sz := 1) rfl (by kernel_rfl) (opens_int Tryz.underlying3)
    (opensF_cons (sz := 1) rfl (by kernel_rfl) (opens_str Tryz.underlying9) (opensF_cons (sz := 1) rfl (by kernel_rfl) op_changes (opensF_cons (sz := 1) rfl (by kernel_rfl) (opens_str Tryz.underlying9) (opensF_cons (sz := 1) rfl (by kernel_rfl) (opens_in Tryz.underlying3) (opensF_cons (sz := 1) rfl (by kernel_rfl) (opens_int Tryz.underlying3) (opensF_cons (sz := 1) rfl (by kernel_rfl) (opens_int Tryz.underlying3) opensF_nil)))))))))))).map
    (fun a => (⟨⟨a.1, a.2.1, a.2.2.1, a.2.2.2.1, a.2.2.2.2.1, a.2.2.2.2.2.1, a.2.2.2.2.2.2.1, a.2.2.2.2.2.2.2.1, a.2.2.2.2.2.2.2.2.1.1, a.2.2.2.2.2.2.2.2.2.1, a.2.2.2.2.2.2.2.2.2.2.1⟩, a.2.2.2.2.2.2.2.2.1.2⟩ : RqIn)) (fun _ => rfl)
theorem op_requests : Opens en Tryz.prog w 60 (fun l : {l : List RequestD // ∀ x, x ∈ l → inI x.from_ = true} => [.rslice false .request l.1]) := opens_sliceP (c := .request) (ok := fun r : RequestD => inI r.from_ = true) Tryz.underlying60 op_request (by kernel_rfl) (by kernel_rfl)
end
end Go.Proofs.YtildflamnehilaaGreat.Ses
