/- Whatever is applied: a machine in plain words; who only looks; the law MachineReads. No condition. -/
import Derived.Test.YtildflamnehilaaGreatMsC
import Derived.KernelRfl
set_option linter.unusedSimpArgs false
set_option linter.unusedVariables false

namespace Go.Proofs.YtildflamnehilaaGreat.Ses
open Go Go.Proofs Go.Proofs.YtildflamnehilaaGreat.Sx

/-! ### members that may be -/

theorem upE_len : ∀ {M : List Int} {a : Int}, upE a M = true → -1 ≤ a → a ≤ 14 → (M.length : Int) ≤ 14 - a
  | [], a, _, _, h2 => by simp; omega
  | m :: r, a, h, h1, h2 => by
    unfold upE at h
    simp only [Bool.and_eq_true, decide_eq_true_eq] at h
    have := upE_len (M := r) (a := m) h.2.2 (by omega) (by omega)
    simp only [List.length_cons]
    omega
theorem upE_low {M : List Int} {a b : Int} (h : upE a M = true) (hb : b ≤ a) : upE b M = true := by
  cases M with
  | nil => rfl
  | cons m r =>
    unfold upE at h ⊢
    simp only [Bool.and_eq_true, decide_eq_true_eq] at h ⊢
    exact ⟨by omega, h.2⟩
theorem upE_del : ∀ {M : List Int} {a : Int} (k : Nat), upE a M = true → upE a (M.take k ++ M.drop (k + 1)) = true
  | [], a, k, h => by simpa using h
  | m :: r, a, 0, h => by
    unfold upE at h
    simp only [Bool.and_eq_true, decide_eq_true_eq] at h
    show upE a r = true
    exact upE_low h.2.2 (by omega)
  | m :: r, a, k + 1, h => by
    unfold upE at h
    simp only [Bool.and_eq_true, decide_eq_true_eq] at h
    show upE a (m :: (r.take k ++ r.drop (k + 1))) = true
    unfold upE
    simp only [Bool.and_eq_true, decide_eq_true_eq]
    exact ⟨h.1, h.2.1, upE_del k h.2.2⟩
theorem cnt_zero {r : List Int} {y m : Int} (h : upE y r = true) (hm : m ≤ y) : r.countP (· < m) = 0 := by
  rw [List.countP_eq_zero]
  intro z hz
  have := (upE_all h).1 z hz
  simp
  omega
theorem upE_ins : ∀ {M : List Int} {a m : Int}, upE a M = true → a < m → m < 15 → m ∉ M → upE a (insM M m) = true
  | [], a, m, _, h1, h2, _ => by
    show upE a [m] = true
    unfold upE upE
    simp only [Bool.and_eq_true, decide_eq_true_eq]
    exact ⟨h1, h2, trivial⟩
  | y :: r, a, m, h, h1, h2, h3 => by
    unfold upE at h
    simp only [Bool.and_eq_true, decide_eq_true_eq] at h
    have hne : y ≠ m := fun e => h3 (by rw [e]; exact List.mem_cons_self ..)
    rcases Int.lt_or_le y m with hlt | hge
    · have e : insM (y :: r) m = y :: insM r m := by
        unfold insM
        rw [List.countP_cons_of_pos (by simpa using hlt)]
        rfl
      rw [e]
      unfold upE
      simp only [Bool.and_eq_true, decide_eq_true_eq]
      exact ⟨h.1, h.2.1, upE_ins h.2.2 hlt h2 fun hm => h3 (List.mem_cons_of_mem _ hm)⟩
    · have e : insM (y :: r) m = m :: y :: r := by
        unfold insM
        rw [List.countP_cons_of_neg (by simp; omega), cnt_zero h.2.2 (by omega)]
        rfl
      rw [e]
      unfold upE upE
      simp only [Bool.and_eq_true, decide_eq_true_eq]
      exact ⟨h1, h2, by omega, h.2.1, h.2.2⟩
theorem mayE_mk {M : List Int} (h1 : 1 ≤ M.length) (h : upE (-1) M = true) : mayE M = true := by
  unfold mayE
  have := upE_len h (by omega) (by omega)
  rw [h, decide_eq_true h1, decide_eq_true (by omega : M.length ≤ 15)]; rfl
theorem mayE_up {M : List Int} (h : mayE M = true) : upE (-1) M = true := by
  unfold mayE at h
  simp only [Bool.and_eq_true] at h
  exact h.2.2
theorem chg_may {x : ChgA} (h : ∀ p, p ∈ x.E → mayE p.members = true) (h1 : 1 ≤ x.E.length) {B : Int} (hf : ∀ p, p ∈ x.E → p.from_ ≤ B) (hs : x.slot + x.alpha ≤ B) : ∀ p, p ∈ (chgE x).2 → mayE p.members = true ∧ p.from_ ≤ B := by
  have hold : ∀ p, p ∈ x.E → mayE p.members = true ∧ p.from_ ≤ B := fun p hp => ⟨h p hp, hf p hp⟩
  have hl : lastEp x.E ∈ x.E := getD_mem (by omega)
  have hlm := mayE_up (h _ hl)
  have hlk := mayE_of (h _ hl)
  unfold chgE
  dsimp only
  cases q1 : (decide (x.slot < 0) || (decide (x.slot > 1099511627776 - x.alpha) || (decide (x.member < 0) || decide (x.member ≥ 15))))
  · cases q2 : decide ((lastEp x.E).from_ > x.slot)
    · cases q3 : (x.add && (lastEp x.E).members.contains x.member)
      · cases q4 : (!x.add && !((lastEp x.E).members.contains x.member))
        · cases q5 : (!x.add && decide ((lastEp x.E).members.length = 1))
          · simp only [Bool.or_eq_false_iff, decide_eq_false_iff_not] at q1
            intro p hp
            simp only [cond_false] at hp
            rcases List.mem_append.1 hp with hp | hp
            · exact hold p hp
            · have : p = ⟨x.slot + x.alpha, bif x.add then insM (lastEp x.E).members x.member else delM (lastEp x.E).members x.member⟩ := by simpa using hp
              subst this
              refine ⟨?_, hs⟩
              cases ha : x.add
              · rw [ha] at q5
                simp only [Bool.not_false, Bool.true_and, decide_eq_false_iff_not] at q5
                show mayE (delM (lastEp x.E).members x.member) = true
                refine mayE_mk ?_ (upE_del _ hlm)
                unfold delM
                rw [List.length_append, List.length_take, List.length_drop]
                omega
              · rw [ha] at q3
                simp only [Bool.true_and] at q3
                have hni : x.member ∉ (lastEp x.E).members := fun hm => by
                  rw [List.contains_iff_mem.2 hm] at q3
                  cases q3
                show mayE (insM (lastEp x.E).members x.member) = true
                refine mayE_mk ?_ (upE_ins hlm (by omega) (by omega) hni)
                unfold insM
                rw [List.length_append, List.length_cons]
                omega
          · exact hold
        · exact hold
      · exact hold
    · exact hold
  · exact hold
theorem cut_mem {E : List EpochD} {s : Int} {p : EpochD} (h : p ∈ cutE E s) : p ∈ E := List.mem_of_mem_drop h
theorem cut_len {E : List EpochD} {s : Int} (h : 1 ≤ E.length) : 1 ≤ (cutE E s).length ∧ (cutE E s).length ≤ E.length := by
  have := atN_lt E s E.length (by omega)
  unfold cutE
  rw [List.length_drop]
  omega
/-! ### sessions -/

theorem open_len {x : OpenA} (h0 : 0 < x.size) (h : (x.l.length : Int) ≤ x.size) : ((openL x).2.length : Int) ≤ x.size := by
  have b1 := idxF_lt (nameIs x.name) x.l
  have b2 := idxF_lt (idIs x.id) x.l
  unfold openL
  dsimp only
  by_cases q : idxF (nameIs x.name) x.l < 0
  · rw [decide_eq_true q]
    simp only [cond_true]
    rw [List.length_append]
    generalize hl1 : (bif decide (idxF (idIs x.id) x.l < 0) then x.l else outL x.l (idxF (idIs x.id) x.l)) = l1
    have h1 : (l1.length : Int) ≤ x.size := by
      rw [← hl1]
      by_cases q2 : idxF (idIs x.id) x.l < 0
      · rw [decide_eq_true q2]; exact h
      · rw [decide_eq_false q2]
        show ((outL x.l (idxF (idIs x.id) x.l)).length : Int) ≤ x.size
        rw [outL_length ⟨by omega, b2.2⟩]
        omega
    by_cases q3 : (l1.length : Int) = x.size
    · rw [decide_eq_true q3]
      show ((outL l1 0).length + 1 : Int) ≤ x.size
      rw [outL_length ⟨by omega, by omega⟩]
      omega
    · rw [decide_eq_false q3]
      show ((l1.length + 1 : Nat) : Int) ≤ x.size
      omega
  · rw [decide_eq_false q]
    show ((usedL x.l (idxF (nameIs x.name) x.l)).length : Int) ≤ x.size
    rw [usedL_length ⟨by omega, b1.2⟩]
    exact h
theorem done_len {x : DoneA} : (doneL x).2.length = x.l.length := by
  unfold doneL
  dsimp only
  cases (decide (idxF (idIs x.id) x.l < 0) || decide (x.seq ≤ (atL x.l (idxF (idIs x.id) x.l)).seq))
  · simp
  · rfl

def noR0 : RequestD := ⟨0, [], 0, 0, 0, [], [], [], 0, 0, 0⟩

/-! ### the machine, whatever is applied -/

structure MOk (n : Nat) (x : MacS) : Prop where
  al : x.alpha = 2
  sz : x.size = 3
  ap : x.applied = n
  c : ∃ d : List Deed5D, d.length ≤ n ∧ x.C = goC d
  s : x.S.length ≤ 3
  e1 : 1 ≤ x.E.length
  eM : x.E.length ≤ n + 1
  em : ∀ p, p ∈ x.E → mayE p.members = true ∧ p.from_ ≤ (n : Int) + 1
theorem mok_zero : MOk 0 fresh0 := ⟨rfl, rfl, rfl, ⟨[], Nat.le_refl _, rfl⟩, by decide, by decide, by decide, fun p hp => by
  have : p = ⟨0, [0, 1, 2]⟩ := by simpa [fresh0] using hp
  subst this
  exact ⟨by decide, by decide⟩⟩
/-- what a request makes of commits and epochs -/
structure DoOk (n : Nat) (y : MacS) : Prop where
  c : ∃ d : List Deed5D, d.length ≤ n + 1 ∧ y.C = goC d
  s : y.S.length ≤ 3
  e1 : 1 ≤ y.E.length
  eM : y.E.length ≤ n + 2
  em : ∀ p, p ∈ y.E → mayE p.members = true ∧ p.from_ ≤ (n : Int) + 2
theorem MOk.toDo {n : Nat} {x : MacS} (h : MOk n x) : DoOk n x := by
  obtain ⟨d, h1, h2⟩ := h.c
  exact ⟨⟨d, by omega, h2⟩, h.s, h.e1, by have := h.eM; omega, fun p hp => ⟨(h.em p hp).1, by have := (h.em p hp).2; omega⟩⟩
theorem how_do {n : Nat} {x : MacS} (h : MOk n x) (S : List SessionD) (hS : S.length ≤ 3) (r : RequestD) : DoOk n (howM (withS x S) r).2 := by
  obtain ⟨d, d1, d2⟩ := h.c
  have h0 : DoOk n (withS x S) := ⟨h.toDo.c, hS, h.toDo.e1, h.toDo.eM, h.toDo.em⟩
  have hchg : ∀ add code, DoOk n (chgM (withS x S) r add code).2 := fun add code => by
    have hl := chg_len ⟨x.alpha, x.E, x.applied, r.member, add⟩
    have hm := chg_may (x := ⟨x.alpha, x.E, x.applied, r.member, add⟩) (B := (n : Int) + 2) (fun p hp => (h.em p hp).1) h.e1 (fun p hp => by have := (h.em p hp).2; omega) (by
      show x.applied + x.alpha ≤ (n : Int) + 2
      rw [h.ap, h.al]; omega)
    exact ⟨h.toDo.c, hS, Nat.le_trans h.e1 hl.1, Nat.le_trans hl.2 (by have := h.eM; show x.E.length + 1 ≤ n + 2; omega), hm⟩
  unfold howM
  cases r.kind == 2
  · cases r.kind == 3
    · cases r.kind == 4
      · cases r.kind == 5
        · cases r.kind == 6
          · cases r.kind == 7
            · exact h0
            · exact hchg _ _
          · exact hchg _ _
        · exact h0
      · exact h0
    · exact h0
  · refine ⟨⟨d ++ [⟨r.base, r.ref, r.changes⟩], by simp; omega, ?_⟩, hS, h.toDo.e1, h.toDo.eM, h.toDo.em⟩
    show landC ⟨x.C, r.base, r.ref, r.changes⟩ = _
    rw [d2]
    simp [goC, oneC]
theorem do_do {n : Nat} {x : MacS} (h : MOk n x) (r : RequestD) : DoOk n (doM x r).2 := by
  have hask : (askM x r).2.length ≤ 3 := by
    unfold askM
    rw [ask_len]
    exact h.s
  have h0 := h.toDo
  unfold doM
  cases r.kind == 0
  · cases r.kind == 1
    · cases (askM x r).1.2
      · have hh := how_do h _ hask r
        refine ⟨hh.c, ?_, hh.e1, hh.eM, hh.em⟩
        show (doneL _).2.length ≤ 3
        rw [done_len]
        exact hask
      · exact ⟨h0.c, hask, h0.e1, h0.eM, h0.em⟩
    · cases wordOk r.name false
      · exact h0
      · refine ⟨h0.c, ?_, h0.e1, h0.eM, h0.em⟩
        have hs := h.s
        have hz := h.sz
        have := open_len (x := ⟨x.size, x.S, r.name, x.applied + 1⟩) (by show 0 < x.size; omega) (by show (x.S.length : Int) ≤ x.size; omega)
        have this : ((openL ⟨x.size, x.S, r.name, x.applied + 1⟩).2.length : Int) ≤ x.size := this
        show (openL ⟨x.size, x.S, r.name, x.applied + 1⟩).2.length ≤ 3
        omega
  · exact h0
theorem apply_eq {n : Nat} {x : MacS} (h : MOk n x) (hn : n < 1099511627776) (r : RequestD) : applyM x r = ((doM x r).1, ⟨x.alpha, x.size, x.applied + 1, (doM x r).2.C, (doM x r).2.S, cutE (doM x r).2.E (x.applied + 1)⟩) := by
  unfold applyM
  rw [decide_eq_false (by rw [h.ap]; omega)]
  rfl
theorem MOk.step {n : Nat} {x : MacS} (h : MOk n x) (hn : n < 1099511627776) (r : RequestD) : MOk (n + 1) (applyM x r).2 := by
  have hd := do_do h r
  rw [apply_eq h hn r]
  have hc := cut_len (s := x.applied + 1) hd.e1
  refine ⟨h.al, h.sz, by show x.applied + 1 = _; rw [h.ap]; omega, hd.c, hd.s, hc.1, Nat.le_trans hc.2 hd.eM, fun p hp => ?_⟩
  have := hd.em p (cut_mem hp)
  exact ⟨this.1, by have := this.2; omega⟩
theorem MOk.ok {n : Nat} {x : MacS} (h : MOk n x) (hn : n ≤ 4000) : okMS x = true := by
  obtain ⟨d, d1, d2⟩ := h.c
  have hg := goC_ok d (by omega)
  unfold okMS okEp fewG
  simp only [Bool.and_eq_true, decide_eq_true_eq, List.all_eq_true]
  rw [d2, h.sz, h.al, h.ap]
  have := hg.len
  have := h.s
  have := h.eM
  exact ⟨⟨by omega, hg.ch⟩, by omega, by omega, ⟨by omega, by omega, h.e1, by omega, fun p hp => (h.em p hp).1⟩, by omega, by omega⟩
theorem MOk.few {n : Nat} {x : MacS} (h : MOk n x) (hn : n ≤ 4000) : fewG x.C = true := (okMS_of (h.ok hn)).1
end Go.Proofs.YtildflamnehilaaGreat.Ses

namespace Go.Proofs.YtildflamnehilaaGreat.Ses
open Go Go.Proofs Go.Proofs.YtildflamnehilaaGreat.Sx

def peekM (x : MacS) (r : RequestD) : VerdictD := bif r.kind == 3 then ⟨8, 0, x.C.length, [], 0, [], 0⟩ else bif r.kind == 4 then readV ⟨x.C, r.path⟩ else bif r.kind == 5 then logV ⟨x.C, r.from_, r.many⟩ else vd 5
noncomputable def peekT : Tri := { γ := MacA, n0 := 8, args := fun a => [.mptr 0 0, .agg a.r.enc], blks := fun a => mB a.x 0 1 2 3 4 5 6 7, pre := fun a => fewG a.x.C = true ∧ okRq a.r = true, δ := Unit, post := fun _ _ => True, n1 := 0, res := fun a _ => .agg (peekM a.x a.r).enc, blks' := fun a _ => mB a.x 0 1 2 3 4 5 6 7, scal := false }
noncomputable def peekE : Envr := Env Tryz.prog cod [(18, landT.spec), (60, gheadT.spec), (37, readT.spec), (39, logT.spec), (211, echgT.spec)] []
end Go.Proofs.YtildflamnehilaaGreat.Ses

namespace Go.Proofs.YtildflamnehilaaGreat.Ses
open Go Go.Proofs Go.Proofs.YtildflamnehilaaGreat.Sx
set_option maxRecDepth 100000

theorem peek_vc (x : peekT.γ) : evCall peekE (ev peekE 1000) 28 (peekT.args x) ⟨peekT.blks x, peekT.n0, []⟩ (fun _ _ => False) (peekT.ends x) = (
(br ((RequestD.kind (MacA.r x)) == (3 : Int))
 (br ((RequestD.kind (MacA.r x)) == (2 : Int))
 (∃ x1 : LandA,
 (((RequestD.base (MacA.r x)) = (LandA.base x1)) ∧
 (((RequestD.ref (MacA.r x)) = (LandA.ref x1)) ∧
 (((RequestD.changes (MacA.r x)) = (LandA.l x1)) ∧
 (((0 : Nat) = (0 : Nat)) ∧
 (((List.length (MacS.C (MacA.x x))) = (List.length (LandA.C x1))) ∧
 (((treeC (MacS.C (MacA.x x))) = (treeC (LandA.C x1))) ∧
 (((MacS.C (MacA.x x)) = (LandA.C x1)) ∧
 (((kvC (MacS.C (MacA.x x))) = (kvC (LandA.C x1))) ∧
 ((((fewG (LandA.C x1)) = Bool.true) ∧
 ((shortC (LandA.l x1)) = Bool.true)) ∧
 (∀ x2 : Unit,
 (True →
 (∃ x3 : Unit,
 (((VerdictD.code (landV x1)) = (VerdictD.code (peekM (MacA.x x) (MacA.r x)))) ∧
 (((VerdictD.session (landV x1)) = (VerdictD.session (peekM (MacA.x x) (MacA.r x)))) ∧
 (((VerdictD.rev (landV x1)) = (VerdictD.rev (peekM (MacA.x x) (MacA.r x)))) ∧
 (((VerdictD.path (landV x1)) = (VerdictD.path (peekM (MacA.x x) (MacA.r x)))) ∧
 (((VerdictD.digest (landV x1)) = (VerdictD.digest (peekM (MacA.x x) (MacA.r x)))) ∧
 (((VerdictD.commits (landV x1)) = (VerdictD.commits (peekM (MacA.x x) (MacA.r x)))) ∧
 (((VerdictD.member (landV x1)) = (VerdictD.member (peekM (MacA.x x) (MacA.r x)))) ∧
 (((MacS.alpha (MacA.x x)) = (MacS.alpha (MacA.x x))) ∧
 (((MacS.size (MacA.x x)) = (MacS.size (MacA.x x))) ∧
 (((MacS.applied (MacA.x x)) = (MacS.applied (MacA.x x))) ∧
 (Bad "match: another name" ""))))))))))))))))))))))))
 (br ((RequestD.kind (MacA.r x)) == (3 : Int))
 (∃ x4 : (List CommitD),
 (((0 : Nat) = (0 : Nat)) ∧
 (((List.length (MacS.C (MacA.x x))) = (List.length x4)) ∧
 (((treeC (MacS.C (MacA.x x))) = (treeC x4)) ∧
 (((MacS.C (MacA.x x)) = x4) ∧
 (((kvC (MacS.C (MacA.x x))) = (kvC x4)) ∧
 (True ∧
 (∀ x5 : Unit,
 (True →
 (∃ x6 : Unit,
 (((8 : Int) = (VerdictD.code (peekM (MacA.x x) (MacA.r x)))) ∧
 (((0 : Int) = (VerdictD.session (peekM (MacA.x x) (MacA.r x)))) ∧
 (((↑(List.length x4) : Int) = (VerdictD.rev (peekM (MacA.x x) (MacA.r x)))) ∧
 (((Array.toList (ByteArray.data (ByteArray.mk (List.toArray ([] : List UInt8))))) = (VerdictD.path (peekM (MacA.x x) (MacA.r x)))) ∧
 (((0 : Int) = (VerdictD.digest (peekM (MacA.x x) (MacA.r x)))) ∧
 ((([] : List CommitD) = (VerdictD.commits (peekM (MacA.x x) (MacA.r x)))) ∧
 (((0 : Int) = (VerdictD.member (peekM (MacA.x x) (MacA.r x)))) ∧
 (((MacS.alpha (MacA.x x)) = (MacS.alpha (MacA.x x))) ∧
 (((MacS.size (MacA.x x)) = (MacS.size (MacA.x x))) ∧
 (((MacS.applied (MacA.x x)) = (MacS.applied (MacA.x x))) ∧
 (((0 : Nat) = (0 : Nat)) ∧
 (((List.length x4) = (List.length (MacS.C (MacA.x x)))) ∧
 (((treeC x4) = (treeC (MacS.C (MacA.x x)))) ∧
 ((x4 = (MacS.C (MacA.x x))) ∧
 (((kvC x4) = (kvC (MacS.C (MacA.x x)))) ∧
 (((MacS.size (MacA.x x)) = (MacS.size (MacA.x x))) ∧
 (((0 : Nat) = (0 : Nat)) ∧
 (((List.length (MacS.S (MacA.x x))) = (List.length (MacS.S (MacA.x x)))) ∧
 (((MacS.S (MacA.x x)) = (MacS.S (MacA.x x))) ∧
 (((MacS.alpha (MacA.x x)) = (MacS.alpha (MacA.x x))) ∧
 (((0 : Nat) = (0 : Nat)) ∧
 (((List.length (MacS.E (MacA.x x))) = (List.length (MacS.E (MacA.x x)))) ∧
 (((MacS.E (MacA.x x)) = (MacS.E (MacA.x x))) ∧
 True)))))))))))))))))))))))))))))))))
 (br ((RequestD.kind (MacA.r x)) == (4 : Int))
 (∃ x7 : ReadA,
 (((RequestD.path (MacA.r x)) = (ReadA.p x7)) ∧
 (((0 : Nat) = (0 : Nat)) ∧
 (((List.length (MacS.C (MacA.x x))) = (List.length (ReadA.C x7))) ∧
 (((treeC (MacS.C (MacA.x x))) = (treeC (ReadA.C x7))) ∧
 (((MacS.C (MacA.x x)) = (ReadA.C x7)) ∧
 (((kvC (MacS.C (MacA.x x))) = (kvC (ReadA.C x7))) ∧
 (((shortB (ReadA.p x7)) = Bool.true) ∧
 (∀ x8 : Unit,
 (True →
 (∃ x9 : Unit,
 (((VerdictD.code (readV x7)) = (VerdictD.code (peekM (MacA.x x) (MacA.r x)))) ∧
 (((VerdictD.session (readV x7)) = (VerdictD.session (peekM (MacA.x x) (MacA.r x)))) ∧
 (((VerdictD.rev (readV x7)) = (VerdictD.rev (peekM (MacA.x x) (MacA.r x)))) ∧
 (((VerdictD.path (readV x7)) = (VerdictD.path (peekM (MacA.x x) (MacA.r x)))) ∧
 (((VerdictD.digest (readV x7)) = (VerdictD.digest (peekM (MacA.x x) (MacA.r x)))) ∧
 (((VerdictD.commits (readV x7)) = (VerdictD.commits (peekM (MacA.x x) (MacA.r x)))) ∧
 (((VerdictD.member (readV x7)) = (VerdictD.member (peekM (MacA.x x) (MacA.r x)))) ∧
 (((MacS.alpha (MacA.x x)) = (MacS.alpha (MacA.x x))) ∧
 (((MacS.size (MacA.x x)) = (MacS.size (MacA.x x))) ∧
 (((MacS.applied (MacA.x x)) = (MacS.applied (MacA.x x))) ∧
 (((0 : Nat) = (0 : Nat)) ∧
 (((List.length (ReadA.C x7)) = (List.length (MacS.C (MacA.x x)))) ∧
 (((treeC (ReadA.C x7)) = (treeC (MacS.C (MacA.x x)))) ∧
 (((ReadA.C x7) = (MacS.C (MacA.x x))) ∧
 (((kvC (ReadA.C x7)) = (kvC (MacS.C (MacA.x x)))) ∧
 (((MacS.size (MacA.x x)) = (MacS.size (MacA.x x))) ∧
 (((0 : Nat) = (0 : Nat)) ∧
 (((List.length (MacS.S (MacA.x x))) = (List.length (MacS.S (MacA.x x)))) ∧
 (((MacS.S (MacA.x x)) = (MacS.S (MacA.x x))) ∧
 (((MacS.alpha (MacA.x x)) = (MacS.alpha (MacA.x x))) ∧
 (((0 : Nat) = (0 : Nat)) ∧
 (((List.length (MacS.E (MacA.x x))) = (List.length (MacS.E (MacA.x x)))) ∧
 (((MacS.E (MacA.x x)) = (MacS.E (MacA.x x))) ∧
 True))))))))))))))))))))))))))))))))))
 (br ((RequestD.kind (MacA.r x)) == (5 : Int))
 (∃ x10 : LogA,
 (((RequestD.from_ (MacA.r x)) = (LogA.frm x10)) ∧
 (((RequestD.many (MacA.r x)) = (LogA.many x10)) ∧
 (((0 : Nat) = (0 : Nat)) ∧
 (((List.length (MacS.C (MacA.x x))) = (List.length (LogA.C x10))) ∧
 (((treeC (MacS.C (MacA.x x))) = (treeC (LogA.C x10))) ∧
 (((MacS.C (MacA.x x)) = (LogA.C x10)) ∧
 (((kvC (MacS.C (MacA.x x))) = (kvC (LogA.C x10))) ∧
 ((((fewG (LogA.C x10)) = Bool.true) ∧
 ((inI (LogA.frm x10)) = Bool.true)) ∧
 (∀ x11 : Unit,
 (True →
 (∃ x12 : Unit,
 (((VerdictD.code (logV x10)) = (VerdictD.code (peekM (MacA.x x) (MacA.r x)))) ∧
 (((VerdictD.session (logV x10)) = (VerdictD.session (peekM (MacA.x x) (MacA.r x)))) ∧
 (((VerdictD.rev (logV x10)) = (VerdictD.rev (peekM (MacA.x x) (MacA.r x)))) ∧
 (((VerdictD.path (logV x10)) = (VerdictD.path (peekM (MacA.x x) (MacA.r x)))) ∧
 (((VerdictD.digest (logV x10)) = (VerdictD.digest (peekM (MacA.x x) (MacA.r x)))) ∧
 (((VerdictD.commits (logV x10)) = (VerdictD.commits (peekM (MacA.x x) (MacA.r x)))) ∧
 (((VerdictD.member (logV x10)) = (VerdictD.member (peekM (MacA.x x) (MacA.r x)))) ∧
 (((MacS.alpha (MacA.x x)) = (MacS.alpha (MacA.x x))) ∧
 (((MacS.size (MacA.x x)) = (MacS.size (MacA.x x))) ∧
 (((MacS.applied (MacA.x x)) = (MacS.applied (MacA.x x))) ∧
 (((0 : Nat) = (0 : Nat)) ∧
 (((List.length (LogA.C x10)) = (List.length (MacS.C (MacA.x x)))) ∧
 (((treeC (LogA.C x10)) = (treeC (MacS.C (MacA.x x)))) ∧
 (((LogA.C x10) = (MacS.C (MacA.x x))) ∧
 (((kvC (LogA.C x10)) = (kvC (MacS.C (MacA.x x)))) ∧
 (((MacS.size (MacA.x x)) = (MacS.size (MacA.x x))) ∧
 (((0 : Nat) = (0 : Nat)) ∧
 (((List.length (MacS.S (MacA.x x))) = (List.length (MacS.S (MacA.x x)))) ∧
 (((MacS.S (MacA.x x)) = (MacS.S (MacA.x x))) ∧
 (((MacS.alpha (MacA.x x)) = (MacS.alpha (MacA.x x))) ∧
 (((0 : Nat) = (0 : Nat)) ∧
 (((List.length (MacS.E (MacA.x x))) = (List.length (MacS.E (MacA.x x)))) ∧
 (((MacS.E (MacA.x x)) = (MacS.E (MacA.x x))) ∧
 True)))))))))))))))))))))))))))))))))))
 (br ((RequestD.kind (MacA.r x)) == (6 : Int))
 (∃ x13 : ChgA,
 (((MacS.applied (MacA.x x)) = (ChgA.slot x13)) ∧
 (((RequestD.member (MacA.r x)) = (ChgA.member x13)) ∧
 ((Bool.true = (ChgA.add x13)) ∧
 (((MacS.alpha (MacA.x x)) = (ChgA.alpha x13)) ∧
 (((0 : Nat) = (0 : Nat)) ∧
 (((List.length (MacS.E (MacA.x x))) = (List.length (ChgA.E x13))) ∧
 (((MacS.E (MacA.x x)) = (ChgA.E x13)) ∧
 ((((okEp (ChgA.alpha x13) (ChgA.E x13)) = Bool.true) ∧
 (((0 : Int) ≤ (ChgA.slot x13)) ∧
 ((ChgA.slot x13) ≤ (2199023255552 : Int)))) ∧
 (∀ x14 : Unit,
 (True →
 (br ((Prod.fst (chgE x13)) != (0 : Int))
 (∃ x15 : Unit,
 (((14 : Int) = (VerdictD.code (peekM (MacA.x x) (MacA.r x)))) ∧
 (((0 : Int) = (VerdictD.session (peekM (MacA.x x) (MacA.r x)))) ∧
 (((0 : Int) = (VerdictD.rev (peekM (MacA.x x) (MacA.r x)))) ∧
 (((Array.toList (ByteArray.data (ByteArray.mk (List.toArray ([] : List UInt8))))) = (VerdictD.path (peekM (MacA.x x) (MacA.r x)))) ∧
 (((0 : Int) = (VerdictD.digest (peekM (MacA.x x) (MacA.r x)))) ∧
 ((([] : List CommitD) = (VerdictD.commits (peekM (MacA.x x) (MacA.r x)))) ∧
 (((RequestD.member (MacA.r x)) = (VerdictD.member (peekM (MacA.x x) (MacA.r x)))) ∧
 (((MacS.alpha (MacA.x x)) = (MacS.alpha (MacA.x x))) ∧
 (((MacS.size (MacA.x x)) = (MacS.size (MacA.x x))) ∧
 (((MacS.applied (MacA.x x)) = (MacS.applied (MacA.x x))) ∧
 (((0 : Nat) = (0 : Nat)) ∧
 (((List.length (MacS.C (MacA.x x))) = (List.length (MacS.C (MacA.x x)))) ∧
 (((treeC (MacS.C (MacA.x x))) = (treeC (MacS.C (MacA.x x)))) ∧
 (((MacS.C (MacA.x x)) = (MacS.C (MacA.x x))) ∧
 (((kvC (MacS.C (MacA.x x))) = (kvC (MacS.C (MacA.x x)))) ∧
 (((MacS.size (MacA.x x)) = (MacS.size (MacA.x x))) ∧
 (((0 : Nat) = (0 : Nat)) ∧
 (((List.length (MacS.S (MacA.x x))) = (List.length (MacS.S (MacA.x x)))) ∧
 (((MacS.S (MacA.x x)) = (MacS.S (MacA.x x))) ∧
 (((ChgA.alpha x13) = (MacS.alpha (MacA.x x))) ∧
 (Bad "match: another name" ""))))))))))))))))))))))
 (∃ x16 : Unit,
 (((12 : Int) = (VerdictD.code (peekM (MacA.x x) (MacA.r x)))) ∧
 (((0 : Int) = (VerdictD.session (peekM (MacA.x x) (MacA.r x)))) ∧
 (((0 : Int) = (VerdictD.rev (peekM (MacA.x x) (MacA.r x)))) ∧
 (((Array.toList (ByteArray.data (ByteArray.mk (List.toArray ([] : List UInt8))))) = (VerdictD.path (peekM (MacA.x x) (MacA.r x)))) ∧
 (((0 : Int) = (VerdictD.digest (peekM (MacA.x x) (MacA.r x)))) ∧
 ((([] : List CommitD) = (VerdictD.commits (peekM (MacA.x x) (MacA.r x)))) ∧
 (((RequestD.member (MacA.r x)) = (VerdictD.member (peekM (MacA.x x) (MacA.r x)))) ∧
 (((MacS.alpha (MacA.x x)) = (MacS.alpha (MacA.x x))) ∧
 (((MacS.size (MacA.x x)) = (MacS.size (MacA.x x))) ∧
 (((MacS.applied (MacA.x x)) = (MacS.applied (MacA.x x))) ∧
 (((0 : Nat) = (0 : Nat)) ∧
 (((List.length (MacS.C (MacA.x x))) = (List.length (MacS.C (MacA.x x)))) ∧
 (((treeC (MacS.C (MacA.x x))) = (treeC (MacS.C (MacA.x x)))) ∧
 (((MacS.C (MacA.x x)) = (MacS.C (MacA.x x))) ∧
 (((kvC (MacS.C (MacA.x x))) = (kvC (MacS.C (MacA.x x)))) ∧
 (((MacS.size (MacA.x x)) = (MacS.size (MacA.x x))) ∧
 (((0 : Nat) = (0 : Nat)) ∧
 (((List.length (MacS.S (MacA.x x))) = (List.length (MacS.S (MacA.x x)))) ∧
 (((MacS.S (MacA.x x)) = (MacS.S (MacA.x x))) ∧
 (((ChgA.alpha x13) = (MacS.alpha (MacA.x x))) ∧
 (Bad "match: another name" ""))))))))))))))))))))))))))))))))))
 (br ((RequestD.kind (MacA.r x)) == (7 : Int))
 (∃ x17 : ChgA,
 (((MacS.applied (MacA.x x)) = (ChgA.slot x17)) ∧
 (((RequestD.member (MacA.r x)) = (ChgA.member x17)) ∧
 ((Bool.false = (ChgA.add x17)) ∧
 (((MacS.alpha (MacA.x x)) = (ChgA.alpha x17)) ∧
 (((0 : Nat) = (0 : Nat)) ∧
 (((List.length (MacS.E (MacA.x x))) = (List.length (ChgA.E x17))) ∧
 (((MacS.E (MacA.x x)) = (ChgA.E x17)) ∧
 ((((okEp (ChgA.alpha x17) (ChgA.E x17)) = Bool.true) ∧
 (((0 : Int) ≤ (ChgA.slot x17)) ∧
 ((ChgA.slot x17) ≤ (2199023255552 : Int)))) ∧
 (∀ x18 : Unit,
 (True →
 (br ((Prod.fst (chgE x17)) != (0 : Int))
 (∃ x19 : Unit,
 (((14 : Int) = (VerdictD.code (peekM (MacA.x x) (MacA.r x)))) ∧
 (((0 : Int) = (VerdictD.session (peekM (MacA.x x) (MacA.r x)))) ∧
 (((0 : Int) = (VerdictD.rev (peekM (MacA.x x) (MacA.r x)))) ∧
 (((Array.toList (ByteArray.data (ByteArray.mk (List.toArray ([] : List UInt8))))) = (VerdictD.path (peekM (MacA.x x) (MacA.r x)))) ∧
 (((0 : Int) = (VerdictD.digest (peekM (MacA.x x) (MacA.r x)))) ∧
 ((([] : List CommitD) = (VerdictD.commits (peekM (MacA.x x) (MacA.r x)))) ∧
 (((RequestD.member (MacA.r x)) = (VerdictD.member (peekM (MacA.x x) (MacA.r x)))) ∧
 (((MacS.alpha (MacA.x x)) = (MacS.alpha (MacA.x x))) ∧
 (((MacS.size (MacA.x x)) = (MacS.size (MacA.x x))) ∧
 (((MacS.applied (MacA.x x)) = (MacS.applied (MacA.x x))) ∧
 (((0 : Nat) = (0 : Nat)) ∧
 (((List.length (MacS.C (MacA.x x))) = (List.length (MacS.C (MacA.x x)))) ∧
 (((treeC (MacS.C (MacA.x x))) = (treeC (MacS.C (MacA.x x)))) ∧
 (((MacS.C (MacA.x x)) = (MacS.C (MacA.x x))) ∧
 (((kvC (MacS.C (MacA.x x))) = (kvC (MacS.C (MacA.x x)))) ∧
 (((MacS.size (MacA.x x)) = (MacS.size (MacA.x x))) ∧
 (((0 : Nat) = (0 : Nat)) ∧
 (((List.length (MacS.S (MacA.x x))) = (List.length (MacS.S (MacA.x x)))) ∧
 (((MacS.S (MacA.x x)) = (MacS.S (MacA.x x))) ∧
 (((ChgA.alpha x17) = (MacS.alpha (MacA.x x))) ∧
 (Bad "match: another name" ""))))))))))))))))))))))
 (∃ x20 : Unit,
 (((13 : Int) = (VerdictD.code (peekM (MacA.x x) (MacA.r x)))) ∧
 (((0 : Int) = (VerdictD.session (peekM (MacA.x x) (MacA.r x)))) ∧
 (((0 : Int) = (VerdictD.rev (peekM (MacA.x x) (MacA.r x)))) ∧
 (((Array.toList (ByteArray.data (ByteArray.mk (List.toArray ([] : List UInt8))))) = (VerdictD.path (peekM (MacA.x x) (MacA.r x)))) ∧
 (((0 : Int) = (VerdictD.digest (peekM (MacA.x x) (MacA.r x)))) ∧
 ((([] : List CommitD) = (VerdictD.commits (peekM (MacA.x x) (MacA.r x)))) ∧
 (((RequestD.member (MacA.r x)) = (VerdictD.member (peekM (MacA.x x) (MacA.r x)))) ∧
 (((MacS.alpha (MacA.x x)) = (MacS.alpha (MacA.x x))) ∧
 (((MacS.size (MacA.x x)) = (MacS.size (MacA.x x))) ∧
 (((MacS.applied (MacA.x x)) = (MacS.applied (MacA.x x))) ∧
 (((0 : Nat) = (0 : Nat)) ∧
 (((List.length (MacS.C (MacA.x x))) = (List.length (MacS.C (MacA.x x)))) ∧
 (((treeC (MacS.C (MacA.x x))) = (treeC (MacS.C (MacA.x x)))) ∧
 (((MacS.C (MacA.x x)) = (MacS.C (MacA.x x))) ∧
 (((kvC (MacS.C (MacA.x x))) = (kvC (MacS.C (MacA.x x)))) ∧
 (((MacS.size (MacA.x x)) = (MacS.size (MacA.x x))) ∧
 (((0 : Nat) = (0 : Nat)) ∧
 (((List.length (MacS.S (MacA.x x))) = (List.length (MacS.S (MacA.x x)))) ∧
 (((MacS.S (MacA.x x)) = (MacS.S (MacA.x x))) ∧
 (((ChgA.alpha x17) = (MacS.alpha (MacA.x x))) ∧
 (Bad "match: another name" ""))))))))))))))))))))))))))))))))))
 (∃ x21 : Unit,
 (((5 : Int) = (VerdictD.code (peekM (MacA.x x) (MacA.r x)))) ∧
 (((0 : Int) = (VerdictD.session (peekM (MacA.x x) (MacA.r x)))) ∧
 (((0 : Int) = (VerdictD.rev (peekM (MacA.x x) (MacA.r x)))) ∧
 (((Array.toList (ByteArray.data (ByteArray.mk (List.toArray ([] : List UInt8))))) = (VerdictD.path (peekM (MacA.x x) (MacA.r x)))) ∧
 (((0 : Int) = (VerdictD.digest (peekM (MacA.x x) (MacA.r x)))) ∧
 ((([] : List CommitD) = (VerdictD.commits (peekM (MacA.x x) (MacA.r x)))) ∧
 (((0 : Int) = (VerdictD.member (peekM (MacA.x x) (MacA.r x)))) ∧
 (((MacS.alpha (MacA.x x)) = (MacS.alpha (MacA.x x))) ∧
 (((MacS.size (MacA.x x)) = (MacS.size (MacA.x x))) ∧
 (((MacS.applied (MacA.x x)) = (MacS.applied (MacA.x x))) ∧
 (((0 : Nat) = (0 : Nat)) ∧
 (((List.length (MacS.C (MacA.x x))) = (List.length (MacS.C (MacA.x x)))) ∧
 (((treeC (MacS.C (MacA.x x))) = (treeC (MacS.C (MacA.x x)))) ∧
 (((MacS.C (MacA.x x)) = (MacS.C (MacA.x x))) ∧
 (((kvC (MacS.C (MacA.x x))) = (kvC (MacS.C (MacA.x x)))) ∧
 (((MacS.size (MacA.x x)) = (MacS.size (MacA.x x))) ∧
 (((0 : Nat) = (0 : Nat)) ∧
 (((List.length (MacS.S (MacA.x x))) = (List.length (MacS.S (MacA.x x)))) ∧
 (((MacS.S (MacA.x x)) = (MacS.S (MacA.x x))) ∧
 (((MacS.alpha (MacA.x x)) = (MacS.alpha (MacA.x x))) ∧
 (((0 : Nat) = (0 : Nat)) ∧
 (((List.length (MacS.E (MacA.x x))) = (List.length (MacS.E (MacA.x x)))) ∧
 (((MacS.E (MacA.x x)) = (MacS.E (MacA.x x))) ∧
 True))))))))))))))))))))))))))))))
 (br ((RequestD.kind (MacA.r x)) == (4 : Int))
 (br ((RequestD.kind (MacA.r x)) == (2 : Int))
 (∃ x22 : LandA,
 (((RequestD.base (MacA.r x)) = (LandA.base x22)) ∧
 (((RequestD.ref (MacA.r x)) = (LandA.ref x22)) ∧
 (((RequestD.changes (MacA.r x)) = (LandA.l x22)) ∧
 (((0 : Nat) = (0 : Nat)) ∧
 (((List.length (MacS.C (MacA.x x))) = (List.length (LandA.C x22))) ∧
 (((treeC (MacS.C (MacA.x x))) = (treeC (LandA.C x22))) ∧
 (((MacS.C (MacA.x x)) = (LandA.C x22)) ∧
 (((kvC (MacS.C (MacA.x x))) = (kvC (LandA.C x22))) ∧
 ((((fewG (LandA.C x22)) = Bool.true) ∧
 ((shortC (LandA.l x22)) = Bool.true)) ∧
 (∀ x23 : Unit,
 (True →
 (∃ x24 : Unit,
 (((VerdictD.code (landV x22)) = (VerdictD.code (peekM (MacA.x x) (MacA.r x)))) ∧
 (((VerdictD.session (landV x22)) = (VerdictD.session (peekM (MacA.x x) (MacA.r x)))) ∧
 (((VerdictD.rev (landV x22)) = (VerdictD.rev (peekM (MacA.x x) (MacA.r x)))) ∧
 (((VerdictD.path (landV x22)) = (VerdictD.path (peekM (MacA.x x) (MacA.r x)))) ∧
 (((VerdictD.digest (landV x22)) = (VerdictD.digest (peekM (MacA.x x) (MacA.r x)))) ∧
 (((VerdictD.commits (landV x22)) = (VerdictD.commits (peekM (MacA.x x) (MacA.r x)))) ∧
 (((VerdictD.member (landV x22)) = (VerdictD.member (peekM (MacA.x x) (MacA.r x)))) ∧
 (((MacS.alpha (MacA.x x)) = (MacS.alpha (MacA.x x))) ∧
 (((MacS.size (MacA.x x)) = (MacS.size (MacA.x x))) ∧
 (((MacS.applied (MacA.x x)) = (MacS.applied (MacA.x x))) ∧
 (Bad "match: another name" ""))))))))))))))))))))))))
 (br ((RequestD.kind (MacA.r x)) == (3 : Int))
 (∃ x25 : (List CommitD),
 (((0 : Nat) = (0 : Nat)) ∧
 (((List.length (MacS.C (MacA.x x))) = (List.length x25)) ∧
 (((treeC (MacS.C (MacA.x x))) = (treeC x25)) ∧
 (((MacS.C (MacA.x x)) = x25) ∧
 (((kvC (MacS.C (MacA.x x))) = (kvC x25)) ∧
 (True ∧
 (∀ x26 : Unit,
 (True →
 (∃ x27 : Unit,
 (((8 : Int) = (VerdictD.code (peekM (MacA.x x) (MacA.r x)))) ∧
 (((0 : Int) = (VerdictD.session (peekM (MacA.x x) (MacA.r x)))) ∧
 (((↑(List.length x25) : Int) = (VerdictD.rev (peekM (MacA.x x) (MacA.r x)))) ∧
 (((Array.toList (ByteArray.data (ByteArray.mk (List.toArray ([] : List UInt8))))) = (VerdictD.path (peekM (MacA.x x) (MacA.r x)))) ∧
 (((0 : Int) = (VerdictD.digest (peekM (MacA.x x) (MacA.r x)))) ∧
 ((([] : List CommitD) = (VerdictD.commits (peekM (MacA.x x) (MacA.r x)))) ∧
 (((0 : Int) = (VerdictD.member (peekM (MacA.x x) (MacA.r x)))) ∧
 (((MacS.alpha (MacA.x x)) = (MacS.alpha (MacA.x x))) ∧
 (((MacS.size (MacA.x x)) = (MacS.size (MacA.x x))) ∧
 (((MacS.applied (MacA.x x)) = (MacS.applied (MacA.x x))) ∧
 (((0 : Nat) = (0 : Nat)) ∧
 (((List.length x25) = (List.length (MacS.C (MacA.x x)))) ∧
 (((treeC x25) = (treeC (MacS.C (MacA.x x)))) ∧
 ((x25 = (MacS.C (MacA.x x))) ∧
 (((kvC x25) = (kvC (MacS.C (MacA.x x)))) ∧
 (((MacS.size (MacA.x x)) = (MacS.size (MacA.x x))) ∧
 (((0 : Nat) = (0 : Nat)) ∧
 (((List.length (MacS.S (MacA.x x))) = (List.length (MacS.S (MacA.x x)))) ∧
 (((MacS.S (MacA.x x)) = (MacS.S (MacA.x x))) ∧
 (((MacS.alpha (MacA.x x)) = (MacS.alpha (MacA.x x))) ∧
 (((0 : Nat) = (0 : Nat)) ∧
 (((List.length (MacS.E (MacA.x x))) = (List.length (MacS.E (MacA.x x)))) ∧
 (((MacS.E (MacA.x x)) = (MacS.E (MacA.x x))) ∧
 True)))))))))))))))))))))))))))))))))
 (br ((RequestD.kind (MacA.r x)) == (4 : Int))
 (∃ x28 : ReadA,
 (((RequestD.path (MacA.r x)) = (ReadA.p x28)) ∧
 (((0 : Nat) = (0 : Nat)) ∧
 (((List.length (MacS.C (MacA.x x))) = (List.length (ReadA.C x28))) ∧
 (((treeC (MacS.C (MacA.x x))) = (treeC (ReadA.C x28))) ∧
 (((MacS.C (MacA.x x)) = (ReadA.C x28)) ∧
 (((kvC (MacS.C (MacA.x x))) = (kvC (ReadA.C x28))) ∧
 (((shortB (ReadA.p x28)) = Bool.true) ∧
 (∀ x29 : Unit,
 (True →
 (∃ x30 : Unit,
 (((VerdictD.code (readV x28)) = (VerdictD.code (peekM (MacA.x x) (MacA.r x)))) ∧
 (((VerdictD.session (readV x28)) = (VerdictD.session (peekM (MacA.x x) (MacA.r x)))) ∧
 (((VerdictD.rev (readV x28)) = (VerdictD.rev (peekM (MacA.x x) (MacA.r x)))) ∧
 (((VerdictD.path (readV x28)) = (VerdictD.path (peekM (MacA.x x) (MacA.r x)))) ∧
 (((VerdictD.digest (readV x28)) = (VerdictD.digest (peekM (MacA.x x) (MacA.r x)))) ∧
 (((VerdictD.commits (readV x28)) = (VerdictD.commits (peekM (MacA.x x) (MacA.r x)))) ∧
 (((VerdictD.member (readV x28)) = (VerdictD.member (peekM (MacA.x x) (MacA.r x)))) ∧
 (((MacS.alpha (MacA.x x)) = (MacS.alpha (MacA.x x))) ∧
 (((MacS.size (MacA.x x)) = (MacS.size (MacA.x x))) ∧
 (((MacS.applied (MacA.x x)) = (MacS.applied (MacA.x x))) ∧
 (((0 : Nat) = (0 : Nat)) ∧
 (((List.length (ReadA.C x28)) = (List.length (MacS.C (MacA.x x)))) ∧
 (((treeC (ReadA.C x28)) = (treeC (MacS.C (MacA.x x)))) ∧
 (((ReadA.C x28) = (MacS.C (MacA.x x))) ∧
 (((kvC (ReadA.C x28)) = (kvC (MacS.C (MacA.x x)))) ∧
 (((MacS.size (MacA.x x)) = (MacS.size (MacA.x x))) ∧
 (((0 : Nat) = (0 : Nat)) ∧
 (((List.length (MacS.S (MacA.x x))) = (List.length (MacS.S (MacA.x x)))) ∧
 (((MacS.S (MacA.x x)) = (MacS.S (MacA.x x))) ∧
 (((MacS.alpha (MacA.x x)) = (MacS.alpha (MacA.x x))) ∧
 (((0 : Nat) = (0 : Nat)) ∧
 (((List.length (MacS.E (MacA.x x))) = (List.length (MacS.E (MacA.x x)))) ∧
 (((MacS.E (MacA.x x)) = (MacS.E (MacA.x x))) ∧
 True))))))))))))))))))))))))))))))))))
 (br ((RequestD.kind (MacA.r x)) == (5 : Int))
 (∃ x31 : LogA,
 (((RequestD.from_ (MacA.r x)) = (LogA.frm x31)) ∧
 (((RequestD.many (MacA.r x)) = (LogA.many x31)) ∧
 (((0 : Nat) = (0 : Nat)) ∧
 (((List.length (MacS.C (MacA.x x))) = (List.length (LogA.C x31))) ∧
 (((treeC (MacS.C (MacA.x x))) = (treeC (LogA.C x31))) ∧
 (((MacS.C (MacA.x x)) = (LogA.C x31)) ∧
 (((kvC (MacS.C (MacA.x x))) = (kvC (LogA.C x31))) ∧
 ((((fewG (LogA.C x31)) = Bool.true) ∧
 ((inI (LogA.frm x31)) = Bool.true)) ∧
 (∀ x32 : Unit,
 (True →
 (∃ x33 : Unit,
 (((VerdictD.code (logV x31)) = (VerdictD.code (peekM (MacA.x x) (MacA.r x)))) ∧
 (((VerdictD.session (logV x31)) = (VerdictD.session (peekM (MacA.x x) (MacA.r x)))) ∧
 (((VerdictD.rev (logV x31)) = (VerdictD.rev (peekM (MacA.x x) (MacA.r x)))) ∧
 (((VerdictD.path (logV x31)) = (VerdictD.path (peekM (MacA.x x) (MacA.r x)))) ∧
 (((VerdictD.digest (logV x31)) = (VerdictD.digest (peekM (MacA.x x) (MacA.r x)))) ∧
 (((VerdictD.commits (logV x31)) = (VerdictD.commits (peekM (MacA.x x) (MacA.r x)))) ∧
 (((VerdictD.member (logV x31)) = (VerdictD.member (peekM (MacA.x x) (MacA.r x)))) ∧
 (((MacS.alpha (MacA.x x)) = (MacS.alpha (MacA.x x))) ∧
 (((MacS.size (MacA.x x)) = (MacS.size (MacA.x x))) ∧
 (((MacS.applied (MacA.x x)) = (MacS.applied (MacA.x x))) ∧
 (((0 : Nat) = (0 : Nat)) ∧
 (((List.length (LogA.C x31)) = (List.length (MacS.C (MacA.x x)))) ∧
 (((treeC (LogA.C x31)) = (treeC (MacS.C (MacA.x x)))) ∧
 (((LogA.C x31) = (MacS.C (MacA.x x))) ∧
 (((kvC (LogA.C x31)) = (kvC (MacS.C (MacA.x x)))) ∧
 (((MacS.size (MacA.x x)) = (MacS.size (MacA.x x))) ∧
 (((0 : Nat) = (0 : Nat)) ∧
 (((List.length (MacS.S (MacA.x x))) = (List.length (MacS.S (MacA.x x)))) ∧
 (((MacS.S (MacA.x x)) = (MacS.S (MacA.x x))) ∧
 (((MacS.alpha (MacA.x x)) = (MacS.alpha (MacA.x x))) ∧
 (((0 : Nat) = (0 : Nat)) ∧
 (((List.length (MacS.E (MacA.x x))) = (List.length (MacS.E (MacA.x x)))) ∧
 (((MacS.E (MacA.x x)) = (MacS.E (MacA.x x))) ∧
 True)))))))))))))))))))))))))))))))))))
 (br ((RequestD.kind (MacA.r x)) == (6 : Int))
 (∃ x34 : ChgA,
 (((MacS.applied (MacA.x x)) = (ChgA.slot x34)) ∧
 (((RequestD.member (MacA.r x)) = (ChgA.member x34)) ∧
 ((Bool.true = (ChgA.add x34)) ∧
 (((MacS.alpha (MacA.x x)) = (ChgA.alpha x34)) ∧
 (((0 : Nat) = (0 : Nat)) ∧
 (((List.length (MacS.E (MacA.x x))) = (List.length (ChgA.E x34))) ∧
 (((MacS.E (MacA.x x)) = (ChgA.E x34)) ∧
 ((((okEp (ChgA.alpha x34) (ChgA.E x34)) = Bool.true) ∧
 (((0 : Int) ≤ (ChgA.slot x34)) ∧
 ((ChgA.slot x34) ≤ (2199023255552 : Int)))) ∧
 (∀ x35 : Unit,
 (True →
 (br ((Prod.fst (chgE x34)) != (0 : Int))
 (∃ x36 : Unit,
 (((14 : Int) = (VerdictD.code (peekM (MacA.x x) (MacA.r x)))) ∧
 (((0 : Int) = (VerdictD.session (peekM (MacA.x x) (MacA.r x)))) ∧
 (((0 : Int) = (VerdictD.rev (peekM (MacA.x x) (MacA.r x)))) ∧
 (((Array.toList (ByteArray.data (ByteArray.mk (List.toArray ([] : List UInt8))))) = (VerdictD.path (peekM (MacA.x x) (MacA.r x)))) ∧
 (((0 : Int) = (VerdictD.digest (peekM (MacA.x x) (MacA.r x)))) ∧
 ((([] : List CommitD) = (VerdictD.commits (peekM (MacA.x x) (MacA.r x)))) ∧
 (((RequestD.member (MacA.r x)) = (VerdictD.member (peekM (MacA.x x) (MacA.r x)))) ∧
 (((MacS.alpha (MacA.x x)) = (MacS.alpha (MacA.x x))) ∧
 (((MacS.size (MacA.x x)) = (MacS.size (MacA.x x))) ∧
 (((MacS.applied (MacA.x x)) = (MacS.applied (MacA.x x))) ∧
 (((0 : Nat) = (0 : Nat)) ∧
 (((List.length (MacS.C (MacA.x x))) = (List.length (MacS.C (MacA.x x)))) ∧
 (((treeC (MacS.C (MacA.x x))) = (treeC (MacS.C (MacA.x x)))) ∧
 (((MacS.C (MacA.x x)) = (MacS.C (MacA.x x))) ∧
 (((kvC (MacS.C (MacA.x x))) = (kvC (MacS.C (MacA.x x)))) ∧
 (((MacS.size (MacA.x x)) = (MacS.size (MacA.x x))) ∧
 (((0 : Nat) = (0 : Nat)) ∧
 (((List.length (MacS.S (MacA.x x))) = (List.length (MacS.S (MacA.x x)))) ∧
 (((MacS.S (MacA.x x)) = (MacS.S (MacA.x x))) ∧
 (((ChgA.alpha x34) = (MacS.alpha (MacA.x x))) ∧
 (Bad "match: another name" ""))))))))))))))))))))))
 (∃ x37 : Unit,
 (((12 : Int) = (VerdictD.code (peekM (MacA.x x) (MacA.r x)))) ∧
 (((0 : Int) = (VerdictD.session (peekM (MacA.x x) (MacA.r x)))) ∧
 (((0 : Int) = (VerdictD.rev (peekM (MacA.x x) (MacA.r x)))) ∧
 (((Array.toList (ByteArray.data (ByteArray.mk (List.toArray ([] : List UInt8))))) = (VerdictD.path (peekM (MacA.x x) (MacA.r x)))) ∧
 (((0 : Int) = (VerdictD.digest (peekM (MacA.x x) (MacA.r x)))) ∧
 ((([] : List CommitD) = (VerdictD.commits (peekM (MacA.x x) (MacA.r x)))) ∧
 (((RequestD.member (MacA.r x)) = (VerdictD.member (peekM (MacA.x x) (MacA.r x)))) ∧
 (((MacS.alpha (MacA.x x)) = (MacS.alpha (MacA.x x))) ∧
 (((MacS.size (MacA.x x)) = (MacS.size (MacA.x x))) ∧
 (((MacS.applied (MacA.x x)) = (MacS.applied (MacA.x x))) ∧
 (((0 : Nat) = (0 : Nat)) ∧
 (((List.length (MacS.C (MacA.x x))) = (List.length (MacS.C (MacA.x x)))) ∧
 (((treeC (MacS.C (MacA.x x))) = (treeC (MacS.C (MacA.x x)))) ∧
 (((MacS.C (MacA.x x)) = (MacS.C (MacA.x x))) ∧
 (((kvC (MacS.C (MacA.x x))) = (kvC (MacS.C (MacA.x x)))) ∧
 (((MacS.size (MacA.x x)) = (MacS.size (MacA.x x))) ∧
 (((0 : Nat) = (0 : Nat)) ∧
 (((List.length (MacS.S (MacA.x x))) = (List.length (MacS.S (MacA.x x)))) ∧
 (((MacS.S (MacA.x x)) = (MacS.S (MacA.x x))) ∧
 (((ChgA.alpha x34) = (MacS.alpha (MacA.x x))) ∧
 (Bad "match: another name" ""))))))))))))))))))))))))))))))))))
 (br ((RequestD.kind (MacA.r x)) == (7 : Int))
 (∃ x38 : ChgA,
 (((MacS.applied (MacA.x x)) = (ChgA.slot x38)) ∧
 (((RequestD.member (MacA.r x)) = (ChgA.member x38)) ∧
 ((Bool.false = (ChgA.add x38)) ∧
 (((MacS.alpha (MacA.x x)) = (ChgA.alpha x38)) ∧
 (((0 : Nat) = (0 : Nat)) ∧
 (((List.length (MacS.E (MacA.x x))) = (List.length (ChgA.E x38))) ∧
 (((MacS.E (MacA.x x)) = (ChgA.E x38)) ∧
 ((((okEp (ChgA.alpha x38) (ChgA.E x38)) = Bool.true) ∧
 (((0 : Int) ≤ (ChgA.slot x38)) ∧
 ((ChgA.slot x38) ≤ (2199023255552 : Int)))) ∧
 (∀ x39 : Unit,
 (True →
 (br ((Prod.fst (chgE x38)) != (0 : Int))
 (∃ x40 : Unit,
 (((14 : Int) = (VerdictD.code (peekM (MacA.x x) (MacA.r x)))) ∧
 (((0 : Int) = (VerdictD.session (peekM (MacA.x x) (MacA.r x)))) ∧
 (((0 : Int) = (VerdictD.rev (peekM (MacA.x x) (MacA.r x)))) ∧
 (((Array.toList (ByteArray.data (ByteArray.mk (List.toArray ([] : List UInt8))))) = (VerdictD.path (peekM (MacA.x x) (MacA.r x)))) ∧
 (((0 : Int) = (VerdictD.digest (peekM (MacA.x x) (MacA.r x)))) ∧
 ((([] : List CommitD) = (VerdictD.commits (peekM (MacA.x x) (MacA.r x)))) ∧
 (((RequestD.member (MacA.r x)) = (VerdictD.member (peekM (MacA.x x) (MacA.r x)))) ∧
 (((MacS.alpha (MacA.x x)) = (MacS.alpha (MacA.x x))) ∧
 (((MacS.size (MacA.x x)) = (MacS.size (MacA.x x))) ∧
 (((MacS.applied (MacA.x x)) = (MacS.applied (MacA.x x))) ∧
 (((0 : Nat) = (0 : Nat)) ∧
 (((List.length (MacS.C (MacA.x x))) = (List.length (MacS.C (MacA.x x)))) ∧
 (((treeC (MacS.C (MacA.x x))) = (treeC (MacS.C (MacA.x x)))) ∧
 (((MacS.C (MacA.x x)) = (MacS.C (MacA.x x))) ∧
 (((kvC (MacS.C (MacA.x x))) = (kvC (MacS.C (MacA.x x)))) ∧
 (((MacS.size (MacA.x x)) = (MacS.size (MacA.x x))) ∧
 (((0 : Nat) = (0 : Nat)) ∧
 (((List.length (MacS.S (MacA.x x))) = (List.length (MacS.S (MacA.x x)))) ∧
 (((MacS.S (MacA.x x)) = (MacS.S (MacA.x x))) ∧
 (((ChgA.alpha x38) = (MacS.alpha (MacA.x x))) ∧
 (Bad "match: another name" ""))))))))))))))))))))))
 (∃ x41 : Unit,
 (((13 : Int) = (VerdictD.code (peekM (MacA.x x) (MacA.r x)))) ∧
 (((0 : Int) = (VerdictD.session (peekM (MacA.x x) (MacA.r x)))) ∧
 (((0 : Int) = (VerdictD.rev (peekM (MacA.x x) (MacA.r x)))) ∧
 (((Array.toList (ByteArray.data (ByteArray.mk (List.toArray ([] : List UInt8))))) = (VerdictD.path (peekM (MacA.x x) (MacA.r x)))) ∧
 (((0 : Int) = (VerdictD.digest (peekM (MacA.x x) (MacA.r x)))) ∧
 ((([] : List CommitD) = (VerdictD.commits (peekM (MacA.x x) (MacA.r x)))) ∧
 (((RequestD.member (MacA.r x)) = (VerdictD.member (peekM (MacA.x x) (MacA.r x)))) ∧
 (((MacS.alpha (MacA.x x)) = (MacS.alpha (MacA.x x))) ∧
 (((MacS.size (MacA.x x)) = (MacS.size (MacA.x x))) ∧
 (((MacS.applied (MacA.x x)) = (MacS.applied (MacA.x x))) ∧
 (((0 : Nat) = (0 : Nat)) ∧
 (((List.length (MacS.C (MacA.x x))) = (List.length (MacS.C (MacA.x x)))) ∧
 (((treeC (MacS.C (MacA.x x))) = (treeC (MacS.C (MacA.x x)))) ∧
 (((MacS.C (MacA.x x)) = (MacS.C (MacA.x x))) ∧
 (((kvC (MacS.C (MacA.x x))) = (kvC (MacS.C (MacA.x x)))) ∧
 (((MacS.size (MacA.x x)) = (MacS.size (MacA.x x))) ∧
 (((0 : Nat) = (0 : Nat)) ∧
 (((List.length (MacS.S (MacA.x x))) = (List.length (MacS.S (MacA.x x)))) ∧
 (((MacS.S (MacA.x x)) = (MacS.S (MacA.x x))) ∧
 (((ChgA.alpha x38) = (MacS.alpha (MacA.x x))) ∧
 (Bad "match: another name" ""))))))))))))))))))))))))))))))))))
 (∃ x42 : Unit,
 (((5 : Int) = (VerdictD.code (peekM (MacA.x x) (MacA.r x)))) ∧
 (((0 : Int) = (VerdictD.session (peekM (MacA.x x) (MacA.r x)))) ∧
 (((0 : Int) = (VerdictD.rev (peekM (MacA.x x) (MacA.r x)))) ∧
 (((Array.toList (ByteArray.data (ByteArray.mk (List.toArray ([] : List UInt8))))) = (VerdictD.path (peekM (MacA.x x) (MacA.r x)))) ∧
 (((0 : Int) = (VerdictD.digest (peekM (MacA.x x) (MacA.r x)))) ∧
 ((([] : List CommitD) = (VerdictD.commits (peekM (MacA.x x) (MacA.r x)))) ∧
 (((0 : Int) = (VerdictD.member (peekM (MacA.x x) (MacA.r x)))) ∧
 (((MacS.alpha (MacA.x x)) = (MacS.alpha (MacA.x x))) ∧
 (((MacS.size (MacA.x x)) = (MacS.size (MacA.x x))) ∧
 (((MacS.applied (MacA.x x)) = (MacS.applied (MacA.x x))) ∧
 (((0 : Nat) = (0 : Nat)) ∧
 (((List.length (MacS.C (MacA.x x))) = (List.length (MacS.C (MacA.x x)))) ∧
 (((treeC (MacS.C (MacA.x x))) = (treeC (MacS.C (MacA.x x)))) ∧
 (((MacS.C (MacA.x x)) = (MacS.C (MacA.x x))) ∧
 (((kvC (MacS.C (MacA.x x))) = (kvC (MacS.C (MacA.x x)))) ∧
 (((MacS.size (MacA.x x)) = (MacS.size (MacA.x x))) ∧
 (((0 : Nat) = (0 : Nat)) ∧
 (((List.length (MacS.S (MacA.x x))) = (List.length (MacS.S (MacA.x x)))) ∧
 (((MacS.S (MacA.x x)) = (MacS.S (MacA.x x))) ∧
 (((MacS.alpha (MacA.x x)) = (MacS.alpha (MacA.x x))) ∧
 (((0 : Nat) = (0 : Nat)) ∧
 (((List.length (MacS.E (MacA.x x))) = (List.length (MacS.E (MacA.x x)))) ∧
 (((MacS.E (MacA.x x)) = (MacS.E (MacA.x x))) ∧
 True))))))))))))))))))))))))))))))
 (br ((RequestD.kind (MacA.r x)) == (5 : Int))
 (br ((RequestD.kind (MacA.r x)) == (2 : Int))
 (∃ x43 : LandA,
 (((RequestD.base (MacA.r x)) = (LandA.base x43)) ∧
 (((RequestD.ref (MacA.r x)) = (LandA.ref x43)) ∧
 (((RequestD.changes (MacA.r x)) = (LandA.l x43)) ∧
 (((0 : Nat) = (0 : Nat)) ∧
 (((List.length (MacS.C (MacA.x x))) = (List.length (LandA.C x43))) ∧
 (((treeC (MacS.C (MacA.x x))) = (treeC (LandA.C x43))) ∧
 (((MacS.C (MacA.x x)) = (LandA.C x43)) ∧
 (((kvC (MacS.C (MacA.x x))) = (kvC (LandA.C x43))) ∧
 ((((fewG (LandA.C x43)) = Bool.true) ∧
 ((shortC (LandA.l x43)) = Bool.true)) ∧
 (∀ x44 : Unit,
 (True →
 (∃ x45 : Unit,
 (((VerdictD.code (landV x43)) = (VerdictD.code (peekM (MacA.x x) (MacA.r x)))) ∧
 (((VerdictD.session (landV x43)) = (VerdictD.session (peekM (MacA.x x) (MacA.r x)))) ∧
 (((VerdictD.rev (landV x43)) = (VerdictD.rev (peekM (MacA.x x) (MacA.r x)))) ∧
 (((VerdictD.path (landV x43)) = (VerdictD.path (peekM (MacA.x x) (MacA.r x)))) ∧
 (((VerdictD.digest (landV x43)) = (VerdictD.digest (peekM (MacA.x x) (MacA.r x)))) ∧
 (((VerdictD.commits (landV x43)) = (VerdictD.commits (peekM (MacA.x x) (MacA.r x)))) ∧
 (((VerdictD.member (landV x43)) = (VerdictD.member (peekM (MacA.x x) (MacA.r x)))) ∧
 (((MacS.alpha (MacA.x x)) = (MacS.alpha (MacA.x x))) ∧
 (((MacS.size (MacA.x x)) = (MacS.size (MacA.x x))) ∧
 (((MacS.applied (MacA.x x)) = (MacS.applied (MacA.x x))) ∧
 (Bad "match: another name" ""))))))))))))))))))))))))
 (br ((RequestD.kind (MacA.r x)) == (3 : Int))
 (∃ x46 : (List CommitD),
 (((0 : Nat) = (0 : Nat)) ∧
 (((List.length (MacS.C (MacA.x x))) = (List.length x46)) ∧
 (((treeC (MacS.C (MacA.x x))) = (treeC x46)) ∧
 (((MacS.C (MacA.x x)) = x46) ∧
 (((kvC (MacS.C (MacA.x x))) = (kvC x46)) ∧
 (True ∧
 (∀ x47 : Unit,
 (True →
 (∃ x48 : Unit,
 (((8 : Int) = (VerdictD.code (peekM (MacA.x x) (MacA.r x)))) ∧
 (((0 : Int) = (VerdictD.session (peekM (MacA.x x) (MacA.r x)))) ∧
 (((↑(List.length x46) : Int) = (VerdictD.rev (peekM (MacA.x x) (MacA.r x)))) ∧
 (((Array.toList (ByteArray.data (ByteArray.mk (List.toArray ([] : List UInt8))))) = (VerdictD.path (peekM (MacA.x x) (MacA.r x)))) ∧
 (((0 : Int) = (VerdictD.digest (peekM (MacA.x x) (MacA.r x)))) ∧
 ((([] : List CommitD) = (VerdictD.commits (peekM (MacA.x x) (MacA.r x)))) ∧
 (((0 : Int) = (VerdictD.member (peekM (MacA.x x) (MacA.r x)))) ∧
 (((MacS.alpha (MacA.x x)) = (MacS.alpha (MacA.x x))) ∧
 (((MacS.size (MacA.x x)) = (MacS.size (MacA.x x))) ∧
 (((MacS.applied (MacA.x x)) = (MacS.applied (MacA.x x))) ∧
 (((0 : Nat) = (0 : Nat)) ∧
 (((List.length x46) = (List.length (MacS.C (MacA.x x)))) ∧
 (((treeC x46) = (treeC (MacS.C (MacA.x x)))) ∧
 ((x46 = (MacS.C (MacA.x x))) ∧
 (((kvC x46) = (kvC (MacS.C (MacA.x x)))) ∧
 (((MacS.size (MacA.x x)) = (MacS.size (MacA.x x))) ∧
 (((0 : Nat) = (0 : Nat)) ∧
 (((List.length (MacS.S (MacA.x x))) = (List.length (MacS.S (MacA.x x)))) ∧
 (((MacS.S (MacA.x x)) = (MacS.S (MacA.x x))) ∧
 (((MacS.alpha (MacA.x x)) = (MacS.alpha (MacA.x x))) ∧
 (((0 : Nat) = (0 : Nat)) ∧
 (((List.length (MacS.E (MacA.x x))) = (List.length (MacS.E (MacA.x x)))) ∧
 (((MacS.E (MacA.x x)) = (MacS.E (MacA.x x))) ∧
 True)))))))))))))))))))))))))))))))))
 (br ((RequestD.kind (MacA.r x)) == (4 : Int))
 (∃ x49 : ReadA,
 (((RequestD.path (MacA.r x)) = (ReadA.p x49)) ∧
 (((0 : Nat) = (0 : Nat)) ∧
 (((List.length (MacS.C (MacA.x x))) = (List.length (ReadA.C x49))) ∧
 (((treeC (MacS.C (MacA.x x))) = (treeC (ReadA.C x49))) ∧
 (((MacS.C (MacA.x x)) = (ReadA.C x49)) ∧
 (((kvC (MacS.C (MacA.x x))) = (kvC (ReadA.C x49))) ∧
 (((shortB (ReadA.p x49)) = Bool.true) ∧
 (∀ x50 : Unit,
 (True →
 (∃ x51 : Unit,
 (((VerdictD.code (readV x49)) = (VerdictD.code (peekM (MacA.x x) (MacA.r x)))) ∧
 (((VerdictD.session (readV x49)) = (VerdictD.session (peekM (MacA.x x) (MacA.r x)))) ∧
 (((VerdictD.rev (readV x49)) = (VerdictD.rev (peekM (MacA.x x) (MacA.r x)))) ∧
 (((VerdictD.path (readV x49)) = (VerdictD.path (peekM (MacA.x x) (MacA.r x)))) ∧
 (((VerdictD.digest (readV x49)) = (VerdictD.digest (peekM (MacA.x x) (MacA.r x)))) ∧
 (((VerdictD.commits (readV x49)) = (VerdictD.commits (peekM (MacA.x x) (MacA.r x)))) ∧
 (((VerdictD.member (readV x49)) = (VerdictD.member (peekM (MacA.x x) (MacA.r x)))) ∧
 (((MacS.alpha (MacA.x x)) = (MacS.alpha (MacA.x x))) ∧
 (((MacS.size (MacA.x x)) = (MacS.size (MacA.x x))) ∧
 (((MacS.applied (MacA.x x)) = (MacS.applied (MacA.x x))) ∧
 (((0 : Nat) = (0 : Nat)) ∧
 (((List.length (ReadA.C x49)) = (List.length (MacS.C (MacA.x x)))) ∧
 (((treeC (ReadA.C x49)) = (treeC (MacS.C (MacA.x x)))) ∧
 (((ReadA.C x49) = (MacS.C (MacA.x x))) ∧
 (((kvC (ReadA.C x49)) = (kvC (MacS.C (MacA.x x)))) ∧
 (((MacS.size (MacA.x x)) = (MacS.size (MacA.x x))) ∧
 (((0 : Nat) = (0 : Nat)) ∧
 (((List.length (MacS.S (MacA.x x))) = (List.length (MacS.S (MacA.x x)))) ∧
 (((MacS.S (MacA.x x)) = (MacS.S (MacA.x x))) ∧
 (((MacS.alpha (MacA.x x)) = (MacS.alpha (MacA.x x))) ∧
 (((0 : Nat) = (0 : Nat)) ∧
 (((List.length (MacS.E (MacA.x x))) = (List.length (MacS.E (MacA.x x)))) ∧
 (((MacS.E (MacA.x x)) = (MacS.E (MacA.x x))) ∧
 True))))))))))))))))))))))))))))))))))
 (br ((RequestD.kind (MacA.r x)) == (5 : Int))
 (∃ x52 : LogA,
 (((RequestD.from_ (MacA.r x)) = (LogA.frm x52)) ∧
 (((RequestD.many (MacA.r x)) = (LogA.many x52)) ∧
 (((0 : Nat) = (0 : Nat)) ∧
 (((List.length (MacS.C (MacA.x x))) = (List.length (LogA.C x52))) ∧
 (((treeC (MacS.C (MacA.x x))) = (treeC (LogA.C x52))) ∧
 (((MacS.C (MacA.x x)) = (LogA.C x52)) ∧
 (((kvC (MacS.C (MacA.x x))) = (kvC (LogA.C x52))) ∧
 ((((fewG (LogA.C x52)) = Bool.true) ∧
 ((inI (LogA.frm x52)) = Bool.true)) ∧
 (∀ x53 : Unit,
 (True →
 (∃ x54 : Unit,
 (((VerdictD.code (logV x52)) = (VerdictD.code (peekM (MacA.x x) (MacA.r x)))) ∧
 (((VerdictD.session (logV x52)) = (VerdictD.session (peekM (MacA.x x) (MacA.r x)))) ∧
 (((VerdictD.rev (logV x52)) = (VerdictD.rev (peekM (MacA.x x) (MacA.r x)))) ∧
 (((VerdictD.path (logV x52)) = (VerdictD.path (peekM (MacA.x x) (MacA.r x)))) ∧
 (((VerdictD.digest (logV x52)) = (VerdictD.digest (peekM (MacA.x x) (MacA.r x)))) ∧
 (((VerdictD.commits (logV x52)) = (VerdictD.commits (peekM (MacA.x x) (MacA.r x)))) ∧
 (((VerdictD.member (logV x52)) = (VerdictD.member (peekM (MacA.x x) (MacA.r x)))) ∧
 (((MacS.alpha (MacA.x x)) = (MacS.alpha (MacA.x x))) ∧
 (((MacS.size (MacA.x x)) = (MacS.size (MacA.x x))) ∧
 (((MacS.applied (MacA.x x)) = (MacS.applied (MacA.x x))) ∧
 (((0 : Nat) = (0 : Nat)) ∧
 (((List.length (LogA.C x52)) = (List.length (MacS.C (MacA.x x)))) ∧
 (((treeC (LogA.C x52)) = (treeC (MacS.C (MacA.x x)))) ∧
 (((LogA.C x52) = (MacS.C (MacA.x x))) ∧
 (((kvC (LogA.C x52)) = (kvC (MacS.C (MacA.x x)))) ∧
 (((MacS.size (MacA.x x)) = (MacS.size (MacA.x x))) ∧
 (((0 : Nat) = (0 : Nat)) ∧
 (((List.length (MacS.S (MacA.x x))) = (List.length (MacS.S (MacA.x x)))) ∧
 (((MacS.S (MacA.x x)) = (MacS.S (MacA.x x))) ∧
 (((MacS.alpha (MacA.x x)) = (MacS.alpha (MacA.x x))) ∧
 (((0 : Nat) = (0 : Nat)) ∧
 (((List.length (MacS.E (MacA.x x))) = (List.length (MacS.E (MacA.x x)))) ∧
 (((MacS.E (MacA.x x)) = (MacS.E (MacA.x x))) ∧
 True)))))))))))))))))))))))))))))))))))
 (br ((RequestD.kind (MacA.r x)) == (6 : Int))
 (∃ x55 : ChgA,
 (((MacS.applied (MacA.x x)) = (ChgA.slot x55)) ∧
 (((RequestD.member (MacA.r x)) = (ChgA.member x55)) ∧
 ((Bool.true = (ChgA.add x55)) ∧
 (((MacS.alpha (MacA.x x)) = (ChgA.alpha x55)) ∧
 (((0 : Nat) = (0 : Nat)) ∧
 (((List.length (MacS.E (MacA.x x))) = (List.length (ChgA.E x55))) ∧
 (((MacS.E (MacA.x x)) = (ChgA.E x55)) ∧
 ((((okEp (ChgA.alpha x55) (ChgA.E x55)) = Bool.true) ∧
 (((0 : Int) ≤ (ChgA.slot x55)) ∧
 ((ChgA.slot x55) ≤ (2199023255552 : Int)))) ∧
 (∀ x56 : Unit,
 (True →
 (br ((Prod.fst (chgE x55)) != (0 : Int))
 (∃ x57 : Unit,
 (((14 : Int) = (VerdictD.code (peekM (MacA.x x) (MacA.r x)))) ∧
 (((0 : Int) = (VerdictD.session (peekM (MacA.x x) (MacA.r x)))) ∧
 (((0 : Int) = (VerdictD.rev (peekM (MacA.x x) (MacA.r x)))) ∧
 (((Array.toList (ByteArray.data (ByteArray.mk (List.toArray ([] : List UInt8))))) = (VerdictD.path (peekM (MacA.x x) (MacA.r x)))) ∧
 (((0 : Int) = (VerdictD.digest (peekM (MacA.x x) (MacA.r x)))) ∧
 ((([] : List CommitD) = (VerdictD.commits (peekM (MacA.x x) (MacA.r x)))) ∧
 (((RequestD.member (MacA.r x)) = (VerdictD.member (peekM (MacA.x x) (MacA.r x)))) ∧
 (((MacS.alpha (MacA.x x)) = (MacS.alpha (MacA.x x))) ∧
 (((MacS.size (MacA.x x)) = (MacS.size (MacA.x x))) ∧
 (((MacS.applied (MacA.x x)) = (MacS.applied (MacA.x x))) ∧
 (((0 : Nat) = (0 : Nat)) ∧
 (((List.length (MacS.C (MacA.x x))) = (List.length (MacS.C (MacA.x x)))) ∧
 (((treeC (MacS.C (MacA.x x))) = (treeC (MacS.C (MacA.x x)))) ∧
 (((MacS.C (MacA.x x)) = (MacS.C (MacA.x x))) ∧
 (((kvC (MacS.C (MacA.x x))) = (kvC (MacS.C (MacA.x x)))) ∧
 (((MacS.size (MacA.x x)) = (MacS.size (MacA.x x))) ∧
 (((0 : Nat) = (0 : Nat)) ∧
 (((List.length (MacS.S (MacA.x x))) = (List.length (MacS.S (MacA.x x)))) ∧
 (((MacS.S (MacA.x x)) = (MacS.S (MacA.x x))) ∧
 (((ChgA.alpha x55) = (MacS.alpha (MacA.x x))) ∧
 (Bad "match: another name" ""))))))))))))))))))))))
 (∃ x58 : Unit,
 (((12 : Int) = (VerdictD.code (peekM (MacA.x x) (MacA.r x)))) ∧
 (((0 : Int) = (VerdictD.session (peekM (MacA.x x) (MacA.r x)))) ∧
 (((0 : Int) = (VerdictD.rev (peekM (MacA.x x) (MacA.r x)))) ∧
 (((Array.toList (ByteArray.data (ByteArray.mk (List.toArray ([] : List UInt8))))) = (VerdictD.path (peekM (MacA.x x) (MacA.r x)))) ∧
 (((0 : Int) = (VerdictD.digest (peekM (MacA.x x) (MacA.r x)))) ∧
 ((([] : List CommitD) = (VerdictD.commits (peekM (MacA.x x) (MacA.r x)))) ∧
 (((RequestD.member (MacA.r x)) = (VerdictD.member (peekM (MacA.x x) (MacA.r x)))) ∧
 (((MacS.alpha (MacA.x x)) = (MacS.alpha (MacA.x x))) ∧
 (((MacS.size (MacA.x x)) = (MacS.size (MacA.x x))) ∧
 (((MacS.applied (MacA.x x)) = (MacS.applied (MacA.x x))) ∧
 (((0 : Nat) = (0 : Nat)) ∧
 (((List.length (MacS.C (MacA.x x))) = (List.length (MacS.C (MacA.x x)))) ∧
 (((treeC (MacS.C (MacA.x x))) = (treeC (MacS.C (MacA.x x)))) ∧
 (((MacS.C (MacA.x x)) = (MacS.C (MacA.x x))) ∧
 (((kvC (MacS.C (MacA.x x))) = (kvC (MacS.C (MacA.x x)))) ∧
 (((MacS.size (MacA.x x)) = (MacS.size (MacA.x x))) ∧
 (((0 : Nat) = (0 : Nat)) ∧
 (((List.length (MacS.S (MacA.x x))) = (List.length (MacS.S (MacA.x x)))) ∧
 (((MacS.S (MacA.x x)) = (MacS.S (MacA.x x))) ∧
 (((ChgA.alpha x55) = (MacS.alpha (MacA.x x))) ∧
 (Bad "match: another name" ""))))))))))))))))))))))))))))))))))
 (br ((RequestD.kind (MacA.r x)) == (7 : Int))
 (∃ x59 : ChgA,
 (((MacS.applied (MacA.x x)) = (ChgA.slot x59)) ∧
 (((RequestD.member (MacA.r x)) = (ChgA.member x59)) ∧
 ((Bool.false = (ChgA.add x59)) ∧
 (((MacS.alpha (MacA.x x)) = (ChgA.alpha x59)) ∧
 (((0 : Nat) = (0 : Nat)) ∧
 (((List.length (MacS.E (MacA.x x))) = (List.length (ChgA.E x59))) ∧
 (((MacS.E (MacA.x x)) = (ChgA.E x59)) ∧
 ((((okEp (ChgA.alpha x59) (ChgA.E x59)) = Bool.true) ∧
 (((0 : Int) ≤ (ChgA.slot x59)) ∧
 ((ChgA.slot x59) ≤ (2199023255552 : Int)))) ∧
 (∀ x60 : Unit,
 (True →
 (br ((Prod.fst (chgE x59)) != (0 : Int))
 (∃ x61 : Unit,
 (((14 : Int) = (VerdictD.code (peekM (MacA.x x) (MacA.r x)))) ∧
 (((0 : Int) = (VerdictD.session (peekM (MacA.x x) (MacA.r x)))) ∧
 (((0 : Int) = (VerdictD.rev (peekM (MacA.x x) (MacA.r x)))) ∧
 (((Array.toList (ByteArray.data (ByteArray.mk (List.toArray ([] : List UInt8))))) = (VerdictD.path (peekM (MacA.x x) (MacA.r x)))) ∧
 (((0 : Int) = (VerdictD.digest (peekM (MacA.x x) (MacA.r x)))) ∧
 ((([] : List CommitD) = (VerdictD.commits (peekM (MacA.x x) (MacA.r x)))) ∧
 (((RequestD.member (MacA.r x)) = (VerdictD.member (peekM (MacA.x x) (MacA.r x)))) ∧
 (((MacS.alpha (MacA.x x)) = (MacS.alpha (MacA.x x))) ∧
 (((MacS.size (MacA.x x)) = (MacS.size (MacA.x x))) ∧
 (((MacS.applied (MacA.x x)) = (MacS.applied (MacA.x x))) ∧
 (((0 : Nat) = (0 : Nat)) ∧
 (((List.length (MacS.C (MacA.x x))) = (List.length (MacS.C (MacA.x x)))) ∧
 (((treeC (MacS.C (MacA.x x))) = (treeC (MacS.C (MacA.x x)))) ∧
 (((MacS.C (MacA.x x)) = (MacS.C (MacA.x x))) ∧
 (((kvC (MacS.C (MacA.x x))) = (kvC (MacS.C (MacA.x x)))) ∧
 (((MacS.size (MacA.x x)) = (MacS.size (MacA.x x))) ∧
 (((0 : Nat) = (0 : Nat)) ∧
 (((List.length (MacS.S (MacA.x x))) = (List.length (MacS.S (MacA.x x)))) ∧
 (((MacS.S (MacA.x x)) = (MacS.S (MacA.x x))) ∧
 (((ChgA.alpha x59) = (MacS.alpha (MacA.x x))) ∧
 (Bad "match: another name" ""))))))))))))))))))))))
 (∃ x62 : Unit,
 (((13 : Int) = (VerdictD.code (peekM (MacA.x x) (MacA.r x)))) ∧
 (((0 : Int) = (VerdictD.session (peekM (MacA.x x) (MacA.r x)))) ∧
 (((0 : Int) = (VerdictD.rev (peekM (MacA.x x) (MacA.r x)))) ∧
 (((Array.toList (ByteArray.data (ByteArray.mk (List.toArray ([] : List UInt8))))) = (VerdictD.path (peekM (MacA.x x) (MacA.r x)))) ∧
 (((0 : Int) = (VerdictD.digest (peekM (MacA.x x) (MacA.r x)))) ∧
 ((([] : List CommitD) = (VerdictD.commits (peekM (MacA.x x) (MacA.r x)))) ∧
 (((RequestD.member (MacA.r x)) = (VerdictD.member (peekM (MacA.x x) (MacA.r x)))) ∧
 (((MacS.alpha (MacA.x x)) = (MacS.alpha (MacA.x x))) ∧
 (((MacS.size (MacA.x x)) = (MacS.size (MacA.x x))) ∧
 (((MacS.applied (MacA.x x)) = (MacS.applied (MacA.x x))) ∧
 (((0 : Nat) = (0 : Nat)) ∧
 (((List.length (MacS.C (MacA.x x))) = (List.length (MacS.C (MacA.x x)))) ∧
 (((treeC (MacS.C (MacA.x x))) = (treeC (MacS.C (MacA.x x)))) ∧
 (((MacS.C (MacA.x x)) = (MacS.C (MacA.x x))) ∧
 (((kvC (MacS.C (MacA.x x))) = (kvC (MacS.C (MacA.x x)))) ∧
 (((MacS.size (MacA.x x)) = (MacS.size (MacA.x x))) ∧
 (((0 : Nat) = (0 : Nat)) ∧
 (((List.length (MacS.S (MacA.x x))) = (List.length (MacS.S (MacA.x x)))) ∧
 (((MacS.S (MacA.x x)) = (MacS.S (MacA.x x))) ∧
 (((ChgA.alpha x59) = (MacS.alpha (MacA.x x))) ∧
 (Bad "match: another name" ""))))))))))))))))))))))))))))))))))
 (∃ x63 : Unit,
 (((5 : Int) = (VerdictD.code (peekM (MacA.x x) (MacA.r x)))) ∧
 (((0 : Int) = (VerdictD.session (peekM (MacA.x x) (MacA.r x)))) ∧
 (((0 : Int) = (VerdictD.rev (peekM (MacA.x x) (MacA.r x)))) ∧
 (((Array.toList (ByteArray.data (ByteArray.mk (List.toArray ([] : List UInt8))))) = (VerdictD.path (peekM (MacA.x x) (MacA.r x)))) ∧
 (((0 : Int) = (VerdictD.digest (peekM (MacA.x x) (MacA.r x)))) ∧
 ((([] : List CommitD) = (VerdictD.commits (peekM (MacA.x x) (MacA.r x)))) ∧
 (((0 : Int) = (VerdictD.member (peekM (MacA.x x) (MacA.r x)))) ∧
 (((MacS.alpha (MacA.x x)) = (MacS.alpha (MacA.x x))) ∧
 (((MacS.size (MacA.x x)) = (MacS.size (MacA.x x))) ∧
 (((MacS.applied (MacA.x x)) = (MacS.applied (MacA.x x))) ∧
 (((0 : Nat) = (0 : Nat)) ∧
 (((List.length (MacS.C (MacA.x x))) = (List.length (MacS.C (MacA.x x)))) ∧
 (((treeC (MacS.C (MacA.x x))) = (treeC (MacS.C (MacA.x x)))) ∧
 (((MacS.C (MacA.x x)) = (MacS.C (MacA.x x))) ∧
 (((kvC (MacS.C (MacA.x x))) = (kvC (MacS.C (MacA.x x)))) ∧
 (((MacS.size (MacA.x x)) = (MacS.size (MacA.x x))) ∧
 (((0 : Nat) = (0 : Nat)) ∧
 (((List.length (MacS.S (MacA.x x))) = (List.length (MacS.S (MacA.x x)))) ∧
 (((MacS.S (MacA.x x)) = (MacS.S (MacA.x x))) ∧
 (((MacS.alpha (MacA.x x)) = (MacS.alpha (MacA.x x))) ∧
 (((0 : Nat) = (0 : Nat)) ∧
 (((List.length (MacS.E (MacA.x x))) = (List.length (MacS.E (MacA.x x)))) ∧
 (((MacS.E (MacA.x x)) = (MacS.E (MacA.x x))) ∧
 True))))))))))))))))))))))))))))))
 (∃ x64 : Unit,
 (((5 : Int) = (VerdictD.code (peekM (MacA.x x) (MacA.r x)))) ∧
 (((0 : Int) = (VerdictD.session (peekM (MacA.x x) (MacA.r x)))) ∧
 (((0 : Int) = (VerdictD.rev (peekM (MacA.x x) (MacA.r x)))) ∧
 (((Array.toList (ByteArray.data (ByteArray.mk (List.toArray ([] : List UInt8))))) = (VerdictD.path (peekM (MacA.x x) (MacA.r x)))) ∧
 (((0 : Int) = (VerdictD.digest (peekM (MacA.x x) (MacA.r x)))) ∧
 ((([] : List CommitD) = (VerdictD.commits (peekM (MacA.x x) (MacA.r x)))) ∧
 (((0 : Int) = (VerdictD.member (peekM (MacA.x x) (MacA.r x)))) ∧
 (((MacS.alpha (MacA.x x)) = (MacS.alpha (MacA.x x))) ∧
 (((MacS.size (MacA.x x)) = (MacS.size (MacA.x x))) ∧
 (((MacS.applied (MacA.x x)) = (MacS.applied (MacA.x x))) ∧
 (((0 : Nat) = (0 : Nat)) ∧
 (((List.length (MacS.C (MacA.x x))) = (List.length (MacS.C (MacA.x x)))) ∧
 (((treeC (MacS.C (MacA.x x))) = (treeC (MacS.C (MacA.x x)))) ∧
 (((MacS.C (MacA.x x)) = (MacS.C (MacA.x x))) ∧
 (((kvC (MacS.C (MacA.x x))) = (kvC (MacS.C (MacA.x x)))) ∧
 (((MacS.size (MacA.x x)) = (MacS.size (MacA.x x))) ∧
 (((0 : Nat) = (0 : Nat)) ∧
 (((List.length (MacS.S (MacA.x x))) = (List.length (MacS.S (MacA.x x)))) ∧
 (((MacS.S (MacA.x x)) = (MacS.S (MacA.x x))) ∧
 (((MacS.alpha (MacA.x x)) = (MacS.alpha (MacA.x x))) ∧
 (((0 : Nat) = (0 : Nat)) ∧
 (((List.length (MacS.E (MacA.x x))) = (List.length (MacS.E (MacA.x x)))) ∧
 (((MacS.E (MacA.x x)) = (MacS.E (MacA.x x))) ∧
 True)))))))))))))))))))))))))))) := by kernel_rfl

end Go.Proofs.YtildflamnehilaaGreat.Ses

namespace Go.Proofs.YtildflamnehilaaGreat.Ses
open Go Go.Proofs Go.Proofs.YtildflamnehilaaGreat.Sx

theorem kind_other {k a b : Int} (h : (k == a) = true) (hne : a ≠ b) : (k == b) = false := by
  have := eq_of_beq h
  subst this
  simpa using hne
set_option maxHeartbeats 0 in
theorem peek_ok : SpecOK Tryz.prog 28 peekT.spec := by
  refine Tri.ok (E := peekE) (Env_ok (by decide +kernel) (by
    intro p hp
    simp only [List.mem_cons, List.mem_nil_iff, or_false] at hp
    rcases hp with rfl | rfl | rfl | rfl | rfl
    · exact land_ok
    · exact ghead_ok
    · exact read_ok
    · exact log_ok
    · exact echg_ok)) (n := 1000) peekT fun a ha => ?_
  rw [peek_vc]
  obtain ⟨x, r⟩ := a
  obtain ⟨p1, h2⟩ : fewG x.C = true ∧ okRq r = true := ha
  obtain ⟨q1, q2, q3⟩ := okRq_of h2
  dsimp only
  refine br_i (fun k3 => ?_) fun k3 => br_i (fun k4 => ?_) fun k4 => br_i (fun k5 => ?_) fun k5 => ?_
  · have hp : peekM x r = ⟨8, 0, x.C.length, [], 0, [], 0⟩ := by unfold peekM; rw [k3]; rfl
    rw [hp]
    exact br_f (kind_other k3 (by decide)) (br_t k3 ⟨x.C, rfl, rfl, rfl, rfl, rfl, trivial, fun _ _ => ⟨(), (by repeat' (first | exact trivial | refine And.intro ?_ ?_ | rfl))⟩⟩)
  · have hp : peekM x r = readV ⟨x.C, r.path⟩ := by unfold peekM; rw [k3, k4]; rfl
    rw [hp]
    exact br_f (kind_other k4 (by decide)) (br_f k3 (br_t k4 ⟨⟨x.C, r.path⟩, rfl, rfl, rfl, rfl, rfl, rfl, q2, fun _ _ => ⟨(), (by repeat' (first | exact trivial | refine And.intro ?_ ?_ | rfl))⟩⟩))
  · have hp : peekM x r = logV ⟨x.C, r.from_, r.many⟩ := by unfold peekM; rw [k3, k4, k5]; rfl
    rw [hp]
    exact br_f (kind_other k5 (by decide)) (br_f k3 (br_f k4 (br_t k5 ⟨⟨x.C, r.from_, r.many⟩, rfl, rfl, rfl, rfl, rfl, rfl, rfl, ⟨p1, q3⟩, fun _ _ => ⟨(), (by repeat' (first | exact trivial | refine And.intro ?_ ?_ | rfl))⟩⟩)))
  · have hp : peekM x r = vd 5 := by unfold peekM; rw [k3, k4, k5]; rfl
    rw [hp]
    exact ⟨(), (by repeat' (first | exact trivial | refine And.intro ?_ ?_ | rfl))⟩
end Go.Proofs.YtildflamnehilaaGreat.Ses

namespace Go.Proofs.YtildflamnehilaaGreat.Ses
open Go Go.Proofs Go.Proofs.YtildflamnehilaaGreat.Sx

def stepM (x : MacS) (r : RequestD) : MacS := (applyM x r).2
def runF (x : MacS) (l : List RequestD) : MacS := l.foldl stepM x
def isLk (r : RequestD) : Bool := r.kind == 3 || (r.kind == 4 || r.kind == 5)
def lookM (x : MacS) (r : RequestD) : MacS := bif isLk r then (applyM x r).2 else x
def runK (x : MacS) (l : List RequestD) : MacS := l.foldl lookM x
structure MacW where
  x : MacS
  m : Nat
  g : Nat
  c : Nat
  k : Nat
  t : Nat
  sr : Nat
  e : Nat
  er : Nat
def macAt (s : St) (ms : Nat) : Option MacW := match getE s.env ms with
  | .mptr q _ => match s.m.blks.get q with
    | some (.cells [.int _ a, .int _ b, .int _ d, .mptr g _, .mptr t _, .mptr e _]) => match s.m.blks.get g, s.m.blks.get t, s.m.blks.get e with
      | some (.cells [.mslice _ c _ _, _, .mmap k]), some (.cells [_, .mslice _ sr _ _]), some (.cells [_, .mslice _ er _ _]) => match s.m.blks.get c, s.m.blks.get sr, s.m.blks.get er with
        | some (.rows .commit C), some (.rows .session S), some (.rows .epoch E) => some ⟨⟨a, b, d, C, S, E⟩, q, g, c, k, t, sr, e, er⟩
        | _, _, _ => none
      | _, _, _ => none
    | _ => none
  | _ => none
noncomputable def runL (is ms : Nat) : St → LInv := fun s => match macAt s ms, getE s.env 0 with
  | some ⟨x, m, g, c, k, t, sr, e, er⟩, .rslice _ .request l => { σ := Nat, I := fun i => i ≤ l.length, μ := fun i => l.length - i, env := fun i => [(is, .int .i64 i)], blk := fun i => mB (runF x (l.take i)) m g s.m.next k t (s.m.next + 1) e (s.m.next + 2), fresh := 3, drop := [c, sr, er] }
  | _, _ => LInv.none
noncomputable def redI : St → LInv := fun s => match macAt s 5, getE s.env 1 with
  | some ⟨x, m, g, c, k, t, sr, e, er⟩, .rslice _ .request l => { σ := Nat, I := fun i => i ≤ l.length, μ := fun i => l.length - i, env := fun i => [(8, .int .i64 i)], blk := fun i => mB (runK x (l.take i)) m g s.m.next k t (s.m.next + 1) e (s.m.next + 2), fresh := 3, drop := [c, sr, er] }
  | _, _ => LInv.none
def freB (S : List SessionD) (id seq : Int) (j : Nat) : Bool := (S.take j).any fun s => s.id == id && (decide (seq > s.seq) && decide (seq ≥ 1))
noncomputable def redJ : St → LInv := fun s => match getE s.env 12, getE s.env 9 with
  | .rslice _ .session S, .mptr qb _ => match s.m.blks.get qb with
    | some (.cells (_ :: _ :: .int _ id :: .int _ seq :: _)) => { σ := Nat, I := fun j => j ≤ S.length, μ := fun j => S.length - j, env := fun j => [(14, .int .i64 j), (13, .bool (freB S id seq j))], blk := fun _ => [], fresh := 0, drop := [] }
    | _ => LInv.none
  | _, _ => LInv.none
structure RedA where
  l : List RequestD
  k : List RequestD
def redArgs (x : RedA) : List SV := [.rslice false .request x.l, .rslice false .request x.k]
noncomputable def redE : Envr := Env Tryz.prog cod [(24, aw8T.spec), (25, freshT.spec), (26, applyT.spec), (28, peekT.spec), (30, mroomT.spec), (32, comMT.spec), (36, alikeT.spec), (41, appMT.spec), (42, sesMT.spec), (43, scomsT.spec)] [(9, runL 6 5), (14, redI), (23, redJ)]
end Go.Proofs.YtildflamnehilaaGreat.Ses

namespace Go.Proofs.YtildflamnehilaaGreat.Ses
open Go Go.Proofs Go.Proofs.YtildflamnehilaaGreat.Sx
set_option maxRecDepth 100000

theorem red_vc (x : RedA) : evCall redE (ev redE 1000) 8 (redArgs x) ⟨[], 0, []⟩ (fun _ _ => False) (fun v _ => TrueV v) = (
(∃ x1 : Unit,
 (True ∧
 (∀ x2 : Unit,
 (True →
 (∃ x3 : RmA,
 (((RedA.l x) = (RmA.l x3)) ∧
 (((60 : Int) = (RmA.most x3)) ∧
 (True ∧
 (∀ x4 : Unit,
 (True →
 (br (Bool.not (roomM (RmA.l x3) (RmA.most x3)))
 (Bool.true = Bool.true)
 (∃ x5 : RmA,
 (((RedA.k x) = (RmA.l x5)) ∧
 (((60 : Int) = (RmA.most x5)) ∧
 (True ∧
 (∀ x6 : Unit,
 (True →
 (br (Bool.not (roomM (RmA.l x5) (RmA.most x5)))
 (Bool.true = Bool.true)
 (∃ x7 : Unit,
 (True ∧
 (∀ x8 : Unit,
 (True →
 ((∃ x9 : Nat,
 (((0 : Int) = (↑x9 : Int)) ∧
 (((MacS.alpha fresh0) = (MacS.alpha (runF (MacS.mk (MacS.alpha fresh0) (MacS.size fresh0) (MacS.applied fresh0) (MacS.C fresh0) (MacS.S fresh0) (MacS.E fresh0)) (List.take x9 (RedA.l x))))) ∧
 (((MacS.size fresh0) = (MacS.size (runF (MacS.mk (MacS.alpha fresh0) (MacS.size fresh0) (MacS.applied fresh0) (MacS.C fresh0) (MacS.S fresh0) (MacS.E fresh0)) (List.take x9 (RedA.l x))))) ∧
 (((MacS.applied fresh0) = (MacS.applied (runF (MacS.mk (MacS.alpha fresh0) (MacS.size fresh0) (MacS.applied fresh0) (MacS.C fresh0) (MacS.S fresh0) (MacS.E fresh0)) (List.take x9 (RedA.l x))))) ∧
 (((0 : Nat) = (0 : Nat)) ∧
 (((List.length (MacS.C fresh0)) = (List.length (MacS.C (runF (MacS.mk (MacS.alpha fresh0) (MacS.size fresh0) (MacS.applied fresh0) (MacS.C fresh0) (MacS.S fresh0) (MacS.E fresh0)) (List.take x9 (RedA.l x)))))) ∧
 (((treeC (MacS.C fresh0)) = (treeC (MacS.C (runF (MacS.mk (MacS.alpha fresh0) (MacS.size fresh0) (MacS.applied fresh0) (MacS.C fresh0) (MacS.S fresh0) (MacS.E fresh0)) (List.take x9 (RedA.l x)))))) ∧
 (((MacS.C fresh0) = (MacS.C (runF (MacS.mk (MacS.alpha fresh0) (MacS.size fresh0) (MacS.applied fresh0) (MacS.C fresh0) (MacS.S fresh0) (MacS.E fresh0)) (List.take x9 (RedA.l x))))) ∧
 (((kvC (MacS.C fresh0)) = (kvC (MacS.C (runF (MacS.mk (MacS.alpha fresh0) (MacS.size fresh0) (MacS.applied fresh0) (MacS.C fresh0) (MacS.S fresh0) (MacS.E fresh0)) (List.take x9 (RedA.l x)))))) ∧
 (((MacS.size fresh0) = (MacS.size (runF (MacS.mk (MacS.alpha fresh0) (MacS.size fresh0) (MacS.applied fresh0) (MacS.C fresh0) (MacS.S fresh0) (MacS.E fresh0)) (List.take x9 (RedA.l x))))) ∧
 (((0 : Nat) = (0 : Nat)) ∧
 (((List.length (MacS.S fresh0)) = (List.length (MacS.S (runF (MacS.mk (MacS.alpha fresh0) (MacS.size fresh0) (MacS.applied fresh0) (MacS.C fresh0) (MacS.S fresh0) (MacS.E fresh0)) (List.take x9 (RedA.l x)))))) ∧
 (((MacS.S fresh0) = (MacS.S (runF (MacS.mk (MacS.alpha fresh0) (MacS.size fresh0) (MacS.applied fresh0) (MacS.C fresh0) (MacS.S fresh0) (MacS.E fresh0)) (List.take x9 (RedA.l x))))) ∧
 (((MacS.alpha fresh0) = (MacS.alpha (runF (MacS.mk (MacS.alpha fresh0) (MacS.size fresh0) (MacS.applied fresh0) (MacS.C fresh0) (MacS.S fresh0) (MacS.E fresh0)) (List.take x9 (RedA.l x))))) ∧
 (((0 : Nat) = (0 : Nat)) ∧
 (((List.length (MacS.E fresh0)) = (List.length (MacS.E (runF (MacS.mk (MacS.alpha fresh0) (MacS.size fresh0) (MacS.applied fresh0) (MacS.C fresh0) (MacS.S fresh0) (MacS.E fresh0)) (List.take x9 (RedA.l x)))))) ∧
 (((MacS.E fresh0) = (MacS.E (runF (MacS.mk (MacS.alpha fresh0) (MacS.size fresh0) (MacS.applied fresh0) (MacS.C fresh0) (MacS.S fresh0) (MacS.E fresh0)) (List.take x9 (RedA.l x))))) ∧
 (Nat.le x9 (List.length (RedA.l x))))))))))))))))))))) ∧
 (∀ x10 : Nat,
 ((Nat.le x10 (List.length (RedA.l x))) →
 ((((List.length (RedA.l x)) * (128 : Nat)) ≤ room47) →
 (br (decide ((↑x10 : Int) < (↑(List.length (RedA.l x)) : Int)))
 (br (decide (((0 : Int) ≤ (↑x10 : Int)) ∧
 ((↑x10 : Int) < (↑(List.length (RedA.l x)) : Int))))
 (∃ x11 : MacA,
 (((RequestD.kind (List.getD (RedA.l x) (Int.toNat (↑x10 : Int)) (RequestD.mk (0 : Int) ([] : List UInt8) (0 : Int) (0 : Int) (0 : Int) ([] : List UInt8) ([] : List ChangeD) ([] : List UInt8) (0 : Int) (0 : Int) (0 : Int)))) = (RequestD.kind (MacA.r x11))) ∧
 (((RequestD.name (List.getD (RedA.l x) (Int.toNat (↑x10 : Int)) (RequestD.mk (0 : Int) ([] : List UInt8) (0 : Int) (0 : Int) (0 : Int) ([] : List UInt8) ([] : List ChangeD) ([] : List UInt8) (0 : Int) (0 : Int) (0 : Int)))) = (RequestD.name (MacA.r x11))) ∧
 (((RequestD.session (List.getD (RedA.l x) (Int.toNat (↑x10 : Int)) (RequestD.mk (0 : Int) ([] : List UInt8) (0 : Int) (0 : Int) (0 : Int) ([] : List UInt8) ([] : List ChangeD) ([] : List UInt8) (0 : Int) (0 : Int) (0 : Int)))) = (RequestD.session (MacA.r x11))) ∧
 (((RequestD.seq (List.getD (RedA.l x) (Int.toNat (↑x10 : Int)) (RequestD.mk (0 : Int) ([] : List UInt8) (0 : Int) (0 : Int) (0 : Int) ([] : List UInt8) ([] : List ChangeD) ([] : List UInt8) (0 : Int) (0 : Int) (0 : Int)))) = (RequestD.seq (MacA.r x11))) ∧
 (((RequestD.base (List.getD (RedA.l x) (Int.toNat (↑x10 : Int)) (RequestD.mk (0 : Int) ([] : List UInt8) (0 : Int) (0 : Int) (0 : Int) ([] : List UInt8) ([] : List ChangeD) ([] : List UInt8) (0 : Int) (0 : Int) (0 : Int)))) = (RequestD.base (MacA.r x11))) ∧
 (((RequestD.ref (List.getD (RedA.l x) (Int.toNat (↑x10 : Int)) (RequestD.mk (0 : Int) ([] : List UInt8) (0 : Int) (0 : Int) (0 : Int) ([] : List UInt8) ([] : List ChangeD) ([] : List UInt8) (0 : Int) (0 : Int) (0 : Int)))) = (RequestD.ref (MacA.r x11))) ∧
 (((RequestD.changes (List.getD (RedA.l x) (Int.toNat (↑x10 : Int)) (RequestD.mk (0 : Int) ([] : List UInt8) (0 : Int) (0 : Int) (0 : Int) ([] : List UInt8) ([] : List ChangeD) ([] : List UInt8) (0 : Int) (0 : Int) (0 : Int)))) = (RequestD.changes (MacA.r x11))) ∧
 (((RequestD.path (List.getD (RedA.l x) (Int.toNat (↑x10 : Int)) (RequestD.mk (0 : Int) ([] : List UInt8) (0 : Int) (0 : Int) (0 : Int) ([] : List UInt8) ([] : List ChangeD) ([] : List UInt8) (0 : Int) (0 : Int) (0 : Int)))) = (RequestD.path (MacA.r x11))) ∧
 (((RequestD.from_ (List.getD (RedA.l x) (Int.toNat (↑x10 : Int)) (RequestD.mk (0 : Int) ([] : List UInt8) (0 : Int) (0 : Int) (0 : Int) ([] : List UInt8) ([] : List ChangeD) ([] : List UInt8) (0 : Int) (0 : Int) (0 : Int)))) = (RequestD.from_ (MacA.r x11))) ∧
 (((RequestD.many (List.getD (RedA.l x) (Int.toNat (↑x10 : Int)) (RequestD.mk (0 : Int) ([] : List UInt8) (0 : Int) (0 : Int) (0 : Int) ([] : List UInt8) ([] : List ChangeD) ([] : List UInt8) (0 : Int) (0 : Int) (0 : Int)))) = (RequestD.many (MacA.r x11))) ∧
 (((RequestD.member (List.getD (RedA.l x) (Int.toNat (↑x10 : Int)) (RequestD.mk (0 : Int) ([] : List UInt8) (0 : Int) (0 : Int) (0 : Int) ([] : List UInt8) ([] : List ChangeD) ([] : List UInt8) (0 : Int) (0 : Int) (0 : Int)))) = (RequestD.member (MacA.r x11))) ∧
 (((MacS.alpha (runF (MacS.mk (MacS.alpha fresh0) (MacS.size fresh0) (MacS.applied fresh0) (MacS.C fresh0) (MacS.S fresh0) (MacS.E fresh0)) (List.take x10 (RedA.l x)))) = (MacS.alpha (MacA.x x11))) ∧
 (((MacS.size (runF (MacS.mk (MacS.alpha fresh0) (MacS.size fresh0) (MacS.applied fresh0) (MacS.C fresh0) (MacS.S fresh0) (MacS.E fresh0)) (List.take x10 (RedA.l x)))) = (MacS.size (MacA.x x11))) ∧
 (((MacS.applied (runF (MacS.mk (MacS.alpha fresh0) (MacS.size fresh0) (MacS.applied fresh0) (MacS.C fresh0) (MacS.S fresh0) (MacS.E fresh0)) (List.take x10 (RedA.l x)))) = (MacS.applied (MacA.x x11))) ∧
 (((0 : Nat) = (0 : Nat)) ∧
 (((List.length (MacS.C (runF (MacS.mk (MacS.alpha fresh0) (MacS.size fresh0) (MacS.applied fresh0) (MacS.C fresh0) (MacS.S fresh0) (MacS.E fresh0)) (List.take x10 (RedA.l x))))) = (List.length (MacS.C (MacA.x x11)))) ∧
 (((treeC (MacS.C (runF (MacS.mk (MacS.alpha fresh0) (MacS.size fresh0) (MacS.applied fresh0) (MacS.C fresh0) (MacS.S fresh0) (MacS.E fresh0)) (List.take x10 (RedA.l x))))) = (treeC (MacS.C (MacA.x x11)))) ∧
 (((MacS.C (runF (MacS.mk (MacS.alpha fresh0) (MacS.size fresh0) (MacS.applied fresh0) (MacS.C fresh0) (MacS.S fresh0) (MacS.E fresh0)) (List.take x10 (RedA.l x)))) = (MacS.C (MacA.x x11))) ∧
 (((kvC (MacS.C (runF (MacS.mk (MacS.alpha fresh0) (MacS.size fresh0) (MacS.applied fresh0) (MacS.C fresh0) (MacS.S fresh0) (MacS.E fresh0)) (List.take x10 (RedA.l x))))) = (kvC (MacS.C (MacA.x x11)))) ∧
 (((MacS.size (runF (MacS.mk (MacS.alpha fresh0) (MacS.size fresh0) (MacS.applied fresh0) (MacS.C fresh0) (MacS.S fresh0) (MacS.E fresh0)) (List.take x10 (RedA.l x)))) = (MacS.size (MacA.x x11))) ∧
 (((0 : Nat) = (0 : Nat)) ∧
 (((List.length (MacS.S (runF (MacS.mk (MacS.alpha fresh0) (MacS.size fresh0) (MacS.applied fresh0) (MacS.C fresh0) (MacS.S fresh0) (MacS.E fresh0)) (List.take x10 (RedA.l x))))) = (List.length (MacS.S (MacA.x x11)))) ∧
 (((MacS.S (runF (MacS.mk (MacS.alpha fresh0) (MacS.size fresh0) (MacS.applied fresh0) (MacS.C fresh0) (MacS.S fresh0) (MacS.E fresh0)) (List.take x10 (RedA.l x)))) = (MacS.S (MacA.x x11))) ∧
 (((MacS.alpha (runF (MacS.mk (MacS.alpha fresh0) (MacS.size fresh0) (MacS.applied fresh0) (MacS.C fresh0) (MacS.S fresh0) (MacS.E fresh0)) (List.take x10 (RedA.l x)))) = (MacS.alpha (MacA.x x11))) ∧
 (((0 : Nat) = (0 : Nat)) ∧
 (((List.length (MacS.E (runF (MacS.mk (MacS.alpha fresh0) (MacS.size fresh0) (MacS.applied fresh0) (MacS.C fresh0) (MacS.S fresh0) (MacS.E fresh0)) (List.take x10 (RedA.l x))))) = (List.length (MacS.E (MacA.x x11)))) ∧
 (((MacS.E (runF (MacS.mk (MacS.alpha fresh0) (MacS.size fresh0) (MacS.applied fresh0) (MacS.C fresh0) (MacS.S fresh0) (MacS.E fresh0)) (List.take x10 (RedA.l x)))) = (MacS.E (MacA.x x11))) ∧
 ((((okMS (MacA.x x11)) = Bool.true) ∧
 ((okRq (MacA.r x11)) = Bool.true)) ∧
 (∀ x12 : Unit,
 (True →
 (∃ x13 : Nat,
 (((IntKind.wrap IntKind.i64 ((↑x10 : Int) + (1 : Int))) = (↑x13 : Int)) ∧
 (((MacS.alpha (Prod.snd (applyM (MacA.x x11) (MacA.r x11)))) = (MacS.alpha (runF (MacS.mk (MacS.alpha fresh0) (MacS.size fresh0) (MacS.applied fresh0) (MacS.C fresh0) (MacS.S fresh0) (MacS.E fresh0)) (List.take x13 (RedA.l x))))) ∧
 (((MacS.size (Prod.snd (applyM (MacA.x x11) (MacA.r x11)))) = (MacS.size (runF (MacS.mk (MacS.alpha fresh0) (MacS.size fresh0) (MacS.applied fresh0) (MacS.C fresh0) (MacS.S fresh0) (MacS.E fresh0)) (List.take x13 (RedA.l x))))) ∧
 (((MacS.applied (Prod.snd (applyM (MacA.x x11) (MacA.r x11)))) = (MacS.applied (runF (MacS.mk (MacS.alpha fresh0) (MacS.size fresh0) (MacS.applied fresh0) (MacS.C fresh0) (MacS.S fresh0) (MacS.E fresh0)) (List.take x13 (RedA.l x))))) ∧
 (((0 : Nat) = (0 : Nat)) ∧
 (((List.length (MacS.C (Prod.snd (applyM (MacA.x x11) (MacA.r x11))))) = (List.length (MacS.C (runF (MacS.mk (MacS.alpha fresh0) (MacS.size fresh0) (MacS.applied fresh0) (MacS.C fresh0) (MacS.S fresh0) (MacS.E fresh0)) (List.take x13 (RedA.l x)))))) ∧
 (((treeC (MacS.C (Prod.snd (applyM (MacA.x x11) (MacA.r x11))))) = (treeC (MacS.C (runF (MacS.mk (MacS.alpha fresh0) (MacS.size fresh0) (MacS.applied fresh0) (MacS.C fresh0) (MacS.S fresh0) (MacS.E fresh0)) (List.take x13 (RedA.l x)))))) ∧
 (((MacS.C (Prod.snd (applyM (MacA.x x11) (MacA.r x11)))) = (MacS.C (runF (MacS.mk (MacS.alpha fresh0) (MacS.size fresh0) (MacS.applied fresh0) (MacS.C fresh0) (MacS.S fresh0) (MacS.E fresh0)) (List.take x13 (RedA.l x))))) ∧
 (((kvC (MacS.C (Prod.snd (applyM (MacA.x x11) (MacA.r x11))))) = (kvC (MacS.C (runF (MacS.mk (MacS.alpha fresh0) (MacS.size fresh0) (MacS.applied fresh0) (MacS.C fresh0) (MacS.S fresh0) (MacS.E fresh0)) (List.take x13 (RedA.l x)))))) ∧
 (((MacS.size (Prod.snd (applyM (MacA.x x11) (MacA.r x11)))) = (MacS.size (runF (MacS.mk (MacS.alpha fresh0) (MacS.size fresh0) (MacS.applied fresh0) (MacS.C fresh0) (MacS.S fresh0) (MacS.E fresh0)) (List.take x13 (RedA.l x))))) ∧
 (((0 : Nat) = (0 : Nat)) ∧
 (((List.length (MacS.S (Prod.snd (applyM (MacA.x x11) (MacA.r x11))))) = (List.length (MacS.S (runF (MacS.mk (MacS.alpha fresh0) (MacS.size fresh0) (MacS.applied fresh0) (MacS.C fresh0) (MacS.S fresh0) (MacS.E fresh0)) (List.take x13 (RedA.l x)))))) ∧
 (((MacS.S (Prod.snd (applyM (MacA.x x11) (MacA.r x11)))) = (MacS.S (runF (MacS.mk (MacS.alpha fresh0) (MacS.size fresh0) (MacS.applied fresh0) (MacS.C fresh0) (MacS.S fresh0) (MacS.E fresh0)) (List.take x13 (RedA.l x))))) ∧
 (((MacS.alpha (Prod.snd (applyM (MacA.x x11) (MacA.r x11)))) = (MacS.alpha (runF (MacS.mk (MacS.alpha fresh0) (MacS.size fresh0) (MacS.applied fresh0) (MacS.C fresh0) (MacS.S fresh0) (MacS.E fresh0)) (List.take x13 (RedA.l x))))) ∧
 (((0 : Nat) = (0 : Nat)) ∧
 (((List.length (MacS.E (Prod.snd (applyM (MacA.x x11) (MacA.r x11))))) = (List.length (MacS.E (runF (MacS.mk (MacS.alpha fresh0) (MacS.size fresh0) (MacS.applied fresh0) (MacS.C fresh0) (MacS.S fresh0) (MacS.E fresh0)) (List.take x13 (RedA.l x)))))) ∧
 (((MacS.E (Prod.snd (applyM (MacA.x x11) (MacA.r x11)))) = (MacS.E (runF (MacS.mk (MacS.alpha fresh0) (MacS.size fresh0) (MacS.applied fresh0) (MacS.C fresh0) (MacS.S fresh0) (MacS.E fresh0)) (List.take x13 (RedA.l x))))) ∧
 ((Nat.le x13 (List.length (RedA.l x))) ∧
 ((Nat.sub (List.length (RedA.l x)) x13) < (Nat.sub (List.length (RedA.l x)) x10))))))))))))))))))))))))))))))))))))))))))))))))))))
 (Bad "check" "law.go:228"))
 (∃ x14 : MacS,
 (((MacS.alpha (runF (MacS.mk (MacS.alpha fresh0) (MacS.size fresh0) (MacS.applied fresh0) (MacS.C fresh0) (MacS.S fresh0) (MacS.E fresh0)) (List.take x10 (RedA.l x)))) = (MacS.alpha x14)) ∧
 (((MacS.size (runF (MacS.mk (MacS.alpha fresh0) (MacS.size fresh0) (MacS.applied fresh0) (MacS.C fresh0) (MacS.S fresh0) (MacS.E fresh0)) (List.take x10 (RedA.l x)))) = (MacS.size x14)) ∧
 (((MacS.applied (runF (MacS.mk (MacS.alpha fresh0) (MacS.size fresh0) (MacS.applied fresh0) (MacS.C fresh0) (MacS.S fresh0) (MacS.E fresh0)) (List.take x10 (RedA.l x)))) = (MacS.applied x14)) ∧
 (((0 : Nat) = (0 : Nat)) ∧
 (((List.length (MacS.C (runF (MacS.mk (MacS.alpha fresh0) (MacS.size fresh0) (MacS.applied fresh0) (MacS.C fresh0) (MacS.S fresh0) (MacS.E fresh0)) (List.take x10 (RedA.l x))))) = (List.length (MacS.C x14))) ∧
 (((treeC (MacS.C (runF (MacS.mk (MacS.alpha fresh0) (MacS.size fresh0) (MacS.applied fresh0) (MacS.C fresh0) (MacS.S fresh0) (MacS.E fresh0)) (List.take x10 (RedA.l x))))) = (treeC (MacS.C x14))) ∧
 (((MacS.C (runF (MacS.mk (MacS.alpha fresh0) (MacS.size fresh0) (MacS.applied fresh0) (MacS.C fresh0) (MacS.S fresh0) (MacS.E fresh0)) (List.take x10 (RedA.l x)))) = (MacS.C x14)) ∧
 (((kvC (MacS.C (runF (MacS.mk (MacS.alpha fresh0) (MacS.size fresh0) (MacS.applied fresh0) (MacS.C fresh0) (MacS.S fresh0) (MacS.E fresh0)) (List.take x10 (RedA.l x))))) = (kvC (MacS.C x14))) ∧
 (((MacS.size (runF (MacS.mk (MacS.alpha fresh0) (MacS.size fresh0) (MacS.applied fresh0) (MacS.C fresh0) (MacS.S fresh0) (MacS.E fresh0)) (List.take x10 (RedA.l x)))) = (MacS.size x14)) ∧
 (((0 : Nat) = (0 : Nat)) ∧
 (((List.length (MacS.S (runF (MacS.mk (MacS.alpha fresh0) (MacS.size fresh0) (MacS.applied fresh0) (MacS.C fresh0) (MacS.S fresh0) (MacS.E fresh0)) (List.take x10 (RedA.l x))))) = (List.length (MacS.S x14))) ∧
 (((MacS.S (runF (MacS.mk (MacS.alpha fresh0) (MacS.size fresh0) (MacS.applied fresh0) (MacS.C fresh0) (MacS.S fresh0) (MacS.E fresh0)) (List.take x10 (RedA.l x)))) = (MacS.S x14)) ∧
 (((MacS.alpha (runF (MacS.mk (MacS.alpha fresh0) (MacS.size fresh0) (MacS.applied fresh0) (MacS.C fresh0) (MacS.S fresh0) (MacS.E fresh0)) (List.take x10 (RedA.l x)))) = (MacS.alpha x14)) ∧
 (((0 : Nat) = (0 : Nat)) ∧
 (((List.length (MacS.E (runF (MacS.mk (MacS.alpha fresh0) (MacS.size fresh0) (MacS.applied fresh0) (MacS.C fresh0) (MacS.S fresh0) (MacS.E fresh0)) (List.take x10 (RedA.l x))))) = (List.length (MacS.E x14))) ∧
 (((MacS.E (runF (MacS.mk (MacS.alpha fresh0) (MacS.size fresh0) (MacS.applied fresh0) (MacS.C fresh0) (MacS.S fresh0) (MacS.E fresh0)) (List.take x10 (RedA.l x)))) = (MacS.E x14)) ∧
 (((fewG (MacS.C x14)) = Bool.true) ∧
 (∀ x15 : Unit,
 (True →
 ((∃ x16 : Nat,
 (((0 : Int) = (↑x16 : Int)) ∧
 (((MacS.alpha x14) = (MacS.alpha (runK (MacS.mk (MacS.alpha x14) (MacS.size x14) (MacS.applied x14) (MacS.C x14) (MacS.S x14) (MacS.E x14)) (List.take x16 (RedA.k x))))) ∧
 (((MacS.size x14) = (MacS.size (runK (MacS.mk (MacS.alpha x14) (MacS.size x14) (MacS.applied x14) (MacS.C x14) (MacS.S x14) (MacS.E x14)) (List.take x16 (RedA.k x))))) ∧
 (((MacS.applied x14) = (MacS.applied (runK (MacS.mk (MacS.alpha x14) (MacS.size x14) (MacS.applied x14) (MacS.C x14) (MacS.S x14) (MacS.E x14)) (List.take x16 (RedA.k x))))) ∧
 (((0 : Nat) = (0 : Nat)) ∧
 (((List.length (MacS.C x14)) = (List.length (MacS.C (runK (MacS.mk (MacS.alpha x14) (MacS.size x14) (MacS.applied x14) (MacS.C x14) (MacS.S x14) (MacS.E x14)) (List.take x16 (RedA.k x)))))) ∧
 (((treeC (MacS.C x14)) = (treeC (MacS.C (runK (MacS.mk (MacS.alpha x14) (MacS.size x14) (MacS.applied x14) (MacS.C x14) (MacS.S x14) (MacS.E x14)) (List.take x16 (RedA.k x)))))) ∧
 (((MacS.C x14) = (MacS.C (runK (MacS.mk (MacS.alpha x14) (MacS.size x14) (MacS.applied x14) (MacS.C x14) (MacS.S x14) (MacS.E x14)) (List.take x16 (RedA.k x))))) ∧
 (((kvC (MacS.C x14)) = (kvC (MacS.C (runK (MacS.mk (MacS.alpha x14) (MacS.size x14) (MacS.applied x14) (MacS.C x14) (MacS.S x14) (MacS.E x14)) (List.take x16 (RedA.k x)))))) ∧
 (((MacS.size x14) = (MacS.size (runK (MacS.mk (MacS.alpha x14) (MacS.size x14) (MacS.applied x14) (MacS.C x14) (MacS.S x14) (MacS.E x14)) (List.take x16 (RedA.k x))))) ∧
 (((0 : Nat) = (0 : Nat)) ∧
 (((List.length (MacS.S x14)) = (List.length (MacS.S (runK (MacS.mk (MacS.alpha x14) (MacS.size x14) (MacS.applied x14) (MacS.C x14) (MacS.S x14) (MacS.E x14)) (List.take x16 (RedA.k x)))))) ∧
 (((MacS.S x14) = (MacS.S (runK (MacS.mk (MacS.alpha x14) (MacS.size x14) (MacS.applied x14) (MacS.C x14) (MacS.S x14) (MacS.E x14)) (List.take x16 (RedA.k x))))) ∧
 (((MacS.alpha x14) = (MacS.alpha (runK (MacS.mk (MacS.alpha x14) (MacS.size x14) (MacS.applied x14) (MacS.C x14) (MacS.S x14) (MacS.E x14)) (List.take x16 (RedA.k x))))) ∧
 (((0 : Nat) = (0 : Nat)) ∧
 (((List.length (MacS.E x14)) = (List.length (MacS.E (runK (MacS.mk (MacS.alpha x14) (MacS.size x14) (MacS.applied x14) (MacS.C x14) (MacS.S x14) (MacS.E x14)) (List.take x16 (RedA.k x)))))) ∧
 (((MacS.E x14) = (MacS.E (runK (MacS.mk (MacS.alpha x14) (MacS.size x14) (MacS.applied x14) (MacS.C x14) (MacS.S x14) (MacS.E x14)) (List.take x16 (RedA.k x))))) ∧
 (Nat.le x16 (List.length (RedA.k x))))))))))))))))))))) ∧
 (∀ x17 : Nat,
 ((Nat.le x17 (List.length (RedA.k x))) →
 ((((List.length (RedA.k x)) * (128 : Nat)) ≤ room47) →
 (br (decide ((↑x17 : Int) < (↑(List.length (RedA.k x)) : Int)))
 (br (decide (((0 : Int) ≤ (↑x17 : Int)) ∧
 ((↑x17 : Int) < (↑(List.length (RedA.k x)) : Int))))
 (br ((RequestD.kind (List.getD (RedA.k x) (Int.toNat (↑x17 : Int)) (RequestD.mk (0 : Int) ([] : List UInt8) (0 : Int) (0 : Int) (0 : Int) ([] : List UInt8) ([] : List ChangeD) ([] : List UInt8) (0 : Int) (0 : Int) (0 : Int)))) != (3 : Int))
 (br ((RequestD.kind (List.getD (RedA.k x) (Int.toNat (↑x17 : Int)) (RequestD.mk (0 : Int) ([] : List UInt8) (0 : Int) (0 : Int) (0 : Int) ([] : List UInt8) ([] : List ChangeD) ([] : List UInt8) (0 : Int) (0 : Int) (0 : Int)))) != (4 : Int))
 (br ((RequestD.kind (List.getD (RedA.k x) (Int.toNat (↑x17 : Int)) (RequestD.mk (0 : Int) ([] : List UInt8) (0 : Int) (0 : Int) (0 : Int) ([] : List UInt8) ([] : List ChangeD) ([] : List UInt8) (0 : Int) (0 : Int) (0 : Int)))) != (5 : Int))
 (∃ x18 : Nat,
 (((IntKind.wrap IntKind.i64 ((↑x17 : Int) + (1 : Int))) = (↑x18 : Int)) ∧
 (((MacS.alpha (runK (MacS.mk (MacS.alpha x14) (MacS.size x14) (MacS.applied x14) (MacS.C x14) (MacS.S x14) (MacS.E x14)) (List.take x17 (RedA.k x)))) = (MacS.alpha (runK (MacS.mk (MacS.alpha x14) (MacS.size x14) (MacS.applied x14) (MacS.C x14) (MacS.S x14) (MacS.E x14)) (List.take x18 (RedA.k x))))) ∧
 (((MacS.size (runK (MacS.mk (MacS.alpha x14) (MacS.size x14) (MacS.applied x14) (MacS.C x14) (MacS.S x14) (MacS.E x14)) (List.take x17 (RedA.k x)))) = (MacS.size (runK (MacS.mk (MacS.alpha x14) (MacS.size x14) (MacS.applied x14) (MacS.C x14) (MacS.S x14) (MacS.E x14)) (List.take x18 (RedA.k x))))) ∧
 (((MacS.applied (runK (MacS.mk (MacS.alpha x14) (MacS.size x14) (MacS.applied x14) (MacS.C x14) (MacS.S x14) (MacS.E x14)) (List.take x17 (RedA.k x)))) = (MacS.applied (runK (MacS.mk (MacS.alpha x14) (MacS.size x14) (MacS.applied x14) (MacS.C x14) (MacS.S x14) (MacS.E x14)) (List.take x18 (RedA.k x))))) ∧
 (((0 : Nat) = (0 : Nat)) ∧
 (((List.length (MacS.C (runK (MacS.mk (MacS.alpha x14) (MacS.size x14) (MacS.applied x14) (MacS.C x14) (MacS.S x14) (MacS.E x14)) (List.take x17 (RedA.k x))))) = (List.length (MacS.C (runK (MacS.mk (MacS.alpha x14) (MacS.size x14) (MacS.applied x14) (MacS.C x14) (MacS.S x14) (MacS.E x14)) (List.take x18 (RedA.k x)))))) ∧
 (((treeC (MacS.C (runK (MacS.mk (MacS.alpha x14) (MacS.size x14) (MacS.applied x14) (MacS.C x14) (MacS.S x14) (MacS.E x14)) (List.take x17 (RedA.k x))))) = (treeC (MacS.C (runK (MacS.mk (MacS.alpha x14) (MacS.size x14) (MacS.applied x14) (MacS.C x14) (MacS.S x14) (MacS.E x14)) (List.take x18 (RedA.k x)))))) ∧
 (((MacS.C (runK (MacS.mk (MacS.alpha x14) (MacS.size x14) (MacS.applied x14) (MacS.C x14) (MacS.S x14) (MacS.E x14)) (List.take x17 (RedA.k x)))) = (MacS.C (runK (MacS.mk (MacS.alpha x14) (MacS.size x14) (MacS.applied x14) (MacS.C x14) (MacS.S x14) (MacS.E x14)) (List.take x18 (RedA.k x))))) ∧
 (((kvC (MacS.C (runK (MacS.mk (MacS.alpha x14) (MacS.size x14) (MacS.applied x14) (MacS.C x14) (MacS.S x14) (MacS.E x14)) (List.take x17 (RedA.k x))))) = (kvC (MacS.C (runK (MacS.mk (MacS.alpha x14) (MacS.size x14) (MacS.applied x14) (MacS.C x14) (MacS.S x14) (MacS.E x14)) (List.take x18 (RedA.k x)))))) ∧
 (((MacS.size (runK (MacS.mk (MacS.alpha x14) (MacS.size x14) (MacS.applied x14) (MacS.C x14) (MacS.S x14) (MacS.E x14)) (List.take x17 (RedA.k x)))) = (MacS.size (runK (MacS.mk (MacS.alpha x14) (MacS.size x14) (MacS.applied x14) (MacS.C x14) (MacS.S x14) (MacS.E x14)) (List.take x18 (RedA.k x))))) ∧
 (((0 : Nat) = (0 : Nat)) ∧
 (((List.length (MacS.S (runK (MacS.mk (MacS.alpha x14) (MacS.size x14) (MacS.applied x14) (MacS.C x14) (MacS.S x14) (MacS.E x14)) (List.take x17 (RedA.k x))))) = (List.length (MacS.S (runK (MacS.mk (MacS.alpha x14) (MacS.size x14) (MacS.applied x14) (MacS.C x14) (MacS.S x14) (MacS.E x14)) (List.take x18 (RedA.k x)))))) ∧
 (((MacS.S (runK (MacS.mk (MacS.alpha x14) (MacS.size x14) (MacS.applied x14) (MacS.C x14) (MacS.S x14) (MacS.E x14)) (List.take x17 (RedA.k x)))) = (MacS.S (runK (MacS.mk (MacS.alpha x14) (MacS.size x14) (MacS.applied x14) (MacS.C x14) (MacS.S x14) (MacS.E x14)) (List.take x18 (RedA.k x))))) ∧
 (((MacS.alpha (runK (MacS.mk (MacS.alpha x14) (MacS.size x14) (MacS.applied x14) (MacS.C x14) (MacS.S x14) (MacS.E x14)) (List.take x17 (RedA.k x)))) = (MacS.alpha (runK (MacS.mk (MacS.alpha x14) (MacS.size x14) (MacS.applied x14) (MacS.C x14) (MacS.S x14) (MacS.E x14)) (List.take x18 (RedA.k x))))) ∧
 (((0 : Nat) = (0 : Nat)) ∧
 (((List.length (MacS.E (runK (MacS.mk (MacS.alpha x14) (MacS.size x14) (MacS.applied x14) (MacS.C x14) (MacS.S x14) (MacS.E x14)) (List.take x17 (RedA.k x))))) = (List.length (MacS.E (runK (MacS.mk (MacS.alpha x14) (MacS.size x14) (MacS.applied x14) (MacS.C x14) (MacS.S x14) (MacS.E x14)) (List.take x18 (RedA.k x)))))) ∧
 (((MacS.E (runK (MacS.mk (MacS.alpha x14) (MacS.size x14) (MacS.applied x14) (MacS.C x14) (MacS.S x14) (MacS.E x14)) (List.take x17 (RedA.k x)))) = (MacS.E (runK (MacS.mk (MacS.alpha x14) (MacS.size x14) (MacS.applied x14) (MacS.C x14) (MacS.S x14) (MacS.E x14)) (List.take x18 (RedA.k x))))) ∧
 ((Nat.le x18 (List.length (RedA.k x))) ∧
 ((Nat.sub (List.length (RedA.k x)) x18) < (Nat.sub (List.length (RedA.k x)) x17)))))))))))))))))))))
 (∃ x19 : MacA,
 (((RequestD.kind (List.getD (RedA.k x) (Int.toNat (↑x17 : Int)) (RequestD.mk (0 : Int) ([] : List UInt8) (0 : Int) (0 : Int) (0 : Int) ([] : List UInt8) ([] : List ChangeD) ([] : List UInt8) (0 : Int) (0 : Int) (0 : Int)))) = (RequestD.kind (MacA.r x19))) ∧
 (((RequestD.name (List.getD (RedA.k x) (Int.toNat (↑x17 : Int)) (RequestD.mk (0 : Int) ([] : List UInt8) (0 : Int) (0 : Int) (0 : Int) ([] : List UInt8) ([] : List ChangeD) ([] : List UInt8) (0 : Int) (0 : Int) (0 : Int)))) = (RequestD.name (MacA.r x19))) ∧
 (((RequestD.session (List.getD (RedA.k x) (Int.toNat (↑x17 : Int)) (RequestD.mk (0 : Int) ([] : List UInt8) (0 : Int) (0 : Int) (0 : Int) ([] : List UInt8) ([] : List ChangeD) ([] : List UInt8) (0 : Int) (0 : Int) (0 : Int)))) = (RequestD.session (MacA.r x19))) ∧
 (((RequestD.seq (List.getD (RedA.k x) (Int.toNat (↑x17 : Int)) (RequestD.mk (0 : Int) ([] : List UInt8) (0 : Int) (0 : Int) (0 : Int) ([] : List UInt8) ([] : List ChangeD) ([] : List UInt8) (0 : Int) (0 : Int) (0 : Int)))) = (RequestD.seq (MacA.r x19))) ∧
 (((RequestD.base (List.getD (RedA.k x) (Int.toNat (↑x17 : Int)) (RequestD.mk (0 : Int) ([] : List UInt8) (0 : Int) (0 : Int) (0 : Int) ([] : List UInt8) ([] : List ChangeD) ([] : List UInt8) (0 : Int) (0 : Int) (0 : Int)))) = (RequestD.base (MacA.r x19))) ∧
 (((RequestD.ref (List.getD (RedA.k x) (Int.toNat (↑x17 : Int)) (RequestD.mk (0 : Int) ([] : List UInt8) (0 : Int) (0 : Int) (0 : Int) ([] : List UInt8) ([] : List ChangeD) ([] : List UInt8) (0 : Int) (0 : Int) (0 : Int)))) = (RequestD.ref (MacA.r x19))) ∧
 (((RequestD.changes (List.getD (RedA.k x) (Int.toNat (↑x17 : Int)) (RequestD.mk (0 : Int) ([] : List UInt8) (0 : Int) (0 : Int) (0 : Int) ([] : List UInt8) ([] : List ChangeD) ([] : List UInt8) (0 : Int) (0 : Int) (0 : Int)))) = (RequestD.changes (MacA.r x19))) ∧
 (((RequestD.path (List.getD (RedA.k x) (Int.toNat (↑x17 : Int)) (RequestD.mk (0 : Int) ([] : List UInt8) (0 : Int) (0 : Int) (0 : Int) ([] : List UInt8) ([] : List ChangeD) ([] : List UInt8) (0 : Int) (0 : Int) (0 : Int)))) = (RequestD.path (MacA.r x19))) ∧
 (((RequestD.from_ (List.getD (RedA.k x) (Int.toNat (↑x17 : Int)) (RequestD.mk (0 : Int) ([] : List UInt8) (0 : Int) (0 : Int) (0 : Int) ([] : List UInt8) ([] : List ChangeD) ([] : List UInt8) (0 : Int) (0 : Int) (0 : Int)))) = (RequestD.from_ (MacA.r x19))) ∧
 (((RequestD.many (List.getD (RedA.k x) (Int.toNat (↑x17 : Int)) (RequestD.mk (0 : Int) ([] : List UInt8) (0 : Int) (0 : Int) (0 : Int) ([] : List UInt8) ([] : List ChangeD) ([] : List UInt8) (0 : Int) (0 : Int) (0 : Int)))) = (RequestD.many (MacA.r x19))) ∧
 (((RequestD.member (List.getD (RedA.k x) (Int.toNat (↑x17 : Int)) (RequestD.mk (0 : Int) ([] : List UInt8) (0 : Int) (0 : Int) (0 : Int) ([] : List UInt8) ([] : List ChangeD) ([] : List UInt8) (0 : Int) (0 : Int) (0 : Int)))) = (RequestD.member (MacA.r x19))) ∧
 (((MacS.alpha (runK (MacS.mk (MacS.alpha x14) (MacS.size x14) (MacS.applied x14) (MacS.C x14) (MacS.S x14) (MacS.E x14)) (List.take x17 (RedA.k x)))) = (MacS.alpha (MacA.x x19))) ∧
 (((MacS.size (runK (MacS.mk (MacS.alpha x14) (MacS.size x14) (MacS.applied x14) (MacS.C x14) (MacS.S x14) (MacS.E x14)) (List.take x17 (RedA.k x)))) = (MacS.size (MacA.x x19))) ∧
 (((MacS.applied (runK (MacS.mk (MacS.alpha x14) (MacS.size x14) (MacS.applied x14) (MacS.C x14) (MacS.S x14) (MacS.E x14)) (List.take x17 (RedA.k x)))) = (MacS.applied (MacA.x x19))) ∧
 (((0 : Nat) = (0 : Nat)) ∧
 (((List.length (MacS.C (runK (MacS.mk (MacS.alpha x14) (MacS.size x14) (MacS.applied x14) (MacS.C x14) (MacS.S x14) (MacS.E x14)) (List.take x17 (RedA.k x))))) = (List.length (MacS.C (MacA.x x19)))) ∧
 (((treeC (MacS.C (runK (MacS.mk (MacS.alpha x14) (MacS.size x14) (MacS.applied x14) (MacS.C x14) (MacS.S x14) (MacS.E x14)) (List.take x17 (RedA.k x))))) = (treeC (MacS.C (MacA.x x19)))) ∧
 (((MacS.C (runK (MacS.mk (MacS.alpha x14) (MacS.size x14) (MacS.applied x14) (MacS.C x14) (MacS.S x14) (MacS.E x14)) (List.take x17 (RedA.k x)))) = (MacS.C (MacA.x x19))) ∧
 (((kvC (MacS.C (runK (MacS.mk (MacS.alpha x14) (MacS.size x14) (MacS.applied x14) (MacS.C x14) (MacS.S x14) (MacS.E x14)) (List.take x17 (RedA.k x))))) = (kvC (MacS.C (MacA.x x19)))) ∧
 (((MacS.size (runK (MacS.mk (MacS.alpha x14) (MacS.size x14) (MacS.applied x14) (MacS.C x14) (MacS.S x14) (MacS.E x14)) (List.take x17 (RedA.k x)))) = (MacS.size (MacA.x x19))) ∧
 (((0 : Nat) = (0 : Nat)) ∧
 (((List.length (MacS.S (runK (MacS.mk (MacS.alpha x14) (MacS.size x14) (MacS.applied x14) (MacS.C x14) (MacS.S x14) (MacS.E x14)) (List.take x17 (RedA.k x))))) = (List.length (MacS.S (MacA.x x19)))) ∧
 (((MacS.S (runK (MacS.mk (MacS.alpha x14) (MacS.size x14) (MacS.applied x14) (MacS.C x14) (MacS.S x14) (MacS.E x14)) (List.take x17 (RedA.k x)))) = (MacS.S (MacA.x x19))) ∧
 (((MacS.alpha (runK (MacS.mk (MacS.alpha x14) (MacS.size x14) (MacS.applied x14) (MacS.C x14) (MacS.S x14) (MacS.E x14)) (List.take x17 (RedA.k x)))) = (MacS.alpha (MacA.x x19))) ∧
 (((0 : Nat) = (0 : Nat)) ∧
 (((List.length (MacS.E (runK (MacS.mk (MacS.alpha x14) (MacS.size x14) (MacS.applied x14) (MacS.C x14) (MacS.S x14) (MacS.E x14)) (List.take x17 (RedA.k x))))) = (List.length (MacS.E (MacA.x x19)))) ∧
 (((MacS.E (runK (MacS.mk (MacS.alpha x14) (MacS.size x14) (MacS.applied x14) (MacS.C x14) (MacS.S x14) (MacS.E x14)) (List.take x17 (RedA.k x)))) = (MacS.E (MacA.x x19))) ∧
 ((((fewG (MacS.C (MacA.x x19))) = Bool.true) ∧
 ((okRq (MacA.r x19)) = Bool.true)) ∧
 (∀ x20 : Unit,
 (True →
 (∃ x21 : MacS,
 (((MacS.alpha (MacA.x x19)) = (MacS.alpha x21)) ∧
 (((MacS.size (MacA.x x19)) = (MacS.size x21)) ∧
 (((MacS.applied (MacA.x x19)) = (MacS.applied x21)) ∧
 (((0 : Nat) = (0 : Nat)) ∧
 (((List.length (MacS.C (MacA.x x19))) = (List.length (MacS.C x21))) ∧
 (((treeC (MacS.C (MacA.x x19))) = (treeC (MacS.C x21))) ∧
 (((MacS.C (MacA.x x19)) = (MacS.C x21)) ∧
 (((kvC (MacS.C (MacA.x x19))) = (kvC (MacS.C x21))) ∧
 (((MacS.size (MacA.x x19)) = (MacS.size x21)) ∧
 (((0 : Nat) = (0 : Nat)) ∧
 (((List.length (MacS.S (MacA.x x19))) = (List.length (MacS.S x21))) ∧
 (((MacS.S (MacA.x x19)) = (MacS.S x21)) ∧
 (((MacS.alpha (MacA.x x19)) = (MacS.alpha x21)) ∧
 (((0 : Nat) = (0 : Nat)) ∧
 (((List.length (MacS.E (MacA.x x19))) = (List.length (MacS.E x21))) ∧
 (((MacS.E (MacA.x x19)) = (MacS.E x21)) ∧
 (True ∧
 (∀ x22 : Unit,
 (True →
 (∃ x23 : MacS,
 (((MacS.alpha x21) = (MacS.alpha x23)) ∧
 (((MacS.size x21) = (MacS.size x23)) ∧
 (((MacS.applied x21) = (MacS.applied x23)) ∧
 (((0 : Nat) = (0 : Nat)) ∧
 (((List.length (MacS.C x21)) = (List.length (MacS.C x23))) ∧
 (((treeC (MacS.C x21)) = (treeC (MacS.C x23))) ∧
 (((MacS.C x21) = (MacS.C x23)) ∧
 (((kvC (MacS.C x21)) = (kvC (MacS.C x23))) ∧
 (((MacS.size x21) = (MacS.size x23)) ∧
 (((0 : Nat) = (0 : Nat)) ∧
 (((List.length (MacS.S x21)) = (List.length (MacS.S x23))) ∧
 (((MacS.S x21) = (MacS.S x23)) ∧
 (((MacS.alpha x21) = (MacS.alpha x23)) ∧
 (((0 : Nat) = (0 : Nat)) ∧
 (((List.length (MacS.E x21)) = (List.length (MacS.E x23))) ∧
 (((MacS.E x21) = (MacS.E x23)) ∧
 (((decide ((0 : Int) < (MacS.size x23))) = Bool.true) ∧
 (∀ x24 : Unit,
 (True →
 ((∃ x25 : Nat,
 (((0 : Int) = (↑x25 : Int)) ∧
 ((Bool.false = (freB (MacS.S x23) (RequestD.session (List.getD (RedA.k x) (Int.toNat (↑x17 : Int)) (RequestD.mk (0 : Int) ([] : List UInt8) (0 : Int) (0 : Int) (0 : Int) ([] : List UInt8) ([] : List ChangeD) ([] : List UInt8) (0 : Int) (0 : Int) (0 : Int)))) (RequestD.seq (List.getD (RedA.k x) (Int.toNat (↑x17 : Int)) (RequestD.mk (0 : Int) ([] : List UInt8) (0 : Int) (0 : Int) (0 : Int) ([] : List UInt8) ([] : List ChangeD) ([] : List UInt8) (0 : Int) (0 : Int) (0 : Int)))) x25)) ∧
 (Nat.le x25 (List.length (MacS.S x23)))))) ∧
 (∀ x26 : Nat,
 ((Nat.le x26 (List.length (MacS.S x23))) →
 ((((List.length (MacS.S x23)) * (112 : Nat)) ≤ room47) →
 (br (decide ((↑x26 : Int) < (↑(List.length (MacS.S x23)) : Int)))
 (br (freB (MacS.S x23) (RequestD.session (List.getD (RedA.k x) (Int.toNat (↑x17 : Int)) (RequestD.mk (0 : Int) ([] : List UInt8) (0 : Int) (0 : Int) (0 : Int) ([] : List UInt8) ([] : List ChangeD) ([] : List UInt8) (0 : Int) (0 : Int) (0 : Int)))) (RequestD.seq (List.getD (RedA.k x) (Int.toNat (↑x17 : Int)) (RequestD.mk (0 : Int) ([] : List UInt8) (0 : Int) (0 : Int) (0 : Int) ([] : List UInt8) ([] : List ChangeD) ([] : List UInt8) (0 : Int) (0 : Int) (0 : Int)))) x26)
 (∃ x27 : Nat,
 (((IntKind.wrap IntKind.i64 ((↑x26 : Int) + (1 : Int))) = (↑x27 : Int)) ∧
 ((Bool.true = (freB (MacS.S x23) (RequestD.session (List.getD (RedA.k x) (Int.toNat (↑x17 : Int)) (RequestD.mk (0 : Int) ([] : List UInt8) (0 : Int) (0 : Int) (0 : Int) ([] : List UInt8) ([] : List ChangeD) ([] : List UInt8) (0 : Int) (0 : Int) (0 : Int)))) (RequestD.seq (List.getD (RedA.k x) (Int.toNat (↑x17 : Int)) (RequestD.mk (0 : Int) ([] : List UInt8) (0 : Int) (0 : Int) (0 : Int) ([] : List UInt8) ([] : List ChangeD) ([] : List UInt8) (0 : Int) (0 : Int) (0 : Int)))) x27)) ∧
 ((Nat.le x27 (List.length (MacS.S x23))) ∧
 ((Nat.sub (List.length (MacS.S x23)) x27) < (Nat.sub (List.length (MacS.S x23)) x26))))))
 (br (decide (((0 : Int) ≤ (↑x26 : Int)) ∧
 ((↑x26 : Int) < (↑(List.length (MacS.S x23)) : Int))))
 (br ((SessionD.id (List.getD (MacS.S x23) (Int.toNat (↑x26 : Int)) (SessionD.mk (0 : Int) (0 : Int) ([] : List UInt8) VerdictD.dflt))) == (RequestD.session (List.getD (RedA.k x) (Int.toNat (↑x17 : Int)) (RequestD.mk (0 : Int) ([] : List UInt8) (0 : Int) (0 : Int) (0 : Int) ([] : List UInt8) ([] : List ChangeD) ([] : List UInt8) (0 : Int) (0 : Int) (0 : Int)))))
 (br (decide (((0 : Int) ≤ (↑x26 : Int)) ∧
 ((↑x26 : Int) < (↑(List.length (MacS.S x23)) : Int))))
 (br (decide ((RequestD.seq (List.getD (RedA.k x) (Int.toNat (↑x17 : Int)) (RequestD.mk (0 : Int) ([] : List UInt8) (0 : Int) (0 : Int) (0 : Int) ([] : List UInt8) ([] : List ChangeD) ([] : List UInt8) (0 : Int) (0 : Int) (0 : Int)))) > (SessionD.seq (List.getD (MacS.S x23) (Int.toNat (↑x26 : Int)) (SessionD.mk (0 : Int) (0 : Int) ([] : List UInt8) VerdictD.dflt)))))
 (∃ x28 : Nat,
 (((IntKind.wrap IntKind.i64 ((↑x26 : Int) + (1 : Int))) = (↑x28 : Int)) ∧
 (((decide (@GE.ge Int _ (RequestD.seq (List.getD (RedA.k x) (Int.toNat (↑x17 : Int)) (RequestD.mk (0 : Int) ([] : List UInt8) (0 : Int) (0 : Int) (0 : Int) ([] : List UInt8) ([] : List ChangeD) ([] : List UInt8) (0 : Int) (0 : Int) (0 : Int)))) (1 : Int))) = (freB (MacS.S x23) (RequestD.session (List.getD (RedA.k x) (Int.toNat (↑x17 : Int)) (RequestD.mk (0 : Int) ([] : List UInt8) (0 : Int) (0 : Int) (0 : Int) ([] : List UInt8) ([] : List ChangeD) ([] : List UInt8) (0 : Int) (0 : Int) (0 : Int)))) (RequestD.seq (List.getD (RedA.k x) (Int.toNat (↑x17 : Int)) (RequestD.mk (0 : Int) ([] : List UInt8) (0 : Int) (0 : Int) (0 : Int) ([] : List UInt8) ([] : List ChangeD) ([] : List UInt8) (0 : Int) (0 : Int) (0 : Int)))) x28)) ∧
 ((Nat.le x28 (List.length (MacS.S x23))) ∧
 ((Nat.sub (List.length (MacS.S x23)) x28) < (Nat.sub (List.length (MacS.S x23)) x26))))))
 (∃ x29 : Nat,
 (((IntKind.wrap IntKind.i64 ((↑x26 : Int) + (1 : Int))) = (↑x29 : Int)) ∧
 ((Bool.false = (freB (MacS.S x23) (RequestD.session (List.getD (RedA.k x) (Int.toNat (↑x17 : Int)) (RequestD.mk (0 : Int) ([] : List UInt8) (0 : Int) (0 : Int) (0 : Int) ([] : List UInt8) ([] : List ChangeD) ([] : List UInt8) (0 : Int) (0 : Int) (0 : Int)))) (RequestD.seq (List.getD (RedA.k x) (Int.toNat (↑x17 : Int)) (RequestD.mk (0 : Int) ([] : List UInt8) (0 : Int) (0 : Int) (0 : Int) ([] : List UInt8) ([] : List ChangeD) ([] : List UInt8) (0 : Int) (0 : Int) (0 : Int)))) x29)) ∧
 ((Nat.le x29 (List.length (MacS.S x23))) ∧
 ((Nat.sub (List.length (MacS.S x23)) x29) < (Nat.sub (List.length (MacS.S x23)) x26)))))))
 (Bad "check" "law.go:241"))
 (∃ x30 : Nat,
 (((IntKind.wrap IntKind.i64 ((↑x26 : Int) + (1 : Int))) = (↑x30 : Int)) ∧
 ((Bool.false = (freB (MacS.S x23) (RequestD.session (List.getD (RedA.k x) (Int.toNat (↑x17 : Int)) (RequestD.mk (0 : Int) ([] : List UInt8) (0 : Int) (0 : Int) (0 : Int) ([] : List UInt8) ([] : List ChangeD) ([] : List UInt8) (0 : Int) (0 : Int) (0 : Int)))) (RequestD.seq (List.getD (RedA.k x) (Int.toNat (↑x17 : Int)) (RequestD.mk (0 : Int) ([] : List UInt8) (0 : Int) (0 : Int) (0 : Int) ([] : List UInt8) ([] : List ChangeD) ([] : List UInt8) (0 : Int) (0 : Int) (0 : Int)))) x30)) ∧
 ((Nat.le x30 (List.length (MacS.S x23))) ∧
 ((Nat.sub (List.length (MacS.S x23)) x30) < (Nat.sub (List.length (MacS.S x23)) x26)))))))
 (Bad "check" "law.go:241")))
 (∃ x31 : MacA,
 (((RequestD.kind (List.getD (RedA.k x) (Int.toNat (↑x17 : Int)) (RequestD.mk (0 : Int) ([] : List UInt8) (0 : Int) (0 : Int) (0 : Int) ([] : List UInt8) ([] : List ChangeD) ([] : List UInt8) (0 : Int) (0 : Int) (0 : Int)))) = (RequestD.kind (MacA.r x31))) ∧
 (((RequestD.name (List.getD (RedA.k x) (Int.toNat (↑x17 : Int)) (RequestD.mk (0 : Int) ([] : List UInt8) (0 : Int) (0 : Int) (0 : Int) ([] : List UInt8) ([] : List ChangeD) ([] : List UInt8) (0 : Int) (0 : Int) (0 : Int)))) = (RequestD.name (MacA.r x31))) ∧
 (((RequestD.session (List.getD (RedA.k x) (Int.toNat (↑x17 : Int)) (RequestD.mk (0 : Int) ([] : List UInt8) (0 : Int) (0 : Int) (0 : Int) ([] : List UInt8) ([] : List ChangeD) ([] : List UInt8) (0 : Int) (0 : Int) (0 : Int)))) = (RequestD.session (MacA.r x31))) ∧
 (((RequestD.seq (List.getD (RedA.k x) (Int.toNat (↑x17 : Int)) (RequestD.mk (0 : Int) ([] : List UInt8) (0 : Int) (0 : Int) (0 : Int) ([] : List UInt8) ([] : List ChangeD) ([] : List UInt8) (0 : Int) (0 : Int) (0 : Int)))) = (RequestD.seq (MacA.r x31))) ∧
 (((RequestD.base (List.getD (RedA.k x) (Int.toNat (↑x17 : Int)) (RequestD.mk (0 : Int) ([] : List UInt8) (0 : Int) (0 : Int) (0 : Int) ([] : List UInt8) ([] : List ChangeD) ([] : List UInt8) (0 : Int) (0 : Int) (0 : Int)))) = (RequestD.base (MacA.r x31))) ∧
 (((RequestD.ref (List.getD (RedA.k x) (Int.toNat (↑x17 : Int)) (RequestD.mk (0 : Int) ([] : List UInt8) (0 : Int) (0 : Int) (0 : Int) ([] : List UInt8) ([] : List ChangeD) ([] : List UInt8) (0 : Int) (0 : Int) (0 : Int)))) = (RequestD.ref (MacA.r x31))) ∧
 (((RequestD.changes (List.getD (RedA.k x) (Int.toNat (↑x17 : Int)) (RequestD.mk (0 : Int) ([] : List UInt8) (0 : Int) (0 : Int) (0 : Int) ([] : List UInt8) ([] : List ChangeD) ([] : List UInt8) (0 : Int) (0 : Int) (0 : Int)))) = (RequestD.changes (MacA.r x31))) ∧
 (((RequestD.path (List.getD (RedA.k x) (Int.toNat (↑x17 : Int)) (RequestD.mk (0 : Int) ([] : List UInt8) (0 : Int) (0 : Int) (0 : Int) ([] : List UInt8) ([] : List ChangeD) ([] : List UInt8) (0 : Int) (0 : Int) (0 : Int)))) = (RequestD.path (MacA.r x31))) ∧
 (((RequestD.from_ (List.getD (RedA.k x) (Int.toNat (↑x17 : Int)) (RequestD.mk (0 : Int) ([] : List UInt8) (0 : Int) (0 : Int) (0 : Int) ([] : List UInt8) ([] : List ChangeD) ([] : List UInt8) (0 : Int) (0 : Int) (0 : Int)))) = (RequestD.from_ (MacA.r x31))) ∧
 (((RequestD.many (List.getD (RedA.k x) (Int.toNat (↑x17 : Int)) (RequestD.mk (0 : Int) ([] : List UInt8) (0 : Int) (0 : Int) (0 : Int) ([] : List UInt8) ([] : List ChangeD) ([] : List UInt8) (0 : Int) (0 : Int) (0 : Int)))) = (RequestD.many (MacA.r x31))) ∧
 (((RequestD.member (List.getD (RedA.k x) (Int.toNat (↑x17 : Int)) (RequestD.mk (0 : Int) ([] : List UInt8) (0 : Int) (0 : Int) (0 : Int) ([] : List UInt8) ([] : List ChangeD) ([] : List UInt8) (0 : Int) (0 : Int) (0 : Int)))) = (RequestD.member (MacA.r x31))) ∧
 (((MacS.alpha x23) = (MacS.alpha (MacA.x x31))) ∧
 (((MacS.size x23) = (MacS.size (MacA.x x31))) ∧
 (((MacS.applied x23) = (MacS.applied (MacA.x x31))) ∧
 (((0 : Nat) = (0 : Nat)) ∧
 (((List.length (MacS.C x23)) = (List.length (MacS.C (MacA.x x31)))) ∧
 (((treeC (MacS.C x23)) = (treeC (MacS.C (MacA.x x31)))) ∧
 (((MacS.C x23) = (MacS.C (MacA.x x31))) ∧
 (((kvC (MacS.C x23)) = (kvC (MacS.C (MacA.x x31)))) ∧
 (((MacS.size x23) = (MacS.size (MacA.x x31))) ∧
 (((0 : Nat) = (0 : Nat)) ∧
 (((List.length (MacS.S x23)) = (List.length (MacS.S (MacA.x x31)))) ∧
 (((MacS.S x23) = (MacS.S (MacA.x x31))) ∧
 (((MacS.alpha x23) = (MacS.alpha (MacA.x x31))) ∧
 (((0 : Nat) = (0 : Nat)) ∧
 (((List.length (MacS.E x23)) = (List.length (MacS.E (MacA.x x31)))) ∧
 (((MacS.E x23) = (MacS.E (MacA.x x31))) ∧
 ((((okMS (MacA.x x31)) = Bool.true) ∧
 ((okRq (MacA.r x31)) = Bool.true)) ∧
 (∀ x32 : Unit,
 (True →
 (br (freB (MacS.S x23) (RequestD.session (List.getD (RedA.k x) (Int.toNat (↑x17 : Int)) (RequestD.mk (0 : Int) ([] : List UInt8) (0 : Int) (0 : Int) (0 : Int) ([] : List UInt8) ([] : List ChangeD) ([] : List UInt8) (0 : Int) (0 : Int) (0 : Int)))) (RequestD.seq (List.getD (RedA.k x) (Int.toNat (↑x17 : Int)) (RequestD.mk (0 : Int) ([] : List UInt8) (0 : Int) (0 : Int) (0 : Int) ([] : List UInt8) ([] : List ChangeD) ([] : List UInt8) (0 : Int) (0 : Int) (0 : Int)))) x26)
 (∃ x33 : Ver2,
 (((VerdictD.code (Prod.fst (applyM (MacA.x x31) (MacA.r x31)))) = (VerdictD.code (Ver2.a x33))) ∧
 (((VerdictD.session (Prod.fst (applyM (MacA.x x31) (MacA.r x31)))) = (VerdictD.session (Ver2.a x33))) ∧
 (((VerdictD.rev (Prod.fst (applyM (MacA.x x31) (MacA.r x31)))) = (VerdictD.rev (Ver2.a x33))) ∧
 (((VerdictD.path (Prod.fst (applyM (MacA.x x31) (MacA.r x31)))) = (VerdictD.path (Ver2.a x33))) ∧
 (((VerdictD.digest (Prod.fst (applyM (MacA.x x31) (MacA.r x31)))) = (VerdictD.digest (Ver2.a x33))) ∧
 (((VerdictD.commits (Prod.fst (applyM (MacA.x x31) (MacA.r x31)))) = (VerdictD.commits (Ver2.a x33))) ∧
 (((VerdictD.member (Prod.fst (applyM (MacA.x x31) (MacA.r x31)))) = (VerdictD.member (Ver2.a x33))) ∧
 (((VerdictD.code (peekM (MacA.x x19) (MacA.r x19))) = (VerdictD.code (Ver2.b x33))) ∧
 (((VerdictD.session (peekM (MacA.x x19) (MacA.r x19))) = (VerdictD.session (Ver2.b x33))) ∧
 (((VerdictD.rev (peekM (MacA.x x19) (MacA.r x19))) = (VerdictD.rev (Ver2.b x33))) ∧
 (((VerdictD.path (peekM (MacA.x x19) (MacA.r x19))) = (VerdictD.path (Ver2.b x33))) ∧
 (((VerdictD.digest (peekM (MacA.x x19) (MacA.r x19))) = (VerdictD.digest (Ver2.b x33))) ∧
 (((VerdictD.commits (peekM (MacA.x x19) (MacA.r x19))) = (VerdictD.commits (Ver2.b x33))) ∧
 (((VerdictD.member (peekM (MacA.x x19) (MacA.r x19))) = (VerdictD.member (Ver2.b x33))) ∧
 (True ∧
 (∀ x34 : Unit,
 (True →
 (br (Bool.not (eqV (Ver2.a x33) (Ver2.b x33)))
 (Bool.false = Bool.true)
 (∃ x35 : MacS,
 (((MacS.alpha (Prod.snd (applyM (MacA.x x31) (MacA.r x31)))) = (MacS.alpha x35)) ∧
 (((MacS.size (Prod.snd (applyM (MacA.x x31) (MacA.r x31)))) = (MacS.size x35)) ∧
 (((MacS.applied (Prod.snd (applyM (MacA.x x31) (MacA.r x31)))) = (MacS.applied x35)) ∧
 (((0 : Nat) = (0 : Nat)) ∧
 (((List.length (MacS.C (Prod.snd (applyM (MacA.x x31) (MacA.r x31))))) = (List.length (MacS.C x35))) ∧
 (((treeC (MacS.C (Prod.snd (applyM (MacA.x x31) (MacA.r x31))))) = (treeC (MacS.C x35))) ∧
 (((MacS.C (Prod.snd (applyM (MacA.x x31) (MacA.r x31)))) = (MacS.C x35)) ∧
 (((kvC (MacS.C (Prod.snd (applyM (MacA.x x31) (MacA.r x31))))) = (kvC (MacS.C x35))) ∧
 (((MacS.size (Prod.snd (applyM (MacA.x x31) (MacA.r x31)))) = (MacS.size x35)) ∧
 (((0 : Nat) = (0 : Nat)) ∧
 (((List.length (MacS.S (Prod.snd (applyM (MacA.x x31) (MacA.r x31))))) = (List.length (MacS.S x35))) ∧
 (((MacS.S (Prod.snd (applyM (MacA.x x31) (MacA.r x31)))) = (MacS.S x35)) ∧
 (((MacS.alpha (Prod.snd (applyM (MacA.x x31) (MacA.r x31)))) = (MacS.alpha x35)) ∧
 (((0 : Nat) = (0 : Nat)) ∧
 (((List.length (MacS.E (Prod.snd (applyM (MacA.x x31) (MacA.r x31))))) = (List.length (MacS.E x35))) ∧
 (((MacS.E (Prod.snd (applyM (MacA.x x31) (MacA.r x31)))) = (MacS.E x35)) ∧
 (True ∧
 (∀ x36 : Unit,
 (True →
 (br ((MacS.applied x35) != (IntKind.wrap IntKind.i64 ((MacS.applied x21) + (1 : Int))))
 (Bool.false = Bool.true)
 (∃ x37 : Nat,
 (((IntKind.wrap IntKind.i64 ((↑x17 : Int) + (1 : Int))) = (↑x37 : Int)) ∧
 (((MacS.alpha x35) = (MacS.alpha (runK (MacS.mk (MacS.alpha x14) (MacS.size x14) (MacS.applied x14) (MacS.C x14) (MacS.S x14) (MacS.E x14)) (List.take x37 (RedA.k x))))) ∧
 (((MacS.size x35) = (MacS.size (runK (MacS.mk (MacS.alpha x14) (MacS.size x14) (MacS.applied x14) (MacS.C x14) (MacS.S x14) (MacS.E x14)) (List.take x37 (RedA.k x))))) ∧
 (((MacS.applied x35) = (MacS.applied (runK (MacS.mk (MacS.alpha x14) (MacS.size x14) (MacS.applied x14) (MacS.C x14) (MacS.S x14) (MacS.E x14)) (List.take x37 (RedA.k x))))) ∧
 (((0 : Nat) = (0 : Nat)) ∧
 (((List.length (MacS.C x35)) = (List.length (MacS.C (runK (MacS.mk (MacS.alpha x14) (MacS.size x14) (MacS.applied x14) (MacS.C x14) (MacS.S x14) (MacS.E x14)) (List.take x37 (RedA.k x)))))) ∧
 (((treeC (MacS.C x35)) = (treeC (MacS.C (runK (MacS.mk (MacS.alpha x14) (MacS.size x14) (MacS.applied x14) (MacS.C x14) (MacS.S x14) (MacS.E x14)) (List.take x37 (RedA.k x)))))) ∧
 (((MacS.C x35) = (MacS.C (runK (MacS.mk (MacS.alpha x14) (MacS.size x14) (MacS.applied x14) (MacS.C x14) (MacS.S x14) (MacS.E x14)) (List.take x37 (RedA.k x))))) ∧
 (((kvC (MacS.C x35)) = (kvC (MacS.C (runK (MacS.mk (MacS.alpha x14) (MacS.size x14) (MacS.applied x14) (MacS.C x14) (MacS.S x14) (MacS.E x14)) (List.take x37 (RedA.k x)))))) ∧
 (((MacS.size x35) = (MacS.size (runK (MacS.mk (MacS.alpha x14) (MacS.size x14) (MacS.applied x14) (MacS.C x14) (MacS.S x14) (MacS.E x14)) (List.take x37 (RedA.k x))))) ∧
 (((0 : Nat) = (0 : Nat)) ∧
 (((List.length (MacS.S x35)) = (List.length (MacS.S (runK (MacS.mk (MacS.alpha x14) (MacS.size x14) (MacS.applied x14) (MacS.C x14) (MacS.S x14) (MacS.E x14)) (List.take x37 (RedA.k x)))))) ∧
 (((MacS.S x35) = (MacS.S (runK (MacS.mk (MacS.alpha x14) (MacS.size x14) (MacS.applied x14) (MacS.C x14) (MacS.S x14) (MacS.E x14)) (List.take x37 (RedA.k x))))) ∧
 (((MacS.alpha x35) = (MacS.alpha (runK (MacS.mk (MacS.alpha x14) (MacS.size x14) (MacS.applied x14) (MacS.C x14) (MacS.S x14) (MacS.E x14)) (List.take x37 (RedA.k x))))) ∧
 (((0 : Nat) = (0 : Nat)) ∧
 (((List.length (MacS.E x35)) = (List.length (MacS.E (runK (MacS.mk (MacS.alpha x14) (MacS.size x14) (MacS.applied x14) (MacS.C x14) (MacS.S x14) (MacS.E x14)) (List.take x37 (RedA.k x)))))) ∧
 (((MacS.E x35) = (MacS.E (runK (MacS.mk (MacS.alpha x14) (MacS.size x14) (MacS.applied x14) (MacS.C x14) (MacS.S x14) (MacS.E x14)) (List.take x37 (RedA.k x))))) ∧
 ((Nat.le x37 (List.length (RedA.k x))) ∧
 ((Nat.sub (List.length (RedA.k x)) x37) < (Nat.sub (List.length (RedA.k x)) x17)))))))))))))))))))))))))))))))))))))))))))))))))))))))))))))
 (∃ x38 : MacS,
 (((MacS.alpha (Prod.snd (applyM (MacA.x x31) (MacA.r x31)))) = (MacS.alpha x38)) ∧
 (((MacS.size (Prod.snd (applyM (MacA.x x31) (MacA.r x31)))) = (MacS.size x38)) ∧
 (((MacS.applied (Prod.snd (applyM (MacA.x x31) (MacA.r x31)))) = (MacS.applied x38)) ∧
 (((0 : Nat) = (0 : Nat)) ∧
 (((List.length (MacS.C (Prod.snd (applyM (MacA.x x31) (MacA.r x31))))) = (List.length (MacS.C x38))) ∧
 (((treeC (MacS.C (Prod.snd (applyM (MacA.x x31) (MacA.r x31))))) = (treeC (MacS.C x38))) ∧
 (((MacS.C (Prod.snd (applyM (MacA.x x31) (MacA.r x31)))) = (MacS.C x38)) ∧
 (((kvC (MacS.C (Prod.snd (applyM (MacA.x x31) (MacA.r x31))))) = (kvC (MacS.C x38))) ∧
 (((MacS.size (Prod.snd (applyM (MacA.x x31) (MacA.r x31)))) = (MacS.size x38)) ∧
 (((0 : Nat) = (0 : Nat)) ∧
 (((List.length (MacS.S (Prod.snd (applyM (MacA.x x31) (MacA.r x31))))) = (List.length (MacS.S x38))) ∧
 (((MacS.S (Prod.snd (applyM (MacA.x x31) (MacA.r x31)))) = (MacS.S x38)) ∧
 (((MacS.alpha (Prod.snd (applyM (MacA.x x31) (MacA.r x31)))) = (MacS.alpha x38)) ∧
 (((0 : Nat) = (0 : Nat)) ∧
 (((List.length (MacS.E (Prod.snd (applyM (MacA.x x31) (MacA.r x31))))) = (List.length (MacS.E x38))) ∧
 (((MacS.E (Prod.snd (applyM (MacA.x x31) (MacA.r x31)))) = (MacS.E x38)) ∧
 (True ∧
 (∀ x39 : Unit,
 (True →
 (br ((MacS.applied x38) != (IntKind.wrap IntKind.i64 ((MacS.applied x21) + (1 : Int))))
 (Bool.false = Bool.true)
 (∃ x40 : Nat,
 (((IntKind.wrap IntKind.i64 ((↑x17 : Int) + (1 : Int))) = (↑x40 : Int)) ∧
 (((MacS.alpha x38) = (MacS.alpha (runK (MacS.mk (MacS.alpha x14) (MacS.size x14) (MacS.applied x14) (MacS.C x14) (MacS.S x14) (MacS.E x14)) (List.take x40 (RedA.k x))))) ∧
 (((MacS.size x38) = (MacS.size (runK (MacS.mk (MacS.alpha x14) (MacS.size x14) (MacS.applied x14) (MacS.C x14) (MacS.S x14) (MacS.E x14)) (List.take x40 (RedA.k x))))) ∧
 (((MacS.applied x38) = (MacS.applied (runK (MacS.mk (MacS.alpha x14) (MacS.size x14) (MacS.applied x14) (MacS.C x14) (MacS.S x14) (MacS.E x14)) (List.take x40 (RedA.k x))))) ∧
 (((0 : Nat) = (0 : Nat)) ∧
 (((List.length (MacS.C x38)) = (List.length (MacS.C (runK (MacS.mk (MacS.alpha x14) (MacS.size x14) (MacS.applied x14) (MacS.C x14) (MacS.S x14) (MacS.E x14)) (List.take x40 (RedA.k x)))))) ∧
 (((treeC (MacS.C x38)) = (treeC (MacS.C (runK (MacS.mk (MacS.alpha x14) (MacS.size x14) (MacS.applied x14) (MacS.C x14) (MacS.S x14) (MacS.E x14)) (List.take x40 (RedA.k x)))))) ∧
 (((MacS.C x38) = (MacS.C (runK (MacS.mk (MacS.alpha x14) (MacS.size x14) (MacS.applied x14) (MacS.C x14) (MacS.S x14) (MacS.E x14)) (List.take x40 (RedA.k x))))) ∧
 (((kvC (MacS.C x38)) = (kvC (MacS.C (runK (MacS.mk (MacS.alpha x14) (MacS.size x14) (MacS.applied x14) (MacS.C x14) (MacS.S x14) (MacS.E x14)) (List.take x40 (RedA.k x)))))) ∧
 (((MacS.size x38) = (MacS.size (runK (MacS.mk (MacS.alpha x14) (MacS.size x14) (MacS.applied x14) (MacS.C x14) (MacS.S x14) (MacS.E x14)) (List.take x40 (RedA.k x))))) ∧
 (((0 : Nat) = (0 : Nat)) ∧
 (((List.length (MacS.S x38)) = (List.length (MacS.S (runK (MacS.mk (MacS.alpha x14) (MacS.size x14) (MacS.applied x14) (MacS.C x14) (MacS.S x14) (MacS.E x14)) (List.take x40 (RedA.k x)))))) ∧
 (((MacS.S x38) = (MacS.S (runK (MacS.mk (MacS.alpha x14) (MacS.size x14) (MacS.applied x14) (MacS.C x14) (MacS.S x14) (MacS.E x14)) (List.take x40 (RedA.k x))))) ∧
 (((MacS.alpha x38) = (MacS.alpha (runK (MacS.mk (MacS.alpha x14) (MacS.size x14) (MacS.applied x14) (MacS.C x14) (MacS.S x14) (MacS.E x14)) (List.take x40 (RedA.k x))))) ∧
 (((0 : Nat) = (0 : Nat)) ∧
 (((List.length (MacS.E x38)) = (List.length (MacS.E (runK (MacS.mk (MacS.alpha x14) (MacS.size x14) (MacS.applied x14) (MacS.C x14) (MacS.S x14) (MacS.E x14)) (List.take x40 (RedA.k x)))))) ∧
 (((MacS.E x38) = (MacS.E (runK (MacS.mk (MacS.alpha x14) (MacS.size x14) (MacS.applied x14) (MacS.C x14) (MacS.S x14) (MacS.E x14)) (List.take x40 (RedA.k x))))) ∧
 ((Nat.le x40 (List.length (RedA.k x))) ∧
 ((Nat.sub (List.length (RedA.k x)) x40) < (Nat.sub (List.length (RedA.k x)) x17)))))))))))))))))))))))))))))))))))))))))))))))))))))))))))))))))))))))))))))))))))))))))))))))))))))))))))))))))))))))))))))))))))))))))))))))))))))))
 (∃ x41 : MacA,
 (((RequestD.kind (List.getD (RedA.k x) (Int.toNat (↑x17 : Int)) (RequestD.mk (0 : Int) ([] : List UInt8) (0 : Int) (0 : Int) (0 : Int) ([] : List UInt8) ([] : List ChangeD) ([] : List UInt8) (0 : Int) (0 : Int) (0 : Int)))) = (RequestD.kind (MacA.r x41))) ∧
 (((RequestD.name (List.getD (RedA.k x) (Int.toNat (↑x17 : Int)) (RequestD.mk (0 : Int) ([] : List UInt8) (0 : Int) (0 : Int) (0 : Int) ([] : List UInt8) ([] : List ChangeD) ([] : List UInt8) (0 : Int) (0 : Int) (0 : Int)))) = (RequestD.name (MacA.r x41))) ∧
 (((RequestD.session (List.getD (RedA.k x) (Int.toNat (↑x17 : Int)) (RequestD.mk (0 : Int) ([] : List UInt8) (0 : Int) (0 : Int) (0 : Int) ([] : List UInt8) ([] : List ChangeD) ([] : List UInt8) (0 : Int) (0 : Int) (0 : Int)))) = (RequestD.session (MacA.r x41))) ∧
 (((RequestD.seq (List.getD (RedA.k x) (Int.toNat (↑x17 : Int)) (RequestD.mk (0 : Int) ([] : List UInt8) (0 : Int) (0 : Int) (0 : Int) ([] : List UInt8) ([] : List ChangeD) ([] : List UInt8) (0 : Int) (0 : Int) (0 : Int)))) = (RequestD.seq (MacA.r x41))) ∧
 (((RequestD.base (List.getD (RedA.k x) (Int.toNat (↑x17 : Int)) (RequestD.mk (0 : Int) ([] : List UInt8) (0 : Int) (0 : Int) (0 : Int) ([] : List UInt8) ([] : List ChangeD) ([] : List UInt8) (0 : Int) (0 : Int) (0 : Int)))) = (RequestD.base (MacA.r x41))) ∧
 (((RequestD.ref (List.getD (RedA.k x) (Int.toNat (↑x17 : Int)) (RequestD.mk (0 : Int) ([] : List UInt8) (0 : Int) (0 : Int) (0 : Int) ([] : List UInt8) ([] : List ChangeD) ([] : List UInt8) (0 : Int) (0 : Int) (0 : Int)))) = (RequestD.ref (MacA.r x41))) ∧
 (((RequestD.changes (List.getD (RedA.k x) (Int.toNat (↑x17 : Int)) (RequestD.mk (0 : Int) ([] : List UInt8) (0 : Int) (0 : Int) (0 : Int) ([] : List UInt8) ([] : List ChangeD) ([] : List UInt8) (0 : Int) (0 : Int) (0 : Int)))) = (RequestD.changes (MacA.r x41))) ∧
 (((RequestD.path (List.getD (RedA.k x) (Int.toNat (↑x17 : Int)) (RequestD.mk (0 : Int) ([] : List UInt8) (0 : Int) (0 : Int) (0 : Int) ([] : List UInt8) ([] : List ChangeD) ([] : List UInt8) (0 : Int) (0 : Int) (0 : Int)))) = (RequestD.path (MacA.r x41))) ∧
 (((RequestD.from_ (List.getD (RedA.k x) (Int.toNat (↑x17 : Int)) (RequestD.mk (0 : Int) ([] : List UInt8) (0 : Int) (0 : Int) (0 : Int) ([] : List UInt8) ([] : List ChangeD) ([] : List UInt8) (0 : Int) (0 : Int) (0 : Int)))) = (RequestD.from_ (MacA.r x41))) ∧
 (((RequestD.many (List.getD (RedA.k x) (Int.toNat (↑x17 : Int)) (RequestD.mk (0 : Int) ([] : List UInt8) (0 : Int) (0 : Int) (0 : Int) ([] : List UInt8) ([] : List ChangeD) ([] : List UInt8) (0 : Int) (0 : Int) (0 : Int)))) = (RequestD.many (MacA.r x41))) ∧
 (((RequestD.member (List.getD (RedA.k x) (Int.toNat (↑x17 : Int)) (RequestD.mk (0 : Int) ([] : List UInt8) (0 : Int) (0 : Int) (0 : Int) ([] : List UInt8) ([] : List ChangeD) ([] : List UInt8) (0 : Int) (0 : Int) (0 : Int)))) = (RequestD.member (MacA.r x41))) ∧
 (((MacS.alpha (runK (MacS.mk (MacS.alpha x14) (MacS.size x14) (MacS.applied x14) (MacS.C x14) (MacS.S x14) (MacS.E x14)) (List.take x17 (RedA.k x)))) = (MacS.alpha (MacA.x x41))) ∧
 (((MacS.size (runK (MacS.mk (MacS.alpha x14) (MacS.size x14) (MacS.applied x14) (MacS.C x14) (MacS.S x14) (MacS.E x14)) (List.take x17 (RedA.k x)))) = (MacS.size (MacA.x x41))) ∧
 (((MacS.applied (runK (MacS.mk (MacS.alpha x14) (MacS.size x14) (MacS.applied x14) (MacS.C x14) (MacS.S x14) (MacS.E x14)) (List.take x17 (RedA.k x)))) = (MacS.applied (MacA.x x41))) ∧
 (((0 : Nat) = (0 : Nat)) ∧
 (((List.length (MacS.C (runK (MacS.mk (MacS.alpha x14) (MacS.size x14) (MacS.applied x14) (MacS.C x14) (MacS.S x14) (MacS.E x14)) (List.take x17 (RedA.k x))))) = (List.length (MacS.C (MacA.x x41)))) ∧
 (((treeC (MacS.C (runK (MacS.mk (MacS.alpha x14) (MacS.size x14) (MacS.applied x14) (MacS.C x14) (MacS.S x14) (MacS.E x14)) (List.take x17 (RedA.k x))))) = (treeC (MacS.C (MacA.x x41)))) ∧
 (((MacS.C (runK (MacS.mk (MacS.alpha x14) (MacS.size x14) (MacS.applied x14) (MacS.C x14) (MacS.S x14) (MacS.E x14)) (List.take x17 (RedA.k x)))) = (MacS.C (MacA.x x41))) ∧
 (((kvC (MacS.C (runK (MacS.mk (MacS.alpha x14) (MacS.size x14) (MacS.applied x14) (MacS.C x14) (MacS.S x14) (MacS.E x14)) (List.take x17 (RedA.k x))))) = (kvC (MacS.C (MacA.x x41)))) ∧
 (((MacS.size (runK (MacS.mk (MacS.alpha x14) (MacS.size x14) (MacS.applied x14) (MacS.C x14) (MacS.S x14) (MacS.E x14)) (List.take x17 (RedA.k x)))) = (MacS.size (MacA.x x41))) ∧
 (((0 : Nat) = (0 : Nat)) ∧
 (((List.length (MacS.S (runK (MacS.mk (MacS.alpha x14) (MacS.size x14) (MacS.applied x14) (MacS.C x14) (MacS.S x14) (MacS.E x14)) (List.take x17 (RedA.k x))))) = (List.length (MacS.S (MacA.x x41)))) ∧
 (((MacS.S (runK (MacS.mk (MacS.alpha x14) (MacS.size x14) (MacS.applied x14) (MacS.C x14) (MacS.S x14) (MacS.E x14)) (List.take x17 (RedA.k x)))) = (MacS.S (MacA.x x41))) ∧
 (((MacS.alpha (runK (MacS.mk (MacS.alpha x14) (MacS.size x14) (MacS.applied x14) (MacS.C x14) (MacS.S x14) (MacS.E x14)) (List.take x17 (RedA.k x)))) = (MacS.alpha (MacA.x x41))) ∧
 (((0 : Nat) = (0 : Nat)) ∧
 (((List.length (MacS.E (runK (MacS.mk (MacS.alpha x14) (MacS.size x14) (MacS.applied x14) (MacS.C x14) (MacS.S x14) (MacS.E x14)) (List.take x17 (RedA.k x))))) = (List.length (MacS.E (MacA.x x41)))) ∧
 (((MacS.E (runK (MacS.mk (MacS.alpha x14) (MacS.size x14) (MacS.applied x14) (MacS.C x14) (MacS.S x14) (MacS.E x14)) (List.take x17 (RedA.k x)))) = (MacS.E (MacA.x x41))) ∧
 ((((fewG (MacS.C (MacA.x x41))) = Bool.true) ∧
 ((okRq (MacA.r x41)) = Bool.true)) ∧
 (∀ x42 : Unit,
 (True →
 (∃ x43 : MacS,
 (((MacS.alpha (MacA.x x41)) = (MacS.alpha x43)) ∧
 (((MacS.size (MacA.x x41)) = (MacS.size x43)) ∧
 (((MacS.applied (MacA.x x41)) = (MacS.applied x43)) ∧
 (((0 : Nat) = (0 : Nat)) ∧
 (((List.length (MacS.C (MacA.x x41))) = (List.length (MacS.C x43))) ∧
 (((treeC (MacS.C (MacA.x x41))) = (treeC (MacS.C x43))) ∧
 (((MacS.C (MacA.x x41)) = (MacS.C x43)) ∧
 (((kvC (MacS.C (MacA.x x41))) = (kvC (MacS.C x43))) ∧
 (((MacS.size (MacA.x x41)) = (MacS.size x43)) ∧
 (((0 : Nat) = (0 : Nat)) ∧
 (((List.length (MacS.S (MacA.x x41))) = (List.length (MacS.S x43))) ∧
 (((MacS.S (MacA.x x41)) = (MacS.S x43)) ∧
 (((MacS.alpha (MacA.x x41)) = (MacS.alpha x43)) ∧
 (((0 : Nat) = (0 : Nat)) ∧
 (((List.length (MacS.E (MacA.x x41))) = (List.length (MacS.E x43))) ∧
 (((MacS.E (MacA.x x41)) = (MacS.E x43)) ∧
 (True ∧
 (∀ x44 : Unit,
 (True →
 (∃ x45 : MacS,
 (((MacS.alpha x43) = (MacS.alpha x45)) ∧
 (((MacS.size x43) = (MacS.size x45)) ∧
 (((MacS.applied x43) = (MacS.applied x45)) ∧
 (((0 : Nat) = (0 : Nat)) ∧
 (((List.length (MacS.C x43)) = (List.length (MacS.C x45))) ∧
 (((treeC (MacS.C x43)) = (treeC (MacS.C x45))) ∧
 (((MacS.C x43) = (MacS.C x45)) ∧
 (((kvC (MacS.C x43)) = (kvC (MacS.C x45))) ∧
 (((MacS.size x43) = (MacS.size x45)) ∧
 (((0 : Nat) = (0 : Nat)) ∧
 (((List.length (MacS.S x43)) = (List.length (MacS.S x45))) ∧
 (((MacS.S x43) = (MacS.S x45)) ∧
 (((MacS.alpha x43) = (MacS.alpha x45)) ∧
 (((0 : Nat) = (0 : Nat)) ∧
 (((List.length (MacS.E x43)) = (List.length (MacS.E x45))) ∧
 (((MacS.E x43) = (MacS.E x45)) ∧
 (((decide ((0 : Int) < (MacS.size x45))) = Bool.true) ∧
 (∀ x46 : Unit,
 (True →
 ((∃ x47 : Nat,
 (((0 : Int) = (↑x47 : Int)) ∧
 ((Bool.false = (freB (MacS.S x45) (RequestD.session (List.getD (RedA.k x) (Int.toNat (↑x17 : Int)) (RequestD.mk (0 : Int) ([] : List UInt8) (0 : Int) (0 : Int) (0 : Int) ([] : List UInt8) ([] : List ChangeD) ([] : List UInt8) (0 : Int) (0 : Int) (0 : Int)))) (RequestD.seq (List.getD (RedA.k x) (Int.toNat (↑x17 : Int)) (RequestD.mk (0 : Int) ([] : List UInt8) (0 : Int) (0 : Int) (0 : Int) ([] : List UInt8) ([] : List ChangeD) ([] : List UInt8) (0 : Int) (0 : Int) (0 : Int)))) x47)) ∧
 (Nat.le x47 (List.length (MacS.S x45)))))) ∧
 (∀ x48 : Nat,
 ((Nat.le x48 (List.length (MacS.S x45))) →
 ((((List.length (MacS.S x45)) * (112 : Nat)) ≤ room47) →
 (br (decide ((↑x48 : Int) < (↑(List.length (MacS.S x45)) : Int)))
 (br (freB (MacS.S x45) (RequestD.session (List.getD (RedA.k x) (Int.toNat (↑x17 : Int)) (RequestD.mk (0 : Int) ([] : List UInt8) (0 : Int) (0 : Int) (0 : Int) ([] : List UInt8) ([] : List ChangeD) ([] : List UInt8) (0 : Int) (0 : Int) (0 : Int)))) (RequestD.seq (List.getD (RedA.k x) (Int.toNat (↑x17 : Int)) (RequestD.mk (0 : Int) ([] : List UInt8) (0 : Int) (0 : Int) (0 : Int) ([] : List UInt8) ([] : List ChangeD) ([] : List UInt8) (0 : Int) (0 : Int) (0 : Int)))) x48)
 (∃ x49 : Nat,
 (((IntKind.wrap IntKind.i64 ((↑x48 : Int) + (1 : Int))) = (↑x49 : Int)) ∧
 ((Bool.true = (freB (MacS.S x45) (RequestD.session (List.getD (RedA.k x) (Int.toNat (↑x17 : Int)) (RequestD.mk (0 : Int) ([] : List UInt8) (0 : Int) (0 : Int) (0 : Int) ([] : List UInt8) ([] : List ChangeD) ([] : List UInt8) (0 : Int) (0 : Int) (0 : Int)))) (RequestD.seq (List.getD (RedA.k x) (Int.toNat (↑x17 : Int)) (RequestD.mk (0 : Int) ([] : List UInt8) (0 : Int) (0 : Int) (0 : Int) ([] : List UInt8) ([] : List ChangeD) ([] : List UInt8) (0 : Int) (0 : Int) (0 : Int)))) x49)) ∧
 ((Nat.le x49 (List.length (MacS.S x45))) ∧
 ((Nat.sub (List.length (MacS.S x45)) x49) < (Nat.sub (List.length (MacS.S x45)) x48))))))
 (br (decide (((0 : Int) ≤ (↑x48 : Int)) ∧
 ((↑x48 : Int) < (↑(List.length (MacS.S x45)) : Int))))
 (br ((SessionD.id (List.getD (MacS.S x45) (Int.toNat (↑x48 : Int)) (SessionD.mk (0 : Int) (0 : Int) ([] : List UInt8) VerdictD.dflt))) == (RequestD.session (List.getD (RedA.k x) (Int.toNat (↑x17 : Int)) (RequestD.mk (0 : Int) ([] : List UInt8) (0 : Int) (0 : Int) (0 : Int) ([] : List UInt8) ([] : List ChangeD) ([] : List UInt8) (0 : Int) (0 : Int) (0 : Int)))))
 (br (decide (((0 : Int) ≤ (↑x48 : Int)) ∧
 ((↑x48 : Int) < (↑(List.length (MacS.S x45)) : Int))))
 (br (decide ((RequestD.seq (List.getD (RedA.k x) (Int.toNat (↑x17 : Int)) (RequestD.mk (0 : Int) ([] : List UInt8) (0 : Int) (0 : Int) (0 : Int) ([] : List UInt8) ([] : List ChangeD) ([] : List UInt8) (0 : Int) (0 : Int) (0 : Int)))) > (SessionD.seq (List.getD (MacS.S x45) (Int.toNat (↑x48 : Int)) (SessionD.mk (0 : Int) (0 : Int) ([] : List UInt8) VerdictD.dflt)))))
 (∃ x50 : Nat,
 (((IntKind.wrap IntKind.i64 ((↑x48 : Int) + (1 : Int))) = (↑x50 : Int)) ∧
 (((decide (@GE.ge Int _ (RequestD.seq (List.getD (RedA.k x) (Int.toNat (↑x17 : Int)) (RequestD.mk (0 : Int) ([] : List UInt8) (0 : Int) (0 : Int) (0 : Int) ([] : List UInt8) ([] : List ChangeD) ([] : List UInt8) (0 : Int) (0 : Int) (0 : Int)))) (1 : Int))) = (freB (MacS.S x45) (RequestD.session (List.getD (RedA.k x) (Int.toNat (↑x17 : Int)) (RequestD.mk (0 : Int) ([] : List UInt8) (0 : Int) (0 : Int) (0 : Int) ([] : List UInt8) ([] : List ChangeD) ([] : List UInt8) (0 : Int) (0 : Int) (0 : Int)))) (RequestD.seq (List.getD (RedA.k x) (Int.toNat (↑x17 : Int)) (RequestD.mk (0 : Int) ([] : List UInt8) (0 : Int) (0 : Int) (0 : Int) ([] : List UInt8) ([] : List ChangeD) ([] : List UInt8) (0 : Int) (0 : Int) (0 : Int)))) x50)) ∧
 ((Nat.le x50 (List.length (MacS.S x45))) ∧
 ((Nat.sub (List.length (MacS.S x45)) x50) < (Nat.sub (List.length (MacS.S x45)) x48))))))
 (∃ x51 : Nat,
 (((IntKind.wrap IntKind.i64 ((↑x48 : Int) + (1 : Int))) = (↑x51 : Int)) ∧
 ((Bool.false = (freB (MacS.S x45) (RequestD.session (List.getD (RedA.k x) (Int.toNat (↑x17 : Int)) (RequestD.mk (0 : Int) ([] : List UInt8) (0 : Int) (0 : Int) (0 : Int) ([] : List UInt8) ([] : List ChangeD) ([] : List UInt8) (0 : Int) (0 : Int) (0 : Int)))) (RequestD.seq (List.getD (RedA.k x) (Int.toNat (↑x17 : Int)) (RequestD.mk (0 : Int) ([] : List UInt8) (0 : Int) (0 : Int) (0 : Int) ([] : List UInt8) ([] : List ChangeD) ([] : List UInt8) (0 : Int) (0 : Int) (0 : Int)))) x51)) ∧
 ((Nat.le x51 (List.length (MacS.S x45))) ∧
 ((Nat.sub (List.length (MacS.S x45)) x51) < (Nat.sub (List.length (MacS.S x45)) x48)))))))
 (Bad "check" "law.go:241"))
 (∃ x52 : Nat,
 (((IntKind.wrap IntKind.i64 ((↑x48 : Int) + (1 : Int))) = (↑x52 : Int)) ∧
 ((Bool.false = (freB (MacS.S x45) (RequestD.session (List.getD (RedA.k x) (Int.toNat (↑x17 : Int)) (RequestD.mk (0 : Int) ([] : List UInt8) (0 : Int) (0 : Int) (0 : Int) ([] : List UInt8) ([] : List ChangeD) ([] : List UInt8) (0 : Int) (0 : Int) (0 : Int)))) (RequestD.seq (List.getD (RedA.k x) (Int.toNat (↑x17 : Int)) (RequestD.mk (0 : Int) ([] : List UInt8) (0 : Int) (0 : Int) (0 : Int) ([] : List UInt8) ([] : List ChangeD) ([] : List UInt8) (0 : Int) (0 : Int) (0 : Int)))) x52)) ∧
 ((Nat.le x52 (List.length (MacS.S x45))) ∧
 ((Nat.sub (List.length (MacS.S x45)) x52) < (Nat.sub (List.length (MacS.S x45)) x48)))))))
 (Bad "check" "law.go:241")))
 (∃ x53 : MacA,
 (((RequestD.kind (List.getD (RedA.k x) (Int.toNat (↑x17 : Int)) (RequestD.mk (0 : Int) ([] : List UInt8) (0 : Int) (0 : Int) (0 : Int) ([] : List UInt8) ([] : List ChangeD) ([] : List UInt8) (0 : Int) (0 : Int) (0 : Int)))) = (RequestD.kind (MacA.r x53))) ∧
 (((RequestD.name (List.getD (RedA.k x) (Int.toNat (↑x17 : Int)) (RequestD.mk (0 : Int) ([] : List UInt8) (0 : Int) (0 : Int) (0 : Int) ([] : List UInt8) ([] : List ChangeD) ([] : List UInt8) (0 : Int) (0 : Int) (0 : Int)))) = (RequestD.name (MacA.r x53))) ∧
 (((RequestD.session (List.getD (RedA.k x) (Int.toNat (↑x17 : Int)) (RequestD.mk (0 : Int) ([] : List UInt8) (0 : Int) (0 : Int) (0 : Int) ([] : List UInt8) ([] : List ChangeD) ([] : List UInt8) (0 : Int) (0 : Int) (0 : Int)))) = (RequestD.session (MacA.r x53))) ∧
 (((RequestD.seq (List.getD (RedA.k x) (Int.toNat (↑x17 : Int)) (RequestD.mk (0 : Int) ([] : List UInt8) (0 : Int) (0 : Int) (0 : Int) ([] : List UInt8) ([] : List ChangeD) ([] : List UInt8) (0 : Int) (0 : Int) (0 : Int)))) = (RequestD.seq (MacA.r x53))) ∧
 (((RequestD.base (List.getD (RedA.k x) (Int.toNat (↑x17 : Int)) (RequestD.mk (0 : Int) ([] : List UInt8) (0 : Int) (0 : Int) (0 : Int) ([] : List UInt8) ([] : List ChangeD) ([] : List UInt8) (0 : Int) (0 : Int) (0 : Int)))) = (RequestD.base (MacA.r x53))) ∧
 (((RequestD.ref (List.getD (RedA.k x) (Int.toNat (↑x17 : Int)) (RequestD.mk (0 : Int) ([] : List UInt8) (0 : Int) (0 : Int) (0 : Int) ([] : List UInt8) ([] : List ChangeD) ([] : List UInt8) (0 : Int) (0 : Int) (0 : Int)))) = (RequestD.ref (MacA.r x53))) ∧
 (((RequestD.changes (List.getD (RedA.k x) (Int.toNat (↑x17 : Int)) (RequestD.mk (0 : Int) ([] : List UInt8) (0 : Int) (0 : Int) (0 : Int) ([] : List UInt8) ([] : List ChangeD) ([] : List UInt8) (0 : Int) (0 : Int) (0 : Int)))) = (RequestD.changes (MacA.r x53))) ∧
 (((RequestD.path (List.getD (RedA.k x) (Int.toNat (↑x17 : Int)) (RequestD.mk (0 : Int) ([] : List UInt8) (0 : Int) (0 : Int) (0 : Int) ([] : List UInt8) ([] : List ChangeD) ([] : List UInt8) (0 : Int) (0 : Int) (0 : Int)))) = (RequestD.path (MacA.r x53))) ∧
 (((RequestD.from_ (List.getD (RedA.k x) (Int.toNat (↑x17 : Int)) (RequestD.mk (0 : Int) ([] : List UInt8) (0 : Int) (0 : Int) (0 : Int) ([] : List UInt8) ([] : List ChangeD) ([] : List UInt8) (0 : Int) (0 : Int) (0 : Int)))) = (RequestD.from_ (MacA.r x53))) ∧
 (((RequestD.many (List.getD (RedA.k x) (Int.toNat (↑x17 : Int)) (RequestD.mk (0 : Int) ([] : List UInt8) (0 : Int) (0 : Int) (0 : Int) ([] : List UInt8) ([] : List ChangeD) ([] : List UInt8) (0 : Int) (0 : Int) (0 : Int)))) = (RequestD.many (MacA.r x53))) ∧
 (((RequestD.member (List.getD (RedA.k x) (Int.toNat (↑x17 : Int)) (RequestD.mk (0 : Int) ([] : List UInt8) (0 : Int) (0 : Int) (0 : Int) ([] : List UInt8) ([] : List ChangeD) ([] : List UInt8) (0 : Int) (0 : Int) (0 : Int)))) = (RequestD.member (MacA.r x53))) ∧
 (((MacS.alpha x45) = (MacS.alpha (MacA.x x53))) ∧
 (((MacS.size x45) = (MacS.size (MacA.x x53))) ∧
 (((MacS.applied x45) = (MacS.applied (MacA.x x53))) ∧
 (((0 : Nat) = (0 : Nat)) ∧
 (((List.length (MacS.C x45)) = (List.length (MacS.C (MacA.x x53)))) ∧
 (((treeC (MacS.C x45)) = (treeC (MacS.C (MacA.x x53)))) ∧
 (((MacS.C x45) = (MacS.C (MacA.x x53))) ∧
 (((kvC (MacS.C x45)) = (kvC (MacS.C (MacA.x x53)))) ∧
 (((MacS.size x45) = (MacS.size (MacA.x x53))) ∧
 (((0 : Nat) = (0 : Nat)) ∧
 (((List.length (MacS.S x45)) = (List.length (MacS.S (MacA.x x53)))) ∧
 (((MacS.S x45) = (MacS.S (MacA.x x53))) ∧
 (((MacS.alpha x45) = (MacS.alpha (MacA.x x53))) ∧
 (((0 : Nat) = (0 : Nat)) ∧
 (((List.length (MacS.E x45)) = (List.length (MacS.E (MacA.x x53)))) ∧
 (((MacS.E x45) = (MacS.E (MacA.x x53))) ∧
 ((((okMS (MacA.x x53)) = Bool.true) ∧
 ((okRq (MacA.r x53)) = Bool.true)) ∧
 (∀ x54 : Unit,
 (True →
 (br (freB (MacS.S x45) (RequestD.session (List.getD (RedA.k x) (Int.toNat (↑x17 : Int)) (RequestD.mk (0 : Int) ([] : List UInt8) (0 : Int) (0 : Int) (0 : Int) ([] : List UInt8) ([] : List ChangeD) ([] : List UInt8) (0 : Int) (0 : Int) (0 : Int)))) (RequestD.seq (List.getD (RedA.k x) (Int.toNat (↑x17 : Int)) (RequestD.mk (0 : Int) ([] : List UInt8) (0 : Int) (0 : Int) (0 : Int) ([] : List UInt8) ([] : List ChangeD) ([] : List UInt8) (0 : Int) (0 : Int) (0 : Int)))) x48)
 (∃ x55 : Ver2,
 (((VerdictD.code (Prod.fst (applyM (MacA.x x53) (MacA.r x53)))) = (VerdictD.code (Ver2.a x55))) ∧
 (((VerdictD.session (Prod.fst (applyM (MacA.x x53) (MacA.r x53)))) = (VerdictD.session (Ver2.a x55))) ∧
 (((VerdictD.rev (Prod.fst (applyM (MacA.x x53) (MacA.r x53)))) = (VerdictD.rev (Ver2.a x55))) ∧
 (((VerdictD.path (Prod.fst (applyM (MacA.x x53) (MacA.r x53)))) = (VerdictD.path (Ver2.a x55))) ∧
 (((VerdictD.digest (Prod.fst (applyM (MacA.x x53) (MacA.r x53)))) = (VerdictD.digest (Ver2.a x55))) ∧
 (((VerdictD.commits (Prod.fst (applyM (MacA.x x53) (MacA.r x53)))) = (VerdictD.commits (Ver2.a x55))) ∧
 (((VerdictD.member (Prod.fst (applyM (MacA.x x53) (MacA.r x53)))) = (VerdictD.member (Ver2.a x55))) ∧
 (((VerdictD.code (peekM (MacA.x x41) (MacA.r x41))) = (VerdictD.code (Ver2.b x55))) ∧
 (((VerdictD.session (peekM (MacA.x x41) (MacA.r x41))) = (VerdictD.session (Ver2.b x55))) ∧
 (((VerdictD.rev (peekM (MacA.x x41) (MacA.r x41))) = (VerdictD.rev (Ver2.b x55))) ∧
 (((VerdictD.path (peekM (MacA.x x41) (MacA.r x41))) = (VerdictD.path (Ver2.b x55))) ∧
 (((VerdictD.digest (peekM (MacA.x x41) (MacA.r x41))) = (VerdictD.digest (Ver2.b x55))) ∧
 (((VerdictD.commits (peekM (MacA.x x41) (MacA.r x41))) = (VerdictD.commits (Ver2.b x55))) ∧
 (((VerdictD.member (peekM (MacA.x x41) (MacA.r x41))) = (VerdictD.member (Ver2.b x55))) ∧
 (True ∧
 (∀ x56 : Unit,
 (True →
 (br (Bool.not (eqV (Ver2.a x55) (Ver2.b x55)))
 (Bool.false = Bool.true)
 (∃ x57 : MacS,
 (((MacS.alpha (Prod.snd (applyM (MacA.x x53) (MacA.r x53)))) = (MacS.alpha x57)) ∧
 (((MacS.size (Prod.snd (applyM (MacA.x x53) (MacA.r x53)))) = (MacS.size x57)) ∧
 (((MacS.applied (Prod.snd (applyM (MacA.x x53) (MacA.r x53)))) = (MacS.applied x57)) ∧
 (((0 : Nat) = (0 : Nat)) ∧
 (((List.length (MacS.C (Prod.snd (applyM (MacA.x x53) (MacA.r x53))))) = (List.length (MacS.C x57))) ∧
 (((treeC (MacS.C (Prod.snd (applyM (MacA.x x53) (MacA.r x53))))) = (treeC (MacS.C x57))) ∧
 (((MacS.C (Prod.snd (applyM (MacA.x x53) (MacA.r x53)))) = (MacS.C x57)) ∧
 (((kvC (MacS.C (Prod.snd (applyM (MacA.x x53) (MacA.r x53))))) = (kvC (MacS.C x57))) ∧
 (((MacS.size (Prod.snd (applyM (MacA.x x53) (MacA.r x53)))) = (MacS.size x57)) ∧
 (((0 : Nat) = (0 : Nat)) ∧
 (((List.length (MacS.S (Prod.snd (applyM (MacA.x x53) (MacA.r x53))))) = (List.length (MacS.S x57))) ∧
 (((MacS.S (Prod.snd (applyM (MacA.x x53) (MacA.r x53)))) = (MacS.S x57)) ∧
 (((MacS.alpha (Prod.snd (applyM (MacA.x x53) (MacA.r x53)))) = (MacS.alpha x57)) ∧
 (((0 : Nat) = (0 : Nat)) ∧
 (((List.length (MacS.E (Prod.snd (applyM (MacA.x x53) (MacA.r x53))))) = (List.length (MacS.E x57))) ∧
 (((MacS.E (Prod.snd (applyM (MacA.x x53) (MacA.r x53)))) = (MacS.E x57)) ∧
 (True ∧
 (∀ x58 : Unit,
 (True →
 (br ((MacS.applied x57) != (IntKind.wrap IntKind.i64 ((MacS.applied x43) + (1 : Int))))
 (Bool.false = Bool.true)
 (∃ x59 : Nat,
 (((IntKind.wrap IntKind.i64 ((↑x17 : Int) + (1 : Int))) = (↑x59 : Int)) ∧
 (((MacS.alpha x57) = (MacS.alpha (runK (MacS.mk (MacS.alpha x14) (MacS.size x14) (MacS.applied x14) (MacS.C x14) (MacS.S x14) (MacS.E x14)) (List.take x59 (RedA.k x))))) ∧
 (((MacS.size x57) = (MacS.size (runK (MacS.mk (MacS.alpha x14) (MacS.size x14) (MacS.applied x14) (MacS.C x14) (MacS.S x14) (MacS.E x14)) (List.take x59 (RedA.k x))))) ∧
 (((MacS.applied x57) = (MacS.applied (runK (MacS.mk (MacS.alpha x14) (MacS.size x14) (MacS.applied x14) (MacS.C x14) (MacS.S x14) (MacS.E x14)) (List.take x59 (RedA.k x))))) ∧
 (((0 : Nat) = (0 : Nat)) ∧
 (((List.length (MacS.C x57)) = (List.length (MacS.C (runK (MacS.mk (MacS.alpha x14) (MacS.size x14) (MacS.applied x14) (MacS.C x14) (MacS.S x14) (MacS.E x14)) (List.take x59 (RedA.k x)))))) ∧
 (((treeC (MacS.C x57)) = (treeC (MacS.C (runK (MacS.mk (MacS.alpha x14) (MacS.size x14) (MacS.applied x14) (MacS.C x14) (MacS.S x14) (MacS.E x14)) (List.take x59 (RedA.k x)))))) ∧
 (((MacS.C x57) = (MacS.C (runK (MacS.mk (MacS.alpha x14) (MacS.size x14) (MacS.applied x14) (MacS.C x14) (MacS.S x14) (MacS.E x14)) (List.take x59 (RedA.k x))))) ∧
 (((kvC (MacS.C x57)) = (kvC (MacS.C (runK (MacS.mk (MacS.alpha x14) (MacS.size x14) (MacS.applied x14) (MacS.C x14) (MacS.S x14) (MacS.E x14)) (List.take x59 (RedA.k x)))))) ∧
 (((MacS.size x57) = (MacS.size (runK (MacS.mk (MacS.alpha x14) (MacS.size x14) (MacS.applied x14) (MacS.C x14) (MacS.S x14) (MacS.E x14)) (List.take x59 (RedA.k x))))) ∧
 (((0 : Nat) = (0 : Nat)) ∧
 (((List.length (MacS.S x57)) = (List.length (MacS.S (runK (MacS.mk (MacS.alpha x14) (MacS.size x14) (MacS.applied x14) (MacS.C x14) (MacS.S x14) (MacS.E x14)) (List.take x59 (RedA.k x)))))) ∧
 (((MacS.S x57) = (MacS.S (runK (MacS.mk (MacS.alpha x14) (MacS.size x14) (MacS.applied x14) (MacS.C x14) (MacS.S x14) (MacS.E x14)) (List.take x59 (RedA.k x))))) ∧
 (((MacS.alpha x57) = (MacS.alpha (runK (MacS.mk (MacS.alpha x14) (MacS.size x14) (MacS.applied x14) (MacS.C x14) (MacS.S x14) (MacS.E x14)) (List.take x59 (RedA.k x))))) ∧
 (((0 : Nat) = (0 : Nat)) ∧
 (((List.length (MacS.E x57)) = (List.length (MacS.E (runK (MacS.mk (MacS.alpha x14) (MacS.size x14) (MacS.applied x14) (MacS.C x14) (MacS.S x14) (MacS.E x14)) (List.take x59 (RedA.k x)))))) ∧
 (((MacS.E x57) = (MacS.E (runK (MacS.mk (MacS.alpha x14) (MacS.size x14) (MacS.applied x14) (MacS.C x14) (MacS.S x14) (MacS.E x14)) (List.take x59 (RedA.k x))))) ∧
 ((Nat.le x59 (List.length (RedA.k x))) ∧
 ((Nat.sub (List.length (RedA.k x)) x59) < (Nat.sub (List.length (RedA.k x)) x17)))))))))))))))))))))))))))))))))))))))))))))))))))))))))))))
 (∃ x60 : MacS,
 (((MacS.alpha (Prod.snd (applyM (MacA.x x53) (MacA.r x53)))) = (MacS.alpha x60)) ∧
 (((MacS.size (Prod.snd (applyM (MacA.x x53) (MacA.r x53)))) = (MacS.size x60)) ∧
 (((MacS.applied (Prod.snd (applyM (MacA.x x53) (MacA.r x53)))) = (MacS.applied x60)) ∧
 (((0 : Nat) = (0 : Nat)) ∧
 (((List.length (MacS.C (Prod.snd (applyM (MacA.x x53) (MacA.r x53))))) = (List.length (MacS.C x60))) ∧
 (((treeC (MacS.C (Prod.snd (applyM (MacA.x x53) (MacA.r x53))))) = (treeC (MacS.C x60))) ∧
 (((MacS.C (Prod.snd (applyM (MacA.x x53) (MacA.r x53)))) = (MacS.C x60)) ∧
 (((kvC (MacS.C (Prod.snd (applyM (MacA.x x53) (MacA.r x53))))) = (kvC (MacS.C x60))) ∧
 (((MacS.size (Prod.snd (applyM (MacA.x x53) (MacA.r x53)))) = (MacS.size x60)) ∧
 (((0 : Nat) = (0 : Nat)) ∧
 (((List.length (MacS.S (Prod.snd (applyM (MacA.x x53) (MacA.r x53))))) = (List.length (MacS.S x60))) ∧
 (((MacS.S (Prod.snd (applyM (MacA.x x53) (MacA.r x53)))) = (MacS.S x60)) ∧
 (((MacS.alpha (Prod.snd (applyM (MacA.x x53) (MacA.r x53)))) = (MacS.alpha x60)) ∧
 (((0 : Nat) = (0 : Nat)) ∧
 (((List.length (MacS.E (Prod.snd (applyM (MacA.x x53) (MacA.r x53))))) = (List.length (MacS.E x60))) ∧
 (((MacS.E (Prod.snd (applyM (MacA.x x53) (MacA.r x53)))) = (MacS.E x60)) ∧
 (True ∧
 (∀ x61 : Unit,
 (True →
 (br ((MacS.applied x60) != (IntKind.wrap IntKind.i64 ((MacS.applied x43) + (1 : Int))))
 (Bool.false = Bool.true)
 (∃ x62 : Nat,
 (((IntKind.wrap IntKind.i64 ((↑x17 : Int) + (1 : Int))) = (↑x62 : Int)) ∧
 (((MacS.alpha x60) = (MacS.alpha (runK (MacS.mk (MacS.alpha x14) (MacS.size x14) (MacS.applied x14) (MacS.C x14) (MacS.S x14) (MacS.E x14)) (List.take x62 (RedA.k x))))) ∧
 (((MacS.size x60) = (MacS.size (runK (MacS.mk (MacS.alpha x14) (MacS.size x14) (MacS.applied x14) (MacS.C x14) (MacS.S x14) (MacS.E x14)) (List.take x62 (RedA.k x))))) ∧
 (((MacS.applied x60) = (MacS.applied (runK (MacS.mk (MacS.alpha x14) (MacS.size x14) (MacS.applied x14) (MacS.C x14) (MacS.S x14) (MacS.E x14)) (List.take x62 (RedA.k x))))) ∧
 (((0 : Nat) = (0 : Nat)) ∧
 (((List.length (MacS.C x60)) = (List.length (MacS.C (runK (MacS.mk (MacS.alpha x14) (MacS.size x14) (MacS.applied x14) (MacS.C x14) (MacS.S x14) (MacS.E x14)) (List.take x62 (RedA.k x)))))) ∧
 (((treeC (MacS.C x60)) = (treeC (MacS.C (runK (MacS.mk (MacS.alpha x14) (MacS.size x14) (MacS.applied x14) (MacS.C x14) (MacS.S x14) (MacS.E x14)) (List.take x62 (RedA.k x)))))) ∧
 (((MacS.C x60) = (MacS.C (runK (MacS.mk (MacS.alpha x14) (MacS.size x14) (MacS.applied x14) (MacS.C x14) (MacS.S x14) (MacS.E x14)) (List.take x62 (RedA.k x))))) ∧
 (((kvC (MacS.C x60)) = (kvC (MacS.C (runK (MacS.mk (MacS.alpha x14) (MacS.size x14) (MacS.applied x14) (MacS.C x14) (MacS.S x14) (MacS.E x14)) (List.take x62 (RedA.k x)))))) ∧
 (((MacS.size x60) = (MacS.size (runK (MacS.mk (MacS.alpha x14) (MacS.size x14) (MacS.applied x14) (MacS.C x14) (MacS.S x14) (MacS.E x14)) (List.take x62 (RedA.k x))))) ∧
 (((0 : Nat) = (0 : Nat)) ∧
 (((List.length (MacS.S x60)) = (List.length (MacS.S (runK (MacS.mk (MacS.alpha x14) (MacS.size x14) (MacS.applied x14) (MacS.C x14) (MacS.S x14) (MacS.E x14)) (List.take x62 (RedA.k x)))))) ∧
 (((MacS.S x60) = (MacS.S (runK (MacS.mk (MacS.alpha x14) (MacS.size x14) (MacS.applied x14) (MacS.C x14) (MacS.S x14) (MacS.E x14)) (List.take x62 (RedA.k x))))) ∧
 (((MacS.alpha x60) = (MacS.alpha (runK (MacS.mk (MacS.alpha x14) (MacS.size x14) (MacS.applied x14) (MacS.C x14) (MacS.S x14) (MacS.E x14)) (List.take x62 (RedA.k x))))) ∧
 (((0 : Nat) = (0 : Nat)) ∧
 (((List.length (MacS.E x60)) = (List.length (MacS.E (runK (MacS.mk (MacS.alpha x14) (MacS.size x14) (MacS.applied x14) (MacS.C x14) (MacS.S x14) (MacS.E x14)) (List.take x62 (RedA.k x)))))) ∧
 (((MacS.E x60) = (MacS.E (runK (MacS.mk (MacS.alpha x14) (MacS.size x14) (MacS.applied x14) (MacS.C x14) (MacS.S x14) (MacS.E x14)) (List.take x62 (RedA.k x))))) ∧
 ((Nat.le x62 (List.length (RedA.k x))) ∧
 ((Nat.sub (List.length (RedA.k x)) x62) < (Nat.sub (List.length (RedA.k x)) x17)))))))))))))))))))))))))))))))))))))))))))))))))))))))))))))))))))))))))))))))))))))))))))))))))))))))))))))))))))))))))))))))))))))))))))))))))))))))
 (∃ x63 : MacA,
 (((RequestD.kind (List.getD (RedA.k x) (Int.toNat (↑x17 : Int)) (RequestD.mk (0 : Int) ([] : List UInt8) (0 : Int) (0 : Int) (0 : Int) ([] : List UInt8) ([] : List ChangeD) ([] : List UInt8) (0 : Int) (0 : Int) (0 : Int)))) = (RequestD.kind (MacA.r x63))) ∧
 (((RequestD.name (List.getD (RedA.k x) (Int.toNat (↑x17 : Int)) (RequestD.mk (0 : Int) ([] : List UInt8) (0 : Int) (0 : Int) (0 : Int) ([] : List UInt8) ([] : List ChangeD) ([] : List UInt8) (0 : Int) (0 : Int) (0 : Int)))) = (RequestD.name (MacA.r x63))) ∧
 (((RequestD.session (List.getD (RedA.k x) (Int.toNat (↑x17 : Int)) (RequestD.mk (0 : Int) ([] : List UInt8) (0 : Int) (0 : Int) (0 : Int) ([] : List UInt8) ([] : List ChangeD) ([] : List UInt8) (0 : Int) (0 : Int) (0 : Int)))) = (RequestD.session (MacA.r x63))) ∧
 (((RequestD.seq (List.getD (RedA.k x) (Int.toNat (↑x17 : Int)) (RequestD.mk (0 : Int) ([] : List UInt8) (0 : Int) (0 : Int) (0 : Int) ([] : List UInt8) ([] : List ChangeD) ([] : List UInt8) (0 : Int) (0 : Int) (0 : Int)))) = (RequestD.seq (MacA.r x63))) ∧
 (((RequestD.base (List.getD (RedA.k x) (Int.toNat (↑x17 : Int)) (RequestD.mk (0 : Int) ([] : List UInt8) (0 : Int) (0 : Int) (0 : Int) ([] : List UInt8) ([] : List ChangeD) ([] : List UInt8) (0 : Int) (0 : Int) (0 : Int)))) = (RequestD.base (MacA.r x63))) ∧
 (((RequestD.ref (List.getD (RedA.k x) (Int.toNat (↑x17 : Int)) (RequestD.mk (0 : Int) ([] : List UInt8) (0 : Int) (0 : Int) (0 : Int) ([] : List UInt8) ([] : List ChangeD) ([] : List UInt8) (0 : Int) (0 : Int) (0 : Int)))) = (RequestD.ref (MacA.r x63))) ∧
 (((RequestD.changes (List.getD (RedA.k x) (Int.toNat (↑x17 : Int)) (RequestD.mk (0 : Int) ([] : List UInt8) (0 : Int) (0 : Int) (0 : Int) ([] : List UInt8) ([] : List ChangeD) ([] : List UInt8) (0 : Int) (0 : Int) (0 : Int)))) = (RequestD.changes (MacA.r x63))) ∧
 (((RequestD.path (List.getD (RedA.k x) (Int.toNat (↑x17 : Int)) (RequestD.mk (0 : Int) ([] : List UInt8) (0 : Int) (0 : Int) (0 : Int) ([] : List UInt8) ([] : List ChangeD) ([] : List UInt8) (0 : Int) (0 : Int) (0 : Int)))) = (RequestD.path (MacA.r x63))) ∧
 (((RequestD.from_ (List.getD (RedA.k x) (Int.toNat (↑x17 : Int)) (RequestD.mk (0 : Int) ([] : List UInt8) (0 : Int) (0 : Int) (0 : Int) ([] : List UInt8) ([] : List ChangeD) ([] : List UInt8) (0 : Int) (0 : Int) (0 : Int)))) = (RequestD.from_ (MacA.r x63))) ∧
 (((RequestD.many (List.getD (RedA.k x) (Int.toNat (↑x17 : Int)) (RequestD.mk (0 : Int) ([] : List UInt8) (0 : Int) (0 : Int) (0 : Int) ([] : List UInt8) ([] : List ChangeD) ([] : List UInt8) (0 : Int) (0 : Int) (0 : Int)))) = (RequestD.many (MacA.r x63))) ∧
 (((RequestD.member (List.getD (RedA.k x) (Int.toNat (↑x17 : Int)) (RequestD.mk (0 : Int) ([] : List UInt8) (0 : Int) (0 : Int) (0 : Int) ([] : List UInt8) ([] : List ChangeD) ([] : List UInt8) (0 : Int) (0 : Int) (0 : Int)))) = (RequestD.member (MacA.r x63))) ∧
 (((MacS.alpha (runK (MacS.mk (MacS.alpha x14) (MacS.size x14) (MacS.applied x14) (MacS.C x14) (MacS.S x14) (MacS.E x14)) (List.take x17 (RedA.k x)))) = (MacS.alpha (MacA.x x63))) ∧
 (((MacS.size (runK (MacS.mk (MacS.alpha x14) (MacS.size x14) (MacS.applied x14) (MacS.C x14) (MacS.S x14) (MacS.E x14)) (List.take x17 (RedA.k x)))) = (MacS.size (MacA.x x63))) ∧
 (((MacS.applied (runK (MacS.mk (MacS.alpha x14) (MacS.size x14) (MacS.applied x14) (MacS.C x14) (MacS.S x14) (MacS.E x14)) (List.take x17 (RedA.k x)))) = (MacS.applied (MacA.x x63))) ∧
 (((0 : Nat) = (0 : Nat)) ∧
 (((List.length (MacS.C (runK (MacS.mk (MacS.alpha x14) (MacS.size x14) (MacS.applied x14) (MacS.C x14) (MacS.S x14) (MacS.E x14)) (List.take x17 (RedA.k x))))) = (List.length (MacS.C (MacA.x x63)))) ∧
 (((treeC (MacS.C (runK (MacS.mk (MacS.alpha x14) (MacS.size x14) (MacS.applied x14) (MacS.C x14) (MacS.S x14) (MacS.E x14)) (List.take x17 (RedA.k x))))) = (treeC (MacS.C (MacA.x x63)))) ∧
 (((MacS.C (runK (MacS.mk (MacS.alpha x14) (MacS.size x14) (MacS.applied x14) (MacS.C x14) (MacS.S x14) (MacS.E x14)) (List.take x17 (RedA.k x)))) = (MacS.C (MacA.x x63))) ∧
 (((kvC (MacS.C (runK (MacS.mk (MacS.alpha x14) (MacS.size x14) (MacS.applied x14) (MacS.C x14) (MacS.S x14) (MacS.E x14)) (List.take x17 (RedA.k x))))) = (kvC (MacS.C (MacA.x x63)))) ∧
 (((MacS.size (runK (MacS.mk (MacS.alpha x14) (MacS.size x14) (MacS.applied x14) (MacS.C x14) (MacS.S x14) (MacS.E x14)) (List.take x17 (RedA.k x)))) = (MacS.size (MacA.x x63))) ∧
 (((0 : Nat) = (0 : Nat)) ∧
 (((List.length (MacS.S (runK (MacS.mk (MacS.alpha x14) (MacS.size x14) (MacS.applied x14) (MacS.C x14) (MacS.S x14) (MacS.E x14)) (List.take x17 (RedA.k x))))) = (List.length (MacS.S (MacA.x x63)))) ∧
 (((MacS.S (runK (MacS.mk (MacS.alpha x14) (MacS.size x14) (MacS.applied x14) (MacS.C x14) (MacS.S x14) (MacS.E x14)) (List.take x17 (RedA.k x)))) = (MacS.S (MacA.x x63))) ∧
 (((MacS.alpha (runK (MacS.mk (MacS.alpha x14) (MacS.size x14) (MacS.applied x14) (MacS.C x14) (MacS.S x14) (MacS.E x14)) (List.take x17 (RedA.k x)))) = (MacS.alpha (MacA.x x63))) ∧
 (((0 : Nat) = (0 : Nat)) ∧
 (((List.length (MacS.E (runK (MacS.mk (MacS.alpha x14) (MacS.size x14) (MacS.applied x14) (MacS.C x14) (MacS.S x14) (MacS.E x14)) (List.take x17 (RedA.k x))))) = (List.length (MacS.E (MacA.x x63)))) ∧
 (((MacS.E (runK (MacS.mk (MacS.alpha x14) (MacS.size x14) (MacS.applied x14) (MacS.C x14) (MacS.S x14) (MacS.E x14)) (List.take x17 (RedA.k x)))) = (MacS.E (MacA.x x63))) ∧
 ((((fewG (MacS.C (MacA.x x63))) = Bool.true) ∧
 ((okRq (MacA.r x63)) = Bool.true)) ∧
 (∀ x64 : Unit,
 (True →
 (∃ x65 : MacS,
 (((MacS.alpha (MacA.x x63)) = (MacS.alpha x65)) ∧
 (((MacS.size (MacA.x x63)) = (MacS.size x65)) ∧
 (((MacS.applied (MacA.x x63)) = (MacS.applied x65)) ∧
 (((0 : Nat) = (0 : Nat)) ∧
 (((List.length (MacS.C (MacA.x x63))) = (List.length (MacS.C x65))) ∧
 (((treeC (MacS.C (MacA.x x63))) = (treeC (MacS.C x65))) ∧
 (((MacS.C (MacA.x x63)) = (MacS.C x65)) ∧
 (((kvC (MacS.C (MacA.x x63))) = (kvC (MacS.C x65))) ∧
 (((MacS.size (MacA.x x63)) = (MacS.size x65)) ∧
 (((0 : Nat) = (0 : Nat)) ∧
 (((List.length (MacS.S (MacA.x x63))) = (List.length (MacS.S x65))) ∧
 (((MacS.S (MacA.x x63)) = (MacS.S x65)) ∧
 (((MacS.alpha (MacA.x x63)) = (MacS.alpha x65)) ∧
 (((0 : Nat) = (0 : Nat)) ∧
 (((List.length (MacS.E (MacA.x x63))) = (List.length (MacS.E x65))) ∧
 (((MacS.E (MacA.x x63)) = (MacS.E x65)) ∧
 (True ∧
 (∀ x66 : Unit,
 (True →
 (∃ x67 : MacS,
 (((MacS.alpha x65) = (MacS.alpha x67)) ∧
 (((MacS.size x65) = (MacS.size x67)) ∧
 (((MacS.applied x65) = (MacS.applied x67)) ∧
 (((0 : Nat) = (0 : Nat)) ∧
 (((List.length (MacS.C x65)) = (List.length (MacS.C x67))) ∧
 (((treeC (MacS.C x65)) = (treeC (MacS.C x67))) ∧
 (((MacS.C x65) = (MacS.C x67)) ∧
 (((kvC (MacS.C x65)) = (kvC (MacS.C x67))) ∧
 (((MacS.size x65) = (MacS.size x67)) ∧
 (((0 : Nat) = (0 : Nat)) ∧
 (((List.length (MacS.S x65)) = (List.length (MacS.S x67))) ∧
 (((MacS.S x65) = (MacS.S x67)) ∧
 (((MacS.alpha x65) = (MacS.alpha x67)) ∧
 (((0 : Nat) = (0 : Nat)) ∧
 (((List.length (MacS.E x65)) = (List.length (MacS.E x67))) ∧
 (((MacS.E x65) = (MacS.E x67)) ∧
 (((decide ((0 : Int) < (MacS.size x67))) = Bool.true) ∧
 (∀ x68 : Unit,
 (True →
 ((∃ x69 : Nat,
 (((0 : Int) = (↑x69 : Int)) ∧
 ((Bool.false = (freB (MacS.S x67) (RequestD.session (List.getD (RedA.k x) (Int.toNat (↑x17 : Int)) (RequestD.mk (0 : Int) ([] : List UInt8) (0 : Int) (0 : Int) (0 : Int) ([] : List UInt8) ([] : List ChangeD) ([] : List UInt8) (0 : Int) (0 : Int) (0 : Int)))) (RequestD.seq (List.getD (RedA.k x) (Int.toNat (↑x17 : Int)) (RequestD.mk (0 : Int) ([] : List UInt8) (0 : Int) (0 : Int) (0 : Int) ([] : List UInt8) ([] : List ChangeD) ([] : List UInt8) (0 : Int) (0 : Int) (0 : Int)))) x69)) ∧
 (Nat.le x69 (List.length (MacS.S x67)))))) ∧
 (∀ x70 : Nat,
 ((Nat.le x70 (List.length (MacS.S x67))) →
 ((((List.length (MacS.S x67)) * (112 : Nat)) ≤ room47) →
 (br (decide ((↑x70 : Int) < (↑(List.length (MacS.S x67)) : Int)))
 (br (freB (MacS.S x67) (RequestD.session (List.getD (RedA.k x) (Int.toNat (↑x17 : Int)) (RequestD.mk (0 : Int) ([] : List UInt8) (0 : Int) (0 : Int) (0 : Int) ([] : List UInt8) ([] : List ChangeD) ([] : List UInt8) (0 : Int) (0 : Int) (0 : Int)))) (RequestD.seq (List.getD (RedA.k x) (Int.toNat (↑x17 : Int)) (RequestD.mk (0 : Int) ([] : List UInt8) (0 : Int) (0 : Int) (0 : Int) ([] : List UInt8) ([] : List ChangeD) ([] : List UInt8) (0 : Int) (0 : Int) (0 : Int)))) x70)
 (∃ x71 : Nat,
 (((IntKind.wrap IntKind.i64 ((↑x70 : Int) + (1 : Int))) = (↑x71 : Int)) ∧
 ((Bool.true = (freB (MacS.S x67) (RequestD.session (List.getD (RedA.k x) (Int.toNat (↑x17 : Int)) (RequestD.mk (0 : Int) ([] : List UInt8) (0 : Int) (0 : Int) (0 : Int) ([] : List UInt8) ([] : List ChangeD) ([] : List UInt8) (0 : Int) (0 : Int) (0 : Int)))) (RequestD.seq (List.getD (RedA.k x) (Int.toNat (↑x17 : Int)) (RequestD.mk (0 : Int) ([] : List UInt8) (0 : Int) (0 : Int) (0 : Int) ([] : List UInt8) ([] : List ChangeD) ([] : List UInt8) (0 : Int) (0 : Int) (0 : Int)))) x71)) ∧
 ((Nat.le x71 (List.length (MacS.S x67))) ∧
 ((Nat.sub (List.length (MacS.S x67)) x71) < (Nat.sub (List.length (MacS.S x67)) x70))))))
 (br (decide (((0 : Int) ≤ (↑x70 : Int)) ∧
 ((↑x70 : Int) < (↑(List.length (MacS.S x67)) : Int))))
 (br ((SessionD.id (List.getD (MacS.S x67) (Int.toNat (↑x70 : Int)) (SessionD.mk (0 : Int) (0 : Int) ([] : List UInt8) VerdictD.dflt))) == (RequestD.session (List.getD (RedA.k x) (Int.toNat (↑x17 : Int)) (RequestD.mk (0 : Int) ([] : List UInt8) (0 : Int) (0 : Int) (0 : Int) ([] : List UInt8) ([] : List ChangeD) ([] : List UInt8) (0 : Int) (0 : Int) (0 : Int)))))
 (br (decide (((0 : Int) ≤ (↑x70 : Int)) ∧
 ((↑x70 : Int) < (↑(List.length (MacS.S x67)) : Int))))
 (br (decide ((RequestD.seq (List.getD (RedA.k x) (Int.toNat (↑x17 : Int)) (RequestD.mk (0 : Int) ([] : List UInt8) (0 : Int) (0 : Int) (0 : Int) ([] : List UInt8) ([] : List ChangeD) ([] : List UInt8) (0 : Int) (0 : Int) (0 : Int)))) > (SessionD.seq (List.getD (MacS.S x67) (Int.toNat (↑x70 : Int)) (SessionD.mk (0 : Int) (0 : Int) ([] : List UInt8) VerdictD.dflt)))))
 (∃ x72 : Nat,
 (((IntKind.wrap IntKind.i64 ((↑x70 : Int) + (1 : Int))) = (↑x72 : Int)) ∧
 (((decide (@GE.ge Int _ (RequestD.seq (List.getD (RedA.k x) (Int.toNat (↑x17 : Int)) (RequestD.mk (0 : Int) ([] : List UInt8) (0 : Int) (0 : Int) (0 : Int) ([] : List UInt8) ([] : List ChangeD) ([] : List UInt8) (0 : Int) (0 : Int) (0 : Int)))) (1 : Int))) = (freB (MacS.S x67) (RequestD.session (List.getD (RedA.k x) (Int.toNat (↑x17 : Int)) (RequestD.mk (0 : Int) ([] : List UInt8) (0 : Int) (0 : Int) (0 : Int) ([] : List UInt8) ([] : List ChangeD) ([] : List UInt8) (0 : Int) (0 : Int) (0 : Int)))) (RequestD.seq (List.getD (RedA.k x) (Int.toNat (↑x17 : Int)) (RequestD.mk (0 : Int) ([] : List UInt8) (0 : Int) (0 : Int) (0 : Int) ([] : List UInt8) ([] : List ChangeD) ([] : List UInt8) (0 : Int) (0 : Int) (0 : Int)))) x72)) ∧
 ((Nat.le x72 (List.length (MacS.S x67))) ∧
 ((Nat.sub (List.length (MacS.S x67)) x72) < (Nat.sub (List.length (MacS.S x67)) x70))))))
 (∃ x73 : Nat,
 (((IntKind.wrap IntKind.i64 ((↑x70 : Int) + (1 : Int))) = (↑x73 : Int)) ∧
 ((Bool.false = (freB (MacS.S x67) (RequestD.session (List.getD (RedA.k x) (Int.toNat (↑x17 : Int)) (RequestD.mk (0 : Int) ([] : List UInt8) (0 : Int) (0 : Int) (0 : Int) ([] : List UInt8) ([] : List ChangeD) ([] : List UInt8) (0 : Int) (0 : Int) (0 : Int)))) (RequestD.seq (List.getD (RedA.k x) (Int.toNat (↑x17 : Int)) (RequestD.mk (0 : Int) ([] : List UInt8) (0 : Int) (0 : Int) (0 : Int) ([] : List UInt8) ([] : List ChangeD) ([] : List UInt8) (0 : Int) (0 : Int) (0 : Int)))) x73)) ∧
 ((Nat.le x73 (List.length (MacS.S x67))) ∧
 ((Nat.sub (List.length (MacS.S x67)) x73) < (Nat.sub (List.length (MacS.S x67)) x70)))))))
 (Bad "check" "law.go:241"))
 (∃ x74 : Nat,
 (((IntKind.wrap IntKind.i64 ((↑x70 : Int) + (1 : Int))) = (↑x74 : Int)) ∧
 ((Bool.false = (freB (MacS.S x67) (RequestD.session (List.getD (RedA.k x) (Int.toNat (↑x17 : Int)) (RequestD.mk (0 : Int) ([] : List UInt8) (0 : Int) (0 : Int) (0 : Int) ([] : List UInt8) ([] : List ChangeD) ([] : List UInt8) (0 : Int) (0 : Int) (0 : Int)))) (RequestD.seq (List.getD (RedA.k x) (Int.toNat (↑x17 : Int)) (RequestD.mk (0 : Int) ([] : List UInt8) (0 : Int) (0 : Int) (0 : Int) ([] : List UInt8) ([] : List ChangeD) ([] : List UInt8) (0 : Int) (0 : Int) (0 : Int)))) x74)) ∧
 ((Nat.le x74 (List.length (MacS.S x67))) ∧
 ((Nat.sub (List.length (MacS.S x67)) x74) < (Nat.sub (List.length (MacS.S x67)) x70)))))))
 (Bad "check" "law.go:241")))
 (∃ x75 : MacA,
 (((RequestD.kind (List.getD (RedA.k x) (Int.toNat (↑x17 : Int)) (RequestD.mk (0 : Int) ([] : List UInt8) (0 : Int) (0 : Int) (0 : Int) ([] : List UInt8) ([] : List ChangeD) ([] : List UInt8) (0 : Int) (0 : Int) (0 : Int)))) = (RequestD.kind (MacA.r x75))) ∧
 (((RequestD.name (List.getD (RedA.k x) (Int.toNat (↑x17 : Int)) (RequestD.mk (0 : Int) ([] : List UInt8) (0 : Int) (0 : Int) (0 : Int) ([] : List UInt8) ([] : List ChangeD) ([] : List UInt8) (0 : Int) (0 : Int) (0 : Int)))) = (RequestD.name (MacA.r x75))) ∧
 (((RequestD.session (List.getD (RedA.k x) (Int.toNat (↑x17 : Int)) (RequestD.mk (0 : Int) ([] : List UInt8) (0 : Int) (0 : Int) (0 : Int) ([] : List UInt8) ([] : List ChangeD) ([] : List UInt8) (0 : Int) (0 : Int) (0 : Int)))) = (RequestD.session (MacA.r x75))) ∧
 (((RequestD.seq (List.getD (RedA.k x) (Int.toNat (↑x17 : Int)) (RequestD.mk (0 : Int) ([] : List UInt8) (0 : Int) (0 : Int) (0 : Int) ([] : List UInt8) ([] : List ChangeD) ([] : List UInt8) (0 : Int) (0 : Int) (0 : Int)))) = (RequestD.seq (MacA.r x75))) ∧
 (((RequestD.base (List.getD (RedA.k x) (Int.toNat (↑x17 : Int)) (RequestD.mk (0 : Int) ([] : List UInt8) (0 : Int) (0 : Int) (0 : Int) ([] : List UInt8) ([] : List ChangeD) ([] : List UInt8) (0 : Int) (0 : Int) (0 : Int)))) = (RequestD.base (MacA.r x75))) ∧
 (((RequestD.ref (List.getD (RedA.k x) (Int.toNat (↑x17 : Int)) (RequestD.mk (0 : Int) ([] : List UInt8) (0 : Int) (0 : Int) (0 : Int) ([] : List UInt8) ([] : List ChangeD) ([] : List UInt8) (0 : Int) (0 : Int) (0 : Int)))) = (RequestD.ref (MacA.r x75))) ∧
 (((RequestD.changes (List.getD (RedA.k x) (Int.toNat (↑x17 : Int)) (RequestD.mk (0 : Int) ([] : List UInt8) (0 : Int) (0 : Int) (0 : Int) ([] : List UInt8) ([] : List ChangeD) ([] : List UInt8) (0 : Int) (0 : Int) (0 : Int)))) = (RequestD.changes (MacA.r x75))) ∧
 (((RequestD.path (List.getD (RedA.k x) (Int.toNat (↑x17 : Int)) (RequestD.mk (0 : Int) ([] : List UInt8) (0 : Int) (0 : Int) (0 : Int) ([] : List UInt8) ([] : List ChangeD) ([] : List UInt8) (0 : Int) (0 : Int) (0 : Int)))) = (RequestD.path (MacA.r x75))) ∧
 (((RequestD.from_ (List.getD (RedA.k x) (Int.toNat (↑x17 : Int)) (RequestD.mk (0 : Int) ([] : List UInt8) (0 : Int) (0 : Int) (0 : Int) ([] : List UInt8) ([] : List ChangeD) ([] : List UInt8) (0 : Int) (0 : Int) (0 : Int)))) = (RequestD.from_ (MacA.r x75))) ∧
 (((RequestD.many (List.getD (RedA.k x) (Int.toNat (↑x17 : Int)) (RequestD.mk (0 : Int) ([] : List UInt8) (0 : Int) (0 : Int) (0 : Int) ([] : List UInt8) ([] : List ChangeD) ([] : List UInt8) (0 : Int) (0 : Int) (0 : Int)))) = (RequestD.many (MacA.r x75))) ∧
 (((RequestD.member (List.getD (RedA.k x) (Int.toNat (↑x17 : Int)) (RequestD.mk (0 : Int) ([] : List UInt8) (0 : Int) (0 : Int) (0 : Int) ([] : List UInt8) ([] : List ChangeD) ([] : List UInt8) (0 : Int) (0 : Int) (0 : Int)))) = (RequestD.member (MacA.r x75))) ∧
 (((MacS.alpha x67) = (MacS.alpha (MacA.x x75))) ∧
 (((MacS.size x67) = (MacS.size (MacA.x x75))) ∧
 (((MacS.applied x67) = (MacS.applied (MacA.x x75))) ∧
 (((0 : Nat) = (0 : Nat)) ∧
 (((List.length (MacS.C x67)) = (List.length (MacS.C (MacA.x x75)))) ∧
 (((treeC (MacS.C x67)) = (treeC (MacS.C (MacA.x x75)))) ∧
 (((MacS.C x67) = (MacS.C (MacA.x x75))) ∧
 (((kvC (MacS.C x67)) = (kvC (MacS.C (MacA.x x75)))) ∧
 (((MacS.size x67) = (MacS.size (MacA.x x75))) ∧
 (((0 : Nat) = (0 : Nat)) ∧
 (((List.length (MacS.S x67)) = (List.length (MacS.S (MacA.x x75)))) ∧
 (((MacS.S x67) = (MacS.S (MacA.x x75))) ∧
 (((MacS.alpha x67) = (MacS.alpha (MacA.x x75))) ∧
 (((0 : Nat) = (0 : Nat)) ∧
 (((List.length (MacS.E x67)) = (List.length (MacS.E (MacA.x x75)))) ∧
 (((MacS.E x67) = (MacS.E (MacA.x x75))) ∧
 ((((okMS (MacA.x x75)) = Bool.true) ∧
 ((okRq (MacA.r x75)) = Bool.true)) ∧
 (∀ x76 : Unit,
 (True →
 (br (freB (MacS.S x67) (RequestD.session (List.getD (RedA.k x) (Int.toNat (↑x17 : Int)) (RequestD.mk (0 : Int) ([] : List UInt8) (0 : Int) (0 : Int) (0 : Int) ([] : List UInt8) ([] : List ChangeD) ([] : List UInt8) (0 : Int) (0 : Int) (0 : Int)))) (RequestD.seq (List.getD (RedA.k x) (Int.toNat (↑x17 : Int)) (RequestD.mk (0 : Int) ([] : List UInt8) (0 : Int) (0 : Int) (0 : Int) ([] : List UInt8) ([] : List ChangeD) ([] : List UInt8) (0 : Int) (0 : Int) (0 : Int)))) x70)
 (∃ x77 : Ver2,
 (((VerdictD.code (Prod.fst (applyM (MacA.x x75) (MacA.r x75)))) = (VerdictD.code (Ver2.a x77))) ∧
 (((VerdictD.session (Prod.fst (applyM (MacA.x x75) (MacA.r x75)))) = (VerdictD.session (Ver2.a x77))) ∧
 (((VerdictD.rev (Prod.fst (applyM (MacA.x x75) (MacA.r x75)))) = (VerdictD.rev (Ver2.a x77))) ∧
 (((VerdictD.path (Prod.fst (applyM (MacA.x x75) (MacA.r x75)))) = (VerdictD.path (Ver2.a x77))) ∧
 (((VerdictD.digest (Prod.fst (applyM (MacA.x x75) (MacA.r x75)))) = (VerdictD.digest (Ver2.a x77))) ∧
 (((VerdictD.commits (Prod.fst (applyM (MacA.x x75) (MacA.r x75)))) = (VerdictD.commits (Ver2.a x77))) ∧
 (((VerdictD.member (Prod.fst (applyM (MacA.x x75) (MacA.r x75)))) = (VerdictD.member (Ver2.a x77))) ∧
 (((VerdictD.code (peekM (MacA.x x63) (MacA.r x63))) = (VerdictD.code (Ver2.b x77))) ∧
 (((VerdictD.session (peekM (MacA.x x63) (MacA.r x63))) = (VerdictD.session (Ver2.b x77))) ∧
 (((VerdictD.rev (peekM (MacA.x x63) (MacA.r x63))) = (VerdictD.rev (Ver2.b x77))) ∧
 (((VerdictD.path (peekM (MacA.x x63) (MacA.r x63))) = (VerdictD.path (Ver2.b x77))) ∧
 (((VerdictD.digest (peekM (MacA.x x63) (MacA.r x63))) = (VerdictD.digest (Ver2.b x77))) ∧
 (((VerdictD.commits (peekM (MacA.x x63) (MacA.r x63))) = (VerdictD.commits (Ver2.b x77))) ∧
 (((VerdictD.member (peekM (MacA.x x63) (MacA.r x63))) = (VerdictD.member (Ver2.b x77))) ∧
 (True ∧
 (∀ x78 : Unit,
 (True →
 (br (Bool.not (eqV (Ver2.a x77) (Ver2.b x77)))
 (Bool.false = Bool.true)
 (∃ x79 : MacS,
 (((MacS.alpha (Prod.snd (applyM (MacA.x x75) (MacA.r x75)))) = (MacS.alpha x79)) ∧
 (((MacS.size (Prod.snd (applyM (MacA.x x75) (MacA.r x75)))) = (MacS.size x79)) ∧
 (((MacS.applied (Prod.snd (applyM (MacA.x x75) (MacA.r x75)))) = (MacS.applied x79)) ∧
 (((0 : Nat) = (0 : Nat)) ∧
 (((List.length (MacS.C (Prod.snd (applyM (MacA.x x75) (MacA.r x75))))) = (List.length (MacS.C x79))) ∧
 (((treeC (MacS.C (Prod.snd (applyM (MacA.x x75) (MacA.r x75))))) = (treeC (MacS.C x79))) ∧
 (((MacS.C (Prod.snd (applyM (MacA.x x75) (MacA.r x75)))) = (MacS.C x79)) ∧
 (((kvC (MacS.C (Prod.snd (applyM (MacA.x x75) (MacA.r x75))))) = (kvC (MacS.C x79))) ∧
 (((MacS.size (Prod.snd (applyM (MacA.x x75) (MacA.r x75)))) = (MacS.size x79)) ∧
 (((0 : Nat) = (0 : Nat)) ∧
 (((List.length (MacS.S (Prod.snd (applyM (MacA.x x75) (MacA.r x75))))) = (List.length (MacS.S x79))) ∧
 (((MacS.S (Prod.snd (applyM (MacA.x x75) (MacA.r x75)))) = (MacS.S x79)) ∧
 (((MacS.alpha (Prod.snd (applyM (MacA.x x75) (MacA.r x75)))) = (MacS.alpha x79)) ∧
 (((0 : Nat) = (0 : Nat)) ∧
 (((List.length (MacS.E (Prod.snd (applyM (MacA.x x75) (MacA.r x75))))) = (List.length (MacS.E x79))) ∧
 (((MacS.E (Prod.snd (applyM (MacA.x x75) (MacA.r x75)))) = (MacS.E x79)) ∧
 (True ∧
 (∀ x80 : Unit,
 (True →
 (br ((MacS.applied x79) != (IntKind.wrap IntKind.i64 ((MacS.applied x65) + (1 : Int))))
 (Bool.false = Bool.true)
 (∃ x81 : Nat,
 (((IntKind.wrap IntKind.i64 ((↑x17 : Int) + (1 : Int))) = (↑x81 : Int)) ∧
 (((MacS.alpha x79) = (MacS.alpha (runK (MacS.mk (MacS.alpha x14) (MacS.size x14) (MacS.applied x14) (MacS.C x14) (MacS.S x14) (MacS.E x14)) (List.take x81 (RedA.k x))))) ∧
 (((MacS.size x79) = (MacS.size (runK (MacS.mk (MacS.alpha x14) (MacS.size x14) (MacS.applied x14) (MacS.C x14) (MacS.S x14) (MacS.E x14)) (List.take x81 (RedA.k x))))) ∧
 (((MacS.applied x79) = (MacS.applied (runK (MacS.mk (MacS.alpha x14) (MacS.size x14) (MacS.applied x14) (MacS.C x14) (MacS.S x14) (MacS.E x14)) (List.take x81 (RedA.k x))))) ∧
 (((0 : Nat) = (0 : Nat)) ∧
 (((List.length (MacS.C x79)) = (List.length (MacS.C (runK (MacS.mk (MacS.alpha x14) (MacS.size x14) (MacS.applied x14) (MacS.C x14) (MacS.S x14) (MacS.E x14)) (List.take x81 (RedA.k x)))))) ∧
 (((treeC (MacS.C x79)) = (treeC (MacS.C (runK (MacS.mk (MacS.alpha x14) (MacS.size x14) (MacS.applied x14) (MacS.C x14) (MacS.S x14) (MacS.E x14)) (List.take x81 (RedA.k x)))))) ∧
 (((MacS.C x79) = (MacS.C (runK (MacS.mk (MacS.alpha x14) (MacS.size x14) (MacS.applied x14) (MacS.C x14) (MacS.S x14) (MacS.E x14)) (List.take x81 (RedA.k x))))) ∧
 (((kvC (MacS.C x79)) = (kvC (MacS.C (runK (MacS.mk (MacS.alpha x14) (MacS.size x14) (MacS.applied x14) (MacS.C x14) (MacS.S x14) (MacS.E x14)) (List.take x81 (RedA.k x)))))) ∧
 (((MacS.size x79) = (MacS.size (runK (MacS.mk (MacS.alpha x14) (MacS.size x14) (MacS.applied x14) (MacS.C x14) (MacS.S x14) (MacS.E x14)) (List.take x81 (RedA.k x))))) ∧
 (((0 : Nat) = (0 : Nat)) ∧
 (((List.length (MacS.S x79)) = (List.length (MacS.S (runK (MacS.mk (MacS.alpha x14) (MacS.size x14) (MacS.applied x14) (MacS.C x14) (MacS.S x14) (MacS.E x14)) (List.take x81 (RedA.k x)))))) ∧
 (((MacS.S x79) = (MacS.S (runK (MacS.mk (MacS.alpha x14) (MacS.size x14) (MacS.applied x14) (MacS.C x14) (MacS.S x14) (MacS.E x14)) (List.take x81 (RedA.k x))))) ∧
 (((MacS.alpha x79) = (MacS.alpha (runK (MacS.mk (MacS.alpha x14) (MacS.size x14) (MacS.applied x14) (MacS.C x14) (MacS.S x14) (MacS.E x14)) (List.take x81 (RedA.k x))))) ∧
 (((0 : Nat) = (0 : Nat)) ∧
 (((List.length (MacS.E x79)) = (List.length (MacS.E (runK (MacS.mk (MacS.alpha x14) (MacS.size x14) (MacS.applied x14) (MacS.C x14) (MacS.S x14) (MacS.E x14)) (List.take x81 (RedA.k x)))))) ∧
 (((MacS.E x79) = (MacS.E (runK (MacS.mk (MacS.alpha x14) (MacS.size x14) (MacS.applied x14) (MacS.C x14) (MacS.S x14) (MacS.E x14)) (List.take x81 (RedA.k x))))) ∧
 ((Nat.le x81 (List.length (RedA.k x))) ∧
 ((Nat.sub (List.length (RedA.k x)) x81) < (Nat.sub (List.length (RedA.k x)) x17)))))))))))))))))))))))))))))))))))))))))))))))))))))))))))))
 (∃ x82 : MacS,
 (((MacS.alpha (Prod.snd (applyM (MacA.x x75) (MacA.r x75)))) = (MacS.alpha x82)) ∧
 (((MacS.size (Prod.snd (applyM (MacA.x x75) (MacA.r x75)))) = (MacS.size x82)) ∧
 (((MacS.applied (Prod.snd (applyM (MacA.x x75) (MacA.r x75)))) = (MacS.applied x82)) ∧
 (((0 : Nat) = (0 : Nat)) ∧
 (((List.length (MacS.C (Prod.snd (applyM (MacA.x x75) (MacA.r x75))))) = (List.length (MacS.C x82))) ∧
 (((treeC (MacS.C (Prod.snd (applyM (MacA.x x75) (MacA.r x75))))) = (treeC (MacS.C x82))) ∧
 (((MacS.C (Prod.snd (applyM (MacA.x x75) (MacA.r x75)))) = (MacS.C x82)) ∧
 (((kvC (MacS.C (Prod.snd (applyM (MacA.x x75) (MacA.r x75))))) = (kvC (MacS.C x82))) ∧
 (((MacS.size (Prod.snd (applyM (MacA.x x75) (MacA.r x75)))) = (MacS.size x82)) ∧
 (((0 : Nat) = (0 : Nat)) ∧
 (((List.length (MacS.S (Prod.snd (applyM (MacA.x x75) (MacA.r x75))))) = (List.length (MacS.S x82))) ∧
 (((MacS.S (Prod.snd (applyM (MacA.x x75) (MacA.r x75)))) = (MacS.S x82)) ∧
 (((MacS.alpha (Prod.snd (applyM (MacA.x x75) (MacA.r x75)))) = (MacS.alpha x82)) ∧
 (((0 : Nat) = (0 : Nat)) ∧
 (((List.length (MacS.E (Prod.snd (applyM (MacA.x x75) (MacA.r x75))))) = (List.length (MacS.E x82))) ∧
 (((MacS.E (Prod.snd (applyM (MacA.x x75) (MacA.r x75)))) = (MacS.E x82)) ∧
 (True ∧
 (∀ x83 : Unit,
 (True →
 (br ((MacS.applied x82) != (IntKind.wrap IntKind.i64 ((MacS.applied x65) + (1 : Int))))
 (Bool.false = Bool.true)
 (∃ x84 : Nat,
 (((IntKind.wrap IntKind.i64 ((↑x17 : Int) + (1 : Int))) = (↑x84 : Int)) ∧
 (((MacS.alpha x82) = (MacS.alpha (runK (MacS.mk (MacS.alpha x14) (MacS.size x14) (MacS.applied x14) (MacS.C x14) (MacS.S x14) (MacS.E x14)) (List.take x84 (RedA.k x))))) ∧
 (((MacS.size x82) = (MacS.size (runK (MacS.mk (MacS.alpha x14) (MacS.size x14) (MacS.applied x14) (MacS.C x14) (MacS.S x14) (MacS.E x14)) (List.take x84 (RedA.k x))))) ∧
 (((MacS.applied x82) = (MacS.applied (runK (MacS.mk (MacS.alpha x14) (MacS.size x14) (MacS.applied x14) (MacS.C x14) (MacS.S x14) (MacS.E x14)) (List.take x84 (RedA.k x))))) ∧
 (((0 : Nat) = (0 : Nat)) ∧
 (((List.length (MacS.C x82)) = (List.length (MacS.C (runK (MacS.mk (MacS.alpha x14) (MacS.size x14) (MacS.applied x14) (MacS.C x14) (MacS.S x14) (MacS.E x14)) (List.take x84 (RedA.k x)))))) ∧
 (((treeC (MacS.C x82)) = (treeC (MacS.C (runK (MacS.mk (MacS.alpha x14) (MacS.size x14) (MacS.applied x14) (MacS.C x14) (MacS.S x14) (MacS.E x14)) (List.take x84 (RedA.k x)))))) ∧
 (((MacS.C x82) = (MacS.C (runK (MacS.mk (MacS.alpha x14) (MacS.size x14) (MacS.applied x14) (MacS.C x14) (MacS.S x14) (MacS.E x14)) (List.take x84 (RedA.k x))))) ∧
 (((kvC (MacS.C x82)) = (kvC (MacS.C (runK (MacS.mk (MacS.alpha x14) (MacS.size x14) (MacS.applied x14) (MacS.C x14) (MacS.S x14) (MacS.E x14)) (List.take x84 (RedA.k x)))))) ∧
 (((MacS.size x82) = (MacS.size (runK (MacS.mk (MacS.alpha x14) (MacS.size x14) (MacS.applied x14) (MacS.C x14) (MacS.S x14) (MacS.E x14)) (List.take x84 (RedA.k x))))) ∧
 (((0 : Nat) = (0 : Nat)) ∧
 (((List.length (MacS.S x82)) = (List.length (MacS.S (runK (MacS.mk (MacS.alpha x14) (MacS.size x14) (MacS.applied x14) (MacS.C x14) (MacS.S x14) (MacS.E x14)) (List.take x84 (RedA.k x)))))) ∧
 (((MacS.S x82) = (MacS.S (runK (MacS.mk (MacS.alpha x14) (MacS.size x14) (MacS.applied x14) (MacS.C x14) (MacS.S x14) (MacS.E x14)) (List.take x84 (RedA.k x))))) ∧
 (((MacS.alpha x82) = (MacS.alpha (runK (MacS.mk (MacS.alpha x14) (MacS.size x14) (MacS.applied x14) (MacS.C x14) (MacS.S x14) (MacS.E x14)) (List.take x84 (RedA.k x))))) ∧
 (((0 : Nat) = (0 : Nat)) ∧
 (((List.length (MacS.E x82)) = (List.length (MacS.E (runK (MacS.mk (MacS.alpha x14) (MacS.size x14) (MacS.applied x14) (MacS.C x14) (MacS.S x14) (MacS.E x14)) (List.take x84 (RedA.k x)))))) ∧
 (((MacS.E x82) = (MacS.E (runK (MacS.mk (MacS.alpha x14) (MacS.size x14) (MacS.applied x14) (MacS.C x14) (MacS.S x14) (MacS.E x14)) (List.take x84 (RedA.k x))))) ∧
 ((Nat.le x84 (List.length (RedA.k x))) ∧
 ((Nat.sub (List.length (RedA.k x)) x84) < (Nat.sub (List.length (RedA.k x)) x17)))))))))))))))))))))))))))))))))))))))))))))))))))))))))))))))))))))))))))))))))))))))))))))))))))))))))))))))))))))))))))))))))))))))))))))))))))))))
 (Bad "check" "law.go:232"))
 (∃ x85 : MacS,
 (((MacS.alpha (runK (MacS.mk (MacS.alpha x14) (MacS.size x14) (MacS.applied x14) (MacS.C x14) (MacS.S x14) (MacS.E x14)) (List.take x17 (RedA.k x)))) = (MacS.alpha x85)) ∧
 (((MacS.size (runK (MacS.mk (MacS.alpha x14) (MacS.size x14) (MacS.applied x14) (MacS.C x14) (MacS.S x14) (MacS.E x14)) (List.take x17 (RedA.k x)))) = (MacS.size x85)) ∧
 (((MacS.applied (runK (MacS.mk (MacS.alpha x14) (MacS.size x14) (MacS.applied x14) (MacS.C x14) (MacS.S x14) (MacS.E x14)) (List.take x17 (RedA.k x)))) = (MacS.applied x85)) ∧
 (((0 : Nat) = (0 : Nat)) ∧
 (((List.length (MacS.C (runK (MacS.mk (MacS.alpha x14) (MacS.size x14) (MacS.applied x14) (MacS.C x14) (MacS.S x14) (MacS.E x14)) (List.take x17 (RedA.k x))))) = (List.length (MacS.C x85))) ∧
 (((treeC (MacS.C (runK (MacS.mk (MacS.alpha x14) (MacS.size x14) (MacS.applied x14) (MacS.C x14) (MacS.S x14) (MacS.E x14)) (List.take x17 (RedA.k x))))) = (treeC (MacS.C x85))) ∧
 (((MacS.C (runK (MacS.mk (MacS.alpha x14) (MacS.size x14) (MacS.applied x14) (MacS.C x14) (MacS.S x14) (MacS.E x14)) (List.take x17 (RedA.k x)))) = (MacS.C x85)) ∧
 (((kvC (MacS.C (runK (MacS.mk (MacS.alpha x14) (MacS.size x14) (MacS.applied x14) (MacS.C x14) (MacS.S x14) (MacS.E x14)) (List.take x17 (RedA.k x))))) = (kvC (MacS.C x85))) ∧
 (((MacS.size (runK (MacS.mk (MacS.alpha x14) (MacS.size x14) (MacS.applied x14) (MacS.C x14) (MacS.S x14) (MacS.E x14)) (List.take x17 (RedA.k x)))) = (MacS.size x85)) ∧
 (((0 : Nat) = (0 : Nat)) ∧
 (((List.length (MacS.S (runK (MacS.mk (MacS.alpha x14) (MacS.size x14) (MacS.applied x14) (MacS.C x14) (MacS.S x14) (MacS.E x14)) (List.take x17 (RedA.k x))))) = (List.length (MacS.S x85))) ∧
 (((MacS.S (runK (MacS.mk (MacS.alpha x14) (MacS.size x14) (MacS.applied x14) (MacS.C x14) (MacS.S x14) (MacS.E x14)) (List.take x17 (RedA.k x)))) = (MacS.S x85)) ∧
 (((MacS.alpha (runK (MacS.mk (MacS.alpha x14) (MacS.size x14) (MacS.applied x14) (MacS.C x14) (MacS.S x14) (MacS.E x14)) (List.take x17 (RedA.k x)))) = (MacS.alpha x85)) ∧
 (((0 : Nat) = (0 : Nat)) ∧
 (((List.length (MacS.E (runK (MacS.mk (MacS.alpha x14) (MacS.size x14) (MacS.applied x14) (MacS.C x14) (MacS.S x14) (MacS.E x14)) (List.take x17 (RedA.k x))))) = (List.length (MacS.E x85))) ∧
 (((MacS.E (runK (MacS.mk (MacS.alpha x14) (MacS.size x14) (MacS.applied x14) (MacS.C x14) (MacS.S x14) (MacS.E x14)) (List.take x17 (RedA.k x)))) = (MacS.E x85)) ∧
 (((fewG (MacS.C x85)) = Bool.true) ∧
 (∀ x86 : Unit,
 (True →
 (∃ x87 : Com2,
 (((MacS.C x14) = (Com2.a x87)) ∧
 (((MacS.C x85) = (Com2.b x87)) ∧
 (True ∧
 (∀ x88 : Unit,
 (True →
 ((sameM (Com2.a x87) (Com2.b x87)) = Bool.true)))))))))))))))))))))))))))))))))))))))))))))))))))))))))))))))))))))))))))))))) := by kernel_rfl

end Go.Proofs.YtildflamnehilaaGreat.Ses

namespace Go.Proofs.YtildflamnehilaaGreat.Ses
open Go Go.Proofs Go.Proofs.YtildflamnehilaaGreat.Sx

theorem run_snoc (x : MacS) (l : List RequestD) (r : RequestD) : runF x (l ++ [r]) = (applyM (runF x l) r).2 := by
  unfold runF
  rw [List.foldl_append]
  rfl
theorem runK_at {x : MacS} {l : List RequestD} {i : Nat} (h : i < l.length) : runK x (l.take (i + 1)) = lookM (runK x (l.take i)) (l.getD i noR0) := by
  rw [take_succ_getD noR0 h]
  unfold runK
  rw [List.foldl_append]
  rfl
theorem run_at {l : List RequestD} {i : Nat} (h : i < l.length) : runF fresh0 (l.take (i + 1)) = (applyM (runF fresh0 (l.take i)) (l.getD i noR0)).2 := by
  rw [take_succ_getD noR0 h, run_snoc]
theorem okQ_of {r : RequestD} (h : okQ r = true) (hi : inI r.from_ = true) : okRq r = true := by
  unfold okQ at h
  simp only [Bool.and_eq_true, decide_eq_true_eq, List.all_eq_true] at h
  unfold okRq
  have e1 : shortC r.changes = true := List.all_eq_true.2 fun c hc => decide_eq_true (by have := h.2.2.2.2 c hc; omega)
  have e2 : shortB r.path = true := decide_eq_true (by omega)
  rw [hi, e1, e2]
  rfl
theorem roomM_of {l : List RequestD} {m : Int} (h : roomM l m = true) : (l.length : Int) ≤ m ∧ ∀ r, r ∈ l → okQ r = true := by
  unfold roomM at h
  simp only [Bool.and_eq_true, decide_eq_true_eq, List.all_eq_true] at h
  exact h

/-! ### no two sessions have one number -/

def ids (S : List SessionD) : List Int := S.map (·.id)
theorem out_sub (l : List SessionD) (i : Int) : (outL l i).Sublist l := by
  unfold outL
  have h1 : (l.drop (i.toNat + 1)).Sublist (l.drop i.toNat) := by
    rw [← List.drop_drop]
    exact List.drop_sublist _ _
  have h2 := (List.Sublist.refl (l.take i.toNat)).append h1
  rwa [List.take_append_drop] at h2
theorem used_perm {l : List SessionD} {i : Int} (h : 0 ≤ i ∧ i < l.length) : (usedL l i).Perm l := by
  have hi : i.toNat < l.length := by omega
  have e : atL l i = l[i.toNat] := by unfold atL; simp [List.getD, hi]
  have e2 : l = l.take i.toNat ++ l[i.toNat] :: l.drop (i.toNat + 1) := by
    rw [← List.drop_eq_getElem_cons hi, List.take_append_drop]
  unfold usedL outL
  rw [e]
  have h1 : (l.take i.toNat ++ l.drop (i.toNat + 1) ++ [l[i.toNat]]).Perm (l.take i.toNat ++ (l[i.toNat] :: l.drop (i.toNat + 1))) := by
    rw [List.append_assoc]
    exact (List.perm_append_comm (l₁ := l.drop (i.toNat + 1)) (l₂ := [l[i.toNat]])).append_left _
  exact h1.trans (by rw [← e2])
theorem ids_out {l : List SessionD} (i : Int) (h : (ids l).Nodup) : (ids (outL l i)).Nodup := h.sublist ((out_sub l i).map _)
theorem ids_used {l : List SessionD} {i : Int} (hi : 0 ≤ i ∧ i < l.length) (h : (ids l).Nodup) : (ids (usedL l i)).Nodup := ((used_perm hi).map _).nodup_iff.2 h
theorem ids_new {l : List SessionD} {s : SessionD} (h : (ids l).Nodup) (hn : s.id ∉ ids l) : (ids (l ++ [s])).Nodup := by
  unfold ids at h hn ⊢
  rw [List.map_append, List.nodup_append]
  refine ⟨h, by simp, fun a ha b hb e => ?_⟩
  have : b = s.id := by simpa using hb
  subst this
  exact hn (e ▸ ha)
theorem ids_none {l : List SessionD} {n : Int} (h : idxF (idIs n) l < 0) : n ∉ ids l := by
  intro hm
  obtain ⟨s, hs, e⟩ := List.mem_map.1 hm
  induction l with
  | nil => cases hs
  | cons x r ih =>
    unfold idxF at h
    cases hx : idIs n x
    · rw [hx] at h
      simp only [cond_false] at h
      by_cases q : idxF (idIs n) r < 0
      · rcases List.mem_cons.1 hs with rfl | hs
        · unfold idIs at hx
          simp at hx
          exact hx e
        · exact ih q (List.mem_map.2 ⟨s, hs, e⟩) hs
      · rw [decide_eq_false q] at h
        simp only [cond_false] at h
        omega
    · rw [hx] at h
      simp at h
theorem ids_at {l : List SessionD} {n : Int} (h : ¬ idxF (idIs n) l < 0) : (atL l (idxF (idIs n) l)).id = n := by
  induction l with
  | nil => exact absurd (show (-1 : Int) < 0 by decide) h
  | cons x r ih =>
    unfold idxF at h ⊢
    cases hx : idIs n x
    · rw [hx] at h
      simp only [cond_false] at h ⊢
      by_cases q : idxF (idIs n) r < 0
      · rw [decide_eq_true q] at h
        exact absurd (show (-1 : Int) < 0 by decide) h
      · rw [decide_eq_false q]
        simp only [cond_false]
        have e : (idxF (idIs n) r + 1).toNat = (idxF (idIs n) r).toNat + 1 := by omega
        have := ih q
        unfold atL at this ⊢
        rw [e]
        simpa [List.getD] using this
    · simp only [cond_true]
      unfold idIs at hx
      show x.id = n
      simpa using hx
theorem ids_uniq {l : List SessionD} (h : (ids l).Nodup) {a b : SessionD} (ha : a ∈ l) (hb : b ∈ l) (e : a.id = b.id) : a = b := by
  induction l with
  | nil => cases ha
  | cons x r ih =>
    unfold ids at h
    rw [List.map_cons, List.nodup_cons] at h
    rcases List.mem_cons.1 ha with ha1 | ha1 <;> rcases List.mem_cons.1 hb with hb1 | hb1
    · rw [ha1, hb1]
    · subst ha1
      exact absurd (List.mem_map.2 ⟨b, hb1, e.symm⟩) h.1
    · subst hb1
      exact absurd (List.mem_map.2 ⟨a, ha1, e⟩) h.1
    · exact ih h.2 ha1 hb1
/-- the one that was found is gone, and there is no other one -/
theorem ids_gone {l : List SessionD} {n : Int} (h : (ids l).Nodup) (hn : ¬ idxF (idIs n) l < 0) : n ∉ ids (outL l (idxF (idIs n) l)) := by
  have b := idxF_lt (idIs n) l
  have hp : (ids (usedL l (idxF (idIs n) l))).Nodup := ids_used ⟨by omega, b.2⟩ h
  unfold ids usedL at hp
  rw [List.map_append, List.nodup_append] at hp
  intro hm
  exact hp.2.2 n hm n (by simp [ids_at hn]) rfl
theorem ids_open {x : OpenA} (h : (ids x.l).Nodup) : (ids (openL x).2).Nodup := by
  have b1 := idxF_lt (nameIs x.name) x.l
  have b2 := idxF_lt (idIs x.id) x.l
  unfold openL
  dsimp only
  by_cases q : idxF (nameIs x.name) x.l < 0
  · rw [decide_eq_true q]
    simp only [cond_true]
    generalize hl1 : (bif decide (idxF (idIs x.id) x.l < 0) then x.l else outL x.l (idxF (idIs x.id) x.l)) = l1
    have h1 : (ids l1).Nodup ∧ x.id ∉ ids l1 := by
      rw [← hl1]
      by_cases q2 : idxF (idIs x.id) x.l < 0
      · rw [decide_eq_true q2]
        exact ⟨h, ids_none q2⟩
      · rw [decide_eq_false q2]
        exact ⟨ids_out _ h, ids_gone h q2⟩
    cases decide ((l1.length : Int) = x.size)
    · exact ids_new h1.1 h1.2
    · exact ids_new (ids_out _ h1.1) fun hm => h1.2 (((out_sub l1 0).map _).subset hm)
  · rw [decide_eq_false q]
    exact ids_used ⟨by omega, b1.2⟩ h
theorem ids_ask {x : AskA} (h : (ids x.l).Nodup) : (ids (askL x).2).Nodup := by
  have b1 := idxF_lt (idIs x.id) x.l
  unfold askL
  dsimp only
  by_cases q : idxF (idIs x.id) x.l < 0
  · rw [decide_eq_true q]; exact h
  · rw [decide_eq_false q]
    exact ids_used ⟨by omega, b1.2⟩ h
theorem ids_done {x : DoneA} (h : (ids x.l).Nodup) : (ids (doneL x).2).Nodup := by
  have b1 := idxF_lt (idIs x.id) x.l
  unfold doneL
  dsimp only
  by_cases q : idxF (idIs x.id) x.l < 0
  · rw [decide_eq_true q]; exact h
  · rw [decide_eq_false q]
    cases decide (x.seq ≤ (atL x.l (idxF (idIs x.id) x.l)).seq)
    · have hi : (idxF (idIs x.id) x.l).toNat < x.l.length := by omega
      have e : ids (x.l.set (idxF (idIs x.id) x.l).toNat ⟨(atL x.l (idxF (idIs x.id) x.l)).id, x.seq, (atL x.l (idxF (idIs x.id) x.l)).name, x.v⟩) = ids x.l := by
        unfold ids
        rw [List.map_set]
        refine set_self (d := 0) (by simpa using hi) ?_
        unfold atL
        simp [List.getD, hi]
      show (ids (x.l.set _ _)).Nodup
      rw [e]
      exact h
    · exact h
theorem ids_do {x : MacS} (h : (ids x.S).Nodup) (r : RequestD) : (ids (doM x r).2.S).Nodup := by
  have ha : (ids (askM x r).2).Nodup := ids_ask (x := ⟨x.size, x.S, r.session, r.seq⟩) h
  unfold doM
  cases r.kind == 0
  · cases r.kind == 1
    · cases (askM x r).1.2
      · exact ids_done (x := ⟨x.size, (askM x r).2, r.session, r.seq, _⟩) ha
      · exact ha
    · cases wordOk r.name false
      · exact h
      · exact ids_open (x := ⟨x.size, x.S, r.name, x.applied + 1⟩) h
  · exact h
structure MDs (n : Nat) (x : MacS) : Prop where
  ok : MOk n x
  ds : (ids x.S).Nodup
theorem MDs.step {n : Nat} {x : MacS} (h : MDs n x) (hn : n < 1099511627776) (r : RequestD) : MDs (n + 1) (applyM x r).2 := by
  refine ⟨h.ok.step hn r, ?_⟩
  rw [apply_eq h.ok hn r]
  exact ids_do h.ds r
theorem runD_ok (l : List RequestD) : l.length ≤ 4000 → MDs l.length (runF fresh0 l) := by
  refine snocL (p := fun l => l.length ≤ 4000 → MDs l.length (runF fresh0 l)) (fun _ => ⟨mok_zero, by decide⟩) (fun l r ih h => ?_) l
  have h : l.length + 1 ≤ 4000 := by simpa using h
  rw [run_snoc, List.length_append]
  exact (ih (by omega)).step (by omega) r
theorem runD_in {l : List RequestD} (hl : l.length ≤ 4000) (i : Nat) : ∃ n, n ≤ l.length ∧ MDs n (runF fresh0 (l.take i)) := by
  have h1 : (l.take i).length ≤ l.length := by rw [List.length_take]; omega
  exact ⟨_, h1, runD_ok (l.take i) (by omega)⟩

/-! ### who only looks -/

theorem look_cases {r : RequestD} (h : isLk r = true) : (r.kind = 3 ∨ r.kind = 4 ∨ r.kind = 5) := by
  unfold isLk at h
  simp only [Bool.or_eq_true, beq_iff_eq] at h
  exact h
theorem how_look {x : MacS} {r : RequestD} (h : isLk r = true) (S : List SessionD) : howM (withS x S) r = (peekM x r, withS x S) := by
  rcases look_cases h with e | e | e <;> unfold howM peekM <;> rw [e] <;> rfl
theorem look_C {n : Nat} {x : MacS} (hx : MOk n x) (hn : n < 1099511627776) {r : RequestD} (h : isLk r = true) : (applyM x r).2.C = x.C := by
  rw [apply_eq hx hn r]
  have k0 : (r.kind == 0) = false := by rcases look_cases h with e | e | e <;> rw [e] <;> rfl
  have k1 : (r.kind == 1) = false := by rcases look_cases h with e | e | e <;> rw [e] <;> rfl
  show (doM x r).2.C = x.C
  unfold doM
  rw [k0, k1]
  cases (askM x r).1.2
  · show (doneM x r (howM (withS x (askM x r).2) r)).2.C = x.C
    rw [how_look h]
    rfl
  · rfl
theorem look_fresh {n : Nat} {x : MacS} (hx : MDs n x) (hn : n < 1099511627776) {r : RequestD} (h : isLk r = true) (hf : freB x.S r.session r.seq x.S.length = true) : (applyM x r).1 = peekM x r := by
  rw [apply_eq hx.ok hn r]
  have k0 : (r.kind == 0) = false := by rcases look_cases h with e | e | e <;> rw [e] <;> rfl
  have k1 : (r.kind == 1) = false := by rcases look_cases h with e | e | e <;> rw [e] <;> rfl
  unfold freB at hf
  rw [List.take_length, List.any_eq_true] at hf
  obtain ⟨s, hs, hc⟩ := hf
  simp only [Bool.and_eq_true, beq_iff_eq, decide_eq_true_eq] at hc
  obtain ⟨c1, c2, c3⟩ := hc
  have hnn : ¬ idxF (idIs r.session) x.S < 0 := fun e => ids_none e (List.mem_map.2 ⟨s, hs, c1⟩)
  have b := idxF_lt (idIs r.session) x.S
  have hat : atL x.S (idxF (idIs r.session) x.S) = s := by
    refine ids_uniq hx.ds (getD_mem (by omega)) hs ?_
    rw [c1]
    exact ids_at hnn
  have ha : askM x r = ((vd 0, false), usedL x.S (idxF (idIs r.session) x.S)) := by
    unfold askM askL
    dsimp only
    rw [decide_eq_false hnn, hat, decide_eq_false (by omega : ¬ r.seq < 1), decide_eq_false (by omega : ¬ r.seq < s.seq), decide_eq_false (by omega : ¬ r.seq = s.seq)]
    rfl
  show (doM x r).1 = peekM x r
  unfold doM
  rw [k0, k1, ha]
  show (doneM x r (howM (withS x _) r)).1 = peekM x r
  rw [how_look h]
  rfl
theorem runK_ok {n : Nat} {y : MacS} (hy : MDs n y) (l : List RequestD) : n + l.length < 1099511627776 → ∃ m, m ≤ n + l.length ∧ MDs m (runK y l) ∧ (runK y l).C = y.C := by
  refine snocL (p := fun l => n + l.length < 1099511627776 → ∃ m, m ≤ n + l.length ∧ MDs m (runK y l) ∧ (runK y l).C = y.C) (fun _ => ⟨n, by omega, hy, rfl⟩) (fun l r ih h => ?_) l
  have h : n + (l.length + 1) < 1099511627776 := by simpa using h
  obtain ⟨m, m1, m2, m3⟩ := ih (by omega)
  have e : runK y (l ++ [r]) = lookM (runK y l) r := by
    unfold runK
    rw [List.foldl_append]
    rfl
  rw [e, List.length_append]
  unfold lookM
  cases hk : isLk r
  · exact ⟨m, by omega, m2, m3⟩
  · exact ⟨m + 1, by simp; omega, m2.step (by omega) r, by rw [← m3]; exact look_C m2.ok (by omega) hk⟩
theorem fre_suc {S : List SessionD} {a b : Int} {j : Nat} (h : j < S.length) : freB S a b (j + 1) = (freB S a b j || ((S.getD j ⟨0, 0, [], .dflt⟩).id == a && (decide (b > (S.getD j ⟨0, 0, [], .dflt⟩).seq) && decide (b ≥ 1)))) := by
  unfold freB
  rw [take_succ_getD ⟨0, 0, [], .dflt⟩ h, List.any_append]
  simp
end Go.Proofs.YtildflamnehilaaGreat.Ses

namespace Go.Proofs.YtildflamnehilaaGreat.Ses
open Go Go.Proofs Go.Proofs.YtildflamnehilaaGreat.Sx

theorem red_ok : EnvOK redE := Env_ok (by decide +kernel) (by
  intro p hp
  simp only [List.mem_cons, List.mem_nil_iff, or_false] at hp
  rcases hp with rfl | rfl | rfl | rfl | rfl | rfl | rfl | rfl | rfl | rfl
  · exact aw8_ok
  · exact fresh_ok
  · exact apply_ok echg_ok
  · exact peek_ok
  · exact mroom_ok
  · exact comM_ok
  · exact alike_ok
  · exact appM_ok
  · exact sesM_ok
  · exact scoms_ok)
set_option maxHeartbeats 0 in
theorem red_body (x : RedA) (hl : ∀ r, r ∈ x.l → inI r.from_ = true) (hk : ∀ r, r ∈ x.k → inI r.from_ = true) : evCall redE (ev redE 1000) 8 (redArgs x) ⟨[], 0, []⟩ (fun _ _ => False) (fun v _ => TrueV v) := by
  rw [red_vc]
  obtain ⟨l, k⟩ := x
  dsimp only at *
  have ef : MacS.mk (MacS.alpha fresh0) (MacS.size fresh0) (MacS.applied fresh0) (MacS.C fresh0) (MacS.S fresh0) (MacS.E fresh0) = fresh0 := rfl
  rw [ef]
  refine ⟨(), trivial, fun _ _ => ⟨⟨l, 60⟩, rfl, rfl, trivial, fun _ _ => br_i (fun _ => rfl) fun hr => ⟨⟨k, 60⟩, rfl, rfl, trivial, fun _ _ => br_i (fun _ => rfl) fun hrk => ⟨(), trivial, fun _ _ => ?_⟩⟩⟩⟩
  rw [Bool.not_eq_false'] at hr hrk
  obtain ⟨l60, lQ⟩ := roomM_of hr
  obtain ⟨k60, kQ⟩ := roomM_of hrk
  have l60 : (l.length : Int) ≤ 60 := l60
  have k60 : (k.length : Int) ≤ 60 := k60
  refine ⟨⟨0, rfl, rfl, rfl, rfl, rfl, rfl, rfl, rfl, rfl, rfl, rfl, rfl, rfl, rfl, rfl, rfl, rfl, Nat.zero_le _⟩, fun i hi _ => br_i (fun h1 => ?_) (fun h1 => ?_)⟩
  · have h1 := of_decide_eq_true h1
    have bi : decide ((0 : Int) ≤ (i : Int) ∧ (i : Int) < (l.length : Int)) = true := decide_eq_true ⟨by omega, h1⟩
    have e0 : (i : Int).toNat = i := rfl
    rw [e0]
    have eg : l.getD i ⟨0, [], 0, 0, 0, [], [], [], 0, 0, 0⟩ = l.getD i noR0 := rfl
    rw [eg]
    have hgo := run_at (l := l) (i := i) (by omega)
    obtain ⟨n, n1, n2⟩ := runD_in (l := l) (by omega) i
    have hmem : l.getD i noR0 ∈ l := getD_mem (by omega)
    have okr := okQ_of (lQ _ hmem) (hl _ hmem)
    have okm := n2.ok.ok (by omega)
    generalize l.getD i noR0 = r at hgo okr ⊢
    generalize runF fresh0 (l.take i) = y at hgo okm ⊢
    have hw : IntKind.i64.wrap ((i : Int) + 1) = ((i + 1 : Nat) : Int) := by rw [wrap_id (by omega) (by omega)]; rfl
    refine br_t bi ⟨⟨y, r⟩, rfl, rfl, rfl, rfl, rfl, rfl, rfl, rfl, rfl, rfl, rfl, rfl, rfl, rfl, rfl, rfl, rfl, rfl, rfl, rfl, rfl, rfl, rfl, rfl, rfl, rfl, rfl, ⟨okm, okr⟩, fun _ _ => ⟨i + 1, hw, ?_⟩⟩
    rw [hgo]
    exact ⟨rfl, rfl, rfl, rfl, rfl, rfl, rfl, rfl, rfl, rfl, rfl, rfl, rfl, rfl, rfl, rfl, by show i + 1 ≤ l.length; omega, by show l.length - (i + 1) < l.length - i; omega⟩
  have h1 := of_decide_eq_false h1
  have hi : i ≤ l.length := hi
  rw [List.take_of_length_le (by omega)]
  have hy0 := runD_ok l (by omega)
  generalize runF fresh0 l = y0 at hy0 ⊢
  refine ⟨y0, rfl, rfl, rfl, rfl, rfl, rfl, rfl, rfl, rfl, rfl, rfl, rfl, rfl, rfl, rfl, rfl, hy0.ok.few (by omega), fun _ _ => ?_⟩
  have ey : MacS.mk (MacS.alpha y0) (MacS.size y0) (MacS.applied y0) (MacS.C y0) (MacS.S y0) (MacS.E y0) = y0 := rfl
  rw [ey]
  clear h1 hi
  refine ⟨⟨0, rfl, rfl, rfl, rfl, rfl, rfl, rfl, rfl, rfl, rfl, rfl, rfl, rfl, rfl, rfl, rfl, rfl, Nat.zero_le _⟩, fun i hi _ => br_i (fun h1 => ?_) (fun h1 => ?_)⟩
  · have h1 := of_decide_eq_true h1
    have bi : decide ((0 : Int) ≤ (i : Int) ∧ (i : Int) < (k.length : Int)) = true := decide_eq_true ⟨by omega, h1⟩
    have e0 : (i : Int).toNat = i := rfl
    rw [e0]
    have eg : k.getD i ⟨0, [], 0, 0, 0, [], [], [], 0, 0, 0⟩ = k.getD i noR0 := rfl
    rw [eg]
    have hgo := runK_at (x := y0) (l := k) (i := i) (by omega)
    have htl : (k.take i).length ≤ k.length := by rw [List.length_take]; omega
    obtain ⟨n, n1, n2, n3⟩ := runK_ok hy0 (k.take i) (by omega)
    have hmem : k.getD i noR0 ∈ k := getD_mem (by omega)
    have okr := okQ_of (kQ _ hmem) (hk _ hmem)
    have okm := n2.ok.ok (by omega)
    have fe := n2.ok.few (by omega)
    have hsz : decide (0 < (runK y0 (k.take i)).size) = true := decide_eq_true (by rw [n2.ok.sz]; decide)
    generalize k.getD i noR0 = r at hgo okr ⊢
    have hv := fun hlk => look_fresh n2 (by omega) (r := r) hlk
    have hap0 := apply_eq n2.ok (by omega) r
    have hn := n2.ok.ap
    have hS3 := n2.ok.s
    generalize runK y0 (k.take i) = y at hgo okm fe hsz hv hap0 hn hS3 ⊢
    have hw : IntKind.i64.wrap ((i : Int) + 1) = ((i + 1 : Nat) : Int) := by rw [wrap_id (by omega) (by omega)]; rfl
    have hle : (i + 1).le k.length := by show i + 1 ≤ k.length; omega
    have hms : k.length.sub (i + 1) < k.length.sub i := by show k.length - (i + 1) < k.length - i; omega
    have hap : ((applyM y r).2.applied != IntKind.i64.wrap (y.applied + 1)) = false := by
      rw [hap0, wrap_id (by omega) (by omega)]
      simp
    clear n2 n3
    refine br_t bi (br_i (fun n3 => br_i (fun n4 => br_i (fun n5 => ⟨i + 1, hw, ?_⟩) (fun n5 => ?_)) (fun n4 => ?_)) (fun n3 => ?_))
    · have hlk : isLk r = false := by
        unfold isLk
        have a3 : ¬ r.kind = 3 := by simpa using n3
        have a4 : ¬ r.kind = 4 := by simpa using n4
        have a5 : ¬ r.kind = 5 := by simpa using n5
        simp [a3, a4, a5]
      have hgo : runK y0 (k.take (i + 1)) = y := by rw [hgo]; unfold lookM; rw [hlk]; rfl
      rw [hgo]
      exact ⟨rfl, rfl, rfl, rfl, rfl, rfl, rfl, rfl, rfl, rfl, rfl, rfl, rfl, rfl, rfl, rfl, hle, hms⟩
    · have hlk : isLk r = true := by
        unfold isLk
        have a : r.kind = 5 := by simpa using n5
        rw [a]; rfl
      have hgo : runK y0 (k.take (i + 1)) = (applyM y r).2 := by rw [hgo]; unfold lookM; rw [hlk]; rfl
      have hv := hv hlk
      refine ⟨⟨y, r⟩, rfl, rfl, rfl, rfl, rfl, rfl, rfl, rfl, rfl, rfl, rfl, rfl, rfl, rfl, rfl, rfl, rfl, rfl, rfl, rfl, rfl, rfl, rfl, rfl, rfl, rfl, rfl, ⟨fe, okr⟩, fun _ _ => ⟨y, rfl, rfl, rfl, rfl, rfl, rfl, rfl, rfl, rfl, rfl, rfl, rfl, rfl, rfl, rfl, rfl, trivial, fun _ _ => ⟨y, rfl, rfl, rfl, rfl, rfl, rfl, rfl, rfl, rfl, rfl, rfl, rfl, rfl, rfl, rfl, rfl, hsz, fun _ _ => ⟨⟨0, rfl, rfl, Nat.zero_le _⟩, fun j hj hjb => br_i (fun h2 => ?_) (fun h2 => ?_)⟩⟩⟩⟩
      · have h2 := of_decide_eq_true h2
        have hjl : j < y.S.length := by omega
        have bj : decide ((0 : Int) ≤ (j : Int) ∧ (j : Int) < (y.S.length : Int)) = true := decide_eq_true ⟨by omega, h2⟩
        have wj : IntKind.i64.wrap ((j : Int) + 1) = ((j + 1 : Nat) : Int) := by rw [wrap_id (by omega) (by omega)]; rfl
        have ej : (j : Int).toNat = j := rfl
        rw [ej]
        have hst := fre_suc (S := y.S) (a := r.session) (b := r.seq) hjl
        have hle2 : (j + 1).le y.S.length := by show j + 1 ≤ y.S.length; omega
        have hms2 : y.S.length.sub (j + 1) < y.S.length.sub j := by show y.S.length - (j + 1) < y.S.length - j; omega
        refine br_i (fun hf => ⟨j + 1, wj, by rw [hst, hf]; rfl, hle2, hms2⟩) fun hf => br_t bj (br_i (fun hid => br_t bj (br_i (fun hs => ⟨j + 1, wj, by rw [hst, hf, hid, hs]; simp, hle2, hms2⟩) fun hs => ⟨j + 1, wj, by rw [hst, hf, hid, hs]; simp, hle2, hms2⟩)) fun hid => ⟨j + 1, wj, by rw [hst, hf, hid]; rfl, hle2, hms2⟩)
      have h2 := of_decide_eq_false h2
      have hj : j ≤ y.S.length := hj
      have hje : j = y.S.length := by omega
      subst hje
      refine ⟨⟨y, r⟩, rfl, rfl, rfl, rfl, rfl, rfl, rfl, rfl, rfl, rfl, rfl, rfl, rfl, rfl, rfl, rfl, rfl, rfl, rfl, rfl, rfl, rfl, rfl, rfl, rfl, rfl, rfl, ⟨okm, okr⟩, fun _ _ => br_i (fun hf => ⟨⟨(applyM y r).1, peekM y r⟩, rfl, rfl, rfl, rfl, rfl, rfl, rfl, rfl, rfl, rfl, rfl, rfl, rfl, rfl, trivial, fun _ _ => br_f (by show (!(eqV (applyM y r).1 (peekM y r))) = false; rw [hv hf, eqV_self]; rfl) ⟨(applyM y r).2, rfl, rfl, rfl, rfl, rfl, rfl, rfl, rfl, rfl, rfl, rfl, rfl, rfl, rfl, rfl, rfl, trivial, fun _ _ => br_f hap ⟨i + 1, hw, ?_⟩⟩⟩) (fun hf => ⟨(applyM y r).2, rfl, rfl, rfl, rfl, rfl, rfl, rfl, rfl, rfl, rfl, rfl, rfl, rfl, rfl, rfl, rfl, trivial, fun _ _ => br_f hap ⟨i + 1, hw, ?_⟩⟩)⟩
      all_goals
        rw [hgo]
        exact ⟨rfl, rfl, rfl, rfl, rfl, rfl, rfl, rfl, rfl, rfl, rfl, rfl, rfl, rfl, rfl, rfl, hle, hms⟩
    · have hlk : isLk r = true := by
        unfold isLk
        have a : r.kind = 4 := by simpa using n4
        rw [a]; rfl
      have hgo : runK y0 (k.take (i + 1)) = (applyM y r).2 := by rw [hgo]; unfold lookM; rw [hlk]; rfl
      have hv := hv hlk
      refine ⟨⟨y, r⟩, rfl, rfl, rfl, rfl, rfl, rfl, rfl, rfl, rfl, rfl, rfl, rfl, rfl, rfl, rfl, rfl, rfl, rfl, rfl, rfl, rfl, rfl, rfl, rfl, rfl, rfl, rfl, ⟨fe, okr⟩, fun _ _ => ⟨y, rfl, rfl, rfl, rfl, rfl, rfl, rfl, rfl, rfl, rfl, rfl, rfl, rfl, rfl, rfl, rfl, trivial, fun _ _ => ⟨y, rfl, rfl, rfl, rfl, rfl, rfl, rfl, rfl, rfl, rfl, rfl, rfl, rfl, rfl, rfl, rfl, hsz, fun _ _ => ⟨⟨0, rfl, rfl, Nat.zero_le _⟩, fun j hj hjb => br_i (fun h2 => ?_) (fun h2 => ?_)⟩⟩⟩⟩
      · have h2 := of_decide_eq_true h2
        have hjl : j < y.S.length := by omega
        have bj : decide ((0 : Int) ≤ (j : Int) ∧ (j : Int) < (y.S.length : Int)) = true := decide_eq_true ⟨by omega, h2⟩
        have wj : IntKind.i64.wrap ((j : Int) + 1) = ((j + 1 : Nat) : Int) := by rw [wrap_id (by omega) (by omega)]; rfl
        have ej : (j : Int).toNat = j := rfl
        rw [ej]
        have hst := fre_suc (S := y.S) (a := r.session) (b := r.seq) hjl
        have hle2 : (j + 1).le y.S.length := by show j + 1 ≤ y.S.length; omega
        have hms2 : y.S.length.sub (j + 1) < y.S.length.sub j := by show y.S.length - (j + 1) < y.S.length - j; omega
        refine br_i (fun hf => ⟨j + 1, wj, by rw [hst, hf]; rfl, hle2, hms2⟩) fun hf => br_t bj (br_i (fun hid => br_t bj (br_i (fun hs => ⟨j + 1, wj, by rw [hst, hf, hid, hs]; simp, hle2, hms2⟩) fun hs => ⟨j + 1, wj, by rw [hst, hf, hid, hs]; simp, hle2, hms2⟩)) fun hid => ⟨j + 1, wj, by rw [hst, hf, hid]; rfl, hle2, hms2⟩)
      have h2 := of_decide_eq_false h2
      have hj : j ≤ y.S.length := hj
      have hje : j = y.S.length := by omega
      subst hje
      refine ⟨⟨y, r⟩, rfl, rfl, rfl, rfl, rfl, rfl, rfl, rfl, rfl, rfl, rfl, rfl, rfl, rfl, rfl, rfl, rfl, rfl, rfl, rfl, rfl, rfl, rfl, rfl, rfl, rfl, rfl, ⟨okm, okr⟩, fun _ _ => br_i (fun hf => ⟨⟨(applyM y r).1, peekM y r⟩, rfl, rfl, rfl, rfl, rfl, rfl, rfl, rfl, rfl, rfl, rfl, rfl, rfl, rfl, trivial, fun _ _ => br_f (by show (!(eqV (applyM y r).1 (peekM y r))) = false; rw [hv hf, eqV_self]; rfl) ⟨(applyM y r).2, rfl, rfl, rfl, rfl, rfl, rfl, rfl, rfl, rfl, rfl, rfl, rfl, rfl, rfl, rfl, rfl, trivial, fun _ _ => br_f hap ⟨i + 1, hw, ?_⟩⟩⟩) (fun hf => ⟨(applyM y r).2, rfl, rfl, rfl, rfl, rfl, rfl, rfl, rfl, rfl, rfl, rfl, rfl, rfl, rfl, rfl, rfl, trivial, fun _ _ => br_f hap ⟨i + 1, hw, ?_⟩⟩)⟩
      all_goals
        rw [hgo]
        exact ⟨rfl, rfl, rfl, rfl, rfl, rfl, rfl, rfl, rfl, rfl, rfl, rfl, rfl, rfl, rfl, rfl, hle, hms⟩
    · have hlk : isLk r = true := by
        unfold isLk
        have a : r.kind = 3 := by simpa using n3
        rw [a]; rfl
      have hgo : runK y0 (k.take (i + 1)) = (applyM y r).2 := by rw [hgo]; unfold lookM; rw [hlk]; rfl
      have hv := hv hlk
      refine ⟨⟨y, r⟩, rfl, rfl, rfl, rfl, rfl, rfl, rfl, rfl, rfl, rfl, rfl, rfl, rfl, rfl, rfl, rfl, rfl, rfl, rfl, rfl, rfl, rfl, rfl, rfl, rfl, rfl, rfl, ⟨fe, okr⟩, fun _ _ => ⟨y, rfl, rfl, rfl, rfl, rfl, rfl, rfl, rfl, rfl, rfl, rfl, rfl, rfl, rfl, rfl, rfl, trivial, fun _ _ => ⟨y, rfl, rfl, rfl, rfl, rfl, rfl, rfl, rfl, rfl, rfl, rfl, rfl, rfl, rfl, rfl, rfl, hsz, fun _ _ => ⟨⟨0, rfl, rfl, Nat.zero_le _⟩, fun j hj hjb => br_i (fun h2 => ?_) (fun h2 => ?_)⟩⟩⟩⟩
      · have h2 := of_decide_eq_true h2
        have hjl : j < y.S.length := by omega
        have bj : decide ((0 : Int) ≤ (j : Int) ∧ (j : Int) < (y.S.length : Int)) = true := decide_eq_true ⟨by omega, h2⟩
        have wj : IntKind.i64.wrap ((j : Int) + 1) = ((j + 1 : Nat) : Int) := by rw [wrap_id (by omega) (by omega)]; rfl
        have ej : (j : Int).toNat = j := rfl
        rw [ej]
        have hst := fre_suc (S := y.S) (a := r.session) (b := r.seq) hjl
        have hle2 : (j + 1).le y.S.length := by show j + 1 ≤ y.S.length; omega
        have hms2 : y.S.length.sub (j + 1) < y.S.length.sub j := by show y.S.length - (j + 1) < y.S.length - j; omega
        refine br_i (fun hf => ⟨j + 1, wj, by rw [hst, hf]; rfl, hle2, hms2⟩) fun hf => br_t bj (br_i (fun hid => br_t bj (br_i (fun hs => ⟨j + 1, wj, by rw [hst, hf, hid, hs]; simp, hle2, hms2⟩) fun hs => ⟨j + 1, wj, by rw [hst, hf, hid, hs]; simp, hle2, hms2⟩)) fun hid => ⟨j + 1, wj, by rw [hst, hf, hid]; rfl, hle2, hms2⟩)
      have h2 := of_decide_eq_false h2
      have hj : j ≤ y.S.length := hj
      have hje : j = y.S.length := by omega
      subst hje
      refine ⟨⟨y, r⟩, rfl, rfl, rfl, rfl, rfl, rfl, rfl, rfl, rfl, rfl, rfl, rfl, rfl, rfl, rfl, rfl, rfl, rfl, rfl, rfl, rfl, rfl, rfl, rfl, rfl, rfl, rfl, ⟨okm, okr⟩, fun _ _ => br_i (fun hf => ⟨⟨(applyM y r).1, peekM y r⟩, rfl, rfl, rfl, rfl, rfl, rfl, rfl, rfl, rfl, rfl, rfl, rfl, rfl, rfl, trivial, fun _ _ => br_f (by show (!(eqV (applyM y r).1 (peekM y r))) = false; rw [hv hf, eqV_self]; rfl) ⟨(applyM y r).2, rfl, rfl, rfl, rfl, rfl, rfl, rfl, rfl, rfl, rfl, rfl, rfl, rfl, rfl, rfl, rfl, trivial, fun _ _ => br_f hap ⟨i + 1, hw, ?_⟩⟩⟩) (fun hf => ⟨(applyM y r).2, rfl, rfl, rfl, rfl, rfl, rfl, rfl, rfl, rfl, rfl, rfl, rfl, rfl, rfl, rfl, rfl, trivial, fun _ _ => br_f hap ⟨i + 1, hw, ?_⟩⟩)⟩
      all_goals
        rw [hgo]
        exact ⟨rfl, rfl, rfl, rfl, rfl, rfl, rfl, rfl, rfl, rfl, rfl, rfl, rfl, rfl, rfl, rfl, hle, hms⟩
  have h1 := of_decide_eq_false h1
  have hi : i ≤ k.length := hi
  rw [List.take_of_length_le (by omega)]
  obtain ⟨n, n1, n2, n3⟩ := runK_ok hy0 k (by omega)
  refine ⟨runK y0 k, rfl, rfl, rfl, rfl, rfl, rfl, rfl, rfl, rfl, rfl, rfl, rfl, rfl, rfl, rfl, rfl, n2.ok.few (by omega), fun _ _ => ⟨⟨y0.C, (runK y0 k).C⟩, rfl, rfl, trivial, fun _ _ => ?_⟩⟩
  show sameM y0.C (runK y0 k).C = true
  rw [n3]
  exact sameM_self _
end Go.Proofs.YtildflamnehilaaGreat.Ses

namespace Go.Proofs.YtildflamnehilaaGreat.Sx
open Go Go.RowKit Go.ChangeShapes Go.WideShapes

section
variable {H : Type} {en : TypeId × Value → H} {P : Program} {w : World}

/-- a slice -/
theorem opens_sliceP {t e : TypeId} {c : Tc} {ok : c.den → Prop} (ht : P.underlying t = some (.slice e)) (he : Opens en P w e (fun a : {a : c.den // ok a} => Sx.enc c a.1)) (hc : P.cellsOf e = c.width) (hb : P.bytesOf e = c.bytes) :
    Opens en P w t (fun l : {l : List c.den // ∀ x, x ∈ l → ok x} => [.rslice false c l.1]) := by
  intro m cs x hx hw
  have hc0 : 0 < c.width := by cases c <;> decide
  rcases DataW.trod_slice ht hx with ⟨rfl, rfl⟩ | ⟨a, len, cap, elems, rest, n, rfl, rfl, rfl, _, hle, _, hel, helem, hspare, _⟩
  · exact ⟨⟨[], fun x hx => (nomatch hx)⟩, fun β => .cons (.rnil _ _) (RepL.nil _)⟩
  · simp only [DataW.weights, ht, List.all_cons, List.all_append, Bool.and_eq_true, decide_eq_true_eq, List.length_map] at hw
    obtain ⟨hw0, hw1, _⟩ := hw
    have hbytes : len * c.bytes ≤ room47 := by
      have h1 : len * P.bytesOf e ≤ (elems.length + rest.length) * P.bytesOf e := Nat.mul_le_mul_right _ (by omega)
      have h2 : reachBytes < 2 ^ 47 := reachBytes_lt
      rw [← hb]
      have : room47 = 2 ^ 47 := rfl
      omega
    rcases Nat.eq_zero_or_pos cap with h0 | hpos
    · have : len = 0 := by omega
      subst this
      subst h0
      exact ⟨⟨[], fun x hx => (nomatch hx)⟩, fun β => .cons (.rnil _ _) (RepL.nil _)⟩
    · have hread : ∃ y, (w.cells? 0 a (P.cellsOf e)).bind (DataW.trod en P w 0 (fun _ => true) true n e) = some y := by
        rcases Nat.eq_zero_or_pos len with h1 | h1
        · obtain ⟨hrl, hr⟩ := hspare rfl
          have := hr 0 (by omega)
          have hlt : 0 < rest.length := by omega
          rw [List.getElem?_eq_getElem hlt] at this
          subst h1
          simp [Addr.add] at this
          exact ⟨_, this⟩
        · have := helem 0 h1
          have hlt : 0 < elems.length := by omega
          rw [List.getElem?_eq_getElem hlt] at this
          simp [Addr.add] at this
          exact ⟨_, this⟩
      have hsp : a = ⟨a.block, a.off, none⟩ := by
        obtain ⟨y, hy⟩ := hread
        cases hcs : w.cells? 0 a (P.cellsOf e) with
        | none => rw [hcs] at hy; simp at hy
        | some l0 =>
          obtain ⟨_, hl, hg⟩ := World.cells?_some hcs
          have h1 := hg 0 (by omega)
          have hlt : 0 < l0.length := by omega
          rw [List.getElem?_eq_getElem hlt] at h1
          simp only [Addr.add, if_true] at h1
          unfold World.cell? at h1
          obtain ⟨b, o, s⟩ := a
          cases s with
          | none => rfl
          | some s =>
            simp only at h1
            split at h1 <;> simp at h1
      have hadd : ∀ k, a.add k = ⟨a.block, a.off + k, none⟩ := by
        intro k
        unfold Addr.add
        split
        · rename_i hk; subst hk; exact hsp
        · rfl
      have each : ∀ i, i < len → ∃ (p : {a : c.den // ok a} × List Value), p.2.length = c.width ∧ (∀ β, RepL ⟨β, wholeΓ w⟩ (Sx.enc c p.1.1) p.2) ∧ ∀ (j : Nat) v, p.2[j]? = some v → w.cell? ⟨a.block, a.off + (i * c.width + j), none⟩ = some v := by
        intro i hi
        have h1 := helem i hi
        have hlt : i < elems.length := by omega
        rw [List.getElem?_eq_getElem hlt] at h1
        cases hcs : w.cells? 0 (a.add (i * P.cellsOf e)) (P.cellsOf e) with
        | none => rw [hcs] at h1; simp at h1
        | some l0 =>
          rw [hcs] at h1
          simp only [Option.bind_some] at h1
          obtain ⟨_, hl, hg⟩ := World.cells?_some hcs
          obtain ⟨d, hd⟩ := he n l0 _ h1 (weightsAll_mem hw1 _ (List.mem_map.2 ⟨elems[i], List.getElem_mem hlt, rfl⟩))
          refine ⟨(d, l0), by rw [← hc]; exact hl, hd, fun j v hv => ?_⟩
          have hj : j < l0.length := (List.getElem?_eq_some_iff.1 hv).1
          have := hg j (by omega)
          rw [hv, hadd] at this
          unfold Addr.add at this
          split at this
          · rename_i hj0; subst hj0; rw [hc] at this; simpa using this
          · rw [hc] at this
            simp only at this
            rw [← this, Nat.add_assoc]
      obtain ⟨ps, hpl, hp⟩ := choose_list (β := Unit) len each
      refine ⟨⟨ps.map (·.1.1), fun x hx => by obtain ⟨p, _, rfl⟩ := List.mem_map.1 hx; exact p.1.2⟩, fun β => .cons ?_ (RepL.nil _)⟩
      dsimp only
      rw [hsp]
      have := Rep.rslice (g := ⟨β, wholeΓ w⟩) false c (ps.map (·.1.1)) a.block a.off cap (fun i => match ps[i]? with | some p => p.2 | none => List.replicate c.width undef) (by simp [hpl]; exact hle) (by simp [hpl]; exact hbytes) (fun i => by
        cases hi : ps[i]? with
        | none => simp
        | some p => exact (hp i p hi).1) (fun i x hx j sv v h1 h2 => by
        rw [List.getElem?_map] at hx
        cases hi : ps[i]? with
        | none => rw [hi] at hx; simp at hx
        | some p =>
          rw [hi] at hx h2
          simp at hx
          subst hx
          exact ((hp i p hi).2.1 β).2 j sv v h1 h2) (fun i hi j v h1 => by
        cases hq : ps[i]? with
        | none => rw [List.getElem?_eq_none_iff] at hq; simp at hi; omega
        | some p =>
          rw [hq] at h1
          exact (hp i p hq).2.2 j v h1)
      simp only [List.length_map, hpl] at this
      exact this


theorem opens_intw {t : TypeId} {k : IntKind} (ht : P.underlying t = some (.int k)) : Opens en P w t (fun n : {n : Int // (Lit.int k n).wf = true} => [.int k n.1]) := by
  intro m cs x hx _
  obtain ⟨n, rfl, _, hw⟩ := DataW.trod_int ht hx
  exact ⟨⟨n, hw⟩, fun β => .cons (.int k n) (RepL.nil _)⟩
/-- an argument that is a slice of what is so -/
theorem arg_sliceP {H : Type} {en : TypeId × Value → H} {P : Program} {w : World} {t e : TypeId} {c : Tc} {ok : c.den → Prop} {v : Value} {d : DataW H} {ps : List MemPlace} {r : Reach} {b0 : Nat} (ht : P.underlying t = some (.slice e))
    (ho : Opens en P w t (fun l : {l : List c.den // ∀ x, x ∈ l → ok x} => [.rslice false c l.1])) (hval : Value.okWide P w r b0 t v) (hd : DataW.Trod en P w 0 (fun _ => true) true t v d ps) (hw : (d.weights P t).all (· ≤ reachBytes) = true) :
    ∃ l : {l : List c.den // ∀ x, x ∈ l → ok x}, ∀ β, Rep ⟨β, wholeΓ w⟩ (.rslice false c l.1) v := by
  obtain ⟨a, len, cap, rfl⟩ := okWide_slice ht hval
  obtain ⟨fuel, hf⟩ := hd
  obtain ⟨l, hl⟩ := ho fuel _ _ hf hw
  exact ⟨l, fun β => (hl β).2 0 _ _ rfl rfl⟩
end
end Go.Proofs.YtildflamnehilaaGreat.Sx
namespace Go.Proofs.YtildflamnehilaaGreat.Ses
open Go Go.Proofs Go.Proofs.YtildflamnehilaaGreat.Sx

theorem inI_wf {n : Int} (h : (Lit.int .i64 n).wf = true) : inI n = true := by
  simp [Lit.wf, IntKind.min, IntKind.max, IntKind.signed, IntKind.bits] at h
  exact decide_eq_true h.2
section
variable {H : Type} {en : TypeId × Value → H} {w : World}
theorem opens_in {t : TypeId} (ht : Tryz.prog.underlying t = some (.int .i64)) : Opens en Tryz.prog w t (fun n : {n : Int // inI n = true} => [.int .i64 n.1]) :=
  (opens_intw ht).map (fun a => ⟨a.1, inI_wf a.2⟩) (fun _ => rfl)
abbrev RqIn := {r : RequestD // inI r.from_ = true}
theorem op_request : Opens en Tryz.prog w 54 (fun r : RqIn => enc .request r.1) :=
  (opens_struct Tryz.underlying54 (by kernel_rfl) (opensF_cons (sz := 1) rfl (by kernel_rfl) (opens_int Tryz.underlying3) (opensF_cons (sz := 1) rfl (by kernel_rfl) (opens_str Tryz.underlying9) (opensF_cons (sz := 1) rfl (by kernel_rfl) (opens_int Tryz.underlying3) (opensF_cons (sz := 1) rfl (by kernel_rfl) (opens_int Tryz.underlying3) (opensF_cons (sz := 1) rfl (by kernel_rfl) (opens_int Tryz.underlying3)
    (opensF_cons (sz := 1) rfl (by kernel_rfl) (opens_str Tryz.underlying9) (opensF_cons (sz := 1) rfl (by kernel_rfl) op_changes (opensF_cons (sz := 1) rfl (by kernel_rfl) (opens_str Tryz.underlying9) (opensF_cons (sz := 1) rfl (by kernel_rfl) (opens_in Tryz.underlying3) (opensF_cons (sz := 1) rfl (by kernel_rfl) (opens_int Tryz.underlying3) (opensF_cons (sz := 1) rfl (by kernel_rfl) (opens_int Tryz.underlying3) opensF_nil)))))))))))).map
    (fun a => (⟨⟨a.1, a.2.1, a.2.2.1, a.2.2.2.1, a.2.2.2.2.1, a.2.2.2.2.2.1, a.2.2.2.2.2.2.1, a.2.2.2.2.2.2.2.1, a.2.2.2.2.2.2.2.2.1.1, a.2.2.2.2.2.2.2.2.2.1, a.2.2.2.2.2.2.2.2.2.2.1⟩, a.2.2.2.2.2.2.2.2.1.2⟩ : RqIn)) (fun _ => rfl)
theorem op_requests : Opens en Tryz.prog w 60 (fun l : {l : List RequestD // ∀ x, x ∈ l → inI x.from_ = true} => [.rslice false .request l.1]) := opens_sliceP (c := .request) (ok := fun r : RequestD => inI r.from_ = true) Tryz.underlying60 op_request (by kernel_rfl) (by kernel_rfl)
end
end Go.Proofs.YtildflamnehilaaGreat.Ses
