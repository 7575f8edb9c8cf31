/- Refs and logs in plain words. No condition. -/
import Derived.Test.YtildflamnehilaaGreatGrsA
set_option linter.unusedSimpArgs false
set_option linter.unusedVariables false

namespace Go.Proofs.YtildflamnehilaaGreat.Ses
open Go Go.Proofs Go.Proofs.YtildflamnehilaaGreat.Sx Go.Proofs.YtildflamnehilaaGreat.Trx

noncomputable def glawS2 : List (Nat × CallSpec) := (43, scomsT.spec) :: (79, refsT.spec) :: (39, logT.spec) :: glawS
structure RdsA where
  l : List Deed5D
  p : Bs
  part : Int
def rdsArgs (x : RdsA) : List SV := [.rslice false .deed5 x.l, .str x.p, .int .i64 x.part]
/-- what a path reads, by its last leaf -/
def wantL (p : Bs) : Option LeafD → VerdictD
  | none => ⟨10, 0, 0, p, 0, [], 0⟩
  | some y => bif y.gone then ⟨10, 0, 0, p, 0, [], 0⟩ else ⟨9, 0, y.rev, p, y.digest, [], 0⟩
def wantR (C : List CommitD) (p : Bs) (k : Nat) : VerdictD := wantL p (lastOf p (leavesC (C.take k)))
def wantJ (C : List CommitD) (p : Bs) (k j : Nat) : VerdictD := wantL p ((lastOf p (((C.getD k ⟨0, 0, [], []⟩).changes.take j).map (leafC (C.getD k ⟨0, 0, [], []⟩).rev))).or (lastOf p (leavesC (C.take k))))
/-- the last of the first k commits that moved a ref -/
def lastRef (C : List CommitD) (n : Bs) : Nat → Int
  | 0 => 0
  | k + 1 => bif (C.getD k ⟨0, 0, [], []⟩).ref == n then (C.getD k ⟨0, 0, [], []⟩).rev else lastRef C n k
noncomputable def rdsI15 : St → LInv := fun s => match getE s.env 9, getE s.env 1, getE s.env 10 with
  | .rslice _ .commit C, .str p, .mptr q _ => { σ := Nat, I := fun k => k ≤ C.length, μ := fun k => C.length - k, env := fun k => [(11, .int .i64 k)], blk := fun k => [(q, .cells (wantR C p k).enc)], fresh := 0, drop := [] }
  | _, _, _ => LInv.none
noncomputable def rdsI18 : St → LInv := fun s => match getE s.env 9, getE s.env 1, getE s.env 10, getE s.env 11 with
  | .rslice _ .commit C, .str p, .mptr q _, .int _ k => { σ := Nat, I := fun j => j ≤ (C.getD k.toNat ⟨0, 0, [], []⟩).changes.length, μ := fun j => (C.getD k.toNat ⟨0, 0, [], []⟩).changes.length - j, env := fun j => [(12, .int .i64 j)], blk := fun j => [(q, .cells (wantJ C p k.toNat j).enc)], fresh := 0, drop := [] }
  | _, _, _, _ => LInv.none
noncomputable def rdsI30 : St → LInv := fun s => match getE s.env 15 with
  | .rslice _ .ref R => { σ := Nat, I := fun i => i ≤ R.length, μ := fun i => R.length - i, env := fun i => [(16, .int .i64 i)], blk := fun _ => [], fresh := 0, drop := [] }
  | _ => LInv.none
noncomputable def rdsI34 : St → LInv := fun s => match getE s.env 9, getE s.env 15, getE s.env 16 with
  | .rslice _ .commit C, .rslice _ .ref R, .int _ i => { σ := Nat, I := fun k => k ≤ C.length, μ := fun k => C.length - k, env := fun k => [(18, .int .i64 k), (17, .int .i64 (lastRef C (R.getD i.toNat ⟨[], 0⟩).name k))], blk := fun _ => [], fresh := 0, drop := [] }
  | _, _, _ => LInv.none
noncomputable def rdsI43 : St → LInv := fun s => match getE s.env 9, getE s.env 2, getE s.env 7 with
  | .rslice _ .commit C, .int _ part, .mptr q _ => (match s.m.blks.get q with
    | some (.cells [.mslice c n lo ln, t, .mmap k]) => (match s.m.blks.get n, s.m.blks.get k with
      | some y, some z => { σ := Nat, I := fun j => j * part.toNat ≤ C.length + 8, μ := fun j => C.length + 9 - j, env := fun j => [(20, .int .i64 (1 + ((j * part.toNat : Nat) : Int))), (19, .mslice .commit s.m.next 0 (C.take (j * part.toNat)).length)], blk := fun j => [(s.m.next, .rows .commit (C.take (j * part.toNat))), (q, .cells [.mslice c n lo ln, t, .mmap k]), (n, y), (k, z)], fresh := 1, drop := [] }
      | _, _ => LInv.none)
    | _ => LInv.none)
  | _, _, _ => LInv.none
noncomputable def rdsE : Envr := Env Tryz.prog cod glawS2 [(9, goI 7 8), (15, rdsI15), (18, rdsI18), (30, rdsI30), (34, rdsI34), (43, rdsI43)]
def gknArgs (x : Unit) : List SV := []
noncomputable def gknE : Envr := Env Tryz.prog cod glawS2 []
end Go.Proofs.YtildflamnehilaaGreat.Ses

namespace Go.Proofs.YtildflamnehilaaGreat.Ses
open Go Go.Proofs Go.Proofs.YtildflamnehilaaGreat.Sx Go.Proofs.YtildflamnehilaaGreat.Trx

/-! ### refs by their names -/

theorem lookK_put : ∀ (K : List (Bs × Int)) (s : Bs) (v : Int) (n : Bs), lookK (putK K s v) n = bif s == n then some v else lookK K n
  | [], s, v, n => by simp [putK, lookK]
  | (k, x) :: r, s, v, n => by
    have ih := lookK_put r s v n
    unfold putK
    cases h : (k == s)
    · simp only [cond_false, lookK, ih]
      cases h1 : (k == n)
      · rfl
      · have : (s == n) = false := by
          have h1 := beq_iff_eq.1 h1
          subst h1
          rw [Bool.eq_false_iff] at h ⊢
          intro e
          exact h (by rw [beq_iff_eq] at e ⊢; exact e.symm)
        rw [this]
        simp
    · have h := beq_iff_eq.1 h
      subst h
      simp only [cond_true, lookK]
      cases h1 : (k == n) <;> rfl
theorem putK_keys : ∀ (K : List (Bs × Int)) (s : Bs) (v : Int) n, n ∈ (putK K s v).map (·.1) ↔ n = s ∨ n ∈ K.map (·.1)
  | [], s, v, n => by simp [putK]
  | (k, x) :: r, s, v, n => by
    have ih := putK_keys r s v n
    unfold putK
    cases h : (k == s)
    · simp only [cond_false, List.map_cons, List.mem_cons, ih]
      constructor
      · rintro (h | h | h)
        · exact .inr (.inl h)
        · exact .inl h
        · exact .inr (.inr h)
      · rintro (h | h | h)
        · exact .inr (.inl h)
        · exact .inl h
        · exact .inr (.inr h)
    · have h := beq_iff_eq.1 h
      subst h
      simp
theorem putK_nodup : ∀ (K : List (Bs × Int)) (s : Bs) (v : Int), (K.map (·.1)).Nodup → ((putK K s v).map (·.1)).Nodup
  | [], s, v, _ => by simp [putK]
  | (k, x) :: r, s, v, h => by
    simp only [List.map_cons, List.nodup_cons] at h
    unfold putK
    cases hk : (k == s)
    · simp only [cond_false, List.map_cons, List.nodup_cons]
      refine ⟨fun e => ?_, putK_nodup r s v h.2⟩
      rcases (putK_keys r s v k).1 e with e | e
      · rw [e] at hk; simp at hk
      · exact h.1 e
    · have hk := beq_iff_eq.1 hk
      subst hk
      simpa using h
theorem kv_keys (C : List CommitD) : ((kvC C).map (·.1)).Nodup ∧ ∀ n, n ∈ (kvC C).map (·.1) → n ≠ [] := by
  refine snocL (p := fun C => ((kvC C).map (·.1)).Nodup ∧ ∀ n, n ∈ (kvC C).map (·.1) → n ≠ []) (by simp [kvC]) (fun C c ih => ?_) C
  rw [kvC_snoc]
  cases h : (c.ref == [])
  · simp only [cond_false]
    refine ⟨putK_nodup _ _ _ ih.1, fun n hn => ?_⟩
    rcases (putK_keys _ _ _ n).1 hn with e | e
    · subst e; simpa using h
    · exact ih.2 n e
  · exact ih
theorem lastRef_app (C : List CommitD) (c : CommitD) (n : Bs) : ∀ k, k ≤ C.length → lastRef (C ++ [c]) n k = lastRef C n k
  | 0, _ => rfl
  | k + 1, h => by
    have ih := lastRef_app C c n k (by omega)
    have e : (C ++ [c]).getD k noM = C.getD k noM := by
      simp [List.getD, List.getElem?_append_left (show k < C.length by omega)]
    unfold lastRef
    rw [ih]
    show (bif ((C ++ [c]).getD k noM).ref == n then _ else _) = (bif (C.getD k noM).ref == n then _ else _)
    rw [e]
theorem lookK_last {n : Bs} (hn : n ≠ []) (C : List CommitD) : (lookK (kvC C) n).getD 0 = lastRef C n C.length := by
  refine snocL (p := fun C => (lookK (kvC C) n).getD 0 = lastRef C n C.length) rfl (fun C c ih => ?_) C
  have e : (C ++ [c]).getD C.length noM = c := by simp [List.getD]
  have e2 : lastRef (C ++ [c]) n (C ++ [c]).length = bif c.ref == n then c.rev else lastRef C n C.length := by
    rw [List.length_append, List.length_singleton]
    show (bif ((C ++ [c]).getD C.length noM).ref == n then ((C ++ [c]).getD C.length noM).rev else lastRef (C ++ [c]) n C.length) = _
    rw [e, lastRef_app _ _ _ _ (Nat.le_refl _)]
  rw [e2, kvC_snoc, ← ih]
  cases h : (c.ref == [])
  · simp only [cond_false, lookK_put]
    cases (c.ref == n) <;> rfl
  · have h := beq_iff_eq.1 h
    rw [h]
    have : (([] : Bs) == n) = false := by
      rw [Bool.eq_false_iff]; intro e; exact hn (beq_iff_eq.1 e).symm
    rw [this]
    rfl
theorem names_perm (C : List CommitD) : (namesK (kvC C)).Perm ((kvC C).map (·.1)) := List.mergeSort_perm _ _
theorem refs_len (C : List CommitD) : (refsC C).length = (namesK (kvC C)).length := by simp [refsC]
theorem refs_at {C : List CommitD} {i : Nat} (h : i < (refsC C).length) : ((refsC C).getD i ⟨[], 0⟩).name = (namesK (kvC C)).getD i [] ∧ ((refsC C).getD i ⟨[], 0⟩).rev = lastRef C ((namesK (kvC C)).getD i []) C.length := by
  rw [refs_len] at h
  have e : (namesK (kvC C)).getD i [] = (namesK (kvC C))[i] := by simp [List.getD, h]
  have e2 : (refsC C).getD i ⟨[], 0⟩ = refK (kvC C) ((namesK (kvC C))[i]) := by simp [refsC, List.getD, h]
  rw [e, e2]
  refine ⟨rfl, ?_⟩
  have hm : (namesK (kvC C))[i] ∈ (kvC C).map (·.1) := (names_perm C).mem_iff.1 (List.getElem_mem h)
  exact lookK_last ((kv_keys C).2 _ hm) C
theorem names_rise {C : List CommitD} {i : Nat} (h : i + 1 < (namesK (kvC C)).length) : Op.bytesLess ((namesK (kvC C)).getD i []) ((namesK (kvC C)).getD (i + 1) []) = true := by
  have tr : ∀ a b c : List UInt8, leB a b = true → leB b c = true → leB a c = true := fun a b c h1 h2 => by simp only [leB, decide_eq_true_eq] at *; exact List.le_trans h1 h2
  have to : ∀ a b : List UInt8, (leB a b || leB b a) = true := fun a b => by simp only [leB, Bool.or_eq_true, decide_eq_true_eq]; exact List.le_total a b
  have hp : (namesK (kvC C)).Pairwise fun a b => leB a b = true := List.pairwise_mergeSort tr to _
  have hn : (namesK (kvC C)).Nodup := (names_perm C).nodup_iff.2 (kv_keys C).1
  have e1 : (namesK (kvC C)).getD i [] = (namesK (kvC C))[i] := by simp [List.getD, show i < (namesK (kvC C)).length by omega]
  have e2 : (namesK (kvC C)).getD (i + 1) [] = (namesK (kvC C))[i + 1] := by simp [List.getD, h]
  rw [e1, e2, bytesLess_eq, decide_eq_true_eq]
  have h1 := List.pairwise_iff_getElem.1 hp i (i + 1) (by omega) h (by omega)
  have h2 := List.pairwise_iff_getElem.1 hn i (i + 1) (by omega) h (by omega)
  have h1 : (namesK (kvC C))[i] ≤ (namesK (kvC C))[i + 1] := of_decide_eq_true h1
  rcases List.le_iff_lt_or_eq.1 h1 with h3 | h3
  · exact h3
  · exact absurd h3 h2

/-! ### what a path reads -/

theorem lastOf_one (p : Bs) (x : LeafD) : lastOf p [x] = bif x.path == p then some x else none := by
  unfold lastOf
  simp only [List.reverse_singleton, List.find?_singleton]
  cases (x.path == p) <;> rfl
theorem wantJ_suc {C : List CommitD} {p : Bs} {k j : Nat} (h : j < (C.getD k noM).changes.length) : wantJ C p k (j + 1) = bif ((C.getD k noM).changes.getD j noC).path == p then wantL p (some (leafC (C.getD k noM).rev ((C.getD k noM).changes.getD j noC))) else wantJ C p k j := by
  show wantL p ((lastOf p (((C.getD k noM).changes.take (j + 1)).map (leafC (C.getD k noM).rev))).or _) = _
  rw [take_succ_getD noC h, List.map_append, lastOf_append, List.map_singleton, lastOf_one]
  show wantL p (((bif ((C.getD k noM).changes.getD j noC).path == p then _ else _ : Option LeafD).or _).or _) = _
  cases (((C.getD k noM).changes.getD j noC).path == p) <;> rfl
theorem wantR_suc {C : List CommitD} {p : Bs} {k : Nat} (h : k < C.length) : wantR C p (k + 1) = wantJ C p k (C.getD k noM).changes.length := by
  unfold wantR wantJ
  rw [take_succ_getD noM h, leavesC_snoc, lastOf_append]
  show _ = wantL p ((lastOf p (((C.getD k noM).changes.take (C.getD k noM).changes.length).map (leafC (C.getD k noM).rev))).or _)
  rw [List.take_length]
theorem read_want {C : List CommitD} {p : Bs} (h : (readV ⟨C, p⟩).code ≠ 5) : readV ⟨C, p⟩ = wantR C p C.length := by
  unfold readV at h ⊢
  unfold wantR
  rw [List.take_length, ← rowC_get]
  cases hn : (!(normB p == some p))
  · simp only [cond_false]
    cases getL p (rowC C) <;> rfl
  · rw [hn] at h
    exact absurd rfl h
/-- a part of a log -/
theorem part_in (a : Int) : ∃ P : Nat, IntKind.i64.wrap (1 + IntKind.i64.wrap ((BitVec.ofInt IntKind.i64.bits a &&& BitVec.ofInt IntKind.i64.bits 7).toNat : Int)) = (P : Int) ∧ 1 ≤ P ∧ P ≤ 8 := by
  have h : (BitVec.ofInt IntKind.i64.bits a &&& BitVec.ofInt IntKind.i64.bits 7).toNat ≤ 7 := by
    rw [BitVec.toNat_and]
    exact Nat.le_trans Nat.and_le_right (by decide)
  generalize (BitVec.ofInt IntKind.i64.bits a &&& BitVec.ofInt IntKind.i64.bits 7).toNat = b at h ⊢
  refine ⟨b + 1, ?_, by omega, by omega⟩
  rw [wrap_id (n := (b : Int)) (by omega) (by omega), wrap_id (by omega) (by omega)]
  omega
theorem log_part {C : List CommitD} {j P : Nat} (h1 : 1 ≤ P) (h2 : P ≤ 8) : (logV ⟨C, 1 + ((j * P : Nat) : Int), P⟩) = ⟨11, 0, 0, [], 0, (C.drop (j * P)).take P, 0⟩ := by
  have e1 : (decide ((1 : Int) + ((j * P : Nat) : Int) < 1) || decide ((P : Int) < 1)) = false := by
    rw [decide_eq_false (by omega), decide_eq_false (by omega)]; rfl
  unfold logV
  rw [e1]
  have e2 : ((1 : Int) + ((j * P : Nat) : Int) - 1).toNat = j * P := by omega
  have e3 : (min (P : Int) 32).toNat = P := by omega
  show (⟨11, 0, 0, [], 0, (C.drop ((1 : Int) + ((j * P : Nat) : Int) - 1).toNat).take (min (P : Int) 32).toNat, 0⟩ : VerdictD) = _
  rw [e2, e3]
theorem glaw2_ok {loops : List (Nat × (St → LInv))} : EnvOK (Env Tryz.prog cod glawS2 loops) := Env_ok (by decide +kernel) (by
  intro p hp
  simp only [glawS2, glawS, List.mem_cons, List.mem_nil_iff, or_false] at hp
  rcases hp with rfl | rfl | rfl | rfl | rfl | rfl | rfl | rfl | rfl | rfl | rfl | rfl | rfl | rfl | rfl | rfl
  · exact scoms_ok
  · exact refs_ok
  · exact log_ok
  · exact gawake_ok
  · exact roomg_ok
  · exact rcheck_ok
  · exact gnew_ok
  · exact land_ok
  · exact ghead_ok
  · exact commits_ok
  · exact rsort_ok
  · exact alike_ok
  · exact legal_ok
  · exact gleaves_ok
  · exact read_ok
  · exact altSpec_ok load1_ok load2_ok)
end Go.Proofs.YtildflamnehilaaGreat.Ses
