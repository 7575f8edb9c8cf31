/- The law PlainLegal: what the evaluator leaves, and that it holds. No condition. -/
import Derived.Test.YtgepebndihfnfaaGreatLMhI
import Derived.KernelRfl
set_option linter.unusedSimpArgs false
set_option linter.unusedVariables false

namespace Go.Proofs.YtgepebndihfnfaaGreat.Sx
open Go Go.RowKit Go.ChangeShapes Go.WideShapes
theorem arg_slice {H : Type} {en : TypeId × Value → H} {P : Program} {w : World} {t e : TypeId} {c : Tc} {v : Value} {d : DataW H} {ps : List MemPlace} {r : Reach} {b0 : Nat} (ht : P.underlying t = some (.slice e))
    (ho : Opens en P w t (fun l : List c.den => [.rslice false c l])) (hval : Value.okWide P w r b0 t v) (hd : DataW.Trod en P w 0 (fun _ => true) true t v d ps) (hw : (d.weights P t).all (· ≤ reachBytes) = true) :
    ∃ l : List c.den, ∀ β, Rep ⟨β, wholeΓ w⟩ (.rslice false c l) v := by
  obtain ⟨a, len, cap, rfl⟩ := okWide_slice ht hval
  obtain ⟨fuel, hf⟩ := hd
  obtain ⟨l, hl⟩ := ho fuel _ _ hf hw
  exact ⟨l, fun β => (hl β).2 0 _ _ rfl rfl⟩
end Go.Proofs.YtgepebndihfnfaaGreat.Sx
namespace Go.Proofs.YtgepebndihfnfaaGreat.Ses
open Go Go.Proofs Go.Proofs.YtgepebndihfnfaaGreat.Sx
structure PlgA where
  l : List RequestD
  raw : List CommitD
def plgArgs (x : PlgA) : List SV := [.rslice false .request x.l, .rslice false .commit x.raw]
noncomputable def plgI6 : St → LInv := fun s => match getE s.env 1 with
  | .rslice _ .commit l => { σ := Nat, I := fun i => i ≤ l.length ∧ ∀ j, j < i → (comAt l j).changes.length ≤ 30, μ := fun i => l.length - i, env := fun i => [(5, .int .i64 i)], blk := fun _ => [], fresh := 0, drop := [] }
  | _ => LInv.none
noncomputable def plgI14 : St → LInv := fun s => match getE s.env 0 with
  | .rslice _ .request l => { σ := Nat, I := fun i => i ≤ l.length, μ := fun i => l.length - i, env := fun i => [(9, .int .i64 i)], blk := fun _ => [], fresh := 0, drop := [] }
  | _ => LInv.none
noncomputable def plgI17 : St → LInv := fun s => match getE s.env 9 with
  | .int _ z => { σ := Nat, I := fun i => i ≤ z.toNat, μ := fun i => z.toNat - i, env := fun i => [(10, .int .i64 i)], blk := fun _ => [], fresh := 0, drop := [] }
  | _ => LInv.none
noncomputable def plgE : Envr := Env Tryz.prog cod [(19, pawT.spec), (20, mroomT.spec), (28, lgsT.spec), (29, lgrT.spec), (30, pcom1T.spec), (21, prun1T.spec)] [(6, plgI6), (14, plgI14), (17, plgI17)]
end Go.Proofs.YtgepebndihfnfaaGreat.Ses

namespace Go.Proofs.YtgepebndihfnfaaGreat.Ses
open Go Go.Proofs Go.Proofs.YtgepebndihfnfaaGreat.Sx
set_option maxRecDepth 100000
abbrev plgQ1 (x5 : Nat) (x : PlgA) := x5 ≤ (PlgA.raw x).length ∧
∀ x6 : Nat, x6 < x5 →
(comAt (PlgA.raw x) x6).changes.length ≤ 30
abbrev plgQ2 (x : PlgA) (x7 : Nat) := (List.getD (PlgA.raw x) (↑x7 : Int).toNat (CommitD.mk (0 : Int) (0 : Int) ([] : List UInt8) ([] : List ChangeD))).changes.length
abbrev plgQ3 (x7 : Nat) (x9 : Nat) := IntKind.wrap IntKind.i64 ((↑x7 : Int) + (1 : Int)) = (↑x9 : Int)
abbrev plgQ4  := [(0 : Int), (1 : Int), (2 : Int)]
abbrev plgQ5 (x15 : RunA) := List.take 3 (List.drop 0 plgQ4) = CfgD.M (RunA.c x15)
abbrev plgQ6 (x22 : Nat) (x : PlgA) := decide ((0 : Int) ≤ (↑x22 : Int) ∧
(↑x22 : Int) < (↑(PlgA.l x).length : Int))
abbrev plgQ7 (x : PlgA) (x22 : Nat) := List.getD (PlgA.l x) (↑x22 : Int).toNat RequestD.dflt
abbrev plgQ8 (x22 : Nat) (x19 : RunA) := decide ((0 : Int) ≤ (↑x22 : Int) ∧
(↑x22 : Int) < (↑(verdF (RunA.f x19) (RunA.l x19)).length : Int))
abbrev plgQ9 (x19 : RunA) (x22 : Nat) := List.getD (verdF (RunA.f x19) (RunA.l x19)) (↑x22 : Int).toNat (VerdictD.mk (0 : Int) (0 : Int) (0 : Int) ([] : List UInt8) (0 : Int) ([] : List CommitD) (0 : Int))
abbrev plgQ10 (x24 : Nat) (x22 : Nat) := ∃ x25 : Nat, plgQ3 x24 x25 ∧
Nat.le x25 (↑x22 : Int).toNat ∧
Nat.sub (↑x22 : Int).toNat x25 < Nat.sub (↑x22 : Int).toNat x24
theorem plg_vc (x : PlgA) : evCall plgE (ev plgE 1000) 6 (plgArgs x) ⟨[], 0, []⟩ (fun _ _ => False) (fun v _ => TrueV v) = (
∃ x1 : Unit, True ∧
∀ x2 : Unit, True →
∃ x3 : RmA, PlgA.l x = x3.l ∧
(100 : Int) = x3.most ∧
True ∧
∀ x4 : Unit, True →
br (roomM x3.l x3.most).not (true = true) ((PlgA.raw x).length * 56 ≤ room47 →
br (decide ((↑(PlgA.raw x).length : Int) > (40 : Int))) (true = true) ((∃ x5 : Nat, (0 : Int) = (↑x5 : Int) ∧
plgQ1 x5 x) ∧
∀ x7 : Nat, plgQ1 x7 x →
(PlgA.raw x).length * 56 ≤ room47 →
br (decide ((↑x7 : Int) < (↑(PlgA.raw x).length : Int))) (br (decide ((0 : Int) ≤ (↑x7 : Int) ∧
(↑x7 : Int) < (↑(PlgA.raw x).length : Int))) (plgQ2 x x7 * 32 ≤ room47 →
br (decide ((↑(plgQ2 x x7) : Int) > (30 : Int))) (true = true) (∃ x9 : Nat, plgQ3 x7 x9 ∧
plgQ1 x9 x ∧
Nat.sub (PlgA.raw x).length x9 < Nat.sub (PlgA.raw x).length x7)) (Bad "check" "law.go:65")) (∃ x11 : (List CommitD), PlgA.raw x = x11 ∧
True ∧
∀ x12 : Unit, True →
∃ x13 : (List CommitD), PlgA.raw x = x13 ∧
True ∧
∀ x14 : Unit, True →
br (legL ([] : List (Prod Bs Int)) (0 : Int) x11 == legR x13).not (false = true) (∃ x15 : RunA, 0 + 3 ≤ plgQ4.length ∧
plgQ5 x15 ∧
(2 : Int) = CfgD.a (RunA.c x15) ∧
(3 : Int) = CfgD.z (RunA.c x15) ∧
(0 : Int) = CfgD.keep (RunA.c x15) ∧
(0 : Int) = CfgD.beat (RunA.c x15) ∧
(0 : Int) = CfgD.term (RunA.c x15) ∧
(0 : Int) = CfgD.lease (RunA.c x15) ∧
(0 : Int) = CfgD.num (RunA.c x15) ∧
(0 : Int) = CfgD.den (RunA.c x15) ∧
PlgA.l x = RunA.l x15 ∧
RunA.ok x15 = true ∧
∀ x16 : Unit, True →
∃ x17 : (List CommitD), (runF (RunA.f x15) (RunA.l x15)).C = x17 ∧
True ∧
∀ x18 : Unit, True →
br (legL ([] : List (Prod Bs Int)) (0 : Int) x17).not (false = true) (∃ x19 : RunA, 0 + 3 ≤ plgQ4.length ∧
plgQ5 x19 ∧
(2 : Int) = CfgD.a (RunA.c x19) ∧
(3 : Int) = CfgD.z (RunA.c x19) ∧
(0 : Int) = CfgD.keep (RunA.c x19) ∧
(0 : Int) = CfgD.beat (RunA.c x19) ∧
(0 : Int) = CfgD.term (RunA.c x19) ∧
(0 : Int) = CfgD.lease (RunA.c x19) ∧
(0 : Int) = CfgD.num (RunA.c x19) ∧
(0 : Int) = CfgD.den (RunA.c x19) ∧
PlgA.l x = RunA.l x19 ∧
RunA.ok x19 = true ∧
∀ x20 : Unit, True →
(∃ x21 : Nat, (0 : Int) = (↑x21 : Int) ∧
Nat.le x21 (PlgA.l x).length) ∧
∀ x22 : Nat, Nat.le x22 (PlgA.l x).length →
(PlgA.l x).length * 128 ≤ room47 →
br (decide ((↑x22 : Int) < (↑(PlgA.l x).length : Int))) ((∃ x23 : Nat, (0 : Int) = (↑x23 : Int) ∧
Nat.le x23 (↑x22 : Int).toNat) ∧
∀ x24 : Nat, Nat.le x24 (↑x22 : Int).toNat →
br (decide ((↑x24 : Int) < (↑x22 : Int))) (br (plgQ6 x22 x) (br (decide ((plgQ7 x x22).kind > (1 : Int))) (br (plgQ6 x24 x) (br (decide ((plgQ7 x x24).kind > (1 : Int))) (br (plgQ6 x22 x) (br (plgQ6 x24 x) (br ((plgQ7 x x22).session == (plgQ7 x x24).session) (br (plgQ6 x22 x) (br (plgQ6 x24 x) (br ((plgQ7 x x22).seq == (plgQ7 x x24).seq) (br (plgQ8 x22 x19) (br ((plgQ9 x19 x22).code == (2 : Int)) (br (plgQ8 x24 x19) (br ((plgQ9 x19 x24).code == (2 : Int)) (br (plgQ8 x22 x19) (br (plgQ8 x24 x19) (br ((plgQ9 x19 x22).rev != (plgQ9 x19 x24).rev) (false = true) (plgQ10 x24 x22)) (Bad "check" "law.go:76")) (Bad "check" "law.go:76")) (plgQ10 x24 x22)) (Bad "check" "law.go:76")) (plgQ10 x24 x22)) (Bad "check" "law.go:76")) (plgQ10 x24 x22)) (Bad "check" "law.go:75")) (Bad "check" "law.go:75")) (plgQ10 x24 x22)) (Bad "check" "law.go:75")) (Bad "check" "law.go:75")) (plgQ10 x24 x22)) (Bad "check" "law.go:75")) (plgQ10 x24 x22)) (Bad "check" "law.go:75")) (∃ x32 : Nat, plgQ3 x22 x32 ∧
Nat.le x32 (PlgA.l x).length ∧
Nat.sub (PlgA.l x).length x32 < Nat.sub (PlgA.l x).length x22)) (true = true))))))) := by kernel_rfl
end Go.Proofs.YtgepebndihfnfaaGreat.Ses

namespace Go.Proofs.YtgepebndihfnfaaGreat.Ses
open Go Go.Proofs Go.Proofs.YtgepebndihfnfaaGreat.Sx
theorem comAt_get {C : List CommitD} {i : Nat} (h : i < C.length) : comAt C i = C[i] := by
  unfold comAt
  rw [List.getD_eq_getElem?_getD, List.getElem?_eq_getElem h]; rfl
theorem ok_legR {C : List CommitD} (h : OkC C) : legR C = true := by
  refine all_range fun i hi => ?_
  have h1 := h.rev i hi
  have h2 := h.base i hi
  have h3 := h.unlike i hi
  have h4 := h.calm i hi
  rw [← comAt_get hi] at h1 h2 h3 h4
  unfold rowOk
  rw [h1, beq_self_eq_true, decide_eq_true h2.1, decide_eq_true h2.2, all_range fun a ha => ?_]; rfl
  unfold chOk
  have hp : ∀ b (hb : b < (comAt C i).changes.length), pathAt C i b = ((comAt C i).changes[b]'hb).path := fun b hb => by
    unfold pathAt
    rw [List.getD_eq_getElem?_getD, List.getElem?_eq_getElem hb]; rfl
  rw [all_range fun b hb => ?_, all_range fun k hk => ?_]; rfl
  · by_cases c : (k : Int) < (comAt C i).base
    · rw [decide_eq_true c]; rfl
    · rw [free_has]
      have := h4 k hk (by omega) _ (List.getElem_mem ha)
      rw [← comAt_get (by omega : k < C.length), ← hp a ha] at this
      have this : hasQ (comAt C k) (pathAt C i a) = false := this
      rw [this, Bool.not_false, Bool.or_true]
  · have := List.pairwise_iff_getElem.1 h3 b a (by omega) ha hb
    rw [hp a ha, hp b (by omega)]
    cases hc : ((comAt C i).changes[a]'ha).path == ((comAt C i).changes[b]'(by omega)).path
    · rfl
    · exact absurd (eq_of_beq hc).symm this
theorem plg_ok : EnvOK plgE := Env_ok (by decide +kernel) (by
  intro p hp
  simp only [List.mem_cons, List.mem_nil_iff, or_false] at hp
  rcases hp with rfl | rfl | rfl | rfl | rfl | rfl
  · exact paw_ok
  · exact mroom_ok
  · exact lgs_ok
  · exact lgr_ok
  · exact pcom1_ok
  · exact prun1_ok)
theorem run_more (x : MacS) (l : List RequestD) {a i : Nat} (h : a ≤ i) : runF (runF x (l.take a)) ((l.drop a).take (i - a)) = runF x (l.take i) := by
  rw [← run_app, ← List.take_add, Nat.add_sub_cancel' h]
set_option maxHeartbeats 0 in
theorem plg_body (x : PlgA) (hl : ∀ r, r ∈ x.l → inI r.from_ = true) : evCall plgE (ev plgE 1000) 6 (plgArgs x) ⟨[], 0, []⟩ (fun _ _ => False) (fun v _ => TrueV v) := by
  rw [plg_vc]
  delta plgQ10 plgQ9 plgQ8 plgQ7 plgQ6 plgQ5 plgQ4 plgQ3 plgQ2 plgQ1
  obtain ⟨l, raw⟩ := x
  dsimp only at *
  refine ⟨(), trivial, fun _ _ => ⟨⟨l, 100⟩, rfl, rfl, trivial, fun _ _ => br_i (fun _ => rfl) fun hr _ => br_i (fun _ => rfl) fun hq => ?_⟩⟩
  rw [Bool.not_eq_false'] at hr
  have hL : okL l = true := room_okL hr (by show (100 : Int) ≤ 4000; omega) hl
  obtain ⟨l100, _⟩ := roomM_of hr
  have l100 : (l.length : Int) ≤ 100 := l100
  have hq : ¬ (raw.length : Int) > 40 := of_decide_eq_false hq
  refine ⟨⟨0, rfl, Nat.zero_le _, fun j hj => absurd hj (Nat.not_lt_zero _)⟩, fun i hi _ => br_i (fun h1 => ?_) (fun h1 => ?_)⟩
  · have h1 : (i : Int) < (raw.length : Int) := of_decide_eq_true h1
    have e0 : (i : Int).toNat = i := rfl
    have ec : raw.getD i ⟨0, 0, [], []⟩ = comAt raw i := rfl
    rw [e0, ec]
    refine br_t (decide_eq_true ⟨by omega, h1⟩) fun _ => br_i (fun _ => rfl) fun g => ⟨i + 1, by rw [wrap_id (by omega) (by omega)]; rfl, ⟨by omega, upto_succ hi.2 (by have := of_decide_eq_false g; omega)⟩, by show raw.length - (i + 1) < raw.length - i; omega⟩
  · have h1 : ¬ (i : Int) < (raw.length : Int) := of_decide_eq_false h1
    have hraw := leg_same (l := raw) fun j hj => by have := hi.2 j (by omega); omega
    have hok := cf0_ok hL
    have hin := fun i => runZ_in (by decide : okCf cf0.a cf0.z cf0.M = true) hL i
    have eF : RunA.f ⟨cf0, l⟩ = freshM cf0.a cf0.z cf0.M := rfl
    have hC : legL [] 0 (runF (freshM cf0.a cf0.z cf0.M) l).C = true := by
      obtain ⟨⟨n, hn, hG⟩, hS⟩ := hin l.length
      rw [List.take_length] at hG hS
      obtain ⟨d, d1, d2⟩ := hG.ok.c
      have hg := (goC_ok d (by omega)).ok
      rw [← d2] at hg
      rw [leg_same fun j hj => ?_, ok_legR hg]
      have := (fewG_of (hG.ok.few (by omega))).2.1 (comAt _ j) (getD_mem hj)
      omega
    refine ⟨raw, rfl, trivial, fun _ _ => ⟨raw, rfl, trivial, fun _ _ => br_f (by rw [hraw, beq_self_eq_true]; rfl) ⟨⟨cf0, l⟩, Nat.le_refl 3, rfl, rfl, rfl, rfl, rfl, rfl, rfl, rfl, rfl, rfl, hok, fun _ _ => ⟨_, rfl, trivial, fun _ _ => br_f ?_ ⟨⟨cf0, l⟩, Nat.le_refl 3, rfl, rfl, rfl, rfl, rfl, rfl, rfl, rfl, rfl, rfl, hok, fun _ _ => ⟨⟨0, rfl, Nat.zero_le _⟩, fun i hi _ => br_i (fun h2 => ?_) (fun _ => rfl)⟩⟩⟩⟩⟩⟩
    · dsimp only
      rw [eF, hC]; rfl
    have h2 : (i : Int) < (l.length : Int) := of_decide_eq_true h2
    have bi : decide ((0 : Int) ≤ (i : Int) ∧ (i : Int) < (l.length : Int)) = true := decide_eq_true ⟨by omega, h2⟩
    refine ⟨⟨0, rfl, Nat.zero_le _⟩, fun k hk => br_i (fun h3 => ?_) (fun h3 => ⟨i + 1, by rw [wrap_id (by omega) (by omega)]; rfl, by show i + 1 ≤ l.length; omega, by show l.length - (i + 1) < l.length - i; omega⟩)⟩
    have h3 : (k : Int) < (i : Int) := of_decide_eq_true h3
    have bk : decide ((0 : Int) ≤ (k : Int) ∧ (k : Int) < (l.length : Int)) = true := decide_eq_true ⟨by omega, by omega⟩
    have hvl : (verdF (RunA.f ⟨cf0, l⟩) l).length = l.length := verd_len _ _
    have vi : decide ((0 : Int) ≤ (i : Int) ∧ (i : Int) < ((verdF (RunA.f ⟨cf0, l⟩) l).length : Int)) = true := decide_eq_true ⟨by omega, by omega⟩
    have vk : decide ((0 : Int) ≤ (k : Int) ∧ (k : Int) < ((verdF (RunA.f ⟨cf0, l⟩) l).length : Int)) = true := decide_eq_true ⟨by omega, by omega⟩
    have nx : ∃ x : Nat, IntKind.i64.wrap ((k : Int) + 1) = (x : Int) ∧ Nat.le x i ∧ Nat.sub i x < Nat.sub i k := ⟨k + 1, by rw [wrap_id (by omega) (by omega)]; rfl, by show k + 1 ≤ i; omega, by show i - (k + 1) < i - k; omega⟩
    refine br_t bi (br_i (fun ki => br_t bk (br_i (fun kk => br_t bi (br_t bk (br_i (fun es => br_t bi (br_t bk (br_i (fun eq => br_t vi (br_i (fun ci => br_t vk (br_i (fun ck => br_t vi (br_t vk (br_f ?_ nx))) (fun _ => nx))) (fun _ => nx))) (fun _ => nx)))) (fun _ => nx)))) (fun _ => nx))) (fun _ => nx))
    have ki : (l.getD i noR0).kind > 1 := of_decide_eq_true ki
    have kk : (l.getD k noR0).kind > 1 := of_decide_eq_true kk
    have es : (l.getD i noR0).session = (l.getD k noR0).session := eq_of_beq es
    have eq : (l.getD i noR0).seq = (l.getD k noR0).seq := eq_of_beq eq
    have hvi := verd_get (x := freshM cf0.a cf0.z cf0.M) (l := l) (i := i) (by omega) ⟨0, 0, 0, [], 0, [], 0⟩
    have hvk := verd_get (x := freshM cf0.a cf0.z cf0.M) (l := l) (i := k) (by omega) ⟨0, 0, 0, [], 0, [], 0⟩
    have ci : ((verdF (freshM cf0.a cf0.z cf0.M) l).getD i ⟨0, 0, 0, [], 0, [], 0⟩).code = 2 := eq_of_beq ci
    have ck : ((verdF (freshM cf0.a cf0.z cf0.M) l).getD k ⟨0, 0, 0, [], 0, [], 0⟩).code = 2 := eq_of_beq ck
    show (((verdF (freshM cf0.a cf0.z cf0.M) l).getD i ⟨0, 0, 0, [], 0, [], 0⟩).rev != ((verdF (freshM cf0.a cf0.z cf0.M) l).getD k ⟨0, 0, 0, [], 0, [], 0⟩).rev) = false
    rw [hvi] at ci ⊢
    rw [hvk] at ck ⊢
    obtain ⟨⟨_, _, hG⟩, _⟩ := hin k
    have hF : idsLe (freshM cf0.a cf0.z cf0.M) := ⟨Int.le_refl _, fun e he => absurd he List.not_mem_nil⟩
    have kz : ∀ {a : Int}, a > 1 → (a == 0) = false ∧ (a == 1) = false := fun {a} h => ⟨beq_eq_false_iff_ne.2 (by omega), beq_eq_false_iff_ne.2 (by omega)⟩
    have hk1 := keeps_new hG.ds (idsLe.run (l.take k) hF) (kz kk).1 (kz kk).2 ck
    rw [← run_at (by omega : k < l.length)] at hk1
    have hk2 := keeps.run ((l.drop (k + 1)).take (i - (k + 1))) hk1
    rw [run_more _ _ (by omega : k + 1 ≤ i), ← es, ← eq] at hk2
    rw [keeps_use hk2 (kz ki).1 (kz ki).2 ci]
    exact bne_self_eq_false _
end Go.Proofs.YtgepebndihfnfaaGreat.Ses

namespace Go.Proofs.YtgepebndihfnfaaGreat.Ses
open Go Go.Proofs Go.Proofs.YtgepebndihfnfaaGreat.Sx
section
variable {H : Type} {en : TypeId × Value → H} {w : World}
theorem op_commit : Opens en Tryz.prog w 49 (enc .commit) :=
  (opens_struct Tryz.underlying49 (by kernel_rfl) (opensF_cons (sz := 1) rfl (by kernel_rfl) (opens_int Tryz.underlying3) (opensF_cons (sz := 1) rfl (by kernel_rfl) (opens_int Tryz.underlying3) (opensF_cons (sz := 1) rfl (by kernel_rfl) (opens_str Tryz.underlying9) (opensF_cons (sz := 1) rfl (by kernel_rfl) op_changes opensF_nil))))).map
    (fun a => (⟨a.1, a.2.1, a.2.2.1, a.2.2.2.1⟩ : CommitD)) (fun _ => rfl)
theorem op_commits : Opens en Tryz.prog w 36 (fun l : List CommitD => [.rslice false .commit l]) := opens_slice (c := .commit) Tryz.underlying36 op_commit (by kernel_rfl) (by kernel_rfl)
end
end Go.Proofs.YtgepebndihfnfaaGreat.Ses
