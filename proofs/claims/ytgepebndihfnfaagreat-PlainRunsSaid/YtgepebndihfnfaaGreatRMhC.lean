/- The laws PlainFirst, PlainRuns, PlainParts: what the evaluator leaves, and that it holds. No condition. -/
import Derived.Test.YtgepebndihfnfaaGreatRMhB
import Derived.KernelRfl
set_option linter.unusedSimpArgs false
set_option linter.unusedVariables false

namespace Go.Proofs.YtgepebndihfnfaaGreat.Ses
open Go Go.Proofs Go.Proofs.YtgepebndihfnfaaGreat.Sx
structure PfiA where
  l : List RequestD
  r : RequestD
structure PruA where
  c : CfgD
  l : List RequestD
  r : RequestD
def pruArgs (x : PruA) : List SV := [x.c.sv, .rslice false .request x.l, .agg x.r.enc]
noncomputable def pruI : St → LInv := fun s => match getE s.env 8, getE s.env 11 with
  | .rslice _ .verdict v, .rslice _ .verdict _ => { σ := Nat, I := fun i => i ≤ v.length, μ := fun i => v.length - i, env := fun i => [(13, .int .i64 i)], blk := fun _ => [], fresh := 0, drop := [] }
  | _, _ => LInv.none
noncomputable def pruE : Envr := Env Tryz.prog cod [(19, pawT.spec), (20, mroomT.spec), (26, firT.spec), (34, firT.spec), (21, altSpec prun1T prun2T), (32, altSpec rrun1T prun2T), (30, altSpec pcom1T pcom2T), (23, alikeT.spec), (59, looks8T.spec), (61, scomsT.spec)] [(10, pruI)]
structure PpaA where
  l : List RequestD
  k : Int
end Go.Proofs.YtgepebndihfnfaaGreat.Ses

namespace Go.Proofs.YtgepebndihfnfaaGreat.Ses
open Go Go.Proofs Go.Proofs.YtgepebndihfnfaaGreat.Sx
set_option maxRecDepth 100000
abbrev pruQ1 (x7 : RunA) := (verdF (RunA.f x7) (RunA.l x7)).length
abbrev pruQ2 (x16 : Nat) (x7 : RunA) := decide ((0 : Int) ≤ (↑x16 : Int) ∧
(↑x16 : Int) < (↑(pruQ1 x7) : Int))
abbrev pruQ3 (x7 : RunA) (x16 : Nat) := List.getD (verdF (RunA.f x7) (RunA.l x7)) (↑x16 : Int).toNat (VerdictD.mk (0 : Int) (0 : Int) (0 : Int) ([] : List UInt8) (0 : Int) ([] : List CommitD) (0 : Int))
abbrev pruQ4 (x20 : RunA) := runF (RunA.f x20) (RunA.l x20)
abbrev pruQ5 (x22 : MacS) (x24 : Com2) := 0 + x22.C.length ≤ x22.C.length ∧
List.take x22.C.length (List.drop 0 x22.C) = x24.b ∧
True ∧
∀ x25 : Unit, True →
sameM x24.a x24.b = true
abbrev pruQ6 (x26 : RunA) := okCf (CfgD.a (RunA.c x26)) (CfgD.z (RunA.c x26)) (CfgD.M (RunA.c x26)) = false
abbrev pruQ7  := ∀ x33 : Unit, True →
false = true
abbrev pruQ8  := ([] : List VerdictD).length * 80 ≤ room47
theorem pru_vc (x : PruA) : evCall pruE (ev pruE 1000) 16 (pruArgs x) ⟨[], 0, []⟩ (fun _ _ => False) (fun v _ => TrueV v) = (
∃ x1 : Unit, True ∧
∀ x2 : Unit, True →
(CfgD.M (PruA.c x)).length * 8 ≤ room47 →
br (decide ((↑(CfgD.M (PruA.c x)).length : Int) > (100 : Int))) (true = true) (∃ x3 : RmA, PruA.l x = x3.l ∧
(100 : Int) = x3.most ∧
True ∧
∀ x4 : Unit, True →
br (roomM x3.l x3.most).not (true = true) (∃ x5 : RmA, 0 + 1 ≤ [PruA.r x].length ∧
List.take 1 (List.drop 0 [PruA.r x]) = x5.l ∧
(1 : Int) = x5.most ∧
True ∧
∀ x6 : Unit, True →
br (roomM x5.l x5.most).not (true = true) (Or (∃ x7 : RunA, EqF (PruA.c x) (RunA.c x7) (PruA.l x = RunA.l x7 ∧
RunA.ok x7 = true ∧
∀ x8 : Unit, True →
Or (∃ x9 : RunA, EqF (PruA.c x) (RunA.c x9) (PruA.l x = RunA.l x9 ∧
RunA.ok x9 = true ∧
∀ x10 : Unit, True →
pruQ1 x7 * 80 ≤ room47 →
pruQ1 x9 * 80 ≤ room47 →
br ((↑(pruQ1 x7) : Int) != (↑(pruQ1 x9) : Int)) (false = true) (∃ x11 : FirA, PruA.l x = x11.l ∧
EqQ (PruA.r x) x11.r (True ∧
∀ x12 : Unit, True →
∃ x13 : FirA, PruA.l x = x13.l ∧
EqQ (PruA.r x) x13.r (True ∧
∀ x14 : Unit, True →
br (idxR x11.r x11.l != idxR x13.r x13.l) (false = true) ((∃ x15 : Nat, (0 : Int) = (↑x15 : Int) ∧
Nat.le x15 (pruQ1 x7)) ∧
∀ x16 : Nat, Nat.le x16 (pruQ1 x7) →
pruQ1 x7 * 80 ≤ room47 →
br (decide ((↑x16 : Int) < (↑(pruQ1 x7) : Int))) (br (pruQ2 x16 x7) (br (pruQ2 x16 x9) (∃ x17 : Ver2, EqV (pruQ3 x7 x16) x17.a (EqV (pruQ3 x9 x16) x17.b (True ∧
∀ x18 : Unit, True →
br (eqV x17.a x17.b).not (false = true) (∃ x19 : Nat, IntKind.wrap IntKind.i64 ((↑x16 : Int) + (1 : Int)) = (↑x19 : Int) ∧
Nat.le x19 (pruQ1 x7) ∧
Nat.sub (pruQ1 x7) x19 < Nat.sub (pruQ1 x7) x16)))) (Bad "check" "law.go:45")) (Bad "check" "law.go:45")) (Or (∃ x20 : RunA, EqF (PruA.c x) (RunA.c x20) (PruA.l x = RunA.l x20 ∧
RunA.ok x20 = true ∧
∀ x21 : Unit, True →
∃ x22 : MacS, EqM (runF (RunA.f x7) (RunA.l x7)) x22 (EqN (runF (RunA.f x9) (RunA.l x9)) x22 (okLk x22 = true ∧
∀ x23 : Unit, True →
∃ x24 : Com2, (pruQ4 x20).C = x24.a ∧
pruQ5 x22 x24)))) (∃ x26 : RunA, EqF (PruA.c x) (RunA.c x26) (PruA.l x = RunA.l x26 ∧
pruQ6 x26 ∧
∀ x27 : Unit, True →
∃ x28 : MacS, EqM (pruQ4 x7) x28 (EqN (pruQ4 x9) x28 (okLk x28 = true ∧
∀ x29 : Unit, True →
∃ x30 : Com2, ([] : List CommitD) = x30.a ∧
pruQ5 x28 x30))))))))))) (∃ x32 : RunA, EqF (PruA.c x) (RunA.c x32) (PruA.l x = RunA.l x32 ∧
pruQ6 x32 ∧
pruQ7)))) (∃ x34 : RunA, EqF (PruA.c x) (RunA.c x34) (PruA.l x = RunA.l x34 ∧
pruQ6 x34 ∧
∀ x35 : Unit, True →
Or (∃ x36 : RunA, EqF (PruA.c x) (RunA.c x36) (PruA.l x = RunA.l x36 ∧
RunA.ok x36 = true ∧
pruQ7)) (∃ x38 : RunA, EqF (PruA.c x) (RunA.c x38) (PruA.l x = RunA.l x38 ∧
pruQ6 x38 ∧
∀ x39 : Unit, True →
pruQ8 →
pruQ8 →
∃ x40 : FirA, PruA.l x = x40.l ∧
EqQ (PruA.r x) x40.r (True ∧
∀ x41 : Unit, True →
∃ x42 : FirA, PruA.l x = x42.l ∧
EqQ (PruA.r x) x42.r (True ∧
∀ x43 : Unit, True →
br (idxR x40.r x40.l != idxR x42.r x42.l) (false = true) ((∃ x44 : Nat, (0 : Int) = (↑x44 : Int) ∧
Nat.le x44 ([] : List VerdictD).length) ∧
∀ x45 : Nat, Nat.le x45 ([] : List VerdictD).length →
pruQ8 →
Or (∃ x46 : RunA, EqF (PruA.c x) (RunA.c x46) (PruA.l x = RunA.l x46 ∧
RunA.ok x46 = true ∧
∀ x47 : Unit, True →
(pruQ4 x46).C.length * 56 ≤ room47 →
((↑(pruQ4 x46).C.length : Int) == (0 : Int)) = true)) (∃ x48 : RunA, EqF (PruA.c x) (RunA.c x48) (PruA.l x = RunA.l x48 ∧
pruQ6 x48 ∧
∀ x49 : Unit, True →
([] : List CommitD).length * 56 ≤ room47 →
((↑([] : List CommitD).length : Int) == (0 : Int)) = true))))))))))))) := by kernel_rfl
end Go.Proofs.YtgepebndihfnfaaGreat.Ses

namespace Go.Proofs.YtgepebndihfnfaaGreat.Ses
open Go Go.Proofs Go.Proofs.YtgepebndihfnfaaGreat.Sx
end Go.Proofs.YtgepebndihfnfaaGreat.Ses

namespace Go.Proofs.YtgepebndihfnfaaGreat.Ses
open Go Go.Proofs Go.Proofs.YtgepebndihfnfaaGreat.Sx
theorem ok_lk {x : RunA} (h : x.ok = true) : okLk (runF x.f x.l) = true := by
  obtain ⟨h1, h2⟩ := ok_of h
  obtain ⟨⟨n, hn, hG⟩, _⟩ := runZ_in h1 h2 x.l.length
  rw [List.take_length] at hG
  exact hG.ok.lk (by have := (okL_of h2).1; omega)
theorem pru_ok : EnvOK pruE := Env_ok (by decide +kernel) (by
  intro p hp
  simp only [List.mem_cons, List.mem_nil_iff, or_false] at hp
  rcases hp with rfl | rfl | rfl | rfl | rfl | rfl | rfl | rfl | rfl | rfl
  · exact paw_ok
  · exact mroom_ok
  · exact fir_ok
  · exact rfir_ok
  · exact altSpec_ok prun1_ok prun2_ok
  · exact altSpec_ok rrun1_ok rrun2_ok
  · exact altSpec_ok pcom1_ok pcom2_ok
  · exact alike_ok
  · exact looks8_ok
  · exact scoms_ok)
set_option maxHeartbeats 0 in
theorem pru_body (x : PruA) (hl : ∀ r, r ∈ x.l → inI r.from_ = true) : evCall pruE (ev pruE 1000) 16 (pruArgs x) ⟨[], 0, []⟩ (fun _ _ => False) (fun v _ => TrueV v) := by
  rw [pru_vc]
  delta pruQ8 pruQ7 pruQ6 pruQ5 pruQ4 pruQ3 pruQ2 pruQ1 EqM EqN EqR EqF EqQ EqV EqG EqT EqR6
  obtain ⟨c, l, r⟩ := x
  dsimp only at *
  refine ⟨(), trivial, fun _ _ _ => br_i (fun _ => rfl) fun _ => ⟨⟨l, 100⟩, rfl, rfl, trivial, fun _ _ => br_i (fun _ => rfl) fun hr => ⟨⟨[r], 1⟩, Nat.le_refl 1, rfl, rfl, trivial, fun _ _ => br_i (fun _ => rfl) fun _ => ?_⟩⟩⟩
  rw [Bool.not_eq_false'] at hr
  have hL : okL l = true := room_okL hr (by show (100 : Int) ≤ 4000; omega) hl
  cases hcf : okCf c.a c.z c.M
  · exact .inr ⟨⟨c, l⟩, rfl, rfl, rfl, rfl, rfl, rfl, rfl, rfl, rfl, rfl, hcf, fun _ _ => .inr ⟨⟨c, l⟩, rfl, rfl, rfl, rfl, rfl, rfl, rfl, rfl, rfl, rfl, hcf, fun _ _ => fun _ _ => ⟨⟨l, r⟩, rfl, rfl, rfl, rfl, rfl, rfl, rfl, rfl, rfl, rfl, rfl, rfl, trivial, fun _ _ => ⟨⟨l, r⟩, rfl, rfl, rfl, rfl, rfl, rfl, rfl, rfl, rfl, rfl, rfl, rfl, trivial, fun _ _ => br_f (bne_self_eq_false _) ⟨⟨0, rfl, Nat.zero_le _⟩, fun i _ _ => .inr ⟨⟨c, l⟩, rfl, rfl, rfl, rfl, rfl, rfl, rfl, rfl, rfl, rfl, hcf, fun _ _ => fun _ => rfl⟩⟩⟩⟩⟩⟩
  have hok : RunA.ok ⟨c, l⟩ = true := by
    show (okCf c.a c.z c.M && okL l) = true
    rw [hcf, hL]; rfl
  have hlk := ok_lk hok
  have nv : ∀ v : VerdictD, (!(eqV v v)) = false := fun v => by rw [eqV_self]; rfl
  refine .inl ⟨⟨c, l⟩, rfl, rfl, rfl, rfl, rfl, rfl, rfl, rfl, rfl, rfl, hok, fun _ _ => .inl ⟨⟨c, l⟩, rfl, rfl, rfl, rfl, rfl, rfl, rfl, rfl, rfl, rfl, hok, fun _ _ => fun h80 _ => br_f (bne_self_eq_false _) ⟨⟨l, r⟩, rfl, rfl, rfl, rfl, rfl, rfl, rfl, rfl, rfl, rfl, rfl, rfl, trivial, fun _ _ => ⟨⟨l, r⟩, rfl, rfl, rfl, rfl, rfl, rfl, rfl, rfl, rfl, rfl, rfl, rfl, trivial, fun _ _ => br_f (bne_self_eq_false _) ⟨⟨0, rfl, Nat.zero_le _⟩, fun i hi _ => br_i (fun h1 => ?_) (fun h1 => .inl ⟨⟨c, l⟩, rfl, rfl, rfl, rfl, rfl, rfl, rfl, rfl, rfl, rfl, hok, fun _ _ => ⟨_, rfl, rfl, rfl, rfl, rfl, rfl, rfl, rfl, rfl, rfl, rfl, rfl, rfl, rfl, rfl, rfl, rfl, rfl, rfl, rfl, rfl, rfl, rfl, rfl, rfl, rfl, rfl, rfl, rfl, rfl, rfl, rfl, rfl, rfl, hlk, fun _ _ => ⟨⟨_, _⟩, rfl, Nat.le_of_eq (Nat.zero_add _), rfl, trivial, fun _ _ => ?_⟩⟩⟩)⟩⟩⟩⟩⟩
  · have h1 : (i : Int) < ((verdF (RunA.f ⟨c, l⟩) l).length : Int) := of_decide_eq_true h1
    have h80 : (verdF (RunA.f ⟨c, l⟩) l).length * 80 ≤ room47 := h80
    have hw : IntKind.i64.wrap ((i : Int) + 1) = ((i + 1 : Nat) : Int) := by
      have : (verdF (RunA.f ⟨c, l⟩) l).length ≤ 1759218604441 := by unfold room47 at h80; omega
      rw [wrap_id (by omega) (by omega)]; rfl
    have bi : decide ((0 : Int) ≤ (i : Int) ∧ (i : Int) < ((verdF (RunA.f ⟨c, l⟩) l).length : Int)) = true := decide_eq_true ⟨by omega, h1⟩
    have hle : (i + 1).le (verdF (RunA.f ⟨c, l⟩) l).length := by
      show i + 1 ≤ _
      have h1 : (i : Int) < ((verdF (RunA.f ⟨c, l⟩) l).length : Int) := h1
      omega
    have hms : (verdF (RunA.f ⟨c, l⟩) l).length.sub (i + 1) < (verdF (RunA.f ⟨c, l⟩) l).length.sub i := by
      show (verdF (RunA.f ⟨c, l⟩) l).length - (i + 1) < (verdF (RunA.f ⟨c, l⟩) l).length - i
      have h1 : (i : Int) < ((verdF (RunA.f ⟨c, l⟩) l).length : Int) := h1
      omega
    exact br_t bi (br_t bi ⟨⟨_, _⟩, rfl, rfl, rfl, rfl, rfl, rfl, rfl, rfl, rfl, rfl, rfl, rfl, rfl, rfl, trivial, fun _ _ => br_f (nv _) ⟨i + 1, hw, hle, hms⟩⟩)
  · dsimp only
    rw [List.drop_zero, List.take_length]
    exact sameM_self _
end Go.Proofs.YtgepebndihfnfaaGreat.Ses

namespace Go.Proofs.YtgepebndihfnfaaGreat.Ses
open Go Go.Proofs Go.Proofs.YtgepebndihfnfaaGreat.Sx
end Go.Proofs.YtgepebndihfnfaaGreat.Ses
