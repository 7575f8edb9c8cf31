/- The laws MachineOnce and MachineApplies: what the evaluator leaves, and that it holds. No condition. -/
import Derived.Test.YtgepebndihfnfaaGreatMgF
import Derived.KernelRfl
set_option linter.unusedSimpArgs false
set_option linter.unusedVariables false

namespace Go.Proofs.YtgepebndihfnfaaGreat.Ses
open Go Go.Proofs Go.Proofs.YtgepebndihfnfaaGreat.Sx
structure OncA where
  l : List RequestD
  q : RequestD
structure AppA where
  c : CfgD
  l : List RequestD
def appArgs (x : AppA) : List SV := [x.c.sv, .rslice false .request x.l]
noncomputable def appI : St → LInv := fun s => match macAt s 5, rmcAt s 7, getE s.env 1 with
  | some ⟨x, m, g, c, k, t, sr, e, er⟩, some ⟨_, m', a', b', c', t', sr', e', er'⟩, .rslice _ .request l => { σ := Nat, I := fun i => i ≤ l.length, μ := fun i => l.length - i, env := fun i => [(9, .int .i64 i)], blk := fun i => mB (runF x (l.take i)) m g s.m.next k t (s.m.next + 1) e (s.m.next + 2) ++ rmB (runF x (l.take i)) m' (s.m.next + 3) (s.m.next + 4) (s.m.next + 5) t' (s.m.next + 6) e' (s.m.next + 7), fresh := 8, drop := [c, sr, er, a', b', c', sr', er'] }
  | _, _, _ => LInv.none
noncomputable def appE : Envr := Env Tryz.prog cod [(49, aw8T.spec), (20, mroomT.spec), (56, altSpec new1T new2T), (57, altSpec rnew1T new2T), (58, peekT.spec), (47, rpeekT.spec), (24, applyT.spec), (48, rappT.spec), (23, alikeT.spec), (59, looks8T.spec)] [(12, appI)]
end Go.Proofs.YtgepebndihfnfaaGreat.Ses

namespace Go.Proofs.YtgepebndihfnfaaGreat.Ses
open Go Go.Proofs Go.Proofs.YtgepebndihfnfaaGreat.Sx
set_option maxRecDepth 100000
abbrev appQ1 (x5 : CfA) (x9 : Nat) (x : AppA) := runF (freshM x5.a x5.z x5.M) (List.take x9 (AppA.l x))
abbrev appQ2 (x10 : Nat) (x : AppA) := decide ((0 : Int) ≤ (↑x10 : Int) ∧
(↑x10 : Int) < (↑(AppA.l x).length : Int))
abbrev appQ3 (x : AppA) (x10 : Nat) := List.getD (AppA.l x) (↑x10 : Int).toNat RequestD.dflt
abbrev appQ4 (x26 : CfA) := okCf x26.a x26.z x26.M = false
abbrev appQ5  := ∀ x27 : Unit, True →
false = true
theorem app_vc (x : AppA) : evCall appE (ev appE 1000) 14 (appArgs x) ⟨[], 0, []⟩ (fun _ _ => False) (fun v _ => TrueV v) = (
∃ x1 : Unit, True ∧
∀ x2 : Unit, True →
(CfgD.M (AppA.c x)).length * 8 ≤ room47 →
br (decide ((↑(CfgD.M (AppA.c x)).length : Int) > (100 : Int))) (true = true) (∃ x3 : RmA, AppA.l x = x3.l ∧
(100 : Int) = x3.most ∧
True ∧
∀ x4 : Unit, True →
br (roomM x3.l x3.most).not (true = true) (Or (∃ x5 : CfA, CfgD.M (AppA.c x) = x5.M ∧
CfgD.a (AppA.c x) = x5.a ∧
CfgD.z (AppA.c x) = x5.z ∧
okCf x5.a x5.z x5.M = true ∧
∀ x6 : Unit, True →
Or (∃ x7 : CfA, CfgD.M (AppA.c x) = x7.M ∧
CfgD.a (AppA.c x) = x7.a ∧
CfgD.z (AppA.c x) = x7.z ∧
okCf x7.a x7.z x7.M = true ∧
∀ x8 : Unit, True →
(∃ x9 : Nat, (0 : Int) = (↑x9 : Int) ∧
EqM (freshM x5.a x5.z x5.M) (appQ1 x5 x9 x) (EqN (freshM x7.a x7.z x7.M) (appQ1 x5 x9 x) (Nat.le x9 (AppA.l x).length))) ∧
∀ x10 : Nat, Nat.le x10 (AppA.l x).length →
(AppA.l x).length * 128 ≤ room47 →
br (decide ((↑x10 : Int) < (↑(AppA.l x).length : Int))) (br (appQ2 x10 x) (br (appQ2 x10 x) (∃ x11 : MacA, EqQ (appQ3 x x10) x11.r (EqM (appQ1 x5 x10 x) x11.x ((fewG x11.x.C = true ∧
okRq x11.r = true) ∧
∀ x12 : Unit, True →
∃ x13 : MacA, EqQ (appQ3 x x10) x13.r (EqN (appQ1 x5 x10 x) x13.x (okRm x13.x x13.r = true ∧
∀ x14 : Unit, True →
∃ x15 : Ver2, EqV (peekM x11.x x11.r) x15.a (EqV (peekM x13.x x13.r) x15.b (True ∧
∀ x16 : Unit, True →
br (eqV x15.a x15.b).not (false = true) (br (appQ2 x10 x) (br (appQ2 x10 x) (∃ x17 : MacA, EqQ (appQ3 x x10) x17.r (EqM x11.x x17.x ((okMS x17.x = true ∧
okRq x17.r = true) ∧
∀ x18 : Unit, True →
∃ x19 : MacA, EqQ (appQ3 x x10) x19.r (EqN x13.x x19.x (okRm x19.x x19.r = true ∧
∀ x20 : Unit, True →
∃ x21 : Ver2, EqV (applyM x17.x x17.r).1 x21.a (EqV (applyM x19.x x19.r).1 x21.b (True ∧
∀ x22 : Unit, True →
br (eqV x21.a x21.b).not (false = true) (∃ x23 : MacS, EqM (applyM x17.x x17.r).2 x23 (EqN (applyM x19.x x19.r).2 x23 (okLk x23 = true ∧
∀ x24 : Unit, True →
∃ x25 : Nat, IntKind.wrap IntKind.i64 ((↑x10 : Int) + (1 : Int)) = (↑x25 : Int) ∧
EqM x23 (appQ1 x5 x25 x) (EqN x23 (appQ1 x5 x25 x) (Nat.le x25 (AppA.l x).length ∧
Nat.sub (AppA.l x).length x25 < Nat.sub (AppA.l x).length x10)))))))))))) (Bad "check" "law.go:96")) (Bad "check" "law.go:96"))))))))) (Bad "check" "law.go:96")) (Bad "check" "law.go:96")) (true = true)) (∃ x26 : CfA, CfgD.M (AppA.c x) = x26.M ∧
CfgD.a (AppA.c x) = x26.a ∧
CfgD.z (AppA.c x) = x26.z ∧
appQ4 x26 ∧
appQ5)) (∃ x28 : CfA, CfgD.M (AppA.c x) = x28.M ∧
CfgD.a (AppA.c x) = x28.a ∧
CfgD.z (AppA.c x) = x28.z ∧
appQ4 x28 ∧
∀ x29 : Unit, True →
Or (∃ x30 : CfA, CfgD.M (AppA.c x) = x30.M ∧
CfgD.a (AppA.c x) = x30.a ∧
CfgD.z (AppA.c x) = x30.z ∧
okCf x30.a x30.z x30.M = true ∧
appQ5) (∃ x32 : CfA, CfgD.M (AppA.c x) = x32.M ∧
CfgD.a (AppA.c x) = x32.a ∧
CfgD.z (AppA.c x) = x32.z ∧
appQ4 x32 ∧
∀ x33 : Unit, True →
true = true))))) := by kernel_rfl
end Go.Proofs.YtgepebndihfnfaaGreat.Ses

namespace Go.Proofs.YtgepebndihfnfaaGreat.Ses
open Go Go.Proofs Go.Proofs.YtgepebndihfnfaaGreat.Sx
theorem MOk.el {a z : Int} {n : Nat} {x : MacS} (h : MOk a z n x) (hn : n ≤ 4000) : okEl x.E = true := by
  have h1 := h.e1
  have h2 := h.eM
  unfold okEl
  rw [decide_eq_true h1, decide_eq_true (by omega), List.all_eq_true.2 fun p hp => (h.em p hp).1]; rfl
theorem MOk.lk {a z : Int} {n : Nat} {x : MacS} (h : MOk a z n x) (hn : n ≤ 4000) : okLk x = true := by
  unfold okLk
  rw [h.ok hn, h.el hn]; rfl
theorem room_okL {l : List RequestD} {m : Int} (h : roomM l m = true) (hm : m ≤ 4000) (hi : ∀ r, r ∈ l → inI r.from_ = true) : okL l = true := by
  obtain ⟨h1, h2⟩ := roomM_of h
  unfold okL
  rw [decide_eq_true (by omega : l.length ≤ 4000), List.all_eq_true.2 fun r hr => by
    obtain ⟨a, b⟩ := okR_of (h2 r hr) (hi r hr)
    rw [a, b]; rfl]; rfl
theorem app_ok : EnvOK appE := Env_ok (by decide +kernel) (by
  intro p hp
  simp only [List.mem_cons, List.mem_nil_iff, or_false] at hp
  rcases hp with rfl | rfl | rfl | rfl | rfl | rfl | rfl | rfl | rfl | rfl
  · exact aw8_ok
  · exact mroom_ok
  · exact altSpec_ok new1_ok new2_ok
  · exact altSpec_ok rnew1_ok rnew2_ok
  · exact peek_ok
  · exact rpeek_ok
  · exact apply_ok echg_ok
  · exact rapp_ok
  · exact alike_ok
  · exact looks8_ok)
set_option maxHeartbeats 0 in
theorem app_body (x : AppA) (hl : ∀ r, r ∈ x.l → inI r.from_ = true) : evCall appE (ev appE 1000) 14 (appArgs x) ⟨[], 0, []⟩ (fun _ _ => False) (fun v _ => TrueV v) := by
  rw [app_vc]
  delta appQ5 appQ4 appQ3 appQ2 appQ1 EqM EqN EqR EqQ EqV EqG EqT EqR6
  obtain ⟨c, l⟩ := x
  dsimp only at *
  refine ⟨(), trivial, fun _ _ _ => br_i (fun _ => rfl) fun _ => ⟨⟨l, 100⟩, rfl, rfl, trivial, fun _ _ => br_i (fun _ => rfl) fun hr => ?_⟩⟩
  rw [Bool.not_eq_false'] at hr
  have hL : okL l = true := room_okL hr (by show (100 : Int) ≤ 4000; omega) hl
  obtain ⟨l100, _⟩ := roomM_of hr
  have l100 : (l.length : Int) ≤ 100 := l100
  cases hcf : okCf c.a c.z c.M
  · exact .inr ⟨⟨c.M, c.a, c.z⟩, rfl, rfl, rfl, hcf, fun _ _ => .inr ⟨⟨c.M, c.a, c.z⟩, rfl, rfl, rfl, hcf, fun _ _ => rfl⟩⟩
  refine .inl ⟨⟨c.M, c.a, c.z⟩, rfl, rfl, rfl, hcf, fun _ _ => .inl ⟨⟨c.M, c.a, c.z⟩, rfl, rfl, rfl, hcf, fun _ _ => ?_⟩⟩
  dsimp only
  have hin := fun i => runZ_in hcf hL i
  generalize freshM c.a c.z c.M = F at hin ⊢
  refine ⟨⟨0, (by repeat' (first | exact Nat.zero_le _ | refine And.intro ?_ ?_ | rfl))⟩, fun i hi _ => br_i (fun h1 => ?_) (fun _ => rfl)⟩
  have h1 := of_decide_eq_true h1
  have bi : decide ((0 : Int) ≤ (i : Int) ∧ (i : Int) < (l.length : Int)) = true := decide_eq_true ⟨by omega, h1⟩
  have e0 : (i : Int).toNat = i := rfl
  rw [e0]
  have eg : l.getD i RequestD.dflt = l.getD i noR0 := rfl
  rw [eg]
  have hgo := run_at (x := F) (l := l) (i := i) (by omega)
  obtain ⟨⟨n, hn, hG⟩, hS⟩ := hin i
  obtain ⟨⟨n', hn', hG'⟩, _⟩ := hin (i + 1)
  obtain ⟨okr, okf⟩ := (okL_of hL).2 (l.getD i noR0) (getD_mem (by omega))
  have okm := hG.ok.ok (by omega)
  have okR := hG.ok.okr (by omega) hS okr okf
  have few := hG.ok.few (by omega)
  have okl := hG'.ok.lk (by omega)
  rw [hgo] at okl
  generalize l.getD i noR0 = r at hgo okr okR okl ⊢
  generalize runF F (l.take i) = y at hgo okm okR few okl ⊢
  have hw : IntKind.i64.wrap ((i : Int) + 1) = ((i + 1 : Nat) : Int) := by rw [wrap_id (by omega) (by omega)]; rfl
  have hle : (i + 1).le l.length := by show i + 1 ≤ l.length; omega
  have hms : l.length.sub (i + 1) < l.length.sub i := by show l.length - (i + 1) < l.length - i; omega
  have nv : ∀ v : VerdictD, (!(eqV v v)) = false := fun v => by rw [eqV_self]; rfl
  refine br_t bi (br_t bi ⟨⟨y, r⟩, rfl, rfl, rfl, rfl, rfl, rfl, rfl, rfl, rfl, rfl, rfl, rfl, rfl, rfl, rfl, rfl, rfl, rfl, rfl, rfl, rfl, rfl, rfl, rfl, rfl, rfl, rfl, ⟨few, okr⟩, fun _ _ => ⟨⟨y, r⟩, rfl, rfl, rfl, rfl, rfl, rfl, rfl, rfl, rfl, rfl, rfl, rfl, rfl, rfl, rfl, rfl, rfl, rfl, rfl, rfl, rfl, rfl, rfl, rfl, rfl, rfl, rfl, rfl, rfl, okR, fun _ _ => ⟨⟨peekM y r, peekM y r⟩, rfl, rfl, rfl, rfl, rfl, rfl, rfl, rfl, rfl, rfl, rfl, rfl, rfl, rfl, trivial, fun _ _ => br_f (nv _) (br_t bi (br_t bi
    ⟨⟨y, r⟩, rfl, rfl, rfl, rfl, rfl, rfl, rfl, rfl, rfl, rfl, rfl, rfl, rfl, rfl, rfl, rfl, rfl, rfl, rfl, rfl, rfl, rfl, rfl, rfl, rfl, rfl, rfl, ⟨okm, okr⟩, fun _ _ => ⟨⟨y, r⟩, rfl, rfl, rfl, rfl, rfl, rfl, rfl, rfl, rfl, rfl, rfl, rfl, rfl, rfl, rfl, rfl, rfl, rfl, rfl, rfl, rfl, rfl, rfl, rfl, rfl, rfl, rfl, rfl, rfl, okR, fun _ _ => ⟨⟨(applyM y r).1, (applyM y r).1⟩, rfl, rfl, rfl, rfl, rfl, rfl, rfl, rfl, rfl, rfl, rfl, rfl, rfl, rfl, trivial, fun _ _ => br_f (nv _) ⟨(applyM y r).2, rfl, rfl, rfl, rfl, rfl, rfl, rfl, rfl, rfl, rfl, rfl, rfl, rfl, rfl, rfl, rfl, rfl, rfl, rfl, rfl, rfl, rfl, rfl, rfl, rfl, rfl, rfl, rfl, rfl, rfl, rfl, rfl, rfl, rfl, okl, fun _ _ => ⟨i + 1, hw, ?_⟩⟩⟩⟩⟩))⟩⟩⟩)
  rw [hgo]
  exact (by repeat' (first | exact hle | exact hms | refine And.intro ?_ ?_ | rfl))
end Go.Proofs.YtgepebndihfnfaaGreat.Ses
