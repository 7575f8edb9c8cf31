/- The laws MachineOnce and MachineApplies: what the evaluator leaves, and that it holds. No condition. -/
import Derived.Test.YtgepebndihfnfaaGreatMgF
import Derived.KernelRfl
set_option linter.unusedSimpArgs false
set_option linter.unusedVariables false

namespace Go.Proofs.YtgepebndihfnfaaGreat.Ses
open Go Go.Proofs Go.Proofs.YtgepebndihfnfaaGreat.Sx

structure OncA where
  l : List RequestD
  q : RequestD
def oncArgs (x : OncA) : List SV := [.rslice false .request x.l, .agg x.q.enc]
noncomputable def oncE : Envr := Env Tryz.prog cod [(49, aw8T.spec), (50, freshT.spec), (24, applyT.spec), (20, mroomT.spec), (51, headMT.spec), (52, unMT.spec), (23, alikeT.spec)] [(9, runL 6 5 0)]

structure AppA where
  c : CfgD
  l : List RequestD
end Go.Proofs.YtgepebndihfnfaaGreat.Ses

namespace Go.Proofs.YtgepebndihfnfaaGreat.Ses
open Go Go.Proofs Go.Proofs.YtgepebndihfnfaaGreat.Sx
set_option maxRecDepth 100000

theorem onc_vc (x : OncA) : evCall oncE (ev oncE 1000) 12 (oncArgs x) ⟨[], 0, []⟩ (fun _ _ => False) (fun v _ => TrueV v) = (
∃ x1 : Unit, True ∧
∀ x2 : Unit, True →
∃ x3 : RmA, OncA.l x = x3.l ∧
(100 : Int) = x3.most ∧
True ∧
∀ x4 : Unit, True →
br (roomM x3.l x3.most).not (true = true) (∃ x5 : RmA, 0 + 1 ≤ [OncA.q x].length ∧
List.take 1 (List.drop 0 [OncA.q x]) = x5.l ∧
(1 : Int) = x5.most ∧
True ∧
∀ x6 : Unit, True →
br (roomM x5.l x5.most).not (true = true) (∃ x7 : Unit, True ∧
∀ x8 : Unit, True →
(∃ x9 : Nat, (0 : Int) = (↑x9 : Int) ∧
fresh0.alpha = (runF fresh0 (List.take x9 (OncA.l x))).alpha ∧
fresh0.size = (runF fresh0 (List.take x9 (OncA.l x))).size ∧
fresh0.applied = (runF fresh0 (List.take x9 (OncA.l x))).applied ∧
0 = 0 ∧
fresh0.C.length = (runF fresh0 (List.take x9 (OncA.l x))).C.length ∧
treeC fresh0.C = treeC (runF fresh0 (List.take x9 (OncA.l x))).C ∧
fresh0.C = (runF fresh0 (List.take x9 (OncA.l x))).C ∧
kvC fresh0.C = kvC (runF fresh0 (List.take x9 (OncA.l x))).C ∧
fresh0.size = (runF fresh0 (List.take x9 (OncA.l x))).size ∧
0 = 0 ∧
fresh0.S.length = (runF fresh0 (List.take x9 (OncA.l x))).S.length ∧
fresh0.S = (runF fresh0 (List.take x9 (OncA.l x))).S ∧
fresh0.alpha = (runF fresh0 (List.take x9 (OncA.l x))).alpha ∧
0 = 0 ∧
fresh0.E.length = (runF fresh0 (List.take x9 (OncA.l x))).E.length ∧
fresh0.E = (runF fresh0 (List.take x9 (OncA.l x))).E ∧
Nat.le x9 (OncA.l x).length) ∧
∀ x10 : Nat, Nat.le x10 (OncA.l x).length →
(OncA.l x).length * 128 ≤ room47 →
br (decide ((↑x10 : Int) < (↑(OncA.l x).length : Int))) (br (decide ((0 : Int) ≤ (↑x10 : Int) ∧
(↑x10 : Int) < (↑(OncA.l x).length : Int))) (∃ x11 : MacA, (List.getD (OncA.l x) (↑x10 : Int).toNat RequestD.dflt).kind = x11.r.kind ∧
(List.getD (OncA.l x) (↑x10 : Int).toNat RequestD.dflt).name = x11.r.name ∧
(List.getD (OncA.l x) (↑x10 : Int).toNat RequestD.dflt).session = x11.r.session ∧
(List.getD (OncA.l x) (↑x10 : Int).toNat RequestD.dflt).seq = x11.r.seq ∧
(List.getD (OncA.l x) (↑x10 : Int).toNat RequestD.dflt).base = x11.r.base ∧
(List.getD (OncA.l x) (↑x10 : Int).toNat RequestD.dflt).ref = x11.r.ref ∧
(List.getD (OncA.l x) (↑x10 : Int).toNat RequestD.dflt).changes = x11.r.changes ∧
(List.getD (OncA.l x) (↑x10 : Int).toNat RequestD.dflt).path = x11.r.path ∧
(List.getD (OncA.l x) (↑x10 : Int).toNat RequestD.dflt).from_ = x11.r.from_ ∧
(List.getD (OncA.l x) (↑x10 : Int).toNat RequestD.dflt).many = x11.r.many ∧
(List.getD (OncA.l x) (↑x10 : Int).toNat RequestD.dflt).member = x11.r.member ∧
(runF fresh0 (List.take x10 (OncA.l x))).alpha = x11.x.alpha ∧
(runF fresh0 (List.take x10 (OncA.l x))).size = x11.x.size ∧
(runF fresh0 (List.take x10 (OncA.l x))).applied = x11.x.applied ∧
0 = 0 ∧
(runF fresh0 (List.take x10 (OncA.l x))).C.length = x11.x.C.length ∧
treeC (runF fresh0 (List.take x10 (OncA.l x))).C = treeC x11.x.C ∧
(runF fresh0 (List.take x10 (OncA.l x))).C = x11.x.C ∧
kvC (runF fresh0 (List.take x10 (OncA.l x))).C = kvC x11.x.C ∧
(runF fresh0 (List.take x10 (OncA.l x))).size = x11.x.size ∧
0 = 0 ∧
(runF fresh0 (List.take x10 (OncA.l x))).S.length = x11.x.S.length ∧
(runF fresh0 (List.take x10 (OncA.l x))).S = x11.x.S ∧
(runF fresh0 (List.take x10 (OncA.l x))).alpha = x11.x.alpha ∧
0 = 0 ∧
(runF fresh0 (List.take x10 (OncA.l x))).E.length = x11.x.E.length ∧
(runF fresh0 (List.take x10 (OncA.l x))).E = x11.x.E ∧
(okMS x11.x = true ∧
okRq x11.r = true) ∧
∀ x12 : Unit, True →
∃ x13 : Nat, IntKind.wrap IntKind.i64 ((↑x10 : Int) + (1 : Int)) = (↑x13 : Int) ∧
(applyM x11.x x11.r).2.alpha = (runF fresh0 (List.take x13 (OncA.l x))).alpha ∧
(applyM x11.x x11.r).2.size = (runF fresh0 (List.take x13 (OncA.l x))).size ∧
(applyM x11.x x11.r).2.applied = (runF fresh0 (List.take x13 (OncA.l x))).applied ∧
0 = 0 ∧
(applyM x11.x x11.r).2.C.length = (runF fresh0 (List.take x13 (OncA.l x))).C.length ∧
treeC (applyM x11.x x11.r).2.C = treeC (runF fresh0 (List.take x13 (OncA.l x))).C ∧
(applyM x11.x x11.r).2.C = (runF fresh0 (List.take x13 (OncA.l x))).C ∧
kvC (applyM x11.x x11.r).2.C = kvC (runF fresh0 (List.take x13 (OncA.l x))).C ∧
(applyM x11.x x11.r).2.size = (runF fresh0 (List.take x13 (OncA.l x))).size ∧
0 = 0 ∧
(applyM x11.x x11.r).2.S.length = (runF fresh0 (List.take x13 (OncA.l x))).S.length ∧
(applyM x11.x x11.r).2.S = (runF fresh0 (List.take x13 (OncA.l x))).S ∧
(applyM x11.x x11.r).2.alpha = (runF fresh0 (List.take x13 (OncA.l x))).alpha ∧
0 = 0 ∧
(applyM x11.x x11.r).2.E.length = (runF fresh0 (List.take x13 (OncA.l x))).E.length ∧
(applyM x11.x x11.r).2.E = (runF fresh0 (List.take x13 (OncA.l x))).E ∧
Nat.le x13 (OncA.l x).length ∧
Nat.sub (OncA.l x).length x13 < Nat.sub (OncA.l x).length x10) (Bad "check" "law.go:116")) (br ((OncA.q x).kind == (0 : Int)) (true = true) (br ((OncA.q x).kind == (1 : Int)) (true = true) (∃ x14 : MacA, (OncA.q x).kind = x14.r.kind ∧
(OncA.q x).name = x14.r.name ∧
(OncA.q x).session = x14.r.session ∧
(OncA.q x).seq = x14.r.seq ∧
(OncA.q x).base = x14.r.base ∧
(OncA.q x).ref = x14.r.ref ∧
(OncA.q x).changes = x14.r.changes ∧
(OncA.q x).path = x14.r.path ∧
(OncA.q x).from_ = x14.r.from_ ∧
(OncA.q x).many = x14.r.many ∧
(OncA.q x).member = x14.r.member ∧
(runF fresh0 (List.take x10 (OncA.l x))).alpha = x14.x.alpha ∧
(runF fresh0 (List.take x10 (OncA.l x))).size = x14.x.size ∧
(runF fresh0 (List.take x10 (OncA.l x))).applied = x14.x.applied ∧
0 = 0 ∧
(runF fresh0 (List.take x10 (OncA.l x))).C.length = x14.x.C.length ∧
treeC (runF fresh0 (List.take x10 (OncA.l x))).C = treeC x14.x.C ∧
(runF fresh0 (List.take x10 (OncA.l x))).C = x14.x.C ∧
kvC (runF fresh0 (List.take x10 (OncA.l x))).C = kvC x14.x.C ∧
(runF fresh0 (List.take x10 (OncA.l x))).size = x14.x.size ∧
0 = 0 ∧
(runF fresh0 (List.take x10 (OncA.l x))).S.length = x14.x.S.length ∧
(runF fresh0 (List.take x10 (OncA.l x))).S = x14.x.S ∧
(runF fresh0 (List.take x10 (OncA.l x))).alpha = x14.x.alpha ∧
0 = 0 ∧
(runF fresh0 (List.take x10 (OncA.l x))).E.length = x14.x.E.length ∧
(runF fresh0 (List.take x10 (OncA.l x))).E = x14.x.E ∧
(okMS x14.x = true ∧
okRq x14.r = true) ∧
∀ x15 : Unit, True →
∃ x16 : MacS, (applyM x14.x x14.r).2.alpha = x16.alpha ∧
(applyM x14.x x14.r).2.size = x16.size ∧
(applyM x14.x x14.r).2.applied = x16.applied ∧
0 = 0 ∧
(applyM x14.x x14.r).2.C.length = x16.C.length ∧
treeC (applyM x14.x x14.r).2.C = treeC x16.C ∧
(applyM x14.x x14.r).2.C = x16.C ∧
kvC (applyM x14.x x14.r).2.C = kvC x16.C ∧
(applyM x14.x x14.r).2.size = x16.size ∧
0 = 0 ∧
(applyM x14.x x14.r).2.S.length = x16.S.length ∧
(applyM x14.x x14.r).2.S = x16.S ∧
(applyM x14.x x14.r).2.alpha = x16.alpha ∧
0 = 0 ∧
(applyM x14.x x14.r).2.E.length = x16.E.length ∧
(applyM x14.x x14.r).2.E = x16.E ∧
True ∧
∀ x17 : Unit, True →
∃ x18 : MacS, x16.alpha = x18.alpha ∧
x16.size = x18.size ∧
x16.applied = x18.applied ∧
0 = 0 ∧
x16.C.length = x18.C.length ∧
treeC x16.C = treeC x18.C ∧
x16.C = x18.C ∧
kvC x16.C = kvC x18.C ∧
x16.size = x18.size ∧
0 = 0 ∧
x16.S.length = x18.S.length ∧
x16.S = x18.S ∧
x16.alpha = x18.alpha ∧
0 = 0 ∧
x16.E.length = x18.E.length ∧
x16.E = x18.E ∧
okEl x18.E = true ∧
∀ x19 : Unit, True →
∃ x20 : MacA, (OncA.q x).kind = x20.r.kind ∧
(OncA.q x).name = x20.r.name ∧
(OncA.q x).session = x20.r.session ∧
(OncA.q x).seq = x20.r.seq ∧
(OncA.q x).base = x20.r.base ∧
(OncA.q x).ref = x20.r.ref ∧
(OncA.q x).changes = x20.r.changes ∧
(OncA.q x).path = x20.r.path ∧
(OncA.q x).from_ = x20.r.from_ ∧
(OncA.q x).many = x20.r.many ∧
(OncA.q x).member = x20.r.member ∧
x18.alpha = x20.x.alpha ∧
x18.size = x20.x.size ∧
x18.applied = x20.x.applied ∧
0 = 0 ∧
x18.C.length = x20.x.C.length ∧
treeC x18.C = treeC x20.x.C ∧
x18.C = x20.x.C ∧
kvC x18.C = kvC x20.x.C ∧
x18.size = x20.x.size ∧
0 = 0 ∧
x18.S.length = x20.x.S.length ∧
x18.S = x20.x.S ∧
x18.alpha = x20.x.alpha ∧
0 = 0 ∧
x18.E.length = x20.x.E.length ∧
x18.E = x20.x.E ∧
(okMS x20.x = true ∧
okRq x20.r = true) ∧
∀ x21 : Unit, True →
∃ x22 : Ver2, (applyM x14.x x14.r).1.code = x22.a.code ∧
(applyM x14.x x14.r).1.session = x22.a.session ∧
(applyM x14.x x14.r).1.rev = x22.a.rev ∧
(applyM x14.x x14.r).1.path = x22.a.path ∧
(applyM x14.x x14.r).1.digest = x22.a.digest ∧
(applyM x14.x x14.r).1.commits = x22.a.commits ∧
(applyM x14.x x14.r).1.member = x22.a.member ∧
(applyM x20.x x20.r).1.code = x22.b.code ∧
(applyM x20.x x20.r).1.session = x22.b.session ∧
(applyM x20.x x20.r).1.rev = x22.b.rev ∧
(applyM x20.x x20.r).1.path = x22.b.path ∧
(applyM x20.x x20.r).1.digest = x22.b.digest ∧
(applyM x20.x x20.r).1.commits = x22.b.commits ∧
(applyM x20.x x20.r).1.member = x22.b.member ∧
True ∧
∀ x23 : Unit, True →
br (eqV x22.a x22.b) (∃ x24 : MacS, (applyM x20.x x20.r).2.alpha = x24.alpha ∧
(applyM x20.x x20.r).2.size = x24.size ∧
(applyM x20.x x20.r).2.applied = x24.applied ∧
0 = 0 ∧
(applyM x20.x x20.r).2.C.length = x24.C.length ∧
treeC (applyM x20.x x20.r).2.C = treeC x24.C ∧
(applyM x20.x x20.r).2.C = x24.C ∧
kvC (applyM x20.x x20.r).2.C = kvC x24.C ∧
(applyM x20.x x20.r).2.size = x24.size ∧
0 = 0 ∧
(applyM x20.x x20.r).2.S.length = x24.S.length ∧
(applyM x20.x x20.r).2.S = x24.S ∧
(applyM x20.x x20.r).2.alpha = x24.alpha ∧
0 = 0 ∧
(applyM x20.x x20.r).2.E.length = x24.E.length ∧
(applyM x20.x x20.r).2.E = x24.E ∧
True ∧
∀ x25 : Unit, True →
br ((↑x24.C.length : Int) == (↑x16.C.length : Int)) (∃ x26 : MacS, x24.alpha = x26.alpha ∧
x24.size = x26.size ∧
x24.applied = x26.applied ∧
0 = 0 ∧
x24.C.length = x26.C.length ∧
treeC x24.C = treeC x26.C ∧
x24.C = x26.C ∧
kvC x24.C = kvC x26.C ∧
x24.size = x26.size ∧
0 = 0 ∧
x24.S.length = x26.S.length ∧
x24.S = x26.S ∧
x24.alpha = x26.alpha ∧
0 = 0 ∧
x24.E.length = x26.E.length ∧
x24.E = x26.E ∧
okEl x26.E = true ∧
∀ x27 : Unit, True →
(unionE x26.E).length * 8 ≤ room47 →
(unionE x18.E).length * 8 ≤ room47 →
decide ((↑(unionE x26.E).length : Int) ≤ (↑(unionE x18.E).length : Int)) = true) (false = true)) (false = true))))))) := by kernel_rfl

end Go.Proofs.YtgepebndihfnfaaGreat.Ses

namespace Go.Proofs.YtgepebndihfnfaaGreat.Ses
open Go Go.Proofs Go.Proofs.YtgepebndihfnfaaGreat.Sx

theorem MOk.el {a z : Int} {n : Nat} {x : MacS} (h : MOk a z n x) (hn : n ≤ 4000) : okEl x.E = true := by
  have h1 := h.e1
  have h2 := h.eM
  unfold okEl
  rw [decide_eq_true h1, decide_eq_true (by omega), List.all_eq_true.2 fun p hp => (h.em p hp).1]; rfl
theorem MOk.lk {a z : Int} {n : Nat} {x : MacS} (h : MOk a z n x) (hn : n ≤ 4000) : okLk x = true := by
  unfold okLk
  rw [h.ok hn, h.el hn]; rfl
theorem runD0 (l : List RequestD) (h : l.length ≤ 4000) : MDs 2 3 l.length (runF fresh0 l) := runZD_ok (M := [0, 1, 2]) (by decide) l h
theorem take_le (l : List RequestD) (i : Nat) : (l.take i).length ≤ l.length := by rw [List.length_take]; omega
theorem onc_ok : EnvOK oncE := Env_ok (by decide +kernel) (by
  intro p hp
  simp only [List.mem_cons, List.mem_nil_iff, or_false] at hp
  rcases hp with rfl | rfl | rfl | rfl | rfl | rfl | rfl
  · exact aw8_ok
  · exact fresh_ok
  · exact apply_ok echg_ok
  · exact mroom_ok
  · exact headM_ok
  · exact unM_ok
  · exact alike_ok)
set_option maxHeartbeats 0 in
theorem onc_body (x : OncA) (hl : ∀ r, r ∈ x.l → inI r.from_ = true) (hq : inI x.q.from_ = true) : evCall oncE (ev oncE 1000) 12 (oncArgs x) ⟨[], 0, []⟩ (fun _ _ => False) (fun v _ => TrueV v) := by
  rw [onc_vc]
  obtain ⟨l, q⟩ := x
  dsimp only at *
  refine ⟨(), trivial, fun _ _ => ⟨⟨l, 100⟩, rfl, rfl, trivial, fun _ _ => br_i (fun _ => rfl) fun hr => ⟨⟨[q], 1⟩, Nat.le_refl 1, rfl, rfl, trivial, fun _ _ => br_i (fun _ => rfl) fun hrq => ⟨(), trivial, fun _ _ => ?_⟩⟩⟩⟩
  rw [Bool.not_eq_false'] at hr hrq
  obtain ⟨l100, lQ⟩ := roomM_of hr
  have l100 : (l.length : Int) ≤ 100 := l100
  have okq : okRq q = true := (okR_of ((roomM_of hrq).2 q (List.mem_cons_self ..)) hq).1
  refine ⟨⟨0, (by repeat' (first | exact Nat.zero_le _ | refine And.intro ?_ ?_ | rfl))⟩, fun i hi _ => br_i (fun h1 => ?_) (fun h1 => ?_)⟩
  · have h1 := of_decide_eq_true h1
    have bi : decide ((0 : Int) ≤ (i : Int) ∧ (i : Int) < (l.length : Int)) = true := decide_eq_true ⟨by omega, h1⟩
    have e0 : (i : Int).toNat = i := rfl
    rw [e0]
    have eg : l.getD i RequestD.dflt = l.getD i noR0 := rfl
    rw [eg]
    have hgo := run_at (x := fresh0) (l := l) (i := i) (by omega)
    have hmem : l.getD i noR0 ∈ l := getD_mem (by omega)
    have okr := (okR_of (lQ _ hmem) (hl _ hmem)).1
    have htl := take_le l i
    have okm := (runD0 (l.take i) (by omega)).ok.ok (by omega)
    generalize l.getD i noR0 = r at hgo okr ⊢
    generalize runF fresh0 (l.take i) = y at hgo okm ⊢
    have hw : IntKind.i64.wrap ((i : Int) + 1) = ((i + 1 : Nat) : Int) := by rw [wrap_id (by omega) (by omega)]; rfl
    have hle : (i + 1).le l.length := by show i + 1 ≤ l.length; omega
    have hms : l.length.sub (i + 1) < l.length.sub i := by show l.length - (i + 1) < l.length - i; omega
    refine br_t bi ⟨⟨y, r⟩, rfl, rfl, rfl, rfl, rfl, rfl, rfl, rfl, rfl, rfl, rfl, rfl, rfl, rfl, rfl, rfl, rfl, rfl, rfl, rfl, rfl, rfl, rfl, rfl, rfl, rfl, rfl, ⟨okm, okr⟩, fun _ _ => ⟨i + 1, hw, ?_⟩⟩
    rw [hgo]
    exact (by repeat' (first | exact hle | exact hms | refine And.intro ?_ ?_ | rfl))
  · have h1 := of_decide_eq_false h1
    rw [List.take_of_length_le (by omega)]
    have hX := runD0 l (by omega)
    generalize runF fresh0 l = X at hX ⊢
    refine br_i (fun _ => rfl) fun k0 => br_i (fun _ => rfl) fun k1 => ?_
    have hY := hX.step (by omega) q
    have hZ := hY.step (by omega) q
    obtain ⟨s1, s2, s, s3⟩ := again_same hX (by omega) k0 k1
    have okX := hX.ok.ok (by omega)
    have elY := hY.ok.el (by omega)
    have okY := hY.ok.ok (by omega)
    have elZ := hZ.ok.el (by omega)
    refine ⟨⟨X, q⟩, rfl, rfl, rfl, rfl, rfl, rfl, rfl, rfl, rfl, rfl, rfl, rfl, rfl, rfl, rfl, rfl, rfl, rfl, rfl, rfl, rfl, rfl, rfl, rfl, rfl, rfl, rfl, ⟨okX, okq⟩, fun _ _ => ⟨(applyM X q).2, rfl, rfl, rfl, rfl, rfl, rfl, rfl, rfl, rfl, rfl, rfl, rfl, rfl, rfl, rfl, rfl, trivial, fun _ _ => ⟨(applyM X q).2, rfl, rfl, rfl, rfl, rfl, rfl, rfl, rfl, rfl, rfl, rfl, rfl, rfl, rfl, rfl, rfl, elY, fun _ _ => ⟨⟨(applyM X q).2, q⟩, rfl, rfl, rfl, rfl, rfl, rfl, rfl, rfl, rfl, rfl, rfl, rfl, rfl, rfl, rfl, rfl, rfl, rfl, rfl, rfl, rfl, rfl, rfl, rfl, rfl, rfl, rfl, ⟨okY, okq⟩, fun _ _ => ⟨⟨(applyM X q).1, (applyM (applyM X q).2 q).1⟩, rfl, rfl, rfl, rfl, rfl, rfl, rfl, rfl, rfl, rfl, rfl, rfl, rfl, rfl, trivial, fun _ _ => ?_⟩⟩⟩⟩⟩
    dsimp only
    rw [s1]
    refine br_t (eqV_self _) ⟨(applyM (applyM X q).2 q).2, rfl, rfl, rfl, rfl, rfl, rfl, rfl, rfl, rfl, rfl, rfl, rfl, rfl, rfl, rfl, rfl, trivial, fun _ _ => br_t (by rw [s2]; exact beq_self_eq_true _) ⟨(applyM (applyM X q).2 q).2, rfl, rfl, rfl, rfl, rfl, rfl, rfl, rfl, rfl, rfl, rfl, rfl, rfl, rfl, rfl, rfl, elZ, fun _ _ _ _ => ?_⟩⟩
    rw [s3]
    have := union_cut (applyM X q).2.E s
    exact decide_eq_true (by omega)

end Go.Proofs.YtgepebndihfnfaaGreat.Ses
