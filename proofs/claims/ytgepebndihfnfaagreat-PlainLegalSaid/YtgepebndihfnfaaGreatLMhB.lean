/- Rows of numbers that are alike; who is awake; a machine told what is none of its own. No condition. -/
import Derived.Test.YtgepebndihfnfaaGreatLMhA
import Derived.KernelRfl
set_option linter.unusedSimpArgs false
set_option linter.unusedVariables false

namespace Go.Proofs.YtgepebndihfnfaaGreat.Ses
open Go Go.Proofs Go.Proofs.YtgepebndihfnfaaGreat.Sx
structure Req2 where
  a : RequestD
  b : RequestD
def eqR (a b : RequestD) : Bool := a.kind == b.kind && (a.name == b.name && (a.session == b.session && (a.seq == b.seq && (a.base == b.base && (a.ref == b.ref && (a.path == b.path && (a.from_ == b.from_ && (a.many == b.many && (a.member == b.member && sameC a.changes b.changes)))))))))
noncomputable def esameT : Tri := { γ := Req2, n0 := 0, args := fun x => [.agg x.a.enc, .agg x.b.enc], blks := fun _ => [], pre := fun _ => True, δ := Unit, post := fun _ _ => True, n1 := 0, res := fun x _ => .bool (eqR x.a x.b), blks' := fun _ _ => [], scal := true }
noncomputable def esameE : Envr := Env Tryz.prog cod [(206, equalT.spec)] []
def idxR (r : RequestD) : List RequestD → Int
  | [] => -1
  | x :: t => bif eqR x r then 0 else let i := idxR r t; bif decide (i < 0) then -1 else i + 1
structure FirA where
  l : List RequestD
  r : RequestD
noncomputable def firI : St → LInv := fun s => match getE s.env 0, getE s.env 1 with
  | .rslice _ .request l, .fn _ _ [.mptr k _] => match s.m.blks.get k with
    | some (.cells cs) => match dec .request cs with
      | some (r : RequestD) => { σ := Nat, I := fun i => i ≤ l.length ∧ ∀ j, j < i → eqR (l.getD j RequestD.dflt) r = false, μ := fun i => l.length - i, env := fun i => [(8, .int .i64 i)], blk := fun _ => [], fresh := 0, drop := [] }
      | none => LInv.none
    | _ => LInv.none
  | _, _ => LInv.none
noncomputable def firT : Tri := { γ := FirA, n0 := 0, args := fun x => [.rslice false .request x.l, .agg x.r.enc], blks := fun _ => [], pre := fun _ => True, δ := Unit, post := fun _ _ => True, n1 := 0, res := fun x _ => .int .i64 (idxR x.r x.l), blks' := fun _ _ => [], scal := true }
noncomputable def firE : Envr := Env Tryz.prog cod [(84, esameT.spec)] [(2, firI)]
noncomputable def pcom1T : Tri := { γ := RunA, n0 := 0, args := fun x => [x.c.sv, .rslice false .request x.l], blks := fun _ => [], pre := fun x => x.ok = true, δ := Unit, post := fun _ _ => True, n1 := 0, res := fun x _ => .rslice false .commit (runF x.f x.l).C, blks' := fun _ _ => [], scal := false }
noncomputable def pcomE : Envr := Env Tryz.prog cod [(21, prun1T.spec), (67, comMT.spec)] []
noncomputable def pawT : Tri := { γ := Unit, n0 := 0, args := fun _ => [], blks := fun _ => [], pre := fun _ => True, δ := Unit, post := fun _ _ => True, n1 := 0, res := fun _ _ => .bool true, blks' := fun _ _ => [], scal := false }
noncomputable def pawE : Envr := Env Tryz.prog cod [(21, prun1T.spec)] []
end Go.Proofs.YtgepebndihfnfaaGreat.Ses

namespace Go.Proofs.YtgepebndihfnfaaGreat.Ses
open Go Go.Proofs Go.Proofs.YtgepebndihfnfaaGreat.Sx
set_option maxRecDepth 100000
abbrev esameQ1 (x : esameT.γ) := ∃ x4 : Unit, false = eqR (Req2.a x) (Req2.b x) ∧
True
theorem esame_vc (x : esameT.γ) : evCall esameE (ev esameE 1000) 84 (esameT.args x) ⟨esameT.blks x, esameT.n0, []⟩ (fun _ _ => False) (esameT.ends x) = (
br ((Req2.a x).kind == (Req2.b x).kind) (br ((Req2.a x).name == (Req2.b x).name) (br ((Req2.a x).session == (Req2.b x).session) (br ((Req2.a x).seq == (Req2.b x).seq) (br ((Req2.a x).base == (Req2.b x).base) (br ((Req2.a x).ref == (Req2.b x).ref) (br ((Req2.a x).path == (Req2.b x).path) (br ((Req2.a x).from_ == (Req2.b x).from_) (br ((Req2.a x).many == (Req2.b x).many) (br ((Req2.a x).member == (Req2.b x).member) (∃ x1 : Cha2, (Req2.a x).changes = x1.a ∧
(Req2.b x).changes = x1.b ∧
True ∧
∀ x2 : Unit, True →
∃ x3 : Unit, sameC x1.a x1.b = eqR (Req2.a x) (Req2.b x) ∧
True) (esameQ1 x)) (esameQ1 x)) (esameQ1 x)) (esameQ1 x)) (esameQ1 x)) (esameQ1 x)) (esameQ1 x)) (esameQ1 x)) (esameQ1 x)) (esameQ1 x)) := by kernel_rfl
abbrev firQ1 (x1 : Nat) (x : firT.γ) := x1 ≤ (FirA.l x).length ∧
∀ x2 : Nat, x2 < x1 →
eqR (List.getD (FirA.l x) x2 RequestD.dflt) (FirA.r x) = false
theorem fir_vc (x : firT.γ) : evCall firE (ev firE 1000) 26 (firT.args x) ⟨firT.blks x, firT.n0, []⟩ (fun _ _ => False) (firT.ends x) = (
(FirA.l x).length * 128 ≤ room47 →
(∃ x1 : Nat, (0 : Int) = (↑x1 : Int) ∧
firQ1 x1 x) ∧
∀ x3 : Nat, firQ1 x3 x →
br (decide ((↑x3 : Int) < (↑(FirA.l x).length : Int))) (br (decide ((0 : Int) ≤ (↑x3 : Int) ∧
(↑x3 : Int) < (↑(FirA.l x).length : Int))) (∃ x5 : Req2, EqQ (List.getD (FirA.l x) (↑x3 : Int).toNat RequestD.dflt) x5.a (EqQ (FirA.r x) x5.b (True ∧
∀ x6 : Unit, True →
br (eqR x5.a x5.b) (∃ x7 : Unit, (↑x3 : Int) = idxR (FirA.r x) (FirA.l x) ∧
True) (∃ x8 : Nat, IntKind.wrap IntKind.i64 ((↑x3 : Int) + (1 : Int)) = (↑x8 : Int) ∧
firQ1 x8 x ∧
Nat.sub (FirA.l x).length x8 < Nat.sub (FirA.l x).length x3)))) (Bad "check" "slices.go:109")) (∃ x10 : Unit, @Neg.neg Int _ (1 : Int) = idxR (FirA.r x) (FirA.l x) ∧
True)) := by kernel_rfl
theorem pcom1_vc (x : pcom1T.γ) : evCall pcomE (ev pcomE 1000) 30 (pcom1T.args x) ⟨pcom1T.blks x, pcom1T.n0, []⟩ (fun _ _ => False) (pcom1T.ends x) = (
∃ x1 : RunA, EqF (RunA.c x) (RunA.c x1) (RunA.l x = RunA.l x1 ∧
RunA.ok x1 = true ∧
∀ x2 : Unit, True →
∃ x3 : MacS, EqM (runF (RunA.f x1) (RunA.l x1)) x3 (fewG x3.C = true ∧
∀ x4 : Unit, True →
∃ x5 : Unit, x3.C = (runF (RunA.f x) (RunA.l x)).C ∧
True))) := by kernel_rfl
abbrev pawQ1  := [(0 : Int), (1 : Int), (2 : Int)]
abbrev pawQ2  := [RequestD.mk (1 : Int) (Array.toList (ByteArray.data (ByteArray.mk (List.toArray [(99 : UInt8)])))) (0 : Int) (0 : Int) (0 : Int) ([] : List UInt8) ([] : List ChangeD) ([] : List UInt8) (0 : Int) (0 : Int) (0 : Int), RequestD.mk (3 : Int) ([] : List UInt8) (1 : Int) (1 : Int) (0 : Int) ([] : List UInt8) ([] : List ChangeD) ([] : List UInt8) (0 : Int) (0 : Int) (0 : Int)]
abbrev pawQ3 (x1 : RunA) := (↑(verdF (RunA.f x1) (RunA.l x1)).length : Int)
abbrev pawQ4  := VerdictD.mk (0 : Int) (0 : Int) (0 : Int) ([] : List UInt8) (0 : Int) ([] : List CommitD) (0 : Int)
abbrev pawQ5  := ∃ x4 : Unit, false = true ∧
True
theorem paw_vc (x : pawT.γ) : evCall pawE (ev pawE 1000) 19 (pawT.args x) ⟨pawT.blks x, pawT.n0, []⟩ (fun _ _ => False) (pawT.ends x) = (
∃ x1 : RunA, 0 + 3 ≤ pawQ1.length ∧
List.take 3 (List.drop 0 pawQ1) = CfgD.M (RunA.c x1) ∧
(2 : Int) = CfgD.a (RunA.c x1) ∧
(3 : Int) = CfgD.z (RunA.c x1) ∧
(0 : Int) = CfgD.keep (RunA.c x1) ∧
(0 : Int) = CfgD.beat (RunA.c x1) ∧
(0 : Int) = CfgD.term (RunA.c x1) ∧
(0 : Int) = CfgD.lease (RunA.c x1) ∧
(0 : Int) = CfgD.num (RunA.c x1) ∧
(0 : Int) = CfgD.den (RunA.c x1) ∧
0 + 2 ≤ pawQ2.length ∧
List.take 2 (List.drop 0 pawQ2) = RunA.l x1 ∧
RunA.ok x1 = true ∧
∀ x2 : Unit, True →
(verdF (RunA.f x1) (RunA.l x1)).length * 80 ≤ room47 →
br (pawQ3 x1 == (2 : Int)) (br (decide ((0 : Int) ≤ (0 : Int) ∧
(0 : Int) < pawQ3 x1)) (br ((List.getD (verdF (RunA.f x1) (RunA.l x1)) (0 : Int).toNat pawQ4).session == (1 : Int)) (br (decide ((0 : Int) ≤ (1 : Int) ∧
(1 : Int) < pawQ3 x1)) (∃ x3 : Unit, ((List.getD (verdF (RunA.f x1) (RunA.l x1)) (1 : Int).toNat pawQ4).code == (8 : Int)) = true ∧
True) (Bad "check" "law.go:19")) pawQ5) (Bad "check" "law.go:19")) pawQ5) := by kernel_rfl
end Go.Proofs.YtgepebndihfnfaaGreat.Ses

namespace Go.Proofs.YtgepebndihfnfaaGreat.Ses
open Go Go.Proofs Go.Proofs.YtgepebndihfnfaaGreat.Sx
theorem esame_ok : SpecOK Tryz.prog 84 esameT.spec := by
  refine Tri.ok (E := esameE) (Env_ok (by decide +kernel) (by simp [equal_ok])) (n := 1000) esameT fun x _ => ?_
  rw [esame_vc]
  delta esameQ1
  obtain ⟨a, b⟩ := x
  dsimp only
  exact br_i (fun p0 => br_i (fun p1 => br_i (fun p2 => br_i (fun p3 => br_i (fun p4 => br_i (fun p5 => br_i (fun p6 => br_i (fun p7 => br_i (fun p8 => br_i (fun p9 => ⟨⟨a.changes, b.changes⟩, rfl, rfl, trivial, fun _ _ => ⟨(), by unfold eqR; rw [p0, p1, p2, p3, p4, p5, p6, p7, p8, p9]; rfl, trivial⟩⟩) (fun q => ⟨(), by unfold eqR; rw [p0, p1, p2, p3, p4, p5, p6, p7, p8, q]; rfl, trivial⟩)) (fun q => ⟨(), by unfold eqR; rw [p0, p1, p2, p3, p4, p5, p6, p7, q]; rfl, trivial⟩)) (fun q => ⟨(), by unfold eqR; rw [p0, p1, p2, p3, p4, p5, p6, q]; rfl, trivial⟩)) (fun q => ⟨(), by unfold eqR; rw [p0, p1, p2, p3, p4, p5, q]; rfl, trivial⟩)) (fun q => ⟨(), by unfold eqR; rw [p0, p1, p2, p3, p4, q]; rfl, trivial⟩)) (fun q => ⟨(), by unfold eqR; rw [p0, p1, p2, p3, q]; rfl, trivial⟩)) (fun q => ⟨(), by unfold eqR; rw [p0, p1, p2, q]; rfl, trivial⟩)) (fun q => ⟨(), by unfold eqR; rw [p0, p1, q]; rfl, trivial⟩)) (fun q => ⟨(), by unfold eqR; rw [p0, q]; rfl, trivial⟩)) (fun q => ⟨(), by unfold eqR; rw [q]; rfl, trivial⟩)
theorem idxR_at {r : RequestD} : ∀ {l : List RequestD} {i : Nat}, i < l.length → eqR (l.getD i RequestD.dflt) r = true → (∀ j, j < i → eqR (l.getD j RequestD.dflt) r = false) → idxR r l = i
  | [], i, h, _, _ => absurd h (Nat.not_lt_zero _)
  | x :: t, 0, _, h, _ => by
    have h : eqR x r = true := h
    unfold idxR
    rw [h]; rfl
  | x :: t, i + 1, h0, h, hb => by
    have h1 : eqR x r = false := hb 0 (by omega)
    have := idxR_at (l := t) (i := i) (by simpa using h0) h fun j hj => hb (j + 1) (by omega)
    unfold idxR
    rw [h1, this]
    dsimp only [cond_false]
    rw [decide_eq_false (by omega : ¬ ((i : Int) < 0))]
    rfl
theorem idxR_no {r : RequestD} : ∀ {l : List RequestD}, (∀ j, j < l.length → eqR (l.getD j RequestD.dflt) r = false) → idxR r l = -1
  | [], _ => rfl
  | x :: t, h => by
    have h1 : eqR x r = false := h 0 (by simp)
    have := idxR_no (l := t) fun j hj => h (j + 1) (by simpa using hj)
    unfold idxR
    rw [h1, this]
    rfl
theorem fir_ok : SpecOK Tryz.prog 26 firT.spec := by
  refine Tri.ok (E := firE) (Env_ok (by decide +kernel) (by simp [esame_ok])) (n := 1000) firT fun x _ => ?_
  rw [fir_vc]
  delta firQ1 EqQ
  obtain ⟨l, r⟩ := x
  dsimp only
  refine fun hr => ⟨⟨0, rfl, Nat.zero_le _, fun j hj => absurd hj (Nat.not_lt_zero _)⟩, fun i hi => br_i (fun h1 => ?_) (fun h1 => ?_)⟩
  · have h1 := of_decide_eq_true h1
    have hsm : l.length ≤ 1099511627776 := by unfold room47 at hr; omega
    obtain ⟨i1, i2⟩ := hi
    have e0 : (i : Int).toNat = i := rfl
    rw [e0]
    refine br_t (decide_eq_true ⟨by omega, h1⟩) ⟨⟨l.getD i RequestD.dflt, r⟩, rfl, rfl, rfl, rfl, rfl, rfl, rfl, rfl, rfl, rfl, rfl, rfl, rfl, rfl, rfl, rfl, rfl, rfl, rfl, rfl, rfl, rfl, trivial, fun _ _ => br_i (fun q => ⟨(), (idxR_at (by omega) q i2).symm, trivial⟩) (fun q => ⟨i + 1, by rw [wrap_id (by omega) (by omega)]; rfl, ⟨by omega, fun j hj => ?_⟩, by show l.length - (i + 1) < l.length - i; omega⟩)⟩
    by_cases e : j = i
    · subst e; exact q
    · exact i2 j (by omega)
  · have h1 := of_decide_eq_false h1
    exact ⟨(), (idxR_no fun j hj => hi.2 j (by omega)).symm, trivial⟩
theorem ok_few {x : RunA} (h : x.ok = true) : fewG (runF x.f x.l).C = true := by
  obtain ⟨h1, h2⟩ := ok_of h
  obtain ⟨⟨n, hn, hG⟩, _⟩ := runZ_in h1 h2 x.l.length
  rw [List.take_length] at hG
  exact hG.ok.few (by have := (okL_of h2).1; omega)
theorem pcom1_ok : SpecOK Tryz.prog 30 pcom1T.spec := by
  refine Tri.ok (E := pcomE) (Env_ok (by decide +kernel) (by simp [prun1_ok, comM_ok])) (n := 1000) pcom1T fun x hx => ?_
  rw [pcom1_vc]
  delta EqM EqF EqG EqT
  have hx : x.ok = true := hx
  exact ⟨x, rfl, rfl, rfl, rfl, rfl, rfl, rfl, rfl, rfl, rfl, hx, fun _ _ => ⟨runF x.f x.l, rfl, rfl, rfl, rfl, rfl, rfl, rfl, rfl, rfl, rfl, rfl, rfl, rfl, rfl, rfl, rfl, ok_few hx, fun _ _ => ⟨(), rfl, trivial⟩⟩⟩
def cf0 : CfgD := ⟨[0, 1, 2], 2, 3, 0, 0, 0, 0, 0, 0⟩
theorem cf0_ok {l : List RequestD} (h : okL l = true) : RunA.ok ⟨cf0, l⟩ = true := by
  show (okCf 2 3 [0, 1, 2] && okL l) = true
  rw [h]; rfl
theorem paw_ok : SpecOK Tryz.prog 19 pawT.spec := by
  refine Tri.ok (E := pawE) (Env_ok (by decide +kernel) (by simp [prun1_ok])) (n := 1000) pawT fun x _ => ?_
  rw [paw_vc]
  delta pawQ5 pawQ4 pawQ3 pawQ2 pawQ1
  refine ⟨⟨cf0, [⟨1, [99], 0, 0, 0, [], [], [], 0, 0, 0⟩, ⟨3, [], 1, 1, 0, [], [], [], 0, 0, 0⟩]⟩, by decide, rfl, rfl, rfl, rfl, rfl, rfl, rfl, rfl, rfl, by decide, rfl, cf0_ok (by decide +kernel), fun _ _ _ => ?_⟩
  exact br_t (by decide +kernel) (br_t (by decide +kernel) (br_t (by decide +kernel) (br_t (by decide +kernel) ⟨(), by decide +kernel, trivial⟩)))
end Go.Proofs.YtgepebndihfnfaaGreat.Ses
