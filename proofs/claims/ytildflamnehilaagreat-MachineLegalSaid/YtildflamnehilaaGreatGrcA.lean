/- A graph loaded; legal chains; the reference for changes: what the evaluator leaves of each, and that it holds. No condition. -/
import Derived.Test.YtildflamnehilaaGreatGraA
import Derived.KernelRfl
set_option linter.unusedSimpArgs false
set_option linter.unusedVariables false

namespace Go.Proofs.YtildflamnehilaaGreat.Ses
open Go Go.Proofs Go.Proofs.YtildflamnehilaaGreat.Sx Go.Proofs.YtildflamnehilaaGreat.Trx

/-! ### the reference's check and sort -/

/-! ### legal chains -/

noncomputable def legalT : Tri := { γ := ComL, n0 := 0, args := fun C => [.rslice false .commit C], blks := fun _ => [], pre := fun C => OkC C, δ := Unit, post := fun _ _ => True, n1 := 0, res := fun _ _ => .bool true, blks' := fun _ _ => [], scal := true }
noncomputable def legI2 : St → LInv := fun s => match getE s.env 0 with
  | .rslice _ .commit l => { σ := Nat, I := fun i => i ≤ l.length, μ := fun i => l.length - i, env := fun i => [(3, .int .i64 i)], blk := fun _ => [], fresh := 0, drop := [] }
  | _ => LInv.none
noncomputable def legI7 : St → LInv := fun s => match getE s.env 0, getE s.env 3 with
  | .rslice _ .commit l, .int _ i => { σ := Nat, I := fun a => a ≤ (l.getD i.toNat ⟨0, 0, [], []⟩).changes.length, μ := fun a => (l.getD i.toNat ⟨0, 0, [], []⟩).changes.length - a, env := fun a => [(4, .int .i64 a)], blk := fun _ => [], fresh := 0, drop := [] }
  | _, _ => LInv.none
noncomputable def legI10 : St → LInv := fun s => match getE s.env 4 with
  | .int _ a => { σ := Nat, I := fun b => b ≤ a.toNat, μ := fun b => a.toNat - b, env := fun b => [(5, .int .i64 b)], blk := fun _ => [], fresh := 0, drop := [] }
  | _ => LInv.none
noncomputable def legI15 : St → LInv := fun s => match getE s.env 0, getE s.env 3 with
  | .rslice _ .commit l, .int _ i => { σ := Nat, I := fun k => (l.getD i.toNat ⟨0, 0, [], []⟩).base ≤ k ∧ k ≤ i.toNat, μ := fun k => i.toNat - k, env := fun k => [(6, .int .i64 k)], blk := fun _ => [], fresh := 0, drop := [] }
  | _, _ => LInv.none
noncomputable def legI18 : St → LInv := fun s => match getE s.env 0, getE s.env 6 with
  | .rslice _ .commit l, .int _ k => { σ := Nat, I := fun b => b ≤ (l.getD k.toNat ⟨0, 0, [], []⟩).changes.length, μ := fun b => (l.getD k.toNat ⟨0, 0, [], []⟩).changes.length - b, env := fun b => [(7, .int .i64 b)], blk := fun _ => [], fresh := 0, drop := [] }
  | _, _ => LInv.none
noncomputable def legalE : Envr := Env Tryz.prog cod [] [(2, legI2), (7, legI7), (10, legI10), (15, legI15), (18, legI18)]

/-! ### loading -/

def gcell (C : List CommitD) (n m : Nat) : Blk := .cells [.mslice .commit n 0 C.length, .tree (treeC C), .mmap m]
def loadA (raw : List CommitD) (i : Nat) : LandA := ⟨raw.take i, (raw.getD i ⟨0, 0, [], []⟩).base, (raw.getD i ⟨0, 0, [], []⟩).ref, (raw.getD i ⟨0, 0, [], []⟩).changes⟩
end Go.Proofs.YtildflamnehilaaGreat.Ses

namespace Go.Proofs.YtildflamnehilaaGreat.Ses
open Go Go.Proofs Go.Proofs.YtildflamnehilaaGreat.Sx Go.Proofs.YtildflamnehilaaGreat.Trx
set_option maxRecDepth 100000

theorem legal_vc (x : legalT.γ) : evCall legalE (ev legalE 1000) 31 (legalT.args x) ⟨legalT.blks x, legalT.n0, []⟩ (fun _ _ => False) (legalT.ends x) = (
((∃ x1 : Nat,
 (((0 : Int) = (↑x1 : Int)) ∧
 (Nat.le x1 (List.length x)))) ∧
 (∀ x2 : Nat,
 ((Nat.le x2 (List.length x)) →
 ((((List.length x) * (56 : Nat)) ≤ room47) →
 (br (decide ((↑x2 : Int) < (↑(List.length x) : Int)))
 (br (decide (((0 : Int) ≤ (↑x2 : Int)) ∧
 ((↑x2 : Int) < (↑(List.length x) : Int))))
 (br ((CommitD.rev (List.getD x (Int.toNat (↑x2 : Int)) (CommitD.mk (0 : Int) (0 : Int) ([] : List UInt8) ([] : List ChangeD)))) != (IntKind.wrap IntKind.i64 ((↑x2 : Int) + (1 : Int))))
 (∃ x3 : Unit,
 ((Bool.false = Bool.true) ∧
 True))
 (br (decide (((0 : Int) ≤ (↑x2 : Int)) ∧
 ((↑x2 : Int) < (↑(List.length x) : Int))))
 (br (decide ((CommitD.base (List.getD x (Int.toNat (↑x2 : Int)) (CommitD.mk (0 : Int) (0 : Int) ([] : List UInt8) ([] : List ChangeD)))) < (0 : Int)))
 (∃ x4 : Unit,
 ((Bool.false = Bool.true) ∧
 True))
 (br (decide (((0 : Int) ≤ (↑x2 : Int)) ∧
 ((↑x2 : Int) < (↑(List.length x) : Int))))
 (br (decide ((CommitD.base (List.getD x (Int.toNat (↑x2 : Int)) (CommitD.mk (0 : Int) (0 : Int) ([] : List UInt8) ([] : List ChangeD)))) > (↑x2 : Int)))
 (∃ x5 : Unit,
 ((Bool.false = Bool.true) ∧
 True))
 ((∃ x6 : Nat,
 (((0 : Int) = (↑x6 : Int)) ∧
 (Nat.le x6 (List.length (CommitD.changes (List.getD x (Int.toNat (↑x2 : Int)) (CommitD.mk (0 : Int) (0 : Int) ([] : List UInt8) ([] : List ChangeD)))))))) ∧
 (∀ x7 : Nat,
 ((Nat.le x7 (List.length (CommitD.changes (List.getD x (Int.toNat (↑x2 : Int)) (CommitD.mk (0 : Int) (0 : Int) ([] : List UInt8) ([] : List ChangeD)))))) →
 (br (decide (((0 : Int) ≤ (↑x2 : Int)) ∧
 ((↑x2 : Int) < (↑(List.length x) : Int))))
 ((((List.length (CommitD.changes (List.getD x (Int.toNat (↑x2 : Int)) (CommitD.mk (0 : Int) (0 : Int) ([] : List UInt8) ([] : List ChangeD))))) * (32 : Nat)) ≤ room47) →
 (br (decide ((↑x7 : Int) < (↑(List.length (CommitD.changes (List.getD x (Int.toNat (↑x2 : Int)) (CommitD.mk (0 : Int) (0 : Int) ([] : List UInt8) ([] : List ChangeD))))) : Int)))
 ((∃ x8 : Nat,
 (((0 : Int) = (↑x8 : Int)) ∧
 (Nat.le x8 (Int.toNat (↑x7 : Int))))) ∧
 (∀ x9 : Nat,
 ((Nat.le x9 (Int.toNat (↑x7 : Int))) →
 (br (decide ((↑x9 : Int) < (↑x7 : Int)))
 (br (decide (((0 : Int) ≤ (↑x2 : Int)) ∧
 ((↑x2 : Int) < (↑(List.length x) : Int))))
 (br (decide (((0 : Int) ≤ (↑x7 : Int)) ∧
 ((↑x7 : Int) < (↑(List.length (CommitD.changes (List.getD x (Int.toNat (↑x2 : Int)) (CommitD.mk (0 : Int) (0 : Int) ([] : List UInt8) ([] : List ChangeD))))) : Int))))
 (br (decide (((0 : Int) ≤ (↑x2 : Int)) ∧
 ((↑x2 : Int) < (↑(List.length x) : Int))))
 (br (decide (((0 : Int) ≤ (↑x9 : Int)) ∧
 ((↑x9 : Int) < (↑(List.length (CommitD.changes (List.getD x (Int.toNat (↑x2 : Int)) (CommitD.mk (0 : Int) (0 : Int) ([] : List UInt8) ([] : List ChangeD))))) : Int))))
 (br ((ChangeD.path (List.getD (CommitD.changes (List.getD x (Int.toNat (↑x2 : Int)) (CommitD.mk (0 : Int) (0 : Int) ([] : List UInt8) ([] : List ChangeD)))) (Int.toNat (↑x7 : Int)) (ChangeD.mk ([] : List UInt8) Bool.false (0 : Int)))) == (ChangeD.path (List.getD (CommitD.changes (List.getD x (Int.toNat (↑x2 : Int)) (CommitD.mk (0 : Int) (0 : Int) ([] : List UInt8) ([] : List ChangeD)))) (Int.toNat (↑x9 : Int)) (ChangeD.mk ([] : List UInt8) Bool.false (0 : Int)))))
 (∃ x10 : Unit,
 ((Bool.false = Bool.true) ∧
 True))
 (∃ x11 : Nat,
 (((IntKind.wrap IntKind.i64 ((↑x9 : Int) + (1 : Int))) = (↑x11 : Int)) ∧
 ((Nat.le x11 (Int.toNat (↑x7 : Int))) ∧
 ((Nat.sub (Int.toNat (↑x7 : Int)) x11) < (Nat.sub (Int.toNat (↑x7 : Int)) x9))))))
 (Bad "check" "ref.go:272"))
 (Bad "check" "ref.go:272"))
 (Bad "check" "ref.go:272"))
 (Bad "check" "ref.go:272"))
 (br (decide (((0 : Int) ≤ (↑x2 : Int)) ∧
 ((↑x2 : Int) < (↑(List.length x) : Int))))
 ((∃ x12 : Nat,
 (((CommitD.base (List.getD x (Int.toNat (↑x2 : Int)) (CommitD.mk (0 : Int) (0 : Int) ([] : List UInt8) ([] : List ChangeD)))) = (↑x12 : Int)) ∧
 (((CommitD.base (List.getD x (Int.toNat (↑x2 : Int)) (CommitD.mk (0 : Int) (0 : Int) ([] : List UInt8) ([] : List ChangeD)))) ≤ (↑x12 : Int)) ∧
 (x12 ≤ (Int.toNat (↑x2 : Int)))))) ∧
 (∀ x13 : Nat,
 ((((CommitD.base (List.getD x (Int.toNat (↑x2 : Int)) (CommitD.mk (0 : Int) (0 : Int) ([] : List UInt8) ([] : List ChangeD)))) ≤ (↑x13 : Int)) ∧
 (x13 ≤ (Int.toNat (↑x2 : Int)))) →
 (br (decide ((↑x13 : Int) < (↑x2 : Int)))
 ((∃ x14 : Nat,
 (((0 : Int) = (↑x14 : Int)) ∧
 (Nat.le x14 (List.length (CommitD.changes (List.getD x (Int.toNat (↑x13 : Int)) (CommitD.mk (0 : Int) (0 : Int) ([] : List UInt8) ([] : List ChangeD)))))))) ∧
 (∀ x15 : Nat,
 ((Nat.le x15 (List.length (CommitD.changes (List.getD x (Int.toNat (↑x13 : Int)) (CommitD.mk (0 : Int) (0 : Int) ([] : List UInt8) ([] : List ChangeD)))))) →
 (br (decide (((0 : Int) ≤ (↑x13 : Int)) ∧
 ((↑x13 : Int) < (↑(List.length x) : Int))))
 ((((List.length (CommitD.changes (List.getD x (Int.toNat (↑x13 : Int)) (CommitD.mk (0 : Int) (0 : Int) ([] : List UInt8) ([] : List ChangeD))))) * (32 : Nat)) ≤ room47) →
 (br (decide ((↑x15 : Int) < (↑(List.length (CommitD.changes (List.getD x (Int.toNat (↑x13 : Int)) (CommitD.mk (0 : Int) (0 : Int) ([] : List UInt8) ([] : List ChangeD))))) : Int)))
 (br (decide (((0 : Int) ≤ (↑x13 : Int)) ∧
 ((↑x13 : Int) < (↑(List.length x) : Int))))
 (br (decide (((0 : Int) ≤ (↑x15 : Int)) ∧
 ((↑x15 : Int) < (↑(List.length (CommitD.changes (List.getD x (Int.toNat (↑x13 : Int)) (CommitD.mk (0 : Int) (0 : Int) ([] : List UInt8) ([] : List ChangeD))))) : Int))))
 (br (decide (((0 : Int) ≤ (↑x2 : Int)) ∧
 ((↑x2 : Int) < (↑(List.length x) : Int))))
 (br (decide (((0 : Int) ≤ (↑x7 : Int)) ∧
 ((↑x7 : Int) < (↑(List.length (CommitD.changes (List.getD x (Int.toNat (↑x2 : Int)) (CommitD.mk (0 : Int) (0 : Int) ([] : List UInt8) ([] : List ChangeD))))) : Int))))
 (br ((ChangeD.path (List.getD (CommitD.changes (List.getD x (Int.toNat (↑x13 : Int)) (CommitD.mk (0 : Int) (0 : Int) ([] : List UInt8) ([] : List ChangeD)))) (Int.toNat (↑x15 : Int)) (ChangeD.mk ([] : List UInt8) Bool.false (0 : Int)))) == (ChangeD.path (List.getD (CommitD.changes (List.getD x (Int.toNat (↑x2 : Int)) (CommitD.mk (0 : Int) (0 : Int) ([] : List UInt8) ([] : List ChangeD)))) (Int.toNat (↑x7 : Int)) (ChangeD.mk ([] : List UInt8) Bool.false (0 : Int)))))
 (∃ x16 : Unit,
 ((Bool.false = Bool.true) ∧
 True))
 (∃ x17 : Nat,
 (((IntKind.wrap IntKind.i64 ((↑x15 : Int) + (1 : Int))) = (↑x17 : Int)) ∧
 ((Nat.le x17 (List.length (CommitD.changes (List.getD x (Int.toNat (↑x13 : Int)) (CommitD.mk (0 : Int) (0 : Int) ([] : List UInt8) ([] : List ChangeD)))))) ∧
 ((Nat.sub (List.length (CommitD.changes (List.getD x (Int.toNat (↑x13 : Int)) (CommitD.mk (0 : Int) (0 : Int) ([] : List UInt8) ([] : List ChangeD))))) x17) < (Nat.sub (List.length (CommitD.changes (List.getD x (Int.toNat (↑x13 : Int)) (CommitD.mk (0 : Int) (0 : Int) ([] : List UInt8) ([] : List ChangeD))))) x15))))))
 (Bad "check" "ref.go:278"))
 (Bad "check" "ref.go:278"))
 (Bad "check" "ref.go:278"))
 (Bad "check" "ref.go:278"))
 (∃ x18 : Nat,
 (((IntKind.wrap IntKind.i64 ((↑x13 : Int) + (1 : Int))) = (↑x18 : Int)) ∧
 ((((CommitD.base (List.getD x (Int.toNat (↑x2 : Int)) (CommitD.mk (0 : Int) (0 : Int) ([] : List UInt8) ([] : List ChangeD)))) ≤ (↑x18 : Int)) ∧
 (x18 ≤ (Int.toNat (↑x2 : Int)))) ∧
 ((Nat.sub (Int.toNat (↑x2 : Int)) x18) < (Nat.sub (Int.toNat (↑x2 : Int)) x13)))))))
 (Bad "check" "ref.go:277")))))
 (∃ x19 : Nat,
 (((IntKind.wrap IntKind.i64 ((↑x7 : Int) + (1 : Int))) = (↑x19 : Int)) ∧
 ((Nat.le x19 (List.length (CommitD.changes (List.getD x (Int.toNat (↑x2 : Int)) (CommitD.mk (0 : Int) (0 : Int) ([] : List UInt8) ([] : List ChangeD)))))) ∧
 ((Nat.sub (List.length (CommitD.changes (List.getD x (Int.toNat (↑x2 : Int)) (CommitD.mk (0 : Int) (0 : Int) ([] : List UInt8) ([] : List ChangeD))))) x19) < (Nat.sub (List.length (CommitD.changes (List.getD x (Int.toNat (↑x2 : Int)) (CommitD.mk (0 : Int) (0 : Int) ([] : List UInt8) ([] : List ChangeD))))) x7)))))))))
 (Bad "check" "ref.go:276"))))))
 (∃ x20 : Nat,
 (((IntKind.wrap IntKind.i64 ((↑x2 : Int) + (1 : Int))) = (↑x20 : Int)) ∧
 ((Nat.le x20 (List.length x)) ∧
 ((Nat.sub (List.length x) x20) < (Nat.sub (List.length x) x2)))))))
 (Bad "check" "ref.go:270"))))))
 (Bad "check" "ref.go:267")))
 (Bad "check" "ref.go:267")))
 (Bad "check" "ref.go:267"))
 (∃ x21 : Unit,
 ((Bool.true = Bool.true) ∧
 True)))))))) := by kernel_rfl

end Go.Proofs.YtildflamnehilaaGreat.Ses

namespace Go.Proofs.YtildflamnehilaaGreat.Ses
open Go Go.Proofs Go.Proofs.YtildflamnehilaaGreat.Sx Go.Proofs.YtildflamnehilaaGreat.Trx

theorem legal_ok : SpecOK Tryz.prog 31 legalT.spec := by
  refine Tri.ok (E := legalE) (Env_ok (by decide +kernel) (by simp)) (n := 1000) legalT fun x hx => ?_
  rw [legal_vc]
  revert hx
  revert x
  intro (C : List CommitD) (hx : OkC C)
  have hg : ∀ i (h : i < C.length), C.getD i noM = C[i] := fun i h => by simp [List.getD, h]
  refine ⟨⟨0, rfl, Nat.zero_le _⟩, fun i hi hlen => br_i (fun h1 => ?_) (fun _ => ⟨(), rfl, trivial⟩)⟩
  have hlen : C.length * 56 ≤ room47 := hlen
  simp only [room47] at hlen
  have h1 := of_decide_eq_true h1
  have hil : i < C.length := by omega
  have bi : decide ((0 : Int) ≤ (i : Int) ∧ (i : Int) < (C.length : Int)) = true := decide_eq_true ⟨by omega, h1⟩
  have hr := hx.rev i hil
  have hb := hx.base i hil
  have hu := hx.unlike i hil
  have hc := hx.calm i hil
  rw [← hg i hil] at hr hb hu hc
  have e0 : (i : Int).toNat = i := rfl
  rw [e0]
  have w : IntKind.i64.wrap ((i : Int) + 1) = (i : Int) + 1 := wrap_id (by omega) (by omega)
  refine br_t bi (br_f ?_ (br_t bi (br_f (decide_eq_false (show ¬ (C.getD i noM).base < 0 by omega)) (br_t bi (br_f (decide_eq_false (show ¬ (C.getD i noM).base > (i : Int) by omega)) ⟨⟨0, rfl, Nat.zero_le _⟩, fun a ha => br_t bi fun hla => br_i (fun h2 => ?_) (fun h2 => ⟨i + 1, by rw [w]; rfl, by show i + 1 ≤ C.length; omega, by show C.length - (i + 1) < C.length - i; omega⟩)⟩)))))
  · rw [w]
    have : (C.getD i noM).rev = (i : Int) + 1 := hr
    show ((C.getD i noM).rev != (i : Int) + 1) = false
    rw [this]; simp
  have hla : (C.getD i noM).changes.length * 32 ≤ room47 := hla
  simp only [room47] at hla
  have h2 := of_decide_eq_true h2
  have e1 : (a : Int).toNat = a := rfl
  rw [e1]
  have hal : a < (C.getD i noM).changes.length := by
    have : (a : Int) < ((C.getD i noM).changes.length : Int) := h2
    omega
  have ba : decide ((0 : Int) ≤ (a : Int) ∧ (a : Int) < ((C.getD i noM).changes.length : Int)) = true := decide_eq_true ⟨by omega, h2⟩
  refine ⟨⟨0, rfl, Nat.zero_le _⟩, fun b hb' => br_i (fun h3 => ?_) (fun h3 => ?_)⟩
  · have h3 := of_decide_eq_true h3
    have hun := pair_at hu (i := b) (j := a) (by omega) hal
    refine br_t bi (br_t ba (br_t bi (br_t (decide_eq_true ⟨by omega, by show (b : Int) < ((C.getD i noM).changes.length : Int); omega⟩) (br_f ?_ ⟨b + 1, by rw [wrap_id (by omega) (by omega)]; rfl, by show b + 1 ≤ a; omega, by show a - (b + 1) < a - b; omega⟩))))
    show (((C.getD i noM).changes.getD a noC).path == ((C.getD i noM).changes.getD b noC).path) = false
    exact beq_eq_false_iff_ne.2 fun e => hun e.symm
  · obtain ⟨k0, hk0⟩ := Int.eq_ofNat_of_zero_le hb.1
    refine br_t bi ⟨⟨k0, hk0, by show (C.getD i noM).base ≤ (k0 : Int); omega, by omega⟩, fun k hk => br_i (fun h4 => ?_) (fun h4 => ⟨a + 1, by rw [wrap_id (by omega) (by omega)]; rfl, by show a + 1 ≤ (C.getD i noM).changes.length; omega, by show (C.getD i noM).changes.length - (a + 1) < (C.getD i noM).changes.length - a; omega⟩)⟩
    obtain ⟨k1, k2⟩ := hk
    have h4 := of_decide_eq_true h4
    have hkl : k < C.length := by omega
    have bk : decide ((0 : Int) ≤ (k : Int) ∧ (k : Int) < (C.length : Int)) = true := decide_eq_true ⟨by omega, by omega⟩
    have e2 : (k : Int).toNat = k := rfl
    rw [e2]
    have hcalm := hc k (by omega) k1 ((C.getD i noM).changes.getD a noC) (getD_mem hal)
    rw [← hg k hkl] at hcalm
    unfold hasP at hcalm
    refine ⟨⟨0, rfl, Nat.zero_le _⟩, fun q hq => br_t bk fun hlq => br_i (fun h5 => ?_) (fun h5 => ⟨k + 1, by rw [wrap_id (by omega) (by omega)]; rfl, ⟨by show (C.getD i noM).base ≤ ((k + 1 : Nat) : Int); have k1 : (C.getD i noM).base ≤ (k : Int) := k1; omega, by omega⟩, by show i - (k + 1) < i - k; omega⟩)⟩
    have hlq : (C.getD k noM).changes.length * 32 ≤ room47 := hlq
    simp only [room47] at hlq
    have h5 := of_decide_eq_true h5
    have hql : q < (C.getD k noM).changes.length := by
      have : (q : Int) < ((C.getD k noM).changes.length : Int) := h5
      omega
    refine br_t bk (br_t (decide_eq_true ⟨by omega, h5⟩) (br_t bi (br_t ba (br_f ?_ ⟨q + 1, by rw [wrap_id (by omega) (by omega)]; rfl, by show q + 1 ≤ (C.getD k noM).changes.length; omega, by show (C.getD k noM).changes.length - (q + 1) < (C.getD k noM).changes.length - q; omega⟩))))
    have := List.any_eq_false.1 hcalm ((C.getD k noM).changes.getD q noC) (getD_mem hql)
    show (((C.getD k noM).changes.getD q noC).path == ((C.getD i noM).changes.getD a noC).path) = false
    simpa using this

/-! ### loading -/

theorem land_two {x : LandA} (h : (landV x).code = 2) : badLd x = false ∧ landV x = vC 2 ((x.C.length : Int) + 1) [] ∧ landC x = x.C ++ [newC x] := by
  cases hb : badLd x
  · by_cases ha : x.base > x.C.length
    · rw [(land_ahead hb ha).1] at h; cases h
    · cases hc : confA x with
      | none => exact ⟨rfl, land_in hb ha hc⟩
      | some q => rw [(land_conf hb ha hc).1] at h; cases h
  · rw [(land_bad hb).1] at h; cases h
structure StepOK (raw : List CommitD) (i : Nat) : Prop where
  code : (landV (loadA raw i)).code = 2
  rev : (landV (loadA raw i)).rev = (raw.getD i noM).rev
  same : insS (raw.getD i noM).changes = (raw.getD i noM).changes
end Go.Proofs.YtildflamnehilaaGreat.Ses

namespace Go.Proofs.YtildflamnehilaaGreat.Ses
open Go Go.Proofs Go.Proofs.YtildflamnehilaaGreat.Sx Go.Proofs.YtildflamnehilaaGreat.Trx

section
variable {H : Type} {en : TypeId × Value → H} {w : World}

theorem op_change : Opens en Tryz.prog w 46 (enc .change) :=
  (opens_struct Tryz.underlying46 (by kernel_rfl) (opensF_cons (sz := 1) rfl (by kernel_rfl) (opens_str Tryz.underlying9) (opensF_cons (sz := 1) rfl (by kernel_rfl) (opens_bool Tryz.underlying4) (opensF_cons (sz := 1) rfl (by kernel_rfl) (opens_int Tryz.underlying35) opensF_nil)))).map
    (fun a => (⟨a.1, a.2.1, a.2.2.1⟩ : ChangeD)) (fun _ => rfl)
theorem op_changes : Opens en Tryz.prog w 39 (fun l : List ChangeD => [.rslice false .change l]) := opens_slice Tryz.underlying39 op_change (by kernel_rfl) (by kernel_rfl)
end
end Go.Proofs.YtildflamnehilaaGreat.Ses
