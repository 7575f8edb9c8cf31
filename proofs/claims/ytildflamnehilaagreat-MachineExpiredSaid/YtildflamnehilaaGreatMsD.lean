/- Whatever is applied: a machine in plain words; the law MachineExpired. No condition. -/
import Derived.Test.YtildflamnehilaaGreatMsC
import Derived.KernelRfl
set_option linter.unusedSimpArgs false
set_option linter.unusedVariables false

namespace Go.Proofs.YtildflamnehilaaGreat.Ses
open Go Go.Proofs Go.Proofs.YtildflamnehilaaGreat.Sx

def stepM (x : MacS) (r : RequestD) : MacS := (applyM x r).2
def runF (x : MacS) (l : List RequestD) : MacS := l.foldl stepM x
def againM (x : MacS) (q : RequestD) : Nat → MacS
  | 0 => x
  | j + 1 => stepM (againM x q j) q
structure MacW where
  x : MacS
  m : Nat
  g : Nat
  c : Nat
  k : Nat
  t : Nat
  sr : Nat
  e : Nat
  er : Nat
def macAt (s : St) (ms : Nat) : Option MacW := match getE s.env ms with
  | .mptr q _ => match s.m.blks.get q with
    | some (.cells [.int _ a, .int _ b, .int _ d, .mptr g _, .mptr t _, .mptr e _]) => match s.m.blks.get g, s.m.blks.get t, s.m.blks.get e with
      | some (.cells [.mslice _ c _ _, _, .mmap k]), some (.cells [_, .mslice _ sr _ _]), some (.cells [_, .mslice _ er _ _]) => match s.m.blks.get c, s.m.blks.get sr, s.m.blks.get er with
        | some (.rows .commit C), some (.rows .session S), some (.rows .epoch E) => some ⟨⟨a, b, d, C, S, E⟩, q, g, c, k, t, sr, e, er⟩
        | some (.rows .commit C), none, some (.rows .epoch E) => some ⟨⟨a, b, d, C, [], E⟩, q, g, c, k, t, sr, e, er⟩
        | _, _, _ => none
      | _, _, _ => none
    | _ => none
  | _ => none
noncomputable def runL (is ms : Nat) : St → LInv := fun s => match macAt s ms, getE s.env 0 with
  | some ⟨x, m, g, c, k, t, sr, e, er⟩, .rslice _ .request l => { σ := Nat, I := fun i => i ≤ l.length, μ := fun i => l.length - i, env := fun i => [(is, .int .i64 i)], blk := fun i => mB (runF x (l.take i)) m g s.m.next k t (s.m.next + 1) e (s.m.next + 2), fresh := 3, drop := [c, sr, er] }
  | _, _ => LInv.none
noncomputable def againI (is ms qs : Nat) : St → LInv := fun s => match macAt s ms, getE s.env qs with
  | some ⟨x, m, g, c, k, t, sr, e, er⟩, .mptr qb _ => match s.m.blks.get qb with
    | some (.cells cs) => match dec .request cs with
      | some (r : RequestD) => { σ := Nat, I := fun i => i ≤ 9, μ := fun i => 9 - i, env := fun i => [(is, .int .i64 i)], blk := fun i => mB (againM x r i) m g s.m.next k t (s.m.next + 1) e (s.m.next + 2), fresh := 3, drop := [c, sr, er] }
      | none => LInv.none
    | _ => LInv.none
  | _, _ => LInv.none

/-! ### expired -/

structure ExpA where
  l : List RequestD
  q : RequestD
  times : Nat
def expArgs (x : ExpA) : List SV := [.rslice false .request x.l, .agg x.q.enc, .int .u8 x.times]
noncomputable def expI14 : St → LInv := fun s => match getE s.env 9, getE s.env 4 with
  | .rslice _ .session S, .mptr qb _ => match s.m.blks.get qb with
    | some (.cells cs) => match dec .request cs with
      | some (r : RequestD) => { σ := Nat, I := fun i => i ≤ S.length ∧ ∀ j, j < i → ¬ (S.getD j ⟨0, 0, [], .dflt⟩).id = r.session, μ := fun i => S.length - i, env := fun i => [(10, .int .i64 i)], blk := fun _ => [], fresh := 0, drop := [] }
      | none => LInv.none
    | _ => LInv.none
  | _, _ => LInv.none
noncomputable def expE : Envr := Env Tryz.prog cod [(24, aw8T.spec), (25, freshT.spec), (26, applyT.spec), (30, mroomT.spec), (32, comMT.spec), (42, sesMT.spec), (44, atMT.spec), (43, scomsT.spec), (45, sintT.spec), (46, ssesT.spec)] [(9, runL 8 7), (14, expI14), (21, againI 13 7 4)]
end Go.Proofs.YtildflamnehilaaGreat.Ses

namespace Go.Proofs.YtildflamnehilaaGreat.Ses
open Go Go.Proofs Go.Proofs.YtildflamnehilaaGreat.Sx
set_option maxRecDepth 100000

theorem exp_vc (x : ExpA) : evCall expE (ev expE 1000) 9 (expArgs x) ⟨[], 0, []⟩ (fun _ _ => False) (fun v _ => TrueV v) = (
(∃ x1 : Unit,
 (True ∧
 (∀ x2 : Unit,
 (True →
 (∃ x3 : RmA,
 (((ExpA.l x) = (RmA.l x3)) ∧
 (((60 : Int) = (RmA.most x3)) ∧
 (True ∧
 (∀ x4 : Unit,
 (True →
 (br (Bool.not (roomM (RmA.l x3) (RmA.most x3)))
 (Bool.true = Bool.true)
 (∃ x5 : RmA,
 ((((0 : Nat) + (1 : Nat)) ≤ (List.length (List.cons (RequestD.mk (RequestD.kind (ExpA.q x)) (RequestD.name (ExpA.q x)) (RequestD.session (ExpA.q x)) (RequestD.seq (ExpA.q x)) (RequestD.base (ExpA.q x)) (RequestD.ref (ExpA.q x)) (RequestD.changes (ExpA.q x)) (RequestD.path (ExpA.q x)) (RequestD.from_ (ExpA.q x)) (RequestD.many (ExpA.q x)) (RequestD.member (ExpA.q x))) ([] : List RequestD)))) ∧
 (((List.take (1 : Nat) (List.drop (0 : Nat) (List.cons (RequestD.mk (RequestD.kind (ExpA.q x)) (RequestD.name (ExpA.q x)) (RequestD.session (ExpA.q x)) (RequestD.seq (ExpA.q x)) (RequestD.base (ExpA.q x)) (RequestD.ref (ExpA.q x)) (RequestD.changes (ExpA.q x)) (RequestD.path (ExpA.q x)) (RequestD.from_ (ExpA.q x)) (RequestD.many (ExpA.q x)) (RequestD.member (ExpA.q x))) ([] : List RequestD)))) = (RmA.l x5)) ∧
 (((1 : Int) = (RmA.most x5)) ∧
 (True ∧
 (∀ x6 : Unit,
 (True →
 (br (Bool.not (roomM (RmA.l x5) (RmA.most x5)))
 (Bool.true = Bool.true)
 (br ((RequestD.kind (ExpA.q x)) == (0 : Int))
 (Bool.true = Bool.true)
 (br ((RequestD.kind (ExpA.q x)) == (1 : Int))
 (Bool.true = Bool.true)
 (∃ x7 : Unit,
 (True ∧
 (∀ x8 : Unit,
 (True →
 ((∃ x9 : Nat,
 (((0 : Int) = (↑x9 : Int)) ∧
 (((MacS.alpha fresh0) = (MacS.alpha (runF (MacS.mk (MacS.alpha fresh0) (MacS.size fresh0) (MacS.applied fresh0) (MacS.C fresh0) (MacS.S fresh0) (MacS.E fresh0)) (List.take x9 (ExpA.l x))))) ∧
 (((MacS.size fresh0) = (MacS.size (runF (MacS.mk (MacS.alpha fresh0) (MacS.size fresh0) (MacS.applied fresh0) (MacS.C fresh0) (MacS.S fresh0) (MacS.E fresh0)) (List.take x9 (ExpA.l x))))) ∧
 (((MacS.applied fresh0) = (MacS.applied (runF (MacS.mk (MacS.alpha fresh0) (MacS.size fresh0) (MacS.applied fresh0) (MacS.C fresh0) (MacS.S fresh0) (MacS.E fresh0)) (List.take x9 (ExpA.l x))))) ∧
 (((0 : Nat) = (0 : Nat)) ∧
 (((List.length (MacS.C fresh0)) = (List.length (MacS.C (runF (MacS.mk (MacS.alpha fresh0) (MacS.size fresh0) (MacS.applied fresh0) (MacS.C fresh0) (MacS.S fresh0) (MacS.E fresh0)) (List.take x9 (ExpA.l x)))))) ∧
 (((treeC (MacS.C fresh0)) = (treeC (MacS.C (runF (MacS.mk (MacS.alpha fresh0) (MacS.size fresh0) (MacS.applied fresh0) (MacS.C fresh0) (MacS.S fresh0) (MacS.E fresh0)) (List.take x9 (ExpA.l x)))))) ∧
 (((MacS.C fresh0) = (MacS.C (runF (MacS.mk (MacS.alpha fresh0) (MacS.size fresh0) (MacS.applied fresh0) (MacS.C fresh0) (MacS.S fresh0) (MacS.E fresh0)) (List.take x9 (ExpA.l x))))) ∧
 (((kvC (MacS.C fresh0)) = (kvC (MacS.C (runF (MacS.mk (MacS.alpha fresh0) (MacS.size fresh0) (MacS.applied fresh0) (MacS.C fresh0) (MacS.S fresh0) (MacS.E fresh0)) (List.take x9 (ExpA.l x)))))) ∧
 (((MacS.size fresh0) = (MacS.size (runF (MacS.mk (MacS.alpha fresh0) (MacS.size fresh0) (MacS.applied fresh0) (MacS.C fresh0) (MacS.S fresh0) (MacS.E fresh0)) (List.take x9 (ExpA.l x))))) ∧
 (((0 : Nat) = (0 : Nat)) ∧
 (((List.length (MacS.S fresh0)) = (List.length (MacS.S (runF (MacS.mk (MacS.alpha fresh0) (MacS.size fresh0) (MacS.applied fresh0) (MacS.C fresh0) (MacS.S fresh0) (MacS.E fresh0)) (List.take x9 (ExpA.l x)))))) ∧
 (((MacS.S fresh0) = (MacS.S (runF (MacS.mk (MacS.alpha fresh0) (MacS.size fresh0) (MacS.applied fresh0) (MacS.C fresh0) (MacS.S fresh0) (MacS.E fresh0)) (List.take x9 (ExpA.l x))))) ∧
 (((MacS.alpha fresh0) = (MacS.alpha (runF (MacS.mk (MacS.alpha fresh0) (MacS.size fresh0) (MacS.applied fresh0) (MacS.C fresh0) (MacS.S fresh0) (MacS.E fresh0)) (List.take x9 (ExpA.l x))))) ∧
 (((0 : Nat) = (0 : Nat)) ∧
 (((List.length (MacS.E fresh0)) = (List.length (MacS.E (runF (MacS.mk (MacS.alpha fresh0) (MacS.size fresh0) (MacS.applied fresh0) (MacS.C fresh0) (MacS.S fresh0) (MacS.E fresh0)) (List.take x9 (ExpA.l x)))))) ∧
 (((MacS.E fresh0) = (MacS.E (runF (MacS.mk (MacS.alpha fresh0) (MacS.size fresh0) (MacS.applied fresh0) (MacS.C fresh0) (MacS.S fresh0) (MacS.E fresh0)) (List.take x9 (ExpA.l x))))) ∧
 (Nat.le x9 (List.length (ExpA.l x))))))))))))))))))))) ∧
 (∀ x10 : Nat,
 ((Nat.le x10 (List.length (ExpA.l x))) →
 ((((List.length (ExpA.l x)) * (128 : Nat)) ≤ room47) →
 (br (decide ((↑x10 : Int) < (↑(List.length (ExpA.l x)) : Int)))
 (br (decide (((0 : Int) ≤ (↑x10 : Int)) ∧
 ((↑x10 : Int) < (↑(List.length (ExpA.l x)) : Int))))
 (∃ x11 : MacA,
 (((RequestD.kind (List.getD (ExpA.l x) (Int.toNat (↑x10 : Int)) (RequestD.mk (0 : Int) ([] : List UInt8) (0 : Int) (0 : Int) (0 : Int) ([] : List UInt8) ([] : List ChangeD) ([] : List UInt8) (0 : Int) (0 : Int) (0 : Int)))) = (RequestD.kind (MacA.r x11))) ∧
 (((RequestD.name (List.getD (ExpA.l x) (Int.toNat (↑x10 : Int)) (RequestD.mk (0 : Int) ([] : List UInt8) (0 : Int) (0 : Int) (0 : Int) ([] : List UInt8) ([] : List ChangeD) ([] : List UInt8) (0 : Int) (0 : Int) (0 : Int)))) = (RequestD.name (MacA.r x11))) ∧
 (((RequestD.session (List.getD (ExpA.l x) (Int.toNat (↑x10 : Int)) (RequestD.mk (0 : Int) ([] : List UInt8) (0 : Int) (0 : Int) (0 : Int) ([] : List UInt8) ([] : List ChangeD) ([] : List UInt8) (0 : Int) (0 : Int) (0 : Int)))) = (RequestD.session (MacA.r x11))) ∧
 (((RequestD.seq (List.getD (ExpA.l x) (Int.toNat (↑x10 : Int)) (RequestD.mk (0 : Int) ([] : List UInt8) (0 : Int) (0 : Int) (0 : Int) ([] : List UInt8) ([] : List ChangeD) ([] : List UInt8) (0 : Int) (0 : Int) (0 : Int)))) = (RequestD.seq (MacA.r x11))) ∧
 (((RequestD.base (List.getD (ExpA.l x) (Int.toNat (↑x10 : Int)) (RequestD.mk (0 : Int) ([] : List UInt8) (0 : Int) (0 : Int) (0 : Int) ([] : List UInt8) ([] : List ChangeD) ([] : List UInt8) (0 : Int) (0 : Int) (0 : Int)))) = (RequestD.base (MacA.r x11))) ∧
 (((RequestD.ref (List.getD (ExpA.l x) (Int.toNat (↑x10 : Int)) (RequestD.mk (0 : Int) ([] : List UInt8) (0 : Int) (0 : Int) (0 : Int) ([] : List UInt8) ([] : List ChangeD) ([] : List UInt8) (0 : Int) (0 : Int) (0 : Int)))) = (RequestD.ref (MacA.r x11))) ∧
 (((RequestD.changes (List.getD (ExpA.l x) (Int.toNat (↑x10 : Int)) (RequestD.mk (0 : Int) ([] : List UInt8) (0 : Int) (0 : Int) (0 : Int) ([] : List UInt8) ([] : List ChangeD) ([] : List UInt8) (0 : Int) (0 : Int) (0 : Int)))) = (RequestD.changes (MacA.r x11))) ∧
 (((RequestD.path (List.getD (ExpA.l x) (Int.toNat (↑x10 : Int)) (RequestD.mk (0 : Int) ([] : List UInt8) (0 : Int) (0 : Int) (0 : Int) ([] : List UInt8) ([] : List ChangeD) ([] : List UInt8) (0 : Int) (0 : Int) (0 : Int)))) = (RequestD.path (MacA.r x11))) ∧
 (((RequestD.from_ (List.getD (ExpA.l x) (Int.toNat (↑x10 : Int)) (RequestD.mk (0 : Int) ([] : List UInt8) (0 : Int) (0 : Int) (0 : Int) ([] : List UInt8) ([] : List ChangeD) ([] : List UInt8) (0 : Int) (0 : Int) (0 : Int)))) = (RequestD.from_ (MacA.r x11))) ∧
 (((RequestD.many (List.getD (ExpA.l x) (Int.toNat (↑x10 : Int)) (RequestD.mk (0 : Int) ([] : List UInt8) (0 : Int) (0 : Int) (0 : Int) ([] : List UInt8) ([] : List ChangeD) ([] : List UInt8) (0 : Int) (0 : Int) (0 : Int)))) = (RequestD.many (MacA.r x11))) ∧
 (((RequestD.member (List.getD (ExpA.l x) (Int.toNat (↑x10 : Int)) (RequestD.mk (0 : Int) ([] : List UInt8) (0 : Int) (0 : Int) (0 : Int) ([] : List UInt8) ([] : List ChangeD) ([] : List UInt8) (0 : Int) (0 : Int) (0 : Int)))) = (RequestD.member (MacA.r x11))) ∧
 (((MacS.alpha (runF (MacS.mk (MacS.alpha fresh0) (MacS.size fresh0) (MacS.applied fresh0) (MacS.C fresh0) (MacS.S fresh0) (MacS.E fresh0)) (List.take x10 (ExpA.l x)))) = (MacS.alpha (MacA.x x11))) ∧
 (((MacS.size (runF (MacS.mk (MacS.alpha fresh0) (MacS.size fresh0) (MacS.applied fresh0) (MacS.C fresh0) (MacS.S fresh0) (MacS.E fresh0)) (List.take x10 (ExpA.l x)))) = (MacS.size (MacA.x x11))) ∧
 (((MacS.applied (runF (MacS.mk (MacS.alpha fresh0) (MacS.size fresh0) (MacS.applied fresh0) (MacS.C fresh0) (MacS.S fresh0) (MacS.E fresh0)) (List.take x10 (ExpA.l x)))) = (MacS.applied (MacA.x x11))) ∧
 (((0 : Nat) = (0 : Nat)) ∧
 (((List.length (MacS.C (runF (MacS.mk (MacS.alpha fresh0) (MacS.size fresh0) (MacS.applied fresh0) (MacS.C fresh0) (MacS.S fresh0) (MacS.E fresh0)) (List.take x10 (ExpA.l x))))) = (List.length (MacS.C (MacA.x x11)))) ∧
 (((treeC (MacS.C (runF (MacS.mk (MacS.alpha fresh0) (MacS.size fresh0) (MacS.applied fresh0) (MacS.C fresh0) (MacS.S fresh0) (MacS.E fresh0)) (List.take x10 (ExpA.l x))))) = (treeC (MacS.C (MacA.x x11)))) ∧
 (((MacS.C (runF (MacS.mk (MacS.alpha fresh0) (MacS.size fresh0) (MacS.applied fresh0) (MacS.C fresh0) (MacS.S fresh0) (MacS.E fresh0)) (List.take x10 (ExpA.l x)))) = (MacS.C (MacA.x x11))) ∧
 (((kvC (MacS.C (runF (MacS.mk (MacS.alpha fresh0) (MacS.size fresh0) (MacS.applied fresh0) (MacS.C fresh0) (MacS.S fresh0) (MacS.E fresh0)) (List.take x10 (ExpA.l x))))) = (kvC (MacS.C (MacA.x x11)))) ∧
 (((MacS.size (runF (MacS.mk (MacS.alpha fresh0) (MacS.size fresh0) (MacS.applied fresh0) (MacS.C fresh0) (MacS.S fresh0) (MacS.E fresh0)) (List.take x10 (ExpA.l x)))) = (MacS.size (MacA.x x11))) ∧
 (((0 : Nat) = (0 : Nat)) ∧
 (((List.length (MacS.S (runF (MacS.mk (MacS.alpha fresh0) (MacS.size fresh0) (MacS.applied fresh0) (MacS.C fresh0) (MacS.S fresh0) (MacS.E fresh0)) (List.take x10 (ExpA.l x))))) = (List.length (MacS.S (MacA.x x11)))) ∧
 (((MacS.S (runF (MacS.mk (MacS.alpha fresh0) (MacS.size fresh0) (MacS.applied fresh0) (MacS.C fresh0) (MacS.S fresh0) (MacS.E fresh0)) (List.take x10 (ExpA.l x)))) = (MacS.S (MacA.x x11))) ∧
 (((MacS.alpha (runF (MacS.mk (MacS.alpha fresh0) (MacS.size fresh0) (MacS.applied fresh0) (MacS.C fresh0) (MacS.S fresh0) (MacS.E fresh0)) (List.take x10 (ExpA.l x)))) = (MacS.alpha (MacA.x x11))) ∧
 (((0 : Nat) = (0 : Nat)) ∧
 (((List.length (MacS.E (runF (MacS.mk (MacS.alpha fresh0) (MacS.size fresh0) (MacS.applied fresh0) (MacS.C fresh0) (MacS.S fresh0) (MacS.E fresh0)) (List.take x10 (ExpA.l x))))) = (List.length (MacS.E (MacA.x x11)))) ∧
 (((MacS.E (runF (MacS.mk (MacS.alpha fresh0) (MacS.size fresh0) (MacS.applied fresh0) (MacS.C fresh0) (MacS.S fresh0) (MacS.E fresh0)) (List.take x10 (ExpA.l x)))) = (MacS.E (MacA.x x11))) ∧
 ((((okMS (MacA.x x11)) = Bool.true) ∧
 ((okRq (MacA.r x11)) = Bool.true)) ∧
 (∀ x12 : Unit,
 (True →
 (∃ x13 : Nat,
 (((IntKind.wrap IntKind.i64 ((↑x10 : Int) + (1 : Int))) = (↑x13 : Int)) ∧
 (((MacS.alpha (Prod.snd (applyM (MacA.x x11) (MacA.r x11)))) = (MacS.alpha (runF (MacS.mk (MacS.alpha fresh0) (MacS.size fresh0) (MacS.applied fresh0) (MacS.C fresh0) (MacS.S fresh0) (MacS.E fresh0)) (List.take x13 (ExpA.l x))))) ∧
 (((MacS.size (Prod.snd (applyM (MacA.x x11) (MacA.r x11)))) = (MacS.size (runF (MacS.mk (MacS.alpha fresh0) (MacS.size fresh0) (MacS.applied fresh0) (MacS.C fresh0) (MacS.S fresh0) (MacS.E fresh0)) (List.take x13 (ExpA.l x))))) ∧
 (((MacS.applied (Prod.snd (applyM (MacA.x x11) (MacA.r x11)))) = (MacS.applied (runF (MacS.mk (MacS.alpha fresh0) (MacS.size fresh0) (MacS.applied fresh0) (MacS.C fresh0) (MacS.S fresh0) (MacS.E fresh0)) (List.take x13 (ExpA.l x))))) ∧
 (((0 : Nat) = (0 : Nat)) ∧
 (((List.length (MacS.C (Prod.snd (applyM (MacA.x x11) (MacA.r x11))))) = (List.length (MacS.C (runF (MacS.mk (MacS.alpha fresh0) (MacS.size fresh0) (MacS.applied fresh0) (MacS.C fresh0) (MacS.S fresh0) (MacS.E fresh0)) (List.take x13 (ExpA.l x)))))) ∧
 (((treeC (MacS.C (Prod.snd (applyM (MacA.x x11) (MacA.r x11))))) = (treeC (MacS.C (runF (MacS.mk (MacS.alpha fresh0) (MacS.size fresh0) (MacS.applied fresh0) (MacS.C fresh0) (MacS.S fresh0) (MacS.E fresh0)) (List.take x13 (ExpA.l x)))))) ∧
 (((MacS.C (Prod.snd (applyM (MacA.x x11) (MacA.r x11)))) = (MacS.C (runF (MacS.mk (MacS.alpha fresh0) (MacS.size fresh0) (MacS.applied fresh0) (MacS.C fresh0) (MacS.S fresh0) (MacS.E fresh0)) (List.take x13 (ExpA.l x))))) ∧
 (((kvC (MacS.C (Prod.snd (applyM (MacA.x x11) (MacA.r x11))))) = (kvC (MacS.C (runF (MacS.mk (MacS.alpha fresh0) (MacS.size fresh0) (MacS.applied fresh0) (MacS.C fresh0) (MacS.S fresh0) (MacS.E fresh0)) (List.take x13 (ExpA.l x)))))) ∧
 (((MacS.size (Prod.snd (applyM (MacA.x x11) (MacA.r x11)))) = (MacS.size (runF (MacS.mk (MacS.alpha fresh0) (MacS.size fresh0) (MacS.applied fresh0) (MacS.C fresh0) (MacS.S fresh0) (MacS.E fresh0)) (List.take x13 (ExpA.l x))))) ∧
 (((0 : Nat) = (0 : Nat)) ∧
 (((List.length (MacS.S (Prod.snd (applyM (MacA.x x11) (MacA.r x11))))) = (List.length (MacS.S (runF (MacS.mk (MacS.alpha fresh0) (MacS.size fresh0) (MacS.applied fresh0) (MacS.C fresh0) (MacS.S fresh0) (MacS.E fresh0)) (List.take x13 (ExpA.l x)))))) ∧
 (((MacS.S (Prod.snd (applyM (MacA.x x11) (MacA.r x11)))) = (MacS.S (runF (MacS.mk (MacS.alpha fresh0) (MacS.size fresh0) (MacS.applied fresh0) (MacS.C fresh0) (MacS.S fresh0) (MacS.E fresh0)) (List.take x13 (ExpA.l x))))) ∧
 (((MacS.alpha (Prod.snd (applyM (MacA.x x11) (MacA.r x11)))) = (MacS.alpha (runF (MacS.mk (MacS.alpha fresh0) (MacS.size fresh0) (MacS.applied fresh0) (MacS.C fresh0) (MacS.S fresh0) (MacS.E fresh0)) (List.take x13 (ExpA.l x))))) ∧
 (((0 : Nat) = (0 : Nat)) ∧
 (((List.length (MacS.E (Prod.snd (applyM (MacA.x x11) (MacA.r x11))))) = (List.length (MacS.E (runF (MacS.mk (MacS.alpha fresh0) (MacS.size fresh0) (MacS.applied fresh0) (MacS.C fresh0) (MacS.S fresh0) (MacS.E fresh0)) (List.take x13 (ExpA.l x)))))) ∧
 (((MacS.E (Prod.snd (applyM (MacA.x x11) (MacA.r x11)))) = (MacS.E (runF (MacS.mk (MacS.alpha fresh0) (MacS.size fresh0) (MacS.applied fresh0) (MacS.C fresh0) (MacS.S fresh0) (MacS.E fresh0)) (List.take x13 (ExpA.l x))))) ∧
 ((Nat.le x13 (List.length (ExpA.l x))) ∧
 ((Nat.sub (List.length (ExpA.l x)) x13) < (Nat.sub (List.length (ExpA.l x)) x10))))))))))))))))))))))))))))))))))))))))))))))))))))
 (Bad "check" "law.go:264"))
 (∃ x14 : MacS,
 (((MacS.alpha (runF (MacS.mk (MacS.alpha fresh0) (MacS.size fresh0) (MacS.applied fresh0) (MacS.C fresh0) (MacS.S fresh0) (MacS.E fresh0)) (List.take x10 (ExpA.l x)))) = (MacS.alpha x14)) ∧
 (((MacS.size (runF (MacS.mk (MacS.alpha fresh0) (MacS.size fresh0) (MacS.applied fresh0) (MacS.C fresh0) (MacS.S fresh0) (MacS.E fresh0)) (List.take x10 (ExpA.l x)))) = (MacS.size x14)) ∧
 (((MacS.applied (runF (MacS.mk (MacS.alpha fresh0) (MacS.size fresh0) (MacS.applied fresh0) (MacS.C fresh0) (MacS.S fresh0) (MacS.E fresh0)) (List.take x10 (ExpA.l x)))) = (MacS.applied x14)) ∧
 (((0 : Nat) = (0 : Nat)) ∧
 (((List.length (MacS.C (runF (MacS.mk (MacS.alpha fresh0) (MacS.size fresh0) (MacS.applied fresh0) (MacS.C fresh0) (MacS.S fresh0) (MacS.E fresh0)) (List.take x10 (ExpA.l x))))) = (List.length (MacS.C x14))) ∧
 (((treeC (MacS.C (runF (MacS.mk (MacS.alpha fresh0) (MacS.size fresh0) (MacS.applied fresh0) (MacS.C fresh0) (MacS.S fresh0) (MacS.E fresh0)) (List.take x10 (ExpA.l x))))) = (treeC (MacS.C x14))) ∧
 (((MacS.C (runF (MacS.mk (MacS.alpha fresh0) (MacS.size fresh0) (MacS.applied fresh0) (MacS.C fresh0) (MacS.S fresh0) (MacS.E fresh0)) (List.take x10 (ExpA.l x)))) = (MacS.C x14)) ∧
 (((kvC (MacS.C (runF (MacS.mk (MacS.alpha fresh0) (MacS.size fresh0) (MacS.applied fresh0) (MacS.C fresh0) (MacS.S fresh0) (MacS.E fresh0)) (List.take x10 (ExpA.l x))))) = (kvC (MacS.C x14))) ∧
 (((MacS.size (runF (MacS.mk (MacS.alpha fresh0) (MacS.size fresh0) (MacS.applied fresh0) (MacS.C fresh0) (MacS.S fresh0) (MacS.E fresh0)) (List.take x10 (ExpA.l x)))) = (MacS.size x14)) ∧
 (((0 : Nat) = (0 : Nat)) ∧
 (((List.length (MacS.S (runF (MacS.mk (MacS.alpha fresh0) (MacS.size fresh0) (MacS.applied fresh0) (MacS.C fresh0) (MacS.S fresh0) (MacS.E fresh0)) (List.take x10 (ExpA.l x))))) = (List.length (MacS.S x14))) ∧
 (((MacS.S (runF (MacS.mk (MacS.alpha fresh0) (MacS.size fresh0) (MacS.applied fresh0) (MacS.C fresh0) (MacS.S fresh0) (MacS.E fresh0)) (List.take x10 (ExpA.l x)))) = (MacS.S x14)) ∧
 (((MacS.alpha (runF (MacS.mk (MacS.alpha fresh0) (MacS.size fresh0) (MacS.applied fresh0) (MacS.C fresh0) (MacS.S fresh0) (MacS.E fresh0)) (List.take x10 (ExpA.l x)))) = (MacS.alpha x14)) ∧
 (((0 : Nat) = (0 : Nat)) ∧
 (((List.length (MacS.E (runF (MacS.mk (MacS.alpha fresh0) (MacS.size fresh0) (MacS.applied fresh0) (MacS.C fresh0) (MacS.S fresh0) (MacS.E fresh0)) (List.take x10 (ExpA.l x))))) = (List.length (MacS.E x14))) ∧
 (((MacS.E (runF (MacS.mk (MacS.alpha fresh0) (MacS.size fresh0) (MacS.applied fresh0) (MacS.C fresh0) (MacS.S fresh0) (MacS.E fresh0)) (List.take x10 (ExpA.l x)))) = (MacS.E x14)) ∧
 (((decide ((0 : Int) < (MacS.size x14))) = Bool.true) ∧
 (∀ x15 : Unit,
 (True →
 ((∃ x16 : Nat,
 (((0 : Int) = (↑x16 : Int)) ∧
 ((x16 ≤ (List.length (MacS.S x14))) ∧
 (∀ x17 : Nat,
 ((x17 < x16) →
 (Not ((SessionD.id (List.getD (MacS.S x14) x17 (SessionD.mk (0 : Int) (0 : Int) ([] : List UInt8) VerdictD.dflt))) = (RequestD.session (RequestD.mk (RequestD.kind (ExpA.q x)) (RequestD.name (ExpA.q x)) (RequestD.session (ExpA.q x)) (RequestD.seq (ExpA.q x)) (RequestD.base (ExpA.q x)) (RequestD.ref (ExpA.q x)) (RequestD.changes (ExpA.q x)) (RequestD.path (ExpA.q x)) (RequestD.from_ (ExpA.q x)) (RequestD.many (ExpA.q x)) (RequestD.member (ExpA.q x))))))))))) ∧
 (∀ x18 : Nat,
 (((x18 ≤ (List.length (MacS.S x14))) ∧
 (∀ x19 : Nat,
 ((x19 < x18) →
 (Not ((SessionD.id (List.getD (MacS.S x14) x19 (SessionD.mk (0 : Int) (0 : Int) ([] : List UInt8) VerdictD.dflt))) = (RequestD.session (RequestD.mk (RequestD.kind (ExpA.q x)) (RequestD.name (ExpA.q x)) (RequestD.session (ExpA.q x)) (RequestD.seq (ExpA.q x)) (RequestD.base (ExpA.q x)) (RequestD.ref (ExpA.q x)) (RequestD.changes (ExpA.q x)) (RequestD.path (ExpA.q x)) (RequestD.from_ (ExpA.q x)) (RequestD.many (ExpA.q x)) (RequestD.member (ExpA.q x))))))))) →
 ((((List.length (MacS.S x14)) * (112 : Nat)) ≤ room47) →
 (br (decide ((↑x18 : Int) < (↑(List.length (MacS.S x14)) : Int)))
 (br (decide (((0 : Int) ≤ (↑x18 : Int)) ∧
 ((↑x18 : Int) < (↑(List.length (MacS.S x14)) : Int))))
 (br ((SessionD.id (List.getD (MacS.S x14) (Int.toNat (↑x18 : Int)) (SessionD.mk (0 : Int) (0 : Int) ([] : List UInt8) VerdictD.dflt))) == (RequestD.session (ExpA.q x)))
 (Bool.true = Bool.true)
 (∃ x20 : Nat,
 (((IntKind.wrap IntKind.i64 ((↑x18 : Int) + (1 : Int))) = (↑x20 : Int)) ∧
 (((x20 ≤ (List.length (MacS.S x14))) ∧
 (∀ x21 : Nat,
 ((x21 < x20) →
 (Not ((SessionD.id (List.getD (MacS.S x14) x21 (SessionD.mk (0 : Int) (0 : Int) ([] : List UInt8) VerdictD.dflt))) = (RequestD.session (RequestD.mk (RequestD.kind (ExpA.q x)) (RequestD.name (ExpA.q x)) (RequestD.session (ExpA.q x)) (RequestD.seq (ExpA.q x)) (RequestD.base (ExpA.q x)) (RequestD.ref (ExpA.q x)) (RequestD.changes (ExpA.q x)) (RequestD.path (ExpA.q x)) (RequestD.from_ (ExpA.q x)) (RequestD.many (ExpA.q x)) (RequestD.member (ExpA.q x))))))))) ∧
 ((Nat.sub (List.length (MacS.S x14)) x20) < (Nat.sub (List.length (MacS.S x14)) x18))))))
 (Bad "check" "law.go:268"))
 (∃ x22 : MacS,
 (((MacS.alpha x14) = (MacS.alpha x22)) ∧
 (((MacS.size x14) = (MacS.size x22)) ∧
 (((MacS.applied x14) = (MacS.applied x22)) ∧
 (((0 : Nat) = (0 : Nat)) ∧
 (((List.length (MacS.C x14)) = (List.length (MacS.C x22))) ∧
 (((treeC (MacS.C x14)) = (treeC (MacS.C x22))) ∧
 (((MacS.C x14) = (MacS.C x22)) ∧
 (((kvC (MacS.C x14)) = (kvC (MacS.C x22))) ∧
 (((MacS.size x14) = (MacS.size x22)) ∧
 (((0 : Nat) = (0 : Nat)) ∧
 (((List.length (MacS.S x14)) = (List.length (MacS.S x22))) ∧
 (((MacS.S x14) = (MacS.S x22)) ∧
 (((MacS.alpha x14) = (MacS.alpha x22)) ∧
 (((0 : Nat) = (0 : Nat)) ∧
 (((List.length (MacS.E x14)) = (List.length (MacS.E x22))) ∧
 (((MacS.E x14) = (MacS.E x22)) ∧
 (((fewG (MacS.C x22)) = Bool.true) ∧
 (∀ x23 : Unit,
 (True →
 (∃ x24 : MatA,
 (((549755813888 : Int) = (MatA.slot x24)) ∧
 (((MacS.alpha x22) = (MacS.alpha (MatA.x x24))) ∧
 (((MacS.size x22) = (MacS.size (MatA.x x24))) ∧
 (((MacS.applied x22) = (MacS.applied (MatA.x x24))) ∧
 (((0 : Nat) = (0 : Nat)) ∧
 (((List.length (MacS.C x22)) = (List.length (MacS.C (MatA.x x24)))) ∧
 (((treeC (MacS.C x22)) = (treeC (MacS.C (MatA.x x24)))) ∧
 (((MacS.C x22) = (MacS.C (MatA.x x24))) ∧
 (((kvC (MacS.C x22)) = (kvC (MacS.C (MatA.x x24)))) ∧
 (((MacS.size x22) = (MacS.size (MatA.x x24))) ∧
 (((0 : Nat) = (0 : Nat)) ∧
 (((List.length (MacS.S x22)) = (List.length (MacS.S (MatA.x x24)))) ∧
 (((MacS.S x22) = (MacS.S (MatA.x x24))) ∧
 (((MacS.alpha x22) = (MacS.alpha (MatA.x x24))) ∧
 (((0 : Nat) = (0 : Nat)) ∧
 (((List.length (MacS.E x22)) = (List.length (MacS.E (MatA.x x24)))) ∧
 (((MacS.E x22) = (MacS.E (MatA.x x24))) ∧
 (((decide ((1 : Nat) ≤ (List.length (MacS.E (MatA.x x24))))) = Bool.true) ∧
 (∀ x25 : Unit,
 (True →
 ((∃ x26 : Nat,
 (((0 : Int) = (↑x26 : Int)) ∧
 (((MacS.alpha (MatA.x x24)) = (MacS.alpha (againM (MacS.mk (MacS.alpha (MatA.x x24)) (MacS.size (MatA.x x24)) (MacS.applied (MatA.x x24)) (MacS.C (MatA.x x24)) (MacS.S (MatA.x x24)) (MacS.E (MatA.x x24))) (RequestD.mk (RequestD.kind (ExpA.q x)) (RequestD.name (ExpA.q x)) (RequestD.session (ExpA.q x)) (RequestD.seq (ExpA.q x)) (RequestD.base (ExpA.q x)) (RequestD.ref (ExpA.q x)) (RequestD.changes (ExpA.q x)) (RequestD.path (ExpA.q x)) (RequestD.from_ (ExpA.q x)) (RequestD.many (ExpA.q x)) (RequestD.member (ExpA.q x))) x26))) ∧
 (((MacS.size (MatA.x x24)) = (MacS.size (againM (MacS.mk (MacS.alpha (MatA.x x24)) (MacS.size (MatA.x x24)) (MacS.applied (MatA.x x24)) (MacS.C (MatA.x x24)) (MacS.S (MatA.x x24)) (MacS.E (MatA.x x24))) (RequestD.mk (RequestD.kind (ExpA.q x)) (RequestD.name (ExpA.q x)) (RequestD.session (ExpA.q x)) (RequestD.seq (ExpA.q x)) (RequestD.base (ExpA.q x)) (RequestD.ref (ExpA.q x)) (RequestD.changes (ExpA.q x)) (RequestD.path (ExpA.q x)) (RequestD.from_ (ExpA.q x)) (RequestD.many (ExpA.q x)) (RequestD.member (ExpA.q x))) x26))) ∧
 (((MacS.applied (MatA.x x24)) = (MacS.applied (againM (MacS.mk (MacS.alpha (MatA.x x24)) (MacS.size (MatA.x x24)) (MacS.applied (MatA.x x24)) (MacS.C (MatA.x x24)) (MacS.S (MatA.x x24)) (MacS.E (MatA.x x24))) (RequestD.mk (RequestD.kind (ExpA.q x)) (RequestD.name (ExpA.q x)) (RequestD.session (ExpA.q x)) (RequestD.seq (ExpA.q x)) (RequestD.base (ExpA.q x)) (RequestD.ref (ExpA.q x)) (RequestD.changes (ExpA.q x)) (RequestD.path (ExpA.q x)) (RequestD.from_ (ExpA.q x)) (RequestD.many (ExpA.q x)) (RequestD.member (ExpA.q x))) x26))) ∧
 (((0 : Nat) = (0 : Nat)) ∧
 (((List.length (MacS.C (MatA.x x24))) = (List.length (MacS.C (againM (MacS.mk (MacS.alpha (MatA.x x24)) (MacS.size (MatA.x x24)) (MacS.applied (MatA.x x24)) (MacS.C (MatA.x x24)) (MacS.S (MatA.x x24)) (MacS.E (MatA.x x24))) (RequestD.mk (RequestD.kind (ExpA.q x)) (RequestD.name (ExpA.q x)) (RequestD.session (ExpA.q x)) (RequestD.seq (ExpA.q x)) (RequestD.base (ExpA.q x)) (RequestD.ref (ExpA.q x)) (RequestD.changes (ExpA.q x)) (RequestD.path (ExpA.q x)) (RequestD.from_ (ExpA.q x)) (RequestD.many (ExpA.q x)) (RequestD.member (ExpA.q x))) x26)))) ∧
 (((treeC (MacS.C (MatA.x x24))) = (treeC (MacS.C (againM (MacS.mk (MacS.alpha (MatA.x x24)) (MacS.size (MatA.x x24)) (MacS.applied (MatA.x x24)) (MacS.C (MatA.x x24)) (MacS.S (MatA.x x24)) (MacS.E (MatA.x x24))) (RequestD.mk (RequestD.kind (ExpA.q x)) (RequestD.name (ExpA.q x)) (RequestD.session (ExpA.q x)) (RequestD.seq (ExpA.q x)) (RequestD.base (ExpA.q x)) (RequestD.ref (ExpA.q x)) (RequestD.changes (ExpA.q x)) (RequestD.path (ExpA.q x)) (RequestD.from_ (ExpA.q x)) (RequestD.many (ExpA.q x)) (RequestD.member (ExpA.q x))) x26)))) ∧
 (((MacS.C (MatA.x x24)) = (MacS.C (againM (MacS.mk (MacS.alpha (MatA.x x24)) (MacS.size (MatA.x x24)) (MacS.applied (MatA.x x24)) (MacS.C (MatA.x x24)) (MacS.S (MatA.x x24)) (MacS.E (MatA.x x24))) (RequestD.mk (RequestD.kind (ExpA.q x)) (RequestD.name (ExpA.q x)) (RequestD.session (ExpA.q x)) (RequestD.seq (ExpA.q x)) (RequestD.base (ExpA.q x)) (RequestD.ref (ExpA.q x)) (RequestD.changes (ExpA.q x)) (RequestD.path (ExpA.q x)) (RequestD.from_ (ExpA.q x)) (RequestD.many (ExpA.q x)) (RequestD.member (ExpA.q x))) x26))) ∧
 (((kvC (MacS.C (MatA.x x24))) = (kvC (MacS.C (againM (MacS.mk (MacS.alpha (MatA.x x24)) (MacS.size (MatA.x x24)) (MacS.applied (MatA.x x24)) (MacS.C (MatA.x x24)) (MacS.S (MatA.x x24)) (MacS.E (MatA.x x24))) (RequestD.mk (RequestD.kind (ExpA.q x)) (RequestD.name (ExpA.q x)) (RequestD.session (ExpA.q x)) (RequestD.seq (ExpA.q x)) (RequestD.base (ExpA.q x)) (RequestD.ref (ExpA.q x)) (RequestD.changes (ExpA.q x)) (RequestD.path (ExpA.q x)) (RequestD.from_ (ExpA.q x)) (RequestD.many (ExpA.q x)) (RequestD.member (ExpA.q x))) x26)))) ∧
 (((MacS.size (MatA.x x24)) = (MacS.size (againM (MacS.mk (MacS.alpha (MatA.x x24)) (MacS.size (MatA.x x24)) (MacS.applied (MatA.x x24)) (MacS.C (MatA.x x24)) (MacS.S (MatA.x x24)) (MacS.E (MatA.x x24))) (RequestD.mk (RequestD.kind (ExpA.q x)) (RequestD.name (ExpA.q x)) (RequestD.session (ExpA.q x)) (RequestD.seq (ExpA.q x)) (RequestD.base (ExpA.q x)) (RequestD.ref (ExpA.q x)) (RequestD.changes (ExpA.q x)) (RequestD.path (ExpA.q x)) (RequestD.from_ (ExpA.q x)) (RequestD.many (ExpA.q x)) (RequestD.member (ExpA.q x))) x26))) ∧
 (((0 : Nat) = (0 : Nat)) ∧
 (((List.length (MacS.S (MatA.x x24))) = (List.length (MacS.S (againM (MacS.mk (MacS.alpha (MatA.x x24)) (MacS.size (MatA.x x24)) (MacS.applied (MatA.x x24)) (MacS.C (MatA.x x24)) (MacS.S (MatA.x x24)) (MacS.E (MatA.x x24))) (RequestD.mk (RequestD.kind (ExpA.q x)) (RequestD.name (ExpA.q x)) (RequestD.session (ExpA.q x)) (RequestD.seq (ExpA.q x)) (RequestD.base (ExpA.q x)) (RequestD.ref (ExpA.q x)) (RequestD.changes (ExpA.q x)) (RequestD.path (ExpA.q x)) (RequestD.from_ (ExpA.q x)) (RequestD.many (ExpA.q x)) (RequestD.member (ExpA.q x))) x26)))) ∧
 (((MacS.S (MatA.x x24)) = (MacS.S (againM (MacS.mk (MacS.alpha (MatA.x x24)) (MacS.size (MatA.x x24)) (MacS.applied (MatA.x x24)) (MacS.C (MatA.x x24)) (MacS.S (MatA.x x24)) (MacS.E (MatA.x x24))) (RequestD.mk (RequestD.kind (ExpA.q x)) (RequestD.name (ExpA.q x)) (RequestD.session (ExpA.q x)) (RequestD.seq (ExpA.q x)) (RequestD.base (ExpA.q x)) (RequestD.ref (ExpA.q x)) (RequestD.changes (ExpA.q x)) (RequestD.path (ExpA.q x)) (RequestD.from_ (ExpA.q x)) (RequestD.many (ExpA.q x)) (RequestD.member (ExpA.q x))) x26))) ∧
 (((MacS.alpha (MatA.x x24)) = (MacS.alpha (againM (MacS.mk (MacS.alpha (MatA.x x24)) (MacS.size (MatA.x x24)) (MacS.applied (MatA.x x24)) (MacS.C (MatA.x x24)) (MacS.S (MatA.x x24)) (MacS.E (MatA.x x24))) (RequestD.mk (RequestD.kind (ExpA.q x)) (RequestD.name (ExpA.q x)) (RequestD.session (ExpA.q x)) (RequestD.seq (ExpA.q x)) (RequestD.base (ExpA.q x)) (RequestD.ref (ExpA.q x)) (RequestD.changes (ExpA.q x)) (RequestD.path (ExpA.q x)) (RequestD.from_ (ExpA.q x)) (RequestD.many (ExpA.q x)) (RequestD.member (ExpA.q x))) x26))) ∧
 (((0 : Nat) = (0 : Nat)) ∧
 (((List.length (MacS.E (MatA.x x24))) = (List.length (MacS.E (againM (MacS.mk (MacS.alpha (MatA.x x24)) (MacS.size (MatA.x x24)) (MacS.applied (MatA.x x24)) (MacS.C (MatA.x x24)) (MacS.S (MatA.x x24)) (MacS.E (MatA.x x24))) (RequestD.mk (RequestD.kind (ExpA.q x)) (RequestD.name (ExpA.q x)) (RequestD.session (ExpA.q x)) (RequestD.seq (ExpA.q x)) (RequestD.base (ExpA.q x)) (RequestD.ref (ExpA.q x)) (RequestD.changes (ExpA.q x)) (RequestD.path (ExpA.q x)) (RequestD.from_ (ExpA.q x)) (RequestD.many (ExpA.q x)) (RequestD.member (ExpA.q x))) x26)))) ∧
 (((MacS.E (MatA.x x24)) = (MacS.E (againM (MacS.mk (MacS.alpha (MatA.x x24)) (MacS.size (MatA.x x24)) (MacS.applied (MatA.x x24)) (MacS.C (MatA.x x24)) (MacS.S (MatA.x x24)) (MacS.E (MatA.x x24))) (RequestD.mk (RequestD.kind (ExpA.q x)) (RequestD.name (ExpA.q x)) (RequestD.session (ExpA.q x)) (RequestD.seq (ExpA.q x)) (RequestD.base (ExpA.q x)) (RequestD.ref (ExpA.q x)) (RequestD.changes (ExpA.q x)) (RequestD.path (ExpA.q x)) (RequestD.from_ (ExpA.q x)) (RequestD.many (ExpA.q x)) (RequestD.member (ExpA.q x))) x26))) ∧
 (Nat.le x26 (9 : Nat)))))))))))))))))))) ∧
 (∀ x27 : Nat,
 ((Nat.le x27 (9 : Nat)) →
 (br (decide ((↑x27 : Int) < (Int.tmod (IntKind.wrap IntKind.i64 (↑(ExpA.times x) : Int)) (9 : Int))))
 (∃ x28 : MacA,
 (((RequestD.kind (ExpA.q x)) = (RequestD.kind (MacA.r x28))) ∧
 (((RequestD.name (ExpA.q x)) = (RequestD.name (MacA.r x28))) ∧
 (((RequestD.session (ExpA.q x)) = (RequestD.session (MacA.r x28))) ∧
 (((RequestD.seq (ExpA.q x)) = (RequestD.seq (MacA.r x28))) ∧
 (((RequestD.base (ExpA.q x)) = (RequestD.base (MacA.r x28))) ∧
 (((RequestD.ref (ExpA.q x)) = (RequestD.ref (MacA.r x28))) ∧
 (((RequestD.changes (ExpA.q x)) = (RequestD.changes (MacA.r x28))) ∧
 (((RequestD.path (ExpA.q x)) = (RequestD.path (MacA.r x28))) ∧
 (((RequestD.from_ (ExpA.q x)) = (RequestD.from_ (MacA.r x28))) ∧
 (((RequestD.many (ExpA.q x)) = (RequestD.many (MacA.r x28))) ∧
 (((RequestD.member (ExpA.q x)) = (RequestD.member (MacA.r x28))) ∧
 (((MacS.alpha (againM (MacS.mk (MacS.alpha (MatA.x x24)) (MacS.size (MatA.x x24)) (MacS.applied (MatA.x x24)) (MacS.C (MatA.x x24)) (MacS.S (MatA.x x24)) (MacS.E (MatA.x x24))) (RequestD.mk (RequestD.kind (ExpA.q x)) (RequestD.name (ExpA.q x)) (RequestD.session (ExpA.q x)) (RequestD.seq (ExpA.q x)) (RequestD.base (ExpA.q x)) (RequestD.ref (ExpA.q x)) (RequestD.changes (ExpA.q x)) (RequestD.path (ExpA.q x)) (RequestD.from_ (ExpA.q x)) (RequestD.many (ExpA.q x)) (RequestD.member (ExpA.q x))) x27)) = (MacS.alpha (MacA.x x28))) ∧
 (((MacS.size (againM (MacS.mk (MacS.alpha (MatA.x x24)) (MacS.size (MatA.x x24)) (MacS.applied (MatA.x x24)) (MacS.C (MatA.x x24)) (MacS.S (MatA.x x24)) (MacS.E (MatA.x x24))) (RequestD.mk (RequestD.kind (ExpA.q x)) (RequestD.name (ExpA.q x)) (RequestD.session (ExpA.q x)) (RequestD.seq (ExpA.q x)) (RequestD.base (ExpA.q x)) (RequestD.ref (ExpA.q x)) (RequestD.changes (ExpA.q x)) (RequestD.path (ExpA.q x)) (RequestD.from_ (ExpA.q x)) (RequestD.many (ExpA.q x)) (RequestD.member (ExpA.q x))) x27)) = (MacS.size (MacA.x x28))) ∧
 (((MacS.applied (againM (MacS.mk (MacS.alpha (MatA.x x24)) (MacS.size (MatA.x x24)) (MacS.applied (MatA.x x24)) (MacS.C (MatA.x x24)) (MacS.S (MatA.x x24)) (MacS.E (MatA.x x24))) (RequestD.mk (RequestD.kind (ExpA.q x)) (RequestD.name (ExpA.q x)) (RequestD.session (ExpA.q x)) (RequestD.seq (ExpA.q x)) (RequestD.base (ExpA.q x)) (RequestD.ref (ExpA.q x)) (RequestD.changes (ExpA.q x)) (RequestD.path (ExpA.q x)) (RequestD.from_ (ExpA.q x)) (RequestD.many (ExpA.q x)) (RequestD.member (ExpA.q x))) x27)) = (MacS.applied (MacA.x x28))) ∧
 (((0 : Nat) = (0 : Nat)) ∧
 (((List.length (MacS.C (againM (MacS.mk (MacS.alpha (MatA.x x24)) (MacS.size (MatA.x x24)) (MacS.applied (MatA.x x24)) (MacS.C (MatA.x x24)) (MacS.S (MatA.x x24)) (MacS.E (MatA.x x24))) (RequestD.mk (RequestD.kind (ExpA.q x)) (RequestD.name (ExpA.q x)) (RequestD.session (ExpA.q x)) (RequestD.seq (ExpA.q x)) (RequestD.base (ExpA.q x)) (RequestD.ref (ExpA.q x)) (RequestD.changes (ExpA.q x)) (RequestD.path (ExpA.q x)) (RequestD.from_ (ExpA.q x)) (RequestD.many (ExpA.q x)) (RequestD.member (ExpA.q x))) x27))) = (List.length (MacS.C (MacA.x x28)))) ∧
 (((treeC (MacS.C (againM (MacS.mk (MacS.alpha (MatA.x x24)) (MacS.size (MatA.x x24)) (MacS.applied (MatA.x x24)) (MacS.C (MatA.x x24)) (MacS.S (MatA.x x24)) (MacS.E (MatA.x x24))) (RequestD.mk (RequestD.kind (ExpA.q x)) (RequestD.name (ExpA.q x)) (RequestD.session (ExpA.q x)) (RequestD.seq (ExpA.q x)) (RequestD.base (ExpA.q x)) (RequestD.ref (ExpA.q x)) (RequestD.changes (ExpA.q x)) (RequestD.path (ExpA.q x)) (RequestD.from_ (ExpA.q x)) (RequestD.many (ExpA.q x)) (RequestD.member (ExpA.q x))) x27))) = (treeC (MacS.C (MacA.x x28)))) ∧
 (((MacS.C (againM (MacS.mk (MacS.alpha (MatA.x x24)) (MacS.size (MatA.x x24)) (MacS.applied (MatA.x x24)) (MacS.C (MatA.x x24)) (MacS.S (MatA.x x24)) (MacS.E (MatA.x x24))) (RequestD.mk (RequestD.kind (ExpA.q x)) (RequestD.name (ExpA.q x)) (RequestD.session (ExpA.q x)) (RequestD.seq (ExpA.q x)) (RequestD.base (ExpA.q x)) (RequestD.ref (ExpA.q x)) (RequestD.changes (ExpA.q x)) (RequestD.path (ExpA.q x)) (RequestD.from_ (ExpA.q x)) (RequestD.many (ExpA.q x)) (RequestD.member (ExpA.q x))) x27)) = (MacS.C (MacA.x x28))) ∧
 (((kvC (MacS.C (againM (MacS.mk (MacS.alpha (MatA.x x24)) (MacS.size (MatA.x x24)) (MacS.applied (MatA.x x24)) (MacS.C (MatA.x x24)) (MacS.S (MatA.x x24)) (MacS.E (MatA.x x24))) (RequestD.mk (RequestD.kind (ExpA.q x)) (RequestD.name (ExpA.q x)) (RequestD.session (ExpA.q x)) (RequestD.seq (ExpA.q x)) (RequestD.base (ExpA.q x)) (RequestD.ref (ExpA.q x)) (RequestD.changes (ExpA.q x)) (RequestD.path (ExpA.q x)) (RequestD.from_ (ExpA.q x)) (RequestD.many (ExpA.q x)) (RequestD.member (ExpA.q x))) x27))) = (kvC (MacS.C (MacA.x x28)))) ∧
 (((MacS.size (againM (MacS.mk (MacS.alpha (MatA.x x24)) (MacS.size (MatA.x x24)) (MacS.applied (MatA.x x24)) (MacS.C (MatA.x x24)) (MacS.S (MatA.x x24)) (MacS.E (MatA.x x24))) (RequestD.mk (RequestD.kind (ExpA.q x)) (RequestD.name (ExpA.q x)) (RequestD.session (ExpA.q x)) (RequestD.seq (ExpA.q x)) (RequestD.base (ExpA.q x)) (RequestD.ref (ExpA.q x)) (RequestD.changes (ExpA.q x)) (RequestD.path (ExpA.q x)) (RequestD.from_ (ExpA.q x)) (RequestD.many (ExpA.q x)) (RequestD.member (ExpA.q x))) x27)) = (MacS.size (MacA.x x28))) ∧
 (((0 : Nat) = (0 : Nat)) ∧
 (((List.length (MacS.S (againM (MacS.mk (MacS.alpha (MatA.x x24)) (MacS.size (MatA.x x24)) (MacS.applied (MatA.x x24)) (MacS.C (MatA.x x24)) (MacS.S (MatA.x x24)) (MacS.E (MatA.x x24))) (RequestD.mk (RequestD.kind (ExpA.q x)) (RequestD.name (ExpA.q x)) (RequestD.session (ExpA.q x)) (RequestD.seq (ExpA.q x)) (RequestD.base (ExpA.q x)) (RequestD.ref (ExpA.q x)) (RequestD.changes (ExpA.q x)) (RequestD.path (ExpA.q x)) (RequestD.from_ (ExpA.q x)) (RequestD.many (ExpA.q x)) (RequestD.member (ExpA.q x))) x27))) = (List.length (MacS.S (MacA.x x28)))) ∧
 (((MacS.S (againM (MacS.mk (MacS.alpha (MatA.x x24)) (MacS.size (MatA.x x24)) (MacS.applied (MatA.x x24)) (MacS.C (MatA.x x24)) (MacS.S (MatA.x x24)) (MacS.E (MatA.x x24))) (RequestD.mk (RequestD.kind (ExpA.q x)) (RequestD.name (ExpA.q x)) (RequestD.session (ExpA.q x)) (RequestD.seq (ExpA.q x)) (RequestD.base (ExpA.q x)) (RequestD.ref (ExpA.q x)) (RequestD.changes (ExpA.q x)) (RequestD.path (ExpA.q x)) (RequestD.from_ (ExpA.q x)) (RequestD.many (ExpA.q x)) (RequestD.member (ExpA.q x))) x27)) = (MacS.S (MacA.x x28))) ∧
 (((MacS.alpha (againM (MacS.mk (MacS.alpha (MatA.x x24)) (MacS.size (MatA.x x24)) (MacS.applied (MatA.x x24)) (MacS.C (MatA.x x24)) (MacS.S (MatA.x x24)) (MacS.E (MatA.x x24))) (RequestD.mk (RequestD.kind (ExpA.q x)) (RequestD.name (ExpA.q x)) (RequestD.session (ExpA.q x)) (RequestD.seq (ExpA.q x)) (RequestD.base (ExpA.q x)) (RequestD.ref (ExpA.q x)) (RequestD.changes (ExpA.q x)) (RequestD.path (ExpA.q x)) (RequestD.from_ (ExpA.q x)) (RequestD.many (ExpA.q x)) (RequestD.member (ExpA.q x))) x27)) = (MacS.alpha (MacA.x x28))) ∧
 (((0 : Nat) = (0 : Nat)) ∧
 (((List.length (MacS.E (againM (MacS.mk (MacS.alpha (MatA.x x24)) (MacS.size (MatA.x x24)) (MacS.applied (MatA.x x24)) (MacS.C (MatA.x x24)) (MacS.S (MatA.x x24)) (MacS.E (MatA.x x24))) (RequestD.mk (RequestD.kind (ExpA.q x)) (RequestD.name (ExpA.q x)) (RequestD.session (ExpA.q x)) (RequestD.seq (ExpA.q x)) (RequestD.base (ExpA.q x)) (RequestD.ref (ExpA.q x)) (RequestD.changes (ExpA.q x)) (RequestD.path (ExpA.q x)) (RequestD.from_ (ExpA.q x)) (RequestD.many (ExpA.q x)) (RequestD.member (ExpA.q x))) x27))) = (List.length (MacS.E (MacA.x x28)))) ∧
 (((MacS.E (againM (MacS.mk (MacS.alpha (MatA.x x24)) (MacS.size (MatA.x x24)) (MacS.applied (MatA.x x24)) (MacS.C (MatA.x x24)) (MacS.S (MatA.x x24)) (MacS.E (MatA.x x24))) (RequestD.mk (RequestD.kind (ExpA.q x)) (RequestD.name (ExpA.q x)) (RequestD.session (ExpA.q x)) (RequestD.seq (ExpA.q x)) (RequestD.base (ExpA.q x)) (RequestD.ref (ExpA.q x)) (RequestD.changes (ExpA.q x)) (RequestD.path (ExpA.q x)) (RequestD.from_ (ExpA.q x)) (RequestD.many (ExpA.q x)) (RequestD.member (ExpA.q x))) x27)) = (MacS.E (MacA.x x28))) ∧
 ((((okMS (MacA.x x28)) = Bool.true) ∧
 ((okRq (MacA.r x28)) = Bool.true)) ∧
 (∀ x29 : Unit,
 (True →
 (br ((VerdictD.code (Prod.fst (applyM (MacA.x x28) (MacA.r x28)))) != (6 : Int))
 (Bool.false = Bool.true)
 (∃ x30 : Nat,
 (((IntKind.wrap IntKind.i64 ((↑x27 : Int) + (1 : Int))) = (↑x30 : Int)) ∧
 (((MacS.alpha (Prod.snd (applyM (MacA.x x28) (MacA.r x28)))) = (MacS.alpha (againM (MacS.mk (MacS.alpha (MatA.x x24)) (MacS.size (MatA.x x24)) (MacS.applied (MatA.x x24)) (MacS.C (MatA.x x24)) (MacS.S (MatA.x x24)) (MacS.E (MatA.x x24))) (RequestD.mk (RequestD.kind (ExpA.q x)) (RequestD.name (ExpA.q x)) (RequestD.session (ExpA.q x)) (RequestD.seq (ExpA.q x)) (RequestD.base (ExpA.q x)) (RequestD.ref (ExpA.q x)) (RequestD.changes (ExpA.q x)) (RequestD.path (ExpA.q x)) (RequestD.from_ (ExpA.q x)) (RequestD.many (ExpA.q x)) (RequestD.member (ExpA.q x))) x30))) ∧
 (((MacS.size (Prod.snd (applyM (MacA.x x28) (MacA.r x28)))) = (MacS.size (againM (MacS.mk (MacS.alpha (MatA.x x24)) (MacS.size (MatA.x x24)) (MacS.applied (MatA.x x24)) (MacS.C (MatA.x x24)) (MacS.S (MatA.x x24)) (MacS.E (MatA.x x24))) (RequestD.mk (RequestD.kind (ExpA.q x)) (RequestD.name (ExpA.q x)) (RequestD.session (ExpA.q x)) (RequestD.seq (ExpA.q x)) (RequestD.base (ExpA.q x)) (RequestD.ref (ExpA.q x)) (RequestD.changes (ExpA.q x)) (RequestD.path (ExpA.q x)) (RequestD.from_ (ExpA.q x)) (RequestD.many (ExpA.q x)) (RequestD.member (ExpA.q x))) x30))) ∧
 (((MacS.applied (Prod.snd (applyM (MacA.x x28) (MacA.r x28)))) = (MacS.applied (againM (MacS.mk (MacS.alpha (MatA.x x24)) (MacS.size (MatA.x x24)) (MacS.applied (MatA.x x24)) (MacS.C (MatA.x x24)) (MacS.S (MatA.x x24)) (MacS.E (MatA.x x24))) (RequestD.mk (RequestD.kind (ExpA.q x)) (RequestD.name (ExpA.q x)) (RequestD.session (ExpA.q x)) (RequestD.seq (ExpA.q x)) (RequestD.base (ExpA.q x)) (RequestD.ref (ExpA.q x)) (RequestD.changes (ExpA.q x)) (RequestD.path (ExpA.q x)) (RequestD.from_ (ExpA.q x)) (RequestD.many (ExpA.q x)) (RequestD.member (ExpA.q x))) x30))) ∧
 (((0 : Nat) = (0 : Nat)) ∧
 (((List.length (MacS.C (Prod.snd (applyM (MacA.x x28) (MacA.r x28))))) = (List.length (MacS.C (againM (MacS.mk (MacS.alpha (MatA.x x24)) (MacS.size (MatA.x x24)) (MacS.applied (MatA.x x24)) (MacS.C (MatA.x x24)) (MacS.S (MatA.x x24)) (MacS.E (MatA.x x24))) (RequestD.mk (RequestD.kind (ExpA.q x)) (RequestD.name (ExpA.q x)) (RequestD.session (ExpA.q x)) (RequestD.seq (ExpA.q x)) (RequestD.base (ExpA.q x)) (RequestD.ref (ExpA.q x)) (RequestD.changes (ExpA.q x)) (RequestD.path (ExpA.q x)) (RequestD.from_ (ExpA.q x)) (RequestD.many (ExpA.q x)) (RequestD.member (ExpA.q x))) x30)))) ∧
 (((treeC (MacS.C (Prod.snd (applyM (MacA.x x28) (MacA.r x28))))) = (treeC (MacS.C (againM (MacS.mk (MacS.alpha (MatA.x x24)) (MacS.size (MatA.x x24)) (MacS.applied (MatA.x x24)) (MacS.C (MatA.x x24)) (MacS.S (MatA.x x24)) (MacS.E (MatA.x x24))) (RequestD.mk (RequestD.kind (ExpA.q x)) (RequestD.name (ExpA.q x)) (RequestD.session (ExpA.q x)) (RequestD.seq (ExpA.q x)) (RequestD.base (ExpA.q x)) (RequestD.ref (ExpA.q x)) (RequestD.changes (ExpA.q x)) (RequestD.path (ExpA.q x)) (RequestD.from_ (ExpA.q x)) (RequestD.many (ExpA.q x)) (RequestD.member (ExpA.q x))) x30)))) ∧
 (((MacS.C (Prod.snd (applyM (MacA.x x28) (MacA.r x28)))) = (MacS.C (againM (MacS.mk (MacS.alpha (MatA.x x24)) (MacS.size (MatA.x x24)) (MacS.applied (MatA.x x24)) (MacS.C (MatA.x x24)) (MacS.S (MatA.x x24)) (MacS.E (MatA.x x24))) (RequestD.mk (RequestD.kind (ExpA.q x)) (RequestD.name (ExpA.q x)) (RequestD.session (ExpA.q x)) (RequestD.seq (ExpA.q x)) (RequestD.base (ExpA.q x)) (RequestD.ref (ExpA.q x)) (RequestD.changes (ExpA.q x)) (RequestD.path (ExpA.q x)) (RequestD.from_ (ExpA.q x)) (RequestD.many (ExpA.q x)) (RequestD.member (ExpA.q x))) x30))) ∧
 (((kvC (MacS.C (Prod.snd (applyM (MacA.x x28) (MacA.r x28))))) = (kvC (MacS.C (againM (MacS.mk (MacS.alpha (MatA.x x24)) (MacS.size (MatA.x x24)) (MacS.applied (MatA.x x24)) (MacS.C (MatA.x x24)) (MacS.S (MatA.x x24)) (MacS.E (MatA.x x24))) (RequestD.mk (RequestD.kind (ExpA.q x)) (RequestD.name (ExpA.q x)) (RequestD.session (ExpA.q x)) (RequestD.seq (ExpA.q x)) (RequestD.base (ExpA.q x)) (RequestD.ref (ExpA.q x)) (RequestD.changes (ExpA.q x)) (RequestD.path (ExpA.q x)) (RequestD.from_ (ExpA.q x)) (RequestD.many (ExpA.q x)) (RequestD.member (ExpA.q x))) x30)))) ∧
 (((MacS.size (Prod.snd (applyM (MacA.x x28) (MacA.r x28)))) = (MacS.size (againM (MacS.mk (MacS.alpha (MatA.x x24)) (MacS.size (MatA.x x24)) (MacS.applied (MatA.x x24)) (MacS.C (MatA.x x24)) (MacS.S (MatA.x x24)) (MacS.E (MatA.x x24))) (RequestD.mk (RequestD.kind (ExpA.q x)) (RequestD.name (ExpA.q x)) (RequestD.session (ExpA.q x)) (RequestD.seq (ExpA.q x)) (RequestD.base (ExpA.q x)) (RequestD.ref (ExpA.q x)) (RequestD.changes (ExpA.q x)) (RequestD.path (ExpA.q x)) (RequestD.from_ (ExpA.q x)) (RequestD.many (ExpA.q x)) (RequestD.member (ExpA.q x))) x30))) ∧
 (((0 : Nat) = (0 : Nat)) ∧
 (((List.length (MacS.S (Prod.snd (applyM (MacA.x x28) (MacA.r x28))))) = (List.length (MacS.S (againM (MacS.mk (MacS.alpha (MatA.x x24)) (MacS.size (MatA.x x24)) (MacS.applied (MatA.x x24)) (MacS.C (MatA.x x24)) (MacS.S (MatA.x x24)) (MacS.E (MatA.x x24))) (RequestD.mk (RequestD.kind (ExpA.q x)) (RequestD.name (ExpA.q x)) (RequestD.session (ExpA.q x)) (RequestD.seq (ExpA.q x)) (RequestD.base (ExpA.q x)) (RequestD.ref (ExpA.q x)) (RequestD.changes (ExpA.q x)) (RequestD.path (ExpA.q x)) (RequestD.from_ (ExpA.q x)) (RequestD.many (ExpA.q x)) (RequestD.member (ExpA.q x))) x30)))) ∧
 (((MacS.S (Prod.snd (applyM (MacA.x x28) (MacA.r x28)))) = (MacS.S (againM (MacS.mk (MacS.alpha (MatA.x x24)) (MacS.size (MatA.x x24)) (MacS.applied (MatA.x x24)) (MacS.C (MatA.x x24)) (MacS.S (MatA.x x24)) (MacS.E (MatA.x x24))) (RequestD.mk (RequestD.kind (ExpA.q x)) (RequestD.name (ExpA.q x)) (RequestD.session (ExpA.q x)) (RequestD.seq (ExpA.q x)) (RequestD.base (ExpA.q x)) (RequestD.ref (ExpA.q x)) (RequestD.changes (ExpA.q x)) (RequestD.path (ExpA.q x)) (RequestD.from_ (ExpA.q x)) (RequestD.many (ExpA.q x)) (RequestD.member (ExpA.q x))) x30))) ∧
 (((MacS.alpha (Prod.snd (applyM (MacA.x x28) (MacA.r x28)))) = (MacS.alpha (againM (MacS.mk (MacS.alpha (MatA.x x24)) (MacS.size (MatA.x x24)) (MacS.applied (MatA.x x24)) (MacS.C (MatA.x x24)) (MacS.S (MatA.x x24)) (MacS.E (MatA.x x24))) (RequestD.mk (RequestD.kind (ExpA.q x)) (RequestD.name (ExpA.q x)) (RequestD.session (ExpA.q x)) (RequestD.seq (ExpA.q x)) (RequestD.base (ExpA.q x)) (RequestD.ref (ExpA.q x)) (RequestD.changes (ExpA.q x)) (RequestD.path (ExpA.q x)) (RequestD.from_ (ExpA.q x)) (RequestD.many (ExpA.q x)) (RequestD.member (ExpA.q x))) x30))) ∧
 (((0 : Nat) = (0 : Nat)) ∧
 (((List.length (MacS.E (Prod.snd (applyM (MacA.x x28) (MacA.r x28))))) = (List.length (MacS.E (againM (MacS.mk (MacS.alpha (MatA.x x24)) (MacS.size (MatA.x x24)) (MacS.applied (MatA.x x24)) (MacS.C (MatA.x x24)) (MacS.S (MatA.x x24)) (MacS.E (MatA.x x24))) (RequestD.mk (RequestD.kind (ExpA.q x)) (RequestD.name (ExpA.q x)) (RequestD.session (ExpA.q x)) (RequestD.seq (ExpA.q x)) (RequestD.base (ExpA.q x)) (RequestD.ref (ExpA.q x)) (RequestD.changes (ExpA.q x)) (RequestD.path (ExpA.q x)) (RequestD.from_ (ExpA.q x)) (RequestD.many (ExpA.q x)) (RequestD.member (ExpA.q x))) x30)))) ∧
 (((MacS.E (Prod.snd (applyM (MacA.x x28) (MacA.r x28)))) = (MacS.E (againM (MacS.mk (MacS.alpha (MatA.x x24)) (MacS.size (MatA.x x24)) (MacS.applied (MatA.x x24)) (MacS.C (MatA.x x24)) (MacS.S (MatA.x x24)) (MacS.E (MatA.x x24))) (RequestD.mk (RequestD.kind (ExpA.q x)) (RequestD.name (ExpA.q x)) (RequestD.session (ExpA.q x)) (RequestD.seq (ExpA.q x)) (RequestD.base (ExpA.q x)) (RequestD.ref (ExpA.q x)) (RequestD.changes (ExpA.q x)) (RequestD.path (ExpA.q x)) (RequestD.from_ (ExpA.q x)) (RequestD.many (ExpA.q x)) (RequestD.member (ExpA.q x))) x30))) ∧
 ((Nat.le x30 (9 : Nat)) ∧
 ((Nat.sub (9 : Nat) x30) < (Nat.sub (9 : Nat) x27)))))))))))))))))))))))))))))))))))))))))))))))))))))
 (∃ x31 : MacS,
 (((MacS.alpha (againM (MacS.mk (MacS.alpha (MatA.x x24)) (MacS.size (MatA.x x24)) (MacS.applied (MatA.x x24)) (MacS.C (MatA.x x24)) (MacS.S (MatA.x x24)) (MacS.E (MatA.x x24))) (RequestD.mk (RequestD.kind (ExpA.q x)) (RequestD.name (ExpA.q x)) (RequestD.session (ExpA.q x)) (RequestD.seq (ExpA.q x)) (RequestD.base (ExpA.q x)) (RequestD.ref (ExpA.q x)) (RequestD.changes (ExpA.q x)) (RequestD.path (ExpA.q x)) (RequestD.from_ (ExpA.q x)) (RequestD.many (ExpA.q x)) (RequestD.member (ExpA.q x))) x27)) = (MacS.alpha x31)) ∧
 (((MacS.size (againM (MacS.mk (MacS.alpha (MatA.x x24)) (MacS.size (MatA.x x24)) (MacS.applied (MatA.x x24)) (MacS.C (MatA.x x24)) (MacS.S (MatA.x x24)) (MacS.E (MatA.x x24))) (RequestD.mk (RequestD.kind (ExpA.q x)) (RequestD.name (ExpA.q x)) (RequestD.session (ExpA.q x)) (RequestD.seq (ExpA.q x)) (RequestD.base (ExpA.q x)) (RequestD.ref (ExpA.q x)) (RequestD.changes (ExpA.q x)) (RequestD.path (ExpA.q x)) (RequestD.from_ (ExpA.q x)) (RequestD.many (ExpA.q x)) (RequestD.member (ExpA.q x))) x27)) = (MacS.size x31)) ∧
 (((MacS.applied (againM (MacS.mk (MacS.alpha (MatA.x x24)) (MacS.size (MatA.x x24)) (MacS.applied (MatA.x x24)) (MacS.C (MatA.x x24)) (MacS.S (MatA.x x24)) (MacS.E (MatA.x x24))) (RequestD.mk (RequestD.kind (ExpA.q x)) (RequestD.name (ExpA.q x)) (RequestD.session (ExpA.q x)) (RequestD.seq (ExpA.q x)) (RequestD.base (ExpA.q x)) (RequestD.ref (ExpA.q x)) (RequestD.changes (ExpA.q x)) (RequestD.path (ExpA.q x)) (RequestD.from_ (ExpA.q x)) (RequestD.many (ExpA.q x)) (RequestD.member (ExpA.q x))) x27)) = (MacS.applied x31)) ∧
 (((0 : Nat) = (0 : Nat)) ∧
 (((List.length (MacS.C (againM (MacS.mk (MacS.alpha (MatA.x x24)) (MacS.size (MatA.x x24)) (MacS.applied (MatA.x x24)) (MacS.C (MatA.x x24)) (MacS.S (MatA.x x24)) (MacS.E (MatA.x x24))) (RequestD.mk (RequestD.kind (ExpA.q x)) (RequestD.name (ExpA.q x)) (RequestD.session (ExpA.q x)) (RequestD.seq (ExpA.q x)) (RequestD.base (ExpA.q x)) (RequestD.ref (ExpA.q x)) (RequestD.changes (ExpA.q x)) (RequestD.path (ExpA.q x)) (RequestD.from_ (ExpA.q x)) (RequestD.many (ExpA.q x)) (RequestD.member (ExpA.q x))) x27))) = (List.length (MacS.C x31))) ∧
 (((treeC (MacS.C (againM (MacS.mk (MacS.alpha (MatA.x x24)) (MacS.size (MatA.x x24)) (MacS.applied (MatA.x x24)) (MacS.C (MatA.x x24)) (MacS.S (MatA.x x24)) (MacS.E (MatA.x x24))) (RequestD.mk (RequestD.kind (ExpA.q x)) (RequestD.name (ExpA.q x)) (RequestD.session (ExpA.q x)) (RequestD.seq (ExpA.q x)) (RequestD.base (ExpA.q x)) (RequestD.ref (ExpA.q x)) (RequestD.changes (ExpA.q x)) (RequestD.path (ExpA.q x)) (RequestD.from_ (ExpA.q x)) (RequestD.many (ExpA.q x)) (RequestD.member (ExpA.q x))) x27))) = (treeC (MacS.C x31))) ∧
 (((MacS.C (againM (MacS.mk (MacS.alpha (MatA.x x24)) (MacS.size (MatA.x x24)) (MacS.applied (MatA.x x24)) (MacS.C (MatA.x x24)) (MacS.S (MatA.x x24)) (MacS.E (MatA.x x24))) (RequestD.mk (RequestD.kind (ExpA.q x)) (RequestD.name (ExpA.q x)) (RequestD.session (ExpA.q x)) (RequestD.seq (ExpA.q x)) (RequestD.base (ExpA.q x)) (RequestD.ref (ExpA.q x)) (RequestD.changes (ExpA.q x)) (RequestD.path (ExpA.q x)) (RequestD.from_ (ExpA.q x)) (RequestD.many (ExpA.q x)) (RequestD.member (ExpA.q x))) x27)) = (MacS.C x31)) ∧
 (((kvC (MacS.C (againM (MacS.mk (MacS.alpha (MatA.x x24)) (MacS.size (MatA.x x24)) (MacS.applied (MatA.x x24)) (MacS.C (MatA.x x24)) (MacS.S (MatA.x x24)) (MacS.E (MatA.x x24))) (RequestD.mk (RequestD.kind (ExpA.q x)) (RequestD.name (ExpA.q x)) (RequestD.session (ExpA.q x)) (RequestD.seq (ExpA.q x)) (RequestD.base (ExpA.q x)) (RequestD.ref (ExpA.q x)) (RequestD.changes (ExpA.q x)) (RequestD.path (ExpA.q x)) (RequestD.from_ (ExpA.q x)) (RequestD.many (ExpA.q x)) (RequestD.member (ExpA.q x))) x27))) = (kvC (MacS.C x31))) ∧
 (((MacS.size (againM (MacS.mk (MacS.alpha (MatA.x x24)) (MacS.size (MatA.x x24)) (MacS.applied (MatA.x x24)) (MacS.C (MatA.x x24)) (MacS.S (MatA.x x24)) (MacS.E (MatA.x x24))) (RequestD.mk (RequestD.kind (ExpA.q x)) (RequestD.name (ExpA.q x)) (RequestD.session (ExpA.q x)) (RequestD.seq (ExpA.q x)) (RequestD.base (ExpA.q x)) (RequestD.ref (ExpA.q x)) (RequestD.changes (ExpA.q x)) (RequestD.path (ExpA.q x)) (RequestD.from_ (ExpA.q x)) (RequestD.many (ExpA.q x)) (RequestD.member (ExpA.q x))) x27)) = (MacS.size x31)) ∧
 (((0 : Nat) = (0 : Nat)) ∧
 (((List.length (MacS.S (againM (MacS.mk (MacS.alpha (MatA.x x24)) (MacS.size (MatA.x x24)) (MacS.applied (MatA.x x24)) (MacS.C (MatA.x x24)) (MacS.S (MatA.x x24)) (MacS.E (MatA.x x24))) (RequestD.mk (RequestD.kind (ExpA.q x)) (RequestD.name (ExpA.q x)) (RequestD.session (ExpA.q x)) (RequestD.seq (ExpA.q x)) (RequestD.base (ExpA.q x)) (RequestD.ref (ExpA.q x)) (RequestD.changes (ExpA.q x)) (RequestD.path (ExpA.q x)) (RequestD.from_ (ExpA.q x)) (RequestD.many (ExpA.q x)) (RequestD.member (ExpA.q x))) x27))) = (List.length (MacS.S x31))) ∧
 (((MacS.S (againM (MacS.mk (MacS.alpha (MatA.x x24)) (MacS.size (MatA.x x24)) (MacS.applied (MatA.x x24)) (MacS.C (MatA.x x24)) (MacS.S (MatA.x x24)) (MacS.E (MatA.x x24))) (RequestD.mk (RequestD.kind (ExpA.q x)) (RequestD.name (ExpA.q x)) (RequestD.session (ExpA.q x)) (RequestD.seq (ExpA.q x)) (RequestD.base (ExpA.q x)) (RequestD.ref (ExpA.q x)) (RequestD.changes (ExpA.q x)) (RequestD.path (ExpA.q x)) (RequestD.from_ (ExpA.q x)) (RequestD.many (ExpA.q x)) (RequestD.member (ExpA.q x))) x27)) = (MacS.S x31)) ∧
 (((MacS.alpha (againM (MacS.mk (MacS.alpha (MatA.x x24)) (MacS.size (MatA.x x24)) (MacS.applied (MatA.x x24)) (MacS.C (MatA.x x24)) (MacS.S (MatA.x x24)) (MacS.E (MatA.x x24))) (RequestD.mk (RequestD.kind (ExpA.q x)) (RequestD.name (ExpA.q x)) (RequestD.session (ExpA.q x)) (RequestD.seq (ExpA.q x)) (RequestD.base (ExpA.q x)) (RequestD.ref (ExpA.q x)) (RequestD.changes (ExpA.q x)) (RequestD.path (ExpA.q x)) (RequestD.from_ (ExpA.q x)) (RequestD.many (ExpA.q x)) (RequestD.member (ExpA.q x))) x27)) = (MacS.alpha x31)) ∧
 (((0 : Nat) = (0 : Nat)) ∧
 (((List.length (MacS.E (againM (MacS.mk (MacS.alpha (MatA.x x24)) (MacS.size (MatA.x x24)) (MacS.applied (MatA.x x24)) (MacS.C (MatA.x x24)) (MacS.S (MatA.x x24)) (MacS.E (MatA.x x24))) (RequestD.mk (RequestD.kind (ExpA.q x)) (RequestD.name (ExpA.q x)) (RequestD.session (ExpA.q x)) (RequestD.seq (ExpA.q x)) (RequestD.base (ExpA.q x)) (RequestD.ref (ExpA.q x)) (RequestD.changes (ExpA.q x)) (RequestD.path (ExpA.q x)) (RequestD.from_ (ExpA.q x)) (RequestD.many (ExpA.q x)) (RequestD.member (ExpA.q x))) x27))) = (List.length (MacS.E x31))) ∧
 (((MacS.E (againM (MacS.mk (MacS.alpha (MatA.x x24)) (MacS.size (MatA.x x24)) (MacS.applied (MatA.x x24)) (MacS.C (MatA.x x24)) (MacS.S (MatA.x x24)) (MacS.E (MatA.x x24))) (RequestD.mk (RequestD.kind (ExpA.q x)) (RequestD.name (ExpA.q x)) (RequestD.session (ExpA.q x)) (RequestD.seq (ExpA.q x)) (RequestD.base (ExpA.q x)) (RequestD.ref (ExpA.q x)) (RequestD.changes (ExpA.q x)) (RequestD.path (ExpA.q x)) (RequestD.from_ (ExpA.q x)) (RequestD.many (ExpA.q x)) (RequestD.member (ExpA.q x))) x27)) = (MacS.E x31)) ∧
 (((fewG (MacS.C x31)) = Bool.true) ∧
 (∀ x32 : Unit,
 (True →
 (∃ x33 : Com2,
 (((MacS.C x22) = (Com2.a x33)) ∧
 (((MacS.C x31) = (Com2.b x33)) ∧
 (True ∧
 (∀ x34 : Unit,
 (True →
 (br (sameM (Com2.a x33) (Com2.b x33))
 (∃ x35 : MatA,
 (((549755813888 : Int) = (MatA.slot x35)) ∧
 (((MacS.alpha x31) = (MacS.alpha (MatA.x x35))) ∧
 (((MacS.size x31) = (MacS.size (MatA.x x35))) ∧
 (((MacS.applied x31) = (MacS.applied (MatA.x x35))) ∧
 (((0 : Nat) = (0 : Nat)) ∧
 (((List.length (MacS.C x31)) = (List.length (MacS.C (MatA.x x35)))) ∧
 (((treeC (MacS.C x31)) = (treeC (MacS.C (MatA.x x35)))) ∧
 (((MacS.C x31) = (MacS.C (MatA.x x35))) ∧
 (((kvC (MacS.C x31)) = (kvC (MacS.C (MatA.x x35)))) ∧
 (((MacS.size x31) = (MacS.size (MatA.x x35))) ∧
 (((0 : Nat) = (0 : Nat)) ∧
 (((List.length (MacS.S x31)) = (List.length (MacS.S (MatA.x x35)))) ∧
 (((MacS.S x31) = (MacS.S (MatA.x x35))) ∧
 (((MacS.alpha x31) = (MacS.alpha (MatA.x x35))) ∧
 (((0 : Nat) = (0 : Nat)) ∧
 (((List.length (MacS.E x31)) = (List.length (MacS.E (MatA.x x35)))) ∧
 (((MacS.E x31) = (MacS.E (MatA.x x35))) ∧
 (((decide ((1 : Nat) ≤ (List.length (MacS.E (MatA.x x35))))) = Bool.true) ∧
 (∀ x36 : Unit,
 (True →
 (∃ x37 : (List Int),
 (((EpochD.members (List.getD (MacS.E (MatA.x x24)) (atN (MacS.E (MatA.x x24)) (MatA.slot x24) (List.length (MacS.E (MatA.x x24)))) (EpochD.mk (0 : Int) ([] : List Int)))) = x37) ∧
 (((EpochD.members (List.getD (MacS.E (MatA.x x35)) (atN (MacS.E (MatA.x x35)) (MatA.slot x35) (List.length (MacS.E (MatA.x x35)))) (EpochD.mk (0 : Int) ([] : List Int)))) = x37) ∧
 (True ∧
 (∀ x38 : Unit,
 (True →
 (∃ x39 : MacS,
 (((MacS.alpha (MatA.x x35)) = (MacS.alpha x39)) ∧
 (((MacS.size (MatA.x x35)) = (MacS.size x39)) ∧
 (((MacS.applied (MatA.x x35)) = (MacS.applied x39)) ∧
 (((0 : Nat) = (0 : Nat)) ∧
 (((List.length (MacS.C (MatA.x x35))) = (List.length (MacS.C x39))) ∧
 (((treeC (MacS.C (MatA.x x35))) = (treeC (MacS.C x39))) ∧
 (((MacS.C (MatA.x x35)) = (MacS.C x39)) ∧
 (((kvC (MacS.C (MatA.x x35))) = (kvC (MacS.C x39))) ∧
 (((MacS.size (MatA.x x35)) = (MacS.size x39)) ∧
 (((0 : Nat) = (0 : Nat)) ∧
 (((List.length (MacS.S (MatA.x x35))) = (List.length (MacS.S x39))) ∧
 (((MacS.S (MatA.x x35)) = (MacS.S x39)) ∧
 (((MacS.alpha (MatA.x x35)) = (MacS.alpha x39)) ∧
 (((0 : Nat) = (0 : Nat)) ∧
 (((List.length (MacS.E (MatA.x x35))) = (List.length (MacS.E x39))) ∧
 (((MacS.E (MatA.x x35)) = (MacS.E x39)) ∧
 (((decide ((0 : Int) < (MacS.size x39))) = Bool.true) ∧
 (∀ x40 : Unit,
 (True →
 (∃ x41 : (List SessionD),
 (((MacS.S x14) = x41) ∧
 (((MacS.S x39) = x41) ∧
 (True ∧
 (∀ x42 : Unit,
 (True →
 (Bool.true = Bool.true))))))))))))))))))))))))))))))))))))))))))))))))))))))
 (Bool.false = Bool.true))))))))))))))))))))))))))))))))))))))))))))))))))))))))))))))))))))))))))))))))))))))))))))))))))))))))))))))))))))))))))))))))) := by kernel_rfl

end Go.Proofs.YtildflamnehilaaGreat.Ses

namespace Go.Proofs.YtildflamnehilaaGreat.Ses
open Go Go.Proofs Go.Proofs.YtildflamnehilaaGreat.Sx

/-! ### members that may be -/

theorem upE_len : ∀ {M : List Int} {a : Int}, upE a M = true → -1 ≤ a → a ≤ 14 → (M.length : Int) ≤ 14 - a
  | [], a, _, _, h2 => by simp; omega
  | m :: r, a, h, h1, h2 => by
    unfold upE at h
    simp only [Bool.and_eq_true, decide_eq_true_eq] at h
    have := upE_len (M := r) (a := m) h.2.2 (by omega) (by omega)
    simp only [List.length_cons]
    omega
theorem upE_low {M : List Int} {a b : Int} (h : upE a M = true) (hb : b ≤ a) : upE b M = true := by
  cases M with
  | nil => rfl
  | cons m r =>
    unfold upE at h ⊢
    simp only [Bool.and_eq_true, decide_eq_true_eq] at h ⊢
    exact ⟨by omega, h.2⟩
theorem upE_del : ∀ {M : List Int} {a : Int} (k : Nat), upE a M = true → upE a (M.take k ++ M.drop (k + 1)) = true
  | [], a, k, h => by simpa using h
  | m :: r, a, 0, h => by
    unfold upE at h
    simp only [Bool.and_eq_true, decide_eq_true_eq] at h
    show upE a r = true
    exact upE_low h.2.2 (by omega)
  | m :: r, a, k + 1, h => by
    unfold upE at h
    simp only [Bool.and_eq_true, decide_eq_true_eq] at h
    show upE a (m :: (r.take k ++ r.drop (k + 1))) = true
    unfold upE
    simp only [Bool.and_eq_true, decide_eq_true_eq]
    exact ⟨h.1, h.2.1, upE_del k h.2.2⟩
theorem cnt_zero {r : List Int} {y m : Int} (h : upE y r = true) (hm : m ≤ y) : r.countP (· < m) = 0 := by
  rw [List.countP_eq_zero]
  intro z hz
  have := (upE_all h).1 z hz
  simp
  omega
theorem upE_ins : ∀ {M : List Int} {a m : Int}, upE a M = true → a < m → m < 15 → m ∉ M → upE a (insM M m) = true
  | [], a, m, _, h1, h2, _ => by
    show upE a [m] = true
    unfold upE upE
    simp only [Bool.and_eq_true, decide_eq_true_eq]
    exact ⟨h1, h2, trivial⟩
  | y :: r, a, m, h, h1, h2, h3 => by
    unfold upE at h
    simp only [Bool.and_eq_true, decide_eq_true_eq] at h
    have hne : y ≠ m := fun e => h3 (by rw [e]; exact List.mem_cons_self ..)
    rcases Int.lt_or_le y m with hlt | hge
    · have e : insM (y :: r) m = y :: insM r m := by
        unfold insM
        rw [List.countP_cons_of_pos (by simpa using hlt)]
        rfl
      rw [e]
      unfold upE
      simp only [Bool.and_eq_true, decide_eq_true_eq]
      exact ⟨h.1, h.2.1, upE_ins h.2.2 hlt h2 fun hm => h3 (List.mem_cons_of_mem _ hm)⟩
    · have e : insM (y :: r) m = m :: y :: r := by
        unfold insM
        rw [List.countP_cons_of_neg (by simp; omega), cnt_zero h.2.2 (by omega)]
        rfl
      rw [e]
      unfold upE upE
      simp only [Bool.and_eq_true, decide_eq_true_eq]
      exact ⟨h1, h2, by omega, h.2.1, h.2.2⟩
theorem mayE_mk {M : List Int} (h1 : 1 ≤ M.length) (h : upE (-1) M = true) : mayE M = true := by
  unfold mayE
  have := upE_len h (by omega) (by omega)
  rw [h, decide_eq_true h1, decide_eq_true (by omega : M.length ≤ 15)]; rfl
theorem mayE_up {M : List Int} (h : mayE M = true) : upE (-1) M = true := by
  unfold mayE at h
  simp only [Bool.and_eq_true] at h
  exact h.2.2
theorem chg_may {x : ChgA} (h : ∀ p, p ∈ x.E → mayE p.members = true) (h1 : 1 ≤ x.E.length) {B : Int} (hf : ∀ p, p ∈ x.E → p.from_ ≤ B) (hs : x.slot + x.alpha ≤ B) : ∀ p, p ∈ (chgE x).2 → mayE p.members = true ∧ p.from_ ≤ B := by
  have hold : ∀ p, p ∈ x.E → mayE p.members = true ∧ p.from_ ≤ B := fun p hp => ⟨h p hp, hf p hp⟩
  have hl : lastEp x.E ∈ x.E := getD_mem (by omega)
  have hlm := mayE_up (h _ hl)
  have hlk := mayE_of (h _ hl)
  unfold chgE
  dsimp only
  cases q1 : (decide (x.slot < 0) || (decide (x.slot > 1099511627776 - x.alpha) || (decide (x.member < 0) || decide (x.member ≥ 15))))
  · cases q2 : decide ((lastEp x.E).from_ > x.slot)
    · cases q3 : (x.add && (lastEp x.E).members.contains x.member)
      · cases q4 : (!x.add && !((lastEp x.E).members.contains x.member))
        · cases q5 : (!x.add && decide ((lastEp x.E).members.length = 1))
          · simp only [Bool.or_eq_false_iff, decide_eq_false_iff_not] at q1
            intro p hp
            simp only [cond_false] at hp
            rcases List.mem_append.1 hp with hp | hp
            · exact hold p hp
            · have : p = ⟨x.slot + x.alpha, bif x.add then insM (lastEp x.E).members x.member else delM (lastEp x.E).members x.member⟩ := by simpa using hp
              subst this
              refine ⟨?_, hs⟩
              cases ha : x.add
              · rw [ha] at q5
                simp only [Bool.not_false, Bool.true_and, decide_eq_false_iff_not] at q5
                show mayE (delM (lastEp x.E).members x.member) = true
                refine mayE_mk ?_ (upE_del _ hlm)
                unfold delM
                rw [List.length_append, List.length_take, List.length_drop]
                omega
              · rw [ha] at q3
                simp only [Bool.true_and] at q3
                have hni : x.member ∉ (lastEp x.E).members := fun hm => by
                  rw [List.contains_iff_mem.2 hm] at q3
                  cases q3
                show mayE (insM (lastEp x.E).members x.member) = true
                refine mayE_mk ?_ (upE_ins hlm (by omega) (by omega) hni)
                unfold insM
                rw [List.length_append, List.length_cons]
                omega
          · exact hold
        · exact hold
      · exact hold
    · exact hold
  · exact hold
theorem cut_mem {E : List EpochD} {s : Int} {p : EpochD} (h : p ∈ cutE E s) : p ∈ E := List.mem_of_mem_drop h
theorem cut_len {E : List EpochD} {s : Int} (h : 1 ≤ E.length) : 1 ≤ (cutE E s).length ∧ (cutE E s).length ≤ E.length := by
  have := atN_lt E s E.length (by omega)
  unfold cutE
  rw [List.length_drop]
  omega
theorem cut_last {E : List EpochD} {s : Int} (h : 1 ≤ E.length) : lastEp (cutE E s) = lastEp E := by
  have := atN_lt E s E.length (by omega)
  unfold lastEp cutE
  rw [List.length_drop]
  generalize atN E s E.length = a at this ⊢
  simp only [List.getD, List.getElem?_drop]
  rw [show a + (E.length - a - 1) = E.length - 1 by omega]
theorem at_last {E : List EpochD} {s : Int} (h : 1 ≤ E.length) (hf : ∀ p, p ∈ E → p.from_ ≤ s) : E.getD (atN E s E.length) ⟨0, []⟩ = lastEp E := by
  obtain ⟨k, hk⟩ : ∃ k, E.length = k + 1 := ⟨E.length - 1, by omega⟩
  have : atN E s E.length = E.length - 1 := by
    rw [hk]
    unfold atN
    rw [decide_eq_true (hf _ (getD_mem (by omega)))]
    rfl
  rw [this]
  rfl

/-! ### sessions -/

theorem open_len {x : OpenA} (h0 : 0 < x.size) (h : (x.l.length : Int) ≤ x.size) : ((openL x).2.length : Int) ≤ x.size := by
  have b1 := idxF_lt (nameIs x.name) x.l
  have b2 := idxF_lt (idIs x.id) x.l
  unfold openL
  dsimp only
  by_cases q : idxF (nameIs x.name) x.l < 0
  · rw [decide_eq_true q]
    simp only [cond_true]
    rw [List.length_append]
    generalize hl1 : (bif decide (idxF (idIs x.id) x.l < 0) then x.l else outL x.l (idxF (idIs x.id) x.l)) = l1
    have h1 : (l1.length : Int) ≤ x.size := by
      rw [← hl1]
      by_cases q2 : idxF (idIs x.id) x.l < 0
      · rw [decide_eq_true q2]; exact h
      · rw [decide_eq_false q2]
        show ((outL x.l (idxF (idIs x.id) x.l)).length : Int) ≤ x.size
        rw [outL_length ⟨by omega, b2.2⟩]
        omega
    by_cases q3 : (l1.length : Int) = x.size
    · rw [decide_eq_true q3]
      show ((outL l1 0).length + 1 : Int) ≤ x.size
      rw [outL_length ⟨by omega, by omega⟩]
      omega
    · rw [decide_eq_false q3]
      show ((l1.length + 1 : Nat) : Int) ≤ x.size
      omega
  · rw [decide_eq_false q]
    show ((usedL x.l (idxF (nameIs x.name) x.l)).length : Int) ≤ x.size
    rw [usedL_length ⟨by omega, b1.2⟩]
    exact h
theorem done_len {x : DoneA} : (doneL x).2.length = x.l.length := by
  unfold doneL
  dsimp only
  cases (decide (idxF (idIs x.id) x.l < 0) || decide (x.seq ≤ (atL x.l (idxF (idIs x.id) x.l)).seq))
  · simp
  · rfl

def noR0 : RequestD := ⟨0, [], 0, 0, 0, [], [], [], 0, 0, 0⟩

/-! ### the machine, whatever is applied -/

structure MOk (n : Nat) (x : MacS) : Prop where
  al : x.alpha = 2
  sz : x.size = 3
  ap : x.applied = n
  c : ∃ d : List Deed5D, d.length ≤ n ∧ x.C = goC d
  s : x.S.length ≤ 3
  e1 : 1 ≤ x.E.length
  eM : x.E.length ≤ n + 1
  em : ∀ p, p ∈ x.E → mayE p.members = true ∧ p.from_ ≤ (n : Int) + 1
theorem mok_zero : MOk 0 fresh0 := ⟨rfl, rfl, rfl, ⟨[], Nat.le_refl _, rfl⟩, by decide, by decide, by decide, fun p hp => by
  have : p = ⟨0, [0, 1, 2]⟩ := by simpa [fresh0] using hp
  subst this
  exact ⟨by decide, by decide⟩⟩
/-- what a request makes of commits and epochs -/
structure DoOk (n : Nat) (y : MacS) : Prop where
  c : ∃ d : List Deed5D, d.length ≤ n + 1 ∧ y.C = goC d
  s : y.S.length ≤ 3
  e1 : 1 ≤ y.E.length
  eM : y.E.length ≤ n + 2
  em : ∀ p, p ∈ y.E → mayE p.members = true ∧ p.from_ ≤ (n : Int) + 2
theorem MOk.toDo {n : Nat} {x : MacS} (h : MOk n x) : DoOk n x := by
  obtain ⟨d, h1, h2⟩ := h.c
  exact ⟨⟨d, by omega, h2⟩, h.s, h.e1, by have := h.eM; omega, fun p hp => ⟨(h.em p hp).1, by have := (h.em p hp).2; omega⟩⟩
theorem how_do {n : Nat} {x : MacS} (h : MOk n x) (S : List SessionD) (hS : S.length ≤ 3) (r : RequestD) : DoOk n (howM (withS x S) r).2 := by
  obtain ⟨d, d1, d2⟩ := h.c
  have h0 : DoOk n (withS x S) := ⟨h.toDo.c, hS, h.toDo.e1, h.toDo.eM, h.toDo.em⟩
  have hchg : ∀ add code, DoOk n (chgM (withS x S) r add code).2 := fun add code => by
    have hl := chg_len ⟨x.alpha, x.E, x.applied, r.member, add⟩
    have hm := chg_may (x := ⟨x.alpha, x.E, x.applied, r.member, add⟩) (B := (n : Int) + 2) (fun p hp => (h.em p hp).1) h.e1 (fun p hp => by have := (h.em p hp).2; omega) (by
      show x.applied + x.alpha ≤ (n : Int) + 2
      rw [h.ap, h.al]; omega)
    exact ⟨h.toDo.c, hS, Nat.le_trans h.e1 hl.1, Nat.le_trans hl.2 (by have := h.eM; show x.E.length + 1 ≤ n + 2; omega), hm⟩
  unfold howM
  cases r.kind == 2
  · cases r.kind == 3
    · cases r.kind == 4
      · cases r.kind == 5
        · cases r.kind == 6
          · cases r.kind == 7
            · exact h0
            · exact hchg _ _
          · exact hchg _ _
        · exact h0
      · exact h0
    · exact h0
  · refine ⟨⟨d ++ [⟨r.base, r.ref, r.changes⟩], by simp; omega, ?_⟩, hS, h.toDo.e1, h.toDo.eM, h.toDo.em⟩
    show landC ⟨x.C, r.base, r.ref, r.changes⟩ = _
    rw [d2]
    simp [goC, oneC]
theorem do_do {n : Nat} {x : MacS} (h : MOk n x) (r : RequestD) : DoOk n (doM x r).2 := by
  have hask : (askM x r).2.length ≤ 3 := by
    unfold askM
    rw [ask_len]
    exact h.s
  have h0 := h.toDo
  unfold doM
  cases r.kind == 0
  · cases r.kind == 1
    · cases (askM x r).1.2
      · have hh := how_do h _ hask r
        refine ⟨hh.c, ?_, hh.e1, hh.eM, hh.em⟩
        show (doneL _).2.length ≤ 3
        rw [done_len]
        exact hask
      · exact ⟨h0.c, hask, h0.e1, h0.eM, h0.em⟩
    · cases wordOk r.name false
      · exact h0
      · refine ⟨h0.c, ?_, h0.e1, h0.eM, h0.em⟩
        have hs := h.s
        have hz := h.sz
        have := open_len (x := ⟨x.size, x.S, r.name, x.applied + 1⟩) (by show 0 < x.size; omega) (by show (x.S.length : Int) ≤ x.size; omega)
        have this : ((openL ⟨x.size, x.S, r.name, x.applied + 1⟩).2.length : Int) ≤ x.size := this
        show (openL ⟨x.size, x.S, r.name, x.applied + 1⟩).2.length ≤ 3
        omega
  · exact h0
theorem apply_eq {n : Nat} {x : MacS} (h : MOk n x) (hn : n < 1099511627776) (r : RequestD) : applyM x r = ((doM x r).1, ⟨x.alpha, x.size, x.applied + 1, (doM x r).2.C, (doM x r).2.S, cutE (doM x r).2.E (x.applied + 1)⟩) := by
  unfold applyM
  rw [decide_eq_false (by rw [h.ap]; omega)]
  rfl
theorem MOk.step {n : Nat} {x : MacS} (h : MOk n x) (hn : n < 1099511627776) (r : RequestD) : MOk (n + 1) (applyM x r).2 := by
  have hd := do_do h r
  rw [apply_eq h hn r]
  have hc := cut_len (s := x.applied + 1) hd.e1
  refine ⟨h.al, h.sz, by show x.applied + 1 = _; rw [h.ap]; omega, hd.c, hd.s, hc.1, Nat.le_trans hc.2 hd.eM, fun p hp => ?_⟩
  have := hd.em p (cut_mem hp)
  exact ⟨this.1, by have := this.2; omega⟩
theorem MOk.ok {n : Nat} {x : MacS} (h : MOk n x) (hn : n ≤ 4000) : okMS x = true := by
  obtain ⟨d, d1, d2⟩ := h.c
  have hg := goC_ok d (by omega)
  unfold okMS okEp fewG
  simp only [Bool.and_eq_true, decide_eq_true_eq, List.all_eq_true]
  rw [d2, h.sz, h.al, h.ap]
  have := hg.len
  have := h.s
  have := h.eM
  exact ⟨⟨by omega, hg.ch⟩, by omega, by omega, ⟨by omega, by omega, h.e1, by omega, fun p hp => (h.em p hp).1⟩, by omega, by omega⟩
theorem MOk.few {n : Nat} {x : MacS} (h : MOk n x) (hn : n ≤ 4000) : fewG x.C = true := (okMS_of (h.ok hn)).1
end Go.Proofs.YtildflamnehilaaGreat.Ses

namespace Go.Proofs.YtildflamnehilaaGreat.Ses
open Go Go.Proofs Go.Proofs.YtildflamnehilaaGreat.Sx

theorem run_snoc (x : MacS) (l : List RequestD) (r : RequestD) : runF x (l ++ [r]) = (applyM (runF x l) r).2 := by
  unfold runF
  rw [List.foldl_append]
  rfl
theorem run_ok (l : List RequestD) : l.length ≤ 4000 → MOk l.length (runF fresh0 l) := by
  refine snocL (p := fun l => l.length ≤ 4000 → MOk l.length (runF fresh0 l)) (fun _ => mok_zero) (fun l r ih h => ?_) l
  have h : l.length + 1 ≤ 4000 := by simpa using h
  rw [run_snoc, List.length_append]
  exact (ih (by omega)).step (by omega) r
theorem run_at {l : List RequestD} {i : Nat} (h : i < l.length) : runF fresh0 (l.take (i + 1)) = (applyM (runF fresh0 (l.take i)) (l.getD i noR0)).2 := by
  rw [take_succ_getD noR0 h, run_snoc]
theorem run_in {l : List RequestD} (hl : l.length ≤ 4000) (i : Nat) : ∃ n, n ≤ l.length ∧ MOk n (runF fresh0 (l.take i)) := by
  have h1 : (l.take i).length ≤ l.length := by rw [List.length_take]; omega
  exact ⟨_, h1, run_ok (l.take i) (by omega)⟩
theorem okQ_of {r : RequestD} (h : okQ r = true) (hi : inI r.from_ = true) : okRq r = true := by
  unfold okQ at h
  simp only [Bool.and_eq_true, decide_eq_true_eq, List.all_eq_true] at h
  unfold okRq
  have e1 : shortC r.changes = true := List.all_eq_true.2 fun c hc => decide_eq_true (by have := h.2.2.2.2 c hc; omega)
  have e2 : shortB r.path = true := decide_eq_true (by omega)
  rw [hi, e1, e2]
  rfl
theorem roomM_of {l : List RequestD} {m : Int} (h : roomM l m = true) : (l.length : Int) ≤ m ∧ ∀ r, r ∈ l → okQ r = true := by
  unfold roomM at h
  simp only [Bool.and_eq_true, decide_eq_true_eq, List.all_eq_true] at h
  exact h

/-! ### who is not there -/

theorem ask_none {x : MacS} {q : RequestD} (h : ∀ s, s ∈ x.S → ¬ s.id = q.session) : askM x q = ((vd 6, true), x.S) := by
  have : idxF (idIs q.session) x.S = -1 := idxF_no fun j s hj => by
    have := h s (List.mem_of_getElem? hj)
    unfold idIs
    simpa using this
  unfold askM askL
  dsimp only
  rw [this]
  rfl
theorem apply_none {n : Nat} {x : MacS} (hx : MOk n x) (hn : n < 1099511627776) {q : RequestD} (k0 : (q.kind == 0) = false) (k1 : (q.kind == 1) = false) (h : ∀ s, s ∈ x.S → ¬ s.id = q.session) :
    applyM x q = (vd 6, ⟨x.alpha, x.size, x.applied + 1, x.C, x.S, cutE x.E (x.applied + 1)⟩) := by
  have hd : doM x q = (vd 6, withS x x.S) := by
    unfold doM
    rw [k0, k1, ask_none h]
    rfl
  rw [apply_eq hx hn q, hd]
  rfl
structure AgOk (n : Nat) (y z : MacS) : Prop where
  ok : MOk n z
  c : z.C = y.C
  s : z.S = y.S
  e : lastEp z.E = lastEp y.E
theorem again_ok {n : Nat} {y : MacS} (hy : MOk n y) {q : RequestD} (k0 : (q.kind == 0) = false) (k1 : (q.kind == 1) = false) (h : ∀ s, s ∈ y.S → ¬ s.id = q.session) : ∀ j, n + j < 1099511627776 → AgOk (n + j) y (againM y q j)
  | 0, _ => ⟨hy, rfl, rfl, rfl⟩
  | j + 1, hn => by
    have ih := again_ok hy k0 k1 h j (by omega)
    have ha := apply_none ih.ok (by omega) k0 k1 (q := q) (by rw [ih.s]; exact h)
    have hs := ih.ok.step (by omega) q
    refine ⟨hs, ?_, ?_, ?_⟩
    · show (applyM (againM y q j) q).2.C = y.C
      rw [ha]; exact ih.c
    · show (applyM (againM y q j) q).2.S = y.S
      rw [ha]; exact ih.s
    · show lastEp (applyM (againM y q j) q).2.E = lastEp y.E
      rw [ha]
      show lastEp (cutE (againM y q j).E _) = lastEp y.E
      rw [cut_last ih.ok.e1]; exact ih.e
theorem exp_ok : EnvOK expE := Env_ok (by decide +kernel) (by
  intro p hp
  simp only [List.mem_cons, List.mem_nil_iff, or_false] at hp
  rcases hp with rfl | rfl | rfl | rfl | rfl | rfl | rfl | rfl | rfl | rfl
  · exact aw8_ok
  · exact fresh_ok
  · exact apply_ok echg_ok
  · exact mroom_ok
  · exact comM_ok
  · exact sesM_ok
  · exact atM_ok
  · exact scoms_ok
  · exact sint_ok
  · exact sses_ok)
set_option maxHeartbeats 0 in
theorem exp_body (x : ExpA) (hl : ∀ r, r ∈ x.l → inI r.from_ = true) (hq : inI x.q.from_ = true) (ht : x.times < 256) : evCall expE (ev expE 1000) 9 (expArgs x) ⟨[], 0, []⟩ (fun _ _ => False) (fun v _ => TrueV v) := by
  rw [exp_vc]
  obtain ⟨l, q, times⟩ := x
  dsimp only at *
  have eq1 : RequestD.mk q.kind q.name q.session q.seq q.base q.ref q.changes q.path q.from_ q.many q.member = q := rfl
  rw [eq1]
  have ef : MacS.mk (MacS.alpha fresh0) (MacS.size fresh0) (MacS.applied fresh0) (MacS.C fresh0) (MacS.S fresh0) (MacS.E fresh0) = fresh0 := rfl
  rw [ef]
  refine ⟨(), trivial, fun _ _ => ⟨⟨l, 60⟩, rfl, rfl, trivial, fun _ _ => br_i (fun _ => rfl) fun hr => ⟨⟨[q], 1⟩, Nat.le_refl 1, rfl, rfl, trivial, fun _ _ => br_i (fun _ => rfl) fun hrq => br_i (fun _ => rfl) fun k0 => br_i (fun _ => rfl) fun k1 => ⟨(), trivial, fun _ _ => ?_⟩⟩⟩⟩
  rw [Bool.not_eq_false'] at hr hrq
  obtain ⟨l60, lQ⟩ := roomM_of hr
  have l60 : (l.length : Int) ≤ 60 := l60
  have okq : okRq q = true := okQ_of ((roomM_of hrq).2 q (List.mem_singleton.2 rfl)) hq
  refine ⟨⟨0, rfl, rfl, rfl, rfl, rfl, rfl, rfl, rfl, rfl, rfl, rfl, rfl, rfl, rfl, rfl, rfl, rfl, Nat.zero_le _⟩, fun i hi _ => br_i (fun h1 => ?_) (fun h1 => ?_)⟩
  · have h1 := of_decide_eq_true h1
    have bi : decide ((0 : Int) ≤ (i : Int) ∧ (i : Int) < (l.length : Int)) = true := decide_eq_true ⟨by omega, h1⟩
    have e0 : (i : Int).toNat = i := rfl
    rw [e0]
    have eg : l.getD i ⟨0, [], 0, 0, 0, [], [], [], 0, 0, 0⟩ = l.getD i noR0 := rfl
    rw [eg]
    have hgo := run_at (l := l) (i := i) (by omega)
    obtain ⟨n, n1, n2⟩ := run_in (l := l) (by omega) i
    have hmem : l.getD i noR0 ∈ l := getD_mem (by omega)
    have okr := okQ_of (lQ _ hmem) (hl _ hmem)
    have okm := n2.ok (by omega)
    generalize l.getD i noR0 = r at hgo okr ⊢
    generalize runF fresh0 (l.take i) = y at hgo okm ⊢
    have hw : IntKind.i64.wrap ((i : Int) + 1) = ((i + 1 : Nat) : Int) := by rw [wrap_id (by omega) (by omega)]; rfl
    refine br_t bi ⟨⟨y, r⟩, rfl, rfl, rfl, rfl, rfl, rfl, rfl, rfl, rfl, rfl, rfl, rfl, rfl, rfl, rfl, rfl, rfl, rfl, rfl, rfl, rfl, rfl, rfl, rfl, rfl, rfl, rfl, ⟨okm, okr⟩, fun _ _ => ⟨i + 1, hw, ?_⟩⟩
    rw [hgo]
    exact ⟨rfl, rfl, rfl, rfl, rfl, rfl, rfl, rfl, rfl, rfl, rfl, rfl, rfl, rfl, rfl, rfl, by show i + 1 ≤ l.length; omega, by show l.length - (i + 1) < l.length - i; omega⟩
  have h1 := of_decide_eq_false h1
  have hi : i ≤ l.length := hi
  rw [List.take_of_length_le (by omega)]
  have hy := run_ok l (by omega)
  generalize runF fresh0 l = y at hy ⊢
  have hz := hy.sz
  refine ⟨y, rfl, rfl, rfl, rfl, rfl, rfl, rfl, rfl, rfl, rfl, rfl, rfl, rfl, rfl, rfl, rfl, decide_eq_true (by omega), fun _ _ => ⟨⟨0, rfl, Nat.zero_le _, fun j hj => absurd hj (Nat.not_lt_zero _)⟩, fun a ha _ => br_i (fun h2 => ?_) (fun h2 => ?_)⟩⟩
  · have h2 := of_decide_eq_true h2
    obtain ⟨a1, a2⟩ := ha
    have hs3 := hy.s
    have e0 : (a : Int).toNat = a := rfl
    rw [e0]
    refine br_t (decide_eq_true ⟨by omega, h2⟩) (br_i (fun _ => rfl) fun hne => ⟨a + 1, by rw [wrap_id (by omega) (by omega)]; rfl, ⟨by omega, fun j hj => ?_⟩, by show y.S.length - (a + 1) < y.S.length - a; omega⟩)
    by_cases e : j < a
    · exact a2 j e
    · have : j = a := by omega
      subst this
      simpa using hne
  have h2 := of_decide_eq_false h2
  obtain ⟨a1, a2⟩ := ha
  have hnone : ∀ s, s ∈ y.S → ¬ s.id = q.session := fun s hs => by
    obtain ⟨j, hj, e⟩ := List.mem_iff_getElem.1 hs
    have := a2 j (by omega)
    have e2 : y.S.getD j ⟨0, 0, [], .dflt⟩ = s := by simp [List.getD, hj, e]
    rwa [e2] at this
  refine ⟨y, rfl, rfl, rfl, rfl, rfl, rfl, rfl, rfl, rfl, rfl, rfl, rfl, rfl, rfl, rfl, rfl, hy.few (by omega), fun _ _ => ⟨⟨y, 549755813888⟩, rfl, rfl, rfl, rfl, rfl, rfl, rfl, rfl, rfl, rfl, rfl, rfl, rfl, rfl, rfl, rfl, rfl, decide_eq_true hy.e1, fun _ _ => ?_⟩⟩
  dsimp only
  have ey : MacS.mk (MacS.alpha y) (MacS.size y) (MacS.applied y) (MacS.C y) (MacS.S y) (MacS.E y) = y := rfl
  rw [ey]
  refine ⟨⟨0, rfl, rfl, rfl, rfl, rfl, rfl, rfl, rfl, rfl, rfl, rfl, rfl, rfl, rfl, rfl, rfl, rfl, Nat.zero_le _⟩, fun j hj => br_i (fun h3 => ?_) (fun h3 => ?_)⟩
  · have h3 := of_decide_eq_true h3
    have hm := Int.tmod_lt_of_pos (IntKind.i64.wrap (times : Int)) (show (0 : Int) < 9 by decide)
    have hA := again_ok hy k0 k1 hnone j (by omega)
    have hap := apply_none hA.ok (by omega) k0 k1 (q := q) (by rw [hA.s]; exact hnone)
    have hstep : againM y q (j + 1) = (applyM (againM y q j) q).2 := rfl
    have okm := hA.ok.ok (by omega)
    have hcode : ((applyM (againM y q j) q).1.code != 6) = false := by rw [hap]; rfl
    generalize againM y q j = z at hstep okm hcode ⊢
    refine ⟨⟨z, q⟩, rfl, rfl, rfl, rfl, rfl, rfl, rfl, rfl, rfl, rfl, rfl, rfl, rfl, rfl, rfl, rfl, rfl, rfl, rfl, rfl, rfl, rfl, rfl, rfl, rfl, rfl, rfl, ⟨okm, okq⟩, fun _ _ => br_f hcode ⟨j + 1, by rw [wrap_id (by omega) (by omega)]; rfl, ?_⟩⟩
    rw [hstep]
    exact ⟨rfl, rfl, rfl, rfl, rfl, rfl, rfl, rfl, rfl, rfl, rfl, rfl, rfl, rfl, rfl, rfl, by show j + 1 ≤ 9; omega, by show 9 - (j + 1) < 9 - j; omega⟩
  have hj : j ≤ 9 := hj
  have hA := again_ok hy k0 k1 hnone j (by omega)
  generalize againM y q j = z at hA ⊢
  have hAz := hA.ok.sz
  have hyl := at_last (E := y.E) (s := 549755813888) hy.e1 fun p hp => by have := (hy.em p hp).2; omega
  have hzl := at_last (E := z.E) (s := 549755813888) hA.ok.e1 fun p hp => by have := (hA.ok.em p hp).2; omega
  refine ⟨z, rfl, rfl, rfl, rfl, rfl, rfl, rfl, rfl, rfl, rfl, rfl, rfl, rfl, rfl, rfl, rfl, hA.ok.few (by omega), fun _ _ => ⟨⟨y.C, z.C⟩, rfl, rfl, trivial, fun _ _ => br_t (by show sameM y.C z.C = true; rw [hA.c]; exact sameM_self _) ⟨⟨z, 549755813888⟩, rfl, rfl, rfl, rfl, rfl, rfl, rfl, rfl, rfl, rfl, rfl, rfl, rfl, rfl, rfl, rfl, rfl, decide_eq_true hA.ok.e1, fun _ _ => ?_⟩⟩⟩
  refine ⟨(lastEp y.E).members, congrArg EpochD.members hyl, ?_, trivial, fun _ _ => ⟨z, rfl, rfl, rfl, rfl, rfl, rfl, rfl, rfl, rfl, rfl, rfl, rfl, rfl, rfl, rfl, rfl, decide_eq_true (by omega), fun _ _ => ⟨y.S, rfl, hA.s, trivial, fun _ _ => rfl⟩⟩⟩
  rw [← hA.e]
  exact congrArg EpochD.members hzl
end Go.Proofs.YtildflamnehilaaGreat.Ses

namespace Go.Proofs.YtildflamnehilaaGreat.Sx
open Go Go.RowKit Go.ChangeShapes Go.WideShapes

section
variable {H : Type} {en : TypeId × Value → H} {P : Program} {w : World}

/-- a slice -/
theorem opens_sliceP {t e : TypeId} {c : Tc} {ok : c.den → Prop} (ht : P.underlying t = some (.slice e)) (he : Opens en P w e (fun a : {a : c.den // ok a} => Sx.enc c a.1)) (hc : P.cellsOf e = c.width) (hb : P.bytesOf e = c.bytes) :
    Opens en P w t (fun l : {l : List c.den // ∀ x, x ∈ l → ok x} => [.rslice false c l.1]) := by
  intro m cs x hx hw
  have hc0 : 0 < c.width := by cases c <;> decide
  rcases DataW.trod_slice ht hx with ⟨rfl, rfl⟩ | ⟨a, len, cap, elems, rest, n, rfl, rfl, rfl, _, hle, _, hel, helem, hspare, _⟩
  · exact ⟨⟨[], fun x hx => (nomatch hx)⟩, fun β => .cons (.rnil _ _) (RepL.nil _)⟩
  · simp only [DataW.weights, ht, List.all_cons, List.all_append, Bool.and_eq_true, decide_eq_true_eq, List.length_map] at hw
    obtain ⟨hw0, hw1, _⟩ := hw
    have hbytes : len * c.bytes ≤ room47 := by
      have h1 : len * P.bytesOf e ≤ (elems.length + rest.length) * P.bytesOf e := Nat.mul_le_mul_right _ (by omega)
      have h2 : reachBytes < 2 ^ 47 := reachBytes_lt
      rw [← hb]
      have : room47 = 2 ^ 47 := rfl
      omega
    rcases Nat.eq_zero_or_pos cap with h0 | hpos
    · have : len = 0 := by omega
      subst this
      subst h0
      exact ⟨⟨[], fun x hx => (nomatch hx)⟩, fun β => .cons (.rnil _ _) (RepL.nil _)⟩
    · have hread : ∃ y, (w.cells? 0 a (P.cellsOf e)).bind (DataW.trod en P w 0 (fun _ => true) true n e) = some y := by
        rcases Nat.eq_zero_or_pos len with h1 | h1
        · obtain ⟨hrl, hr⟩ := hspare rfl
          have := hr 0 (by omega)
          have hlt : 0 < rest.length := by omega
          rw [List.getElem?_eq_getElem hlt] at this
          subst h1
          simp [Addr.add] at this
          exact ⟨_, this⟩
        · have := helem 0 h1
          have hlt : 0 < elems.length := by omega
          rw [List.getElem?_eq_getElem hlt] at this
          simp [Addr.add] at this
          exact ⟨_, this⟩
      have hsp : a = ⟨a.block, a.off, none⟩ := by
        obtain ⟨y, hy⟩ := hread
        cases hcs : w.cells? 0 a (P.cellsOf e) with
        | none => rw [hcs] at hy; simp at hy
        | some l0 =>
          obtain ⟨_, hl, hg⟩ := World.cells?_some hcs
          have h1 := hg 0 (by omega)
          have hlt : 0 < l0.length := by omega
          rw [List.getElem?_eq_getElem hlt] at h1
          simp only [Addr.add, if_true] at h1
          unfold World.cell? at h1
          obtain ⟨b, o, s⟩ := a
          cases s with
          | none => rfl
          | some s =>
            simp only at h1
            split at h1 <;> simp at h1
      have hadd : ∀ k, a.add k = ⟨a.block, a.off + k, none⟩ := by
        intro k
        unfold Addr.add
        split
        · rename_i hk; subst hk; exact hsp
        · rfl
      have each : ∀ i, i < len → ∃ (p : {a : c.den // ok a} × List Value), p.2.length = c.width ∧ (∀ β, RepL ⟨β, wholeΓ w⟩ (Sx.enc c p.1.1) p.2) ∧ ∀ (j : Nat) v, p.2[j]? = some v → w.cell? ⟨a.block, a.off + (i * c.width + j), none⟩ = some v := by
        intro i hi
        have h1 := helem i hi
        have hlt : i < elems.length := by omega
        rw [List.getElem?_eq_getElem hlt] at h1
        cases hcs : w.cells? 0 (a.add (i * P.cellsOf e)) (P.cellsOf e) with
        | none => rw [hcs] at h1; simp at h1
        | some l0 =>
          rw [hcs] at h1
          simp only [Option.bind_some] at h1
          obtain ⟨_, hl, hg⟩ := World.cells?_some hcs
          obtain ⟨d, hd⟩ := he n l0 _ h1 (weightsAll_mem hw1 _ (List.mem_map.2 ⟨elems[i], List.getElem_mem hlt, rfl⟩))
          refine ⟨(d, l0), by rw [← hc]; exact hl, hd, fun j v hv => ?_⟩
          have hj : j < l0.length := (List.getElem?_eq_some_iff.1 hv).1
          have := hg j (by omega)
          rw [hv, hadd] at this
          unfold Addr.add at this
          split at this
          · rename_i hj0; subst hj0; rw [hc] at this; simpa using this
          · rw [hc] at this
            simp only at this
            rw [← this, Nat.add_assoc]
      obtain ⟨ps, hpl, hp⟩ := choose_list (β := Unit) len each
      refine ⟨⟨ps.map (·.1.1), fun x hx => by obtain ⟨p, _, rfl⟩ := List.mem_map.1 hx; exact p.1.2⟩, fun β => .cons ?_ (RepL.nil _)⟩
      dsimp only
      rw [hsp]
      have := Rep.rslice (g := ⟨β, wholeΓ w⟩) false c (ps.map (·.1.1)) a.block a.off cap (fun i => match ps[i]? with | some p => p.2 | none => List.replicate c.width undef) (by simp [hpl]; exact hle) (by simp [hpl]; exact hbytes) (fun i => by
        cases hi : ps[i]? with
        | none => simp
        | some p => exact (hp i p hi).1) (fun i x hx j sv v h1 h2 => by
        rw [List.getElem?_map] at hx
        cases hi : ps[i]? with
        | none => rw [hi] at hx; simp at hx
        | some p =>
          rw [hi] at hx h2
          simp at hx
          subst hx
          exact ((hp i p hi).2.1 β).2 j sv v h1 h2) (fun i hi j v h1 => by
        cases hq : ps[i]? with
        | none => rw [List.getElem?_eq_none_iff] at hq; simp at hi; omega
        | some p =>
          rw [hq] at h1
          exact (hp i p hq).2.2 j v h1)
      simp only [List.length_map, hpl] at this
      exact this


theorem opens_intw {t : TypeId} {k : IntKind} (ht : P.underlying t = some (.int k)) : Opens en P w t (fun n : {n : Int // (Lit.int k n).wf = true} => [.int k n.1]) := by
  intro m cs x hx _
  obtain ⟨n, rfl, _, hw⟩ := DataW.trod_int ht hx
  exact ⟨⟨n, hw⟩, fun β => .cons (.int k n) (RepL.nil _)⟩
/-- an argument that is a slice of what is so -/
theorem arg_sliceP {H : Type} {en : TypeId × Value → H} {P : Program} {w : World} {t e : TypeId} {c : Tc} {ok : c.den → Prop} {v : Value} {d : DataW H} {ps : List MemPlace} {r : Reach} {b0 : Nat} (ht : P.underlying t = some (.slice e))
    (ho : Opens en P w t (fun l : {l : List c.den // ∀ x, x ∈ l → ok x} => [.rslice false c l.1])) (hval : Value.okWide P w r b0 t v) (hd : DataW.Trod en P w 0 (fun _ => true) true t v d ps) (hw : (d.weights P t).all (· ≤ reachBytes) = true) :
    ∃ l : {l : List c.den // ∀ x, x ∈ l → ok x}, ∀ β, Rep ⟨β, wholeΓ w⟩ (.rslice false c l.1) v := by
  obtain ⟨a, len, cap, rfl⟩ := okWide_slice ht hval
  obtain ⟨fuel, hf⟩ := hd
  obtain ⟨l, hl⟩ := ho fuel _ _ hf hw
  exact ⟨l, fun β => (hl β).2 0 _ _ rfl rfl⟩
/-- an argument that is a struct -/
theorem arg_agg {H : Type} {en : TypeId × Value → H} {P : Program} {w : World} {t : TypeId} {fs : Array Field} {α : Type} {mk : α → List SV} {v : Value} {d : DataW H} {ps : List MemPlace} {r : Reach} {b0 : Nat} (ht : P.underlying t = some (.struct fs))
    (ho : Opens en P w t mk) (hval : Value.okWide P w r b0 t v) (hd : DataW.Trod en P w 0 (fun _ => true) true t v d ps) (hw : (d.weights P t).all (· ≤ reachBytes) = true) :
    ∃ a : α, ∀ β, Rep ⟨β, wholeΓ w⟩ (.agg (mk a)) v := by
  obtain ⟨cs, rfl, _⟩ := okWide_struct ht hval
  obtain ⟨fuel, hf⟩ := hd
  obtain ⟨a, ha⟩ := ho fuel _ _ hf hw
  obtain ⟨cs⟩ := cs
  exact ⟨a, fun β => .agg _ _ (ha β).1 (ha β).2⟩
end
end Go.Proofs.YtildflamnehilaaGreat.Sx
namespace Go.Proofs.YtildflamnehilaaGreat.Ses
open Go Go.Proofs Go.Proofs.YtildflamnehilaaGreat.Sx

theorem inI_wf {n : Int} (h : (Lit.int .i64 n).wf = true) : inI n = true := by
  simp [Lit.wf, IntKind.min, IntKind.max, IntKind.signed, IntKind.bits] at h
  exact decide_eq_true h.2
section
variable {H : Type} {en : TypeId × Value → H} {w : World}
theorem opens_in {t : TypeId} (ht : Tryz.prog.underlying t = some (.int .i64)) : Opens en Tryz.prog w t (fun n : {n : Int // inI n = true} => [.int .i64 n.1]) :=
  (opens_intw ht).map (fun a => ⟨a.1, inI_wf a.2⟩) (fun _ => rfl)
abbrev RqIn := {r : RequestD // inI r.from_ = true}
theorem op_request : Opens en Tryz.prog w 54 (fun r : RqIn => enc .request r.1) :=
  (opens_struct Tryz.underlying54 (by kernel_rfl) (opensF_cons (sz := 1) rfl (by kernel_rfl) (opens_int Tryz.underlying3) (opensF_cons (sz := 1) rfl (by kernel_rfl) (opens_str Tryz.underlying9) (opensF_cons (sz := 1) rfl (by kernel_rfl) (opens_int Tryz.underlying3) (opensF_cons (sz := 1) rfl (by kernel_rfl) (opens_int Tryz.underlying3) (opensF_cons (sz := 1) rfl (by kernel_rfl) (opens_int Tryz.underlying3)
    (opensF_cons (sz := 1) rfl (by kernel_rfl) (opens_str Tryz.underlying9) (opensF_cons (sz := 1) rfl (by kernel_rfl) op_changes (opensF_cons (sz := 1) rfl (by kernel_rfl) (opens_str Tryz.underlying9) (opensF_cons (sz := 1) rfl (by kernel_rfl) (opens_in Tryz.underlying3) (opensF_cons (sz := 1) rfl (by kernel_rfl) (opens_int Tryz.underlying3) (opensF_cons (sz := 1) rfl (by kernel_rfl) (opens_int Tryz.underlying3) opensF_nil)))))))))))).map
    (fun a => (⟨⟨a.1, a.2.1, a.2.2.1, a.2.2.2.1, a.2.2.2.2.1, a.2.2.2.2.2.1, a.2.2.2.2.2.2.1, a.2.2.2.2.2.2.2.1, a.2.2.2.2.2.2.2.2.1.1, a.2.2.2.2.2.2.2.2.2.1, a.2.2.2.2.2.2.2.2.2.2.1⟩, a.2.2.2.2.2.2.2.2.1.2⟩ : RqIn)) (fun _ => rfl)
theorem op_requests : Opens en Tryz.prog w 60 (fun l : {l : List RequestD // ∀ x, x ∈ l → inI x.from_ = true} => [.rslice false .request l.1]) := opens_sliceP (c := .request) (ok := fun r : RequestD => inI r.from_ = true) Tryz.underlying60 op_request (by kernel_rfl) (by kernel_rfl)
end
end Go.Proofs.YtildflamnehilaaGreat.Ses
