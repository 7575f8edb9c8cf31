/- SessionLeaves: what the evaluator leaves of it, and that it holds. No condition. -/
import Derived.Test.YtnkhnogdiphboaaSesB
import Derived.KernelRfl
set_option linter.unusedSimpArgs false
set_option linter.unusedVariables false

namespace Go.Proofs.Ytnkhnogdiphboaa.Ses
open Go Go.Proofs Go.Proofs.Ytnkhnogdiphboaa.Sx

noncomputable def awakeT : Tri := { γ := Unit, n0 := 0, args := fun _ => [], blks := fun _ => [], pre := fun _ => True, δ := Unit, post := fun _ _ => True, n1 := 0, res := fun _ _ => .bool true, blks' := fun _ _ => [], scal := false }
noncomputable def nofE : Envr := Envr.bare Try.prog (fun _ => none) false

structure LeavesA where
  size : Int
  others : List Int
  asks : List Int

structure LeavesS where
  i : Nat
  seen : List Int
  l : List SessionD

def meS : SessionD := ⟨-1, 0, [109, 101], .dflt⟩
def nmS (n : Int) : Bs := textOf [120, IntKind.u8.wrap (IntKind.i64.wrap (97 + n.tmod 16)), IntKind.u8.wrap (IntKind.i64.wrap (97 + IntKind.i64.wrap (n.tdiv 16)))]
def nS (n : Int) : SessionD := ⟨n, 0, nmS n, .dflt⟩

/-- the table, after so many unlike numbers -/
def LeaI (size : Int) (seen : List Int) (l : List SessionD) : Prop :=
  ∃ R : List Int, R.Nodup ∧ (∀ n, n ∈ R → 0 ≤ n ∧ n < 32) ∧ ((seen.length : Int) < size → l = meS :: R.map nS ∧ R.length = seen.length ∧ ∀ n, n ∈ R ↔ n ∈ seen) ∧
    (¬ (seen.length : Int) < size → l = R.map nS ∧ (R.length : Int) = size)

noncomputable def leaI1 : St → LInv := fun s => match getE s.env 1, getE s.env 7 with
  | .rslice _ .int others, .mptr n _ => match s.m.blks.get n with
    | some (.cells [.int _ size, .mslice _ q _ _]) =>
      { σ := LeavesS, I := fun x => x.i ≤ others.length ∧ x.seen.length ≤ x.i ∧ LeaI size x.seen x.l, μ := fun x => others.length - x.i,
        env := fun x => [(11, .int .i64 x.i), (9, .int .i64 x.seen.length), (10, .mslice .int s.m.next 0 x.seen.length)],
        blk := fun x => [(n, .cells [.int .i64 size, .mslice .session (s.m.next + 1) 0 x.l.length]), (s.m.next, .rows .int x.seen), (s.m.next + 1, .rows .session x.l)], fresh := 2, drop := [q] }
    | _ => LInv.none
  | _, _ => LInv.none

noncomputable def leaI2 : St → LInv := fun s => match getE s.env 2 with
  | .rslice _ .int asks => match getE s.env 7 with
    | .mptr n _ => match s.m.blks.get n with
      | some (.cells [.int _ size, .mslice _ q _ _]) => match s.m.blks.get q with
        | some (.rows .session l) =>
          { σ := Nat, I := fun i => i ≤ asks.length, μ := fun i => asks.length - i, env := fun i => [(15, .int .i64 i)],
            blk := fun i => [(n, .cells [.int .i64 size, .mslice .session s.m.next 0 l.length]), (s.m.next, .rows .session l)], fresh := 1, drop := [q] }
        | _ => LInv.none
      | _ => LInv.none
    | _ => LInv.none
  | _ => LInv.none

def leavesArgs (x : LeavesA) : List SV := [.int .i64 x.size, .rslice false .int x.others, .rslice false .int x.asks]
/-- others are too many -/
structure BigA where
  size : Int
  n : Nat
def bigArgs1 (x : BigA) : List SV := [.int .i64 x.size, .cslice 1 0 0 x.n, .undef]
structure Big2A where
  size : Int
  others : List Int
  n : Nat
def bigArgs2 (x : Big2A) : List SV := [.int .i64 x.size, .rslice false .int x.others, .cslice 1 0 0 x.n]
noncomputable def leavesE : Envr := Env Try.prog cod [(10, awakeT.spec), (12, openT.spec), (13, askT.spec), (15, doneT.spec), (14, hasT.spec)] [(14, leaI1), (27, leaI2)]
end Go.Proofs.Ytnkhnogdiphboaa.Ses

namespace Go.Proofs.Ytnkhnogdiphboaa.Ses
open Go Go.Proofs Go.Proofs.Ytnkhnogdiphboaa.Sx
set_option maxRecDepth 100000

theorem awake_vc (x : awakeT.γ) : evCall nofE (ev nofE 1000) 10 (awakeT.args x) ⟨awakeT.blks x, awakeT.n0, []⟩ (fun _ _ => False) (awakeT.ends x) = (
(∃ x1 : Unit,
 ((@Eq Bool (@BEq.beq Int _ (5 : Int) (5 : Int)) Bool.true) ∧
 True))) := by kernel_rfl

theorem leaves_vc (x : LeavesA) : evCall leavesE (ev leavesE 1000) 4 (leavesArgs x) ⟨[], 0, []⟩ (fun _ _ => False) (fun v _ => TrueV v) = (
(∃ x1 : Unit,
 (True ∧
 (∀ x2 : Unit,
 (True →
 ((@LE.le Nat _ (@HMul.hMul _ _ _ _ (@List.length Int (@LeavesA.others x)) (8 : Nat)) room47) →
 (br (@Decidable.decide (@GT.gt Int _ (Nat.cast (@List.length Int (@LeavesA.others x)) : Int) (100 : Int)) _)
 (@Eq Bool Bool.true Bool.true)
 ((@LE.le Nat _ (@HMul.hMul _ _ _ _ (@List.length Int (@LeavesA.asks x)) (8 : Nat)) room47) →
 (br (@Decidable.decide (@GT.gt Int _ (Nat.cast (@List.length Int (@LeavesA.asks x)) : Int) (100 : Int)) _)
 (@Eq Bool Bool.true Bool.true)
 (br (@Decidable.decide (@LT.lt Int _ (@LeavesA.size x) (1 : Int)) _)
 (∃ x3 : Unit,
 (True ∧
 (∀ x4 : Unit,
 (True →
 (@Eq Bool Bool.true Bool.true)))))
 (br (@Decidable.decide (@GT.gt Int _ (@LeavesA.size x) (16 : Int)) _)
 (∃ x5 : Unit,
 (True ∧
 (∀ x6 : Unit,
 (True →
 (@Eq Bool Bool.true Bool.true)))))
 (∃ x7 : Unit,
 (True ∧
 (∀ x8 : Unit,
 (True →
 (∃ x9 : OpenA,
 ((@Eq Bs (@Array.toList UInt8 (@ByteArray.data (@ByteArray.mk (@List.toArray UInt8 (@List.cons UInt8 (109 : UInt8) (@List.cons UInt8 (101 : UInt8) (@List.nil UInt8))))))) (@OpenA.name x9)) ∧
 ((@Eq Int (@Neg.neg Int _ (1 : Int)) (@OpenA.id x9)) ∧
 ((@Eq Int (@LeavesA.size x) (@OpenA.size x9)) ∧
 ((@Eq Nat (0 : Nat) (@List.length SessionD (@OpenA.l x9))) ∧
 ((@Eq (@List SessionD) (@List.nil SessionD) (@OpenA.l x9)) ∧
 (((@Eq Bool (@Decidable.decide (@LT.lt Int _ (0 : Int) (@OpenA.size x9)) _) Bool.true) ∧
 (@Eq Bool (@Decidable.decide (@LE.le Nat _ (@List.length SessionD (@OpenA.l x9)) (1024 : Nat)) _) Bool.true)) ∧
 (∀ x10 : Unit,
 (True →
 ((∃ x11 : LeavesS,
 ((@Eq Int (0 : Int) (Nat.cast (@LeavesS.i x11) : Int)) ∧
 ((@Eq Int (0 : Int) (Nat.cast (@List.length Int (@LeavesS.seen x11)) : Int)) ∧
 ((@Eq Nat (0 : Nat) (@List.length Int (@LeavesS.seen x11))) ∧
 ((@Eq Int (@OpenA.size x9) (@OpenA.size x9)) ∧
 ((@Eq Nat (0 : Nat) (0 : Nat)) ∧
 ((@Eq Nat (@List.length SessionD (@Prod.snd Int (@List SessionD) (@openL x9))) (@List.length SessionD (@LeavesS.l x11))) ∧
 ((@Eq (@List Int) (@List.nil Int) (@LeavesS.seen x11)) ∧
 ((@Eq (@List SessionD) (@Prod.snd Int (@List SessionD) (@openL x9)) (@LeavesS.l x11)) ∧
 ((@LE.le Nat _ (@LeavesS.i x11) (@List.length Int (@LeavesA.others x))) ∧
 ((@LE.le Nat _ (@List.length Int (@LeavesS.seen x11)) (@LeavesS.i x11)) ∧
 (@LeaI (@OpenA.size x9) (@LeavesS.seen x11) (@LeavesS.l x11))))))))))))) ∧
 (∀ x12 : LeavesS,
 (((@LE.le Nat _ (@LeavesS.i x12) (@List.length Int (@LeavesA.others x))) ∧
 ((@LE.le Nat _ (@List.length Int (@LeavesS.seen x12)) (@LeavesS.i x12)) ∧
 (@LeaI (@OpenA.size x9) (@LeavesS.seen x12) (@LeavesS.l x12)))) →
 ((@LE.le Nat _ (@HMul.hMul _ _ _ _ (@List.length Int (@LeavesA.others x)) (8 : Nat)) room47) →
 (br (@Decidable.decide (@LT.lt Int _ (Nat.cast (@LeavesS.i x12) : Int) (Nat.cast (@List.length Int (@LeavesA.others x)) : Int)) _)
 (br (@Decidable.decide ((@LE.le Int _ (0 : Int) (Nat.cast (@LeavesS.i x12) : Int)) ∧
 (@LT.lt Int _ (Nat.cast (@LeavesS.i x12) : Int) (Nat.cast (@List.length Int (@LeavesA.others x)) : Int))) _)
 (∃ x13 : (@Prod (@List Int) Int),
 ((@LE.le Nat _ (@HAdd.hAdd _ _ _ _ (0 : Nat) (@List.length Int (@LeavesS.seen x12))) (@List.length Int (@LeavesS.seen x12))) ∧
 ((@Eq (@List Int) (@List.take Int (@List.length Int (@LeavesS.seen x12)) (@List.drop Int (0 : Nat) (@LeavesS.seen x12))) (@Prod.fst (@List Int) Int x13)) ∧
 ((@Eq Int (@Go.IntKind.wrap Go.IntKind.i64 (Nat.cast (@BitVec.toNat (@Go.IntKind.bits Go.IntKind.i64) (@HAnd.hAnd (@BitVec (@Go.IntKind.bits Go.IntKind.i64)) (@BitVec (@Go.IntKind.bits Go.IntKind.i64)) (@BitVec (@Go.IntKind.bits Go.IntKind.i64)) _ (@BitVec.ofInt (@Go.IntKind.bits Go.IntKind.i64) (@List.getD Int (@LeavesA.others x) (@Int.toNat (Nat.cast (@LeavesS.i x12) : Int)) (@Int.ofNat (0 : Nat)))) (@BitVec.ofInt (@Go.IntKind.bits Go.IntKind.i64) (31 : Int)))) : Int)) (@Prod.snd (@List Int) Int x13)) ∧
 (True ∧
 (∀ x14 : Unit,
 (True →
 (br (@Bool.not (@Decidable.decide (@Membership.mem Int (@List Int) _ (@Prod.fst (@List Int) Int x13) (@Prod.snd (@List Int) Int x13)) _))
 (((@Nat.le (@HMul.hMul _ _ _ _ (@List.length Int (@LeavesS.seen x12)) (8 : Nat)) room47) ∧
 (@Nat.le (@HMul.hMul _ _ _ _ (1 : Nat) (8 : Nat)) room47)) →
 (br (@Bool.and (@Bool.and (@Decidable.decide (@LE.le Nat _ (@HAdd.hAdd _ _ _ _ (0 : Nat) (1 : Nat)) (@List.length Int (@List.cons Int (@Go.IntKind.wrap Go.IntKind.i64 (Nat.cast (@BitVec.toNat (@Go.IntKind.bits Go.IntKind.i64) (@HAnd.hAnd (@BitVec (@Go.IntKind.bits Go.IntKind.i64)) (@BitVec (@Go.IntKind.bits Go.IntKind.i64)) (@BitVec (@Go.IntKind.bits Go.IntKind.i64)) _ (@BitVec.ofInt (@Go.IntKind.bits Go.IntKind.i64) (@List.getD Int (@LeavesA.others x) (@Int.toNat (Nat.cast (@LeavesS.i x12) : Int)) (@Int.ofNat (0 : Nat)))) (@BitVec.ofInt (@Go.IntKind.bits Go.IntKind.i64) (31 : Int)))) : Int)) (@List.nil Int)))) _) (@Decidable.decide (@LE.le Nat _ (@HAdd.hAdd _ _ _ _ (0 : Nat) (@List.length Int (@LeavesS.seen x12))) (@List.length Int (@LeavesS.seen x12))) _)) (@Decidable.decide (@LE.le Nat _ (@HMul.hMul _ _ _ _ (@HAdd.hAdd _ _ _ _ (@List.length Int (@LeavesS.seen x12)) (@List.length Int (@List.take Int (1 : Nat) (@List.drop Int (0 : Nat) (@List.cons Int (@Go.IntKind.wrap Go.IntKind.i64 (Nat.cast (@BitVec.toNat (@Go.IntKind.bits Go.IntKind.i64) (@HAnd.hAnd (@BitVec (@Go.IntKind.bits Go.IntKind.i64)) (@BitVec (@Go.IntKind.bits Go.IntKind.i64)) (@BitVec (@Go.IntKind.bits Go.IntKind.i64)) _ (@BitVec.ofInt (@Go.IntKind.bits Go.IntKind.i64) (@List.getD Int (@LeavesA.others x) (@Int.toNat (Nat.cast (@LeavesS.i x12) : Int)) (@Int.ofNat (0 : Nat)))) (@BitVec.ofInt (@Go.IntKind.bits Go.IntKind.i64) (31 : Int)))) : Int)) (@List.nil Int)))))) (8 : Nat)) room47) _))
 (∃ x15 : OpenA,
 ((@Eq Bs (@textOf (@List.take Int (3 : Nat) (@List.drop Int (0 : Nat) (@List.cons Int (120 : Int) (@List.cons Int (@Go.IntKind.wrap Go.IntKind.u8 (@Go.IntKind.wrap Go.IntKind.i64 (@HAdd.hAdd Int Int Int _ (97 : Int) (@Int.tmod (@Go.IntKind.wrap Go.IntKind.i64 (Nat.cast (@BitVec.toNat (@Go.IntKind.bits Go.IntKind.i64) (@HAnd.hAnd (@BitVec (@Go.IntKind.bits Go.IntKind.i64)) (@BitVec (@Go.IntKind.bits Go.IntKind.i64)) (@BitVec (@Go.IntKind.bits Go.IntKind.i64)) _ (@BitVec.ofInt (@Go.IntKind.bits Go.IntKind.i64) (@List.getD Int (@LeavesA.others x) (@Int.toNat (Nat.cast (@LeavesS.i x12) : Int)) (@Int.ofNat (0 : Nat)))) (@BitVec.ofInt (@Go.IntKind.bits Go.IntKind.i64) (31 : Int)))) : Int)) (16 : Int))))) (@List.cons Int (@Go.IntKind.wrap Go.IntKind.u8 (@Go.IntKind.wrap Go.IntKind.i64 (@HAdd.hAdd Int Int Int _ (97 : Int) (@Go.IntKind.wrap Go.IntKind.i64 (@Int.tdiv (@Go.IntKind.wrap Go.IntKind.i64 (Nat.cast (@BitVec.toNat (@Go.IntKind.bits Go.IntKind.i64) (@HAnd.hAnd (@BitVec (@Go.IntKind.bits Go.IntKind.i64)) (@BitVec (@Go.IntKind.bits Go.IntKind.i64)) (@BitVec (@Go.IntKind.bits Go.IntKind.i64)) _ (@BitVec.ofInt (@Go.IntKind.bits Go.IntKind.i64) (@List.getD Int (@LeavesA.others x) (@Int.toNat (Nat.cast (@LeavesS.i x12) : Int)) (@Int.ofNat (0 : Nat)))) (@BitVec.ofInt (@Go.IntKind.bits Go.IntKind.i64) (31 : Int)))) : Int)) (16 : Int)))))) (@List.nil Int))))))) (@OpenA.name x15)) ∧
 ((@Eq Int (@Go.IntKind.wrap Go.IntKind.i64 (Nat.cast (@BitVec.toNat (@Go.IntKind.bits Go.IntKind.i64) (@HAnd.hAnd (@BitVec (@Go.IntKind.bits Go.IntKind.i64)) (@BitVec (@Go.IntKind.bits Go.IntKind.i64)) (@BitVec (@Go.IntKind.bits Go.IntKind.i64)) _ (@BitVec.ofInt (@Go.IntKind.bits Go.IntKind.i64) (@List.getD Int (@LeavesA.others x) (@Int.toNat (Nat.cast (@LeavesS.i x12) : Int)) (@Int.ofNat (0 : Nat)))) (@BitVec.ofInt (@Go.IntKind.bits Go.IntKind.i64) (31 : Int)))) : Int)) (@OpenA.id x15)) ∧
 ((@Eq Int (@OpenA.size x9) (@OpenA.size x15)) ∧
 ((@Eq Nat (0 : Nat) (0 : Nat)) ∧
 ((@Eq Nat (@List.length SessionD (@LeavesS.l x12)) (@List.length SessionD (@OpenA.l x15))) ∧
 ((@Eq (@List SessionD) (@LeavesS.l x12) (@OpenA.l x15)) ∧
 (((@Eq Bool (@Decidable.decide (@LT.lt Int _ (0 : Int) (@OpenA.size x15)) _) Bool.true) ∧
 (@Eq Bool (@Decidable.decide (@LE.le Nat _ (@List.length SessionD (@OpenA.l x15)) (1024 : Nat)) _) Bool.true)) ∧
 (∀ x16 : Unit,
 (True →
 (∃ x17 : LeavesS,
 ((@Eq Int (@Go.IntKind.wrap Go.IntKind.i64 (@HAdd.hAdd Int Int Int _ (Nat.cast (@LeavesS.i x12) : Int) (1 : Int))) (Nat.cast (@LeavesS.i x17) : Int)) ∧
 ((@Eq Int (@Go.IntKind.wrap Go.IntKind.i64 (@HAdd.hAdd Int Int Int _ (Nat.cast (@List.length Int (@LeavesS.seen x12)) : Int) (1 : Int))) (Nat.cast (@List.length Int (@LeavesS.seen x17)) : Int)) ∧
 ((@Eq Nat (0 : Nat) (0 : Nat)) ∧
 ((@Eq Nat (@HAdd.hAdd _ _ _ _ (@List.length Int (@LeavesS.seen x12)) (@List.length Int (@List.take Int (1 : Nat) (@List.drop Int (0 : Nat) (@List.cons Int (@Go.IntKind.wrap Go.IntKind.i64 (Nat.cast (@BitVec.toNat (@Go.IntKind.bits Go.IntKind.i64) (@HAnd.hAnd (@BitVec (@Go.IntKind.bits Go.IntKind.i64)) (@BitVec (@Go.IntKind.bits Go.IntKind.i64)) (@BitVec (@Go.IntKind.bits Go.IntKind.i64)) _ (@BitVec.ofInt (@Go.IntKind.bits Go.IntKind.i64) (@List.getD Int (@LeavesA.others x) (@Int.toNat (Nat.cast (@LeavesS.i x12) : Int)) (@Int.ofNat (0 : Nat)))) (@BitVec.ofInt (@Go.IntKind.bits Go.IntKind.i64) (31 : Int)))) : Int)) (@List.nil Int)))))) (@List.length Int (@LeavesS.seen x17))) ∧
 ((@Eq Int (@OpenA.size x15) (@OpenA.size x9)) ∧
 ((@Eq Nat (0 : Nat) (0 : Nat)) ∧
 ((@Eq Nat (@List.length SessionD (@Prod.snd Int (@List SessionD) (@openL x15))) (@List.length SessionD (@LeavesS.l x17))) ∧
 ((@Eq (@List Int) (@HAppend.hAppend (@List Int) (@List Int) (@List Int) _ (@List.take Int (@List.length Int (@LeavesS.seen x12)) (@List.drop Int (0 : Nat) (@LeavesS.seen x12))) (@List.take Int (1 : Nat) (@List.drop Int (0 : Nat) (@List.cons Int (@Go.IntKind.wrap Go.IntKind.i64 (Nat.cast (@BitVec.toNat (@Go.IntKind.bits Go.IntKind.i64) (@HAnd.hAnd (@BitVec (@Go.IntKind.bits Go.IntKind.i64)) (@BitVec (@Go.IntKind.bits Go.IntKind.i64)) (@BitVec (@Go.IntKind.bits Go.IntKind.i64)) _ (@BitVec.ofInt (@Go.IntKind.bits Go.IntKind.i64) (@List.getD Int (@LeavesA.others x) (@Int.toNat (Nat.cast (@LeavesS.i x12) : Int)) (@Int.ofNat (0 : Nat)))) (@BitVec.ofInt (@Go.IntKind.bits Go.IntKind.i64) (31 : Int)))) : Int)) (@List.nil Int))))) (@LeavesS.seen x17)) ∧
 ((@Eq (@List SessionD) (@Prod.snd Int (@List SessionD) (@openL x15)) (@LeavesS.l x17)) ∧
 (((@LE.le Nat _ (@LeavesS.i x17) (@List.length Int (@LeavesA.others x))) ∧
 ((@LE.le Nat _ (@List.length Int (@LeavesS.seen x17)) (@LeavesS.i x17)) ∧
 (@LeaI (@OpenA.size x9) (@LeavesS.seen x17) (@LeavesS.l x17)))) ∧
 (@LT.lt Nat _ (@Nat.sub (@List.length Int (@LeavesA.others x)) (@LeavesS.i x17)) (@Nat.sub (@List.length Int (@LeavesA.others x)) (@LeavesS.i x12))))))))))))))))))))))))
 (Bad "check" "law.go:153")))
 (∃ x18 : OpenA,
 ((@Eq Bs (@textOf (@List.take Int (3 : Nat) (@List.drop Int (0 : Nat) (@List.cons Int (120 : Int) (@List.cons Int (@Go.IntKind.wrap Go.IntKind.u8 (@Go.IntKind.wrap Go.IntKind.i64 (@HAdd.hAdd Int Int Int _ (97 : Int) (@Int.tmod (@Go.IntKind.wrap Go.IntKind.i64 (Nat.cast (@BitVec.toNat (@Go.IntKind.bits Go.IntKind.i64) (@HAnd.hAnd (@BitVec (@Go.IntKind.bits Go.IntKind.i64)) (@BitVec (@Go.IntKind.bits Go.IntKind.i64)) (@BitVec (@Go.IntKind.bits Go.IntKind.i64)) _ (@BitVec.ofInt (@Go.IntKind.bits Go.IntKind.i64) (@List.getD Int (@LeavesA.others x) (@Int.toNat (Nat.cast (@LeavesS.i x12) : Int)) (@Int.ofNat (0 : Nat)))) (@BitVec.ofInt (@Go.IntKind.bits Go.IntKind.i64) (31 : Int)))) : Int)) (16 : Int))))) (@List.cons Int (@Go.IntKind.wrap Go.IntKind.u8 (@Go.IntKind.wrap Go.IntKind.i64 (@HAdd.hAdd Int Int Int _ (97 : Int) (@Go.IntKind.wrap Go.IntKind.i64 (@Int.tdiv (@Go.IntKind.wrap Go.IntKind.i64 (Nat.cast (@BitVec.toNat (@Go.IntKind.bits Go.IntKind.i64) (@HAnd.hAnd (@BitVec (@Go.IntKind.bits Go.IntKind.i64)) (@BitVec (@Go.IntKind.bits Go.IntKind.i64)) (@BitVec (@Go.IntKind.bits Go.IntKind.i64)) _ (@BitVec.ofInt (@Go.IntKind.bits Go.IntKind.i64) (@List.getD Int (@LeavesA.others x) (@Int.toNat (Nat.cast (@LeavesS.i x12) : Int)) (@Int.ofNat (0 : Nat)))) (@BitVec.ofInt (@Go.IntKind.bits Go.IntKind.i64) (31 : Int)))) : Int)) (16 : Int)))))) (@List.nil Int))))))) (@OpenA.name x18)) ∧
 ((@Eq Int (@Go.IntKind.wrap Go.IntKind.i64 (Nat.cast (@BitVec.toNat (@Go.IntKind.bits Go.IntKind.i64) (@HAnd.hAnd (@BitVec (@Go.IntKind.bits Go.IntKind.i64)) (@BitVec (@Go.IntKind.bits Go.IntKind.i64)) (@BitVec (@Go.IntKind.bits Go.IntKind.i64)) _ (@BitVec.ofInt (@Go.IntKind.bits Go.IntKind.i64) (@List.getD Int (@LeavesA.others x) (@Int.toNat (Nat.cast (@LeavesS.i x12) : Int)) (@Int.ofNat (0 : Nat)))) (@BitVec.ofInt (@Go.IntKind.bits Go.IntKind.i64) (31 : Int)))) : Int)) (@OpenA.id x18)) ∧
 ((@Eq Int (@OpenA.size x9) (@OpenA.size x18)) ∧
 ((@Eq Nat (0 : Nat) (0 : Nat)) ∧
 ((@Eq Nat (@List.length SessionD (@LeavesS.l x12)) (@List.length SessionD (@OpenA.l x18))) ∧
 ((@Eq (@List SessionD) (@LeavesS.l x12) (@OpenA.l x18)) ∧
 (((@Eq Bool (@Decidable.decide (@LT.lt Int _ (0 : Int) (@OpenA.size x18)) _) Bool.true) ∧
 (@Eq Bool (@Decidable.decide (@LE.le Nat _ (@List.length SessionD (@OpenA.l x18)) (1024 : Nat)) _) Bool.true)) ∧
 (∀ x19 : Unit,
 (True →
 (∃ x20 : LeavesS,
 ((@Eq Int (@Go.IntKind.wrap Go.IntKind.i64 (@HAdd.hAdd Int Int Int _ (Nat.cast (@LeavesS.i x12) : Int) (1 : Int))) (Nat.cast (@LeavesS.i x20) : Int)) ∧
 ((@Eq Int (Nat.cast (@List.length Int (@LeavesS.seen x12)) : Int) (Nat.cast (@List.length Int (@LeavesS.seen x20)) : Int)) ∧
 ((@Eq Nat (0 : Nat) (0 : Nat)) ∧
 ((@Eq Nat (@List.length Int (@LeavesS.seen x12)) (@List.length Int (@LeavesS.seen x20))) ∧
 ((@Eq Int (@OpenA.size x18) (@OpenA.size x9)) ∧
 ((@Eq Nat (0 : Nat) (0 : Nat)) ∧
 ((@Eq Nat (@List.length SessionD (@Prod.snd Int (@List SessionD) (@openL x18))) (@List.length SessionD (@LeavesS.l x20))) ∧
 ((@Eq (@List Int) (@LeavesS.seen x12) (@LeavesS.seen x20)) ∧
 ((@Eq (@List SessionD) (@Prod.snd Int (@List SessionD) (@openL x18)) (@LeavesS.l x20)) ∧
 (((@LE.le Nat _ (@LeavesS.i x20) (@List.length Int (@LeavesA.others x))) ∧
 ((@LE.le Nat _ (@List.length Int (@LeavesS.seen x20)) (@LeavesS.i x20)) ∧
 (@LeaI (@OpenA.size x9) (@LeavesS.seen x20) (@LeavesS.l x20)))) ∧
 (@LT.lt Nat _ (@Nat.sub (@List.length Int (@LeavesA.others x)) (@LeavesS.i x20)) (@Nat.sub (@List.length Int (@LeavesA.others x)) (@LeavesS.i x12))))))))))))))))))))))))))))))))
 (Bad "check" "law.go:151"))
 (∃ x21 : AskA,
 ((@Eq Int (@Neg.neg Int _ (1 : Int)) (@AskA.id x21)) ∧
 ((@Eq Int (1 : Int) (@AskA.seq x21)) ∧
 ((@Eq Int (@OpenA.size x9) (@AskA.size x21)) ∧
 ((@Eq Nat (0 : Nat) (0 : Nat)) ∧
 ((@Eq Nat (@List.length SessionD (@LeavesS.l x12)) (@List.length SessionD (@AskA.l x21))) ∧
 ((@Eq (@List SessionD) (@LeavesS.l x12) (@AskA.l x21)) ∧
 (((@Eq Bool (@Decidable.decide (@LT.lt Int _ (0 : Int) (@AskA.size x21)) _) Bool.true) ∧
 (@Eq Bool (@Decidable.decide (@LE.le Nat _ (@List.length SessionD (@AskA.l x21)) (1024 : Nat)) _) Bool.true)) ∧
 (∀ x22 : Unit,
 (True →
 (br (@Decidable.decide (@LT.lt Int _ (Nat.cast (@List.length Int (@LeavesS.seen x12)) : Int) (@LeavesA.size x)) _)
 (@Eq Bool (@Bool.not (@Prod.snd VerdictD Bool (@Prod.fst (@Prod VerdictD Bool) (@List SessionD) (@askL x21)))) Bool.true)
 (br (@Bool.not (@Prod.snd VerdictD Bool (@Prod.fst (@Prod VerdictD Bool) (@List SessionD) (@askL x21))))
 (@Eq Bool Bool.false Bool.true)
 (br (@bne Int _ (@VerdictD.code (@Prod.fst VerdictD Bool (@Prod.fst (@Prod VerdictD Bool) (@List SessionD) (@askL x21)))) (6 : Int))
 (@Eq Bool Bool.false Bool.true)
 ((∃ x23 : Nat,
 ((@Eq Int (0 : Int) (Nat.cast x23 : Int)) ∧
 ((@Eq Int (@AskA.size x21) (@AskA.size x21)) ∧
 ((@Eq Nat (0 : Nat) (0 : Nat)) ∧
 ((@Eq Nat (@List.length SessionD (@Prod.snd (@Prod VerdictD Bool) (@List SessionD) (@askL x21))) (@List.length SessionD (@Prod.snd (@Prod VerdictD Bool) (@List SessionD) (@askL x21)))) ∧
 ((@Eq (@List SessionD) (@Prod.snd (@Prod VerdictD Bool) (@List SessionD) (@askL x21)) (@Prod.snd (@Prod VerdictD Bool) (@List SessionD) (@askL x21))) ∧
 (@Nat.le x23 (@List.length Int (@LeavesA.asks x))))))))) ∧
 (∀ x24 : Nat,
 ((@Nat.le x24 (@List.length Int (@LeavesA.asks x))) →
 ((@LE.le Nat _ (@HMul.hMul _ _ _ _ (@List.length Int (@LeavesA.asks x)) (8 : Nat)) room47) →
 (br (@Decidable.decide (@LT.lt Int _ (Nat.cast x24 : Int) (Nat.cast (@List.length Int (@LeavesA.asks x)) : Int)) _)
 (br (@Decidable.decide ((@LE.le Int _ (0 : Int) (Nat.cast x24 : Int)) ∧
 (@LT.lt Int _ (Nat.cast x24 : Int) (Nat.cast (@List.length Int (@LeavesA.asks x)) : Int))) _)
 (∃ x25 : AskA,
 ((@Eq Int (@Neg.neg Int _ (1 : Int)) (@AskA.id x25)) ∧
 ((@Eq Int (@List.getD Int (@LeavesA.asks x) (@Int.toNat (Nat.cast x24 : Int)) (@Int.ofNat (0 : Nat))) (@AskA.seq x25)) ∧
 ((@Eq Int (@AskA.size x21) (@AskA.size x25)) ∧
 ((@Eq Nat (0 : Nat) (0 : Nat)) ∧
 ((@Eq Nat (@List.length SessionD (@Prod.snd (@Prod VerdictD Bool) (@List SessionD) (@askL x21))) (@List.length SessionD (@AskA.l x25))) ∧
 ((@Eq (@List SessionD) (@Prod.snd (@Prod VerdictD Bool) (@List SessionD) (@askL x21)) (@AskA.l x25)) ∧
 (((@Eq Bool (@Decidable.decide (@LT.lt Int _ (0 : Int) (@AskA.size x25)) _) Bool.true) ∧
 (@Eq Bool (@Decidable.decide (@LE.le Nat _ (@List.length SessionD (@AskA.l x25)) (1024 : Nat)) _) Bool.true)) ∧
 (∀ x26 : Unit,
 (True →
 (br (@Bool.not (@Prod.snd VerdictD Bool (@Prod.fst (@Prod VerdictD Bool) (@List SessionD) (@askL x25))))
 (@Eq Bool Bool.false Bool.true)
 (br (@bne Int _ (@VerdictD.code (@Prod.fst VerdictD Bool (@Prod.fst (@Prod VerdictD Bool) (@List SessionD) (@askL x25)))) (6 : Int))
 (@Eq Bool Bool.false Bool.true)
 (br (@Decidable.decide ((@LE.le Int _ (0 : Int) (Nat.cast x24 : Int)) ∧
 (@LT.lt Int _ (Nat.cast x24 : Int) (Nat.cast (@List.length Int (@LeavesA.asks x)) : Int))) _)
 (∃ x27 : DoneA,
 ((@Eq Int (@Neg.neg Int _ (1 : Int)) (@DoneA.id x27)) ∧
 ((@Eq Int (@List.getD Int (@LeavesA.asks x) (@Int.toNat (Nat.cast x24 : Int)) (@Int.ofNat (0 : Nat))) (@DoneA.seq x27)) ∧
 ((@Eq Int (@VerdictD.code (@Prod.fst VerdictD Bool (@Prod.fst (@Prod VerdictD Bool) (@List SessionD) (@askL x25)))) (@VerdictD.code (@DoneA.v x27))) ∧
 ((@Eq Int (@VerdictD.session (@Prod.fst VerdictD Bool (@Prod.fst (@Prod VerdictD Bool) (@List SessionD) (@askL x25)))) (@VerdictD.session (@DoneA.v x27))) ∧
 ((@Eq Int (@VerdictD.rev (@Prod.fst VerdictD Bool (@Prod.fst (@Prod VerdictD Bool) (@List SessionD) (@askL x25)))) (@VerdictD.rev (@DoneA.v x27))) ∧
 ((@Eq Bs (@VerdictD.path (@Prod.fst VerdictD Bool (@Prod.fst (@Prod VerdictD Bool) (@List SessionD) (@askL x25)))) (@VerdictD.path (@DoneA.v x27))) ∧
 ((@Eq Int (@VerdictD.digest (@Prod.fst VerdictD Bool (@Prod.fst (@Prod VerdictD Bool) (@List SessionD) (@askL x25)))) (@VerdictD.digest (@DoneA.v x27))) ∧
 ((@Eq (@List CommitD) (@VerdictD.commits (@Prod.fst VerdictD Bool (@Prod.fst (@Prod VerdictD Bool) (@List SessionD) (@askL x25)))) (@VerdictD.commits (@DoneA.v x27))) ∧
 ((@Eq Int (@VerdictD.member (@Prod.fst VerdictD Bool (@Prod.fst (@Prod VerdictD Bool) (@List SessionD) (@askL x25)))) (@VerdictD.member (@DoneA.v x27))) ∧
 ((@Eq Int (@AskA.size x25) (@DoneA.size x27)) ∧
 ((@Eq Nat (0 : Nat) (0 : Nat)) ∧
 ((@Eq Nat (@List.length SessionD (@Prod.snd (@Prod VerdictD Bool) (@List SessionD) (@askL x25))) (@List.length SessionD (@DoneA.l x27))) ∧
 ((@Eq (@List SessionD) (@Prod.snd (@Prod VerdictD Bool) (@List SessionD) (@askL x25)) (@DoneA.l x27)) ∧
 ((@Eq Bool (@Decidable.decide (@LT.lt Int _ (0 : Int) (@DoneA.size x27)) _) Bool.true) ∧
 (∀ x28 : Unit,
 (True →
 (br (@Prod.fst Bool (@List SessionD) (@doneL x27))
 (@Eq Bool Bool.false Bool.true)
 (∃ x29 : Nat,
 ((@Eq Int (@Go.IntKind.wrap Go.IntKind.i64 (@HAdd.hAdd Int Int Int _ (Nat.cast x24 : Int) (1 : Int))) (Nat.cast x29 : Int)) ∧
 ((@Eq Int (@DoneA.size x27) (@AskA.size x21)) ∧
 ((@Eq Nat (0 : Nat) (0 : Nat)) ∧
 ((@Eq Nat (@List.length SessionD (@Prod.snd Bool (@List SessionD) (@doneL x27))) (@List.length SessionD (@Prod.snd (@Prod VerdictD Bool) (@List SessionD) (@askL x21)))) ∧
 ((@Eq (@List SessionD) (@Prod.snd Bool (@List SessionD) (@doneL x27)) (@Prod.snd (@Prod VerdictD Bool) (@List SessionD) (@askL x21))) ∧
 ((@Nat.le x29 (@List.length Int (@LeavesA.asks x))) ∧
 (@LT.lt Nat _ (@Nat.sub (@List.length Int (@LeavesA.asks x)) x29) (@Nat.sub (@List.length Int (@LeavesA.asks x)) x24)))))))))))))))))))))))))))
 (Bad "check" "law.go:167"))))))))))))))
 (Bad "check" "law.go:166"))
 (@Eq Bool Bool.true Bool.true)))))))))))))))))))))))))))))))))))))))))))))))) := by kernel_rfl

theorem big1_vc (x : BigA) : evCall leavesE (ev leavesE 1000) 4 (bigArgs1 x) ⟨[], 1, []⟩ (fun _ _ => False) (fun v _ => TrueV v) = (
(∃ x1 : Unit,
 (True ∧
 (∀ x2 : Unit,
 (True →
 (br (@Decidable.decide (@GT.gt Int _ (Nat.cast (@BigA.n x) : Int) (100 : Int)) _)
 (@Eq Bool Bool.true Bool.true)
 (Bad "silent" "law.go:137"))))))) := by kernel_rfl

theorem big2_vc (x : Big2A) : evCall leavesE (ev leavesE 1000) 4 (bigArgs2 x) ⟨[], 1, []⟩ (fun _ _ => False) (fun v _ => TrueV v) = (
(∃ x1 : Unit,
 (True ∧
 (∀ x2 : Unit,
 (True →
 ((@LE.le Nat _ (@HMul.hMul _ _ _ _ (@List.length Int (@Big2A.others x)) (8 : Nat)) room47) →
 (br (@Decidable.decide (@GT.gt Int _ (Nat.cast (@List.length Int (@Big2A.others x)) : Int) (100 : Int)) _)
 (@Eq Bool Bool.true Bool.true)
 (br (@Decidable.decide (@GT.gt Int _ (Nat.cast (@Big2A.n x) : Int) (100 : Int)) _)
 (@Eq Bool Bool.true Bool.true)
 (br (@Decidable.decide (@LT.lt Int _ (@Big2A.size x) (1 : Int)) _)
 (∃ x3 : Unit,
 (True ∧
 (∀ x4 : Unit,
 (True →
 (@Eq Bool Bool.true Bool.true)))))
 (br (@Decidable.decide (@GT.gt Int _ (@Big2A.size x) (16 : Int)) _)
 (∃ x5 : Unit,
 (True ∧
 (∀ x6 : Unit,
 (True →
 (@Eq Bool Bool.true Bool.true)))))
 (∃ x7 : Unit,
 (True ∧
 (∀ x8 : Unit,
 (True →
 (∃ x9 : OpenA,
 ((@Eq Bs (@Array.toList UInt8 (@ByteArray.data (@ByteArray.mk (@List.toArray UInt8 (@List.cons UInt8 (109 : UInt8) (@List.cons UInt8 (101 : UInt8) (@List.nil UInt8))))))) (@OpenA.name x9)) ∧
 ((@Eq Int (@Neg.neg Int _ (1 : Int)) (@OpenA.id x9)) ∧
 ((@Eq Int (@Big2A.size x) (@OpenA.size x9)) ∧
 ((@Eq Nat (0 : Nat) (@List.length SessionD (@OpenA.l x9))) ∧
 ((@Eq (@List SessionD) (@List.nil SessionD) (@OpenA.l x9)) ∧
 (((@Eq Bool (@Decidable.decide (@LT.lt Int _ (0 : Int) (@OpenA.size x9)) _) Bool.true) ∧
 (@Eq Bool (@Decidable.decide (@LE.le Nat _ (@List.length SessionD (@OpenA.l x9)) (1024 : Nat)) _) Bool.true)) ∧
 (∀ x10 : Unit,
 (True →
 ((∃ x11 : LeavesS,
 ((@Eq Int (0 : Int) (Nat.cast (@LeavesS.i x11) : Int)) ∧
 ((@Eq Int (0 : Int) (Nat.cast (@List.length Int (@LeavesS.seen x11)) : Int)) ∧
 ((@Eq Nat (0 : Nat) (@List.length Int (@LeavesS.seen x11))) ∧
 ((@Eq Int (@OpenA.size x9) (@OpenA.size x9)) ∧
 ((@Eq Nat (0 : Nat) (0 : Nat)) ∧
 ((@Eq Nat (@List.length SessionD (@Prod.snd Int (@List SessionD) (@openL x9))) (@List.length SessionD (@LeavesS.l x11))) ∧
 ((@Eq (@List Int) (@List.nil Int) (@LeavesS.seen x11)) ∧
 ((@Eq (@List SessionD) (@Prod.snd Int (@List SessionD) (@openL x9)) (@LeavesS.l x11)) ∧
 ((@LE.le Nat _ (@LeavesS.i x11) (@List.length Int (@Big2A.others x))) ∧
 ((@LE.le Nat _ (@List.length Int (@LeavesS.seen x11)) (@LeavesS.i x11)) ∧
 (@LeaI (@OpenA.size x9) (@LeavesS.seen x11) (@LeavesS.l x11))))))))))))) ∧
 (∀ x12 : LeavesS,
 (((@LE.le Nat _ (@LeavesS.i x12) (@List.length Int (@Big2A.others x))) ∧
 ((@LE.le Nat _ (@List.length Int (@LeavesS.seen x12)) (@LeavesS.i x12)) ∧
 (@LeaI (@OpenA.size x9) (@LeavesS.seen x12) (@LeavesS.l x12)))) →
 ((@LE.le Nat _ (@HMul.hMul _ _ _ _ (@List.length Int (@Big2A.others x)) (8 : Nat)) room47) →
 (br (@Decidable.decide (@LT.lt Int _ (Nat.cast (@LeavesS.i x12) : Int) (Nat.cast (@List.length Int (@Big2A.others x)) : Int)) _)
 (br (@Decidable.decide ((@LE.le Int _ (0 : Int) (Nat.cast (@LeavesS.i x12) : Int)) ∧
 (@LT.lt Int _ (Nat.cast (@LeavesS.i x12) : Int) (Nat.cast (@List.length Int (@Big2A.others x)) : Int))) _)
 (∃ x13 : (@Prod (@List Int) Int),
 ((@LE.le Nat _ (@HAdd.hAdd _ _ _ _ (0 : Nat) (@List.length Int (@LeavesS.seen x12))) (@List.length Int (@LeavesS.seen x12))) ∧
 ((@Eq (@List Int) (@List.take Int (@List.length Int (@LeavesS.seen x12)) (@List.drop Int (0 : Nat) (@LeavesS.seen x12))) (@Prod.fst (@List Int) Int x13)) ∧
 ((@Eq Int (@Go.IntKind.wrap Go.IntKind.i64 (Nat.cast (@BitVec.toNat (@Go.IntKind.bits Go.IntKind.i64) (@HAnd.hAnd (@BitVec (@Go.IntKind.bits Go.IntKind.i64)) (@BitVec (@Go.IntKind.bits Go.IntKind.i64)) (@BitVec (@Go.IntKind.bits Go.IntKind.i64)) _ (@BitVec.ofInt (@Go.IntKind.bits Go.IntKind.i64) (@List.getD Int (@Big2A.others x) (@Int.toNat (Nat.cast (@LeavesS.i x12) : Int)) (@Int.ofNat (0 : Nat)))) (@BitVec.ofInt (@Go.IntKind.bits Go.IntKind.i64) (31 : Int)))) : Int)) (@Prod.snd (@List Int) Int x13)) ∧
 (True ∧
 (∀ x14 : Unit,
 (True →
 (br (@Bool.not (@Decidable.decide (@Membership.mem Int (@List Int) _ (@Prod.fst (@List Int) Int x13) (@Prod.snd (@List Int) Int x13)) _))
 (((@Nat.le (@HMul.hMul _ _ _ _ (@List.length Int (@LeavesS.seen x12)) (8 : Nat)) room47) ∧
 (@Nat.le (@HMul.hMul _ _ _ _ (1 : Nat) (8 : Nat)) room47)) →
 (br (@Bool.and (@Bool.and (@Decidable.decide (@LE.le Nat _ (@HAdd.hAdd _ _ _ _ (0 : Nat) (1 : Nat)) (@List.length Int (@List.cons Int (@Go.IntKind.wrap Go.IntKind.i64 (Nat.cast (@BitVec.toNat (@Go.IntKind.bits Go.IntKind.i64) (@HAnd.hAnd (@BitVec (@Go.IntKind.bits Go.IntKind.i64)) (@BitVec (@Go.IntKind.bits Go.IntKind.i64)) (@BitVec (@Go.IntKind.bits Go.IntKind.i64)) _ (@BitVec.ofInt (@Go.IntKind.bits Go.IntKind.i64) (@List.getD Int (@Big2A.others x) (@Int.toNat (Nat.cast (@LeavesS.i x12) : Int)) (@Int.ofNat (0 : Nat)))) (@BitVec.ofInt (@Go.IntKind.bits Go.IntKind.i64) (31 : Int)))) : Int)) (@List.nil Int)))) _) (@Decidable.decide (@LE.le Nat _ (@HAdd.hAdd _ _ _ _ (0 : Nat) (@List.length Int (@LeavesS.seen x12))) (@List.length Int (@LeavesS.seen x12))) _)) (@Decidable.decide (@LE.le Nat _ (@HMul.hMul _ _ _ _ (@HAdd.hAdd _ _ _ _ (@List.length Int (@LeavesS.seen x12)) (@List.length Int (@List.take Int (1 : Nat) (@List.drop Int (0 : Nat) (@List.cons Int (@Go.IntKind.wrap Go.IntKind.i64 (Nat.cast (@BitVec.toNat (@Go.IntKind.bits Go.IntKind.i64) (@HAnd.hAnd (@BitVec (@Go.IntKind.bits Go.IntKind.i64)) (@BitVec (@Go.IntKind.bits Go.IntKind.i64)) (@BitVec (@Go.IntKind.bits Go.IntKind.i64)) _ (@BitVec.ofInt (@Go.IntKind.bits Go.IntKind.i64) (@List.getD Int (@Big2A.others x) (@Int.toNat (Nat.cast (@LeavesS.i x12) : Int)) (@Int.ofNat (0 : Nat)))) (@BitVec.ofInt (@Go.IntKind.bits Go.IntKind.i64) (31 : Int)))) : Int)) (@List.nil Int)))))) (8 : Nat)) room47) _))
 (∃ x15 : OpenA,
 ((@Eq Bs (@textOf (@List.take Int (3 : Nat) (@List.drop Int (0 : Nat) (@List.cons Int (120 : Int) (@List.cons Int (@Go.IntKind.wrap Go.IntKind.u8 (@Go.IntKind.wrap Go.IntKind.i64 (@HAdd.hAdd Int Int Int _ (97 : Int) (@Int.tmod (@Go.IntKind.wrap Go.IntKind.i64 (Nat.cast (@BitVec.toNat (@Go.IntKind.bits Go.IntKind.i64) (@HAnd.hAnd (@BitVec (@Go.IntKind.bits Go.IntKind.i64)) (@BitVec (@Go.IntKind.bits Go.IntKind.i64)) (@BitVec (@Go.IntKind.bits Go.IntKind.i64)) _ (@BitVec.ofInt (@Go.IntKind.bits Go.IntKind.i64) (@List.getD Int (@Big2A.others x) (@Int.toNat (Nat.cast (@LeavesS.i x12) : Int)) (@Int.ofNat (0 : Nat)))) (@BitVec.ofInt (@Go.IntKind.bits Go.IntKind.i64) (31 : Int)))) : Int)) (16 : Int))))) (@List.cons Int (@Go.IntKind.wrap Go.IntKind.u8 (@Go.IntKind.wrap Go.IntKind.i64 (@HAdd.hAdd Int Int Int _ (97 : Int) (@Go.IntKind.wrap Go.IntKind.i64 (@Int.tdiv (@Go.IntKind.wrap Go.IntKind.i64 (Nat.cast (@BitVec.toNat (@Go.IntKind.bits Go.IntKind.i64) (@HAnd.hAnd (@BitVec (@Go.IntKind.bits Go.IntKind.i64)) (@BitVec (@Go.IntKind.bits Go.IntKind.i64)) (@BitVec (@Go.IntKind.bits Go.IntKind.i64)) _ (@BitVec.ofInt (@Go.IntKind.bits Go.IntKind.i64) (@List.getD Int (@Big2A.others x) (@Int.toNat (Nat.cast (@LeavesS.i x12) : Int)) (@Int.ofNat (0 : Nat)))) (@BitVec.ofInt (@Go.IntKind.bits Go.IntKind.i64) (31 : Int)))) : Int)) (16 : Int)))))) (@List.nil Int))))))) (@OpenA.name x15)) ∧
 ((@Eq Int (@Go.IntKind.wrap Go.IntKind.i64 (Nat.cast (@BitVec.toNat (@Go.IntKind.bits Go.IntKind.i64) (@HAnd.hAnd (@BitVec (@Go.IntKind.bits Go.IntKind.i64)) (@BitVec (@Go.IntKind.bits Go.IntKind.i64)) (@BitVec (@Go.IntKind.bits Go.IntKind.i64)) _ (@BitVec.ofInt (@Go.IntKind.bits Go.IntKind.i64) (@List.getD Int (@Big2A.others x) (@Int.toNat (Nat.cast (@LeavesS.i x12) : Int)) (@Int.ofNat (0 : Nat)))) (@BitVec.ofInt (@Go.IntKind.bits Go.IntKind.i64) (31 : Int)))) : Int)) (@OpenA.id x15)) ∧
 ((@Eq Int (@OpenA.size x9) (@OpenA.size x15)) ∧
 ((@Eq Nat (0 : Nat) (0 : Nat)) ∧
 ((@Eq Nat (@List.length SessionD (@LeavesS.l x12)) (@List.length SessionD (@OpenA.l x15))) ∧
 ((@Eq (@List SessionD) (@LeavesS.l x12) (@OpenA.l x15)) ∧
 (((@Eq Bool (@Decidable.decide (@LT.lt Int _ (0 : Int) (@OpenA.size x15)) _) Bool.true) ∧
 (@Eq Bool (@Decidable.decide (@LE.le Nat _ (@List.length SessionD (@OpenA.l x15)) (1024 : Nat)) _) Bool.true)) ∧
 (∀ x16 : Unit,
 (True →
 (∃ x17 : LeavesS,
 ((@Eq Int (@Go.IntKind.wrap Go.IntKind.i64 (@HAdd.hAdd Int Int Int _ (Nat.cast (@LeavesS.i x12) : Int) (1 : Int))) (Nat.cast (@LeavesS.i x17) : Int)) ∧
 ((@Eq Int (@Go.IntKind.wrap Go.IntKind.i64 (@HAdd.hAdd Int Int Int _ (Nat.cast (@List.length Int (@LeavesS.seen x12)) : Int) (1 : Int))) (Nat.cast (@List.length Int (@LeavesS.seen x17)) : Int)) ∧
 ((@Eq Nat (0 : Nat) (0 : Nat)) ∧
 ((@Eq Nat (@HAdd.hAdd _ _ _ _ (@List.length Int (@LeavesS.seen x12)) (@List.length Int (@List.take Int (1 : Nat) (@List.drop Int (0 : Nat) (@List.cons Int (@Go.IntKind.wrap Go.IntKind.i64 (Nat.cast (@BitVec.toNat (@Go.IntKind.bits Go.IntKind.i64) (@HAnd.hAnd (@BitVec (@Go.IntKind.bits Go.IntKind.i64)) (@BitVec (@Go.IntKind.bits Go.IntKind.i64)) (@BitVec (@Go.IntKind.bits Go.IntKind.i64)) _ (@BitVec.ofInt (@Go.IntKind.bits Go.IntKind.i64) (@List.getD Int (@Big2A.others x) (@Int.toNat (Nat.cast (@LeavesS.i x12) : Int)) (@Int.ofNat (0 : Nat)))) (@BitVec.ofInt (@Go.IntKind.bits Go.IntKind.i64) (31 : Int)))) : Int)) (@List.nil Int)))))) (@List.length Int (@LeavesS.seen x17))) ∧
 ((@Eq Int (@OpenA.size x15) (@OpenA.size x9)) ∧
 ((@Eq Nat (0 : Nat) (0 : Nat)) ∧
 ((@Eq Nat (@List.length SessionD (@Prod.snd Int (@List SessionD) (@openL x15))) (@List.length SessionD (@LeavesS.l x17))) ∧
 ((@Eq (@List Int) (@HAppend.hAppend (@List Int) (@List Int) (@List Int) _ (@List.take Int (@List.length Int (@LeavesS.seen x12)) (@List.drop Int (0 : Nat) (@LeavesS.seen x12))) (@List.take Int (1 : Nat) (@List.drop Int (0 : Nat) (@List.cons Int (@Go.IntKind.wrap Go.IntKind.i64 (Nat.cast (@BitVec.toNat (@Go.IntKind.bits Go.IntKind.i64) (@HAnd.hAnd (@BitVec (@Go.IntKind.bits Go.IntKind.i64)) (@BitVec (@Go.IntKind.bits Go.IntKind.i64)) (@BitVec (@Go.IntKind.bits Go.IntKind.i64)) _ (@BitVec.ofInt (@Go.IntKind.bits Go.IntKind.i64) (@List.getD Int (@Big2A.others x) (@Int.toNat (Nat.cast (@LeavesS.i x12) : Int)) (@Int.ofNat (0 : Nat)))) (@BitVec.ofInt (@Go.IntKind.bits Go.IntKind.i64) (31 : Int)))) : Int)) (@List.nil Int))))) (@LeavesS.seen x17)) ∧
 ((@Eq (@List SessionD) (@Prod.snd Int (@List SessionD) (@openL x15)) (@LeavesS.l x17)) ∧
 (((@LE.le Nat _ (@LeavesS.i x17) (@List.length Int (@Big2A.others x))) ∧
 ((@LE.le Nat _ (@List.length Int (@LeavesS.seen x17)) (@LeavesS.i x17)) ∧
 (@LeaI (@OpenA.size x9) (@LeavesS.seen x17) (@LeavesS.l x17)))) ∧
 (@LT.lt Nat _ (@Nat.sub (@List.length Int (@Big2A.others x)) (@LeavesS.i x17)) (@Nat.sub (@List.length Int (@Big2A.others x)) (@LeavesS.i x12))))))))))))))))))))))))
 (Bad "check" "law.go:153")))
 (∃ x18 : OpenA,
 ((@Eq Bs (@textOf (@List.take Int (3 : Nat) (@List.drop Int (0 : Nat) (@List.cons Int (120 : Int) (@List.cons Int (@Go.IntKind.wrap Go.IntKind.u8 (@Go.IntKind.wrap Go.IntKind.i64 (@HAdd.hAdd Int Int Int _ (97 : Int) (@Int.tmod (@Go.IntKind.wrap Go.IntKind.i64 (Nat.cast (@BitVec.toNat (@Go.IntKind.bits Go.IntKind.i64) (@HAnd.hAnd (@BitVec (@Go.IntKind.bits Go.IntKind.i64)) (@BitVec (@Go.IntKind.bits Go.IntKind.i64)) (@BitVec (@Go.IntKind.bits Go.IntKind.i64)) _ (@BitVec.ofInt (@Go.IntKind.bits Go.IntKind.i64) (@List.getD Int (@Big2A.others x) (@Int.toNat (Nat.cast (@LeavesS.i x12) : Int)) (@Int.ofNat (0 : Nat)))) (@BitVec.ofInt (@Go.IntKind.bits Go.IntKind.i64) (31 : Int)))) : Int)) (16 : Int))))) (@List.cons Int (@Go.IntKind.wrap Go.IntKind.u8 (@Go.IntKind.wrap Go.IntKind.i64 (@HAdd.hAdd Int Int Int _ (97 : Int) (@Go.IntKind.wrap Go.IntKind.i64 (@Int.tdiv (@Go.IntKind.wrap Go.IntKind.i64 (Nat.cast (@BitVec.toNat (@Go.IntKind.bits Go.IntKind.i64) (@HAnd.hAnd (@BitVec (@Go.IntKind.bits Go.IntKind.i64)) (@BitVec (@Go.IntKind.bits Go.IntKind.i64)) (@BitVec (@Go.IntKind.bits Go.IntKind.i64)) _ (@BitVec.ofInt (@Go.IntKind.bits Go.IntKind.i64) (@List.getD Int (@Big2A.others x) (@Int.toNat (Nat.cast (@LeavesS.i x12) : Int)) (@Int.ofNat (0 : Nat)))) (@BitVec.ofInt (@Go.IntKind.bits Go.IntKind.i64) (31 : Int)))) : Int)) (16 : Int)))))) (@List.nil Int))))))) (@OpenA.name x18)) ∧
 ((@Eq Int (@Go.IntKind.wrap Go.IntKind.i64 (Nat.cast (@BitVec.toNat (@Go.IntKind.bits Go.IntKind.i64) (@HAnd.hAnd (@BitVec (@Go.IntKind.bits Go.IntKind.i64)) (@BitVec (@Go.IntKind.bits Go.IntKind.i64)) (@BitVec (@Go.IntKind.bits Go.IntKind.i64)) _ (@BitVec.ofInt (@Go.IntKind.bits Go.IntKind.i64) (@List.getD Int (@Big2A.others x) (@Int.toNat (Nat.cast (@LeavesS.i x12) : Int)) (@Int.ofNat (0 : Nat)))) (@BitVec.ofInt (@Go.IntKind.bits Go.IntKind.i64) (31 : Int)))) : Int)) (@OpenA.id x18)) ∧
 ((@Eq Int (@OpenA.size x9) (@OpenA.size x18)) ∧
 ((@Eq Nat (0 : Nat) (0 : Nat)) ∧
 ((@Eq Nat (@List.length SessionD (@LeavesS.l x12)) (@List.length SessionD (@OpenA.l x18))) ∧
 ((@Eq (@List SessionD) (@LeavesS.l x12) (@OpenA.l x18)) ∧
 (((@Eq Bool (@Decidable.decide (@LT.lt Int _ (0 : Int) (@OpenA.size x18)) _) Bool.true) ∧
 (@Eq Bool (@Decidable.decide (@LE.le Nat _ (@List.length SessionD (@OpenA.l x18)) (1024 : Nat)) _) Bool.true)) ∧
 (∀ x19 : Unit,
 (True →
 (∃ x20 : LeavesS,
 ((@Eq Int (@Go.IntKind.wrap Go.IntKind.i64 (@HAdd.hAdd Int Int Int _ (Nat.cast (@LeavesS.i x12) : Int) (1 : Int))) (Nat.cast (@LeavesS.i x20) : Int)) ∧
 ((@Eq Int (Nat.cast (@List.length Int (@LeavesS.seen x12)) : Int) (Nat.cast (@List.length Int (@LeavesS.seen x20)) : Int)) ∧
 ((@Eq Nat (0 : Nat) (0 : Nat)) ∧
 ((@Eq Nat (@List.length Int (@LeavesS.seen x12)) (@List.length Int (@LeavesS.seen x20))) ∧
 ((@Eq Int (@OpenA.size x18) (@OpenA.size x9)) ∧
 ((@Eq Nat (0 : Nat) (0 : Nat)) ∧
 ((@Eq Nat (@List.length SessionD (@Prod.snd Int (@List SessionD) (@openL x18))) (@List.length SessionD (@LeavesS.l x20))) ∧
 ((@Eq (@List Int) (@LeavesS.seen x12) (@LeavesS.seen x20)) ∧
 ((@Eq (@List SessionD) (@Prod.snd Int (@List SessionD) (@openL x18)) (@LeavesS.l x20)) ∧
 (((@LE.le Nat _ (@LeavesS.i x20) (@List.length Int (@Big2A.others x))) ∧
 ((@LE.le Nat _ (@List.length Int (@LeavesS.seen x20)) (@LeavesS.i x20)) ∧
 (@LeaI (@OpenA.size x9) (@LeavesS.seen x20) (@LeavesS.l x20)))) ∧
 (@LT.lt Nat _ (@Nat.sub (@List.length Int (@Big2A.others x)) (@LeavesS.i x20)) (@Nat.sub (@List.length Int (@Big2A.others x)) (@LeavesS.i x12))))))))))))))))))))))))))))))))
 (Bad "check" "law.go:151"))
 (∃ x21 : AskA,
 ((@Eq Int (@Neg.neg Int _ (1 : Int)) (@AskA.id x21)) ∧
 ((@Eq Int (1 : Int) (@AskA.seq x21)) ∧
 ((@Eq Int (@OpenA.size x9) (@AskA.size x21)) ∧
 ((@Eq Nat (0 : Nat) (0 : Nat)) ∧
 ((@Eq Nat (@List.length SessionD (@LeavesS.l x12)) (@List.length SessionD (@AskA.l x21))) ∧
 ((@Eq (@List SessionD) (@LeavesS.l x12) (@AskA.l x21)) ∧
 (((@Eq Bool (@Decidable.decide (@LT.lt Int _ (0 : Int) (@AskA.size x21)) _) Bool.true) ∧
 (@Eq Bool (@Decidable.decide (@LE.le Nat _ (@List.length SessionD (@AskA.l x21)) (1024 : Nat)) _) Bool.true)) ∧
 (∀ x22 : Unit,
 (True →
 (br (@Decidable.decide (@LT.lt Int _ (Nat.cast (@List.length Int (@LeavesS.seen x12)) : Int) (@Big2A.size x)) _)
 (@Eq Bool (@Bool.not (@Prod.snd VerdictD Bool (@Prod.fst (@Prod VerdictD Bool) (@List SessionD) (@askL x21)))) Bool.true)
 (br (@Bool.not (@Prod.snd VerdictD Bool (@Prod.fst (@Prod VerdictD Bool) (@List SessionD) (@askL x21))))
 (@Eq Bool Bool.false Bool.true)
 (br (@bne Int _ (@VerdictD.code (@Prod.fst VerdictD Bool (@Prod.fst (@Prod VerdictD Bool) (@List SessionD) (@askL x21)))) (6 : Int))
 (@Eq Bool Bool.false Bool.true)
 ((∃ x23 : Unit,
 False) ∧
 (∀ x24 : Unit,
 (False →
 (Bad "silent" "law.go:165"))))))))))))))))))))))))))))))))))))))))))))) := by kernel_rfl

end Go.Proofs.Ytnkhnogdiphboaa.Ses

/-! the plain law of SessionLeaves -/
namespace Go.Proofs.Ytnkhnogdiphboaa.Ses
open Go Go.Proofs Go.Proofs.Ytnkhnogdiphboaa.Sx

theorem idxF_mid {p : SessionD → Bool} {y : SessionD} {B : List SessionD} : ∀ {A : List SessionD}, (∀ x, x ∈ A → p x = false) → p y = true → idxF p (A ++ y :: B) = A.length
  | [], _, hy => by simp [idxF, hy]
  | a :: r, h, hy => by
    have h0 := h a (by simp)
    have := idxF_mid (A := r) (B := B) (fun x hx => h x (by simp [hx])) hy
    simp only [List.cons_append, idxF, h0, cond_false, this]
    have : ¬ ((r.length : Int) < 0) := by omega
    simp [this]
theorem idxF_none {p : SessionD → Bool} {l : List SessionD} (h : ∀ x, x ∈ l → p x = false) : idxF p l = -1 :=
  idxF_no fun j x hj => h x (List.mem_of_getElem? hj)
theorem outL_mid {A B : List SessionD} {y : SessionD} : outL (A ++ y :: B) (A.length : Int) = A ++ B := by
  simp [outL]
theorem atL_mid {A B : List SessionD} {y : SessionD} : atL (A ++ y :: B) (A.length : Int) = y := by
  simp [atL]
theorem usedL_mid {A B : List SessionD} {y : SessionD} : usedL (A ++ y :: B) (A.length : Int) = A ++ B ++ [y] := by
  simp [usedL, outL_mid, atL_mid]

theorem nmS_inj32 : ∀ a, a < 32 → ∀ b, b < 32 → nmS ((a : Nat) : Int) = nmS ((b : Nat) : Int) → a = b := by decide +kernel
theorem nmS_inj {n m : Int} (hn : 0 ≤ n ∧ n < 32) (hm : 0 ≤ m ∧ m < 32) (h : nmS n = nmS m) : n = m := by
  have := nmS_inj32 n.toNat (by omega) m.toNat (by omega) (by rw [Int.toNat_of_nonneg hn.1, Int.toNat_of_nonneg hm.1]; exact h)
  omega

theorem name_nS {n m : Int} (hn : 0 ≤ n ∧ n < 32) (hm : 0 ≤ m ∧ m < 32) : nameIs (nmS n) (nS m) = decide (m = n) := by
  unfold nameIs nS
  by_cases h : m = n
  · subst h; simp
  · simp only [h, decide_false, beq_eq_false_iff_ne, ne_eq]
    exact fun e => h (nmS_inj hm hn e)
theorem name_me (n : Int) : nameIs (nmS n) meS = false := by
  simp [nameIs, meS, nmS, textOf]

theorem split_of {R : List Int} {n : Int} (h : n ∈ R) : ∃ A B, R = A ++ n :: B ∧ n ∉ A := by
  induction R with
  | nil => cases h
  | cons a r ih =>
    by_cases e : n = a
    · subst e; exact ⟨[], r, rfl, by simp⟩
    · obtain ⟨A, B, rfl, hA⟩ := ih (by simpa [e] using h)
      exact ⟨a :: A, B, rfl, by simp [e, hA]⟩

theorem pre_no {pre : List SessionD} {n : Int} (hp : pre = [] ∨ pre = [meS]) : ∀ x, x ∈ pre → nameIs (nmS n) x = false := by
  intro x hx
  rcases hp with rfl | rfl
  · cases hx
  · simp at hx; subst hx; exact name_me n

/-- a number that has its session is used last -/
theorem open_hit {size n : Int} {pre : List SessionD} {R : List Int} (hp : pre = [] ∨ pre = [meS]) (hR : ∀ m, m ∈ R → 0 ≤ m ∧ m < 32) (hn : n ∈ R) :
    ∃ A B, R = A ++ n :: B ∧ (openL ⟨size, pre ++ R.map nS, nmS n, n⟩).2 = pre ++ (A ++ B ++ [n]).map nS := by
  obtain ⟨A, B, rfl, hA⟩ := split_of hn
  refine ⟨A, B, rfl, ?_⟩
  have e : pre ++ (A ++ n :: B).map nS = (pre ++ A.map nS) ++ nS n :: B.map nS := by simp
  have hi : idxF (nameIs (nmS n)) (pre ++ (A ++ n :: B).map nS) = ((pre ++ A.map nS).length : Nat) := by
    rw [e]
    refine idxF_mid (fun x hx => ?_) ?_
    · rcases List.mem_append.1 hx with hx | hx
      · exact pre_no hp x hx
      · obtain ⟨m, hm, rfl⟩ := List.mem_map.1 hx
        rw [name_nS (hR n (by simp)) (hR m (by simp [hm]))]
        simp
        intro e; subst e; exact hA hm
    · rw [name_nS (hR n (by simp)) (hR n (by simp))]; simp
  have hd : decide (((pre ++ A.map nS).length : Int) < 0) = false := by
    rw [decide_eq_false_iff_not]; omega
  unfold openL
  dsimp only
  rw [hi, hd, cond_false, e, usedL_mid]
  simp

/-- one that has none -/
theorem open_new {size n : Int} {pre : List SessionD} {R : List Int} (hp : pre = [] ∨ pre = [meS]) (hR : ∀ m, m ∈ R → 0 ≤ m ∧ m < 32) (h0 : 0 ≤ n ∧ n < 32) (hn : n ∉ R) :
    (openL ⟨size, pre ++ R.map nS, nmS n, n⟩).2 = (bif decide (((pre ++ R.map nS).length : Int) = size) then (pre ++ R.map nS).tail else pre ++ R.map nS) ++ [nS n] := by
  have hi : idxF (nameIs (nmS n)) (pre ++ R.map nS) = -1 := by
    refine idxF_none fun x hx => ?_
    rcases List.mem_append.1 hx with hx | hx
    · exact pre_no hp x hx
    · obtain ⟨m, hm, rfl⟩ := List.mem_map.1 hx
      rw [name_nS h0 (hR m hm)]
      simp
      intro e; subst e; exact hn hm
  have hj : idxF (idIs n) (pre ++ R.map nS) = -1 := by
    refine idxF_none fun x hx => ?_
    rcases List.mem_append.1 hx with hx | hx
    · rcases hp with rfl | rfl
      · cases hx
      · simp at hx; subst hx; simp [idIs, meS]; omega
    · obtain ⟨m, hm, rfl⟩ := List.mem_map.1 hx
      simp [idIs, nS]
      intro e; subst e; exact hn hm
  have ho : ∀ l : List SessionD, outL l 0 = l.tail := fun l => by simp [outL]
  simp only [openL, hi, hj, ho]
  rfl

theorem lea_step {size n : Int} {seen : List Int} {l : List SessionD} (hs : 0 < size) (h0 : 0 ≤ n ∧ n < 32) (h : LeaI size seen l) :
    (n ∈ seen → LeaI size seen (openL ⟨size, l, nmS n, n⟩).2) ∧ (n ∉ seen → LeaI size (seen ++ [n]) (openL ⟨size, l, nmS n, n⟩).2) := by
  obtain ⟨R, hnd, hR, h1, h2⟩ := h
  have nd : ∀ A B : List Int, (A ++ n :: B).Nodup → (A ++ B ++ [n]).Nodup := by
    intro A B hh
    refine (List.Perm.nodup_iff ?_).1 hh
    simp only [List.append_assoc]
    exact List.Perm.append_left A (List.perm_append_comm (l₁ := [n]) (l₂ := B))
  have hR2 : ∀ {R' : List Int}, (∀ m, m ∈ R' → m ∈ R ∨ m = n) → ∀ m, m ∈ R' → 0 ≤ m ∧ m < 32 := by
    intro R' hh m hm
    rcases hh m hm with h | rfl
    · exact hR m h
    · exact h0
  by_cases hlt : (seen.length : Int) < size
  · obtain ⟨rfl, hlen, hsub⟩ := h1 hlt
    by_cases hn : n ∈ R
    · obtain ⟨A, B, rfl, he⟩ := open_hit (size := size) (pre := [meS]) (.inr rfl) hR hn
      have he : (openL ⟨size, meS :: (A ++ n :: B).map nS, nmS n, n⟩).2 = meS :: (A ++ B ++ [n]).map nS := he
      have hm : ∀ m, m ∈ A ++ n :: B → m ∈ A ++ B ++ [n] := by
        intro m hm; simp at hm ⊢
        rcases hm with h | h | h <;> simp [h]
      have hm2 : ∀ m, m ∈ A ++ B ++ [n] → m ∈ A ++ n :: B ∨ m = n := by
        intro m hm; simp at hm ⊢
        rcases hm with h | h | h <;> simp [h]
      rw [he]
      refine ⟨fun hin => ⟨A ++ B ++ [n], nd A B hnd, hR2 hm2, fun _ => ⟨rfl, by simp at hlen ⊢; omega, fun m => ⟨fun h => (hsub m).1 ?_, fun h => hm m ((hsub m).2 h)⟩⟩, fun hc => absurd hlt hc⟩, fun hin => ?_⟩
      · rcases hm2 m h with h | rfl
        · exact h
        · simp
      exact absurd ((hsub n).1 (by simp)) hin
    · have he := open_new (size := size) (pre := [meS]) (.inr rfl) hR h0 hn
      have hns : n ∉ seen := fun h => hn ((hsub n).2 h)
      refine ⟨fun h => absurd h hns, fun _ => ?_⟩
      have he : (openL ⟨size, meS :: R.map nS, nmS n, n⟩).2 = _ := he
      rw [he]
      have ndn : (R ++ [n]).Nodup := by
        rw [List.nodup_append]
        refine ⟨hnd, by simp, fun a ha b hb => ?_⟩
        simp at hb; subst hb; intro e; subst e; exact hn ha
      by_cases hfull : (seen.length : Int) + 1 = size
      · have hd : decide (((([meS] : List SessionD) ++ R.map nS).length : Int) = size) = true := by simp [hlen]; omega
        rw [hd]
        refine ⟨R ++ [n], ndn, hR2 (by simp), fun hc => ?_, fun _ => ⟨by simp, by simp [hlen]; omega⟩⟩
        simp at hc; omega
      · have hd : decide (((([meS] : List SessionD) ++ R.map nS).length : Int) = size) = false := by simp [hlen]; omega
        rw [hd]
        refine ⟨R ++ [n], ndn, hR2 (by simp), fun _ => ⟨by simp, by simp [hlen], fun m => by simp [hsub m]⟩, fun hc => ?_⟩
        simp at hc; omega
  · obtain ⟨rfl, hlen⟩ := h2 hlt
    have hfin : ∃ R' : List Int, R'.Nodup ∧ (∀ m, m ∈ R' → 0 ≤ m ∧ m < 32) ∧ (openL ⟨size, R.map nS, nmS n, n⟩).2 = R'.map nS ∧ (R'.length : Int) = size := by
      by_cases hn : n ∈ R
      · obtain ⟨A, B, rfl, he⟩ := open_hit (size := size) (pre := []) (.inl rfl) hR hn
        have he : (openL ⟨size, (A ++ n :: B).map nS, nmS n, n⟩).2 = (A ++ B ++ [n]).map nS := he
        refine ⟨A ++ B ++ [n], nd A B hnd, hR2 (fun m hm => ?_), he, by simp at hlen ⊢; omega⟩
        simp at hm ⊢
        rcases hm with h | h | h <;> simp [h]
      · have he := open_new (size := size) (pre := []) (.inl rfl) hR h0 hn
        have he : (openL ⟨size, R.map nS, nmS n, n⟩).2 = (bif decide (((R.map nS).length : Int) = size) then (R.map nS).tail else R.map nS) ++ [nS n] := he
        have hd : decide (((R.map nS).length : Int) = size) = true := by simp [hlen]
        rw [hd] at he
        cases R with
        | nil => simp at hlen; omega
        | cons r R2 =>
          refine ⟨R2 ++ [n], ?_, hR2 (fun m hm => ?_), by simpa using he, by simp at hlen ⊢; omega⟩
          · rw [List.nodup_append]
            refine ⟨(List.nodup_cons.1 hnd).2, by simp, fun a ha b hb => ?_⟩
            simp at hb; subst hb; intro e; subst e; exact hn (by simp [ha])
          · simp at hm ⊢
            rcases hm with h | h <;> simp [h]
    obtain ⟨R', a, b, c, d⟩ := hfin
    rw [c]
    refine ⟨fun _ => ⟨R', a, b, fun hc => absurd hc hlt, fun _ => ⟨rfl, d⟩⟩, fun _ => ⟨R', a, b, fun hc => ?_, fun _ => ⟨rfl, d⟩⟩⟩
    simp at hc; omega

theorem lea_len {size : Int} {seen : List Int} {l : List SessionD} (h : LeaI size seen l) : (l.length : Int) ≤ size := by
  obtain ⟨R, hnd, hR, h1, h2⟩ := h
  by_cases hlt : (seen.length : Int) < size
  · obtain ⟨rfl, hlen, _⟩ := h1 hlt
    simp [hlen]; omega
  · obtain ⟨rfl, hlen⟩ := h2 hlt
    simp [hlen]

theorem lea_in {size : Int} {seen : List Int} {l : List SessionD} (h : LeaI size seen l) (hlt : (seen.length : Int) < size) : askL ⟨size, l, -1, 1⟩ = ((vd 0, false), usedL l 0) := by
  obtain ⟨R, hnd, hR, h1, h2⟩ := h
  obtain ⟨rfl, hlen, _⟩ := h1 hlt
  have : idxF (idIs (-1)) (meS :: R.map nS) = 0 := by simp [idxF, idIs, meS]
  unfold askL
  dsimp only
  rw [this]
  simp [atL, meS]

theorem lea_out {size : Int} {seen : List Int} {l : List SessionD} (h : LeaI size seen l) (hlt : ¬ (seen.length : Int) < size) : idxF (idIs (-1)) l = -1 := by
  obtain ⟨R, hnd, hR, h1, h2⟩ := h
  obtain ⟨rfl, hlen⟩ := h2 hlt
  refine idxF_none fun x hx => ?_
  obtain ⟨m, hm, rfl⟩ := List.mem_map.1 hx
  have := hR m hm
  simp [idIs, nS]
  omega

theorem ask_out {size seq : Int} {l : List SessionD} (h : idxF (idIs (-1)) l = -1) : askL ⟨size, l, -1, seq⟩ = ((vd 6, true), l) := by
  simp [askL, h]
theorem done_out {size seq : Int} {l : List SessionD} {v : VerdictD} (h : idxF (idIs (-1)) l = -1) : doneL ⟨size, l, -1, seq, v⟩ = (false, l) := by
  simp [doneL, h]

theorem and31 (a : Int) : IntKind.i64.wrap ((BitVec.ofInt IntKind.i64.bits a &&& BitVec.ofInt IntKind.i64.bits 31).toNat : Int) = ((BitVec.ofInt 64 a).toNat &&& 31 : Nat) ∧ ((BitVec.ofInt 64 a).toNat &&& 31) < 32 := by
  have h : (BitVec.ofInt IntKind.i64.bits a &&& BitVec.ofInt IntKind.i64.bits 31).toNat = ((BitVec.ofInt 64 a).toNat &&& 31) := by
    rw [BitVec.toNat_and]
    rfl
  have h2 : ((BitVec.ofInt 64 a).toNat &&& 31) ≤ 31 := Nat.and_le_right
  refine ⟨?_, by omega⟩
  rw [h]
  exact wrap_id (by omega) (by omega)

theorem open_first {size : Int} (h : 0 < size) : (openL ⟨size, [], [109, 101], -1⟩).2 = [meS] := by
  have : ¬ (0 = size) := by omega
  simp [openL, idxF, this, meS]
theorem lea_first {size : Int} (h : 0 < size) : LeaI size [] [meS] :=
  ⟨[], by simp, by simp, fun _ => ⟨rfl, rfl, by simp⟩, fun hc => absurd h (by simpa using hc)⟩
end Go.Proofs.Ytnkhnogdiphboaa.Ses

namespace Go.Proofs.Ytnkhnogdiphboaa.Ses
open Go Go.Proofs Go.Proofs.Ytnkhnogdiphboaa.Sx

theorem awake_ok : SpecOK Try.prog 10 awakeT.spec := by
  refine Tri.ok (E := nofE) (bare_ok _ _ (by decide +kernel)) (n := 1000) awakeT fun x hx => ?_
  rw [awake_vc]
  exact ⟨(), rfl, trivial⟩

theorem leaves_body (x : LeavesA) : evCall leavesE (ev leavesE 1000) 4 (leavesArgs x) ⟨[], 0, []⟩ (fun _ _ => False) (fun v _ => TrueV v) := by
  rw [leaves_vc]
  simp only [br_bad, decide_eq_true_eq, Bool.and_eq_true, List.take_zero, List.nil_append, List.drop_zero, Nat.zero_add, Int.toNat_natCast, Nat.sub_eq, true_and, and_true, exists_const, List.length_nil, Nat.zero_le, Nat.zero_mul, Nat.le_refl, List.length_set, List.take_length, Int.natCast_nonneg, forall_const, implies_true, Int.toNat_zero, Nat.le_eq, Int.le_refl, addN, cutN, loN, hiN, bndB, Option.getD, List.length_cons, List.take_succ_cons, List.length_take, List.length_drop, Option.isNone, Nat.add_zero, Nat.min_self]
  simp only [br_iff, decide_eq_true_eq, decide_eq_false_iff_not, room47, Bool.not_eq_true', Bool.not_eq_false', gt_iff_lt]
  obtain ⟨size, others, asks⟩ := x
  dsimp only
  intro b1
  refine ⟨fun _ => trivial, fun g1 b2 => ⟨fun _ => trivial, fun g2 => ⟨fun _ => trivial, fun g3 => ⟨fun _ => trivial, fun g4 => ?_⟩⟩⟩⟩
  refine ⟨⟨size, [], [109, 101], -1⟩, rfl, rfl, rfl, rfl, rfl, ⟨by dsimp only; omega, by simp⟩, ⟨⟨0, [], [meS]⟩, rfl, rfl, rfl, ?_, rfl, ?_, by simp, by simp, ?_⟩, ?_⟩
  · rw [open_first (by omega)]
  · exact open_first (by omega)
  · exact lea_first (size := size) (by omega)
  rintro ⟨i, seen, l⟩ ⟨h1, h2, hI⟩ _
  dsimp only at h1 h2 hI ⊢
  have hlen := lea_len hI
  refine ⟨fun h3 => ⟨h3, ?_⟩, fun h3 => ?_⟩
  · obtain ⟨hw, hw2⟩ := and31 (others.getD i (Int.ofNat 0))
    rw [hw]
    generalize ((BitVec.ofInt 64 (others.getD i (Int.ofNat 0))).toNat &&& 31) = k at hw2
    clear hw
    have hstep := lea_step (n := (k : Int)) (by omega) (by omega) hI
    refine ⟨(seen, (k : Int)), rfl, rfl, fun hn h4 => ⟨by omega, ⟨size, l, nmS k, k⟩, rfl, rfl, rfl, rfl, rfl, ⟨by dsimp only; omega, by dsimp only; omega⟩, ⟨i + 1, seen ++ [(k : Int)], _⟩, ?_, ?_, by simp, rfl, rfl, rfl, rfl, ⟨by dsimp only; omega, by simp; omega, hstep.2 hn⟩, by dsimp only; omega⟩, fun hn => ?_⟩
    · rw [wrap_id (by omega) (by omega)]; rfl
    · rw [wrap_id (by omega) (by omega)]; simp
    · refine ⟨⟨size, l, nmS k, k⟩, rfl, rfl, rfl, rfl, rfl, ⟨by dsimp only; omega, by dsimp only; omega⟩, ⟨i + 1, seen, _⟩, ?_, rfl, rfl, rfl, rfl, rfl, rfl, ⟨by dsimp only; omega, by dsimp only; omega, hstep.1 hn⟩, by dsimp only; omega⟩
      rw [wrap_id (by omega) (by omega)]; rfl
  · refine ⟨⟨size, l, -1, 1⟩, rfl, rfl, rfl, rfl, rfl, ⟨by dsimp only; omega, by dsimp only; omega⟩, fun h4 => ?_, fun h4 => ?_⟩
    · rw [lea_in hI h4]
    · have ho := lea_out hI h4
      rw [ask_out ho]
      refine ⟨fun h => absurd h (by simp), fun _ => ⟨fun h => absurd h (by simp [vd]), fun _ => ⟨⟨0, rfl, by omega⟩, fun j hj _ => ⟨fun h5 => ⟨h5, ?_⟩, fun _ => trivial⟩⟩⟩⟩
      refine ⟨⟨size, l, -1, asks.getD j (Int.ofNat 0)⟩, rfl, rfl, rfl, rfl, rfl, ⟨by dsimp only; omega, by dsimp only; omega⟩, ?_⟩
      rw [ask_out ho]
      refine ⟨fun h => absurd h (by simp), fun _ => ⟨fun h => absurd h (by simp [vd]), fun _ => ⟨h5, ⟨size, l, -1, asks.getD j (Int.ofNat 0), vd 6⟩, rfl, rfl, rfl, rfl, rfl, rfl, rfl, rfl, rfl, rfl, rfl, rfl, by dsimp only; omega, ?_⟩⟩⟩
      rw [done_out ho]
      refine ⟨fun h => absurd h (by simp), fun _ => ⟨j + 1, ?_, rfl, rfl, rfl, by omega, by omega⟩⟩
      rw [wrap_id (by omega) (by omega)]; rfl

theorem big1_body (x : BigA) (h : 100 < x.n) : evCall leavesE (ev leavesE 1000) 4 (bigArgs1 x) ⟨[], 1, []⟩ (fun _ _ => False) (fun v _ => TrueV v) := by
  rw [big1_vc]
  have h' : decide ((100 : Int) < (x.n : Int)) = true := by simp; omega
  refine ⟨(), trivial, fun _ _ => ?_⟩
  exact br_t h' rfl
theorem big2_body (x : Big2A) (h : 100 < x.n) : evCall leavesE (ev leavesE 1000) 4 (bigArgs2 x) ⟨[], 1, []⟩ (fun _ _ => False) (fun v _ => TrueV v) := by
  rw [big2_vc]
  have h' : decide ((100 : Int) < (x.n : Int)) = true := by simp; omega
  refine ⟨(), trivial, fun _ _ _ => br_i (fun _ => rfl) (fun _ => ?_)⟩
  exact br_t h' rfl

theorem lea_env : EnvOK leavesE := Env_ok (by decide +kernel) (by simp [awake_ok, open_ok, ask_ok, done_ok, has_ok])
end Go.Proofs.Ytnkhnogdiphboaa.Ses
