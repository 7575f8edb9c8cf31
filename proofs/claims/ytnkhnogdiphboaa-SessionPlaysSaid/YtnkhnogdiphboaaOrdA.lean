/- SessionOrder: what the evaluator leaves of it, and that it holds. No condition. -/
import Derived.Test.YtnkhnogdiphboaaOneA
import Derived.KernelRfl
set_option linter.unusedSimpArgs false
set_option linter.unusedVariables false

namespace Go.Proofs.Ytnkhnogdiphboaa.Ses
open Go Go.Proofs Go.Proofs.Ytnkhnogdiphboaa.Sx

structure OrdS where
  i : Nat
  o : List Int
  l : List SessionD

def nmO (n : Int) : Bs := textOf [110, IntKind.u8.wrap (IntKind.i64.wrap (97 + n))]

/-- the sessions stand in the order; each was opened at its place -/
def OrdI (i : Nat) (o : List Int) (l : List SessionD) : Prop :=
  o = l.map (·.id) ∧ o.Nodup ∧ o.length ≤ i ∧ ∀ x, x ∈ l → ∃ k : Nat, k < i ∧ x.id = 100 + (k : Int) ∧ x.name = nmO (k : Int)

def notOf (u : Int) (o : List Int) : List Int := o.filter fun n => n != u

noncomputable def ordI1 : St → LInv := fun s => match getE s.env 0, getE s.env 3 with
  | .rslice _ .deed6 l, .mptr n _ => match s.m.blks.get n with
    | some (.cells [.int _ size, x]) =>
      { σ := OrdS, I := fun x => x.i ≤ l.length ∧ x.i ≤ 16 ∧ OrdI x.i x.o x.l, μ := fun x => l.length - x.i,
        env := fun x => [(6, .int .i64 x.i), (5, .mslice .int (s.m.next + 1) 0 x.o.length)],
        blk := fun x => [(n, .cells [.int .i64 size, .mslice .session s.m.next 0 x.l.length]), (s.m.next, .rows .session x.l), (s.m.next + 1, .rows .int x.o)], fresh := 2, drop := dropOf x }
    | _ => LInv.none
  | _, _ => LInv.none

noncomputable def ordI2 : St → LInv := fun s => match getE s.env 5, getE s.env 8 with
  | .mslice _ a _ _, .int _ u => match s.m.blks.get a with
    | some (.rows .int o) =>
      { σ := Nat, I := fun k => k ≤ o.length, μ := fun k => o.length - k, env := fun k => [(10, .int .i64 k), (9, .mslice .int s.m.next 0 (notOf u (o.take k)).length)],
        blk := fun k => [(s.m.next, .rows .int (notOf u (o.take k)))], fresh := 1, drop := [] }
    | _ => LInv.none
  | _, _ => LInv.none

noncomputable def ordI3 : St → LInv := fun s => match getE s.env 11 with
  | .mslice _ a _ _ => match s.m.blks.get a with
    | some (.rows .session l) => { σ := Nat, I := fun k => k ≤ l.length, μ := fun k => l.length - k, env := fun k => [(12, .int .i64 k)], blk := fun _ => [], fresh := 0, drop := [] }
    | _ => LInv.none
  | _ => LInv.none

def ordArgs (l : List Deed6D) : List SV := [.rslice false .deed6 l]
noncomputable def ordE : Envr := Env Try.prog cod [(10, awakeT.spec), (16, roomT.spec), (12, openT.spec), (13, askT.spec), (15, doneT.spec), (17, allT.spec), (25, findT.spec)] [(10, ordI1), (25, ordI2), (34, ordI3)]
abbrev OrdA := List Deed6D
end Go.Proofs.Ytnkhnogdiphboaa.Ses

namespace Go.Proofs.Ytnkhnogdiphboaa.Ses
open Go Go.Proofs Go.Proofs.Ytnkhnogdiphboaa.Sx
set_option maxRecDepth 100000

theorem ord_vc (x : OrdA) : evCall ordE (ev ordE 1000) 8 (ordArgs x) ⟨[], 0, []⟩ (fun _ _ => False) (fun v _ => TrueV v) = (
(∃ x1 : Unit,
 (True ∧
 (∀ x2 : Unit,
 (True →
 (∃ x3 : (@List Go.Proofs.Ytnkhnogdiphboaa.Sx.Deed6D),
 ((@Eq (@List Go.Proofs.Ytnkhnogdiphboaa.Sx.Deed6D) x x3) ∧
 (True ∧
 (∀ x4 : Bool,
 (True →
 (br (@Bool.not x4)
 (@Eq Bool Bool.true Bool.true)
 ((∃ x5 : Go.Proofs.Ytnkhnogdiphboaa.Ses.OrdS,
 ((@Eq Int (0 : Int) (Nat.cast (@Go.Proofs.Ytnkhnogdiphboaa.Ses.OrdS.i x5) : Int)) ∧
 ((@Eq Nat (0 : Nat) (@List.length Int (@Go.Proofs.Ytnkhnogdiphboaa.Ses.OrdS.o x5))) ∧
 ((@Eq Int (16 : Int) (16 : Int)) ∧
 ((@Eq Nat (0 : Nat) (@List.length Go.Proofs.Ytnkhnogdiphboaa.Sx.SessionD (@Go.Proofs.Ytnkhnogdiphboaa.Ses.OrdS.l x5))) ∧
 ((@Eq (@List Go.Proofs.Ytnkhnogdiphboaa.Sx.SessionD) (@List.nil Go.Proofs.Ytnkhnogdiphboaa.Sx.SessionD) (@Go.Proofs.Ytnkhnogdiphboaa.Ses.OrdS.l x5)) ∧
 ((@Eq (@List Int) (@List.nil Int) (@Go.Proofs.Ytnkhnogdiphboaa.Ses.OrdS.o x5)) ∧
 ((@LE.le Nat _ (@Go.Proofs.Ytnkhnogdiphboaa.Ses.OrdS.i x5) (@List.length Go.Proofs.Ytnkhnogdiphboaa.Sx.Deed6D x)) ∧
 ((@LE.le Nat _ (@Go.Proofs.Ytnkhnogdiphboaa.Ses.OrdS.i x5) (16 : Nat)) ∧
 (@Go.Proofs.Ytnkhnogdiphboaa.Ses.OrdI (@Go.Proofs.Ytnkhnogdiphboaa.Ses.OrdS.i x5) (@Go.Proofs.Ytnkhnogdiphboaa.Ses.OrdS.o x5) (@Go.Proofs.Ytnkhnogdiphboaa.Ses.OrdS.l x5))))))))))) ∧
 (∀ x6 : Go.Proofs.Ytnkhnogdiphboaa.Ses.OrdS,
 (((@LE.le Nat _ (@Go.Proofs.Ytnkhnogdiphboaa.Ses.OrdS.i x6) (@List.length Go.Proofs.Ytnkhnogdiphboaa.Sx.Deed6D x)) ∧
 ((@LE.le Nat _ (@Go.Proofs.Ytnkhnogdiphboaa.Ses.OrdS.i x6) (16 : Nat)) ∧
 (@Go.Proofs.Ytnkhnogdiphboaa.Ses.OrdI (@Go.Proofs.Ytnkhnogdiphboaa.Ses.OrdS.i x6) (@Go.Proofs.Ytnkhnogdiphboaa.Ses.OrdS.o x6) (@Go.Proofs.Ytnkhnogdiphboaa.Ses.OrdS.l x6)))) →
 ((@LE.le Nat _ (@HMul.hMul Nat Nat Nat _ (@List.length Go.Proofs.Ytnkhnogdiphboaa.Sx.Deed6D x) (120 : Nat)) Go.Proofs.Ytnkhnogdiphboaa.Sx.room47) →
 (br (@Decidable.decide (@LT.lt Int _ (Nat.cast (@Go.Proofs.Ytnkhnogdiphboaa.Ses.OrdS.i x6) : Int) (Nat.cast (@List.length Go.Proofs.Ytnkhnogdiphboaa.Sx.Deed6D x) : Int)) _)
 (br (@Decidable.decide (@LT.lt Int _ (Nat.cast (@Go.Proofs.Ytnkhnogdiphboaa.Ses.OrdS.i x6) : Int) (16 : Int)) _)
 (br (@Decidable.decide ((@LE.le Int _ (0 : Int) (Nat.cast (@Go.Proofs.Ytnkhnogdiphboaa.Ses.OrdS.i x6) : Int)) ∧
 (@LT.lt Int _ (Nat.cast (@Go.Proofs.Ytnkhnogdiphboaa.Ses.OrdS.i x6) : Int) (Nat.cast (@List.length Go.Proofs.Ytnkhnogdiphboaa.Sx.Deed6D x) : Int))) _)
 (br (@Decidable.decide (@LE.le Int _ (@Go.Proofs.Ytnkhnogdiphboaa.Sx.Deed6D.dof (@List.getD Go.Proofs.Ytnkhnogdiphboaa.Sx.Deed6D x (@Int.toNat (Nat.cast (@Go.Proofs.Ytnkhnogdiphboaa.Ses.OrdS.i x6) : Int)) (@Go.Proofs.Ytnkhnogdiphboaa.Sx.Deed6D.mk (0 : Int) (0 : Int) (0 : Int) (@List.nil UInt8) Go.Proofs.Ytnkhnogdiphboaa.Sx.VerdictD.dflt))) (1 : Int)) _)
 (∃ x7 : Go.Proofs.Ytnkhnogdiphboaa.Ses.OpenA,
 ((@Eq Go.Proofs.Ytnkhnogdiphboaa.Sx.Bs (@Go.Proofs.Ytnkhnogdiphboaa.Sx.textOf (@List.take Int (2 : Nat) (@List.drop Int (0 : Nat) (@List.cons Int (110 : Int) (@List.cons Int (@Go.IntKind.wrap Go.IntKind.u8 (@Go.IntKind.wrap Go.IntKind.i64 (@HAdd.hAdd Int Int Int _ (97 : Int) (Nat.cast (@Go.Proofs.Ytnkhnogdiphboaa.Ses.OrdS.i x6) : Int)))) (@List.nil Int)))))) (@Go.Proofs.Ytnkhnogdiphboaa.Ses.OpenA.name x7)) ∧
 ((@Eq Int (@Go.IntKind.wrap Go.IntKind.i64 (@HAdd.hAdd Int Int Int _ (100 : Int) (Nat.cast (@Go.Proofs.Ytnkhnogdiphboaa.Ses.OrdS.i x6) : Int))) (@Go.Proofs.Ytnkhnogdiphboaa.Ses.OpenA.id x7)) ∧
 ((@Eq Int (16 : Int) (@Go.Proofs.Ytnkhnogdiphboaa.Ses.OpenA.size x7)) ∧
 ((@Eq Nat (0 : Nat) (0 : Nat)) ∧
 ((@Eq Nat (@List.length Go.Proofs.Ytnkhnogdiphboaa.Sx.SessionD (@Go.Proofs.Ytnkhnogdiphboaa.Ses.OrdS.l x6)) (@List.length Go.Proofs.Ytnkhnogdiphboaa.Sx.SessionD (@Go.Proofs.Ytnkhnogdiphboaa.Ses.OpenA.l x7))) ∧
 ((@Eq (@List Go.Proofs.Ytnkhnogdiphboaa.Sx.SessionD) (@Go.Proofs.Ytnkhnogdiphboaa.Ses.OrdS.l x6) (@Go.Proofs.Ytnkhnogdiphboaa.Ses.OpenA.l x7)) ∧
 (((@Eq Bool (@Decidable.decide (@LT.lt Int _ (0 : Int) (@Go.Proofs.Ytnkhnogdiphboaa.Ses.OpenA.size x7)) _) Bool.true) ∧
 (@Eq Bool (@Decidable.decide (@LE.le Nat _ (@List.length Go.Proofs.Ytnkhnogdiphboaa.Sx.SessionD (@Go.Proofs.Ytnkhnogdiphboaa.Ses.OpenA.l x7)) (1024 : Nat)) _) Bool.true)) ∧
 (∀ x8 : Unit,
 (True →
 (br (@Decidable.decide (@GE.ge Int _ (@Prod.fst Int (@List Go.Proofs.Ytnkhnogdiphboaa.Sx.SessionD) (@Go.Proofs.Ytnkhnogdiphboaa.Ses.openL x7)) (0 : Int)) _)
 ((∃ x9 : Nat,
 ((@Eq Int (0 : Int) (Nat.cast x9 : Int)) ∧
 ((@Eq Nat (0 : Nat) (@List.length Int (@Go.Proofs.Ytnkhnogdiphboaa.Ses.notOf (@Prod.fst Int (@List Go.Proofs.Ytnkhnogdiphboaa.Sx.SessionD) (@Go.Proofs.Ytnkhnogdiphboaa.Ses.openL x7)) (@List.take Int x9 (@Go.Proofs.Ytnkhnogdiphboaa.Ses.OrdS.o x6))))) ∧
 ((@Eq (@List Int) (@List.nil Int) (@Go.Proofs.Ytnkhnogdiphboaa.Ses.notOf (@Prod.fst Int (@List Go.Proofs.Ytnkhnogdiphboaa.Sx.SessionD) (@Go.Proofs.Ytnkhnogdiphboaa.Ses.openL x7)) (@List.take Int x9 (@Go.Proofs.Ytnkhnogdiphboaa.Ses.OrdS.o x6)))) ∧
 (@Nat.le x9 (@List.length Int (@Go.Proofs.Ytnkhnogdiphboaa.Ses.OrdS.o x6))))))) ∧
 (∀ x10 : Nat,
 ((@Nat.le x10 (@List.length Int (@Go.Proofs.Ytnkhnogdiphboaa.Ses.OrdS.o x6))) →
 ((@LE.le Nat _ (@HMul.hMul Nat Nat Nat _ (@List.length Int (@Go.Proofs.Ytnkhnogdiphboaa.Ses.OrdS.o x6)) (8 : Nat)) Go.Proofs.Ytnkhnogdiphboaa.Sx.room47) →
 (br (@Decidable.decide (@LT.lt Int _ (Nat.cast x10 : Int) (Nat.cast (@List.length Int (@Go.Proofs.Ytnkhnogdiphboaa.Ses.OrdS.o x6)) : Int)) _)
 (br (@Decidable.decide ((@LE.le Int _ (0 : Int) (Nat.cast x10 : Int)) ∧
 (@LT.lt Int _ (Nat.cast x10 : Int) (Nat.cast (@List.length Int (@Go.Proofs.Ytnkhnogdiphboaa.Ses.OrdS.o x6)) : Int))) _)
 (br (@Decidable.decide (@LT.lt Nat _ (@HAdd.hAdd Nat Nat Nat _ (0 : Nat) (@Int.toNat (Nat.cast x10 : Int))) (@List.length Int (@Go.Proofs.Ytnkhnogdiphboaa.Ses.OrdS.o x6))) _)
 (br (@bne Int _ (@List.getD Int (@Go.Proofs.Ytnkhnogdiphboaa.Ses.OrdS.o x6) (@HAdd.hAdd Nat Nat Nat _ (0 : Nat) (@Int.toNat (Nat.cast x10 : Int))) (@Int.ofNat (0 : Nat))) (@Prod.fst Int (@List Go.Proofs.Ytnkhnogdiphboaa.Sx.SessionD) (@Go.Proofs.Ytnkhnogdiphboaa.Ses.openL x7)))
 (br (@Decidable.decide ((@LE.le Int _ (0 : Int) (Nat.cast x10 : Int)) ∧
 (@LT.lt Int _ (Nat.cast x10 : Int) (Nat.cast (@List.length Int (@Go.Proofs.Ytnkhnogdiphboaa.Ses.OrdS.o x6)) : Int))) _)
 (br (@Decidable.decide (@LT.lt Nat _ (@HAdd.hAdd Nat Nat Nat _ (0 : Nat) (@Int.toNat (Nat.cast x10 : Int))) (@List.length Int (@Go.Proofs.Ytnkhnogdiphboaa.Ses.OrdS.o x6))) _)
 (((@Nat.le (@HMul.hMul Nat Nat Nat _ (@List.length Int (@Go.Proofs.Ytnkhnogdiphboaa.Ses.notOf (@Prod.fst Int (@List Go.Proofs.Ytnkhnogdiphboaa.Sx.SessionD) (@Go.Proofs.Ytnkhnogdiphboaa.Ses.openL x7)) (@List.take Int x10 (@Go.Proofs.Ytnkhnogdiphboaa.Ses.OrdS.o x6)))) (8 : Nat)) Go.Proofs.Ytnkhnogdiphboaa.Sx.room47) ∧
 (@Nat.le (@HMul.hMul Nat Nat Nat _ (1 : Nat) (8 : Nat)) Go.Proofs.Ytnkhnogdiphboaa.Sx.room47)) →
 (br (@Bool.and (@Bool.and (@Decidable.decide (@LE.le Nat _ (@HAdd.hAdd Nat Nat Nat _ (0 : Nat) (1 : Nat)) (@List.length Int (@List.cons Int (@List.getD Int (@Go.Proofs.Ytnkhnogdiphboaa.Ses.OrdS.o x6) (@HAdd.hAdd Nat Nat Nat _ (0 : Nat) (@Int.toNat (Nat.cast x10 : Int))) (@Int.ofNat (0 : Nat))) (@List.nil Int)))) _) (@Decidable.decide (@LE.le Nat _ (@HAdd.hAdd Nat Nat Nat _ (0 : Nat) (@List.length Int (@Go.Proofs.Ytnkhnogdiphboaa.Ses.notOf (@Prod.fst Int (@List Go.Proofs.Ytnkhnogdiphboaa.Sx.SessionD) (@Go.Proofs.Ytnkhnogdiphboaa.Ses.openL x7)) (@List.take Int x10 (@Go.Proofs.Ytnkhnogdiphboaa.Ses.OrdS.o x6))))) (@List.length Int (@Go.Proofs.Ytnkhnogdiphboaa.Ses.notOf (@Prod.fst Int (@List Go.Proofs.Ytnkhnogdiphboaa.Sx.SessionD) (@Go.Proofs.Ytnkhnogdiphboaa.Ses.openL x7)) (@List.take Int x10 (@Go.Proofs.Ytnkhnogdiphboaa.Ses.OrdS.o x6))))) _)) (@Decidable.decide (@LE.le Nat _ (@HMul.hMul Nat Nat Nat _ (@HAdd.hAdd Nat Nat Nat _ (@List.length Int (@Go.Proofs.Ytnkhnogdiphboaa.Ses.notOf (@Prod.fst Int (@List Go.Proofs.Ytnkhnogdiphboaa.Sx.SessionD) (@Go.Proofs.Ytnkhnogdiphboaa.Ses.openL x7)) (@List.take Int x10 (@Go.Proofs.Ytnkhnogdiphboaa.Ses.OrdS.o x6)))) (@List.length Int (@List.take Int (1 : Nat) (@List.drop Int (0 : Nat) (@List.cons Int (@List.getD Int (@Go.Proofs.Ytnkhnogdiphboaa.Ses.OrdS.o x6) (@HAdd.hAdd Nat Nat Nat _ (0 : Nat) (@Int.toNat (Nat.cast x10 : Int))) (@Int.ofNat (0 : Nat))) (@List.nil Int)))))) (8 : Nat)) Go.Proofs.Ytnkhnogdiphboaa.Sx.room47) _))
 (∃ x11 : Nat,
 ((@Eq Int (@Go.IntKind.wrap Go.IntKind.i64 (@HAdd.hAdd Int Int Int _ (Nat.cast x10 : Int) (1 : Int))) (Nat.cast x11 : Int)) ∧
 ((@Eq Nat (0 : Nat) (0 : Nat)) ∧
 ((@Eq Nat (@HAdd.hAdd Nat Nat Nat _ (@List.length Int (@Go.Proofs.Ytnkhnogdiphboaa.Ses.notOf (@Prod.fst Int (@List Go.Proofs.Ytnkhnogdiphboaa.Sx.SessionD) (@Go.Proofs.Ytnkhnogdiphboaa.Ses.openL x7)) (@List.take Int x10 (@Go.Proofs.Ytnkhnogdiphboaa.Ses.OrdS.o x6)))) (@List.length Int (@List.take Int (1 : Nat) (@List.drop Int (0 : Nat) (@List.cons Int (@List.getD Int (@Go.Proofs.Ytnkhnogdiphboaa.Ses.OrdS.o x6) (@HAdd.hAdd Nat Nat Nat _ (0 : Nat) (@Int.toNat (Nat.cast x10 : Int))) (@Int.ofNat (0 : Nat))) (@List.nil Int)))))) (@List.length Int (@Go.Proofs.Ytnkhnogdiphboaa.Ses.notOf (@Prod.fst Int (@List Go.Proofs.Ytnkhnogdiphboaa.Sx.SessionD) (@Go.Proofs.Ytnkhnogdiphboaa.Ses.openL x7)) (@List.take Int x11 (@Go.Proofs.Ytnkhnogdiphboaa.Ses.OrdS.o x6))))) ∧
 ((@Eq (@List Int) (@HAppend.hAppend (@List Int) (@List Int) (@List Int) _ (@List.take Int (@List.length Int (@Go.Proofs.Ytnkhnogdiphboaa.Ses.notOf (@Prod.fst Int (@List Go.Proofs.Ytnkhnogdiphboaa.Sx.SessionD) (@Go.Proofs.Ytnkhnogdiphboaa.Ses.openL x7)) (@List.take Int x10 (@Go.Proofs.Ytnkhnogdiphboaa.Ses.OrdS.o x6)))) (@List.drop Int (0 : Nat) (@Go.Proofs.Ytnkhnogdiphboaa.Ses.notOf (@Prod.fst Int (@List Go.Proofs.Ytnkhnogdiphboaa.Sx.SessionD) (@Go.Proofs.Ytnkhnogdiphboaa.Ses.openL x7)) (@List.take Int x10 (@Go.Proofs.Ytnkhnogdiphboaa.Ses.OrdS.o x6))))) (@List.take Int (1 : Nat) (@List.drop Int (0 : Nat) (@List.cons Int (@List.getD Int (@Go.Proofs.Ytnkhnogdiphboaa.Ses.OrdS.o x6) (@HAdd.hAdd Nat Nat Nat _ (0 : Nat) (@Int.toNat (Nat.cast x10 : Int))) (@Int.ofNat (0 : Nat))) (@List.nil Int))))) (@Go.Proofs.Ytnkhnogdiphboaa.Ses.notOf (@Prod.fst Int (@List Go.Proofs.Ytnkhnogdiphboaa.Sx.SessionD) (@Go.Proofs.Ytnkhnogdiphboaa.Ses.openL x7)) (@List.take Int x11 (@Go.Proofs.Ytnkhnogdiphboaa.Ses.OrdS.o x6)))) ∧
 ((@Nat.le x11 (@List.length Int (@Go.Proofs.Ytnkhnogdiphboaa.Ses.OrdS.o x6))) ∧
 (@LT.lt Nat _ (@Nat.sub (@List.length Int (@Go.Proofs.Ytnkhnogdiphboaa.Ses.OrdS.o x6)) x11) (@Nat.sub (@List.length Int (@Go.Proofs.Ytnkhnogdiphboaa.Ses.OrdS.o x6)) x10))))))))
 (Bad "check" "law.go:283")))
 (Bad "check" "law.go:283"))
 (Bad "check" "law.go:283"))
 (∃ x12 : Nat,
 ((@Eq Int (@Go.IntKind.wrap Go.IntKind.i64 (@HAdd.hAdd Int Int Int _ (Nat.cast x10 : Int) (1 : Int))) (Nat.cast x12 : Int)) ∧
 ((@Eq Nat (0 : Nat) (0 : Nat)) ∧
 ((@Eq Nat (@List.length Int (@Go.Proofs.Ytnkhnogdiphboaa.Ses.notOf (@Prod.fst Int (@List Go.Proofs.Ytnkhnogdiphboaa.Sx.SessionD) (@Go.Proofs.Ytnkhnogdiphboaa.Ses.openL x7)) (@List.take Int x10 (@Go.Proofs.Ytnkhnogdiphboaa.Ses.OrdS.o x6)))) (@List.length Int (@Go.Proofs.Ytnkhnogdiphboaa.Ses.notOf (@Prod.fst Int (@List Go.Proofs.Ytnkhnogdiphboaa.Sx.SessionD) (@Go.Proofs.Ytnkhnogdiphboaa.Ses.openL x7)) (@List.take Int x12 (@Go.Proofs.Ytnkhnogdiphboaa.Ses.OrdS.o x6))))) ∧
 ((@Eq (@List Int) (@Go.Proofs.Ytnkhnogdiphboaa.Ses.notOf (@Prod.fst Int (@List Go.Proofs.Ytnkhnogdiphboaa.Sx.SessionD) (@Go.Proofs.Ytnkhnogdiphboaa.Ses.openL x7)) (@List.take Int x10 (@Go.Proofs.Ytnkhnogdiphboaa.Ses.OrdS.o x6))) (@Go.Proofs.Ytnkhnogdiphboaa.Ses.notOf (@Prod.fst Int (@List Go.Proofs.Ytnkhnogdiphboaa.Sx.SessionD) (@Go.Proofs.Ytnkhnogdiphboaa.Ses.openL x7)) (@List.take Int x12 (@Go.Proofs.Ytnkhnogdiphboaa.Ses.OrdS.o x6)))) ∧
 ((@Nat.le x12 (@List.length Int (@Go.Proofs.Ytnkhnogdiphboaa.Ses.OrdS.o x6))) ∧
 (@LT.lt Nat _ (@Nat.sub (@List.length Int (@Go.Proofs.Ytnkhnogdiphboaa.Ses.OrdS.o x6)) x12) (@Nat.sub (@List.length Int (@Go.Proofs.Ytnkhnogdiphboaa.Ses.OrdS.o x6)) x10)))))))))
 (Bad "check" "law.go:282"))
 (Bad "check" "law.go:282"))
 (((@Nat.le (@HMul.hMul Nat Nat Nat _ (@List.length Int (@Go.Proofs.Ytnkhnogdiphboaa.Ses.notOf (@Prod.fst Int (@List Go.Proofs.Ytnkhnogdiphboaa.Sx.SessionD) (@Go.Proofs.Ytnkhnogdiphboaa.Ses.openL x7)) (@List.take Int x10 (@Go.Proofs.Ytnkhnogdiphboaa.Ses.OrdS.o x6)))) (8 : Nat)) Go.Proofs.Ytnkhnogdiphboaa.Sx.room47) ∧
 (@Nat.le (@HMul.hMul Nat Nat Nat _ (1 : Nat) (8 : Nat)) Go.Proofs.Ytnkhnogdiphboaa.Sx.room47)) →
 (br (@Bool.and (@Bool.and (@Decidable.decide (@LE.le Nat _ (@HAdd.hAdd Nat Nat Nat _ (0 : Nat) (1 : Nat)) (@List.length Int (@List.cons Int (@Prod.fst Int (@List Go.Proofs.Ytnkhnogdiphboaa.Sx.SessionD) (@Go.Proofs.Ytnkhnogdiphboaa.Ses.openL x7)) (@List.nil Int)))) _) (@Decidable.decide (@LE.le Nat _ (@HAdd.hAdd Nat Nat Nat _ (0 : Nat) (@List.length Int (@Go.Proofs.Ytnkhnogdiphboaa.Ses.notOf (@Prod.fst Int (@List Go.Proofs.Ytnkhnogdiphboaa.Sx.SessionD) (@Go.Proofs.Ytnkhnogdiphboaa.Ses.openL x7)) (@List.take Int x10 (@Go.Proofs.Ytnkhnogdiphboaa.Ses.OrdS.o x6))))) (@List.length Int (@Go.Proofs.Ytnkhnogdiphboaa.Ses.notOf (@Prod.fst Int (@List Go.Proofs.Ytnkhnogdiphboaa.Sx.SessionD) (@Go.Proofs.Ytnkhnogdiphboaa.Ses.openL x7)) (@List.take Int x10 (@Go.Proofs.Ytnkhnogdiphboaa.Ses.OrdS.o x6))))) _)) (@Decidable.decide (@LE.le Nat _ (@HMul.hMul Nat Nat Nat _ (@HAdd.hAdd Nat Nat Nat _ (@List.length Int (@Go.Proofs.Ytnkhnogdiphboaa.Ses.notOf (@Prod.fst Int (@List Go.Proofs.Ytnkhnogdiphboaa.Sx.SessionD) (@Go.Proofs.Ytnkhnogdiphboaa.Ses.openL x7)) (@List.take Int x10 (@Go.Proofs.Ytnkhnogdiphboaa.Ses.OrdS.o x6)))) (@List.length Int (@List.take Int (1 : Nat) (@List.drop Int (0 : Nat) (@List.cons Int (@Prod.fst Int (@List Go.Proofs.Ytnkhnogdiphboaa.Sx.SessionD) (@Go.Proofs.Ytnkhnogdiphboaa.Ses.openL x7)) (@List.nil Int)))))) (8 : Nat)) Go.Proofs.Ytnkhnogdiphboaa.Sx.room47) _))
 (∃ x13 : Go.Proofs.Ytnkhnogdiphboaa.Ses.TabA,
 ((@Eq Int (@Go.Proofs.Ytnkhnogdiphboaa.Ses.OpenA.size x7) (@Go.Proofs.Ytnkhnogdiphboaa.Ses.TabA.size x13)) ∧
 ((@Eq Nat (0 : Nat) (0 : Nat)) ∧
 ((@Eq Nat (@List.length Go.Proofs.Ytnkhnogdiphboaa.Sx.SessionD (@Prod.snd Int (@List Go.Proofs.Ytnkhnogdiphboaa.Sx.SessionD) (@Go.Proofs.Ytnkhnogdiphboaa.Ses.openL x7))) (@List.length Go.Proofs.Ytnkhnogdiphboaa.Sx.SessionD (@Go.Proofs.Ytnkhnogdiphboaa.Ses.TabA.l x13))) ∧
 ((@Eq (@List Go.Proofs.Ytnkhnogdiphboaa.Sx.SessionD) (@Prod.snd Int (@List Go.Proofs.Ytnkhnogdiphboaa.Sx.SessionD) (@Go.Proofs.Ytnkhnogdiphboaa.Ses.openL x7)) (@Go.Proofs.Ytnkhnogdiphboaa.Ses.TabA.l x13)) ∧
 ((@Eq Bool (@Decidable.decide (@LT.lt Int _ (0 : Int) (@Go.Proofs.Ytnkhnogdiphboaa.Ses.TabA.size x13)) _) Bool.true) ∧
 (∀ x14 : Unit,
 (True →
 ((@LE.le Nat _ (@HMul.hMul Nat Nat Nat _ (@List.length Go.Proofs.Ytnkhnogdiphboaa.Sx.SessionD (@Go.Proofs.Ytnkhnogdiphboaa.Ses.TabA.l x13)) (112 : Nat)) Go.Proofs.Ytnkhnogdiphboaa.Sx.room47) →
 ((@LE.le Nat _ (@HMul.hMul Nat Nat Nat _ (@HAdd.hAdd Nat Nat Nat _ (@List.length Int (@Go.Proofs.Ytnkhnogdiphboaa.Ses.notOf (@Prod.fst Int (@List Go.Proofs.Ytnkhnogdiphboaa.Sx.SessionD) (@Go.Proofs.Ytnkhnogdiphboaa.Ses.openL x7)) (@List.take Int x10 (@Go.Proofs.Ytnkhnogdiphboaa.Ses.OrdS.o x6)))) (@List.length Int (@List.take Int (1 : Nat) (@List.drop Int (0 : Nat) (@List.cons Int (@Prod.fst Int (@List Go.Proofs.Ytnkhnogdiphboaa.Sx.SessionD) (@Go.Proofs.Ytnkhnogdiphboaa.Ses.openL x7)) (@List.nil Int)))))) (8 : Nat)) Go.Proofs.Ytnkhnogdiphboaa.Sx.room47) →
 (br (@bne Int _ (Nat.cast (@List.length Go.Proofs.Ytnkhnogdiphboaa.Sx.SessionD (@Go.Proofs.Ytnkhnogdiphboaa.Ses.TabA.l x13)) : Int) (Nat.cast (@HAdd.hAdd Nat Nat Nat _ (@List.length Int (@Go.Proofs.Ytnkhnogdiphboaa.Ses.notOf (@Prod.fst Int (@List Go.Proofs.Ytnkhnogdiphboaa.Sx.SessionD) (@Go.Proofs.Ytnkhnogdiphboaa.Ses.openL x7)) (@List.take Int x10 (@Go.Proofs.Ytnkhnogdiphboaa.Ses.OrdS.o x6)))) (@List.length Int (@List.take Int (1 : Nat) (@List.drop Int (0 : Nat) (@List.cons Int (@Prod.fst Int (@List Go.Proofs.Ytnkhnogdiphboaa.Sx.SessionD) (@Go.Proofs.Ytnkhnogdiphboaa.Ses.openL x7)) (@List.nil Int)))))) : Int))
 (@Eq Bool Bool.false Bool.true)
 ((∃ x15 : Nat,
 ((@Eq Int (0 : Int) (Nat.cast x15 : Int)) ∧
 (@Nat.le x15 (@List.length Go.Proofs.Ytnkhnogdiphboaa.Sx.SessionD (@Go.Proofs.Ytnkhnogdiphboaa.Ses.TabA.l x13))))) ∧
 (∀ x16 : Nat,
 ((@Nat.le x16 (@List.length Go.Proofs.Ytnkhnogdiphboaa.Sx.SessionD (@Go.Proofs.Ytnkhnogdiphboaa.Ses.TabA.l x13))) →
 ((@LE.le Nat _ (@HMul.hMul Nat Nat Nat _ (@List.length Go.Proofs.Ytnkhnogdiphboaa.Sx.SessionD (@Go.Proofs.Ytnkhnogdiphboaa.Ses.TabA.l x13)) (112 : Nat)) Go.Proofs.Ytnkhnogdiphboaa.Sx.room47) →
 (br (@Decidable.decide (@LT.lt Int _ (Nat.cast x16 : Int) (Nat.cast (@List.length Go.Proofs.Ytnkhnogdiphboaa.Sx.SessionD (@Go.Proofs.Ytnkhnogdiphboaa.Ses.TabA.l x13)) : Int)) _)
 (br (@Decidable.decide ((@LE.le Int _ (0 : Int) (Nat.cast x16 : Int)) ∧
 (@LT.lt Int _ (Nat.cast x16 : Int) (Nat.cast (@List.length Go.Proofs.Ytnkhnogdiphboaa.Sx.SessionD (@Go.Proofs.Ytnkhnogdiphboaa.Ses.TabA.l x13)) : Int))) _)
 (br (@Decidable.decide (@LT.lt Nat _ (@HAdd.hAdd Nat Nat Nat _ (0 : Nat) (@Int.toNat (Nat.cast x16 : Int))) (@List.length Go.Proofs.Ytnkhnogdiphboaa.Sx.SessionD (@Go.Proofs.Ytnkhnogdiphboaa.Ses.TabA.l x13))) _)
 (br (@Decidable.decide ((@LE.le Int _ (0 : Int) (Nat.cast x16 : Int)) ∧
 (@LT.lt Int _ (Nat.cast x16 : Int) (Nat.cast (@HAdd.hAdd Nat Nat Nat _ (@List.length Int (@Go.Proofs.Ytnkhnogdiphboaa.Ses.notOf (@Prod.fst Int (@List Go.Proofs.Ytnkhnogdiphboaa.Sx.SessionD) (@Go.Proofs.Ytnkhnogdiphboaa.Ses.openL x7)) (@List.take Int x10 (@Go.Proofs.Ytnkhnogdiphboaa.Ses.OrdS.o x6)))) (@List.length Int (@List.take Int (1 : Nat) (@List.drop Int (0 : Nat) (@List.cons Int (@Prod.fst Int (@List Go.Proofs.Ytnkhnogdiphboaa.Sx.SessionD) (@Go.Proofs.Ytnkhnogdiphboaa.Ses.openL x7)) (@List.nil Int)))))) : Int))) _)
 (br (@Decidable.decide (@LT.lt Nat _ (@HAdd.hAdd Nat Nat Nat _ (0 : Nat) (@Int.toNat (Nat.cast x16 : Int))) (@List.length Int (@HAppend.hAppend (@List Int) (@List Int) (@List Int) _ (@List.take Int (@List.length Int (@Go.Proofs.Ytnkhnogdiphboaa.Ses.notOf (@Prod.fst Int (@List Go.Proofs.Ytnkhnogdiphboaa.Sx.SessionD) (@Go.Proofs.Ytnkhnogdiphboaa.Ses.openL x7)) (@List.take Int x10 (@Go.Proofs.Ytnkhnogdiphboaa.Ses.OrdS.o x6)))) (@List.drop Int (0 : Nat) (@Go.Proofs.Ytnkhnogdiphboaa.Ses.notOf (@Prod.fst Int (@List Go.Proofs.Ytnkhnogdiphboaa.Sx.SessionD) (@Go.Proofs.Ytnkhnogdiphboaa.Ses.openL x7)) (@List.take Int x10 (@Go.Proofs.Ytnkhnogdiphboaa.Ses.OrdS.o x6))))) (@List.take Int (1 : Nat) (@List.drop Int (0 : Nat) (@List.cons Int (@Prod.fst Int (@List Go.Proofs.Ytnkhnogdiphboaa.Sx.SessionD) (@Go.Proofs.Ytnkhnogdiphboaa.Ses.openL x7)) (@List.nil Int))))))) _)
 (br (@bne Int _ (@Go.Proofs.Ytnkhnogdiphboaa.Sx.SessionD.id (@List.getD Go.Proofs.Ytnkhnogdiphboaa.Sx.SessionD (@Go.Proofs.Ytnkhnogdiphboaa.Ses.TabA.l x13) (@HAdd.hAdd Nat Nat Nat _ (0 : Nat) (@Int.toNat (Nat.cast x16 : Int))) (@Go.Proofs.Ytnkhnogdiphboaa.Sx.SessionD.mk (0 : Int) (0 : Int) (@List.nil UInt8) Go.Proofs.Ytnkhnogdiphboaa.Sx.VerdictD.dflt))) (@List.getD Int (@HAppend.hAppend (@List Int) (@List Int) (@List Int) _ (@List.take Int (@List.length Int (@Go.Proofs.Ytnkhnogdiphboaa.Ses.notOf (@Prod.fst Int (@List Go.Proofs.Ytnkhnogdiphboaa.Sx.SessionD) (@Go.Proofs.Ytnkhnogdiphboaa.Ses.openL x7)) (@List.take Int x10 (@Go.Proofs.Ytnkhnogdiphboaa.Ses.OrdS.o x6)))) (@List.drop Int (0 : Nat) (@Go.Proofs.Ytnkhnogdiphboaa.Ses.notOf (@Prod.fst Int (@List Go.Proofs.Ytnkhnogdiphboaa.Sx.SessionD) (@Go.Proofs.Ytnkhnogdiphboaa.Ses.openL x7)) (@List.take Int x10 (@Go.Proofs.Ytnkhnogdiphboaa.Ses.OrdS.o x6))))) (@List.take Int (1 : Nat) (@List.drop Int (0 : Nat) (@List.cons Int (@Prod.fst Int (@List Go.Proofs.Ytnkhnogdiphboaa.Sx.SessionD) (@Go.Proofs.Ytnkhnogdiphboaa.Ses.openL x7)) (@List.nil Int))))) (@HAdd.hAdd Nat Nat Nat _ (0 : Nat) (@Int.toNat (Nat.cast x16 : Int))) (@Int.ofNat (0 : Nat))))
 (@Eq Bool Bool.false Bool.true)
 (∃ x17 : Nat,
 ((@Eq Int (@Go.IntKind.wrap Go.IntKind.i64 (@HAdd.hAdd Int Int Int _ (Nat.cast x16 : Int) (1 : Int))) (Nat.cast x17 : Int)) ∧
 ((@Nat.le x17 (@List.length Go.Proofs.Ytnkhnogdiphboaa.Sx.SessionD (@Go.Proofs.Ytnkhnogdiphboaa.Ses.TabA.l x13))) ∧
 (@LT.lt Nat _ (@Nat.sub (@List.length Go.Proofs.Ytnkhnogdiphboaa.Sx.SessionD (@Go.Proofs.Ytnkhnogdiphboaa.Ses.TabA.l x13)) x17) (@Nat.sub (@List.length Go.Proofs.Ytnkhnogdiphboaa.Sx.SessionD (@Go.Proofs.Ytnkhnogdiphboaa.Ses.TabA.l x13)) x16))))))
 (Bad "check" "law.go:293"))
 (Bad "check" "law.go:293"))
 (Bad "check" "law.go:293"))
 (Bad "check" "law.go:293"))
 (∃ x18 : Go.Proofs.Ytnkhnogdiphboaa.Ses.OrdS,
 ((@Eq Int (@Go.IntKind.wrap Go.IntKind.i64 (@HAdd.hAdd Int Int Int _ (Nat.cast (@Go.Proofs.Ytnkhnogdiphboaa.Ses.OrdS.i x6) : Int) (1 : Int))) (Nat.cast (@Go.Proofs.Ytnkhnogdiphboaa.Ses.OrdS.i x18) : Int)) ∧
 ((@Eq Nat (0 : Nat) (0 : Nat)) ∧
 ((@Eq Nat (@HAdd.hAdd Nat Nat Nat _ (@List.length Int (@Go.Proofs.Ytnkhnogdiphboaa.Ses.notOf (@Prod.fst Int (@List Go.Proofs.Ytnkhnogdiphboaa.Sx.SessionD) (@Go.Proofs.Ytnkhnogdiphboaa.Ses.openL x7)) (@List.take Int x10 (@Go.Proofs.Ytnkhnogdiphboaa.Ses.OrdS.o x6)))) (@List.length Int (@List.take Int (1 : Nat) (@List.drop Int (0 : Nat) (@List.cons Int (@Prod.fst Int (@List Go.Proofs.Ytnkhnogdiphboaa.Sx.SessionD) (@Go.Proofs.Ytnkhnogdiphboaa.Ses.openL x7)) (@List.nil Int)))))) (@List.length Int (@Go.Proofs.Ytnkhnogdiphboaa.Ses.OrdS.o x18))) ∧
 ((@Eq Int (@Go.Proofs.Ytnkhnogdiphboaa.Ses.TabA.size x13) (16 : Int)) ∧
 ((@Eq Nat (0 : Nat) (0 : Nat)) ∧
 ((@Eq Nat (@List.length Go.Proofs.Ytnkhnogdiphboaa.Sx.SessionD (@Go.Proofs.Ytnkhnogdiphboaa.Ses.TabA.l x13)) (@List.length Go.Proofs.Ytnkhnogdiphboaa.Sx.SessionD (@Go.Proofs.Ytnkhnogdiphboaa.Ses.OrdS.l x18))) ∧
 ((@Eq (@List Go.Proofs.Ytnkhnogdiphboaa.Sx.SessionD) (@Go.Proofs.Ytnkhnogdiphboaa.Ses.TabA.l x13) (@Go.Proofs.Ytnkhnogdiphboaa.Ses.OrdS.l x18)) ∧
 ((@Eq (@List Int) (@HAppend.hAppend (@List Int) (@List Int) (@List Int) _ (@List.take Int (@List.length Int (@Go.Proofs.Ytnkhnogdiphboaa.Ses.notOf (@Prod.fst Int (@List Go.Proofs.Ytnkhnogdiphboaa.Sx.SessionD) (@Go.Proofs.Ytnkhnogdiphboaa.Ses.openL x7)) (@List.take Int x10 (@Go.Proofs.Ytnkhnogdiphboaa.Ses.OrdS.o x6)))) (@List.drop Int (0 : Nat) (@Go.Proofs.Ytnkhnogdiphboaa.Ses.notOf (@Prod.fst Int (@List Go.Proofs.Ytnkhnogdiphboaa.Sx.SessionD) (@Go.Proofs.Ytnkhnogdiphboaa.Ses.openL x7)) (@List.take Int x10 (@Go.Proofs.Ytnkhnogdiphboaa.Ses.OrdS.o x6))))) (@List.take Int (1 : Nat) (@List.drop Int (0 : Nat) (@List.cons Int (@Prod.fst Int (@List Go.Proofs.Ytnkhnogdiphboaa.Sx.SessionD) (@Go.Proofs.Ytnkhnogdiphboaa.Ses.openL x7)) (@List.nil Int))))) (@Go.Proofs.Ytnkhnogdiphboaa.Ses.OrdS.o x18)) ∧
 (((@LE.le Nat _ (@Go.Proofs.Ytnkhnogdiphboaa.Ses.OrdS.i x18) (@List.length Go.Proofs.Ytnkhnogdiphboaa.Sx.Deed6D x)) ∧
 ((@LE.le Nat _ (@Go.Proofs.Ytnkhnogdiphboaa.Ses.OrdS.i x18) (16 : Nat)) ∧
 (@Go.Proofs.Ytnkhnogdiphboaa.Ses.OrdI (@Go.Proofs.Ytnkhnogdiphboaa.Ses.OrdS.i x18) (@Go.Proofs.Ytnkhnogdiphboaa.Ses.OrdS.o x18) (@Go.Proofs.Ytnkhnogdiphboaa.Ses.OrdS.l x18)))) ∧
 (@LT.lt Nat _ (@Nat.sub (@List.length Go.Proofs.Ytnkhnogdiphboaa.Sx.Deed6D x) (@Go.Proofs.Ytnkhnogdiphboaa.Ses.OrdS.i x18)) (@Nat.sub (@List.length Go.Proofs.Ytnkhnogdiphboaa.Sx.Deed6D x) (@Go.Proofs.Ytnkhnogdiphboaa.Ses.OrdS.i x6)))))))))))))))))))))))))))))
 (Bad "check" "law.go:286"))))))))
 (∃ x19 : Go.Proofs.Ytnkhnogdiphboaa.Ses.TabA,
 ((@Eq Int (@Go.Proofs.Ytnkhnogdiphboaa.Ses.OpenA.size x7) (@Go.Proofs.Ytnkhnogdiphboaa.Ses.TabA.size x19)) ∧
 ((@Eq Nat (0 : Nat) (0 : Nat)) ∧
 ((@Eq Nat (@List.length Go.Proofs.Ytnkhnogdiphboaa.Sx.SessionD (@Prod.snd Int (@List Go.Proofs.Ytnkhnogdiphboaa.Sx.SessionD) (@Go.Proofs.Ytnkhnogdiphboaa.Ses.openL x7))) (@List.length Go.Proofs.Ytnkhnogdiphboaa.Sx.SessionD (@Go.Proofs.Ytnkhnogdiphboaa.Ses.TabA.l x19))) ∧
 ((@Eq (@List Go.Proofs.Ytnkhnogdiphboaa.Sx.SessionD) (@Prod.snd Int (@List Go.Proofs.Ytnkhnogdiphboaa.Sx.SessionD) (@Go.Proofs.Ytnkhnogdiphboaa.Ses.openL x7)) (@Go.Proofs.Ytnkhnogdiphboaa.Ses.TabA.l x19)) ∧
 ((@Eq Bool (@Decidable.decide (@LT.lt Int _ (0 : Int) (@Go.Proofs.Ytnkhnogdiphboaa.Ses.TabA.size x19)) _) Bool.true) ∧
 (∀ x20 : Unit,
 (True →
 ((@LE.le Nat _ (@HMul.hMul Nat Nat Nat _ (@List.length Go.Proofs.Ytnkhnogdiphboaa.Sx.SessionD (@Go.Proofs.Ytnkhnogdiphboaa.Ses.TabA.l x19)) (112 : Nat)) Go.Proofs.Ytnkhnogdiphboaa.Sx.room47) →
 ((@LE.le Nat _ (@HMul.hMul Nat Nat Nat _ (@List.length Int (@Go.Proofs.Ytnkhnogdiphboaa.Ses.OrdS.o x6)) (8 : Nat)) Go.Proofs.Ytnkhnogdiphboaa.Sx.room47) →
 (br (@bne Int _ (Nat.cast (@List.length Go.Proofs.Ytnkhnogdiphboaa.Sx.SessionD (@Go.Proofs.Ytnkhnogdiphboaa.Ses.TabA.l x19)) : Int) (Nat.cast (@List.length Int (@Go.Proofs.Ytnkhnogdiphboaa.Ses.OrdS.o x6)) : Int))
 (@Eq Bool Bool.false Bool.true)
 ((∃ x21 : Nat,
 ((@Eq Int (0 : Int) (Nat.cast x21 : Int)) ∧
 (@Nat.le x21 (@List.length Go.Proofs.Ytnkhnogdiphboaa.Sx.SessionD (@Go.Proofs.Ytnkhnogdiphboaa.Ses.TabA.l x19))))) ∧
 (∀ x22 : Nat,
 ((@Nat.le x22 (@List.length Go.Proofs.Ytnkhnogdiphboaa.Sx.SessionD (@Go.Proofs.Ytnkhnogdiphboaa.Ses.TabA.l x19))) →
 ((@LE.le Nat _ (@HMul.hMul Nat Nat Nat _ (@List.length Go.Proofs.Ytnkhnogdiphboaa.Sx.SessionD (@Go.Proofs.Ytnkhnogdiphboaa.Ses.TabA.l x19)) (112 : Nat)) Go.Proofs.Ytnkhnogdiphboaa.Sx.room47) →
 (br (@Decidable.decide (@LT.lt Int _ (Nat.cast x22 : Int) (Nat.cast (@List.length Go.Proofs.Ytnkhnogdiphboaa.Sx.SessionD (@Go.Proofs.Ytnkhnogdiphboaa.Ses.TabA.l x19)) : Int)) _)
 (br (@Decidable.decide ((@LE.le Int _ (0 : Int) (Nat.cast x22 : Int)) ∧
 (@LT.lt Int _ (Nat.cast x22 : Int) (Nat.cast (@List.length Go.Proofs.Ytnkhnogdiphboaa.Sx.SessionD (@Go.Proofs.Ytnkhnogdiphboaa.Ses.TabA.l x19)) : Int))) _)
 (br (@Decidable.decide (@LT.lt Nat _ (@HAdd.hAdd Nat Nat Nat _ (0 : Nat) (@Int.toNat (Nat.cast x22 : Int))) (@List.length Go.Proofs.Ytnkhnogdiphboaa.Sx.SessionD (@Go.Proofs.Ytnkhnogdiphboaa.Ses.TabA.l x19))) _)
 (br (@Decidable.decide ((@LE.le Int _ (0 : Int) (Nat.cast x22 : Int)) ∧
 (@LT.lt Int _ (Nat.cast x22 : Int) (Nat.cast (@List.length Int (@Go.Proofs.Ytnkhnogdiphboaa.Ses.OrdS.o x6)) : Int))) _)
 (br (@Decidable.decide (@LT.lt Nat _ (@HAdd.hAdd Nat Nat Nat _ (0 : Nat) (@Int.toNat (Nat.cast x22 : Int))) (@List.length Int (@Go.Proofs.Ytnkhnogdiphboaa.Ses.OrdS.o x6))) _)
 (br (@bne Int _ (@Go.Proofs.Ytnkhnogdiphboaa.Sx.SessionD.id (@List.getD Go.Proofs.Ytnkhnogdiphboaa.Sx.SessionD (@Go.Proofs.Ytnkhnogdiphboaa.Ses.TabA.l x19) (@HAdd.hAdd Nat Nat Nat _ (0 : Nat) (@Int.toNat (Nat.cast x22 : Int))) (@Go.Proofs.Ytnkhnogdiphboaa.Sx.SessionD.mk (0 : Int) (0 : Int) (@List.nil UInt8) Go.Proofs.Ytnkhnogdiphboaa.Sx.VerdictD.dflt))) (@List.getD Int (@Go.Proofs.Ytnkhnogdiphboaa.Ses.OrdS.o x6) (@HAdd.hAdd Nat Nat Nat _ (0 : Nat) (@Int.toNat (Nat.cast x22 : Int))) (@Int.ofNat (0 : Nat))))
 (@Eq Bool Bool.false Bool.true)
 (∃ x23 : Nat,
 ((@Eq Int (@Go.IntKind.wrap Go.IntKind.i64 (@HAdd.hAdd Int Int Int _ (Nat.cast x22 : Int) (1 : Int))) (Nat.cast x23 : Int)) ∧
 ((@Nat.le x23 (@List.length Go.Proofs.Ytnkhnogdiphboaa.Sx.SessionD (@Go.Proofs.Ytnkhnogdiphboaa.Ses.TabA.l x19))) ∧
 (@LT.lt Nat _ (@Nat.sub (@List.length Go.Proofs.Ytnkhnogdiphboaa.Sx.SessionD (@Go.Proofs.Ytnkhnogdiphboaa.Ses.TabA.l x19)) x23) (@Nat.sub (@List.length Go.Proofs.Ytnkhnogdiphboaa.Sx.SessionD (@Go.Proofs.Ytnkhnogdiphboaa.Ses.TabA.l x19)) x22))))))
 (Bad "check" "law.go:293"))
 (Bad "check" "law.go:293"))
 (Bad "check" "law.go:293"))
 (Bad "check" "law.go:293"))
 (∃ x24 : Go.Proofs.Ytnkhnogdiphboaa.Ses.OrdS,
 ((@Eq Int (@Go.IntKind.wrap Go.IntKind.i64 (@HAdd.hAdd Int Int Int _ (Nat.cast (@Go.Proofs.Ytnkhnogdiphboaa.Ses.OrdS.i x6) : Int) (1 : Int))) (Nat.cast (@Go.Proofs.Ytnkhnogdiphboaa.Ses.OrdS.i x24) : Int)) ∧
 ((@Eq Nat (0 : Nat) (0 : Nat)) ∧
 ((@Eq Nat (@List.length Int (@Go.Proofs.Ytnkhnogdiphboaa.Ses.OrdS.o x6)) (@List.length Int (@Go.Proofs.Ytnkhnogdiphboaa.Ses.OrdS.o x24))) ∧
 ((@Eq Int (@Go.Proofs.Ytnkhnogdiphboaa.Ses.TabA.size x19) (16 : Int)) ∧
 ((@Eq Nat (0 : Nat) (0 : Nat)) ∧
 ((@Eq Nat (@List.length Go.Proofs.Ytnkhnogdiphboaa.Sx.SessionD (@Go.Proofs.Ytnkhnogdiphboaa.Ses.TabA.l x19)) (@List.length Go.Proofs.Ytnkhnogdiphboaa.Sx.SessionD (@Go.Proofs.Ytnkhnogdiphboaa.Ses.OrdS.l x24))) ∧
 ((@Eq (@List Go.Proofs.Ytnkhnogdiphboaa.Sx.SessionD) (@Go.Proofs.Ytnkhnogdiphboaa.Ses.TabA.l x19) (@Go.Proofs.Ytnkhnogdiphboaa.Ses.OrdS.l x24)) ∧
 ((@Eq (@List Int) (@Go.Proofs.Ytnkhnogdiphboaa.Ses.OrdS.o x6) (@Go.Proofs.Ytnkhnogdiphboaa.Ses.OrdS.o x24)) ∧
 (((@LE.le Nat _ (@Go.Proofs.Ytnkhnogdiphboaa.Ses.OrdS.i x24) (@List.length Go.Proofs.Ytnkhnogdiphboaa.Sx.Deed6D x)) ∧
 ((@LE.le Nat _ (@Go.Proofs.Ytnkhnogdiphboaa.Ses.OrdS.i x24) (16 : Nat)) ∧
 (@Go.Proofs.Ytnkhnogdiphboaa.Ses.OrdI (@Go.Proofs.Ytnkhnogdiphboaa.Ses.OrdS.i x24) (@Go.Proofs.Ytnkhnogdiphboaa.Ses.OrdS.o x24) (@Go.Proofs.Ytnkhnogdiphboaa.Ses.OrdS.l x24)))) ∧
 (@LT.lt Nat _ (@Nat.sub (@List.length Go.Proofs.Ytnkhnogdiphboaa.Sx.Deed6D x) (@Go.Proofs.Ytnkhnogdiphboaa.Ses.OrdS.i x24)) (@Nat.sub (@List.length Go.Proofs.Ytnkhnogdiphboaa.Sx.Deed6D x) (@Go.Proofs.Ytnkhnogdiphboaa.Ses.OrdS.i x6))))))))))))))))))))))))))))))))))))))))
 (br (@Decidable.decide (@LE.le Int _ (@Go.Proofs.Ytnkhnogdiphboaa.Sx.Deed6D.dof (@List.getD Go.Proofs.Ytnkhnogdiphboaa.Sx.Deed6D x (@Int.toNat (Nat.cast (@Go.Proofs.Ytnkhnogdiphboaa.Ses.OrdS.i x6) : Int)) (@Go.Proofs.Ytnkhnogdiphboaa.Sx.Deed6D.mk (0 : Int) (0 : Int) (0 : Int) (@List.nil UInt8) Go.Proofs.Ytnkhnogdiphboaa.Sx.VerdictD.dflt))) (4 : Int)) _)
 ((@LE.le Nat _ (@HMul.hMul Nat Nat Nat _ (@List.length Int (@Go.Proofs.Ytnkhnogdiphboaa.Ses.OrdS.o x6)) (8 : Nat)) Go.Proofs.Ytnkhnogdiphboaa.Sx.room47) →
 (br (@Decidable.decide (@GT.gt Int _ (Nat.cast (@List.length Int (@Go.Proofs.Ytnkhnogdiphboaa.Ses.OrdS.o x6)) : Int) (0 : Int)) _)
 ((@LE.le Nat _ (@HMul.hMul Nat Nat Nat _ (@List.length Int (@Go.Proofs.Ytnkhnogdiphboaa.Ses.OrdS.o x6)) (8 : Nat)) Go.Proofs.Ytnkhnogdiphboaa.Sx.room47) →
 (br (@bne Int _ (Nat.cast (@List.length Int (@Go.Proofs.Ytnkhnogdiphboaa.Ses.OrdS.o x6)) : Int) (0 : Int))
 (br (@Decidable.decide ((@LE.le Int _ (0 : Int) (@Int.tmod (@Go.IntKind.wrap Go.IntKind.i64 (Nat.cast (@BitVec.toNat (@Go.IntKind.bits Go.IntKind.i64) (@HAnd.hAnd (@BitVec (@Go.IntKind.bits Go.IntKind.i64)) (@BitVec (@Go.IntKind.bits Go.IntKind.i64)) (@BitVec (@Go.IntKind.bits Go.IntKind.i64)) _ (@BitVec.ofInt (@Go.IntKind.bits Go.IntKind.i64) (@Go.Proofs.Ytnkhnogdiphboaa.Sx.Deed6D.id (@List.getD Go.Proofs.Ytnkhnogdiphboaa.Sx.Deed6D x (@Int.toNat (Nat.cast (@Go.Proofs.Ytnkhnogdiphboaa.Ses.OrdS.i x6) : Int)) (@Go.Proofs.Ytnkhnogdiphboaa.Sx.Deed6D.mk (0 : Int) (0 : Int) (0 : Int) (@List.nil UInt8) Go.Proofs.Ytnkhnogdiphboaa.Sx.VerdictD.dflt)))) (@BitVec.ofInt (@Go.IntKind.bits Go.IntKind.i64) (255 : Int)))) : Int)) (Nat.cast (@List.length Int (@Go.Proofs.Ytnkhnogdiphboaa.Ses.OrdS.o x6)) : Int))) ∧
 (@LT.lt Int _ (@Int.tmod (@Go.IntKind.wrap Go.IntKind.i64 (Nat.cast (@BitVec.toNat (@Go.IntKind.bits Go.IntKind.i64) (@HAnd.hAnd (@BitVec (@Go.IntKind.bits Go.IntKind.i64)) (@BitVec (@Go.IntKind.bits Go.IntKind.i64)) (@BitVec (@Go.IntKind.bits Go.IntKind.i64)) _ (@BitVec.ofInt (@Go.IntKind.bits Go.IntKind.i64) (@Go.Proofs.Ytnkhnogdiphboaa.Sx.Deed6D.id (@List.getD Go.Proofs.Ytnkhnogdiphboaa.Sx.Deed6D x (@Int.toNat (Nat.cast (@Go.Proofs.Ytnkhnogdiphboaa.Ses.OrdS.i x6) : Int)) (@Go.Proofs.Ytnkhnogdiphboaa.Sx.Deed6D.mk (0 : Int) (0 : Int) (0 : Int) (@List.nil UInt8) Go.Proofs.Ytnkhnogdiphboaa.Sx.VerdictD.dflt)))) (@BitVec.ofInt (@Go.IntKind.bits Go.IntKind.i64) (255 : Int)))) : Int)) (Nat.cast (@List.length Int (@Go.Proofs.Ytnkhnogdiphboaa.Ses.OrdS.o x6)) : Int)) (Nat.cast (@List.length Int (@Go.Proofs.Ytnkhnogdiphboaa.Ses.OrdS.o x6)) : Int))) _)
 (br (@Decidable.decide (@LT.lt Nat _ (@HAdd.hAdd Nat Nat Nat _ (0 : Nat) (@Int.toNat (@Int.tmod (@Go.IntKind.wrap Go.IntKind.i64 (Nat.cast (@BitVec.toNat (@Go.IntKind.bits Go.IntKind.i64) (@HAnd.hAnd (@BitVec (@Go.IntKind.bits Go.IntKind.i64)) (@BitVec (@Go.IntKind.bits Go.IntKind.i64)) (@BitVec (@Go.IntKind.bits Go.IntKind.i64)) _ (@BitVec.ofInt (@Go.IntKind.bits Go.IntKind.i64) (@Go.Proofs.Ytnkhnogdiphboaa.Sx.Deed6D.id (@List.getD Go.Proofs.Ytnkhnogdiphboaa.Sx.Deed6D x (@Int.toNat (Nat.cast (@Go.Proofs.Ytnkhnogdiphboaa.Ses.OrdS.i x6) : Int)) (@Go.Proofs.Ytnkhnogdiphboaa.Sx.Deed6D.mk (0 : Int) (0 : Int) (0 : Int) (@List.nil UInt8) Go.Proofs.Ytnkhnogdiphboaa.Sx.VerdictD.dflt)))) (@BitVec.ofInt (@Go.IntKind.bits Go.IntKind.i64) (255 : Int)))) : Int)) (Nat.cast (@List.length Int (@Go.Proofs.Ytnkhnogdiphboaa.Ses.OrdS.o x6)) : Int)))) (@List.length Int (@Go.Proofs.Ytnkhnogdiphboaa.Ses.OrdS.o x6))) _)
 (∃ x25 : Go.Proofs.Ytnkhnogdiphboaa.Ses.AskA,
 ((@Eq Int (@List.getD Int (@Go.Proofs.Ytnkhnogdiphboaa.Ses.OrdS.o x6) (@HAdd.hAdd Nat Nat Nat _ (0 : Nat) (@Int.toNat (@Int.tmod (@Go.IntKind.wrap Go.IntKind.i64 (Nat.cast (@BitVec.toNat (@Go.IntKind.bits Go.IntKind.i64) (@HAnd.hAnd (@BitVec (@Go.IntKind.bits Go.IntKind.i64)) (@BitVec (@Go.IntKind.bits Go.IntKind.i64)) (@BitVec (@Go.IntKind.bits Go.IntKind.i64)) _ (@BitVec.ofInt (@Go.IntKind.bits Go.IntKind.i64) (@Go.Proofs.Ytnkhnogdiphboaa.Sx.Deed6D.id (@List.getD Go.Proofs.Ytnkhnogdiphboaa.Sx.Deed6D x (@Int.toNat (Nat.cast (@Go.Proofs.Ytnkhnogdiphboaa.Ses.OrdS.i x6) : Int)) (@Go.Proofs.Ytnkhnogdiphboaa.Sx.Deed6D.mk (0 : Int) (0 : Int) (0 : Int) (@List.nil UInt8) Go.Proofs.Ytnkhnogdiphboaa.Sx.VerdictD.dflt)))) (@BitVec.ofInt (@Go.IntKind.bits Go.IntKind.i64) (255 : Int)))) : Int)) (Nat.cast (@List.length Int (@Go.Proofs.Ytnkhnogdiphboaa.Ses.OrdS.o x6)) : Int)))) (@Int.ofNat (0 : Nat))) (@Go.Proofs.Ytnkhnogdiphboaa.Ses.AskA.id x25)) ∧
 ((@Eq Int (@Go.Proofs.Ytnkhnogdiphboaa.Sx.Deed6D.seq (@List.getD Go.Proofs.Ytnkhnogdiphboaa.Sx.Deed6D x (@Int.toNat (Nat.cast (@Go.Proofs.Ytnkhnogdiphboaa.Ses.OrdS.i x6) : Int)) (@Go.Proofs.Ytnkhnogdiphboaa.Sx.Deed6D.mk (0 : Int) (0 : Int) (0 : Int) (@List.nil UInt8) Go.Proofs.Ytnkhnogdiphboaa.Sx.VerdictD.dflt))) (@Go.Proofs.Ytnkhnogdiphboaa.Ses.AskA.seq x25)) ∧
 ((@Eq Int (16 : Int) (@Go.Proofs.Ytnkhnogdiphboaa.Ses.AskA.size x25)) ∧
 ((@Eq Nat (0 : Nat) (0 : Nat)) ∧
 ((@Eq Nat (@List.length Go.Proofs.Ytnkhnogdiphboaa.Sx.SessionD (@Go.Proofs.Ytnkhnogdiphboaa.Ses.OrdS.l x6)) (@List.length Go.Proofs.Ytnkhnogdiphboaa.Sx.SessionD (@Go.Proofs.Ytnkhnogdiphboaa.Ses.AskA.l x25))) ∧
 ((@Eq (@List Go.Proofs.Ytnkhnogdiphboaa.Sx.SessionD) (@Go.Proofs.Ytnkhnogdiphboaa.Ses.OrdS.l x6) (@Go.Proofs.Ytnkhnogdiphboaa.Ses.AskA.l x25)) ∧
 (((@Eq Bool (@Decidable.decide (@LT.lt Int _ (0 : Int) (@Go.Proofs.Ytnkhnogdiphboaa.Ses.AskA.size x25)) _) Bool.true) ∧
 (@Eq Bool (@Decidable.decide (@LE.le Nat _ (@List.length Go.Proofs.Ytnkhnogdiphboaa.Sx.SessionD (@Go.Proofs.Ytnkhnogdiphboaa.Ses.AskA.l x25)) (1024 : Nat)) _) Bool.true)) ∧
 (∀ x26 : Unit,
 (True →
 (br (@Decidable.decide (@GE.ge Int _ (@List.getD Int (@Go.Proofs.Ytnkhnogdiphboaa.Ses.OrdS.o x6) (@HAdd.hAdd Nat Nat Nat _ (0 : Nat) (@Int.toNat (@Int.tmod (@Go.IntKind.wrap Go.IntKind.i64 (Nat.cast (@BitVec.toNat (@Go.IntKind.bits Go.IntKind.i64) (@HAnd.hAnd (@BitVec (@Go.IntKind.bits Go.IntKind.i64)) (@BitVec (@Go.IntKind.bits Go.IntKind.i64)) (@BitVec (@Go.IntKind.bits Go.IntKind.i64)) _ (@BitVec.ofInt (@Go.IntKind.bits Go.IntKind.i64) (@Go.Proofs.Ytnkhnogdiphboaa.Sx.Deed6D.id (@List.getD Go.Proofs.Ytnkhnogdiphboaa.Sx.Deed6D x (@Int.toNat (Nat.cast (@Go.Proofs.Ytnkhnogdiphboaa.Ses.OrdS.i x6) : Int)) (@Go.Proofs.Ytnkhnogdiphboaa.Sx.Deed6D.mk (0 : Int) (0 : Int) (0 : Int) (@List.nil UInt8) Go.Proofs.Ytnkhnogdiphboaa.Sx.VerdictD.dflt)))) (@BitVec.ofInt (@Go.IntKind.bits Go.IntKind.i64) (255 : Int)))) : Int)) (Nat.cast (@List.length Int (@Go.Proofs.Ytnkhnogdiphboaa.Ses.OrdS.o x6)) : Int)))) (@Int.ofNat (0 : Nat))) (0 : Int)) _)
 ((∃ x27 : Nat,
 ((@Eq Int (0 : Int) (Nat.cast x27 : Int)) ∧
 ((@Eq Nat (0 : Nat) (@List.length Int (@Go.Proofs.Ytnkhnogdiphboaa.Ses.notOf (@List.getD Int (@Go.Proofs.Ytnkhnogdiphboaa.Ses.OrdS.o x6) (@HAdd.hAdd Nat Nat Nat _ (0 : Nat) (@Int.toNat (@Int.tmod (@Go.IntKind.wrap Go.IntKind.i64 (Nat.cast (@BitVec.toNat (@Go.IntKind.bits Go.IntKind.i64) (@HAnd.hAnd (@BitVec (@Go.IntKind.bits Go.IntKind.i64)) (@BitVec (@Go.IntKind.bits Go.IntKind.i64)) (@BitVec (@Go.IntKind.bits Go.IntKind.i64)) _ (@BitVec.ofInt (@Go.IntKind.bits Go.IntKind.i64) (@Go.Proofs.Ytnkhnogdiphboaa.Sx.Deed6D.id (@List.getD Go.Proofs.Ytnkhnogdiphboaa.Sx.Deed6D x (@Int.toNat (Nat.cast (@Go.Proofs.Ytnkhnogdiphboaa.Ses.OrdS.i x6) : Int)) (@Go.Proofs.Ytnkhnogdiphboaa.Sx.Deed6D.mk (0 : Int) (0 : Int) (0 : Int) (@List.nil UInt8) Go.Proofs.Ytnkhnogdiphboaa.Sx.VerdictD.dflt)))) (@BitVec.ofInt (@Go.IntKind.bits Go.IntKind.i64) (255 : Int)))) : Int)) (Nat.cast (@List.length Int (@Go.Proofs.Ytnkhnogdiphboaa.Ses.OrdS.o x6)) : Int)))) (@Int.ofNat (0 : Nat))) (@List.take Int x27 (@Go.Proofs.Ytnkhnogdiphboaa.Ses.OrdS.o x6))))) ∧
 ((@Eq (@List Int) (@List.nil Int) (@Go.Proofs.Ytnkhnogdiphboaa.Ses.notOf (@List.getD Int (@Go.Proofs.Ytnkhnogdiphboaa.Ses.OrdS.o x6) (@HAdd.hAdd Nat Nat Nat _ (0 : Nat) (@Int.toNat (@Int.tmod (@Go.IntKind.wrap Go.IntKind.i64 (Nat.cast (@BitVec.toNat (@Go.IntKind.bits Go.IntKind.i64) (@HAnd.hAnd (@BitVec (@Go.IntKind.bits Go.IntKind.i64)) (@BitVec (@Go.IntKind.bits Go.IntKind.i64)) (@BitVec (@Go.IntKind.bits Go.IntKind.i64)) _ (@BitVec.ofInt (@Go.IntKind.bits Go.IntKind.i64) (@Go.Proofs.Ytnkhnogdiphboaa.Sx.Deed6D.id (@List.getD Go.Proofs.Ytnkhnogdiphboaa.Sx.Deed6D x (@Int.toNat (Nat.cast (@Go.Proofs.Ytnkhnogdiphboaa.Ses.OrdS.i x6) : Int)) (@Go.Proofs.Ytnkhnogdiphboaa.Sx.Deed6D.mk (0 : Int) (0 : Int) (0 : Int) (@List.nil UInt8) Go.Proofs.Ytnkhnogdiphboaa.Sx.VerdictD.dflt)))) (@BitVec.ofInt (@Go.IntKind.bits Go.IntKind.i64) (255 : Int)))) : Int)) (Nat.cast (@List.length Int (@Go.Proofs.Ytnkhnogdiphboaa.Ses.OrdS.o x6)) : Int)))) (@Int.ofNat (0 : Nat))) (@List.take Int x27 (@Go.Proofs.Ytnkhnogdiphboaa.Ses.OrdS.o x6)))) ∧
 (@Nat.le x27 (@List.length Int (@Go.Proofs.Ytnkhnogdiphboaa.Ses.OrdS.o x6))))))) ∧
 (∀ x28 : Nat,
 ((@Nat.le x28 (@List.length Int (@Go.Proofs.Ytnkhnogdiphboaa.Ses.OrdS.o x6))) →
 ((@LE.le Nat _ (@HMul.hMul Nat Nat Nat _ (@List.length Int (@Go.Proofs.Ytnkhnogdiphboaa.Ses.OrdS.o x6)) (8 : Nat)) Go.Proofs.Ytnkhnogdiphboaa.Sx.room47) →
 (br (@Decidable.decide (@LT.lt Int _ (Nat.cast x28 : Int) (Nat.cast (@List.length Int (@Go.Proofs.Ytnkhnogdiphboaa.Ses.OrdS.o x6)) : Int)) _)
 (br (@Decidable.decide ((@LE.le Int _ (0 : Int) (Nat.cast x28 : Int)) ∧
 (@LT.lt Int _ (Nat.cast x28 : Int) (Nat.cast (@List.length Int (@Go.Proofs.Ytnkhnogdiphboaa.Ses.OrdS.o x6)) : Int))) _)
 (br (@Decidable.decide (@LT.lt Nat _ (@HAdd.hAdd Nat Nat Nat _ (0 : Nat) (@Int.toNat (Nat.cast x28 : Int))) (@List.length Int (@Go.Proofs.Ytnkhnogdiphboaa.Ses.OrdS.o x6))) _)
 (br (@bne Int _ (@List.getD Int (@Go.Proofs.Ytnkhnogdiphboaa.Ses.OrdS.o x6) (@HAdd.hAdd Nat Nat Nat _ (0 : Nat) (@Int.toNat (Nat.cast x28 : Int))) (@Int.ofNat (0 : Nat))) (@List.getD Int (@Go.Proofs.Ytnkhnogdiphboaa.Ses.OrdS.o x6) (@HAdd.hAdd Nat Nat Nat _ (0 : Nat) (@Int.toNat (@Int.tmod (@Go.IntKind.wrap Go.IntKind.i64 (Nat.cast (@BitVec.toNat (@Go.IntKind.bits Go.IntKind.i64) (@HAnd.hAnd (@BitVec (@Go.IntKind.bits Go.IntKind.i64)) (@BitVec (@Go.IntKind.bits Go.IntKind.i64)) (@BitVec (@Go.IntKind.bits Go.IntKind.i64)) _ (@BitVec.ofInt (@Go.IntKind.bits Go.IntKind.i64) (@Go.Proofs.Ytnkhnogdiphboaa.Sx.Deed6D.id (@List.getD Go.Proofs.Ytnkhnogdiphboaa.Sx.Deed6D x (@Int.toNat (Nat.cast (@Go.Proofs.Ytnkhnogdiphboaa.Ses.OrdS.i x6) : Int)) (@Go.Proofs.Ytnkhnogdiphboaa.Sx.Deed6D.mk (0 : Int) (0 : Int) (0 : Int) (@List.nil UInt8) Go.Proofs.Ytnkhnogdiphboaa.Sx.VerdictD.dflt)))) (@BitVec.ofInt (@Go.IntKind.bits Go.IntKind.i64) (255 : Int)))) : Int)) (Nat.cast (@List.length Int (@Go.Proofs.Ytnkhnogdiphboaa.Ses.OrdS.o x6)) : Int)))) (@Int.ofNat (0 : Nat))))
 (br (@Decidable.decide ((@LE.le Int _ (0 : Int) (Nat.cast x28 : Int)) ∧
 (@LT.lt Int _ (Nat.cast x28 : Int) (Nat.cast (@List.length Int (@Go.Proofs.Ytnkhnogdiphboaa.Ses.OrdS.o x6)) : Int))) _)
 (br (@Decidable.decide (@LT.lt Nat _ (@HAdd.hAdd Nat Nat Nat _ (0 : Nat) (@Int.toNat (Nat.cast x28 : Int))) (@List.length Int (@Go.Proofs.Ytnkhnogdiphboaa.Ses.OrdS.o x6))) _)
 (((@Nat.le (@HMul.hMul Nat Nat Nat _ (@List.length Int (@Go.Proofs.Ytnkhnogdiphboaa.Ses.notOf (@List.getD Int (@Go.Proofs.Ytnkhnogdiphboaa.Ses.OrdS.o x6) (@HAdd.hAdd Nat Nat Nat _ (0 : Nat) (@Int.toNat (@Int.tmod (@Go.IntKind.wrap Go.IntKind.i64 (Nat.cast (@BitVec.toNat (@Go.IntKind.bits Go.IntKind.i64) (@HAnd.hAnd (@BitVec (@Go.IntKind.bits Go.IntKind.i64)) (@BitVec (@Go.IntKind.bits Go.IntKind.i64)) (@BitVec (@Go.IntKind.bits Go.IntKind.i64)) _ (@BitVec.ofInt (@Go.IntKind.bits Go.IntKind.i64) (@Go.Proofs.Ytnkhnogdiphboaa.Sx.Deed6D.id (@List.getD Go.Proofs.Ytnkhnogdiphboaa.Sx.Deed6D x (@Int.toNat (Nat.cast (@Go.Proofs.Ytnkhnogdiphboaa.Ses.OrdS.i x6) : Int)) (@Go.Proofs.Ytnkhnogdiphboaa.Sx.Deed6D.mk (0 : Int) (0 : Int) (0 : Int) (@List.nil UInt8) Go.Proofs.Ytnkhnogdiphboaa.Sx.VerdictD.dflt)))) (@BitVec.ofInt (@Go.IntKind.bits Go.IntKind.i64) (255 : Int)))) : Int)) (Nat.cast (@List.length Int (@Go.Proofs.Ytnkhnogdiphboaa.Ses.OrdS.o x6)) : Int)))) (@Int.ofNat (0 : Nat))) (@List.take Int x28 (@Go.Proofs.Ytnkhnogdiphboaa.Ses.OrdS.o x6)))) (8 : Nat)) Go.Proofs.Ytnkhnogdiphboaa.Sx.room47) ∧
 (@Nat.le (@HMul.hMul Nat Nat Nat _ (1 : Nat) (8 : Nat)) Go.Proofs.Ytnkhnogdiphboaa.Sx.room47)) →
 (br (@Bool.and (@Bool.and (@Decidable.decide (@LE.le Nat _ (@HAdd.hAdd Nat Nat Nat _ (0 : Nat) (1 : Nat)) (@List.length Int (@List.cons Int (@List.getD Int (@Go.Proofs.Ytnkhnogdiphboaa.Ses.OrdS.o x6) (@HAdd.hAdd Nat Nat Nat _ (0 : Nat) (@Int.toNat (Nat.cast x28 : Int))) (@Int.ofNat (0 : Nat))) (@List.nil Int)))) _) (@Decidable.decide (@LE.le Nat _ (@HAdd.hAdd Nat Nat Nat _ (0 : Nat) (@List.length Int (@Go.Proofs.Ytnkhnogdiphboaa.Ses.notOf (@List.getD Int (@Go.Proofs.Ytnkhnogdiphboaa.Ses.OrdS.o x6) (@HAdd.hAdd Nat Nat Nat _ (0 : Nat) (@Int.toNat (@Int.tmod (@Go.IntKind.wrap Go.IntKind.i64 (Nat.cast (@BitVec.toNat (@Go.IntKind.bits Go.IntKind.i64) (@HAnd.hAnd (@BitVec (@Go.IntKind.bits Go.IntKind.i64)) (@BitVec (@Go.IntKind.bits Go.IntKind.i64)) (@BitVec (@Go.IntKind.bits Go.IntKind.i64)) _ (@BitVec.ofInt (@Go.IntKind.bits Go.IntKind.i64) (@Go.Proofs.Ytnkhnogdiphboaa.Sx.Deed6D.id (@List.getD Go.Proofs.Ytnkhnogdiphboaa.Sx.Deed6D x (@Int.toNat (Nat.cast (@Go.Proofs.Ytnkhnogdiphboaa.Ses.OrdS.i x6) : Int)) (@Go.Proofs.Ytnkhnogdiphboaa.Sx.Deed6D.mk (0 : Int) (0 : Int) (0 : Int) (@List.nil UInt8) Go.Proofs.Ytnkhnogdiphboaa.Sx.VerdictD.dflt)))) (@BitVec.ofInt (@Go.IntKind.bits Go.IntKind.i64) (255 : Int)))) : Int)) (Nat.cast (@List.length Int (@Go.Proofs.Ytnkhnogdiphboaa.Ses.OrdS.o x6)) : Int)))) (@Int.ofNat (0 : Nat))) (@List.take Int x28 (@Go.Proofs.Ytnkhnogdiphboaa.Ses.OrdS.o x6))))) (@List.length Int (@Go.Proofs.Ytnkhnogdiphboaa.Ses.notOf (@List.getD Int (@Go.Proofs.Ytnkhnogdiphboaa.Ses.OrdS.o x6) (@HAdd.hAdd Nat Nat Nat _ (0 : Nat) (@Int.toNat (@Int.tmod (@Go.IntKind.wrap Go.IntKind.i64 (Nat.cast (@BitVec.toNat (@Go.IntKind.bits Go.IntKind.i64) (@HAnd.hAnd (@BitVec (@Go.IntKind.bits Go.IntKind.i64)) (@BitVec (@Go.IntKind.bits Go.IntKind.i64)) (@BitVec (@Go.IntKind.bits Go.IntKind.i64)) _ (@BitVec.ofInt (@Go.IntKind.bits Go.IntKind.i64) (@Go.Proofs.Ytnkhnogdiphboaa.Sx.Deed6D.id (@List.getD Go.Proofs.Ytnkhnogdiphboaa.Sx.Deed6D x (@Int.toNat (Nat.cast (@Go.Proofs.Ytnkhnogdiphboaa.Ses.OrdS.i x6) : Int)) (@Go.Proofs.Ytnkhnogdiphboaa.Sx.Deed6D.mk (0 : Int) (0 : Int) (0 : Int) (@List.nil UInt8) Go.Proofs.Ytnkhnogdiphboaa.Sx.VerdictD.dflt)))) (@BitVec.ofInt (@Go.IntKind.bits Go.IntKind.i64) (255 : Int)))) : Int)) (Nat.cast (@List.length Int (@Go.Proofs.Ytnkhnogdiphboaa.Ses.OrdS.o x6)) : Int)))) (@Int.ofNat (0 : Nat))) (@List.take Int x28 (@Go.Proofs.Ytnkhnogdiphboaa.Ses.OrdS.o x6))))) _)) (@Decidable.decide (@LE.le Nat _ (@HMul.hMul Nat Nat Nat _ (@HAdd.hAdd Nat Nat Nat _ (@List.length Int (@Go.Proofs.Ytnkhnogdiphboaa.Ses.notOf (@List.getD Int (@Go.Proofs.Ytnkhnogdiphboaa.Ses.OrdS.o x6) (@HAdd.hAdd Nat Nat Nat _ (0 : Nat) (@Int.toNat (@Int.tmod (@Go.IntKind.wrap Go.IntKind.i64 (Nat.cast (@BitVec.toNat (@Go.IntKind.bits Go.IntKind.i64) (@HAnd.hAnd (@BitVec (@Go.IntKind.bits Go.IntKind.i64)) (@BitVec (@Go.IntKind.bits Go.IntKind.i64)) (@BitVec (@Go.IntKind.bits Go.IntKind.i64)) _ (@BitVec.ofInt (@Go.IntKind.bits Go.IntKind.i64) (@Go.Proofs.Ytnkhnogdiphboaa.Sx.Deed6D.id (@List.getD Go.Proofs.Ytnkhnogdiphboaa.Sx.Deed6D x (@Int.toNat (Nat.cast (@Go.Proofs.Ytnkhnogdiphboaa.Ses.OrdS.i x6) : Int)) (@Go.Proofs.Ytnkhnogdiphboaa.Sx.Deed6D.mk (0 : Int) (0 : Int) (0 : Int) (@List.nil UInt8) Go.Proofs.Ytnkhnogdiphboaa.Sx.VerdictD.dflt)))) (@BitVec.ofInt (@Go.IntKind.bits Go.IntKind.i64) (255 : Int)))) : Int)) (Nat.cast (@List.length Int (@Go.Proofs.Ytnkhnogdiphboaa.Ses.OrdS.o x6)) : Int)))) (@Int.ofNat (0 : Nat))) (@List.take Int x28 (@Go.Proofs.Ytnkhnogdiphboaa.Ses.OrdS.o x6)))) (@List.length Int (@List.take Int (1 : Nat) (@List.drop Int (0 : Nat) (@List.cons Int (@List.getD Int (@Go.Proofs.Ytnkhnogdiphboaa.Ses.OrdS.o x6) (@HAdd.hAdd Nat Nat Nat _ (0 : Nat) (@Int.toNat (Nat.cast x28 : Int))) (@Int.ofNat (0 : Nat))) (@List.nil Int)))))) (8 : Nat)) Go.Proofs.Ytnkhnogdiphboaa.Sx.room47) _))
 (∃ x29 : Nat,
 ((@Eq Int (@Go.IntKind.wrap Go.IntKind.i64 (@HAdd.hAdd Int Int Int _ (Nat.cast x28 : Int) (1 : Int))) (Nat.cast x29 : Int)) ∧
 ((@Eq Nat (0 : Nat) (0 : Nat)) ∧
 ((@Eq Nat (@HAdd.hAdd Nat Nat Nat _ (@List.length Int (@Go.Proofs.Ytnkhnogdiphboaa.Ses.notOf (@List.getD Int (@Go.Proofs.Ytnkhnogdiphboaa.Ses.OrdS.o x6) (@HAdd.hAdd Nat Nat Nat _ (0 : Nat) (@Int.toNat (@Int.tmod (@Go.IntKind.wrap Go.IntKind.i64 (Nat.cast (@BitVec.toNat (@Go.IntKind.bits Go.IntKind.i64) (@HAnd.hAnd (@BitVec (@Go.IntKind.bits Go.IntKind.i64)) (@BitVec (@Go.IntKind.bits Go.IntKind.i64)) (@BitVec (@Go.IntKind.bits Go.IntKind.i64)) _ (@BitVec.ofInt (@Go.IntKind.bits Go.IntKind.i64) (@Go.Proofs.Ytnkhnogdiphboaa.Sx.Deed6D.id (@List.getD Go.Proofs.Ytnkhnogdiphboaa.Sx.Deed6D x (@Int.toNat (Nat.cast (@Go.Proofs.Ytnkhnogdiphboaa.Ses.OrdS.i x6) : Int)) (@Go.Proofs.Ytnkhnogdiphboaa.Sx.Deed6D.mk (0 : Int) (0 : Int) (0 : Int) (@List.nil UInt8) Go.Proofs.Ytnkhnogdiphboaa.Sx.VerdictD.dflt)))) (@BitVec.ofInt (@Go.IntKind.bits Go.IntKind.i64) (255 : Int)))) : Int)) (Nat.cast (@List.length Int (@Go.Proofs.Ytnkhnogdiphboaa.Ses.OrdS.o x6)) : Int)))) (@Int.ofNat (0 : Nat))) (@List.take Int x28 (@Go.Proofs.Ytnkhnogdiphboaa.Ses.OrdS.o x6)))) (@List.length Int (@List.take Int (1 : Nat) (@List.drop Int (0 : Nat) (@List.cons Int (@List.getD Int (@Go.Proofs.Ytnkhnogdiphboaa.Ses.OrdS.o x6) (@HAdd.hAdd Nat Nat Nat _ (0 : Nat) (@Int.toNat (Nat.cast x28 : Int))) (@Int.ofNat (0 : Nat))) (@List.nil Int)))))) (@List.length Int (@Go.Proofs.Ytnkhnogdiphboaa.Ses.notOf (@List.getD Int (@Go.Proofs.Ytnkhnogdiphboaa.Ses.OrdS.o x6) (@HAdd.hAdd Nat Nat Nat _ (0 : Nat) (@Int.toNat (@Int.tmod (@Go.IntKind.wrap Go.IntKind.i64 (Nat.cast (@BitVec.toNat (@Go.IntKind.bits Go.IntKind.i64) (@HAnd.hAnd (@BitVec (@Go.IntKind.bits Go.IntKind.i64)) (@BitVec (@Go.IntKind.bits Go.IntKind.i64)) (@BitVec (@Go.IntKind.bits Go.IntKind.i64)) _ (@BitVec.ofInt (@Go.IntKind.bits Go.IntKind.i64) (@Go.Proofs.Ytnkhnogdiphboaa.Sx.Deed6D.id (@List.getD Go.Proofs.Ytnkhnogdiphboaa.Sx.Deed6D x (@Int.toNat (Nat.cast (@Go.Proofs.Ytnkhnogdiphboaa.Ses.OrdS.i x6) : Int)) (@Go.Proofs.Ytnkhnogdiphboaa.Sx.Deed6D.mk (0 : Int) (0 : Int) (0 : Int) (@List.nil UInt8) Go.Proofs.Ytnkhnogdiphboaa.Sx.VerdictD.dflt)))) (@BitVec.ofInt (@Go.IntKind.bits Go.IntKind.i64) (255 : Int)))) : Int)) (Nat.cast (@List.length Int (@Go.Proofs.Ytnkhnogdiphboaa.Ses.OrdS.o x6)) : Int)))) (@Int.ofNat (0 : Nat))) (@List.take Int x29 (@Go.Proofs.Ytnkhnogdiphboaa.Ses.OrdS.o x6))))) ∧
 ((@Eq (@List Int) (@HAppend.hAppend (@List Int) (@List Int) (@List Int) _ (@List.take Int (@List.length Int (@Go.Proofs.Ytnkhnogdiphboaa.Ses.notOf (@List.getD Int (@Go.Proofs.Ytnkhnogdiphboaa.Ses.OrdS.o x6) (@HAdd.hAdd Nat Nat Nat _ (0 : Nat) (@Int.toNat (@Int.tmod (@Go.IntKind.wrap Go.IntKind.i64 (Nat.cast (@BitVec.toNat (@Go.IntKind.bits Go.IntKind.i64) (@HAnd.hAnd (@BitVec (@Go.IntKind.bits Go.IntKind.i64)) (@BitVec (@Go.IntKind.bits Go.IntKind.i64)) (@BitVec (@Go.IntKind.bits Go.IntKind.i64)) _ (@BitVec.ofInt (@Go.IntKind.bits Go.IntKind.i64) (@Go.Proofs.Ytnkhnogdiphboaa.Sx.Deed6D.id (@List.getD Go.Proofs.Ytnkhnogdiphboaa.Sx.Deed6D x (@Int.toNat (Nat.cast (@Go.Proofs.Ytnkhnogdiphboaa.Ses.OrdS.i x6) : Int)) (@Go.Proofs.Ytnkhnogdiphboaa.Sx.Deed6D.mk (0 : Int) (0 : Int) (0 : Int) (@List.nil UInt8) Go.Proofs.Ytnkhnogdiphboaa.Sx.VerdictD.dflt)))) (@BitVec.ofInt (@Go.IntKind.bits Go.IntKind.i64) (255 : Int)))) : Int)) (Nat.cast (@List.length Int (@Go.Proofs.Ytnkhnogdiphboaa.Ses.OrdS.o x6)) : Int)))) (@Int.ofNat (0 : Nat))) (@List.take Int x28 (@Go.Proofs.Ytnkhnogdiphboaa.Ses.OrdS.o x6)))) (@List.drop Int (0 : Nat) (@Go.Proofs.Ytnkhnogdiphboaa.Ses.notOf (@List.getD Int (@Go.Proofs.Ytnkhnogdiphboaa.Ses.OrdS.o x6) (@HAdd.hAdd Nat Nat Nat _ (0 : Nat) (@Int.toNat (@Int.tmod (@Go.IntKind.wrap Go.IntKind.i64 (Nat.cast (@BitVec.toNat (@Go.IntKind.bits Go.IntKind.i64) (@HAnd.hAnd (@BitVec (@Go.IntKind.bits Go.IntKind.i64)) (@BitVec (@Go.IntKind.bits Go.IntKind.i64)) (@BitVec (@Go.IntKind.bits Go.IntKind.i64)) _ (@BitVec.ofInt (@Go.IntKind.bits Go.IntKind.i64) (@Go.Proofs.Ytnkhnogdiphboaa.Sx.Deed6D.id (@List.getD Go.Proofs.Ytnkhnogdiphboaa.Sx.Deed6D x (@Int.toNat (Nat.cast (@Go.Proofs.Ytnkhnogdiphboaa.Ses.OrdS.i x6) : Int)) (@Go.Proofs.Ytnkhnogdiphboaa.Sx.Deed6D.mk (0 : Int) (0 : Int) (0 : Int) (@List.nil UInt8) Go.Proofs.Ytnkhnogdiphboaa.Sx.VerdictD.dflt)))) (@BitVec.ofInt (@Go.IntKind.bits Go.IntKind.i64) (255 : Int)))) : Int)) (Nat.cast (@List.length Int (@Go.Proofs.Ytnkhnogdiphboaa.Ses.OrdS.o x6)) : Int)))) (@Int.ofNat (0 : Nat))) (@List.take Int x28 (@Go.Proofs.Ytnkhnogdiphboaa.Ses.OrdS.o x6))))) (@List.take Int (1 : Nat) (@List.drop Int (0 : Nat) (@List.cons Int (@List.getD Int (@Go.Proofs.Ytnkhnogdiphboaa.Ses.OrdS.o x6) (@HAdd.hAdd Nat Nat Nat _ (0 : Nat) (@Int.toNat (Nat.cast x28 : Int))) (@Int.ofNat (0 : Nat))) (@List.nil Int))))) (@Go.Proofs.Ytnkhnogdiphboaa.Ses.notOf (@List.getD Int (@Go.Proofs.Ytnkhnogdiphboaa.Ses.OrdS.o x6) (@HAdd.hAdd Nat Nat Nat _ (0 : Nat) (@Int.toNat (@Int.tmod (@Go.IntKind.wrap Go.IntKind.i64 (Nat.cast (@BitVec.toNat (@Go.IntKind.bits Go.IntKind.i64) (@HAnd.hAnd (@BitVec (@Go.IntKind.bits Go.IntKind.i64)) (@BitVec (@Go.IntKind.bits Go.IntKind.i64)) (@BitVec (@Go.IntKind.bits Go.IntKind.i64)) _ (@BitVec.ofInt (@Go.IntKind.bits Go.IntKind.i64) (@Go.Proofs.Ytnkhnogdiphboaa.Sx.Deed6D.id (@List.getD Go.Proofs.Ytnkhnogdiphboaa.Sx.Deed6D x (@Int.toNat (Nat.cast (@Go.Proofs.Ytnkhnogdiphboaa.Ses.OrdS.i x6) : Int)) (@Go.Proofs.Ytnkhnogdiphboaa.Sx.Deed6D.mk (0 : Int) (0 : Int) (0 : Int) (@List.nil UInt8) Go.Proofs.Ytnkhnogdiphboaa.Sx.VerdictD.dflt)))) (@BitVec.ofInt (@Go.IntKind.bits Go.IntKind.i64) (255 : Int)))) : Int)) (Nat.cast (@List.length Int (@Go.Proofs.Ytnkhnogdiphboaa.Ses.OrdS.o x6)) : Int)))) (@Int.ofNat (0 : Nat))) (@List.take Int x29 (@Go.Proofs.Ytnkhnogdiphboaa.Ses.OrdS.o x6)))) ∧
 ((@Nat.le x29 (@List.length Int (@Go.Proofs.Ytnkhnogdiphboaa.Ses.OrdS.o x6))) ∧
 (@LT.lt Nat _ (@Nat.sub (@List.length Int (@Go.Proofs.Ytnkhnogdiphboaa.Ses.OrdS.o x6)) x29) (@Nat.sub (@List.length Int (@Go.Proofs.Ytnkhnogdiphboaa.Ses.OrdS.o x6)) x28))))))))
 (Bad "check" "law.go:283")))
 (Bad "check" "law.go:283"))
 (Bad "check" "law.go:283"))
 (∃ x30 : Nat,
 ((@Eq Int (@Go.IntKind.wrap Go.IntKind.i64 (@HAdd.hAdd Int Int Int _ (Nat.cast x28 : Int) (1 : Int))) (Nat.cast x30 : Int)) ∧
 ((@Eq Nat (0 : Nat) (0 : Nat)) ∧
 ((@Eq Nat (@List.length Int (@Go.Proofs.Ytnkhnogdiphboaa.Ses.notOf (@List.getD Int (@Go.Proofs.Ytnkhnogdiphboaa.Ses.OrdS.o x6) (@HAdd.hAdd Nat Nat Nat _ (0 : Nat) (@Int.toNat (@Int.tmod (@Go.IntKind.wrap Go.IntKind.i64 (Nat.cast (@BitVec.toNat (@Go.IntKind.bits Go.IntKind.i64) (@HAnd.hAnd (@BitVec (@Go.IntKind.bits Go.IntKind.i64)) (@BitVec (@Go.IntKind.bits Go.IntKind.i64)) (@BitVec (@Go.IntKind.bits Go.IntKind.i64)) _ (@BitVec.ofInt (@Go.IntKind.bits Go.IntKind.i64) (@Go.Proofs.Ytnkhnogdiphboaa.Sx.Deed6D.id (@List.getD Go.Proofs.Ytnkhnogdiphboaa.Sx.Deed6D x (@Int.toNat (Nat.cast (@Go.Proofs.Ytnkhnogdiphboaa.Ses.OrdS.i x6) : Int)) (@Go.Proofs.Ytnkhnogdiphboaa.Sx.Deed6D.mk (0 : Int) (0 : Int) (0 : Int) (@List.nil UInt8) Go.Proofs.Ytnkhnogdiphboaa.Sx.VerdictD.dflt)))) (@BitVec.ofInt (@Go.IntKind.bits Go.IntKind.i64) (255 : Int)))) : Int)) (Nat.cast (@List.length Int (@Go.Proofs.Ytnkhnogdiphboaa.Ses.OrdS.o x6)) : Int)))) (@Int.ofNat (0 : Nat))) (@List.take Int x28 (@Go.Proofs.Ytnkhnogdiphboaa.Ses.OrdS.o x6)))) (@List.length Int (@Go.Proofs.Ytnkhnogdiphboaa.Ses.notOf (@List.getD Int (@Go.Proofs.Ytnkhnogdiphboaa.Ses.OrdS.o x6) (@HAdd.hAdd Nat Nat Nat _ (0 : Nat) (@Int.toNat (@Int.tmod (@Go.IntKind.wrap Go.IntKind.i64 (Nat.cast (@BitVec.toNat (@Go.IntKind.bits Go.IntKind.i64) (@HAnd.hAnd (@BitVec (@Go.IntKind.bits Go.IntKind.i64)) (@BitVec (@Go.IntKind.bits Go.IntKind.i64)) (@BitVec (@Go.IntKind.bits Go.IntKind.i64)) _ (@BitVec.ofInt (@Go.IntKind.bits Go.IntKind.i64) (@Go.Proofs.Ytnkhnogdiphboaa.Sx.Deed6D.id (@List.getD Go.Proofs.Ytnkhnogdiphboaa.Sx.Deed6D x (@Int.toNat (Nat.cast (@Go.Proofs.Ytnkhnogdiphboaa.Ses.OrdS.i x6) : Int)) (@Go.Proofs.Ytnkhnogdiphboaa.Sx.Deed6D.mk (0 : Int) (0 : Int) (0 : Int) (@List.nil UInt8) Go.Proofs.Ytnkhnogdiphboaa.Sx.VerdictD.dflt)))) (@BitVec.ofInt (@Go.IntKind.bits Go.IntKind.i64) (255 : Int)))) : Int)) (Nat.cast (@List.length Int (@Go.Proofs.Ytnkhnogdiphboaa.Ses.OrdS.o x6)) : Int)))) (@Int.ofNat (0 : Nat))) (@List.take Int x30 (@Go.Proofs.Ytnkhnogdiphboaa.Ses.OrdS.o x6))))) ∧
 ((@Eq (@List Int) (@Go.Proofs.Ytnkhnogdiphboaa.Ses.notOf (@List.getD Int (@Go.Proofs.Ytnkhnogdiphboaa.Ses.OrdS.o x6) (@HAdd.hAdd Nat Nat Nat _ (0 : Nat) (@Int.toNat (@Int.tmod (@Go.IntKind.wrap Go.IntKind.i64 (Nat.cast (@BitVec.toNat (@Go.IntKind.bits Go.IntKind.i64) (@HAnd.hAnd (@BitVec (@Go.IntKind.bits Go.IntKind.i64)) (@BitVec (@Go.IntKind.bits Go.IntKind.i64)) (@BitVec (@Go.IntKind.bits Go.IntKind.i64)) _ (@BitVec.ofInt (@Go.IntKind.bits Go.IntKind.i64) (@Go.Proofs.Ytnkhnogdiphboaa.Sx.Deed6D.id (@List.getD Go.Proofs.Ytnkhnogdiphboaa.Sx.Deed6D x (@Int.toNat (Nat.cast (@Go.Proofs.Ytnkhnogdiphboaa.Ses.OrdS.i x6) : Int)) (@Go.Proofs.Ytnkhnogdiphboaa.Sx.Deed6D.mk (0 : Int) (0 : Int) (0 : Int) (@List.nil UInt8) Go.Proofs.Ytnkhnogdiphboaa.Sx.VerdictD.dflt)))) (@BitVec.ofInt (@Go.IntKind.bits Go.IntKind.i64) (255 : Int)))) : Int)) (Nat.cast (@List.length Int (@Go.Proofs.Ytnkhnogdiphboaa.Ses.OrdS.o x6)) : Int)))) (@Int.ofNat (0 : Nat))) (@List.take Int x28 (@Go.Proofs.Ytnkhnogdiphboaa.Ses.OrdS.o x6))) (@Go.Proofs.Ytnkhnogdiphboaa.Ses.notOf (@List.getD Int (@Go.Proofs.Ytnkhnogdiphboaa.Ses.OrdS.o x6) (@HAdd.hAdd Nat Nat Nat _ (0 : Nat) (@Int.toNat (@Int.tmod (@Go.IntKind.wrap Go.IntKind.i64 (Nat.cast (@BitVec.toNat (@Go.IntKind.bits Go.IntKind.i64) (@HAnd.hAnd (@BitVec (@Go.IntKind.bits Go.IntKind.i64)) (@BitVec (@Go.IntKind.bits Go.IntKind.i64)) (@BitVec (@Go.IntKind.bits Go.IntKind.i64)) _ (@BitVec.ofInt (@Go.IntKind.bits Go.IntKind.i64) (@Go.Proofs.Ytnkhnogdiphboaa.Sx.Deed6D.id (@List.getD Go.Proofs.Ytnkhnogdiphboaa.Sx.Deed6D x (@Int.toNat (Nat.cast (@Go.Proofs.Ytnkhnogdiphboaa.Ses.OrdS.i x6) : Int)) (@Go.Proofs.Ytnkhnogdiphboaa.Sx.Deed6D.mk (0 : Int) (0 : Int) (0 : Int) (@List.nil UInt8) Go.Proofs.Ytnkhnogdiphboaa.Sx.VerdictD.dflt)))) (@BitVec.ofInt (@Go.IntKind.bits Go.IntKind.i64) (255 : Int)))) : Int)) (Nat.cast (@List.length Int (@Go.Proofs.Ytnkhnogdiphboaa.Ses.OrdS.o x6)) : Int)))) (@Int.ofNat (0 : Nat))) (@List.take Int x30 (@Go.Proofs.Ytnkhnogdiphboaa.Ses.OrdS.o x6)))) ∧
 ((@Nat.le x30 (@List.length Int (@Go.Proofs.Ytnkhnogdiphboaa.Ses.OrdS.o x6))) ∧
 (@LT.lt Nat _ (@Nat.sub (@List.length Int (@Go.Proofs.Ytnkhnogdiphboaa.Ses.OrdS.o x6)) x30) (@Nat.sub (@List.length Int (@Go.Proofs.Ytnkhnogdiphboaa.Ses.OrdS.o x6)) x28)))))))))
 (Bad "check" "law.go:282"))
 (Bad "check" "law.go:282"))
 (((@Nat.le (@HMul.hMul Nat Nat Nat _ (@List.length Int (@Go.Proofs.Ytnkhnogdiphboaa.Ses.notOf (@List.getD Int (@Go.Proofs.Ytnkhnogdiphboaa.Ses.OrdS.o x6) (@HAdd.hAdd Nat Nat Nat _ (0 : Nat) (@Int.toNat (@Int.tmod (@Go.IntKind.wrap Go.IntKind.i64 (Nat.cast (@BitVec.toNat (@Go.IntKind.bits Go.IntKind.i64) (@HAnd.hAnd (@BitVec (@Go.IntKind.bits Go.IntKind.i64)) (@BitVec (@Go.IntKind.bits Go.IntKind.i64)) (@BitVec (@Go.IntKind.bits Go.IntKind.i64)) _ (@BitVec.ofInt (@Go.IntKind.bits Go.IntKind.i64) (@Go.Proofs.Ytnkhnogdiphboaa.Sx.Deed6D.id (@List.getD Go.Proofs.Ytnkhnogdiphboaa.Sx.Deed6D x (@Int.toNat (Nat.cast (@Go.Proofs.Ytnkhnogdiphboaa.Ses.OrdS.i x6) : Int)) (@Go.Proofs.Ytnkhnogdiphboaa.Sx.Deed6D.mk (0 : Int) (0 : Int) (0 : Int) (@List.nil UInt8) Go.Proofs.Ytnkhnogdiphboaa.Sx.VerdictD.dflt)))) (@BitVec.ofInt (@Go.IntKind.bits Go.IntKind.i64) (255 : Int)))) : Int)) (Nat.cast (@List.length Int (@Go.Proofs.Ytnkhnogdiphboaa.Ses.OrdS.o x6)) : Int)))) (@Int.ofNat (0 : Nat))) (@List.take Int x28 (@Go.Proofs.Ytnkhnogdiphboaa.Ses.OrdS.o x6)))) (8 : Nat)) Go.Proofs.Ytnkhnogdiphboaa.Sx.room47) ∧
 (@Nat.le (@HMul.hMul Nat Nat Nat _ (1 : Nat) (8 : Nat)) Go.Proofs.Ytnkhnogdiphboaa.Sx.room47)) →
 (br (@Bool.and (@Bool.and (@Decidable.decide (@LE.le Nat _ (@HAdd.hAdd Nat Nat Nat _ (0 : Nat) (1 : Nat)) (@List.length Int (@List.cons Int (@List.getD Int (@Go.Proofs.Ytnkhnogdiphboaa.Ses.OrdS.o x6) (@HAdd.hAdd Nat Nat Nat _ (0 : Nat) (@Int.toNat (@Int.tmod (@Go.IntKind.wrap Go.IntKind.i64 (Nat.cast (@BitVec.toNat (@Go.IntKind.bits Go.IntKind.i64) (@HAnd.hAnd (@BitVec (@Go.IntKind.bits Go.IntKind.i64)) (@BitVec (@Go.IntKind.bits Go.IntKind.i64)) (@BitVec (@Go.IntKind.bits Go.IntKind.i64)) _ (@BitVec.ofInt (@Go.IntKind.bits Go.IntKind.i64) (@Go.Proofs.Ytnkhnogdiphboaa.Sx.Deed6D.id (@List.getD Go.Proofs.Ytnkhnogdiphboaa.Sx.Deed6D x (@Int.toNat (Nat.cast (@Go.Proofs.Ytnkhnogdiphboaa.Ses.OrdS.i x6) : Int)) (@Go.Proofs.Ytnkhnogdiphboaa.Sx.Deed6D.mk (0 : Int) (0 : Int) (0 : Int) (@List.nil UInt8) Go.Proofs.Ytnkhnogdiphboaa.Sx.VerdictD.dflt)))) (@BitVec.ofInt (@Go.IntKind.bits Go.IntKind.i64) (255 : Int)))) : Int)) (Nat.cast (@List.length Int (@Go.Proofs.Ytnkhnogdiphboaa.Ses.OrdS.o x6)) : Int)))) (@Int.ofNat (0 : Nat))) (@List.nil Int)))) _) (@Decidable.decide (@LE.le Nat _ (@HAdd.hAdd Nat Nat Nat _ (0 : Nat) (@List.length Int (@Go.Proofs.Ytnkhnogdiphboaa.Ses.notOf (@List.getD Int (@Go.Proofs.Ytnkhnogdiphboaa.Ses.OrdS.o x6) (@HAdd.hAdd Nat Nat Nat _ (0 : Nat) (@Int.toNat (@Int.tmod (@Go.IntKind.wrap Go.IntKind.i64 (Nat.cast (@BitVec.toNat (@Go.IntKind.bits Go.IntKind.i64) (@HAnd.hAnd (@BitVec (@Go.IntKind.bits Go.IntKind.i64)) (@BitVec (@Go.IntKind.bits Go.IntKind.i64)) (@BitVec (@Go.IntKind.bits Go.IntKind.i64)) _ (@BitVec.ofInt (@Go.IntKind.bits Go.IntKind.i64) (@Go.Proofs.Ytnkhnogdiphboaa.Sx.Deed6D.id (@List.getD Go.Proofs.Ytnkhnogdiphboaa.Sx.Deed6D x (@Int.toNat (Nat.cast (@Go.Proofs.Ytnkhnogdiphboaa.Ses.OrdS.i x6) : Int)) (@Go.Proofs.Ytnkhnogdiphboaa.Sx.Deed6D.mk (0 : Int) (0 : Int) (0 : Int) (@List.nil UInt8) Go.Proofs.Ytnkhnogdiphboaa.Sx.VerdictD.dflt)))) (@BitVec.ofInt (@Go.IntKind.bits Go.IntKind.i64) (255 : Int)))) : Int)) (Nat.cast (@List.length Int (@Go.Proofs.Ytnkhnogdiphboaa.Ses.OrdS.o x6)) : Int)))) (@Int.ofNat (0 : Nat))) (@List.take Int x28 (@Go.Proofs.Ytnkhnogdiphboaa.Ses.OrdS.o x6))))) (@List.length Int (@Go.Proofs.Ytnkhnogdiphboaa.Ses.notOf (@List.getD Int (@Go.Proofs.Ytnkhnogdiphboaa.Ses.OrdS.o x6) (@HAdd.hAdd Nat Nat Nat _ (0 : Nat) (@Int.toNat (@Int.tmod (@Go.IntKind.wrap Go.IntKind.i64 (Nat.cast (@BitVec.toNat (@Go.IntKind.bits Go.IntKind.i64) (@HAnd.hAnd (@BitVec (@Go.IntKind.bits Go.IntKind.i64)) (@BitVec (@Go.IntKind.bits Go.IntKind.i64)) (@BitVec (@Go.IntKind.bits Go.IntKind.i64)) _ (@BitVec.ofInt (@Go.IntKind.bits Go.IntKind.i64) (@Go.Proofs.Ytnkhnogdiphboaa.Sx.Deed6D.id (@List.getD Go.Proofs.Ytnkhnogdiphboaa.Sx.Deed6D x (@Int.toNat (Nat.cast (@Go.Proofs.Ytnkhnogdiphboaa.Ses.OrdS.i x6) : Int)) (@Go.Proofs.Ytnkhnogdiphboaa.Sx.Deed6D.mk (0 : Int) (0 : Int) (0 : Int) (@List.nil UInt8) Go.Proofs.Ytnkhnogdiphboaa.Sx.VerdictD.dflt)))) (@BitVec.ofInt (@Go.IntKind.bits Go.IntKind.i64) (255 : Int)))) : Int)) (Nat.cast (@List.length Int (@Go.Proofs.Ytnkhnogdiphboaa.Ses.OrdS.o x6)) : Int)))) (@Int.ofNat (0 : Nat))) (@List.take Int x28 (@Go.Proofs.Ytnkhnogdiphboaa.Ses.OrdS.o x6))))) _)) (@Decidable.decide (@LE.le Nat _ (@HMul.hMul Nat Nat Nat _ (@HAdd.hAdd Nat Nat Nat _ (@List.length Int (@Go.Proofs.Ytnkhnogdiphboaa.Ses.notOf (@List.getD Int (@Go.Proofs.Ytnkhnogdiphboaa.Ses.OrdS.o x6) (@HAdd.hAdd Nat Nat Nat _ (0 : Nat) (@Int.toNat (@Int.tmod (@Go.IntKind.wrap Go.IntKind.i64 (Nat.cast (@BitVec.toNat (@Go.IntKind.bits Go.IntKind.i64) (@HAnd.hAnd (@BitVec (@Go.IntKind.bits Go.IntKind.i64)) (@BitVec (@Go.IntKind.bits Go.IntKind.i64)) (@BitVec (@Go.IntKind.bits Go.IntKind.i64)) _ (@BitVec.ofInt (@Go.IntKind.bits Go.IntKind.i64) (@Go.Proofs.Ytnkhnogdiphboaa.Sx.Deed6D.id (@List.getD Go.Proofs.Ytnkhnogdiphboaa.Sx.Deed6D x (@Int.toNat (Nat.cast (@Go.Proofs.Ytnkhnogdiphboaa.Ses.OrdS.i x6) : Int)) (@Go.Proofs.Ytnkhnogdiphboaa.Sx.Deed6D.mk (0 : Int) (0 : Int) (0 : Int) (@List.nil UInt8) Go.Proofs.Ytnkhnogdiphboaa.Sx.VerdictD.dflt)))) (@BitVec.ofInt (@Go.IntKind.bits Go.IntKind.i64) (255 : Int)))) : Int)) (Nat.cast (@List.length Int (@Go.Proofs.Ytnkhnogdiphboaa.Ses.OrdS.o x6)) : Int)))) (@Int.ofNat (0 : Nat))) (@List.take Int x28 (@Go.Proofs.Ytnkhnogdiphboaa.Ses.OrdS.o x6)))) (@List.length Int (@List.take Int (1 : Nat) (@List.drop Int (0 : Nat) (@List.cons Int (@List.getD Int (@Go.Proofs.Ytnkhnogdiphboaa.Ses.OrdS.o x6) (@HAdd.hAdd Nat Nat Nat _ (0 : Nat) (@Int.toNat (@Int.tmod (@Go.IntKind.wrap Go.IntKind.i64 (Nat.cast (@BitVec.toNat (@Go.IntKind.bits Go.IntKind.i64) (@HAnd.hAnd (@BitVec (@Go.IntKind.bits Go.IntKind.i64)) (@BitVec (@Go.IntKind.bits Go.IntKind.i64)) (@BitVec (@Go.IntKind.bits Go.IntKind.i64)) _ (@BitVec.ofInt (@Go.IntKind.bits Go.IntKind.i64) (@Go.Proofs.Ytnkhnogdiphboaa.Sx.Deed6D.id (@List.getD Go.Proofs.Ytnkhnogdiphboaa.Sx.Deed6D x (@Int.toNat (Nat.cast (@Go.Proofs.Ytnkhnogdiphboaa.Ses.OrdS.i x6) : Int)) (@Go.Proofs.Ytnkhnogdiphboaa.Sx.Deed6D.mk (0 : Int) (0 : Int) (0 : Int) (@List.nil UInt8) Go.Proofs.Ytnkhnogdiphboaa.Sx.VerdictD.dflt)))) (@BitVec.ofInt (@Go.IntKind.bits Go.IntKind.i64) (255 : Int)))) : Int)) (Nat.cast (@List.length Int (@Go.Proofs.Ytnkhnogdiphboaa.Ses.OrdS.o x6)) : Int)))) (@Int.ofNat (0 : Nat))) (@List.nil Int)))))) (8 : Nat)) Go.Proofs.Ytnkhnogdiphboaa.Sx.room47) _))
 (∃ x31 : Go.Proofs.Ytnkhnogdiphboaa.Ses.TabA,
 ((@Eq Int (@Go.Proofs.Ytnkhnogdiphboaa.Ses.AskA.size x25) (@Go.Proofs.Ytnkhnogdiphboaa.Ses.TabA.size x31)) ∧
 ((@Eq Nat (0 : Nat) (0 : Nat)) ∧
 ((@Eq Nat (@List.length Go.Proofs.Ytnkhnogdiphboaa.Sx.SessionD (@Prod.snd (@Prod Go.Proofs.Ytnkhnogdiphboaa.Sx.VerdictD Bool) (@List Go.Proofs.Ytnkhnogdiphboaa.Sx.SessionD) (@Go.Proofs.Ytnkhnogdiphboaa.Ses.askL x25))) (@List.length Go.Proofs.Ytnkhnogdiphboaa.Sx.SessionD (@Go.Proofs.Ytnkhnogdiphboaa.Ses.TabA.l x31))) ∧
 ((@Eq (@List Go.Proofs.Ytnkhnogdiphboaa.Sx.SessionD) (@Prod.snd (@Prod Go.Proofs.Ytnkhnogdiphboaa.Sx.VerdictD Bool) (@List Go.Proofs.Ytnkhnogdiphboaa.Sx.SessionD) (@Go.Proofs.Ytnkhnogdiphboaa.Ses.askL x25)) (@Go.Proofs.Ytnkhnogdiphboaa.Ses.TabA.l x31)) ∧
 ((@Eq Bool (@Decidable.decide (@LT.lt Int _ (0 : Int) (@Go.Proofs.Ytnkhnogdiphboaa.Ses.TabA.size x31)) _) Bool.true) ∧
 (∀ x32 : Unit,
 (True →
 ((@LE.le Nat _ (@HMul.hMul Nat Nat Nat _ (@List.length Go.Proofs.Ytnkhnogdiphboaa.Sx.SessionD (@Go.Proofs.Ytnkhnogdiphboaa.Ses.TabA.l x31)) (112 : Nat)) Go.Proofs.Ytnkhnogdiphboaa.Sx.room47) →
 ((@LE.le Nat _ (@HMul.hMul Nat Nat Nat _ (@HAdd.hAdd Nat Nat Nat _ (@List.length Int (@Go.Proofs.Ytnkhnogdiphboaa.Ses.notOf (@List.getD Int (@Go.Proofs.Ytnkhnogdiphboaa.Ses.OrdS.o x6) (@HAdd.hAdd Nat Nat Nat _ (0 : Nat) (@Int.toNat (@Int.tmod (@Go.IntKind.wrap Go.IntKind.i64 (Nat.cast (@BitVec.toNat (@Go.IntKind.bits Go.IntKind.i64) (@HAnd.hAnd (@BitVec (@Go.IntKind.bits Go.IntKind.i64)) (@BitVec (@Go.IntKind.bits Go.IntKind.i64)) (@BitVec (@Go.IntKind.bits Go.IntKind.i64)) _ (@BitVec.ofInt (@Go.IntKind.bits Go.IntKind.i64) (@Go.Proofs.Ytnkhnogdiphboaa.Sx.Deed6D.id (@List.getD Go.Proofs.Ytnkhnogdiphboaa.Sx.Deed6D x (@Int.toNat (Nat.cast (@Go.Proofs.Ytnkhnogdiphboaa.Ses.OrdS.i x6) : Int)) (@Go.Proofs.Ytnkhnogdiphboaa.Sx.Deed6D.mk (0 : Int) (0 : Int) (0 : Int) (@List.nil UInt8) Go.Proofs.Ytnkhnogdiphboaa.Sx.VerdictD.dflt)))) (@BitVec.ofInt (@Go.IntKind.bits Go.IntKind.i64) (255 : Int)))) : Int)) (Nat.cast (@List.length Int (@Go.Proofs.Ytnkhnogdiphboaa.Ses.OrdS.o x6)) : Int)))) (@Int.ofNat (0 : Nat))) (@List.take Int x28 (@Go.Proofs.Ytnkhnogdiphboaa.Ses.OrdS.o x6)))) (@List.length Int (@List.take Int (1 : Nat) (@List.drop Int (0 : Nat) (@List.cons Int (@List.getD Int (@Go.Proofs.Ytnkhnogdiphboaa.Ses.OrdS.o x6) (@HAdd.hAdd Nat Nat Nat _ (0 : Nat) (@Int.toNat (@Int.tmod (@Go.IntKind.wrap Go.IntKind.i64 (Nat.cast (@BitVec.toNat (@Go.IntKind.bits Go.IntKind.i64) (@HAnd.hAnd (@BitVec (@Go.IntKind.bits Go.IntKind.i64)) (@BitVec (@Go.IntKind.bits Go.IntKind.i64)) (@BitVec (@Go.IntKind.bits Go.IntKind.i64)) _ (@BitVec.ofInt (@Go.IntKind.bits Go.IntKind.i64) (@Go.Proofs.Ytnkhnogdiphboaa.Sx.Deed6D.id (@List.getD Go.Proofs.Ytnkhnogdiphboaa.Sx.Deed6D x (@Int.toNat (Nat.cast (@Go.Proofs.Ytnkhnogdiphboaa.Ses.OrdS.i x6) : Int)) (@Go.Proofs.Ytnkhnogdiphboaa.Sx.Deed6D.mk (0 : Int) (0 : Int) (0 : Int) (@List.nil UInt8) Go.Proofs.Ytnkhnogdiphboaa.Sx.VerdictD.dflt)))) (@BitVec.ofInt (@Go.IntKind.bits Go.IntKind.i64) (255 : Int)))) : Int)) (Nat.cast (@List.length Int (@Go.Proofs.Ytnkhnogdiphboaa.Ses.OrdS.o x6)) : Int)))) (@Int.ofNat (0 : Nat))) (@List.nil Int)))))) (8 : Nat)) Go.Proofs.Ytnkhnogdiphboaa.Sx.room47) →
 (br (@bne Int _ (Nat.cast (@List.length Go.Proofs.Ytnkhnogdiphboaa.Sx.SessionD (@Go.Proofs.Ytnkhnogdiphboaa.Ses.TabA.l x31)) : Int) (Nat.cast (@HAdd.hAdd Nat Nat Nat _ (@List.length Int (@Go.Proofs.Ytnkhnogdiphboaa.Ses.notOf (@List.getD Int (@Go.Proofs.Ytnkhnogdiphboaa.Ses.OrdS.o x6) (@HAdd.hAdd Nat Nat Nat _ (0 : Nat) (@Int.toNat (@Int.tmod (@Go.IntKind.wrap Go.IntKind.i64 (Nat.cast (@BitVec.toNat (@Go.IntKind.bits Go.IntKind.i64) (@HAnd.hAnd (@BitVec (@Go.IntKind.bits Go.IntKind.i64)) (@BitVec (@Go.IntKind.bits Go.IntKind.i64)) (@BitVec (@Go.IntKind.bits Go.IntKind.i64)) _ (@BitVec.ofInt (@Go.IntKind.bits Go.IntKind.i64) (@Go.Proofs.Ytnkhnogdiphboaa.Sx.Deed6D.id (@List.getD Go.Proofs.Ytnkhnogdiphboaa.Sx.Deed6D x (@Int.toNat (Nat.cast (@Go.Proofs.Ytnkhnogdiphboaa.Ses.OrdS.i x6) : Int)) (@Go.Proofs.Ytnkhnogdiphboaa.Sx.Deed6D.mk (0 : Int) (0 : Int) (0 : Int) (@List.nil UInt8) Go.Proofs.Ytnkhnogdiphboaa.Sx.VerdictD.dflt)))) (@BitVec.ofInt (@Go.IntKind.bits Go.IntKind.i64) (255 : Int)))) : Int)) (Nat.cast (@List.length Int (@Go.Proofs.Ytnkhnogdiphboaa.Ses.OrdS.o x6)) : Int)))) (@Int.ofNat (0 : Nat))) (@List.take Int x28 (@Go.Proofs.Ytnkhnogdiphboaa.Ses.OrdS.o x6)))) (@List.length Int (@List.take Int (1 : Nat) (@List.drop Int (0 : Nat) (@List.cons Int (@List.getD Int (@Go.Proofs.Ytnkhnogdiphboaa.Ses.OrdS.o x6) (@HAdd.hAdd Nat Nat Nat _ (0 : Nat) (@Int.toNat (@Int.tmod (@Go.IntKind.wrap Go.IntKind.i64 (Nat.cast (@BitVec.toNat (@Go.IntKind.bits Go.IntKind.i64) (@HAnd.hAnd (@BitVec (@Go.IntKind.bits Go.IntKind.i64)) (@BitVec (@Go.IntKind.bits Go.IntKind.i64)) (@BitVec (@Go.IntKind.bits Go.IntKind.i64)) _ (@BitVec.ofInt (@Go.IntKind.bits Go.IntKind.i64) (@Go.Proofs.Ytnkhnogdiphboaa.Sx.Deed6D.id (@List.getD Go.Proofs.Ytnkhnogdiphboaa.Sx.Deed6D x (@Int.toNat (Nat.cast (@Go.Proofs.Ytnkhnogdiphboaa.Ses.OrdS.i x6) : Int)) (@Go.Proofs.Ytnkhnogdiphboaa.Sx.Deed6D.mk (0 : Int) (0 : Int) (0 : Int) (@List.nil UInt8) Go.Proofs.Ytnkhnogdiphboaa.Sx.VerdictD.dflt)))) (@BitVec.ofInt (@Go.IntKind.bits Go.IntKind.i64) (255 : Int)))) : Int)) (Nat.cast (@List.length Int (@Go.Proofs.Ytnkhnogdiphboaa.Ses.OrdS.o x6)) : Int)))) (@Int.ofNat (0 : Nat))) (@List.nil Int)))))) : Int))
 (@Eq Bool Bool.false Bool.true)
 ((∃ x33 : Nat,
 ((@Eq Int (0 : Int) (Nat.cast x33 : Int)) ∧
 (@Nat.le x33 (@List.length Go.Proofs.Ytnkhnogdiphboaa.Sx.SessionD (@Go.Proofs.Ytnkhnogdiphboaa.Ses.TabA.l x31))))) ∧
 (∀ x34 : Nat,
 ((@Nat.le x34 (@List.length Go.Proofs.Ytnkhnogdiphboaa.Sx.SessionD (@Go.Proofs.Ytnkhnogdiphboaa.Ses.TabA.l x31))) →
 ((@LE.le Nat _ (@HMul.hMul Nat Nat Nat _ (@List.length Go.Proofs.Ytnkhnogdiphboaa.Sx.SessionD (@Go.Proofs.Ytnkhnogdiphboaa.Ses.TabA.l x31)) (112 : Nat)) Go.Proofs.Ytnkhnogdiphboaa.Sx.room47) →
 (br (@Decidable.decide (@LT.lt Int _ (Nat.cast x34 : Int) (Nat.cast (@List.length Go.Proofs.Ytnkhnogdiphboaa.Sx.SessionD (@Go.Proofs.Ytnkhnogdiphboaa.Ses.TabA.l x31)) : Int)) _)
 (br (@Decidable.decide ((@LE.le Int _ (0 : Int) (Nat.cast x34 : Int)) ∧
 (@LT.lt Int _ (Nat.cast x34 : Int) (Nat.cast (@List.length Go.Proofs.Ytnkhnogdiphboaa.Sx.SessionD (@Go.Proofs.Ytnkhnogdiphboaa.Ses.TabA.l x31)) : Int))) _)
 (br (@Decidable.decide (@LT.lt Nat _ (@HAdd.hAdd Nat Nat Nat _ (0 : Nat) (@Int.toNat (Nat.cast x34 : Int))) (@List.length Go.Proofs.Ytnkhnogdiphboaa.Sx.SessionD (@Go.Proofs.Ytnkhnogdiphboaa.Ses.TabA.l x31))) _)
 (br (@Decidable.decide ((@LE.le Int _ (0 : Int) (Nat.cast x34 : Int)) ∧
 (@LT.lt Int _ (Nat.cast x34 : Int) (Nat.cast (@HAdd.hAdd Nat Nat Nat _ (@List.length Int (@Go.Proofs.Ytnkhnogdiphboaa.Ses.notOf (@List.getD Int (@Go.Proofs.Ytnkhnogdiphboaa.Ses.OrdS.o x6) (@HAdd.hAdd Nat Nat Nat _ (0 : Nat) (@Int.toNat (@Int.tmod (@Go.IntKind.wrap Go.IntKind.i64 (Nat.cast (@BitVec.toNat (@Go.IntKind.bits Go.IntKind.i64) (@HAnd.hAnd (@BitVec (@Go.IntKind.bits Go.IntKind.i64)) (@BitVec (@Go.IntKind.bits Go.IntKind.i64)) (@BitVec (@Go.IntKind.bits Go.IntKind.i64)) _ (@BitVec.ofInt (@Go.IntKind.bits Go.IntKind.i64) (@Go.Proofs.Ytnkhnogdiphboaa.Sx.Deed6D.id (@List.getD Go.Proofs.Ytnkhnogdiphboaa.Sx.Deed6D x (@Int.toNat (Nat.cast (@Go.Proofs.Ytnkhnogdiphboaa.Ses.OrdS.i x6) : Int)) (@Go.Proofs.Ytnkhnogdiphboaa.Sx.Deed6D.mk (0 : Int) (0 : Int) (0 : Int) (@List.nil UInt8) Go.Proofs.Ytnkhnogdiphboaa.Sx.VerdictD.dflt)))) (@BitVec.ofInt (@Go.IntKind.bits Go.IntKind.i64) (255 : Int)))) : Int)) (Nat.cast (@List.length Int (@Go.Proofs.Ytnkhnogdiphboaa.Ses.OrdS.o x6)) : Int)))) (@Int.ofNat (0 : Nat))) (@List.take Int x28 (@Go.Proofs.Ytnkhnogdiphboaa.Ses.OrdS.o x6)))) (@List.length Int (@List.take Int (1 : Nat) (@List.drop Int (0 : Nat) (@List.cons Int (@List.getD Int (@Go.Proofs.Ytnkhnogdiphboaa.Ses.OrdS.o x6) (@HAdd.hAdd Nat Nat Nat _ (0 : Nat) (@Int.toNat (@Int.tmod (@Go.IntKind.wrap Go.IntKind.i64 (Nat.cast (@BitVec.toNat (@Go.IntKind.bits Go.IntKind.i64) (@HAnd.hAnd (@BitVec (@Go.IntKind.bits Go.IntKind.i64)) (@BitVec (@Go.IntKind.bits Go.IntKind.i64)) (@BitVec (@Go.IntKind.bits Go.IntKind.i64)) _ (@BitVec.ofInt (@Go.IntKind.bits Go.IntKind.i64) (@Go.Proofs.Ytnkhnogdiphboaa.Sx.Deed6D.id (@List.getD Go.Proofs.Ytnkhnogdiphboaa.Sx.Deed6D x (@Int.toNat (Nat.cast (@Go.Proofs.Ytnkhnogdiphboaa.Ses.OrdS.i x6) : Int)) (@Go.Proofs.Ytnkhnogdiphboaa.Sx.Deed6D.mk (0 : Int) (0 : Int) (0 : Int) (@List.nil UInt8) Go.Proofs.Ytnkhnogdiphboaa.Sx.VerdictD.dflt)))) (@BitVec.ofInt (@Go.IntKind.bits Go.IntKind.i64) (255 : Int)))) : Int)) (Nat.cast (@List.length Int (@Go.Proofs.Ytnkhnogdiphboaa.Ses.OrdS.o x6)) : Int)))) (@Int.ofNat (0 : Nat))) (@List.nil Int)))))) : Int))) _)
 (br (@Decidable.decide (@LT.lt Nat _ (@HAdd.hAdd Nat Nat Nat _ (0 : Nat) (@Int.toNat (Nat.cast x34 : Int))) (@List.length Int (@HAppend.hAppend (@List Int) (@List Int) (@List Int) _ (@List.take Int (@List.length Int (@Go.Proofs.Ytnkhnogdiphboaa.Ses.notOf (@List.getD Int (@Go.Proofs.Ytnkhnogdiphboaa.Ses.OrdS.o x6) (@HAdd.hAdd Nat Nat Nat _ (0 : Nat) (@Int.toNat (@Int.tmod (@Go.IntKind.wrap Go.IntKind.i64 (Nat.cast (@BitVec.toNat (@Go.IntKind.bits Go.IntKind.i64) (@HAnd.hAnd (@BitVec (@Go.IntKind.bits Go.IntKind.i64)) (@BitVec (@Go.IntKind.bits Go.IntKind.i64)) (@BitVec (@Go.IntKind.bits Go.IntKind.i64)) _ (@BitVec.ofInt (@Go.IntKind.bits Go.IntKind.i64) (@Go.Proofs.Ytnkhnogdiphboaa.Sx.Deed6D.id (@List.getD Go.Proofs.Ytnkhnogdiphboaa.Sx.Deed6D x (@Int.toNat (Nat.cast (@Go.Proofs.Ytnkhnogdiphboaa.Ses.OrdS.i x6) : Int)) (@Go.Proofs.Ytnkhnogdiphboaa.Sx.Deed6D.mk (0 : Int) (0 : Int) (0 : Int) (@List.nil UInt8) Go.Proofs.Ytnkhnogdiphboaa.Sx.VerdictD.dflt)))) (@BitVec.ofInt (@Go.IntKind.bits Go.IntKind.i64) (255 : Int)))) : Int)) (Nat.cast (@List.length Int (@Go.Proofs.Ytnkhnogdiphboaa.Ses.OrdS.o x6)) : Int)))) (@Int.ofNat (0 : Nat))) (@List.take Int x28 (@Go.Proofs.Ytnkhnogdiphboaa.Ses.OrdS.o x6)))) (@List.drop Int (0 : Nat) (@Go.Proofs.Ytnkhnogdiphboaa.Ses.notOf (@List.getD Int (@Go.Proofs.Ytnkhnogdiphboaa.Ses.OrdS.o x6) (@HAdd.hAdd Nat Nat Nat _ (0 : Nat) (@Int.toNat (@Int.tmod (@Go.IntKind.wrap Go.IntKind.i64 (Nat.cast (@BitVec.toNat (@Go.IntKind.bits Go.IntKind.i64) (@HAnd.hAnd (@BitVec (@Go.IntKind.bits Go.IntKind.i64)) (@BitVec (@Go.IntKind.bits Go.IntKind.i64)) (@BitVec (@Go.IntKind.bits Go.IntKind.i64)) _ (@BitVec.ofInt (@Go.IntKind.bits Go.IntKind.i64) (@Go.Proofs.Ytnkhnogdiphboaa.Sx.Deed6D.id (@List.getD Go.Proofs.Ytnkhnogdiphboaa.Sx.Deed6D x (@Int.toNat (Nat.cast (@Go.Proofs.Ytnkhnogdiphboaa.Ses.OrdS.i x6) : Int)) (@Go.Proofs.Ytnkhnogdiphboaa.Sx.Deed6D.mk (0 : Int) (0 : Int) (0 : Int) (@List.nil UInt8) Go.Proofs.Ytnkhnogdiphboaa.Sx.VerdictD.dflt)))) (@BitVec.ofInt (@Go.IntKind.bits Go.IntKind.i64) (255 : Int)))) : Int)) (Nat.cast (@List.length Int (@Go.Proofs.Ytnkhnogdiphboaa.Ses.OrdS.o x6)) : Int)))) (@Int.ofNat (0 : Nat))) (@List.take Int x28 (@Go.Proofs.Ytnkhnogdiphboaa.Ses.OrdS.o x6))))) (@List.take Int (1 : Nat) (@List.drop Int (0 : Nat) (@List.cons Int (@List.getD Int (@Go.Proofs.Ytnkhnogdiphboaa.Ses.OrdS.o x6) (@HAdd.hAdd Nat Nat Nat _ (0 : Nat) (@Int.toNat (@Int.tmod (@Go.IntKind.wrap Go.IntKind.i64 (Nat.cast (@BitVec.toNat (@Go.IntKind.bits Go.IntKind.i64) (@HAnd.hAnd (@BitVec (@Go.IntKind.bits Go.IntKind.i64)) (@BitVec (@Go.IntKind.bits Go.IntKind.i64)) (@BitVec (@Go.IntKind.bits Go.IntKind.i64)) _ (@BitVec.ofInt (@Go.IntKind.bits Go.IntKind.i64) (@Go.Proofs.Ytnkhnogdiphboaa.Sx.Deed6D.id (@List.getD Go.Proofs.Ytnkhnogdiphboaa.Sx.Deed6D x (@Int.toNat (Nat.cast (@Go.Proofs.Ytnkhnogdiphboaa.Ses.OrdS.i x6) : Int)) (@Go.Proofs.Ytnkhnogdiphboaa.Sx.Deed6D.mk (0 : Int) (0 : Int) (0 : Int) (@List.nil UInt8) Go.Proofs.Ytnkhnogdiphboaa.Sx.VerdictD.dflt)))) (@BitVec.ofInt (@Go.IntKind.bits Go.IntKind.i64) (255 : Int)))) : Int)) (Nat.cast (@List.length Int (@Go.Proofs.Ytnkhnogdiphboaa.Ses.OrdS.o x6)) : Int)))) (@Int.ofNat (0 : Nat))) (@List.nil Int))))))) _)
 (br (@bne Int _ (@Go.Proofs.Ytnkhnogdiphboaa.Sx.SessionD.id (@List.getD Go.Proofs.Ytnkhnogdiphboaa.Sx.SessionD (@Go.Proofs.Ytnkhnogdiphboaa.Ses.TabA.l x31) (@HAdd.hAdd Nat Nat Nat _ (0 : Nat) (@Int.toNat (Nat.cast x34 : Int))) (@Go.Proofs.Ytnkhnogdiphboaa.Sx.SessionD.mk (0 : Int) (0 : Int) (@List.nil UInt8) Go.Proofs.Ytnkhnogdiphboaa.Sx.VerdictD.dflt))) (@List.getD Int (@HAppend.hAppend (@List Int) (@List Int) (@List Int) _ (@List.take Int (@List.length Int (@Go.Proofs.Ytnkhnogdiphboaa.Ses.notOf (@List.getD Int (@Go.Proofs.Ytnkhnogdiphboaa.Ses.OrdS.o x6) (@HAdd.hAdd Nat Nat Nat _ (0 : Nat) (@Int.toNat (@Int.tmod (@Go.IntKind.wrap Go.IntKind.i64 (Nat.cast (@BitVec.toNat (@Go.IntKind.bits Go.IntKind.i64) (@HAnd.hAnd (@BitVec (@Go.IntKind.bits Go.IntKind.i64)) (@BitVec (@Go.IntKind.bits Go.IntKind.i64)) (@BitVec (@Go.IntKind.bits Go.IntKind.i64)) _ (@BitVec.ofInt (@Go.IntKind.bits Go.IntKind.i64) (@Go.Proofs.Ytnkhnogdiphboaa.Sx.Deed6D.id (@List.getD Go.Proofs.Ytnkhnogdiphboaa.Sx.Deed6D x (@Int.toNat (Nat.cast (@Go.Proofs.Ytnkhnogdiphboaa.Ses.OrdS.i x6) : Int)) (@Go.Proofs.Ytnkhnogdiphboaa.Sx.Deed6D.mk (0 : Int) (0 : Int) (0 : Int) (@List.nil UInt8) Go.Proofs.Ytnkhnogdiphboaa.Sx.VerdictD.dflt)))) (@BitVec.ofInt (@Go.IntKind.bits Go.IntKind.i64) (255 : Int)))) : Int)) (Nat.cast (@List.length Int (@Go.Proofs.Ytnkhnogdiphboaa.Ses.OrdS.o x6)) : Int)))) (@Int.ofNat (0 : Nat))) (@List.take Int x28 (@Go.Proofs.Ytnkhnogdiphboaa.Ses.OrdS.o x6)))) (@List.drop Int (0 : Nat) (@Go.Proofs.Ytnkhnogdiphboaa.Ses.notOf (@List.getD Int (@Go.Proofs.Ytnkhnogdiphboaa.Ses.OrdS.o x6) (@HAdd.hAdd Nat Nat Nat _ (0 : Nat) (@Int.toNat (@Int.tmod (@Go.IntKind.wrap Go.IntKind.i64 (Nat.cast (@BitVec.toNat (@Go.IntKind.bits Go.IntKind.i64) (@HAnd.hAnd (@BitVec (@Go.IntKind.bits Go.IntKind.i64)) (@BitVec (@Go.IntKind.bits Go.IntKind.i64)) (@BitVec (@Go.IntKind.bits Go.IntKind.i64)) _ (@BitVec.ofInt (@Go.IntKind.bits Go.IntKind.i64) (@Go.Proofs.Ytnkhnogdiphboaa.Sx.Deed6D.id (@List.getD Go.Proofs.Ytnkhnogdiphboaa.Sx.Deed6D x (@Int.toNat (Nat.cast (@Go.Proofs.Ytnkhnogdiphboaa.Ses.OrdS.i x6) : Int)) (@Go.Proofs.Ytnkhnogdiphboaa.Sx.Deed6D.mk (0 : Int) (0 : Int) (0 : Int) (@List.nil UInt8) Go.Proofs.Ytnkhnogdiphboaa.Sx.VerdictD.dflt)))) (@BitVec.ofInt (@Go.IntKind.bits Go.IntKind.i64) (255 : Int)))) : Int)) (Nat.cast (@List.length Int (@Go.Proofs.Ytnkhnogdiphboaa.Ses.OrdS.o x6)) : Int)))) (@Int.ofNat (0 : Nat))) (@List.take Int x28 (@Go.Proofs.Ytnkhnogdiphboaa.Ses.OrdS.o x6))))) (@List.take Int (1 : Nat) (@List.drop Int (0 : Nat) (@List.cons Int (@List.getD Int (@Go.Proofs.Ytnkhnogdiphboaa.Ses.OrdS.o x6) (@HAdd.hAdd Nat Nat Nat _ (0 : Nat) (@Int.toNat (@Int.tmod (@Go.IntKind.wrap Go.IntKind.i64 (Nat.cast (@BitVec.toNat (@Go.IntKind.bits Go.IntKind.i64) (@HAnd.hAnd (@BitVec (@Go.IntKind.bits Go.IntKind.i64)) (@BitVec (@Go.IntKind.bits Go.IntKind.i64)) (@BitVec (@Go.IntKind.bits Go.IntKind.i64)) _ (@BitVec.ofInt (@Go.IntKind.bits Go.IntKind.i64) (@Go.Proofs.Ytnkhnogdiphboaa.Sx.Deed6D.id (@List.getD Go.Proofs.Ytnkhnogdiphboaa.Sx.Deed6D x (@Int.toNat (Nat.cast (@Go.Proofs.Ytnkhnogdiphboaa.Ses.OrdS.i x6) : Int)) (@Go.Proofs.Ytnkhnogdiphboaa.Sx.Deed6D.mk (0 : Int) (0 : Int) (0 : Int) (@List.nil UInt8) Go.Proofs.Ytnkhnogdiphboaa.Sx.VerdictD.dflt)))) (@BitVec.ofInt (@Go.IntKind.bits Go.IntKind.i64) (255 : Int)))) : Int)) (Nat.cast (@List.length Int (@Go.Proofs.Ytnkhnogdiphboaa.Ses.OrdS.o x6)) : Int)))) (@Int.ofNat (0 : Nat))) (@List.nil Int))))) (@HAdd.hAdd Nat Nat Nat _ (0 : Nat) (@Int.toNat (Nat.cast x34 : Int))) (@Int.ofNat (0 : Nat))))
 (@Eq Bool Bool.false Bool.true)
 (∃ x35 : Nat,
 ((@Eq Int (@Go.IntKind.wrap Go.IntKind.i64 (@HAdd.hAdd Int Int Int _ (Nat.cast x34 : Int) (1 : Int))) (Nat.cast x35 : Int)) ∧
 ((@Nat.le x35 (@List.length Go.Proofs.Ytnkhnogdiphboaa.Sx.SessionD (@Go.Proofs.Ytnkhnogdiphboaa.Ses.TabA.l x31))) ∧
 (@LT.lt Nat _ (@Nat.sub (@List.length Go.Proofs.Ytnkhnogdiphboaa.Sx.SessionD (@Go.Proofs.Ytnkhnogdiphboaa.Ses.TabA.l x31)) x35) (@Nat.sub (@List.length Go.Proofs.Ytnkhnogdiphboaa.Sx.SessionD (@Go.Proofs.Ytnkhnogdiphboaa.Ses.TabA.l x31)) x34))))))
 (Bad "check" "law.go:293"))
 (Bad "check" "law.go:293"))
 (Bad "check" "law.go:293"))
 (Bad "check" "law.go:293"))
 (∃ x36 : Go.Proofs.Ytnkhnogdiphboaa.Ses.OrdS,
 ((@Eq Int (@Go.IntKind.wrap Go.IntKind.i64 (@HAdd.hAdd Int Int Int _ (Nat.cast (@Go.Proofs.Ytnkhnogdiphboaa.Ses.OrdS.i x6) : Int) (1 : Int))) (Nat.cast (@Go.Proofs.Ytnkhnogdiphboaa.Ses.OrdS.i x36) : Int)) ∧
 ((@Eq Nat (0 : Nat) (0 : Nat)) ∧
 ((@Eq Nat (@HAdd.hAdd Nat Nat Nat _ (@List.length Int (@Go.Proofs.Ytnkhnogdiphboaa.Ses.notOf (@List.getD Int (@Go.Proofs.Ytnkhnogdiphboaa.Ses.OrdS.o x6) (@HAdd.hAdd Nat Nat Nat _ (0 : Nat) (@Int.toNat (@Int.tmod (@Go.IntKind.wrap Go.IntKind.i64 (Nat.cast (@BitVec.toNat (@Go.IntKind.bits Go.IntKind.i64) (@HAnd.hAnd (@BitVec (@Go.IntKind.bits Go.IntKind.i64)) (@BitVec (@Go.IntKind.bits Go.IntKind.i64)) (@BitVec (@Go.IntKind.bits Go.IntKind.i64)) _ (@BitVec.ofInt (@Go.IntKind.bits Go.IntKind.i64) (@Go.Proofs.Ytnkhnogdiphboaa.Sx.Deed6D.id (@List.getD Go.Proofs.Ytnkhnogdiphboaa.Sx.Deed6D x (@Int.toNat (Nat.cast (@Go.Proofs.Ytnkhnogdiphboaa.Ses.OrdS.i x6) : Int)) (@Go.Proofs.Ytnkhnogdiphboaa.Sx.Deed6D.mk (0 : Int) (0 : Int) (0 : Int) (@List.nil UInt8) Go.Proofs.Ytnkhnogdiphboaa.Sx.VerdictD.dflt)))) (@BitVec.ofInt (@Go.IntKind.bits Go.IntKind.i64) (255 : Int)))) : Int)) (Nat.cast (@List.length Int (@Go.Proofs.Ytnkhnogdiphboaa.Ses.OrdS.o x6)) : Int)))) (@Int.ofNat (0 : Nat))) (@List.take Int x28 (@Go.Proofs.Ytnkhnogdiphboaa.Ses.OrdS.o x6)))) (@List.length Int (@List.take Int (1 : Nat) (@List.drop Int (0 : Nat) (@List.cons Int (@List.getD Int (@Go.Proofs.Ytnkhnogdiphboaa.Ses.OrdS.o x6) (@HAdd.hAdd Nat Nat Nat _ (0 : Nat) (@Int.toNat (@Int.tmod (@Go.IntKind.wrap Go.IntKind.i64 (Nat.cast (@BitVec.toNat (@Go.IntKind.bits Go.IntKind.i64) (@HAnd.hAnd (@BitVec (@Go.IntKind.bits Go.IntKind.i64)) (@BitVec (@Go.IntKind.bits Go.IntKind.i64)) (@BitVec (@Go.IntKind.bits Go.IntKind.i64)) _ (@BitVec.ofInt (@Go.IntKind.bits Go.IntKind.i64) (@Go.Proofs.Ytnkhnogdiphboaa.Sx.Deed6D.id (@List.getD Go.Proofs.Ytnkhnogdiphboaa.Sx.Deed6D x (@Int.toNat (Nat.cast (@Go.Proofs.Ytnkhnogdiphboaa.Ses.OrdS.i x6) : Int)) (@Go.Proofs.Ytnkhnogdiphboaa.Sx.Deed6D.mk (0 : Int) (0 : Int) (0 : Int) (@List.nil UInt8) Go.Proofs.Ytnkhnogdiphboaa.Sx.VerdictD.dflt)))) (@BitVec.ofInt (@Go.IntKind.bits Go.IntKind.i64) (255 : Int)))) : Int)) (Nat.cast (@List.length Int (@Go.Proofs.Ytnkhnogdiphboaa.Ses.OrdS.o x6)) : Int)))) (@Int.ofNat (0 : Nat))) (@List.nil Int)))))) (@List.length Int (@Go.Proofs.Ytnkhnogdiphboaa.Ses.OrdS.o x36))) ∧
 ((@Eq Int (@Go.Proofs.Ytnkhnogdiphboaa.Ses.TabA.size x31) (16 : Int)) ∧
 ((@Eq Nat (0 : Nat) (0 : Nat)) ∧
 ((@Eq Nat (@List.length Go.Proofs.Ytnkhnogdiphboaa.Sx.SessionD (@Go.Proofs.Ytnkhnogdiphboaa.Ses.TabA.l x31)) (@List.length Go.Proofs.Ytnkhnogdiphboaa.Sx.SessionD (@Go.Proofs.Ytnkhnogdiphboaa.Ses.OrdS.l x36))) ∧
 ((@Eq (@List Go.Proofs.Ytnkhnogdiphboaa.Sx.SessionD) (@Go.Proofs.Ytnkhnogdiphboaa.Ses.TabA.l x31) (@Go.Proofs.Ytnkhnogdiphboaa.Ses.OrdS.l x36)) ∧
 ((@Eq (@List Int) (@HAppend.hAppend (@List Int) (@List Int) (@List Int) _ (@List.take Int (@List.length Int (@Go.Proofs.Ytnkhnogdiphboaa.Ses.notOf (@List.getD Int (@Go.Proofs.Ytnkhnogdiphboaa.Ses.OrdS.o x6) (@HAdd.hAdd Nat Nat Nat _ (0 : Nat) (@Int.toNat (@Int.tmod (@Go.IntKind.wrap Go.IntKind.i64 (Nat.cast (@BitVec.toNat (@Go.IntKind.bits Go.IntKind.i64) (@HAnd.hAnd (@BitVec (@Go.IntKind.bits Go.IntKind.i64)) (@BitVec (@Go.IntKind.bits Go.IntKind.i64)) (@BitVec (@Go.IntKind.bits Go.IntKind.i64)) _ (@BitVec.ofInt (@Go.IntKind.bits Go.IntKind.i64) (@Go.Proofs.Ytnkhnogdiphboaa.Sx.Deed6D.id (@List.getD Go.Proofs.Ytnkhnogdiphboaa.Sx.Deed6D x (@Int.toNat (Nat.cast (@Go.Proofs.Ytnkhnogdiphboaa.Ses.OrdS.i x6) : Int)) (@Go.Proofs.Ytnkhnogdiphboaa.Sx.Deed6D.mk (0 : Int) (0 : Int) (0 : Int) (@List.nil UInt8) Go.Proofs.Ytnkhnogdiphboaa.Sx.VerdictD.dflt)))) (@BitVec.ofInt (@Go.IntKind.bits Go.IntKind.i64) (255 : Int)))) : Int)) (Nat.cast (@List.length Int (@Go.Proofs.Ytnkhnogdiphboaa.Ses.OrdS.o x6)) : Int)))) (@Int.ofNat (0 : Nat))) (@List.take Int x28 (@Go.Proofs.Ytnkhnogdiphboaa.Ses.OrdS.o x6)))) (@List.drop Int (0 : Nat) (@Go.Proofs.Ytnkhnogdiphboaa.Ses.notOf (@List.getD Int (@Go.Proofs.Ytnkhnogdiphboaa.Ses.OrdS.o x6) (@HAdd.hAdd Nat Nat Nat _ (0 : Nat) (@Int.toNat (@Int.tmod (@Go.IntKind.wrap Go.IntKind.i64 (Nat.cast (@BitVec.toNat (@Go.IntKind.bits Go.IntKind.i64) (@HAnd.hAnd (@BitVec (@Go.IntKind.bits Go.IntKind.i64)) (@BitVec (@Go.IntKind.bits Go.IntKind.i64)) (@BitVec (@Go.IntKind.bits Go.IntKind.i64)) _ (@BitVec.ofInt (@Go.IntKind.bits Go.IntKind.i64) (@Go.Proofs.Ytnkhnogdiphboaa.Sx.Deed6D.id (@List.getD Go.Proofs.Ytnkhnogdiphboaa.Sx.Deed6D x (@Int.toNat (Nat.cast (@Go.Proofs.Ytnkhnogdiphboaa.Ses.OrdS.i x6) : Int)) (@Go.Proofs.Ytnkhnogdiphboaa.Sx.Deed6D.mk (0 : Int) (0 : Int) (0 : Int) (@List.nil UInt8) Go.Proofs.Ytnkhnogdiphboaa.Sx.VerdictD.dflt)))) (@BitVec.ofInt (@Go.IntKind.bits Go.IntKind.i64) (255 : Int)))) : Int)) (Nat.cast (@List.length Int (@Go.Proofs.Ytnkhnogdiphboaa.Ses.OrdS.o x6)) : Int)))) (@Int.ofNat (0 : Nat))) (@List.take Int x28 (@Go.Proofs.Ytnkhnogdiphboaa.Ses.OrdS.o x6))))) (@List.take Int (1 : Nat) (@List.drop Int (0 : Nat) (@List.cons Int (@List.getD Int (@Go.Proofs.Ytnkhnogdiphboaa.Ses.OrdS.o x6) (@HAdd.hAdd Nat Nat Nat _ (0 : Nat) (@Int.toNat (@Int.tmod (@Go.IntKind.wrap Go.IntKind.i64 (Nat.cast (@BitVec.toNat (@Go.IntKind.bits Go.IntKind.i64) (@HAnd.hAnd (@BitVec (@Go.IntKind.bits Go.IntKind.i64)) (@BitVec (@Go.IntKind.bits Go.IntKind.i64)) (@BitVec (@Go.IntKind.bits Go.IntKind.i64)) _ (@BitVec.ofInt (@Go.IntKind.bits Go.IntKind.i64) (@Go.Proofs.Ytnkhnogdiphboaa.Sx.Deed6D.id (@List.getD Go.Proofs.Ytnkhnogdiphboaa.Sx.Deed6D x (@Int.toNat (Nat.cast (@Go.Proofs.Ytnkhnogdiphboaa.Ses.OrdS.i x6) : Int)) (@Go.Proofs.Ytnkhnogdiphboaa.Sx.Deed6D.mk (0 : Int) (0 : Int) (0 : Int) (@List.nil UInt8) Go.Proofs.Ytnkhnogdiphboaa.Sx.VerdictD.dflt)))) (@BitVec.ofInt (@Go.IntKind.bits Go.IntKind.i64) (255 : Int)))) : Int)) (Nat.cast (@List.length Int (@Go.Proofs.Ytnkhnogdiphboaa.Ses.OrdS.o x6)) : Int)))) (@Int.ofNat (0 : Nat))) (@List.nil Int))))) (@Go.Proofs.Ytnkhnogdiphboaa.Ses.OrdS.o x36)) ∧
 (((@LE.le Nat _ (@Go.Proofs.Ytnkhnogdiphboaa.Ses.OrdS.i x36) (@List.length Go.Proofs.Ytnkhnogdiphboaa.Sx.Deed6D x)) ∧
 ((@LE.le Nat _ (@Go.Proofs.Ytnkhnogdiphboaa.Ses.OrdS.i x36) (16 : Nat)) ∧
 (@Go.Proofs.Ytnkhnogdiphboaa.Ses.OrdI (@Go.Proofs.Ytnkhnogdiphboaa.Ses.OrdS.i x36) (@Go.Proofs.Ytnkhnogdiphboaa.Ses.OrdS.o x36) (@Go.Proofs.Ytnkhnogdiphboaa.Ses.OrdS.l x36)))) ∧
 (@LT.lt Nat _ (@Nat.sub (@List.length Go.Proofs.Ytnkhnogdiphboaa.Sx.Deed6D x) (@Go.Proofs.Ytnkhnogdiphboaa.Ses.OrdS.i x36)) (@Nat.sub (@List.length Go.Proofs.Ytnkhnogdiphboaa.Sx.Deed6D x) (@Go.Proofs.Ytnkhnogdiphboaa.Ses.OrdS.i x6)))))))))))))))))))))))))))))
 (Bad "check" "law.go:286"))))))))
 (∃ x37 : Go.Proofs.Ytnkhnogdiphboaa.Ses.TabA,
 ((@Eq Int (@Go.Proofs.Ytnkhnogdiphboaa.Ses.AskA.size x25) (@Go.Proofs.Ytnkhnogdiphboaa.Ses.TabA.size x37)) ∧
 ((@Eq Nat (0 : Nat) (0 : Nat)) ∧
 ((@Eq Nat (@List.length Go.Proofs.Ytnkhnogdiphboaa.Sx.SessionD (@Prod.snd (@Prod Go.Proofs.Ytnkhnogdiphboaa.Sx.VerdictD Bool) (@List Go.Proofs.Ytnkhnogdiphboaa.Sx.SessionD) (@Go.Proofs.Ytnkhnogdiphboaa.Ses.askL x25))) (@List.length Go.Proofs.Ytnkhnogdiphboaa.Sx.SessionD (@Go.Proofs.Ytnkhnogdiphboaa.Ses.TabA.l x37))) ∧
 ((@Eq (@List Go.Proofs.Ytnkhnogdiphboaa.Sx.SessionD) (@Prod.snd (@Prod Go.Proofs.Ytnkhnogdiphboaa.Sx.VerdictD Bool) (@List Go.Proofs.Ytnkhnogdiphboaa.Sx.SessionD) (@Go.Proofs.Ytnkhnogdiphboaa.Ses.askL x25)) (@Go.Proofs.Ytnkhnogdiphboaa.Ses.TabA.l x37)) ∧
 ((@Eq Bool (@Decidable.decide (@LT.lt Int _ (0 : Int) (@Go.Proofs.Ytnkhnogdiphboaa.Ses.TabA.size x37)) _) Bool.true) ∧
 (∀ x38 : Unit,
 (True →
 ((@LE.le Nat _ (@HMul.hMul Nat Nat Nat _ (@List.length Go.Proofs.Ytnkhnogdiphboaa.Sx.SessionD (@Go.Proofs.Ytnkhnogdiphboaa.Ses.TabA.l x37)) (112 : Nat)) Go.Proofs.Ytnkhnogdiphboaa.Sx.room47) →
 ((@LE.le Nat _ (@HMul.hMul Nat Nat Nat _ (@List.length Int (@Go.Proofs.Ytnkhnogdiphboaa.Ses.OrdS.o x6)) (8 : Nat)) Go.Proofs.Ytnkhnogdiphboaa.Sx.room47) →
 (br (@bne Int _ (Nat.cast (@List.length Go.Proofs.Ytnkhnogdiphboaa.Sx.SessionD (@Go.Proofs.Ytnkhnogdiphboaa.Ses.TabA.l x37)) : Int) (Nat.cast (@List.length Int (@Go.Proofs.Ytnkhnogdiphboaa.Ses.OrdS.o x6)) : Int))
 (@Eq Bool Bool.false Bool.true)
 ((∃ x39 : Nat,
 ((@Eq Int (0 : Int) (Nat.cast x39 : Int)) ∧
 (@Nat.le x39 (@List.length Go.Proofs.Ytnkhnogdiphboaa.Sx.SessionD (@Go.Proofs.Ytnkhnogdiphboaa.Ses.TabA.l x37))))) ∧
 (∀ x40 : Nat,
 ((@Nat.le x40 (@List.length Go.Proofs.Ytnkhnogdiphboaa.Sx.SessionD (@Go.Proofs.Ytnkhnogdiphboaa.Ses.TabA.l x37))) →
 ((@LE.le Nat _ (@HMul.hMul Nat Nat Nat _ (@List.length Go.Proofs.Ytnkhnogdiphboaa.Sx.SessionD (@Go.Proofs.Ytnkhnogdiphboaa.Ses.TabA.l x37)) (112 : Nat)) Go.Proofs.Ytnkhnogdiphboaa.Sx.room47) →
 (br (@Decidable.decide (@LT.lt Int _ (Nat.cast x40 : Int) (Nat.cast (@List.length Go.Proofs.Ytnkhnogdiphboaa.Sx.SessionD (@Go.Proofs.Ytnkhnogdiphboaa.Ses.TabA.l x37)) : Int)) _)
 (br (@Decidable.decide ((@LE.le Int _ (0 : Int) (Nat.cast x40 : Int)) ∧
 (@LT.lt Int _ (Nat.cast x40 : Int) (Nat.cast (@List.length Go.Proofs.Ytnkhnogdiphboaa.Sx.SessionD (@Go.Proofs.Ytnkhnogdiphboaa.Ses.TabA.l x37)) : Int))) _)
 (br (@Decidable.decide (@LT.lt Nat _ (@HAdd.hAdd Nat Nat Nat _ (0 : Nat) (@Int.toNat (Nat.cast x40 : Int))) (@List.length Go.Proofs.Ytnkhnogdiphboaa.Sx.SessionD (@Go.Proofs.Ytnkhnogdiphboaa.Ses.TabA.l x37))) _)
 (br (@Decidable.decide ((@LE.le Int _ (0 : Int) (Nat.cast x40 : Int)) ∧
 (@LT.lt Int _ (Nat.cast x40 : Int) (Nat.cast (@List.length Int (@Go.Proofs.Ytnkhnogdiphboaa.Ses.OrdS.o x6)) : Int))) _)
 (br (@Decidable.decide (@LT.lt Nat _ (@HAdd.hAdd Nat Nat Nat _ (0 : Nat) (@Int.toNat (Nat.cast x40 : Int))) (@List.length Int (@Go.Proofs.Ytnkhnogdiphboaa.Ses.OrdS.o x6))) _)
 (br (@bne Int _ (@Go.Proofs.Ytnkhnogdiphboaa.Sx.SessionD.id (@List.getD Go.Proofs.Ytnkhnogdiphboaa.Sx.SessionD (@Go.Proofs.Ytnkhnogdiphboaa.Ses.TabA.l x37) (@HAdd.hAdd Nat Nat Nat _ (0 : Nat) (@Int.toNat (Nat.cast x40 : Int))) (@Go.Proofs.Ytnkhnogdiphboaa.Sx.SessionD.mk (0 : Int) (0 : Int) (@List.nil UInt8) Go.Proofs.Ytnkhnogdiphboaa.Sx.VerdictD.dflt))) (@List.getD Int (@Go.Proofs.Ytnkhnogdiphboaa.Ses.OrdS.o x6) (@HAdd.hAdd Nat Nat Nat _ (0 : Nat) (@Int.toNat (Nat.cast x40 : Int))) (@Int.ofNat (0 : Nat))))
 (@Eq Bool Bool.false Bool.true)
 (∃ x41 : Nat,
 ((@Eq Int (@Go.IntKind.wrap Go.IntKind.i64 (@HAdd.hAdd Int Int Int _ (Nat.cast x40 : Int) (1 : Int))) (Nat.cast x41 : Int)) ∧
 ((@Nat.le x41 (@List.length Go.Proofs.Ytnkhnogdiphboaa.Sx.SessionD (@Go.Proofs.Ytnkhnogdiphboaa.Ses.TabA.l x37))) ∧
 (@LT.lt Nat _ (@Nat.sub (@List.length Go.Proofs.Ytnkhnogdiphboaa.Sx.SessionD (@Go.Proofs.Ytnkhnogdiphboaa.Ses.TabA.l x37)) x41) (@Nat.sub (@List.length Go.Proofs.Ytnkhnogdiphboaa.Sx.SessionD (@Go.Proofs.Ytnkhnogdiphboaa.Ses.TabA.l x37)) x40))))))
 (Bad "check" "law.go:293"))
 (Bad "check" "law.go:293"))
 (Bad "check" "law.go:293"))
 (Bad "check" "law.go:293"))
 (∃ x42 : Go.Proofs.Ytnkhnogdiphboaa.Ses.OrdS,
 ((@Eq Int (@Go.IntKind.wrap Go.IntKind.i64 (@HAdd.hAdd Int Int Int _ (Nat.cast (@Go.Proofs.Ytnkhnogdiphboaa.Ses.OrdS.i x6) : Int) (1 : Int))) (Nat.cast (@Go.Proofs.Ytnkhnogdiphboaa.Ses.OrdS.i x42) : Int)) ∧
 ((@Eq Nat (0 : Nat) (0 : Nat)) ∧
 ((@Eq Nat (@List.length Int (@Go.Proofs.Ytnkhnogdiphboaa.Ses.OrdS.o x6)) (@List.length Int (@Go.Proofs.Ytnkhnogdiphboaa.Ses.OrdS.o x42))) ∧
 ((@Eq Int (@Go.Proofs.Ytnkhnogdiphboaa.Ses.TabA.size x37) (16 : Int)) ∧
 ((@Eq Nat (0 : Nat) (0 : Nat)) ∧
 ((@Eq Nat (@List.length Go.Proofs.Ytnkhnogdiphboaa.Sx.SessionD (@Go.Proofs.Ytnkhnogdiphboaa.Ses.TabA.l x37)) (@List.length Go.Proofs.Ytnkhnogdiphboaa.Sx.SessionD (@Go.Proofs.Ytnkhnogdiphboaa.Ses.OrdS.l x42))) ∧
 ((@Eq (@List Go.Proofs.Ytnkhnogdiphboaa.Sx.SessionD) (@Go.Proofs.Ytnkhnogdiphboaa.Ses.TabA.l x37) (@Go.Proofs.Ytnkhnogdiphboaa.Ses.OrdS.l x42)) ∧
 ((@Eq (@List Int) (@Go.Proofs.Ytnkhnogdiphboaa.Ses.OrdS.o x6) (@Go.Proofs.Ytnkhnogdiphboaa.Ses.OrdS.o x42)) ∧
 (((@LE.le Nat _ (@Go.Proofs.Ytnkhnogdiphboaa.Ses.OrdS.i x42) (@List.length Go.Proofs.Ytnkhnogdiphboaa.Sx.Deed6D x)) ∧
 ((@LE.le Nat _ (@Go.Proofs.Ytnkhnogdiphboaa.Ses.OrdS.i x42) (16 : Nat)) ∧
 (@Go.Proofs.Ytnkhnogdiphboaa.Ses.OrdI (@Go.Proofs.Ytnkhnogdiphboaa.Ses.OrdS.i x42) (@Go.Proofs.Ytnkhnogdiphboaa.Ses.OrdS.o x42) (@Go.Proofs.Ytnkhnogdiphboaa.Ses.OrdS.l x42)))) ∧
 (@LT.lt Nat _ (@Nat.sub (@List.length Go.Proofs.Ytnkhnogdiphboaa.Sx.Deed6D x) (@Go.Proofs.Ytnkhnogdiphboaa.Ses.OrdS.i x42)) (@Nat.sub (@List.length Go.Proofs.Ytnkhnogdiphboaa.Sx.Deed6D x) (@Go.Proofs.Ytnkhnogdiphboaa.Ses.OrdS.i x6))))))))))))))))))))))))))))))))))))))))
 (Bad "check" "law.go:273"))
 (Bad "check" "law.go:273"))
 (Bad "check" "law.go:273")))
 ((@LE.le Nat _ (@HMul.hMul Nat Nat Nat _ (@List.length Int (@Go.Proofs.Ytnkhnogdiphboaa.Ses.OrdS.o x6)) (8 : Nat)) Go.Proofs.Ytnkhnogdiphboaa.Sx.room47) →
 (br (@Decidable.decide (@GT.gt Int _ (Nat.cast (@List.length Int (@Go.Proofs.Ytnkhnogdiphboaa.Ses.OrdS.o x6)) : Int) (0 : Int)) _)
 ((@LE.le Nat _ (@HMul.hMul Nat Nat Nat _ (@List.length Int (@Go.Proofs.Ytnkhnogdiphboaa.Ses.OrdS.o x6)) (8 : Nat)) Go.Proofs.Ytnkhnogdiphboaa.Sx.room47) →
 (br (@bne Int _ (Nat.cast (@List.length Int (@Go.Proofs.Ytnkhnogdiphboaa.Ses.OrdS.o x6)) : Int) (0 : Int))
 (br (@Decidable.decide ((@LE.le Int _ (0 : Int) (@Int.tmod (@Go.IntKind.wrap Go.IntKind.i64 (Nat.cast (@BitVec.toNat (@Go.IntKind.bits Go.IntKind.i64) (@HAnd.hAnd (@BitVec (@Go.IntKind.bits Go.IntKind.i64)) (@BitVec (@Go.IntKind.bits Go.IntKind.i64)) (@BitVec (@Go.IntKind.bits Go.IntKind.i64)) _ (@BitVec.ofInt (@Go.IntKind.bits Go.IntKind.i64) (@Go.Proofs.Ytnkhnogdiphboaa.Sx.Deed6D.id (@List.getD Go.Proofs.Ytnkhnogdiphboaa.Sx.Deed6D x (@Int.toNat (Nat.cast (@Go.Proofs.Ytnkhnogdiphboaa.Ses.OrdS.i x6) : Int)) (@Go.Proofs.Ytnkhnogdiphboaa.Sx.Deed6D.mk (0 : Int) (0 : Int) (0 : Int) (@List.nil UInt8) Go.Proofs.Ytnkhnogdiphboaa.Sx.VerdictD.dflt)))) (@BitVec.ofInt (@Go.IntKind.bits Go.IntKind.i64) (255 : Int)))) : Int)) (Nat.cast (@List.length Int (@Go.Proofs.Ytnkhnogdiphboaa.Ses.OrdS.o x6)) : Int))) ∧
 (@LT.lt Int _ (@Int.tmod (@Go.IntKind.wrap Go.IntKind.i64 (Nat.cast (@BitVec.toNat (@Go.IntKind.bits Go.IntKind.i64) (@HAnd.hAnd (@BitVec (@Go.IntKind.bits Go.IntKind.i64)) (@BitVec (@Go.IntKind.bits Go.IntKind.i64)) (@BitVec (@Go.IntKind.bits Go.IntKind.i64)) _ (@BitVec.ofInt (@Go.IntKind.bits Go.IntKind.i64) (@Go.Proofs.Ytnkhnogdiphboaa.Sx.Deed6D.id (@List.getD Go.Proofs.Ytnkhnogdiphboaa.Sx.Deed6D x (@Int.toNat (Nat.cast (@Go.Proofs.Ytnkhnogdiphboaa.Ses.OrdS.i x6) : Int)) (@Go.Proofs.Ytnkhnogdiphboaa.Sx.Deed6D.mk (0 : Int) (0 : Int) (0 : Int) (@List.nil UInt8) Go.Proofs.Ytnkhnogdiphboaa.Sx.VerdictD.dflt)))) (@BitVec.ofInt (@Go.IntKind.bits Go.IntKind.i64) (255 : Int)))) : Int)) (Nat.cast (@List.length Int (@Go.Proofs.Ytnkhnogdiphboaa.Ses.OrdS.o x6)) : Int)) (Nat.cast (@List.length Int (@Go.Proofs.Ytnkhnogdiphboaa.Ses.OrdS.o x6)) : Int))) _)
 (br (@Decidable.decide (@LT.lt Nat _ (@HAdd.hAdd Nat Nat Nat _ (0 : Nat) (@Int.toNat (@Int.tmod (@Go.IntKind.wrap Go.IntKind.i64 (Nat.cast (@BitVec.toNat (@Go.IntKind.bits Go.IntKind.i64) (@HAnd.hAnd (@BitVec (@Go.IntKind.bits Go.IntKind.i64)) (@BitVec (@Go.IntKind.bits Go.IntKind.i64)) (@BitVec (@Go.IntKind.bits Go.IntKind.i64)) _ (@BitVec.ofInt (@Go.IntKind.bits Go.IntKind.i64) (@Go.Proofs.Ytnkhnogdiphboaa.Sx.Deed6D.id (@List.getD Go.Proofs.Ytnkhnogdiphboaa.Sx.Deed6D x (@Int.toNat (Nat.cast (@Go.Proofs.Ytnkhnogdiphboaa.Ses.OrdS.i x6) : Int)) (@Go.Proofs.Ytnkhnogdiphboaa.Sx.Deed6D.mk (0 : Int) (0 : Int) (0 : Int) (@List.nil UInt8) Go.Proofs.Ytnkhnogdiphboaa.Sx.VerdictD.dflt)))) (@BitVec.ofInt (@Go.IntKind.bits Go.IntKind.i64) (255 : Int)))) : Int)) (Nat.cast (@List.length Int (@Go.Proofs.Ytnkhnogdiphboaa.Ses.OrdS.o x6)) : Int)))) (@List.length Int (@Go.Proofs.Ytnkhnogdiphboaa.Ses.OrdS.o x6))) _)
 (∃ x43 : Go.Proofs.Ytnkhnogdiphboaa.Ses.DoneA,
 ((@Eq Int (@List.getD Int (@Go.Proofs.Ytnkhnogdiphboaa.Ses.OrdS.o x6) (@HAdd.hAdd Nat Nat Nat _ (0 : Nat) (@Int.toNat (@Int.tmod (@Go.IntKind.wrap Go.IntKind.i64 (Nat.cast (@BitVec.toNat (@Go.IntKind.bits Go.IntKind.i64) (@HAnd.hAnd (@BitVec (@Go.IntKind.bits Go.IntKind.i64)) (@BitVec (@Go.IntKind.bits Go.IntKind.i64)) (@BitVec (@Go.IntKind.bits Go.IntKind.i64)) _ (@BitVec.ofInt (@Go.IntKind.bits Go.IntKind.i64) (@Go.Proofs.Ytnkhnogdiphboaa.Sx.Deed6D.id (@List.getD Go.Proofs.Ytnkhnogdiphboaa.Sx.Deed6D x (@Int.toNat (Nat.cast (@Go.Proofs.Ytnkhnogdiphboaa.Ses.OrdS.i x6) : Int)) (@Go.Proofs.Ytnkhnogdiphboaa.Sx.Deed6D.mk (0 : Int) (0 : Int) (0 : Int) (@List.nil UInt8) Go.Proofs.Ytnkhnogdiphboaa.Sx.VerdictD.dflt)))) (@BitVec.ofInt (@Go.IntKind.bits Go.IntKind.i64) (255 : Int)))) : Int)) (Nat.cast (@List.length Int (@Go.Proofs.Ytnkhnogdiphboaa.Ses.OrdS.o x6)) : Int)))) (@Int.ofNat (0 : Nat))) (@Go.Proofs.Ytnkhnogdiphboaa.Ses.DoneA.id x43)) ∧
 ((@Eq Int (@Go.Proofs.Ytnkhnogdiphboaa.Sx.Deed6D.seq (@List.getD Go.Proofs.Ytnkhnogdiphboaa.Sx.Deed6D x (@Int.toNat (Nat.cast (@Go.Proofs.Ytnkhnogdiphboaa.Ses.OrdS.i x6) : Int)) (@Go.Proofs.Ytnkhnogdiphboaa.Sx.Deed6D.mk (0 : Int) (0 : Int) (0 : Int) (@List.nil UInt8) Go.Proofs.Ytnkhnogdiphboaa.Sx.VerdictD.dflt))) (@Go.Proofs.Ytnkhnogdiphboaa.Ses.DoneA.seq x43)) ∧
 ((@Eq Int (@Go.Proofs.Ytnkhnogdiphboaa.Sx.VerdictD.code (@Go.Proofs.Ytnkhnogdiphboaa.Sx.Deed6D.v (@List.getD Go.Proofs.Ytnkhnogdiphboaa.Sx.Deed6D x (@Int.toNat (Nat.cast (@Go.Proofs.Ytnkhnogdiphboaa.Ses.OrdS.i x6) : Int)) (@Go.Proofs.Ytnkhnogdiphboaa.Sx.Deed6D.mk (0 : Int) (0 : Int) (0 : Int) (@List.nil UInt8) Go.Proofs.Ytnkhnogdiphboaa.Sx.VerdictD.dflt)))) (@Go.Proofs.Ytnkhnogdiphboaa.Sx.VerdictD.code (@Go.Proofs.Ytnkhnogdiphboaa.Ses.DoneA.v x43))) ∧
 ((@Eq Int (@Go.Proofs.Ytnkhnogdiphboaa.Sx.VerdictD.session (@Go.Proofs.Ytnkhnogdiphboaa.Sx.Deed6D.v (@List.getD Go.Proofs.Ytnkhnogdiphboaa.Sx.Deed6D x (@Int.toNat (Nat.cast (@Go.Proofs.Ytnkhnogdiphboaa.Ses.OrdS.i x6) : Int)) (@Go.Proofs.Ytnkhnogdiphboaa.Sx.Deed6D.mk (0 : Int) (0 : Int) (0 : Int) (@List.nil UInt8) Go.Proofs.Ytnkhnogdiphboaa.Sx.VerdictD.dflt)))) (@Go.Proofs.Ytnkhnogdiphboaa.Sx.VerdictD.session (@Go.Proofs.Ytnkhnogdiphboaa.Ses.DoneA.v x43))) ∧
 ((@Eq Int (@Go.Proofs.Ytnkhnogdiphboaa.Sx.VerdictD.rev (@Go.Proofs.Ytnkhnogdiphboaa.Sx.Deed6D.v (@List.getD Go.Proofs.Ytnkhnogdiphboaa.Sx.Deed6D x (@Int.toNat (Nat.cast (@Go.Proofs.Ytnkhnogdiphboaa.Ses.OrdS.i x6) : Int)) (@Go.Proofs.Ytnkhnogdiphboaa.Sx.Deed6D.mk (0 : Int) (0 : Int) (0 : Int) (@List.nil UInt8) Go.Proofs.Ytnkhnogdiphboaa.Sx.VerdictD.dflt)))) (@Go.Proofs.Ytnkhnogdiphboaa.Sx.VerdictD.rev (@Go.Proofs.Ytnkhnogdiphboaa.Ses.DoneA.v x43))) ∧
 ((@Eq Go.Proofs.Ytnkhnogdiphboaa.Sx.Bs (@Go.Proofs.Ytnkhnogdiphboaa.Sx.VerdictD.path (@Go.Proofs.Ytnkhnogdiphboaa.Sx.Deed6D.v (@List.getD Go.Proofs.Ytnkhnogdiphboaa.Sx.Deed6D x (@Int.toNat (Nat.cast (@Go.Proofs.Ytnkhnogdiphboaa.Ses.OrdS.i x6) : Int)) (@Go.Proofs.Ytnkhnogdiphboaa.Sx.Deed6D.mk (0 : Int) (0 : Int) (0 : Int) (@List.nil UInt8) Go.Proofs.Ytnkhnogdiphboaa.Sx.VerdictD.dflt)))) (@Go.Proofs.Ytnkhnogdiphboaa.Sx.VerdictD.path (@Go.Proofs.Ytnkhnogdiphboaa.Ses.DoneA.v x43))) ∧
 ((@Eq Int (@Go.Proofs.Ytnkhnogdiphboaa.Sx.VerdictD.digest (@Go.Proofs.Ytnkhnogdiphboaa.Sx.Deed6D.v (@List.getD Go.Proofs.Ytnkhnogdiphboaa.Sx.Deed6D x (@Int.toNat (Nat.cast (@Go.Proofs.Ytnkhnogdiphboaa.Ses.OrdS.i x6) : Int)) (@Go.Proofs.Ytnkhnogdiphboaa.Sx.Deed6D.mk (0 : Int) (0 : Int) (0 : Int) (@List.nil UInt8) Go.Proofs.Ytnkhnogdiphboaa.Sx.VerdictD.dflt)))) (@Go.Proofs.Ytnkhnogdiphboaa.Sx.VerdictD.digest (@Go.Proofs.Ytnkhnogdiphboaa.Ses.DoneA.v x43))) ∧
 ((@Eq (@List Go.Proofs.Ytnkhnogdiphboaa.Sx.CommitD) (@Go.Proofs.Ytnkhnogdiphboaa.Sx.VerdictD.commits (@Go.Proofs.Ytnkhnogdiphboaa.Sx.Deed6D.v (@List.getD Go.Proofs.Ytnkhnogdiphboaa.Sx.Deed6D x (@Int.toNat (Nat.cast (@Go.Proofs.Ytnkhnogdiphboaa.Ses.OrdS.i x6) : Int)) (@Go.Proofs.Ytnkhnogdiphboaa.Sx.Deed6D.mk (0 : Int) (0 : Int) (0 : Int) (@List.nil UInt8) Go.Proofs.Ytnkhnogdiphboaa.Sx.VerdictD.dflt)))) (@Go.Proofs.Ytnkhnogdiphboaa.Sx.VerdictD.commits (@Go.Proofs.Ytnkhnogdiphboaa.Ses.DoneA.v x43))) ∧
 ((@Eq Int (@Go.Proofs.Ytnkhnogdiphboaa.Sx.VerdictD.member (@Go.Proofs.Ytnkhnogdiphboaa.Sx.Deed6D.v (@List.getD Go.Proofs.Ytnkhnogdiphboaa.Sx.Deed6D x (@Int.toNat (Nat.cast (@Go.Proofs.Ytnkhnogdiphboaa.Ses.OrdS.i x6) : Int)) (@Go.Proofs.Ytnkhnogdiphboaa.Sx.Deed6D.mk (0 : Int) (0 : Int) (0 : Int) (@List.nil UInt8) Go.Proofs.Ytnkhnogdiphboaa.Sx.VerdictD.dflt)))) (@Go.Proofs.Ytnkhnogdiphboaa.Sx.VerdictD.member (@Go.Proofs.Ytnkhnogdiphboaa.Ses.DoneA.v x43))) ∧
 ((@Eq Int (16 : Int) (@Go.Proofs.Ytnkhnogdiphboaa.Ses.DoneA.size x43)) ∧
 ((@Eq Nat (0 : Nat) (0 : Nat)) ∧
 ((@Eq Nat (@List.length Go.Proofs.Ytnkhnogdiphboaa.Sx.SessionD (@Go.Proofs.Ytnkhnogdiphboaa.Ses.OrdS.l x6)) (@List.length Go.Proofs.Ytnkhnogdiphboaa.Sx.SessionD (@Go.Proofs.Ytnkhnogdiphboaa.Ses.DoneA.l x43))) ∧
 ((@Eq (@List Go.Proofs.Ytnkhnogdiphboaa.Sx.SessionD) (@Go.Proofs.Ytnkhnogdiphboaa.Ses.OrdS.l x6) (@Go.Proofs.Ytnkhnogdiphboaa.Ses.DoneA.l x43)) ∧
 ((@Eq Bool (@Decidable.decide (@LT.lt Int _ (0 : Int) (@Go.Proofs.Ytnkhnogdiphboaa.Ses.DoneA.size x43)) _) Bool.true) ∧
 (∀ x44 : Unit,
 (True →
 (br (@Decidable.decide ((@LE.le Int _ (0 : Int) (0 : Int)) ∧
 (@LT.lt Int _ (0 : Int) (Nat.cast (@List.length Int (@Go.Proofs.Ytnkhnogdiphboaa.Ses.OrdS.o x6)) : Int))) _)
 (br (@Decidable.decide (@LT.lt Nat _ (@HAdd.hAdd Nat Nat Nat _ (0 : Nat) (@Int.toNat (0 : Int))) (@List.length Int (@Go.Proofs.Ytnkhnogdiphboaa.Ses.OrdS.o x6))) _)
 (∃ x45 : Go.Proofs.Ytnkhnogdiphboaa.Ses.TabI,
 ((@Eq Int (@List.getD Int (@Go.Proofs.Ytnkhnogdiphboaa.Ses.OrdS.o x6) (@HAdd.hAdd Nat Nat Nat _ (0 : Nat) (@Int.toNat (0 : Int))) (@Int.ofNat (0 : Nat))) (@Go.Proofs.Ytnkhnogdiphboaa.Ses.TabI.n x45)) ∧
 ((@Eq Int (@Go.Proofs.Ytnkhnogdiphboaa.Ses.DoneA.size x43) (@Go.Proofs.Ytnkhnogdiphboaa.Ses.TabI.size x45)) ∧
 ((@Eq Nat (0 : Nat) (0 : Nat)) ∧
 ((@Eq Nat (@List.length Go.Proofs.Ytnkhnogdiphboaa.Sx.SessionD (@Prod.snd Bool (@List Go.Proofs.Ytnkhnogdiphboaa.Sx.SessionD) (@Go.Proofs.Ytnkhnogdiphboaa.Ses.doneL x43))) (@List.length Go.Proofs.Ytnkhnogdiphboaa.Sx.SessionD (@Go.Proofs.Ytnkhnogdiphboaa.Ses.TabI.l x45))) ∧
 ((@Eq (@List Go.Proofs.Ytnkhnogdiphboaa.Sx.SessionD) (@Prod.snd Bool (@List Go.Proofs.Ytnkhnogdiphboaa.Sx.SessionD) (@Go.Proofs.Ytnkhnogdiphboaa.Ses.doneL x43)) (@Go.Proofs.Ytnkhnogdiphboaa.Ses.TabI.l x45)) ∧
 ((@Eq Bool (@Decidable.decide (@LT.lt Int _ (0 : Int) (@Go.Proofs.Ytnkhnogdiphboaa.Ses.TabI.size x45)) _) Bool.true) ∧
 (∀ x46 : Unit,
 (True →
 (∃ x47 : Go.Proofs.Ytnkhnogdiphboaa.Ses.TabA,
 ((@Eq Int (@Go.Proofs.Ytnkhnogdiphboaa.Ses.TabI.size x45) (@Go.Proofs.Ytnkhnogdiphboaa.Ses.TabA.size x47)) ∧
 ((@Eq Nat (0 : Nat) (0 : Nat)) ∧
 ((@Eq Nat (@List.length Go.Proofs.Ytnkhnogdiphboaa.Sx.SessionD (@Go.Proofs.Ytnkhnogdiphboaa.Ses.TabI.l x45)) (@List.length Go.Proofs.Ytnkhnogdiphboaa.Sx.SessionD (@Go.Proofs.Ytnkhnogdiphboaa.Ses.TabA.l x47))) ∧
 ((@Eq (@List Go.Proofs.Ytnkhnogdiphboaa.Sx.SessionD) (@Go.Proofs.Ytnkhnogdiphboaa.Ses.TabI.l x45) (@Go.Proofs.Ytnkhnogdiphboaa.Ses.TabA.l x47)) ∧
 ((@Eq Bool (@Decidable.decide (@LT.lt Int _ (0 : Int) (@Go.Proofs.Ytnkhnogdiphboaa.Ses.TabA.size x47)) _) Bool.true) ∧
 (∀ x48 : Unit,
 (True →
 ((@LE.le Nat _ (@HMul.hMul Nat Nat Nat _ (@List.length Go.Proofs.Ytnkhnogdiphboaa.Sx.SessionD (@Go.Proofs.Ytnkhnogdiphboaa.Ses.TabA.l x47)) (112 : Nat)) Go.Proofs.Ytnkhnogdiphboaa.Sx.room47) →
 ((@LE.le Nat _ (@HMul.hMul Nat Nat Nat _ (@List.length Int (@Go.Proofs.Ytnkhnogdiphboaa.Ses.OrdS.o x6)) (8 : Nat)) Go.Proofs.Ytnkhnogdiphboaa.Sx.room47) →
 (br (@bne Int _ (Nat.cast (@List.length Go.Proofs.Ytnkhnogdiphboaa.Sx.SessionD (@Go.Proofs.Ytnkhnogdiphboaa.Ses.TabA.l x47)) : Int) (Nat.cast (@List.length Int (@Go.Proofs.Ytnkhnogdiphboaa.Ses.OrdS.o x6)) : Int))
 (@Eq Bool Bool.false Bool.true)
 ((∃ x49 : Nat,
 ((@Eq Int (0 : Int) (Nat.cast x49 : Int)) ∧
 (@Nat.le x49 (@List.length Go.Proofs.Ytnkhnogdiphboaa.Sx.SessionD (@Go.Proofs.Ytnkhnogdiphboaa.Ses.TabA.l x47))))) ∧
 (∀ x50 : Nat,
 ((@Nat.le x50 (@List.length Go.Proofs.Ytnkhnogdiphboaa.Sx.SessionD (@Go.Proofs.Ytnkhnogdiphboaa.Ses.TabA.l x47))) →
 ((@LE.le Nat _ (@HMul.hMul Nat Nat Nat _ (@List.length Go.Proofs.Ytnkhnogdiphboaa.Sx.SessionD (@Go.Proofs.Ytnkhnogdiphboaa.Ses.TabA.l x47)) (112 : Nat)) Go.Proofs.Ytnkhnogdiphboaa.Sx.room47) →
 (br (@Decidable.decide (@LT.lt Int _ (Nat.cast x50 : Int) (Nat.cast (@List.length Go.Proofs.Ytnkhnogdiphboaa.Sx.SessionD (@Go.Proofs.Ytnkhnogdiphboaa.Ses.TabA.l x47)) : Int)) _)
 (br (@Decidable.decide ((@LE.le Int _ (0 : Int) (Nat.cast x50 : Int)) ∧
 (@LT.lt Int _ (Nat.cast x50 : Int) (Nat.cast (@List.length Go.Proofs.Ytnkhnogdiphboaa.Sx.SessionD (@Go.Proofs.Ytnkhnogdiphboaa.Ses.TabA.l x47)) : Int))) _)
 (br (@Decidable.decide (@LT.lt Nat _ (@HAdd.hAdd Nat Nat Nat _ (0 : Nat) (@Int.toNat (Nat.cast x50 : Int))) (@List.length Go.Proofs.Ytnkhnogdiphboaa.Sx.SessionD (@Go.Proofs.Ytnkhnogdiphboaa.Ses.TabA.l x47))) _)
 (br (@Decidable.decide ((@LE.le Int _ (0 : Int) (Nat.cast x50 : Int)) ∧
 (@LT.lt Int _ (Nat.cast x50 : Int) (Nat.cast (@List.length Int (@Go.Proofs.Ytnkhnogdiphboaa.Ses.OrdS.o x6)) : Int))) _)
 (br (@Decidable.decide (@LT.lt Nat _ (@HAdd.hAdd Nat Nat Nat _ (0 : Nat) (@Int.toNat (Nat.cast x50 : Int))) (@List.length Int (@Go.Proofs.Ytnkhnogdiphboaa.Ses.OrdS.o x6))) _)
 (br (@bne Int _ (@Go.Proofs.Ytnkhnogdiphboaa.Sx.SessionD.id (@List.getD Go.Proofs.Ytnkhnogdiphboaa.Sx.SessionD (@Go.Proofs.Ytnkhnogdiphboaa.Ses.TabA.l x47) (@HAdd.hAdd Nat Nat Nat _ (0 : Nat) (@Int.toNat (Nat.cast x50 : Int))) (@Go.Proofs.Ytnkhnogdiphboaa.Sx.SessionD.mk (0 : Int) (0 : Int) (@List.nil UInt8) Go.Proofs.Ytnkhnogdiphboaa.Sx.VerdictD.dflt))) (@List.getD Int (@Go.Proofs.Ytnkhnogdiphboaa.Ses.OrdS.o x6) (@HAdd.hAdd Nat Nat Nat _ (0 : Nat) (@Int.toNat (Nat.cast x50 : Int))) (@Int.ofNat (0 : Nat))))
 (@Eq Bool Bool.false Bool.true)
 (∃ x51 : Nat,
 ((@Eq Int (@Go.IntKind.wrap Go.IntKind.i64 (@HAdd.hAdd Int Int Int _ (Nat.cast x50 : Int) (1 : Int))) (Nat.cast x51 : Int)) ∧
 ((@Nat.le x51 (@List.length Go.Proofs.Ytnkhnogdiphboaa.Sx.SessionD (@Go.Proofs.Ytnkhnogdiphboaa.Ses.TabA.l x47))) ∧
 (@LT.lt Nat _ (@Nat.sub (@List.length Go.Proofs.Ytnkhnogdiphboaa.Sx.SessionD (@Go.Proofs.Ytnkhnogdiphboaa.Ses.TabA.l x47)) x51) (@Nat.sub (@List.length Go.Proofs.Ytnkhnogdiphboaa.Sx.SessionD (@Go.Proofs.Ytnkhnogdiphboaa.Ses.TabA.l x47)) x50))))))
 (Bad "check" "law.go:293"))
 (Bad "check" "law.go:293"))
 (Bad "check" "law.go:293"))
 (Bad "check" "law.go:293"))
 (∃ x52 : Go.Proofs.Ytnkhnogdiphboaa.Ses.OrdS,
 ((@Eq Int (@Go.IntKind.wrap Go.IntKind.i64 (@HAdd.hAdd Int Int Int _ (Nat.cast (@Go.Proofs.Ytnkhnogdiphboaa.Ses.OrdS.i x6) : Int) (1 : Int))) (Nat.cast (@Go.Proofs.Ytnkhnogdiphboaa.Ses.OrdS.i x52) : Int)) ∧
 ((@Eq Nat (0 : Nat) (0 : Nat)) ∧
 ((@Eq Nat (@List.length Int (@Go.Proofs.Ytnkhnogdiphboaa.Ses.OrdS.o x6)) (@List.length Int (@Go.Proofs.Ytnkhnogdiphboaa.Ses.OrdS.o x52))) ∧
 ((@Eq Int (@Go.Proofs.Ytnkhnogdiphboaa.Ses.TabA.size x47) (16 : Int)) ∧
 ((@Eq Nat (0 : Nat) (0 : Nat)) ∧
 ((@Eq Nat (@List.length Go.Proofs.Ytnkhnogdiphboaa.Sx.SessionD (@Go.Proofs.Ytnkhnogdiphboaa.Ses.TabA.l x47)) (@List.length Go.Proofs.Ytnkhnogdiphboaa.Sx.SessionD (@Go.Proofs.Ytnkhnogdiphboaa.Ses.OrdS.l x52))) ∧
 ((@Eq (@List Go.Proofs.Ytnkhnogdiphboaa.Sx.SessionD) (@Go.Proofs.Ytnkhnogdiphboaa.Ses.TabA.l x47) (@Go.Proofs.Ytnkhnogdiphboaa.Ses.OrdS.l x52)) ∧
 ((@Eq (@List Int) (@Go.Proofs.Ytnkhnogdiphboaa.Ses.OrdS.o x6) (@Go.Proofs.Ytnkhnogdiphboaa.Ses.OrdS.o x52)) ∧
 (((@LE.le Nat _ (@Go.Proofs.Ytnkhnogdiphboaa.Ses.OrdS.i x52) (@List.length Go.Proofs.Ytnkhnogdiphboaa.Sx.Deed6D x)) ∧
 ((@LE.le Nat _ (@Go.Proofs.Ytnkhnogdiphboaa.Ses.OrdS.i x52) (16 : Nat)) ∧
 (@Go.Proofs.Ytnkhnogdiphboaa.Ses.OrdI (@Go.Proofs.Ytnkhnogdiphboaa.Ses.OrdS.i x52) (@Go.Proofs.Ytnkhnogdiphboaa.Ses.OrdS.o x52) (@Go.Proofs.Ytnkhnogdiphboaa.Ses.OrdS.l x52)))) ∧
 (@LT.lt Nat _ (@Nat.sub (@List.length Go.Proofs.Ytnkhnogdiphboaa.Sx.Deed6D x) (@Go.Proofs.Ytnkhnogdiphboaa.Ses.OrdS.i x52)) (@Nat.sub (@List.length Go.Proofs.Ytnkhnogdiphboaa.Sx.Deed6D x) (@Go.Proofs.Ytnkhnogdiphboaa.Ses.OrdS.i x6))))))))))))))))))))))))))))))))))))))
 (Bad "check" "law.go:277"))
 (Bad "check" "law.go:277")))))))))))))))))))
 (Bad "check" "law.go:276"))
 (Bad "check" "law.go:276"))
 (Bad "check" "law.go:276")))
 (∃ x53 : Go.Proofs.Ytnkhnogdiphboaa.Ses.TabA,
 ((@Eq Int (16 : Int) (@Go.Proofs.Ytnkhnogdiphboaa.Ses.TabA.size x53)) ∧
 ((@Eq Nat (0 : Nat) (0 : Nat)) ∧
 ((@Eq Nat (@List.length Go.Proofs.Ytnkhnogdiphboaa.Sx.SessionD (@Go.Proofs.Ytnkhnogdiphboaa.Ses.OrdS.l x6)) (@List.length Go.Proofs.Ytnkhnogdiphboaa.Sx.SessionD (@Go.Proofs.Ytnkhnogdiphboaa.Ses.TabA.l x53))) ∧
 ((@Eq (@List Go.Proofs.Ytnkhnogdiphboaa.Sx.SessionD) (@Go.Proofs.Ytnkhnogdiphboaa.Ses.OrdS.l x6) (@Go.Proofs.Ytnkhnogdiphboaa.Ses.TabA.l x53)) ∧
 ((@Eq Bool (@Decidable.decide (@LT.lt Int _ (0 : Int) (@Go.Proofs.Ytnkhnogdiphboaa.Ses.TabA.size x53)) _) Bool.true) ∧
 (∀ x54 : Unit,
 (True →
 ((@LE.le Nat _ (@HMul.hMul Nat Nat Nat _ (@List.length Go.Proofs.Ytnkhnogdiphboaa.Sx.SessionD (@Go.Proofs.Ytnkhnogdiphboaa.Ses.TabA.l x53)) (112 : Nat)) Go.Proofs.Ytnkhnogdiphboaa.Sx.room47) →
 ((@LE.le Nat _ (@HMul.hMul Nat Nat Nat _ (@List.length Int (@Go.Proofs.Ytnkhnogdiphboaa.Ses.OrdS.o x6)) (8 : Nat)) Go.Proofs.Ytnkhnogdiphboaa.Sx.room47) →
 (br (@bne Int _ (Nat.cast (@List.length Go.Proofs.Ytnkhnogdiphboaa.Sx.SessionD (@Go.Proofs.Ytnkhnogdiphboaa.Ses.TabA.l x53)) : Int) (Nat.cast (@List.length Int (@Go.Proofs.Ytnkhnogdiphboaa.Ses.OrdS.o x6)) : Int))
 (@Eq Bool Bool.false Bool.true)
 ((∃ x55 : Nat,
 ((@Eq Int (0 : Int) (Nat.cast x55 : Int)) ∧
 (@Nat.le x55 (@List.length Go.Proofs.Ytnkhnogdiphboaa.Sx.SessionD (@Go.Proofs.Ytnkhnogdiphboaa.Ses.TabA.l x53))))) ∧
 (∀ x56 : Nat,
 ((@Nat.le x56 (@List.length Go.Proofs.Ytnkhnogdiphboaa.Sx.SessionD (@Go.Proofs.Ytnkhnogdiphboaa.Ses.TabA.l x53))) →
 ((@LE.le Nat _ (@HMul.hMul Nat Nat Nat _ (@List.length Go.Proofs.Ytnkhnogdiphboaa.Sx.SessionD (@Go.Proofs.Ytnkhnogdiphboaa.Ses.TabA.l x53)) (112 : Nat)) Go.Proofs.Ytnkhnogdiphboaa.Sx.room47) →
 (br (@Decidable.decide (@LT.lt Int _ (Nat.cast x56 : Int) (Nat.cast (@List.length Go.Proofs.Ytnkhnogdiphboaa.Sx.SessionD (@Go.Proofs.Ytnkhnogdiphboaa.Ses.TabA.l x53)) : Int)) _)
 (br (@Decidable.decide ((@LE.le Int _ (0 : Int) (Nat.cast x56 : Int)) ∧
 (@LT.lt Int _ (Nat.cast x56 : Int) (Nat.cast (@List.length Go.Proofs.Ytnkhnogdiphboaa.Sx.SessionD (@Go.Proofs.Ytnkhnogdiphboaa.Ses.TabA.l x53)) : Int))) _)
 (br (@Decidable.decide (@LT.lt Nat _ (@HAdd.hAdd Nat Nat Nat _ (0 : Nat) (@Int.toNat (Nat.cast x56 : Int))) (@List.length Go.Proofs.Ytnkhnogdiphboaa.Sx.SessionD (@Go.Proofs.Ytnkhnogdiphboaa.Ses.TabA.l x53))) _)
 (br (@Decidable.decide ((@LE.le Int _ (0 : Int) (Nat.cast x56 : Int)) ∧
 (@LT.lt Int _ (Nat.cast x56 : Int) (Nat.cast (@List.length Int (@Go.Proofs.Ytnkhnogdiphboaa.Ses.OrdS.o x6)) : Int))) _)
 (br (@Decidable.decide (@LT.lt Nat _ (@HAdd.hAdd Nat Nat Nat _ (0 : Nat) (@Int.toNat (Nat.cast x56 : Int))) (@List.length Int (@Go.Proofs.Ytnkhnogdiphboaa.Ses.OrdS.o x6))) _)
 (br (@bne Int _ (@Go.Proofs.Ytnkhnogdiphboaa.Sx.SessionD.id (@List.getD Go.Proofs.Ytnkhnogdiphboaa.Sx.SessionD (@Go.Proofs.Ytnkhnogdiphboaa.Ses.TabA.l x53) (@HAdd.hAdd Nat Nat Nat _ (0 : Nat) (@Int.toNat (Nat.cast x56 : Int))) (@Go.Proofs.Ytnkhnogdiphboaa.Sx.SessionD.mk (0 : Int) (0 : Int) (@List.nil UInt8) Go.Proofs.Ytnkhnogdiphboaa.Sx.VerdictD.dflt))) (@List.getD Int (@Go.Proofs.Ytnkhnogdiphboaa.Ses.OrdS.o x6) (@HAdd.hAdd Nat Nat Nat _ (0 : Nat) (@Int.toNat (Nat.cast x56 : Int))) (@Int.ofNat (0 : Nat))))
 (@Eq Bool Bool.false Bool.true)
 (∃ x57 : Nat,
 ((@Eq Int (@Go.IntKind.wrap Go.IntKind.i64 (@HAdd.hAdd Int Int Int _ (Nat.cast x56 : Int) (1 : Int))) (Nat.cast x57 : Int)) ∧
 ((@Nat.le x57 (@List.length Go.Proofs.Ytnkhnogdiphboaa.Sx.SessionD (@Go.Proofs.Ytnkhnogdiphboaa.Ses.TabA.l x53))) ∧
 (@LT.lt Nat _ (@Nat.sub (@List.length Go.Proofs.Ytnkhnogdiphboaa.Sx.SessionD (@Go.Proofs.Ytnkhnogdiphboaa.Ses.TabA.l x53)) x57) (@Nat.sub (@List.length Go.Proofs.Ytnkhnogdiphboaa.Sx.SessionD (@Go.Proofs.Ytnkhnogdiphboaa.Ses.TabA.l x53)) x56))))))
 (Bad "check" "law.go:293"))
 (Bad "check" "law.go:293"))
 (Bad "check" "law.go:293"))
 (Bad "check" "law.go:293"))
 (∃ x58 : Go.Proofs.Ytnkhnogdiphboaa.Ses.OrdS,
 ((@Eq Int (@Go.IntKind.wrap Go.IntKind.i64 (@HAdd.hAdd Int Int Int _ (Nat.cast (@Go.Proofs.Ytnkhnogdiphboaa.Ses.OrdS.i x6) : Int) (1 : Int))) (Nat.cast (@Go.Proofs.Ytnkhnogdiphboaa.Ses.OrdS.i x58) : Int)) ∧
 ((@Eq Nat (0 : Nat) (0 : Nat)) ∧
 ((@Eq Nat (@List.length Int (@Go.Proofs.Ytnkhnogdiphboaa.Ses.OrdS.o x6)) (@List.length Int (@Go.Proofs.Ytnkhnogdiphboaa.Ses.OrdS.o x58))) ∧
 ((@Eq Int (@Go.Proofs.Ytnkhnogdiphboaa.Ses.TabA.size x53) (16 : Int)) ∧
 ((@Eq Nat (0 : Nat) (0 : Nat)) ∧
 ((@Eq Nat (@List.length Go.Proofs.Ytnkhnogdiphboaa.Sx.SessionD (@Go.Proofs.Ytnkhnogdiphboaa.Ses.TabA.l x53)) (@List.length Go.Proofs.Ytnkhnogdiphboaa.Sx.SessionD (@Go.Proofs.Ytnkhnogdiphboaa.Ses.OrdS.l x58))) ∧
 ((@Eq (@List Go.Proofs.Ytnkhnogdiphboaa.Sx.SessionD) (@Go.Proofs.Ytnkhnogdiphboaa.Ses.TabA.l x53) (@Go.Proofs.Ytnkhnogdiphboaa.Ses.OrdS.l x58)) ∧
 ((@Eq (@List Int) (@Go.Proofs.Ytnkhnogdiphboaa.Ses.OrdS.o x6) (@Go.Proofs.Ytnkhnogdiphboaa.Ses.OrdS.o x58)) ∧
 (((@LE.le Nat _ (@Go.Proofs.Ytnkhnogdiphboaa.Ses.OrdS.i x58) (@List.length Go.Proofs.Ytnkhnogdiphboaa.Sx.Deed6D x)) ∧
 ((@LE.le Nat _ (@Go.Proofs.Ytnkhnogdiphboaa.Ses.OrdS.i x58) (16 : Nat)) ∧
 (@Go.Proofs.Ytnkhnogdiphboaa.Ses.OrdI (@Go.Proofs.Ytnkhnogdiphboaa.Ses.OrdS.i x58) (@Go.Proofs.Ytnkhnogdiphboaa.Ses.OrdS.o x58) (@Go.Proofs.Ytnkhnogdiphboaa.Ses.OrdS.l x58)))) ∧
 (@LT.lt Nat _ (@Nat.sub (@List.length Go.Proofs.Ytnkhnogdiphboaa.Sx.Deed6D x) (@Go.Proofs.Ytnkhnogdiphboaa.Ses.OrdS.i x58)) (@Nat.sub (@List.length Go.Proofs.Ytnkhnogdiphboaa.Sx.Deed6D x) (@Go.Proofs.Ytnkhnogdiphboaa.Ses.OrdS.i x6)))))))))))))))))))))))))))))))))
 ((@LE.le Nat _ (@HMul.hMul Nat Nat Nat _ (@List.length Int (@Go.Proofs.Ytnkhnogdiphboaa.Ses.OrdS.o x6)) (8 : Nat)) Go.Proofs.Ytnkhnogdiphboaa.Sx.room47) →
 (br (@Decidable.decide (@GT.gt Int _ (Nat.cast (@List.length Int (@Go.Proofs.Ytnkhnogdiphboaa.Ses.OrdS.o x6)) : Int) (0 : Int)) _)
 ((@LE.le Nat _ (@HMul.hMul Nat Nat Nat _ (@List.length Int (@Go.Proofs.Ytnkhnogdiphboaa.Ses.OrdS.o x6)) (8 : Nat)) Go.Proofs.Ytnkhnogdiphboaa.Sx.room47) →
 (br (@bne Int _ (Nat.cast (@List.length Int (@Go.Proofs.Ytnkhnogdiphboaa.Ses.OrdS.o x6)) : Int) (0 : Int))
 (br (@Decidable.decide ((@LE.le Int _ (0 : Int) (@Int.tmod (@Go.IntKind.wrap Go.IntKind.i64 (Nat.cast (@BitVec.toNat (@Go.IntKind.bits Go.IntKind.i64) (@HAnd.hAnd (@BitVec (@Go.IntKind.bits Go.IntKind.i64)) (@BitVec (@Go.IntKind.bits Go.IntKind.i64)) (@BitVec (@Go.IntKind.bits Go.IntKind.i64)) _ (@BitVec.ofInt (@Go.IntKind.bits Go.IntKind.i64) (@Go.Proofs.Ytnkhnogdiphboaa.Sx.Deed6D.id (@List.getD Go.Proofs.Ytnkhnogdiphboaa.Sx.Deed6D x (@Int.toNat (Nat.cast (@Go.Proofs.Ytnkhnogdiphboaa.Ses.OrdS.i x6) : Int)) (@Go.Proofs.Ytnkhnogdiphboaa.Sx.Deed6D.mk (0 : Int) (0 : Int) (0 : Int) (@List.nil UInt8) Go.Proofs.Ytnkhnogdiphboaa.Sx.VerdictD.dflt)))) (@BitVec.ofInt (@Go.IntKind.bits Go.IntKind.i64) (255 : Int)))) : Int)) (Nat.cast (@List.length Int (@Go.Proofs.Ytnkhnogdiphboaa.Ses.OrdS.o x6)) : Int))) ∧
 (@LT.lt Int _ (@Int.tmod (@Go.IntKind.wrap Go.IntKind.i64 (Nat.cast (@BitVec.toNat (@Go.IntKind.bits Go.IntKind.i64) (@HAnd.hAnd (@BitVec (@Go.IntKind.bits Go.IntKind.i64)) (@BitVec (@Go.IntKind.bits Go.IntKind.i64)) (@BitVec (@Go.IntKind.bits Go.IntKind.i64)) _ (@BitVec.ofInt (@Go.IntKind.bits Go.IntKind.i64) (@Go.Proofs.Ytnkhnogdiphboaa.Sx.Deed6D.id (@List.getD Go.Proofs.Ytnkhnogdiphboaa.Sx.Deed6D x (@Int.toNat (Nat.cast (@Go.Proofs.Ytnkhnogdiphboaa.Ses.OrdS.i x6) : Int)) (@Go.Proofs.Ytnkhnogdiphboaa.Sx.Deed6D.mk (0 : Int) (0 : Int) (0 : Int) (@List.nil UInt8) Go.Proofs.Ytnkhnogdiphboaa.Sx.VerdictD.dflt)))) (@BitVec.ofInt (@Go.IntKind.bits Go.IntKind.i64) (255 : Int)))) : Int)) (Nat.cast (@List.length Int (@Go.Proofs.Ytnkhnogdiphboaa.Ses.OrdS.o x6)) : Int)) (Nat.cast (@List.length Int (@Go.Proofs.Ytnkhnogdiphboaa.Ses.OrdS.o x6)) : Int))) _)
 (br (@Decidable.decide (@LT.lt Nat _ (@HAdd.hAdd Nat Nat Nat _ (0 : Nat) (@Int.toNat (@Int.tmod (@Go.IntKind.wrap Go.IntKind.i64 (Nat.cast (@BitVec.toNat (@Go.IntKind.bits Go.IntKind.i64) (@HAnd.hAnd (@BitVec (@Go.IntKind.bits Go.IntKind.i64)) (@BitVec (@Go.IntKind.bits Go.IntKind.i64)) (@BitVec (@Go.IntKind.bits Go.IntKind.i64)) _ (@BitVec.ofInt (@Go.IntKind.bits Go.IntKind.i64) (@Go.Proofs.Ytnkhnogdiphboaa.Sx.Deed6D.id (@List.getD Go.Proofs.Ytnkhnogdiphboaa.Sx.Deed6D x (@Int.toNat (Nat.cast (@Go.Proofs.Ytnkhnogdiphboaa.Ses.OrdS.i x6) : Int)) (@Go.Proofs.Ytnkhnogdiphboaa.Sx.Deed6D.mk (0 : Int) (0 : Int) (0 : Int) (@List.nil UInt8) Go.Proofs.Ytnkhnogdiphboaa.Sx.VerdictD.dflt)))) (@BitVec.ofInt (@Go.IntKind.bits Go.IntKind.i64) (255 : Int)))) : Int)) (Nat.cast (@List.length Int (@Go.Proofs.Ytnkhnogdiphboaa.Ses.OrdS.o x6)) : Int)))) (@List.length Int (@Go.Proofs.Ytnkhnogdiphboaa.Ses.OrdS.o x6))) _)
 (∃ x59 : Go.Proofs.Ytnkhnogdiphboaa.Ses.DoneA,
 ((@Eq Int (@List.getD Int (@Go.Proofs.Ytnkhnogdiphboaa.Ses.OrdS.o x6) (@HAdd.hAdd Nat Nat Nat _ (0 : Nat) (@Int.toNat (@Int.tmod (@Go.IntKind.wrap Go.IntKind.i64 (Nat.cast (@BitVec.toNat (@Go.IntKind.bits Go.IntKind.i64) (@HAnd.hAnd (@BitVec (@Go.IntKind.bits Go.IntKind.i64)) (@BitVec (@Go.IntKind.bits Go.IntKind.i64)) (@BitVec (@Go.IntKind.bits Go.IntKind.i64)) _ (@BitVec.ofInt (@Go.IntKind.bits Go.IntKind.i64) (@Go.Proofs.Ytnkhnogdiphboaa.Sx.Deed6D.id (@List.getD Go.Proofs.Ytnkhnogdiphboaa.Sx.Deed6D x (@Int.toNat (Nat.cast (@Go.Proofs.Ytnkhnogdiphboaa.Ses.OrdS.i x6) : Int)) (@Go.Proofs.Ytnkhnogdiphboaa.Sx.Deed6D.mk (0 : Int) (0 : Int) (0 : Int) (@List.nil UInt8) Go.Proofs.Ytnkhnogdiphboaa.Sx.VerdictD.dflt)))) (@BitVec.ofInt (@Go.IntKind.bits Go.IntKind.i64) (255 : Int)))) : Int)) (Nat.cast (@List.length Int (@Go.Proofs.Ytnkhnogdiphboaa.Ses.OrdS.o x6)) : Int)))) (@Int.ofNat (0 : Nat))) (@Go.Proofs.Ytnkhnogdiphboaa.Ses.DoneA.id x59)) ∧
 ((@Eq Int (@Go.Proofs.Ytnkhnogdiphboaa.Sx.Deed6D.seq (@List.getD Go.Proofs.Ytnkhnogdiphboaa.Sx.Deed6D x (@Int.toNat (Nat.cast (@Go.Proofs.Ytnkhnogdiphboaa.Ses.OrdS.i x6) : Int)) (@Go.Proofs.Ytnkhnogdiphboaa.Sx.Deed6D.mk (0 : Int) (0 : Int) (0 : Int) (@List.nil UInt8) Go.Proofs.Ytnkhnogdiphboaa.Sx.VerdictD.dflt))) (@Go.Proofs.Ytnkhnogdiphboaa.Ses.DoneA.seq x59)) ∧
 ((@Eq Int (@Go.Proofs.Ytnkhnogdiphboaa.Sx.VerdictD.code (@Go.Proofs.Ytnkhnogdiphboaa.Sx.Deed6D.v (@List.getD Go.Proofs.Ytnkhnogdiphboaa.Sx.Deed6D x (@Int.toNat (Nat.cast (@Go.Proofs.Ytnkhnogdiphboaa.Ses.OrdS.i x6) : Int)) (@Go.Proofs.Ytnkhnogdiphboaa.Sx.Deed6D.mk (0 : Int) (0 : Int) (0 : Int) (@List.nil UInt8) Go.Proofs.Ytnkhnogdiphboaa.Sx.VerdictD.dflt)))) (@Go.Proofs.Ytnkhnogdiphboaa.Sx.VerdictD.code (@Go.Proofs.Ytnkhnogdiphboaa.Ses.DoneA.v x59))) ∧
 ((@Eq Int (@Go.Proofs.Ytnkhnogdiphboaa.Sx.VerdictD.session (@Go.Proofs.Ytnkhnogdiphboaa.Sx.Deed6D.v (@List.getD Go.Proofs.Ytnkhnogdiphboaa.Sx.Deed6D x (@Int.toNat (Nat.cast (@Go.Proofs.Ytnkhnogdiphboaa.Ses.OrdS.i x6) : Int)) (@Go.Proofs.Ytnkhnogdiphboaa.Sx.Deed6D.mk (0 : Int) (0 : Int) (0 : Int) (@List.nil UInt8) Go.Proofs.Ytnkhnogdiphboaa.Sx.VerdictD.dflt)))) (@Go.Proofs.Ytnkhnogdiphboaa.Sx.VerdictD.session (@Go.Proofs.Ytnkhnogdiphboaa.Ses.DoneA.v x59))) ∧
 ((@Eq Int (@Go.Proofs.Ytnkhnogdiphboaa.Sx.VerdictD.rev (@Go.Proofs.Ytnkhnogdiphboaa.Sx.Deed6D.v (@List.getD Go.Proofs.Ytnkhnogdiphboaa.Sx.Deed6D x (@Int.toNat (Nat.cast (@Go.Proofs.Ytnkhnogdiphboaa.Ses.OrdS.i x6) : Int)) (@Go.Proofs.Ytnkhnogdiphboaa.Sx.Deed6D.mk (0 : Int) (0 : Int) (0 : Int) (@List.nil UInt8) Go.Proofs.Ytnkhnogdiphboaa.Sx.VerdictD.dflt)))) (@Go.Proofs.Ytnkhnogdiphboaa.Sx.VerdictD.rev (@Go.Proofs.Ytnkhnogdiphboaa.Ses.DoneA.v x59))) ∧
 ((@Eq Go.Proofs.Ytnkhnogdiphboaa.Sx.Bs (@Go.Proofs.Ytnkhnogdiphboaa.Sx.VerdictD.path (@Go.Proofs.Ytnkhnogdiphboaa.Sx.Deed6D.v (@List.getD Go.Proofs.Ytnkhnogdiphboaa.Sx.Deed6D x (@Int.toNat (Nat.cast (@Go.Proofs.Ytnkhnogdiphboaa.Ses.OrdS.i x6) : Int)) (@Go.Proofs.Ytnkhnogdiphboaa.Sx.Deed6D.mk (0 : Int) (0 : Int) (0 : Int) (@List.nil UInt8) Go.Proofs.Ytnkhnogdiphboaa.Sx.VerdictD.dflt)))) (@Go.Proofs.Ytnkhnogdiphboaa.Sx.VerdictD.path (@Go.Proofs.Ytnkhnogdiphboaa.Ses.DoneA.v x59))) ∧
 ((@Eq Int (@Go.Proofs.Ytnkhnogdiphboaa.Sx.VerdictD.digest (@Go.Proofs.Ytnkhnogdiphboaa.Sx.Deed6D.v (@List.getD Go.Proofs.Ytnkhnogdiphboaa.Sx.Deed6D x (@Int.toNat (Nat.cast (@Go.Proofs.Ytnkhnogdiphboaa.Ses.OrdS.i x6) : Int)) (@Go.Proofs.Ytnkhnogdiphboaa.Sx.Deed6D.mk (0 : Int) (0 : Int) (0 : Int) (@List.nil UInt8) Go.Proofs.Ytnkhnogdiphboaa.Sx.VerdictD.dflt)))) (@Go.Proofs.Ytnkhnogdiphboaa.Sx.VerdictD.digest (@Go.Proofs.Ytnkhnogdiphboaa.Ses.DoneA.v x59))) ∧
 ((@Eq (@List Go.Proofs.Ytnkhnogdiphboaa.Sx.CommitD) (@Go.Proofs.Ytnkhnogdiphboaa.Sx.VerdictD.commits (@Go.Proofs.Ytnkhnogdiphboaa.Sx.Deed6D.v (@List.getD Go.Proofs.Ytnkhnogdiphboaa.Sx.Deed6D x (@Int.toNat (Nat.cast (@Go.Proofs.Ytnkhnogdiphboaa.Ses.OrdS.i x6) : Int)) (@Go.Proofs.Ytnkhnogdiphboaa.Sx.Deed6D.mk (0 : Int) (0 : Int) (0 : Int) (@List.nil UInt8) Go.Proofs.Ytnkhnogdiphboaa.Sx.VerdictD.dflt)))) (@Go.Proofs.Ytnkhnogdiphboaa.Sx.VerdictD.commits (@Go.Proofs.Ytnkhnogdiphboaa.Ses.DoneA.v x59))) ∧
 ((@Eq Int (@Go.Proofs.Ytnkhnogdiphboaa.Sx.VerdictD.member (@Go.Proofs.Ytnkhnogdiphboaa.Sx.Deed6D.v (@List.getD Go.Proofs.Ytnkhnogdiphboaa.Sx.Deed6D x (@Int.toNat (Nat.cast (@Go.Proofs.Ytnkhnogdiphboaa.Ses.OrdS.i x6) : Int)) (@Go.Proofs.Ytnkhnogdiphboaa.Sx.Deed6D.mk (0 : Int) (0 : Int) (0 : Int) (@List.nil UInt8) Go.Proofs.Ytnkhnogdiphboaa.Sx.VerdictD.dflt)))) (@Go.Proofs.Ytnkhnogdiphboaa.Sx.VerdictD.member (@Go.Proofs.Ytnkhnogdiphboaa.Ses.DoneA.v x59))) ∧
 ((@Eq Int (16 : Int) (@Go.Proofs.Ytnkhnogdiphboaa.Ses.DoneA.size x59)) ∧
 ((@Eq Nat (0 : Nat) (0 : Nat)) ∧
 ((@Eq Nat (@List.length Go.Proofs.Ytnkhnogdiphboaa.Sx.SessionD (@Go.Proofs.Ytnkhnogdiphboaa.Ses.OrdS.l x6)) (@List.length Go.Proofs.Ytnkhnogdiphboaa.Sx.SessionD (@Go.Proofs.Ytnkhnogdiphboaa.Ses.DoneA.l x59))) ∧
 ((@Eq (@List Go.Proofs.Ytnkhnogdiphboaa.Sx.SessionD) (@Go.Proofs.Ytnkhnogdiphboaa.Ses.OrdS.l x6) (@Go.Proofs.Ytnkhnogdiphboaa.Ses.DoneA.l x59)) ∧
 ((@Eq Bool (@Decidable.decide (@LT.lt Int _ (0 : Int) (@Go.Proofs.Ytnkhnogdiphboaa.Ses.DoneA.size x59)) _) Bool.true) ∧
 (∀ x60 : Unit,
 (True →
 (br (@Decidable.decide ((@LE.le Int _ (0 : Int) (0 : Int)) ∧
 (@LT.lt Int _ (0 : Int) (Nat.cast (@List.length Int (@Go.Proofs.Ytnkhnogdiphboaa.Ses.OrdS.o x6)) : Int))) _)
 (br (@Decidable.decide (@LT.lt Nat _ (@HAdd.hAdd Nat Nat Nat _ (0 : Nat) (@Int.toNat (0 : Int))) (@List.length Int (@Go.Proofs.Ytnkhnogdiphboaa.Ses.OrdS.o x6))) _)
 (∃ x61 : Go.Proofs.Ytnkhnogdiphboaa.Ses.TabI,
 ((@Eq Int (@List.getD Int (@Go.Proofs.Ytnkhnogdiphboaa.Ses.OrdS.o x6) (@HAdd.hAdd Nat Nat Nat _ (0 : Nat) (@Int.toNat (0 : Int))) (@Int.ofNat (0 : Nat))) (@Go.Proofs.Ytnkhnogdiphboaa.Ses.TabI.n x61)) ∧
 ((@Eq Int (@Go.Proofs.Ytnkhnogdiphboaa.Ses.DoneA.size x59) (@Go.Proofs.Ytnkhnogdiphboaa.Ses.TabI.size x61)) ∧
 ((@Eq Nat (0 : Nat) (0 : Nat)) ∧
 ((@Eq Nat (@List.length Go.Proofs.Ytnkhnogdiphboaa.Sx.SessionD (@Prod.snd Bool (@List Go.Proofs.Ytnkhnogdiphboaa.Sx.SessionD) (@Go.Proofs.Ytnkhnogdiphboaa.Ses.doneL x59))) (@List.length Go.Proofs.Ytnkhnogdiphboaa.Sx.SessionD (@Go.Proofs.Ytnkhnogdiphboaa.Ses.TabI.l x61))) ∧
 ((@Eq (@List Go.Proofs.Ytnkhnogdiphboaa.Sx.SessionD) (@Prod.snd Bool (@List Go.Proofs.Ytnkhnogdiphboaa.Sx.SessionD) (@Go.Proofs.Ytnkhnogdiphboaa.Ses.doneL x59)) (@Go.Proofs.Ytnkhnogdiphboaa.Ses.TabI.l x61)) ∧
 ((@Eq Bool (@Decidable.decide (@LT.lt Int _ (0 : Int) (@Go.Proofs.Ytnkhnogdiphboaa.Ses.TabI.size x61)) _) Bool.true) ∧
 (∀ x62 : Unit,
 (True →
 (∃ x63 : Go.Proofs.Ytnkhnogdiphboaa.Ses.TabA,
 ((@Eq Int (@Go.Proofs.Ytnkhnogdiphboaa.Ses.TabI.size x61) (@Go.Proofs.Ytnkhnogdiphboaa.Ses.TabA.size x63)) ∧
 ((@Eq Nat (0 : Nat) (0 : Nat)) ∧
 ((@Eq Nat (@List.length Go.Proofs.Ytnkhnogdiphboaa.Sx.SessionD (@Go.Proofs.Ytnkhnogdiphboaa.Ses.TabI.l x61)) (@List.length Go.Proofs.Ytnkhnogdiphboaa.Sx.SessionD (@Go.Proofs.Ytnkhnogdiphboaa.Ses.TabA.l x63))) ∧
 ((@Eq (@List Go.Proofs.Ytnkhnogdiphboaa.Sx.SessionD) (@Go.Proofs.Ytnkhnogdiphboaa.Ses.TabI.l x61) (@Go.Proofs.Ytnkhnogdiphboaa.Ses.TabA.l x63)) ∧
 ((@Eq Bool (@Decidable.decide (@LT.lt Int _ (0 : Int) (@Go.Proofs.Ytnkhnogdiphboaa.Ses.TabA.size x63)) _) Bool.true) ∧
 (∀ x64 : Unit,
 (True →
 ((@LE.le Nat _ (@HMul.hMul Nat Nat Nat _ (@List.length Go.Proofs.Ytnkhnogdiphboaa.Sx.SessionD (@Go.Proofs.Ytnkhnogdiphboaa.Ses.TabA.l x63)) (112 : Nat)) Go.Proofs.Ytnkhnogdiphboaa.Sx.room47) →
 ((@LE.le Nat _ (@HMul.hMul Nat Nat Nat _ (@List.length Int (@Go.Proofs.Ytnkhnogdiphboaa.Ses.OrdS.o x6)) (8 : Nat)) Go.Proofs.Ytnkhnogdiphboaa.Sx.room47) →
 (br (@bne Int _ (Nat.cast (@List.length Go.Proofs.Ytnkhnogdiphboaa.Sx.SessionD (@Go.Proofs.Ytnkhnogdiphboaa.Ses.TabA.l x63)) : Int) (Nat.cast (@List.length Int (@Go.Proofs.Ytnkhnogdiphboaa.Ses.OrdS.o x6)) : Int))
 (@Eq Bool Bool.false Bool.true)
 ((∃ x65 : Nat,
 ((@Eq Int (0 : Int) (Nat.cast x65 : Int)) ∧
 (@Nat.le x65 (@List.length Go.Proofs.Ytnkhnogdiphboaa.Sx.SessionD (@Go.Proofs.Ytnkhnogdiphboaa.Ses.TabA.l x63))))) ∧
 (∀ x66 : Nat,
 ((@Nat.le x66 (@List.length Go.Proofs.Ytnkhnogdiphboaa.Sx.SessionD (@Go.Proofs.Ytnkhnogdiphboaa.Ses.TabA.l x63))) →
 ((@LE.le Nat _ (@HMul.hMul Nat Nat Nat _ (@List.length Go.Proofs.Ytnkhnogdiphboaa.Sx.SessionD (@Go.Proofs.Ytnkhnogdiphboaa.Ses.TabA.l x63)) (112 : Nat)) Go.Proofs.Ytnkhnogdiphboaa.Sx.room47) →
 (br (@Decidable.decide (@LT.lt Int _ (Nat.cast x66 : Int) (Nat.cast (@List.length Go.Proofs.Ytnkhnogdiphboaa.Sx.SessionD (@Go.Proofs.Ytnkhnogdiphboaa.Ses.TabA.l x63)) : Int)) _)
 (br (@Decidable.decide ((@LE.le Int _ (0 : Int) (Nat.cast x66 : Int)) ∧
 (@LT.lt Int _ (Nat.cast x66 : Int) (Nat.cast (@List.length Go.Proofs.Ytnkhnogdiphboaa.Sx.SessionD (@Go.Proofs.Ytnkhnogdiphboaa.Ses.TabA.l x63)) : Int))) _)
 (br (@Decidable.decide (@LT.lt Nat _ (@HAdd.hAdd Nat Nat Nat _ (0 : Nat) (@Int.toNat (Nat.cast x66 : Int))) (@List.length Go.Proofs.Ytnkhnogdiphboaa.Sx.SessionD (@Go.Proofs.Ytnkhnogdiphboaa.Ses.TabA.l x63))) _)
 (br (@Decidable.decide ((@LE.le Int _ (0 : Int) (Nat.cast x66 : Int)) ∧
 (@LT.lt Int _ (Nat.cast x66 : Int) (Nat.cast (@List.length Int (@Go.Proofs.Ytnkhnogdiphboaa.Ses.OrdS.o x6)) : Int))) _)
 (br (@Decidable.decide (@LT.lt Nat _ (@HAdd.hAdd Nat Nat Nat _ (0 : Nat) (@Int.toNat (Nat.cast x66 : Int))) (@List.length Int (@Go.Proofs.Ytnkhnogdiphboaa.Ses.OrdS.o x6))) _)
 (br (@bne Int _ (@Go.Proofs.Ytnkhnogdiphboaa.Sx.SessionD.id (@List.getD Go.Proofs.Ytnkhnogdiphboaa.Sx.SessionD (@Go.Proofs.Ytnkhnogdiphboaa.Ses.TabA.l x63) (@HAdd.hAdd Nat Nat Nat _ (0 : Nat) (@Int.toNat (Nat.cast x66 : Int))) (@Go.Proofs.Ytnkhnogdiphboaa.Sx.SessionD.mk (0 : Int) (0 : Int) (@List.nil UInt8) Go.Proofs.Ytnkhnogdiphboaa.Sx.VerdictD.dflt))) (@List.getD Int (@Go.Proofs.Ytnkhnogdiphboaa.Ses.OrdS.o x6) (@HAdd.hAdd Nat Nat Nat _ (0 : Nat) (@Int.toNat (Nat.cast x66 : Int))) (@Int.ofNat (0 : Nat))))
 (@Eq Bool Bool.false Bool.true)
 (∃ x67 : Nat,
 ((@Eq Int (@Go.IntKind.wrap Go.IntKind.i64 (@HAdd.hAdd Int Int Int _ (Nat.cast x66 : Int) (1 : Int))) (Nat.cast x67 : Int)) ∧
 ((@Nat.le x67 (@List.length Go.Proofs.Ytnkhnogdiphboaa.Sx.SessionD (@Go.Proofs.Ytnkhnogdiphboaa.Ses.TabA.l x63))) ∧
 (@LT.lt Nat _ (@Nat.sub (@List.length Go.Proofs.Ytnkhnogdiphboaa.Sx.SessionD (@Go.Proofs.Ytnkhnogdiphboaa.Ses.TabA.l x63)) x67) (@Nat.sub (@List.length Go.Proofs.Ytnkhnogdiphboaa.Sx.SessionD (@Go.Proofs.Ytnkhnogdiphboaa.Ses.TabA.l x63)) x66))))))
 (Bad "check" "law.go:293"))
 (Bad "check" "law.go:293"))
 (Bad "check" "law.go:293"))
 (Bad "check" "law.go:293"))
 (∃ x68 : Go.Proofs.Ytnkhnogdiphboaa.Ses.OrdS,
 ((@Eq Int (@Go.IntKind.wrap Go.IntKind.i64 (@HAdd.hAdd Int Int Int _ (Nat.cast (@Go.Proofs.Ytnkhnogdiphboaa.Ses.OrdS.i x6) : Int) (1 : Int))) (Nat.cast (@Go.Proofs.Ytnkhnogdiphboaa.Ses.OrdS.i x68) : Int)) ∧
 ((@Eq Nat (0 : Nat) (0 : Nat)) ∧
 ((@Eq Nat (@List.length Int (@Go.Proofs.Ytnkhnogdiphboaa.Ses.OrdS.o x6)) (@List.length Int (@Go.Proofs.Ytnkhnogdiphboaa.Ses.OrdS.o x68))) ∧
 ((@Eq Int (@Go.Proofs.Ytnkhnogdiphboaa.Ses.TabA.size x63) (16 : Int)) ∧
 ((@Eq Nat (0 : Nat) (0 : Nat)) ∧
 ((@Eq Nat (@List.length Go.Proofs.Ytnkhnogdiphboaa.Sx.SessionD (@Go.Proofs.Ytnkhnogdiphboaa.Ses.TabA.l x63)) (@List.length Go.Proofs.Ytnkhnogdiphboaa.Sx.SessionD (@Go.Proofs.Ytnkhnogdiphboaa.Ses.OrdS.l x68))) ∧
 ((@Eq (@List Go.Proofs.Ytnkhnogdiphboaa.Sx.SessionD) (@Go.Proofs.Ytnkhnogdiphboaa.Ses.TabA.l x63) (@Go.Proofs.Ytnkhnogdiphboaa.Ses.OrdS.l x68)) ∧
 ((@Eq (@List Int) (@Go.Proofs.Ytnkhnogdiphboaa.Ses.OrdS.o x6) (@Go.Proofs.Ytnkhnogdiphboaa.Ses.OrdS.o x68)) ∧
 (((@LE.le Nat _ (@Go.Proofs.Ytnkhnogdiphboaa.Ses.OrdS.i x68) (@List.length Go.Proofs.Ytnkhnogdiphboaa.Sx.Deed6D x)) ∧
 ((@LE.le Nat _ (@Go.Proofs.Ytnkhnogdiphboaa.Ses.OrdS.i x68) (16 : Nat)) ∧
 (@Go.Proofs.Ytnkhnogdiphboaa.Ses.OrdI (@Go.Proofs.Ytnkhnogdiphboaa.Ses.OrdS.i x68) (@Go.Proofs.Ytnkhnogdiphboaa.Ses.OrdS.o x68) (@Go.Proofs.Ytnkhnogdiphboaa.Ses.OrdS.l x68)))) ∧
 (@LT.lt Nat _ (@Nat.sub (@List.length Go.Proofs.Ytnkhnogdiphboaa.Sx.Deed6D x) (@Go.Proofs.Ytnkhnogdiphboaa.Ses.OrdS.i x68)) (@Nat.sub (@List.length Go.Proofs.Ytnkhnogdiphboaa.Sx.Deed6D x) (@Go.Proofs.Ytnkhnogdiphboaa.Ses.OrdS.i x6))))))))))))))))))))))))))))))))))))))
 (Bad "check" "law.go:277"))
 (Bad "check" "law.go:277")))))))))))))))))))
 (Bad "check" "law.go:276"))
 (Bad "check" "law.go:276"))
 (Bad "check" "law.go:276")))
 (∃ x69 : Go.Proofs.Ytnkhnogdiphboaa.Ses.TabA,
 ((@Eq Int (16 : Int) (@Go.Proofs.Ytnkhnogdiphboaa.Ses.TabA.size x69)) ∧
 ((@Eq Nat (0 : Nat) (0 : Nat)) ∧
 ((@Eq Nat (@List.length Go.Proofs.Ytnkhnogdiphboaa.Sx.SessionD (@Go.Proofs.Ytnkhnogdiphboaa.Ses.OrdS.l x6)) (@List.length Go.Proofs.Ytnkhnogdiphboaa.Sx.SessionD (@Go.Proofs.Ytnkhnogdiphboaa.Ses.TabA.l x69))) ∧
 ((@Eq (@List Go.Proofs.Ytnkhnogdiphboaa.Sx.SessionD) (@Go.Proofs.Ytnkhnogdiphboaa.Ses.OrdS.l x6) (@Go.Proofs.Ytnkhnogdiphboaa.Ses.TabA.l x69)) ∧
 ((@Eq Bool (@Decidable.decide (@LT.lt Int _ (0 : Int) (@Go.Proofs.Ytnkhnogdiphboaa.Ses.TabA.size x69)) _) Bool.true) ∧
 (∀ x70 : Unit,
 (True →
 ((@LE.le Nat _ (@HMul.hMul Nat Nat Nat _ (@List.length Go.Proofs.Ytnkhnogdiphboaa.Sx.SessionD (@Go.Proofs.Ytnkhnogdiphboaa.Ses.TabA.l x69)) (112 : Nat)) Go.Proofs.Ytnkhnogdiphboaa.Sx.room47) →
 ((@LE.le Nat _ (@HMul.hMul Nat Nat Nat _ (@List.length Int (@Go.Proofs.Ytnkhnogdiphboaa.Ses.OrdS.o x6)) (8 : Nat)) Go.Proofs.Ytnkhnogdiphboaa.Sx.room47) →
 (br (@bne Int _ (Nat.cast (@List.length Go.Proofs.Ytnkhnogdiphboaa.Sx.SessionD (@Go.Proofs.Ytnkhnogdiphboaa.Ses.TabA.l x69)) : Int) (Nat.cast (@List.length Int (@Go.Proofs.Ytnkhnogdiphboaa.Ses.OrdS.o x6)) : Int))
 (@Eq Bool Bool.false Bool.true)
 ((∃ x71 : Nat,
 ((@Eq Int (0 : Int) (Nat.cast x71 : Int)) ∧
 (@Nat.le x71 (@List.length Go.Proofs.Ytnkhnogdiphboaa.Sx.SessionD (@Go.Proofs.Ytnkhnogdiphboaa.Ses.TabA.l x69))))) ∧
 (∀ x72 : Nat,
 ((@Nat.le x72 (@List.length Go.Proofs.Ytnkhnogdiphboaa.Sx.SessionD (@Go.Proofs.Ytnkhnogdiphboaa.Ses.TabA.l x69))) →
 ((@LE.le Nat _ (@HMul.hMul Nat Nat Nat _ (@List.length Go.Proofs.Ytnkhnogdiphboaa.Sx.SessionD (@Go.Proofs.Ytnkhnogdiphboaa.Ses.TabA.l x69)) (112 : Nat)) Go.Proofs.Ytnkhnogdiphboaa.Sx.room47) →
 (br (@Decidable.decide (@LT.lt Int _ (Nat.cast x72 : Int) (Nat.cast (@List.length Go.Proofs.Ytnkhnogdiphboaa.Sx.SessionD (@Go.Proofs.Ytnkhnogdiphboaa.Ses.TabA.l x69)) : Int)) _)
 (br (@Decidable.decide ((@LE.le Int _ (0 : Int) (Nat.cast x72 : Int)) ∧
 (@LT.lt Int _ (Nat.cast x72 : Int) (Nat.cast (@List.length Go.Proofs.Ytnkhnogdiphboaa.Sx.SessionD (@Go.Proofs.Ytnkhnogdiphboaa.Ses.TabA.l x69)) : Int))) _)
 (br (@Decidable.decide (@LT.lt Nat _ (@HAdd.hAdd Nat Nat Nat _ (0 : Nat) (@Int.toNat (Nat.cast x72 : Int))) (@List.length Go.Proofs.Ytnkhnogdiphboaa.Sx.SessionD (@Go.Proofs.Ytnkhnogdiphboaa.Ses.TabA.l x69))) _)
 (br (@Decidable.decide ((@LE.le Int _ (0 : Int) (Nat.cast x72 : Int)) ∧
 (@LT.lt Int _ (Nat.cast x72 : Int) (Nat.cast (@List.length Int (@Go.Proofs.Ytnkhnogdiphboaa.Ses.OrdS.o x6)) : Int))) _)
 (br (@Decidable.decide (@LT.lt Nat _ (@HAdd.hAdd Nat Nat Nat _ (0 : Nat) (@Int.toNat (Nat.cast x72 : Int))) (@List.length Int (@Go.Proofs.Ytnkhnogdiphboaa.Ses.OrdS.o x6))) _)
 (br (@bne Int _ (@Go.Proofs.Ytnkhnogdiphboaa.Sx.SessionD.id (@List.getD Go.Proofs.Ytnkhnogdiphboaa.Sx.SessionD (@Go.Proofs.Ytnkhnogdiphboaa.Ses.TabA.l x69) (@HAdd.hAdd Nat Nat Nat _ (0 : Nat) (@Int.toNat (Nat.cast x72 : Int))) (@Go.Proofs.Ytnkhnogdiphboaa.Sx.SessionD.mk (0 : Int) (0 : Int) (@List.nil UInt8) Go.Proofs.Ytnkhnogdiphboaa.Sx.VerdictD.dflt))) (@List.getD Int (@Go.Proofs.Ytnkhnogdiphboaa.Ses.OrdS.o x6) (@HAdd.hAdd Nat Nat Nat _ (0 : Nat) (@Int.toNat (Nat.cast x72 : Int))) (@Int.ofNat (0 : Nat))))
 (@Eq Bool Bool.false Bool.true)
 (∃ x73 : Nat,
 ((@Eq Int (@Go.IntKind.wrap Go.IntKind.i64 (@HAdd.hAdd Int Int Int _ (Nat.cast x72 : Int) (1 : Int))) (Nat.cast x73 : Int)) ∧
 ((@Nat.le x73 (@List.length Go.Proofs.Ytnkhnogdiphboaa.Sx.SessionD (@Go.Proofs.Ytnkhnogdiphboaa.Ses.TabA.l x69))) ∧
 (@LT.lt Nat _ (@Nat.sub (@List.length Go.Proofs.Ytnkhnogdiphboaa.Sx.SessionD (@Go.Proofs.Ytnkhnogdiphboaa.Ses.TabA.l x69)) x73) (@Nat.sub (@List.length Go.Proofs.Ytnkhnogdiphboaa.Sx.SessionD (@Go.Proofs.Ytnkhnogdiphboaa.Ses.TabA.l x69)) x72))))))
 (Bad "check" "law.go:293"))
 (Bad "check" "law.go:293"))
 (Bad "check" "law.go:293"))
 (Bad "check" "law.go:293"))
 (∃ x74 : Go.Proofs.Ytnkhnogdiphboaa.Ses.OrdS,
 ((@Eq Int (@Go.IntKind.wrap Go.IntKind.i64 (@HAdd.hAdd Int Int Int _ (Nat.cast (@Go.Proofs.Ytnkhnogdiphboaa.Ses.OrdS.i x6) : Int) (1 : Int))) (Nat.cast (@Go.Proofs.Ytnkhnogdiphboaa.Ses.OrdS.i x74) : Int)) ∧
 ((@Eq Nat (0 : Nat) (0 : Nat)) ∧
 ((@Eq Nat (@List.length Int (@Go.Proofs.Ytnkhnogdiphboaa.Ses.OrdS.o x6)) (@List.length Int (@Go.Proofs.Ytnkhnogdiphboaa.Ses.OrdS.o x74))) ∧
 ((@Eq Int (@Go.Proofs.Ytnkhnogdiphboaa.Ses.TabA.size x69) (16 : Int)) ∧
 ((@Eq Nat (0 : Nat) (0 : Nat)) ∧
 ((@Eq Nat (@List.length Go.Proofs.Ytnkhnogdiphboaa.Sx.SessionD (@Go.Proofs.Ytnkhnogdiphboaa.Ses.TabA.l x69)) (@List.length Go.Proofs.Ytnkhnogdiphboaa.Sx.SessionD (@Go.Proofs.Ytnkhnogdiphboaa.Ses.OrdS.l x74))) ∧
 ((@Eq (@List Go.Proofs.Ytnkhnogdiphboaa.Sx.SessionD) (@Go.Proofs.Ytnkhnogdiphboaa.Ses.TabA.l x69) (@Go.Proofs.Ytnkhnogdiphboaa.Ses.OrdS.l x74)) ∧
 ((@Eq (@List Int) (@Go.Proofs.Ytnkhnogdiphboaa.Ses.OrdS.o x6) (@Go.Proofs.Ytnkhnogdiphboaa.Ses.OrdS.o x74)) ∧
 (((@LE.le Nat _ (@Go.Proofs.Ytnkhnogdiphboaa.Ses.OrdS.i x74) (@List.length Go.Proofs.Ytnkhnogdiphboaa.Sx.Deed6D x)) ∧
 ((@LE.le Nat _ (@Go.Proofs.Ytnkhnogdiphboaa.Ses.OrdS.i x74) (16 : Nat)) ∧
 (@Go.Proofs.Ytnkhnogdiphboaa.Ses.OrdI (@Go.Proofs.Ytnkhnogdiphboaa.Ses.OrdS.i x74) (@Go.Proofs.Ytnkhnogdiphboaa.Ses.OrdS.o x74) (@Go.Proofs.Ytnkhnogdiphboaa.Ses.OrdS.l x74)))) ∧
 (@LT.lt Nat _ (@Nat.sub (@List.length Go.Proofs.Ytnkhnogdiphboaa.Sx.Deed6D x) (@Go.Proofs.Ytnkhnogdiphboaa.Ses.OrdS.i x74)) (@Nat.sub (@List.length Go.Proofs.Ytnkhnogdiphboaa.Sx.Deed6D x) (@Go.Proofs.Ytnkhnogdiphboaa.Ses.OrdS.i x6)))))))))))))))))))))))))))))))))
 (Bad "check" "law.go:267"))
 (@Eq Bool Bool.true Bool.true))
 (@Eq Bool Bool.true Bool.true))))))))))))))))) := by kernel_rfl

end Go.Proofs.Ytnkhnogdiphboaa.Ses

/-! the plain law of SessionOrder -/
namespace Go.Proofs.Ytnkhnogdiphboaa.Ses
open Go Go.Proofs Go.Proofs.Ytnkhnogdiphboaa.Sx

theorem nmO_inj16 : ∀ a, a < 16 → ∀ b, b < 16 → nmO ((a : Nat) : Int) = nmO ((b : Nat) : Int) → a = b := by decide +kernel

theorem notOf_take {u : Int} {o : List Int} {k : Nat} (hk : k < o.length) {d : Int} : notOf u (o.take (k + 1)) = bif o.getD k d != u then notOf u (o.take k) ++ [o.getD k d] else notOf u (o.take k) := by
  have h1 : o.getD k d = o[k] := by simp [hk]
  have h2 : o.take (k + 1) = o.take k ++ [o[k]] := by simp
  rw [h1, h2]
  unfold notOf
  rw [List.filter_append]
  cases h : (o[k] != u)
  · simp [List.filter_cons, h]
  · simp [List.filter_cons, h]
theorem notOf_len (u : Int) (o : List Int) : (notOf u o).length ≤ o.length := List.length_filter_le _ _
theorem notOf_no {u : Int} {o : List Int} (h : u ∉ o) : notOf u o = o := by
  unfold notOf
  rw [List.filter_eq_self]
  intro a ha
  simp
  intro e
  subst e
  exact h ha

theorem ord_skip {i : Nat} {o : List Int} {l : List SessionD} (h : OrdI i o l) : OrdI (i + 1) o l := by
  obtain ⟨h1, h2, h3, h4⟩ := h
  exact ⟨h1, h2, by omega, fun x hx => by obtain ⟨k, a, b⟩ := h4 x hx; exact ⟨k, by omega, b⟩⟩

theorem ord_len {i : Nat} {o : List Int} {l : List SessionD} (h : OrdI i o l) : l.length = o.length ∧ o.length ≤ i := by
  obtain ⟨h1, h2, h3, h4⟩ := h
  exact ⟨by rw [h1]; simp, h3⟩

theorem ord_get {i : Nat} {o : List Int} {l : List SessionD} (h : OrdI i o l) {k : Nat} (hk : k < l.length) {d : SessionD} {e : Int} : (l.getD k d).id = o.getD k e := by
  obtain ⟨h1, _⟩ := h
  subst h1
  simp [hk]

theorem ord_open {i : Nat} {o : List Int} {l : List SessionD} (h : OrdI i o l) (hi : i < 16) :
    (openL ⟨16, l, nmO (i : Int), 100 + (i : Int)⟩).1 = 100 + (i : Int) ∧ OrdI (i + 1) (notOf (100 + (i : Int)) o ++ [100 + (i : Int)]) (openL ⟨16, l, nmO (i : Int), 100 + (i : Int)⟩).2 := by
  have hl := ord_len h
  obtain ⟨h1, h2, h3, h4⟩ := h
  have hn : idxF (nameIs (nmO (i : Int))) l = -1 := idxF_none fun x hx => by
    obtain ⟨k, hk, _, hx2⟩ := h4 x hx
    simp only [nameIs, hx2, beq_eq_false_iff_ne, ne_eq]
    intro e
    have := nmO_inj16 k (by omega) i hi e
    omega
  have hj : idxF (idIs (100 + (i : Int))) l = -1 := idxF_none fun x hx => by
    obtain ⟨k, hk, hx1, _⟩ := h4 x hx
    simp only [idIs, hx1, beq_eq_false_iff_ne, ne_eq]
    omega
  have he : openL ⟨16, l, nmO (i : Int), 100 + (i : Int)⟩ = (100 + (i : Int), l ++ [⟨100 + (i : Int), 0, nmO (i : Int), .dflt⟩]) := by
    unfold openL
    dsimp only
    rw [hn, hj]
    have hd : decide ((l.length : Int) = 16) = false := by simp; omega
    simp only [show decide ((-1 : Int) < 0) = true by decide, cond_true, hd, cond_false]
  rw [he]
  have hno : 100 + (i : Int) ∉ o := by
    rw [h1]
    intro hm
    obtain ⟨x, hx, e⟩ := List.mem_map.1 hm
    obtain ⟨k, hk, hx1, _⟩ := h4 x hx
    omega
  rw [notOf_no hno]
  refine ⟨rfl, by simp [h1], ?_, by simp; omega, fun x hx => ?_⟩
  · rw [List.nodup_append]
    refine ⟨h2, by simp, fun a ha b hb => ?_⟩
    simp at hb
    subst hb
    intro e
    subst e
    exact hno ha
  · rcases List.mem_append.1 hx with hx | hx
    · obtain ⟨k, a, b⟩ := h4 x hx; exact ⟨k, by omega, b⟩
    · simp at hx; subst hx; exact ⟨i, by omega, rfl, rfl⟩

theorem idx_of {i : Nat} {o : List Int} {l : List SessionD} (h : OrdI i o l) {u : Int} (hu : u ∈ o) : ∃ A x B, l = A ++ x :: B ∧ x.id = u ∧ idxF (idIs u) l = (A.length : Int) ∧ notOf u o = (A ++ B).map (·.id) := by
  obtain ⟨h1, h2, h3, h4⟩ := h
  rw [h1] at hu
  obtain ⟨x, hx, e⟩ := List.mem_map.1 hu
  obtain ⟨A, B, hl⟩ := List.append_of_mem hx
  refine ⟨A, x, B, hl, e, ?_, ?_⟩
  · rw [hl]
    rw [h1, hl] at h2
    simp only [List.map_append, List.map_cons] at h2
    rw [List.nodup_append] at h2
    refine idxF_mid (fun y hy => ?_) (by simp [idIs, e])
    simp only [idIs, beq_eq_false_iff_ne, ne_eq]
    have := h2.2.2 y.id (List.mem_map.2 ⟨y, hy, rfl⟩) x.id (by simp)
    rw [e] at this
    exact this
  · rw [h1, hl]
    rw [h1, hl] at h2
    simp only [List.map_append, List.map_cons] at h2 ⊢
    rw [List.nodup_append, List.nodup_cons] at h2
    unfold notOf
    rw [List.filter_append, List.filter_cons]
    have hA : (A.map (·.id)).filter (fun n => n != u) = A.map (·.id) := notOf_no (u := u) (fun hm => h2.2.2 u hm x.id (by simp) e.symm)
    have hB : (B.map (·.id)).filter (fun n => n != u) = B.map (·.id) := notOf_no (u := u) (fun hm => h2.2.1.1 (by rw [e]; exact hm))
    rw [hA, hB]
    simp [e]

theorem ord_ask {i : Nat} {o : List Int} {l : List SessionD} (h : OrdI i o l) {u seq : Int} (hu : u ∈ o) : OrdI (i + 1) (notOf u o ++ [u]) (askL ⟨16, l, u, seq⟩).2 := by
  obtain ⟨A, x, B, hl, e, hi, hn⟩ := idx_of h hu
  have ha : (askL ⟨16, l, u, seq⟩).2 = A ++ B ++ [x] := by
    unfold askL
    dsimp only
    have hd : decide ((A.length : Int) < 0) = false := by simp
    rw [hi, hd, cond_false]
    dsimp only
    rw [hl, usedL_mid]
  obtain ⟨h1, h2, h3, h4⟩ := h
  rw [ha, hn]
  have hp : (A ++ B ++ [x]).Perm l := by
    rw [hl]
    simp only [List.append_assoc]
    exact List.Perm.append_left A (List.perm_append_comm (l₁ := B) (l₂ := [x]))
  refine ⟨by simp [e], ?_, ?_, fun y hy => ?_⟩
  · have : ((A ++ B).map (·.id) ++ [u]) = (A ++ B ++ [x]).map (·.id) := by simp [e]
    rw [this]
    refine ((hp.map _).nodup_iff).2 ?_
    rw [← h1]; exact h2
  · have : o.length = l.length := by rw [h1]; simp
    rw [hl] at this
    simp at this ⊢
    omega
  · obtain ⟨k, a, b⟩ := h4 y (hp.subset hy)
    exact ⟨k, by omega, b⟩

theorem ord_done {i : Nat} {o : List Int} {l : List SessionD} (h : OrdI i o l) {u seq : Int} {v : VerdictD} : OrdI (i + 1) o (doneL ⟨16, l, u, seq, v⟩).2 := by
  have b1 := idxF_lt (idIs u) l
  by_cases hc : (decide (idxF (idIs u) l < 0) || decide (seq ≤ (atL l (idxF (idIs u) l)).seq)) = true
  · have : (doneL ⟨16, l, u, seq, v⟩).2 = l := by unfold doneL; dsimp only; rw [hc, cond_true]
    rw [this]; exact ord_skip h
  · have hc : (decide (idxF (idIs u) l < 0) || decide (seq ≤ (atL l (idxF (idIs u) l)).seq)) = false := by simpa using hc
    have hi : ¬ idxF (idIs u) l < 0 := by simp at hc; omega
    obtain ⟨A, y, B, e, hlen, _, ha⟩ := split_at (l := l) (i := idxF (idIs u) l) (by omega)
    have hd : (doneL ⟨16, l, u, seq, v⟩).2 = A ++ ⟨y.id, seq, y.name, v⟩ :: B := by
      have h1 : (doneL ⟨16, l, u, seq, v⟩).2 = l.set (idxF (idIs u) l).toNat ⟨(atL l (idxF (idIs u) l)).id, seq, (atL l (idxF (idIs u) l)).name, v⟩ := by
        unfold doneL; dsimp only; rw [hc, cond_false]
      rw [h1, ha]
      have : (idxF (idIs u) l).toNat = A.length := by omega
      rw [this, e]
      simp
    obtain ⟨h1, h2, h3, h4⟩ := h
    rw [hd]
    refine ⟨by rw [h1, e]; simp, h2, by omega, fun x hx => ?_⟩
    rcases List.mem_append.1 hx with hx | hx
    · obtain ⟨k, a, b⟩ := h4 x (by rw [e]; simp [hx]); exact ⟨k, by omega, b⟩
    · rcases List.mem_cons.1 hx with rfl | hx
      · obtain ⟨k, a, b⟩ := h4 y (by rw [e]; simp); exact ⟨k, by omega, b⟩
      · obtain ⟨k, a, b⟩ := h4 x (by rw [e]; simp [hx]); exact ⟨k, by omega, b⟩

theorem and255 (a : Int) : 0 ≤ IntKind.i64.wrap ((BitVec.ofInt IntKind.i64.bits a &&& BitVec.ofInt IntKind.i64.bits 255).toNat : Int) := by
  have h : (BitVec.ofInt IntKind.i64.bits a &&& BitVec.ofInt IntKind.i64.bits 255).toNat = ((BitVec.ofInt 64 a).toNat &&& 255) := by
    rw [BitVec.toNat_and]
    rfl
  have h2 : ((BitVec.ofInt 64 a).toNat &&& 255) ≤ 255 := Nat.and_le_right
  rw [h, wrap_id (by omega) (by omega)]
  omega
end Go.Proofs.Ytnkhnogdiphboaa.Ses

namespace Go.Proofs.Ytnkhnogdiphboaa.Ses
open Go Go.Proofs Go.Proofs.Ytnkhnogdiphboaa.Sx

theorem ord_body (x : OrdA) : evCall ordE (ev ordE 1000) 8 (ordArgs x) ⟨[], 0, []⟩ (fun _ _ => False) (fun v _ => TrueV v) := by
  rw [ord_vc]
  revert x
  intro (l : List Deed6D)
  simp only [br_bad, decide_eq_true_eq, Bool.and_eq_true, List.take_zero, List.nil_append, List.drop_zero, Nat.zero_add, Int.toNat_natCast, Nat.sub_eq, true_and, and_true, exists_const, List.length_nil, Nat.zero_le, Nat.zero_mul, Nat.le_refl, List.length_set, List.take_length, Int.natCast_nonneg, forall_const, implies_true, Int.toNat_zero, Nat.le_eq, Int.le_refl, addN, cutN, loN, hiN, bndB, Option.getD, List.length_cons, List.take_succ_cons, List.length_take, List.length_drop, Option.isNone, Nat.add_zero, Nat.min_self]
  simp only [br_iff, decide_eq_true_eq, decide_eq_false_iff_not, room47, Bool.not_eq_true', Bool.not_eq_false', gt_iff_lt]
  refine ⟨l, rfl, fun r => ⟨fun _ => trivial, fun _ => ⟨⟨⟨0, [], []⟩, rfl, rfl, rfl, rfl, rfl, by simp, by simp, ?_⟩, ?_⟩⟩⟩
  · exact ⟨rfl, by simp, by simp, by simp⟩
  rintro ⟨i, o, L⟩ ⟨h1, h16, hI⟩ b1
  generalize hd : l.getD i ⟨0, 0, 0, [], .dflt⟩ = d
  dsimp only at h1 h16 hI ⊢
  have hlen := ord_len hI
  refine ⟨fun g1 => ⟨fun g2 => ⟨g1, fun g3 => ?_, fun g3 => ?_⟩, fun _ => trivial⟩, fun _ => trivial⟩
  · obtain ⟨hr, hO⟩ := ord_open hI (by omega)
    refine ⟨⟨16, L, nmO (i : Int), 100 + (i : Int)⟩, rfl, wrap_id (by omega) (by omega), rfl, rfl, rfl, ⟨by dsimp only; omega, by dsimp only; omega⟩, fun _ => ?_, fun g4 => ?_⟩
    · rw [hr]
      refine ⟨⟨0, rfl, by simp [notOf], by simp [notOf], by omega⟩, fun k hk _ => ⟨fun t1 => ⟨t1, ?_, fun t2 => ⟨t1, ?_, fun _ => ⟨?_, k + 1, ?_, ?_, ?_, ?_, ?_⟩⟩, fun t2 => ⟨k + 1, ?_, ?_, ?_, ?_, ?_⟩⟩, fun t1 => ?_⟩⟩
      · omega
      · omega
      · have := notOf_len (100 + (i : Int)) (o.take k); simp at this; omega
      · rw [wrap_id (by omega) (by omega)]; rfl
      · rw [notOf_take (k := k) (by omega) (d := Int.ofNat 0), t2, cond_true]; simp
      · rw [notOf_take (k := k) (by omega) (d := Int.ofNat 0), t2, cond_true]
      · omega
      · omega
      · rw [wrap_id (by omega) (by omega)]; rfl
      · rw [notOf_take (k := k) (by omega) (d := Int.ofNat 0), t2, cond_false]
      · rw [notOf_take (k := k) (by omega) (d := Int.ofNat 0), t2, cond_false]
      · omega
      · omega
      · have hk' : o.take k = o := List.take_of_length_le (by omega)
        rw [hk']
        intro _
        refine ⟨?_, ?_⟩
        · have := notOf_len (100 + (i : Int)) o; omega
        have hO := hO
        have hl := ord_len hO
        refine ⟨⟨16, (openL ⟨16, L, nmO (i : Int), 100 + (i : Int)⟩).2⟩, rfl, rfl, rfl, by dsimp only; omega, fun t3 t4 => ⟨fun t5 => ?_, fun t5 => ⟨⟨0, rfl, by simp⟩, fun k2 hk2 _ => ⟨fun t6 => ⟨t6, ?_, ?_, ?_, fun t7 => ?_, fun t7 => ⟨k2 + 1, ?_, ?_, ?_⟩⟩, fun t6 => ⟨⟨i + 1, notOf (100 + (i : Int)) o ++ [(100 + (i : Int))], (openL ⟨16, L, nmO (i : Int), 100 + (i : Int)⟩).2⟩, ?_, by simp, rfl, rfl, rfl, rfl, ⟨?_, ?_, hO⟩, ?_⟩⟩⟩⟩⟩ <;> try dsimp only at *
        · simp at t5; try simp at hl
          omega
        · omega
        · try simp at hl ⊢
          omega
        · try simp at hl ⊢
          omega
        · rw [ord_get hO (k := k2) (by omega) (e := Int.ofNat 0)] at t7; simp at t7
        · rw [wrap_id (by omega) (by omega)]; rfl
        · omega
        · omega
        · rw [wrap_id (by omega) (by omega)]; rfl
        · omega
        · omega
        · omega
    · rw [hr] at g4
      omega
  have hw := and255 d.id
  generalize IntKind.i64.wrap ((BitVec.ofInt IntKind.i64.bits d.id &&& BitVec.ofInt IntKind.i64.bits 255).toNat : Int) = w at hw ⊢
  have hj : 0 < o.length → 0 ≤ w.tmod o.length ∧ w.tmod o.length < o.length := fun h => ⟨Int.tmod_nonneg _ hw, Int.tmod_lt_of_pos _ (by omega)⟩
  have hu : 0 < o.length → o.getD (w.tmod o.length).toNat (Int.ofNat 0) ∈ o := fun h => by
    have := hj h
    have hlt : (w.tmod o.length).toNat < o.length := by omega
    rw [show o.getD (w.tmod o.length).toNat (Int.ofNat 0) = o[(w.tmod o.length).toNat] by simp [hlt]]
    exact List.getElem_mem hlt
  have hpos : 0 < o.length → 0 ≤ o.getD (w.tmod o.length).toNat (Int.ofNat 0) := fun h => by
    obtain ⟨e, _, _, hk⟩ := hI
    have := hu h
    rw [e] at this
    obtain ⟨x, hx, hx2⟩ := List.mem_map.1 this
    rw [← e] at hx2
    obtain ⟨k, _, hk1, _⟩ := hk x hx
    rw [← hx2]; omega
  have ne0 : 0 < o.length → ((o.length : Int) != 0) = true := fun h => by simp only [bne_iff_ne, ne_eq]; omega
  refine ⟨fun g4 b2 => ⟨fun g5 _ => ⟨ne0 (by omega), hj (by omega), by have := hj (by omega); omega, ?_⟩, fun g5 _ => ⟨fun g6 => absurd g6 g5, fun _ => ?_⟩⟩, fun g4 b2 => ⟨fun g5 _ => ⟨ne0 (by omega), hj (by omega), by have := hj (by omega); omega, ?_⟩, fun g5 => ?_⟩⟩
  · have hu := hu (by omega)
    have hpos := hpos (by omega)
    generalize o.getD (w.tmod o.length).toNat (Int.ofNat 0) = u at hu hpos ⊢
    have hO := ord_ask hI hu (seq := d.seq)
    refine ⟨⟨16, L, u, d.seq⟩, rfl, rfl, rfl, rfl, rfl, ⟨by dsimp only; omega, by dsimp only; omega⟩, fun _ => ?_, fun g4 => absurd hpos g4⟩
    refine ⟨⟨0, rfl, by simp [notOf], by simp [notOf], by omega⟩, fun k hk _ => ⟨fun t1 => ⟨t1, ?_, fun t2 => ⟨t1, ?_, fun _ => ⟨?_, k + 1, ?_, ?_, ?_, ?_, ?_⟩⟩, fun t2 => ⟨k + 1, ?_, ?_, ?_, ?_, ?_⟩⟩, fun t1 => ?_⟩⟩
    · omega
    · omega
    · have := notOf_len u (o.take k); simp at this; omega
    · rw [wrap_id (by omega) (by omega)]; rfl
    · rw [notOf_take (k := k) (by omega) (d := Int.ofNat 0), t2, cond_true]; simp
    · rw [notOf_take (k := k) (by omega) (d := Int.ofNat 0), t2, cond_true]
    · omega
    · omega
    · rw [wrap_id (by omega) (by omega)]; rfl
    · rw [notOf_take (k := k) (by omega) (d := Int.ofNat 0), t2, cond_false]
    · rw [notOf_take (k := k) (by omega) (d := Int.ofNat 0), t2, cond_false]
    · omega
    · omega
    · have hk' : o.take k = o := List.take_of_length_le (by omega)
      rw [hk']
      intro _
      refine ⟨?_, ?_⟩
      · have := notOf_len u o; omega
      have hO := hO
      have hl := ord_len hO
      refine ⟨⟨16, (askL ⟨16, L, u, d.seq⟩).2⟩, rfl, rfl, rfl, by dsimp only; omega, fun t3 t4 => ⟨fun t5 => ?_, fun t5 => ⟨⟨0, rfl, by simp⟩, fun k2 hk2 _ => ⟨fun t6 => ⟨t6, ?_, ?_, ?_, fun t7 => ?_, fun t7 => ⟨k2 + 1, ?_, ?_, ?_⟩⟩, fun t6 => ⟨⟨i + 1, notOf u o ++ [u], (askL ⟨16, L, u, d.seq⟩).2⟩, ?_, by simp, rfl, rfl, rfl, rfl, ⟨?_, ?_, hO⟩, ?_⟩⟩⟩⟩⟩ <;> try dsimp only at *
      · simp at t5; try simp at hl
        omega
      · omega
      · try simp at hl ⊢
        omega
      · try simp at hl ⊢
        omega
      · rw [ord_get hO (k := k2) (by omega) (e := Int.ofNat 0)] at t7; simp at t7
      · rw [wrap_id (by omega) (by omega)]; rfl
      · omega
      · omega
      · rw [wrap_id (by omega) (by omega)]; rfl
      · omega
      · omega
      · omega
  · -- nothing stands, nothing is asked
    have hO := ord_skip hI
    have hl := ord_len hO
    refine ⟨⟨16, L⟩, rfl, rfl, rfl, by dsimp only; omega, fun t3 t4 => ⟨fun t5 => ?_, fun t5 => ⟨⟨0, rfl, by simp⟩, fun k2 hk2 _ => ⟨fun t6 => ⟨t6, ?_, ?_, ?_, fun t7 => ?_, fun t7 => ⟨k2 + 1, ?_, ?_, ?_⟩⟩, fun t6 => ⟨⟨i + 1, o, L⟩, ?_, by simp, rfl, rfl, rfl, rfl, ⟨?_, ?_, hO⟩, ?_⟩⟩⟩⟩⟩ <;> try dsimp only at *
    · simp at t5; try simp at hl
      omega
    · omega
    · try simp at hl ⊢
      omega
    · try simp at hl ⊢
      omega
    · rw [ord_get hO (k := k2) (by omega) (e := Int.ofNat 0)] at t7; simp at t7
    · rw [wrap_id (by omega) (by omega)]; rfl
    · omega
    · omega
    · rw [wrap_id (by omega) (by omega)]; rfl
    · omega
    · omega
    · omega
  · generalize o.getD (w.tmod o.length).toNat (Int.ofNat 0) = u
    refine ⟨⟨16, L, u, d.seq, d.v⟩, rfl, rfl, rfl, rfl, rfl, rfl, rfl, rfl, rfl, rfl, rfl, rfl, by dsimp only; omega, g5, by omega, ⟨16, (doneL ⟨16, L, u, d.seq, d.v⟩).2, o.getD 0 (Int.ofNat 0)⟩, rfl, rfl, rfl, rfl, by dsimp only; omega, ?_⟩
    try dsimp only
    have hO := ord_done hI (u := u) (seq := d.seq) (v := d.v)
    have hl := ord_len hO
    refine ⟨⟨16, (doneL ⟨16, L, u, d.seq, d.v⟩).2⟩, rfl, rfl, rfl, by dsimp only; omega, fun t3 t4 => ⟨fun t5 => ?_, fun t5 => ⟨⟨0, rfl, by simp⟩, fun k2 hk2 _ => ⟨fun t6 => ⟨t6, ?_, ?_, ?_, fun t7 => ?_, fun t7 => ⟨k2 + 1, ?_, ?_, ?_⟩⟩, fun t6 => ⟨⟨i + 1, o, (doneL ⟨16, L, u, d.seq, d.v⟩).2⟩, ?_, by simp, rfl, rfl, rfl, rfl, ⟨?_, ?_, hO⟩, ?_⟩⟩⟩⟩⟩ <;> try dsimp only at *
    · simp at t5; try simp at hl
      omega
    · omega
    · try simp at hl ⊢
      omega
    · try simp at hl ⊢
      omega
    · rw [ord_get hO (k := k2) (by omega) (e := Int.ofNat 0)] at t7; simp at t7
    · rw [wrap_id (by omega) (by omega)]; rfl
    · omega
    · omega
    · rw [wrap_id (by omega) (by omega)]; rfl
    · omega
    · omega
    · omega
  ·
    have hO := ord_skip hI
    have hl := ord_len hO
    refine ⟨⟨16, L⟩, rfl, rfl, rfl, by dsimp only; omega, fun t3 t4 => ⟨fun t5 => ?_, fun t5 => ⟨⟨0, rfl, by simp⟩, fun k2 hk2 _ => ⟨fun t6 => ⟨t6, ?_, ?_, ?_, fun t7 => ?_, fun t7 => ⟨k2 + 1, ?_, ?_, ?_⟩⟩, fun t6 => ⟨⟨i + 1, o, L⟩, ?_, by simp, rfl, rfl, rfl, rfl, ⟨?_, ?_, hO⟩, ?_⟩⟩⟩⟩⟩ <;> try dsimp only at *
    · simp at t5; try simp at hl
      omega
    · omega
    · try simp at hl ⊢
      omega
    · try simp at hl ⊢
      omega
    · rw [ord_get hO (k := k2) (by omega) (e := Int.ofNat 0)] at t7; simp at t7
    · rw [wrap_id (by omega) (by omega)]; rfl
    · omega
    · omega
    · rw [wrap_id (by omega) (by omega)]; rfl
    · omega
    · omega
    · omega

theorem ord_env : EnvOK ordE := Env_ok (by decide +kernel) (by simp [awake_ok, open_ok, ask_ok, done_ok, room_ok, all_ok, find_ok])
end Go.Proofs.Ytnkhnogdiphboaa.Ses
