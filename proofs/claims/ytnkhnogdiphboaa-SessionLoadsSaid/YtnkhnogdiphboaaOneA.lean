/- SessionOne: what the evaluator leaves of it, and that it holds. No condition. -/
import Derived.Test.YtnkhnogdiphboaaLeaA
import Derived.KernelRfl
set_option linter.unusedSimpArgs false
set_option linter.unusedVariables false

namespace Go.Proofs.Ytnkhnogdiphboaa.Ses
open Go Go.Proofs Go.Proofs.Ytnkhnogdiphboaa.Sx

/-- room: it says one or the other -/
noncomputable def roomI : St → LInv := fun s => match getE s.env 0 with
  | .rslice _ .deed6 l => { σ := Nat, I := fun i => i ≤ l.length, μ := fun i => l.length - i, env := fun i => [(3, .int .i64 i)], blk := fun _ => [], fresh := 0, drop := [] }
  | _ => LInv.none
noncomputable def roomE : Envr := Env Try.prog cod [] [(4, roomI)]
noncomputable def roomT : Tri := { γ := List Deed6D, n0 := 0, args := fun l => [.rslice false .deed6 l], blks := fun _ => [], pre := fun _ => True, δ := Bool, post := fun _ _ => True, n1 := 0, res := fun _ b => .bool b, blks' := fun _ _ => [], scal := true }

def Dif (a b : SessionD) : Prop := a.id ≠ b.id ∧ a.name ≠ b.name
def OneI (size : Int) (l : List SessionD) : Prop := (l.length : Int) ≤ size ∧ l.Pairwise Dif

structure OneA where
  size : Int
  l : List Deed6D
structure OneS where
  i : Nat
  l : List SessionD

/-- the number that a name's session has, seen from the front on -/
def wasL (name : Bs) (id : Int) (l : List SessionD) : Int := l.foldl (fun w s => bif s.name == name then s.id else w) id

def dropOf : SV → List Nat
  | .mslice _ q _ _ => [q]
  | _ => []

noncomputable def oneI1 : St → LInv := fun s => match getE s.env 1, getE s.env 5 with
  | .rslice _ .deed6 l, .mptr n _ => match s.m.blks.get n with
    | some (.cells [.int _ size, x]) =>
      { σ := OneS, I := fun x => x.i ≤ l.length ∧ OneI size x.l, μ := fun x => l.length - x.i, env := fun x => [(7, .int .i64 x.i)],
        blk := fun x => [(n, .cells [.int .i64 size, .mslice .session s.m.next 0 x.l.length]), (s.m.next, .rows .session x.l)], fresh := 1, drop := dropOf x }
    | _ => LInv.none
  | _, _ => LInv.none

noncomputable def oneI2 : St → LInv := fun s => match getE s.env 9, getE s.env 8, getE s.env 10 with
  | .mslice _ a _ _, .mptr d _, .int _ id => match s.m.blks.get a, s.m.blks.get d with
    | some (.rows .session l), some (.cells (_ :: _ :: _ :: .str name :: _)) =>
      { σ := Nat, I := fun k => k ≤ l.length, μ := fun k => l.length - k, env := fun k => [(11, .int .i64 k), (10, .int .i64 (wasL name id (l.take k)))], blk := fun _ => [], fresh := 0, drop := [] }
    | _, _ => LInv.none
  | _, _, _ => LInv.none

noncomputable def oneI3 : St → LInv := fun s => match getE s.env 9 with
  | .mslice _ a _ _ => match s.m.blks.get a with
    | some (.rows .session l) => { σ := Nat, I := fun k => k ≤ l.length, μ := fun k => l.length - k, env := fun k => [(12, .int .i64 k)], blk := fun _ => [], fresh := 0, drop := [] }
    | _ => LInv.none
  | _ => LInv.none
noncomputable def oneI4 : St → LInv := fun s => match getE s.env 12 with
  | .int _ k => { σ := Nat, I := fun j => decide ((j : Int) ≤ k) = true, μ := fun j => k.toNat - j, env := fun j => [(13, .int .i64 j)], blk := fun _ => [], fresh := 0, drop := [] }
  | _ => LInv.none

def oneArgs (x : OneA) : List SV := [.int .i64 x.size, .rslice false .deed6 x.l]
noncomputable def oneE : Envr := Env Try.prog cod [(10, awakeT.spec), (16, roomT.spec), (12, openT.spec), (13, askT.spec), (15, doneT.spec), (17, allT.spec)] [(9, oneI1), (17, oneI2), (29, oneI3), (32, oneI4)]
end Go.Proofs.Ytnkhnogdiphboaa.Ses

namespace Go.Proofs.Ytnkhnogdiphboaa.Ses
open Go Go.Proofs Go.Proofs.Ytnkhnogdiphboaa.Sx
set_option maxRecDepth 100000

theorem room_vc (x : roomT.γ) : evCall roomE (ev roomE 1000) 16 (roomT.args x) ⟨roomT.blks x, roomT.n0, []⟩ (fun _ _ => False) (roomT.ends x) = (
((@LE.le Nat _ (@HMul.hMul _ _ _ _ (@List.length Deed6D x) (120 : Nat)) room47) →
 (br (@Decidable.decide (@GT.gt Int _ (Nat.cast (@List.length Deed6D x) : Int) (200 : Int)) _)
 (∃ x1 : Bool,
 ((@Eq Bool Bool.false x1) ∧
 True))
 ((∃ x2 : Nat,
 ((@Eq Int (0 : Int) (Nat.cast x2 : Int)) ∧
 (@Nat.le x2 (@List.length Deed6D x)))) ∧
 (∀ x3 : Nat,
 ((@Nat.le x3 (@List.length Deed6D x)) →
 ((@LE.le Nat _ (@HMul.hMul _ _ _ _ (@List.length Deed6D x) (120 : Nat)) room47) →
 (br (@Decidable.decide (@LT.lt Int _ (Nat.cast x3 : Int) (Nat.cast (@List.length Deed6D x) : Int)) _)
 (br (@Decidable.decide ((@LE.le Int _ (0 : Int) (Nat.cast x3 : Int)) ∧
 (@LT.lt Int _ (Nat.cast x3 : Int) (Nat.cast (@List.length Deed6D x) : Int))) _)
 ((@LE.le Nat _ (@List.length UInt8 (@Deed6D.name (@List.getD Deed6D x (@Int.toNat (Nat.cast x3 : Int)) (@Deed6D.mk (0 : Int) (0 : Int) (0 : Int) (@List.nil UInt8) VerdictD.dflt)))) maxI64) →
 (br (@Decidable.decide (@GT.gt Int _ (Nat.cast (@List.length UInt8 (@Deed6D.name (@List.getD Deed6D x (@Int.toNat (Nat.cast x3 : Int)) (@Deed6D.mk (0 : Int) (0 : Int) (0 : Int) (@List.nil UInt8) VerdictD.dflt)))) : Int) (300 : Int)) _)
 (∃ x4 : Bool,
 ((@Eq Bool Bool.false x4) ∧
 True))
 (br (@Decidable.decide ((@LE.le Int _ (0 : Int) (Nat.cast x3 : Int)) ∧
 (@LT.lt Int _ (Nat.cast x3 : Int) (Nat.cast (@List.length Deed6D x) : Int))) _)
 ((@LE.le Nat _ (@HMul.hMul _ _ _ _ (@List.length CommitD (@VerdictD.commits (@Deed6D.v (@List.getD Deed6D x (@Int.toNat (Nat.cast x3 : Int)) (@Deed6D.mk (0 : Int) (0 : Int) (0 : Int) (@List.nil UInt8) VerdictD.dflt))))) (56 : Nat)) room47) →
 (br (@Decidable.decide (@GT.gt Int _ (Nat.cast (@List.length CommitD (@VerdictD.commits (@Deed6D.v (@List.getD Deed6D x (@Int.toNat (Nat.cast x3 : Int)) (@Deed6D.mk (0 : Int) (0 : Int) (0 : Int) (@List.nil UInt8) VerdictD.dflt))))) : Int) (20 : Int)) _)
 (∃ x5 : Bool,
 ((@Eq Bool Bool.false x5) ∧
 True))
 (br (@Decidable.decide ((@LE.le Int _ (0 : Int) (Nat.cast x3 : Int)) ∧
 (@LT.lt Int _ (Nat.cast x3 : Int) (Nat.cast (@List.length Deed6D x) : Int))) _)
 ((@LE.le Nat _ (@List.length UInt8 (@VerdictD.path (@Deed6D.v (@List.getD Deed6D x (@Int.toNat (Nat.cast x3 : Int)) (@Deed6D.mk (0 : Int) (0 : Int) (0 : Int) (@List.nil UInt8) VerdictD.dflt))))) maxI64) →
 (br (@Decidable.decide (@GT.gt Int _ (Nat.cast (@List.length UInt8 (@VerdictD.path (@Deed6D.v (@List.getD Deed6D x (@Int.toNat (Nat.cast x3 : Int)) (@Deed6D.mk (0 : Int) (0 : Int) (0 : Int) (@List.nil UInt8) VerdictD.dflt))))) : Int) (300 : Int)) _)
 (∃ x6 : Bool,
 ((@Eq Bool Bool.false x6) ∧
 True))
 (∃ x7 : Nat,
 ((@Eq Int (@Go.IntKind.wrap Go.IntKind.i64 (@HAdd.hAdd Int Int Int _ (Nat.cast x3 : Int) (1 : Int))) (Nat.cast x7 : Int)) ∧
 ((@Nat.le x7 (@List.length Deed6D x)) ∧
 (@LT.lt Nat _ (@Nat.sub (@List.length Deed6D x) x7) (@Nat.sub (@List.length Deed6D x) x3)))))))
 (Bad "check" "law.go:36"))))
 (Bad "check" "law.go:36"))))
 (Bad "check" "law.go:36"))
 (∃ x8 : Bool,
 ((@Eq Bool Bool.true x8) ∧
 True)))))))))) := by kernel_rfl

theorem one_vc (x : OneA) : evCall oneE (ev oneE 1000) 5 (oneArgs x) ⟨[], 0, []⟩ (fun _ _ => False) (fun v _ => TrueV v) = (
(∃ x1 : Unit,
 (True ∧
 (∀ x2 : Unit,
 (True →
 (∃ x3 : (@List Deed6D),
 ((@Eq (@List Deed6D) (@OneA.l x) x3) ∧
 (True ∧
 (∀ x4 : Bool,
 (True →
 (br (@Bool.not x4)
 (@Eq Bool Bool.true Bool.true)
 (br (@Decidable.decide (@LT.lt Int _ (@OneA.size x) (1 : Int)) _)
 (@Eq Bool Bool.true Bool.true)
 (br (@Decidable.decide (@GT.gt Int _ (@OneA.size x) (16 : Int)) _)
 (@Eq Bool Bool.true Bool.true)
 ((∃ x5 : OneS,
 ((@Eq Int (0 : Int) (Nat.cast (@OneS.i x5) : Int)) ∧
 ((@Eq Int (@OneA.size x) (@OneA.size x)) ∧
 ((@Eq Nat (0 : Nat) (@List.length SessionD (@OneS.l x5))) ∧
 ((@Eq (@List SessionD) (@List.nil SessionD) (@OneS.l x5)) ∧
 ((@LE.le Nat _ (@OneS.i x5) (@List.length Deed6D (@OneA.l x))) ∧
 (@OneI (@OneA.size x) (@OneS.l x5)))))))) ∧
 (∀ x6 : OneS,
 (((@LE.le Nat _ (@OneS.i x6) (@List.length Deed6D (@OneA.l x))) ∧
 (@OneI (@OneA.size x) (@OneS.l x6))) →
 ((@LE.le Nat _ (@HMul.hMul _ _ _ _ (@List.length Deed6D (@OneA.l x)) (120 : Nat)) room47) →
 (br (@Decidable.decide (@LT.lt Int _ (Nat.cast (@OneS.i x6) : Int) (Nat.cast (@List.length Deed6D (@OneA.l x)) : Int)) _)
 (br (@Decidable.decide ((@LE.le Int _ (0 : Int) (Nat.cast (@OneS.i x6) : Int)) ∧
 (@LT.lt Int _ (Nat.cast (@OneS.i x6) : Int) (Nat.cast (@List.length Deed6D (@OneA.l x)) : Int))) _)
 (∃ x7 : TabA,
 ((@Eq Int (@OneA.size x) (@TabA.size x7)) ∧
 ((@Eq Nat (0 : Nat) (0 : Nat)) ∧
 ((@Eq Nat (@List.length SessionD (@OneS.l x6)) (@List.length SessionD (@TabA.l x7))) ∧
 ((@Eq (@List SessionD) (@OneS.l x6) (@TabA.l x7)) ∧
 ((@Eq Bool (@Decidable.decide (@LT.lt Int _ (0 : Int) (@TabA.size x7)) _) Bool.true) ∧
 (∀ x8 : Unit,
 (True →
 (br (@Decidable.decide (@LE.le Int _ (@Deed6D.dof (@List.getD Deed6D (@OneA.l x) (@Int.toNat (Nat.cast (@OneS.i x6) : Int)) (@Deed6D.mk (0 : Int) (0 : Int) (0 : Int) (@List.nil UInt8) VerdictD.dflt))) (1 : Int)) _)
 ((∃ x9 : Nat,
 ((@Eq Int (0 : Int) (Nat.cast x9 : Int)) ∧
 ((@Eq Int (@Deed6D.id (@List.getD Deed6D (@OneA.l x) (@Int.toNat (Nat.cast (@OneS.i x6) : Int)) (@Deed6D.mk (0 : Int) (0 : Int) (0 : Int) (@List.nil UInt8) VerdictD.dflt))) (@wasL (@Deed6D.name (@List.getD Deed6D (@OneA.l x) (@Int.toNat (Nat.cast (@OneS.i x6) : Int)) (@Deed6D.mk (0 : Int) (0 : Int) (0 : Int) (@List.nil UInt8) VerdictD.dflt))) (@Deed6D.id (@List.getD Deed6D (@OneA.l x) (@Int.toNat (Nat.cast (@OneS.i x6) : Int)) (@Deed6D.mk (0 : Int) (0 : Int) (0 : Int) (@List.nil UInt8) VerdictD.dflt))) (@List.take SessionD x9 (@TabA.l x7)))) ∧
 (@Nat.le x9 (@List.length SessionD (@TabA.l x7)))))) ∧
 (∀ x10 : Nat,
 ((@Nat.le x10 (@List.length SessionD (@TabA.l x7))) →
 ((@LE.le Nat _ (@HMul.hMul _ _ _ _ (@List.length SessionD (@TabA.l x7)) (112 : Nat)) room47) →
 (br (@Decidable.decide (@LT.lt Int _ (Nat.cast x10 : Int) (Nat.cast (@List.length SessionD (@TabA.l x7)) : Int)) _)
 (br (@Decidable.decide ((@LE.le Int _ (0 : Int) (Nat.cast x10 : Int)) ∧
 (@LT.lt Int _ (Nat.cast x10 : Int) (Nat.cast (@List.length SessionD (@TabA.l x7)) : Int))) _)
 (br (@Decidable.decide (@LT.lt Nat _ (@HAdd.hAdd _ _ _ _ (0 : Nat) (@Int.toNat (Nat.cast x10 : Int))) (@List.length SessionD (@TabA.l x7))) _)
 (br (@BEq.beq Bs _ (@SessionD.name (@List.getD SessionD (@TabA.l x7) (@HAdd.hAdd _ _ _ _ (0 : Nat) (@Int.toNat (Nat.cast x10 : Int))) (@SessionD.mk (0 : Int) (0 : Int) (@List.nil UInt8) VerdictD.dflt))) (@Deed6D.name (@List.getD Deed6D (@OneA.l x) (@Int.toNat (Nat.cast (@OneS.i x6) : Int)) (@Deed6D.mk (0 : Int) (0 : Int) (0 : Int) (@List.nil UInt8) VerdictD.dflt))))
 (br (@Decidable.decide ((@LE.le Int _ (0 : Int) (Nat.cast x10 : Int)) ∧
 (@LT.lt Int _ (Nat.cast x10 : Int) (Nat.cast (@List.length SessionD (@TabA.l x7)) : Int))) _)
 (br (@Decidable.decide (@LT.lt Nat _ (@HAdd.hAdd _ _ _ _ (0 : Nat) (@Int.toNat (Nat.cast x10 : Int))) (@List.length SessionD (@TabA.l x7))) _)
 (∃ x11 : Nat,
 ((@Eq Int (@Go.IntKind.wrap Go.IntKind.i64 (@HAdd.hAdd Int Int Int _ (Nat.cast x10 : Int) (1 : Int))) (Nat.cast x11 : Int)) ∧
 ((@Eq Int (@SessionD.id (@List.getD SessionD (@TabA.l x7) (@HAdd.hAdd _ _ _ _ (0 : Nat) (@Int.toNat (Nat.cast x10 : Int))) (@SessionD.mk (0 : Int) (0 : Int) (@List.nil UInt8) VerdictD.dflt))) (@wasL (@Deed6D.name (@List.getD Deed6D (@OneA.l x) (@Int.toNat (Nat.cast (@OneS.i x6) : Int)) (@Deed6D.mk (0 : Int) (0 : Int) (0 : Int) (@List.nil UInt8) VerdictD.dflt))) (@Deed6D.id (@List.getD Deed6D (@OneA.l x) (@Int.toNat (Nat.cast (@OneS.i x6) : Int)) (@Deed6D.mk (0 : Int) (0 : Int) (0 : Int) (@List.nil UInt8) VerdictD.dflt))) (@List.take SessionD x11 (@TabA.l x7)))) ∧
 ((@Nat.le x11 (@List.length SessionD (@TabA.l x7))) ∧
 (@LT.lt Nat _ (@Nat.sub (@List.length SessionD (@TabA.l x7)) x11) (@Nat.sub (@List.length SessionD (@TabA.l x7)) x10))))))
 (Bad "check" "law.go:227"))
 (Bad "check" "law.go:227"))
 (∃ x12 : Nat,
 ((@Eq Int (@Go.IntKind.wrap Go.IntKind.i64 (@HAdd.hAdd Int Int Int _ (Nat.cast x10 : Int) (1 : Int))) (Nat.cast x12 : Int)) ∧
 ((@Eq Int (@wasL (@Deed6D.name (@List.getD Deed6D (@OneA.l x) (@Int.toNat (Nat.cast (@OneS.i x6) : Int)) (@Deed6D.mk (0 : Int) (0 : Int) (0 : Int) (@List.nil UInt8) VerdictD.dflt))) (@Deed6D.id (@List.getD Deed6D (@OneA.l x) (@Int.toNat (Nat.cast (@OneS.i x6) : Int)) (@Deed6D.mk (0 : Int) (0 : Int) (0 : Int) (@List.nil UInt8) VerdictD.dflt))) (@List.take SessionD x10 (@TabA.l x7))) (@wasL (@Deed6D.name (@List.getD Deed6D (@OneA.l x) (@Int.toNat (Nat.cast (@OneS.i x6) : Int)) (@Deed6D.mk (0 : Int) (0 : Int) (0 : Int) (@List.nil UInt8) VerdictD.dflt))) (@Deed6D.id (@List.getD Deed6D (@OneA.l x) (@Int.toNat (Nat.cast (@OneS.i x6) : Int)) (@Deed6D.mk (0 : Int) (0 : Int) (0 : Int) (@List.nil UInt8) VerdictD.dflt))) (@List.take SessionD x12 (@TabA.l x7)))) ∧
 ((@Nat.le x12 (@List.length SessionD (@TabA.l x7))) ∧
 (@LT.lt Nat _ (@Nat.sub (@List.length SessionD (@TabA.l x7)) x12) (@Nat.sub (@List.length SessionD (@TabA.l x7)) x10)))))))
 (Bad "check" "law.go:226"))
 (Bad "check" "law.go:226"))
 (∃ x13 : OpenA,
 ((@Eq Bs (@Deed6D.name (@List.getD Deed6D (@OneA.l x) (@Int.toNat (Nat.cast (@OneS.i x6) : Int)) (@Deed6D.mk (0 : Int) (0 : Int) (0 : Int) (@List.nil UInt8) VerdictD.dflt))) (@OpenA.name x13)) ∧
 ((@Eq Int (@Deed6D.id (@List.getD Deed6D (@OneA.l x) (@Int.toNat (Nat.cast (@OneS.i x6) : Int)) (@Deed6D.mk (0 : Int) (0 : Int) (0 : Int) (@List.nil UInt8) VerdictD.dflt))) (@OpenA.id x13)) ∧
 ((@Eq Int (@TabA.size x7) (@OpenA.size x13)) ∧
 ((@Eq Nat (0 : Nat) (0 : Nat)) ∧
 ((@Eq Nat (@List.length SessionD (@TabA.l x7)) (@List.length SessionD (@OpenA.l x13))) ∧
 ((@Eq (@List SessionD) (@TabA.l x7) (@OpenA.l x13)) ∧
 (((@Eq Bool (@Decidable.decide (@LT.lt Int _ (0 : Int) (@OpenA.size x13)) _) Bool.true) ∧
 (@Eq Bool (@Decidable.decide (@LE.le Nat _ (@List.length SessionD (@OpenA.l x13)) (1024 : Nat)) _) Bool.true)) ∧
 (∀ x14 : Unit,
 (True →
 (br (@bne Int _ (@Prod.fst Int (@List SessionD) (@openL x13)) (@wasL (@Deed6D.name (@List.getD Deed6D (@OneA.l x) (@Int.toNat (Nat.cast (@OneS.i x6) : Int)) (@Deed6D.mk (0 : Int) (0 : Int) (0 : Int) (@List.nil UInt8) VerdictD.dflt))) (@Deed6D.id (@List.getD Deed6D (@OneA.l x) (@Int.toNat (Nat.cast (@OneS.i x6) : Int)) (@Deed6D.mk (0 : Int) (0 : Int) (0 : Int) (@List.nil UInt8) VerdictD.dflt))) (@List.take SessionD x10 (@TabA.l x7))))
 (@Eq Bool Bool.false Bool.true)
 (∃ x15 : TabA,
 ((@Eq Int (@OpenA.size x13) (@TabA.size x15)) ∧
 ((@Eq Nat (0 : Nat) (0 : Nat)) ∧
 ((@Eq Nat (@List.length SessionD (@Prod.snd Int (@List SessionD) (@openL x13))) (@List.length SessionD (@TabA.l x15))) ∧
 ((@Eq (@List SessionD) (@Prod.snd Int (@List SessionD) (@openL x13)) (@TabA.l x15)) ∧
 ((@Eq Bool (@Decidable.decide (@LT.lt Int _ (0 : Int) (@TabA.size x15)) _) Bool.true) ∧
 (∀ x16 : Unit,
 (True →
 ((@LE.le Nat _ (@HMul.hMul _ _ _ _ (@List.length SessionD (@TabA.l x15)) (112 : Nat)) room47) →
 (br (@Decidable.decide (@GT.gt Int _ (Nat.cast (@List.length SessionD (@TabA.l x15)) : Int) (@OneA.size x)) _)
 (@Eq Bool Bool.false Bool.true)
 ((∃ x17 : Nat,
 ((@Eq Int (0 : Int) (Nat.cast x17 : Int)) ∧
 (@Nat.le x17 (@List.length SessionD (@TabA.l x15))))) ∧
 (∀ x18 : Nat,
 ((@Nat.le x18 (@List.length SessionD (@TabA.l x15))) →
 ((@LE.le Nat _ (@HMul.hMul _ _ _ _ (@List.length SessionD (@TabA.l x15)) (112 : Nat)) room47) →
 (br (@Decidable.decide (@LT.lt Int _ (Nat.cast x18 : Int) (Nat.cast (@List.length SessionD (@TabA.l x15)) : Int)) _)
 ((∃ x19 : Nat,
 ((@Eq Int (0 : Int) (Nat.cast x19 : Int)) ∧
 (@Eq Bool (@Decidable.decide (@LE.le Int _ (Nat.cast x19 : Int) (Nat.cast x18 : Int)) _) Bool.true))) ∧
 (∀ x20 : Nat,
 ((@Eq Bool (@Decidable.decide (@LE.le Int _ (Nat.cast x20 : Int) (Nat.cast x18 : Int)) _) Bool.true) →
 (br (@Decidable.decide (@LT.lt Int _ (Nat.cast x20 : Int) (Nat.cast x18 : Int)) _)
 (br (@Decidable.decide ((@LE.le Int _ (0 : Int) (Nat.cast x18 : Int)) ∧
 (@LT.lt Int _ (Nat.cast x18 : Int) (Nat.cast (@List.length SessionD (@TabA.l x15)) : Int))) _)
 (br (@Decidable.decide (@LT.lt Nat _ (@HAdd.hAdd _ _ _ _ (0 : Nat) (@Int.toNat (Nat.cast x18 : Int))) (@List.length SessionD (@TabA.l x15))) _)
 (br (@Decidable.decide ((@LE.le Int _ (0 : Int) (Nat.cast x20 : Int)) ∧
 (@LT.lt Int _ (Nat.cast x20 : Int) (Nat.cast (@List.length SessionD (@TabA.l x15)) : Int))) _)
 (br (@Decidable.decide (@LT.lt Nat _ (@HAdd.hAdd _ _ _ _ (0 : Nat) (@Int.toNat (Nat.cast x20 : Int))) (@List.length SessionD (@TabA.l x15))) _)
 (br (@BEq.beq Int _ (@SessionD.id (@List.getD SessionD (@TabA.l x15) (@HAdd.hAdd _ _ _ _ (0 : Nat) (@Int.toNat (Nat.cast x18 : Int))) (@SessionD.mk (0 : Int) (0 : Int) (@List.nil UInt8) VerdictD.dflt))) (@SessionD.id (@List.getD SessionD (@TabA.l x15) (@HAdd.hAdd _ _ _ _ (0 : Nat) (@Int.toNat (Nat.cast x20 : Int))) (@SessionD.mk (0 : Int) (0 : Int) (@List.nil UInt8) VerdictD.dflt))))
 (@Eq Bool Bool.false Bool.true)
 (br (@Decidable.decide ((@LE.le Int _ (0 : Int) (Nat.cast x18 : Int)) ∧
 (@LT.lt Int _ (Nat.cast x18 : Int) (Nat.cast (@List.length SessionD (@TabA.l x15)) : Int))) _)
 (br (@Decidable.decide (@LT.lt Nat _ (@HAdd.hAdd _ _ _ _ (0 : Nat) (@Int.toNat (Nat.cast x18 : Int))) (@List.length SessionD (@TabA.l x15))) _)
 (br (@Decidable.decide ((@LE.le Int _ (0 : Int) (Nat.cast x20 : Int)) ∧
 (@LT.lt Int _ (Nat.cast x20 : Int) (Nat.cast (@List.length SessionD (@TabA.l x15)) : Int))) _)
 (br (@Decidable.decide (@LT.lt Nat _ (@HAdd.hAdd _ _ _ _ (0 : Nat) (@Int.toNat (Nat.cast x20 : Int))) (@List.length SessionD (@TabA.l x15))) _)
 (br (@BEq.beq Bs _ (@SessionD.name (@List.getD SessionD (@TabA.l x15) (@HAdd.hAdd _ _ _ _ (0 : Nat) (@Int.toNat (Nat.cast x18 : Int))) (@SessionD.mk (0 : Int) (0 : Int) (@List.nil UInt8) VerdictD.dflt))) (@SessionD.name (@List.getD SessionD (@TabA.l x15) (@HAdd.hAdd _ _ _ _ (0 : Nat) (@Int.toNat (Nat.cast x20 : Int))) (@SessionD.mk (0 : Int) (0 : Int) (@List.nil UInt8) VerdictD.dflt))))
 (@Eq Bool Bool.false Bool.true)
 (∃ x21 : Nat,
 ((@Eq Int (@Go.IntKind.wrap Go.IntKind.i64 (@HAdd.hAdd Int Int Int _ (Nat.cast x20 : Int) (1 : Int))) (Nat.cast x21 : Int)) ∧
 ((@Eq Bool (@Decidable.decide (@LE.le Int _ (Nat.cast x21 : Int) (Nat.cast x18 : Int)) _) Bool.true) ∧
 (@LT.lt Nat _ (@Nat.sub (@Int.toNat (Nat.cast x18 : Int)) x21) (@Nat.sub (@Int.toNat (Nat.cast x18 : Int)) x20))))))
 (Bad "check" "law.go:244"))
 (Bad "check" "law.go:244"))
 (Bad "check" "law.go:244"))
 (Bad "check" "law.go:244")))
 (Bad "check" "law.go:244"))
 (Bad "check" "law.go:244"))
 (Bad "check" "law.go:244"))
 (Bad "check" "law.go:244"))
 (∃ x22 : Nat,
 ((@Eq Int (@Go.IntKind.wrap Go.IntKind.i64 (@HAdd.hAdd Int Int Int _ (Nat.cast x18 : Int) (1 : Int))) (Nat.cast x22 : Int)) ∧
 ((@Nat.le x22 (@List.length SessionD (@TabA.l x15))) ∧
 (@LT.lt Nat _ (@Nat.sub (@List.length SessionD (@TabA.l x15)) x22) (@Nat.sub (@List.length SessionD (@TabA.l x15)) x18)))))))))
 (∃ x23 : OneS,
 ((@Eq Int (@Go.IntKind.wrap Go.IntKind.i64 (@HAdd.hAdd Int Int Int _ (Nat.cast (@OneS.i x6) : Int) (1 : Int))) (Nat.cast (@OneS.i x23) : Int)) ∧
 ((@Eq Int (@TabA.size x15) (@OneA.size x)) ∧
 ((@Eq Nat (0 : Nat) (0 : Nat)) ∧
 ((@Eq Nat (@List.length SessionD (@TabA.l x15)) (@List.length SessionD (@OneS.l x23))) ∧
 ((@Eq (@List SessionD) (@TabA.l x15) (@OneS.l x23)) ∧
 (((@LE.le Nat _ (@OneS.i x23) (@List.length Deed6D (@OneA.l x))) ∧
 (@OneI (@OneA.size x) (@OneS.l x23))) ∧
 (@LT.lt Nat _ (@Nat.sub (@List.length Deed6D (@OneA.l x)) (@OneS.i x23)) (@Nat.sub (@List.length Deed6D (@OneA.l x)) (@OneS.i x6)))))))))))))))))))))))))))))))))))))))))
 (br (@Decidable.decide (@LE.le Int _ (@Deed6D.dof (@List.getD Deed6D (@OneA.l x) (@Int.toNat (Nat.cast (@OneS.i x6) : Int)) (@Deed6D.mk (0 : Int) (0 : Int) (0 : Int) (@List.nil UInt8) VerdictD.dflt))) (4 : Int)) _)
 (∃ x24 : AskA,
 ((@Eq Int (@Deed6D.id (@List.getD Deed6D (@OneA.l x) (@Int.toNat (Nat.cast (@OneS.i x6) : Int)) (@Deed6D.mk (0 : Int) (0 : Int) (0 : Int) (@List.nil UInt8) VerdictD.dflt))) (@AskA.id x24)) ∧
 ((@Eq Int (@Deed6D.seq (@List.getD Deed6D (@OneA.l x) (@Int.toNat (Nat.cast (@OneS.i x6) : Int)) (@Deed6D.mk (0 : Int) (0 : Int) (0 : Int) (@List.nil UInt8) VerdictD.dflt))) (@AskA.seq x24)) ∧
 ((@Eq Int (@TabA.size x7) (@AskA.size x24)) ∧
 ((@Eq Nat (0 : Nat) (0 : Nat)) ∧
 ((@Eq Nat (@List.length SessionD (@TabA.l x7)) (@List.length SessionD (@AskA.l x24))) ∧
 ((@Eq (@List SessionD) (@TabA.l x7) (@AskA.l x24)) ∧
 (((@Eq Bool (@Decidable.decide (@LT.lt Int _ (0 : Int) (@AskA.size x24)) _) Bool.true) ∧
 (@Eq Bool (@Decidable.decide (@LE.le Nat _ (@List.length SessionD (@AskA.l x24)) (1024 : Nat)) _) Bool.true)) ∧
 (∀ x25 : Unit,
 (True →
 (∃ x26 : TabA,
 ((@Eq Int (@AskA.size x24) (@TabA.size x26)) ∧
 ((@Eq Nat (0 : Nat) (0 : Nat)) ∧
 ((@Eq Nat (@List.length SessionD (@Prod.snd (@Prod VerdictD Bool) (@List SessionD) (@askL x24))) (@List.length SessionD (@TabA.l x26))) ∧
 ((@Eq (@List SessionD) (@Prod.snd (@Prod VerdictD Bool) (@List SessionD) (@askL x24)) (@TabA.l x26)) ∧
 ((@Eq Bool (@Decidable.decide (@LT.lt Int _ (0 : Int) (@TabA.size x26)) _) Bool.true) ∧
 (∀ x27 : Unit,
 (True →
 ((@LE.le Nat _ (@HMul.hMul _ _ _ _ (@List.length SessionD (@TabA.l x26)) (112 : Nat)) room47) →
 (br (@Decidable.decide (@GT.gt Int _ (Nat.cast (@List.length SessionD (@TabA.l x26)) : Int) (@OneA.size x)) _)
 (@Eq Bool Bool.false Bool.true)
 ((∃ x28 : Nat,
 ((@Eq Int (0 : Int) (Nat.cast x28 : Int)) ∧
 (@Nat.le x28 (@List.length SessionD (@TabA.l x26))))) ∧
 (∀ x29 : Nat,
 ((@Nat.le x29 (@List.length SessionD (@TabA.l x26))) →
 ((@LE.le Nat _ (@HMul.hMul _ _ _ _ (@List.length SessionD (@TabA.l x26)) (112 : Nat)) room47) →
 (br (@Decidable.decide (@LT.lt Int _ (Nat.cast x29 : Int) (Nat.cast (@List.length SessionD (@TabA.l x26)) : Int)) _)
 ((∃ x30 : Nat,
 ((@Eq Int (0 : Int) (Nat.cast x30 : Int)) ∧
 (@Eq Bool (@Decidable.decide (@LE.le Int _ (Nat.cast x30 : Int) (Nat.cast x29 : Int)) _) Bool.true))) ∧
 (∀ x31 : Nat,
 ((@Eq Bool (@Decidable.decide (@LE.le Int _ (Nat.cast x31 : Int) (Nat.cast x29 : Int)) _) Bool.true) →
 (br (@Decidable.decide (@LT.lt Int _ (Nat.cast x31 : Int) (Nat.cast x29 : Int)) _)
 (br (@Decidable.decide ((@LE.le Int _ (0 : Int) (Nat.cast x29 : Int)) ∧
 (@LT.lt Int _ (Nat.cast x29 : Int) (Nat.cast (@List.length SessionD (@TabA.l x26)) : Int))) _)
 (br (@Decidable.decide (@LT.lt Nat _ (@HAdd.hAdd _ _ _ _ (0 : Nat) (@Int.toNat (Nat.cast x29 : Int))) (@List.length SessionD (@TabA.l x26))) _)
 (br (@Decidable.decide ((@LE.le Int _ (0 : Int) (Nat.cast x31 : Int)) ∧
 (@LT.lt Int _ (Nat.cast x31 : Int) (Nat.cast (@List.length SessionD (@TabA.l x26)) : Int))) _)
 (br (@Decidable.decide (@LT.lt Nat _ (@HAdd.hAdd _ _ _ _ (0 : Nat) (@Int.toNat (Nat.cast x31 : Int))) (@List.length SessionD (@TabA.l x26))) _)
 (br (@BEq.beq Int _ (@SessionD.id (@List.getD SessionD (@TabA.l x26) (@HAdd.hAdd _ _ _ _ (0 : Nat) (@Int.toNat (Nat.cast x29 : Int))) (@SessionD.mk (0 : Int) (0 : Int) (@List.nil UInt8) VerdictD.dflt))) (@SessionD.id (@List.getD SessionD (@TabA.l x26) (@HAdd.hAdd _ _ _ _ (0 : Nat) (@Int.toNat (Nat.cast x31 : Int))) (@SessionD.mk (0 : Int) (0 : Int) (@List.nil UInt8) VerdictD.dflt))))
 (@Eq Bool Bool.false Bool.true)
 (br (@Decidable.decide ((@LE.le Int _ (0 : Int) (Nat.cast x29 : Int)) ∧
 (@LT.lt Int _ (Nat.cast x29 : Int) (Nat.cast (@List.length SessionD (@TabA.l x26)) : Int))) _)
 (br (@Decidable.decide (@LT.lt Nat _ (@HAdd.hAdd _ _ _ _ (0 : Nat) (@Int.toNat (Nat.cast x29 : Int))) (@List.length SessionD (@TabA.l x26))) _)
 (br (@Decidable.decide ((@LE.le Int _ (0 : Int) (Nat.cast x31 : Int)) ∧
 (@LT.lt Int _ (Nat.cast x31 : Int) (Nat.cast (@List.length SessionD (@TabA.l x26)) : Int))) _)
 (br (@Decidable.decide (@LT.lt Nat _ (@HAdd.hAdd _ _ _ _ (0 : Nat) (@Int.toNat (Nat.cast x31 : Int))) (@List.length SessionD (@TabA.l x26))) _)
 (br (@BEq.beq Bs _ (@SessionD.name (@List.getD SessionD (@TabA.l x26) (@HAdd.hAdd _ _ _ _ (0 : Nat) (@Int.toNat (Nat.cast x29 : Int))) (@SessionD.mk (0 : Int) (0 : Int) (@List.nil UInt8) VerdictD.dflt))) (@SessionD.name (@List.getD SessionD (@TabA.l x26) (@HAdd.hAdd _ _ _ _ (0 : Nat) (@Int.toNat (Nat.cast x31 : Int))) (@SessionD.mk (0 : Int) (0 : Int) (@List.nil UInt8) VerdictD.dflt))))
 (@Eq Bool Bool.false Bool.true)
 (∃ x32 : Nat,
 ((@Eq Int (@Go.IntKind.wrap Go.IntKind.i64 (@HAdd.hAdd Int Int Int _ (Nat.cast x31 : Int) (1 : Int))) (Nat.cast x32 : Int)) ∧
 ((@Eq Bool (@Decidable.decide (@LE.le Int _ (Nat.cast x32 : Int) (Nat.cast x29 : Int)) _) Bool.true) ∧
 (@LT.lt Nat _ (@Nat.sub (@Int.toNat (Nat.cast x29 : Int)) x32) (@Nat.sub (@Int.toNat (Nat.cast x29 : Int)) x31))))))
 (Bad "check" "law.go:244"))
 (Bad "check" "law.go:244"))
 (Bad "check" "law.go:244"))
 (Bad "check" "law.go:244")))
 (Bad "check" "law.go:244"))
 (Bad "check" "law.go:244"))
 (Bad "check" "law.go:244"))
 (Bad "check" "law.go:244"))
 (∃ x33 : Nat,
 ((@Eq Int (@Go.IntKind.wrap Go.IntKind.i64 (@HAdd.hAdd Int Int Int _ (Nat.cast x29 : Int) (1 : Int))) (Nat.cast x33 : Int)) ∧
 ((@Nat.le x33 (@List.length SessionD (@TabA.l x26))) ∧
 (@LT.lt Nat _ (@Nat.sub (@List.length SessionD (@TabA.l x26)) x33) (@Nat.sub (@List.length SessionD (@TabA.l x26)) x29)))))))))
 (∃ x34 : OneS,
 ((@Eq Int (@Go.IntKind.wrap Go.IntKind.i64 (@HAdd.hAdd Int Int Int _ (Nat.cast (@OneS.i x6) : Int) (1 : Int))) (Nat.cast (@OneS.i x34) : Int)) ∧
 ((@Eq Int (@TabA.size x26) (@OneA.size x)) ∧
 ((@Eq Nat (0 : Nat) (0 : Nat)) ∧
 ((@Eq Nat (@List.length SessionD (@TabA.l x26)) (@List.length SessionD (@OneS.l x34))) ∧
 ((@Eq (@List SessionD) (@TabA.l x26) (@OneS.l x34)) ∧
 (((@LE.le Nat _ (@OneS.i x34) (@List.length Deed6D (@OneA.l x))) ∧
 (@OneI (@OneA.size x) (@OneS.l x34))) ∧
 (@LT.lt Nat _ (@Nat.sub (@List.length Deed6D (@OneA.l x)) (@OneS.i x34)) (@Nat.sub (@List.length Deed6D (@OneA.l x)) (@OneS.i x6)))))))))))))))))))))))))))))))))))
 (∃ x35 : DoneA,
 ((@Eq Int (@Deed6D.id (@List.getD Deed6D (@OneA.l x) (@Int.toNat (Nat.cast (@OneS.i x6) : Int)) (@Deed6D.mk (0 : Int) (0 : Int) (0 : Int) (@List.nil UInt8) VerdictD.dflt))) (@DoneA.id x35)) ∧
 ((@Eq Int (@Deed6D.seq (@List.getD Deed6D (@OneA.l x) (@Int.toNat (Nat.cast (@OneS.i x6) : Int)) (@Deed6D.mk (0 : Int) (0 : Int) (0 : Int) (@List.nil UInt8) VerdictD.dflt))) (@DoneA.seq x35)) ∧
 ((@Eq Int (@VerdictD.code (@Deed6D.v (@List.getD Deed6D (@OneA.l x) (@Int.toNat (Nat.cast (@OneS.i x6) : Int)) (@Deed6D.mk (0 : Int) (0 : Int) (0 : Int) (@List.nil UInt8) VerdictD.dflt)))) (@VerdictD.code (@DoneA.v x35))) ∧
 ((@Eq Int (@VerdictD.session (@Deed6D.v (@List.getD Deed6D (@OneA.l x) (@Int.toNat (Nat.cast (@OneS.i x6) : Int)) (@Deed6D.mk (0 : Int) (0 : Int) (0 : Int) (@List.nil UInt8) VerdictD.dflt)))) (@VerdictD.session (@DoneA.v x35))) ∧
 ((@Eq Int (@VerdictD.rev (@Deed6D.v (@List.getD Deed6D (@OneA.l x) (@Int.toNat (Nat.cast (@OneS.i x6) : Int)) (@Deed6D.mk (0 : Int) (0 : Int) (0 : Int) (@List.nil UInt8) VerdictD.dflt)))) (@VerdictD.rev (@DoneA.v x35))) ∧
 ((@Eq Bs (@VerdictD.path (@Deed6D.v (@List.getD Deed6D (@OneA.l x) (@Int.toNat (Nat.cast (@OneS.i x6) : Int)) (@Deed6D.mk (0 : Int) (0 : Int) (0 : Int) (@List.nil UInt8) VerdictD.dflt)))) (@VerdictD.path (@DoneA.v x35))) ∧
 ((@Eq Int (@VerdictD.digest (@Deed6D.v (@List.getD Deed6D (@OneA.l x) (@Int.toNat (Nat.cast (@OneS.i x6) : Int)) (@Deed6D.mk (0 : Int) (0 : Int) (0 : Int) (@List.nil UInt8) VerdictD.dflt)))) (@VerdictD.digest (@DoneA.v x35))) ∧
 ((@Eq (@List CommitD) (@VerdictD.commits (@Deed6D.v (@List.getD Deed6D (@OneA.l x) (@Int.toNat (Nat.cast (@OneS.i x6) : Int)) (@Deed6D.mk (0 : Int) (0 : Int) (0 : Int) (@List.nil UInt8) VerdictD.dflt)))) (@VerdictD.commits (@DoneA.v x35))) ∧
 ((@Eq Int (@VerdictD.member (@Deed6D.v (@List.getD Deed6D (@OneA.l x) (@Int.toNat (Nat.cast (@OneS.i x6) : Int)) (@Deed6D.mk (0 : Int) (0 : Int) (0 : Int) (@List.nil UInt8) VerdictD.dflt)))) (@VerdictD.member (@DoneA.v x35))) ∧
 ((@Eq Int (@TabA.size x7) (@DoneA.size x35)) ∧
 ((@Eq Nat (0 : Nat) (0 : Nat)) ∧
 ((@Eq Nat (@List.length SessionD (@TabA.l x7)) (@List.length SessionD (@DoneA.l x35))) ∧
 ((@Eq (@List SessionD) (@TabA.l x7) (@DoneA.l x35)) ∧
 ((@Eq Bool (@Decidable.decide (@LT.lt Int _ (0 : Int) (@DoneA.size x35)) _) Bool.true) ∧
 (∀ x36 : Unit,
 (True →
 (∃ x37 : TabA,
 ((@Eq Int (@DoneA.size x35) (@TabA.size x37)) ∧
 ((@Eq Nat (0 : Nat) (0 : Nat)) ∧
 ((@Eq Nat (@List.length SessionD (@Prod.snd Bool (@List SessionD) (@doneL x35))) (@List.length SessionD (@TabA.l x37))) ∧
 ((@Eq (@List SessionD) (@Prod.snd Bool (@List SessionD) (@doneL x35)) (@TabA.l x37)) ∧
 ((@Eq Bool (@Decidable.decide (@LT.lt Int _ (0 : Int) (@TabA.size x37)) _) Bool.true) ∧
 (∀ x38 : Unit,
 (True →
 ((@LE.le Nat _ (@HMul.hMul _ _ _ _ (@List.length SessionD (@TabA.l x37)) (112 : Nat)) room47) →
 (br (@Decidable.decide (@GT.gt Int _ (Nat.cast (@List.length SessionD (@TabA.l x37)) : Int) (@OneA.size x)) _)
 (@Eq Bool Bool.false Bool.true)
 ((∃ x39 : Nat,
 ((@Eq Int (0 : Int) (Nat.cast x39 : Int)) ∧
 (@Nat.le x39 (@List.length SessionD (@TabA.l x37))))) ∧
 (∀ x40 : Nat,
 ((@Nat.le x40 (@List.length SessionD (@TabA.l x37))) →
 ((@LE.le Nat _ (@HMul.hMul _ _ _ _ (@List.length SessionD (@TabA.l x37)) (112 : Nat)) room47) →
 (br (@Decidable.decide (@LT.lt Int _ (Nat.cast x40 : Int) (Nat.cast (@List.length SessionD (@TabA.l x37)) : Int)) _)
 ((∃ x41 : Nat,
 ((@Eq Int (0 : Int) (Nat.cast x41 : Int)) ∧
 (@Eq Bool (@Decidable.decide (@LE.le Int _ (Nat.cast x41 : Int) (Nat.cast x40 : Int)) _) Bool.true))) ∧
 (∀ x42 : Nat,
 ((@Eq Bool (@Decidable.decide (@LE.le Int _ (Nat.cast x42 : Int) (Nat.cast x40 : Int)) _) Bool.true) →
 (br (@Decidable.decide (@LT.lt Int _ (Nat.cast x42 : Int) (Nat.cast x40 : Int)) _)
 (br (@Decidable.decide ((@LE.le Int _ (0 : Int) (Nat.cast x40 : Int)) ∧
 (@LT.lt Int _ (Nat.cast x40 : Int) (Nat.cast (@List.length SessionD (@TabA.l x37)) : Int))) _)
 (br (@Decidable.decide (@LT.lt Nat _ (@HAdd.hAdd _ _ _ _ (0 : Nat) (@Int.toNat (Nat.cast x40 : Int))) (@List.length SessionD (@TabA.l x37))) _)
 (br (@Decidable.decide ((@LE.le Int _ (0 : Int) (Nat.cast x42 : Int)) ∧
 (@LT.lt Int _ (Nat.cast x42 : Int) (Nat.cast (@List.length SessionD (@TabA.l x37)) : Int))) _)
 (br (@Decidable.decide (@LT.lt Nat _ (@HAdd.hAdd _ _ _ _ (0 : Nat) (@Int.toNat (Nat.cast x42 : Int))) (@List.length SessionD (@TabA.l x37))) _)
 (br (@BEq.beq Int _ (@SessionD.id (@List.getD SessionD (@TabA.l x37) (@HAdd.hAdd _ _ _ _ (0 : Nat) (@Int.toNat (Nat.cast x40 : Int))) (@SessionD.mk (0 : Int) (0 : Int) (@List.nil UInt8) VerdictD.dflt))) (@SessionD.id (@List.getD SessionD (@TabA.l x37) (@HAdd.hAdd _ _ _ _ (0 : Nat) (@Int.toNat (Nat.cast x42 : Int))) (@SessionD.mk (0 : Int) (0 : Int) (@List.nil UInt8) VerdictD.dflt))))
 (@Eq Bool Bool.false Bool.true)
 (br (@Decidable.decide ((@LE.le Int _ (0 : Int) (Nat.cast x40 : Int)) ∧
 (@LT.lt Int _ (Nat.cast x40 : Int) (Nat.cast (@List.length SessionD (@TabA.l x37)) : Int))) _)
 (br (@Decidable.decide (@LT.lt Nat _ (@HAdd.hAdd _ _ _ _ (0 : Nat) (@Int.toNat (Nat.cast x40 : Int))) (@List.length SessionD (@TabA.l x37))) _)
 (br (@Decidable.decide ((@LE.le Int _ (0 : Int) (Nat.cast x42 : Int)) ∧
 (@LT.lt Int _ (Nat.cast x42 : Int) (Nat.cast (@List.length SessionD (@TabA.l x37)) : Int))) _)
 (br (@Decidable.decide (@LT.lt Nat _ (@HAdd.hAdd _ _ _ _ (0 : Nat) (@Int.toNat (Nat.cast x42 : Int))) (@List.length SessionD (@TabA.l x37))) _)
 (br (@BEq.beq Bs _ (@SessionD.name (@List.getD SessionD (@TabA.l x37) (@HAdd.hAdd _ _ _ _ (0 : Nat) (@Int.toNat (Nat.cast x40 : Int))) (@SessionD.mk (0 : Int) (0 : Int) (@List.nil UInt8) VerdictD.dflt))) (@SessionD.name (@List.getD SessionD (@TabA.l x37) (@HAdd.hAdd _ _ _ _ (0 : Nat) (@Int.toNat (Nat.cast x42 : Int))) (@SessionD.mk (0 : Int) (0 : Int) (@List.nil UInt8) VerdictD.dflt))))
 (@Eq Bool Bool.false Bool.true)
 (∃ x43 : Nat,
 ((@Eq Int (@Go.IntKind.wrap Go.IntKind.i64 (@HAdd.hAdd Int Int Int _ (Nat.cast x42 : Int) (1 : Int))) (Nat.cast x43 : Int)) ∧
 ((@Eq Bool (@Decidable.decide (@LE.le Int _ (Nat.cast x43 : Int) (Nat.cast x40 : Int)) _) Bool.true) ∧
 (@LT.lt Nat _ (@Nat.sub (@Int.toNat (Nat.cast x40 : Int)) x43) (@Nat.sub (@Int.toNat (Nat.cast x40 : Int)) x42))))))
 (Bad "check" "law.go:244"))
 (Bad "check" "law.go:244"))
 (Bad "check" "law.go:244"))
 (Bad "check" "law.go:244")))
 (Bad "check" "law.go:244"))
 (Bad "check" "law.go:244"))
 (Bad "check" "law.go:244"))
 (Bad "check" "law.go:244"))
 (∃ x44 : Nat,
 ((@Eq Int (@Go.IntKind.wrap Go.IntKind.i64 (@HAdd.hAdd Int Int Int _ (Nat.cast x40 : Int) (1 : Int))) (Nat.cast x44 : Int)) ∧
 ((@Nat.le x44 (@List.length SessionD (@TabA.l x37))) ∧
 (@LT.lt Nat _ (@Nat.sub (@List.length SessionD (@TabA.l x37)) x44) (@Nat.sub (@List.length SessionD (@TabA.l x37)) x40)))))))))
 (∃ x45 : OneS,
 ((@Eq Int (@Go.IntKind.wrap Go.IntKind.i64 (@HAdd.hAdd Int Int Int _ (Nat.cast (@OneS.i x6) : Int) (1 : Int))) (Nat.cast (@OneS.i x45) : Int)) ∧
 ((@Eq Int (@TabA.size x37) (@OneA.size x)) ∧
 ((@Eq Nat (0 : Nat) (0 : Nat)) ∧
 ((@Eq Nat (@List.length SessionD (@TabA.l x37)) (@List.length SessionD (@OneS.l x45))) ∧
 ((@Eq (@List SessionD) (@TabA.l x37) (@OneS.l x45)) ∧
 (((@LE.le Nat _ (@OneS.i x45) (@List.length Deed6D (@OneA.l x))) ∧
 (@OneI (@OneA.size x) (@OneS.l x45))) ∧
 (@LT.lt Nat _ (@Nat.sub (@List.length Deed6D (@OneA.l x)) (@OneS.i x45)) (@Nat.sub (@List.length Deed6D (@OneA.l x)) (@OneS.i x6))))))))))))))))))))))))))))))))))))))))))))))))))))
 (Bad "check" "law.go:220"))
 (@Eq Bool Bool.true Bool.true))))))))))))))))))) := by kernel_rfl

end Go.Proofs.Ytnkhnogdiphboaa.Ses

/-! the plain law of SessionOne -/
namespace Go.Proofs.Ytnkhnogdiphboaa.Ses
open Go Go.Proofs Go.Proofs.Ytnkhnogdiphboaa.Sx

theorem dif_symm {a b : SessionD} (h : Dif a b) : Dif b a := ⟨fun e => h.1 e.symm, fun e => h.2 e.symm⟩

theorem split_at {l : List SessionD} {i : Int} (h : 0 ≤ i ∧ i < l.length) : ∃ A x B, l = A ++ x :: B ∧ (A.length : Int) = i ∧ outL l i = A ++ B ∧ atL l i = x := by
  have hi : i.toNat < l.length := by omega
  refine ⟨l.take i.toNat, l[i.toNat], l.drop (i.toNat + 1), ?_, ?_, rfl, ?_⟩
  · simp
  · simp; omega
  · simp [atL, hi]

theorem idxF_get {p : SessionD → Bool} : ∀ {l : List SessionD}, 0 ≤ idxF p l → p (atL l (idxF p l)) = true
  | [], h => by simp [idxF] at h
  | x :: r, h => by
    cases hx : p x
    · have hi : idxF p (x :: r) = idxF p r + 1 ∧ 0 ≤ idxF p r := by
        simp only [idxF, hx, cond_false] at h ⊢
        by_cases h0 : idxF p r < 0
        · simp [h0] at h
        · simp [h0]; omega
      rw [hi.1]
      have := idxF_get hi.2
      have e : (idxF p r + 1).toNat = (idxF p r).toNat + 1 := by omega
      simpa [atL, e] using this
    · have hi : idxF p (x :: r) = 0 := by simp [idxF, hx]
      rw [hi]
      simpa [atL] using hx

theorem idxF_neg {p : SessionD → Bool} : ∀ {l : List SessionD}, idxF p l < 0 → ∀ x, x ∈ l → p x = false
  | [], _, x, hx => by cases hx
  | y :: r, h, x, hx => by
    cases hy : p y
    · have h0 : idxF p r < 0 := by
        simp only [idxF, hy, cond_false] at h
        by_cases h0 : idxF p r < 0
        · exact h0
        · simp [h0] at h; omega
      rcases List.mem_cons.1 hx with rfl | hx
      · exact hy
      · exact idxF_neg h0 x hx
    · simp [idxF, hy] at h

theorem used_perm {l : List SessionD} {i : Int} (h : 0 ≤ i ∧ i < l.length) : (usedL l i).Perm l := by
  obtain ⟨A, x, B, e, _, ho, ha⟩ := split_at h
  unfold usedL
  rw [ho, ha, e]
  simp only [List.append_assoc]
  exact List.Perm.append_left A (List.perm_append_comm (l₁ := B) (l₂ := [x]))

theorem one_used {size : Int} {l : List SessionD} {i : Int} (h : 0 ≤ i ∧ i < l.length) (hI : OneI size l) : OneI size (usedL l i) :=
  ⟨by rw [usedL_length h]; exact hI.1, ((used_perm h).pairwise_iff (fun {a b} h => dif_symm h)).2 hI.2⟩

theorem out_sub (l : List SessionD) (i : Int) : (outL l i).Sublist l := by
  unfold outL
  have : l = l.take i.toNat ++ l.drop i.toNat := by simp
  conv => rhs; rw [this]
  refine (List.Sublist.refl _).append ?_
  exact List.drop_sublist_drop_left l (by omega)

theorem one_open {size : Int} {l : List SessionD} {name : Bs} {id : Int} (h0 : 0 < size) (hI : OneI size l) : OneI size (openL ⟨size, l, name, id⟩).2 := by
  have b1 := idxF_lt (nameIs name) l
  have b2 := idxF_lt (idIs id) l
  by_cases hi : idxF (nameIs name) l < 0
  · have hn := idxF_neg hi
    -- without the session of that number
    have h1 : ∃ l1 : List SessionD, l1 = (bif decide (idxF (idIs id) l < 0) then l else outL l (idxF (idIs id) l)) ∧ l1.Sublist l ∧ ∀ x, x ∈ l1 → x.id ≠ id := by
      by_cases hj : idxF (idIs id) l < 0
      · refine ⟨l, by simp [hj], List.Sublist.refl _, fun x hx => ?_⟩
        have := idxF_neg hj x hx
        simpa [idIs] using this
      · refine ⟨outL l (idxF (idIs id) l), by simp [hj], out_sub _ _, fun x hx => ?_⟩
        obtain ⟨A, y, B, e, _, ho, ha⟩ := split_at (l := l) (i := idxF (idIs id) l) (by omega)
        have hy : idIs id y = true := by rw [← ha]; exact idxF_get (by omega)
        have hy : y.id = id := by simpa [idIs] using hy
        rw [ho] at hx
        have hp := hI.2
        rw [e] at hp
        have hp := List.pairwise_append.1 hp
        rcases List.mem_append.1 hx with hx | hx
        · have := (hp.2.2 x hx y (by simp)).1
          rw [hy] at this; exact this
        · have := ((List.pairwise_cons.1 hp.2.1).1 x hx).1
          rw [hy] at this; exact fun e => this e.symm
    obtain ⟨l1, e1, s1, n1⟩ := h1
    have h2 : ∃ l2 : List SessionD, l2 = (bif decide ((l1.length : Int) = size) then outL l1 0 else l1) ∧ l2.Sublist l1 ∧ (l2.length : Int) + 1 ≤ size := by
      have hl := s1.length_le
      have := hI.1
      by_cases hf : (l1.length : Int) = size
      · refine ⟨outL l1 0, by simp [hf], out_sub _ _, ?_⟩
        rw [outL_length (by omega)]
        omega
      · exact ⟨l1, by simp [hf], List.Sublist.refl _, by omega⟩
    obtain ⟨l2, e2, s2, n2⟩ := h2
    have he : (openL ⟨size, l, name, id⟩).2 = l2 ++ [⟨id, 0, name, .dflt⟩] := by
      unfold openL
      dsimp only
      rw [decide_eq_true hi, cond_true, ← e1, ← e2]
    rw [he]
    refine ⟨by simp; omega, ?_⟩
    rw [List.pairwise_append]
    refine ⟨hI.2.sublist (s2.trans s1), by simp, fun a ha b hb => ?_⟩
    simp at hb
    subst hb
    refine ⟨n1 a (s2.subset ha), ?_⟩
    have := hn a (s1.subset (s2.subset ha))
    simpa [nameIs] using this
  · have he : (openL ⟨size, l, name, id⟩).2 = usedL l (idxF (nameIs name) l) := by
      unfold openL
      dsimp only
      rw [decide_eq_false hi, cond_false]
    rw [he]
    exact one_used (by omega) hI

theorem wasL_no {name : Bs} : ∀ {l : List SessionD} {id : Int}, (∀ x, x ∈ l → nameIs name x = false) → wasL name id l = id
  | [], _, _ => rfl
  | x :: r, id, h => by
    have h0 := h x (by simp)
    unfold wasL
    rw [List.foldl_cons, show (x.name == name) = false from h0, cond_false]
    exact wasL_no (id := id) (fun y hy => h y (by simp [hy]))

theorem one_was {size : Int} {l : List SessionD} {name : Bs} {id : Int} (hI : OneI size l) : (openL ⟨size, l, name, id⟩).1 = wasL name id l := by
  have b1 := idxF_lt (nameIs name) l
  by_cases hi : idxF (nameIs name) l < 0
  · rw [wasL_no (id := id) (idxF_neg hi)]
    unfold openL
    dsimp only
    rw [decide_eq_true hi, cond_true]
  · obtain ⟨A, y, B, e, _, _, ha⟩ := split_at (l := l) (i := idxF (nameIs name) l) (by omega)
    have hy : nameIs name y = true := by rw [← ha]; exact idxF_get (by omega)
    have hy' : y.name = name := by simpa [nameIs] using hy
    have hp := hI.2
    rw [e] at hp
    have hp := List.pairwise_append.1 hp
    have hA : ∀ x, x ∈ A → nameIs name x = false := fun x hx => by
      have := (hp.2.2 x hx y (by simp)).2
      rw [hy'] at this
      simpa [nameIs] using this
    have hB : ∀ x, x ∈ B → nameIs name x = false := fun x hx => by
      have := ((List.pairwise_cons.1 hp.2.1).1 x hx).2
      rw [hy'] at this
      simpa [nameIs] using fun e => this e.symm
    have hw : wasL name id l = y.id := by
      rw [e]
      have h1 : wasL name id (A ++ y :: B) = wasL name y.id B := by
        have hAid := wasL_no (id := id) hA
        unfold wasL at hAid ⊢
        rw [List.foldl_append, List.foldl_cons]
        rw [show (y.name == name) = true from hy, cond_true]
      rw [h1]; exact wasL_no hB
    rw [hw, ← ha]
    unfold openL
    dsimp only
    rw [decide_eq_false hi, cond_false]

theorem one_ask {size id seq : Int} {l : List SessionD} (hI : OneI size l) : OneI size (askL ⟨size, l, id, seq⟩).2 := by
  have b1 := idxF_lt (idIs id) l
  by_cases hi : idxF (idIs id) l < 0
  · have : (askL ⟨size, l, id, seq⟩).2 = l := by unfold askL; dsimp only; rw [decide_eq_true hi, cond_true]
    rw [this]; exact hI
  · have : (askL ⟨size, l, id, seq⟩).2 = usedL l (idxF (idIs id) l) := by unfold askL; dsimp only; rw [decide_eq_false hi, cond_false]
    rw [this]; exact one_used (by omega) hI

theorem one_done {size id seq : Int} {l : List SessionD} {v : VerdictD} (hI : OneI size l) : OneI size (doneL ⟨size, l, id, seq, v⟩).2 := by
  have b1 := idxF_lt (idIs id) l
  by_cases hc : (decide (idxF (idIs id) l < 0) || decide (seq ≤ (atL l (idxF (idIs id) l)).seq)) = true
  · have : (doneL ⟨size, l, id, seq, v⟩).2 = l := by unfold doneL; dsimp only; rw [hc, cond_true]
    rw [this]; exact hI
  · have hc : (decide (idxF (idIs id) l < 0) || decide (seq ≤ (atL l (idxF (idIs id) l)).seq)) = false := by simpa using hc
    have hi : ¬ idxF (idIs id) l < 0 := by simp at hc; omega
    obtain ⟨A, y, B, e, hlen, _, ha⟩ := split_at (l := l) (i := idxF (idIs id) l) (by omega)
    have : (doneL ⟨size, l, id, seq, v⟩).2 = A ++ ⟨y.id, seq, y.name, v⟩ :: B := by
      have h1 : (doneL ⟨size, l, id, seq, v⟩).2 = l.set (idxF (idIs id) l).toNat ⟨(atL l (idxF (idIs id) l)).id, seq, (atL l (idxF (idIs id) l)).name, v⟩ := by
        unfold doneL; dsimp only; rw [hc, cond_false]
      rw [h1, ha]
      have : (idxF (idIs id) l).toNat = A.length := by omega
      rw [this, e]
      simp
    rw [this]
    obtain ⟨hl, hp⟩ := hI
    rw [e] at hl hp
    refine ⟨by simpa using hl, ?_⟩
    rw [List.pairwise_append] at hp ⊢
    refine ⟨hp.1, ?_, fun a h1 b h2 => ?_⟩
    · rw [List.pairwise_cons] at hp ⊢
      exact ⟨fun b hb => hp.2.1.1 b hb, hp.2.1.2⟩
    · rcases List.mem_cons.1 h2 with rfl | h2
      · exact hp.2.2 a h1 y (by simp)
      · exact hp.2.2 a h1 b (by simp [h2])

theorem one_first {size : Int} (h : 0 < size) : OneI size [] := ⟨by simp; omega, by simp⟩

/-- no two are alike -/
theorem one_two {size : Int} {l : List SessionD} (hI : OneI size l) {j k : Nat} (hj : j < k) (hk : k < l.length) {d : SessionD} : (l.getD k d).id ≠ (l.getD j d).id ∧ (l.getD k d).name ≠ (l.getD j d).name := by
  have := List.pairwise_iff_getElem.1 hI.2 j k (by omega) hk hj
  have h1 : l.getD k d = l[k] := by simp [hk]
  have h2 : l.getD j d = l[j]'(by omega) := by simp [show j < l.length by omega]
  rw [h1, h2]
  exact dif_symm this

theorem wasL_take {name : Bs} {id : Int} {l : List SessionD} {k : Nat} (hk : k < l.length) {d : SessionD} : wasL name id (l.take (k + 1)) = bif (l.getD k d).name == name then (l.getD k d).id else wasL name id (l.take k) := by
  have h1 : l.getD k d = l[k] := by simp [hk]
  have h2 : l.take (k + 1) = l.take k ++ [l[k]] := by simp
  rw [h1, h2]
  unfold wasL
  rw [List.foldl_append]
  rfl
end Go.Proofs.Ytnkhnogdiphboaa.Ses

namespace Go.Proofs.Ytnkhnogdiphboaa.Ses
open Go Go.Proofs Go.Proofs.Ytnkhnogdiphboaa.Sx

theorem room_ok : SpecOK Try.prog 16 roomT.spec := by
  refine Tri.ok (E := roomE) (Env_ok (by decide +kernel) (by simp)) (n := 1000) roomT fun x hx => ?_
  rw [room_vc]
  clear hx
  revert x
  intro (l : List Deed6D)
  simp only [br_bad, decide_eq_true_eq, Bool.and_eq_true, List.take_zero, List.nil_append, List.drop_zero, Nat.zero_add, Int.toNat_natCast, Nat.sub_eq, true_and, and_true, exists_const, List.length_nil, Nat.zero_le, Nat.zero_mul, Nat.le_refl, List.length_set, List.take_length, Int.natCast_nonneg, forall_const, implies_true, Int.toNat_zero, Nat.le_eq, Int.le_refl, addN, cutN, loN, hiN, bndB, Option.getD, List.length_cons, List.take_succ_cons, List.length_take, List.length_drop, Option.isNone, Nat.add_zero, Nat.min_self]
  simp only [br_iff, decide_eq_true_eq, decide_eq_false_iff_not, room47, Bool.not_eq_true', Bool.not_eq_false', gt_iff_lt]
  intro b
  exact ⟨fun _ => ⟨_, rfl⟩, fun _ => ⟨⟨0, rfl, by omega⟩, fun i hi _ => ⟨fun h => ⟨h, fun _ => ⟨fun _ => ⟨_, rfl⟩, fun _ => ⟨h, fun _ => ⟨fun _ => ⟨_, rfl⟩, fun _ => ⟨h, fun _ => ⟨fun _ => ⟨_, rfl⟩, fun _ => ⟨i + 1, by rw [wrap_id (by omega) (by omega)]; rfl, by omega, by omega⟩⟩⟩⟩⟩⟩⟩, fun _ => ⟨_, rfl⟩⟩⟩⟩

theorem one_body (x : OneA) : evCall oneE (ev oneE 1000) 5 (oneArgs x) ⟨[], 0, []⟩ (fun _ _ => False) (fun v _ => TrueV v) := by
  rw [one_vc]
  simp only [br_bad, decide_eq_true_eq, Bool.and_eq_true, List.take_zero, List.nil_append, List.drop_zero, Nat.zero_add, Int.toNat_natCast, Nat.sub_eq, true_and, and_true, exists_const, List.length_nil, Nat.zero_le, Nat.zero_mul, Nat.le_refl, List.length_set, List.take_length, Int.natCast_nonneg, forall_const, implies_true, Int.toNat_zero, Nat.le_eq, Int.le_refl, addN, cutN, loN, hiN, bndB, Option.getD, List.length_cons, List.take_succ_cons, List.length_take, List.length_drop, Option.isNone, Nat.add_zero, Nat.min_self]
  simp only [br_iff, decide_eq_true_eq, decide_eq_false_iff_not, room47, Bool.not_eq_true', Bool.not_eq_false', gt_iff_lt]
  obtain ⟨size, l⟩ := x
  dsimp only
  refine ⟨l, rfl, fun r => ⟨fun _ => trivial, fun _ => ⟨fun _ => trivial, fun g1 => ⟨fun _ => trivial, fun g2 => ⟨⟨⟨0, []⟩, rfl, rfl, rfl, by simp, ?_⟩, ?_⟩⟩⟩⟩⟩
  · exact one_first (by omega)
  rintro ⟨i, L⟩ ⟨h1, hI⟩ b1
  dsimp only at h1 hI ⊢
  have hlen := hI.1
  generalize hd : l.getD i ⟨0, 0, 0, [], .dflt⟩ = d
  refine ⟨fun h2 => ⟨h2, ⟨size, L⟩, rfl, rfl, rfl, by dsimp only; omega, fun h3 => ⟨⟨0, rfl, rfl, by simp⟩, fun k hk b2 => ⟨fun h4 => ⟨h4, ?_, fun h5 => ⟨h4, ?_, k + 1, ?_, ?_, ?_, ?_⟩, fun h5 => ⟨k + 1, ?_, ?_, ?_, ?_⟩⟩, fun h4 => ?_⟩⟩, fun h3 => ⟨fun h4 => ?_, fun h4 => ?_⟩⟩, fun _ => trivial⟩ <;> try dsimp only at *
  · omega
  · omega
  · rw [wrap_id (by omega) (by omega)]; rfl
  · rw [wasL_take (k := k) (by omega) (d := ⟨0, 0, [], .dflt⟩), h5, cond_true]
  · omega
  · omega
  · rw [wrap_id (by omega) (by omega)]; rfl
  · rw [wasL_take (k := k) (by omega) (d := ⟨0, 0, [], .dflt⟩), h5, cond_false]
  · omega
  · omega
  · have hk' : L.take k = L := List.take_of_length_le (by omega)
    rw [hk']
    refine ⟨⟨size, L, d.name, d.id⟩, rfl, rfl, rfl, rfl, rfl, ⟨by dsimp only; omega, by dsimp only; omega⟩, fun h5 => ?_, fun h5 => ?_⟩ <;> try dsimp only at *
    · rw [one_was hI] at h5
      simp at h5
    · have hO := one_open (name := d.name) (id := d.id) (by omega) hI
      have hl := hO.1
      refine ⟨⟨size, (openL ⟨size, L, d.name, d.id⟩).2⟩, rfl, rfl, rfl, by dsimp only; omega, fun t1 => ⟨fun t2 => ?_, fun t2 => ⟨⟨0, rfl, by simp⟩, fun k hk _ => ⟨fun t3 => ⟨⟨0, rfl, by simp⟩, fun j hj => ⟨fun t4 => ⟨t3, ?_, ?_, ?_, fun t5 => ?_, fun t5 => ⟨t3, ?_, ?_, ?_, fun t6 => ?_, fun t6 => ⟨j + 1, ?_, ?_, ?_⟩⟩⟩, fun t4 => ⟨k + 1, ?_, ?_, ?_⟩⟩⟩, fun t3 => ⟨⟨i + 1, (openL ⟨size, L, d.name, d.id⟩).2⟩, ?_, rfl, rfl, rfl, ⟨?_, hO⟩, ?_⟩⟩⟩⟩⟩ <;> try dsimp only at *
      · omega
      · omega
      · omega
      · omega
      · exact absurd (by simpa using t5) (one_two hO (j := j) (k := k) (by omega) (by omega)).1
      · omega
      · omega
      · omega
      · exact absurd (by simpa using t6) (one_two hO (j := j) (k := k) (by omega) (by omega)).2
      · rw [wrap_id (by omega) (by omega)]; rfl
      · omega
      · omega
      · rw [wrap_id (by omega) (by omega)]; rfl
      · omega
      · omega
      · rw [wrap_id (by omega) (by omega)]; rfl
      · omega
      · omega
  · refine ⟨⟨size, L, d.id, d.seq⟩, rfl, rfl, rfl, rfl, rfl, ⟨by dsimp only; omega, by dsimp only; omega⟩, ?_⟩
    try dsimp only at *
    have hO := one_ask (id := d.id) (seq := d.seq) hI
    have hl := hO.1
    refine ⟨⟨size, (askL ⟨size, L, d.id, d.seq⟩).2⟩, rfl, rfl, rfl, by dsimp only; omega, fun t1 => ⟨fun t2 => ?_, fun t2 => ⟨⟨0, rfl, by simp⟩, fun k hk _ => ⟨fun t3 => ⟨⟨0, rfl, by simp⟩, fun j hj => ⟨fun t4 => ⟨t3, ?_, ?_, ?_, fun t5 => ?_, fun t5 => ⟨t3, ?_, ?_, ?_, fun t6 => ?_, fun t6 => ⟨j + 1, ?_, ?_, ?_⟩⟩⟩, fun t4 => ⟨k + 1, ?_, ?_, ?_⟩⟩⟩, fun t3 => ⟨⟨i + 1, (askL ⟨size, L, d.id, d.seq⟩).2⟩, ?_, rfl, rfl, rfl, ⟨?_, hO⟩, ?_⟩⟩⟩⟩⟩ <;> try dsimp only at *
    · omega
    · omega
    · omega
    · omega
    · exact absurd (by simpa using t5) (one_two hO (j := j) (k := k) (by omega) (by omega)).1
    · omega
    · omega
    · omega
    · exact absurd (by simpa using t6) (one_two hO (j := j) (k := k) (by omega) (by omega)).2
    · rw [wrap_id (by omega) (by omega)]; rfl
    · omega
    · omega
    · rw [wrap_id (by omega) (by omega)]; rfl
    · omega
    · omega
    · rw [wrap_id (by omega) (by omega)]; rfl
    · omega
    · omega
  · refine ⟨⟨size, L, d.id, d.seq, d.v⟩, rfl, rfl, rfl, rfl, rfl, rfl, rfl, rfl, rfl, rfl, rfl, rfl, by dsimp only; omega, ?_⟩
    try dsimp only at *
    have hO := one_done (id := d.id) (seq := d.seq) (v := d.v) hI
    have hl := hO.1
    refine ⟨⟨size, (doneL ⟨size, L, d.id, d.seq, d.v⟩).2⟩, rfl, rfl, rfl, by dsimp only; omega, fun t1 => ⟨fun t2 => ?_, fun t2 => ⟨⟨0, rfl, by simp⟩, fun k hk _ => ⟨fun t3 => ⟨⟨0, rfl, by simp⟩, fun j hj => ⟨fun t4 => ⟨t3, ?_, ?_, ?_, fun t5 => ?_, fun t5 => ⟨t3, ?_, ?_, ?_, fun t6 => ?_, fun t6 => ⟨j + 1, ?_, ?_, ?_⟩⟩⟩, fun t4 => ⟨k + 1, ?_, ?_, ?_⟩⟩⟩, fun t3 => ⟨⟨i + 1, (doneL ⟨size, L, d.id, d.seq, d.v⟩).2⟩, ?_, rfl, rfl, rfl, ⟨?_, hO⟩, ?_⟩⟩⟩⟩⟩ <;> try dsimp only at *
    · omega
    · omega
    · omega
    · omega
    · exact absurd (by simpa using t5) (one_two hO (j := j) (k := k) (by omega) (by omega)).1
    · omega
    · omega
    · omega
    · exact absurd (by simpa using t6) (one_two hO (j := j) (k := k) (by omega) (by omega)).2
    · rw [wrap_id (by omega) (by omega)]; rfl
    · omega
    · omega
    · rw [wrap_id (by omega) (by omega)]; rfl
    · omega
    · omega
    · rw [wrap_id (by omega) (by omega)]; rfl
    · omega
    · omega

theorem one_env : EnvOK oneE := Env_ok (by decide +kernel) (by simp [awake_ok, open_ok, ask_ok, done_ok, room_ok, all_ok])
end Go.Proofs.Ytnkhnogdiphboaa.Ses
