/- Laws of graphs: what the evaluator leaves, and plain words. No condition. -/
import Derived.Test.YtildflamnehilaaGrcA
import Derived.KernelRfl
set_option linter.unusedSimpArgs false
set_option linter.unusedVariables false

namespace Go.Proofs.Ytildflamnehilaa.Ses
open Go Go.Proofs Go.Proofs.Ytildflamnehilaa.Sx Go.Proofs.Ytildflamnehilaa.Trx

noncomputable def glawS : List (Nat × CallSpec) := [(8, gawakeT.spec), (9, roomGT.spec), (10, rcheckT.spec), (11, gnewT.spec), (12, landT.spec), (13, gheadT.spec), (14, commitsT.spec), (15, rsortT.spec), (16, alikeT.spec), (17, legalT.spec), (18, gleavesT.spec), (19, readT.spec), (20, altSpec load1T load2T)]
/-- deeds, one behind the other: the graph's slot, the number's -/
noncomputable def goI (gs is : Nat) : St → LInv := fun s => match getE s.env 0, getE s.env gs with
  | .rslice _ .deed5 l, .mptr q _ => (match s.m.blks.get q with
    | some (.cells [.mslice _ n _ _, _, .mmap k]) => { σ := Nat, I := fun i => i ≤ l.length, μ := fun i => l.length - i, env := fun i => [(is, .int .i64 i)], blk := fun i => [(q, gcell (goC (l.take i)) s.m.next k), (s.m.next, .rows .commit (goC (l.take i))), (k, .kv (kvC (goC (l.take i))))], fresh := 1, drop := [n] }
    | _ => LInv.none)
  | _, _ => LInv.none

/-! ### conflicts -/

structure ConA where
  l : List Deed5D
  base : Int
  ch : List ChangeD
def conArgs (x : ConA) : List SV := [.rslice false .deed5 x.l, .int .i64 x.base, .rslice false .change x.ch]
/-- the last commit from a base on, up to a number, that changed a path -/
def hitC (C : List CommitD) (base : Int) (p : Bs) : Nat → Option Int
  | 0 => none
  | k + 1 => bif decide (base ≤ k) && hasP p (C.getD k ⟨0, 0, [], []⟩) then some (C.getD k ⟨0, 0, [], []⟩).rev else hitC C base p k
def wantV (C : List CommitD) (base : Int) : List ChangeD → VerdictD
  | [] => vC 2 ((C.length : Int) + 1) []
  | c :: r => match hitC C base c.path C.length with
    | some v => vC 3 v c.path
    | none => wantV C base r
def hitV (C : List CommitD) (base : Int) (p : Bs) (k : Nat) (w : VerdictD) : VerdictD := match hitC C base p k with
  | some v => vC 3 v p
  | none => w
def hitJ (c : CommitD) (p : Bs) (j : Nat) (w : VerdictD) : VerdictD := bif (c.changes.take j).any fun x => x.path == p then vC 3 c.rev p else w
structure KVer where
  k : Nat
  w : VerdictD
noncomputable def conI17 : St → LInv := fun s => match getE s.env 1, getE s.env 9, getE s.env 10, getE s.env 11 with
  | .int _ base, .rslice _ .commit C, .mslice _ n _ _, .mptr q _ => (match s.m.blks.get n with
    | some (.rows .change S) => { σ := KVer, I := fun x => x.k ≤ S.length ∧ x.w = wantV C base (S.drop (S.length - x.k)), μ := fun x => S.length - x.k, env := fun x => [(12, .int .i64 ((S.length : Int) - 1 - x.k))], blk := fun x => [(q, .cells x.w.enc)], fresh := 0, drop := [] }
    | _ => LInv.none)
  | _, _, _, _ => LInv.none
noncomputable def conI20 : St → LInv := fun s => match getE s.env 1, getE s.env 9, getE s.env 10, getE s.env 11, getE s.env 12 with
  | .int _ base, .rslice _ .commit C, .mslice _ n _ _, .mptr q _, .int _ i => (match s.m.blks.get n, s.m.blks.get q with
    | some (.rows .change S), some (.cells [.int _ a, .int _ b, .int _ c, .str d, .int _ e, .rslice _ .commit f, .int _ g]) => { σ := KVer, I := fun x => (base ≤ x.k ∧ x.k ≤ C.length) ∧ x.w = hitV C base (S.getD i.toNat ⟨[], false, 0⟩).path x.k ⟨a, b, c, d, e, f, g⟩, μ := fun x => C.length - x.k, env := fun x => [(13, .int .i64 x.k)], blk := fun x => [(q, .cells x.w.enc)], fresh := 0, drop := [] }
    | _, _ => LInv.none)
  | _, _, _, _, _ => LInv.none
noncomputable def conI23 : St → LInv := fun s => match getE s.env 9, getE s.env 10, getE s.env 11, getE s.env 12, getE s.env 13 with
  | .rslice _ .commit C, .mslice _ n _ _, .mptr q _, .int _ i, .int _ k => (match s.m.blks.get n, s.m.blks.get q with
    | some (.rows .change S), some (.cells [.int _ a, .int _ b, .int _ c, .str d, .int _ e, .rslice _ .commit f, .int _ g]) => { σ := KVer, I := fun x => x.k ≤ (C.getD k.toNat ⟨0, 0, [], []⟩).changes.length ∧ x.w = hitJ (C.getD k.toNat ⟨0, 0, [], []⟩) (S.getD i.toNat ⟨[], false, 0⟩).path x.k ⟨a, b, c, d, e, f, g⟩, μ := fun x => (C.getD k.toNat ⟨0, 0, [], []⟩).changes.length - x.k, env := fun x => [(14, .int .i64 x.k)], blk := fun x => [(q, .cells x.w.enc)], fresh := 0, drop := [] }
    | _, _ => LInv.none)
  | _, _, _, _, _ => LInv.none
noncomputable def conE : Envr := Env Try.prog cod glawS [(9, goI 7 8), (17, conI17), (20, conI20), (23, conI23)]

/-! ### legal -/

abbrev DeeL := List Deed5D
def deeArgs (l : DeeL) : List SV := [.rslice false .deed5 l]
def lastK (C : List CommitD) (p : Bs) (k : Nat) : Int := (hitC C 0 p k).getD 0
def lastJ (c : CommitD) (p : Bs) (j : Nat) (w : Int) : Int := bif (c.changes.take j).any fun x => x.path == p then c.rev else w
noncomputable def lglI17 : St → LInv := fun s => match getE s.env 6 with
  | .rslice _ .leaf L => { σ := Nat, I := fun i => i ≤ L.length, μ := fun i => L.length - i, env := fun i => [(7, .int .i64 i)], blk := fun _ => [], fresh := 0, drop := [] }
  | _ => LInv.none
noncomputable def lglI21 : St → LInv := fun s => match getE s.env 5, getE s.env 6, getE s.env 7 with
  | .rslice _ .commit C, .rslice _ .leaf L, .int _ i => { σ := Nat, I := fun k => k ≤ C.length, μ := fun k => C.length - k, env := fun k => [(9, .int .i64 k), (8, .int .i64 (lastK C (L.getD i.toNat ⟨[], 0, 0, false⟩).path k))], blk := fun _ => [], fresh := 0, drop := [] }
  | _, _, _ => LInv.none
noncomputable def lglI24 : St → LInv := fun s => match getE s.env 5, getE s.env 6, getE s.env 7, getE s.env 8, getE s.env 9 with
  | .rslice _ .commit C, .rslice _ .leaf L, .int _ i, .int _ w, .int _ k => { σ := Nat, I := fun j => j ≤ (C.getD k.toNat ⟨0, 0, [], []⟩).changes.length, μ := fun j => (C.getD k.toNat ⟨0, 0, [], []⟩).changes.length - j, env := fun j => [(10, .int .i64 j), (8, .int .i64 (lastJ (C.getD k.toNat ⟨0, 0, [], []⟩) (L.getD i.toNat ⟨[], 0, 0, false⟩).path j w))], blk := fun _ => [], fresh := 0, drop := [] }
  | _, _, _, _, _ => LInv.none
noncomputable def lglE : Envr := Env Try.prog cod glawS [(9, goI 3 4), (17, lglI17), (21, lglI21), (24, lglI24)]

/-! ### beginnings -/

structure PreA where
  l : List Deed5D
  n : Int
def preArgs (x : PreA) : List SV := [.rslice false .deed5 x.l, .int .i64 x.n]
def wasR (C : List CommitD) : List VerdictD := (List.range C.length).map fun n => readV ⟨C.take (n + 1), [97]⟩
noncomputable def preI10 : St → LInv := fun s => match getE s.env 0, getE s.env 5 with
  | .rslice _ .deed5 l, .mptr q _ => (match s.m.blks.get q with
    | some (.cells [.mslice _ n _ _, _, .mmap k]) => { σ := Nat, I := fun i => i ≤ l.length, μ := fun i => l.length - i, env := fun i => [(7, .int .i64 i), (6, .mslice .verdict (s.m.next + 1) 0 (wasR (goC (l.take i))).length)], blk := fun i => [(q, gcell (goC (l.take i)) s.m.next k), (s.m.next, .rows .commit (goC (l.take i))), (k, .kv (kvC (goC (l.take i)))), (s.m.next + 1, .rows .verdict (wasR (goC (l.take i))))], fresh := 2, drop := [n] }
    | _ => LInv.none)
  | _, _ => LInv.none
noncomputable def preE : Envr := Env Try.prog cod glawS [(10, preI10)]
end Go.Proofs.Ytildflamnehilaa.Ses

namespace Go.Proofs.Ytildflamnehilaa.Ses
open Go Go.Proofs Go.Proofs.Ytildflamnehilaa.Sx Go.Proofs.Ytildflamnehilaa.Trx
set_option maxRecDepth 100000

theorem con_vc (x : ConA) : evCall conE (ev conE 1000) 3 (conArgs x) ⟨[], 0, []⟩ (fun _ _ => False) (fun v _ => TrueV v) = (
(∃ x1 : Unit,
 (True ∧
 (∀ x2 : Unit,
 (True →
 (∃ x3 : (@List Deed5D),
 ((@Eq (@List Deed5D) (@ConA.l x) x3) ∧
 (True ∧
 (∀ x4 : Unit,
 (True →
 (br (@Bool.not (@roomG x3))
 (@Eq Bool Bool.true Bool.true)
 (∃ x5 : (@List Deed5D),
 ((@LE.le Nat _ (@HAdd.hAdd _ _ _ _ (0 : Nat) (1 : Nat)) (@List.length Deed5D (@List.cons Deed5D (@Deed5D.mk (0 : Int) (@Array.toList UInt8 (@ByteArray.data (@ByteArray.mk (@List.toArray UInt8 (@List.nil UInt8))))) (@ConA.ch x)) (@List.nil Deed5D)))) ∧
 ((@Eq (@List Deed5D) (@List.take Deed5D (1 : Nat) (@List.drop Deed5D (0 : Nat) (@List.cons Deed5D (@Deed5D.mk (0 : Int) (@Array.toList UInt8 (@ByteArray.data (@ByteArray.mk (@List.toArray UInt8 (@List.nil UInt8))))) (@ConA.ch x)) (@List.nil Deed5D)))) x5) ∧
 (True ∧
 (∀ x6 : Unit,
 (True →
 (br (@Bool.not (@roomG x5))
 (@Eq Bool Bool.true Bool.true)
 (∃ x7 : (@List ChangeD),
 ((@Eq (@List ChangeD) (@ConA.ch x) x7) ∧
 ((@Eq Bool (@shortC x7) Bool.true) ∧
 (∀ x8 : Unit,
 (True →
 (br (@bne Int _ (@chkC x7) (0 : Int))
 (@Eq Bool Bool.true Bool.true)
 (∃ x9 : Unit,
 (True ∧
 (∀ x10 : Unit,
 (True →
 ((∃ x11 : Nat,
 ((@Eq Int (0 : Int) (Nat.cast x11 : Int)) ∧
 ((@Eq Nat (0 : Nat) (0 : Nat)) ∧
 ((@Eq Nat (@List.length CommitD (@List.nil CommitD)) (@List.length CommitD (@goC (@List.take Deed5D x11 (@ConA.l x))))) ∧
 ((@Eq TreeD (@treeC (@List.nil CommitD)) (@treeC (@goC (@List.take Deed5D x11 (@ConA.l x))))) ∧
 ((@Eq (@List CommitD) (@List.nil CommitD) (@goC (@List.take Deed5D x11 (@ConA.l x)))) ∧
 ((@Eq (@List (@Prod Bs Int)) (@kvC (@List.nil CommitD)) (@kvC (@goC (@List.take Deed5D x11 (@ConA.l x))))) ∧
 (@Nat.le x11 (@List.length Deed5D (@ConA.l x)))))))))) ∧
 (∀ x12 : Nat,
 ((@Nat.le x12 (@List.length Deed5D (@ConA.l x))) →
 ((@LE.le Nat _ (@HMul.hMul _ _ _ _ (@List.length Deed5D (@ConA.l x)) (48 : Nat)) room47) →
 (br (@Decidable.decide (@LT.lt Int _ (Nat.cast x12 : Int) (Nat.cast (@List.length Deed5D (@ConA.l x)) : Int)) _)
 (br (@Decidable.decide ((@LE.le Int _ (0 : Int) (Nat.cast x12 : Int)) ∧
 (@LT.lt Int _ (Nat.cast x12 : Int) (Nat.cast (@List.length Deed5D (@ConA.l x)) : Int))) _)
 (br (@Decidable.decide ((@LE.le Int _ (0 : Int) (Nat.cast x12 : Int)) ∧
 (@LT.lt Int _ (Nat.cast x12 : Int) (Nat.cast (@List.length Deed5D (@ConA.l x)) : Int))) _)
 (br (@Decidable.decide ((@LE.le Int _ (0 : Int) (Nat.cast x12 : Int)) ∧
 (@LT.lt Int _ (Nat.cast x12 : Int) (Nat.cast (@List.length Deed5D (@ConA.l x)) : Int))) _)
 (∃ x13 : LandA,
 ((@Eq Int (@Deed5D.base (@List.getD Deed5D (@ConA.l x) (@Int.toNat (Nat.cast x12 : Int)) (@Deed5D.mk (0 : Int) (@List.nil UInt8) (@List.nil ChangeD)))) (@LandA.base x13)) ∧
 ((@Eq Bs (@Deed5D.ref (@List.getD Deed5D (@ConA.l x) (@Int.toNat (Nat.cast x12 : Int)) (@Deed5D.mk (0 : Int) (@List.nil UInt8) (@List.nil ChangeD)))) (@LandA.ref x13)) ∧
 ((@Eq (@List ChangeD) (@Deed5D.l (@List.getD Deed5D (@ConA.l x) (@Int.toNat (Nat.cast x12 : Int)) (@Deed5D.mk (0 : Int) (@List.nil UInt8) (@List.nil ChangeD)))) (@LandA.l x13)) ∧
 ((@Eq Nat (0 : Nat) (0 : Nat)) ∧
 ((@Eq Nat (@List.length CommitD (@goC (@List.take Deed5D x12 (@ConA.l x)))) (@List.length CommitD (@LandA.C x13))) ∧
 ((@Eq TreeD (@treeC (@goC (@List.take Deed5D x12 (@ConA.l x)))) (@treeC (@LandA.C x13))) ∧
 ((@Eq (@List CommitD) (@goC (@List.take Deed5D x12 (@ConA.l x))) (@LandA.C x13)) ∧
 ((@Eq (@List (@Prod Bs Int)) (@kvC (@goC (@List.take Deed5D x12 (@ConA.l x)))) (@kvC (@LandA.C x13))) ∧
 (((@Eq Bool (@fewG (@LandA.C x13)) Bool.true) ∧
 (@Eq Bool (@shortC (@LandA.l x13)) Bool.true)) ∧
 (∀ x14 : Unit,
 (True →
 (∃ x15 : Nat,
 ((@Eq Int (@Go.IntKind.wrap Go.IntKind.i64 (@HAdd.hAdd Int Int Int _ (Nat.cast x12 : Int) (1 : Int))) (Nat.cast x15 : Int)) ∧
 ((@Eq Nat (0 : Nat) (0 : Nat)) ∧
 ((@Eq Nat (@List.length CommitD (@landC x13)) (@List.length CommitD (@goC (@List.take Deed5D x15 (@ConA.l x))))) ∧
 ((@Eq TreeD (@treeC (@landC x13)) (@treeC (@goC (@List.take Deed5D x15 (@ConA.l x))))) ∧
 ((@Eq (@List CommitD) (@landC x13) (@goC (@List.take Deed5D x15 (@ConA.l x)))) ∧
 ((@Eq (@List (@Prod Bs Int)) (@kvC (@landC x13)) (@kvC (@goC (@List.take Deed5D x15 (@ConA.l x))))) ∧
 ((@Nat.le x15 (@List.length Deed5D (@ConA.l x))) ∧
 (@LT.lt Nat _ (@Nat.sub (@List.length Deed5D (@ConA.l x)) x15) (@Nat.sub (@List.length Deed5D (@ConA.l x)) x12))))))))))))))))))))))
 (Bad "check" "law.go:214"))
 (Bad "check" "law.go:214"))
 (Bad "check" "law.go:214"))
 (∃ x16 : (@List CommitD),
 ((@Eq Nat (0 : Nat) (0 : Nat)) ∧
 ((@Eq Nat (@List.length CommitD (@goC (@List.take Deed5D x12 (@ConA.l x)))) (@List.length CommitD x16)) ∧
 ((@Eq TreeD (@treeC (@goC (@List.take Deed5D x12 (@ConA.l x)))) (@treeC x16)) ∧
 ((@Eq (@List CommitD) (@goC (@List.take Deed5D x12 (@ConA.l x))) x16) ∧
 ((@Eq (@List (@Prod Bs Int)) (@kvC (@goC (@List.take Deed5D x12 (@ConA.l x)))) (@kvC x16)) ∧
 (True ∧
 (∀ x17 : Unit,
 (True →
 (br (@bne Int _ (@Go.IntKind.wrap Go.IntKind.i64 (@HAdd.hAdd Int Int Int _ (Nat.cast (@List.length CommitD x16) : Int) (1 : Int))) (0 : Int))
 (∃ x18 : (@List CommitD),
 ((@Eq Nat (0 : Nat) (0 : Nat)) ∧
 ((@Eq Nat (@List.length CommitD x16) (@List.length CommitD x18)) ∧
 ((@Eq TreeD (@treeC x16) (@treeC x18)) ∧
 ((@Eq (@List CommitD) x16 x18) ∧
 ((@Eq (@List (@Prod Bs Int)) (@kvC x16) (@kvC x18)) ∧
 (True ∧
 (∀ x19 : Unit,
 (True →
 (∃ x20 : (@List CommitD),
 ((@Eq Nat (0 : Nat) (0 : Nat)) ∧
 ((@Eq Nat (@List.length CommitD x18) (@List.length CommitD x20)) ∧
 ((@Eq TreeD (@treeC x18) (@treeC x20)) ∧
 ((@Eq (@List CommitD) x18 x20) ∧
 ((@Eq (@List (@Prod Bs Int)) (@kvC x18) (@kvC x20)) ∧
 (True ∧
 (∀ x21 : Unit,
 (True →
 (br (@bne Int _ (@Go.IntKind.wrap Go.IntKind.i64 (@HAdd.hAdd Int Int Int _ (Nat.cast (@List.length CommitD x20) : Int) (1 : Int))) (0 : Int))
 (∃ x22 : (@List CommitD),
 ((@Eq Nat (0 : Nat) (0 : Nat)) ∧
 ((@Eq Nat (@List.length CommitD x20) (@List.length CommitD x22)) ∧
 ((@Eq TreeD (@treeC x20) (@treeC x22)) ∧
 ((@Eq (@List CommitD) x20 x22) ∧
 ((@Eq (@List (@Prod Bs Int)) (@kvC x20) (@kvC x22)) ∧
 ((@Eq Bool (@fewG x22) Bool.true) ∧
 (∀ x23 : Unit,
 (True →
 (∃ x24 : (@List ChangeD),
 ((@Eq (@List ChangeD) (@ConA.ch x) x24) ∧
 (((@Eq Bool (@shortC x24) Bool.true) ∧
 (@Eq Bool (@fewX x24) Bool.true)) ∧
 (∀ x25 : Unit,
 (True →
 (∃ x26 : (@List CommitD),
 ((@Eq Nat (0 : Nat) (0 : Nat)) ∧
 ((@Eq Nat (@List.length CommitD x22) (@List.length CommitD x26)) ∧
 ((@Eq TreeD (@treeC x22) (@treeC x26)) ∧
 ((@Eq (@List CommitD) x22 x26) ∧
 ((@Eq (@List (@Prod Bs Int)) (@kvC x22) (@kvC x26)) ∧
 (True ∧
 (∀ x27 : Unit,
 (True →
 ((@LE.le Nat _ (@HMul.hMul _ _ _ _ (@List.length ChangeD x24) (32 : Nat)) room47) →
 ((∃ x28 : KVer,
 ((@Eq Int (@Go.IntKind.wrap Go.IntKind.i64 (@HSub.hSub Int Int Int _ (Nat.cast (@List.length ChangeD x24) : Int) (1 : Int))) (@HSub.hSub Int Int Int _ (@HSub.hSub Int Int Int _ (Nat.cast (@List.length ChangeD (@insS x24)) : Int) (1 : Int)) (Nat.cast (@KVer.k x28) : Int))) ∧
 ((@Eq Int (2 : Int) (@VerdictD.code (@KVer.w x28))) ∧
 ((@Eq Int (0 : Int) (@VerdictD.session (@KVer.w x28))) ∧
 ((@Eq Int (@Go.IntKind.wrap Go.IntKind.i64 (@HAdd.hAdd Int Int Int _ (Nat.cast (@List.length CommitD x26) : Int) (1 : Int))) (@VerdictD.rev (@KVer.w x28))) ∧
 ((@Eq Bs (@Array.toList UInt8 (@ByteArray.data (@ByteArray.mk (@List.toArray UInt8 (@List.nil UInt8))))) (@VerdictD.path (@KVer.w x28))) ∧
 ((@Eq Int (0 : Int) (@VerdictD.digest (@KVer.w x28))) ∧
 ((@Eq (@List CommitD) (@List.nil CommitD) (@VerdictD.commits (@KVer.w x28))) ∧
 ((@Eq Int (0 : Int) (@VerdictD.member (@KVer.w x28))) ∧
 ((@LE.le Nat _ (@KVer.k x28) (@List.length ChangeD (@insS x24))) ∧
 (@Eq VerdictD (@KVer.w x28) (@wantV x22 (@Int.tmod (@Go.IntKind.wrap Go.IntKind.i64 (@HAdd.hAdd Int Int Int _ (@Go.IntKind.wrap Go.IntKind.i64 (@HAdd.hAdd Int Int Int _ (@Int.tmod (@ConA.base x) (@Go.IntKind.wrap Go.IntKind.i64 (@HAdd.hAdd Int Int Int _ (Nat.cast (@List.length CommitD x16) : Int) (1 : Int)))) (Nat.cast (@List.length CommitD x18) : Int))) (1 : Int))) (@Go.IntKind.wrap Go.IntKind.i64 (@HAdd.hAdd Int Int Int _ (Nat.cast (@List.length CommitD x20) : Int) (1 : Int)))) (@List.drop ChangeD (@HSub.hSub Nat Nat Nat _ (@List.length ChangeD (@insS x24)) (@KVer.k x28)) (@insS x24)))))))))))))) ∧
 (∀ x29 : KVer,
 (((@LE.le Nat _ (@KVer.k x29) (@List.length ChangeD (@insS x24))) ∧
 (@Eq VerdictD (@KVer.w x29) (@wantV x22 (@Int.tmod (@Go.IntKind.wrap Go.IntKind.i64 (@HAdd.hAdd Int Int Int _ (@Go.IntKind.wrap Go.IntKind.i64 (@HAdd.hAdd Int Int Int _ (@Int.tmod (@ConA.base x) (@Go.IntKind.wrap Go.IntKind.i64 (@HAdd.hAdd Int Int Int _ (Nat.cast (@List.length CommitD x16) : Int) (1 : Int)))) (Nat.cast (@List.length CommitD x18) : Int))) (1 : Int))) (@Go.IntKind.wrap Go.IntKind.i64 (@HAdd.hAdd Int Int Int _ (Nat.cast (@List.length CommitD x20) : Int) (1 : Int)))) (@List.drop ChangeD (@HSub.hSub Nat Nat Nat _ (@List.length ChangeD (@insS x24)) (@KVer.k x29)) (@insS x24))))) →
 (br (@Decidable.decide (@GE.ge Int _ (@HSub.hSub Int Int Int _ (@HSub.hSub Int Int Int _ (Nat.cast (@List.length ChangeD (@insS x24)) : Int) (1 : Int)) (Nat.cast (@KVer.k x29) : Int)) (0 : Int)) _)
 ((∃ x30 : KVer,
 ((@Eq Int (@Int.tmod (@Go.IntKind.wrap Go.IntKind.i64 (@HAdd.hAdd Int Int Int _ (@Go.IntKind.wrap Go.IntKind.i64 (@HAdd.hAdd Int Int Int _ (@Int.tmod (@ConA.base x) (@Go.IntKind.wrap Go.IntKind.i64 (@HAdd.hAdd Int Int Int _ (Nat.cast (@List.length CommitD x16) : Int) (1 : Int)))) (Nat.cast (@List.length CommitD x18) : Int))) (1 : Int))) (@Go.IntKind.wrap Go.IntKind.i64 (@HAdd.hAdd Int Int Int _ (Nat.cast (@List.length CommitD x20) : Int) (1 : Int)))) (Nat.cast (@KVer.k x30) : Int)) ∧
 ((@Eq Int (@VerdictD.code (@KVer.w x29)) (@VerdictD.code (@KVer.w x30))) ∧
 ((@Eq Int (@VerdictD.session (@KVer.w x29)) (@VerdictD.session (@KVer.w x30))) ∧
 ((@Eq Int (@VerdictD.rev (@KVer.w x29)) (@VerdictD.rev (@KVer.w x30))) ∧
 ((@Eq Bs (@VerdictD.path (@KVer.w x29)) (@VerdictD.path (@KVer.w x30))) ∧
 ((@Eq Int (@VerdictD.digest (@KVer.w x29)) (@VerdictD.digest (@KVer.w x30))) ∧
 ((@Eq (@List CommitD) (@VerdictD.commits (@KVer.w x29)) (@VerdictD.commits (@KVer.w x30))) ∧
 ((@Eq Int (@VerdictD.member (@KVer.w x29)) (@VerdictD.member (@KVer.w x30))) ∧
 (((@LE.le Int _ (@Int.tmod (@Go.IntKind.wrap Go.IntKind.i64 (@HAdd.hAdd Int Int Int _ (@Go.IntKind.wrap Go.IntKind.i64 (@HAdd.hAdd Int Int Int _ (@Int.tmod (@ConA.base x) (@Go.IntKind.wrap Go.IntKind.i64 (@HAdd.hAdd Int Int Int _ (Nat.cast (@List.length CommitD x16) : Int) (1 : Int)))) (Nat.cast (@List.length CommitD x18) : Int))) (1 : Int))) (@Go.IntKind.wrap Go.IntKind.i64 (@HAdd.hAdd Int Int Int _ (Nat.cast (@List.length CommitD x20) : Int) (1 : Int)))) (Nat.cast (@KVer.k x30) : Int)) ∧
 (@LE.le Nat _ (@KVer.k x30) (@List.length CommitD x22))) ∧
 (@Eq VerdictD (@KVer.w x30) (@hitV x22 (@Int.tmod (@Go.IntKind.wrap Go.IntKind.i64 (@HAdd.hAdd Int Int Int _ (@Go.IntKind.wrap Go.IntKind.i64 (@HAdd.hAdd Int Int Int _ (@Int.tmod (@ConA.base x) (@Go.IntKind.wrap Go.IntKind.i64 (@HAdd.hAdd Int Int Int _ (Nat.cast (@List.length CommitD x16) : Int) (1 : Int)))) (Nat.cast (@List.length CommitD x18) : Int))) (1 : Int))) (@Go.IntKind.wrap Go.IntKind.i64 (@HAdd.hAdd Int Int Int _ (Nat.cast (@List.length CommitD x20) : Int) (1 : Int)))) (@ChangeD.path (@List.getD ChangeD (@insS x24) (@Int.toNat (@HSub.hSub Int Int Int _ (@HSub.hSub Int Int Int _ (Nat.cast (@List.length ChangeD (@insS x24)) : Int) (1 : Int)) (Nat.cast (@KVer.k x29) : Int))) (@ChangeD.mk (@List.nil UInt8) Bool.false (0 : Int)))) (@KVer.k x30) (@VerdictD.mk (@VerdictD.code (@KVer.w x29)) (@VerdictD.session (@KVer.w x29)) (@VerdictD.rev (@KVer.w x29)) (@VerdictD.path (@KVer.w x29)) (@VerdictD.digest (@KVer.w x29)) (@VerdictD.commits (@KVer.w x29)) (@VerdictD.member (@KVer.w x29))))))))))))))) ∧
 (∀ x31 : KVer,
 ((((@LE.le Int _ (@Int.tmod (@Go.IntKind.wrap Go.IntKind.i64 (@HAdd.hAdd Int Int Int _ (@Go.IntKind.wrap Go.IntKind.i64 (@HAdd.hAdd Int Int Int _ (@Int.tmod (@ConA.base x) (@Go.IntKind.wrap Go.IntKind.i64 (@HAdd.hAdd Int Int Int _ (Nat.cast (@List.length CommitD x16) : Int) (1 : Int)))) (Nat.cast (@List.length CommitD x18) : Int))) (1 : Int))) (@Go.IntKind.wrap Go.IntKind.i64 (@HAdd.hAdd Int Int Int _ (Nat.cast (@List.length CommitD x20) : Int) (1 : Int)))) (Nat.cast (@KVer.k x31) : Int)) ∧
 (@LE.le Nat _ (@KVer.k x31) (@List.length CommitD x22))) ∧
 (@Eq VerdictD (@KVer.w x31) (@hitV x22 (@Int.tmod (@Go.IntKind.wrap Go.IntKind.i64 (@HAdd.hAdd Int Int Int _ (@Go.IntKind.wrap Go.IntKind.i64 (@HAdd.hAdd Int Int Int _ (@Int.tmod (@ConA.base x) (@Go.IntKind.wrap Go.IntKind.i64 (@HAdd.hAdd Int Int Int _ (Nat.cast (@List.length CommitD x16) : Int) (1 : Int)))) (Nat.cast (@List.length CommitD x18) : Int))) (1 : Int))) (@Go.IntKind.wrap Go.IntKind.i64 (@HAdd.hAdd Int Int Int _ (Nat.cast (@List.length CommitD x20) : Int) (1 : Int)))) (@ChangeD.path (@List.getD ChangeD (@insS x24) (@Int.toNat (@HSub.hSub Int Int Int _ (@HSub.hSub Int Int Int _ (Nat.cast (@List.length ChangeD (@insS x24)) : Int) (1 : Int)) (Nat.cast (@KVer.k x29) : Int))) (@ChangeD.mk (@List.nil UInt8) Bool.false (0 : Int)))) (@KVer.k x31) (@VerdictD.mk (@VerdictD.code (@KVer.w x29)) (@VerdictD.session (@KVer.w x29)) (@VerdictD.rev (@KVer.w x29)) (@VerdictD.path (@KVer.w x29)) (@VerdictD.digest (@KVer.w x29)) (@VerdictD.commits (@KVer.w x29)) (@VerdictD.member (@KVer.w x29)))))) →
 ((@LE.le Nat _ (@HMul.hMul _ _ _ _ (@List.length CommitD x22) (56 : Nat)) room47) →
 (br (@Decidable.decide (@LT.lt Int _ (Nat.cast (@KVer.k x31) : Int) (Nat.cast (@List.length CommitD x22) : Int)) _)
 ((∃ x32 : KVer,
 ((@Eq Int (0 : Int) (Nat.cast (@KVer.k x32) : Int)) ∧
 ((@Eq Int (@VerdictD.code (@KVer.w x31)) (@VerdictD.code (@KVer.w x32))) ∧
 ((@Eq Int (@VerdictD.session (@KVer.w x31)) (@VerdictD.session (@KVer.w x32))) ∧
 ((@Eq Int (@VerdictD.rev (@KVer.w x31)) (@VerdictD.rev (@KVer.w x32))) ∧
 ((@Eq Bs (@VerdictD.path (@KVer.w x31)) (@VerdictD.path (@KVer.w x32))) ∧
 ((@Eq Int (@VerdictD.digest (@KVer.w x31)) (@VerdictD.digest (@KVer.w x32))) ∧
 ((@Eq (@List CommitD) (@VerdictD.commits (@KVer.w x31)) (@VerdictD.commits (@KVer.w x32))) ∧
 ((@Eq Int (@VerdictD.member (@KVer.w x31)) (@VerdictD.member (@KVer.w x32))) ∧
 ((@LE.le Nat _ (@KVer.k x32) (@List.length ChangeD (@CommitD.changes (@List.getD CommitD x22 (@Int.toNat (Nat.cast (@KVer.k x31) : Int)) (@CommitD.mk (0 : Int) (0 : Int) (@List.nil UInt8) (@List.nil ChangeD)))))) ∧
 (@Eq VerdictD (@KVer.w x32) (@hitJ (@List.getD CommitD x22 (@Int.toNat (Nat.cast (@KVer.k x31) : Int)) (@CommitD.mk (0 : Int) (0 : Int) (@List.nil UInt8) (@List.nil ChangeD))) (@ChangeD.path (@List.getD ChangeD (@insS x24) (@Int.toNat (@HSub.hSub Int Int Int _ (@HSub.hSub Int Int Int _ (Nat.cast (@List.length ChangeD (@insS x24)) : Int) (1 : Int)) (Nat.cast (@KVer.k x29) : Int))) (@ChangeD.mk (@List.nil UInt8) Bool.false (0 : Int)))) (@KVer.k x32) (@VerdictD.mk (@VerdictD.code (@KVer.w x31)) (@VerdictD.session (@KVer.w x31)) (@VerdictD.rev (@KVer.w x31)) (@VerdictD.path (@KVer.w x31)) (@VerdictD.digest (@KVer.w x31)) (@VerdictD.commits (@KVer.w x31)) (@VerdictD.member (@KVer.w x31))))))))))))))) ∧
 (∀ x33 : KVer,
 (((@LE.le Nat _ (@KVer.k x33) (@List.length ChangeD (@CommitD.changes (@List.getD CommitD x22 (@Int.toNat (Nat.cast (@KVer.k x31) : Int)) (@CommitD.mk (0 : Int) (0 : Int) (@List.nil UInt8) (@List.nil ChangeD)))))) ∧
 (@Eq VerdictD (@KVer.w x33) (@hitJ (@List.getD CommitD x22 (@Int.toNat (Nat.cast (@KVer.k x31) : Int)) (@CommitD.mk (0 : Int) (0 : Int) (@List.nil UInt8) (@List.nil ChangeD))) (@ChangeD.path (@List.getD ChangeD (@insS x24) (@Int.toNat (@HSub.hSub Int Int Int _ (@HSub.hSub Int Int Int _ (Nat.cast (@List.length ChangeD (@insS x24)) : Int) (1 : Int)) (Nat.cast (@KVer.k x29) : Int))) (@ChangeD.mk (@List.nil UInt8) Bool.false (0 : Int)))) (@KVer.k x33) (@VerdictD.mk (@VerdictD.code (@KVer.w x31)) (@VerdictD.session (@KVer.w x31)) (@VerdictD.rev (@KVer.w x31)) (@VerdictD.path (@KVer.w x31)) (@VerdictD.digest (@KVer.w x31)) (@VerdictD.commits (@KVer.w x31)) (@VerdictD.member (@KVer.w x31)))))) →
 (br (@Decidable.decide ((@LE.le Int _ (0 : Int) (Nat.cast (@KVer.k x31) : Int)) ∧
 (@LT.lt Int _ (Nat.cast (@KVer.k x31) : Int) (Nat.cast (@List.length CommitD x22) : Int))) _)
 ((@LE.le Nat _ (@HMul.hMul _ _ _ _ (@List.length ChangeD (@CommitD.changes (@List.getD CommitD x22 (@Int.toNat (Nat.cast (@KVer.k x31) : Int)) (@CommitD.mk (0 : Int) (0 : Int) (@List.nil UInt8) (@List.nil ChangeD))))) (32 : Nat)) room47) →
 (br (@Decidable.decide (@LT.lt Int _ (Nat.cast (@KVer.k x33) : Int) (Nat.cast (@List.length ChangeD (@CommitD.changes (@List.getD CommitD x22 (@Int.toNat (Nat.cast (@KVer.k x31) : Int)) (@CommitD.mk (0 : Int) (0 : Int) (@List.nil UInt8) (@List.nil ChangeD))))) : Int)) _)
 (br (@Decidable.decide ((@LE.le Int _ (0 : Int) (Nat.cast (@KVer.k x31) : Int)) ∧
 (@LT.lt Int _ (Nat.cast (@KVer.k x31) : Int) (Nat.cast (@List.length CommitD x22) : Int))) _)
 (br (@Decidable.decide ((@LE.le Int _ (0 : Int) (Nat.cast (@KVer.k x33) : Int)) ∧
 (@LT.lt Int _ (Nat.cast (@KVer.k x33) : Int) (Nat.cast (@List.length ChangeD (@CommitD.changes (@List.getD CommitD x22 (@Int.toNat (Nat.cast (@KVer.k x31) : Int)) (@CommitD.mk (0 : Int) (0 : Int) (@List.nil UInt8) (@List.nil ChangeD))))) : Int))) _)
 (br (@Decidable.decide ((@LE.le Int _ (0 : Int) (@HSub.hSub Int Int Int _ (@HSub.hSub Int Int Int _ (Nat.cast (@List.length ChangeD (@insS x24)) : Int) (1 : Int)) (Nat.cast (@KVer.k x29) : Int))) ∧
 (@LT.lt Int _ (@HSub.hSub Int Int Int _ (@HSub.hSub Int Int Int _ (Nat.cast (@List.length ChangeD (@insS x24)) : Int) (1 : Int)) (Nat.cast (@KVer.k x29) : Int)) (Nat.cast (@List.length ChangeD x24) : Int))) _)
 (br (@Decidable.decide (@LT.lt Nat _ (@HAdd.hAdd _ _ _ _ (0 : Nat) (@Int.toNat (@HSub.hSub Int Int Int _ (@HSub.hSub Int Int Int _ (Nat.cast (@List.length ChangeD (@insS x24)) : Int) (1 : Int)) (Nat.cast (@KVer.k x29) : Int)))) (@List.length ChangeD (@insS x24))) _)
 (br (@BEq.beq Bs _ (@ChangeD.path (@List.getD ChangeD (@CommitD.changes (@List.getD CommitD x22 (@Int.toNat (Nat.cast (@KVer.k x31) : Int)) (@CommitD.mk (0 : Int) (0 : Int) (@List.nil UInt8) (@List.nil ChangeD)))) (@Int.toNat (Nat.cast (@KVer.k x33) : Int)) (@ChangeD.mk (@List.nil UInt8) Bool.false (0 : Int)))) (@ChangeD.path (@List.getD ChangeD (@insS x24) (@HAdd.hAdd _ _ _ _ (0 : Nat) (@Int.toNat (@HSub.hSub Int Int Int _ (@HSub.hSub Int Int Int _ (Nat.cast (@List.length ChangeD (@insS x24)) : Int) (1 : Int)) (Nat.cast (@KVer.k x29) : Int)))) (@ChangeD.mk (@List.nil UInt8) Bool.false (0 : Int)))))
 (br (@Decidable.decide ((@LE.le Int _ (0 : Int) (@HSub.hSub Int Int Int _ (@HSub.hSub Int Int Int _ (Nat.cast (@List.length ChangeD (@insS x24)) : Int) (1 : Int)) (Nat.cast (@KVer.k x29) : Int))) ∧
 (@LT.lt Int _ (@HSub.hSub Int Int Int _ (@HSub.hSub Int Int Int _ (Nat.cast (@List.length ChangeD (@insS x24)) : Int) (1 : Int)) (Nat.cast (@KVer.k x29) : Int)) (Nat.cast (@List.length ChangeD x24) : Int))) _)
 (br (@Decidable.decide (@LT.lt Nat _ (@HAdd.hAdd _ _ _ _ (0 : Nat) (@Int.toNat (@HSub.hSub Int Int Int _ (@HSub.hSub Int Int Int _ (Nat.cast (@List.length ChangeD (@insS x24)) : Int) (1 : Int)) (Nat.cast (@KVer.k x29) : Int)))) (@List.length ChangeD (@insS x24))) _)
 (br (@Decidable.decide ((@LE.le Int _ (0 : Int) (Nat.cast (@KVer.k x31) : Int)) ∧
 (@LT.lt Int _ (Nat.cast (@KVer.k x31) : Int) (Nat.cast (@List.length CommitD x22) : Int))) _)
 (∃ x34 : KVer,
 ((@Eq Int (@Go.IntKind.wrap Go.IntKind.i64 (@HAdd.hAdd Int Int Int _ (Nat.cast (@KVer.k x33) : Int) (1 : Int))) (Nat.cast (@KVer.k x34) : Int)) ∧
 ((@Eq Int (3 : Int) (@VerdictD.code (@KVer.w x34))) ∧
 ((@Eq Int (0 : Int) (@VerdictD.session (@KVer.w x34))) ∧
 ((@Eq Int (@CommitD.rev (@List.getD CommitD x22 (@Int.toNat (Nat.cast (@KVer.k x31) : Int)) (@CommitD.mk (0 : Int) (0 : Int) (@List.nil UInt8) (@List.nil ChangeD)))) (@VerdictD.rev (@KVer.w x34))) ∧
 ((@Eq Bs (@ChangeD.path (@List.getD ChangeD (@insS x24) (@HAdd.hAdd _ _ _ _ (0 : Nat) (@Int.toNat (@HSub.hSub Int Int Int _ (@HSub.hSub Int Int Int _ (Nat.cast (@List.length ChangeD (@insS x24)) : Int) (1 : Int)) (Nat.cast (@KVer.k x29) : Int)))) (@ChangeD.mk (@List.nil UInt8) Bool.false (0 : Int)))) (@VerdictD.path (@KVer.w x34))) ∧
 ((@Eq Int (0 : Int) (@VerdictD.digest (@KVer.w x34))) ∧
 ((@Eq (@List CommitD) (@List.nil CommitD) (@VerdictD.commits (@KVer.w x34))) ∧
 ((@Eq Int (0 : Int) (@VerdictD.member (@KVer.w x34))) ∧
 (((@LE.le Nat _ (@KVer.k x34) (@List.length ChangeD (@CommitD.changes (@List.getD CommitD x22 (@Int.toNat (Nat.cast (@KVer.k x31) : Int)) (@CommitD.mk (0 : Int) (0 : Int) (@List.nil UInt8) (@List.nil ChangeD)))))) ∧
 (@Eq VerdictD (@KVer.w x34) (@hitJ (@List.getD CommitD x22 (@Int.toNat (Nat.cast (@KVer.k x31) : Int)) (@CommitD.mk (0 : Int) (0 : Int) (@List.nil UInt8) (@List.nil ChangeD))) (@ChangeD.path (@List.getD ChangeD (@insS x24) (@Int.toNat (@HSub.hSub Int Int Int _ (@HSub.hSub Int Int Int _ (Nat.cast (@List.length ChangeD (@insS x24)) : Int) (1 : Int)) (Nat.cast (@KVer.k x29) : Int))) (@ChangeD.mk (@List.nil UInt8) Bool.false (0 : Int)))) (@KVer.k x34) (@VerdictD.mk (@VerdictD.code (@KVer.w x31)) (@VerdictD.session (@KVer.w x31)) (@VerdictD.rev (@KVer.w x31)) (@VerdictD.path (@KVer.w x31)) (@VerdictD.digest (@KVer.w x31)) (@VerdictD.commits (@KVer.w x31)) (@VerdictD.member (@KVer.w x31)))))) ∧
 (@LT.lt Nat _ (@Nat.sub (@List.length ChangeD (@CommitD.changes (@List.getD CommitD x22 (@Int.toNat (Nat.cast (@KVer.k x31) : Int)) (@CommitD.mk (0 : Int) (0 : Int) (@List.nil UInt8) (@List.nil ChangeD))))) (@KVer.k x34)) (@Nat.sub (@List.length ChangeD (@CommitD.changes (@List.getD CommitD x22 (@Int.toNat (Nat.cast (@KVer.k x31) : Int)) (@CommitD.mk (0 : Int) (0 : Int) (@List.nil UInt8) (@List.nil ChangeD))))) (@KVer.k x33)))))))))))))
 (Bad "check" "law.go:224"))
 (Bad "check" "law.go:224"))
 (Bad "check" "law.go:224"))
 (∃ x35 : KVer,
 ((@Eq Int (@Go.IntKind.wrap Go.IntKind.i64 (@HAdd.hAdd Int Int Int _ (Nat.cast (@KVer.k x33) : Int) (1 : Int))) (Nat.cast (@KVer.k x35) : Int)) ∧
 ((@Eq Int (@VerdictD.code (@KVer.w x33)) (@VerdictD.code (@KVer.w x35))) ∧
 ((@Eq Int (@VerdictD.session (@KVer.w x33)) (@VerdictD.session (@KVer.w x35))) ∧
 ((@Eq Int (@VerdictD.rev (@KVer.w x33)) (@VerdictD.rev (@KVer.w x35))) ∧
 ((@Eq Bs (@VerdictD.path (@KVer.w x33)) (@VerdictD.path (@KVer.w x35))) ∧
 ((@Eq Int (@VerdictD.digest (@KVer.w x33)) (@VerdictD.digest (@KVer.w x35))) ∧
 ((@Eq (@List CommitD) (@VerdictD.commits (@KVer.w x33)) (@VerdictD.commits (@KVer.w x35))) ∧
 ((@Eq Int (@VerdictD.member (@KVer.w x33)) (@VerdictD.member (@KVer.w x35))) ∧
 (((@LE.le Nat _ (@KVer.k x35) (@List.length ChangeD (@CommitD.changes (@List.getD CommitD x22 (@Int.toNat (Nat.cast (@KVer.k x31) : Int)) (@CommitD.mk (0 : Int) (0 : Int) (@List.nil UInt8) (@List.nil ChangeD)))))) ∧
 (@Eq VerdictD (@KVer.w x35) (@hitJ (@List.getD CommitD x22 (@Int.toNat (Nat.cast (@KVer.k x31) : Int)) (@CommitD.mk (0 : Int) (0 : Int) (@List.nil UInt8) (@List.nil ChangeD))) (@ChangeD.path (@List.getD ChangeD (@insS x24) (@Int.toNat (@HSub.hSub Int Int Int _ (@HSub.hSub Int Int Int _ (Nat.cast (@List.length ChangeD (@insS x24)) : Int) (1 : Int)) (Nat.cast (@KVer.k x29) : Int))) (@ChangeD.mk (@List.nil UInt8) Bool.false (0 : Int)))) (@KVer.k x35) (@VerdictD.mk (@VerdictD.code (@KVer.w x31)) (@VerdictD.session (@KVer.w x31)) (@VerdictD.rev (@KVer.w x31)) (@VerdictD.path (@KVer.w x31)) (@VerdictD.digest (@KVer.w x31)) (@VerdictD.commits (@KVer.w x31)) (@VerdictD.member (@KVer.w x31)))))) ∧
 (@LT.lt Nat _ (@Nat.sub (@List.length ChangeD (@CommitD.changes (@List.getD CommitD x22 (@Int.toNat (Nat.cast (@KVer.k x31) : Int)) (@CommitD.mk (0 : Int) (0 : Int) (@List.nil UInt8) (@List.nil ChangeD))))) (@KVer.k x35)) (@Nat.sub (@List.length ChangeD (@CommitD.changes (@List.getD CommitD x22 (@Int.toNat (Nat.cast (@KVer.k x31) : Int)) (@CommitD.mk (0 : Int) (0 : Int) (@List.nil UInt8) (@List.nil ChangeD))))) (@KVer.k x33))))))))))))))
 (Bad "check" "law.go:223"))
 (Bad "check" "law.go:223"))
 (Bad "check" "law.go:223"))
 (Bad "check" "law.go:223"))
 (∃ x36 : KVer,
 ((@Eq Int (@Go.IntKind.wrap Go.IntKind.i64 (@HAdd.hAdd Int Int Int _ (Nat.cast (@KVer.k x31) : Int) (1 : Int))) (Nat.cast (@KVer.k x36) : Int)) ∧
 ((@Eq Int (@VerdictD.code (@KVer.w x33)) (@VerdictD.code (@KVer.w x36))) ∧
 ((@Eq Int (@VerdictD.session (@KVer.w x33)) (@VerdictD.session (@KVer.w x36))) ∧
 ((@Eq Int (@VerdictD.rev (@KVer.w x33)) (@VerdictD.rev (@KVer.w x36))) ∧
 ((@Eq Bs (@VerdictD.path (@KVer.w x33)) (@VerdictD.path (@KVer.w x36))) ∧
 ((@Eq Int (@VerdictD.digest (@KVer.w x33)) (@VerdictD.digest (@KVer.w x36))) ∧
 ((@Eq (@List CommitD) (@VerdictD.commits (@KVer.w x33)) (@VerdictD.commits (@KVer.w x36))) ∧
 ((@Eq Int (@VerdictD.member (@KVer.w x33)) (@VerdictD.member (@KVer.w x36))) ∧
 ((((@LE.le Int _ (@Int.tmod (@Go.IntKind.wrap Go.IntKind.i64 (@HAdd.hAdd Int Int Int _ (@Go.IntKind.wrap Go.IntKind.i64 (@HAdd.hAdd Int Int Int _ (@Int.tmod (@ConA.base x) (@Go.IntKind.wrap Go.IntKind.i64 (@HAdd.hAdd Int Int Int _ (Nat.cast (@List.length CommitD x16) : Int) (1 : Int)))) (Nat.cast (@List.length CommitD x18) : Int))) (1 : Int))) (@Go.IntKind.wrap Go.IntKind.i64 (@HAdd.hAdd Int Int Int _ (Nat.cast (@List.length CommitD x20) : Int) (1 : Int)))) (Nat.cast (@KVer.k x36) : Int)) ∧
 (@LE.le Nat _ (@KVer.k x36) (@List.length CommitD x22))) ∧
 (@Eq VerdictD (@KVer.w x36) (@hitV x22 (@Int.tmod (@Go.IntKind.wrap Go.IntKind.i64 (@HAdd.hAdd Int Int Int _ (@Go.IntKind.wrap Go.IntKind.i64 (@HAdd.hAdd Int Int Int _ (@Int.tmod (@ConA.base x) (@Go.IntKind.wrap Go.IntKind.i64 (@HAdd.hAdd Int Int Int _ (Nat.cast (@List.length CommitD x16) : Int) (1 : Int)))) (Nat.cast (@List.length CommitD x18) : Int))) (1 : Int))) (@Go.IntKind.wrap Go.IntKind.i64 (@HAdd.hAdd Int Int Int _ (Nat.cast (@List.length CommitD x20) : Int) (1 : Int)))) (@ChangeD.path (@List.getD ChangeD (@insS x24) (@Int.toNat (@HSub.hSub Int Int Int _ (@HSub.hSub Int Int Int _ (Nat.cast (@List.length ChangeD (@insS x24)) : Int) (1 : Int)) (Nat.cast (@KVer.k x29) : Int))) (@ChangeD.mk (@List.nil UInt8) Bool.false (0 : Int)))) (@KVer.k x36) (@VerdictD.mk (@VerdictD.code (@KVer.w x29)) (@VerdictD.session (@KVer.w x29)) (@VerdictD.rev (@KVer.w x29)) (@VerdictD.path (@KVer.w x29)) (@VerdictD.digest (@KVer.w x29)) (@VerdictD.commits (@KVer.w x29)) (@VerdictD.member (@KVer.w x29)))))) ∧
 (@LT.lt Nat _ (@Nat.sub (@List.length CommitD x22) (@KVer.k x36)) (@Nat.sub (@List.length CommitD x22) (@KVer.k x31)))))))))))))))
 (Bad "check" "law.go:222")))))
 (∃ x37 : KVer,
 ((@Eq Int (@Go.IntKind.wrap Go.IntKind.i64 (@HSub.hSub Int Int Int _ (@HSub.hSub Int Int Int _ (@HSub.hSub Int Int Int _ (Nat.cast (@List.length ChangeD (@insS x24)) : Int) (1 : Int)) (Nat.cast (@KVer.k x29) : Int)) (1 : Int))) (@HSub.hSub Int Int Int _ (@HSub.hSub Int Int Int _ (Nat.cast (@List.length ChangeD (@insS x24)) : Int) (1 : Int)) (Nat.cast (@KVer.k x37) : Int))) ∧
 ((@Eq Int (@VerdictD.code (@KVer.w x31)) (@VerdictD.code (@KVer.w x37))) ∧
 ((@Eq Int (@VerdictD.session (@KVer.w x31)) (@VerdictD.session (@KVer.w x37))) ∧
 ((@Eq Int (@VerdictD.rev (@KVer.w x31)) (@VerdictD.rev (@KVer.w x37))) ∧
 ((@Eq Bs (@VerdictD.path (@KVer.w x31)) (@VerdictD.path (@KVer.w x37))) ∧
 ((@Eq Int (@VerdictD.digest (@KVer.w x31)) (@VerdictD.digest (@KVer.w x37))) ∧
 ((@Eq (@List CommitD) (@VerdictD.commits (@KVer.w x31)) (@VerdictD.commits (@KVer.w x37))) ∧
 ((@Eq Int (@VerdictD.member (@KVer.w x31)) (@VerdictD.member (@KVer.w x37))) ∧
 (((@LE.le Nat _ (@KVer.k x37) (@List.length ChangeD (@insS x24))) ∧
 (@Eq VerdictD (@KVer.w x37) (@wantV x22 (@Int.tmod (@Go.IntKind.wrap Go.IntKind.i64 (@HAdd.hAdd Int Int Int _ (@Go.IntKind.wrap Go.IntKind.i64 (@HAdd.hAdd Int Int Int _ (@Int.tmod (@ConA.base x) (@Go.IntKind.wrap Go.IntKind.i64 (@HAdd.hAdd Int Int Int _ (Nat.cast (@List.length CommitD x16) : Int) (1 : Int)))) (Nat.cast (@List.length CommitD x18) : Int))) (1 : Int))) (@Go.IntKind.wrap Go.IntKind.i64 (@HAdd.hAdd Int Int Int _ (Nat.cast (@List.length CommitD x20) : Int) (1 : Int)))) (@List.drop ChangeD (@HSub.hSub Nat Nat Nat _ (@List.length ChangeD (@insS x24)) (@KVer.k x37)) (@insS x24))))) ∧
 (@LT.lt Nat _ (@Nat.sub (@List.length ChangeD (@insS x24)) (@KVer.k x37)) (@Nat.sub (@List.length ChangeD (@insS x24)) (@KVer.k x29))))))))))))))))))
 (∃ x38 : LandA,
 ((@Eq Int (@Int.tmod (@Go.IntKind.wrap Go.IntKind.i64 (@HAdd.hAdd Int Int Int _ (@Go.IntKind.wrap Go.IntKind.i64 (@HAdd.hAdd Int Int Int _ (@Int.tmod (@ConA.base x) (@Go.IntKind.wrap Go.IntKind.i64 (@HAdd.hAdd Int Int Int _ (Nat.cast (@List.length CommitD x16) : Int) (1 : Int)))) (Nat.cast (@List.length CommitD x18) : Int))) (1 : Int))) (@Go.IntKind.wrap Go.IntKind.i64 (@HAdd.hAdd Int Int Int _ (Nat.cast (@List.length CommitD x20) : Int) (1 : Int)))) (@LandA.base x38)) ∧
 ((@Eq Bs (@Array.toList UInt8 (@ByteArray.data (@ByteArray.mk (@List.toArray UInt8 (@List.nil UInt8))))) (@LandA.ref x38)) ∧
 ((@Eq (@List ChangeD) (@ConA.ch x) (@LandA.l x38)) ∧
 ((@Eq Nat (0 : Nat) (0 : Nat)) ∧
 ((@Eq Nat (@List.length CommitD x26) (@List.length CommitD (@LandA.C x38))) ∧
 ((@Eq TreeD (@treeC x26) (@treeC (@LandA.C x38))) ∧
 ((@Eq (@List CommitD) x26 (@LandA.C x38)) ∧
 ((@Eq (@List (@Prod Bs Int)) (@kvC x26) (@kvC (@LandA.C x38))) ∧
 (((@Eq Bool (@fewG (@LandA.C x38)) Bool.true) ∧
 (@Eq Bool (@shortC (@LandA.l x38)) Bool.true)) ∧
 (∀ x39 : Unit,
 (True →
 (∃ x40 : Ver2,
 ((@Eq Int (@VerdictD.code (@landV x38)) (@VerdictD.code (@Ver2.a x40))) ∧
 ((@Eq Int (@VerdictD.session (@landV x38)) (@VerdictD.session (@Ver2.a x40))) ∧
 ((@Eq Int (@VerdictD.rev (@landV x38)) (@VerdictD.rev (@Ver2.a x40))) ∧
 ((@Eq Bs (@VerdictD.path (@landV x38)) (@VerdictD.path (@Ver2.a x40))) ∧
 ((@Eq Int (@VerdictD.digest (@landV x38)) (@VerdictD.digest (@Ver2.a x40))) ∧
 ((@Eq (@List CommitD) (@VerdictD.commits (@landV x38)) (@VerdictD.commits (@Ver2.a x40))) ∧
 ((@Eq Int (@VerdictD.member (@landV x38)) (@VerdictD.member (@Ver2.a x40))) ∧
 ((@Eq Int (@VerdictD.code (@KVer.w x29)) (@VerdictD.code (@Ver2.b x40))) ∧
 ((@Eq Int (@VerdictD.session (@KVer.w x29)) (@VerdictD.session (@Ver2.b x40))) ∧
 ((@Eq Int (@VerdictD.rev (@KVer.w x29)) (@VerdictD.rev (@Ver2.b x40))) ∧
 ((@Eq Bs (@VerdictD.path (@KVer.w x29)) (@VerdictD.path (@Ver2.b x40))) ∧
 ((@Eq Int (@VerdictD.digest (@KVer.w x29)) (@VerdictD.digest (@Ver2.b x40))) ∧
 ((@Eq (@List CommitD) (@VerdictD.commits (@KVer.w x29)) (@VerdictD.commits (@Ver2.b x40))) ∧
 ((@Eq Int (@VerdictD.member (@KVer.w x29)) (@VerdictD.member (@Ver2.b x40))) ∧
 (True ∧
 (∀ x41 : Unit,
 (True →
 (@Eq Bool (@eqV (@Ver2.a x40) (@Ver2.b x40)) Bool.true)))))))))))))))))))))))))))))))))))))))))))))))))))))))))))
 (Bad "check" "law.go:216"))))))))))))))))))))
 (Bad "check" "law.go:216")))))))))))))))))))))))))))))))))))))))))))) := by kernel_rfl

theorem lgl_vc (x : DeeL) : evCall lglE (ev lglE 1000) 4 (deeArgs x) ⟨[], 0, []⟩ (fun _ _ => False) (fun v _ => TrueV v) = (
(∃ x1 : Unit,
 (True ∧
 (∀ x2 : Unit,
 (True →
 (∃ x3 : (@List Deed5D),
 ((@Eq (@List Deed5D) x x3) ∧
 (True ∧
 (∀ x4 : Unit,
 (True →
 (br (@Bool.not (@roomG x3))
 (@Eq Bool Bool.true Bool.true)
 (∃ x5 : Unit,
 (True ∧
 (∀ x6 : Unit,
 (True →
 ((∃ x7 : Nat,
 ((@Eq Int (0 : Int) (Nat.cast x7 : Int)) ∧
 ((@Eq Nat (0 : Nat) (0 : Nat)) ∧
 ((@Eq Nat (@List.length CommitD (@List.nil CommitD)) (@List.length CommitD (@goC (@List.take Deed5D x7 x)))) ∧
 ((@Eq TreeD (@treeC (@List.nil CommitD)) (@treeC (@goC (@List.take Deed5D x7 x)))) ∧
 ((@Eq (@List CommitD) (@List.nil CommitD) (@goC (@List.take Deed5D x7 x))) ∧
 ((@Eq (@List (@Prod Bs Int)) (@kvC (@List.nil CommitD)) (@kvC (@goC (@List.take Deed5D x7 x)))) ∧
 (@Nat.le x7 (@List.length Deed5D x))))))))) ∧
 (∀ x8 : Nat,
 ((@Nat.le x8 (@List.length Deed5D x)) →
 ((@LE.le Nat _ (@HMul.hMul _ _ _ _ (@List.length Deed5D x) (48 : Nat)) room47) →
 (br (@Decidable.decide (@LT.lt Int _ (Nat.cast x8 : Int) (Nat.cast (@List.length Deed5D x) : Int)) _)
 (br (@Decidable.decide ((@LE.le Int _ (0 : Int) (Nat.cast x8 : Int)) ∧
 (@LT.lt Int _ (Nat.cast x8 : Int) (Nat.cast (@List.length Deed5D x) : Int))) _)
 (br (@Decidable.decide ((@LE.le Int _ (0 : Int) (Nat.cast x8 : Int)) ∧
 (@LT.lt Int _ (Nat.cast x8 : Int) (Nat.cast (@List.length Deed5D x) : Int))) _)
 (br (@Decidable.decide ((@LE.le Int _ (0 : Int) (Nat.cast x8 : Int)) ∧
 (@LT.lt Int _ (Nat.cast x8 : Int) (Nat.cast (@List.length Deed5D x) : Int))) _)
 (∃ x9 : LandA,
 ((@Eq Int (@Deed5D.base (@List.getD Deed5D x (@Int.toNat (Nat.cast x8 : Int)) (@Deed5D.mk (0 : Int) (@List.nil UInt8) (@List.nil ChangeD)))) (@LandA.base x9)) ∧
 ((@Eq Bs (@Deed5D.ref (@List.getD Deed5D x (@Int.toNat (Nat.cast x8 : Int)) (@Deed5D.mk (0 : Int) (@List.nil UInt8) (@List.nil ChangeD)))) (@LandA.ref x9)) ∧
 ((@Eq (@List ChangeD) (@Deed5D.l (@List.getD Deed5D x (@Int.toNat (Nat.cast x8 : Int)) (@Deed5D.mk (0 : Int) (@List.nil UInt8) (@List.nil ChangeD)))) (@LandA.l x9)) ∧
 ((@Eq Nat (0 : Nat) (0 : Nat)) ∧
 ((@Eq Nat (@List.length CommitD (@goC (@List.take Deed5D x8 x))) (@List.length CommitD (@LandA.C x9))) ∧
 ((@Eq TreeD (@treeC (@goC (@List.take Deed5D x8 x))) (@treeC (@LandA.C x9))) ∧
 ((@Eq (@List CommitD) (@goC (@List.take Deed5D x8 x)) (@LandA.C x9)) ∧
 ((@Eq (@List (@Prod Bs Int)) (@kvC (@goC (@List.take Deed5D x8 x))) (@kvC (@LandA.C x9))) ∧
 (((@Eq Bool (@fewG (@LandA.C x9)) Bool.true) ∧
 (@Eq Bool (@shortC (@LandA.l x9)) Bool.true)) ∧
 (∀ x10 : Unit,
 (True →
 (∃ x11 : Nat,
 ((@Eq Int (@Go.IntKind.wrap Go.IntKind.i64 (@HAdd.hAdd Int Int Int _ (Nat.cast x8 : Int) (1 : Int))) (Nat.cast x11 : Int)) ∧
 ((@Eq Nat (0 : Nat) (0 : Nat)) ∧
 ((@Eq Nat (@List.length CommitD (@landC x9)) (@List.length CommitD (@goC (@List.take Deed5D x11 x)))) ∧
 ((@Eq TreeD (@treeC (@landC x9)) (@treeC (@goC (@List.take Deed5D x11 x)))) ∧
 ((@Eq (@List CommitD) (@landC x9) (@goC (@List.take Deed5D x11 x))) ∧
 ((@Eq (@List (@Prod Bs Int)) (@kvC (@landC x9)) (@kvC (@goC (@List.take Deed5D x11 x)))) ∧
 ((@Nat.le x11 (@List.length Deed5D x)) ∧
 (@LT.lt Nat _ (@Nat.sub (@List.length Deed5D x) x11) (@Nat.sub (@List.length Deed5D x) x8))))))))))))))))))))))
 (Bad "check" "law.go:114"))
 (Bad "check" "law.go:114"))
 (Bad "check" "law.go:114"))
 (∃ x12 : (@List CommitD),
 ((@Eq Nat (0 : Nat) (0 : Nat)) ∧
 ((@Eq Nat (@List.length CommitD (@goC (@List.take Deed5D x8 x))) (@List.length CommitD x12)) ∧
 ((@Eq TreeD (@treeC (@goC (@List.take Deed5D x8 x))) (@treeC x12)) ∧
 ((@Eq (@List CommitD) (@goC (@List.take Deed5D x8 x)) x12) ∧
 ((@Eq (@List (@Prod Bs Int)) (@kvC (@goC (@List.take Deed5D x8 x))) (@kvC x12)) ∧
 ((@Eq Bool (@fewG x12) Bool.true) ∧
 (∀ x13 : Unit,
 (True →
 (∃ x14 : (@List CommitD),
 ((@Eq (@List CommitD) x12 x14) ∧
 ((@OkC x14) ∧
 (∀ x15 : Unit,
 (True →
 (∃ x16 : (@List CommitD),
 ((@Eq Nat (0 : Nat) (0 : Nat)) ∧
 ((@Eq Nat (@List.length CommitD x12) (@List.length CommitD x16)) ∧
 ((@Eq TreeD (@treeC x12) (@treeC x16)) ∧
 ((@Eq (@List CommitD) x12 x16) ∧
 ((@Eq (@List (@Prod Bs Int)) (@kvC x12) (@kvC x16)) ∧
 (True ∧
 (∀ x17 : Unit,
 (True →
 ((@LE.le Nat _ (@HMul.hMul _ _ _ _ (@List.length CommitD x12) (56 : Nat)) room47) →
 (br (@bne Int _ (Nat.cast (@List.length CommitD x16) : Int) (Nat.cast (@List.length CommitD x12) : Int))
 (@Eq Bool Bool.false Bool.true)
 (∃ x18 : (@List CommitD),
 ((@Eq Nat (0 : Nat) (0 : Nat)) ∧
 ((@Eq Nat (@List.length CommitD x16) (@List.length CommitD x18)) ∧
 ((@Eq TreeD (@treeC x16) (@treeC x18)) ∧
 ((@Eq (@List CommitD) x16 x18) ∧
 ((@Eq (@List (@Prod Bs Int)) (@kvC x16) (@kvC x18)) ∧
 ((@Eq Bool (@fewG x18) Bool.true) ∧
 (∀ x19 : Unit,
 (True →
 ((∃ x20 : Nat,
 ((@Eq Int (0 : Int) (Nat.cast x20 : Int)) ∧
 (@Nat.le x20 (@List.length LeafD (@rowC x18))))) ∧
 (∀ x21 : Nat,
 ((@Nat.le x21 (@List.length LeafD (@rowC x18))) →
 ((@LE.le Nat _ (@HMul.hMul _ _ _ _ (@List.length LeafD (@rowC x18)) (40 : Nat)) room47) →
 (br (@Decidable.decide (@LT.lt Int _ (Nat.cast x21 : Int) (Nat.cast (@List.length LeafD (@rowC x18)) : Int)) _)
 ((∃ x22 : Nat,
 ((@Eq Int (0 : Int) (Nat.cast x22 : Int)) ∧
 ((@Eq Int (0 : Int) (@lastK x12 (@LeafD.path (@List.getD LeafD (@rowC x18) (@Int.toNat (Nat.cast x21 : Int)) (@LeafD.mk (@List.nil UInt8) (0 : Int) (0 : Int) Bool.false))) x22)) ∧
 (@Nat.le x22 (@List.length CommitD x12))))) ∧
 (∀ x23 : Nat,
 ((@Nat.le x23 (@List.length CommitD x12)) →
 ((@LE.le Nat _ (@HMul.hMul _ _ _ _ (@List.length CommitD x12) (56 : Nat)) room47) →
 (br (@Decidable.decide (@LT.lt Int _ (Nat.cast x23 : Int) (Nat.cast (@List.length CommitD x12) : Int)) _)
 ((∃ x24 : Nat,
 ((@Eq Int (0 : Int) (Nat.cast x24 : Int)) ∧
 ((@Eq Int (@lastK x12 (@LeafD.path (@List.getD LeafD (@rowC x18) (@Int.toNat (Nat.cast x21 : Int)) (@LeafD.mk (@List.nil UInt8) (0 : Int) (0 : Int) Bool.false))) x23) (@lastJ (@List.getD CommitD x12 (@Int.toNat (Nat.cast x23 : Int)) (@CommitD.mk (0 : Int) (0 : Int) (@List.nil UInt8) (@List.nil ChangeD))) (@LeafD.path (@List.getD LeafD (@rowC x18) (@Int.toNat (Nat.cast x21 : Int)) (@LeafD.mk (@List.nil UInt8) (0 : Int) (0 : Int) Bool.false))) x24 (@lastK x12 (@LeafD.path (@List.getD LeafD (@rowC x18) (@Int.toNat (Nat.cast x21 : Int)) (@LeafD.mk (@List.nil UInt8) (0 : Int) (0 : Int) Bool.false))) x23))) ∧
 (@Nat.le x24 (@List.length ChangeD (@CommitD.changes (@List.getD CommitD x12 (@Int.toNat (Nat.cast x23 : Int)) (@CommitD.mk (0 : Int) (0 : Int) (@List.nil UInt8) (@List.nil ChangeD))))))))) ∧
 (∀ x25 : Nat,
 ((@Nat.le x25 (@List.length ChangeD (@CommitD.changes (@List.getD CommitD x12 (@Int.toNat (Nat.cast x23 : Int)) (@CommitD.mk (0 : Int) (0 : Int) (@List.nil UInt8) (@List.nil ChangeD)))))) →
 (br (@Decidable.decide ((@LE.le Int _ (0 : Int) (Nat.cast x23 : Int)) ∧
 (@LT.lt Int _ (Nat.cast x23 : Int) (Nat.cast (@List.length CommitD x12) : Int))) _)
 ((@LE.le Nat _ (@HMul.hMul _ _ _ _ (@List.length ChangeD (@CommitD.changes (@List.getD CommitD x12 (@Int.toNat (Nat.cast x23 : Int)) (@CommitD.mk (0 : Int) (0 : Int) (@List.nil UInt8) (@List.nil ChangeD))))) (32 : Nat)) room47) →
 (br (@Decidable.decide (@LT.lt Int _ (Nat.cast x25 : Int) (Nat.cast (@List.length ChangeD (@CommitD.changes (@List.getD CommitD x12 (@Int.toNat (Nat.cast x23 : Int)) (@CommitD.mk (0 : Int) (0 : Int) (@List.nil UInt8) (@List.nil ChangeD))))) : Int)) _)
 (br (@Decidable.decide ((@LE.le Int _ (0 : Int) (Nat.cast x23 : Int)) ∧
 (@LT.lt Int _ (Nat.cast x23 : Int) (Nat.cast (@List.length CommitD x12) : Int))) _)
 (br (@Decidable.decide ((@LE.le Int _ (0 : Int) (Nat.cast x25 : Int)) ∧
 (@LT.lt Int _ (Nat.cast x25 : Int) (Nat.cast (@List.length ChangeD (@CommitD.changes (@List.getD CommitD x12 (@Int.toNat (Nat.cast x23 : Int)) (@CommitD.mk (0 : Int) (0 : Int) (@List.nil UInt8) (@List.nil ChangeD))))) : Int))) _)
 (br (@Decidable.decide ((@LE.le Int _ (0 : Int) (Nat.cast x21 : Int)) ∧
 (@LT.lt Int _ (Nat.cast x21 : Int) (Nat.cast (@List.length LeafD (@rowC x18)) : Int))) _)
 (br (@BEq.beq Bs _ (@ChangeD.path (@List.getD ChangeD (@CommitD.changes (@List.getD CommitD x12 (@Int.toNat (Nat.cast x23 : Int)) (@CommitD.mk (0 : Int) (0 : Int) (@List.nil UInt8) (@List.nil ChangeD)))) (@Int.toNat (Nat.cast x25 : Int)) (@ChangeD.mk (@List.nil UInt8) Bool.false (0 : Int)))) (@LeafD.path (@List.getD LeafD (@rowC x18) (@Int.toNat (Nat.cast x21 : Int)) (@LeafD.mk (@List.nil UInt8) (0 : Int) (0 : Int) Bool.false))))
 (br (@Decidable.decide ((@LE.le Int _ (0 : Int) (Nat.cast x23 : Int)) ∧
 (@LT.lt Int _ (Nat.cast x23 : Int) (Nat.cast (@List.length CommitD x12) : Int))) _)
 (br (@Decidable.decide ((@LE.le Int _ (0 : Int) (Nat.cast x21 : Int)) ∧
 (@LT.lt Int _ (Nat.cast x21 : Int) (Nat.cast (@List.length LeafD (@rowC x18)) : Int))) _)
 (br (@BEq.beq Int _ (@CommitD.rev (@List.getD CommitD x12 (@Int.toNat (Nat.cast x23 : Int)) (@CommitD.mk (0 : Int) (0 : Int) (@List.nil UInt8) (@List.nil ChangeD)))) (@LeafD.rev (@List.getD LeafD (@rowC x18) (@Int.toNat (Nat.cast x21 : Int)) (@LeafD.mk (@List.nil UInt8) (0 : Int) (0 : Int) Bool.false))))
 (br (@Decidable.decide ((@LE.le Int _ (0 : Int) (Nat.cast x21 : Int)) ∧
 (@LT.lt Int _ (Nat.cast x21 : Int) (Nat.cast (@List.length LeafD (@rowC x18)) : Int))) _)
 (br (@bne Int _ (@ChangeD.digest (@List.getD ChangeD (@CommitD.changes (@List.getD CommitD x12 (@Int.toNat (Nat.cast x23 : Int)) (@CommitD.mk (0 : Int) (0 : Int) (@List.nil UInt8) (@List.nil ChangeD)))) (@Int.toNat (Nat.cast x25 : Int)) (@ChangeD.mk (@List.nil UInt8) Bool.false (0 : Int)))) (@LeafD.digest (@List.getD LeafD (@rowC x18) (@Int.toNat (Nat.cast x21 : Int)) (@LeafD.mk (@List.nil UInt8) (0 : Int) (0 : Int) Bool.false))))
 (@Eq Bool Bool.false Bool.true)
 (br (@Decidable.decide ((@LE.le Int _ (0 : Int) (Nat.cast x21 : Int)) ∧
 (@LT.lt Int _ (Nat.cast x21 : Int) (Nat.cast (@List.length LeafD (@rowC x18)) : Int))) _)
 (br (@Bool.not (@BEq.beq Bool _ (@ChangeD.gone (@List.getD ChangeD (@CommitD.changes (@List.getD CommitD x12 (@Int.toNat (Nat.cast x23 : Int)) (@CommitD.mk (0 : Int) (0 : Int) (@List.nil UInt8) (@List.nil ChangeD)))) (@Int.toNat (Nat.cast x25 : Int)) (@ChangeD.mk (@List.nil UInt8) Bool.false (0 : Int)))) (@LeafD.gone (@List.getD LeafD (@rowC x18) (@Int.toNat (Nat.cast x21 : Int)) (@LeafD.mk (@List.nil UInt8) (0 : Int) (0 : Int) Bool.false)))))
 (@Eq Bool Bool.false Bool.true)
 (∃ x26 : Nat,
 ((@Eq Int (@Go.IntKind.wrap Go.IntKind.i64 (@HAdd.hAdd Int Int Int _ (Nat.cast x25 : Int) (1 : Int))) (Nat.cast x26 : Int)) ∧
 ((@Eq Int (@CommitD.rev (@List.getD CommitD x12 (@Int.toNat (Nat.cast x23 : Int)) (@CommitD.mk (0 : Int) (0 : Int) (@List.nil UInt8) (@List.nil ChangeD)))) (@lastJ (@List.getD CommitD x12 (@Int.toNat (Nat.cast x23 : Int)) (@CommitD.mk (0 : Int) (0 : Int) (@List.nil UInt8) (@List.nil ChangeD))) (@LeafD.path (@List.getD LeafD (@rowC x18) (@Int.toNat (Nat.cast x21 : Int)) (@LeafD.mk (@List.nil UInt8) (0 : Int) (0 : Int) Bool.false))) x26 (@lastK x12 (@LeafD.path (@List.getD LeafD (@rowC x18) (@Int.toNat (Nat.cast x21 : Int)) (@LeafD.mk (@List.nil UInt8) (0 : Int) (0 : Int) Bool.false))) x23))) ∧
 ((@Nat.le x26 (@List.length ChangeD (@CommitD.changes (@List.getD CommitD x12 (@Int.toNat (Nat.cast x23 : Int)) (@CommitD.mk (0 : Int) (0 : Int) (@List.nil UInt8) (@List.nil ChangeD)))))) ∧
 (@LT.lt Nat _ (@Nat.sub (@List.length ChangeD (@CommitD.changes (@List.getD CommitD x12 (@Int.toNat (Nat.cast x23 : Int)) (@CommitD.mk (0 : Int) (0 : Int) (@List.nil UInt8) (@List.nil ChangeD))))) x26) (@Nat.sub (@List.length ChangeD (@CommitD.changes (@List.getD CommitD x12 (@Int.toNat (Nat.cast x23 : Int)) (@CommitD.mk (0 : Int) (0 : Int) (@List.nil UInt8) (@List.nil ChangeD))))) x25)))))))
 (Bad "check" "law.go:128")))
 (Bad "check" "law.go:128"))
 (∃ x27 : Nat,
 ((@Eq Int (@Go.IntKind.wrap Go.IntKind.i64 (@HAdd.hAdd Int Int Int _ (Nat.cast x25 : Int) (1 : Int))) (Nat.cast x27 : Int)) ∧
 ((@Eq Int (@CommitD.rev (@List.getD CommitD x12 (@Int.toNat (Nat.cast x23 : Int)) (@CommitD.mk (0 : Int) (0 : Int) (@List.nil UInt8) (@List.nil ChangeD)))) (@lastJ (@List.getD CommitD x12 (@Int.toNat (Nat.cast x23 : Int)) (@CommitD.mk (0 : Int) (0 : Int) (@List.nil UInt8) (@List.nil ChangeD))) (@LeafD.path (@List.getD LeafD (@rowC x18) (@Int.toNat (Nat.cast x21 : Int)) (@LeafD.mk (@List.nil UInt8) (0 : Int) (0 : Int) Bool.false))) x27 (@lastK x12 (@LeafD.path (@List.getD LeafD (@rowC x18) (@Int.toNat (Nat.cast x21 : Int)) (@LeafD.mk (@List.nil UInt8) (0 : Int) (0 : Int) Bool.false))) x23))) ∧
 ((@Nat.le x27 (@List.length ChangeD (@CommitD.changes (@List.getD CommitD x12 (@Int.toNat (Nat.cast x23 : Int)) (@CommitD.mk (0 : Int) (0 : Int) (@List.nil UInt8) (@List.nil ChangeD)))))) ∧
 (@LT.lt Nat _ (@Nat.sub (@List.length ChangeD (@CommitD.changes (@List.getD CommitD x12 (@Int.toNat (Nat.cast x23 : Int)) (@CommitD.mk (0 : Int) (0 : Int) (@List.nil UInt8) (@List.nil ChangeD))))) x27) (@Nat.sub (@List.length ChangeD (@CommitD.changes (@List.getD CommitD x12 (@Int.toNat (Nat.cast x23 : Int)) (@CommitD.mk (0 : Int) (0 : Int) (@List.nil UInt8) (@List.nil ChangeD))))) x25)))))))
 (Bad "check" "law.go:128"))
 (Bad "check" "law.go:127"))
 (∃ x28 : Nat,
 ((@Eq Int (@Go.IntKind.wrap Go.IntKind.i64 (@HAdd.hAdd Int Int Int _ (Nat.cast x25 : Int) (1 : Int))) (Nat.cast x28 : Int)) ∧
 ((@Eq Int (@lastJ (@List.getD CommitD x12 (@Int.toNat (Nat.cast x23 : Int)) (@CommitD.mk (0 : Int) (0 : Int) (@List.nil UInt8) (@List.nil ChangeD))) (@LeafD.path (@List.getD LeafD (@rowC x18) (@Int.toNat (Nat.cast x21 : Int)) (@LeafD.mk (@List.nil UInt8) (0 : Int) (0 : Int) Bool.false))) x25 (@lastK x12 (@LeafD.path (@List.getD LeafD (@rowC x18) (@Int.toNat (Nat.cast x21 : Int)) (@LeafD.mk (@List.nil UInt8) (0 : Int) (0 : Int) Bool.false))) x23)) (@lastJ (@List.getD CommitD x12 (@Int.toNat (Nat.cast x23 : Int)) (@CommitD.mk (0 : Int) (0 : Int) (@List.nil UInt8) (@List.nil ChangeD))) (@LeafD.path (@List.getD LeafD (@rowC x18) (@Int.toNat (Nat.cast x21 : Int)) (@LeafD.mk (@List.nil UInt8) (0 : Int) (0 : Int) Bool.false))) x28 (@lastK x12 (@LeafD.path (@List.getD LeafD (@rowC x18) (@Int.toNat (Nat.cast x21 : Int)) (@LeafD.mk (@List.nil UInt8) (0 : Int) (0 : Int) Bool.false))) x23))) ∧
 ((@Nat.le x28 (@List.length ChangeD (@CommitD.changes (@List.getD CommitD x12 (@Int.toNat (Nat.cast x23 : Int)) (@CommitD.mk (0 : Int) (0 : Int) (@List.nil UInt8) (@List.nil ChangeD)))))) ∧
 (@LT.lt Nat _ (@Nat.sub (@List.length ChangeD (@CommitD.changes (@List.getD CommitD x12 (@Int.toNat (Nat.cast x23 : Int)) (@CommitD.mk (0 : Int) (0 : Int) (@List.nil UInt8) (@List.nil ChangeD))))) x28) (@Nat.sub (@List.length ChangeD (@CommitD.changes (@List.getD CommitD x12 (@Int.toNat (Nat.cast x23 : Int)) (@CommitD.mk (0 : Int) (0 : Int) (@List.nil UInt8) (@List.nil ChangeD))))) x25)))))))
 (Bad "check" "law.go:126"))
 (Bad "check" "law.go:125"))
 (Bad "check" "law.go:125"))
 (∃ x29 : Nat,
 ((@Eq Int (@Go.IntKind.wrap Go.IntKind.i64 (@HAdd.hAdd Int Int Int _ (Nat.cast x23 : Int) (1 : Int))) (Nat.cast x29 : Int)) ∧
 ((@Eq Int (@lastJ (@List.getD CommitD x12 (@Int.toNat (Nat.cast x23 : Int)) (@CommitD.mk (0 : Int) (0 : Int) (@List.nil UInt8) (@List.nil ChangeD))) (@LeafD.path (@List.getD LeafD (@rowC x18) (@Int.toNat (Nat.cast x21 : Int)) (@LeafD.mk (@List.nil UInt8) (0 : Int) (0 : Int) Bool.false))) x25 (@lastK x12 (@LeafD.path (@List.getD LeafD (@rowC x18) (@Int.toNat (Nat.cast x21 : Int)) (@LeafD.mk (@List.nil UInt8) (0 : Int) (0 : Int) Bool.false))) x23)) (@lastK x12 (@LeafD.path (@List.getD LeafD (@rowC x18) (@Int.toNat (Nat.cast x21 : Int)) (@LeafD.mk (@List.nil UInt8) (0 : Int) (0 : Int) Bool.false))) x29)) ∧
 ((@Nat.le x29 (@List.length CommitD x12)) ∧
 (@LT.lt Nat _ (@Nat.sub (@List.length CommitD x12) x29) (@Nat.sub (@List.length CommitD x12) x23))))))))
 (Bad "check" "law.go:124")))))
 (br (@Decidable.decide ((@LE.le Int _ (0 : Int) (Nat.cast x21 : Int)) ∧
 (@LT.lt Int _ (Nat.cast x21 : Int) (Nat.cast (@List.length LeafD (@rowC x18)) : Int))) _)
 (br (@bne Int _ (@lastK x12 (@LeafD.path (@List.getD LeafD (@rowC x18) (@Int.toNat (Nat.cast x21 : Int)) (@LeafD.mk (@List.nil UInt8) (0 : Int) (0 : Int) Bool.false))) x23) (@LeafD.rev (@List.getD LeafD (@rowC x18) (@Int.toNat (Nat.cast x21 : Int)) (@LeafD.mk (@List.nil UInt8) (0 : Int) (0 : Int) Bool.false))))
 (@Eq Bool Bool.false Bool.true)
 (br (@BEq.beq Int _ (@lastK x12 (@LeafD.path (@List.getD LeafD (@rowC x18) (@Int.toNat (Nat.cast x21 : Int)) (@LeafD.mk (@List.nil UInt8) (0 : Int) (0 : Int) Bool.false))) x23) (0 : Int))
 (@Eq Bool Bool.false Bool.true)
 (∃ x30 : Nat,
 ((@Eq Int (@Go.IntKind.wrap Go.IntKind.i64 (@HAdd.hAdd Int Int Int _ (Nat.cast x21 : Int) (1 : Int))) (Nat.cast x30 : Int)) ∧
 ((@Nat.le x30 (@List.length LeafD (@rowC x18))) ∧
 (@LT.lt Nat _ (@Nat.sub (@List.length LeafD (@rowC x18)) x30) (@Nat.sub (@List.length LeafD (@rowC x18)) x21)))))))
 (Bad "check" "law.go:134")))))))
 (@Eq Bool Bool.true Bool.true)))))))))))))))))))))))))))))))))))))))))))))))))))))))))))) := by kernel_rfl

theorem pre_vc (x : PreA) : evCall preE (ev preE 1000) 5 (preArgs x) ⟨[], 0, []⟩ (fun _ _ => False) (fun v _ => TrueV v) = (
(∃ x1 : Unit,
 (True ∧
 (∀ x2 : Unit,
 (True →
 (∃ x3 : (@List Deed5D),
 ((@Eq (@List Deed5D) (@PreA.l x) x3) ∧
 (True ∧
 (∀ x4 : Unit,
 (True →
 (br (@Bool.not (@roomG x3))
 (@Eq Bool Bool.true Bool.true)
 (∃ x5 : Unit,
 (True ∧
 (∀ x6 : Unit,
 (True →
 ((∃ x7 : Nat,
 ((@Eq Int (0 : Int) (Nat.cast x7 : Int)) ∧
 ((@Eq Nat (0 : Nat) (@List.length VerdictD (@wasR (@goC (@List.take Deed5D x7 (@PreA.l x)))))) ∧
 ((@Eq Nat (0 : Nat) (0 : Nat)) ∧
 ((@Eq Nat (@List.length CommitD (@List.nil CommitD)) (@List.length CommitD (@goC (@List.take Deed5D x7 (@PreA.l x))))) ∧
 ((@Eq TreeD (@treeC (@List.nil CommitD)) (@treeC (@goC (@List.take Deed5D x7 (@PreA.l x))))) ∧
 ((@Eq (@List CommitD) (@List.nil CommitD) (@goC (@List.take Deed5D x7 (@PreA.l x)))) ∧
 ((@Eq (@List (@Prod Bs Int)) (@kvC (@List.nil CommitD)) (@kvC (@goC (@List.take Deed5D x7 (@PreA.l x))))) ∧
 ((@Eq (@List VerdictD) (@List.nil VerdictD) (@wasR (@goC (@List.take Deed5D x7 (@PreA.l x))))) ∧
 (@Nat.le x7 (@List.length Deed5D (@PreA.l x)))))))))))) ∧
 (∀ x8 : Nat,
 ((@Nat.le x8 (@List.length Deed5D (@PreA.l x))) →
 ((@LE.le Nat _ (@HMul.hMul _ _ _ _ (@List.length Deed5D (@PreA.l x)) (48 : Nat)) room47) →
 (br (@Decidable.decide (@LT.lt Int _ (Nat.cast x8 : Int) (Nat.cast (@List.length Deed5D (@PreA.l x)) : Int)) _)
 (br (@Decidable.decide ((@LE.le Int _ (0 : Int) (Nat.cast x8 : Int)) ∧
 (@LT.lt Int _ (Nat.cast x8 : Int) (Nat.cast (@List.length Deed5D (@PreA.l x)) : Int))) _)
 (br (@Decidable.decide ((@LE.le Int _ (0 : Int) (Nat.cast x8 : Int)) ∧
 (@LT.lt Int _ (Nat.cast x8 : Int) (Nat.cast (@List.length Deed5D (@PreA.l x)) : Int))) _)
 (br (@Decidable.decide ((@LE.le Int _ (0 : Int) (Nat.cast x8 : Int)) ∧
 (@LT.lt Int _ (Nat.cast x8 : Int) (Nat.cast (@List.length Deed5D (@PreA.l x)) : Int))) _)
 ((∃ x9 : LandA,
 ((@Eq Int (@Deed5D.base (@List.getD Deed5D (@PreA.l x) (@Int.toNat (Nat.cast x8 : Int)) (@Deed5D.mk (0 : Int) (@List.nil UInt8) (@List.nil ChangeD)))) (@LandA.base x9)) ∧
 ((@Eq Bs (@Deed5D.ref (@List.getD Deed5D (@PreA.l x) (@Int.toNat (Nat.cast x8 : Int)) (@Deed5D.mk (0 : Int) (@List.nil UInt8) (@List.nil ChangeD)))) (@LandA.ref x9)) ∧
 ((@Eq (@List ChangeD) (@Deed5D.l (@List.getD Deed5D (@PreA.l x) (@Int.toNat (Nat.cast x8 : Int)) (@Deed5D.mk (0 : Int) (@List.nil UInt8) (@List.nil ChangeD)))) (@LandA.l x9)) ∧
 ((@Eq Nat (0 : Nat) (0 : Nat)) ∧
 ((@Eq Nat (@List.length CommitD (@goC (@List.take Deed5D x8 (@PreA.l x)))) (@List.length CommitD (@LandA.C x9))) ∧
 ((@Eq TreeD (@treeC (@goC (@List.take Deed5D x8 (@PreA.l x)))) (@treeC (@LandA.C x9))) ∧
 ((@Eq (@List CommitD) (@goC (@List.take Deed5D x8 (@PreA.l x))) (@LandA.C x9)) ∧
 ((@Eq (@List (@Prod Bs Int)) (@kvC (@goC (@List.take Deed5D x8 (@PreA.l x)))) (@kvC (@LandA.C x9))) ∧
 (((@Eq Bool (@fewG (@LandA.C x9)) Bool.true) ∧
 (@Eq Bool (@shortC (@LandA.l x9)) Bool.true)) ∧
 (∀ x10 : Unit,
 (True →
 (br (@BEq.beq Int _ (@VerdictD.code (@landV x9)) (2 : Int))
 (∃ x11 : ReadA,
 ((@Eq Bs (@Array.toList UInt8 (@ByteArray.data (@ByteArray.mk (@List.toArray UInt8 (@List.cons UInt8 (97 : UInt8) (@List.nil UInt8)))))) (@ReadA.p x11)) ∧
 ((@Eq Nat (0 : Nat) (0 : Nat)) ∧
 ((@Eq Nat (@List.length CommitD (@landC x9)) (@List.length CommitD (@ReadA.C x11))) ∧
 ((@Eq TreeD (@treeC (@landC x9)) (@treeC (@ReadA.C x11))) ∧
 ((@Eq (@List CommitD) (@landC x9) (@ReadA.C x11)) ∧
 ((@Eq (@List (@Prod Bs Int)) (@kvC (@landC x9)) (@kvC (@ReadA.C x11))) ∧
 ((@Eq Bool (@shortB (@ReadA.p x11)) Bool.true) ∧
 (∀ x12 : Unit,
 (True →
 (((@Nat.le (@HMul.hMul _ _ _ _ (@List.length VerdictD (@wasR (@goC (@List.take Deed5D x8 (@PreA.l x))))) (80 : Nat)) room47) ∧
 (@Nat.le (@HMul.hMul _ _ _ _ (1 : Nat) (80 : Nat)) room47)) →
 (br (@Bool.and (@Bool.and (@Decidable.decide (@LE.le Nat _ (@HAdd.hAdd _ _ _ _ (0 : Nat) (1 : Nat)) (@List.length VerdictD (@List.cons VerdictD (@VerdictD.mk (@VerdictD.code (@readV x11)) (@VerdictD.session (@readV x11)) (@VerdictD.rev (@readV x11)) (@VerdictD.path (@readV x11)) (@VerdictD.digest (@readV x11)) (@VerdictD.commits (@readV x11)) (@VerdictD.member (@readV x11))) (@List.nil VerdictD)))) _) (@Decidable.decide (@LE.le Nat _ (@HAdd.hAdd _ _ _ _ (0 : Nat) (@List.length VerdictD (@wasR (@goC (@List.take Deed5D x8 (@PreA.l x)))))) (@List.length VerdictD (@wasR (@goC (@List.take Deed5D x8 (@PreA.l x)))))) _)) (@Decidable.decide (@LE.le Nat _ (@HMul.hMul _ _ _ _ (@HAdd.hAdd _ _ _ _ (@List.length VerdictD (@wasR (@goC (@List.take Deed5D x8 (@PreA.l x))))) (@List.length VerdictD (@List.take VerdictD (1 : Nat) (@List.drop VerdictD (0 : Nat) (@List.cons VerdictD (@VerdictD.mk (@VerdictD.code (@readV x11)) (@VerdictD.session (@readV x11)) (@VerdictD.rev (@readV x11)) (@VerdictD.path (@readV x11)) (@VerdictD.digest (@readV x11)) (@VerdictD.commits (@readV x11)) (@VerdictD.member (@readV x11))) (@List.nil VerdictD)))))) (80 : Nat)) room47) _))
 (∃ x13 : Nat,
 ((@Eq Int (@Go.IntKind.wrap Go.IntKind.i64 (@HAdd.hAdd Int Int Int _ (Nat.cast x8 : Int) (1 : Int))) (Nat.cast x13 : Int)) ∧
 ((@Eq Nat (0 : Nat) (0 : Nat)) ∧
 ((@Eq Nat (@HAdd.hAdd _ _ _ _ (@List.length VerdictD (@wasR (@goC (@List.take Deed5D x8 (@PreA.l x))))) (@List.length VerdictD (@List.take VerdictD (1 : Nat) (@List.drop VerdictD (0 : Nat) (@List.cons VerdictD (@VerdictD.mk (@VerdictD.code (@readV x11)) (@VerdictD.session (@readV x11)) (@VerdictD.rev (@readV x11)) (@VerdictD.path (@readV x11)) (@VerdictD.digest (@readV x11)) (@VerdictD.commits (@readV x11)) (@VerdictD.member (@readV x11))) (@List.nil VerdictD)))))) (@List.length VerdictD (@wasR (@goC (@List.take Deed5D x13 (@PreA.l x)))))) ∧
 ((@Eq Nat (0 : Nat) (0 : Nat)) ∧
 ((@Eq Nat (@List.length CommitD (@ReadA.C x11)) (@List.length CommitD (@goC (@List.take Deed5D x13 (@PreA.l x))))) ∧
 ((@Eq TreeD (@treeC (@ReadA.C x11)) (@treeC (@goC (@List.take Deed5D x13 (@PreA.l x))))) ∧
 ((@Eq (@List CommitD) (@ReadA.C x11) (@goC (@List.take Deed5D x13 (@PreA.l x)))) ∧
 ((@Eq (@List (@Prod Bs Int)) (@kvC (@ReadA.C x11)) (@kvC (@goC (@List.take Deed5D x13 (@PreA.l x))))) ∧
 ((@Eq (@List VerdictD) (@HAppend.hAppend (@List VerdictD) (@List VerdictD) (@List VerdictD) _ (@List.take VerdictD (@List.length VerdictD (@wasR (@goC (@List.take Deed5D x8 (@PreA.l x))))) (@List.drop VerdictD (0 : Nat) (@wasR (@goC (@List.take Deed5D x8 (@PreA.l x)))))) (@List.take VerdictD (1 : Nat) (@List.drop VerdictD (0 : Nat) (@List.cons VerdictD (@VerdictD.mk (@VerdictD.code (@readV x11)) (@VerdictD.session (@readV x11)) (@VerdictD.rev (@readV x11)) (@VerdictD.path (@readV x11)) (@VerdictD.digest (@readV x11)) (@VerdictD.commits (@readV x11)) (@VerdictD.member (@readV x11))) (@List.nil VerdictD))))) (@wasR (@goC (@List.take Deed5D x13 (@PreA.l x))))) ∧
 ((@Nat.le x13 (@List.length Deed5D (@PreA.l x))) ∧
 (@LT.lt Nat _ (@Nat.sub (@List.length Deed5D (@PreA.l x)) x13) (@Nat.sub (@List.length Deed5D (@PreA.l x)) x8)))))))))))))
 (Bad "check" "law.go:299")))))))))))))
 (∃ x14 : Nat,
 ((@Eq Int (@Go.IntKind.wrap Go.IntKind.i64 (@HAdd.hAdd Int Int Int _ (Nat.cast x8 : Int) (1 : Int))) (Nat.cast x14 : Int)) ∧
 ((@Eq Nat (0 : Nat) (0 : Nat)) ∧
 ((@Eq Nat (@List.length VerdictD (@wasR (@goC (@List.take Deed5D x8 (@PreA.l x))))) (@List.length VerdictD (@wasR (@goC (@List.take Deed5D x14 (@PreA.l x)))))) ∧
 ((@Eq Nat (0 : Nat) (0 : Nat)) ∧
 ((@Eq Nat (@List.length CommitD (@landC x9)) (@List.length CommitD (@goC (@List.take Deed5D x14 (@PreA.l x))))) ∧
 ((@Eq TreeD (@treeC (@landC x9)) (@treeC (@goC (@List.take Deed5D x14 (@PreA.l x))))) ∧
 ((@Eq (@List CommitD) (@landC x9) (@goC (@List.take Deed5D x14 (@PreA.l x)))) ∧
 ((@Eq (@List (@Prod Bs Int)) (@kvC (@landC x9)) (@kvC (@goC (@List.take Deed5D x14 (@PreA.l x))))) ∧
 ((@Eq (@List VerdictD) (@wasR (@goC (@List.take Deed5D x8 (@PreA.l x)))) (@wasR (@goC (@List.take Deed5D x14 (@PreA.l x))))) ∧
 ((@Nat.le x14 (@List.length Deed5D (@PreA.l x))) ∧
 (@LT.lt Nat _ (@Nat.sub (@List.length Deed5D (@PreA.l x)) x14) (@Nat.sub (@List.length Deed5D (@PreA.l x)) x8)))))))))))))))))))))))))) ∧
 (∃ x15 : LandA,
 ((@Eq Int (@Deed5D.base (@List.getD Deed5D (@PreA.l x) (@Int.toNat (Nat.cast x8 : Int)) (@Deed5D.mk (0 : Int) (@List.nil UInt8) (@List.nil ChangeD)))) (@LandA.base x15)) ∧
 ((@Eq Bs (@Deed5D.ref (@List.getD Deed5D (@PreA.l x) (@Int.toNat (Nat.cast x8 : Int)) (@Deed5D.mk (0 : Int) (@List.nil UInt8) (@List.nil ChangeD)))) (@LandA.ref x15)) ∧
 ((@Eq (@List ChangeD) (@Deed5D.l (@List.getD Deed5D (@PreA.l x) (@Int.toNat (Nat.cast x8 : Int)) (@Deed5D.mk (0 : Int) (@List.nil UInt8) (@List.nil ChangeD)))) (@LandA.l x15)) ∧
 ((@Eq Nat (0 : Nat) (0 : Nat)) ∧
 ((@Eq Nat (@List.length CommitD (@goC (@List.take Deed5D x8 (@PreA.l x)))) (@List.length CommitD (@LandA.C x15))) ∧
 ((@Eq TreeD (@treeC (@goC (@List.take Deed5D x8 (@PreA.l x)))) (@treeC (@LandA.C x15))) ∧
 ((@Eq (@List CommitD) (@goC (@List.take Deed5D x8 (@PreA.l x))) (@LandA.C x15)) ∧
 ((@Eq (@List (@Prod Bs Int)) (@kvC (@goC (@List.take Deed5D x8 (@PreA.l x)))) (@kvC (@LandA.C x15))) ∧
 (((@Eq Bool (@fewG (@LandA.C x15)) Bool.true) ∧
 (@Eq Bool (@shortC (@LandA.l x15)) Bool.true)) ∧
 (∀ x16 : Unit,
 (True →
 (br (@BEq.beq Int _ (@VerdictD.code (@landV x15)) (2 : Int))
 (∃ x17 : ReadA,
 ((@Eq Bs (@Array.toList UInt8 (@ByteArray.data (@ByteArray.mk (@List.toArray UInt8 (@List.cons UInt8 (97 : UInt8) (@List.nil UInt8)))))) (@ReadA.p x17)) ∧
 ((@Eq Nat (0 : Nat) (0 : Nat)) ∧
 ((@Eq Nat (@List.length CommitD (@landC x15)) (@List.length CommitD (@ReadA.C x17))) ∧
 ((@Eq TreeD (@treeC (@landC x15)) (@treeC (@ReadA.C x17))) ∧
 ((@Eq (@List CommitD) (@landC x15) (@ReadA.C x17)) ∧
 ((@Eq (@List (@Prod Bs Int)) (@kvC (@landC x15)) (@kvC (@ReadA.C x17))) ∧
 ((@Eq Bool (@shortB (@ReadA.p x17)) Bool.true) ∧
 (∀ x18 : Unit,
 (True →
 (((@Nat.le (@HMul.hMul _ _ _ _ (@List.length VerdictD (@wasR (@goC (@List.take Deed5D x8 (@PreA.l x))))) (80 : Nat)) room47) ∧
 (@Nat.le (@HMul.hMul _ _ _ _ (1 : Nat) (80 : Nat)) room47)) →
 (br (@Bool.and (@Bool.and (@Decidable.decide (@LE.le Nat _ (@HAdd.hAdd _ _ _ _ (0 : Nat) (1 : Nat)) (@List.length VerdictD (@List.cons VerdictD (@VerdictD.mk (@VerdictD.code (@readV x17)) (@VerdictD.session (@readV x17)) (@VerdictD.rev (@readV x17)) (@VerdictD.path (@readV x17)) (@VerdictD.digest (@readV x17)) (@VerdictD.commits (@readV x17)) (@VerdictD.member (@readV x17))) (@List.nil VerdictD)))) _) (@Decidable.decide (@LE.le Nat _ (@HAdd.hAdd _ _ _ _ (0 : Nat) (@List.length VerdictD (@wasR (@goC (@List.take Deed5D x8 (@PreA.l x)))))) (@List.length VerdictD (@wasR (@goC (@List.take Deed5D x8 (@PreA.l x)))))) _)) (@Decidable.decide (@LE.le Nat _ (@HMul.hMul _ _ _ _ (@HAdd.hAdd _ _ _ _ (@List.length VerdictD (@wasR (@goC (@List.take Deed5D x8 (@PreA.l x))))) (@List.length VerdictD (@List.take VerdictD (1 : Nat) (@List.drop VerdictD (0 : Nat) (@List.cons VerdictD (@VerdictD.mk (@VerdictD.code (@readV x17)) (@VerdictD.session (@readV x17)) (@VerdictD.rev (@readV x17)) (@VerdictD.path (@readV x17)) (@VerdictD.digest (@readV x17)) (@VerdictD.commits (@readV x17)) (@VerdictD.member (@readV x17))) (@List.nil VerdictD)))))) (80 : Nat)) room47) _))
 (∃ x19 : Nat,
 ((@Eq Int (@Go.IntKind.wrap Go.IntKind.i64 (@HAdd.hAdd Int Int Int _ (Nat.cast x8 : Int) (1 : Int))) (Nat.cast x19 : Int)) ∧
 ((@Eq Nat (0 : Nat) (0 : Nat)) ∧
 ((@Eq Nat (@HAdd.hAdd _ _ _ _ (@List.length VerdictD (@wasR (@goC (@List.take Deed5D x8 (@PreA.l x))))) (@List.length VerdictD (@List.take VerdictD (1 : Nat) (@List.drop VerdictD (0 : Nat) (@List.cons VerdictD (@VerdictD.mk (@VerdictD.code (@readV x17)) (@VerdictD.session (@readV x17)) (@VerdictD.rev (@readV x17)) (@VerdictD.path (@readV x17)) (@VerdictD.digest (@readV x17)) (@VerdictD.commits (@readV x17)) (@VerdictD.member (@readV x17))) (@List.nil VerdictD)))))) (@List.length VerdictD (@wasR (@goC (@List.take Deed5D x19 (@PreA.l x)))))) ∧
 ((@Eq Nat (0 : Nat) (0 : Nat)) ∧
 ((@Eq Nat (@List.length CommitD (@ReadA.C x17)) (@List.length CommitD (@goC (@List.take Deed5D x19 (@PreA.l x))))) ∧
 ((@Eq TreeD (@treeC (@ReadA.C x17)) (@treeC (@goC (@List.take Deed5D x19 (@PreA.l x))))) ∧
 ((@Eq (@List CommitD) (@ReadA.C x17) (@goC (@List.take Deed5D x19 (@PreA.l x)))) ∧
 ((@Eq (@List (@Prod Bs Int)) (@kvC (@ReadA.C x17)) (@kvC (@goC (@List.take Deed5D x19 (@PreA.l x))))) ∧
 ((@Eq (@List VerdictD) (@HAppend.hAppend (@List VerdictD) (@List VerdictD) (@List VerdictD) _ (@List.take VerdictD (@List.length VerdictD (@wasR (@goC (@List.take Deed5D x8 (@PreA.l x))))) (@List.drop VerdictD (0 : Nat) (@wasR (@goC (@List.take Deed5D x8 (@PreA.l x)))))) (@List.take VerdictD (1 : Nat) (@List.drop VerdictD (0 : Nat) (@List.cons VerdictD (@VerdictD.mk (@VerdictD.code (@readV x17)) (@VerdictD.session (@readV x17)) (@VerdictD.rev (@readV x17)) (@VerdictD.path (@readV x17)) (@VerdictD.digest (@readV x17)) (@VerdictD.commits (@readV x17)) (@VerdictD.member (@readV x17))) (@List.nil VerdictD))))) (@wasR (@goC (@List.take Deed5D x19 (@PreA.l x))))) ∧
 ((@Nat.le x19 (@List.length Deed5D (@PreA.l x))) ∧
 (@LT.lt Nat _ (@Nat.sub (@List.length Deed5D (@PreA.l x)) x19) (@Nat.sub (@List.length Deed5D (@PreA.l x)) x8)))))))))))))
 (Bad "check" "law.go:299")))))))))))))
 (∃ x20 : Nat,
 ((@Eq Int (@Go.IntKind.wrap Go.IntKind.i64 (@HAdd.hAdd Int Int Int _ (Nat.cast x8 : Int) (1 : Int))) (Nat.cast x20 : Int)) ∧
 ((@Eq Nat (0 : Nat) (0 : Nat)) ∧
 ((@Eq Nat (@List.length VerdictD (@wasR (@goC (@List.take Deed5D x8 (@PreA.l x))))) (@List.length VerdictD (@wasR (@goC (@List.take Deed5D x20 (@PreA.l x)))))) ∧
 ((@Eq Nat (0 : Nat) (0 : Nat)) ∧
 ((@Eq Nat (@List.length CommitD (@landC x15)) (@List.length CommitD (@goC (@List.take Deed5D x20 (@PreA.l x))))) ∧
 ((@Eq TreeD (@treeC (@landC x15)) (@treeC (@goC (@List.take Deed5D x20 (@PreA.l x))))) ∧
 ((@Eq (@List CommitD) (@landC x15) (@goC (@List.take Deed5D x20 (@PreA.l x)))) ∧
 ((@Eq (@List (@Prod Bs Int)) (@kvC (@landC x15)) (@kvC (@goC (@List.take Deed5D x20 (@PreA.l x))))) ∧
 ((@Eq (@List VerdictD) (@wasR (@goC (@List.take Deed5D x8 (@PreA.l x)))) (@wasR (@goC (@List.take Deed5D x20 (@PreA.l x))))) ∧
 ((@Nat.le x20 (@List.length Deed5D (@PreA.l x))) ∧
 (@LT.lt Nat _ (@Nat.sub (@List.length Deed5D (@PreA.l x)) x20) (@Nat.sub (@List.length Deed5D (@PreA.l x)) x8)))))))))))))))))))))))))))
 (Bad "check" "law.go:297"))
 (Bad "check" "law.go:297"))
 (Bad "check" "law.go:297"))
 (∃ x21 : (@List CommitD),
 ((@Eq Nat (0 : Nat) (0 : Nat)) ∧
 ((@Eq Nat (@List.length CommitD (@goC (@List.take Deed5D x8 (@PreA.l x)))) (@List.length CommitD x21)) ∧
 ((@Eq TreeD (@treeC (@goC (@List.take Deed5D x8 (@PreA.l x)))) (@treeC x21)) ∧
 ((@Eq (@List CommitD) (@goC (@List.take Deed5D x8 (@PreA.l x))) x21) ∧
 ((@Eq (@List (@Prod Bs Int)) (@kvC (@goC (@List.take Deed5D x8 (@PreA.l x)))) (@kvC x21)) ∧
 ((@Eq Bool (@fewG x21) Bool.true) ∧
 (∀ x22 : Unit,
 (True →
 ((@LE.le Nat _ (@HMul.hMul _ _ _ _ (@List.length VerdictD (@wasR (@goC (@List.take Deed5D x8 (@PreA.l x))))) (80 : Nat)) room47) →
 ((@LE.le Nat _ (@HMul.hMul _ _ _ _ (@List.length CommitD x21) (56 : Nat)) room47) →
 (br (@bne Int _ (Nat.cast (@List.length VerdictD (@wasR (@goC (@List.take Deed5D x8 (@PreA.l x))))) : Int) (Nat.cast (@List.length CommitD x21) : Int))
 (@Eq Bool Bool.false Bool.true)
 ((@LE.le Nat _ (@HMul.hMul _ _ _ _ (@List.length CommitD x21) (56 : Nat)) room47) →
 (br (@BEq.beq Int _ (Nat.cast (@List.length CommitD x21) : Int) (0 : Int))
 (@Eq Bool Bool.true Bool.true)
 ((@LE.le Nat _ (@HMul.hMul _ _ _ _ (@List.length CommitD x21) (56 : Nat)) room47) →
 (br (@bne Int _ (Nat.cast (@List.length CommitD x21) : Int) (0 : Int))
 ((@LE.le Nat _ (@HMul.hMul _ _ _ _ (@List.length CommitD x21) (56 : Nat)) room47) →
 ((@LE.le Nat _ (@HMul.hMul _ _ _ _ (@List.length CommitD x21) (56 : Nat)) room47) →
 (br (@bne Int _ (Nat.cast (@List.length CommitD x21) : Int) (0 : Int))
 (br (@bndB (@List.length CommitD x21) (@Option.none Int) (@Option.some Int (@Go.IntKind.wrap Go.IntKind.i64 (@HAdd.hAdd Int Int Int _ (@Int.tmod (@Go.IntKind.wrap Go.IntKind.i64 (@HAdd.hAdd Int Int Int _ (@Int.tmod (@PreA.n x) (Nat.cast (@List.length CommitD x21) : Int)) (Nat.cast (@List.length CommitD x21) : Int))) (Nat.cast (@List.length CommitD x21) : Int)) (1 : Int)))) (@Option.none Int))
 (@Or (∃ x23 : (@List CommitD),
 ((@Eq (@List CommitD) (@cutL CommitD x21 (@Option.none Int) (@Option.some Int (@Go.IntKind.wrap Go.IntKind.i64 (@HAdd.hAdd Int Int Int _ (@Int.tmod (@Go.IntKind.wrap Go.IntKind.i64 (@HAdd.hAdd Int Int Int _ (@Int.tmod (@PreA.n x) (Nat.cast (@List.length CommitD x21) : Int)) (Nat.cast (@List.length CommitD x21) : Int))) (Nat.cast (@List.length CommitD x21) : Int)) (1 : Int))))) x23) ∧
 (((@Eq Bool (@mayM x23) Bool.true) ∧
 (@LoadsTo x23 (@List.length CommitD x23))) ∧
 (∀ x24 : Unit,
 (True →
 (br (@bndB (@List.length CommitD x21) (@Option.some Int (@Go.IntKind.wrap Go.IntKind.i64 (@HAdd.hAdd Int Int Int _ (@Int.tmod (@Go.IntKind.wrap Go.IntKind.i64 (@HAdd.hAdd Int Int Int _ (@Int.tmod (@PreA.n x) (Nat.cast (@List.length CommitD x21) : Int)) (Nat.cast (@List.length CommitD x21) : Int))) (Nat.cast (@List.length CommitD x21) : Int)) (1 : Int)))) (@Option.none Int) (@Option.none Int))
 (@Or (∃ x25 : (@List CommitD),
 ((@Eq (@List CommitD) (@cutL CommitD x21 (@Option.some Int (@Go.IntKind.wrap Go.IntKind.i64 (@HAdd.hAdd Int Int Int _ (@Int.tmod (@Go.IntKind.wrap Go.IntKind.i64 (@HAdd.hAdd Int Int Int _ (@Int.tmod (@PreA.n x) (Nat.cast (@List.length CommitD x21) : Int)) (Nat.cast (@List.length CommitD x21) : Int))) (Nat.cast (@List.length CommitD x21) : Int)) (1 : Int)))) (@Option.none Int)) x25) ∧
 (((@Eq Bool (@mayM x25) Bool.true) ∧
 (@LoadsTo x25 (@List.length CommitD x25))) ∧
 (∀ x26 : Unit,
 (True →
 (∃ x27 : (@List CommitD),
 ((@Eq Nat (0 : Nat) (0 : Nat)) ∧
 ((@Eq Nat (@List.length CommitD x23) (@List.length CommitD x27)) ∧
 ((@Eq TreeD (@treeC x23) (@treeC x27)) ∧
 ((@Eq (@List CommitD) x23 x27) ∧
 ((@Eq (@List (@Prod Bs Int)) (@kvC x23) (@kvC x27)) ∧
 (True ∧
 (∀ x28 : Unit,
 (True →
 (br (@BEq.beq Int _ (Nat.cast (@List.length CommitD x27) : Int) (@Go.IntKind.wrap Go.IntKind.i64 (@HAdd.hAdd Int Int Int _ (@Int.tmod (@Go.IntKind.wrap Go.IntKind.i64 (@HAdd.hAdd Int Int Int _ (@Int.tmod (@PreA.n x) (Nat.cast (@List.length CommitD x21) : Int)) (Nat.cast (@List.length CommitD x21) : Int))) (Nat.cast (@List.length CommitD x21) : Int)) (1 : Int))))
 (br (@Decidable.decide ((@LE.le Int _ (0 : Int) (@Int.tmod (@Go.IntKind.wrap Go.IntKind.i64 (@HAdd.hAdd Int Int Int _ (@Int.tmod (@PreA.n x) (Nat.cast (@List.length CommitD x21) : Int)) (Nat.cast (@List.length CommitD x21) : Int))) (Nat.cast (@List.length CommitD x21) : Int))) ∧
 (@LT.lt Int _ (@Int.tmod (@Go.IntKind.wrap Go.IntKind.i64 (@HAdd.hAdd Int Int Int _ (@Int.tmod (@PreA.n x) (Nat.cast (@List.length CommitD x21) : Int)) (Nat.cast (@List.length CommitD x21) : Int))) (Nat.cast (@List.length CommitD x21) : Int)) (Nat.cast (@List.length VerdictD (@wasR (@goC (@List.take Deed5D x8 (@PreA.l x))))) : Int))) _)
 (br (@Decidable.decide (@LT.lt Nat _ (@HAdd.hAdd _ _ _ _ (0 : Nat) (@Int.toNat (@Int.tmod (@Go.IntKind.wrap Go.IntKind.i64 (@HAdd.hAdd Int Int Int _ (@Int.tmod (@PreA.n x) (Nat.cast (@List.length CommitD x21) : Int)) (Nat.cast (@List.length CommitD x21) : Int))) (Nat.cast (@List.length CommitD x21) : Int)))) (@List.length VerdictD (@wasR (@goC (@List.take Deed5D x8 (@PreA.l x)))))) _)
 (∃ x29 : ReadA,
 ((@Eq Bs (@Array.toList UInt8 (@ByteArray.data (@ByteArray.mk (@List.toArray UInt8 (@List.cons UInt8 (97 : UInt8) (@List.nil UInt8)))))) (@ReadA.p x29)) ∧
 ((@Eq Nat (0 : Nat) (0 : Nat)) ∧
 ((@Eq Nat (@List.length CommitD x27) (@List.length CommitD (@ReadA.C x29))) ∧
 ((@Eq TreeD (@treeC x27) (@treeC (@ReadA.C x29))) ∧
 ((@Eq (@List CommitD) x27 (@ReadA.C x29)) ∧
 ((@Eq (@List (@Prod Bs Int)) (@kvC x27) (@kvC (@ReadA.C x29))) ∧
 ((@Eq Bool (@shortB (@ReadA.p x29)) Bool.true) ∧
 (∀ x30 : Unit,
 (True →
 (∃ x31 : Ver2,
 ((@Eq Int (@VerdictD.code (@readV x29)) (@VerdictD.code (@Ver2.a x31))) ∧
 ((@Eq Int (@VerdictD.session (@readV x29)) (@VerdictD.session (@Ver2.a x31))) ∧
 ((@Eq Int (@VerdictD.rev (@readV x29)) (@VerdictD.rev (@Ver2.a x31))) ∧
 ((@Eq Bs (@VerdictD.path (@readV x29)) (@VerdictD.path (@Ver2.a x31))) ∧
 ((@Eq Int (@VerdictD.digest (@readV x29)) (@VerdictD.digest (@Ver2.a x31))) ∧
 ((@Eq (@List CommitD) (@VerdictD.commits (@readV x29)) (@VerdictD.commits (@Ver2.a x31))) ∧
 ((@Eq Int (@VerdictD.member (@readV x29)) (@VerdictD.member (@Ver2.a x31))) ∧
 ((@Eq Int (@VerdictD.code (@List.getD VerdictD (@wasR (@goC (@List.take Deed5D x8 (@PreA.l x)))) (@HAdd.hAdd _ _ _ _ (0 : Nat) (@Int.toNat (@Int.tmod (@Go.IntKind.wrap Go.IntKind.i64 (@HAdd.hAdd Int Int Int _ (@Int.tmod (@PreA.n x) (Nat.cast (@List.length CommitD x21) : Int)) (Nat.cast (@List.length CommitD x21) : Int))) (Nat.cast (@List.length CommitD x21) : Int)))) (@VerdictD.mk (0 : Int) (0 : Int) (0 : Int) (@List.nil UInt8) (0 : Int) (@List.nil CommitD) (0 : Int)))) (@VerdictD.code (@Ver2.b x31))) ∧
 ((@Eq Int (@VerdictD.session (@List.getD VerdictD (@wasR (@goC (@List.take Deed5D x8 (@PreA.l x)))) (@HAdd.hAdd _ _ _ _ (0 : Nat) (@Int.toNat (@Int.tmod (@Go.IntKind.wrap Go.IntKind.i64 (@HAdd.hAdd Int Int Int _ (@Int.tmod (@PreA.n x) (Nat.cast (@List.length CommitD x21) : Int)) (Nat.cast (@List.length CommitD x21) : Int))) (Nat.cast (@List.length CommitD x21) : Int)))) (@VerdictD.mk (0 : Int) (0 : Int) (0 : Int) (@List.nil UInt8) (0 : Int) (@List.nil CommitD) (0 : Int)))) (@VerdictD.session (@Ver2.b x31))) ∧
 ((@Eq Int (@VerdictD.rev (@List.getD VerdictD (@wasR (@goC (@List.take Deed5D x8 (@PreA.l x)))) (@HAdd.hAdd _ _ _ _ (0 : Nat) (@Int.toNat (@Int.tmod (@Go.IntKind.wrap Go.IntKind.i64 (@HAdd.hAdd Int Int Int _ (@Int.tmod (@PreA.n x) (Nat.cast (@List.length CommitD x21) : Int)) (Nat.cast (@List.length CommitD x21) : Int))) (Nat.cast (@List.length CommitD x21) : Int)))) (@VerdictD.mk (0 : Int) (0 : Int) (0 : Int) (@List.nil UInt8) (0 : Int) (@List.nil CommitD) (0 : Int)))) (@VerdictD.rev (@Ver2.b x31))) ∧
 ((@Eq Bs (@VerdictD.path (@List.getD VerdictD (@wasR (@goC (@List.take Deed5D x8 (@PreA.l x)))) (@HAdd.hAdd _ _ _ _ (0 : Nat) (@Int.toNat (@Int.tmod (@Go.IntKind.wrap Go.IntKind.i64 (@HAdd.hAdd Int Int Int _ (@Int.tmod (@PreA.n x) (Nat.cast (@List.length CommitD x21) : Int)) (Nat.cast (@List.length CommitD x21) : Int))) (Nat.cast (@List.length CommitD x21) : Int)))) (@VerdictD.mk (0 : Int) (0 : Int) (0 : Int) (@List.nil UInt8) (0 : Int) (@List.nil CommitD) (0 : Int)))) (@VerdictD.path (@Ver2.b x31))) ∧
 ((@Eq Int (@VerdictD.digest (@List.getD VerdictD (@wasR (@goC (@List.take Deed5D x8 (@PreA.l x)))) (@HAdd.hAdd _ _ _ _ (0 : Nat) (@Int.toNat (@Int.tmod (@Go.IntKind.wrap Go.IntKind.i64 (@HAdd.hAdd Int Int Int _ (@Int.tmod (@PreA.n x) (Nat.cast (@List.length CommitD x21) : Int)) (Nat.cast (@List.length CommitD x21) : Int))) (Nat.cast (@List.length CommitD x21) : Int)))) (@VerdictD.mk (0 : Int) (0 : Int) (0 : Int) (@List.nil UInt8) (0 : Int) (@List.nil CommitD) (0 : Int)))) (@VerdictD.digest (@Ver2.b x31))) ∧
 ((@Eq (@List CommitD) (@VerdictD.commits (@List.getD VerdictD (@wasR (@goC (@List.take Deed5D x8 (@PreA.l x)))) (@HAdd.hAdd _ _ _ _ (0 : Nat) (@Int.toNat (@Int.tmod (@Go.IntKind.wrap Go.IntKind.i64 (@HAdd.hAdd Int Int Int _ (@Int.tmod (@PreA.n x) (Nat.cast (@List.length CommitD x21) : Int)) (Nat.cast (@List.length CommitD x21) : Int))) (Nat.cast (@List.length CommitD x21) : Int)))) (@VerdictD.mk (0 : Int) (0 : Int) (0 : Int) (@List.nil UInt8) (0 : Int) (@List.nil CommitD) (0 : Int)))) (@VerdictD.commits (@Ver2.b x31))) ∧
 ((@Eq Int (@VerdictD.member (@List.getD VerdictD (@wasR (@goC (@List.take Deed5D x8 (@PreA.l x)))) (@HAdd.hAdd _ _ _ _ (0 : Nat) (@Int.toNat (@Int.tmod (@Go.IntKind.wrap Go.IntKind.i64 (@HAdd.hAdd Int Int Int _ (@Int.tmod (@PreA.n x) (Nat.cast (@List.length CommitD x21) : Int)) (Nat.cast (@List.length CommitD x21) : Int))) (Nat.cast (@List.length CommitD x21) : Int)))) (@VerdictD.mk (0 : Int) (0 : Int) (0 : Int) (@List.nil UInt8) (0 : Int) (@List.nil CommitD) (0 : Int)))) (@VerdictD.member (@Ver2.b x31))) ∧
 (True ∧
 (∀ x32 : Unit,
 (True →
 (br (@eqV (@Ver2.a x31) (@Ver2.b x31))
 ((@LE.le Nat _ (@HMul.hMul _ _ _ _ (@List.length CommitD x21) (56 : Nat)) room47) →
 (@Eq Bool (@BEq.beq Bool _ (@BEq.beq Int _ (0 : Int) (0 : Int)) (@BEq.beq Int _ (@Go.IntKind.wrap Go.IntKind.i64 (@HAdd.hAdd Int Int Int _ (@Int.tmod (@Go.IntKind.wrap Go.IntKind.i64 (@HAdd.hAdd Int Int Int _ (@Int.tmod (@PreA.n x) (Nat.cast (@List.length CommitD x21) : Int)) (Nat.cast (@List.length CommitD x21) : Int))) (Nat.cast (@List.length CommitD x21) : Int)) (1 : Int))) (Nat.cast (@List.length CommitD x21) : Int))) Bool.true))
 (@Eq Bool Bool.false Bool.true))))))))))))))))))))))))))))))
 (Bad "check" "law.go:312"))
 (Bad "check" "law.go:312"))
 (@Eq Bool Bool.false Bool.true)))))))))))))))) (∃ x33 : (@List CommitD),
 ((@Eq (@List CommitD) (@cutL CommitD x21 (@Option.some Int (@Go.IntKind.wrap Go.IntKind.i64 (@HAdd.hAdd Int Int Int _ (@Int.tmod (@Go.IntKind.wrap Go.IntKind.i64 (@HAdd.hAdd Int Int Int _ (@Int.tmod (@PreA.n x) (Nat.cast (@List.length CommitD x21) : Int)) (Nat.cast (@List.length CommitD x21) : Int))) (Nat.cast (@List.length CommitD x21) : Int)) (1 : Int)))) (@Option.none Int)) x33) ∧
 (((@Eq Bool (@mayM x33) Bool.true) ∧
 (@Not (@LoadsTo x33 (@List.length CommitD x33)))) ∧
 (∀ x34 : Unit,
 (True →
 (∃ x35 : (@List CommitD),
 ((@Eq Nat (0 : Nat) (0 : Nat)) ∧
 ((@Eq Nat (@List.length CommitD x23) (@List.length CommitD x35)) ∧
 ((@Eq TreeD (@treeC x23) (@treeC x35)) ∧
 ((@Eq (@List CommitD) x23 x35) ∧
 ((@Eq (@List (@Prod Bs Int)) (@kvC x23) (@kvC x35)) ∧
 (True ∧
 (∀ x36 : Unit,
 (True →
 (br (@BEq.beq Int _ (Nat.cast (@List.length CommitD x35) : Int) (@Go.IntKind.wrap Go.IntKind.i64 (@HAdd.hAdd Int Int Int _ (@Int.tmod (@Go.IntKind.wrap Go.IntKind.i64 (@HAdd.hAdd Int Int Int _ (@Int.tmod (@PreA.n x) (Nat.cast (@List.length CommitD x21) : Int)) (Nat.cast (@List.length CommitD x21) : Int))) (Nat.cast (@List.length CommitD x21) : Int)) (1 : Int))))
 (br (@Decidable.decide ((@LE.le Int _ (0 : Int) (@Int.tmod (@Go.IntKind.wrap Go.IntKind.i64 (@HAdd.hAdd Int Int Int _ (@Int.tmod (@PreA.n x) (Nat.cast (@List.length CommitD x21) : Int)) (Nat.cast (@List.length CommitD x21) : Int))) (Nat.cast (@List.length CommitD x21) : Int))) ∧
 (@LT.lt Int _ (@Int.tmod (@Go.IntKind.wrap Go.IntKind.i64 (@HAdd.hAdd Int Int Int _ (@Int.tmod (@PreA.n x) (Nat.cast (@List.length CommitD x21) : Int)) (Nat.cast (@List.length CommitD x21) : Int))) (Nat.cast (@List.length CommitD x21) : Int)) (Nat.cast (@List.length VerdictD (@wasR (@goC (@List.take Deed5D x8 (@PreA.l x))))) : Int))) _)
 (br (@Decidable.decide (@LT.lt Nat _ (@HAdd.hAdd _ _ _ _ (0 : Nat) (@Int.toNat (@Int.tmod (@Go.IntKind.wrap Go.IntKind.i64 (@HAdd.hAdd Int Int Int _ (@Int.tmod (@PreA.n x) (Nat.cast (@List.length CommitD x21) : Int)) (Nat.cast (@List.length CommitD x21) : Int))) (Nat.cast (@List.length CommitD x21) : Int)))) (@List.length VerdictD (@wasR (@goC (@List.take Deed5D x8 (@PreA.l x)))))) _)
 (∃ x37 : ReadA,
 ((@Eq Bs (@Array.toList UInt8 (@ByteArray.data (@ByteArray.mk (@List.toArray UInt8 (@List.cons UInt8 (97 : UInt8) (@List.nil UInt8)))))) (@ReadA.p x37)) ∧
 ((@Eq Nat (0 : Nat) (0 : Nat)) ∧
 ((@Eq Nat (@List.length CommitD x35) (@List.length CommitD (@ReadA.C x37))) ∧
 ((@Eq TreeD (@treeC x35) (@treeC (@ReadA.C x37))) ∧
 ((@Eq (@List CommitD) x35 (@ReadA.C x37)) ∧
 ((@Eq (@List (@Prod Bs Int)) (@kvC x35) (@kvC (@ReadA.C x37))) ∧
 ((@Eq Bool (@shortB (@ReadA.p x37)) Bool.true) ∧
 (∀ x38 : Unit,
 (True →
 (∃ x39 : Ver2,
 ((@Eq Int (@VerdictD.code (@readV x37)) (@VerdictD.code (@Ver2.a x39))) ∧
 ((@Eq Int (@VerdictD.session (@readV x37)) (@VerdictD.session (@Ver2.a x39))) ∧
 ((@Eq Int (@VerdictD.rev (@readV x37)) (@VerdictD.rev (@Ver2.a x39))) ∧
 ((@Eq Bs (@VerdictD.path (@readV x37)) (@VerdictD.path (@Ver2.a x39))) ∧
 ((@Eq Int (@VerdictD.digest (@readV x37)) (@VerdictD.digest (@Ver2.a x39))) ∧
 ((@Eq (@List CommitD) (@VerdictD.commits (@readV x37)) (@VerdictD.commits (@Ver2.a x39))) ∧
 ((@Eq Int (@VerdictD.member (@readV x37)) (@VerdictD.member (@Ver2.a x39))) ∧
 ((@Eq Int (@VerdictD.code (@List.getD VerdictD (@wasR (@goC (@List.take Deed5D x8 (@PreA.l x)))) (@HAdd.hAdd _ _ _ _ (0 : Nat) (@Int.toNat (@Int.tmod (@Go.IntKind.wrap Go.IntKind.i64 (@HAdd.hAdd Int Int Int _ (@Int.tmod (@PreA.n x) (Nat.cast (@List.length CommitD x21) : Int)) (Nat.cast (@List.length CommitD x21) : Int))) (Nat.cast (@List.length CommitD x21) : Int)))) (@VerdictD.mk (0 : Int) (0 : Int) (0 : Int) (@List.nil UInt8) (0 : Int) (@List.nil CommitD) (0 : Int)))) (@VerdictD.code (@Ver2.b x39))) ∧
 ((@Eq Int (@VerdictD.session (@List.getD VerdictD (@wasR (@goC (@List.take Deed5D x8 (@PreA.l x)))) (@HAdd.hAdd _ _ _ _ (0 : Nat) (@Int.toNat (@Int.tmod (@Go.IntKind.wrap Go.IntKind.i64 (@HAdd.hAdd Int Int Int _ (@Int.tmod (@PreA.n x) (Nat.cast (@List.length CommitD x21) : Int)) (Nat.cast (@List.length CommitD x21) : Int))) (Nat.cast (@List.length CommitD x21) : Int)))) (@VerdictD.mk (0 : Int) (0 : Int) (0 : Int) (@List.nil UInt8) (0 : Int) (@List.nil CommitD) (0 : Int)))) (@VerdictD.session (@Ver2.b x39))) ∧
 ((@Eq Int (@VerdictD.rev (@List.getD VerdictD (@wasR (@goC (@List.take Deed5D x8 (@PreA.l x)))) (@HAdd.hAdd _ _ _ _ (0 : Nat) (@Int.toNat (@Int.tmod (@Go.IntKind.wrap Go.IntKind.i64 (@HAdd.hAdd Int Int Int _ (@Int.tmod (@PreA.n x) (Nat.cast (@List.length CommitD x21) : Int)) (Nat.cast (@List.length CommitD x21) : Int))) (Nat.cast (@List.length CommitD x21) : Int)))) (@VerdictD.mk (0 : Int) (0 : Int) (0 : Int) (@List.nil UInt8) (0 : Int) (@List.nil CommitD) (0 : Int)))) (@VerdictD.rev (@Ver2.b x39))) ∧
 ((@Eq Bs (@VerdictD.path (@List.getD VerdictD (@wasR (@goC (@List.take Deed5D x8 (@PreA.l x)))) (@HAdd.hAdd _ _ _ _ (0 : Nat) (@Int.toNat (@Int.tmod (@Go.IntKind.wrap Go.IntKind.i64 (@HAdd.hAdd Int Int Int _ (@Int.tmod (@PreA.n x) (Nat.cast (@List.length CommitD x21) : Int)) (Nat.cast (@List.length CommitD x21) : Int))) (Nat.cast (@List.length CommitD x21) : Int)))) (@VerdictD.mk (0 : Int) (0 : Int) (0 : Int) (@List.nil UInt8) (0 : Int) (@List.nil CommitD) (0 : Int)))) (@VerdictD.path (@Ver2.b x39))) ∧
 ((@Eq Int (@VerdictD.digest (@List.getD VerdictD (@wasR (@goC (@List.take Deed5D x8 (@PreA.l x)))) (@HAdd.hAdd _ _ _ _ (0 : Nat) (@Int.toNat (@Int.tmod (@Go.IntKind.wrap Go.IntKind.i64 (@HAdd.hAdd Int Int Int _ (@Int.tmod (@PreA.n x) (Nat.cast (@List.length CommitD x21) : Int)) (Nat.cast (@List.length CommitD x21) : Int))) (Nat.cast (@List.length CommitD x21) : Int)))) (@VerdictD.mk (0 : Int) (0 : Int) (0 : Int) (@List.nil UInt8) (0 : Int) (@List.nil CommitD) (0 : Int)))) (@VerdictD.digest (@Ver2.b x39))) ∧
 ((@Eq (@List CommitD) (@VerdictD.commits (@List.getD VerdictD (@wasR (@goC (@List.take Deed5D x8 (@PreA.l x)))) (@HAdd.hAdd _ _ _ _ (0 : Nat) (@Int.toNat (@Int.tmod (@Go.IntKind.wrap Go.IntKind.i64 (@HAdd.hAdd Int Int Int _ (@Int.tmod (@PreA.n x) (Nat.cast (@List.length CommitD x21) : Int)) (Nat.cast (@List.length CommitD x21) : Int))) (Nat.cast (@List.length CommitD x21) : Int)))) (@VerdictD.mk (0 : Int) (0 : Int) (0 : Int) (@List.nil UInt8) (0 : Int) (@List.nil CommitD) (0 : Int)))) (@VerdictD.commits (@Ver2.b x39))) ∧
 ((@Eq Int (@VerdictD.member (@List.getD VerdictD (@wasR (@goC (@List.take Deed5D x8 (@PreA.l x)))) (@HAdd.hAdd _ _ _ _ (0 : Nat) (@Int.toNat (@Int.tmod (@Go.IntKind.wrap Go.IntKind.i64 (@HAdd.hAdd Int Int Int _ (@Int.tmod (@PreA.n x) (Nat.cast (@List.length CommitD x21) : Int)) (Nat.cast (@List.length CommitD x21) : Int))) (Nat.cast (@List.length CommitD x21) : Int)))) (@VerdictD.mk (0 : Int) (0 : Int) (0 : Int) (@List.nil UInt8) (0 : Int) (@List.nil CommitD) (0 : Int)))) (@VerdictD.member (@Ver2.b x39))) ∧
 (True ∧
 (∀ x40 : Unit,
 (True →
 (br (@eqV (@Ver2.a x39) (@Ver2.b x39))
 ((@LE.le Nat _ (@HMul.hMul _ _ _ _ (@List.length CommitD x21) (56 : Nat)) room47) →
 (@Eq Bool (@BEq.beq Bool _ (@BEq.beq Int _ (4 : Int) (0 : Int)) (@BEq.beq Int _ (@Go.IntKind.wrap Go.IntKind.i64 (@HAdd.hAdd Int Int Int _ (@Int.tmod (@Go.IntKind.wrap Go.IntKind.i64 (@HAdd.hAdd Int Int Int _ (@Int.tmod (@PreA.n x) (Nat.cast (@List.length CommitD x21) : Int)) (Nat.cast (@List.length CommitD x21) : Int))) (Nat.cast (@List.length CommitD x21) : Int)) (1 : Int))) (Nat.cast (@List.length CommitD x21) : Int))) Bool.true))
 (@Eq Bool Bool.false Bool.true))))))))))))))))))))))))))))))
 (Bad "check" "law.go:312"))
 (Bad "check" "law.go:312"))
 (@Eq Bool Bool.false Bool.true)))))))))))))))))
 (Bad "check" "law.go:311"))))))) (∃ x41 : (@List CommitD),
 ((@Eq (@List CommitD) (@cutL CommitD x21 (@Option.none Int) (@Option.some Int (@Go.IntKind.wrap Go.IntKind.i64 (@HAdd.hAdd Int Int Int _ (@Int.tmod (@Go.IntKind.wrap Go.IntKind.i64 (@HAdd.hAdd Int Int Int _ (@Int.tmod (@PreA.n x) (Nat.cast (@List.length CommitD x21) : Int)) (Nat.cast (@List.length CommitD x21) : Int))) (Nat.cast (@List.length CommitD x21) : Int)) (1 : Int))))) x41) ∧
 (((@Eq Bool (@mayM x41) Bool.true) ∧
 (@Not (@LoadsTo x41 (@List.length CommitD x41)))) ∧
 (∀ x42 : Unit,
 (True →
 (br (@bndB (@List.length CommitD x21) (@Option.some Int (@Go.IntKind.wrap Go.IntKind.i64 (@HAdd.hAdd Int Int Int _ (@Int.tmod (@Go.IntKind.wrap Go.IntKind.i64 (@HAdd.hAdd Int Int Int _ (@Int.tmod (@PreA.n x) (Nat.cast (@List.length CommitD x21) : Int)) (Nat.cast (@List.length CommitD x21) : Int))) (Nat.cast (@List.length CommitD x21) : Int)) (1 : Int)))) (@Option.none Int) (@Option.none Int))
 (@Or (∃ x43 : (@List CommitD),
 ((@Eq (@List CommitD) (@cutL CommitD x21 (@Option.some Int (@Go.IntKind.wrap Go.IntKind.i64 (@HAdd.hAdd Int Int Int _ (@Int.tmod (@Go.IntKind.wrap Go.IntKind.i64 (@HAdd.hAdd Int Int Int _ (@Int.tmod (@PreA.n x) (Nat.cast (@List.length CommitD x21) : Int)) (Nat.cast (@List.length CommitD x21) : Int))) (Nat.cast (@List.length CommitD x21) : Int)) (1 : Int)))) (@Option.none Int)) x43) ∧
 (((@Eq Bool (@mayM x43) Bool.true) ∧
 (@LoadsTo x43 (@List.length CommitD x43))) ∧
 (∀ x44 : Unit,
 (True →
 (@Eq Bool Bool.false Bool.true)))))) (∃ x45 : (@List CommitD),
 ((@Eq (@List CommitD) (@cutL CommitD x21 (@Option.some Int (@Go.IntKind.wrap Go.IntKind.i64 (@HAdd.hAdd Int Int Int _ (@Int.tmod (@Go.IntKind.wrap Go.IntKind.i64 (@HAdd.hAdd Int Int Int _ (@Int.tmod (@PreA.n x) (Nat.cast (@List.length CommitD x21) : Int)) (Nat.cast (@List.length CommitD x21) : Int))) (Nat.cast (@List.length CommitD x21) : Int)) (1 : Int)))) (@Option.none Int)) x45) ∧
 (((@Eq Bool (@mayM x45) Bool.true) ∧
 (@Not (@LoadsTo x45 (@List.length CommitD x45)))) ∧
 (∀ x46 : Unit,
 (True →
 (@Eq Bool Bool.false Bool.true)))))))
 (Bad "check" "law.go:311"))))))))
 (Bad "check" "law.go:310"))
 (Bad "check" "law.go:309"))))
 (Bad "check" "law.go:309"))))))))))))))))))))))))))))))))))))) := by kernel_rfl

end Go.Proofs.Ytildflamnehilaa.Ses

namespace Go.Proofs.Ytildflamnehilaa.Ses
open Go Go.Proofs Go.Proofs.Ytildflamnehilaa.Sx Go.Proofs.Ytildflamnehilaa.Trx

theorem getM {C : List CommitD} {i : Nat} (h : i < C.length) : C.getD i noM = C[i] := by simp [List.getD, h]
theorem hit_suc (C : List CommitD) (b : Int) (p : Bs) (k : Nat) : hitC C b p (k + 1) = bif decide (b ≤ k) && hasP p (C.getD k noM) then some (C.getD k noM).rev else hitC C b p k := rfl
theorem hit_low {C : List CommitD} {b : Int} {p : Bs} : ∀ {k : Nat}, (k : Int) ≤ b → hitC C b p k = none
  | 0, _ => rfl
  | k + 1, h => by
    rw [hit_suc, decide_eq_false (by omega)]
    exact hit_low (k := k) (by omega)
theorem hit_above {C : List CommitD} {b : Int} {p : Bs} {i : Nat} : ∀ d : Nat, (∀ j, i ≤ j → j < i + d → hasP p (C.getD j noM) = false) → hitC C b p (i + d) = hitC C b p i
  | 0, _ => rfl
  | d + 1, h => by
    have e : i + (d + 1) = (i + d) + 1 := by omega
    rw [e, hit_suc, h (i + d) (by omega) (by omega), Bool.and_false]
    exact hit_above d fun j h1 h2 => h j h1 (by omega)
theorem hit_row {C : List CommitD} (h : OkC C) (b : Int) (p : Bs) : hitC C b p C.length = match getL p (rowC C) with
    | some x => bif decide (x.rev > b) then some x.rev else none
    | none => none := by
  rw [rowC_get]
  rcases last_at h.rev p with ⟨h1, h2⟩ | ⟨i, hi, x, h1, h2, h3, h4, _⟩
  · rw [h1]
    have := hit_above (C := C) (b := b) (p := p) (i := 0) C.length fun j _ hj => by
      rw [getM (by omega)]
      exact h2 j (by omega)
    rw [Nat.zero_add] at this
    rw [this]
    rfl
  · rw [h1]
    have e : i + 1 + (C.length - (i + 1)) = C.length := by omega
    have := hit_above (C := C) (b := b) (p := p) (i := i + 1) (C.length - (i + 1)) fun j h5 h6 => by
      rw [getM (by omega)]
      exact h4 j (by omega) (by omega)
    rw [e] at this
    rw [this]
    dsimp only
    by_cases hb : b ≤ (i : Int)
    · rw [hit_suc, getM hi, h3, decide_eq_true hb, decide_eq_true (show x.rev > b by omega), h.rev i hi, h2]
      rfl
    · rw [hit_low (by omega), decide_eq_false (show ¬ x.rev > b by omega)]
      rfl
theorem unlikeC_eq {l : List ChangeD} (h : unlikeC l) {a b : ChangeD} (ha : a ∈ l) (hb : b ∈ l) (e : a.path = b.path) : a = b := by
  induction l with
  | nil => cases ha
  | cons y r ih =>
    have hh := (List.pairwise_cons.1 h).1
    have ht := (List.pairwise_cons.1 h).2
    rcases List.mem_cons.1 ha with rfl | ha' <;> rcases List.mem_cons.1 hb with rfl | hb'
    · rfl
    · exact absurd e (hh b hb')
    · exact absurd e.symm (hh a ha')
    · exact ih ht ha' hb'
/-- what a leaf of the row says of the commits -/
theorem leaf_at {C : List CommitD} (h : OkC C) {x : LeafD} (hx : x ∈ rowC C) : hitC C 0 x.path C.length = some x.rev ∧ x.rev ≠ 0 ∧
    ∀ k, k < C.length → (C.getD k noM).rev = x.rev → ∀ c, c ∈ (C.getD k noM).changes → c.path = x.path → c.digest = x.digest ∧ c.gone = x.gone := by
  have hg : getL x.path (rowC C) = some x := (getL_iff (insLs_ord _)).2 ⟨hx, rfl⟩
  have h0 := hit_row h 0 x.path
  rw [hg] at h0
  rw [rowC_get] at hg
  rcases last_at h.rev x.path with ⟨h1, _⟩ | ⟨i, hi, y, h1, h2, h3, h4, h5⟩
  · rw [h1] at hg; cases hg
  · rw [h1] at hg
    have hxy : y = x := Option.some.inj hg
    subst hxy
    dsimp only at h0
    rw [decide_eq_true (show y.rev > 0 by omega)] at h0
    refine ⟨h0, by omega, fun k hk hr c hc hp => ?_⟩
    rw [getM hk] at hr hc
    have hki := h.rev k hk
    have : k = i := by omega
    subst this
    have h6 := lastOf_some h5
    obtain ⟨c', hc', rfl⟩ := List.mem_map.1 h6.1
    have e : c' = c := unlikeC_eq (h.unlike k hk) hc' hc (by rw [hp]; rfl)
    subst e
    exact ⟨rfl, rfl⟩
theorem lastJ_suc {c : CommitD} {p : Bs} {j : Nat} {w : Int} (h : j < c.changes.length) : lastJ c p (j + 1) w = bif (c.changes.getD j noC).path == p then c.rev else lastJ c p j w := by
  unfold lastJ
  rw [take_succ_getD noC h, List.any_append]
  simp only [List.any_cons, List.any_nil, Bool.or_false]
  cases ((c.changes.getD j noC).path == p) <;> cases (c.changes.take j).any (fun x => x.path == p) <;> rfl
theorem lastK_suc {C : List CommitD} {p : Bs} {k : Nat} : lastK C p (k + 1) = lastJ (C.getD k noM) p (C.getD k noM).changes.length (lastK C p k) := by
  unfold lastK lastJ
  rw [hit_suc, decide_eq_true (by omega), Bool.true_and, List.take_length]
  show _ = bif hasP p (C.getD k noM) then _ else _
  cases hasP p (C.getD k noM) <;> rfl

/-! ### deeds that may be -/

theorem roomG_of {l : List Deed5D} (h : roomG l = true) : l.length ≤ 100 ∧ ∀ i, i < l.length → shortC (l.getD i noD).l = true := by
  unfold roomG at h
  simp only [Bool.and_eq_true, decide_eq_true_eq, List.all_eq_true] at h
  refine ⟨h.1, fun i hi => ?_⟩
  have := h.2 _ (getD_mem (d := noD) hi)
  unfold okD at this
  simp only [Bool.and_eq_true, decide_eq_true_eq, List.all_eq_true] at this
  exact List.all_eq_true.2 fun c hc => decide_eq_true (by have := this.2.2 c hc; omega)
theorem go_few {l : List Deed5D} (h : l.length ≤ 100) (i : Nat) : fewG (goC (l.take i)) = true := by
  have hl : (l.take i).length ≤ 100 := by rw [List.length_take]; omega
  have ho := goC_ok (l.take i) (by omega)
  unfold fewG
  simp only [Bool.and_eq_true, decide_eq_true_eq, List.all_eq_true]
  exact ⟨by have := ho.len; omega, ho.ch⟩
theorem glaw_ok {loops : List (Nat × (St → LInv))} : EnvOK (Env Try.prog cod glawS loops) := Env_ok (by decide +kernel) (by
  intro p hp
  simp only [glawS, List.mem_cons, List.mem_nil_iff, or_false] at hp
  rcases hp with rfl | rfl | rfl | rfl | rfl | rfl | rfl | rfl | rfl | rfl | rfl | rfl | rfl
  · exact gawake_ok
  · exact roomg_ok
  · exact rcheck_ok
  · exact gnew_ok
  · exact land_ok
  · exact ghead_ok
  · exact commits_ok
  · exact rsort_ok
  · exact alike_ok
  · exact legal_ok
  · exact gleaves_ok
  · exact read_ok
  · exact altSpec_ok load1_ok load2_ok)
end Go.Proofs.Ytildflamnehilaa.Ses
