/- The reference for graphs: what the evaluator leaves of each function, and that it holds. No condition. -/
import Derived.Test.YtildflamnehilaaGreatGroB
import Derived.KernelRfl
set_option linter.unusedSimpArgs false
set_option linter.unusedVariables false

namespace Go.Proofs.YtildflamnehilaaGreat.Ses
open Go Go.Proofs Go.Proofs.YtildflamnehilaaGreat.Sx Go.Proofs.YtildflamnehilaaGreat.Trx

/-! ### the reference's tree -/

noncomputable def rputE : Envr := Env Tryz.prog cod [(123, placeT.spec)] []

/-! ### the reference's graph -/

structure Ref2 where
  a : List RefD
  b : List RefD
def eqRf (a b : RefD) : Bool := a.name == b.name && a.rev == b.rev
def sameRB (a b : List RefD) : Bool := Nat.beq a.length b.length && (List.zipWith eqRf a b).all id
noncomputable def refs2T : Tri := { γ := Ref2, n0 := 0, args := fun x => [.rslice false .ref x.a, .rslice false .ref x.b], blks := fun _ => [], pre := fun _ => True, δ := Unit, post := fun _ _ => True, n1 := 0, res := fun x _ => .bool (sameRB x.a x.b), blks' := fun _ _ => [], scal := true }
noncomputable def refs2I : St → LInv := fun s => match getE s.env 0, getE s.env 1 with
  | .rslice _ .ref a, .rslice _ .ref b => { σ := Nat, I := fun i => i ≤ a.length ∧ sameRB (a.drop i) (b.drop i) = sameRB a b, μ := fun i => a.length - i, env := fun i => [(5, .int .i64 i)], blk := fun _ => [], fresh := 0, drop := [] }
  | _, _ => LInv.none
noncomputable def refs2E : Envr := Env Tryz.prog cod [] [(4, refs2I)]

structure MovS where
  out : List RefD
  put : Bool
def stepR (n : Bs) (v : Int) (s : MovS) (r : RefD) : MovS :=
  let o := bif !s.put && !(Op.bytesLess r.name n) then s.out ++ [⟨n, v⟩] else s.out
  ⟨bif r.name == n then o else o ++ [r], s.put || !(Op.bytesLess r.name n)⟩
def foldR (n : Bs) (v : Int) (R : List RefD) : MovS := R.foldl (stepR n v) ⟨[], false⟩
def moveR (R : List RefD) (n : Bs) (v : Int) : List RefD := bif (foldR n v R).put then (foldR n v R).out else (foldR n v R).out ++ [⟨n, v⟩]
structure MovA where
  C : List CommitD
  L : List LeafD
  R : List RefD
  n : Bs
  v : Int
noncomputable def moveT : Tri := { γ := MovA, n0 := 4, args := fun x => [.mptr 0 0, .str x.n, .int .i64 x.v], blks := fun x => [(0, .cells [.mslice .commit 1 0 x.C.length, .mslice .leaf 2 0 x.L.length, .mslice .ref 3 0 x.R.length]), (1, .rows .commit x.C), (2, .rows .leaf x.L), (3, .rows .ref x.R)], pre := fun x => decide (x.R.length ≤ 4000) = true, δ := Unit, post := fun _ _ => True, n1 := 1, res := fun _ _ => .tuple [], blks' := fun x _ => [(0, .cells [.mslice .commit 1 0 x.C.length, .mslice .leaf 2 0 x.L.length, .mslice .ref 4 0 (moveR x.R x.n x.v).length]), (1, .rows .commit x.C), (2, .rows .leaf x.L), (4, .rows .ref (moveR x.R x.n x.v))], scal := false }
noncomputable def moveI : St → LInv := fun s => match getE s.env 0, getE s.env 1, getE s.env 2 with
  | .mptr q _, .str n, .int _ v => (match s.m.blks.get q with
    | some (.cells [_, _, .mslice _ c _ _]) => (match s.m.blks.get c with
      | some (.rows .ref R) => { σ := Nat, I := fun i => i ≤ R.length, μ := fun i => R.length - i, env := fun i => [(8, .int .i64 i), (7, .bool (foldR n v (R.take i)).put), (6, .mslice .ref s.m.next 0 (foldR n v (R.take i)).out.length)], blk := fun i => [(s.m.next, .rows .ref (foldR n v (R.take i)).out)], fresh := 1, drop := [] }
      | _ => LInv.none)
    | _ => LInv.none)
  | _, _, _ => LInv.none
noncomputable def moveE : Envr := Env Tryz.prog cod [] [(3, moveI)]

/-! the reference's sorted changes, as data -/
noncomputable def rsrtT : Tri := { γ := List ChangeD, n0 := 0, args := fun l => [.rslice false .change l], blks := fun _ => [], pre := fun l => shortC l = true ∧ fewX l = true, δ := Unit, post := fun _ _ => True, n1 := 0, res := fun l _ => .rslice false .change (insS l), blks' := fun _ _ => [], scal := false }

def refsR (C : List CommitD) : List RefD := C.foldl (fun R c => bif c.ref == [] then R else moveR R c.ref c.rev) []
def rcell (C : List CommitD) (a b c : Nat) : Blk := .cells [.mslice .commit a 0 C.length, .mslice .leaf b 0 (rowC C).length, .mslice .ref c 0 (refsR C).length]
def rB (C : List CommitD) (z a b c : Nat) : Blks := [(z, rcell C a b c), (a, .rows .commit C), (b, .rows .leaf (rowC C)), (c, .rows .ref (refsR C))]
def putsL (T : List LeafD) (l : List LeafD) : List LeafD := l.foldl (fun T x => insL x T) T
def shortM (C : List CommitD) : Bool := C.all fun c => shortC c.changes
noncomputable def rlandT : Tri := { γ := LandA, n0 := 4, args := fun x => [.mptr 0 0, .int .i64 x.base, .str x.ref, .rslice false .change x.l], blks := fun x => rB x.C 0 1 2 3, pre := fun x => (fewG x.C = true ∧ shortM x.C = true) ∧ shortC x.l = true ∧ fewX x.l = true, δ := Unit, post := fun _ _ => True, n1 := 3, res := fun x _ => .agg (landV x).enc, blks' := fun x _ => rB (landC x) 0 4 5 6, scal := false }
noncomputable def rlandI7 : St → LInv := fun s => match getE s.env 9, getE s.env 1, getE s.env 0 with
  | .rslice _ .change l, .int _ b, .mptr q _ => (match s.m.blks.get q with
    | some (.cells [_, .mslice _ n _ _, _]) => (match s.m.blks.get n with
      | some (.rows .leaf L) => { σ := Nat, I := fun i => i ≤ l.length ∧ confL L b (l.drop i) = confL L b l, μ := fun i => l.length - i, env := fun i => [(10, .int .i64 i)], blk := fun _ => [], fresh := 0, drop := [] }
      | _ => LInv.none)
    | _ => LInv.none)
  | _, _, _ => LInv.none
noncomputable def rlandI15 : St → LInv := fun s => match getE s.env 9, getE s.env 13, getE s.env 0 with
  | .rslice _ .change l, .int _ rev, .mptr q _ => (match s.m.blks.get q with
    | some (.cells [x, .mslice _ n _ _, y]) => (match s.m.blks.get n with
      | some (.rows .leaf L) => { σ := Nat, I := fun i => i ≤ l.length, μ := fun i => l.length - i, env := fun i => [(14, .int .i64 i)], blk := fun i => [(q, .cells [x, .mslice .leaf s.m.next 0 (putsL L ((l.take i).map (leafC rev))).length, y]), (s.m.next, .rows .leaf (putsL L ((l.take i).map (leafC rev))))], fresh := 1, drop := [n] }
      | _ => LInv.none)
    | _ => LInv.none)
  | _, _, _ => LInv.none
noncomputable def rlandE : Envr := Env Tryz.prog cod [(66, rcheckT.spec), (121, wordT.spec), (68, rsrtT.spec), (69, rgetT.spec), (70, rputT.spec), (71, moveT.spec)] [(7, rlandI7), (15, rlandI15)]

structure RRdA where
  C : List CommitD
  L : List LeafD
  R : List RefD
  p : Bs
def rargs (C : List CommitD) (L : List LeafD) (R : List RefD) : SV := .agg [.mslice .commit 0 0 C.length, .mslice .leaf 1 0 L.length, .mslice .ref 2 0 R.length]
def rrows (C : List CommitD) (L : List LeafD) (R : List RefD) : Blks := [(0, .rows .commit C), (1, .rows .leaf L), (2, .rows .ref R)]
def readL (L : List LeafD) (p : Bs) : VerdictD :=
  bif !(normB p == some p) then ⟨5, 0, 0, [], 0, [], 0⟩ else match getL p L with
    | none => ⟨10, 0, 0, p, 0, [], 0⟩
    | some y => bif y.gone then ⟨10, 0, 0, p, 0, [], 0⟩ else ⟨9, 0, y.rev, p, y.digest, [], 0⟩
noncomputable def rreadT : Tri := { γ := RRdA, n0 := 3, args := fun x => [rargs x.C x.L x.R, .str x.p], blks := fun x => rrows x.C x.L x.R, pre := fun x => shortB x.p = true ∧ shortLf x.L = true, δ := Unit, post := fun _ _ => True, n1 := 0, res := fun x _ => .agg (readL x.L x.p).enc, blks' := fun x _ => rrows x.C x.L x.R, scal := false }
noncomputable def rreadE : Envr := Env Tryz.prog cod [(90, normalT.spec), (69, rgetT.spec)] []

structure RLgA where
  C : List CommitD
  L : List LeafD
  R : List RefD
  frm : Int
  many : Int
noncomputable def rlogT : Tri := { γ := RLgA, n0 := 3, args := fun x => [rargs x.C x.L x.R, .int .i64 x.frm, .int .i64 x.many], blks := fun x => rrows x.C x.L x.R, pre := fun x => fewG x.C = true ∧ inI x.frm = true, δ := Unit, post := fun _ _ => True, n1 := 0, res := fun x _ => .agg (logV ⟨x.C, x.frm, x.many⟩).enc, blks' := fun x _ => rrows x.C x.L x.R, scal := false }
noncomputable def rlogI : St → LInv := fun s => match getE s.env 1, getE s.env 2, getE s.env 3 with
  | .int _ frm, .int _ many, .mptr q _ => (match s.m.blks.get q with
    | some (.cells [.mslice _ n _ _, _, _]) => (match s.m.blks.get n with
      | some (.rows .commit C) => { σ := Nat, I := fun k => (((C.drop (frm - 1).toNat).take k).length = k ∧ k ≤ 32 ∧ (k : Int) ≤ many), μ := fun k => 33 - k, env := fun k => [(8, .int .i64 (frm - 1 + k)), (7, .mslice .commit s.m.next 0 ((C.drop (frm - 1).toNat).take k).length)], blk := fun k => [(s.m.next, .rows .commit ((C.drop (frm - 1).toNat).take k))], fresh := 1, drop := [] }
      | _ => LInv.none)
    | _ => LInv.none)
  | _, _, _ => LInv.none
noncomputable def rlogE : Envr := Env Tryz.prog cod [] [(5, rlogI)]

noncomputable def looksT : Tri := { γ := ComL, n0 := 7, args := fun _ => [.mptr 0 0, .mptr 3 0], blks := fun C => gB C 1 ++ rB C 3 4 5 6, pre := fun C => fewG C = true, δ := Unit, post := fun _ _ => True, n1 := 0, res := fun _ _ => .bool true, blks' := fun C _ => gB C 1 ++ rB C 3 4 5 6, scal := false }
noncomputable def looksE : Envr := Env Tryz.prog cod [(60, gheadT.spec), (21, commitsT.spec), (43, scomsT.spec), (77, gleavesT.spec), (76, sameLT.spec), (79, refsT.spec), (78, refs2T.spec)] []
end Go.Proofs.YtildflamnehilaaGreat.Ses

namespace Go.Proofs.YtildflamnehilaaGreat.Ses
open Go Go.Proofs Go.Proofs.YtildflamnehilaaGreat.Sx Go.Proofs.YtildflamnehilaaGreat.Trx
set_option maxRecDepth 100000

theorem samel_vc (x : sameLT.γ) : evCall sameLE (ev sameLE 1000) 76 (sameLT.args x) ⟨sameLT.blks x, sameLT.n0, []⟩ (fun _ _ => False) (sameLT.ends x) = (
((((List.length (Lea2.a x)) * (40 : Nat)) ≤ room47) →
 ((((List.length (Lea2.b x)) * (40 : Nat)) ≤ room47) →
 (br ((↑(List.length (Lea2.a x)) : Int) != (↑(List.length (Lea2.b x)) : Int))
 (∃ x1 : Unit,
 ((Bool.false = (sameLB (Lea2.a x) (Lea2.b x))) ∧
 True))
 ((∃ x2 : Nat,
 (((0 : Int) = (↑x2 : Int)) ∧
 ((x2 ≤ (List.length (Lea2.a x))) ∧
 ((sameLB (List.drop x2 (Lea2.a x)) (List.drop x2 (Lea2.b x))) = (sameLB (Lea2.a x) (Lea2.b x)))))) ∧
 (∀ x3 : Nat,
 (((x3 ≤ (List.length (Lea2.a x))) ∧
 ((sameLB (List.drop x3 (Lea2.a x)) (List.drop x3 (Lea2.b x))) = (sameLB (Lea2.a x) (Lea2.b x)))) →
 ((((List.length (Lea2.a x)) * (40 : Nat)) ≤ room47) →
 (br (decide ((↑x3 : Int) < (↑(List.length (Lea2.a x)) : Int)))
 (br (decide (((0 : Int) ≤ (↑x3 : Int)) ∧
 ((↑x3 : Int) < (↑(List.length (Lea2.a x)) : Int))))
 (br (decide (((0 : Int) ≤ (↑x3 : Int)) ∧
 ((↑x3 : Int) < (↑(List.length (Lea2.b x)) : Int))))
 (br (Bool.not (Bool.and ((LeafD.path (List.getD (Lea2.a x) (Int.toNat (↑x3 : Int)) (LeafD.mk ([] : List UInt8) (0 : Int) (0 : Int) Bool.false))) == (LeafD.path (List.getD (Lea2.b x) (Int.toNat (↑x3 : Int)) (LeafD.mk ([] : List UInt8) (0 : Int) (0 : Int) Bool.false)))) (Bool.and ((LeafD.digest (List.getD (Lea2.a x) (Int.toNat (↑x3 : Int)) (LeafD.mk ([] : List UInt8) (0 : Int) (0 : Int) Bool.false))) == (LeafD.digest (List.getD (Lea2.b x) (Int.toNat (↑x3 : Int)) (LeafD.mk ([] : List UInt8) (0 : Int) (0 : Int) Bool.false)))) (Bool.and ((LeafD.rev (List.getD (Lea2.a x) (Int.toNat (↑x3 : Int)) (LeafD.mk ([] : List UInt8) (0 : Int) (0 : Int) Bool.false))) == (LeafD.rev (List.getD (Lea2.b x) (Int.toNat (↑x3 : Int)) (LeafD.mk ([] : List UInt8) (0 : Int) (0 : Int) Bool.false)))) (Bool.and ((LeafD.gone (List.getD (Lea2.a x) (Int.toNat (↑x3 : Int)) (LeafD.mk ([] : List UInt8) (0 : Int) (0 : Int) Bool.false))) == (LeafD.gone (List.getD (Lea2.b x) (Int.toNat (↑x3 : Int)) (LeafD.mk ([] : List UInt8) (0 : Int) (0 : Int) Bool.false)))) Bool.true)))))
 (∃ x4 : Unit,
 ((Bool.false = (sameLB (Lea2.a x) (Lea2.b x))) ∧
 True))
 (∃ x5 : Nat,
 (((IntKind.wrap IntKind.i64 ((↑x3 : Int) + (1 : Int))) = (↑x5 : Int)) ∧
 (((x5 ≤ (List.length (Lea2.a x))) ∧
 ((sameLB (List.drop x5 (Lea2.a x)) (List.drop x5 (Lea2.b x))) = (sameLB (Lea2.a x) (Lea2.b x)))) ∧
 ((Nat.sub (List.length (Lea2.a x)) x5) < (Nat.sub (List.length (Lea2.a x)) x3))))))
 (Bad "check" "ref.go:74"))
 (Bad "check" "ref.go:74"))
 (∃ x6 : Unit,
 ((Bool.true = (sameLB (Lea2.a x) (Lea2.b x))) ∧
 True))))))))))) := by kernel_rfl

theorem place_vc (x : placeT.γ) : evCall placeE (ev placeE 1000) 123 (placeT.args x) ⟨placeT.blks x, placeT.n0, []⟩ (fun _ _ => False) (placeT.ends x) = (
((∃ x1 : Nat,
 (((0 : Int) = (↑x1 : Int)) ∧
 ((x1 ≤ (List.length (LeaP.l x))) ∧
 ((((Prod.fst (placeL (LeaP.p x) (List.drop x1 (LeaP.l x)))) + x1) = (Prod.fst (placeL (LeaP.p x) (LeaP.l x)))) ∧
 ((Prod.snd (placeL (LeaP.p x) (List.drop x1 (LeaP.l x)))) = (Prod.snd (placeL (LeaP.p x) (LeaP.l x)))))))) ∧
 (∀ x2 : Nat,
 (((x2 ≤ (List.length (LeaP.l x))) ∧
 ((((Prod.fst (placeL (LeaP.p x) (List.drop x2 (LeaP.l x)))) + x2) = (Prod.fst (placeL (LeaP.p x) (LeaP.l x)))) ∧
 ((Prod.snd (placeL (LeaP.p x) (List.drop x2 (LeaP.l x)))) = (Prod.snd (placeL (LeaP.p x) (LeaP.l x)))))) →
 ((((List.length (LeaP.l x)) * (40 : Nat)) ≤ room47) →
 (br (decide ((↑x2 : Int) < (↑(List.length (LeaP.l x)) : Int)))
 (br (decide (((0 : Int) ≤ (↑x2 : Int)) ∧
 ((↑x2 : Int) < (↑(List.length (LeaP.l x)) : Int))))
 (∃ x3 : TwoA,
 (((LeaP.p x) = (TwoA.a x3)) ∧
 (((LeafD.path (List.getD (LeaP.l x) (Int.toNat (↑x2 : Int)) (LeafD.mk ([] : List UInt8) (0 : Int) (0 : Int) Bool.false))) = (TwoA.b x3)) ∧
 ((((shortB (TwoA.a x3)) = Bool.true) ∧
 ((shortB (TwoA.b x3)) = Bool.true)) ∧
 (∀ x4 : Unit,
 (True →
 (br ((cmpL (splitB (TwoA.a x3)) (splitB (TwoA.b x3))) == (0 : Int))
 (∃ x5 : Unit,
 (((↑x2 : Int) = (↑(Prod.fst (placeL (LeaP.p x) (LeaP.l x))) : Int)) ∧
 ((Bool.true = (Prod.snd (placeL (LeaP.p x) (LeaP.l x)))) ∧
 True)))
 (br (decide ((cmpL (splitB (TwoA.a x3)) (splitB (TwoA.b x3))) < (0 : Int)))
 (∃ x6 : Unit,
 (((↑x2 : Int) = (↑(Prod.fst (placeL (LeaP.p x) (LeaP.l x))) : Int)) ∧
 ((Bool.false = (Prod.snd (placeL (LeaP.p x) (LeaP.l x)))) ∧
 True)))
 (∃ x7 : Nat,
 (((IntKind.wrap IntKind.i64 ((↑x2 : Int) + (1 : Int))) = (↑x7 : Int)) ∧
 (((x7 ≤ (List.length (LeaP.l x))) ∧
 ((((Prod.fst (placeL (LeaP.p x) (List.drop x7 (LeaP.l x)))) + x7) = (Prod.fst (placeL (LeaP.p x) (LeaP.l x)))) ∧
 ((Prod.snd (placeL (LeaP.p x) (List.drop x7 (LeaP.l x)))) = (Prod.snd (placeL (LeaP.p x) (LeaP.l x)))))) ∧
 ((Nat.sub (List.length (LeaP.l x)) x7) < (Nat.sub (List.length (LeaP.l x)) x2)))))))))))))
 (Bad "check" "ref.go:15"))
 ((((List.length (LeaP.l x)) * (40 : Nat)) ≤ room47) →
 (∃ x8 : Unit,
 (((↑(List.length (LeaP.l x)) : Int) = (↑(Prod.fst (placeL (LeaP.p x) (LeaP.l x))) : Int)) ∧
 ((Bool.false = (Prod.snd (placeL (LeaP.p x) (LeaP.l x)))) ∧
 True)))))))))) := by kernel_rfl

theorem rput_vc (x : rputT.γ) : evCall rputE (ev rputE 1000) 70 (rputT.args x) ⟨rputT.blks x, rputT.n0, []⟩ (fun _ _ => False) (rputT.ends x) = (
(∃ x1 : LeaP,
 (((LeaX.l x) = (LeaP.l x1)) ∧
 (((LeafD.path (LeaX.x x)) = (LeaP.p x1)) ∧
 ((((shortLf (LeaP.l x1)) = Bool.true) ∧
 ((shortB (LeaP.p x1)) = Bool.true)) ∧
 (∀ x2 : Unit,
 (True →
 (br (bndB (List.length (LeaX.l x)) (none : Option Int) (Option.some (↑(Prod.fst (placeL (LeaP.p x1) (LeaP.l x1))) : Int)) (none : Option Int))
 (((Nat.le ((0 : Nat) * (40 : Nat)) room47) ∧
 (Nat.le ((List.length (@cutL LeafD (LeaX.l x) (none : Option Int) (Option.some (↑(Prod.fst (placeL (LeaP.p x1) (LeaP.l x1))) : Int)))) * (40 : Nat)) room47)) →
 (br (Bool.and (Bool.and Bool.true (decide (((0 : Nat) + (0 : Nat)) ≤ (List.length ([] : List LeafD))))) (decide ((((0 : Nat) + (List.length (@cutL LeafD (LeaX.l x) (none : Option Int) (Option.some (↑(Prod.fst (placeL (LeaP.p x1) (LeaP.l x1))) : Int))))) * (40 : Nat)) ≤ room47)))
 (((Nat.le (((0 : Nat) + (List.length (@cutL LeafD (LeaX.l x) (none : Option Int) (Option.some (↑(Prod.fst (placeL (LeaP.p x1) (LeaP.l x1))) : Int))))) * (40 : Nat)) room47) ∧
 (Nat.le ((1 : Nat) * (40 : Nat)) room47)) →
 (br (Bool.and (Bool.and (decide (((0 : Nat) + (1 : Nat)) ≤ (List.length (List.cons (LeafD.mk (LeafD.path (LeaX.x x)) (LeafD.digest (LeaX.x x)) (LeafD.rev (LeaX.x x)) (LeafD.gone (LeaX.x x))) ([] : List LeafD))))) (decide (((0 : Nat) + ((0 : Nat) + (List.length (@cutL LeafD (LeaX.l x) (none : Option Int) (Option.some (↑(Prod.fst (placeL (LeaP.p x1) (LeaP.l x1))) : Int)))))) ≤ (List.length (@HAppend.hAppend (List LeafD) (List LeafD) (List LeafD) _ (List.take (0 : Nat) (List.drop (0 : Nat) ([] : List LeafD))) (@cutL LeafD (LeaX.l x) (none : Option Int) (Option.some (↑(Prod.fst (placeL (LeaP.p x1) (LeaP.l x1))) : Int)))))))) (decide (((((0 : Nat) + (List.length (@cutL LeafD (LeaX.l x) (none : Option Int) (Option.some (↑(Prod.fst (placeL (LeaP.p x1) (LeaP.l x1))) : Int))))) + (List.length (List.take (1 : Nat) (List.drop (0 : Nat) (List.cons (LeafD.mk (LeafD.path (LeaX.x x)) (LeafD.digest (LeaX.x x)) (LeafD.rev (LeaX.x x)) (LeafD.gone (LeaX.x x))) ([] : List LeafD)))))) * (40 : Nat)) ≤ room47)))
 (br (Prod.snd (placeL (LeaP.p x1) (LeaP.l x1)))
 (br (bndB (List.length (LeaX.l x)) (Option.some (IntKind.wrap IntKind.i64 ((↑(Prod.fst (placeL (LeaP.p x1) (LeaP.l x1))) : Int) + (1 : Int)))) (none : Option Int) (none : Option Int))
 (((Nat.le ((((0 : Nat) + (List.length (@cutL LeafD (LeaX.l x) (none : Option Int) (Option.some (↑(Prod.fst (placeL (LeaP.p x1) (LeaP.l x1))) : Int))))) + (List.length (List.take (1 : Nat) (List.drop (0 : Nat) (List.cons (LeafD.mk (LeafD.path (LeaX.x x)) (LeafD.digest (LeaX.x x)) (LeafD.rev (LeaX.x x)) (LeafD.gone (LeaX.x x))) ([] : List LeafD)))))) * (40 : Nat)) room47) ∧
 (Nat.le ((List.length (@cutL LeafD (LeaX.l x) (Option.some (IntKind.wrap IntKind.i64 ((↑(Prod.fst (placeL (LeaP.p x1) (LeaP.l x1))) : Int) + (1 : Int)))) (none : Option Int))) * (40 : Nat)) room47)) →
 (br (Bool.and (Bool.and Bool.true (decide (((0 : Nat) + (((0 : Nat) + (List.length (@cutL LeafD (LeaX.l x) (none : Option Int) (Option.some (↑(Prod.fst (placeL (LeaP.p x1) (LeaP.l x1))) : Int))))) + (List.length (List.take (1 : Nat) (List.drop (0 : Nat) (List.cons (LeafD.mk (LeafD.path (LeaX.x x)) (LeafD.digest (LeaX.x x)) (LeafD.rev (LeaX.x x)) (LeafD.gone (LeaX.x x))) ([] : List LeafD))))))) ≤ (List.length (@HAppend.hAppend (List LeafD) (List LeafD) (List LeafD) _ (List.take ((0 : Nat) + (List.length (@cutL LeafD (LeaX.l x) (none : Option Int) (Option.some (↑(Prod.fst (placeL (LeaP.p x1) (LeaP.l x1))) : Int))))) (List.drop (0 : Nat) (@HAppend.hAppend (List LeafD) (List LeafD) (List LeafD) _ (List.take (0 : Nat) (List.drop (0 : Nat) ([] : List LeafD))) (@cutL LeafD (LeaX.l x) (none : Option Int) (Option.some (↑(Prod.fst (placeL (LeaP.p x1) (LeaP.l x1))) : Int)))))) (List.take (1 : Nat) (List.drop (0 : Nat) (List.cons (LeafD.mk (LeafD.path (LeaX.x x)) (LeafD.digest (LeaX.x x)) (LeafD.rev (LeaX.x x)) (LeafD.gone (LeaX.x x))) ([] : List LeafD))))))))) (decide ((((((0 : Nat) + (List.length (@cutL LeafD (LeaX.l x) (none : Option Int) (Option.some (↑(Prod.fst (placeL (LeaP.p x1) (LeaP.l x1))) : Int))))) + (List.length (List.take (1 : Nat) (List.drop (0 : Nat) (List.cons (LeafD.mk (LeafD.path (LeaX.x x)) (LeafD.digest (LeaX.x x)) (LeafD.rev (LeaX.x x)) (LeafD.gone (LeaX.x x))) ([] : List LeafD)))))) + (List.length (@cutL LeafD (LeaX.l x) (Option.some (IntKind.wrap IntKind.i64 ((↑(Prod.fst (placeL (LeaP.p x1) (LeaP.l x1))) : Int) + (1 : Int)))) (none : Option Int)))) * (40 : Nat)) ≤ room47)))
 (∃ x3 : Unit,
 (((0 : Nat) = (0 : Nat)) ∧
 ((((((0 : Nat) + (List.length (@cutL LeafD (LeaX.l x) (none : Option Int) (Option.some (↑(Prod.fst (placeL (LeaP.p x1) (LeaP.l x1))) : Int))))) + (List.length (List.take (1 : Nat) (List.drop (0 : Nat) (List.cons (LeafD.mk (LeafD.path (LeaX.x x)) (LeafD.digest (LeaX.x x)) (LeafD.rev (LeaX.x x)) (LeafD.gone (LeaX.x x))) ([] : List LeafD)))))) + (List.length (@cutL LeafD (LeaX.l x) (Option.some (IntKind.wrap IntKind.i64 ((↑(Prod.fst (placeL (LeaP.p x1) (LeaP.l x1))) : Int) + (1 : Int)))) (none : Option Int)))) = (List.length (insL (LeaX.x x) (LeaX.l x)))) ∧
 (((@HAppend.hAppend (List LeafD) (List LeafD) (List LeafD) _ (List.take (((0 : Nat) + (List.length (@cutL LeafD (LeaX.l x) (none : Option Int) (Option.some (↑(Prod.fst (placeL (LeaP.p x1) (LeaP.l x1))) : Int))))) + (List.length (List.take (1 : Nat) (List.drop (0 : Nat) (List.cons (LeafD.mk (LeafD.path (LeaX.x x)) (LeafD.digest (LeaX.x x)) (LeafD.rev (LeaX.x x)) (LeafD.gone (LeaX.x x))) ([] : List LeafD)))))) (List.drop (0 : Nat) (@HAppend.hAppend (List LeafD) (List LeafD) (List LeafD) _ (List.take ((0 : Nat) + (List.length (@cutL LeafD (LeaX.l x) (none : Option Int) (Option.some (↑(Prod.fst (placeL (LeaP.p x1) (LeaP.l x1))) : Int))))) (List.drop (0 : Nat) (@HAppend.hAppend (List LeafD) (List LeafD) (List LeafD) _ (List.take (0 : Nat) (List.drop (0 : Nat) ([] : List LeafD))) (@cutL LeafD (LeaX.l x) (none : Option Int) (Option.some (↑(Prod.fst (placeL (LeaP.p x1) (LeaP.l x1))) : Int)))))) (List.take (1 : Nat) (List.drop (0 : Nat) (List.cons (LeafD.mk (LeafD.path (LeaX.x x)) (LeafD.digest (LeaX.x x)) (LeafD.rev (LeaX.x x)) (LeafD.gone (LeaX.x x))) ([] : List LeafD))))))) (@cutL LeafD (LeaX.l x) (Option.some (IntKind.wrap IntKind.i64 ((↑(Prod.fst (placeL (LeaP.p x1) (LeaP.l x1))) : Int) + (1 : Int)))) (none : Option Int))) = (insL (LeaX.x x) (LeaX.l x))) ∧
 True))))
 (Bad "check" "ref.go:34")))
 (Bad "check" "ref.go:34"))
 (br (bndB (List.length (LeaX.l x)) (Option.some (↑(Prod.fst (placeL (LeaP.p x1) (LeaP.l x1))) : Int)) (none : Option Int) (none : Option Int))
 (((Nat.le ((((0 : Nat) + (List.length (@cutL LeafD (LeaX.l x) (none : Option Int) (Option.some (↑(Prod.fst (placeL (LeaP.p x1) (LeaP.l x1))) : Int))))) + (List.length (List.take (1 : Nat) (List.drop (0 : Nat) (List.cons (LeafD.mk (LeafD.path (LeaX.x x)) (LeafD.digest (LeaX.x x)) (LeafD.rev (LeaX.x x)) (LeafD.gone (LeaX.x x))) ([] : List LeafD)))))) * (40 : Nat)) room47) ∧
 (Nat.le ((List.length (@cutL LeafD (LeaX.l x) (Option.some (↑(Prod.fst (placeL (LeaP.p x1) (LeaP.l x1))) : Int)) (none : Option Int))) * (40 : Nat)) room47)) →
 (br (Bool.and (Bool.and Bool.true (decide (((0 : Nat) + (((0 : Nat) + (List.length (@cutL LeafD (LeaX.l x) (none : Option Int) (Option.some (↑(Prod.fst (placeL (LeaP.p x1) (LeaP.l x1))) : Int))))) + (List.length (List.take (1 : Nat) (List.drop (0 : Nat) (List.cons (LeafD.mk (LeafD.path (LeaX.x x)) (LeafD.digest (LeaX.x x)) (LeafD.rev (LeaX.x x)) (LeafD.gone (LeaX.x x))) ([] : List LeafD))))))) ≤ (List.length (@HAppend.hAppend (List LeafD) (List LeafD) (List LeafD) _ (List.take ((0 : Nat) + (List.length (@cutL LeafD (LeaX.l x) (none : Option Int) (Option.some (↑(Prod.fst (placeL (LeaP.p x1) (LeaP.l x1))) : Int))))) (List.drop (0 : Nat) (@HAppend.hAppend (List LeafD) (List LeafD) (List LeafD) _ (List.take (0 : Nat) (List.drop (0 : Nat) ([] : List LeafD))) (@cutL LeafD (LeaX.l x) (none : Option Int) (Option.some (↑(Prod.fst (placeL (LeaP.p x1) (LeaP.l x1))) : Int)))))) (List.take (1 : Nat) (List.drop (0 : Nat) (List.cons (LeafD.mk (LeafD.path (LeaX.x x)) (LeafD.digest (LeaX.x x)) (LeafD.rev (LeaX.x x)) (LeafD.gone (LeaX.x x))) ([] : List LeafD))))))))) (decide ((((((0 : Nat) + (List.length (@cutL LeafD (LeaX.l x) (none : Option Int) (Option.some (↑(Prod.fst (placeL (LeaP.p x1) (LeaP.l x1))) : Int))))) + (List.length (List.take (1 : Nat) (List.drop (0 : Nat) (List.cons (LeafD.mk (LeafD.path (LeaX.x x)) (LeafD.digest (LeaX.x x)) (LeafD.rev (LeaX.x x)) (LeafD.gone (LeaX.x x))) ([] : List LeafD)))))) + (List.length (@cutL LeafD (LeaX.l x) (Option.some (↑(Prod.fst (placeL (LeaP.p x1) (LeaP.l x1))) : Int)) (none : Option Int)))) * (40 : Nat)) ≤ room47)))
 (∃ x4 : Unit,
 (((0 : Nat) = (0 : Nat)) ∧
 ((((((0 : Nat) + (List.length (@cutL LeafD (LeaX.l x) (none : Option Int) (Option.some (↑(Prod.fst (placeL (LeaP.p x1) (LeaP.l x1))) : Int))))) + (List.length (List.take (1 : Nat) (List.drop (0 : Nat) (List.cons (LeafD.mk (LeafD.path (LeaX.x x)) (LeafD.digest (LeaX.x x)) (LeafD.rev (LeaX.x x)) (LeafD.gone (LeaX.x x))) ([] : List LeafD)))))) + (List.length (@cutL LeafD (LeaX.l x) (Option.some (↑(Prod.fst (placeL (LeaP.p x1) (LeaP.l x1))) : Int)) (none : Option Int)))) = (List.length (insL (LeaX.x x) (LeaX.l x)))) ∧
 (((@HAppend.hAppend (List LeafD) (List LeafD) (List LeafD) _ (List.take (((0 : Nat) + (List.length (@cutL LeafD (LeaX.l x) (none : Option Int) (Option.some (↑(Prod.fst (placeL (LeaP.p x1) (LeaP.l x1))) : Int))))) + (List.length (List.take (1 : Nat) (List.drop (0 : Nat) (List.cons (LeafD.mk (LeafD.path (LeaX.x x)) (LeafD.digest (LeaX.x x)) (LeafD.rev (LeaX.x x)) (LeafD.gone (LeaX.x x))) ([] : List LeafD)))))) (List.drop (0 : Nat) (@HAppend.hAppend (List LeafD) (List LeafD) (List LeafD) _ (List.take ((0 : Nat) + (List.length (@cutL LeafD (LeaX.l x) (none : Option Int) (Option.some (↑(Prod.fst (placeL (LeaP.p x1) (LeaP.l x1))) : Int))))) (List.drop (0 : Nat) (@HAppend.hAppend (List LeafD) (List LeafD) (List LeafD) _ (List.take (0 : Nat) (List.drop (0 : Nat) ([] : List LeafD))) (@cutL LeafD (LeaX.l x) (none : Option Int) (Option.some (↑(Prod.fst (placeL (LeaP.p x1) (LeaP.l x1))) : Int)))))) (List.take (1 : Nat) (List.drop (0 : Nat) (List.cons (LeafD.mk (LeafD.path (LeaX.x x)) (LeafD.digest (LeaX.x x)) (LeafD.rev (LeaX.x x)) (LeafD.gone (LeaX.x x))) ([] : List LeafD))))))) (@cutL LeafD (LeaX.l x) (Option.some (↑(Prod.fst (placeL (LeaP.p x1) (LeaP.l x1))) : Int)) (none : Option Int))) = (insL (LeaX.x x) (LeaX.l x))) ∧
 True))))
 (Bad "check" "ref.go:34")))
 (Bad "check" "ref.go:34")))
 (Bad "check" "ref.go:30")))
 (Bad "check" "ref.go:29")))
 (Bad "check" "ref.go:29"))))))))) := by kernel_rfl

theorem rget_vc (x : rgetT.γ) : evCall rputE (ev rputE 1000) 69 (rgetT.args x) ⟨rgetT.blks x, rgetT.n0, []⟩ (fun _ _ => False) (rgetT.ends x) = (
(∃ x1 : LeaP,
 (((LeaP.l x) = (LeaP.l x1)) ∧
 (((LeaP.p x) = (LeaP.p x1)) ∧
 ((((shortLf (LeaP.l x1)) = Bool.true) ∧
 ((shortB (LeaP.p x1)) = Bool.true)) ∧
 (∀ x2 : Unit,
 (True →
 (br (Bool.not (Prod.snd (placeL (LeaP.p x1) (LeaP.l x1))))
 (∃ x3 : Unit,
 (((Array.toList (ByteArray.data (ByteArray.mk (List.toArray ([] : List UInt8))))) = (LeafD.path (Option.getD (getL (LeaP.p x) (LeaP.l x)) (LeafD.mk ([] : List UInt8) (0 : Int) (0 : Int) Bool.false)))) ∧
 (((0 : Int) = (LeafD.digest (Option.getD (getL (LeaP.p x) (LeaP.l x)) (LeafD.mk ([] : List UInt8) (0 : Int) (0 : Int) Bool.false)))) ∧
 (((0 : Int) = (LeafD.rev (Option.getD (getL (LeaP.p x) (LeaP.l x)) (LeafD.mk ([] : List UInt8) (0 : Int) (0 : Int) Bool.false)))) ∧
 ((Bool.false = (LeafD.gone (Option.getD (getL (LeaP.p x) (LeaP.l x)) (LeafD.mk ([] : List UInt8) (0 : Int) (0 : Int) Bool.false)))) ∧
 ((Bool.false = (Option.isSome (getL (LeaP.p x) (LeaP.l x)))) ∧
 True))))))
 (br (decide (((0 : Int) ≤ (↑(Prod.fst (placeL (LeaP.p x1) (LeaP.l x1))) : Int)) ∧
 ((↑(Prod.fst (placeL (LeaP.p x1) (LeaP.l x1))) : Int) < (↑(List.length (LeaP.l x)) : Int))))
 (∃ x4 : Unit,
 (((LeafD.path (List.getD (LeaP.l x) (Int.toNat (↑(Prod.fst (placeL (LeaP.p x1) (LeaP.l x1))) : Int)) (LeafD.mk ([] : List UInt8) (0 : Int) (0 : Int) Bool.false))) = (LeafD.path (Option.getD (getL (LeaP.p x) (LeaP.l x)) (LeafD.mk ([] : List UInt8) (0 : Int) (0 : Int) Bool.false)))) ∧
 (((LeafD.digest (List.getD (LeaP.l x) (Int.toNat (↑(Prod.fst (placeL (LeaP.p x1) (LeaP.l x1))) : Int)) (LeafD.mk ([] : List UInt8) (0 : Int) (0 : Int) Bool.false))) = (LeafD.digest (Option.getD (getL (LeaP.p x) (LeaP.l x)) (LeafD.mk ([] : List UInt8) (0 : Int) (0 : Int) Bool.false)))) ∧
 (((LeafD.rev (List.getD (LeaP.l x) (Int.toNat (↑(Prod.fst (placeL (LeaP.p x1) (LeaP.l x1))) : Int)) (LeafD.mk ([] : List UInt8) (0 : Int) (0 : Int) Bool.false))) = (LeafD.rev (Option.getD (getL (LeaP.p x) (LeaP.l x)) (LeafD.mk ([] : List UInt8) (0 : Int) (0 : Int) Bool.false)))) ∧
 (((LeafD.gone (List.getD (LeaP.l x) (Int.toNat (↑(Prod.fst (placeL (LeaP.p x1) (LeaP.l x1))) : Int)) (LeafD.mk ([] : List UInt8) (0 : Int) (0 : Int) Bool.false))) = (LeafD.gone (Option.getD (getL (LeaP.p x) (LeaP.l x)) (LeafD.mk ([] : List UInt8) (0 : Int) (0 : Int) Bool.false)))) ∧
 ((Bool.true = (Option.isSome (getL (LeaP.p x) (LeaP.l x)))) ∧
 True))))))
 (Bad "check" "ref.go:43")))))))))) := by kernel_rfl

theorem refs2_vc (x : refs2T.γ) : evCall refs2E (ev refs2E 1000) 78 (refs2T.args x) ⟨refs2T.blks x, refs2T.n0, []⟩ (fun _ _ => False) (refs2T.ends x) = (
((((List.length (Ref2.a x)) * (24 : Nat)) ≤ room47) →
 ((((List.length (Ref2.b x)) * (24 : Nat)) ≤ room47) →
 (br ((↑(List.length (Ref2.a x)) : Int) != (↑(List.length (Ref2.b x)) : Int))
 (∃ x1 : Unit,
 ((Bool.false = (sameRB (Ref2.a x) (Ref2.b x))) ∧
 True))
 ((∃ x2 : Nat,
 (((0 : Int) = (↑x2 : Int)) ∧
 ((x2 ≤ (List.length (Ref2.a x))) ∧
 ((sameRB (List.drop x2 (Ref2.a x)) (List.drop x2 (Ref2.b x))) = (sameRB (Ref2.a x) (Ref2.b x)))))) ∧
 (∀ x3 : Nat,
 (((x3 ≤ (List.length (Ref2.a x))) ∧
 ((sameRB (List.drop x3 (Ref2.a x)) (List.drop x3 (Ref2.b x))) = (sameRB (Ref2.a x) (Ref2.b x)))) →
 ((((List.length (Ref2.a x)) * (24 : Nat)) ≤ room47) →
 (br (decide ((↑x3 : Int) < (↑(List.length (Ref2.a x)) : Int)))
 (br (decide (((0 : Int) ≤ (↑x3 : Int)) ∧
 ((↑x3 : Int) < (↑(List.length (Ref2.a x)) : Int))))
 (br (decide (((0 : Int) ≤ (↑x3 : Int)) ∧
 ((↑x3 : Int) < (↑(List.length (Ref2.b x)) : Int))))
 (br (Bool.not ((RefD.name (List.getD (Ref2.a x) (Int.toNat (↑x3 : Int)) (RefD.mk ([] : List UInt8) (0 : Int)))) == (RefD.name (List.getD (Ref2.b x) (Int.toNat (↑x3 : Int)) (RefD.mk ([] : List UInt8) (0 : Int))))))
 (∃ x4 : Unit,
 ((Bool.false = (sameRB (Ref2.a x) (Ref2.b x))) ∧
 True))
 (br (decide (((0 : Int) ≤ (↑x3 : Int)) ∧
 ((↑x3 : Int) < (↑(List.length (Ref2.a x)) : Int))))
 (br (decide (((0 : Int) ≤ (↑x3 : Int)) ∧
 ((↑x3 : Int) < (↑(List.length (Ref2.b x)) : Int))))
 (br ((RefD.rev (List.getD (Ref2.a x) (Int.toNat (↑x3 : Int)) (RefD.mk ([] : List UInt8) (0 : Int)))) != (RefD.rev (List.getD (Ref2.b x) (Int.toNat (↑x3 : Int)) (RefD.mk ([] : List UInt8) (0 : Int)))))
 (∃ x5 : Unit,
 ((Bool.false = (sameRB (Ref2.a x) (Ref2.b x))) ∧
 True))
 (∃ x6 : Nat,
 (((IntKind.wrap IntKind.i64 ((↑x3 : Int) + (1 : Int))) = (↑x6 : Int)) ∧
 (((x6 ≤ (List.length (Ref2.a x))) ∧
 ((sameRB (List.drop x6 (Ref2.a x)) (List.drop x6 (Ref2.b x))) = (sameRB (Ref2.a x) (Ref2.b x)))) ∧
 ((Nat.sub (List.length (Ref2.a x)) x6) < (Nat.sub (List.length (Ref2.a x)) x3))))))
 (Bad "check" "law.go:50"))
 (Bad "check" "law.go:50")))
 (Bad "check" "law.go:50"))
 (Bad "check" "law.go:50"))
 (∃ x7 : Unit,
 ((Bool.true = (sameRB (Ref2.a x) (Ref2.b x))) ∧
 True))))))))))) := by kernel_rfl

theorem move_vc (x : moveT.γ) : evCall moveE (ev moveE 1000) 71 (moveT.args x) ⟨moveT.blks x, moveT.n0, []⟩ (fun _ _ => False) (moveT.ends x) = (
((∃ x1 : Nat,
 (((0 : Int) = (↑x1 : Int)) ∧
 ((Bool.false = (MovS.put (foldR (MovA.n x) (MovA.v x) (List.take x1 (MovA.R x))))) ∧
 (((0 : Nat) = (List.length (MovS.out (foldR (MovA.n x) (MovA.v x) (List.take x1 (MovA.R x)))))) ∧
 ((([] : List RefD) = (MovS.out (foldR (MovA.n x) (MovA.v x) (List.take x1 (MovA.R x))))) ∧
 (Nat.le x1 (List.length (MovA.R x)))))))) ∧
 (∀ x2 : Nat,
 ((Nat.le x2 (List.length (MovA.R x))) →
 ((((List.length (MovA.R x)) * (24 : Nat)) ≤ room47) →
 (br (decide ((↑x2 : Int) < (↑(List.length (MovA.R x)) : Int)))
 (br (Bool.not (MovS.put (foldR (MovA.n x) (MovA.v x) (List.take x2 (MovA.R x)))))
 (br (decide (((0 : Int) ≤ (↑x2 : Int)) ∧
 ((↑x2 : Int) < (↑(List.length (MovA.R x)) : Int))))
 (br (decide (((0 : Nat) + (Int.toNat (↑x2 : Int))) < (List.length (MovA.R x))))
 (br (Bool.not (Op.bytesLess (RefD.name (List.getD (MovA.R x) ((0 : Nat) + (Int.toNat (↑x2 : Int))) (RefD.mk ([] : List UInt8) (0 : Int)))) (MovA.n x)))
 (((Nat.le ((List.length (MovS.out (foldR (MovA.n x) (MovA.v x) (List.take x2 (MovA.R x))))) * (24 : Nat)) room47) ∧
 (Nat.le ((1 : Nat) * (24 : Nat)) room47)) →
 (br (Bool.and (Bool.and (decide (((0 : Nat) + (1 : Nat)) ≤ (List.length (List.cons (RefD.mk (MovA.n x) (MovA.v x)) ([] : List RefD))))) (decide (((0 : Nat) + (List.length (MovS.out (foldR (MovA.n x) (MovA.v x) (List.take x2 (MovA.R x)))))) ≤ (List.length (MovS.out (foldR (MovA.n x) (MovA.v x) (List.take x2 (MovA.R x)))))))) (decide ((((List.length (MovS.out (foldR (MovA.n x) (MovA.v x) (List.take x2 (MovA.R x))))) + (List.length (List.take (1 : Nat) (List.drop (0 : Nat) (List.cons (RefD.mk (MovA.n x) (MovA.v x)) ([] : List RefD)))))) * (24 : Nat)) ≤ room47)))
 (br (decide (((0 : Int) ≤ (↑x2 : Int)) ∧
 ((↑x2 : Int) < (↑(List.length (MovA.R x)) : Int))))
 (br (decide (((0 : Nat) + (Int.toNat (↑x2 : Int))) < (List.length (MovA.R x))))
 (br (Bool.not ((RefD.name (List.getD (MovA.R x) ((0 : Nat) + (Int.toNat (↑x2 : Int))) (RefD.mk ([] : List UInt8) (0 : Int)))) == (MovA.n x)))
 (br (decide (((0 : Int) ≤ (↑x2 : Int)) ∧
 ((↑x2 : Int) < (↑(List.length (MovA.R x)) : Int))))
 (br (decide (((0 : Nat) + (Int.toNat (↑x2 : Int))) < (List.length (MovA.R x))))
 (((Nat.le (((List.length (MovS.out (foldR (MovA.n x) (MovA.v x) (List.take x2 (MovA.R x))))) + (List.length (List.take (1 : Nat) (List.drop (0 : Nat) (List.cons (RefD.mk (MovA.n x) (MovA.v x)) ([] : List RefD)))))) * (24 : Nat)) room47) ∧
 (Nat.le ((1 : Nat) * (24 : Nat)) room47)) →
 (br (Bool.and (Bool.and (decide (((0 : Nat) + (1 : Nat)) ≤ (List.length (List.cons (RefD.mk (RefD.name (List.getD (MovA.R x) ((0 : Nat) + (Int.toNat (↑x2 : Int))) (RefD.mk ([] : List UInt8) (0 : Int)))) (RefD.rev (List.getD (MovA.R x) ((0 : Nat) + (Int.toNat (↑x2 : Int))) (RefD.mk ([] : List UInt8) (0 : Int))))) ([] : List RefD))))) (decide (((0 : Nat) + ((List.length (MovS.out (foldR (MovA.n x) (MovA.v x) (List.take x2 (MovA.R x))))) + (List.length (List.take (1 : Nat) (List.drop (0 : Nat) (List.cons (RefD.mk (MovA.n x) (MovA.v x)) ([] : List RefD))))))) ≤ (List.length (@HAppend.hAppend (List RefD) (List RefD) (List RefD) _ (List.take (List.length (MovS.out (foldR (MovA.n x) (MovA.v x) (List.take x2 (MovA.R x))))) (List.drop (0 : Nat) (MovS.out (foldR (MovA.n x) (MovA.v x) (List.take x2 (MovA.R x)))))) (List.take (1 : Nat) (List.drop (0 : Nat) (List.cons (RefD.mk (MovA.n x) (MovA.v x)) ([] : List RefD))))))))) (decide (((((List.length (MovS.out (foldR (MovA.n x) (MovA.v x) (List.take x2 (MovA.R x))))) + (List.length (List.take (1 : Nat) (List.drop (0 : Nat) (List.cons (RefD.mk (MovA.n x) (MovA.v x)) ([] : List RefD)))))) + (List.length (List.take (1 : Nat) (List.drop (0 : Nat) (List.cons (RefD.mk (RefD.name (List.getD (MovA.R x) ((0 : Nat) + (Int.toNat (↑x2 : Int))) (RefD.mk ([] : List UInt8) (0 : Int)))) (RefD.rev (List.getD (MovA.R x) ((0 : Nat) + (Int.toNat (↑x2 : Int))) (RefD.mk ([] : List UInt8) (0 : Int))))) ([] : List RefD)))))) * (24 : Nat)) ≤ room47)))
 (∃ x3 : Nat,
 (((IntKind.wrap IntKind.i64 ((↑x2 : Int) + (1 : Int))) = (↑x3 : Int)) ∧
 ((Bool.true = (MovS.put (foldR (MovA.n x) (MovA.v x) (List.take x3 (MovA.R x))))) ∧
 (((0 : Nat) = (0 : Nat)) ∧
 (((((List.length (MovS.out (foldR (MovA.n x) (MovA.v x) (List.take x2 (MovA.R x))))) + (List.length (List.take (1 : Nat) (List.drop (0 : Nat) (List.cons (RefD.mk (MovA.n x) (MovA.v x)) ([] : List RefD)))))) + (List.length (List.take (1 : Nat) (List.drop (0 : Nat) (List.cons (RefD.mk (RefD.name (List.getD (MovA.R x) ((0 : Nat) + (Int.toNat (↑x2 : Int))) (RefD.mk ([] : List UInt8) (0 : Int)))) (RefD.rev (List.getD (MovA.R x) ((0 : Nat) + (Int.toNat (↑x2 : Int))) (RefD.mk ([] : List UInt8) (0 : Int))))) ([] : List RefD)))))) = (List.length (MovS.out (foldR (MovA.n x) (MovA.v x) (List.take x3 (MovA.R x)))))) ∧
 (((@HAppend.hAppend (List RefD) (List RefD) (List RefD) _ (List.take ((List.length (MovS.out (foldR (MovA.n x) (MovA.v x) (List.take x2 (MovA.R x))))) + (List.length (List.take (1 : Nat) (List.drop (0 : Nat) (List.cons (RefD.mk (MovA.n x) (MovA.v x)) ([] : List RefD)))))) (List.drop (0 : Nat) (@HAppend.hAppend (List RefD) (List RefD) (List RefD) _ (List.take (List.length (MovS.out (foldR (MovA.n x) (MovA.v x) (List.take x2 (MovA.R x))))) (List.drop (0 : Nat) (MovS.out (foldR (MovA.n x) (MovA.v x) (List.take x2 (MovA.R x)))))) (List.take (1 : Nat) (List.drop (0 : Nat) (List.cons (RefD.mk (MovA.n x) (MovA.v x)) ([] : List RefD))))))) (List.take (1 : Nat) (List.drop (0 : Nat) (List.cons (RefD.mk (RefD.name (List.getD (MovA.R x) ((0 : Nat) + (Int.toNat (↑x2 : Int))) (RefD.mk ([] : List UInt8) (0 : Int)))) (RefD.rev (List.getD (MovA.R x) ((0 : Nat) + (Int.toNat (↑x2 : Int))) (RefD.mk ([] : List UInt8) (0 : Int))))) ([] : List RefD))))) = (MovS.out (foldR (MovA.n x) (MovA.v x) (List.take x3 (MovA.R x))))) ∧
 ((Nat.le x3 (List.length (MovA.R x))) ∧
 ((Nat.sub (List.length (MovA.R x)) x3) < (Nat.sub (List.length (MovA.R x)) x2)))))))))
 (Bad "check" "ref.go:186")))
 (Bad "check" "ref.go:186"))
 (Bad "check" "ref.go:186"))
 (∃ x4 : Nat,
 (((IntKind.wrap IntKind.i64 ((↑x2 : Int) + (1 : Int))) = (↑x4 : Int)) ∧
 ((Bool.true = (MovS.put (foldR (MovA.n x) (MovA.v x) (List.take x4 (MovA.R x))))) ∧
 (((0 : Nat) = (0 : Nat)) ∧
 ((((List.length (MovS.out (foldR (MovA.n x) (MovA.v x) (List.take x2 (MovA.R x))))) + (List.length (List.take (1 : Nat) (List.drop (0 : Nat) (List.cons (RefD.mk (MovA.n x) (MovA.v x)) ([] : List RefD)))))) = (List.length (MovS.out (foldR (MovA.n x) (MovA.v x) (List.take x4 (MovA.R x)))))) ∧
 (((@HAppend.hAppend (List RefD) (List RefD) (List RefD) _ (List.take (List.length (MovS.out (foldR (MovA.n x) (MovA.v x) (List.take x2 (MovA.R x))))) (List.drop (0 : Nat) (MovS.out (foldR (MovA.n x) (MovA.v x) (List.take x2 (MovA.R x)))))) (List.take (1 : Nat) (List.drop (0 : Nat) (List.cons (RefD.mk (MovA.n x) (MovA.v x)) ([] : List RefD))))) = (MovS.out (foldR (MovA.n x) (MovA.v x) (List.take x4 (MovA.R x))))) ∧
 ((Nat.le x4 (List.length (MovA.R x))) ∧
 ((Nat.sub (List.length (MovA.R x)) x4) < (Nat.sub (List.length (MovA.R x)) x2))))))))))
 (Bad "check" "ref.go:185"))
 (Bad "check" "ref.go:185"))
 (Bad "check" "ref.go:182")))
 (br (decide (((0 : Int) ≤ (↑x2 : Int)) ∧
 ((↑x2 : Int) < (↑(List.length (MovA.R x)) : Int))))
 (br (decide (((0 : Nat) + (Int.toNat (↑x2 : Int))) < (List.length (MovA.R x))))
 (br (Bool.not ((RefD.name (List.getD (MovA.R x) ((0 : Nat) + (Int.toNat (↑x2 : Int))) (RefD.mk ([] : List UInt8) (0 : Int)))) == (MovA.n x)))
 (br (decide (((0 : Int) ≤ (↑x2 : Int)) ∧
 ((↑x2 : Int) < (↑(List.length (MovA.R x)) : Int))))
 (br (decide (((0 : Nat) + (Int.toNat (↑x2 : Int))) < (List.length (MovA.R x))))
 (((Nat.le ((List.length (MovS.out (foldR (MovA.n x) (MovA.v x) (List.take x2 (MovA.R x))))) * (24 : Nat)) room47) ∧
 (Nat.le ((1 : Nat) * (24 : Nat)) room47)) →
 (br (Bool.and (Bool.and (decide (((0 : Nat) + (1 : Nat)) ≤ (List.length (List.cons (RefD.mk (RefD.name (List.getD (MovA.R x) ((0 : Nat) + (Int.toNat (↑x2 : Int))) (RefD.mk ([] : List UInt8) (0 : Int)))) (RefD.rev (List.getD (MovA.R x) ((0 : Nat) + (Int.toNat (↑x2 : Int))) (RefD.mk ([] : List UInt8) (0 : Int))))) ([] : List RefD))))) (decide (((0 : Nat) + (List.length (MovS.out (foldR (MovA.n x) (MovA.v x) (List.take x2 (MovA.R x)))))) ≤ (List.length (MovS.out (foldR (MovA.n x) (MovA.v x) (List.take x2 (MovA.R x)))))))) (decide ((((List.length (MovS.out (foldR (MovA.n x) (MovA.v x) (List.take x2 (MovA.R x))))) + (List.length (List.take (1 : Nat) (List.drop (0 : Nat) (List.cons (RefD.mk (RefD.name (List.getD (MovA.R x) ((0 : Nat) + (Int.toNat (↑x2 : Int))) (RefD.mk ([] : List UInt8) (0 : Int)))) (RefD.rev (List.getD (MovA.R x) ((0 : Nat) + (Int.toNat (↑x2 : Int))) (RefD.mk ([] : List UInt8) (0 : Int))))) ([] : List RefD)))))) * (24 : Nat)) ≤ room47)))
 (∃ x5 : Nat,
 (((IntKind.wrap IntKind.i64 ((↑x2 : Int) + (1 : Int))) = (↑x5 : Int)) ∧
 (((MovS.put (foldR (MovA.n x) (MovA.v x) (List.take x2 (MovA.R x)))) = (MovS.put (foldR (MovA.n x) (MovA.v x) (List.take x5 (MovA.R x))))) ∧
 (((0 : Nat) = (0 : Nat)) ∧
 ((((List.length (MovS.out (foldR (MovA.n x) (MovA.v x) (List.take x2 (MovA.R x))))) + (List.length (List.take (1 : Nat) (List.drop (0 : Nat) (List.cons (RefD.mk (RefD.name (List.getD (MovA.R x) ((0 : Nat) + (Int.toNat (↑x2 : Int))) (RefD.mk ([] : List UInt8) (0 : Int)))) (RefD.rev (List.getD (MovA.R x) ((0 : Nat) + (Int.toNat (↑x2 : Int))) (RefD.mk ([] : List UInt8) (0 : Int))))) ([] : List RefD)))))) = (List.length (MovS.out (foldR (MovA.n x) (MovA.v x) (List.take x5 (MovA.R x)))))) ∧
 (((@HAppend.hAppend (List RefD) (List RefD) (List RefD) _ (List.take (List.length (MovS.out (foldR (MovA.n x) (MovA.v x) (List.take x2 (MovA.R x))))) (List.drop (0 : Nat) (MovS.out (foldR (MovA.n x) (MovA.v x) (List.take x2 (MovA.R x)))))) (List.take (1 : Nat) (List.drop (0 : Nat) (List.cons (RefD.mk (RefD.name (List.getD (MovA.R x) ((0 : Nat) + (Int.toNat (↑x2 : Int))) (RefD.mk ([] : List UInt8) (0 : Int)))) (RefD.rev (List.getD (MovA.R x) ((0 : Nat) + (Int.toNat (↑x2 : Int))) (RefD.mk ([] : List UInt8) (0 : Int))))) ([] : List RefD))))) = (MovS.out (foldR (MovA.n x) (MovA.v x) (List.take x5 (MovA.R x))))) ∧
 ((Nat.le x5 (List.length (MovA.R x))) ∧
 ((Nat.sub (List.length (MovA.R x)) x5) < (Nat.sub (List.length (MovA.R x)) x2)))))))))
 (Bad "check" "ref.go:186")))
 (Bad "check" "ref.go:186"))
 (Bad "check" "ref.go:186"))
 (∃ x6 : Nat,
 (((IntKind.wrap IntKind.i64 ((↑x2 : Int) + (1 : Int))) = (↑x6 : Int)) ∧
 (((MovS.put (foldR (MovA.n x) (MovA.v x) (List.take x2 (MovA.R x)))) = (MovS.put (foldR (MovA.n x) (MovA.v x) (List.take x6 (MovA.R x))))) ∧
 (((0 : Nat) = (0 : Nat)) ∧
 (((List.length (MovS.out (foldR (MovA.n x) (MovA.v x) (List.take x2 (MovA.R x))))) = (List.length (MovS.out (foldR (MovA.n x) (MovA.v x) (List.take x6 (MovA.R x)))))) ∧
 (((MovS.out (foldR (MovA.n x) (MovA.v x) (List.take x2 (MovA.R x)))) = (MovS.out (foldR (MovA.n x) (MovA.v x) (List.take x6 (MovA.R x))))) ∧
 ((Nat.le x6 (List.length (MovA.R x))) ∧
 ((Nat.sub (List.length (MovA.R x)) x6) < (Nat.sub (List.length (MovA.R x)) x2))))))))))
 (Bad "check" "ref.go:185"))
 (Bad "check" "ref.go:185")))
 (Bad "check" "ref.go:181"))
 (Bad "check" "ref.go:181"))
 (br (decide (((0 : Int) ≤ (↑x2 : Int)) ∧
 ((↑x2 : Int) < (↑(List.length (MovA.R x)) : Int))))
 (br (decide (((0 : Nat) + (Int.toNat (↑x2 : Int))) < (List.length (MovA.R x))))
 (br (Bool.not ((RefD.name (List.getD (MovA.R x) ((0 : Nat) + (Int.toNat (↑x2 : Int))) (RefD.mk ([] : List UInt8) (0 : Int)))) == (MovA.n x)))
 (br (decide (((0 : Int) ≤ (↑x2 : Int)) ∧
 ((↑x2 : Int) < (↑(List.length (MovA.R x)) : Int))))
 (br (decide (((0 : Nat) + (Int.toNat (↑x2 : Int))) < (List.length (MovA.R x))))
 (((Nat.le ((List.length (MovS.out (foldR (MovA.n x) (MovA.v x) (List.take x2 (MovA.R x))))) * (24 : Nat)) room47) ∧
 (Nat.le ((1 : Nat) * (24 : Nat)) room47)) →
 (br (Bool.and (Bool.and (decide (((0 : Nat) + (1 : Nat)) ≤ (List.length (List.cons (RefD.mk (RefD.name (List.getD (MovA.R x) ((0 : Nat) + (Int.toNat (↑x2 : Int))) (RefD.mk ([] : List UInt8) (0 : Int)))) (RefD.rev (List.getD (MovA.R x) ((0 : Nat) + (Int.toNat (↑x2 : Int))) (RefD.mk ([] : List UInt8) (0 : Int))))) ([] : List RefD))))) (decide (((0 : Nat) + (List.length (MovS.out (foldR (MovA.n x) (MovA.v x) (List.take x2 (MovA.R x)))))) ≤ (List.length (MovS.out (foldR (MovA.n x) (MovA.v x) (List.take x2 (MovA.R x)))))))) (decide ((((List.length (MovS.out (foldR (MovA.n x) (MovA.v x) (List.take x2 (MovA.R x))))) + (List.length (List.take (1 : Nat) (List.drop (0 : Nat) (List.cons (RefD.mk (RefD.name (List.getD (MovA.R x) ((0 : Nat) + (Int.toNat (↑x2 : Int))) (RefD.mk ([] : List UInt8) (0 : Int)))) (RefD.rev (List.getD (MovA.R x) ((0 : Nat) + (Int.toNat (↑x2 : Int))) (RefD.mk ([] : List UInt8) (0 : Int))))) ([] : List RefD)))))) * (24 : Nat)) ≤ room47)))
 (∃ x7 : Nat,
 (((IntKind.wrap IntKind.i64 ((↑x2 : Int) + (1 : Int))) = (↑x7 : Int)) ∧
 (((MovS.put (foldR (MovA.n x) (MovA.v x) (List.take x2 (MovA.R x)))) = (MovS.put (foldR (MovA.n x) (MovA.v x) (List.take x7 (MovA.R x))))) ∧
 (((0 : Nat) = (0 : Nat)) ∧
 ((((List.length (MovS.out (foldR (MovA.n x) (MovA.v x) (List.take x2 (MovA.R x))))) + (List.length (List.take (1 : Nat) (List.drop (0 : Nat) (List.cons (RefD.mk (RefD.name (List.getD (MovA.R x) ((0 : Nat) + (Int.toNat (↑x2 : Int))) (RefD.mk ([] : List UInt8) (0 : Int)))) (RefD.rev (List.getD (MovA.R x) ((0 : Nat) + (Int.toNat (↑x2 : Int))) (RefD.mk ([] : List UInt8) (0 : Int))))) ([] : List RefD)))))) = (List.length (MovS.out (foldR (MovA.n x) (MovA.v x) (List.take x7 (MovA.R x)))))) ∧
 (((@HAppend.hAppend (List RefD) (List RefD) (List RefD) _ (List.take (List.length (MovS.out (foldR (MovA.n x) (MovA.v x) (List.take x2 (MovA.R x))))) (List.drop (0 : Nat) (MovS.out (foldR (MovA.n x) (MovA.v x) (List.take x2 (MovA.R x)))))) (List.take (1 : Nat) (List.drop (0 : Nat) (List.cons (RefD.mk (RefD.name (List.getD (MovA.R x) ((0 : Nat) + (Int.toNat (↑x2 : Int))) (RefD.mk ([] : List UInt8) (0 : Int)))) (RefD.rev (List.getD (MovA.R x) ((0 : Nat) + (Int.toNat (↑x2 : Int))) (RefD.mk ([] : List UInt8) (0 : Int))))) ([] : List RefD))))) = (MovS.out (foldR (MovA.n x) (MovA.v x) (List.take x7 (MovA.R x))))) ∧
 ((Nat.le x7 (List.length (MovA.R x))) ∧
 ((Nat.sub (List.length (MovA.R x)) x7) < (Nat.sub (List.length (MovA.R x)) x2)))))))))
 (Bad "check" "ref.go:186")))
 (Bad "check" "ref.go:186"))
 (Bad "check" "ref.go:186"))
 (∃ x8 : Nat,
 (((IntKind.wrap IntKind.i64 ((↑x2 : Int) + (1 : Int))) = (↑x8 : Int)) ∧
 (((MovS.put (foldR (MovA.n x) (MovA.v x) (List.take x2 (MovA.R x)))) = (MovS.put (foldR (MovA.n x) (MovA.v x) (List.take x8 (MovA.R x))))) ∧
 (((0 : Nat) = (0 : Nat)) ∧
 (((List.length (MovS.out (foldR (MovA.n x) (MovA.v x) (List.take x2 (MovA.R x))))) = (List.length (MovS.out (foldR (MovA.n x) (MovA.v x) (List.take x8 (MovA.R x)))))) ∧
 (((MovS.out (foldR (MovA.n x) (MovA.v x) (List.take x2 (MovA.R x)))) = (MovS.out (foldR (MovA.n x) (MovA.v x) (List.take x8 (MovA.R x))))) ∧
 ((Nat.le x8 (List.length (MovA.R x))) ∧
 ((Nat.sub (List.length (MovA.R x)) x8) < (Nat.sub (List.length (MovA.R x)) x2))))))))))
 (Bad "check" "ref.go:185"))
 (Bad "check" "ref.go:185")))
 (br (Bool.not (MovS.put (foldR (MovA.n x) (MovA.v x) (List.take x2 (MovA.R x)))))
 (((Nat.le ((List.length (MovS.out (foldR (MovA.n x) (MovA.v x) (List.take x2 (MovA.R x))))) * (24 : Nat)) room47) ∧
 (Nat.le ((1 : Nat) * (24 : Nat)) room47)) →
 (br (Bool.and (Bool.and (decide (((0 : Nat) + (1 : Nat)) ≤ (List.length (List.cons (RefD.mk (MovA.n x) (MovA.v x)) ([] : List RefD))))) (decide (((0 : Nat) + (List.length (MovS.out (foldR (MovA.n x) (MovA.v x) (List.take x2 (MovA.R x)))))) ≤ (List.length (MovS.out (foldR (MovA.n x) (MovA.v x) (List.take x2 (MovA.R x)))))))) (decide ((((List.length (MovS.out (foldR (MovA.n x) (MovA.v x) (List.take x2 (MovA.R x))))) + (List.length (List.take (1 : Nat) (List.drop (0 : Nat) (List.cons (RefD.mk (MovA.n x) (MovA.v x)) ([] : List RefD)))))) * (24 : Nat)) ≤ room47)))
 (∃ x9 : Unit,
 (((0 : Nat) = (0 : Nat)) ∧
 (((List.length (MovA.C x)) = (List.length (MovA.C x))) ∧
 (((0 : Nat) = (0 : Nat)) ∧
 (((List.length (MovA.L x)) = (List.length (MovA.L x))) ∧
 (((0 : Nat) = (0 : Nat)) ∧
 ((((List.length (MovS.out (foldR (MovA.n x) (MovA.v x) (List.take x2 (MovA.R x))))) + (List.length (List.take (1 : Nat) (List.drop (0 : Nat) (List.cons (RefD.mk (MovA.n x) (MovA.v x)) ([] : List RefD)))))) = (List.length (moveR (MovA.R x) (MovA.n x) (MovA.v x)))) ∧
 (((MovA.C x) = (MovA.C x)) ∧
 (((MovA.L x) = (MovA.L x)) ∧
 (((@HAppend.hAppend (List RefD) (List RefD) (List RefD) _ (List.take (List.length (MovS.out (foldR (MovA.n x) (MovA.v x) (List.take x2 (MovA.R x))))) (List.drop (0 : Nat) (MovS.out (foldR (MovA.n x) (MovA.v x) (List.take x2 (MovA.R x)))))) (List.take (1 : Nat) (List.drop (0 : Nat) (List.cons (RefD.mk (MovA.n x) (MovA.v x)) ([] : List RefD))))) = (moveR (MovA.R x) (MovA.n x) (MovA.v x))) ∧
 True))))))))))
 (Bad "check" "ref.go:190")))
 (∃ x10 : Unit,
 (((0 : Nat) = (0 : Nat)) ∧
 (((List.length (MovA.C x)) = (List.length (MovA.C x))) ∧
 (((0 : Nat) = (0 : Nat)) ∧
 (((List.length (MovA.L x)) = (List.length (MovA.L x))) ∧
 (((0 : Nat) = (0 : Nat)) ∧
 (((List.length (MovS.out (foldR (MovA.n x) (MovA.v x) (List.take x2 (MovA.R x))))) = (List.length (moveR (MovA.R x) (MovA.n x) (MovA.v x)))) ∧
 (((MovA.C x) = (MovA.C x)) ∧
 (((MovA.L x) = (MovA.L x)) ∧
 (((MovS.out (foldR (MovA.n x) (MovA.v x) (List.take x2 (MovA.R x)))) = (moveR (MovA.R x) (MovA.n x) (MovA.v x))) ∧
 True))))))))))))))))) := by kernel_rfl

theorem rsrt_vc (x : rsrtT.γ) : evCall rsortE (ev rsortE 1000) 68 (rsrtT.args x) ⟨rsrtT.blks x, rsrtT.n0, []⟩ (fun _ _ => False) (rsrtT.ends x) = (
((∃ x1 : Nat,
 (((0 : Int) = (↑x1 : Int)) ∧
 (((0 : Nat) = (List.length (insS (List.take x1 x)))) ∧
 ((([] : List ChangeD) = (insS (List.take x1 x))) ∧
 (Nat.le x1 (List.length x)))))) ∧
 (∀ x2 : Nat,
 ((Nat.le x2 (List.length x)) →
 ((((List.length x) * (32 : Nat)) ≤ room47) →
 (br (decide ((↑x2 : Int) < (↑(List.length x) : Int)))
 ((((List.length (insS (List.take x2 x))) * (32 : Nat)) ≤ room47) →
 ((∃ x3 : Nat,
 (((↑(List.length (insS (List.take x2 x))) : Int) = (↑x3 : Int)) ∧
 ((x3 ≤ (List.length (insS (List.take x2 x)))) ∧
 (∀ x4 : Nat,
 ((x3 ≤ x4) →
 ((x4 < (List.length (insS (List.take x2 x)))) →
 ((cmpC (List.getD x (Int.toNat (↑x2 : Int)) (ChangeD.mk ([] : List UInt8) Bool.false (0 : Int))) (List.getD (insS (List.take x2 x)) x4 (ChangeD.mk ([] : List UInt8) Bool.false (0 : Int)))) < (0 : Int)))))))) ∧
 (∀ x5 : Nat,
 (((x5 ≤ (List.length (insS (List.take x2 x)))) ∧
 (∀ x6 : Nat,
 ((x5 ≤ x6) →
 ((x6 < (List.length (insS (List.take x2 x)))) →
 ((cmpC (List.getD x (Int.toNat (↑x2 : Int)) (ChangeD.mk ([] : List UInt8) Bool.false (0 : Int))) (List.getD (insS (List.take x2 x)) x6 (ChangeD.mk ([] : List UInt8) Bool.false (0 : Int)))) < (0 : Int)))))) →
 (br (decide ((↑x5 : Int) > (0 : Int)))
 (br (decide (((0 : Int) ≤ (IntKind.wrap IntKind.i64 ((↑x5 : Int) - (1 : Int)))) ∧
 ((IntKind.wrap IntKind.i64 ((↑x5 : Int) - (1 : Int))) < (↑(List.length (insS (List.take x2 x))) : Int))))
 (br (decide (((0 : Nat) + (Int.toNat (IntKind.wrap IntKind.i64 ((↑x5 : Int) - (1 : Int))))) < (List.length (insS (List.take x2 x)))))
 (br (decide (((0 : Int) ≤ (↑x2 : Int)) ∧
 ((↑x2 : Int) < (↑(List.length x) : Int))))
 (∃ x7 : TwoA,
 (((ChangeD.path (List.getD (insS (List.take x2 x)) ((0 : Nat) + (Int.toNat (IntKind.wrap IntKind.i64 ((↑x5 : Int) - (1 : Int))))) (ChangeD.mk ([] : List UInt8) Bool.false (0 : Int)))) = (TwoA.a x7)) ∧
 (((ChangeD.path (List.getD x (Int.toNat (↑x2 : Int)) (ChangeD.mk ([] : List UInt8) Bool.false (0 : Int)))) = (TwoA.b x7)) ∧
 ((((shortB (TwoA.a x7)) = Bool.true) ∧
 ((shortB (TwoA.b x7)) = Bool.true)) ∧
 (∀ x8 : Unit,
 (True →
 (br (decide ((cmpL (splitB (TwoA.a x7)) (splitB (TwoA.b x7))) > (0 : Int)))
 (∃ x9 : Nat,
 (((IntKind.wrap IntKind.i64 ((↑x5 : Int) - (1 : Int))) = (↑x9 : Int)) ∧
 (((x9 ≤ (List.length (insS (List.take x2 x)))) ∧
 (∀ x10 : Nat,
 ((x9 ≤ x10) →
 ((x10 < (List.length (insS (List.take x2 x)))) →
 ((cmpC (List.getD x (Int.toNat (↑x2 : Int)) (ChangeD.mk ([] : List UInt8) Bool.false (0 : Int))) (List.getD (insS (List.take x2 x)) x10 (ChangeD.mk ([] : List UInt8) Bool.false (0 : Int)))) < (0 : Int)))))) ∧
 (x9 < x5))))
 (br (bndB (List.length (insS (List.take x2 x))) (none : Option Int) (Option.some (↑x5 : Int)) (none : Option Int))
 (((Nat.le ((0 : Nat) * (32 : Nat)) room47) ∧
 (Nat.le ((cutN (List.length (insS (List.take x2 x))) (none : Option Int) (Option.some (↑x5 : Int))) * (32 : Nat)) room47)) →
 (br (Bool.and (Bool.and (decide (((addN (0 : Nat) (none : Option Int)) + (cutN (List.length (insS (List.take x2 x))) (none : Option Int) (Option.some (↑x5 : Int)))) ≤ (List.length (insS (List.take x2 x))))) (decide (((0 : Nat) + (0 : Nat)) ≤ (List.length ([] : List ChangeD))))) (decide ((((0 : Nat) + (List.length (List.take (cutN (List.length (insS (List.take x2 x))) (none : Option Int) (Option.some (↑x5 : Int))) (List.drop (addN (0 : Nat) (none : Option Int)) (insS (List.take x2 x)))))) * (32 : Nat)) ≤ room47)))
 (br (decide (((0 : Int) ≤ (↑x2 : Int)) ∧
 ((↑x2 : Int) < (↑(List.length x) : Int))))
 (((Nat.le (((0 : Nat) + (List.length (List.take (cutN (List.length (insS (List.take x2 x))) (none : Option Int) (Option.some (↑x5 : Int))) (List.drop (addN (0 : Nat) (none : Option Int)) (insS (List.take x2 x)))))) * (32 : Nat)) room47) ∧
 (Nat.le ((1 : Nat) * (32 : Nat)) room47)) →
 (br (Bool.and (Bool.and (decide (((0 : Nat) + (1 : Nat)) ≤ (List.length (List.cons (ChangeD.mk (ChangeD.path (List.getD x (Int.toNat (↑x2 : Int)) (ChangeD.mk ([] : List UInt8) Bool.false (0 : Int)))) (ChangeD.gone (List.getD x (Int.toNat (↑x2 : Int)) (ChangeD.mk ([] : List UInt8) Bool.false (0 : Int)))) (ChangeD.digest (List.getD x (Int.toNat (↑x2 : Int)) (ChangeD.mk ([] : List UInt8) Bool.false (0 : Int))))) ([] : List ChangeD))))) (decide (((0 : Nat) + ((0 : Nat) + (List.length (List.take (cutN (List.length (insS (List.take x2 x))) (none : Option Int) (Option.some (↑x5 : Int))) (List.drop (addN (0 : Nat) (none : Option Int)) (insS (List.take x2 x))))))) ≤ (List.length (@HAppend.hAppend (List ChangeD) (List ChangeD) (List ChangeD) _ (List.take (0 : Nat) (List.drop (0 : Nat) ([] : List ChangeD))) (List.take (cutN (List.length (insS (List.take x2 x))) (none : Option Int) (Option.some (↑x5 : Int))) (List.drop (addN (0 : Nat) (none : Option Int)) (insS (List.take x2 x))))))))) (decide (((((0 : Nat) + (List.length (List.take (cutN (List.length (insS (List.take x2 x))) (none : Option Int) (Option.some (↑x5 : Int))) (List.drop (addN (0 : Nat) (none : Option Int)) (insS (List.take x2 x)))))) + (List.length (List.take (1 : Nat) (List.drop (0 : Nat) (List.cons (ChangeD.mk (ChangeD.path (List.getD x (Int.toNat (↑x2 : Int)) (ChangeD.mk ([] : List UInt8) Bool.false (0 : Int)))) (ChangeD.gone (List.getD x (Int.toNat (↑x2 : Int)) (ChangeD.mk ([] : List UInt8) Bool.false (0 : Int)))) (ChangeD.digest (List.getD x (Int.toNat (↑x2 : Int)) (ChangeD.mk ([] : List UInt8) Bool.false (0 : Int))))) ([] : List ChangeD)))))) * (32 : Nat)) ≤ room47)))
 (br (bndB (List.length (insS (List.take x2 x))) (Option.some (↑x5 : Int)) (none : Option Int) (none : Option Int))
 (((Nat.le ((((0 : Nat) + (List.length (List.take (cutN (List.length (insS (List.take x2 x))) (none : Option Int) (Option.some (↑x5 : Int))) (List.drop (addN (0 : Nat) (none : Option Int)) (insS (List.take x2 x)))))) + (List.length (List.take (1 : Nat) (List.drop (0 : Nat) (List.cons (ChangeD.mk (ChangeD.path (List.getD x (Int.toNat (↑x2 : Int)) (ChangeD.mk ([] : List UInt8) Bool.false (0 : Int)))) (ChangeD.gone (List.getD x (Int.toNat (↑x2 : Int)) (ChangeD.mk ([] : List UInt8) Bool.false (0 : Int)))) (ChangeD.digest (List.getD x (Int.toNat (↑x2 : Int)) (ChangeD.mk ([] : List UInt8) Bool.false (0 : Int))))) ([] : List ChangeD)))))) * (32 : Nat)) room47) ∧
 (Nat.le ((cutN (List.length (insS (List.take x2 x))) (Option.some (↑x5 : Int)) (none : Option Int)) * (32 : Nat)) room47)) →
 (br (Bool.and (Bool.and (decide (((addN (0 : Nat) (Option.some (↑x5 : Int))) + (cutN (List.length (insS (List.take x2 x))) (Option.some (↑x5 : Int)) (none : Option Int))) ≤ (List.length (insS (List.take x2 x))))) (decide (((0 : Nat) + (((0 : Nat) + (List.length (List.take (cutN (List.length (insS (List.take x2 x))) (none : Option Int) (Option.some (↑x5 : Int))) (List.drop (addN (0 : Nat) (none : Option Int)) (insS (List.take x2 x)))))) + (List.length (List.take (1 : Nat) (List.drop (0 : Nat) (List.cons (ChangeD.mk (ChangeD.path (List.getD x (Int.toNat (↑x2 : Int)) (ChangeD.mk ([] : List UInt8) Bool.false (0 : Int)))) (ChangeD.gone (List.getD x (Int.toNat (↑x2 : Int)) (ChangeD.mk ([] : List UInt8) Bool.false (0 : Int)))) (ChangeD.digest (List.getD x (Int.toNat (↑x2 : Int)) (ChangeD.mk ([] : List UInt8) Bool.false (0 : Int))))) ([] : List ChangeD))))))) ≤ (List.length (@HAppend.hAppend (List ChangeD) (List ChangeD) (List ChangeD) _ (List.take ((0 : Nat) + (List.length (List.take (cutN (List.length (insS (List.take x2 x))) (none : Option Int) (Option.some (↑x5 : Int))) (List.drop (addN (0 : Nat) (none : Option Int)) (insS (List.take x2 x)))))) (List.drop (0 : Nat) (@HAppend.hAppend (List ChangeD) (List ChangeD) (List ChangeD) _ (List.take (0 : Nat) (List.drop (0 : Nat) ([] : List ChangeD))) (List.take (cutN (List.length (insS (List.take x2 x))) (none : Option Int) (Option.some (↑x5 : Int))) (List.drop (addN (0 : Nat) (none : Option Int)) (insS (List.take x2 x))))))) (List.take (1 : Nat) (List.drop (0 : Nat) (List.cons (ChangeD.mk (ChangeD.path (List.getD x (Int.toNat (↑x2 : Int)) (ChangeD.mk ([] : List UInt8) Bool.false (0 : Int)))) (ChangeD.gone (List.getD x (Int.toNat (↑x2 : Int)) (ChangeD.mk ([] : List UInt8) Bool.false (0 : Int)))) (ChangeD.digest (List.getD x (Int.toNat (↑x2 : Int)) (ChangeD.mk ([] : List UInt8) Bool.false (0 : Int))))) ([] : List ChangeD))))))))) (decide ((((((0 : Nat) + (List.length (List.take (cutN (List.length (insS (List.take x2 x))) (none : Option Int) (Option.some (↑x5 : Int))) (List.drop (addN (0 : Nat) (none : Option Int)) (insS (List.take x2 x)))))) + (List.length (List.take (1 : Nat) (List.drop (0 : Nat) (List.cons (ChangeD.mk (ChangeD.path (List.getD x (Int.toNat (↑x2 : Int)) (ChangeD.mk ([] : List UInt8) Bool.false (0 : Int)))) (ChangeD.gone (List.getD x (Int.toNat (↑x2 : Int)) (ChangeD.mk ([] : List UInt8) Bool.false (0 : Int)))) (ChangeD.digest (List.getD x (Int.toNat (↑x2 : Int)) (ChangeD.mk ([] : List UInt8) Bool.false (0 : Int))))) ([] : List ChangeD)))))) + (List.length (List.take (cutN (List.length (insS (List.take x2 x))) (Option.some (↑x5 : Int)) (none : Option Int)) (List.drop (addN (0 : Nat) (Option.some (↑x5 : Int))) (insS (List.take x2 x)))))) * (32 : Nat)) ≤ room47)))
 (∃ x11 : Nat,
 (((IntKind.wrap IntKind.i64 ((↑x2 : Int) + (1 : Int))) = (↑x11 : Int)) ∧
 (((0 : Nat) = (0 : Nat)) ∧
 ((((((0 : Nat) + (List.length (List.take (cutN (List.length (insS (List.take x2 x))) (none : Option Int) (Option.some (↑x5 : Int))) (List.drop (addN (0 : Nat) (none : Option Int)) (insS (List.take x2 x)))))) + (List.length (List.take (1 : Nat) (List.drop (0 : Nat) (List.cons (ChangeD.mk (ChangeD.path (List.getD x (Int.toNat (↑x2 : Int)) (ChangeD.mk ([] : List UInt8) Bool.false (0 : Int)))) (ChangeD.gone (List.getD x (Int.toNat (↑x2 : Int)) (ChangeD.mk ([] : List UInt8) Bool.false (0 : Int)))) (ChangeD.digest (List.getD x (Int.toNat (↑x2 : Int)) (ChangeD.mk ([] : List UInt8) Bool.false (0 : Int))))) ([] : List ChangeD)))))) + (List.length (List.take (cutN (List.length (insS (List.take x2 x))) (Option.some (↑x5 : Int)) (none : Option Int)) (List.drop (addN (0 : Nat) (Option.some (↑x5 : Int))) (insS (List.take x2 x)))))) = (List.length (insS (List.take x11 x)))) ∧
 (((@HAppend.hAppend (List ChangeD) (List ChangeD) (List ChangeD) _ (List.take (((0 : Nat) + (List.length (List.take (cutN (List.length (insS (List.take x2 x))) (none : Option Int) (Option.some (↑x5 : Int))) (List.drop (addN (0 : Nat) (none : Option Int)) (insS (List.take x2 x)))))) + (List.length (List.take (1 : Nat) (List.drop (0 : Nat) (List.cons (ChangeD.mk (ChangeD.path (List.getD x (Int.toNat (↑x2 : Int)) (ChangeD.mk ([] : List UInt8) Bool.false (0 : Int)))) (ChangeD.gone (List.getD x (Int.toNat (↑x2 : Int)) (ChangeD.mk ([] : List UInt8) Bool.false (0 : Int)))) (ChangeD.digest (List.getD x (Int.toNat (↑x2 : Int)) (ChangeD.mk ([] : List UInt8) Bool.false (0 : Int))))) ([] : List ChangeD)))))) (List.drop (0 : Nat) (@HAppend.hAppend (List ChangeD) (List ChangeD) (List ChangeD) _ (List.take ((0 : Nat) + (List.length (List.take (cutN (List.length (insS (List.take x2 x))) (none : Option Int) (Option.some (↑x5 : Int))) (List.drop (addN (0 : Nat) (none : Option Int)) (insS (List.take x2 x)))))) (List.drop (0 : Nat) (@HAppend.hAppend (List ChangeD) (List ChangeD) (List ChangeD) _ (List.take (0 : Nat) (List.drop (0 : Nat) ([] : List ChangeD))) (List.take (cutN (List.length (insS (List.take x2 x))) (none : Option Int) (Option.some (↑x5 : Int))) (List.drop (addN (0 : Nat) (none : Option Int)) (insS (List.take x2 x))))))) (List.take (1 : Nat) (List.drop (0 : Nat) (List.cons (ChangeD.mk (ChangeD.path (List.getD x (Int.toNat (↑x2 : Int)) (ChangeD.mk ([] : List UInt8) Bool.false (0 : Int)))) (ChangeD.gone (List.getD x (Int.toNat (↑x2 : Int)) (ChangeD.mk ([] : List UInt8) Bool.false (0 : Int)))) (ChangeD.digest (List.getD x (Int.toNat (↑x2 : Int)) (ChangeD.mk ([] : List UInt8) Bool.false (0 : Int))))) ([] : List ChangeD))))))) (List.take (cutN (List.length (insS (List.take x2 x))) (Option.some (↑x5 : Int)) (none : Option Int)) (List.drop (addN (0 : Nat) (Option.some (↑x5 : Int))) (insS (List.take x2 x))))) = (insS (List.take x11 x))) ∧
 ((Nat.le x11 (List.length x)) ∧
 ((Nat.sub (List.length x) x11) < (Nat.sub (List.length x) x2))))))))
 (Bad "check" "ref.go:107")))
 (Bad "check" "ref.go:107"))
 (Bad "check" "ref.go:106")))
 (Bad "check" "ref.go:106"))
 (Bad "check" "ref.go:105")))
 (Bad "check" "ref.go:105")))))))))
 (Bad "check" "ref.go:102"))
 (Bad "check" "ref.go:102"))
 (Bad "check" "ref.go:102"))
 (br (bndB (List.length (insS (List.take x2 x))) (none : Option Int) (Option.some (↑x5 : Int)) (none : Option Int))
 (((Nat.le ((0 : Nat) * (32 : Nat)) room47) ∧
 (Nat.le ((cutN (List.length (insS (List.take x2 x))) (none : Option Int) (Option.some (↑x5 : Int))) * (32 : Nat)) room47)) →
 (br (Bool.and (Bool.and (decide (((addN (0 : Nat) (none : Option Int)) + (cutN (List.length (insS (List.take x2 x))) (none : Option Int) (Option.some (↑x5 : Int)))) ≤ (List.length (insS (List.take x2 x))))) (decide (((0 : Nat) + (0 : Nat)) ≤ (List.length ([] : List ChangeD))))) (decide ((((0 : Nat) + (List.length (List.take (cutN (List.length (insS (List.take x2 x))) (none : Option Int) (Option.some (↑x5 : Int))) (List.drop (addN (0 : Nat) (none : Option Int)) (insS (List.take x2 x)))))) * (32 : Nat)) ≤ room47)))
 (br (decide (((0 : Int) ≤ (↑x2 : Int)) ∧
 ((↑x2 : Int) < (↑(List.length x) : Int))))
 (((Nat.le (((0 : Nat) + (List.length (List.take (cutN (List.length (insS (List.take x2 x))) (none : Option Int) (Option.some (↑x5 : Int))) (List.drop (addN (0 : Nat) (none : Option Int)) (insS (List.take x2 x)))))) * (32 : Nat)) room47) ∧
 (Nat.le ((1 : Nat) * (32 : Nat)) room47)) →
 (br (Bool.and (Bool.and (decide (((0 : Nat) + (1 : Nat)) ≤ (List.length (List.cons (ChangeD.mk (ChangeD.path (List.getD x (Int.toNat (↑x2 : Int)) (ChangeD.mk ([] : List UInt8) Bool.false (0 : Int)))) (ChangeD.gone (List.getD x (Int.toNat (↑x2 : Int)) (ChangeD.mk ([] : List UInt8) Bool.false (0 : Int)))) (ChangeD.digest (List.getD x (Int.toNat (↑x2 : Int)) (ChangeD.mk ([] : List UInt8) Bool.false (0 : Int))))) ([] : List ChangeD))))) (decide (((0 : Nat) + ((0 : Nat) + (List.length (List.take (cutN (List.length (insS (List.take x2 x))) (none : Option Int) (Option.some (↑x5 : Int))) (List.drop (addN (0 : Nat) (none : Option Int)) (insS (List.take x2 x))))))) ≤ (List.length (@HAppend.hAppend (List ChangeD) (List ChangeD) (List ChangeD) _ (List.take (0 : Nat) (List.drop (0 : Nat) ([] : List ChangeD))) (List.take (cutN (List.length (insS (List.take x2 x))) (none : Option Int) (Option.some (↑x5 : Int))) (List.drop (addN (0 : Nat) (none : Option Int)) (insS (List.take x2 x))))))))) (decide (((((0 : Nat) + (List.length (List.take (cutN (List.length (insS (List.take x2 x))) (none : Option Int) (Option.some (↑x5 : Int))) (List.drop (addN (0 : Nat) (none : Option Int)) (insS (List.take x2 x)))))) + (List.length (List.take (1 : Nat) (List.drop (0 : Nat) (List.cons (ChangeD.mk (ChangeD.path (List.getD x (Int.toNat (↑x2 : Int)) (ChangeD.mk ([] : List UInt8) Bool.false (0 : Int)))) (ChangeD.gone (List.getD x (Int.toNat (↑x2 : Int)) (ChangeD.mk ([] : List UInt8) Bool.false (0 : Int)))) (ChangeD.digest (List.getD x (Int.toNat (↑x2 : Int)) (ChangeD.mk ([] : List UInt8) Bool.false (0 : Int))))) ([] : List ChangeD)))))) * (32 : Nat)) ≤ room47)))
 (br (bndB (List.length (insS (List.take x2 x))) (Option.some (↑x5 : Int)) (none : Option Int) (none : Option Int))
 (((Nat.le ((((0 : Nat) + (List.length (List.take (cutN (List.length (insS (List.take x2 x))) (none : Option Int) (Option.some (↑x5 : Int))) (List.drop (addN (0 : Nat) (none : Option Int)) (insS (List.take x2 x)))))) + (List.length (List.take (1 : Nat) (List.drop (0 : Nat) (List.cons (ChangeD.mk (ChangeD.path (List.getD x (Int.toNat (↑x2 : Int)) (ChangeD.mk ([] : List UInt8) Bool.false (0 : Int)))) (ChangeD.gone (List.getD x (Int.toNat (↑x2 : Int)) (ChangeD.mk ([] : List UInt8) Bool.false (0 : Int)))) (ChangeD.digest (List.getD x (Int.toNat (↑x2 : Int)) (ChangeD.mk ([] : List UInt8) Bool.false (0 : Int))))) ([] : List ChangeD)))))) * (32 : Nat)) room47) ∧
 (Nat.le ((cutN (List.length (insS (List.take x2 x))) (Option.some (↑x5 : Int)) (none : Option Int)) * (32 : Nat)) room47)) →
 (br (Bool.and (Bool.and (decide (((addN (0 : Nat) (Option.some (↑x5 : Int))) + (cutN (List.length (insS (List.take x2 x))) (Option.some (↑x5 : Int)) (none : Option Int))) ≤ (List.length (insS (List.take x2 x))))) (decide (((0 : Nat) + (((0 : Nat) + (List.length (List.take (cutN (List.length (insS (List.take x2 x))) (none : Option Int) (Option.some (↑x5 : Int))) (List.drop (addN (0 : Nat) (none : Option Int)) (insS (List.take x2 x)))))) + (List.length (List.take (1 : Nat) (List.drop (0 : Nat) (List.cons (ChangeD.mk (ChangeD.path (List.getD x (Int.toNat (↑x2 : Int)) (ChangeD.mk ([] : List UInt8) Bool.false (0 : Int)))) (ChangeD.gone (List.getD x (Int.toNat (↑x2 : Int)) (ChangeD.mk ([] : List UInt8) Bool.false (0 : Int)))) (ChangeD.digest (List.getD x (Int.toNat (↑x2 : Int)) (ChangeD.mk ([] : List UInt8) Bool.false (0 : Int))))) ([] : List ChangeD))))))) ≤ (List.length (@HAppend.hAppend (List ChangeD) (List ChangeD) (List ChangeD) _ (List.take ((0 : Nat) + (List.length (List.take (cutN (List.length (insS (List.take x2 x))) (none : Option Int) (Option.some (↑x5 : Int))) (List.drop (addN (0 : Nat) (none : Option Int)) (insS (List.take x2 x)))))) (List.drop (0 : Nat) (@HAppend.hAppend (List ChangeD) (List ChangeD) (List ChangeD) _ (List.take (0 : Nat) (List.drop (0 : Nat) ([] : List ChangeD))) (List.take (cutN (List.length (insS (List.take x2 x))) (none : Option Int) (Option.some (↑x5 : Int))) (List.drop (addN (0 : Nat) (none : Option Int)) (insS (List.take x2 x))))))) (List.take (1 : Nat) (List.drop (0 : Nat) (List.cons (ChangeD.mk (ChangeD.path (List.getD x (Int.toNat (↑x2 : Int)) (ChangeD.mk ([] : List UInt8) Bool.false (0 : Int)))) (ChangeD.gone (List.getD x (Int.toNat (↑x2 : Int)) (ChangeD.mk ([] : List UInt8) Bool.false (0 : Int)))) (ChangeD.digest (List.getD x (Int.toNat (↑x2 : Int)) (ChangeD.mk ([] : List UInt8) Bool.false (0 : Int))))) ([] : List ChangeD))))))))) (decide ((((((0 : Nat) + (List.length (List.take (cutN (List.length (insS (List.take x2 x))) (none : Option Int) (Option.some (↑x5 : Int))) (List.drop (addN (0 : Nat) (none : Option Int)) (insS (List.take x2 x)))))) + (List.length (List.take (1 : Nat) (List.drop (0 : Nat) (List.cons (ChangeD.mk (ChangeD.path (List.getD x (Int.toNat (↑x2 : Int)) (ChangeD.mk ([] : List UInt8) Bool.false (0 : Int)))) (ChangeD.gone (List.getD x (Int.toNat (↑x2 : Int)) (ChangeD.mk ([] : List UInt8) Bool.false (0 : Int)))) (ChangeD.digest (List.getD x (Int.toNat (↑x2 : Int)) (ChangeD.mk ([] : List UInt8) Bool.false (0 : Int))))) ([] : List ChangeD)))))) + (List.length (List.take (cutN (List.length (insS (List.take x2 x))) (Option.some (↑x5 : Int)) (none : Option Int)) (List.drop (addN (0 : Nat) (Option.some (↑x5 : Int))) (insS (List.take x2 x)))))) * (32 : Nat)) ≤ room47)))
 (∃ x12 : Nat,
 (((IntKind.wrap IntKind.i64 ((↑x2 : Int) + (1 : Int))) = (↑x12 : Int)) ∧
 (((0 : Nat) = (0 : Nat)) ∧
 ((((((0 : Nat) + (List.length (List.take (cutN (List.length (insS (List.take x2 x))) (none : Option Int) (Option.some (↑x5 : Int))) (List.drop (addN (0 : Nat) (none : Option Int)) (insS (List.take x2 x)))))) + (List.length (List.take (1 : Nat) (List.drop (0 : Nat) (List.cons (ChangeD.mk (ChangeD.path (List.getD x (Int.toNat (↑x2 : Int)) (ChangeD.mk ([] : List UInt8) Bool.false (0 : Int)))) (ChangeD.gone (List.getD x (Int.toNat (↑x2 : Int)) (ChangeD.mk ([] : List UInt8) Bool.false (0 : Int)))) (ChangeD.digest (List.getD x (Int.toNat (↑x2 : Int)) (ChangeD.mk ([] : List UInt8) Bool.false (0 : Int))))) ([] : List ChangeD)))))) + (List.length (List.take (cutN (List.length (insS (List.take x2 x))) (Option.some (↑x5 : Int)) (none : Option Int)) (List.drop (addN (0 : Nat) (Option.some (↑x5 : Int))) (insS (List.take x2 x)))))) = (List.length (insS (List.take x12 x)))) ∧
 (((@HAppend.hAppend (List ChangeD) (List ChangeD) (List ChangeD) _ (List.take (((0 : Nat) + (List.length (List.take (cutN (List.length (insS (List.take x2 x))) (none : Option Int) (Option.some (↑x5 : Int))) (List.drop (addN (0 : Nat) (none : Option Int)) (insS (List.take x2 x)))))) + (List.length (List.take (1 : Nat) (List.drop (0 : Nat) (List.cons (ChangeD.mk (ChangeD.path (List.getD x (Int.toNat (↑x2 : Int)) (ChangeD.mk ([] : List UInt8) Bool.false (0 : Int)))) (ChangeD.gone (List.getD x (Int.toNat (↑x2 : Int)) (ChangeD.mk ([] : List UInt8) Bool.false (0 : Int)))) (ChangeD.digest (List.getD x (Int.toNat (↑x2 : Int)) (ChangeD.mk ([] : List UInt8) Bool.false (0 : Int))))) ([] : List ChangeD)))))) (List.drop (0 : Nat) (@HAppend.hAppend (List ChangeD) (List ChangeD) (List ChangeD) _ (List.take ((0 : Nat) + (List.length (List.take (cutN (List.length (insS (List.take x2 x))) (none : Option Int) (Option.some (↑x5 : Int))) (List.drop (addN (0 : Nat) (none : Option Int)) (insS (List.take x2 x)))))) (List.drop (0 : Nat) (@HAppend.hAppend (List ChangeD) (List ChangeD) (List ChangeD) _ (List.take (0 : Nat) (List.drop (0 : Nat) ([] : List ChangeD))) (List.take (cutN (List.length (insS (List.take x2 x))) (none : Option Int) (Option.some (↑x5 : Int))) (List.drop (addN (0 : Nat) (none : Option Int)) (insS (List.take x2 x))))))) (List.take (1 : Nat) (List.drop (0 : Nat) (List.cons (ChangeD.mk (ChangeD.path (List.getD x (Int.toNat (↑x2 : Int)) (ChangeD.mk ([] : List UInt8) Bool.false (0 : Int)))) (ChangeD.gone (List.getD x (Int.toNat (↑x2 : Int)) (ChangeD.mk ([] : List UInt8) Bool.false (0 : Int)))) (ChangeD.digest (List.getD x (Int.toNat (↑x2 : Int)) (ChangeD.mk ([] : List UInt8) Bool.false (0 : Int))))) ([] : List ChangeD))))))) (List.take (cutN (List.length (insS (List.take x2 x))) (Option.some (↑x5 : Int)) (none : Option Int)) (List.drop (addN (0 : Nat) (Option.some (↑x5 : Int))) (insS (List.take x2 x))))) = (insS (List.take x12 x))) ∧
 ((Nat.le x12 (List.length x)) ∧
 ((Nat.sub (List.length x) x12) < (Nat.sub (List.length x) x2))))))))
 (Bad "check" "ref.go:107")))
 (Bad "check" "ref.go:107"))
 (Bad "check" "ref.go:106")))
 (Bad "check" "ref.go:106"))
 (Bad "check" "ref.go:105")))
 (Bad "check" "ref.go:105")))))))
 (∃ x13 : Unit,
 ((((0 : Nat) + (List.length (insS (List.take x2 x)))) ≤ (List.length (insS (List.take x2 x)))) ∧
 (((List.take (List.length (insS (List.take x2 x))) (List.drop (0 : Nat) (insS (List.take x2 x)))) = (insS x)) ∧
 True))))))))) := by kernel_rfl

theorem looks_vc (x : looksT.γ) : evCall looksE (ev looksE 1000) 23 (looksT.args x) ⟨looksT.blks x, looksT.n0, []⟩ (fun _ _ => False) (looksT.ends x) = (
((((List.length x) * (56 : Nat)) ≤ room47) →
 (∃ x1 : (List CommitD),
 (((0 : Nat) = (0 : Nat)) ∧
 (((List.length x) = (List.length x1)) ∧
 (((treeC x) = (treeC x1)) ∧
 ((x = x1) ∧
 (((kvC x) = (kvC x1)) ∧
 (True ∧
 (∀ x2 : Unit,
 (True →
 (br ((↑(List.length x1) : Int) == (↑(List.length x) : Int))
 (∃ x3 : (List CommitD),
 (((0 : Nat) = (0 : Nat)) ∧
 (((List.length x1) = (List.length x3)) ∧
 (((treeC x1) = (treeC x3)) ∧
 ((x1 = x3) ∧
 (((kvC x1) = (kvC x3)) ∧
 (((fewG x3) = Bool.true) ∧
 (∀ x4 : Unit,
 (True →
 (∃ x5 : Com2,
 ((x3 = (Com2.a x5)) ∧
 ((((0 : Nat) + (List.length x)) ≤ (List.length x)) ∧
 (((List.take (List.length x) (List.drop (0 : Nat) x)) = (Com2.b x5)) ∧
 (True ∧
 (∀ x6 : Unit,
 (True →
 (br (sameM (Com2.a x5) (Com2.b x5))
 (∃ x7 : (List CommitD),
 (((0 : Nat) = (0 : Nat)) ∧
 (((List.length x3) = (List.length x7)) ∧
 (((treeC x3) = (treeC x7)) ∧
 ((x3 = x7) ∧
 (((kvC x3) = (kvC x7)) ∧
 (((fewG x7) = Bool.true) ∧
 (∀ x8 : Unit,
 (True →
 (∃ x9 : Lea2,
 (((rowC x7) = (Lea2.a x9)) ∧
 ((((0 : Nat) + (List.length (rowC x))) ≤ (List.length (rowC x))) ∧
 (((List.take (List.length (rowC x)) (List.drop (0 : Nat) (rowC x))) = (Lea2.b x9)) ∧
 (True ∧
 (∀ x10 : Unit,
 (True →
 (br (sameLB (Lea2.a x9) (Lea2.b x9))
 (∃ x11 : (List CommitD),
 (((0 : Nat) = (0 : Nat)) ∧
 (((List.length x7) = (List.length x11)) ∧
 (((treeC x7) = (treeC x11)) ∧
 ((x7 = x11) ∧
 (((kvC x7) = (kvC x11)) ∧
 (((fewG x11) = Bool.true) ∧
 (∀ x12 : Unit,
 (True →
 (∃ x13 : Ref2,
 (((refsC x11) = (Ref2.a x13)) ∧
 ((((0 : Nat) + (List.length (refsR x))) ≤ (List.length (refsR x))) ∧
 (((List.take (List.length (refsR x)) (List.drop (0 : Nat) (refsR x))) = (Ref2.b x13)) ∧
 (True ∧
 (∀ x14 : Unit,
 (True →
 (∃ x15 : Unit,
 (((sameRB (Ref2.a x13) (Ref2.b x13)) = Bool.true) ∧
 (((0 : Nat) = (0 : Nat)) ∧
 (((List.length x11) = (List.length x)) ∧
 (((treeC x11) = (treeC x)) ∧
 ((x11 = x) ∧
 (((kvC x11) = (kvC x)) ∧
 (((0 : Nat) = (0 : Nat)) ∧
 (((List.length x) = (List.length x)) ∧
 (((0 : Nat) = (0 : Nat)) ∧
 (((List.length (rowC x)) = (List.length (rowC x))) ∧
 (((0 : Nat) = (0 : Nat)) ∧
 (((List.length (refsR x)) = (List.length (refsR x))) ∧
 ((x = x) ∧
 (((rowC x) = (rowC x)) ∧
 (((refsR x) = (refsR x)) ∧
 True))))))))))))))))))))))))))))))))
 (∃ x16 : Unit,
 ((Bool.false = Bool.true) ∧
 (((0 : Nat) = (0 : Nat)) ∧
 (((List.length x7) = (List.length x)) ∧
 (((treeC x7) = (treeC x)) ∧
 ((x7 = x) ∧
 (((kvC x7) = (kvC x)) ∧
 (((0 : Nat) = (0 : Nat)) ∧
 (((List.length x) = (List.length x)) ∧
 (((0 : Nat) = (0 : Nat)) ∧
 (((List.length (rowC x)) = (List.length (rowC x))) ∧
 (((0 : Nat) = (0 : Nat)) ∧
 (((List.length (refsR x)) = (List.length (refsR x))) ∧
 ((x = x) ∧
 (((rowC x) = (rowC x)) ∧
 (((refsR x) = (refsR x)) ∧
 True)))))))))))))))))))))))))))))))))
 (∃ x17 : Unit,
 ((Bool.false = Bool.true) ∧
 (((0 : Nat) = (0 : Nat)) ∧
 (((List.length x3) = (List.length x)) ∧
 (((treeC x3) = (treeC x)) ∧
 ((x3 = x) ∧
 (((kvC x3) = (kvC x)) ∧
 (((0 : Nat) = (0 : Nat)) ∧
 (((List.length x) = (List.length x)) ∧
 (((0 : Nat) = (0 : Nat)) ∧
 (((List.length (rowC x)) = (List.length (rowC x))) ∧
 (((0 : Nat) = (0 : Nat)) ∧
 (((List.length (refsR x)) = (List.length (refsR x))) ∧
 ((x = x) ∧
 (((rowC x) = (rowC x)) ∧
 (((refsR x) = (refsR x)) ∧
 True)))))))))))))))))))))))))))))))))
 (∃ x18 : Unit,
 ((Bool.false = Bool.true) ∧
 (((0 : Nat) = (0 : Nat)) ∧
 (((List.length x1) = (List.length x)) ∧
 (((treeC x1) = (treeC x)) ∧
 ((x1 = x) ∧
 (((kvC x1) = (kvC x)) ∧
 (((0 : Nat) = (0 : Nat)) ∧
 (((List.length x) = (List.length x)) ∧
 (((0 : Nat) = (0 : Nat)) ∧
 (((List.length (rowC x)) = (List.length (rowC x))) ∧
 (((0 : Nat) = (0 : Nat)) ∧
 (((List.length (refsR x)) = (List.length (refsR x))) ∧
 ((x = x) ∧
 (((rowC x) = (rowC x)) ∧
 (((refsR x) = (refsR x)) ∧
 True)))))))))))))))))))))))))))) := by kernel_rfl

end Go.Proofs.YtildflamnehilaaGreat.Ses

namespace Go.Proofs.YtildflamnehilaaGreat.Ses
open Go Go.Proofs Go.Proofs.YtildflamnehilaaGreat.Sx Go.Proofs.YtildflamnehilaaGreat.Trx
set_option maxRecDepth 100000

theorem rland_vc (x : rlandT.γ) : evCall rlandE (ev rlandE 1000) 19 (rlandT.args x) ⟨rlandT.blks x, rlandT.n0, []⟩ (fun _ _ => False) (rlandT.ends x) = (
(∃ x1 : (List ChangeD),
 (((LandA.l x) = x1) ∧
 (((shortC x1) = Bool.true) ∧
 (∀ x2 : Unit,
 (True →
 (br ((chkC x1) != (0 : Int))
 (∃ x3 : Unit,
 (((5 : Int) = (VerdictD.code (landV x))) ∧
 (((0 : Int) = (VerdictD.session (landV x))) ∧
 (((0 : Int) = (VerdictD.rev (landV x))) ∧
 (((Array.toList (ByteArray.data (ByteArray.mk (List.toArray ([] : List UInt8))))) = (VerdictD.path (landV x))) ∧
 (((0 : Int) = (VerdictD.digest (landV x))) ∧
 ((([] : List CommitD) = (VerdictD.commits (landV x))) ∧
 (((0 : Int) = (VerdictD.member (landV x))) ∧
 (((0 : Nat) = (0 : Nat)) ∧
 (((List.length (LandA.C x)) = (List.length (landC x))) ∧
 (((0 : Nat) = (0 : Nat)) ∧
 (((List.length (rowC (LandA.C x))) = (List.length (rowC (landC x)))) ∧
 (((0 : Nat) = (0 : Nat)) ∧
 (((List.length (refsR (LandA.C x))) = (List.length (refsR (landC x)))) ∧
 (((LandA.C x) = (landC x)) ∧
 (((rowC (LandA.C x)) = (rowC (landC x))) ∧
 (((refsR (LandA.C x)) = (refsR (landC x))) ∧
 True)))))))))))))))))
 (br (Bool.not ((LandA.ref x) == (Array.toList (ByteArray.data (ByteArray.mk (List.toArray ([] : List UInt8)))))))
 (∃ x4 : WordA,
 (((LandA.ref x) = (WordA.s x4)) ∧
 ((Bool.false = (WordA.point x4)) ∧
 (True ∧
 (∀ x5 : Unit,
 (True →
 (br (Bool.not (wordOk (WordA.s x4) (WordA.point x4)))
 (∃ x6 : Unit,
 (((5 : Int) = (VerdictD.code (landV x))) ∧
 (((0 : Int) = (VerdictD.session (landV x))) ∧
 (((0 : Int) = (VerdictD.rev (landV x))) ∧
 (((Array.toList (ByteArray.data (ByteArray.mk (List.toArray ([] : List UInt8))))) = (VerdictD.path (landV x))) ∧
 (((0 : Int) = (VerdictD.digest (landV x))) ∧
 ((([] : List CommitD) = (VerdictD.commits (landV x))) ∧
 (((0 : Int) = (VerdictD.member (landV x))) ∧
 (((0 : Nat) = (0 : Nat)) ∧
 (((List.length (LandA.C x)) = (List.length (landC x))) ∧
 (((0 : Nat) = (0 : Nat)) ∧
 (((List.length (rowC (LandA.C x))) = (List.length (rowC (landC x)))) ∧
 (((0 : Nat) = (0 : Nat)) ∧
 (((List.length (refsR (LandA.C x))) = (List.length (refsR (landC x)))) ∧
 (((LandA.C x) = (landC x)) ∧
 (((rowC (LandA.C x)) = (rowC (landC x))) ∧
 (((refsR (LandA.C x)) = (refsR (landC x))) ∧
 True)))))))))))))))))
 (br (decide ((LandA.base x) < (0 : Int)))
 (∃ x7 : Unit,
 (((5 : Int) = (VerdictD.code (landV x))) ∧
 (((0 : Int) = (VerdictD.session (landV x))) ∧
 (((0 : Int) = (VerdictD.rev (landV x))) ∧
 (((Array.toList (ByteArray.data (ByteArray.mk (List.toArray ([] : List UInt8))))) = (VerdictD.path (landV x))) ∧
 (((0 : Int) = (VerdictD.digest (landV x))) ∧
 ((([] : List CommitD) = (VerdictD.commits (landV x))) ∧
 (((0 : Int) = (VerdictD.member (landV x))) ∧
 (((0 : Nat) = (0 : Nat)) ∧
 (((List.length (LandA.C x)) = (List.length (landC x))) ∧
 (((0 : Nat) = (0 : Nat)) ∧
 (((List.length (rowC (LandA.C x))) = (List.length (rowC (landC x)))) ∧
 (((0 : Nat) = (0 : Nat)) ∧
 (((List.length (refsR (LandA.C x))) = (List.length (refsR (landC x)))) ∧
 (((LandA.C x) = (landC x)) ∧
 (((rowC (LandA.C x)) = (rowC (landC x))) ∧
 (((refsR (LandA.C x)) = (refsR (landC x))) ∧
 True)))))))))))))))))
 ((((List.length (LandA.C x)) * (56 : Nat)) ≤ room47) →
 (br (decide ((LandA.base x) > (↑(List.length (LandA.C x)) : Int)))
 ((((List.length (LandA.C x)) * (56 : Nat)) ≤ room47) →
 (∃ x8 : Unit,
 (((4 : Int) = (VerdictD.code (landV x))) ∧
 (((0 : Int) = (VerdictD.session (landV x))) ∧
 (((↑(List.length (LandA.C x)) : Int) = (VerdictD.rev (landV x))) ∧
 (((Array.toList (ByteArray.data (ByteArray.mk (List.toArray ([] : List UInt8))))) = (VerdictD.path (landV x))) ∧
 (((0 : Int) = (VerdictD.digest (landV x))) ∧
 ((([] : List CommitD) = (VerdictD.commits (landV x))) ∧
 (((0 : Int) = (VerdictD.member (landV x))) ∧
 (((0 : Nat) = (0 : Nat)) ∧
 (((List.length (LandA.C x)) = (List.length (landC x))) ∧
 (((0 : Nat) = (0 : Nat)) ∧
 (((List.length (rowC (LandA.C x))) = (List.length (rowC (landC x)))) ∧
 (((0 : Nat) = (0 : Nat)) ∧
 (((List.length (refsR (LandA.C x))) = (List.length (refsR (landC x)))) ∧
 (((LandA.C x) = (landC x)) ∧
 (((rowC (LandA.C x)) = (rowC (landC x))) ∧
 (((refsR (LandA.C x)) = (refsR (landC x))) ∧
 True))))))))))))))))))
 (∃ x9 : (List ChangeD),
 (((LandA.l x) = x9) ∧
 ((((shortC x9) = Bool.true) ∧
 ((fewX x9) = Bool.true)) ∧
 (∀ x10 : Unit,
 (True →
 ((∃ x11 : Nat,
 (((0 : Int) = (↑x11 : Int)) ∧
 ((x11 ≤ (List.length (insS x9))) ∧
 ((confL (rowC (LandA.C x)) (LandA.base x) (List.drop x11 (insS x9))) = (confL (rowC (LandA.C x)) (LandA.base x) (insS x9)))))) ∧
 (∀ x12 : Nat,
 (((x12 ≤ (List.length (insS x9))) ∧
 ((confL (rowC (LandA.C x)) (LandA.base x) (List.drop x12 (insS x9))) = (confL (rowC (LandA.C x)) (LandA.base x) (insS x9)))) →
 ((((List.length (insS x9)) * (32 : Nat)) ≤ room47) →
 (br (decide ((↑x12 : Int) < (↑(List.length (insS x9)) : Int)))
 (br (decide (((0 : Int) ≤ (↑x12 : Int)) ∧
 ((↑x12 : Int) < (↑(List.length (insS x9)) : Int))))
 ((∃ x13 : LeaP,
 ((((0 : Nat) + (List.length (rowC (LandA.C x)))) ≤ (List.length (rowC (LandA.C x)))) ∧
 (((List.take (List.length (rowC (LandA.C x))) (List.drop (0 : Nat) (rowC (LandA.C x)))) = (LeaP.l x13)) ∧
 (((ChangeD.path (List.getD (insS x9) (Int.toNat (↑x12 : Int)) (ChangeD.mk ([] : List UInt8) Bool.false (0 : Int)))) = (LeaP.p x13)) ∧
 ((((shortLf (LeaP.l x13)) = Bool.true) ∧
 ((shortB (LeaP.p x13)) = Bool.true)) ∧
 (∀ x14 : Unit,
 (True →
 (br (Option.isSome (getL (LeaP.p x13) (LeaP.l x13)))
 (br (decide ((LeafD.rev (Option.getD (getL (LeaP.p x13) (LeaP.l x13)) (LeafD.mk ([] : List UInt8) (0 : Int) (0 : Int) Bool.false))) > (LandA.base x)))
 (br (decide (((0 : Int) ≤ (↑x12 : Int)) ∧
 ((↑x12 : Int) < (↑(List.length (insS x9)) : Int))))
 (∃ x15 : Unit,
 (((3 : Int) = (VerdictD.code (landV x))) ∧
 (((0 : Int) = (VerdictD.session (landV x))) ∧
 (((LeafD.rev (Option.getD (getL (LeaP.p x13) (LeaP.l x13)) (LeafD.mk ([] : List UInt8) (0 : Int) (0 : Int) Bool.false))) = (VerdictD.rev (landV x))) ∧
 (((ChangeD.path (List.getD (insS x9) (Int.toNat (↑x12 : Int)) (ChangeD.mk ([] : List UInt8) Bool.false (0 : Int)))) = (VerdictD.path (landV x))) ∧
 (((0 : Int) = (VerdictD.digest (landV x))) ∧
 ((([] : List CommitD) = (VerdictD.commits (landV x))) ∧
 (((0 : Int) = (VerdictD.member (landV x))) ∧
 (((0 : Nat) = (0 : Nat)) ∧
 (((List.length (LandA.C x)) = (List.length (landC x))) ∧
 (((0 : Nat) = (0 : Nat)) ∧
 (((List.length (rowC (LandA.C x))) = (List.length (rowC (landC x)))) ∧
 (((0 : Nat) = (0 : Nat)) ∧
 (((List.length (refsR (LandA.C x))) = (List.length (refsR (landC x)))) ∧
 (((LandA.C x) = (landC x)) ∧
 (((rowC (LandA.C x)) = (rowC (landC x))) ∧
 (((refsR (LandA.C x)) = (refsR (landC x))) ∧
 True)))))))))))))))))
 (Bad "check" "ref.go:207"))
 (∃ x16 : Nat,
 (((IntKind.wrap IntKind.i64 ((↑x12 : Int) + (1 : Int))) = (↑x16 : Int)) ∧
 (((x16 ≤ (List.length (insS x9))) ∧
 ((confL (rowC (LandA.C x)) (LandA.base x) (List.drop x16 (insS x9))) = (confL (rowC (LandA.C x)) (LandA.base x) (insS x9)))) ∧
 ((Nat.sub (List.length (insS x9)) x16) < (Nat.sub (List.length (insS x9)) x12))))))
 (∃ x17 : Nat,
 (((IntKind.wrap IntKind.i64 ((↑x12 : Int) + (1 : Int))) = (↑x17 : Int)) ∧
 (((x17 ≤ (List.length (insS x9))) ∧
 ((confL (rowC (LandA.C x)) (LandA.base x) (List.drop x17 (insS x9))) = (confL (rowC (LandA.C x)) (LandA.base x) (insS x9)))) ∧
 ((Nat.sub (List.length (insS x9)) x17) < (Nat.sub (List.length (insS x9)) x12))))))))))))) ∧
 (∃ x18 : LeaP,
 ((((0 : Nat) + (List.length (rowC (LandA.C x)))) ≤ (List.length (rowC (LandA.C x)))) ∧
 (((List.take (List.length (rowC (LandA.C x))) (List.drop (0 : Nat) (rowC (LandA.C x)))) = (LeaP.l x18)) ∧
 (((ChangeD.path (List.getD (insS x9) (Int.toNat (↑x12 : Int)) (ChangeD.mk ([] : List UInt8) Bool.false (0 : Int)))) = (LeaP.p x18)) ∧
 ((((shortLf (LeaP.l x18)) = Bool.true) ∧
 ((shortB (LeaP.p x18)) = Bool.true)) ∧
 (∀ x19 : Unit,
 (True →
 (br (Option.isSome (getL (LeaP.p x18) (LeaP.l x18)))
 (br (decide ((LeafD.rev (Option.getD (getL (LeaP.p x18) (LeaP.l x18)) (LeafD.mk ([] : List UInt8) (0 : Int) (0 : Int) Bool.false))) > (LandA.base x)))
 (br (decide (((0 : Int) ≤ (↑x12 : Int)) ∧
 ((↑x12 : Int) < (↑(List.length (insS x9)) : Int))))
 (∃ x20 : Unit,
 (((3 : Int) = (VerdictD.code (landV x))) ∧
 (((0 : Int) = (VerdictD.session (landV x))) ∧
 (((LeafD.rev (Option.getD (getL (LeaP.p x18) (LeaP.l x18)) (LeafD.mk ([] : List UInt8) (0 : Int) (0 : Int) Bool.false))) = (VerdictD.rev (landV x))) ∧
 (((ChangeD.path (List.getD (insS x9) (Int.toNat (↑x12 : Int)) (ChangeD.mk ([] : List UInt8) Bool.false (0 : Int)))) = (VerdictD.path (landV x))) ∧
 (((0 : Int) = (VerdictD.digest (landV x))) ∧
 ((([] : List CommitD) = (VerdictD.commits (landV x))) ∧
 (((0 : Int) = (VerdictD.member (landV x))) ∧
 (((0 : Nat) = (0 : Nat)) ∧
 (((List.length (LandA.C x)) = (List.length (landC x))) ∧
 (((0 : Nat) = (0 : Nat)) ∧
 (((List.length (rowC (LandA.C x))) = (List.length (rowC (landC x)))) ∧
 (((0 : Nat) = (0 : Nat)) ∧
 (((List.length (refsR (LandA.C x))) = (List.length (refsR (landC x)))) ∧
 (((LandA.C x) = (landC x)) ∧
 (((rowC (LandA.C x)) = (rowC (landC x))) ∧
 (((refsR (LandA.C x)) = (refsR (landC x))) ∧
 True)))))))))))))))))
 (Bad "check" "ref.go:207"))
 (∃ x21 : Nat,
 (((IntKind.wrap IntKind.i64 ((↑x12 : Int) + (1 : Int))) = (↑x21 : Int)) ∧
 (((x21 ≤ (List.length (insS x9))) ∧
 ((confL (rowC (LandA.C x)) (LandA.base x) (List.drop x21 (insS x9))) = (confL (rowC (LandA.C x)) (LandA.base x) (insS x9)))) ∧
 ((Nat.sub (List.length (insS x9)) x21) < (Nat.sub (List.length (insS x9)) x12))))))
 (∃ x22 : Nat,
 (((IntKind.wrap IntKind.i64 ((↑x12 : Int) + (1 : Int))) = (↑x22 : Int)) ∧
 (((x22 ≤ (List.length (insS x9))) ∧
 ((confL (rowC (LandA.C x)) (LandA.base x) (List.drop x22 (insS x9))) = (confL (rowC (LandA.C x)) (LandA.base x) (insS x9)))) ∧
 ((Nat.sub (List.length (insS x9)) x22) < (Nat.sub (List.length (insS x9)) x12))))))))))))))
 (Bad "check" "ref.go:205"))
 ((((List.length (LandA.C x)) * (56 : Nat)) ≤ room47) →
 (((Nat.le ((List.length (LandA.C x)) * (56 : Nat)) room47) ∧
 (Nat.le ((1 : Nat) * (56 : Nat)) room47)) →
 (br (Bool.and (Bool.and (decide (((0 : Nat) + (1 : Nat)) ≤ (List.length (List.cons (CommitD.mk (IntKind.wrap IntKind.i64 ((↑(List.length (LandA.C x)) : Int) + (1 : Int))) (LandA.base x) (LandA.ref x) (insS x9)) ([] : List CommitD))))) (decide (((0 : Nat) + (List.length (LandA.C x))) ≤ (List.length (LandA.C x))))) (decide ((((List.length (LandA.C x)) + (List.length (List.take (1 : Nat) (List.drop (0 : Nat) (List.cons (CommitD.mk (IntKind.wrap IntKind.i64 ((↑(List.length (LandA.C x)) : Int) + (1 : Int))) (LandA.base x) (LandA.ref x) (insS x9)) ([] : List CommitD)))))) * (56 : Nat)) ≤ room47)))
 ((∃ x23 : Nat,
 (((0 : Int) = (↑x23 : Int)) ∧
 (((0 : Nat) = (0 : Nat)) ∧
 ((((List.length (LandA.C x)) + (List.length (List.take (1 : Nat) (List.drop (0 : Nat) (List.cons (CommitD.mk (IntKind.wrap IntKind.i64 ((↑(List.length (LandA.C x)) : Int) + (1 : Int))) (LandA.base x) (LandA.ref x) (insS x9)) ([] : List CommitD)))))) = ((List.length (LandA.C x)) + (List.length (List.take (1 : Nat) (List.drop (0 : Nat) (List.cons (CommitD.mk (IntKind.wrap IntKind.i64 ((↑(List.length (LandA.C x)) : Int) + (1 : Int))) (LandA.base x) (LandA.ref x) (insS x9)) ([] : List CommitD))))))) ∧
 (((0 : Nat) = (0 : Nat)) ∧
 (((List.length (rowC (LandA.C x))) = (List.length (putsL (rowC (LandA.C x)) (List.map (leafC (IntKind.wrap IntKind.i64 ((↑(List.length (LandA.C x)) : Int) + (1 : Int)))) (List.take x23 (insS x9)))))) ∧
 (((0 : Nat) = (0 : Nat)) ∧
 (((List.length (refsR (LandA.C x))) = (List.length (refsR (LandA.C x)))) ∧
 (((rowC (LandA.C x)) = (putsL (rowC (LandA.C x)) (List.map (leafC (IntKind.wrap IntKind.i64 ((↑(List.length (LandA.C x)) : Int) + (1 : Int)))) (List.take x23 (insS x9))))) ∧
 (Nat.le x23 (List.length (insS x9)))))))))))) ∧
 (∀ x24 : Nat,
 ((Nat.le x24 (List.length (insS x9))) →
 ((((List.length (insS x9)) * (32 : Nat)) ≤ room47) →
 (br (decide ((↑x24 : Int) < (↑(List.length (insS x9)) : Int)))
 (br (decide (((0 : Int) ≤ (↑x24 : Int)) ∧
 ((↑x24 : Int) < (↑(List.length (insS x9)) : Int))))
 (br (decide (((0 : Int) ≤ (↑x24 : Int)) ∧
 ((↑x24 : Int) < (↑(List.length (insS x9)) : Int))))
 (br (decide (((0 : Int) ≤ (↑x24 : Int)) ∧
 ((↑x24 : Int) < (↑(List.length (insS x9)) : Int))))
 (∃ x25 : LeaX,
 ((((0 : Nat) + (List.length (putsL (rowC (LandA.C x)) (List.map (leafC (IntKind.wrap IntKind.i64 ((↑(List.length (LandA.C x)) : Int) + (1 : Int)))) (List.take x24 (insS x9)))))) ≤ (List.length (putsL (rowC (LandA.C x)) (List.map (leafC (IntKind.wrap IntKind.i64 ((↑(List.length (LandA.C x)) : Int) + (1 : Int)))) (List.take x24 (insS x9)))))) ∧
 (((List.take (List.length (putsL (rowC (LandA.C x)) (List.map (leafC (IntKind.wrap IntKind.i64 ((↑(List.length (LandA.C x)) : Int) + (1 : Int)))) (List.take x24 (insS x9))))) (List.drop (0 : Nat) (putsL (rowC (LandA.C x)) (List.map (leafC (IntKind.wrap IntKind.i64 ((↑(List.length (LandA.C x)) : Int) + (1 : Int)))) (List.take x24 (insS x9)))))) = (LeaX.l x25)) ∧
 (((ChangeD.path (List.getD (insS x9) (Int.toNat (↑x24 : Int)) (ChangeD.mk ([] : List UInt8) Bool.false (0 : Int)))) = (LeafD.path (LeaX.x x25))) ∧
 (((ChangeD.digest (List.getD (insS x9) (Int.toNat (↑x24 : Int)) (ChangeD.mk ([] : List UInt8) Bool.false (0 : Int)))) = (LeafD.digest (LeaX.x x25))) ∧
 (((IntKind.wrap IntKind.i64 ((↑(List.length (LandA.C x)) : Int) + (1 : Int))) = (LeafD.rev (LeaX.x x25))) ∧
 (((ChangeD.gone (List.getD (insS x9) (Int.toNat (↑x24 : Int)) (ChangeD.mk ([] : List UInt8) Bool.false (0 : Int)))) = (LeafD.gone (LeaX.x x25))) ∧
 ((((shortLf (LeaX.l x25)) = Bool.true) ∧
 (((shortB (LeafD.path (LeaX.x x25))) = Bool.true) ∧
 ((fewLf (LeaX.l x25)) = Bool.true))) ∧
 (∀ x26 : Unit,
 (True →
 (∃ x27 : Nat,
 (((IntKind.wrap IntKind.i64 ((↑x24 : Int) + (1 : Int))) = (↑x27 : Int)) ∧
 (((0 : Nat) = (0 : Nat)) ∧
 ((((List.length (LandA.C x)) + (List.length (List.take (1 : Nat) (List.drop (0 : Nat) (List.cons (CommitD.mk (IntKind.wrap IntKind.i64 ((↑(List.length (LandA.C x)) : Int) + (1 : Int))) (LandA.base x) (LandA.ref x) (insS x9)) ([] : List CommitD)))))) = ((List.length (LandA.C x)) + (List.length (List.take (1 : Nat) (List.drop (0 : Nat) (List.cons (CommitD.mk (IntKind.wrap IntKind.i64 ((↑(List.length (LandA.C x)) : Int) + (1 : Int))) (LandA.base x) (LandA.ref x) (insS x9)) ([] : List CommitD))))))) ∧
 (((0 : Nat) = (0 : Nat)) ∧
 (((List.length (insL (LeaX.x x25) (LeaX.l x25))) = (List.length (putsL (rowC (LandA.C x)) (List.map (leafC (IntKind.wrap IntKind.i64 ((↑(List.length (LandA.C x)) : Int) + (1 : Int)))) (List.take x27 (insS x9)))))) ∧
 (((0 : Nat) = (0 : Nat)) ∧
 (((List.length (refsR (LandA.C x))) = (List.length (refsR (LandA.C x)))) ∧
 (((insL (LeaX.x x25) (LeaX.l x25)) = (putsL (rowC (LandA.C x)) (List.map (leafC (IntKind.wrap IntKind.i64 ((↑(List.length (LandA.C x)) : Int) + (1 : Int)))) (List.take x27 (insS x9))))) ∧
 ((Nat.le x27 (List.length (insS x9))) ∧
 ((Nat.sub (List.length (insS x9)) x27) < (Nat.sub (List.length (insS x9)) x24))))))))))))))))))))))
 (Bad "check" "ref.go:213"))
 (Bad "check" "ref.go:213"))
 (Bad "check" "ref.go:213"))
 (br (Bool.not ((LandA.ref x) == (Array.toList (ByteArray.data (ByteArray.mk (List.toArray ([] : List UInt8)))))))
 (∃ x28 : MovA,
 (((LandA.ref x) = (MovA.n x28)) ∧
 (((IntKind.wrap IntKind.i64 ((↑(List.length (LandA.C x)) : Int) + (1 : Int))) = (MovA.v x28)) ∧
 (((0 : Nat) = (0 : Nat)) ∧
 ((((List.length (LandA.C x)) + (List.length (List.take (1 : Nat) (List.drop (0 : Nat) (List.cons (CommitD.mk (IntKind.wrap IntKind.i64 ((↑(List.length (LandA.C x)) : Int) + (1 : Int))) (LandA.base x) (LandA.ref x) (insS x9)) ([] : List CommitD)))))) = (List.length (MovA.C x28))) ∧
 (((0 : Nat) = (0 : Nat)) ∧
 (((List.length (putsL (rowC (LandA.C x)) (List.map (leafC (IntKind.wrap IntKind.i64 ((↑(List.length (LandA.C x)) : Int) + (1 : Int)))) (List.take x24 (insS x9))))) = (List.length (MovA.L x28))) ∧
 (((0 : Nat) = (0 : Nat)) ∧
 (((List.length (refsR (LandA.C x))) = (List.length (MovA.R x28))) ∧
 (((@HAppend.hAppend (List CommitD) (List CommitD) (List CommitD) _ (List.take (List.length (LandA.C x)) (List.drop (0 : Nat) (LandA.C x))) (List.take (1 : Nat) (List.drop (0 : Nat) (List.cons (CommitD.mk (IntKind.wrap IntKind.i64 ((↑(List.length (LandA.C x)) : Int) + (1 : Int))) (LandA.base x) (LandA.ref x) (insS x9)) ([] : List CommitD))))) = (MovA.C x28)) ∧
 (((putsL (rowC (LandA.C x)) (List.map (leafC (IntKind.wrap IntKind.i64 ((↑(List.length (LandA.C x)) : Int) + (1 : Int)))) (List.take x24 (insS x9)))) = (MovA.L x28)) ∧
 (((refsR (LandA.C x)) = (MovA.R x28)) ∧
 (((decide ((List.length (MovA.R x28)) ≤ (4000 : Nat))) = Bool.true) ∧
 (∀ x29 : Unit,
 (True →
 (∃ x30 : Unit,
 (((2 : Int) = (VerdictD.code (landV x))) ∧
 (((0 : Int) = (VerdictD.session (landV x))) ∧
 (((IntKind.wrap IntKind.i64 ((↑(List.length (LandA.C x)) : Int) + (1 : Int))) = (VerdictD.rev (landV x))) ∧
 (((Array.toList (ByteArray.data (ByteArray.mk (List.toArray ([] : List UInt8))))) = (VerdictD.path (landV x))) ∧
 (((0 : Int) = (VerdictD.digest (landV x))) ∧
 ((([] : List CommitD) = (VerdictD.commits (landV x))) ∧
 (((0 : Int) = (VerdictD.member (landV x))) ∧
 (((0 : Nat) = (0 : Nat)) ∧
 (((List.length (MovA.C x28)) = (List.length (landC x))) ∧
 (((0 : Nat) = (0 : Nat)) ∧
 (((List.length (MovA.L x28)) = (List.length (rowC (landC x)))) ∧
 (((0 : Nat) = (0 : Nat)) ∧
 (((List.length (moveR (MovA.R x28) (MovA.n x28) (MovA.v x28))) = (List.length (refsR (landC x)))) ∧
 (((MovA.C x28) = (landC x)) ∧
 (((MovA.L x28) = (rowC (landC x))) ∧
 (((moveR (MovA.R x28) (MovA.n x28) (MovA.v x28)) = (refsR (landC x))) ∧
 True))))))))))))))))))))))))))))))))
 (∃ x31 : Unit,
 (((2 : Int) = (VerdictD.code (landV x))) ∧
 (((0 : Int) = (VerdictD.session (landV x))) ∧
 (((IntKind.wrap IntKind.i64 ((↑(List.length (LandA.C x)) : Int) + (1 : Int))) = (VerdictD.rev (landV x))) ∧
 (((Array.toList (ByteArray.data (ByteArray.mk (List.toArray ([] : List UInt8))))) = (VerdictD.path (landV x))) ∧
 (((0 : Int) = (VerdictD.digest (landV x))) ∧
 ((([] : List CommitD) = (VerdictD.commits (landV x))) ∧
 (((0 : Int) = (VerdictD.member (landV x))) ∧
 (((0 : Nat) = (0 : Nat)) ∧
 ((((List.length (LandA.C x)) + (List.length (List.take (1 : Nat) (List.drop (0 : Nat) (List.cons (CommitD.mk (IntKind.wrap IntKind.i64 ((↑(List.length (LandA.C x)) : Int) + (1 : Int))) (LandA.base x) (LandA.ref x) (insS x9)) ([] : List CommitD)))))) = (List.length (landC x))) ∧
 (((0 : Nat) = (0 : Nat)) ∧
 (((List.length (putsL (rowC (LandA.C x)) (List.map (leafC (IntKind.wrap IntKind.i64 ((↑(List.length (LandA.C x)) : Int) + (1 : Int)))) (List.take x24 (insS x9))))) = (List.length (rowC (landC x)))) ∧
 (((0 : Nat) = (0 : Nat)) ∧
 (((List.length (refsR (LandA.C x))) = (List.length (refsR (landC x)))) ∧
 (((@HAppend.hAppend (List CommitD) (List CommitD) (List CommitD) _ (List.take (List.length (LandA.C x)) (List.drop (0 : Nat) (LandA.C x))) (List.take (1 : Nat) (List.drop (0 : Nat) (List.cons (CommitD.mk (IntKind.wrap IntKind.i64 ((↑(List.length (LandA.C x)) : Int) + (1 : Int))) (LandA.base x) (LandA.ref x) (insS x9)) ([] : List CommitD))))) = (landC x)) ∧
 (((putsL (rowC (LandA.C x)) (List.map (leafC (IntKind.wrap IntKind.i64 ((↑(List.length (LandA.C x)) : Int) + (1 : Int)))) (List.take x24 (insS x9)))) = (rowC (landC x))) ∧
 (((refsR (LandA.C x)) = (refsR (landC x))) ∧
 True)))))))))))))))))))))))
 (Bad "check" "ref.go:211"))))))))))))))))))))))))
 (br (decide ((LandA.base x) < (0 : Int)))
 (∃ x32 : Unit,
 (((5 : Int) = (VerdictD.code (landV x))) ∧
 (((0 : Int) = (VerdictD.session (landV x))) ∧
 (((0 : Int) = (VerdictD.rev (landV x))) ∧
 (((Array.toList (ByteArray.data (ByteArray.mk (List.toArray ([] : List UInt8))))) = (VerdictD.path (landV x))) ∧
 (((0 : Int) = (VerdictD.digest (landV x))) ∧
 ((([] : List CommitD) = (VerdictD.commits (landV x))) ∧
 (((0 : Int) = (VerdictD.member (landV x))) ∧
 (((0 : Nat) = (0 : Nat)) ∧
 (((List.length (LandA.C x)) = (List.length (landC x))) ∧
 (((0 : Nat) = (0 : Nat)) ∧
 (((List.length (rowC (LandA.C x))) = (List.length (rowC (landC x)))) ∧
 (((0 : Nat) = (0 : Nat)) ∧
 (((List.length (refsR (LandA.C x))) = (List.length (refsR (landC x)))) ∧
 (((LandA.C x) = (landC x)) ∧
 (((rowC (LandA.C x)) = (rowC (landC x))) ∧
 (((refsR (LandA.C x)) = (refsR (landC x))) ∧
 True)))))))))))))))))
 ((((List.length (LandA.C x)) * (56 : Nat)) ≤ room47) →
 (br (decide ((LandA.base x) > (↑(List.length (LandA.C x)) : Int)))
 ((((List.length (LandA.C x)) * (56 : Nat)) ≤ room47) →
 (∃ x33 : Unit,
 (((4 : Int) = (VerdictD.code (landV x))) ∧
 (((0 : Int) = (VerdictD.session (landV x))) ∧
 (((↑(List.length (LandA.C x)) : Int) = (VerdictD.rev (landV x))) ∧
 (((Array.toList (ByteArray.data (ByteArray.mk (List.toArray ([] : List UInt8))))) = (VerdictD.path (landV x))) ∧
 (((0 : Int) = (VerdictD.digest (landV x))) ∧
 ((([] : List CommitD) = (VerdictD.commits (landV x))) ∧
 (((0 : Int) = (VerdictD.member (landV x))) ∧
 (((0 : Nat) = (0 : Nat)) ∧
 (((List.length (LandA.C x)) = (List.length (landC x))) ∧
 (((0 : Nat) = (0 : Nat)) ∧
 (((List.length (rowC (LandA.C x))) = (List.length (rowC (landC x)))) ∧
 (((0 : Nat) = (0 : Nat)) ∧
 (((List.length (refsR (LandA.C x))) = (List.length (refsR (landC x)))) ∧
 (((LandA.C x) = (landC x)) ∧
 (((rowC (LandA.C x)) = (rowC (landC x))) ∧
 (((refsR (LandA.C x)) = (refsR (landC x))) ∧
 True))))))))))))))))))
 (∃ x34 : (List ChangeD),
 (((LandA.l x) = x34) ∧
 ((((shortC x34) = Bool.true) ∧
 ((fewX x34) = Bool.true)) ∧
 (∀ x35 : Unit,
 (True →
 ((∃ x36 : Nat,
 (((0 : Int) = (↑x36 : Int)) ∧
 ((x36 ≤ (List.length (insS x34))) ∧
 ((confL (rowC (LandA.C x)) (LandA.base x) (List.drop x36 (insS x34))) = (confL (rowC (LandA.C x)) (LandA.base x) (insS x34)))))) ∧
 (∀ x37 : Nat,
 (((x37 ≤ (List.length (insS x34))) ∧
 ((confL (rowC (LandA.C x)) (LandA.base x) (List.drop x37 (insS x34))) = (confL (rowC (LandA.C x)) (LandA.base x) (insS x34)))) →
 ((((List.length (insS x34)) * (32 : Nat)) ≤ room47) →
 (br (decide ((↑x37 : Int) < (↑(List.length (insS x34)) : Int)))
 (br (decide (((0 : Int) ≤ (↑x37 : Int)) ∧
 ((↑x37 : Int) < (↑(List.length (insS x34)) : Int))))
 ((∃ x38 : LeaP,
 ((((0 : Nat) + (List.length (rowC (LandA.C x)))) ≤ (List.length (rowC (LandA.C x)))) ∧
 (((List.take (List.length (rowC (LandA.C x))) (List.drop (0 : Nat) (rowC (LandA.C x)))) = (LeaP.l x38)) ∧
 (((ChangeD.path (List.getD (insS x34) (Int.toNat (↑x37 : Int)) (ChangeD.mk ([] : List UInt8) Bool.false (0 : Int)))) = (LeaP.p x38)) ∧
 ((((shortLf (LeaP.l x38)) = Bool.true) ∧
 ((shortB (LeaP.p x38)) = Bool.true)) ∧
 (∀ x39 : Unit,
 (True →
 (br (Option.isSome (getL (LeaP.p x38) (LeaP.l x38)))
 (br (decide ((LeafD.rev (Option.getD (getL (LeaP.p x38) (LeaP.l x38)) (LeafD.mk ([] : List UInt8) (0 : Int) (0 : Int) Bool.false))) > (LandA.base x)))
 (br (decide (((0 : Int) ≤ (↑x37 : Int)) ∧
 ((↑x37 : Int) < (↑(List.length (insS x34)) : Int))))
 (∃ x40 : Unit,
 (((3 : Int) = (VerdictD.code (landV x))) ∧
 (((0 : Int) = (VerdictD.session (landV x))) ∧
 (((LeafD.rev (Option.getD (getL (LeaP.p x38) (LeaP.l x38)) (LeafD.mk ([] : List UInt8) (0 : Int) (0 : Int) Bool.false))) = (VerdictD.rev (landV x))) ∧
 (((ChangeD.path (List.getD (insS x34) (Int.toNat (↑x37 : Int)) (ChangeD.mk ([] : List UInt8) Bool.false (0 : Int)))) = (VerdictD.path (landV x))) ∧
 (((0 : Int) = (VerdictD.digest (landV x))) ∧
 ((([] : List CommitD) = (VerdictD.commits (landV x))) ∧
 (((0 : Int) = (VerdictD.member (landV x))) ∧
 (((0 : Nat) = (0 : Nat)) ∧
 (((List.length (LandA.C x)) = (List.length (landC x))) ∧
 (((0 : Nat) = (0 : Nat)) ∧
 (((List.length (rowC (LandA.C x))) = (List.length (rowC (landC x)))) ∧
 (((0 : Nat) = (0 : Nat)) ∧
 (((List.length (refsR (LandA.C x))) = (List.length (refsR (landC x)))) ∧
 (((LandA.C x) = (landC x)) ∧
 (((rowC (LandA.C x)) = (rowC (landC x))) ∧
 (((refsR (LandA.C x)) = (refsR (landC x))) ∧
 True)))))))))))))))))
 (Bad "check" "ref.go:207"))
 (∃ x41 : Nat,
 (((IntKind.wrap IntKind.i64 ((↑x37 : Int) + (1 : Int))) = (↑x41 : Int)) ∧
 (((x41 ≤ (List.length (insS x34))) ∧
 ((confL (rowC (LandA.C x)) (LandA.base x) (List.drop x41 (insS x34))) = (confL (rowC (LandA.C x)) (LandA.base x) (insS x34)))) ∧
 ((Nat.sub (List.length (insS x34)) x41) < (Nat.sub (List.length (insS x34)) x37))))))
 (∃ x42 : Nat,
 (((IntKind.wrap IntKind.i64 ((↑x37 : Int) + (1 : Int))) = (↑x42 : Int)) ∧
 (((x42 ≤ (List.length (insS x34))) ∧
 ((confL (rowC (LandA.C x)) (LandA.base x) (List.drop x42 (insS x34))) = (confL (rowC (LandA.C x)) (LandA.base x) (insS x34)))) ∧
 ((Nat.sub (List.length (insS x34)) x42) < (Nat.sub (List.length (insS x34)) x37))))))))))))) ∧
 (∃ x43 : LeaP,
 ((((0 : Nat) + (List.length (rowC (LandA.C x)))) ≤ (List.length (rowC (LandA.C x)))) ∧
 (((List.take (List.length (rowC (LandA.C x))) (List.drop (0 : Nat) (rowC (LandA.C x)))) = (LeaP.l x43)) ∧
 (((ChangeD.path (List.getD (insS x34) (Int.toNat (↑x37 : Int)) (ChangeD.mk ([] : List UInt8) Bool.false (0 : Int)))) = (LeaP.p x43)) ∧
 ((((shortLf (LeaP.l x43)) = Bool.true) ∧
 ((shortB (LeaP.p x43)) = Bool.true)) ∧
 (∀ x44 : Unit,
 (True →
 (br (Option.isSome (getL (LeaP.p x43) (LeaP.l x43)))
 (br (decide ((LeafD.rev (Option.getD (getL (LeaP.p x43) (LeaP.l x43)) (LeafD.mk ([] : List UInt8) (0 : Int) (0 : Int) Bool.false))) > (LandA.base x)))
 (br (decide (((0 : Int) ≤ (↑x37 : Int)) ∧
 ((↑x37 : Int) < (↑(List.length (insS x34)) : Int))))
 (∃ x45 : Unit,
 (((3 : Int) = (VerdictD.code (landV x))) ∧
 (((0 : Int) = (VerdictD.session (landV x))) ∧
 (((LeafD.rev (Option.getD (getL (LeaP.p x43) (LeaP.l x43)) (LeafD.mk ([] : List UInt8) (0 : Int) (0 : Int) Bool.false))) = (VerdictD.rev (landV x))) ∧
 (((ChangeD.path (List.getD (insS x34) (Int.toNat (↑x37 : Int)) (ChangeD.mk ([] : List UInt8) Bool.false (0 : Int)))) = (VerdictD.path (landV x))) ∧
 (((0 : Int) = (VerdictD.digest (landV x))) ∧
 ((([] : List CommitD) = (VerdictD.commits (landV x))) ∧
 (((0 : Int) = (VerdictD.member (landV x))) ∧
 (((0 : Nat) = (0 : Nat)) ∧
 (((List.length (LandA.C x)) = (List.length (landC x))) ∧
 (((0 : Nat) = (0 : Nat)) ∧
 (((List.length (rowC (LandA.C x))) = (List.length (rowC (landC x)))) ∧
 (((0 : Nat) = (0 : Nat)) ∧
 (((List.length (refsR (LandA.C x))) = (List.length (refsR (landC x)))) ∧
 (((LandA.C x) = (landC x)) ∧
 (((rowC (LandA.C x)) = (rowC (landC x))) ∧
 (((refsR (LandA.C x)) = (refsR (landC x))) ∧
 True)))))))))))))))))
 (Bad "check" "ref.go:207"))
 (∃ x46 : Nat,
 (((IntKind.wrap IntKind.i64 ((↑x37 : Int) + (1 : Int))) = (↑x46 : Int)) ∧
 (((x46 ≤ (List.length (insS x34))) ∧
 ((confL (rowC (LandA.C x)) (LandA.base x) (List.drop x46 (insS x34))) = (confL (rowC (LandA.C x)) (LandA.base x) (insS x34)))) ∧
 ((Nat.sub (List.length (insS x34)) x46) < (Nat.sub (List.length (insS x34)) x37))))))
 (∃ x47 : Nat,
 (((IntKind.wrap IntKind.i64 ((↑x37 : Int) + (1 : Int))) = (↑x47 : Int)) ∧
 (((x47 ≤ (List.length (insS x34))) ∧
 ((confL (rowC (LandA.C x)) (LandA.base x) (List.drop x47 (insS x34))) = (confL (rowC (LandA.C x)) (LandA.base x) (insS x34)))) ∧
 ((Nat.sub (List.length (insS x34)) x47) < (Nat.sub (List.length (insS x34)) x37))))))))))))))
 (Bad "check" "ref.go:205"))
 ((((List.length (LandA.C x)) * (56 : Nat)) ≤ room47) →
 (((Nat.le ((List.length (LandA.C x)) * (56 : Nat)) room47) ∧
 (Nat.le ((1 : Nat) * (56 : Nat)) room47)) →
 (br (Bool.and (Bool.and (decide (((0 : Nat) + (1 : Nat)) ≤ (List.length (List.cons (CommitD.mk (IntKind.wrap IntKind.i64 ((↑(List.length (LandA.C x)) : Int) + (1 : Int))) (LandA.base x) (LandA.ref x) (insS x34)) ([] : List CommitD))))) (decide (((0 : Nat) + (List.length (LandA.C x))) ≤ (List.length (LandA.C x))))) (decide ((((List.length (LandA.C x)) + (List.length (List.take (1 : Nat) (List.drop (0 : Nat) (List.cons (CommitD.mk (IntKind.wrap IntKind.i64 ((↑(List.length (LandA.C x)) : Int) + (1 : Int))) (LandA.base x) (LandA.ref x) (insS x34)) ([] : List CommitD)))))) * (56 : Nat)) ≤ room47)))
 ((∃ x48 : Nat,
 (((0 : Int) = (↑x48 : Int)) ∧
 (((0 : Nat) = (0 : Nat)) ∧
 ((((List.length (LandA.C x)) + (List.length (List.take (1 : Nat) (List.drop (0 : Nat) (List.cons (CommitD.mk (IntKind.wrap IntKind.i64 ((↑(List.length (LandA.C x)) : Int) + (1 : Int))) (LandA.base x) (LandA.ref x) (insS x34)) ([] : List CommitD)))))) = ((List.length (LandA.C x)) + (List.length (List.take (1 : Nat) (List.drop (0 : Nat) (List.cons (CommitD.mk (IntKind.wrap IntKind.i64 ((↑(List.length (LandA.C x)) : Int) + (1 : Int))) (LandA.base x) (LandA.ref x) (insS x34)) ([] : List CommitD))))))) ∧
 (((0 : Nat) = (0 : Nat)) ∧
 (((List.length (rowC (LandA.C x))) = (List.length (putsL (rowC (LandA.C x)) (List.map (leafC (IntKind.wrap IntKind.i64 ((↑(List.length (LandA.C x)) : Int) + (1 : Int)))) (List.take x48 (insS x34)))))) ∧
 (((0 : Nat) = (0 : Nat)) ∧
 (((List.length (refsR (LandA.C x))) = (List.length (refsR (LandA.C x)))) ∧
 (((rowC (LandA.C x)) = (putsL (rowC (LandA.C x)) (List.map (leafC (IntKind.wrap IntKind.i64 ((↑(List.length (LandA.C x)) : Int) + (1 : Int)))) (List.take x48 (insS x34))))) ∧
 (Nat.le x48 (List.length (insS x34)))))))))))) ∧
 (∀ x49 : Nat,
 ((Nat.le x49 (List.length (insS x34))) →
 ((((List.length (insS x34)) * (32 : Nat)) ≤ room47) →
 (br (decide ((↑x49 : Int) < (↑(List.length (insS x34)) : Int)))
 (br (decide (((0 : Int) ≤ (↑x49 : Int)) ∧
 ((↑x49 : Int) < (↑(List.length (insS x34)) : Int))))
 (br (decide (((0 : Int) ≤ (↑x49 : Int)) ∧
 ((↑x49 : Int) < (↑(List.length (insS x34)) : Int))))
 (br (decide (((0 : Int) ≤ (↑x49 : Int)) ∧
 ((↑x49 : Int) < (↑(List.length (insS x34)) : Int))))
 (∃ x50 : LeaX,
 ((((0 : Nat) + (List.length (putsL (rowC (LandA.C x)) (List.map (leafC (IntKind.wrap IntKind.i64 ((↑(List.length (LandA.C x)) : Int) + (1 : Int)))) (List.take x49 (insS x34)))))) ≤ (List.length (putsL (rowC (LandA.C x)) (List.map (leafC (IntKind.wrap IntKind.i64 ((↑(List.length (LandA.C x)) : Int) + (1 : Int)))) (List.take x49 (insS x34)))))) ∧
 (((List.take (List.length (putsL (rowC (LandA.C x)) (List.map (leafC (IntKind.wrap IntKind.i64 ((↑(List.length (LandA.C x)) : Int) + (1 : Int)))) (List.take x49 (insS x34))))) (List.drop (0 : Nat) (putsL (rowC (LandA.C x)) (List.map (leafC (IntKind.wrap IntKind.i64 ((↑(List.length (LandA.C x)) : Int) + (1 : Int)))) (List.take x49 (insS x34)))))) = (LeaX.l x50)) ∧
 (((ChangeD.path (List.getD (insS x34) (Int.toNat (↑x49 : Int)) (ChangeD.mk ([] : List UInt8) Bool.false (0 : Int)))) = (LeafD.path (LeaX.x x50))) ∧
 (((ChangeD.digest (List.getD (insS x34) (Int.toNat (↑x49 : Int)) (ChangeD.mk ([] : List UInt8) Bool.false (0 : Int)))) = (LeafD.digest (LeaX.x x50))) ∧
 (((IntKind.wrap IntKind.i64 ((↑(List.length (LandA.C x)) : Int) + (1 : Int))) = (LeafD.rev (LeaX.x x50))) ∧
 (((ChangeD.gone (List.getD (insS x34) (Int.toNat (↑x49 : Int)) (ChangeD.mk ([] : List UInt8) Bool.false (0 : Int)))) = (LeafD.gone (LeaX.x x50))) ∧
 ((((shortLf (LeaX.l x50)) = Bool.true) ∧
 (((shortB (LeafD.path (LeaX.x x50))) = Bool.true) ∧
 ((fewLf (LeaX.l x50)) = Bool.true))) ∧
 (∀ x51 : Unit,
 (True →
 (∃ x52 : Nat,
 (((IntKind.wrap IntKind.i64 ((↑x49 : Int) + (1 : Int))) = (↑x52 : Int)) ∧
 (((0 : Nat) = (0 : Nat)) ∧
 ((((List.length (LandA.C x)) + (List.length (List.take (1 : Nat) (List.drop (0 : Nat) (List.cons (CommitD.mk (IntKind.wrap IntKind.i64 ((↑(List.length (LandA.C x)) : Int) + (1 : Int))) (LandA.base x) (LandA.ref x) (insS x34)) ([] : List CommitD)))))) = ((List.length (LandA.C x)) + (List.length (List.take (1 : Nat) (List.drop (0 : Nat) (List.cons (CommitD.mk (IntKind.wrap IntKind.i64 ((↑(List.length (LandA.C x)) : Int) + (1 : Int))) (LandA.base x) (LandA.ref x) (insS x34)) ([] : List CommitD))))))) ∧
 (((0 : Nat) = (0 : Nat)) ∧
 (((List.length (insL (LeaX.x x50) (LeaX.l x50))) = (List.length (putsL (rowC (LandA.C x)) (List.map (leafC (IntKind.wrap IntKind.i64 ((↑(List.length (LandA.C x)) : Int) + (1 : Int)))) (List.take x52 (insS x34)))))) ∧
 (((0 : Nat) = (0 : Nat)) ∧
 (((List.length (refsR (LandA.C x))) = (List.length (refsR (LandA.C x)))) ∧
 (((insL (LeaX.x x50) (LeaX.l x50)) = (putsL (rowC (LandA.C x)) (List.map (leafC (IntKind.wrap IntKind.i64 ((↑(List.length (LandA.C x)) : Int) + (1 : Int)))) (List.take x52 (insS x34))))) ∧
 ((Nat.le x52 (List.length (insS x34))) ∧
 ((Nat.sub (List.length (insS x34)) x52) < (Nat.sub (List.length (insS x34)) x49))))))))))))))))))))))
 (Bad "check" "ref.go:213"))
 (Bad "check" "ref.go:213"))
 (Bad "check" "ref.go:213"))
 (br (Bool.not ((LandA.ref x) == (Array.toList (ByteArray.data (ByteArray.mk (List.toArray ([] : List UInt8)))))))
 (∃ x53 : MovA,
 (((LandA.ref x) = (MovA.n x53)) ∧
 (((IntKind.wrap IntKind.i64 ((↑(List.length (LandA.C x)) : Int) + (1 : Int))) = (MovA.v x53)) ∧
 (((0 : Nat) = (0 : Nat)) ∧
 ((((List.length (LandA.C x)) + (List.length (List.take (1 : Nat) (List.drop (0 : Nat) (List.cons (CommitD.mk (IntKind.wrap IntKind.i64 ((↑(List.length (LandA.C x)) : Int) + (1 : Int))) (LandA.base x) (LandA.ref x) (insS x34)) ([] : List CommitD)))))) = (List.length (MovA.C x53))) ∧
 (((0 : Nat) = (0 : Nat)) ∧
 (((List.length (putsL (rowC (LandA.C x)) (List.map (leafC (IntKind.wrap IntKind.i64 ((↑(List.length (LandA.C x)) : Int) + (1 : Int)))) (List.take x49 (insS x34))))) = (List.length (MovA.L x53))) ∧
 (((0 : Nat) = (0 : Nat)) ∧
 (((List.length (refsR (LandA.C x))) = (List.length (MovA.R x53))) ∧
 (((@HAppend.hAppend (List CommitD) (List CommitD) (List CommitD) _ (List.take (List.length (LandA.C x)) (List.drop (0 : Nat) (LandA.C x))) (List.take (1 : Nat) (List.drop (0 : Nat) (List.cons (CommitD.mk (IntKind.wrap IntKind.i64 ((↑(List.length (LandA.C x)) : Int) + (1 : Int))) (LandA.base x) (LandA.ref x) (insS x34)) ([] : List CommitD))))) = (MovA.C x53)) ∧
 (((putsL (rowC (LandA.C x)) (List.map (leafC (IntKind.wrap IntKind.i64 ((↑(List.length (LandA.C x)) : Int) + (1 : Int)))) (List.take x49 (insS x34)))) = (MovA.L x53)) ∧
 (((refsR (LandA.C x)) = (MovA.R x53)) ∧
 (((decide ((List.length (MovA.R x53)) ≤ (4000 : Nat))) = Bool.true) ∧
 (∀ x54 : Unit,
 (True →
 (∃ x55 : Unit,
 (((2 : Int) = (VerdictD.code (landV x))) ∧
 (((0 : Int) = (VerdictD.session (landV x))) ∧
 (((IntKind.wrap IntKind.i64 ((↑(List.length (LandA.C x)) : Int) + (1 : Int))) = (VerdictD.rev (landV x))) ∧
 (((Array.toList (ByteArray.data (ByteArray.mk (List.toArray ([] : List UInt8))))) = (VerdictD.path (landV x))) ∧
 (((0 : Int) = (VerdictD.digest (landV x))) ∧
 ((([] : List CommitD) = (VerdictD.commits (landV x))) ∧
 (((0 : Int) = (VerdictD.member (landV x))) ∧
 (((0 : Nat) = (0 : Nat)) ∧
 (((List.length (MovA.C x53)) = (List.length (landC x))) ∧
 (((0 : Nat) = (0 : Nat)) ∧
 (((List.length (MovA.L x53)) = (List.length (rowC (landC x)))) ∧
 (((0 : Nat) = (0 : Nat)) ∧
 (((List.length (moveR (MovA.R x53) (MovA.n x53) (MovA.v x53))) = (List.length (refsR (landC x)))) ∧
 (((MovA.C x53) = (landC x)) ∧
 (((MovA.L x53) = (rowC (landC x))) ∧
 (((moveR (MovA.R x53) (MovA.n x53) (MovA.v x53)) = (refsR (landC x))) ∧
 True))))))))))))))))))))))))))))))))
 (∃ x56 : Unit,
 (((2 : Int) = (VerdictD.code (landV x))) ∧
 (((0 : Int) = (VerdictD.session (landV x))) ∧
 (((IntKind.wrap IntKind.i64 ((↑(List.length (LandA.C x)) : Int) + (1 : Int))) = (VerdictD.rev (landV x))) ∧
 (((Array.toList (ByteArray.data (ByteArray.mk (List.toArray ([] : List UInt8))))) = (VerdictD.path (landV x))) ∧
 (((0 : Int) = (VerdictD.digest (landV x))) ∧
 ((([] : List CommitD) = (VerdictD.commits (landV x))) ∧
 (((0 : Int) = (VerdictD.member (landV x))) ∧
 (((0 : Nat) = (0 : Nat)) ∧
 ((((List.length (LandA.C x)) + (List.length (List.take (1 : Nat) (List.drop (0 : Nat) (List.cons (CommitD.mk (IntKind.wrap IntKind.i64 ((↑(List.length (LandA.C x)) : Int) + (1 : Int))) (LandA.base x) (LandA.ref x) (insS x34)) ([] : List CommitD)))))) = (List.length (landC x))) ∧
 (((0 : Nat) = (0 : Nat)) ∧
 (((List.length (putsL (rowC (LandA.C x)) (List.map (leafC (IntKind.wrap IntKind.i64 ((↑(List.length (LandA.C x)) : Int) + (1 : Int)))) (List.take x49 (insS x34))))) = (List.length (rowC (landC x)))) ∧
 (((0 : Nat) = (0 : Nat)) ∧
 (((List.length (refsR (LandA.C x))) = (List.length (refsR (landC x)))) ∧
 (((@HAppend.hAppend (List CommitD) (List CommitD) (List CommitD) _ (List.take (List.length (LandA.C x)) (List.drop (0 : Nat) (LandA.C x))) (List.take (1 : Nat) (List.drop (0 : Nat) (List.cons (CommitD.mk (IntKind.wrap IntKind.i64 ((↑(List.length (LandA.C x)) : Int) + (1 : Int))) (LandA.base x) (LandA.ref x) (insS x34)) ([] : List CommitD))))) = (landC x)) ∧
 (((putsL (rowC (LandA.C x)) (List.map (leafC (IntKind.wrap IntKind.i64 ((↑(List.length (LandA.C x)) : Int) + (1 : Int)))) (List.take x49 (insS x34)))) = (rowC (landC x))) ∧
 (((refsR (LandA.C x)) = (refsR (landC x))) ∧
 True)))))))))))))))))))))))
 (Bad "check" "ref.go:211"))))))))))))))))))))))))) := by kernel_rfl

end Go.Proofs.YtildflamnehilaaGreat.Ses

namespace Go.Proofs.YtildflamnehilaaGreat.Ses
open Go Go.Proofs Go.Proofs.YtildflamnehilaaGreat.Sx Go.Proofs.YtildflamnehilaaGreat.Trx

abbrev noR : RefD := ⟨[], 0⟩
/-- refs, by rising names -/
def riseR (R : List RefD) : Prop := R.Pairwise fun a b => a.name < b.name
theorem lt_of_not {a b : Bs} (h : ¬ a < b) : b = a ∨ b < a := by
  rcases List.le_iff_lt_or_eq.1 (List.not_lt.1 h) with h | h
  · exact .inr h
  · exact .inl h
/-- refs below a name are kept as they are -/
theorem foldR_low {n : Bs} {v : Int} : ∀ (R : List RefD), (∀ r, r ∈ R → r.name < n) → ∀ s : MovS, s.put = false → R.foldl (stepR n v) s = ⟨s.out ++ R, false⟩
  | [], _, s, h => by cases s; simp at h; simp [h]
  | r :: R, h, s, hs => by
    have h1 : r.name < n := h r (by simp)
    have e : stepR n v s r = ⟨s.out ++ [r], false⟩ := by
      unfold stepR
      have hb : Op.bytesLess r.name n = true := by rw [bytesLess_eq, decide_eq_true_eq]; exact h1
      have hne : (r.name == n) = false := by
        rw [Bool.eq_false_iff]; intro e; rw [beq_iff_eq.1 e] at h1; exact List.lt_irrefl _ h1
      rw [hb, hne, hs]; rfl
    rw [List.foldl_cons, e, foldR_low R (fun x hx => h x (by simp [hx])) _ rfl]
    simp
theorem foldR_high {n : Bs} {v : Int} : ∀ (R : List RefD), (∀ r, r ∈ R → n < r.name) → ∀ s : MovS, s.put = true → R.foldl (stepR n v) s = ⟨s.out ++ R, true⟩
  | [], _, s, h => by cases s; simp at h; simp [h]
  | r :: R, h, s, hs => by
    have h1 : n < r.name := h r (by simp)
    have e : stepR n v s r = ⟨s.out ++ [r], true⟩ := by
      unfold stepR
      have hne : (r.name == n) = false := by
        rw [Bool.eq_false_iff]; intro e; rw [beq_iff_eq.1 e] at h1; exact List.lt_irrefl _ h1
      rw [hne, hs]; rfl
    rw [List.foldl_cons, e, foldR_high R (fun x hx => h x (by simp [hx])) _ rfl]
    simp
/-- a ref is put in its place -/
def insRf (n : Bs) (v : Int) : List RefD → List RefD
  | [] => [⟨n, v⟩]
  | r :: R => bif Op.bytesLess r.name n then r :: insRf n v R else bif r.name == n then ⟨n, v⟩ :: R else ⟨n, v⟩ :: r :: R
theorem move_split {n : Bs} {v : Int} {A B : List RefD} (hA : ∀ r, r ∈ A → r.name < n) (s : RefD) (hs : ¬ s.name < n) (hB : ∀ r, r ∈ B → s.name < r.name) :
    moveR (A ++ s :: B) n v = A ++ (bif s.name == n then ⟨n, v⟩ :: B else ⟨n, v⟩ :: s :: B) := by
  have hlt : ∀ r, r ∈ B → n < r.name := fun r hr => by
    rcases lt_of_not hs with h | h
    · rw [h]; exact hB r hr
    · exact List.lt_trans h (hB r hr)
  have hb : Op.bytesLess s.name n = false := by rw [bytesLess_eq, decide_eq_false_iff_not]; exact hs
  have e : foldR n v (A ++ s :: B) = ⟨A ++ (bif s.name == n then ⟨n, v⟩ :: B else ⟨n, v⟩ :: s :: B), true⟩ := by
    unfold foldR
    rw [List.foldl_append, foldR_low A hA _ rfl, List.foldl_cons, foldR_high B hlt _ (by unfold stepR; rw [hb]; rfl)]
    unfold stepR
    rw [hb]
    cases (s.name == n) <;> simp
  unfold moveR
  rw [e]; rfl
theorem move_ins {n : Bs} {v : Int} : ∀ {R : List RefD}, riseR R → moveR R n v = insRf n v R := by
  have key : ∀ (R A : List RefD), riseR (A ++ R) → (∀ r, r ∈ A → r.name < n) → moveR (A ++ R) n v = A ++ insRf n v R := by
    intro R
    induction R with
    | nil =>
      intro A _ hA
      have e : foldR n v A = ⟨A, false⟩ := by
        unfold foldR
        rw [foldR_low A hA _ rfl]; simp
      unfold moveR
      rw [List.append_nil, e]; rfl
    | cons s B ih =>
      intro A hr hA
      by_cases h : s.name < n
      · have hb : Op.bytesLess s.name n = true := by rw [bytesLess_eq, decide_eq_true_eq]; exact h
        have := ih (A ++ [s]) (by simpa using hr) (fun r hx => by
          rcases List.mem_append.1 hx with hx | hx
          · exact hA r hx
          · have : r = s := by simpa using hx
            rw [this]; exact h)
        unfold insRf
        rw [hb]
        simpa using this
      · have hb : Op.bytesLess s.name n = false := by rw [bytesLess_eq, decide_eq_false_iff_not]; exact h
        have hB := (List.pairwise_cons.1 (List.pairwise_append.1 hr).2.1).1
        rw [move_split hA s h hB]
        unfold insRf
        rw [hb]
        rfl
  intro R hR
  exact key R [] hR (by simp)
theorem insRf_mem {n : Bs} {v : Int} : ∀ {R : List RefD}, riseR R → ∀ x, x ∈ insRf n v R ↔ x = ⟨n, v⟩ ∨ (x ∈ R ∧ x.name ≠ n)
  | [], _, x => by simp [insRf]
  | r :: R, h, x => by
    have hp := List.pairwise_cons.1 h
    have ih := insRf_mem (n := n) (v := v) hp.2 x
    unfold insRf
    cases hb : Op.bytesLess r.name n
    · rw [bytesLess_eq, decide_eq_false_iff_not] at hb
      have hhi : ∀ y, y ∈ R → y.name ≠ n := fun y hy e => by
        have h1 := hp.1 y hy
        rw [e] at h1
        exact hb h1
      cases he : (r.name == n)
      · have he : r.name ≠ n := by simpa using he
        simp only [cond_false, List.mem_cons]
        constructor
        · rintro (h | h | h)
          · exact .inl h
          · exact .inr ⟨.inl h, by rw [h]; exact he⟩
          · exact .inr ⟨.inr h, hhi x h⟩
        · rintro (h | ⟨h | h, _⟩)
          · exact .inl h
          · exact .inr (.inl h)
          · exact .inr (.inr h)
      · have he := beq_iff_eq.1 he
        simp only [cond_false, cond_true, List.mem_cons]
        constructor
        · rintro (h | h)
          · exact .inl h
          · exact .inr ⟨.inr h, hhi x h⟩
        · rintro (h | ⟨h | h, h2⟩)
          · exact .inl h
          · rw [h] at h2; exact absurd he h2
          · exact .inr h
    · rw [bytesLess_eq, decide_eq_true_eq] at hb
      simp only [cond_true, List.mem_cons, ih]
      have hne : r.name ≠ n := fun e => by rw [e] at hb; exact List.lt_irrefl _ hb
      constructor
      · rintro (h | h | ⟨h, h2⟩)
        · exact .inr ⟨.inl h, by rw [h]; exact hne⟩
        · exact .inl h
        · exact .inr ⟨.inr h, h2⟩
      · rintro (h | ⟨h | h, h2⟩)
        · exact .inr (.inl h)
        · exact .inl h
        · exact .inr (.inr ⟨h, h2⟩)
theorem insRf_rise {n : Bs} {v : Int} : ∀ {R : List RefD}, riseR R → riseR (insRf n v R)
  | [], _ => by simp [insRf, riseR]
  | r :: R, h => by
    have hp := List.pairwise_cons.1 h
    have ih := insRf_rise (n := n) (v := v) hp.2
    have hm := insRf_mem (n := n) (v := v) hp.2
    unfold insRf
    cases hb : Op.bytesLess r.name n
    · rw [bytesLess_eq, decide_eq_false_iff_not] at hb
      cases he : (r.name == n)
      · have he : r.name ≠ n := by simpa using he
        have hlt : n < r.name := by
          rcases lt_of_not hb with h | h
          · exact absurd h.symm he
          · exact h
        refine List.pairwise_cons.2 ⟨fun y hy => ?_, h⟩
        rcases List.mem_cons.1 hy with rfl | hy
        · exact hlt
        · exact List.lt_trans hlt (hp.1 y hy)
      · have he := beq_iff_eq.1 he
        refine List.pairwise_cons.2 ⟨fun y hy => ?_, hp.2⟩
        show n < y.name
        rw [← he]; exact hp.1 y hy
    · rw [bytesLess_eq, decide_eq_true_eq] at hb
      refine List.pairwise_cons.2 ⟨fun y hy => ?_, ih⟩
      rcases (hm y).1 hy with rfl | ⟨hy, _⟩
      · exact hb
      · exact hp.1 y hy
theorem rise_ext {A B : List RefD} (hA : riseR A) (hB : riseR B) (h : ∀ x, x ∈ A ↔ x ∈ B) : A = B := by
  have nd : ∀ {R : List RefD}, riseR R → R.Nodup := fun h => h.imp fun {a b} hab e => by rw [e] at hab; exact List.lt_irrefl _ hab
  refine List.Perm.eq_of_pairwise (le := fun (a b : RefD) => a.name < b.name) (fun a b _ _ h1 h2 => absurd h2 (List.lt_asymm h1)) hA hB ((List.perm_ext_iff_of_nodup (nd hA) (nd hB)).2 h)
theorem refsC_rise (C : List CommitD) : riseR (refsC C) := by
  unfold riseR refsC
  rw [List.pairwise_map]
  have tr : ∀ a b c : List UInt8, leB a b = true → leB b c = true → leB a c = true := fun a b c h1 h2 => by simp only [leB, decide_eq_true_eq] at *; exact List.le_trans h1 h2
  have to : ∀ a b : List UInt8, (leB a b || leB b a) = true := fun a b => by simp only [leB, Bool.or_eq_true, decide_eq_true_eq]; exact List.le_total a b
  have hp : (namesK (kvC C)).Pairwise fun a b => leB a b = true := List.pairwise_mergeSort tr to _
  have hn : (namesK (kvC C)).Pairwise fun a b => a ≠ b := (names_perm C).nodup_iff.2 (kv_keys C).1
  refine (hp.and hn).imp fun {a b} h => ?_
  have h1 : a ≤ b := of_decide_eq_true h.1
  rcases List.le_iff_lt_or_eq.1 h1 with h2 | h2
  · exact h2
  · exact absurd h2 h.2
theorem refsC_mem (C : List CommitD) (x : RefD) : x ∈ refsC C ↔ x.name ∈ (kvC C).map (·.1) ∧ x.rev = (lookK (kvC C) x.name).getD 0 := by
  unfold refsC
  rw [List.mem_map]
  constructor
  · rintro ⟨n, hn, rfl⟩
    exact ⟨(names_perm C).mem_iff.1 hn, rfl⟩
  · rintro ⟨h1, h2⟩
    refine ⟨x.name, (names_perm C).mem_iff.2 h1, ?_⟩
    cases x
    simp only [refK] at h2 ⊢
    rw [← h2]
/-- the reference's refs are the graph's -/
theorem refsR_eq (C : List CommitD) : refsR C = refsC C := by
  refine snocL (p := fun C => refsR C = refsC C) ?_ (fun C c ih => ?_) C
  · simp [refsR, refsC, namesK, kvC]
  · have e : refsR (C ++ [c]) = bif c.ref == [] then refsR C else moveR (refsR C) c.ref c.rev := by simp [refsR]
    rw [e, ih]
    cases hc : (c.ref == [])
    · simp only [cond_false]
      rw [move_ins (refsC_rise C)]
      refine rise_ext (insRf_rise (refsC_rise C)) (refsC_rise _) fun x => ?_
      rw [insRf_mem (refsC_rise C), refsC_mem, refsC_mem, kvC_snoc, hc]
      simp only [cond_false, putK_keys, lookK_put]
      constructor
      · rintro (rfl | ⟨⟨h1, h2⟩, h3⟩)
        · exact ⟨.inl rfl, by simp⟩
        · refine ⟨.inr h1, ?_⟩
          have : (c.ref == x.name) = false := by rw [Bool.eq_false_iff]; intro e; exact h3 (beq_iff_eq.1 e).symm
          rw [this]; exact h2
      · rintro ⟨h1, h2⟩
        by_cases e : x.name = c.ref
        · left
          rw [e] at h2
          simp at h2
          cases x
          simp at e h2
          rw [e, h2]
        · right
          have : (c.ref == x.name) = false := by rw [Bool.eq_false_iff]; intro e2; exact e (beq_iff_eq.1 e2).symm
          rw [this] at h2
          rcases h1 with h1 | h1
          · exact absurd h1 e
          · exact ⟨⟨h1, h2⟩, e⟩
    · simp only [cond_true]
      unfold refsC
      rw [kvC_snoc, hc]
      rfl
theorem sameRB_self (l : List RefD) : sameRB l l = true := by
  unfold sameRB
  have h1 : Nat.beq l.length l.length = true := by simp
  rw [h1, Bool.true_and, List.all_eq_true]
  intro x hx
  obtain ⟨i, hi⟩ := List.mem_iff_getElem?.1 hx
  rw [List.getElem?_zipWith] at hi
  cases hl : l[i]? with
  | none => rw [hl] at hi; cases hi
  | some y =>
    rw [hl] at hi
    have hi : eqRf y y = x := by simpa using hi
    show x = true
    rw [← hi]
    simp [eqRf]
theorem foldR_suc {n : Bs} {v : Int} {R : List RefD} {i : Nat} (h : i < R.length) : foldR n v (R.take (i + 1)) = stepR n v (foldR n v (R.take i)) (R.getD i noR) := by
  rw [take_succ_getD noR h]
  simp [foldR]
theorem foldR_len (n : Bs) (v : Int) (R : List RefD) : (foldR n v R).out.length ≤ 2 * R.length := by
  refine snocL (p := fun R => (foldR n v R).out.length ≤ 2 * R.length) (by simp [foldR]) (fun R r ih => ?_) R
  have e : foldR n v (R ++ [r]) = stepR n v (foldR n v R) r := by simp [foldR]
  rw [e]
  unfold stepR
  cases (r.name == n) <;> cases (!(foldR n v R).put && !(Op.bytesLess r.name n)) <;> simp <;> omega
theorem refsR_len (C : List CommitD) : (refsR C).length ≤ C.length := by
  rw [refsR_eq, refs_len]
  have h2 : (namesK (kvC C)).length = (kvC C).length := by simp [namesK]
  have := kvC_len C
  omega
end Go.Proofs.YtildflamnehilaaGreat.Ses

namespace Go.Proofs.YtildflamnehilaaGreat.Ses
open Go Go.Proofs Go.Proofs.YtildflamnehilaaGreat.Sx Go.Proofs.YtildflamnehilaaGreat.Trx

theorem samel_ok : SpecOK Tryz.prog 76 sameLT.spec := by
  refine Tri.ok (E := sameLE) (Env_ok (by decide +kernel) (by simp)) (n := 1000) sameLT fun x hx => ?_
  rw [samel_vc]
  obtain ⟨a, b⟩ := x
  simp only [br_bad, br_true, br_false, List.length_singleton, and_self, Bool.not_true, Bool.not_false, Bool.not_not, decide_eq_true_eq, Bool.and_eq_true, List.take_zero, List.nil_append, List.drop_zero, Nat.zero_add, Int.toNat_natCast, Nat.sub_eq, true_and, and_true, exists_const, List.length_nil, Nat.zero_le, Nat.zero_mul, Nat.le_refl, List.length_set, List.take_length, Int.natCast_nonneg, forall_const, implies_true, Int.toNat_zero, Nat.le_eq, Int.le_refl, addN, cutN, loN, hiN, bndB, List.length_cons, List.take_succ_cons, List.length_take, List.length_drop, Option.isNone, Nat.add_zero, Nat.min_self]
  try simp only [br_iff, decide_eq_true_eq, decide_eq_false_iff_not, room47, Bool.not_eq_true', Bool.not_eq_false', gt_iff_lt]
  intro ha hb
  refine ⟨fun h => ?_, fun h => ⟨⟨0, rfl, by omega, rfl⟩, fun i ⟨h1, h2⟩ _ => ⟨fun h3 => ?_, fun h3 => ?_⟩⟩⟩
  · have : Nat.beq a.length b.length = false := by
      cases h' : Nat.beq a.length b.length
      · rfl
      · rw [Nat.eq_of_beq_eq_true h'] at h; simp at h
    unfold sameLB
    rw [this]; rfl
  · have he : a.length = b.length := by
      have : (a.length : Int) = b.length := by simpa using h
      omega
    have hs := sameL_at (a := a) (b := b) (i := i) (by omega) (by omega)
    rw [h2] at hs
    refine ⟨h3, by omega, fun h4 => ?_, fun h4 => ⟨i + 1, by rw [wrap_id (by omega) (by omega)]; rfl, ⟨by omega, ?_⟩, by omega⟩⟩
    · rw [hs, show eqLf (a.getD i noL) (b.getD i noL) = false from h4]; rfl
    · rw [hs, show eqLf (a.getD i noL) (b.getD i noL) = true from h4]; rfl
  · have he : a.length = b.length := by
      have : (a.length : Int) = b.length := by simpa using h
      omega
    rw [← h2, List.drop_of_length_le (by omega : a.length ≤ i), List.drop_of_length_le (by omega : b.length ≤ i)]; rfl

theorem place_ok : SpecOK Tryz.prog 123 placeT.spec := by
  refine Tri.ok (E := placeE) (Env_ok (by decide +kernel) (by simp [rcompare_ok])) (n := 1000) placeT fun x hx => ?_
  rw [place_vc]
  obtain ⟨l, p⟩ := x
  obtain ⟨h1, h2⟩ := hx
  simp only [br_bad, br_true, br_false, List.length_singleton, and_self, Bool.not_true, Bool.not_false, Bool.not_not, decide_eq_true_eq, Bool.and_eq_true, List.take_zero, List.nil_append, List.drop_zero, Nat.zero_add, Int.toNat_natCast, Nat.sub_eq, true_and, and_true, exists_const, List.length_nil, Nat.zero_le, Nat.zero_mul, Nat.le_refl, List.length_set, List.take_length, Int.natCast_nonneg, forall_const, implies_true, Int.toNat_zero, Nat.le_eq, Int.le_refl, addN, cutN, loN, hiN, bndB, List.length_cons, List.take_succ_cons, List.length_take, List.length_drop, Option.isNone, Nat.add_zero, Nat.min_self]
  try simp only [br_iff, decide_eq_true_eq, decide_eq_false_iff_not, room47, Bool.not_eq_true', Bool.not_eq_false', gt_iff_lt]
  refine ⟨⟨0, rfl, by omega, rfl, rfl⟩, fun i ⟨g1, g2, g3⟩ hl => ⟨fun g4 => ⟨g4, ⟨p, (l.getD i noL).path⟩, rfl, rfl, ⟨h2, List.all_eq_true.1 h1 _ (getD_mem (show i < l.length by omega))⟩, fun g5 => ?_, fun g5 => ⟨fun g6 => ?_, fun g6 => ⟨i + 1, by rw [wrap_id (by omega) (by omega)]; rfl, ⟨by omega, ?_⟩, by omega⟩⟩⟩, fun g4 _ => ?_⟩⟩
  · rw [drop_getD noL (by omega), placeL_cons, show (cmpP p (l.getD i noL) == 0) = true from g5] at g2 g3
    simp only [cond_true] at g2 g3
    exact ⟨by omega, g3⟩
  · rw [drop_getD noL (by omega), placeL_cons, show (cmpP p (l.getD i noL) == 0) = false from g5, show decide (cmpP p (l.getD i noL) < 0) = true from decide_eq_true g6] at g2 g3
    simp only [cond_true, cond_false] at g2 g3
    exact ⟨by omega, g3⟩
  · rw [drop_getD noL (by omega), placeL_cons, show (cmpP p (l.getD i noL) == 0) = false from g5, show decide (cmpP p (l.getD i noL) < 0) = false from decide_eq_false g6] at g2 g3
    simp only [cond_false] at g2 g3
    exact ⟨by omega, g3⟩
  · rw [List.drop_of_length_le (by omega : l.length ≤ i)] at g2 g3
    have : (placeL p []).1 = 0 := rfl
    rw [this] at g2
    exact ⟨by omega, g3⟩

theorem rput_ok : SpecOK Tryz.prog 70 rputT.spec := by
  refine Tri.ok (E := rputE) (Env_ok (by decide +kernel) (by simp [place_ok])) (n := 1000) rputT fun x hx => ?_
  rw [rput_vc]
  obtain ⟨l, x⟩ := x
  obtain ⟨h1, h2, h3⟩ := hx
  simp only [br_bad, br_true, br_false, List.length_singleton, and_self, Bool.not_true, Bool.not_false, Bool.not_not, decide_eq_true_eq, Bool.and_eq_true, List.take_zero, List.nil_append, List.drop_zero, Nat.zero_add, Int.toNat_natCast, Nat.sub_eq, true_and, and_true, exists_const, List.length_nil, Nat.zero_le, Nat.zero_mul, Nat.le_refl, List.length_set, List.take_length, Int.natCast_nonneg, forall_const, implies_true, Int.toNat_zero, Nat.le_eq, Int.le_refl, addN, cutN, loN, hiN, bndB, List.length_cons, List.take_succ_cons, List.length_take, List.length_drop, Option.isNone, Nat.add_zero, Nat.min_self]
  try simp only [br_iff, decide_eq_true_eq, decide_eq_false_iff_not, room47, Bool.not_eq_true', Bool.not_eq_false', gt_iff_lt]
  have h3 : l.length ≤ 100000 := of_decide_eq_true h3
  refine ⟨⟨l, x.path⟩, rfl, rfl, ⟨h1, h2⟩, ?_⟩
  have hp := placeL_le x.path l
  have hi := insL_place x l
  dsimp only
  generalize (placeL x.path l).1 = k at hp hi ⊢
  generalize (placeL x.path l).2 = b at hp hi ⊢
  have c1 : cutL l none (some (k : Int)) = l.take k := by simp [cutL, loN, hiN]
  have c2 : cutL l (some (k : Int)) none = l.drop k := by simp [cutL, loN, hiN]
  have c3 : cutL l (some ((k + 1 : Nat) : Int)) none = l.drop (k + 1) := by simp [cutL, loN, hiN]
  have hw : IntKind.i64.wrap ((k : Int) + 1) = ((k + 1 : Nat) : Int) := by rw [wrap_id (by omega) (by omega)]; rfl
  rw [hw, c1, c2, c3]
  have l1 : (l.take k).length = k := by rw [List.length_take]; omega
  have l2 : (l.drop (k + 1)).length = l.length - (k + 1) := List.length_drop
  have l3 : (l.drop k).length = l.length - k := List.length_drop
  have tk : (l.take k ++ [x]).take (k + 1) = l.take k ++ [x] := List.take_of_length_le (by simp; omega)
  rw [l1, l2, l3]
  refine ⟨by simp; omega, fun _ => ⟨by omega, fun _ => ⟨by omega, fun hb => ⟨by simp; have := hp.2 hb; omega, fun _ => ⟨⟨by simp; omega, by omega⟩, ?_, ?_⟩⟩, fun hb => ⟨by simp; omega, fun _ => ⟨⟨by simp; omega, by omega⟩, ?_, ?_⟩⟩⟩⟩⟩
  · rw [hi, hb]; simp; have := hp.2 hb; omega
  · rw [hi, hb]
    show (l.take k ++ [x]).take (k + 1) ++ _ = _
    rw [tk]; simp
  · rw [hi, hb]; simp; omega
  · rw [hi, hb]
    show (l.take k ++ [x]).take (k + 1) ++ _ = _
    rw [tk]; simp

theorem rget_ok : SpecOK Tryz.prog 69 rgetT.spec := by
  refine Tri.ok (E := rputE) (Env_ok (by decide +kernel) (by simp [place_ok])) (n := 1000) rgetT fun x hx => ?_
  rw [rget_vc]
  obtain ⟨l, p⟩ := x
  obtain ⟨h1, h2⟩ := hx
  simp only [br_bad, br_true, br_false, List.length_singleton, and_self, Bool.not_true, Bool.not_false, Bool.not_not, decide_eq_true_eq, Bool.and_eq_true, List.take_zero, List.nil_append, List.drop_zero, Nat.zero_add, Int.toNat_natCast, Nat.sub_eq, true_and, and_true, exists_const, List.length_nil, Nat.zero_le, Nat.zero_mul, Nat.le_refl, List.length_set, List.take_length, Int.natCast_nonneg, forall_const, implies_true, Int.toNat_zero, Nat.le_eq, Int.le_refl, addN, cutN, loN, hiN, bndB, List.length_cons, List.take_succ_cons, List.length_take, List.length_drop, Option.isNone, Nat.add_zero, Nat.min_self]
  try simp only [br_iff, decide_eq_true_eq, decide_eq_false_iff_not, room47, Bool.not_eq_true', Bool.not_eq_false', gt_iff_lt]
  have hp := placeL_le p l
  refine ⟨⟨l, p⟩, rfl, rfl, ⟨h1, h2⟩, fun hb => ?_, fun hb => ⟨by have := hp.2 hb; dsimp only; omega, ?_⟩⟩
  · rw [getL_place, show (placeL p l).2 = false from hb]
    exact ⟨rfl, rfl, rfl, rfl, rfl⟩
  · rw [getL_place, show (placeL p l).2 = true from hb]
    exact ⟨rfl, rfl, rfl, rfl, rfl⟩

theorem rsrt_ok : SpecOK Tryz.prog 68 rsrtT.spec := by
  refine Tri.ok (E := rsortE) (Env_ok (by decide +kernel) (by simp [rcompare_ok])) (n := 1000) rsrtT fun x hx => ?_
  rw [rsrt_vc]
  revert hx
  revert x
  intro (l : List ChangeD) (hx : shortC l = true ∧ fewX l = true)
  obtain ⟨hs, hf⟩ := hx
  have hf : l.length ≤ 100000 := of_decide_eq_true hf
  refine ⟨⟨0, rfl, rfl, rfl, Nat.zero_le _⟩, fun i hi _ => br_i (fun h1 => ?_) (fun h1 => ⟨(), by omega, ?_, trivial⟩)⟩
  · have h1 := of_decide_eq_true h1
    have hol : (insS (l.take i)).length = i := by rw [insS_len, List.length_take]; omega
    have hnext : insS (l.take (i + 1)) = insR (l.getD i noC) (insS (l.take i)) := by rw [take_succ_getD noC (by omega), insS_snoc]
    have hso : ∀ y, y ∈ insS (l.take i) → shortB y.path = true := fun y hy => List.all_eq_true.1 hs y (List.mem_of_mem_take (mem_insS.1 hy))
    have hsx : shortB (l.getD i noC).path = true := List.all_eq_true.1 hs _ (getD_mem (d := noC) (by omega))
    generalize insS (l.take i) = out at hol hnext hso ⊢
    refine fun _ => ⟨⟨out.length, rfl, Nat.le_refl _, fun j h2 h3 => absurd h3 (by omega)⟩, fun k hk => br_i (fun h2 => ?_) (fun h2 => ?_)⟩
    · have h2 := of_decide_eq_true h2
      obtain ⟨k1, k2⟩ := hk
      have w : IntKind.i64.wrap ((k : Int) - 1) = ((k - 1 : Nat) : Int) := by rw [wrap_id (by omega) (by omega)]; omega
      rw [w]
      have e0 : 0 + ((k - 1 : Nat) : Int).toNat = k - 1 := by simp
      rw [e0]
      refine br_t (decide_eq_true ⟨by omega, by omega⟩) (br_t (decide_eq_true (by omega)) (br_t (decide_eq_true ⟨by omega, by omega⟩) ⟨⟨(out.getD (k - 1) noC).path, (l.getD i noC).path⟩, rfl, rfl, ⟨hso _ (getD_mem (d := noC) (by omega)), hsx⟩, fun _ _ => br_i (fun g => ?_) (fun g => ?_)⟩))
      · have g : cmpC (out.getD (k - 1) noC) (l.getD i noC) > 0 := of_decide_eq_true g
        refine ⟨k - 1, rfl, ⟨by omega, fun j hj1 hj2 => ?_⟩, by omega⟩
        rcases Nat.lt_or_ge (k - 1) j with h | h
        · exact k2 j (by omega) hj2
        · have : j = k - 1 := by omega
          subst this
          show cmpC (l.getD i noC) (out.getD (k - 1) noC) < 0
          rw [cmpC_swap]; omega
      · have g : ¬ cmpC (out.getD (k - 1) noC) (l.getD i noC) > 0 := of_decide_eq_false g
        have hput := insR_put (x := l.getD i noC) (l := out) (k := k) (by omega) (fun _ => by rw [cmpC_swap]; omega) k2
        clear e0 w g h2 k2
        have hlk : (out.take k).length = k := by rw [List.length_take]; omega
        have c1 : cutN out.length none (some (k : Int)) = k := by simp [cutN, loN, hiN]
        have c2 : cutN out.length (some (k : Int)) none = out.length - k := by simp [cutN, loN, hiN]
        have a1 : addN 0 none = 0 := rfl
        have a2 : addN 0 (some (k : Int)) = k := by simp [addN, loN]
        have rm : ∀ n, n ≤ 100002 → decide (n * 32 ≤ room47) = true := fun n hn => by
          have : 100002 * 32 ≤ room47 := by decide
          exact decide_eq_true (Nat.le_trans (Nat.mul_le_mul_right 32 hn) this)
        have t1 : ∀ c : ChangeD, (out.take k ++ [c]).take (k + 1) = out.take k ++ [c] := fun c => List.take_of_length_le (by simp; omega)
        have t2 : (out.drop k).take (out.length - k) = out.drop k := List.take_of_length_le (by simp)
        have l2 : (out.drop k).length = out.length - k := List.length_drop
        simp only [c1, c2, a1, a2, Nat.zero_add, List.drop_zero, List.take_zero, List.nil_append, List.take_succ_cons, List.length_cons, List.length_nil, hlk, List.take_nil, List.drop_nil, t1, t2, l2, List.length_append]
        refine br_t (by simp [bndB]; omega) fun _ => br_t ?_ (br_t (decide_eq_true ⟨by omega, by omega⟩) fun _ => br_t ?_ (br_t (by simp [bndB]; omega) fun _ => br_t ?_ ⟨i + 1, by rw [wrap_id (by omega) (by omega)]; rfl, trivial, ?_, ?_, by show i + 1 ≤ l.length; omega, by show l.length - (i + 1) < l.length - i; omega⟩))
        · rw [rm k (by omega)]; simp; omega
        · rw [rm (k + 1) (by omega)]; simp
        · rw [rm (k + 1 + (out.length - k)) (by omega)]; simp; omega
        · rw [hnext, insR_len]; omega
        · have t3 : (out.take k).take k = out.take k := List.take_of_length_le (by omega)
          rw [hnext, hput, t3]
          show (out.take k ++ [l.getD i noC]).take (k + 1) ++ out.drop k = _
          rw [t1]
          simp
    · have h2 := of_decide_eq_false h2
      obtain ⟨k1, k2⟩ := hk
      have hput := insR_put (x := l.getD i noC) (l := out) (k := k) (by omega) (fun h => absurd h (by omega)) k2
      clear h2 k2
      have hlk : (out.take k).length = k := by rw [List.length_take]; omega
      have c1 : cutN out.length none (some (k : Int)) = k := by simp [cutN, loN, hiN]
      have c2 : cutN out.length (some (k : Int)) none = out.length - k := by simp [cutN, loN, hiN]
      have a1 : addN 0 none = 0 := rfl
      have a2 : addN 0 (some (k : Int)) = k := by simp [addN, loN]
      have rm : ∀ n, n ≤ 100002 → decide (n * 32 ≤ room47) = true := fun n hn => by
        have : 100002 * 32 ≤ room47 := by decide
        exact decide_eq_true (Nat.le_trans (Nat.mul_le_mul_right 32 hn) this)
      have t1 : ∀ c : ChangeD, (out.take k ++ [c]).take (k + 1) = out.take k ++ [c] := fun c => List.take_of_length_le (by simp; omega)
      have t2 : (out.drop k).take (out.length - k) = out.drop k := List.take_of_length_le (by simp)
      have l2 : (out.drop k).length = out.length - k := List.length_drop
      simp only [c1, c2, a1, a2, Nat.zero_add, List.drop_zero, List.take_zero, List.nil_append, List.take_succ_cons, List.length_cons, List.length_nil, hlk, List.take_nil, List.drop_nil, t1, t2, l2, List.length_append]
      refine br_t (by simp [bndB]; omega) fun _ => br_t ?_ (br_t (decide_eq_true ⟨by omega, by omega⟩) fun _ => br_t ?_ (br_t (by simp [bndB]; omega) fun _ => br_t ?_ ⟨i + 1, by rw [wrap_id (by omega) (by omega)]; rfl, trivial, ?_, ?_, by show i + 1 ≤ l.length; omega, by show l.length - (i + 1) < l.length - i; omega⟩))
      · rw [rm k (by omega)]; simp; omega
      · rw [rm (k + 1) (by omega)]; simp
      · rw [rm (k + 1 + (out.length - k)) (by omega)]; simp; omega
      · rw [hnext, insR_len]; omega
      · have t3 : (out.take k).take k = out.take k := List.take_of_length_le (by omega)
        rw [hnext, hput, t3]
        show (out.take k ++ [l.getD i noC]).take (k + 1) ++ out.drop k = _
        rw [t1]
        simp
  · have h1 := of_decide_eq_false h1
    have hi : i ≤ l.length := hi
    rw [List.drop_zero, List.take_length, List.take_of_length_le (by omega)]

theorem sameR_at {a b : List RefD} {i : Nat} (ha : i < a.length) (hb : i < b.length) : sameRB (a.drop i) (b.drop i) = (eqRf (a.getD i noR) (b.getD i noR) && sameRB (a.drop (i + 1)) (b.drop (i + 1))) := by
  have e1 : a.getD i noR = a[i] := by simp [List.getD, ha]
  have e2 : b.getD i noR = b[i] := by simp [List.getD, hb]
  rw [e1, e2, List.drop_eq_getElem_cons ha, List.drop_eq_getElem_cons hb]
  unfold sameRB
  have h1 : Nat.beq (a[i] :: a.drop (i + 1)).length (b[i] :: b.drop (i + 1)).length = Nat.beq (a.drop (i + 1)).length (b.drop (i + 1)).length := by
    simp only [List.length_cons]
    rfl
  rw [h1]
  simp only [List.zipWith_cons_cons, List.all_cons, id]
  cases Nat.beq (a.drop (i + 1)).length (b.drop (i + 1)).length <;> cases eqRf a[i] b[i] <;> rfl
theorem refs2_ok : SpecOK Tryz.prog 78 refs2T.spec := by
  refine Tri.ok (E := refs2E) (Env_ok (by decide +kernel) (by simp)) (n := 1000) refs2T fun x hx => ?_
  rw [refs2_vc]
  obtain ⟨a, b⟩ := x
  dsimp only
  intro ha hb
  have r1 : room47 = 140737488355328 := rfl
  refine br_i (fun h => ⟨(), ?_, trivial⟩) (fun h => ⟨⟨0, rfl, Nat.zero_le _, rfl⟩, fun i hi _ => br_i (fun h3 => ?_) (fun h3 => ⟨(), ?_, trivial⟩)⟩)
  · have : Nat.beq a.length b.length = false := by
      cases h' : Nat.beq a.length b.length
      · rfl
      · rw [Nat.eq_of_beq_eq_true h'] at h; simp at h
    unfold sameRB
    rw [this]; rfl
  · obtain ⟨h1, h2⟩ := hi
    have h3 := of_decide_eq_true h3
    have he : a.length = b.length := by
      have : (a.length : Int) = b.length := by simpa using h
      omega
    have e0 : (i : Int).toNat = i := rfl
    rw [e0]
    have hs := sameR_at (a := a) (b := b) (i := i) (by omega) (by omega)
    rw [h2] at hs
    have b1 : decide ((0 : Int) ≤ (i : Int) ∧ (i : Int) < (a.length : Int)) = true := decide_eq_true ⟨by omega, h3⟩
    have b2 : decide ((0 : Int) ≤ (i : Int) ∧ (i : Int) < (b.length : Int)) = true := decide_eq_true ⟨by omega, by omega⟩
    refine br_t b1 (br_t b2 (br_i (fun h4 => ⟨(), ?_, trivial⟩) (fun h4 => br_t b1 (br_t b2 (br_i (fun h5 => ⟨(), ?_, trivial⟩) (fun h5 => ⟨i + 1, by rw [wrap_id (by omega) (by omega)]; rfl, ⟨by omega, ?_⟩, by show a.length - (i + 1) < a.length - i; omega⟩))))))
    · have h4 : ((a.getD i noR).name == (b.getD i noR).name) = false := by rw [← Bool.not_eq_true']; exact h4
      rw [hs]; unfold eqRf; rw [h4]; rfl
    · have h5 : ((a.getD i noR).rev == (b.getD i noR).rev) = false := by
        have h5 : (!((a.getD i noR).rev == (b.getD i noR).rev)) = true := h5
        rw [← Bool.not_eq_true']; exact h5
      rw [hs]; unfold eqRf; rw [h5, Bool.and_false]; rfl
    · have h4 : ((a.getD i noR).name == (b.getD i noR).name) = true := by rw [← Bool.not_eq_false']; exact h4
      have h5 : ((a.getD i noR).rev == (b.getD i noR).rev) = true := by
        have h5 : (!((a.getD i noR).rev == (b.getD i noR).rev)) = false := h5
        rw [← Bool.not_eq_false']; exact h5
      rw [hs]; unfold eqRf; rw [h4, h5]; rfl
  · obtain ⟨h1, h2⟩ := hi
    have h3 := of_decide_eq_false h3
    have he : a.length = b.length := by
      have : (a.length : Int) = b.length := by simpa using h
      omega
    rw [← h2, List.drop_of_length_le (by omega : a.length ≤ i), List.drop_of_length_le (by omega : b.length ≤ i)]; rfl
theorem looks_ok : SpecOK Tryz.prog 23 looksT.spec := by
  refine Tri.ok (E := looksE) (Env_ok (by decide +kernel) (by
    intro p hp
    simp only [List.mem_cons, List.mem_nil_iff, or_false] at hp
    rcases hp with rfl | rfl | rfl | rfl | rfl | rfl | rfl
    · exact ghead_ok
    · exact commits_ok
    · exact scoms_ok
    · exact gleaves_ok
    · exact samel_ok
    · exact refs_ok
    · exact refs2_ok)) (n := 1000) looksT fun x hx => ?_
  rw [looks_vc]
  revert hx
  revert x
  intro (C : List CommitD) (hx : fewG C = true)
  refine fun _ => ⟨C, rfl, rfl, rfl, rfl, rfl, trivial, fun _ _ => br_t (by simp) ⟨C, rfl, rfl, rfl, rfl, rfl, hx, fun _ _ => ⟨⟨C, C⟩, rfl, by omega, by simp, trivial, fun _ _ => br_t (sameM_self C) ⟨C, rfl, rfl, rfl, rfl, rfl, hx, fun _ _ => ⟨⟨rowC C, rowC C⟩, rfl, by omega, by simp, trivial, fun _ _ => br_t (sameLB_self _) ⟨C, rfl, rfl, rfl, rfl, rfl, hx, fun _ _ => ⟨⟨refsC C, refsC C⟩, rfl, by omega, ?_, trivial, fun _ _ => ⟨(), sameRB_self _, rfl, rfl, rfl, rfl, rfl, rfl, rfl, rfl, rfl, rfl, rfl, rfl, rfl, rfl, trivial⟩⟩⟩⟩⟩⟩⟩⟩
  rw [List.drop_zero, List.take_length]
  exact refsR_eq C
theorem readL_eq (C : List CommitD) (p : Bs) : readL (rowC C) p = readV ⟨C, p⟩ := rfl
end Go.Proofs.YtildflamnehilaaGreat.Ses

namespace Go.Proofs.YtildflamnehilaaGreat.Ses
open Go Go.Proofs Go.Proofs.YtildflamnehilaaGreat.Sx Go.Proofs.YtildflamnehilaaGreat.Trx

set_option maxHeartbeats 0 in
theorem move_ok : SpecOK Tryz.prog 71 moveT.spec := by
  refine Tri.ok (E := moveE) (Env_ok (by decide +kernel) (by simp)) (n := 1000) moveT fun x hx => ?_
  rw [move_vc]
  obtain ⟨C, L, R, n, v⟩ := x
  have hx : R.length ≤ 4000 := of_decide_eq_true hx
  dsimp only
  have hr : 9000 * 24 ≤ room47 := by decide
  have hfl : ∀ i, (foldR n v (R.take i)).out.length ≤ 8000 := fun i => by
    have h1 := foldR_len n v (R.take i)
    have h2 : (R.take i).length ≤ R.length := by simp; omega
    omega
  refine ⟨⟨0, rfl, rfl, rfl, rfl, Nat.zero_le _⟩, fun i hi _ => br_i (fun h1 => ?_) (fun h1 => ?_)⟩
  · have hi : i ≤ R.length := hi
    have h1 := of_decide_eq_true h1
    have e0 : 0 + (i : Int).toNat = i := by simp
    rw [e0]
    have bi : decide ((0 : Int) ≤ (i : Int) ∧ (i : Int) < (R.length : Int)) = true := decide_eq_true ⟨by omega, h1⟩
    have bl : decide (i < R.length) = true := decide_eq_true (by omega)
    have hw : IntKind.i64.wrap ((i : Int) + 1) = ((i + 1 : Nat) : Int) := by rw [wrap_id (by omega) (by omega)]; rfl
    have hst := foldR_suc (n := n) (v := v) (R := R) (i := i) (by omega)
    have hms : R.length - (i + 1) < R.length - i := by omega
    have hle : i + 1 ≤ R.length := by omega
    have hl8 := hfl i
    have heta : ∀ r : RefD, (⟨r.name, r.rev⟩ : RefD) = r := fun r => by cases r; rfl
    show br (!(foldR n v (R.take i)).put) _ _
    have hgd : R.getD i ⟨[], 0⟩ = R.getD i noR := rfl
    rw [hgd, heta]
    generalize R.getD i noR = r at hst ⊢
    generalize foldR n v (R.take i) = s at hst hl8 ⊢
    obtain ⟨out, put⟩ := s
    dsimp only at hst hl8 ⊢
    have rm1 : (decide (0 + 1 ≤ ([⟨n, v⟩] : List RefD).length) && decide (0 + out.length ≤ out.length) && decide ((out.length + (List.take 1 (List.drop 0 ([⟨n, v⟩] : List RefD))).length) * 24 ≤ room47)) = true := by
      simp; omega
    have rm2 : (decide (0 + 1 ≤ ([r] : List RefD).length) && decide (0 + out.length ≤ out.length) && decide ((out.length + (List.take 1 (List.drop 0 ([r] : List RefD))).length) * 24 ≤ room47)) = true := by
      simp; omega
    have fin : ∀ (o : List RefD) (p : Bool), foldR n v (R.take (i + 1)) = ⟨o, p⟩ → ∀ (k : Nat) (o' : List RefD) (p' : Bool), p' = p → o' = o → k = o.length → ∃ x3 : Nat, IntKind.i64.wrap ((i : Int) + 1) = (x3 : Int) ∧ p' = (foldR n v (R.take x3)).put ∧ (0 : Nat) = 0 ∧ k = (foldR n v (R.take x3)).out.length ∧ o' = (foldR n v (R.take x3)).out ∧ Nat.le x3 R.length ∧ Nat.sub R.length x3 < Nat.sub R.length i := by
      intro o p h k o' p' hp ho hk
      refine ⟨i + 1, hw, ?_, rfl, ?_, ?_, hle, hms⟩
      · rw [h, hp]
      · rw [h, hk]
      · rw [h, ho]
    have tk : List.take out.length (List.drop 0 out) = out := by simp
    refine (fun (tl : (!put && !(Op.bytesLess r.name n)) = false → _) => br_i (fun h2 => br_t bi (br_t bl (br_i (fun h3 => fun _ => br_t rm1 (br_t bi (br_t bl (br_i (fun h4 => br_t bi (br_t bl fun _ => br_t ?g1 (fin (out ++ [⟨n, v⟩] ++ [r]) true ?g2 _ _ _ rfl ?g3 ?g4))) (fun h4 => fin (out ++ [⟨n, v⟩]) true ?g5 _ _ _ rfl (by rw [tk]; rfl) (by simp)))))) (fun h3 => tl (by rw [h3, Bool.and_false]))))) (fun h2 => tl (by rw [h2]; rfl))) ?tl
    case tl =>
      intro hq
      have hpp : (put || !(Op.bytesLess r.name n)) = put := by
        revert hq
        cases put <;> cases Op.bytesLess r.name n <;> simp
      refine br_t bi (br_t bl (br_i (fun h3 => br_t bi (br_t bl fun _ => br_t rm2 (fin (out ++ [r]) put ?_ _ _ _ rfl (by rw [tk]; rfl) (by simp)))) (fun h3 => fin out put ?_ _ _ _ rfl rfl rfl)))
      · rw [hst]
        unfold stepR
        dsimp only
        rw [hpp, hq]
        have : (r.name == n) = false := by rw [← Bool.not_eq_true']; exact h3
        rw [this]; rfl
      · rw [hst]
        unfold stepR
        dsimp only
        rw [hpp, hq]
        have : (r.name == n) = true := by rw [← Bool.not_eq_false']; exact h3
        rw [this]; rfl
    case g1 =>
      have h24 : (out.length + 1 + 1) * 24 ≤ room47 := Nat.le_trans (Nat.mul_le_mul_right 24 (show out.length + 1 + 1 ≤ 9000 by omega)) hr
      have e5 : 0 + (out.length + (List.take 1 (List.drop 0 ([⟨n, v⟩] : List RefD))).length) = (out ++ List.take 1 (List.drop 0 ([⟨n, v⟩] : List RefD))).length := by rw [List.length_append, Nat.zero_add]
      refine Bool.and_eq_true_iff.2 ⟨Bool.and_eq_true_iff.2 ⟨decide_eq_true (Nat.le_refl 1), decide_eq_true ?_⟩, decide_eq_true h24⟩
      rw [tk]
      exact Nat.le_of_eq e5
    case g2 =>
      have : put = false := by rw [← Bool.not_eq_true']; exact h2
      have h4 : (r.name == n) = false := by rw [← Bool.not_eq_true']; exact h4
      rw [hst]
      unfold stepR
      dsimp only
      rw [this, h3, h4]; rfl
    case g3 =>
      rw [tk]
      have e : (out ++ List.take 1 (List.drop 0 [(⟨n, v⟩ : RefD)])) = out ++ [(⟨n, v⟩ : RefD)] := rfl
      rw [e]
      have e2 : out.length + (List.take 1 (List.drop 0 ([⟨n, v⟩] : List RefD))).length = (out ++ [(⟨n, v⟩ : RefD)]).length := by simp
      rw [e2, List.drop_zero, List.take_length]
      rfl
    case g4 => simp
    case g5 =>
      have : put = false := by rw [← Bool.not_eq_true']; exact h2
      have h4 : (r.name == n) = true := by rw [← Bool.not_eq_false']; exact h4
      rw [hst]
      unfold stepR
      dsimp only
      rw [this, h3, h4]; rfl
  · have hi : i ≤ R.length := hi
    have h1 := of_decide_eq_false h1
    have e : R.take i = R := List.take_of_length_le (by omega)
    have hl8 := hfl i
    rw [e] at hl8 ⊢
    have tk : List.take (foldR n v R).out.length (List.drop 0 (foldR n v R).out) = (foldR n v R).out := by simp
    refine br_i (fun h2 => fun _ => br_t ?_ ⟨(), rfl, rfl, rfl, rfl, rfl, ?_, rfl, rfl, ?_, trivial⟩) (fun h2 => ⟨(), rfl, rfl, rfl, rfl, rfl, ?_, rfl, rfl, ?_, trivial⟩)
    · simp; omega
    all_goals
      have hp : (foldR n v R).put = !(!(foldR n v R).put) := by simp
      rw [h2] at hp
      unfold moveR
      rw [hp]
    · simp
    · rw [tk]; rfl
    · rfl
    · rfl

theorem short_leaf {C : List CommitD} (h : shortM C = true) : shortLf (rowC C) = true := by
  unfold shortLf
  rw [List.all_eq_true]
  intro x hx
  have h1 : getL x.path (rowC C) = some x := (getL_iff (insLs_ord _)).2 ⟨hx, rfl⟩
  rw [rowC_get] at h1
  unfold lastOf at h1
  have h2 := List.mem_of_find?_eq_some h1
  rw [List.mem_reverse] at h2
  unfold leavesC at h2
  rw [List.mem_flatMap] at h2
  obtain ⟨c, hc, h3⟩ := h2
  obtain ⟨y, hy, rfl⟩ := List.mem_map.1 h3
  have h4 := List.all_eq_true.1 h c hc
  exact List.all_eq_true.1 h4 y hy
theorem few_leaf {C : List CommitD} (h : fewG C = true) : (rowC C).length ≤ 64000 := by
  obtain ⟨_, _, h3⟩ := fewG_of h
  exact Nat.le_trans (insLs_len _) h3
theorem rfin0 {x : LandA} {v : VerdictD} (h : landV x = v ∧ landC x = x.C) : ∃ _ : Unit, v.code = (landV x).code ∧ v.session = (landV x).session ∧ v.rev = (landV x).rev ∧ v.path = (landV x).path ∧ v.digest = (landV x).digest ∧ v.commits = (landV x).commits ∧ v.member = (landV x).member ∧ (0 : Nat) = 0 ∧ x.C.length = (landC x).length ∧ (0 : Nat) = 0 ∧ (rowC x.C).length = (rowC (landC x)).length ∧ (0 : Nat) = 0 ∧ (refsR x.C).length = (refsR (landC x)).length ∧ x.C = landC x ∧ rowC x.C = rowC (landC x) ∧ refsR x.C = refsR (landC x) ∧ True := by
  obtain ⟨h1, h2⟩ := h
  rw [h1, h2]
  exact ⟨(), rfl, rfl, rfl, rfl, rfl, rfl, rfl, rfl, rfl, rfl, rfl, rfl, rfl, rfl, rfl, rfl, trivial⟩
theorem putsL_row (C : List CommitD) (l : List LeafD) : putsL (rowC C) l = insLs (leavesC C ++ l) := by
  unfold putsL rowC insLs
  rw [List.foldl_append]
theorem putsL_suc {T : List LeafD} {l : List ChangeD} {rev : Int} {i : Nat} (h : i < l.length) : putsL T ((l.take (i + 1)).map (leafC rev)) = insL (leafC rev (l.getD i noC)) (putsL T ((l.take i).map (leafC rev))) := by
  rw [take_succ_getD noC h]
  simp [putsL]
theorem putsL_short {T : List LeafD} (hT : shortLf T = true) {l : List ChangeD} (hl : shortC l = true) {rev : Int} {C : List CommitD} (hC : T = rowC C) (hm : shortM C = true) (i : Nat) : shortLf (putsL T ((l.take i).map (leafC rev))) = true := by
  subst hC
  rw [putsL_row]
  have e : rowC (C ++ [⟨rev, 0, [], l.take i⟩]) = insLs (leavesC C ++ (l.take i).map (leafC rev)) := by
    unfold rowC
    rw [leavesC_snoc]
  rw [← e]
  refine short_leaf ?_
  unfold shortM
  rw [List.all_append]
  have h1 : (C.all fun c => shortC c.changes) = true := hm
  rw [h1]
  have h2 : shortC (l.take i) = true := by
    unfold shortC at hl ⊢
    rw [List.all_eq_true] at hl ⊢
    exact fun x hx => hl x (List.mem_of_mem_take hx)
  simp [h2]
set_option maxHeartbeats 0 in
theorem rland_ok : SpecOK Tryz.prog 19 rlandT.spec := by
  refine Tri.ok (E := rlandE) (Env_ok (by decide +kernel) (by
    intro p hp
    simp only [List.mem_cons, List.mem_nil_iff, or_false] at hp
    rcases hp with rfl | rfl | rfl | rfl | rfl | rfl
    · exact rcheck_ok
    · exact word_ok
    · exact rsrt_ok
    · exact rget_ok
    · exact rput_ok
    · exact move_ok)) (n := 1000) rlandT fun x hx => ?_
  rw [rland_vc]
  obtain ⟨⟨hf, hm⟩, hs, hfx⟩ := hx
  obtain ⟨f1, f2, f3⟩ := fewG_of hf
  have hsl := short_leaf hm
  have hrl := few_leaf hf
  have hrr := refsR_len x.C
  have hcu : 4001 * 56 ≤ room47 := by decide
  refine ⟨x.l, rfl, hs, fun _ _ => br_i (fun hc => rfin0 (v := vC 5 0 []) (land_bad ?_)) (fun hc => ?_)⟩
  · unfold badLd
    have : (chkC x.l == 0) = false := by
      have : (!(chkC x.l == 0)) = true := hc
      rw [← Bool.not_eq_true']; exact this
    rw [this]; rfl
  have hck : chkC x.l = 0 := by
    have hc : (!(chkC x.l == 0)) = false := hc
    rw [Bool.not_eq_false'] at hc
    exact beq_iff_eq.1 hc
  refine (fun (tl : (x.ref = [] ∨ wordOk x.ref false = true) → _) => br_i (fun h => ⟨⟨x.ref, false⟩, rfl, rfl, trivial, fun _ _ => br_i (fun g => rfin0 (v := vC 5 0 []) (land_bad ?g1)) (fun g => tl (.inr (by rw [← Bool.not_eq_false']; exact g)))⟩) (fun h => tl (.inl ?g2))) ?tl
  case g1 =>
    unfold badLd
    have h : (!(x.ref == [])) = true := h
    rw [h, g]
    simp
  case g2 =>
    have h : (!(x.ref == [])) = false := h
    rw [Bool.not_eq_false'] at h
    exact beq_iff_eq.1 h
  case tl =>
    intro hr
    refine br_i (fun hb => rfin0 (v := vC 5 0 []) (land_bad ?_)) (fun hb => fun _ => ?_)
    · unfold badLd
      rw [hb]; simp
    have hb := of_decide_eq_false hb
    have hbad : badLd x = false := by
      unfold badLd
      rw [hck, decide_eq_false hb]
      rcases hr with h | h
      · rw [h]; rfl
      · rw [h]; simp
    refine br_i (fun ha => fun _ => rfin0 (v := vC 4 x.C.length []) (land_ahead hbad (of_decide_eq_true ha))) (fun ha => ?_)
    have ha := of_decide_eq_false ha
    have hch := (chk_few hck).1
    have hil : (insS x.l).length = x.l.length := insS_len _
    have hss : shortC (insS x.l) = true := by
      unfold shortC at hs ⊢
      rw [List.all_eq_true] at hs ⊢
      exact fun y hy => hs y (mem_insS.1 hy)
    refine ⟨x.l, rfl, ⟨hs, hfx⟩, fun _ _ => ⟨⟨0, rfl, Nat.zero_le _, rfl⟩, fun i hi _ => br_i (fun h1 => br_t ?_ (dup ?_)) (fun h1 => ?_)⟩⟩
    · exact decide_eq_true ⟨by omega, of_decide_eq_true h1⟩
    · obtain ⟨i1, i2⟩ := hi
      have h1 := of_decide_eq_true h1
      have hd : (insS x.l).drop i = (insS x.l).getD i noC :: (insS x.l).drop (i + 1) := dropC (by omega)
      rw [hd] at i2
      have e0 : (i : Int).toNat = i := rfl
      rw [e0]
      have hsp : shortB ((insS x.l).getD i noC).path = true := List.all_eq_true.1 hss _ (getD_mem (d := noC) (by omega))
      have bi : decide ((0 : Int) ≤ (i : Int) ∧ (i : Int) < ((insS x.l).length : Int)) = true := decide_eq_true ⟨by omega, h1⟩
      have hw : IntKind.i64.wrap ((i : Int) + 1) = ((i + 1 : Nat) : Int) := by rw [wrap_id (by omega) (by omega)]; rfl
      refine ⟨⟨rowC x.C, ((insS x.l).getD i noC).path⟩, by omega, by simp, rfl, ⟨hsl, hsp⟩, fun _ _ => ?_⟩
      dsimp only
      conv at i2 => lhs; unfold confL
      cases hg : getL ((insS x.l).getD i noC).path (rowC x.C) with
      | none =>
        rw [hg] at i2
        exact br_f rfl ⟨i + 1, hw, ⟨by omega, i2⟩, by show (insS x.l).length - (i + 1) < (insS x.l).length - i; omega⟩
      | some y =>
        rw [hg] at i2
        dsimp only at i2
        refine br_t rfl (br_i (fun h3 => br_t bi ?_) (fun h3 => ⟨i + 1, hw, ⟨by omega, ?_⟩, by show (insS x.l).length - (i + 1) < (insS x.l).length - i; omega⟩))
        · have h3 : decide (y.rev > x.base) = true := h3
          rw [h3] at i2
          have hc : confA x = some (((insS x.l).getD i noC).path, y.rev) := by
            unfold confA
            rw [← i2]; rfl
          exact rfin0 (v := vC 3 y.rev ((insS x.l).getD i noC).path) (land_conf hbad ha hc)
        · have h3 : decide (y.rev > x.base) = false := h3
          rw [h3] at i2
          exact i2
    · obtain ⟨i1, i2⟩ := hi
      have h1 := of_decide_eq_false h1
      have hie : i = (insS x.l).length := by omega
      have hconf : confA x = none := by
        unfold confA
        rw [← i2, hie, List.drop_length]; rfl
      obtain ⟨g1, g2⟩ := land_in hbad ha hconf
      have hwr : IntKind.i64.wrap ((x.C.length : Int) + 1) = (x.C.length : Int) + 1 := wrap_id (by omega) (by omega)
      rw [hwr]
      have eC : List.take x.C.length (List.drop 0 x.C) ++ List.take 1 (List.drop 0 ([⟨(x.C.length : Int) + 1, x.base, x.ref, insS x.l⟩] : List CommitD)) = landC x := by
        rw [List.drop_zero, List.take_length, g2]; rfl
      have eL : x.C.length + (List.take 1 (List.drop 0 ([⟨(x.C.length : Int) + 1, x.base, x.ref, insS x.l⟩] : List CommitD))).length = (landC x).length := by
        rw [g2, List.length_append]; rfl
      have eRow : rowC (landC x) = putsL (rowC x.C) ((insS x.l).map (leafC ((x.C.length : Int) + 1))) := by
        rw [g2, putsL_row]
        unfold rowC
        rw [leavesC_snoc]
        rfl
      have eRef : refsR (landC x) = bif x.ref == [] then refsR x.C else moveR (refsR x.C) x.ref ((x.C.length : Int) + 1) := by
        rw [g2]
        unfold refsR
        rw [List.foldl_append]
        rfl
      have hlc : (landC x).length ≤ 4001 := by rw [g2]; simp; omega
      refine fun _ _ => br_t ?_ ⟨⟨0, rfl, rfl, rfl, rfl, rfl, rfl, rfl, rfl, Nat.zero_le _⟩, fun j hj _ => br_i (fun h2 => ?_) (fun h2 => ?_)⟩
      · rw [eL]
        refine Bool.and_eq_true_iff.2 ⟨Bool.and_eq_true_iff.2 ⟨decide_eq_true (Nat.le_refl 1), decide_eq_true (by omega)⟩, decide_eq_true (Nat.le_trans (Nat.mul_le_mul_right 56 hlc) hcu)⟩
      · have hj : j ≤ (insS x.l).length := hj
        have h2 := of_decide_eq_true h2
        have bj : decide ((0 : Int) ≤ (j : Int) ∧ (j : Int) < ((insS x.l).length : Int)) = true := decide_eq_true ⟨by omega, h2⟩
        have e0 : (j : Int).toNat = j := rfl
        rw [e0]
        have hps := putsL_short hsl hss (rev := (x.C.length : Int) + 1) rfl hm j
        have hsp : shortB ((insS x.l).getD j noC).path = true := List.all_eq_true.1 hss _ (getD_mem (d := noC) (by omega))
        have hpl : (putsL (rowC x.C) (((insS x.l).take j).map (leafC ((x.C.length : Int) + 1)))).length ≤ 100000 := by
          rw [putsL_row]
          have h5 := insLs_len (leavesC x.C ++ ((insS x.l).take j).map (leafC ((x.C.length : Int) + 1)))
          have h6 : (leavesC x.C ++ ((insS x.l).take j).map (leafC ((x.C.length : Int) + 1))).length ≤ 64000 + (insS x.l).length := by
            rw [List.length_append, List.length_map, List.length_take]; omega
          omega
        have hsuc := putsL_suc (T := rowC x.C) (l := insS x.l) (rev := (x.C.length : Int) + 1) (i := j) (by omega)
        refine br_t bj (br_t bj (br_t bj ⟨⟨putsL (rowC x.C) (((insS x.l).take j).map (leafC ((x.C.length : Int) + 1))), leafC ((x.C.length : Int) + 1) ((insS x.l).getD j noC)⟩, by omega, by rw [List.drop_zero, List.take_length], rfl, rfl, rfl, rfl, ⟨hps, hsp, decide_eq_true hpl⟩, fun _ _ => ⟨j + 1, by rw [wrap_id (by omega) (by omega)]; rfl, rfl, rfl, rfl, ?_, rfl, rfl, ?_, by show j + 1 ≤ (insS x.l).length; omega, by show (insS x.l).length - (j + 1) < (insS x.l).length - j; omega⟩⟩))
        · exact congrArg List.length hsuc.symm
        · exact hsuc.symm
      · have hj : j ≤ (insS x.l).length := hj
        have h2 := of_decide_eq_false h2
        have hje : (insS x.l).take j = insS x.l := List.take_of_length_le (by omega)
        rw [hje, eL, eC, ← eRow]
        have h7 : landV x = vC 2 ((x.C.length : Int) + 1) [] := g1
        refine br_i (fun h8 => ⟨⟨landC x, rowC (landC x), refsR x.C, x.ref, (x.C.length : Int) + 1⟩, rfl, rfl, rfl, rfl, rfl, rfl, rfl, rfl, rfl, rfl, rfl, decide_eq_true (by show (refsR x.C).length ≤ 4000; omega), fun _ _ => ?_⟩) (fun h8 => ?_)
        · have h8 : (!(x.ref == [])) = true := h8
          have h9 : (x.ref == []) = false := by rw [← Bool.not_eq_true']; exact h8
          rw [h9] at eRef
          have eRef : refsR (landC x) = moveR (refsR x.C) x.ref ((x.C.length : Int) + 1) := eRef
          rw [h7, eRef]
          exact ⟨(), rfl, rfl, rfl, rfl, rfl, rfl, rfl, rfl, rfl, rfl, rfl, rfl, rfl, rfl, rfl, rfl, trivial⟩
        · have h8 : (!(x.ref == [])) = false := h8
          have h9 : (x.ref == []) = true := by rw [← Bool.not_eq_false']; exact h8
          rw [h9] at eRef
          have eRef : refsR (landC x) = refsR x.C := eRef
          rw [h7, eRef]
          exact ⟨(), rfl, rfl, rfl, rfl, rfl, rfl, rfl, rfl, rfl, rfl, rfl, rfl, rfl, rfl, rfl, rfl, trivial⟩
end Go.Proofs.YtildflamnehilaaGreat.Ses

namespace Go.Proofs.YtildflamnehilaaGreat.Ses
open Go Go.Proofs Go.Proofs.YtildflamnehilaaGreat.Sx Go.Proofs.YtildflamnehilaaGreat.Trx

end Go.Proofs.YtildflamnehilaaGreat.Ses
