/- What the functions of sessions do, on lists: what the evaluator leaves of each, and that it holds. No condition. -/
import Derived.Test.YtnkhnogdiphboaaSxD
import Derived.Test.YtnkhnogdiphboaaProg
import Derived.KernelRfl
set_option linter.unusedSimpArgs false
set_option linter.unusedVariables false

namespace Go.Proofs.Ytnkhnogdiphboaa.Ses
open Go Go.Proofs Go.Proofs.Ytnkhnogdiphboaa.Sx
def cod : TypeId → Option Tc := fun t => match t with
  | 3 => some .int | 5 => some .byte | 9 => some .str | 82 => some .change | 46 => some .session | 54 => some .commit | 42 => some .deed6 | _ => none

noncomputable def hasT : Tri := { γ := List Int × Int, n0 := 0, args := fun x => [.rslice false .int x.1, .int .i64 x.2], blks := fun _ => [], pre := fun _ => True, δ := Unit, post := fun _ _ => True, n1 := 0, res := fun x _ => .bool (decide (x.2 ∈ x.1)), blks' := fun _ _ => [], scal := true }

noncomputable def hasI : St → LInv := fun s => match getE s.env 0, getE s.env 1 with
  | .rslice _ .int l, .int _ n => { σ := Nat, I := fun i => i ≤ l.length ∧ ∀ j : Nat, j < i → l[j]? ≠ some n, μ := fun i => l.length - i, env := fun i => [(5, .int .i64 i)], blk := fun _ => [], fresh := 0, drop := [] }
  | _, _ => LInv.none

noncomputable def hasE : Envr := Env Try.prog cod [] [(2, hasI)]

noncomputable def ownT : Tri := { γ := VerdictD, n0 := 0, args := fun v => [.agg v.enc], blks := fun _ => [], pre := fun _ => True, δ := Unit, post := fun _ _ => True, n1 := 0, res := fun v _ => .agg v.enc, blks' := fun _ _ => [], scal := false }

noncomputable def ownI : St → LInv := fun s => match s.m.blks.get 3 with
  | some (.rows .commit l) => { σ := Nat, I := fun i => i ≤ l.length, μ := fun i => l.length - i, env := fun i => [(11, .int .i64 i)], blk := fun _ => [(3, .rows .commit l)], fresh := 0, drop := [] }
  | _ => { σ := Unit, I := fun i => True, μ := fun i => 0, env := fun i => [(11, .int .i64 0)], blk := fun _ => [], fresh := 0, drop := [] }

noncomputable def ownE : Envr := Env Try.prog cod [] [(3, ownI)]

/-- the table's regions -/
def tabB (size : Int) (l : List SessionD) (n : Nat) : Blks := [(0, .cells [.int .i64 size, .mslice .session n 0 l.length]), (n, .rows .session l)]

/-- where the first one is that is so; -1 -/
def idxF (p : SessionD → Bool) : List SessionD → Int
  | [] => -1
  | x :: r => bif p x then 0 else let i := idxF p r; bif decide (i < 0) then -1 else i + 1

def idIs (n : Int) (s : SessionD) : Bool := s.id == n
def nameIs (n : Bs) (s : SessionD) : Bool := s.name == n

/-- slices.IndexFunc of sessions -/
noncomputable def idxI : St → LInv := fun s => match getE s.env 0, getE s.env 1 with
  | .mslice _ n lo len, .fn f _ [.mptr k _] => match s.m.blks.get n, s.m.blks.get k with
    | some (.rows .session l), some (.cells [key]) =>
      { σ := Nat, I := fun i => i ≤ l.length ∧ ∀ (j : Nat) x, j < i → l[j]? = some x → (match key with | .int _ n => idIs n x | .str n => nameIs n x | _ => false) = false,
        μ := fun i => l.length - i, env := fun i => [(8, .int .i64 i)], blk := fun _ => [], fresh := 0, drop := [] }
    | _, _ => LInv.none
  | _, _ => LInv.none

structure TabI where
  size : Int
  l : List SessionD
  n : Int
structure TabN where
  size : Int
  l : List SessionD
  name : Bs
structure OpenA where
  size : Int
  l : List SessionD
  name : Bs
  id : Int
structure AskA where
  size : Int
  l : List SessionD
  id : Int
  seq : Int
structure DoneA where
  size : Int
  l : List SessionD
  id : Int
  seq : Int
  v : VerdictD
structure TabA where
  size : Int
  l : List SessionD

noncomputable def idE : Envr := Env Try.prog cod [] [(2, idxI)]
noncomputable def idT : Tri := { γ := TabI, n0 := 2, args := fun x => [.mptr 0 0, .int .i64 x.n], blks := fun x => tabB x.size x.l 1, pre := fun x => decide (0 < x.size) = true, δ := Unit, post := fun _ _ => True, n1 := 0, res := fun x _ => .int .i64 (idxF (idIs x.n) x.l), blks' := fun x _ => tabB x.size x.l 1, scal := false }
noncomputable def nameT : Tri := { γ := TabN, n0 := 3, args := fun x => [.mptr 0 0, .fn 32 [] [.mptr 2 0]], blks := fun x => tabB x.size x.l 1 ++ [(2, .cells [.str x.name])], pre := fun x => decide (0 < x.size) = true, δ := Unit, post := fun _ _ => True, n1 := 0, res := fun x _ => .int .i64 (idxF (nameIs x.name) x.l), blks' := fun x _ => tabB x.size x.l 1 ++ [(2, .cells [.str x.name])], scal := false }

/-- without the one in a place -/
def outL (l : List SessionD) (i : Int) : List SessionD := l.take i.toNat ++ l.drop (i.toNat + 1)
def atL (l : List SessionD) (i : Int) : SessionD := l.getD i.toNat ⟨0, 0, [], .dflt⟩
/-- used last -/
def usedL (l : List SessionD) (i : Int) : List SessionD := outL l i ++ [atL l i]

def openL (x : OpenA) : Int × List SessionD :=
  let i := idxF (nameIs x.name) x.l
  bif decide (i < 0) then
    let j := idxF (idIs x.id) x.l
    let l1 := bif decide (j < 0) then x.l else outL x.l j
    let l2 := bif decide ((l1.length : Int) = x.size) then outL l1 0 else l1
    (x.id, l2 ++ [⟨x.id, 0, x.name, .dflt⟩])
  else ((atL x.l i).id, usedL x.l i)

def vd (c : Int) : VerdictD := ⟨c, 0, 0, [], 0, [], 0⟩
def askL (x : AskA) : (VerdictD × Bool) × List SessionD :=
  let i := idxF (idIs x.id) x.l
  bif decide (i < 0) then ((vd 6, true), x.l) else
    let s := atL x.l i
    (bif decide (x.seq < 1) then (vd 5, true) else bif decide (x.seq < s.seq) then (vd 7, true) else bif decide (x.seq = s.seq) then (s.last, true) else (vd 0, false), usedL x.l i)
def doneL (x : DoneA) : Bool × List SessionD :=
  let i := idxF (idIs x.id) x.l
  let s := atL x.l i
  bif decide (i < 0) || decide (x.seq ≤ s.seq) then (false, x.l) else (true, x.l.set i.toNat ⟨s.id, x.seq, s.name, x.v⟩)

noncomputable def noE : Envr := Env Try.prog cod [] []
noncomputable def leaveT : Tri := { γ := TabI, n0 := 2, args := fun x => [.mptr 0 0, .int .i64 x.n], blks := fun x => tabB x.size x.l 1, pre := fun x => decide (0 ≤ x.n ∧ x.n < x.l.length) = true, δ := Unit, post := fun _ _ => True, n1 := 1, res := fun x _ => .agg (enc .session (atL x.l x.n)), blks' := fun x _ => tabB x.size (outL x.l x.n) 2, scal := false }
noncomputable def useE : Envr := Env Try.prog cod [(35, leaveT.spec)] []
noncomputable def useT : Tri := { γ := TabI, n0 := 2, args := fun x => [.mptr 0 0, .int .i64 x.n], blks := fun x => tabB x.size x.l 1, pre := fun x => decide (0 ≤ x.n ∧ x.n < x.l.length) = true ∧ decide (x.l.length ≤ 1024) = true, δ := Unit, post := fun _ _ => True, n1 := 1, res := fun x _ => .agg (enc .session (atL x.l x.n)), blks' := fun x _ => tabB x.size (usedL x.l x.n) 2, scal := false }

noncomputable def opE : Envr := Env Try.prog cod [(34, idT.spec), (31, nameT.spec), (36, ownT.spec), (35, leaveT.spec), (33, useT.spec)] []
noncomputable def openT : Tri := { γ := OpenA, n0 := 2, args := fun x => [.mptr 0 0, .str x.name, .int .i64 x.id], blks := fun x => tabB x.size x.l 1, pre := fun x => decide (0 < x.size) = true ∧ decide (x.l.length ≤ 1024) = true, δ := Unit, post := fun _ _ => True, n1 := 1, res := fun x _ => .int .i64 (openL x).1, blks' := fun x _ => tabB x.size (openL x).2 2, scal := false }
noncomputable def askT : Tri := { γ := AskA, n0 := 2, args := fun x => [.mptr 0 0, .int .i64 x.id, .int .i64 x.seq], blks := fun x => tabB x.size x.l 1, pre := fun x => decide (0 < x.size) = true ∧ decide (x.l.length ≤ 1024) = true, δ := Unit, post := fun _ _ => True, n1 := 1, res := fun x _ => .tuple [.agg (askL x).1.1.enc, .bool (askL x).1.2], blks' := fun x _ => tabB x.size (askL x).2 2, scal := false }
noncomputable def doneT : Tri := { γ := DoneA, n0 := 2, args := fun x => [.mptr 0 0, .int .i64 x.id, .int .i64 x.seq, .agg x.v.enc], blks := fun x => tabB x.size x.l 1, pre := fun x => decide (0 < x.size) = true, δ := Unit, post := fun _ _ => True, n1 := 1, res := fun x _ => .bool (doneL x).1, blks' := fun x _ => tabB x.size (doneL x).2 2, scal := false }

/-- a loop over a slice that stays as it is: its index's slot, the slice's slot -/
noncomputable def keepI (ix sl : Nat) : St → LInv := fun s => match getE s.env sl with
  | .mslice _ n _ _ => match s.m.blks.get n with
    | some (.rows c l) => { σ := Nat, I := fun i => i ≤ l.length, μ := fun i => l.length - i, env := fun i => [(ix, .int .i64 i)], blk := fun _ => [(n, .rows c l)], fresh := 0, drop := [] }
    | _ => LInv.none
  | _ => { σ := Unit, I := fun i => True, μ := fun i => 0, env := fun i => [(ix, .int .i64 0)], blk := fun _ => [], fresh := 0, drop := [] }
noncomputable def cpE : Envr := Env Try.prog cod [(36, ownT.spec)] [(3, keepI 9 3)]
noncomputable def cpT : Tri := { γ := List SessionD, n0 := 1, args := fun l => [.mslice .session 0 0 l.length], blks := fun l => [(0, .rows .session l)], pre := fun _ => True, δ := Unit, post := fun _ _ => True, n1 := 1, res := fun l _ => .mslice .session 1 0 l.length, blks' := fun l _ => [(0, .rows .session l), (1, .rows .session l)], scal := false }
noncomputable def cpE2 : Envr := Env Try.prog cod [(38, cpT.spec)] []
noncomputable def allT : Tri := { γ := TabA, n0 := 2, args := fun x => [.mptr 0 0], blks := fun x => tabB x.size x.l 1, pre := fun x => decide (0 < x.size) = true, δ := Unit, post := fun _ _ => True, n1 := 1, res := fun x _ => .mslice .session 2 0 x.l.length, blks' := fun x _ => tabB x.size x.l 1 ++ [(2, .rows .session x.l)], scal := false }
noncomputable def cloneT : Tri := { γ := TabA, n0 := 2, args := fun x => [.mptr 0 0], blks := fun x => tabB x.size x.l 1, pre := fun x => decide (0 < x.size) = true, δ := Unit, post := fun _ _ => True, n1 := 2, res := fun x _ => .mptr 2 0, blks' := fun x _ => tabB x.size x.l 1 ++ [(2, .cells [.int .i64 x.size, .mslice .session 3 0 x.l.length]), (3, .rows .session x.l)], scal := false }
noncomputable def findT : Tri := { γ := TabI, n0 := 2, args := fun x => [.mptr 0 0, .int .i64 x.n], blks := fun x => tabB x.size x.l 1, pre := fun x => decide (0 < x.size) = true, δ := Unit, post := fun _ _ => True, n1 := 0, res := fun x _ => .tuple [.agg (enc .session (bif decide (idxF (idIs x.n) x.l < 0) then ⟨0, 0, [], .dflt⟩ else atL x.l (idxF (idIs x.n) x.l))), .bool (decide (0 ≤ idxF (idIs x.n) x.l))], blks' := fun x _ => tabB x.size x.l 1, scal := false }
end Go.Proofs.Ytnkhnogdiphboaa.Ses

namespace Go.Proofs.Ytnkhnogdiphboaa.Ses
open Go Go.Proofs Go.Proofs.Ytnkhnogdiphboaa.Sx
set_option maxRecDepth 100000

theorem has_vc (x : hasT.γ) : evCall hasE (ev hasE 1000) 14 (hasT.args x) ⟨hasT.blks x, hasT.n0, []⟩ (fun _ _ => False) (hasT.ends x) = (
((∃ x1 : Nat,
 ((@Eq Int (0 : Int) (Nat.cast x1 : Int)) ∧
 ((@LE.le Nat _ x1 (@List.length Int (@Prod.fst (@List Int) Int x))) ∧
 (∀ x2 : Nat,
 ((@LT.lt Nat _ x2 x1) →
 (@Ne (@Option Int) (@GetElem?.getElem? (@List Int) Nat Int (fun x3 : (@List Int) => (fun x4 : Nat => (@LT.lt Nat _ x4 (@List.length Int x3)))) _ (@Prod.fst (@List Int) Int x) x2) (@Option.some Int (@Prod.snd (@List Int) Int x)))))))) ∧
 (∀ x5 : Nat,
 (((@LE.le Nat _ x5 (@List.length Int (@Prod.fst (@List Int) Int x))) ∧
 (∀ x6 : Nat,
 ((@LT.lt Nat _ x6 x5) →
 (@Ne (@Option Int) (@GetElem?.getElem? (@List Int) Nat Int (fun x7 : (@List Int) => (fun x8 : Nat => (@LT.lt Nat _ x8 (@List.length Int x7)))) _ (@Prod.fst (@List Int) Int x) x6) (@Option.some Int (@Prod.snd (@List Int) Int x)))))) →
 ((@LE.le Nat _ (@HMul.hMul _ _ _ _ (@List.length Int (@Prod.fst (@List Int) Int x)) (8 : Nat)) room47) →
 (br (@Decidable.decide (@LT.lt Int _ (Nat.cast x5 : Int) (Nat.cast (@List.length Int (@Prod.fst (@List Int) Int x)) : Int)) _)
 (br (@Decidable.decide ((@LE.le Int _ (0 : Int) (Nat.cast x5 : Int)) ∧
 (@LT.lt Int _ (Nat.cast x5 : Int) (Nat.cast (@List.length Int (@Prod.fst (@List Int) Int x)) : Int))) _)
 (br (@BEq.beq Int _ (@List.getD Int (@Prod.fst (@List Int) Int x) (@Int.toNat (Nat.cast x5 : Int)) (@Int.ofNat (0 : Nat))) (@Prod.snd (@List Int) Int x))
 (∃ x9 : Unit,
 ((@Eq Bool Bool.true (@Decidable.decide (@Membership.mem Int (@List Int) _ (@Prod.fst (@List Int) Int x) (@Prod.snd (@List Int) Int x)) _)) ∧
 True))
 (∃ x10 : Nat,
 ((@Eq Int (@Go.IntKind.wrap Go.IntKind.i64 (@HAdd.hAdd Int Int Int _ (Nat.cast x5 : Int) (1 : Int))) (Nat.cast x10 : Int)) ∧
 (((@LE.le Nat _ x10 (@List.length Int (@Prod.fst (@List Int) Int x))) ∧
 (∀ x11 : Nat,
 ((@LT.lt Nat _ x11 x10) →
 (@Ne (@Option Int) (@GetElem?.getElem? (@List Int) Nat Int (fun x12 : (@List Int) => (fun x13 : Nat => (@LT.lt Nat _ x13 (@List.length Int x12)))) _ (@Prod.fst (@List Int) Int x) x11) (@Option.some Int (@Prod.snd (@List Int) Int x)))))) ∧
 (@LT.lt Nat _ (@Nat.sub (@List.length Int (@Prod.fst (@List Int) Int x)) x10) (@Nat.sub (@List.length Int (@Prod.fst (@List Int) Int x)) x5))))))
 (Bad "check" "ref.go:152"))
 (∃ x14 : Unit,
 ((@Eq Bool Bool.false (@Decidable.decide (@Membership.mem Int (@List Int) _ (@Prod.fst (@List Int) Int x) (@Prod.snd (@List Int) Int x)) _)) ∧
 True)))))))) := by kernel_rfl

theorem own_vc (x : ownT.γ) : evCall ownE (ev ownE 1000) 36 (ownT.args x) ⟨ownT.blks x, ownT.n0, []⟩ (fun _ _ => False) (ownT.ends x) = (
(∀ x1 : Bool,
 (((@Eq Bool x1 Bool.true) →
 (@Eq (@List CommitD) (@VerdictD.commits x) (@List.nil CommitD))) →
 (br x1
 ((∃ x2 : Unit,
 ((@Eq Int (0 : Int) (0 : Int)) ∧
 True)) ∧
 (∀ x3 : Unit,
 (True →
 (∃ x4 : Unit,
 ((@Eq Int (@VerdictD.code x) (@VerdictD.code x)) ∧
 ((@Eq Int (@VerdictD.session x) (@VerdictD.session x)) ∧
 ((@Eq Int (@VerdictD.rev x) (@VerdictD.rev x)) ∧
 ((@Eq Bs (@VerdictD.path x) (@VerdictD.path x)) ∧
 ((@Eq Int (@VerdictD.digest x) (@VerdictD.digest x)) ∧
 ((@Eq (@List CommitD) (@List.nil CommitD) (@VerdictD.commits x)) ∧
 ((@Eq Int (@VerdictD.member x) (@VerdictD.member x)) ∧
 True)))))))))))
 (((@Nat.le (@HMul.hMul _ _ _ _ (0 : Nat) (56 : Nat)) room47) ∧
 (@Nat.le (@HMul.hMul _ _ _ _ (@List.length CommitD (@VerdictD.commits x)) (56 : Nat)) room47)) →
 (br (@Bool.and (@Bool.and Bool.true (@Decidable.decide (@LE.le Nat _ (@HAdd.hAdd _ _ _ _ (0 : Nat) (0 : Nat)) (@List.length CommitD (@List.nil CommitD))) _)) (@Decidable.decide (@LE.le Nat _ (@HMul.hMul _ _ _ _ (@HAdd.hAdd _ _ _ _ (0 : Nat) (@List.length CommitD (@VerdictD.commits x))) (56 : Nat)) room47) _))
 ((@LE.le Nat _ (@HMul.hMul _ _ _ _ (@HAdd.hAdd _ _ _ _ (0 : Nat) (@List.length CommitD (@VerdictD.commits x))) (56 : Nat)) room47) →
 ((∃ x5 : Nat,
 ((@Eq Int (0 : Int) (Nat.cast x5 : Int)) ∧
 ((@Eq (@List CommitD) (@HAppend.hAppend (@List CommitD) (@List CommitD) (@List CommitD) _ (@List.take CommitD (0 : Nat) (@List.drop CommitD (0 : Nat) (@List.nil CommitD))) (@VerdictD.commits x)) (@HAppend.hAppend (@List CommitD) (@List CommitD) (@List CommitD) _ (@List.take CommitD (0 : Nat) (@List.drop CommitD (0 : Nat) (@List.nil CommitD))) (@VerdictD.commits x))) ∧
 (@Nat.le x5 (@List.length CommitD (@HAppend.hAppend (@List CommitD) (@List CommitD) (@List CommitD) _ (@List.take CommitD (0 : Nat) (@List.drop CommitD (0 : Nat) (@List.nil CommitD))) (@VerdictD.commits x))))))) ∧
 (∀ x6 : Nat,
 ((@Nat.le x6 (@List.length CommitD (@HAppend.hAppend (@List CommitD) (@List CommitD) (@List CommitD) _ (@List.take CommitD (0 : Nat) (@List.drop CommitD (0 : Nat) (@List.nil CommitD))) (@VerdictD.commits x)))) →
 (br (@Decidable.decide (@LT.lt Int _ (Nat.cast x6 : Int) (Nat.cast (@HAdd.hAdd _ _ _ _ (0 : Nat) (@List.length CommitD (@VerdictD.commits x))) : Int)) _)
 (br (@Decidable.decide ((@LE.le Int _ (0 : Int) (Nat.cast x6 : Int)) ∧
 (@LT.lt Int _ (Nat.cast x6 : Int) (Nat.cast (@HAdd.hAdd _ _ _ _ (0 : Nat) (@List.length CommitD (@VerdictD.commits x))) : Int))) _)
 (br (@Decidable.decide (@LT.lt Nat _ (@HAdd.hAdd _ _ _ _ (0 : Nat) (@Int.toNat (Nat.cast x6 : Int))) (@List.length CommitD (@HAppend.hAppend (@List CommitD) (@List CommitD) (@List CommitD) _ (@List.take CommitD (0 : Nat) (@List.drop CommitD (0 : Nat) (@List.nil CommitD))) (@VerdictD.commits x)))) _)
 (∀ x7 : Bool,
 (((@Eq Bool x7 Bool.true) →
 (@Eq (@List ChangeD) (@CommitD.changes (@List.getD CommitD (@HAppend.hAppend (@List CommitD) (@List CommitD) (@List CommitD) _ (@List.take CommitD (0 : Nat) (@List.drop CommitD (0 : Nat) (@List.nil CommitD))) (@VerdictD.commits x)) (@HAdd.hAdd _ _ _ _ (0 : Nat) (@Int.toNat (Nat.cast x6 : Int))) (@CommitD.mk (0 : Int) (0 : Int) (@List.nil UInt8) (@List.nil ChangeD)))) (@List.nil ChangeD))) →
 (br x7
 (br (@Decidable.decide ((@LE.le Int _ (0 : Int) (Nat.cast x6 : Int)) ∧
 (@LT.lt Int _ (Nat.cast x6 : Int) (Nat.cast (@HAdd.hAdd _ _ _ _ (0 : Nat) (@List.length CommitD (@VerdictD.commits x))) : Int))) _)
 (br (@Bool.and Bool.true (@Decidable.decide (@LT.lt Nat _ (@HAdd.hAdd _ _ _ _ (0 : Nat) (@Int.toNat (Nat.cast x6 : Int))) (@List.length CommitD (@HAppend.hAppend (@List CommitD) (@List CommitD) (@List CommitD) _ (@List.take CommitD (0 : Nat) (@List.drop CommitD (0 : Nat) (@List.nil CommitD))) (@VerdictD.commits x)))) _))
 (∃ x8 : Nat,
 ((@Eq Int (@Go.IntKind.wrap Go.IntKind.i64 (@HAdd.hAdd Int Int Int _ (Nat.cast x6 : Int) (1 : Int))) (Nat.cast x8 : Int)) ∧
 ((@Eq (@List CommitD) (@List.set CommitD (@HAppend.hAppend (@List CommitD) (@List CommitD) (@List CommitD) _ (@List.take CommitD (0 : Nat) (@List.drop CommitD (0 : Nat) (@List.nil CommitD))) (@VerdictD.commits x)) (@HAdd.hAdd _ _ _ _ (0 : Nat) (@Int.toNat (Nat.cast x6 : Int))) (@CommitD.mk (@CommitD.rev (@List.getD CommitD (@HAppend.hAppend (@List CommitD) (@List CommitD) (@List CommitD) _ (@List.take CommitD (0 : Nat) (@List.drop CommitD (0 : Nat) (@List.nil CommitD))) (@VerdictD.commits x)) (@HAdd.hAdd _ _ _ _ (0 : Nat) (@Int.toNat (Nat.cast x6 : Int))) (@CommitD.mk (0 : Int) (0 : Int) (@List.nil UInt8) (@List.nil ChangeD)))) (@CommitD.base (@List.getD CommitD (@HAppend.hAppend (@List CommitD) (@List CommitD) (@List CommitD) _ (@List.take CommitD (0 : Nat) (@List.drop CommitD (0 : Nat) (@List.nil CommitD))) (@VerdictD.commits x)) (@HAdd.hAdd _ _ _ _ (0 : Nat) (@Int.toNat (Nat.cast x6 : Int))) (@CommitD.mk (0 : Int) (0 : Int) (@List.nil UInt8) (@List.nil ChangeD)))) (@CommitD.ref (@List.getD CommitD (@HAppend.hAppend (@List CommitD) (@List CommitD) (@List CommitD) _ (@List.take CommitD (0 : Nat) (@List.drop CommitD (0 : Nat) (@List.nil CommitD))) (@VerdictD.commits x)) (@HAdd.hAdd _ _ _ _ (0 : Nat) (@Int.toNat (Nat.cast x6 : Int))) (@CommitD.mk (0 : Int) (0 : Int) (@List.nil UInt8) (@List.nil ChangeD)))) (@List.nil ChangeD))) (@HAppend.hAppend (@List CommitD) (@List CommitD) (@List CommitD) _ (@List.take CommitD (0 : Nat) (@List.drop CommitD (0 : Nat) (@List.nil CommitD))) (@VerdictD.commits x))) ∧
 ((@Nat.le x8 (@List.length CommitD (@HAppend.hAppend (@List CommitD) (@List CommitD) (@List CommitD) _ (@List.take CommitD (0 : Nat) (@List.drop CommitD (0 : Nat) (@List.nil CommitD))) (@VerdictD.commits x)))) ∧
 (@LT.lt Nat _ (@Nat.sub (@List.length CommitD (@HAppend.hAppend (@List CommitD) (@List CommitD) (@List CommitD) _ (@List.take CommitD (0 : Nat) (@List.drop CommitD (0 : Nat) (@List.nil CommitD))) (@VerdictD.commits x))) x8) (@Nat.sub (@List.length CommitD (@HAppend.hAppend (@List CommitD) (@List CommitD) (@List CommitD) _ (@List.take CommitD (0 : Nat) (@List.drop CommitD (0 : Nat) (@List.nil CommitD))) (@VerdictD.commits x))) x6))))))
 (Bad "check" "session.go:31"))
 (Bad "check" "session.go:31"))
 (((@Nat.le (@HMul.hMul _ _ _ _ (0 : Nat) (32 : Nat)) room47) ∧
 (@Nat.le (@HMul.hMul _ _ _ _ (@List.length ChangeD (@CommitD.changes (@List.getD CommitD (@HAppend.hAppend (@List CommitD) (@List CommitD) (@List CommitD) _ (@List.take CommitD (0 : Nat) (@List.drop CommitD (0 : Nat) (@List.nil CommitD))) (@VerdictD.commits x)) (@HAdd.hAdd _ _ _ _ (0 : Nat) (@Int.toNat (Nat.cast x6 : Int))) (@CommitD.mk (0 : Int) (0 : Int) (@List.nil UInt8) (@List.nil ChangeD))))) (32 : Nat)) room47)) →
 (br (@Bool.and (@Bool.and Bool.true (@Decidable.decide (@LE.le Nat _ (@HAdd.hAdd _ _ _ _ (0 : Nat) (0 : Nat)) (@List.length ChangeD (@List.nil ChangeD))) _)) (@Decidable.decide (@LE.le Nat _ (@HMul.hMul _ _ _ _ (@HAdd.hAdd _ _ _ _ (0 : Nat) (@List.length ChangeD (@CommitD.changes (@List.getD CommitD (@HAppend.hAppend (@List CommitD) (@List CommitD) (@List CommitD) _ (@List.take CommitD (0 : Nat) (@List.drop CommitD (0 : Nat) (@List.nil CommitD))) (@VerdictD.commits x)) (@HAdd.hAdd _ _ _ _ (0 : Nat) (@Int.toNat (Nat.cast x6 : Int))) (@CommitD.mk (0 : Int) (0 : Int) (@List.nil UInt8) (@List.nil ChangeD)))))) (32 : Nat)) room47) _))
 (br (@Decidable.decide ((@LE.le Int _ (0 : Int) (Nat.cast x6 : Int)) ∧
 (@LT.lt Int _ (Nat.cast x6 : Int) (Nat.cast (@HAdd.hAdd _ _ _ _ (0 : Nat) (@List.length CommitD (@VerdictD.commits x))) : Int))) _)
 (br (@Bool.and (@Bool.and (@Decidable.decide (@LE.le Nat _ (@HAdd.hAdd _ _ _ _ (0 : Nat) (@HAdd.hAdd _ _ _ _ (0 : Nat) (@List.length ChangeD (@CommitD.changes (@List.getD CommitD (@HAppend.hAppend (@List CommitD) (@List CommitD) (@List CommitD) _ (@List.take CommitD (0 : Nat) (@List.drop CommitD (0 : Nat) (@List.nil CommitD))) (@VerdictD.commits x)) (@HAdd.hAdd _ _ _ _ (0 : Nat) (@Int.toNat (Nat.cast x6 : Int))) (@CommitD.mk (0 : Int) (0 : Int) (@List.nil UInt8) (@List.nil ChangeD))))))) (@List.length ChangeD (@HAppend.hAppend (@List ChangeD) (@List ChangeD) (@List ChangeD) _ (@List.take ChangeD (0 : Nat) (@List.drop ChangeD (0 : Nat) (@List.nil ChangeD))) (@CommitD.changes (@List.getD CommitD (@HAppend.hAppend (@List CommitD) (@List CommitD) (@List CommitD) _ (@List.take CommitD (0 : Nat) (@List.drop CommitD (0 : Nat) (@List.nil CommitD))) (@VerdictD.commits x)) (@HAdd.hAdd _ _ _ _ (0 : Nat) (@Int.toNat (Nat.cast x6 : Int))) (@CommitD.mk (0 : Int) (0 : Int) (@List.nil UInt8) (@List.nil ChangeD))))))) _) Bool.true) (@Decidable.decide (@LT.lt Nat _ (@HAdd.hAdd _ _ _ _ (0 : Nat) (@Int.toNat (Nat.cast x6 : Int))) (@List.length CommitD (@HAppend.hAppend (@List CommitD) (@List CommitD) (@List CommitD) _ (@List.take CommitD (0 : Nat) (@List.drop CommitD (0 : Nat) (@List.nil CommitD))) (@VerdictD.commits x)))) _))
 (∃ x9 : Nat,
 ((@Eq Int (@Go.IntKind.wrap Go.IntKind.i64 (@HAdd.hAdd Int Int Int _ (Nat.cast x6 : Int) (1 : Int))) (Nat.cast x9 : Int)) ∧
 ((@Eq (@List CommitD) (@List.set CommitD (@HAppend.hAppend (@List CommitD) (@List CommitD) (@List CommitD) _ (@List.take CommitD (0 : Nat) (@List.drop CommitD (0 : Nat) (@List.nil CommitD))) (@VerdictD.commits x)) (@HAdd.hAdd _ _ _ _ (0 : Nat) (@Int.toNat (Nat.cast x6 : Int))) (@CommitD.mk (@CommitD.rev (@List.getD CommitD (@HAppend.hAppend (@List CommitD) (@List CommitD) (@List CommitD) _ (@List.take CommitD (0 : Nat) (@List.drop CommitD (0 : Nat) (@List.nil CommitD))) (@VerdictD.commits x)) (@HAdd.hAdd _ _ _ _ (0 : Nat) (@Int.toNat (Nat.cast x6 : Int))) (@CommitD.mk (0 : Int) (0 : Int) (@List.nil UInt8) (@List.nil ChangeD)))) (@CommitD.base (@List.getD CommitD (@HAppend.hAppend (@List CommitD) (@List CommitD) (@List CommitD) _ (@List.take CommitD (0 : Nat) (@List.drop CommitD (0 : Nat) (@List.nil CommitD))) (@VerdictD.commits x)) (@HAdd.hAdd _ _ _ _ (0 : Nat) (@Int.toNat (Nat.cast x6 : Int))) (@CommitD.mk (0 : Int) (0 : Int) (@List.nil UInt8) (@List.nil ChangeD)))) (@CommitD.ref (@List.getD CommitD (@HAppend.hAppend (@List CommitD) (@List CommitD) (@List CommitD) _ (@List.take CommitD (0 : Nat) (@List.drop CommitD (0 : Nat) (@List.nil CommitD))) (@VerdictD.commits x)) (@HAdd.hAdd _ _ _ _ (0 : Nat) (@Int.toNat (Nat.cast x6 : Int))) (@CommitD.mk (0 : Int) (0 : Int) (@List.nil UInt8) (@List.nil ChangeD)))) (@List.take ChangeD (@HAdd.hAdd _ _ _ _ (0 : Nat) (@List.length ChangeD (@CommitD.changes (@List.getD CommitD (@HAppend.hAppend (@List CommitD) (@List CommitD) (@List CommitD) _ (@List.take CommitD (0 : Nat) (@List.drop CommitD (0 : Nat) (@List.nil CommitD))) (@VerdictD.commits x)) (@HAdd.hAdd _ _ _ _ (0 : Nat) (@Int.toNat (Nat.cast x6 : Int))) (@CommitD.mk (0 : Int) (0 : Int) (@List.nil UInt8) (@List.nil ChangeD)))))) (@List.drop ChangeD (0 : Nat) (@HAppend.hAppend (@List ChangeD) (@List ChangeD) (@List ChangeD) _ (@List.take ChangeD (0 : Nat) (@List.drop ChangeD (0 : Nat) (@List.nil ChangeD))) (@CommitD.changes (@List.getD CommitD (@HAppend.hAppend (@List CommitD) (@List CommitD) (@List CommitD) _ (@List.take CommitD (0 : Nat) (@List.drop CommitD (0 : Nat) (@List.nil CommitD))) (@VerdictD.commits x)) (@HAdd.hAdd _ _ _ _ (0 : Nat) (@Int.toNat (Nat.cast x6 : Int))) (@CommitD.mk (0 : Int) (0 : Int) (@List.nil UInt8) (@List.nil ChangeD))))))))) (@HAppend.hAppend (@List CommitD) (@List CommitD) (@List CommitD) _ (@List.take CommitD (0 : Nat) (@List.drop CommitD (0 : Nat) (@List.nil CommitD))) (@VerdictD.commits x))) ∧
 ((@Nat.le x9 (@List.length CommitD (@HAppend.hAppend (@List CommitD) (@List CommitD) (@List CommitD) _ (@List.take CommitD (0 : Nat) (@List.drop CommitD (0 : Nat) (@List.nil CommitD))) (@VerdictD.commits x)))) ∧
 (@LT.lt Nat _ (@Nat.sub (@List.length CommitD (@HAppend.hAppend (@List CommitD) (@List CommitD) (@List CommitD) _ (@List.take CommitD (0 : Nat) (@List.drop CommitD (0 : Nat) (@List.nil CommitD))) (@VerdictD.commits x))) x9) (@Nat.sub (@List.length CommitD (@HAppend.hAppend (@List CommitD) (@List CommitD) (@List CommitD) _ (@List.take CommitD (0 : Nat) (@List.drop CommitD (0 : Nat) (@List.nil CommitD))) (@VerdictD.commits x))) x6))))))
 (Bad "check" "session.go:31"))
 (Bad "check" "session.go:31"))
 (Bad "check" "slices.go:362"))))))
 (Bad "check" "session.go:31"))
 (Bad "check" "session.go:31"))
 (∃ x10 : Unit,
 ((@Eq Int (@VerdictD.code x) (@VerdictD.code x)) ∧
 ((@Eq Int (@VerdictD.session x) (@VerdictD.session x)) ∧
 ((@Eq Int (@VerdictD.rev x) (@VerdictD.rev x)) ∧
 ((@Eq Bs (@VerdictD.path x) (@VerdictD.path x)) ∧
 ((@Eq Int (@VerdictD.digest x) (@VerdictD.digest x)) ∧
 ((@LE.le Nat _ (@HAdd.hAdd _ _ _ _ (0 : Nat) (@HAdd.hAdd _ _ _ _ (0 : Nat) (@List.length CommitD (@VerdictD.commits x)))) (@List.length CommitD (@HAppend.hAppend (@List CommitD) (@List CommitD) (@List CommitD) _ (@List.take CommitD (0 : Nat) (@List.drop CommitD (0 : Nat) (@List.nil CommitD))) (@VerdictD.commits x)))) ∧
 ((@Eq (@List CommitD) (@List.take CommitD (@HAdd.hAdd _ _ _ _ (0 : Nat) (@List.length CommitD (@VerdictD.commits x))) (@List.drop CommitD (0 : Nat) (@HAppend.hAppend (@List CommitD) (@List CommitD) (@List CommitD) _ (@List.take CommitD (0 : Nat) (@List.drop CommitD (0 : Nat) (@List.nil CommitD))) (@VerdictD.commits x)))) (@VerdictD.commits x)) ∧
 ((@Eq Int (@VerdictD.member x) (@VerdictD.member x)) ∧
 True))))))))))))))
 (Bad "check" "slices.go:362"))))))) := by kernel_rfl

theorem id_vc (x : idT.γ) : evCall idE (ev idE 1000) 34 (idT.args x) ⟨idT.blks x, idT.n0, []⟩ (fun _ _ => False) (idT.ends x) = (
(br (@Bool.not (@Decidable.decide (@GT.gt Int _ (@TabI.size x) (0 : Int)) _))
 (∃ x1 : Unit,
 ((@Eq Int (@Neg.neg Int _ (1 : Int)) (@idxF (@idIs (@TabI.n x)) (@TabI.l x))) ∧
 ((@Eq Int (@TabI.size x) (@TabI.size x)) ∧
 ((@Eq Nat (0 : Nat) (0 : Nat)) ∧
 ((@Eq Nat (@List.length SessionD (@TabI.l x)) (@List.length SessionD (@TabI.l x))) ∧
 ((@Eq (@List SessionD) (@TabI.l x) (@TabI.l x)) ∧
 True))))))
 ((@LE.le Nat _ (@HMul.hMul _ _ _ _ (@List.length SessionD (@TabI.l x)) (112 : Nat)) room47) →
 ((∃ x2 : Nat,
 ((@Eq Int (0 : Int) (Nat.cast x2 : Int)) ∧
 ((@LE.le Nat _ x2 (@List.length SessionD (@TabI.l x))) ∧
 (∀ x3 : Nat,
 (∀ x4 : SessionD,
 ((@LT.lt Nat _ x3 x2) →
 ((@Eq (@Option SessionD) (@GetElem?.getElem? (@List SessionD) Nat SessionD (fun x5 : (@List SessionD) => (fun x6 : Nat => (@LT.lt Nat _ x6 (@List.length SessionD x5)))) _ (@TabI.l x) x3) (@Option.some SessionD x4)) →
 (@Eq Bool (@idIs (@TabI.n x) x4) Bool.false)))))))) ∧
 (∀ x7 : Nat,
 (((@LE.le Nat _ x7 (@List.length SessionD (@TabI.l x))) ∧
 (∀ x8 : Nat,
 (∀ x9 : SessionD,
 ((@LT.lt Nat _ x8 x7) →
 ((@Eq (@Option SessionD) (@GetElem?.getElem? (@List SessionD) Nat SessionD (fun x10 : (@List SessionD) => (fun x11 : Nat => (@LT.lt Nat _ x11 (@List.length SessionD x10)))) _ (@TabI.l x) x8) (@Option.some SessionD x9)) →
 (@Eq Bool (@idIs (@TabI.n x) x9) Bool.false)))))) →
 (br (@Decidable.decide (@LT.lt Int _ (Nat.cast x7 : Int) (Nat.cast (@List.length SessionD (@TabI.l x)) : Int)) _)
 (br (@Decidable.decide ((@LE.le Int _ (0 : Int) (Nat.cast x7 : Int)) ∧
 (@LT.lt Int _ (Nat.cast x7 : Int) (Nat.cast (@List.length SessionD (@TabI.l x)) : Int))) _)
 (br (@Decidable.decide (@LT.lt Nat _ (@HAdd.hAdd _ _ _ _ (0 : Nat) (@Int.toNat (Nat.cast x7 : Int))) (@List.length SessionD (@TabI.l x))) _)
 (br (@BEq.beq Int _ (@SessionD.id (@List.getD SessionD (@TabI.l x) (@HAdd.hAdd _ _ _ _ (0 : Nat) (@Int.toNat (Nat.cast x7 : Int))) (@SessionD.mk (0 : Int) (0 : Int) (@List.nil UInt8) VerdictD.dflt))) (@TabI.n x))
 (∃ x12 : Unit,
 ((@Eq Int (Nat.cast x7 : Int) (@idxF (@idIs (@TabI.n x)) (@TabI.l x))) ∧
 ((@Eq Int (@TabI.size x) (@TabI.size x)) ∧
 ((@Eq Nat (0 : Nat) (0 : Nat)) ∧
 ((@Eq Nat (@List.length SessionD (@TabI.l x)) (@List.length SessionD (@TabI.l x))) ∧
 ((@Eq (@List SessionD) (@TabI.l x) (@TabI.l x)) ∧
 True))))))
 (∃ x13 : Nat,
 ((@Eq Int (@Go.IntKind.wrap Go.IntKind.i64 (@HAdd.hAdd Int Int Int _ (Nat.cast x7 : Int) (1 : Int))) (Nat.cast x13 : Int)) ∧
 (((@LE.le Nat _ x13 (@List.length SessionD (@TabI.l x))) ∧
 (∀ x14 : Nat,
 (∀ x15 : SessionD,
 ((@LT.lt Nat _ x14 x13) →
 ((@Eq (@Option SessionD) (@GetElem?.getElem? (@List SessionD) Nat SessionD (fun x16 : (@List SessionD) => (fun x17 : Nat => (@LT.lt Nat _ x17 (@List.length SessionD x16)))) _ (@TabI.l x) x14) (@Option.some SessionD x15)) →
 (@Eq Bool (@idIs (@TabI.n x) x15) Bool.false)))))) ∧
 (@LT.lt Nat _ (@Nat.sub (@List.length SessionD (@TabI.l x)) x13) (@Nat.sub (@List.length SessionD (@TabI.l x)) x7))))))
 (Bad "check" "slices.go:109"))
 (Bad "check" "slices.go:109"))
 (∃ x18 : Unit,
 ((@Eq Int (@Neg.neg Int _ (1 : Int)) (@idxF (@idIs (@TabI.n x)) (@TabI.l x))) ∧
 ((@Eq Int (@TabI.size x) (@TabI.size x)) ∧
 ((@Eq Nat (0 : Nat) (0 : Nat)) ∧
 ((@Eq Nat (@List.length SessionD (@TabI.l x)) (@List.length SessionD (@TabI.l x))) ∧
 ((@Eq (@List SessionD) (@TabI.l x) (@TabI.l x)) ∧
 True))))))))))))) := by kernel_rfl

theorem name_vc (x : nameT.γ) : evCall idE (ev idE 1000) 31 (nameT.args x) ⟨nameT.blks x, nameT.n0, []⟩ (fun _ _ => False) (nameT.ends x) = (
(br (@Bool.not (@Decidable.decide (@GT.gt Int _ (@TabN.size x) (0 : Int)) _))
 (∃ x1 : Unit,
 ((@Eq Int (@Neg.neg Int _ (1 : Int)) (@idxF (@nameIs (@TabN.name x)) (@TabN.l x))) ∧
 ((@Eq Int (@TabN.size x) (@TabN.size x)) ∧
 ((@Eq Nat (0 : Nat) (0 : Nat)) ∧
 ((@Eq Nat (@List.length SessionD (@TabN.l x)) (@List.length SessionD (@TabN.l x))) ∧
 ((@Eq (@List SessionD) (@TabN.l x) (@TabN.l x)) ∧
 ((@Eq Bs (@TabN.name x) (@TabN.name x)) ∧
 True)))))))
 ((@LE.le Nat _ (@HMul.hMul _ _ _ _ (@List.length SessionD (@TabN.l x)) (112 : Nat)) room47) →
 ((∃ x2 : Nat,
 ((@Eq Int (0 : Int) (Nat.cast x2 : Int)) ∧
 ((@LE.le Nat _ x2 (@List.length SessionD (@TabN.l x))) ∧
 (∀ x3 : Nat,
 (∀ x4 : SessionD,
 ((@LT.lt Nat _ x3 x2) →
 ((@Eq (@Option SessionD) (@GetElem?.getElem? (@List SessionD) Nat SessionD (fun x5 : (@List SessionD) => (fun x6 : Nat => (@LT.lt Nat _ x6 (@List.length SessionD x5)))) _ (@TabN.l x) x3) (@Option.some SessionD x4)) →
 (@Eq Bool (@nameIs (@TabN.name x) x4) Bool.false)))))))) ∧
 (∀ x7 : Nat,
 (((@LE.le Nat _ x7 (@List.length SessionD (@TabN.l x))) ∧
 (∀ x8 : Nat,
 (∀ x9 : SessionD,
 ((@LT.lt Nat _ x8 x7) →
 ((@Eq (@Option SessionD) (@GetElem?.getElem? (@List SessionD) Nat SessionD (fun x10 : (@List SessionD) => (fun x11 : Nat => (@LT.lt Nat _ x11 (@List.length SessionD x10)))) _ (@TabN.l x) x8) (@Option.some SessionD x9)) →
 (@Eq Bool (@nameIs (@TabN.name x) x9) Bool.false)))))) →
 (br (@Decidable.decide (@LT.lt Int _ (Nat.cast x7 : Int) (Nat.cast (@List.length SessionD (@TabN.l x)) : Int)) _)
 (br (@Decidable.decide ((@LE.le Int _ (0 : Int) (Nat.cast x7 : Int)) ∧
 (@LT.lt Int _ (Nat.cast x7 : Int) (Nat.cast (@List.length SessionD (@TabN.l x)) : Int))) _)
 (br (@Decidable.decide (@LT.lt Nat _ (@HAdd.hAdd _ _ _ _ (0 : Nat) (@Int.toNat (Nat.cast x7 : Int))) (@List.length SessionD (@TabN.l x))) _)
 (br (@BEq.beq Bs _ (@SessionD.name (@List.getD SessionD (@TabN.l x) (@HAdd.hAdd _ _ _ _ (0 : Nat) (@Int.toNat (Nat.cast x7 : Int))) (@SessionD.mk (0 : Int) (0 : Int) (@List.nil UInt8) VerdictD.dflt))) (@TabN.name x))
 (∃ x12 : Unit,
 ((@Eq Int (Nat.cast x7 : Int) (@idxF (@nameIs (@TabN.name x)) (@TabN.l x))) ∧
 ((@Eq Int (@TabN.size x) (@TabN.size x)) ∧
 ((@Eq Nat (0 : Nat) (0 : Nat)) ∧
 ((@Eq Nat (@List.length SessionD (@TabN.l x)) (@List.length SessionD (@TabN.l x))) ∧
 ((@Eq (@List SessionD) (@TabN.l x) (@TabN.l x)) ∧
 ((@Eq Bs (@TabN.name x) (@TabN.name x)) ∧
 True)))))))
 (∃ x13 : Nat,
 ((@Eq Int (@Go.IntKind.wrap Go.IntKind.i64 (@HAdd.hAdd Int Int Int _ (Nat.cast x7 : Int) (1 : Int))) (Nat.cast x13 : Int)) ∧
 (((@LE.le Nat _ x13 (@List.length SessionD (@TabN.l x))) ∧
 (∀ x14 : Nat,
 (∀ x15 : SessionD,
 ((@LT.lt Nat _ x14 x13) →
 ((@Eq (@Option SessionD) (@GetElem?.getElem? (@List SessionD) Nat SessionD (fun x16 : (@List SessionD) => (fun x17 : Nat => (@LT.lt Nat _ x17 (@List.length SessionD x16)))) _ (@TabN.l x) x14) (@Option.some SessionD x15)) →
 (@Eq Bool (@nameIs (@TabN.name x) x15) Bool.false)))))) ∧
 (@LT.lt Nat _ (@Nat.sub (@List.length SessionD (@TabN.l x)) x13) (@Nat.sub (@List.length SessionD (@TabN.l x)) x7))))))
 (Bad "check" "slices.go:109"))
 (Bad "check" "slices.go:109"))
 (∃ x18 : Unit,
 ((@Eq Int (@Neg.neg Int _ (1 : Int)) (@idxF (@nameIs (@TabN.name x)) (@TabN.l x))) ∧
 ((@Eq Int (@TabN.size x) (@TabN.size x)) ∧
 ((@Eq Nat (0 : Nat) (0 : Nat)) ∧
 ((@Eq Nat (@List.length SessionD (@TabN.l x)) (@List.length SessionD (@TabN.l x))) ∧
 ((@Eq (@List SessionD) (@TabN.l x) (@TabN.l x)) ∧
 ((@Eq Bs (@TabN.name x) (@TabN.name x)) ∧
 True)))))))))))))) := by kernel_rfl

theorem leave_vc (x : leaveT.γ) : evCall noE (ev noE 1000) 35 (leaveT.args x) ⟨leaveT.blks x, leaveT.n0, []⟩ (fun _ _ => False) (leaveT.ends x) = (
(br (@Decidable.decide ((@LE.le Int _ (0 : Int) (@TabI.n x)) ∧
 (@LT.lt Int _ (@TabI.n x) (Nat.cast (@List.length SessionD (@TabI.l x)) : Int))) _)
 (br (@Decidable.decide (@LT.lt Nat _ (@HAdd.hAdd _ _ _ _ (0 : Nat) (@Int.toNat (@TabI.n x))) (@List.length SessionD (@TabI.l x))) _)
 (br (@bndB (@List.length SessionD (@TabI.l x)) (@Option.none Int) (@Option.some Int (@TabI.n x)) (@Option.some Int (@TabI.n x)))
 ((@LE.le Nat _ (@HMul.hMul _ _ _ _ (@List.length SessionD (@TabI.l x)) (112 : Nat)) room47) →
 ((@LE.le Nat _ (@HMul.hMul _ _ _ _ (@List.length SessionD (@TabI.l x)) (112 : Nat)) room47) →
 (br (@bndB (@List.length SessionD (@TabI.l x)) (@Option.some Int (@Go.IntKind.wrap Go.IntKind.i64 (@HAdd.hAdd Int Int Int _ (@TabI.n x) (1 : Int)))) (@Option.some Int (Nat.cast (@List.length SessionD (@TabI.l x)) : Int)) (@Option.some Int (Nat.cast (@List.length SessionD (@TabI.l x)) : Int)))
 (((@Nat.le (@HMul.hMul _ _ _ _ (@cutN (@List.length SessionD (@TabI.l x)) (@Option.none Int) (@Option.some Int (@TabI.n x))) (112 : Nat)) room47) ∧
 (@Nat.le (@HMul.hMul _ _ _ _ (@cutN (@List.length SessionD (@TabI.l x)) (@Option.some Int (@Go.IntKind.wrap Go.IntKind.i64 (@HAdd.hAdd Int Int Int _ (@TabI.n x) (1 : Int)))) (@Option.some Int (Nat.cast (@List.length SessionD (@TabI.l x)) : Int))) (112 : Nat)) room47)) →
 (br (@Bool.and (@Bool.and (@Decidable.decide (@LE.le Nat _ (@HAdd.hAdd _ _ _ _ (@addN (0 : Nat) (@Option.some Int (@Go.IntKind.wrap Go.IntKind.i64 (@HAdd.hAdd Int Int Int _ (@TabI.n x) (1 : Int))))) (@cutN (@List.length SessionD (@TabI.l x)) (@Option.some Int (@Go.IntKind.wrap Go.IntKind.i64 (@HAdd.hAdd Int Int Int _ (@TabI.n x) (1 : Int)))) (@Option.some Int (Nat.cast (@List.length SessionD (@TabI.l x)) : Int)))) (@List.length SessionD (@TabI.l x))) _) (@Decidable.decide (@LE.le Nat _ (@HAdd.hAdd _ _ _ _ (@addN (0 : Nat) (@Option.none Int)) (@cutN (@List.length SessionD (@TabI.l x)) (@Option.none Int) (@Option.some Int (@TabI.n x)))) (@List.length SessionD (@TabI.l x))) _)) (@Decidable.decide (@LE.le Nat _ (@HMul.hMul _ _ _ _ (@HAdd.hAdd _ _ _ _ (@cutN (@List.length SessionD (@TabI.l x)) (@Option.none Int) (@Option.some Int (@TabI.n x))) (@List.length SessionD (@List.take SessionD (@cutN (@List.length SessionD (@TabI.l x)) (@Option.some Int (@Go.IntKind.wrap Go.IntKind.i64 (@HAdd.hAdd Int Int Int _ (@TabI.n x) (1 : Int)))) (@Option.some Int (Nat.cast (@List.length SessionD (@TabI.l x)) : Int))) (@List.drop SessionD (@addN (0 : Nat) (@Option.some Int (@Go.IntKind.wrap Go.IntKind.i64 (@HAdd.hAdd Int Int Int _ (@TabI.n x) (1 : Int))))) (@TabI.l x))))) (112 : Nat)) room47) _))
 (∃ x1 : Unit,
 ((@Eq Int (@SessionD.id (@List.getD SessionD (@TabI.l x) (@HAdd.hAdd _ _ _ _ (0 : Nat) (@Int.toNat (@TabI.n x))) (@SessionD.mk (0 : Int) (0 : Int) (@List.nil UInt8) VerdictD.dflt))) (@SessionD.id (@atL (@TabI.l x) (@TabI.n x)))) ∧
 ((@Eq Int (@SessionD.seq (@List.getD SessionD (@TabI.l x) (@HAdd.hAdd _ _ _ _ (0 : Nat) (@Int.toNat (@TabI.n x))) (@SessionD.mk (0 : Int) (0 : Int) (@List.nil UInt8) VerdictD.dflt))) (@SessionD.seq (@atL (@TabI.l x) (@TabI.n x)))) ∧
 ((@Eq Bs (@SessionD.name (@List.getD SessionD (@TabI.l x) (@HAdd.hAdd _ _ _ _ (0 : Nat) (@Int.toNat (@TabI.n x))) (@SessionD.mk (0 : Int) (0 : Int) (@List.nil UInt8) VerdictD.dflt))) (@SessionD.name (@atL (@TabI.l x) (@TabI.n x)))) ∧
 ((@Eq Int (@VerdictD.code (@SessionD.last (@List.getD SessionD (@TabI.l x) (@HAdd.hAdd _ _ _ _ (0 : Nat) (@Int.toNat (@TabI.n x))) (@SessionD.mk (0 : Int) (0 : Int) (@List.nil UInt8) VerdictD.dflt)))) (@VerdictD.code (@SessionD.last (@atL (@TabI.l x) (@TabI.n x))))) ∧
 ((@Eq Int (@VerdictD.session (@SessionD.last (@List.getD SessionD (@TabI.l x) (@HAdd.hAdd _ _ _ _ (0 : Nat) (@Int.toNat (@TabI.n x))) (@SessionD.mk (0 : Int) (0 : Int) (@List.nil UInt8) VerdictD.dflt)))) (@VerdictD.session (@SessionD.last (@atL (@TabI.l x) (@TabI.n x))))) ∧
 ((@Eq Int (@VerdictD.rev (@SessionD.last (@List.getD SessionD (@TabI.l x) (@HAdd.hAdd _ _ _ _ (0 : Nat) (@Int.toNat (@TabI.n x))) (@SessionD.mk (0 : Int) (0 : Int) (@List.nil UInt8) VerdictD.dflt)))) (@VerdictD.rev (@SessionD.last (@atL (@TabI.l x) (@TabI.n x))))) ∧
 ((@Eq Bs (@VerdictD.path (@SessionD.last (@List.getD SessionD (@TabI.l x) (@HAdd.hAdd _ _ _ _ (0 : Nat) (@Int.toNat (@TabI.n x))) (@SessionD.mk (0 : Int) (0 : Int) (@List.nil UInt8) VerdictD.dflt)))) (@VerdictD.path (@SessionD.last (@atL (@TabI.l x) (@TabI.n x))))) ∧
 ((@Eq Int (@VerdictD.digest (@SessionD.last (@List.getD SessionD (@TabI.l x) (@HAdd.hAdd _ _ _ _ (0 : Nat) (@Int.toNat (@TabI.n x))) (@SessionD.mk (0 : Int) (0 : Int) (@List.nil UInt8) VerdictD.dflt)))) (@VerdictD.digest (@SessionD.last (@atL (@TabI.l x) (@TabI.n x))))) ∧
 ((@Eq (@List CommitD) (@VerdictD.commits (@SessionD.last (@List.getD SessionD (@TabI.l x) (@HAdd.hAdd _ _ _ _ (0 : Nat) (@Int.toNat (@TabI.n x))) (@SessionD.mk (0 : Int) (0 : Int) (@List.nil UInt8) VerdictD.dflt)))) (@VerdictD.commits (@SessionD.last (@atL (@TabI.l x) (@TabI.n x))))) ∧
 ((@Eq Int (@VerdictD.member (@SessionD.last (@List.getD SessionD (@TabI.l x) (@HAdd.hAdd _ _ _ _ (0 : Nat) (@Int.toNat (@TabI.n x))) (@SessionD.mk (0 : Int) (0 : Int) (@List.nil UInt8) VerdictD.dflt)))) (@VerdictD.member (@SessionD.last (@atL (@TabI.l x) (@TabI.n x))))) ∧
 ((@Eq Int (@TabI.size x) (@TabI.size x)) ∧
 ((@Eq Nat (0 : Nat) (0 : Nat)) ∧
 ((@Eq Nat (@HAdd.hAdd _ _ _ _ (@cutN (@List.length SessionD (@TabI.l x)) (@Option.none Int) (@Option.some Int (@TabI.n x))) (@List.length SessionD (@List.take SessionD (@cutN (@List.length SessionD (@TabI.l x)) (@Option.some Int (@Go.IntKind.wrap Go.IntKind.i64 (@HAdd.hAdd Int Int Int _ (@TabI.n x) (1 : Int)))) (@Option.some Int (Nat.cast (@List.length SessionD (@TabI.l x)) : Int))) (@List.drop SessionD (@addN (0 : Nat) (@Option.some Int (@Go.IntKind.wrap Go.IntKind.i64 (@HAdd.hAdd Int Int Int _ (@TabI.n x) (1 : Int))))) (@TabI.l x))))) (@List.length SessionD (@outL (@TabI.l x) (@TabI.n x)))) ∧
 ((@Eq (@List SessionD) (@HAppend.hAppend (@List SessionD) (@List SessionD) (@List SessionD) _ (@List.take SessionD (@cutN (@List.length SessionD (@TabI.l x)) (@Option.none Int) (@Option.some Int (@TabI.n x))) (@List.drop SessionD (@addN (0 : Nat) (@Option.none Int)) (@TabI.l x))) (@List.take SessionD (@cutN (@List.length SessionD (@TabI.l x)) (@Option.some Int (@Go.IntKind.wrap Go.IntKind.i64 (@HAdd.hAdd Int Int Int _ (@TabI.n x) (1 : Int)))) (@Option.some Int (Nat.cast (@List.length SessionD (@TabI.l x)) : Int))) (@List.drop SessionD (@addN (0 : Nat) (@Option.some Int (@Go.IntKind.wrap Go.IntKind.i64 (@HAdd.hAdd Int Int Int _ (@TabI.n x) (1 : Int))))) (@TabI.l x)))) (@outL (@TabI.l x) (@TabI.n x))) ∧
 True)))))))))))))))
 (Bad "check" "session.go:61")))
 (Bad "check" "session.go:61"))))
 (Bad "check" "session.go:61"))
 (Bad "check" "session.go:60"))
 (Bad "check" "session.go:60"))) := by kernel_rfl

theorem use_vc (x : useT.γ) : evCall useE (ev useE 1000) 33 (useT.args x) ⟨useT.blks x, useT.n0, []⟩ (fun _ _ => False) (useT.ends x) = (
(∃ x1 : TabI,
 ((@Eq Int (@TabI.n x) (@TabI.n x1)) ∧
 ((@Eq Int (@TabI.size x) (@TabI.size x1)) ∧
 ((@Eq Nat (0 : Nat) (0 : Nat)) ∧
 ((@Eq Nat (@List.length SessionD (@TabI.l x)) (@List.length SessionD (@TabI.l x1))) ∧
 ((@Eq (@List SessionD) (@TabI.l x) (@TabI.l x1)) ∧
 ((@Eq Bool (@Decidable.decide ((@LE.le Int _ (0 : Int) (@TabI.n x1)) ∧
 (@LT.lt Int _ (@TabI.n x1) (Nat.cast (@List.length SessionD (@TabI.l x1)) : Int))) _) Bool.true) ∧
 (∀ x2 : Unit,
 (True →
 (((@Nat.le (@HMul.hMul _ _ _ _ (@List.length SessionD (@outL (@TabI.l x1) (@TabI.n x1))) (112 : Nat)) room47) ∧
 (@Nat.le (@HMul.hMul _ _ _ _ (1 : Nat) (112 : Nat)) room47)) →
 (br (@Bool.and (@Bool.and (@Decidable.decide (@LE.le Nat _ (@HAdd.hAdd _ _ _ _ (0 : Nat) (1 : Nat)) (@List.length SessionD (@List.cons SessionD (@SessionD.mk (@SessionD.id (@atL (@TabI.l x1) (@TabI.n x1))) (@SessionD.seq (@atL (@TabI.l x1) (@TabI.n x1))) (@SessionD.name (@atL (@TabI.l x1) (@TabI.n x1))) (@VerdictD.mk (@VerdictD.code (@SessionD.last (@atL (@TabI.l x1) (@TabI.n x1)))) (@VerdictD.session (@SessionD.last (@atL (@TabI.l x1) (@TabI.n x1)))) (@VerdictD.rev (@SessionD.last (@atL (@TabI.l x1) (@TabI.n x1)))) (@VerdictD.path (@SessionD.last (@atL (@TabI.l x1) (@TabI.n x1)))) (@VerdictD.digest (@SessionD.last (@atL (@TabI.l x1) (@TabI.n x1)))) (@VerdictD.commits (@SessionD.last (@atL (@TabI.l x1) (@TabI.n x1)))) (@VerdictD.member (@SessionD.last (@atL (@TabI.l x1) (@TabI.n x1)))))) (@List.nil SessionD)))) _) (@Decidable.decide (@LE.le Nat _ (@HAdd.hAdd _ _ _ _ (0 : Nat) (@List.length SessionD (@outL (@TabI.l x1) (@TabI.n x1)))) (@List.length SessionD (@outL (@TabI.l x1) (@TabI.n x1)))) _)) (@Decidable.decide (@LE.le Nat _ (@HMul.hMul _ _ _ _ (@HAdd.hAdd _ _ _ _ (@List.length SessionD (@outL (@TabI.l x1) (@TabI.n x1))) (@List.length SessionD (@List.take SessionD (1 : Nat) (@List.drop SessionD (0 : Nat) (@List.cons SessionD (@SessionD.mk (@SessionD.id (@atL (@TabI.l x1) (@TabI.n x1))) (@SessionD.seq (@atL (@TabI.l x1) (@TabI.n x1))) (@SessionD.name (@atL (@TabI.l x1) (@TabI.n x1))) (@VerdictD.mk (@VerdictD.code (@SessionD.last (@atL (@TabI.l x1) (@TabI.n x1)))) (@VerdictD.session (@SessionD.last (@atL (@TabI.l x1) (@TabI.n x1)))) (@VerdictD.rev (@SessionD.last (@atL (@TabI.l x1) (@TabI.n x1)))) (@VerdictD.path (@SessionD.last (@atL (@TabI.l x1) (@TabI.n x1)))) (@VerdictD.digest (@SessionD.last (@atL (@TabI.l x1) (@TabI.n x1)))) (@VerdictD.commits (@SessionD.last (@atL (@TabI.l x1) (@TabI.n x1)))) (@VerdictD.member (@SessionD.last (@atL (@TabI.l x1) (@TabI.n x1)))))) (@List.nil SessionD)))))) (112 : Nat)) room47) _))
 (∃ x3 : Unit,
 ((@Eq Int (@SessionD.id (@atL (@TabI.l x1) (@TabI.n x1))) (@SessionD.id (@atL (@TabI.l x) (@TabI.n x)))) ∧
 ((@Eq Int (@SessionD.seq (@atL (@TabI.l x1) (@TabI.n x1))) (@SessionD.seq (@atL (@TabI.l x) (@TabI.n x)))) ∧
 ((@Eq Bs (@SessionD.name (@atL (@TabI.l x1) (@TabI.n x1))) (@SessionD.name (@atL (@TabI.l x) (@TabI.n x)))) ∧
 ((@Eq Int (@VerdictD.code (@SessionD.last (@atL (@TabI.l x1) (@TabI.n x1)))) (@VerdictD.code (@SessionD.last (@atL (@TabI.l x) (@TabI.n x))))) ∧
 ((@Eq Int (@VerdictD.session (@SessionD.last (@atL (@TabI.l x1) (@TabI.n x1)))) (@VerdictD.session (@SessionD.last (@atL (@TabI.l x) (@TabI.n x))))) ∧
 ((@Eq Int (@VerdictD.rev (@SessionD.last (@atL (@TabI.l x1) (@TabI.n x1)))) (@VerdictD.rev (@SessionD.last (@atL (@TabI.l x) (@TabI.n x))))) ∧
 ((@Eq Bs (@VerdictD.path (@SessionD.last (@atL (@TabI.l x1) (@TabI.n x1)))) (@VerdictD.path (@SessionD.last (@atL (@TabI.l x) (@TabI.n x))))) ∧
 ((@Eq Int (@VerdictD.digest (@SessionD.last (@atL (@TabI.l x1) (@TabI.n x1)))) (@VerdictD.digest (@SessionD.last (@atL (@TabI.l x) (@TabI.n x))))) ∧
 ((@Eq (@List CommitD) (@VerdictD.commits (@SessionD.last (@atL (@TabI.l x1) (@TabI.n x1)))) (@VerdictD.commits (@SessionD.last (@atL (@TabI.l x) (@TabI.n x))))) ∧
 ((@Eq Int (@VerdictD.member (@SessionD.last (@atL (@TabI.l x1) (@TabI.n x1)))) (@VerdictD.member (@SessionD.last (@atL (@TabI.l x) (@TabI.n x))))) ∧
 ((@Eq Int (@TabI.size x1) (@TabI.size x)) ∧
 ((@Eq Nat (0 : Nat) (0 : Nat)) ∧
 ((@Eq Nat (@HAdd.hAdd _ _ _ _ (@List.length SessionD (@outL (@TabI.l x1) (@TabI.n x1))) (@List.length SessionD (@List.take SessionD (1 : Nat) (@List.drop SessionD (0 : Nat) (@List.cons SessionD (@SessionD.mk (@SessionD.id (@atL (@TabI.l x1) (@TabI.n x1))) (@SessionD.seq (@atL (@TabI.l x1) (@TabI.n x1))) (@SessionD.name (@atL (@TabI.l x1) (@TabI.n x1))) (@VerdictD.mk (@VerdictD.code (@SessionD.last (@atL (@TabI.l x1) (@TabI.n x1)))) (@VerdictD.session (@SessionD.last (@atL (@TabI.l x1) (@TabI.n x1)))) (@VerdictD.rev (@SessionD.last (@atL (@TabI.l x1) (@TabI.n x1)))) (@VerdictD.path (@SessionD.last (@atL (@TabI.l x1) (@TabI.n x1)))) (@VerdictD.digest (@SessionD.last (@atL (@TabI.l x1) (@TabI.n x1)))) (@VerdictD.commits (@SessionD.last (@atL (@TabI.l x1) (@TabI.n x1)))) (@VerdictD.member (@SessionD.last (@atL (@TabI.l x1) (@TabI.n x1)))))) (@List.nil SessionD)))))) (@List.length SessionD (@usedL (@TabI.l x) (@TabI.n x)))) ∧
 ((@Eq (@List SessionD) (@HAppend.hAppend (@List SessionD) (@List SessionD) (@List SessionD) _ (@List.take SessionD (@List.length SessionD (@outL (@TabI.l x1) (@TabI.n x1))) (@List.drop SessionD (0 : Nat) (@outL (@TabI.l x1) (@TabI.n x1)))) (@List.take SessionD (1 : Nat) (@List.drop SessionD (0 : Nat) (@List.cons SessionD (@SessionD.mk (@SessionD.id (@atL (@TabI.l x1) (@TabI.n x1))) (@SessionD.seq (@atL (@TabI.l x1) (@TabI.n x1))) (@SessionD.name (@atL (@TabI.l x1) (@TabI.n x1))) (@VerdictD.mk (@VerdictD.code (@SessionD.last (@atL (@TabI.l x1) (@TabI.n x1)))) (@VerdictD.session (@SessionD.last (@atL (@TabI.l x1) (@TabI.n x1)))) (@VerdictD.rev (@SessionD.last (@atL (@TabI.l x1) (@TabI.n x1)))) (@VerdictD.path (@SessionD.last (@atL (@TabI.l x1) (@TabI.n x1)))) (@VerdictD.digest (@SessionD.last (@atL (@TabI.l x1) (@TabI.n x1)))) (@VerdictD.commits (@SessionD.last (@atL (@TabI.l x1) (@TabI.n x1)))) (@VerdictD.member (@SessionD.last (@atL (@TabI.l x1) (@TabI.n x1)))))) (@List.nil SessionD))))) (@usedL (@TabI.l x) (@TabI.n x))) ∧
 True)))))))))))))))
 (Bad "check" "session.go:68"))))))))))))) := by kernel_rfl

theorem open_vc (x : openT.γ) : evCall opE (ev opE 1000) 12 (openT.args x) ⟨openT.blks x, openT.n0, []⟩ (fun _ _ => False) (openT.ends x) = (
(br (@Bool.not (@Decidable.decide (@GT.gt Int _ (@OpenA.size x) (0 : Int)) _))
 (∃ x1 : Unit,
 ((@Eq Int (0 : Int) (@Prod.fst Int (@List SessionD) (@openL x))) ∧
 ((@Eq Int (@OpenA.size x) (@OpenA.size x)) ∧
 ((@Eq Nat (0 : Nat) (0 : Nat)) ∧
 ((@Eq Nat (@List.length SessionD (@OpenA.l x)) (@List.length SessionD (@Prod.snd Int (@List SessionD) (@openL x)))) ∧
 ((@Eq (@List SessionD) (@OpenA.l x) (@Prod.snd Int (@List SessionD) (@openL x))) ∧
 True))))))
 (∃ x2 : TabN,
 ((@Eq Int (@OpenA.size x) (@TabN.size x2)) ∧
 ((@Eq Nat (0 : Nat) (0 : Nat)) ∧
 ((@Eq Nat (@List.length SessionD (@OpenA.l x)) (@List.length SessionD (@TabN.l x2))) ∧
 ((@Eq (@List SessionD) (@OpenA.l x) (@TabN.l x2)) ∧
 ((@Eq Bs (@OpenA.name x) (@TabN.name x2)) ∧
 ((@Eq Bool (@Decidable.decide (@LT.lt Int _ (0 : Int) (@TabN.size x2)) _) Bool.true) ∧
 (∀ x3 : Unit,
 (True →
 (br (@Decidable.decide (@GE.ge Int _ (@idxF (@nameIs (@TabN.name x2)) (@TabN.l x2)) (0 : Int)) _)
 (∃ x4 : TabI,
 ((@Eq Int (@idxF (@nameIs (@TabN.name x2)) (@TabN.l x2)) (@TabI.n x4)) ∧
 ((@Eq Int (@TabN.size x2) (@TabI.size x4)) ∧
 ((@Eq Nat (0 : Nat) (0 : Nat)) ∧
 ((@Eq Nat (@List.length SessionD (@TabN.l x2)) (@List.length SessionD (@TabI.l x4))) ∧
 ((@Eq (@List SessionD) (@TabN.l x2) (@TabI.l x4)) ∧
 (((@Eq Bool (@Decidable.decide ((@LE.le Int _ (0 : Int) (@TabI.n x4)) ∧
 (@LT.lt Int _ (@TabI.n x4) (Nat.cast (@List.length SessionD (@TabI.l x4)) : Int))) _) Bool.true) ∧
 (@Eq Bool (@Decidable.decide (@LE.le Nat _ (@List.length SessionD (@TabI.l x4)) (1024 : Nat)) _) Bool.true)) ∧
 (∀ x5 : Unit,
 (True →
 (∃ x6 : Unit,
 ((@Eq Int (@SessionD.id (@atL (@TabI.l x4) (@TabI.n x4))) (@Prod.fst Int (@List SessionD) (@openL x))) ∧
 ((@Eq Int (@TabI.size x4) (@OpenA.size x)) ∧
 ((@Eq Nat (0 : Nat) (0 : Nat)) ∧
 ((@Eq Nat (@List.length SessionD (@usedL (@TabI.l x4) (@TabI.n x4))) (@List.length SessionD (@Prod.snd Int (@List SessionD) (@openL x)))) ∧
 ((@Eq (@List SessionD) (@usedL (@TabI.l x4) (@TabI.n x4)) (@Prod.snd Int (@List SessionD) (@openL x))) ∧
 True)))))))))))))))
 (∃ x7 : TabI,
 ((@Eq Int (@OpenA.id x) (@TabI.n x7)) ∧
 ((@Eq Int (@TabN.size x2) (@TabI.size x7)) ∧
 ((@Eq Nat (0 : Nat) (0 : Nat)) ∧
 ((@Eq Nat (@List.length SessionD (@TabN.l x2)) (@List.length SessionD (@TabI.l x7))) ∧
 ((@Eq (@List SessionD) (@TabN.l x2) (@TabI.l x7)) ∧
 ((@Eq Bool (@Decidable.decide (@LT.lt Int _ (0 : Int) (@TabI.size x7)) _) Bool.true) ∧
 (∀ x8 : Unit,
 (True →
 (br (@Decidable.decide (@GE.ge Int _ (@idxF (@idIs (@TabI.n x7)) (@TabI.l x7)) (0 : Int)) _)
 (∃ x9 : TabI,
 ((@Eq Int (@idxF (@idIs (@TabI.n x7)) (@TabI.l x7)) (@TabI.n x9)) ∧
 ((@Eq Int (@TabI.size x7) (@TabI.size x9)) ∧
 ((@Eq Nat (0 : Nat) (0 : Nat)) ∧
 ((@Eq Nat (@List.length SessionD (@TabI.l x7)) (@List.length SessionD (@TabI.l x9))) ∧
 ((@Eq (@List SessionD) (@TabI.l x7) (@TabI.l x9)) ∧
 ((@Eq Bool (@Decidable.decide ((@LE.le Int _ (0 : Int) (@TabI.n x9)) ∧
 (@LT.lt Int _ (@TabI.n x9) (Nat.cast (@List.length SessionD (@TabI.l x9)) : Int))) _) Bool.true) ∧
 (∀ x10 : Unit,
 (True →
 ((@LE.le Nat _ (@HMul.hMul _ _ _ _ (@List.length SessionD (@outL (@TabI.l x9) (@TabI.n x9))) (112 : Nat)) room47) →
 (br (@BEq.beq Int _ (Nat.cast (@List.length SessionD (@outL (@TabI.l x9) (@TabI.n x9))) : Int) (@TabI.size x9))
 (∃ x11 : TabI,
 ((@Eq Int (0 : Int) (@TabI.n x11)) ∧
 ((@Eq Int (@TabI.size x9) (@TabI.size x11)) ∧
 ((@Eq Nat (0 : Nat) (0 : Nat)) ∧
 ((@Eq Nat (@List.length SessionD (@outL (@TabI.l x9) (@TabI.n x9))) (@List.length SessionD (@TabI.l x11))) ∧
 ((@Eq (@List SessionD) (@outL (@TabI.l x9) (@TabI.n x9)) (@TabI.l x11)) ∧
 ((@Eq Bool (@Decidable.decide ((@LE.le Int _ (0 : Int) (@TabI.n x11)) ∧
 (@LT.lt Int _ (@TabI.n x11) (Nat.cast (@List.length SessionD (@TabI.l x11)) : Int))) _) Bool.true) ∧
 (∀ x12 : Unit,
 (True →
 (((@Nat.le (@HMul.hMul _ _ _ _ (@List.length SessionD (@outL (@TabI.l x11) (@TabI.n x11))) (112 : Nat)) room47) ∧
 (@Nat.le (@HMul.hMul _ _ _ _ (1 : Nat) (112 : Nat)) room47)) →
 (br (@Bool.and (@Bool.and (@Decidable.decide (@LE.le Nat _ (@HAdd.hAdd _ _ _ _ (0 : Nat) (1 : Nat)) (@List.length SessionD (@List.cons SessionD (@SessionD.mk (@OpenA.id x) (0 : Int) (@TabN.name x2) (@VerdictD.mk (0 : Int) (0 : Int) (0 : Int) (@Array.toList UInt8 (@ByteArray.data (@ByteArray.mk (@List.toArray UInt8 (@List.nil UInt8))))) (0 : Int) (@List.nil CommitD) (0 : Int))) (@List.nil SessionD)))) _) (@Decidable.decide (@LE.le Nat _ (@HAdd.hAdd _ _ _ _ (0 : Nat) (@List.length SessionD (@outL (@TabI.l x11) (@TabI.n x11)))) (@List.length SessionD (@outL (@TabI.l x11) (@TabI.n x11)))) _)) (@Decidable.decide (@LE.le Nat _ (@HMul.hMul _ _ _ _ (@HAdd.hAdd _ _ _ _ (@List.length SessionD (@outL (@TabI.l x11) (@TabI.n x11))) (@List.length SessionD (@List.take SessionD (1 : Nat) (@List.drop SessionD (0 : Nat) (@List.cons SessionD (@SessionD.mk (@OpenA.id x) (0 : Int) (@TabN.name x2) (@VerdictD.mk (0 : Int) (0 : Int) (0 : Int) (@Array.toList UInt8 (@ByteArray.data (@ByteArray.mk (@List.toArray UInt8 (@List.nil UInt8))))) (0 : Int) (@List.nil CommitD) (0 : Int))) (@List.nil SessionD)))))) (112 : Nat)) room47) _))
 (∃ x13 : Unit,
 ((@Eq Int (@OpenA.id x) (@Prod.fst Int (@List SessionD) (@openL x))) ∧
 ((@Eq Int (@TabI.size x11) (@OpenA.size x)) ∧
 ((@Eq Nat (0 : Nat) (0 : Nat)) ∧
 ((@Eq Nat (@HAdd.hAdd _ _ _ _ (@List.length SessionD (@outL (@TabI.l x11) (@TabI.n x11))) (@List.length SessionD (@List.take SessionD (1 : Nat) (@List.drop SessionD (0 : Nat) (@List.cons SessionD (@SessionD.mk (@OpenA.id x) (0 : Int) (@TabN.name x2) (@VerdictD.mk (0 : Int) (0 : Int) (0 : Int) (@Array.toList UInt8 (@ByteArray.data (@ByteArray.mk (@List.toArray UInt8 (@List.nil UInt8))))) (0 : Int) (@List.nil CommitD) (0 : Int))) (@List.nil SessionD)))))) (@List.length SessionD (@Prod.snd Int (@List SessionD) (@openL x)))) ∧
 ((@Eq (@List SessionD) (@HAppend.hAppend (@List SessionD) (@List SessionD) (@List SessionD) _ (@List.take SessionD (@List.length SessionD (@outL (@TabI.l x11) (@TabI.n x11))) (@List.drop SessionD (0 : Nat) (@outL (@TabI.l x11) (@TabI.n x11)))) (@List.take SessionD (1 : Nat) (@List.drop SessionD (0 : Nat) (@List.cons SessionD (@SessionD.mk (@OpenA.id x) (0 : Int) (@TabN.name x2) (@VerdictD.mk (0 : Int) (0 : Int) (0 : Int) (@Array.toList UInt8 (@ByteArray.data (@ByteArray.mk (@List.toArray UInt8 (@List.nil UInt8))))) (0 : Int) (@List.nil CommitD) (0 : Int))) (@List.nil SessionD))))) (@Prod.snd Int (@List SessionD) (@openL x))) ∧
 True))))))
 (Bad "check" "session.go:86"))))))))))))
 (((@Nat.le (@HMul.hMul _ _ _ _ (@List.length SessionD (@outL (@TabI.l x9) (@TabI.n x9))) (112 : Nat)) room47) ∧
 (@Nat.le (@HMul.hMul _ _ _ _ (1 : Nat) (112 : Nat)) room47)) →
 (br (@Bool.and (@Bool.and (@Decidable.decide (@LE.le Nat _ (@HAdd.hAdd _ _ _ _ (0 : Nat) (1 : Nat)) (@List.length SessionD (@List.cons SessionD (@SessionD.mk (@OpenA.id x) (0 : Int) (@TabN.name x2) (@VerdictD.mk (0 : Int) (0 : Int) (0 : Int) (@Array.toList UInt8 (@ByteArray.data (@ByteArray.mk (@List.toArray UInt8 (@List.nil UInt8))))) (0 : Int) (@List.nil CommitD) (0 : Int))) (@List.nil SessionD)))) _) (@Decidable.decide (@LE.le Nat _ (@HAdd.hAdd _ _ _ _ (0 : Nat) (@List.length SessionD (@outL (@TabI.l x9) (@TabI.n x9)))) (@List.length SessionD (@outL (@TabI.l x9) (@TabI.n x9)))) _)) (@Decidable.decide (@LE.le Nat _ (@HMul.hMul _ _ _ _ (@HAdd.hAdd _ _ _ _ (@List.length SessionD (@outL (@TabI.l x9) (@TabI.n x9))) (@List.length SessionD (@List.take SessionD (1 : Nat) (@List.drop SessionD (0 : Nat) (@List.cons SessionD (@SessionD.mk (@OpenA.id x) (0 : Int) (@TabN.name x2) (@VerdictD.mk (0 : Int) (0 : Int) (0 : Int) (@Array.toList UInt8 (@ByteArray.data (@ByteArray.mk (@List.toArray UInt8 (@List.nil UInt8))))) (0 : Int) (@List.nil CommitD) (0 : Int))) (@List.nil SessionD)))))) (112 : Nat)) room47) _))
 (∃ x14 : Unit,
 ((@Eq Int (@OpenA.id x) (@Prod.fst Int (@List SessionD) (@openL x))) ∧
 ((@Eq Int (@TabI.size x9) (@OpenA.size x)) ∧
 ((@Eq Nat (0 : Nat) (0 : Nat)) ∧
 ((@Eq Nat (@HAdd.hAdd _ _ _ _ (@List.length SessionD (@outL (@TabI.l x9) (@TabI.n x9))) (@List.length SessionD (@List.take SessionD (1 : Nat) (@List.drop SessionD (0 : Nat) (@List.cons SessionD (@SessionD.mk (@OpenA.id x) (0 : Int) (@TabN.name x2) (@VerdictD.mk (0 : Int) (0 : Int) (0 : Int) (@Array.toList UInt8 (@ByteArray.data (@ByteArray.mk (@List.toArray UInt8 (@List.nil UInt8))))) (0 : Int) (@List.nil CommitD) (0 : Int))) (@List.nil SessionD)))))) (@List.length SessionD (@Prod.snd Int (@List SessionD) (@openL x)))) ∧
 ((@Eq (@List SessionD) (@HAppend.hAppend (@List SessionD) (@List SessionD) (@List SessionD) _ (@List.take SessionD (@List.length SessionD (@outL (@TabI.l x9) (@TabI.n x9))) (@List.drop SessionD (0 : Nat) (@outL (@TabI.l x9) (@TabI.n x9)))) (@List.take SessionD (1 : Nat) (@List.drop SessionD (0 : Nat) (@List.cons SessionD (@SessionD.mk (@OpenA.id x) (0 : Int) (@TabN.name x2) (@VerdictD.mk (0 : Int) (0 : Int) (0 : Int) (@Array.toList UInt8 (@ByteArray.data (@ByteArray.mk (@List.toArray UInt8 (@List.nil UInt8))))) (0 : Int) (@List.nil CommitD) (0 : Int))) (@List.nil SessionD))))) (@Prod.snd Int (@List SessionD) (@openL x))) ∧
 True))))))
 (Bad "check" "session.go:86"))))))))))))))
 ((@LE.le Nat _ (@HMul.hMul _ _ _ _ (@List.length SessionD (@TabI.l x7)) (112 : Nat)) room47) →
 (br (@BEq.beq Int _ (Nat.cast (@List.length SessionD (@TabI.l x7)) : Int) (@TabI.size x7))
 (∃ x15 : TabI,
 ((@Eq Int (0 : Int) (@TabI.n x15)) ∧
 ((@Eq Int (@TabI.size x7) (@TabI.size x15)) ∧
 ((@Eq Nat (0 : Nat) (0 : Nat)) ∧
 ((@Eq Nat (@List.length SessionD (@TabI.l x7)) (@List.length SessionD (@TabI.l x15))) ∧
 ((@Eq (@List SessionD) (@TabI.l x7) (@TabI.l x15)) ∧
 ((@Eq Bool (@Decidable.decide ((@LE.le Int _ (0 : Int) (@TabI.n x15)) ∧
 (@LT.lt Int _ (@TabI.n x15) (Nat.cast (@List.length SessionD (@TabI.l x15)) : Int))) _) Bool.true) ∧
 (∀ x16 : Unit,
 (True →
 (((@Nat.le (@HMul.hMul _ _ _ _ (@List.length SessionD (@outL (@TabI.l x15) (@TabI.n x15))) (112 : Nat)) room47) ∧
 (@Nat.le (@HMul.hMul _ _ _ _ (1 : Nat) (112 : Nat)) room47)) →
 (br (@Bool.and (@Bool.and (@Decidable.decide (@LE.le Nat _ (@HAdd.hAdd _ _ _ _ (0 : Nat) (1 : Nat)) (@List.length SessionD (@List.cons SessionD (@SessionD.mk (@OpenA.id x) (0 : Int) (@TabN.name x2) (@VerdictD.mk (0 : Int) (0 : Int) (0 : Int) (@Array.toList UInt8 (@ByteArray.data (@ByteArray.mk (@List.toArray UInt8 (@List.nil UInt8))))) (0 : Int) (@List.nil CommitD) (0 : Int))) (@List.nil SessionD)))) _) (@Decidable.decide (@LE.le Nat _ (@HAdd.hAdd _ _ _ _ (0 : Nat) (@List.length SessionD (@outL (@TabI.l x15) (@TabI.n x15)))) (@List.length SessionD (@outL (@TabI.l x15) (@TabI.n x15)))) _)) (@Decidable.decide (@LE.le Nat _ (@HMul.hMul _ _ _ _ (@HAdd.hAdd _ _ _ _ (@List.length SessionD (@outL (@TabI.l x15) (@TabI.n x15))) (@List.length SessionD (@List.take SessionD (1 : Nat) (@List.drop SessionD (0 : Nat) (@List.cons SessionD (@SessionD.mk (@OpenA.id x) (0 : Int) (@TabN.name x2) (@VerdictD.mk (0 : Int) (0 : Int) (0 : Int) (@Array.toList UInt8 (@ByteArray.data (@ByteArray.mk (@List.toArray UInt8 (@List.nil UInt8))))) (0 : Int) (@List.nil CommitD) (0 : Int))) (@List.nil SessionD)))))) (112 : Nat)) room47) _))
 (∃ x17 : Unit,
 ((@Eq Int (@OpenA.id x) (@Prod.fst Int (@List SessionD) (@openL x))) ∧
 ((@Eq Int (@TabI.size x15) (@OpenA.size x)) ∧
 ((@Eq Nat (0 : Nat) (0 : Nat)) ∧
 ((@Eq Nat (@HAdd.hAdd _ _ _ _ (@List.length SessionD (@outL (@TabI.l x15) (@TabI.n x15))) (@List.length SessionD (@List.take SessionD (1 : Nat) (@List.drop SessionD (0 : Nat) (@List.cons SessionD (@SessionD.mk (@OpenA.id x) (0 : Int) (@TabN.name x2) (@VerdictD.mk (0 : Int) (0 : Int) (0 : Int) (@Array.toList UInt8 (@ByteArray.data (@ByteArray.mk (@List.toArray UInt8 (@List.nil UInt8))))) (0 : Int) (@List.nil CommitD) (0 : Int))) (@List.nil SessionD)))))) (@List.length SessionD (@Prod.snd Int (@List SessionD) (@openL x)))) ∧
 ((@Eq (@List SessionD) (@HAppend.hAppend (@List SessionD) (@List SessionD) (@List SessionD) _ (@List.take SessionD (@List.length SessionD (@outL (@TabI.l x15) (@TabI.n x15))) (@List.drop SessionD (0 : Nat) (@outL (@TabI.l x15) (@TabI.n x15)))) (@List.take SessionD (1 : Nat) (@List.drop SessionD (0 : Nat) (@List.cons SessionD (@SessionD.mk (@OpenA.id x) (0 : Int) (@TabN.name x2) (@VerdictD.mk (0 : Int) (0 : Int) (0 : Int) (@Array.toList UInt8 (@ByteArray.data (@ByteArray.mk (@List.toArray UInt8 (@List.nil UInt8))))) (0 : Int) (@List.nil CommitD) (0 : Int))) (@List.nil SessionD))))) (@Prod.snd Int (@List SessionD) (@openL x))) ∧
 True))))))
 (Bad "check" "session.go:86"))))))))))))
 (((@Nat.le (@HMul.hMul _ _ _ _ (@List.length SessionD (@TabI.l x7)) (112 : Nat)) room47) ∧
 (@Nat.le (@HMul.hMul _ _ _ _ (1 : Nat) (112 : Nat)) room47)) →
 (br (@Bool.and (@Bool.and (@Decidable.decide (@LE.le Nat _ (@HAdd.hAdd _ _ _ _ (0 : Nat) (1 : Nat)) (@List.length SessionD (@List.cons SessionD (@SessionD.mk (@OpenA.id x) (0 : Int) (@TabN.name x2) (@VerdictD.mk (0 : Int) (0 : Int) (0 : Int) (@Array.toList UInt8 (@ByteArray.data (@ByteArray.mk (@List.toArray UInt8 (@List.nil UInt8))))) (0 : Int) (@List.nil CommitD) (0 : Int))) (@List.nil SessionD)))) _) (@Decidable.decide (@LE.le Nat _ (@HAdd.hAdd _ _ _ _ (0 : Nat) (@List.length SessionD (@TabI.l x7))) (@List.length SessionD (@TabI.l x7))) _)) (@Decidable.decide (@LE.le Nat _ (@HMul.hMul _ _ _ _ (@HAdd.hAdd _ _ _ _ (@List.length SessionD (@TabI.l x7)) (@List.length SessionD (@List.take SessionD (1 : Nat) (@List.drop SessionD (0 : Nat) (@List.cons SessionD (@SessionD.mk (@OpenA.id x) (0 : Int) (@TabN.name x2) (@VerdictD.mk (0 : Int) (0 : Int) (0 : Int) (@Array.toList UInt8 (@ByteArray.data (@ByteArray.mk (@List.toArray UInt8 (@List.nil UInt8))))) (0 : Int) (@List.nil CommitD) (0 : Int))) (@List.nil SessionD)))))) (112 : Nat)) room47) _))
 (∃ x18 : Unit,
 ((@Eq Int (@OpenA.id x) (@Prod.fst Int (@List SessionD) (@openL x))) ∧
 ((@Eq Int (@TabI.size x7) (@OpenA.size x)) ∧
 ((@Eq Nat (0 : Nat) (0 : Nat)) ∧
 ((@Eq Nat (@HAdd.hAdd _ _ _ _ (@List.length SessionD (@TabI.l x7)) (@List.length SessionD (@List.take SessionD (1 : Nat) (@List.drop SessionD (0 : Nat) (@List.cons SessionD (@SessionD.mk (@OpenA.id x) (0 : Int) (@TabN.name x2) (@VerdictD.mk (0 : Int) (0 : Int) (0 : Int) (@Array.toList UInt8 (@ByteArray.data (@ByteArray.mk (@List.toArray UInt8 (@List.nil UInt8))))) (0 : Int) (@List.nil CommitD) (0 : Int))) (@List.nil SessionD)))))) (@List.length SessionD (@Prod.snd Int (@List SessionD) (@openL x)))) ∧
 ((@Eq (@List SessionD) (@HAppend.hAppend (@List SessionD) (@List SessionD) (@List SessionD) _ (@List.take SessionD (@List.length SessionD (@TabI.l x7)) (@List.drop SessionD (0 : Nat) (@TabI.l x7))) (@List.take SessionD (1 : Nat) (@List.drop SessionD (0 : Nat) (@List.cons SessionD (@SessionD.mk (@OpenA.id x) (0 : Int) (@TabN.name x2) (@VerdictD.mk (0 : Int) (0 : Int) (0 : Int) (@Array.toList UInt8 (@ByteArray.data (@ByteArray.mk (@List.toArray UInt8 (@List.nil UInt8))))) (0 : Int) (@List.nil CommitD) (0 : Int))) (@List.nil SessionD))))) (@Prod.snd Int (@List SessionD) (@openL x))) ∧
 True))))))
 (Bad "check" "session.go:86"))))))))))))))))))))))))))) := by kernel_rfl

theorem ask_vc (x : askT.γ) : evCall opE (ev opE 1000) 13 (askT.args x) ⟨askT.blks x, askT.n0, []⟩ (fun _ _ => False) (askT.ends x) = (
(br (@Bool.not (@Decidable.decide (@GT.gt Int _ (@AskA.size x) (0 : Int)) _))
 (∃ x1 : Unit,
 ((@Eq Int (0 : Int) (@VerdictD.code (@Prod.fst VerdictD Bool (@Prod.fst (@Prod VerdictD Bool) (@List SessionD) (@askL x))))) ∧
 ((@Eq Int (0 : Int) (@VerdictD.session (@Prod.fst VerdictD Bool (@Prod.fst (@Prod VerdictD Bool) (@List SessionD) (@askL x))))) ∧
 ((@Eq Int (0 : Int) (@VerdictD.rev (@Prod.fst VerdictD Bool (@Prod.fst (@Prod VerdictD Bool) (@List SessionD) (@askL x))))) ∧
 ((@Eq Bs (@Array.toList UInt8 (@ByteArray.data (@ByteArray.mk (@List.toArray UInt8 (@List.nil UInt8))))) (@VerdictD.path (@Prod.fst VerdictD Bool (@Prod.fst (@Prod VerdictD Bool) (@List SessionD) (@askL x))))) ∧
 ((@Eq Int (0 : Int) (@VerdictD.digest (@Prod.fst VerdictD Bool (@Prod.fst (@Prod VerdictD Bool) (@List SessionD) (@askL x))))) ∧
 ((@Eq (@List CommitD) (@List.nil CommitD) (@VerdictD.commits (@Prod.fst VerdictD Bool (@Prod.fst (@Prod VerdictD Bool) (@List SessionD) (@askL x))))) ∧
 ((@Eq Int (0 : Int) (@VerdictD.member (@Prod.fst VerdictD Bool (@Prod.fst (@Prod VerdictD Bool) (@List SessionD) (@askL x))))) ∧
 ((@Eq Bool Bool.false (@Prod.snd VerdictD Bool (@Prod.fst (@Prod VerdictD Bool) (@List SessionD) (@askL x)))) ∧
 ((@Eq Int (@AskA.size x) (@AskA.size x)) ∧
 ((@Eq Nat (0 : Nat) (0 : Nat)) ∧
 ((@Eq Nat (@List.length SessionD (@AskA.l x)) (@List.length SessionD (@Prod.snd (@Prod VerdictD Bool) (@List SessionD) (@askL x)))) ∧
 ((@Eq (@List SessionD) (@AskA.l x) (@Prod.snd (@Prod VerdictD Bool) (@List SessionD) (@askL x))) ∧
 True)))))))))))))
 (∃ x2 : TabI,
 ((@Eq Int (@AskA.id x) (@TabI.n x2)) ∧
 ((@Eq Int (@AskA.size x) (@TabI.size x2)) ∧
 ((@Eq Nat (0 : Nat) (0 : Nat)) ∧
 ((@Eq Nat (@List.length SessionD (@AskA.l x)) (@List.length SessionD (@TabI.l x2))) ∧
 ((@Eq (@List SessionD) (@AskA.l x) (@TabI.l x2)) ∧
 ((@Eq Bool (@Decidable.decide (@LT.lt Int _ (0 : Int) (@TabI.size x2)) _) Bool.true) ∧
 (∀ x3 : Unit,
 (True →
 (br (@Decidable.decide (@LT.lt Int _ (@idxF (@idIs (@TabI.n x2)) (@TabI.l x2)) (0 : Int)) _)
 (∃ x4 : Unit,
 ((@Eq Int (6 : Int) (@VerdictD.code (@Prod.fst VerdictD Bool (@Prod.fst (@Prod VerdictD Bool) (@List SessionD) (@askL x))))) ∧
 ((@Eq Int (0 : Int) (@VerdictD.session (@Prod.fst VerdictD Bool (@Prod.fst (@Prod VerdictD Bool) (@List SessionD) (@askL x))))) ∧
 ((@Eq Int (0 : Int) (@VerdictD.rev (@Prod.fst VerdictD Bool (@Prod.fst (@Prod VerdictD Bool) (@List SessionD) (@askL x))))) ∧
 ((@Eq Bs (@Array.toList UInt8 (@ByteArray.data (@ByteArray.mk (@List.toArray UInt8 (@List.nil UInt8))))) (@VerdictD.path (@Prod.fst VerdictD Bool (@Prod.fst (@Prod VerdictD Bool) (@List SessionD) (@askL x))))) ∧
 ((@Eq Int (0 : Int) (@VerdictD.digest (@Prod.fst VerdictD Bool (@Prod.fst (@Prod VerdictD Bool) (@List SessionD) (@askL x))))) ∧
 ((@Eq (@List CommitD) (@List.nil CommitD) (@VerdictD.commits (@Prod.fst VerdictD Bool (@Prod.fst (@Prod VerdictD Bool) (@List SessionD) (@askL x))))) ∧
 ((@Eq Int (0 : Int) (@VerdictD.member (@Prod.fst VerdictD Bool (@Prod.fst (@Prod VerdictD Bool) (@List SessionD) (@askL x))))) ∧
 ((@Eq Bool Bool.true (@Prod.snd VerdictD Bool (@Prod.fst (@Prod VerdictD Bool) (@List SessionD) (@askL x)))) ∧
 ((@Eq Int (@TabI.size x2) (@AskA.size x)) ∧
 ((@Eq Nat (0 : Nat) (0 : Nat)) ∧
 ((@Eq Nat (@List.length SessionD (@TabI.l x2)) (@List.length SessionD (@Prod.snd (@Prod VerdictD Bool) (@List SessionD) (@askL x)))) ∧
 ((@Eq (@List SessionD) (@TabI.l x2) (@Prod.snd (@Prod VerdictD Bool) (@List SessionD) (@askL x))) ∧
 True)))))))))))))
 (∃ x5 : TabI,
 ((@Eq Int (@idxF (@idIs (@TabI.n x2)) (@TabI.l x2)) (@TabI.n x5)) ∧
 ((@Eq Int (@TabI.size x2) (@TabI.size x5)) ∧
 ((@Eq Nat (0 : Nat) (0 : Nat)) ∧
 ((@Eq Nat (@List.length SessionD (@TabI.l x2)) (@List.length SessionD (@TabI.l x5))) ∧
 ((@Eq (@List SessionD) (@TabI.l x2) (@TabI.l x5)) ∧
 (((@Eq Bool (@Decidable.decide ((@LE.le Int _ (0 : Int) (@TabI.n x5)) ∧
 (@LT.lt Int _ (@TabI.n x5) (Nat.cast (@List.length SessionD (@TabI.l x5)) : Int))) _) Bool.true) ∧
 (@Eq Bool (@Decidable.decide (@LE.le Nat _ (@List.length SessionD (@TabI.l x5)) (1024 : Nat)) _) Bool.true)) ∧
 (∀ x6 : Unit,
 (True →
 (br (@Decidable.decide (@LT.lt Int _ (@AskA.seq x) (1 : Int)) _)
 (∃ x7 : Unit,
 ((@Eq Int (5 : Int) (@VerdictD.code (@Prod.fst VerdictD Bool (@Prod.fst (@Prod VerdictD Bool) (@List SessionD) (@askL x))))) ∧
 ((@Eq Int (0 : Int) (@VerdictD.session (@Prod.fst VerdictD Bool (@Prod.fst (@Prod VerdictD Bool) (@List SessionD) (@askL x))))) ∧
 ((@Eq Int (0 : Int) (@VerdictD.rev (@Prod.fst VerdictD Bool (@Prod.fst (@Prod VerdictD Bool) (@List SessionD) (@askL x))))) ∧
 ((@Eq Bs (@Array.toList UInt8 (@ByteArray.data (@ByteArray.mk (@List.toArray UInt8 (@List.nil UInt8))))) (@VerdictD.path (@Prod.fst VerdictD Bool (@Prod.fst (@Prod VerdictD Bool) (@List SessionD) (@askL x))))) ∧
 ((@Eq Int (0 : Int) (@VerdictD.digest (@Prod.fst VerdictD Bool (@Prod.fst (@Prod VerdictD Bool) (@List SessionD) (@askL x))))) ∧
 ((@Eq (@List CommitD) (@List.nil CommitD) (@VerdictD.commits (@Prod.fst VerdictD Bool (@Prod.fst (@Prod VerdictD Bool) (@List SessionD) (@askL x))))) ∧
 ((@Eq Int (0 : Int) (@VerdictD.member (@Prod.fst VerdictD Bool (@Prod.fst (@Prod VerdictD Bool) (@List SessionD) (@askL x))))) ∧
 ((@Eq Bool Bool.true (@Prod.snd VerdictD Bool (@Prod.fst (@Prod VerdictD Bool) (@List SessionD) (@askL x)))) ∧
 ((@Eq Int (@TabI.size x5) (@AskA.size x)) ∧
 ((@Eq Nat (0 : Nat) (0 : Nat)) ∧
 ((@Eq Nat (@List.length SessionD (@usedL (@TabI.l x5) (@TabI.n x5))) (@List.length SessionD (@Prod.snd (@Prod VerdictD Bool) (@List SessionD) (@askL x)))) ∧
 ((@Eq (@List SessionD) (@usedL (@TabI.l x5) (@TabI.n x5)) (@Prod.snd (@Prod VerdictD Bool) (@List SessionD) (@askL x))) ∧
 True)))))))))))))
 (br (@Decidable.decide (@LT.lt Int _ (@AskA.seq x) (@SessionD.seq (@atL (@TabI.l x5) (@TabI.n x5)))) _)
 (∃ x8 : Unit,
 ((@Eq Int (7 : Int) (@VerdictD.code (@Prod.fst VerdictD Bool (@Prod.fst (@Prod VerdictD Bool) (@List SessionD) (@askL x))))) ∧
 ((@Eq Int (0 : Int) (@VerdictD.session (@Prod.fst VerdictD Bool (@Prod.fst (@Prod VerdictD Bool) (@List SessionD) (@askL x))))) ∧
 ((@Eq Int (0 : Int) (@VerdictD.rev (@Prod.fst VerdictD Bool (@Prod.fst (@Prod VerdictD Bool) (@List SessionD) (@askL x))))) ∧
 ((@Eq Bs (@Array.toList UInt8 (@ByteArray.data (@ByteArray.mk (@List.toArray UInt8 (@List.nil UInt8))))) (@VerdictD.path (@Prod.fst VerdictD Bool (@Prod.fst (@Prod VerdictD Bool) (@List SessionD) (@askL x))))) ∧
 ((@Eq Int (0 : Int) (@VerdictD.digest (@Prod.fst VerdictD Bool (@Prod.fst (@Prod VerdictD Bool) (@List SessionD) (@askL x))))) ∧
 ((@Eq (@List CommitD) (@List.nil CommitD) (@VerdictD.commits (@Prod.fst VerdictD Bool (@Prod.fst (@Prod VerdictD Bool) (@List SessionD) (@askL x))))) ∧
 ((@Eq Int (0 : Int) (@VerdictD.member (@Prod.fst VerdictD Bool (@Prod.fst (@Prod VerdictD Bool) (@List SessionD) (@askL x))))) ∧
 ((@Eq Bool Bool.true (@Prod.snd VerdictD Bool (@Prod.fst (@Prod VerdictD Bool) (@List SessionD) (@askL x)))) ∧
 ((@Eq Int (@TabI.size x5) (@AskA.size x)) ∧
 ((@Eq Nat (0 : Nat) (0 : Nat)) ∧
 ((@Eq Nat (@List.length SessionD (@usedL (@TabI.l x5) (@TabI.n x5))) (@List.length SessionD (@Prod.snd (@Prod VerdictD Bool) (@List SessionD) (@askL x)))) ∧
 ((@Eq (@List SessionD) (@usedL (@TabI.l x5) (@TabI.n x5)) (@Prod.snd (@Prod VerdictD Bool) (@List SessionD) (@askL x))) ∧
 True)))))))))))))
 (br (@BEq.beq Int _ (@AskA.seq x) (@SessionD.seq (@atL (@TabI.l x5) (@TabI.n x5))))
 (∃ x9 : VerdictD,
 ((@Eq Int (@VerdictD.code (@SessionD.last (@atL (@TabI.l x5) (@TabI.n x5)))) (@VerdictD.code x9)) ∧
 ((@Eq Int (@VerdictD.session (@SessionD.last (@atL (@TabI.l x5) (@TabI.n x5)))) (@VerdictD.session x9)) ∧
 ((@Eq Int (@VerdictD.rev (@SessionD.last (@atL (@TabI.l x5) (@TabI.n x5)))) (@VerdictD.rev x9)) ∧
 ((@Eq Bs (@VerdictD.path (@SessionD.last (@atL (@TabI.l x5) (@TabI.n x5)))) (@VerdictD.path x9)) ∧
 ((@Eq Int (@VerdictD.digest (@SessionD.last (@atL (@TabI.l x5) (@TabI.n x5)))) (@VerdictD.digest x9)) ∧
 ((@Eq (@List CommitD) (@VerdictD.commits (@SessionD.last (@atL (@TabI.l x5) (@TabI.n x5)))) (@VerdictD.commits x9)) ∧
 ((@Eq Int (@VerdictD.member (@SessionD.last (@atL (@TabI.l x5) (@TabI.n x5)))) (@VerdictD.member x9)) ∧
 (True ∧
 (∀ x10 : Unit,
 (True →
 (∃ x11 : Unit,
 ((@Eq Int (@VerdictD.code x9) (@VerdictD.code (@Prod.fst VerdictD Bool (@Prod.fst (@Prod VerdictD Bool) (@List SessionD) (@askL x))))) ∧
 ((@Eq Int (@VerdictD.session x9) (@VerdictD.session (@Prod.fst VerdictD Bool (@Prod.fst (@Prod VerdictD Bool) (@List SessionD) (@askL x))))) ∧
 ((@Eq Int (@VerdictD.rev x9) (@VerdictD.rev (@Prod.fst VerdictD Bool (@Prod.fst (@Prod VerdictD Bool) (@List SessionD) (@askL x))))) ∧
 ((@Eq Bs (@VerdictD.path x9) (@VerdictD.path (@Prod.fst VerdictD Bool (@Prod.fst (@Prod VerdictD Bool) (@List SessionD) (@askL x))))) ∧
 ((@Eq Int (@VerdictD.digest x9) (@VerdictD.digest (@Prod.fst VerdictD Bool (@Prod.fst (@Prod VerdictD Bool) (@List SessionD) (@askL x))))) ∧
 ((@Eq (@List CommitD) (@VerdictD.commits x9) (@VerdictD.commits (@Prod.fst VerdictD Bool (@Prod.fst (@Prod VerdictD Bool) (@List SessionD) (@askL x))))) ∧
 ((@Eq Int (@VerdictD.member x9) (@VerdictD.member (@Prod.fst VerdictD Bool (@Prod.fst (@Prod VerdictD Bool) (@List SessionD) (@askL x))))) ∧
 ((@Eq Bool Bool.true (@Prod.snd VerdictD Bool (@Prod.fst (@Prod VerdictD Bool) (@List SessionD) (@askL x)))) ∧
 ((@Eq Int (@TabI.size x5) (@AskA.size x)) ∧
 ((@Eq Nat (0 : Nat) (0 : Nat)) ∧
 ((@Eq Nat (@List.length SessionD (@usedL (@TabI.l x5) (@TabI.n x5))) (@List.length SessionD (@Prod.snd (@Prod VerdictD Bool) (@List SessionD) (@askL x)))) ∧
 ((@Eq (@List SessionD) (@usedL (@TabI.l x5) (@TabI.n x5)) (@Prod.snd (@Prod VerdictD Bool) (@List SessionD) (@askL x))) ∧
 True))))))))))))))))))))))))
 (∃ x12 : Unit,
 ((@Eq Int (0 : Int) (@VerdictD.code (@Prod.fst VerdictD Bool (@Prod.fst (@Prod VerdictD Bool) (@List SessionD) (@askL x))))) ∧
 ((@Eq Int (0 : Int) (@VerdictD.session (@Prod.fst VerdictD Bool (@Prod.fst (@Prod VerdictD Bool) (@List SessionD) (@askL x))))) ∧
 ((@Eq Int (0 : Int) (@VerdictD.rev (@Prod.fst VerdictD Bool (@Prod.fst (@Prod VerdictD Bool) (@List SessionD) (@askL x))))) ∧
 ((@Eq Bs (@Array.toList UInt8 (@ByteArray.data (@ByteArray.mk (@List.toArray UInt8 (@List.nil UInt8))))) (@VerdictD.path (@Prod.fst VerdictD Bool (@Prod.fst (@Prod VerdictD Bool) (@List SessionD) (@askL x))))) ∧
 ((@Eq Int (0 : Int) (@VerdictD.digest (@Prod.fst VerdictD Bool (@Prod.fst (@Prod VerdictD Bool) (@List SessionD) (@askL x))))) ∧
 ((@Eq (@List CommitD) (@List.nil CommitD) (@VerdictD.commits (@Prod.fst VerdictD Bool (@Prod.fst (@Prod VerdictD Bool) (@List SessionD) (@askL x))))) ∧
 ((@Eq Int (0 : Int) (@VerdictD.member (@Prod.fst VerdictD Bool (@Prod.fst (@Prod VerdictD Bool) (@List SessionD) (@askL x))))) ∧
 ((@Eq Bool Bool.false (@Prod.snd VerdictD Bool (@Prod.fst (@Prod VerdictD Bool) (@List SessionD) (@askL x)))) ∧
 ((@Eq Int (@TabI.size x5) (@AskA.size x)) ∧
 ((@Eq Nat (0 : Nat) (0 : Nat)) ∧
 ((@Eq Nat (@List.length SessionD (@usedL (@TabI.l x5) (@TabI.n x5))) (@List.length SessionD (@Prod.snd (@Prod VerdictD Bool) (@List SessionD) (@askL x)))) ∧
 ((@Eq (@List SessionD) (@usedL (@TabI.l x5) (@TabI.n x5)) (@Prod.snd (@Prod VerdictD Bool) (@List SessionD) (@askL x))) ∧
 True))))))))))))))))))))))))))))))))))))) := by kernel_rfl

theorem done_vc (x : doneT.γ) : evCall opE (ev opE 1000) 15 (doneT.args x) ⟨doneT.blks x, doneT.n0, []⟩ (fun _ _ => False) (doneT.ends x) = (
(∃ x1 : TabI,
 ((@Eq Int (@DoneA.id x) (@TabI.n x1)) ∧
 ((@Eq Int (@DoneA.size x) (@TabI.size x1)) ∧
 ((@Eq Nat (0 : Nat) (0 : Nat)) ∧
 ((@Eq Nat (@List.length SessionD (@DoneA.l x)) (@List.length SessionD (@TabI.l x1))) ∧
 ((@Eq (@List SessionD) (@DoneA.l x) (@TabI.l x1)) ∧
 ((@Eq Bool (@Decidable.decide (@LT.lt Int _ (0 : Int) (@TabI.size x1)) _) Bool.true) ∧
 (∀ x2 : Unit,
 (True →
 (br (@Decidable.decide (@LT.lt Int _ (@idxF (@idIs (@TabI.n x1)) (@TabI.l x1)) (0 : Int)) _)
 (∃ x3 : Unit,
 ((@Eq Bool Bool.false (@Prod.fst Bool (@List SessionD) (@doneL x))) ∧
 ((@Eq Int (@TabI.size x1) (@DoneA.size x)) ∧
 ((@Eq Nat (0 : Nat) (0 : Nat)) ∧
 ((@Eq Nat (@List.length SessionD (@TabI.l x1)) (@List.length SessionD (@Prod.snd Bool (@List SessionD) (@doneL x)))) ∧
 ((@Eq (@List SessionD) (@TabI.l x1) (@Prod.snd Bool (@List SessionD) (@doneL x))) ∧
 True))))))
 (br (@Decidable.decide ((@LE.le Int _ (0 : Int) (@idxF (@idIs (@TabI.n x1)) (@TabI.l x1))) ∧
 (@LT.lt Int _ (@idxF (@idIs (@TabI.n x1)) (@TabI.l x1)) (Nat.cast (@List.length SessionD (@TabI.l x1)) : Int))) _)
 (br (@Decidable.decide (@LT.lt Nat _ (@HAdd.hAdd _ _ _ _ (0 : Nat) (@Int.toNat (@idxF (@idIs (@TabI.n x1)) (@TabI.l x1)))) (@List.length SessionD (@TabI.l x1))) _)
 (br (@Decidable.decide (@LE.le Int _ (@DoneA.seq x) (@SessionD.seq (@List.getD SessionD (@TabI.l x1) (@HAdd.hAdd _ _ _ _ (0 : Nat) (@Int.toNat (@idxF (@idIs (@TabI.n x1)) (@TabI.l x1)))) (@SessionD.mk (0 : Int) (0 : Int) (@List.nil UInt8) VerdictD.dflt)))) _)
 (∃ x4 : Unit,
 ((@Eq Bool Bool.false (@Prod.fst Bool (@List SessionD) (@doneL x))) ∧
 ((@Eq Int (@TabI.size x1) (@DoneA.size x)) ∧
 ((@Eq Nat (0 : Nat) (0 : Nat)) ∧
 ((@Eq Nat (@List.length SessionD (@TabI.l x1)) (@List.length SessionD (@Prod.snd Bool (@List SessionD) (@doneL x)))) ∧
 ((@Eq (@List SessionD) (@TabI.l x1) (@Prod.snd Bool (@List SessionD) (@doneL x))) ∧
 True))))))
 (∀ x5 : Bool,
 (((@Eq Bool x5 Bool.true) →
 (@Eq Nat (@List.length SessionD (@TabI.l x1)) (0 : Nat))) →
 (br x5
 (∃ x6 : VerdictD,
 ((@Eq Int (@VerdictD.code (@DoneA.v x)) (@VerdictD.code x6)) ∧
 ((@Eq Int (@VerdictD.session (@DoneA.v x)) (@VerdictD.session x6)) ∧
 ((@Eq Int (@VerdictD.rev (@DoneA.v x)) (@VerdictD.rev x6)) ∧
 ((@Eq Bs (@VerdictD.path (@DoneA.v x)) (@VerdictD.path x6)) ∧
 ((@Eq Int (@VerdictD.digest (@DoneA.v x)) (@VerdictD.digest x6)) ∧
 ((@Eq (@List CommitD) (@VerdictD.commits (@DoneA.v x)) (@VerdictD.commits x6)) ∧
 ((@Eq Int (@VerdictD.member (@DoneA.v x)) (@VerdictD.member x6)) ∧
 (True ∧
 (∀ x7 : Unit,
 (True →
 (Bad "silent" "session.go:129"))))))))))))
 (((@Nat.le (@HMul.hMul _ _ _ _ (0 : Nat) (112 : Nat)) room47) ∧
 (@Nat.le (@HMul.hMul _ _ _ _ (@List.length SessionD (@TabI.l x1)) (112 : Nat)) room47)) →
 (br (@Bool.and (@Bool.and (@Decidable.decide (@LE.le Nat _ (@HAdd.hAdd _ _ _ _ (0 : Nat) (@List.length SessionD (@TabI.l x1))) (@List.length SessionD (@TabI.l x1))) _) (@Decidable.decide (@LE.le Nat _ (@HAdd.hAdd _ _ _ _ (0 : Nat) (0 : Nat)) (@List.length SessionD (@List.nil SessionD))) _)) (@Decidable.decide (@LE.le Nat _ (@HMul.hMul _ _ _ _ (@HAdd.hAdd _ _ _ _ (0 : Nat) (@List.length SessionD (@List.take SessionD (@List.length SessionD (@TabI.l x1)) (@List.drop SessionD (0 : Nat) (@TabI.l x1))))) (112 : Nat)) room47) _))
 (∃ x8 : VerdictD,
 ((@Eq Int (@VerdictD.code (@DoneA.v x)) (@VerdictD.code x8)) ∧
 ((@Eq Int (@VerdictD.session (@DoneA.v x)) (@VerdictD.session x8)) ∧
 ((@Eq Int (@VerdictD.rev (@DoneA.v x)) (@VerdictD.rev x8)) ∧
 ((@Eq Bs (@VerdictD.path (@DoneA.v x)) (@VerdictD.path x8)) ∧
 ((@Eq Int (@VerdictD.digest (@DoneA.v x)) (@VerdictD.digest x8)) ∧
 ((@Eq (@List CommitD) (@VerdictD.commits (@DoneA.v x)) (@VerdictD.commits x8)) ∧
 ((@Eq Int (@VerdictD.member (@DoneA.v x)) (@VerdictD.member x8)) ∧
 (True ∧
 (∀ x9 : Unit,
 (True →
 (br (@Decidable.decide ((@LE.le Int _ (0 : Int) (@idxF (@idIs (@TabI.n x1)) (@TabI.l x1))) ∧
 (@LT.lt Int _ (@idxF (@idIs (@TabI.n x1)) (@TabI.l x1)) (Nat.cast (@HAdd.hAdd _ _ _ _ (0 : Nat) (@List.length SessionD (@List.take SessionD (@List.length SessionD (@TabI.l x1)) (@List.drop SessionD (0 : Nat) (@TabI.l x1))))) : Int))) _)
 (br (@Bool.and Bool.true (@Decidable.decide (@LT.lt Nat _ (@HAdd.hAdd _ _ _ _ (0 : Nat) (@Int.toNat (@idxF (@idIs (@TabI.n x1)) (@TabI.l x1)))) (@List.length SessionD (@HAppend.hAppend (@List SessionD) (@List SessionD) (@List SessionD) _ (@List.take SessionD (0 : Nat) (@List.drop SessionD (0 : Nat) (@List.nil SessionD))) (@List.take SessionD (@List.length SessionD (@TabI.l x1)) (@List.drop SessionD (0 : Nat) (@TabI.l x1)))))) _))
 (br (@Decidable.decide ((@LE.le Int _ (0 : Int) (@idxF (@idIs (@TabI.n x1)) (@TabI.l x1))) ∧
 (@LT.lt Int _ (@idxF (@idIs (@TabI.n x1)) (@TabI.l x1)) (Nat.cast (@HAdd.hAdd _ _ _ _ (0 : Nat) (@List.length SessionD (@List.take SessionD (@List.length SessionD (@TabI.l x1)) (@List.drop SessionD (0 : Nat) (@TabI.l x1))))) : Int))) _)
 (br (@Bool.and Bool.true (@Decidable.decide (@LT.lt Nat _ (@HAdd.hAdd _ _ _ _ (0 : Nat) (@Int.toNat (@idxF (@idIs (@TabI.n x1)) (@TabI.l x1)))) (@List.length SessionD (@List.set SessionD (@HAppend.hAppend (@List SessionD) (@List SessionD) (@List SessionD) _ (@List.take SessionD (0 : Nat) (@List.drop SessionD (0 : Nat) (@List.nil SessionD))) (@List.take SessionD (@List.length SessionD (@TabI.l x1)) (@List.drop SessionD (0 : Nat) (@TabI.l x1)))) (@HAdd.hAdd _ _ _ _ (0 : Nat) (@Int.toNat (@idxF (@idIs (@TabI.n x1)) (@TabI.l x1)))) (@SessionD.mk (@SessionD.id (@List.getD SessionD (@HAppend.hAppend (@List SessionD) (@List SessionD) (@List SessionD) _ (@List.take SessionD (0 : Nat) (@List.drop SessionD (0 : Nat) (@List.nil SessionD))) (@List.take SessionD (@List.length SessionD (@TabI.l x1)) (@List.drop SessionD (0 : Nat) (@TabI.l x1)))) (@HAdd.hAdd _ _ _ _ (0 : Nat) (@Int.toNat (@idxF (@idIs (@TabI.n x1)) (@TabI.l x1)))) (@SessionD.mk (0 : Int) (0 : Int) (@List.nil UInt8) VerdictD.dflt))) (@DoneA.seq x) (@SessionD.name (@List.getD SessionD (@HAppend.hAppend (@List SessionD) (@List SessionD) (@List SessionD) _ (@List.take SessionD (0 : Nat) (@List.drop SessionD (0 : Nat) (@List.nil SessionD))) (@List.take SessionD (@List.length SessionD (@TabI.l x1)) (@List.drop SessionD (0 : Nat) (@TabI.l x1)))) (@HAdd.hAdd _ _ _ _ (0 : Nat) (@Int.toNat (@idxF (@idIs (@TabI.n x1)) (@TabI.l x1)))) (@SessionD.mk (0 : Int) (0 : Int) (@List.nil UInt8) VerdictD.dflt))) (@VerdictD.mk (@VerdictD.code (@SessionD.last (@List.getD SessionD (@HAppend.hAppend (@List SessionD) (@List SessionD) (@List SessionD) _ (@List.take SessionD (0 : Nat) (@List.drop SessionD (0 : Nat) (@List.nil SessionD))) (@List.take SessionD (@List.length SessionD (@TabI.l x1)) (@List.drop SessionD (0 : Nat) (@TabI.l x1)))) (@HAdd.hAdd _ _ _ _ (0 : Nat) (@Int.toNat (@idxF (@idIs (@TabI.n x1)) (@TabI.l x1)))) (@SessionD.mk (0 : Int) (0 : Int) (@List.nil UInt8) VerdictD.dflt)))) (@VerdictD.session (@SessionD.last (@List.getD SessionD (@HAppend.hAppend (@List SessionD) (@List SessionD) (@List SessionD) _ (@List.take SessionD (0 : Nat) (@List.drop SessionD (0 : Nat) (@List.nil SessionD))) (@List.take SessionD (@List.length SessionD (@TabI.l x1)) (@List.drop SessionD (0 : Nat) (@TabI.l x1)))) (@HAdd.hAdd _ _ _ _ (0 : Nat) (@Int.toNat (@idxF (@idIs (@TabI.n x1)) (@TabI.l x1)))) (@SessionD.mk (0 : Int) (0 : Int) (@List.nil UInt8) VerdictD.dflt)))) (@VerdictD.rev (@SessionD.last (@List.getD SessionD (@HAppend.hAppend (@List SessionD) (@List SessionD) (@List SessionD) _ (@List.take SessionD (0 : Nat) (@List.drop SessionD (0 : Nat) (@List.nil SessionD))) (@List.take SessionD (@List.length SessionD (@TabI.l x1)) (@List.drop SessionD (0 : Nat) (@TabI.l x1)))) (@HAdd.hAdd _ _ _ _ (0 : Nat) (@Int.toNat (@idxF (@idIs (@TabI.n x1)) (@TabI.l x1)))) (@SessionD.mk (0 : Int) (0 : Int) (@List.nil UInt8) VerdictD.dflt)))) (@VerdictD.path (@SessionD.last (@List.getD SessionD (@HAppend.hAppend (@List SessionD) (@List SessionD) (@List SessionD) _ (@List.take SessionD (0 : Nat) (@List.drop SessionD (0 : Nat) (@List.nil SessionD))) (@List.take SessionD (@List.length SessionD (@TabI.l x1)) (@List.drop SessionD (0 : Nat) (@TabI.l x1)))) (@HAdd.hAdd _ _ _ _ (0 : Nat) (@Int.toNat (@idxF (@idIs (@TabI.n x1)) (@TabI.l x1)))) (@SessionD.mk (0 : Int) (0 : Int) (@List.nil UInt8) VerdictD.dflt)))) (@VerdictD.digest (@SessionD.last (@List.getD SessionD (@HAppend.hAppend (@List SessionD) (@List SessionD) (@List SessionD) _ (@List.take SessionD (0 : Nat) (@List.drop SessionD (0 : Nat) (@List.nil SessionD))) (@List.take SessionD (@List.length SessionD (@TabI.l x1)) (@List.drop SessionD (0 : Nat) (@TabI.l x1)))) (@HAdd.hAdd _ _ _ _ (0 : Nat) (@Int.toNat (@idxF (@idIs (@TabI.n x1)) (@TabI.l x1)))) (@SessionD.mk (0 : Int) (0 : Int) (@List.nil UInt8) VerdictD.dflt)))) (@VerdictD.commits (@SessionD.last (@List.getD SessionD (@HAppend.hAppend (@List SessionD) (@List SessionD) (@List SessionD) _ (@List.take SessionD (0 : Nat) (@List.drop SessionD (0 : Nat) (@List.nil SessionD))) (@List.take SessionD (@List.length SessionD (@TabI.l x1)) (@List.drop SessionD (0 : Nat) (@TabI.l x1)))) (@HAdd.hAdd _ _ _ _ (0 : Nat) (@Int.toNat (@idxF (@idIs (@TabI.n x1)) (@TabI.l x1)))) (@SessionD.mk (0 : Int) (0 : Int) (@List.nil UInt8) VerdictD.dflt)))) (@VerdictD.member (@SessionD.last (@List.getD SessionD (@HAppend.hAppend (@List SessionD) (@List SessionD) (@List SessionD) _ (@List.take SessionD (0 : Nat) (@List.drop SessionD (0 : Nat) (@List.nil SessionD))) (@List.take SessionD (@List.length SessionD (@TabI.l x1)) (@List.drop SessionD (0 : Nat) (@TabI.l x1)))) (@HAdd.hAdd _ _ _ _ (0 : Nat) (@Int.toNat (@idxF (@idIs (@TabI.n x1)) (@TabI.l x1)))) (@SessionD.mk (0 : Int) (0 : Int) (@List.nil UInt8) VerdictD.dflt))))))))) _))
 (∃ x10 : Unit,
 ((@Eq Bool Bool.true (@Prod.fst Bool (@List SessionD) (@doneL x))) ∧
 ((@Eq Int (@TabI.size x1) (@DoneA.size x)) ∧
 ((@Eq Nat (0 : Nat) (0 : Nat)) ∧
 ((@Eq Nat (@HAdd.hAdd _ _ _ _ (0 : Nat) (@List.length SessionD (@List.take SessionD (@List.length SessionD (@TabI.l x1)) (@List.drop SessionD (0 : Nat) (@TabI.l x1))))) (@List.length SessionD (@Prod.snd Bool (@List SessionD) (@doneL x)))) ∧
 ((@Eq (@List SessionD) (@List.set SessionD (@List.set SessionD (@HAppend.hAppend (@List SessionD) (@List SessionD) (@List SessionD) _ (@List.take SessionD (0 : Nat) (@List.drop SessionD (0 : Nat) (@List.nil SessionD))) (@List.take SessionD (@List.length SessionD (@TabI.l x1)) (@List.drop SessionD (0 : Nat) (@TabI.l x1)))) (@HAdd.hAdd _ _ _ _ (0 : Nat) (@Int.toNat (@idxF (@idIs (@TabI.n x1)) (@TabI.l x1)))) (@SessionD.mk (@SessionD.id (@List.getD SessionD (@HAppend.hAppend (@List SessionD) (@List SessionD) (@List SessionD) _ (@List.take SessionD (0 : Nat) (@List.drop SessionD (0 : Nat) (@List.nil SessionD))) (@List.take SessionD (@List.length SessionD (@TabI.l x1)) (@List.drop SessionD (0 : Nat) (@TabI.l x1)))) (@HAdd.hAdd _ _ _ _ (0 : Nat) (@Int.toNat (@idxF (@idIs (@TabI.n x1)) (@TabI.l x1)))) (@SessionD.mk (0 : Int) (0 : Int) (@List.nil UInt8) VerdictD.dflt))) (@DoneA.seq x) (@SessionD.name (@List.getD SessionD (@HAppend.hAppend (@List SessionD) (@List SessionD) (@List SessionD) _ (@List.take SessionD (0 : Nat) (@List.drop SessionD (0 : Nat) (@List.nil SessionD))) (@List.take SessionD (@List.length SessionD (@TabI.l x1)) (@List.drop SessionD (0 : Nat) (@TabI.l x1)))) (@HAdd.hAdd _ _ _ _ (0 : Nat) (@Int.toNat (@idxF (@idIs (@TabI.n x1)) (@TabI.l x1)))) (@SessionD.mk (0 : Int) (0 : Int) (@List.nil UInt8) VerdictD.dflt))) (@VerdictD.mk (@VerdictD.code (@SessionD.last (@List.getD SessionD (@HAppend.hAppend (@List SessionD) (@List SessionD) (@List SessionD) _ (@List.take SessionD (0 : Nat) (@List.drop SessionD (0 : Nat) (@List.nil SessionD))) (@List.take SessionD (@List.length SessionD (@TabI.l x1)) (@List.drop SessionD (0 : Nat) (@TabI.l x1)))) (@HAdd.hAdd _ _ _ _ (0 : Nat) (@Int.toNat (@idxF (@idIs (@TabI.n x1)) (@TabI.l x1)))) (@SessionD.mk (0 : Int) (0 : Int) (@List.nil UInt8) VerdictD.dflt)))) (@VerdictD.session (@SessionD.last (@List.getD SessionD (@HAppend.hAppend (@List SessionD) (@List SessionD) (@List SessionD) _ (@List.take SessionD (0 : Nat) (@List.drop SessionD (0 : Nat) (@List.nil SessionD))) (@List.take SessionD (@List.length SessionD (@TabI.l x1)) (@List.drop SessionD (0 : Nat) (@TabI.l x1)))) (@HAdd.hAdd _ _ _ _ (0 : Nat) (@Int.toNat (@idxF (@idIs (@TabI.n x1)) (@TabI.l x1)))) (@SessionD.mk (0 : Int) (0 : Int) (@List.nil UInt8) VerdictD.dflt)))) (@VerdictD.rev (@SessionD.last (@List.getD SessionD (@HAppend.hAppend (@List SessionD) (@List SessionD) (@List SessionD) _ (@List.take SessionD (0 : Nat) (@List.drop SessionD (0 : Nat) (@List.nil SessionD))) (@List.take SessionD (@List.length SessionD (@TabI.l x1)) (@List.drop SessionD (0 : Nat) (@TabI.l x1)))) (@HAdd.hAdd _ _ _ _ (0 : Nat) (@Int.toNat (@idxF (@idIs (@TabI.n x1)) (@TabI.l x1)))) (@SessionD.mk (0 : Int) (0 : Int) (@List.nil UInt8) VerdictD.dflt)))) (@VerdictD.path (@SessionD.last (@List.getD SessionD (@HAppend.hAppend (@List SessionD) (@List SessionD) (@List SessionD) _ (@List.take SessionD (0 : Nat) (@List.drop SessionD (0 : Nat) (@List.nil SessionD))) (@List.take SessionD (@List.length SessionD (@TabI.l x1)) (@List.drop SessionD (0 : Nat) (@TabI.l x1)))) (@HAdd.hAdd _ _ _ _ (0 : Nat) (@Int.toNat (@idxF (@idIs (@TabI.n x1)) (@TabI.l x1)))) (@SessionD.mk (0 : Int) (0 : Int) (@List.nil UInt8) VerdictD.dflt)))) (@VerdictD.digest (@SessionD.last (@List.getD SessionD (@HAppend.hAppend (@List SessionD) (@List SessionD) (@List SessionD) _ (@List.take SessionD (0 : Nat) (@List.drop SessionD (0 : Nat) (@List.nil SessionD))) (@List.take SessionD (@List.length SessionD (@TabI.l x1)) (@List.drop SessionD (0 : Nat) (@TabI.l x1)))) (@HAdd.hAdd _ _ _ _ (0 : Nat) (@Int.toNat (@idxF (@idIs (@TabI.n x1)) (@TabI.l x1)))) (@SessionD.mk (0 : Int) (0 : Int) (@List.nil UInt8) VerdictD.dflt)))) (@VerdictD.commits (@SessionD.last (@List.getD SessionD (@HAppend.hAppend (@List SessionD) (@List SessionD) (@List SessionD) _ (@List.take SessionD (0 : Nat) (@List.drop SessionD (0 : Nat) (@List.nil SessionD))) (@List.take SessionD (@List.length SessionD (@TabI.l x1)) (@List.drop SessionD (0 : Nat) (@TabI.l x1)))) (@HAdd.hAdd _ _ _ _ (0 : Nat) (@Int.toNat (@idxF (@idIs (@TabI.n x1)) (@TabI.l x1)))) (@SessionD.mk (0 : Int) (0 : Int) (@List.nil UInt8) VerdictD.dflt)))) (@VerdictD.member (@SessionD.last (@List.getD SessionD (@HAppend.hAppend (@List SessionD) (@List SessionD) (@List SessionD) _ (@List.take SessionD (0 : Nat) (@List.drop SessionD (0 : Nat) (@List.nil SessionD))) (@List.take SessionD (@List.length SessionD (@TabI.l x1)) (@List.drop SessionD (0 : Nat) (@TabI.l x1)))) (@HAdd.hAdd _ _ _ _ (0 : Nat) (@Int.toNat (@idxF (@idIs (@TabI.n x1)) (@TabI.l x1)))) (@SessionD.mk (0 : Int) (0 : Int) (@List.nil UInt8) VerdictD.dflt))))))) (@HAdd.hAdd _ _ _ _ (0 : Nat) (@Int.toNat (@idxF (@idIs (@TabI.n x1)) (@TabI.l x1)))) (@SessionD.mk (@SessionD.id (@List.getD SessionD (@List.set SessionD (@HAppend.hAppend (@List SessionD) (@List SessionD) (@List SessionD) _ (@List.take SessionD (0 : Nat) (@List.drop SessionD (0 : Nat) (@List.nil SessionD))) (@List.take SessionD (@List.length SessionD (@TabI.l x1)) (@List.drop SessionD (0 : Nat) (@TabI.l x1)))) (@HAdd.hAdd _ _ _ _ (0 : Nat) (@Int.toNat (@idxF (@idIs (@TabI.n x1)) (@TabI.l x1)))) (@SessionD.mk (@SessionD.id (@List.getD SessionD (@HAppend.hAppend (@List SessionD) (@List SessionD) (@List SessionD) _ (@List.take SessionD (0 : Nat) (@List.drop SessionD (0 : Nat) (@List.nil SessionD))) (@List.take SessionD (@List.length SessionD (@TabI.l x1)) (@List.drop SessionD (0 : Nat) (@TabI.l x1)))) (@HAdd.hAdd _ _ _ _ (0 : Nat) (@Int.toNat (@idxF (@idIs (@TabI.n x1)) (@TabI.l x1)))) (@SessionD.mk (0 : Int) (0 : Int) (@List.nil UInt8) VerdictD.dflt))) (@DoneA.seq x) (@SessionD.name (@List.getD SessionD (@HAppend.hAppend (@List SessionD) (@List SessionD) (@List SessionD) _ (@List.take SessionD (0 : Nat) (@List.drop SessionD (0 : Nat) (@List.nil SessionD))) (@List.take SessionD (@List.length SessionD (@TabI.l x1)) (@List.drop SessionD (0 : Nat) (@TabI.l x1)))) (@HAdd.hAdd _ _ _ _ (0 : Nat) (@Int.toNat (@idxF (@idIs (@TabI.n x1)) (@TabI.l x1)))) (@SessionD.mk (0 : Int) (0 : Int) (@List.nil UInt8) VerdictD.dflt))) (@VerdictD.mk (@VerdictD.code (@SessionD.last (@List.getD SessionD (@HAppend.hAppend (@List SessionD) (@List SessionD) (@List SessionD) _ (@List.take SessionD (0 : Nat) (@List.drop SessionD (0 : Nat) (@List.nil SessionD))) (@List.take SessionD (@List.length SessionD (@TabI.l x1)) (@List.drop SessionD (0 : Nat) (@TabI.l x1)))) (@HAdd.hAdd _ _ _ _ (0 : Nat) (@Int.toNat (@idxF (@idIs (@TabI.n x1)) (@TabI.l x1)))) (@SessionD.mk (0 : Int) (0 : Int) (@List.nil UInt8) VerdictD.dflt)))) (@VerdictD.session (@SessionD.last (@List.getD SessionD (@HAppend.hAppend (@List SessionD) (@List SessionD) (@List SessionD) _ (@List.take SessionD (0 : Nat) (@List.drop SessionD (0 : Nat) (@List.nil SessionD))) (@List.take SessionD (@List.length SessionD (@TabI.l x1)) (@List.drop SessionD (0 : Nat) (@TabI.l x1)))) (@HAdd.hAdd _ _ _ _ (0 : Nat) (@Int.toNat (@idxF (@idIs (@TabI.n x1)) (@TabI.l x1)))) (@SessionD.mk (0 : Int) (0 : Int) (@List.nil UInt8) VerdictD.dflt)))) (@VerdictD.rev (@SessionD.last (@List.getD SessionD (@HAppend.hAppend (@List SessionD) (@List SessionD) (@List SessionD) _ (@List.take SessionD (0 : Nat) (@List.drop SessionD (0 : Nat) (@List.nil SessionD))) (@List.take SessionD (@List.length SessionD (@TabI.l x1)) (@List.drop SessionD (0 : Nat) (@TabI.l x1)))) (@HAdd.hAdd _ _ _ _ (0 : Nat) (@Int.toNat (@idxF (@idIs (@TabI.n x1)) (@TabI.l x1)))) (@SessionD.mk (0 : Int) (0 : Int) (@List.nil UInt8) VerdictD.dflt)))) (@VerdictD.path (@SessionD.last (@List.getD SessionD (@HAppend.hAppend (@List SessionD) (@List SessionD) (@List SessionD) _ (@List.take SessionD (0 : Nat) (@List.drop SessionD (0 : Nat) (@List.nil SessionD))) (@List.take SessionD (@List.length SessionD (@TabI.l x1)) (@List.drop SessionD (0 : Nat) (@TabI.l x1)))) (@HAdd.hAdd _ _ _ _ (0 : Nat) (@Int.toNat (@idxF (@idIs (@TabI.n x1)) (@TabI.l x1)))) (@SessionD.mk (0 : Int) (0 : Int) (@List.nil UInt8) VerdictD.dflt)))) (@VerdictD.digest (@SessionD.last (@List.getD SessionD (@HAppend.hAppend (@List SessionD) (@List SessionD) (@List SessionD) _ (@List.take SessionD (0 : Nat) (@List.drop SessionD (0 : Nat) (@List.nil SessionD))) (@List.take SessionD (@List.length SessionD (@TabI.l x1)) (@List.drop SessionD (0 : Nat) (@TabI.l x1)))) (@HAdd.hAdd _ _ _ _ (0 : Nat) (@Int.toNat (@idxF (@idIs (@TabI.n x1)) (@TabI.l x1)))) (@SessionD.mk (0 : Int) (0 : Int) (@List.nil UInt8) VerdictD.dflt)))) (@VerdictD.commits (@SessionD.last (@List.getD SessionD (@HAppend.hAppend (@List SessionD) (@List SessionD) (@List SessionD) _ (@List.take SessionD (0 : Nat) (@List.drop SessionD (0 : Nat) (@List.nil SessionD))) (@List.take SessionD (@List.length SessionD (@TabI.l x1)) (@List.drop SessionD (0 : Nat) (@TabI.l x1)))) (@HAdd.hAdd _ _ _ _ (0 : Nat) (@Int.toNat (@idxF (@idIs (@TabI.n x1)) (@TabI.l x1)))) (@SessionD.mk (0 : Int) (0 : Int) (@List.nil UInt8) VerdictD.dflt)))) (@VerdictD.member (@SessionD.last (@List.getD SessionD (@HAppend.hAppend (@List SessionD) (@List SessionD) (@List SessionD) _ (@List.take SessionD (0 : Nat) (@List.drop SessionD (0 : Nat) (@List.nil SessionD))) (@List.take SessionD (@List.length SessionD (@TabI.l x1)) (@List.drop SessionD (0 : Nat) (@TabI.l x1)))) (@HAdd.hAdd _ _ _ _ (0 : Nat) (@Int.toNat (@idxF (@idIs (@TabI.n x1)) (@TabI.l x1)))) (@SessionD.mk (0 : Int) (0 : Int) (@List.nil UInt8) VerdictD.dflt))))))) (@HAdd.hAdd _ _ _ _ (0 : Nat) (@Int.toNat (@idxF (@idIs (@TabI.n x1)) (@TabI.l x1)))) (@SessionD.mk (0 : Int) (0 : Int) (@List.nil UInt8) VerdictD.dflt))) (@SessionD.seq (@List.getD SessionD (@List.set SessionD (@HAppend.hAppend (@List SessionD) (@List SessionD) (@List SessionD) _ (@List.take SessionD (0 : Nat) (@List.drop SessionD (0 : Nat) (@List.nil SessionD))) (@List.take SessionD (@List.length SessionD (@TabI.l x1)) (@List.drop SessionD (0 : Nat) (@TabI.l x1)))) (@HAdd.hAdd _ _ _ _ (0 : Nat) (@Int.toNat (@idxF (@idIs (@TabI.n x1)) (@TabI.l x1)))) (@SessionD.mk (@SessionD.id (@List.getD SessionD (@HAppend.hAppend (@List SessionD) (@List SessionD) (@List SessionD) _ (@List.take SessionD (0 : Nat) (@List.drop SessionD (0 : Nat) (@List.nil SessionD))) (@List.take SessionD (@List.length SessionD (@TabI.l x1)) (@List.drop SessionD (0 : Nat) (@TabI.l x1)))) (@HAdd.hAdd _ _ _ _ (0 : Nat) (@Int.toNat (@idxF (@idIs (@TabI.n x1)) (@TabI.l x1)))) (@SessionD.mk (0 : Int) (0 : Int) (@List.nil UInt8) VerdictD.dflt))) (@DoneA.seq x) (@SessionD.name (@List.getD SessionD (@HAppend.hAppend (@List SessionD) (@List SessionD) (@List SessionD) _ (@List.take SessionD (0 : Nat) (@List.drop SessionD (0 : Nat) (@List.nil SessionD))) (@List.take SessionD (@List.length SessionD (@TabI.l x1)) (@List.drop SessionD (0 : Nat) (@TabI.l x1)))) (@HAdd.hAdd _ _ _ _ (0 : Nat) (@Int.toNat (@idxF (@idIs (@TabI.n x1)) (@TabI.l x1)))) (@SessionD.mk (0 : Int) (0 : Int) (@List.nil UInt8) VerdictD.dflt))) (@VerdictD.mk (@VerdictD.code (@SessionD.last (@List.getD SessionD (@HAppend.hAppend (@List SessionD) (@List SessionD) (@List SessionD) _ (@List.take SessionD (0 : Nat) (@List.drop SessionD (0 : Nat) (@List.nil SessionD))) (@List.take SessionD (@List.length SessionD (@TabI.l x1)) (@List.drop SessionD (0 : Nat) (@TabI.l x1)))) (@HAdd.hAdd _ _ _ _ (0 : Nat) (@Int.toNat (@idxF (@idIs (@TabI.n x1)) (@TabI.l x1)))) (@SessionD.mk (0 : Int) (0 : Int) (@List.nil UInt8) VerdictD.dflt)))) (@VerdictD.session (@SessionD.last (@List.getD SessionD (@HAppend.hAppend (@List SessionD) (@List SessionD) (@List SessionD) _ (@List.take SessionD (0 : Nat) (@List.drop SessionD (0 : Nat) (@List.nil SessionD))) (@List.take SessionD (@List.length SessionD (@TabI.l x1)) (@List.drop SessionD (0 : Nat) (@TabI.l x1)))) (@HAdd.hAdd _ _ _ _ (0 : Nat) (@Int.toNat (@idxF (@idIs (@TabI.n x1)) (@TabI.l x1)))) (@SessionD.mk (0 : Int) (0 : Int) (@List.nil UInt8) VerdictD.dflt)))) (@VerdictD.rev (@SessionD.last (@List.getD SessionD (@HAppend.hAppend (@List SessionD) (@List SessionD) (@List SessionD) _ (@List.take SessionD (0 : Nat) (@List.drop SessionD (0 : Nat) (@List.nil SessionD))) (@List.take SessionD (@List.length SessionD (@TabI.l x1)) (@List.drop SessionD (0 : Nat) (@TabI.l x1)))) (@HAdd.hAdd _ _ _ _ (0 : Nat) (@Int.toNat (@idxF (@idIs (@TabI.n x1)) (@TabI.l x1)))) (@SessionD.mk (0 : Int) (0 : Int) (@List.nil UInt8) VerdictD.dflt)))) (@VerdictD.path (@SessionD.last (@List.getD SessionD (@HAppend.hAppend (@List SessionD) (@List SessionD) (@List SessionD) _ (@List.take SessionD (0 : Nat) (@List.drop SessionD (0 : Nat) (@List.nil SessionD))) (@List.take SessionD (@List.length SessionD (@TabI.l x1)) (@List.drop SessionD (0 : Nat) (@TabI.l x1)))) (@HAdd.hAdd _ _ _ _ (0 : Nat) (@Int.toNat (@idxF (@idIs (@TabI.n x1)) (@TabI.l x1)))) (@SessionD.mk (0 : Int) (0 : Int) (@List.nil UInt8) VerdictD.dflt)))) (@VerdictD.digest (@SessionD.last (@List.getD SessionD (@HAppend.hAppend (@List SessionD) (@List SessionD) (@List SessionD) _ (@List.take SessionD (0 : Nat) (@List.drop SessionD (0 : Nat) (@List.nil SessionD))) (@List.take SessionD (@List.length SessionD (@TabI.l x1)) (@List.drop SessionD (0 : Nat) (@TabI.l x1)))) (@HAdd.hAdd _ _ _ _ (0 : Nat) (@Int.toNat (@idxF (@idIs (@TabI.n x1)) (@TabI.l x1)))) (@SessionD.mk (0 : Int) (0 : Int) (@List.nil UInt8) VerdictD.dflt)))) (@VerdictD.commits (@SessionD.last (@List.getD SessionD (@HAppend.hAppend (@List SessionD) (@List SessionD) (@List SessionD) _ (@List.take SessionD (0 : Nat) (@List.drop SessionD (0 : Nat) (@List.nil SessionD))) (@List.take SessionD (@List.length SessionD (@TabI.l x1)) (@List.drop SessionD (0 : Nat) (@TabI.l x1)))) (@HAdd.hAdd _ _ _ _ (0 : Nat) (@Int.toNat (@idxF (@idIs (@TabI.n x1)) (@TabI.l x1)))) (@SessionD.mk (0 : Int) (0 : Int) (@List.nil UInt8) VerdictD.dflt)))) (@VerdictD.member (@SessionD.last (@List.getD SessionD (@HAppend.hAppend (@List SessionD) (@List SessionD) (@List SessionD) _ (@List.take SessionD (0 : Nat) (@List.drop SessionD (0 : Nat) (@List.nil SessionD))) (@List.take SessionD (@List.length SessionD (@TabI.l x1)) (@List.drop SessionD (0 : Nat) (@TabI.l x1)))) (@HAdd.hAdd _ _ _ _ (0 : Nat) (@Int.toNat (@idxF (@idIs (@TabI.n x1)) (@TabI.l x1)))) (@SessionD.mk (0 : Int) (0 : Int) (@List.nil UInt8) VerdictD.dflt))))))) (@HAdd.hAdd _ _ _ _ (0 : Nat) (@Int.toNat (@idxF (@idIs (@TabI.n x1)) (@TabI.l x1)))) (@SessionD.mk (0 : Int) (0 : Int) (@List.nil UInt8) VerdictD.dflt))) (@SessionD.name (@List.getD SessionD (@List.set SessionD (@HAppend.hAppend (@List SessionD) (@List SessionD) (@List SessionD) _ (@List.take SessionD (0 : Nat) (@List.drop SessionD (0 : Nat) (@List.nil SessionD))) (@List.take SessionD (@List.length SessionD (@TabI.l x1)) (@List.drop SessionD (0 : Nat) (@TabI.l x1)))) (@HAdd.hAdd _ _ _ _ (0 : Nat) (@Int.toNat (@idxF (@idIs (@TabI.n x1)) (@TabI.l x1)))) (@SessionD.mk (@SessionD.id (@List.getD SessionD (@HAppend.hAppend (@List SessionD) (@List SessionD) (@List SessionD) _ (@List.take SessionD (0 : Nat) (@List.drop SessionD (0 : Nat) (@List.nil SessionD))) (@List.take SessionD (@List.length SessionD (@TabI.l x1)) (@List.drop SessionD (0 : Nat) (@TabI.l x1)))) (@HAdd.hAdd _ _ _ _ (0 : Nat) (@Int.toNat (@idxF (@idIs (@TabI.n x1)) (@TabI.l x1)))) (@SessionD.mk (0 : Int) (0 : Int) (@List.nil UInt8) VerdictD.dflt))) (@DoneA.seq x) (@SessionD.name (@List.getD SessionD (@HAppend.hAppend (@List SessionD) (@List SessionD) (@List SessionD) _ (@List.take SessionD (0 : Nat) (@List.drop SessionD (0 : Nat) (@List.nil SessionD))) (@List.take SessionD (@List.length SessionD (@TabI.l x1)) (@List.drop SessionD (0 : Nat) (@TabI.l x1)))) (@HAdd.hAdd _ _ _ _ (0 : Nat) (@Int.toNat (@idxF (@idIs (@TabI.n x1)) (@TabI.l x1)))) (@SessionD.mk (0 : Int) (0 : Int) (@List.nil UInt8) VerdictD.dflt))) (@VerdictD.mk (@VerdictD.code (@SessionD.last (@List.getD SessionD (@HAppend.hAppend (@List SessionD) (@List SessionD) (@List SessionD) _ (@List.take SessionD (0 : Nat) (@List.drop SessionD (0 : Nat) (@List.nil SessionD))) (@List.take SessionD (@List.length SessionD (@TabI.l x1)) (@List.drop SessionD (0 : Nat) (@TabI.l x1)))) (@HAdd.hAdd _ _ _ _ (0 : Nat) (@Int.toNat (@idxF (@idIs (@TabI.n x1)) (@TabI.l x1)))) (@SessionD.mk (0 : Int) (0 : Int) (@List.nil UInt8) VerdictD.dflt)))) (@VerdictD.session (@SessionD.last (@List.getD SessionD (@HAppend.hAppend (@List SessionD) (@List SessionD) (@List SessionD) _ (@List.take SessionD (0 : Nat) (@List.drop SessionD (0 : Nat) (@List.nil SessionD))) (@List.take SessionD (@List.length SessionD (@TabI.l x1)) (@List.drop SessionD (0 : Nat) (@TabI.l x1)))) (@HAdd.hAdd _ _ _ _ (0 : Nat) (@Int.toNat (@idxF (@idIs (@TabI.n x1)) (@TabI.l x1)))) (@SessionD.mk (0 : Int) (0 : Int) (@List.nil UInt8) VerdictD.dflt)))) (@VerdictD.rev (@SessionD.last (@List.getD SessionD (@HAppend.hAppend (@List SessionD) (@List SessionD) (@List SessionD) _ (@List.take SessionD (0 : Nat) (@List.drop SessionD (0 : Nat) (@List.nil SessionD))) (@List.take SessionD (@List.length SessionD (@TabI.l x1)) (@List.drop SessionD (0 : Nat) (@TabI.l x1)))) (@HAdd.hAdd _ _ _ _ (0 : Nat) (@Int.toNat (@idxF (@idIs (@TabI.n x1)) (@TabI.l x1)))) (@SessionD.mk (0 : Int) (0 : Int) (@List.nil UInt8) VerdictD.dflt)))) (@VerdictD.path (@SessionD.last (@List.getD SessionD (@HAppend.hAppend (@List SessionD) (@List SessionD) (@List SessionD) _ (@List.take SessionD (0 : Nat) (@List.drop SessionD (0 : Nat) (@List.nil SessionD))) (@List.take SessionD (@List.length SessionD (@TabI.l x1)) (@List.drop SessionD (0 : Nat) (@TabI.l x1)))) (@HAdd.hAdd _ _ _ _ (0 : Nat) (@Int.toNat (@idxF (@idIs (@TabI.n x1)) (@TabI.l x1)))) (@SessionD.mk (0 : Int) (0 : Int) (@List.nil UInt8) VerdictD.dflt)))) (@VerdictD.digest (@SessionD.last (@List.getD SessionD (@HAppend.hAppend (@List SessionD) (@List SessionD) (@List SessionD) _ (@List.take SessionD (0 : Nat) (@List.drop SessionD (0 : Nat) (@List.nil SessionD))) (@List.take SessionD (@List.length SessionD (@TabI.l x1)) (@List.drop SessionD (0 : Nat) (@TabI.l x1)))) (@HAdd.hAdd _ _ _ _ (0 : Nat) (@Int.toNat (@idxF (@idIs (@TabI.n x1)) (@TabI.l x1)))) (@SessionD.mk (0 : Int) (0 : Int) (@List.nil UInt8) VerdictD.dflt)))) (@VerdictD.commits (@SessionD.last (@List.getD SessionD (@HAppend.hAppend (@List SessionD) (@List SessionD) (@List SessionD) _ (@List.take SessionD (0 : Nat) (@List.drop SessionD (0 : Nat) (@List.nil SessionD))) (@List.take SessionD (@List.length SessionD (@TabI.l x1)) (@List.drop SessionD (0 : Nat) (@TabI.l x1)))) (@HAdd.hAdd _ _ _ _ (0 : Nat) (@Int.toNat (@idxF (@idIs (@TabI.n x1)) (@TabI.l x1)))) (@SessionD.mk (0 : Int) (0 : Int) (@List.nil UInt8) VerdictD.dflt)))) (@VerdictD.member (@SessionD.last (@List.getD SessionD (@HAppend.hAppend (@List SessionD) (@List SessionD) (@List SessionD) _ (@List.take SessionD (0 : Nat) (@List.drop SessionD (0 : Nat) (@List.nil SessionD))) (@List.take SessionD (@List.length SessionD (@TabI.l x1)) (@List.drop SessionD (0 : Nat) (@TabI.l x1)))) (@HAdd.hAdd _ _ _ _ (0 : Nat) (@Int.toNat (@idxF (@idIs (@TabI.n x1)) (@TabI.l x1)))) (@SessionD.mk (0 : Int) (0 : Int) (@List.nil UInt8) VerdictD.dflt))))))) (@HAdd.hAdd _ _ _ _ (0 : Nat) (@Int.toNat (@idxF (@idIs (@TabI.n x1)) (@TabI.l x1)))) (@SessionD.mk (0 : Int) (0 : Int) (@List.nil UInt8) VerdictD.dflt))) (@VerdictD.mk (@VerdictD.code x8) (@VerdictD.session x8) (@VerdictD.rev x8) (@VerdictD.path x8) (@VerdictD.digest x8) (@VerdictD.commits x8) (@VerdictD.member x8)))) (@Prod.snd Bool (@List SessionD) (@doneL x))) ∧
 True))))))
 (Bad "check" "session.go:129"))
 (Bad "check" "session.go:129"))
 (Bad "check" "session.go:129"))
 (Bad "check" "session.go:129")))))))))))))
 (Bad "check" "slices.go:362")))))))
 (Bad "check" "session.go:125"))
 (Bad "check" "session.go:125"))))))))))))) := by kernel_rfl

theorem cp_vc (x : cpT.γ) : evCall cpE (ev cpE 1000) 38 (cpT.args x) ⟨cpT.blks x, cpT.n0, []⟩ (fun _ _ => False) (cpT.ends x) = (
(∀ x1 : Bool,
 (((@Eq Bool x1 Bool.true) →
 (@Eq Nat (@List.length SessionD x) (0 : Nat))) →
 (br x1
 ((∃ x2 : Unit,
 ((@Eq Int (0 : Int) (0 : Int)) ∧
 True)) ∧
 (∀ x3 : Unit,
 (True →
 (∃ x4 : Unit,
 ((@Eq Nat (0 : Nat) (@List.length SessionD x)) ∧
 ((@Eq (@List SessionD) x x) ∧
 ((@Eq (@List SessionD) (@List.nil SessionD) x) ∧
 True)))))))
 (((@Nat.le (@HMul.hMul _ _ _ _ (0 : Nat) (112 : Nat)) room47) ∧
 (@Nat.le (@HMul.hMul _ _ _ _ (@List.length SessionD x) (112 : Nat)) room47)) →
 (br (@Bool.and (@Bool.and (@Decidable.decide (@LE.le Nat _ (@HAdd.hAdd _ _ _ _ (0 : Nat) (@List.length SessionD x)) (@List.length SessionD x)) _) (@Decidable.decide (@LE.le Nat _ (@HAdd.hAdd _ _ _ _ (0 : Nat) (0 : Nat)) (@List.length SessionD (@List.nil SessionD))) _)) (@Decidable.decide (@LE.le Nat _ (@HMul.hMul _ _ _ _ (@HAdd.hAdd _ _ _ _ (0 : Nat) (@List.length SessionD (@List.take SessionD (@List.length SessionD x) (@List.drop SessionD (0 : Nat) x)))) (112 : Nat)) room47) _))
 ((@LE.le Nat _ (@HMul.hMul _ _ _ _ (@HAdd.hAdd _ _ _ _ (0 : Nat) (@List.length SessionD (@List.take SessionD (@List.length SessionD x) (@List.drop SessionD (0 : Nat) x)))) (112 : Nat)) room47) →
 ((∃ x5 : Nat,
 ((@Eq Int (0 : Int) (Nat.cast x5 : Int)) ∧
 ((@Eq (@List SessionD) (@HAppend.hAppend (@List SessionD) (@List SessionD) (@List SessionD) _ (@List.take SessionD (0 : Nat) (@List.drop SessionD (0 : Nat) (@List.nil SessionD))) (@List.take SessionD (@List.length SessionD x) (@List.drop SessionD (0 : Nat) x))) (@HAppend.hAppend (@List SessionD) (@List SessionD) (@List SessionD) _ (@List.take SessionD (0 : Nat) (@List.drop SessionD (0 : Nat) (@List.nil SessionD))) (@List.take SessionD (@List.length SessionD x) (@List.drop SessionD (0 : Nat) x)))) ∧
 (@Nat.le x5 (@List.length SessionD (@HAppend.hAppend (@List SessionD) (@List SessionD) (@List SessionD) _ (@List.take SessionD (0 : Nat) (@List.drop SessionD (0 : Nat) (@List.nil SessionD))) (@List.take SessionD (@List.length SessionD x) (@List.drop SessionD (0 : Nat) x)))))))) ∧
 (∀ x6 : Nat,
 ((@Nat.le x6 (@List.length SessionD (@HAppend.hAppend (@List SessionD) (@List SessionD) (@List SessionD) _ (@List.take SessionD (0 : Nat) (@List.drop SessionD (0 : Nat) (@List.nil SessionD))) (@List.take SessionD (@List.length SessionD x) (@List.drop SessionD (0 : Nat) x))))) →
 (br (@Decidable.decide (@LT.lt Int _ (Nat.cast x6 : Int) (Nat.cast (@HAdd.hAdd _ _ _ _ (0 : Nat) (@List.length SessionD (@List.take SessionD (@List.length SessionD x) (@List.drop SessionD (0 : Nat) x)))) : Int)) _)
 (br (@Decidable.decide ((@LE.le Int _ (0 : Int) (Nat.cast x6 : Int)) ∧
 (@LT.lt Int _ (Nat.cast x6 : Int) (Nat.cast (@HAdd.hAdd _ _ _ _ (0 : Nat) (@List.length SessionD (@List.take SessionD (@List.length SessionD x) (@List.drop SessionD (0 : Nat) x)))) : Int))) _)
 (br (@Decidable.decide (@LT.lt Nat _ (@HAdd.hAdd _ _ _ _ (0 : Nat) (@Int.toNat (Nat.cast x6 : Int))) (@List.length SessionD (@HAppend.hAppend (@List SessionD) (@List SessionD) (@List SessionD) _ (@List.take SessionD (0 : Nat) (@List.drop SessionD (0 : Nat) (@List.nil SessionD))) (@List.take SessionD (@List.length SessionD x) (@List.drop SessionD (0 : Nat) x))))) _)
 (∃ x7 : VerdictD,
 ((@Eq Int (@VerdictD.code (@SessionD.last (@List.getD SessionD (@HAppend.hAppend (@List SessionD) (@List SessionD) (@List SessionD) _ (@List.take SessionD (0 : Nat) (@List.drop SessionD (0 : Nat) (@List.nil SessionD))) (@List.take SessionD (@List.length SessionD x) (@List.drop SessionD (0 : Nat) x))) (@HAdd.hAdd _ _ _ _ (0 : Nat) (@Int.toNat (Nat.cast x6 : Int))) (@SessionD.mk (0 : Int) (0 : Int) (@List.nil UInt8) VerdictD.dflt)))) (@VerdictD.code x7)) ∧
 ((@Eq Int (@VerdictD.session (@SessionD.last (@List.getD SessionD (@HAppend.hAppend (@List SessionD) (@List SessionD) (@List SessionD) _ (@List.take SessionD (0 : Nat) (@List.drop SessionD (0 : Nat) (@List.nil SessionD))) (@List.take SessionD (@List.length SessionD x) (@List.drop SessionD (0 : Nat) x))) (@HAdd.hAdd _ _ _ _ (0 : Nat) (@Int.toNat (Nat.cast x6 : Int))) (@SessionD.mk (0 : Int) (0 : Int) (@List.nil UInt8) VerdictD.dflt)))) (@VerdictD.session x7)) ∧
 ((@Eq Int (@VerdictD.rev (@SessionD.last (@List.getD SessionD (@HAppend.hAppend (@List SessionD) (@List SessionD) (@List SessionD) _ (@List.take SessionD (0 : Nat) (@List.drop SessionD (0 : Nat) (@List.nil SessionD))) (@List.take SessionD (@List.length SessionD x) (@List.drop SessionD (0 : Nat) x))) (@HAdd.hAdd _ _ _ _ (0 : Nat) (@Int.toNat (Nat.cast x6 : Int))) (@SessionD.mk (0 : Int) (0 : Int) (@List.nil UInt8) VerdictD.dflt)))) (@VerdictD.rev x7)) ∧
 ((@Eq Bs (@VerdictD.path (@SessionD.last (@List.getD SessionD (@HAppend.hAppend (@List SessionD) (@List SessionD) (@List SessionD) _ (@List.take SessionD (0 : Nat) (@List.drop SessionD (0 : Nat) (@List.nil SessionD))) (@List.take SessionD (@List.length SessionD x) (@List.drop SessionD (0 : Nat) x))) (@HAdd.hAdd _ _ _ _ (0 : Nat) (@Int.toNat (Nat.cast x6 : Int))) (@SessionD.mk (0 : Int) (0 : Int) (@List.nil UInt8) VerdictD.dflt)))) (@VerdictD.path x7)) ∧
 ((@Eq Int (@VerdictD.digest (@SessionD.last (@List.getD SessionD (@HAppend.hAppend (@List SessionD) (@List SessionD) (@List SessionD) _ (@List.take SessionD (0 : Nat) (@List.drop SessionD (0 : Nat) (@List.nil SessionD))) (@List.take SessionD (@List.length SessionD x) (@List.drop SessionD (0 : Nat) x))) (@HAdd.hAdd _ _ _ _ (0 : Nat) (@Int.toNat (Nat.cast x6 : Int))) (@SessionD.mk (0 : Int) (0 : Int) (@List.nil UInt8) VerdictD.dflt)))) (@VerdictD.digest x7)) ∧
 ((@Eq (@List CommitD) (@VerdictD.commits (@SessionD.last (@List.getD SessionD (@HAppend.hAppend (@List SessionD) (@List SessionD) (@List SessionD) _ (@List.take SessionD (0 : Nat) (@List.drop SessionD (0 : Nat) (@List.nil SessionD))) (@List.take SessionD (@List.length SessionD x) (@List.drop SessionD (0 : Nat) x))) (@HAdd.hAdd _ _ _ _ (0 : Nat) (@Int.toNat (Nat.cast x6 : Int))) (@SessionD.mk (0 : Int) (0 : Int) (@List.nil UInt8) VerdictD.dflt)))) (@VerdictD.commits x7)) ∧
 ((@Eq Int (@VerdictD.member (@SessionD.last (@List.getD SessionD (@HAppend.hAppend (@List SessionD) (@List SessionD) (@List SessionD) _ (@List.take SessionD (0 : Nat) (@List.drop SessionD (0 : Nat) (@List.nil SessionD))) (@List.take SessionD (@List.length SessionD x) (@List.drop SessionD (0 : Nat) x))) (@HAdd.hAdd _ _ _ _ (0 : Nat) (@Int.toNat (Nat.cast x6 : Int))) (@SessionD.mk (0 : Int) (0 : Int) (@List.nil UInt8) VerdictD.dflt)))) (@VerdictD.member x7)) ∧
 (True ∧
 (∀ x8 : Unit,
 (True →
 (br (@Decidable.decide ((@LE.le Int _ (0 : Int) (Nat.cast x6 : Int)) ∧
 (@LT.lt Int _ (Nat.cast x6 : Int) (Nat.cast (@HAdd.hAdd _ _ _ _ (0 : Nat) (@List.length SessionD (@List.take SessionD (@List.length SessionD x) (@List.drop SessionD (0 : Nat) x)))) : Int))) _)
 (br (@Bool.and Bool.true (@Decidable.decide (@LT.lt Nat _ (@HAdd.hAdd _ _ _ _ (0 : Nat) (@Int.toNat (Nat.cast x6 : Int))) (@List.length SessionD (@HAppend.hAppend (@List SessionD) (@List SessionD) (@List SessionD) _ (@List.take SessionD (0 : Nat) (@List.drop SessionD (0 : Nat) (@List.nil SessionD))) (@List.take SessionD (@List.length SessionD x) (@List.drop SessionD (0 : Nat) x))))) _))
 (∃ x9 : Nat,
 ((@Eq Int (@Go.IntKind.wrap Go.IntKind.i64 (@HAdd.hAdd Int Int Int _ (Nat.cast x6 : Int) (1 : Int))) (Nat.cast x9 : Int)) ∧
 ((@Eq (@List SessionD) (@List.set SessionD (@HAppend.hAppend (@List SessionD) (@List SessionD) (@List SessionD) _ (@List.take SessionD (0 : Nat) (@List.drop SessionD (0 : Nat) (@List.nil SessionD))) (@List.take SessionD (@List.length SessionD x) (@List.drop SessionD (0 : Nat) x))) (@HAdd.hAdd _ _ _ _ (0 : Nat) (@Int.toNat (Nat.cast x6 : Int))) (@SessionD.mk (@SessionD.id (@List.getD SessionD (@HAppend.hAppend (@List SessionD) (@List SessionD) (@List SessionD) _ (@List.take SessionD (0 : Nat) (@List.drop SessionD (0 : Nat) (@List.nil SessionD))) (@List.take SessionD (@List.length SessionD x) (@List.drop SessionD (0 : Nat) x))) (@HAdd.hAdd _ _ _ _ (0 : Nat) (@Int.toNat (Nat.cast x6 : Int))) (@SessionD.mk (0 : Int) (0 : Int) (@List.nil UInt8) VerdictD.dflt))) (@SessionD.seq (@List.getD SessionD (@HAppend.hAppend (@List SessionD) (@List SessionD) (@List SessionD) _ (@List.take SessionD (0 : Nat) (@List.drop SessionD (0 : Nat) (@List.nil SessionD))) (@List.take SessionD (@List.length SessionD x) (@List.drop SessionD (0 : Nat) x))) (@HAdd.hAdd _ _ _ _ (0 : Nat) (@Int.toNat (Nat.cast x6 : Int))) (@SessionD.mk (0 : Int) (0 : Int) (@List.nil UInt8) VerdictD.dflt))) (@SessionD.name (@List.getD SessionD (@HAppend.hAppend (@List SessionD) (@List SessionD) (@List SessionD) _ (@List.take SessionD (0 : Nat) (@List.drop SessionD (0 : Nat) (@List.nil SessionD))) (@List.take SessionD (@List.length SessionD x) (@List.drop SessionD (0 : Nat) x))) (@HAdd.hAdd _ _ _ _ (0 : Nat) (@Int.toNat (Nat.cast x6 : Int))) (@SessionD.mk (0 : Int) (0 : Int) (@List.nil UInt8) VerdictD.dflt))) (@VerdictD.mk (@VerdictD.code x7) (@VerdictD.session x7) (@VerdictD.rev x7) (@VerdictD.path x7) (@VerdictD.digest x7) (@VerdictD.commits x7) (@VerdictD.member x7)))) (@HAppend.hAppend (@List SessionD) (@List SessionD) (@List SessionD) _ (@List.take SessionD (0 : Nat) (@List.drop SessionD (0 : Nat) (@List.nil SessionD))) (@List.take SessionD (@List.length SessionD x) (@List.drop SessionD (0 : Nat) x)))) ∧
 ((@Nat.le x9 (@List.length SessionD (@HAppend.hAppend (@List SessionD) (@List SessionD) (@List SessionD) _ (@List.take SessionD (0 : Nat) (@List.drop SessionD (0 : Nat) (@List.nil SessionD))) (@List.take SessionD (@List.length SessionD x) (@List.drop SessionD (0 : Nat) x))))) ∧
 (@LT.lt Nat _ (@Nat.sub (@List.length SessionD (@HAppend.hAppend (@List SessionD) (@List SessionD) (@List SessionD) _ (@List.take SessionD (0 : Nat) (@List.drop SessionD (0 : Nat) (@List.nil SessionD))) (@List.take SessionD (@List.length SessionD x) (@List.drop SessionD (0 : Nat) x)))) x9) (@Nat.sub (@List.length SessionD (@HAppend.hAppend (@List SessionD) (@List SessionD) (@List SessionD) _ (@List.take SessionD (0 : Nat) (@List.drop SessionD (0 : Nat) (@List.nil SessionD))) (@List.take SessionD (@List.length SessionD x) (@List.drop SessionD (0 : Nat) x)))) x6))))))
 (Bad "check" "session.go:40"))
 (Bad "check" "session.go:40")))))))))))))
 (Bad "check" "session.go:40"))
 (Bad "check" "session.go:40"))
 (∃ x10 : Unit,
 ((@Eq Nat (0 : Nat) (0 : Nat)) ∧
 ((@Eq Nat (@HAdd.hAdd _ _ _ _ (0 : Nat) (@List.length SessionD (@List.take SessionD (@List.length SessionD x) (@List.drop SessionD (0 : Nat) x)))) (@List.length SessionD x)) ∧
 ((@Eq (@List SessionD) x x) ∧
 ((@Eq (@List SessionD) (@HAppend.hAppend (@List SessionD) (@List SessionD) (@List SessionD) _ (@List.take SessionD (0 : Nat) (@List.drop SessionD (0 : Nat) (@List.nil SessionD))) (@List.take SessionD (@List.length SessionD x) (@List.drop SessionD (0 : Nat) x))) x) ∧
 True))))))))))
 (Bad "check" "slices.go:362"))))))) := by kernel_rfl

theorem all_vc (x : allT.γ) : evCall cpE2 (ev cpE2 1000) 17 (allT.args x) ⟨allT.blks x, allT.n0, []⟩ (fun _ _ => False) (allT.ends x) = (
(br (@Bool.not (@Decidable.decide (@GT.gt Int _ (@TabA.size x) (0 : Int)) _))
 (∃ x1 : Unit,
 ((@Eq Nat (0 : Nat) (@List.length SessionD (@TabA.l x))) ∧
 ((@Eq Int (@TabA.size x) (@TabA.size x)) ∧
 ((@Eq Nat (0 : Nat) (0 : Nat)) ∧
 ((@Eq Nat (@List.length SessionD (@TabA.l x)) (@List.length SessionD (@TabA.l x))) ∧
 ((@Eq (@List SessionD) (@TabA.l x) (@TabA.l x)) ∧
 ((@Eq (@List SessionD) (@List.nil SessionD) (@TabA.l x)) ∧
 True)))))))
 (∃ x2 : (@List SessionD),
 ((@Eq Nat (0 : Nat) (0 : Nat)) ∧
 ((@Eq Nat (@List.length SessionD (@TabA.l x)) (@List.length SessionD x2)) ∧
 ((@Eq (@List SessionD) (@TabA.l x) x2) ∧
 (True ∧
 (∀ x3 : Unit,
 (True →
 (∃ x4 : Unit,
 ((@Eq Nat (0 : Nat) (0 : Nat)) ∧
 ((@Eq Nat (@List.length SessionD x2) (@List.length SessionD (@TabA.l x))) ∧
 ((@Eq Int (@TabA.size x) (@TabA.size x)) ∧
 ((@Eq Nat (0 : Nat) (0 : Nat)) ∧
 ((@Eq Nat (@List.length SessionD (@TabA.l x)) (@List.length SessionD (@TabA.l x))) ∧
 ((@Eq (@List SessionD) x2 (@TabA.l x)) ∧
 ((@Eq (@List SessionD) x2 (@TabA.l x)) ∧
 True))))))))))))))))) := by kernel_rfl

theorem clone_vc (x : cloneT.γ) : evCall cpE2 (ev cpE2 1000) 21 (cloneT.args x) ⟨cloneT.blks x, cloneT.n0, []⟩ (fun _ _ => False) (cloneT.ends x) = (
(br (@Bool.not (@Decidable.decide (@GT.gt Int _ (@TabA.size x) (0 : Int)) _))
 (∃ x1 : Unit,
 (Bad "match: mptr" ""))
 (∃ x2 : (@List SessionD),
 ((@Eq Nat (0 : Nat) (0 : Nat)) ∧
 ((@Eq Nat (@List.length SessionD (@TabA.l x)) (@List.length SessionD x2)) ∧
 ((@Eq (@List SessionD) (@TabA.l x) x2) ∧
 (True ∧
 (∀ x3 : Unit,
 (True →
 (∃ x4 : Unit,
 ((@Eq Int (@TabA.size x) (@TabA.size x)) ∧
 ((@Eq Nat (0 : Nat) (0 : Nat)) ∧
 ((@Eq Nat (@List.length SessionD (@TabA.l x)) (@List.length SessionD (@TabA.l x))) ∧
 ((@Eq (@List SessionD) x2 (@TabA.l x)) ∧
 ((@Eq Int (@TabA.size x) (@TabA.size x)) ∧
 ((@Eq Nat (0 : Nat) (0 : Nat)) ∧
 ((@Eq Nat (@List.length SessionD x2) (@List.length SessionD (@TabA.l x))) ∧
 ((@Eq (@List SessionD) x2 (@TabA.l x)) ∧
 True)))))))))))))))))) := by kernel_rfl

theorem find_vc (x : findT.γ) : evCall opE (ev opE 1000) 25 (findT.args x) ⟨findT.blks x, findT.n0, []⟩ (fun _ _ => False) (findT.ends x) = (
(∃ x1 : TabI,
 ((@Eq Int (@TabI.n x) (@TabI.n x1)) ∧
 ((@Eq Int (@TabI.size x) (@TabI.size x1)) ∧
 ((@Eq Nat (0 : Nat) (0 : Nat)) ∧
 ((@Eq Nat (@List.length SessionD (@TabI.l x)) (@List.length SessionD (@TabI.l x1))) ∧
 ((@Eq (@List SessionD) (@TabI.l x) (@TabI.l x1)) ∧
 ((@Eq Bool (@Decidable.decide (@LT.lt Int _ (0 : Int) (@TabI.size x1)) _) Bool.true) ∧
 (∀ x2 : Unit,
 (True →
 (br (@Decidable.decide (@LT.lt Int _ (@idxF (@idIs (@TabI.n x1)) (@TabI.l x1)) (0 : Int)) _)
 (∃ x3 : Unit,
 ((@Eq Int (0 : Int) (@SessionD.id (@cond SessionD (@Decidable.decide (@LT.lt Int _ (@idxF (@idIs (@TabI.n x)) (@TabI.l x)) (0 : Int)) _) (@SessionD.mk (0 : Int) (0 : Int) (@List.nil UInt8) VerdictD.dflt) (@atL (@TabI.l x) (@idxF (@idIs (@TabI.n x)) (@TabI.l x)))))) ∧
 ((@Eq Int (0 : Int) (@SessionD.seq (@cond SessionD (@Decidable.decide (@LT.lt Int _ (@idxF (@idIs (@TabI.n x)) (@TabI.l x)) (0 : Int)) _) (@SessionD.mk (0 : Int) (0 : Int) (@List.nil UInt8) VerdictD.dflt) (@atL (@TabI.l x) (@idxF (@idIs (@TabI.n x)) (@TabI.l x)))))) ∧
 ((@Eq Bs (@Array.toList UInt8 (@ByteArray.data (@ByteArray.mk (@List.toArray UInt8 (@List.nil UInt8))))) (@SessionD.name (@cond SessionD (@Decidable.decide (@LT.lt Int _ (@idxF (@idIs (@TabI.n x)) (@TabI.l x)) (0 : Int)) _) (@SessionD.mk (0 : Int) (0 : Int) (@List.nil UInt8) VerdictD.dflt) (@atL (@TabI.l x) (@idxF (@idIs (@TabI.n x)) (@TabI.l x)))))) ∧
 ((@Eq Int (0 : Int) (@VerdictD.code (@SessionD.last (@cond SessionD (@Decidable.decide (@LT.lt Int _ (@idxF (@idIs (@TabI.n x)) (@TabI.l x)) (0 : Int)) _) (@SessionD.mk (0 : Int) (0 : Int) (@List.nil UInt8) VerdictD.dflt) (@atL (@TabI.l x) (@idxF (@idIs (@TabI.n x)) (@TabI.l x))))))) ∧
 ((@Eq Int (0 : Int) (@VerdictD.session (@SessionD.last (@cond SessionD (@Decidable.decide (@LT.lt Int _ (@idxF (@idIs (@TabI.n x)) (@TabI.l x)) (0 : Int)) _) (@SessionD.mk (0 : Int) (0 : Int) (@List.nil UInt8) VerdictD.dflt) (@atL (@TabI.l x) (@idxF (@idIs (@TabI.n x)) (@TabI.l x))))))) ∧
 ((@Eq Int (0 : Int) (@VerdictD.rev (@SessionD.last (@cond SessionD (@Decidable.decide (@LT.lt Int _ (@idxF (@idIs (@TabI.n x)) (@TabI.l x)) (0 : Int)) _) (@SessionD.mk (0 : Int) (0 : Int) (@List.nil UInt8) VerdictD.dflt) (@atL (@TabI.l x) (@idxF (@idIs (@TabI.n x)) (@TabI.l x))))))) ∧
 ((@Eq Bs (@Array.toList UInt8 (@ByteArray.data (@ByteArray.mk (@List.toArray UInt8 (@List.nil UInt8))))) (@VerdictD.path (@SessionD.last (@cond SessionD (@Decidable.decide (@LT.lt Int _ (@idxF (@idIs (@TabI.n x)) (@TabI.l x)) (0 : Int)) _) (@SessionD.mk (0 : Int) (0 : Int) (@List.nil UInt8) VerdictD.dflt) (@atL (@TabI.l x) (@idxF (@idIs (@TabI.n x)) (@TabI.l x))))))) ∧
 ((@Eq Int (0 : Int) (@VerdictD.digest (@SessionD.last (@cond SessionD (@Decidable.decide (@LT.lt Int _ (@idxF (@idIs (@TabI.n x)) (@TabI.l x)) (0 : Int)) _) (@SessionD.mk (0 : Int) (0 : Int) (@List.nil UInt8) VerdictD.dflt) (@atL (@TabI.l x) (@idxF (@idIs (@TabI.n x)) (@TabI.l x))))))) ∧
 ((@Eq (@List CommitD) (@List.nil CommitD) (@VerdictD.commits (@SessionD.last (@cond SessionD (@Decidable.decide (@LT.lt Int _ (@idxF (@idIs (@TabI.n x)) (@TabI.l x)) (0 : Int)) _) (@SessionD.mk (0 : Int) (0 : Int) (@List.nil UInt8) VerdictD.dflt) (@atL (@TabI.l x) (@idxF (@idIs (@TabI.n x)) (@TabI.l x))))))) ∧
 ((@Eq Int (0 : Int) (@VerdictD.member (@SessionD.last (@cond SessionD (@Decidable.decide (@LT.lt Int _ (@idxF (@idIs (@TabI.n x)) (@TabI.l x)) (0 : Int)) _) (@SessionD.mk (0 : Int) (0 : Int) (@List.nil UInt8) VerdictD.dflt) (@atL (@TabI.l x) (@idxF (@idIs (@TabI.n x)) (@TabI.l x))))))) ∧
 ((@Eq Bool Bool.false (@Decidable.decide (@LE.le Int _ (0 : Int) (@idxF (@idIs (@TabI.n x)) (@TabI.l x))) _)) ∧
 ((@Eq Int (@TabI.size x1) (@TabI.size x)) ∧
 ((@Eq Nat (0 : Nat) (0 : Nat)) ∧
 ((@Eq Nat (@List.length SessionD (@TabI.l x1)) (@List.length SessionD (@TabI.l x))) ∧
 ((@Eq (@List SessionD) (@TabI.l x1) (@TabI.l x)) ∧
 True))))))))))))))))
 (br (@Decidable.decide ((@LE.le Int _ (0 : Int) (@idxF (@idIs (@TabI.n x1)) (@TabI.l x1))) ∧
 (@LT.lt Int _ (@idxF (@idIs (@TabI.n x1)) (@TabI.l x1)) (Nat.cast (@List.length SessionD (@TabI.l x1)) : Int))) _)
 (br (@Decidable.decide (@LT.lt Nat _ (@HAdd.hAdd _ _ _ _ (0 : Nat) (@Int.toNat (@idxF (@idIs (@TabI.n x1)) (@TabI.l x1)))) (@List.length SessionD (@TabI.l x1))) _)
 (∃ x4 : VerdictD,
 ((@Eq Int (@VerdictD.code (@SessionD.last (@List.getD SessionD (@TabI.l x1) (@HAdd.hAdd _ _ _ _ (0 : Nat) (@Int.toNat (@idxF (@idIs (@TabI.n x1)) (@TabI.l x1)))) (@SessionD.mk (0 : Int) (0 : Int) (@List.nil UInt8) VerdictD.dflt)))) (@VerdictD.code x4)) ∧
 ((@Eq Int (@VerdictD.session (@SessionD.last (@List.getD SessionD (@TabI.l x1) (@HAdd.hAdd _ _ _ _ (0 : Nat) (@Int.toNat (@idxF (@idIs (@TabI.n x1)) (@TabI.l x1)))) (@SessionD.mk (0 : Int) (0 : Int) (@List.nil UInt8) VerdictD.dflt)))) (@VerdictD.session x4)) ∧
 ((@Eq Int (@VerdictD.rev (@SessionD.last (@List.getD SessionD (@TabI.l x1) (@HAdd.hAdd _ _ _ _ (0 : Nat) (@Int.toNat (@idxF (@idIs (@TabI.n x1)) (@TabI.l x1)))) (@SessionD.mk (0 : Int) (0 : Int) (@List.nil UInt8) VerdictD.dflt)))) (@VerdictD.rev x4)) ∧
 ((@Eq Bs (@VerdictD.path (@SessionD.last (@List.getD SessionD (@TabI.l x1) (@HAdd.hAdd _ _ _ _ (0 : Nat) (@Int.toNat (@idxF (@idIs (@TabI.n x1)) (@TabI.l x1)))) (@SessionD.mk (0 : Int) (0 : Int) (@List.nil UInt8) VerdictD.dflt)))) (@VerdictD.path x4)) ∧
 ((@Eq Int (@VerdictD.digest (@SessionD.last (@List.getD SessionD (@TabI.l x1) (@HAdd.hAdd _ _ _ _ (0 : Nat) (@Int.toNat (@idxF (@idIs (@TabI.n x1)) (@TabI.l x1)))) (@SessionD.mk (0 : Int) (0 : Int) (@List.nil UInt8) VerdictD.dflt)))) (@VerdictD.digest x4)) ∧
 ((@Eq (@List CommitD) (@VerdictD.commits (@SessionD.last (@List.getD SessionD (@TabI.l x1) (@HAdd.hAdd _ _ _ _ (0 : Nat) (@Int.toNat (@idxF (@idIs (@TabI.n x1)) (@TabI.l x1)))) (@SessionD.mk (0 : Int) (0 : Int) (@List.nil UInt8) VerdictD.dflt)))) (@VerdictD.commits x4)) ∧
 ((@Eq Int (@VerdictD.member (@SessionD.last (@List.getD SessionD (@TabI.l x1) (@HAdd.hAdd _ _ _ _ (0 : Nat) (@Int.toNat (@idxF (@idIs (@TabI.n x1)) (@TabI.l x1)))) (@SessionD.mk (0 : Int) (0 : Int) (@List.nil UInt8) VerdictD.dflt)))) (@VerdictD.member x4)) ∧
 (True ∧
 (∀ x5 : Unit,
 (True →
 (∃ x6 : Unit,
 ((@Eq Int (@SessionD.id (@List.getD SessionD (@TabI.l x1) (@HAdd.hAdd _ _ _ _ (0 : Nat) (@Int.toNat (@idxF (@idIs (@TabI.n x1)) (@TabI.l x1)))) (@SessionD.mk (0 : Int) (0 : Int) (@List.nil UInt8) VerdictD.dflt))) (@SessionD.id (@cond SessionD (@Decidable.decide (@LT.lt Int _ (@idxF (@idIs (@TabI.n x)) (@TabI.l x)) (0 : Int)) _) (@SessionD.mk (0 : Int) (0 : Int) (@List.nil UInt8) VerdictD.dflt) (@atL (@TabI.l x) (@idxF (@idIs (@TabI.n x)) (@TabI.l x)))))) ∧
 ((@Eq Int (@SessionD.seq (@List.getD SessionD (@TabI.l x1) (@HAdd.hAdd _ _ _ _ (0 : Nat) (@Int.toNat (@idxF (@idIs (@TabI.n x1)) (@TabI.l x1)))) (@SessionD.mk (0 : Int) (0 : Int) (@List.nil UInt8) VerdictD.dflt))) (@SessionD.seq (@cond SessionD (@Decidable.decide (@LT.lt Int _ (@idxF (@idIs (@TabI.n x)) (@TabI.l x)) (0 : Int)) _) (@SessionD.mk (0 : Int) (0 : Int) (@List.nil UInt8) VerdictD.dflt) (@atL (@TabI.l x) (@idxF (@idIs (@TabI.n x)) (@TabI.l x)))))) ∧
 ((@Eq Bs (@SessionD.name (@List.getD SessionD (@TabI.l x1) (@HAdd.hAdd _ _ _ _ (0 : Nat) (@Int.toNat (@idxF (@idIs (@TabI.n x1)) (@TabI.l x1)))) (@SessionD.mk (0 : Int) (0 : Int) (@List.nil UInt8) VerdictD.dflt))) (@SessionD.name (@cond SessionD (@Decidable.decide (@LT.lt Int _ (@idxF (@idIs (@TabI.n x)) (@TabI.l x)) (0 : Int)) _) (@SessionD.mk (0 : Int) (0 : Int) (@List.nil UInt8) VerdictD.dflt) (@atL (@TabI.l x) (@idxF (@idIs (@TabI.n x)) (@TabI.l x)))))) ∧
 ((@Eq Int (@VerdictD.code x4) (@VerdictD.code (@SessionD.last (@cond SessionD (@Decidable.decide (@LT.lt Int _ (@idxF (@idIs (@TabI.n x)) (@TabI.l x)) (0 : Int)) _) (@SessionD.mk (0 : Int) (0 : Int) (@List.nil UInt8) VerdictD.dflt) (@atL (@TabI.l x) (@idxF (@idIs (@TabI.n x)) (@TabI.l x))))))) ∧
 ((@Eq Int (@VerdictD.session x4) (@VerdictD.session (@SessionD.last (@cond SessionD (@Decidable.decide (@LT.lt Int _ (@idxF (@idIs (@TabI.n x)) (@TabI.l x)) (0 : Int)) _) (@SessionD.mk (0 : Int) (0 : Int) (@List.nil UInt8) VerdictD.dflt) (@atL (@TabI.l x) (@idxF (@idIs (@TabI.n x)) (@TabI.l x))))))) ∧
 ((@Eq Int (@VerdictD.rev x4) (@VerdictD.rev (@SessionD.last (@cond SessionD (@Decidable.decide (@LT.lt Int _ (@idxF (@idIs (@TabI.n x)) (@TabI.l x)) (0 : Int)) _) (@SessionD.mk (0 : Int) (0 : Int) (@List.nil UInt8) VerdictD.dflt) (@atL (@TabI.l x) (@idxF (@idIs (@TabI.n x)) (@TabI.l x))))))) ∧
 ((@Eq Bs (@VerdictD.path x4) (@VerdictD.path (@SessionD.last (@cond SessionD (@Decidable.decide (@LT.lt Int _ (@idxF (@idIs (@TabI.n x)) (@TabI.l x)) (0 : Int)) _) (@SessionD.mk (0 : Int) (0 : Int) (@List.nil UInt8) VerdictD.dflt) (@atL (@TabI.l x) (@idxF (@idIs (@TabI.n x)) (@TabI.l x))))))) ∧
 ((@Eq Int (@VerdictD.digest x4) (@VerdictD.digest (@SessionD.last (@cond SessionD (@Decidable.decide (@LT.lt Int _ (@idxF (@idIs (@TabI.n x)) (@TabI.l x)) (0 : Int)) _) (@SessionD.mk (0 : Int) (0 : Int) (@List.nil UInt8) VerdictD.dflt) (@atL (@TabI.l x) (@idxF (@idIs (@TabI.n x)) (@TabI.l x))))))) ∧
 ((@Eq (@List CommitD) (@VerdictD.commits x4) (@VerdictD.commits (@SessionD.last (@cond SessionD (@Decidable.decide (@LT.lt Int _ (@idxF (@idIs (@TabI.n x)) (@TabI.l x)) (0 : Int)) _) (@SessionD.mk (0 : Int) (0 : Int) (@List.nil UInt8) VerdictD.dflt) (@atL (@TabI.l x) (@idxF (@idIs (@TabI.n x)) (@TabI.l x))))))) ∧
 ((@Eq Int (@VerdictD.member x4) (@VerdictD.member (@SessionD.last (@cond SessionD (@Decidable.decide (@LT.lt Int _ (@idxF (@idIs (@TabI.n x)) (@TabI.l x)) (0 : Int)) _) (@SessionD.mk (0 : Int) (0 : Int) (@List.nil UInt8) VerdictD.dflt) (@atL (@TabI.l x) (@idxF (@idIs (@TabI.n x)) (@TabI.l x))))))) ∧
 ((@Eq Bool Bool.true (@Decidable.decide (@LE.le Int _ (0 : Int) (@idxF (@idIs (@TabI.n x)) (@TabI.l x))) _)) ∧
 ((@Eq Int (@TabI.size x1) (@TabI.size x)) ∧
 ((@Eq Nat (0 : Nat) (0 : Nat)) ∧
 ((@Eq Nat (@List.length SessionD (@TabI.l x1)) (@List.length SessionD (@TabI.l x))) ∧
 ((@Eq (@List SessionD) (@TabI.l x1) (@TabI.l x)) ∧
 True)))))))))))))))))))))))))))
 (Bad "check" "session.go:96"))
 (Bad "check" "session.go:96"))))))))))))) := by kernel_rfl

end Go.Proofs.Ytnkhnogdiphboaa.Ses

namespace Go.Proofs.Ytnkhnogdiphboaa.Ses
open Go Go.Proofs Go.Proofs.Ytnkhnogdiphboaa.Sx

theorem br_bad {b : Bool} {A : Prop} {x y : String} : br b A (Bad x y) ↔ (b = true ∧ A) := by
  cases b
  · exact ⟨fun h => (nomatch h), fun h => nomatch h.1⟩
  · exact ⟨fun h => ⟨rfl, h⟩, fun h => h.2⟩
theorem br_iff {b : Bool} {A B : Prop} : br b A B ↔ ((b = true → A) ∧ (b = false → B)) := by
  cases b
  · exact ⟨fun h => ⟨fun e => (nomatch e), fun _ => h⟩, fun h => h.2 rfl⟩
  · exact ⟨fun h => ⟨fun _ => h, fun e => nomatch e⟩, fun h => h.1 rfl⟩
theorem wrap_id {n : Int} (h1 : -9223372036854775808 ≤ n) (h2 : n ≤ 9223372036854775807) : IntKind.i64.wrap n = n := by
  unfold IntKind.wrap
  simp [IntKind.signed, IntKind.bits]
  omega
theorem bad_iff {x y : String} : Bad x y ↔ False := ⟨fun h => (nomatch h), fun h => h.elim⟩

theorem has_ok : SpecOK Try.prog 14 hasT.spec := by
  refine Tri.ok (E := hasE) (Env_ok (by decide +kernel) (by simp)) (n := 1000) hasT fun x hx => ?_
  rw [has_vc]
  obtain ⟨l, n⟩ := x
  simp only [br_bad, decide_eq_true_eq, Nat.sub_eq]
  simp only [br_iff, decide_eq_true_eq, decide_eq_false_iff_not, room47]
  refine ⟨⟨0, by simp, by omega, by omega⟩, fun i ⟨h1, h2⟩ h3 => ⟨fun h4 => ⟨by omega, fun h5 => ⟨(), ?_, trivial⟩, fun h5 => ⟨i + 1, ?_, ⟨by omega, ?_⟩, ?_⟩⟩, fun h4 => ⟨(), ?_, trivial⟩⟩⟩
  · have : i < l.length := by omega
    simp [this] at h5
    simp [← h5]
  · rw [wrap_id (by omega) (by omega)]; omega
  · intro j hj
    have : i < l.length := by omega
    simp [this] at h5
    by_cases e : j = i
    · subst e; simp [this, h5]
    · exact h2 j (by omega)
  · omega
  · simp only [Bool.false_eq, decide_eq_false_iff_not]
    intro hm
    obtain ⟨j, hj⟩ := List.getElem?_of_mem hm
    have := (List.getElem?_eq_some_iff.1 hj).1
    exact h2 j (by omega) hj

theorem set_self {α : Type} {l : List α} {i : Nat} {d x : α} (hi : i < l.length) (h : x = l.getD i d) : l.set i x = l := by
  subst h
  apply List.ext_getElem?
  intro j
  by_cases e : i = j
  · subst e; simp [hi]
  · simp [e]

theorem own_ok : SpecOK Try.prog 36 ownT.spec := by
  refine Tri.ok (E := ownE) (Env_ok (by decide +kernel) (by simp)) (n := 1000) ownT fun x hx => ?_
  rw [own_vc]
  simp only [br_bad, decide_eq_true_eq, Bool.and_eq_true, List.take_zero, List.nil_append, List.drop_zero, Nat.zero_add, Int.toNat_natCast, Nat.sub_eq, true_and, and_true, exists_const, List.length_nil, Nat.zero_le, Nat.zero_mul, Nat.le_refl, List.length_set, List.take_length, Int.natCast_nonneg, forall_const, implies_true, Int.toNat_zero, Nat.le_eq, Int.le_refl, addN, cutN, loN, hiN, bndB, Option.getD, List.length_cons, List.take_succ_cons, List.length_take, List.length_drop, Option.isNone, Nat.add_zero, Nat.min_self]
  simp only [br_iff, decide_eq_true_eq, decide_eq_false_iff_not, room47, Bool.not_eq_true', Bool.not_eq_false', gt_iff_lt]
  intro b hb
  refine ⟨fun h => (hb h).symm, fun h1 h2 => ⟨h2, fun _ => ⟨⟨0, rfl, by omega⟩, fun i hi => ⟨fun h3 => ⟨h3, by omega, fun c hc => ?_⟩, ?_⟩⟩⟩⟩
  · have hlt : i < x.commits.length := by omega
    refine ⟨fun h4 => ⟨h3, hlt, i + 1, by rw [wrap_id (by omega) (by omega)]; rfl, set_self (d := ⟨0, 0, [], []⟩) hlt ?_, by omega, by omega⟩, fun h4 h5 => ?_⟩
    · have := hc h4
      revert this
      generalize x.commits.getD i _ = y
      intro e
      cases y
      simp at e
      subst e
      rfl
    · exact ⟨h5, h3, hlt, i + 1, by rw [wrap_id (by omega) (by omega)]; rfl, set_self (d := ⟨0, 0, [], []⟩) hlt rfl, by omega, by omega⟩
  · exact fun _ => trivial

theorem idxF_lt (p : SessionD → Bool) : ∀ l, -1 ≤ idxF p l ∧ idxF p l < l.length
  | [] => by simp [idxF]
  | x :: r => by
    have := idxF_lt p r
    simp only [idxF, List.length_cons]
    cases p x <;> simp only [cond_true, cond_false]
    · by_cases h : idxF p r < 0 <;> simp [h] <;> omega
    · omega
theorem idxF_no {p : SessionD → Bool} : ∀ {l : List SessionD}, (∀ (j : Nat) x, l[j]? = some x → p x = false) → idxF p l = -1
  | [], _ => rfl
  | x :: r, h => by
    have h0 := h 0 x rfl
    have := idxF_no (l := r) (fun j y hj => h (j + 1) y (by simpa using hj))
    simp [idxF, h0, this]
theorem idxF_at {p : SessionD → Bool} : ∀ {l : List SessionD} {i : Nat} {x : SessionD}, l[i]? = some x → p x = true → (∀ (j : Nat) y, j < i → l[j]? = some y → p y = false) → idxF p l = i
  | [], i, x, hx, _, _ => by simp at hx
  | z :: r, 0, x, hx, hp, h => by simp at hx; subst hx; simp [idxF, hp]
  | z :: r, i + 1, x, hx, hp, h => by
    have h0 := h 0 z (by omega) rfl
    have := idxF_at (l := r) (i := i) (by simpa using hx) hp (fun j y hj hy => h (j + 1) y (by omega) (by simpa using hy))
    simp only [idxF, h0, cond_false, this]
    have : ¬ ((i : Int) < 0) := by omega
    simp [this]



theorem id_ok : SpecOK Try.prog 34 idT.spec := by
  refine Tri.ok (E := idE) (Env_ok (by decide +kernel) (by simp)) (n := 1000) idT fun x hx => ?_
  rw [id_vc]
  simp only [br_bad, decide_eq_true_eq, Bool.and_eq_true, List.take_zero, List.nil_append, List.drop_zero, Nat.zero_add, Int.toNat_natCast, Nat.sub_eq, true_and, and_true, exists_const, List.length_nil, Nat.zero_le, Nat.zero_mul, Nat.le_refl, List.length_set, List.take_length, Int.natCast_nonneg, forall_const, implies_true, Int.toNat_zero, Nat.le_eq, Int.le_refl, addN, cutN, loN, hiN, bndB, Option.getD, List.length_cons, List.take_succ_cons, List.length_take, List.length_drop, Option.isNone, Nat.add_zero, Nat.min_self]
  simp only [br_iff, decide_eq_true_eq, decide_eq_false_iff_not, room47, Bool.not_eq_true', Bool.not_eq_false', gt_iff_lt]
  obtain ⟨size, l, id⟩ := x
  have hx : decide (0 < size) = true := hx
  have hx := of_decide_eq_true hx
  dsimp only
  refine ⟨fun h => absurd hx h, fun _ h1 => ⟨⟨0, rfl, by omega, by omega⟩, fun i ⟨h2, h3⟩ => ⟨fun h4 => ⟨h4, by omega, fun h5 => ?_, fun h5 => ⟨i + 1, ?_, ⟨by omega, ?_⟩, by omega⟩⟩, fun h4 => (idxF_no fun j x hj => h3 j x ?_ hj).symm⟩⟩⟩
  · have : i < l.length := by omega
    refine (idxF_at (i := i) (x := l[i]) (by simp) ?_ h3).symm
    simpa [this, idIs, nameIs] using h5
  · rw [wrap_id (by omega) (by omega)]; rfl
  · intro j x hj hx
    have hlt : i < l.length := by omega
    by_cases e : j = i
    · subst e
      simp only [hlt, List.getElem?_eq_getElem, Option.some.injEq] at hx
      subst hx
      simpa [hlt, idIs, nameIs] using h5
    · exact h3 j x (by omega) hx
  · have := (List.getElem?_eq_some_iff.1 hj).1
    omega

theorem name_ok : SpecOK Try.prog 31 nameT.spec := by
  refine Tri.ok (E := idE) (Env_ok (by decide +kernel) (by simp)) (n := 1000) nameT fun x hx => ?_
  rw [name_vc]
  simp only [br_bad, decide_eq_true_eq, Bool.and_eq_true, List.take_zero, List.nil_append, List.drop_zero, Nat.zero_add, Int.toNat_natCast, Nat.sub_eq, true_and, and_true, exists_const, List.length_nil, Nat.zero_le, Nat.zero_mul, Nat.le_refl, List.length_set, List.take_length, Int.natCast_nonneg, forall_const, implies_true, Int.toNat_zero, Nat.le_eq, Int.le_refl, addN, cutN, loN, hiN, bndB, Option.getD, List.length_cons, List.take_succ_cons, List.length_take, List.length_drop, Option.isNone, Nat.add_zero, Nat.min_self]
  simp only [br_iff, decide_eq_true_eq, decide_eq_false_iff_not, room47, Bool.not_eq_true', Bool.not_eq_false', gt_iff_lt]
  obtain ⟨size, l, name⟩ := x
  have hx : decide (0 < size) = true := hx
  have hx := of_decide_eq_true hx
  dsimp only
  refine ⟨fun h => absurd hx h, fun _ h1 => ⟨⟨0, rfl, by omega, by omega⟩, fun i ⟨h2, h3⟩ => ⟨fun h4 => ⟨h4, by omega, fun h5 => ?_, fun h5 => ⟨i + 1, ?_, ⟨by omega, ?_⟩, by omega⟩⟩, fun h4 => (idxF_no fun j x hj => h3 j x ?_ hj).symm⟩⟩⟩
  · have : i < l.length := by omega
    refine (idxF_at (i := i) (x := l[i]) (by simp) ?_ h3).symm
    simpa [this, idIs, nameIs] using h5
  · rw [wrap_id (by omega) (by omega)]; rfl
  · intro j x hj hx
    have hlt : i < l.length := by omega
    by_cases e : j = i
    · subst e
      simp only [hlt, List.getElem?_eq_getElem, Option.some.injEq] at hx
      subst hx
      simpa [hlt, idIs, nameIs] using h5
    · exact h3 j x (by omega) hx
  · have := (List.getElem?_eq_some_iff.1 hj).1
    omega

theorem outL_length {l : List SessionD} {i : Int} (h : 0 ≤ i ∧ i < l.length) : (outL l i).length = l.length - 1 := by
  simp [outL]; omega
theorem usedL_length {l : List SessionD} {i : Int} (h : 0 ≤ i ∧ i < l.length) : (usedL l i).length = l.length := by
  simp [usedL, outL_length h]; omega

theorem leave_ok : SpecOK Try.prog 35 leaveT.spec := by
  refine Tri.ok (E := noE) (Env_ok (by decide +kernel) (by simp)) (n := 1000) leaveT fun x hx => ?_
  rw [leave_vc]
  simp only [br_bad, decide_eq_true_eq, Bool.and_eq_true, List.take_zero, List.nil_append, List.drop_zero, Nat.zero_add, Int.toNat_natCast, Nat.sub_eq, true_and, and_true, exists_const, List.length_nil, Nat.zero_le, Nat.zero_mul, Nat.le_refl, List.length_set, List.take_length, Int.natCast_nonneg, forall_const, implies_true, Int.toNat_zero, Nat.le_eq, Int.le_refl, addN, cutN, loN, hiN, bndB, Option.getD, List.length_cons, List.take_succ_cons, List.length_take, List.length_drop, Option.isNone, Nat.add_zero, Nat.min_self]
  simp only [br_iff, decide_eq_true_eq, decide_eq_false_iff_not, room47, Bool.not_eq_true', Bool.not_eq_false', gt_iff_lt]
  obtain ⟨size, l, n⟩ := x
  have hx : decide (0 ≤ n ∧ n < l.length) = true := hx
  have hx := of_decide_eq_true hx
  dsimp only
  have e : ∀ h : l.length * 112 ≤ 140737488355328, IntKind.i64.wrap (n + 1) = n + 1 := fun h => wrap_id (by omega) (by omega)
  refine ⟨hx, by omega, ⟨by omega, by omega⟩, fun h _ => ?_⟩
  rw [e h, show (n + 1).toNat = n.toNat + 1 by omega]
  refine ⟨by omega, fun h2 => ⟨by omega, rfl, rfl, rfl, rfl, rfl, rfl, rfl, rfl, rfl, rfl, ?_, ?_⟩⟩
  · rw [outL_length hx]; omega
  · rw [outL, List.take_of_length_le (l := l.drop _) (by simp)]

theorem use_ok : SpecOK Try.prog 33 useT.spec := by
  refine Tri.ok (E := useE) (Env_ok (by decide +kernel) (by simp [leave_ok])) (n := 1000) useT fun x hx => ?_
  rw [use_vc]
  simp only [br_bad, decide_eq_true_eq, Bool.and_eq_true, List.take_zero, List.nil_append, List.drop_zero, Nat.zero_add, Int.toNat_natCast, Nat.sub_eq, true_and, and_true, exists_const, List.length_nil, Nat.zero_le, Nat.zero_mul, Nat.le_refl, List.length_set, List.take_length, Int.natCast_nonneg, forall_const, implies_true, Int.toNat_zero, Nat.le_eq, Int.le_refl, addN, cutN, loN, hiN, bndB, Option.getD, List.length_cons, List.take_succ_cons, List.length_take, List.length_drop, Option.isNone, Nat.add_zero, Nat.min_self]
  simp only [br_iff, decide_eq_true_eq, decide_eq_false_iff_not, room47, Bool.not_eq_true', Bool.not_eq_false', gt_iff_lt]
  obtain ⟨size, l, n⟩ := x
  have hx : decide (0 ≤ n ∧ n < l.length) = true ∧ decide (l.length ≤ 1024) = true := hx
  have h0 := of_decide_eq_true hx.1
  have h1 := of_decide_eq_true hx.2
  refine ⟨⟨size, l, n⟩, rfl, rfl, rfl, rfl, h0, fun h2 => ⟨?_, rfl, rfl, rfl, rfl, rfl, rfl, rfl, rfl, rfl, rfl, rfl, ?_, rfl⟩⟩
  · dsimp only; rw [outL_length h0]; omega
  · dsimp only; rw [outL_length h0, usedL_length h0]; omega

theorem open_ok : SpecOK Try.prog 12 openT.spec := by
  refine Tri.ok (E := opE) (Env_ok (by decide +kernel) (by simp [leave_ok, id_ok, name_ok, own_ok, use_ok])) (n := 1000) openT fun x hx => ?_
  rw [open_vc]
  simp only [br_bad, decide_eq_true_eq, Bool.and_eq_true, List.take_zero, List.nil_append, List.drop_zero, Nat.zero_add, Int.toNat_natCast, Nat.sub_eq, true_and, and_true, exists_const, List.length_nil, Nat.zero_le, Nat.zero_mul, Nat.le_refl, List.length_set, List.take_length, Int.natCast_nonneg, forall_const, implies_true, Int.toNat_zero, Nat.le_eq, Int.le_refl, addN, cutN, loN, hiN, bndB, Option.getD, List.length_cons, List.take_succ_cons, List.length_take, List.length_drop, Option.isNone, Nat.add_zero, Nat.min_self]
  simp only [br_iff, decide_eq_true_eq, decide_eq_false_iff_not, room47, Bool.not_eq_true', Bool.not_eq_false', gt_iff_lt]
  obtain ⟨size, l, name, id⟩ := x
  have hx : decide (0 < size) = true ∧ decide (l.length ≤ 1024) = true := hx
  have h0 := of_decide_eq_true hx.1
  have h1 := of_decide_eq_true hx.2
  have b1 := idxF_lt (nameIs name) l
  have b2 := idxF_lt (idIs id) l
  dsimp only
  refine ⟨fun h => absurd h0 h, fun _ => ⟨⟨size, l, name⟩, rfl, rfl, rfl, rfl, h0, fun hi => ?_, fun hi => ⟨⟨size, l, id⟩, rfl, rfl, rfl, rfl, h0, fun hj => ?_, fun hj h2 => ?_⟩⟩⟩ <;> dsimp only at *
  · refine ⟨⟨size, l, _⟩, rfl, rfl, rfl, rfl, ?_, ?_⟩
    · simp [h1]; omega
    · simp [openL, show ¬ idxF (nameIs name) l < 0 by omega]
  · have ho : (outL l (idxF (idIs id) l)).length = l.length - 1 := outL_length (by omega)
    refine ⟨⟨size, l, _⟩, rfl, rfl, rfl, rfl, by dsimp only; omega, fun h2 => ⟨fun h3 => ?_, fun h3 h4 => ?_⟩⟩ <;> dsimp only at *
    · simp only [beq_iff_eq] at h3
      have ho2 : (outL (outL l (idxF (idIs id) l)) 0).length = l.length - 1 - 1 := by rw [outL_length (by omega), ho]
      refine ⟨⟨size, outL l (idxF (idIs id) l), 0⟩, rfl, rfl, rfl, rfl, by dsimp only; omega, fun h4 => ?_⟩
      dsimp only
      simp only [openL, show idxF (nameIs name) l < 0 by omega, decide_true, cond_true, show ¬ idxF (idIs id) l < 0 by omega, decide_false, cond_false, h3]
      simp [ho2, VerdictD.dflt]
      omega
    · simp only [beq_eq_false_iff_ne, ne_eq, ho] at h3
      simp [openL, show idxF (nameIs name) l < 0 by omega, show ¬ idxF (idIs id) l < 0 by omega, h3, VerdictD.dflt, ho]
      omega
  · refine ⟨fun h3 => ?_, fun h3 h4 => ?_⟩
    · simp only [beq_iff_eq] at h3
      have ho2 : (outL l 0).length = l.length - 1 := outL_length (by omega)
      refine ⟨⟨size, l, 0⟩, rfl, rfl, rfl, rfl, by dsimp only; omega, fun h4 => ?_⟩
      dsimp only
      simp only [openL, show idxF (nameIs name) l < 0 by omega, decide_true, cond_true, show idxF (idIs id) l < 0 by omega, h3]
      simp [ho2, VerdictD.dflt]
      omega
    · simp only [beq_eq_false_iff_ne, ne_eq] at h3
      simp [openL, show idxF (nameIs name) l < 0 by omega, show idxF (idIs id) l < 0 by omega, h3, VerdictD.dflt]
      omega

theorem ask_ok : SpecOK Try.prog 13 askT.spec := by
  refine Tri.ok (E := opE) (Env_ok (by decide +kernel) (by simp [leave_ok, id_ok, name_ok, own_ok, use_ok])) (n := 1000) askT fun x hx => ?_
  rw [ask_vc]
  simp only [br_bad, decide_eq_true_eq, Bool.and_eq_true, List.take_zero, List.nil_append, List.drop_zero, Nat.zero_add, Int.toNat_natCast, Nat.sub_eq, true_and, and_true, exists_const, List.length_nil, Nat.zero_le, Nat.zero_mul, Nat.le_refl, List.length_set, List.take_length, Int.natCast_nonneg, forall_const, implies_true, Int.toNat_zero, Nat.le_eq, Int.le_refl, addN, cutN, loN, hiN, bndB, Option.getD, List.length_cons, List.take_succ_cons, List.length_take, List.length_drop, Option.isNone, Nat.add_zero, Nat.min_self]
  simp only [br_iff, decide_eq_true_eq, decide_eq_false_iff_not, room47, Bool.not_eq_true', Bool.not_eq_false', gt_iff_lt]
  obtain ⟨size, l, id, seq⟩ := x
  have hx : decide (0 < size) = true ∧ decide (l.length ≤ 1024) = true := hx
  have h0 := of_decide_eq_true hx.1
  have h1 := of_decide_eq_true hx.2
  have b1 := idxF_lt (idIs id) l
  dsimp only
  refine ⟨fun h => absurd h0 h, fun _ => ⟨⟨size, l, id⟩, rfl, rfl, rfl, rfl, h0, fun hi => ?_, fun hi => ⟨⟨size, l, _⟩, rfl, rfl, rfl, rfl, by dsimp only at *; omega, fun h2 => ?_, fun h2 => ⟨fun h3 => ?_, fun h3 => ⟨fun h4 => ⟨(atL l (idxF (idIs id) l)).last, rfl, rfl, rfl, rfl, rfl, rfl, rfl, ?_⟩, fun h4 => ?_⟩⟩⟩⟩⟩ <;> dsimp only at *
  · simp [askL, hi, vd]
  · simp [askL, hi, h2, vd]
  · simp [askL, hi, h2, h3, vd]
  · simp only [beq_iff_eq] at h4
    simp [askL, hi, h2, ← h4, vd]
  · simp only [beq_eq_false_iff_ne, ne_eq] at h4
    simp [askL, hi, h2, h3, h4, vd]

theorem done_ok : SpecOK Try.prog 15 doneT.spec := by
  refine Tri.ok (E := opE) (Env_ok (by decide +kernel) (by simp [leave_ok, id_ok, name_ok, own_ok, use_ok])) (n := 1000) doneT fun x hx => ?_
  rw [done_vc]
  simp only [br_bad, decide_eq_true_eq, Bool.and_eq_true, List.take_zero, List.nil_append, List.drop_zero, Nat.zero_add, Int.toNat_natCast, Nat.sub_eq, true_and, and_true, exists_const, List.length_nil, Nat.zero_le, Nat.zero_mul, Nat.le_refl, List.length_set, List.take_length, Int.natCast_nonneg, forall_const, implies_true, Int.toNat_zero, Nat.le_eq, Int.le_refl, addN, cutN, loN, hiN, bndB, Option.getD, List.length_cons, List.take_succ_cons, List.length_take, List.length_drop, Option.isNone, Nat.add_zero, Nat.min_self]
  simp only [br_iff, decide_eq_true_eq, decide_eq_false_iff_not, room47, Bool.not_eq_true', Bool.not_eq_false', gt_iff_lt]
  obtain ⟨size, l, id, seq, v⟩ := x
  have hx : decide (0 < size) = true := hx
  have h0 := of_decide_eq_true hx
  have b1 := idxF_lt (idIs id) l
  dsimp only
  refine ⟨⟨size, l, id⟩, rfl, rfl, rfl, rfl, h0, fun hi => ?_, fun hi => ⟨by dsimp only at *; omega, by dsimp only at *; omega, fun h2 => ?_, fun h2 b hb => ⟨fun h3 => ?_, fun h3 h4 => ⟨h4, v, rfl, rfl, rfl, rfl, rfl, rfl, rfl, ?_, ?_, ?_, ?_, ?_⟩⟩⟩⟩ <;> dsimp only at *
  · simp [doneL, hi]
  · have h2 : seq ≤ (atL l (idxF (idIs id) l)).seq := h2
    simp [doneL, hi, h2]
  · have := hb h3; omega
  · omega
  · omega
  · omega
  · omega
  · have h2 : ¬ seq ≤ (atL l (idxF (idIs id) l)).seq := h2
    have hi' : (idxF (idIs id) l).toNat < l.length := by omega
    simp only [doneL, hi, h2, decide_false, Bool.or_false, cond_false, List.length_set, true_and]
    simp [hi', atL]

theorem cp_ok : SpecOK Try.prog 38 cpT.spec := by
  refine Tri.ok (E := cpE) (Env_ok (by decide +kernel) (by simp [own_ok])) (n := 1000) cpT fun x hx => ?_
  rw [cp_vc]
  clear hx
  revert x
  intro (x : List SessionD)
  simp only [br_bad, decide_eq_true_eq, Bool.and_eq_true, List.take_zero, List.nil_append, List.drop_zero, Nat.zero_add, Int.toNat_natCast, Nat.sub_eq, true_and, and_true, exists_const, List.length_nil, Nat.zero_le, Nat.zero_mul, Nat.le_refl, List.length_set, List.take_length, Int.natCast_nonneg, forall_const, implies_true, Int.toNat_zero, Nat.le_eq, Int.le_refl, addN, cutN, loN, hiN, bndB, Option.getD, List.length_cons, List.take_succ_cons, List.length_take, List.length_drop, Option.isNone, Nat.add_zero, Nat.min_self]
  simp only [br_iff, decide_eq_true_eq, decide_eq_false_iff_not, room47, Bool.not_eq_true', Bool.not_eq_false', gt_iff_lt]
  intro b hb
  refine ⟨fun h => ?_, fun h h1 => ⟨h1, fun h2 => ⟨⟨0, rfl, by omega⟩, fun i hi => ⟨fun h3 => ⟨h3, by omega, (x.getD i ⟨0, 0, [], .dflt⟩).last, rfl, rfl, rfl, rfl, rfl, rfl, rfl, h3, by omega, i + 1, ?_, ?_, by omega, by omega⟩, fun _ => trivial⟩⟩⟩⟩
  · have := List.length_eq_zero_iff.1 (hb h)
    simp [this]
  · rw [wrap_id (by omega) (by omega)]; rfl
  · exact set_self (d := ⟨0, 0, [], .dflt⟩) (by omega) rfl

theorem all_ok : SpecOK Try.prog 17 allT.spec := by
  refine Tri.ok (E := cpE2) (Env_ok (by decide +kernel) (by simp [cp_ok])) (n := 1000) allT fun x hx => ?_
  rw [all_vc]
  simp only [br_bad, decide_eq_true_eq, Bool.and_eq_true, List.take_zero, List.nil_append, List.drop_zero, Nat.zero_add, Int.toNat_natCast, Nat.sub_eq, true_and, and_true, exists_const, List.length_nil, Nat.zero_le, Nat.zero_mul, Nat.le_refl, List.length_set, List.take_length, Int.natCast_nonneg, forall_const, implies_true, Int.toNat_zero, Nat.le_eq, Int.le_refl, addN, cutN, loN, hiN, bndB, Option.getD, List.length_cons, List.take_succ_cons, List.length_take, List.length_drop, Option.isNone, Nat.add_zero, Nat.min_self]
  simp only [br_iff, decide_eq_true_eq, decide_eq_false_iff_not, room47, Bool.not_eq_true', Bool.not_eq_false', gt_iff_lt]
  have hx : decide (0 < x.size) = true := hx
  have hx := of_decide_eq_true hx
  exact ⟨fun h => absurd hx h, fun _ => ⟨x.l, rfl, rfl, rfl, rfl, rfl⟩⟩

theorem clone_ok : SpecOK Try.prog 21 cloneT.spec := by
  refine Tri.ok (E := cpE2) (Env_ok (by decide +kernel) (by simp [cp_ok])) (n := 1000) cloneT fun x hx => ?_
  rw [clone_vc]
  simp only [br_bad, decide_eq_true_eq, Bool.and_eq_true, List.take_zero, List.nil_append, List.drop_zero, Nat.zero_add, Int.toNat_natCast, Nat.sub_eq, true_and, and_true, exists_const, List.length_nil, Nat.zero_le, Nat.zero_mul, Nat.le_refl, List.length_set, List.take_length, Int.natCast_nonneg, forall_const, implies_true, Int.toNat_zero, Nat.le_eq, Int.le_refl, addN, cutN, loN, hiN, bndB, Option.getD, List.length_cons, List.take_succ_cons, List.length_take, List.length_drop, Option.isNone, Nat.add_zero, Nat.min_self]
  simp only [br_iff, decide_eq_true_eq, decide_eq_false_iff_not, room47, Bool.not_eq_true', Bool.not_eq_false', gt_iff_lt]
  have hx : decide (0 < x.size) = true := hx
  have hx := of_decide_eq_true hx
  exact ⟨fun h => absurd hx h, fun _ => ⟨x.l, rfl, rfl, rfl, rfl, rfl⟩⟩

theorem find_ok : SpecOK Try.prog 25 findT.spec := by
  refine Tri.ok (E := opE) (Env_ok (by decide +kernel) (by simp [leave_ok, id_ok, name_ok, own_ok, use_ok])) (n := 1000) findT fun x hx => ?_
  rw [find_vc]
  simp only [br_bad, decide_eq_true_eq, Bool.and_eq_true, List.take_zero, List.nil_append, List.drop_zero, Nat.zero_add, Int.toNat_natCast, Nat.sub_eq, true_and, and_true, exists_const, List.length_nil, Nat.zero_le, Nat.zero_mul, Nat.le_refl, List.length_set, List.take_length, Int.natCast_nonneg, forall_const, implies_true, Int.toNat_zero, Nat.le_eq, Int.le_refl, addN, cutN, loN, hiN, bndB, Option.getD, List.length_cons, List.take_succ_cons, List.length_take, List.length_drop, Option.isNone, Nat.add_zero, Nat.min_self]
  simp only [br_iff, decide_eq_true_eq, decide_eq_false_iff_not, room47, Bool.not_eq_true', Bool.not_eq_false', gt_iff_lt]
  obtain ⟨size, l, n⟩ := x
  have hx : decide (0 < size) = true := hx
  have h0 := of_decide_eq_true hx
  have b1 := idxF_lt (idIs n) l
  dsimp only
  refine ⟨⟨size, l, n⟩, rfl, rfl, rfl, rfl, h0, fun hi => ?_, fun hi => ⟨by dsimp only at *; omega, by dsimp only at *; omega, (atL l (idxF (idIs n) l)).last, rfl, rfl, rfl, rfl, rfl, rfl, rfl, ?_⟩⟩ <;> dsimp only at *
  · simp [hi, VerdictD.dflt, show ¬ 0 ≤ idxF (idIs n) l by omega]
  · have e : l.getD (idxF (idIs n) l).toNat ⟨0, 0, [], .dflt⟩ = atL l (idxF (idIs n) l) := rfl
    simp only [e, hi, decide_false, cond_false, true_and, show 0 ≤ idxF (idIs n) l by omega, decide_true]
end Go.Proofs.Ytnkhnogdiphboaa.Ses
