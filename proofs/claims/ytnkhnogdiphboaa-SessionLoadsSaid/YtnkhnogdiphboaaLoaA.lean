/- SessionLoads: what the evaluator leaves of it, and that it holds. No condition. -/
import Derived.Test.YtnkhnogdiphboaaRefA
import Derived.KernelRfl
set_option linter.unusedSimpArgs false
set_option linter.unusedVariables false

namespace Go.Proofs.Ytnkhnogdiphboaa.Ses
open Go Go.Proofs Go.Proofs.Ytnkhnogdiphboaa.Sx

/-- one contract or the other -/
def altSpec (T1 T2 : Tri) : CallSpec := fun args m kp k => T1.spec args m kp k ∨ T2.spec args m kp k
theorem altSpec_ok {P : Program} {f : FuncId} {T1 T2 : Tri} (h1 : SpecOK P f T1.spec) (h2 : SpecOK P f T2.spec) : SpecOK P f (altSpec T1 T2) := by
  intro args m kp k h
  rcases h with h | h
  · exact h1 args m kp k h
  · exact h2 args m kp k h

/-- slices.Clone of sessions that are only read: in memory of their own -/
noncomputable def cp2T : Tri := { γ := List SessionD, n0 := 0, args := fun l => [.rslice false .session l], blks := fun l => [], pre := fun _ => True, δ := Unit, post := fun _ _ => True, n1 := 1, res := fun l _ => .mslice .session 0 0 l.length, blks' := fun l _ => [(0, .rows .session l)], scal := false }

def alk (s x : SessionD) : Bool := x.id == s.id || x.name == s.name
/-- slices.IndexFunc, of who has a number or a name already -/
noncomputable def alkI : St → LInv := fun s => match getE s.env 0, getE s.env 1 with
  | .rslice _ .session l, .fn _ _ [.mptr k _] => match s.m.blks.get k with
    | some (.cells (.int _ id :: _ :: .str name :: _)) =>
      { σ := Nat, I := fun i => i ≤ l.length ∧ ∀ (j : Nat) x, j < i → l[j]? = some x → (x.id == id || x.name == name) = false, μ := fun i => l.length - i, env := fun i => [(8, .int .i64 i)], blk := fun _ => [], fresh := 0, drop := [] }
    | _ => LInv.none
  | _, _ => LInv.none
structure AlkA where
  l : List SessionD
  s : SessionD
noncomputable def alkE : Envr := Env Try.prog cod [] [(2, alkI)]
noncomputable def alkT : Tri := { γ := AlkA, n0 := 1, args := fun x => [.rslice false .session x.l, .fn 43 [] [.mptr 0 0]], blks := fun x => [(0, .cells (enc .session x.s))], pre := fun _ => True, δ := Unit, post := fun _ _ => True, n1 := 0, res := fun x _ => .bool (x.l.any (alk x.s)), blks' := fun x _ => [(0, .cells (enc .session x.s))], scal := false }

def LoadOK (size : Int) (l : List SessionD) : Prop := 1 ≤ size ∧ size ≤ 16 ∧ (l.length : Int) ≤ size ∧ (∀ x, x ∈ l → 0 ≤ x.seq) ∧ l.Pairwise Dif
def GoodTo (l : List SessionD) (i : Nat) : Prop := (∀ x, x ∈ l.take i → 0 ≤ x.seq) ∧ (l.take i).Pairwise Dif
def loadE (size : Int) : Int := bif decide (size < 1) || decide (16 < size) then 1 else 4

noncomputable def loadI : St → LInv := fun s => match getE s.env 22 with
  | .rslice _ .session l => { σ := Nat, I := fun i => i ≤ l.length ∧ GoodTo l i, μ := fun i => l.length - i, env := fun i => [(24, .int .i64 i)], blk := fun _ => [], fresh := 0, drop := [] }
  | _ => LInv.none
noncomputable def loadEnv : Envr := Env Try.prog cod [(42, alkT.spec), (38, cp2T.spec)] [(7, loadI)]
noncomputable def load1T : Tri := { γ := TabA, n0 := 0, args := fun x => [.int .i64 x.size, .rslice false .session x.l], blks := fun x => [], pre := fun x => LoadOK x.size x.l, δ := Unit, post := fun _ _ => True, n1 := 2, res := fun x _ => .tuple [.mptr 0 0, .int .i64 0], blks' := fun x _ => tabB x.size x.l 1, scal := false }
noncomputable def load2T : Tri := { γ := TabA, n0 := 0, args := fun x => [.int .i64 x.size, .rslice false .session x.l], blks := fun x => [], pre := fun x => ¬ LoadOK x.size x.l, δ := Unit, post := fun _ _ => True, n1 := 0, res := fun x _ => .tuple [.nilp, .int .i64 (loadE x.size)], blks' := fun x _ => [], scal := false }

noncomputable def rloadI : St → LInv := fun s => match getE s.env 1, getE s.env 6 with
  | .rslice _ .session l, .mptr n _ => match s.m.blks.get n with
    | some (.cells [.int _ size, x]) => { σ := Nat, I := fun i => i ≤ l.length ∧ GoodTo l i, μ := fun i => l.length - i, env := fun i => [(8, .int .i64 i)], blk := fun i => [(n, .cells [.int .i64 size, .mslice .session s.m.next 0 i]), (s.m.next, .rows .session (l.take i))], fresh := 1, drop := dropOf x }
    | _ => LInv.none
  | _, _ => LInv.none
noncomputable def rloadJ : St → LInv := fun s => match getE s.env 1, getE s.env 8 with
  | .rslice _ .session l, .int _ i => { σ := Nat, I := fun j => decide ((j : Int) ≤ i) = true ∧ ∀ k : Nat, k < j → alk (l.getD i.toNat ⟨0, 0, [], .dflt⟩) (l.getD k ⟨0, 0, [], .dflt⟩) = false, μ := fun j => i.toNat - j, env := fun j => [(9, .int .i64 j)], blk := fun _ => [], fresh := 0, drop := [] }
  | _, _ => LInv.none
noncomputable def rloadEnv : Envr := Env Try.prog cod [(44, csesT.spec)] [(7, rloadI), (12, rloadJ)]

structure LoadsA where
  size : Int
  l : List Deed6D
  raw : List SessionD
def loadsArgs (x : LoadsA) : List SV := [.int .i64 x.size, .rslice false .deed6 x.l, .rslice false .session x.raw]

noncomputable def loadsI : St → LInv := fun s => match getE s.env 1, getE s.env 7 with
  | .rslice _ .deed6 l, .mptr n _ => match s.m.blks.get n with
    | some (.cells [.int _ size, x]) =>
      { σ := OneS, I := fun x => x.i ≤ l.length ∧ LoadOK size x.l, μ := fun x => l.length - x.i, env := fun x => [(13, .int .i64 x.i)], blk := fun x => [(n, .cells [.int .i64 size, .mslice .session s.m.next 0 x.l.length]), (s.m.next, .rows .session x.l)], fresh := 1, drop := dropOf x }
    | _ => LInv.none
  | _, _ => LInv.none
noncomputable def loadsE : Envr := Env Try.prog cod [(10, awakeT.spec), (16, roomT.spec), (12, openT.spec), (13, askT.spec), (15, doneT.spec), (17, allT.spec), (22, sallT.spec), (28, altSpec load1T load2T), (29, altSpec load1T load2T)] [(13, loadsI)]
end Go.Proofs.Ytnkhnogdiphboaa.Ses

namespace Go.Proofs.Ytnkhnogdiphboaa.Ses
open Go Go.Proofs Go.Proofs.Ytnkhnogdiphboaa.Sx
set_option maxRecDepth 100000

theorem cp2_vc (x : cp2T.γ) : evCall cpE (ev cpE 1000) 38 (cp2T.args x) ⟨cp2T.blks x, cp2T.n0, []⟩ (fun _ _ => False) (cp2T.ends x) = (
(∀ x1 : Bool,
 (((@Eq Bool x1 Bool.true) →
 (@Eq (@List SessionD) x (@List.nil SessionD))) →
 (br x1
 ((∃ x2 : Unit,
 ((@Eq Int (0 : Int) (0 : Int)) ∧
 True)) ∧
 (∀ x3 : Unit,
 (True →
 (∃ x4 : Unit,
 ((@Eq Nat (0 : Nat) (@List.length SessionD x)) ∧
 ((@Eq (@List SessionD) (@List.nil SessionD) x) ∧
 True))))))
 (((@Nat.le (@HMul.hMul _ _ _ _ (0 : Nat) (112 : Nat)) room47) ∧
 (@Nat.le (@HMul.hMul _ _ _ _ (@List.length SessionD x) (112 : Nat)) room47)) →
 (br (@Bool.and (@Bool.and Bool.true (@Decidable.decide (@LE.le Nat _ (@HAdd.hAdd _ _ _ _ (0 : Nat) (0 : Nat)) (@List.length SessionD (@List.nil SessionD))) _)) (@Decidable.decide (@LE.le Nat _ (@HMul.hMul _ _ _ _ (@HAdd.hAdd _ _ _ _ (0 : Nat) (@List.length SessionD x)) (112 : Nat)) room47) _))
 ((@LE.le Nat _ (@HMul.hMul _ _ _ _ (@HAdd.hAdd _ _ _ _ (0 : Nat) (@List.length SessionD x)) (112 : Nat)) room47) →
 ((∃ x5 : Nat,
 ((@Eq Int (0 : Int) (Nat.cast x5 : Int)) ∧
 ((@Eq (@List SessionD) (@HAppend.hAppend (@List SessionD) (@List SessionD) (@List SessionD) _ (@List.take SessionD (0 : Nat) (@List.drop SessionD (0 : Nat) (@List.nil SessionD))) x) (@HAppend.hAppend (@List SessionD) (@List SessionD) (@List SessionD) _ (@List.take SessionD (0 : Nat) (@List.drop SessionD (0 : Nat) (@List.nil SessionD))) x)) ∧
 (@Nat.le x5 (@List.length SessionD (@HAppend.hAppend (@List SessionD) (@List SessionD) (@List SessionD) _ (@List.take SessionD (0 : Nat) (@List.drop SessionD (0 : Nat) (@List.nil SessionD))) x)))))) ∧
 (∀ x6 : Nat,
 ((@Nat.le x6 (@List.length SessionD (@HAppend.hAppend (@List SessionD) (@List SessionD) (@List SessionD) _ (@List.take SessionD (0 : Nat) (@List.drop SessionD (0 : Nat) (@List.nil SessionD))) x))) →
 (br (@Decidable.decide (@LT.lt Int _ (Nat.cast x6 : Int) (Nat.cast (@HAdd.hAdd _ _ _ _ (0 : Nat) (@List.length SessionD x)) : Int)) _)
 (br (@Decidable.decide ((@LE.le Int _ (0 : Int) (Nat.cast x6 : Int)) ∧
 (@LT.lt Int _ (Nat.cast x6 : Int) (Nat.cast (@HAdd.hAdd _ _ _ _ (0 : Nat) (@List.length SessionD x)) : Int))) _)
 (br (@Decidable.decide (@LT.lt Nat _ (@HAdd.hAdd _ _ _ _ (0 : Nat) (@Int.toNat (Nat.cast x6 : Int))) (@List.length SessionD (@HAppend.hAppend (@List SessionD) (@List SessionD) (@List SessionD) _ (@List.take SessionD (0 : Nat) (@List.drop SessionD (0 : Nat) (@List.nil SessionD))) x))) _)
 (∃ x7 : VerdictD,
 ((@Eq Int (@VerdictD.code (@SessionD.last (@List.getD SessionD (@HAppend.hAppend (@List SessionD) (@List SessionD) (@List SessionD) _ (@List.take SessionD (0 : Nat) (@List.drop SessionD (0 : Nat) (@List.nil SessionD))) x) (@HAdd.hAdd _ _ _ _ (0 : Nat) (@Int.toNat (Nat.cast x6 : Int))) (@SessionD.mk (0 : Int) (0 : Int) (@List.nil UInt8) VerdictD.dflt)))) (@VerdictD.code x7)) ∧
 ((@Eq Int (@VerdictD.session (@SessionD.last (@List.getD SessionD (@HAppend.hAppend (@List SessionD) (@List SessionD) (@List SessionD) _ (@List.take SessionD (0 : Nat) (@List.drop SessionD (0 : Nat) (@List.nil SessionD))) x) (@HAdd.hAdd _ _ _ _ (0 : Nat) (@Int.toNat (Nat.cast x6 : Int))) (@SessionD.mk (0 : Int) (0 : Int) (@List.nil UInt8) VerdictD.dflt)))) (@VerdictD.session x7)) ∧
 ((@Eq Int (@VerdictD.rev (@SessionD.last (@List.getD SessionD (@HAppend.hAppend (@List SessionD) (@List SessionD) (@List SessionD) _ (@List.take SessionD (0 : Nat) (@List.drop SessionD (0 : Nat) (@List.nil SessionD))) x) (@HAdd.hAdd _ _ _ _ (0 : Nat) (@Int.toNat (Nat.cast x6 : Int))) (@SessionD.mk (0 : Int) (0 : Int) (@List.nil UInt8) VerdictD.dflt)))) (@VerdictD.rev x7)) ∧
 ((@Eq Bs (@VerdictD.path (@SessionD.last (@List.getD SessionD (@HAppend.hAppend (@List SessionD) (@List SessionD) (@List SessionD) _ (@List.take SessionD (0 : Nat) (@List.drop SessionD (0 : Nat) (@List.nil SessionD))) x) (@HAdd.hAdd _ _ _ _ (0 : Nat) (@Int.toNat (Nat.cast x6 : Int))) (@SessionD.mk (0 : Int) (0 : Int) (@List.nil UInt8) VerdictD.dflt)))) (@VerdictD.path x7)) ∧
 ((@Eq Int (@VerdictD.digest (@SessionD.last (@List.getD SessionD (@HAppend.hAppend (@List SessionD) (@List SessionD) (@List SessionD) _ (@List.take SessionD (0 : Nat) (@List.drop SessionD (0 : Nat) (@List.nil SessionD))) x) (@HAdd.hAdd _ _ _ _ (0 : Nat) (@Int.toNat (Nat.cast x6 : Int))) (@SessionD.mk (0 : Int) (0 : Int) (@List.nil UInt8) VerdictD.dflt)))) (@VerdictD.digest x7)) ∧
 ((@Eq (@List CommitD) (@VerdictD.commits (@SessionD.last (@List.getD SessionD (@HAppend.hAppend (@List SessionD) (@List SessionD) (@List SessionD) _ (@List.take SessionD (0 : Nat) (@List.drop SessionD (0 : Nat) (@List.nil SessionD))) x) (@HAdd.hAdd _ _ _ _ (0 : Nat) (@Int.toNat (Nat.cast x6 : Int))) (@SessionD.mk (0 : Int) (0 : Int) (@List.nil UInt8) VerdictD.dflt)))) (@VerdictD.commits x7)) ∧
 ((@Eq Int (@VerdictD.member (@SessionD.last (@List.getD SessionD (@HAppend.hAppend (@List SessionD) (@List SessionD) (@List SessionD) _ (@List.take SessionD (0 : Nat) (@List.drop SessionD (0 : Nat) (@List.nil SessionD))) x) (@HAdd.hAdd _ _ _ _ (0 : Nat) (@Int.toNat (Nat.cast x6 : Int))) (@SessionD.mk (0 : Int) (0 : Int) (@List.nil UInt8) VerdictD.dflt)))) (@VerdictD.member x7)) ∧
 (True ∧
 (∀ x8 : Unit,
 (True →
 (br (@Decidable.decide ((@LE.le Int _ (0 : Int) (Nat.cast x6 : Int)) ∧
 (@LT.lt Int _ (Nat.cast x6 : Int) (Nat.cast (@HAdd.hAdd _ _ _ _ (0 : Nat) (@List.length SessionD x)) : Int))) _)
 (br (@Bool.and Bool.true (@Decidable.decide (@LT.lt Nat _ (@HAdd.hAdd _ _ _ _ (0 : Nat) (@Int.toNat (Nat.cast x6 : Int))) (@List.length SessionD (@HAppend.hAppend (@List SessionD) (@List SessionD) (@List SessionD) _ (@List.take SessionD (0 : Nat) (@List.drop SessionD (0 : Nat) (@List.nil SessionD))) x))) _))
 (∃ x9 : Nat,
 ((@Eq Int (@Go.IntKind.wrap Go.IntKind.i64 (@HAdd.hAdd Int Int Int _ (Nat.cast x6 : Int) (1 : Int))) (Nat.cast x9 : Int)) ∧
 ((@Eq (@List SessionD) (@List.set SessionD (@HAppend.hAppend (@List SessionD) (@List SessionD) (@List SessionD) _ (@List.take SessionD (0 : Nat) (@List.drop SessionD (0 : Nat) (@List.nil SessionD))) x) (@HAdd.hAdd _ _ _ _ (0 : Nat) (@Int.toNat (Nat.cast x6 : Int))) (@SessionD.mk (@SessionD.id (@List.getD SessionD (@HAppend.hAppend (@List SessionD) (@List SessionD) (@List SessionD) _ (@List.take SessionD (0 : Nat) (@List.drop SessionD (0 : Nat) (@List.nil SessionD))) x) (@HAdd.hAdd _ _ _ _ (0 : Nat) (@Int.toNat (Nat.cast x6 : Int))) (@SessionD.mk (0 : Int) (0 : Int) (@List.nil UInt8) VerdictD.dflt))) (@SessionD.seq (@List.getD SessionD (@HAppend.hAppend (@List SessionD) (@List SessionD) (@List SessionD) _ (@List.take SessionD (0 : Nat) (@List.drop SessionD (0 : Nat) (@List.nil SessionD))) x) (@HAdd.hAdd _ _ _ _ (0 : Nat) (@Int.toNat (Nat.cast x6 : Int))) (@SessionD.mk (0 : Int) (0 : Int) (@List.nil UInt8) VerdictD.dflt))) (@SessionD.name (@List.getD SessionD (@HAppend.hAppend (@List SessionD) (@List SessionD) (@List SessionD) _ (@List.take SessionD (0 : Nat) (@List.drop SessionD (0 : Nat) (@List.nil SessionD))) x) (@HAdd.hAdd _ _ _ _ (0 : Nat) (@Int.toNat (Nat.cast x6 : Int))) (@SessionD.mk (0 : Int) (0 : Int) (@List.nil UInt8) VerdictD.dflt))) (@VerdictD.mk (@VerdictD.code x7) (@VerdictD.session x7) (@VerdictD.rev x7) (@VerdictD.path x7) (@VerdictD.digest x7) (@VerdictD.commits x7) (@VerdictD.member x7)))) (@HAppend.hAppend (@List SessionD) (@List SessionD) (@List SessionD) _ (@List.take SessionD (0 : Nat) (@List.drop SessionD (0 : Nat) (@List.nil SessionD))) x)) ∧
 ((@Nat.le x9 (@List.length SessionD (@HAppend.hAppend (@List SessionD) (@List SessionD) (@List SessionD) _ (@List.take SessionD (0 : Nat) (@List.drop SessionD (0 : Nat) (@List.nil SessionD))) x))) ∧
 (@LT.lt Nat _ (@Nat.sub (@List.length SessionD (@HAppend.hAppend (@List SessionD) (@List SessionD) (@List SessionD) _ (@List.take SessionD (0 : Nat) (@List.drop SessionD (0 : Nat) (@List.nil SessionD))) x)) x9) (@Nat.sub (@List.length SessionD (@HAppend.hAppend (@List SessionD) (@List SessionD) (@List SessionD) _ (@List.take SessionD (0 : Nat) (@List.drop SessionD (0 : Nat) (@List.nil SessionD))) x)) x6))))))
 (Bad "check" "session.go:40"))
 (Bad "check" "session.go:40")))))))))))))
 (Bad "check" "session.go:40"))
 (Bad "check" "session.go:40"))
 (∃ x10 : Unit,
 ((@Eq Nat (0 : Nat) (0 : Nat)) ∧
 ((@Eq Nat (@HAdd.hAdd _ _ _ _ (0 : Nat) (@List.length SessionD x)) (@List.length SessionD x)) ∧
 ((@Eq (@List SessionD) (@HAppend.hAppend (@List SessionD) (@List SessionD) (@List SessionD) _ (@List.take SessionD (0 : Nat) (@List.drop SessionD (0 : Nat) (@List.nil SessionD))) x) x) ∧
 True)))))))))
 (Bad "check" "slices.go:362"))))))) := by kernel_rfl

theorem alk_vc (x : alkT.γ) : evCall alkE (ev alkE 1000) 42 (alkT.args x) ⟨alkT.blks x, alkT.n0, []⟩ (fun _ _ => False) (alkT.ends x) = (
((@LE.le Nat _ (@HMul.hMul _ _ _ _ (@List.length SessionD (@AlkA.l x)) (112 : Nat)) room47) →
 ((∃ x1 : Nat,
 ((@Eq Int (0 : Int) (Nat.cast x1 : Int)) ∧
 ((@LE.le Nat _ x1 (@List.length SessionD (@AlkA.l x))) ∧
 (∀ x2 : Nat,
 (∀ x3 : SessionD,
 ((@LT.lt Nat _ x2 x1) →
 ((@Eq (@Option SessionD) (@GetElem?.getElem? (@List SessionD) Nat SessionD (fun x4 : (@List SessionD) => (fun x5 : Nat => (@LT.lt Nat _ x5 (@List.length SessionD x4)))) _ (@AlkA.l x) x2) (@Option.some SessionD x3)) →
 (@Eq Bool (@Bool.or (@BEq.beq Int _ (@SessionD.id x3) (@SessionD.id (@AlkA.s x))) (@BEq.beq Bs _ (@SessionD.name x3) (@SessionD.name (@AlkA.s x)))) Bool.false)))))))) ∧
 (∀ x6 : Nat,
 (((@LE.le Nat _ x6 (@List.length SessionD (@AlkA.l x))) ∧
 (∀ x7 : Nat,
 (∀ x8 : SessionD,
 ((@LT.lt Nat _ x7 x6) →
 ((@Eq (@Option SessionD) (@GetElem?.getElem? (@List SessionD) Nat SessionD (fun x9 : (@List SessionD) => (fun x10 : Nat => (@LT.lt Nat _ x10 (@List.length SessionD x9)))) _ (@AlkA.l x) x7) (@Option.some SessionD x8)) →
 (@Eq Bool (@Bool.or (@BEq.beq Int _ (@SessionD.id x8) (@SessionD.id (@AlkA.s x))) (@BEq.beq Bs _ (@SessionD.name x8) (@SessionD.name (@AlkA.s x)))) Bool.false)))))) →
 (br (@Decidable.decide (@LT.lt Int _ (Nat.cast x6 : Int) (Nat.cast (@List.length SessionD (@AlkA.l x)) : Int)) _)
 (br (@Decidable.decide ((@LE.le Int _ (0 : Int) (Nat.cast x6 : Int)) ∧
 (@LT.lt Int _ (Nat.cast x6 : Int) (Nat.cast (@List.length SessionD (@AlkA.l x)) : Int))) _)
 (br (@BEq.beq Int _ (@SessionD.id (@List.getD SessionD (@AlkA.l x) (@Int.toNat (Nat.cast x6 : Int)) (@SessionD.mk (0 : Int) (0 : Int) (@List.nil UInt8) VerdictD.dflt))) (@SessionD.id (@AlkA.s x)))
 (∃ x11 : Unit,
 ((@Eq Bool (@Decidable.decide (@GE.ge Int _ (Nat.cast x6 : Int) (0 : Int)) _) (@List.any SessionD (@AlkA.l x) (@alk (@AlkA.s x)))) ∧
 ((@Eq Int (@SessionD.id (@AlkA.s x)) (@SessionD.id (@AlkA.s x))) ∧
 ((@Eq Int (@SessionD.seq (@AlkA.s x)) (@SessionD.seq (@AlkA.s x))) ∧
 ((@Eq Bs (@SessionD.name (@AlkA.s x)) (@SessionD.name (@AlkA.s x))) ∧
 ((@Eq Int (@VerdictD.code (@SessionD.last (@AlkA.s x))) (@VerdictD.code (@SessionD.last (@AlkA.s x)))) ∧
 ((@Eq Int (@VerdictD.session (@SessionD.last (@AlkA.s x))) (@VerdictD.session (@SessionD.last (@AlkA.s x)))) ∧
 ((@Eq Int (@VerdictD.rev (@SessionD.last (@AlkA.s x))) (@VerdictD.rev (@SessionD.last (@AlkA.s x)))) ∧
 ((@Eq Bs (@VerdictD.path (@SessionD.last (@AlkA.s x))) (@VerdictD.path (@SessionD.last (@AlkA.s x)))) ∧
 ((@Eq Int (@VerdictD.digest (@SessionD.last (@AlkA.s x))) (@VerdictD.digest (@SessionD.last (@AlkA.s x)))) ∧
 ((@Eq (@List CommitD) (@VerdictD.commits (@SessionD.last (@AlkA.s x))) (@VerdictD.commits (@SessionD.last (@AlkA.s x)))) ∧
 ((@Eq Int (@VerdictD.member (@SessionD.last (@AlkA.s x))) (@VerdictD.member (@SessionD.last (@AlkA.s x)))) ∧
 True))))))))))))
 (br (@BEq.beq Bs _ (@SessionD.name (@List.getD SessionD (@AlkA.l x) (@Int.toNat (Nat.cast x6 : Int)) (@SessionD.mk (0 : Int) (0 : Int) (@List.nil UInt8) VerdictD.dflt))) (@SessionD.name (@AlkA.s x)))
 (∃ x12 : Unit,
 ((@Eq Bool (@Decidable.decide (@GE.ge Int _ (Nat.cast x6 : Int) (0 : Int)) _) (@List.any SessionD (@AlkA.l x) (@alk (@AlkA.s x)))) ∧
 ((@Eq Int (@SessionD.id (@AlkA.s x)) (@SessionD.id (@AlkA.s x))) ∧
 ((@Eq Int (@SessionD.seq (@AlkA.s x)) (@SessionD.seq (@AlkA.s x))) ∧
 ((@Eq Bs (@SessionD.name (@AlkA.s x)) (@SessionD.name (@AlkA.s x))) ∧
 ((@Eq Int (@VerdictD.code (@SessionD.last (@AlkA.s x))) (@VerdictD.code (@SessionD.last (@AlkA.s x)))) ∧
 ((@Eq Int (@VerdictD.session (@SessionD.last (@AlkA.s x))) (@VerdictD.session (@SessionD.last (@AlkA.s x)))) ∧
 ((@Eq Int (@VerdictD.rev (@SessionD.last (@AlkA.s x))) (@VerdictD.rev (@SessionD.last (@AlkA.s x)))) ∧
 ((@Eq Bs (@VerdictD.path (@SessionD.last (@AlkA.s x))) (@VerdictD.path (@SessionD.last (@AlkA.s x)))) ∧
 ((@Eq Int (@VerdictD.digest (@SessionD.last (@AlkA.s x))) (@VerdictD.digest (@SessionD.last (@AlkA.s x)))) ∧
 ((@Eq (@List CommitD) (@VerdictD.commits (@SessionD.last (@AlkA.s x))) (@VerdictD.commits (@SessionD.last (@AlkA.s x)))) ∧
 ((@Eq Int (@VerdictD.member (@SessionD.last (@AlkA.s x))) (@VerdictD.member (@SessionD.last (@AlkA.s x)))) ∧
 True))))))))))))
 (∃ x13 : Nat,
 ((@Eq Int (@Go.IntKind.wrap Go.IntKind.i64 (@HAdd.hAdd Int Int Int _ (Nat.cast x6 : Int) (1 : Int))) (Nat.cast x13 : Int)) ∧
 (((@LE.le Nat _ x13 (@List.length SessionD (@AlkA.l x))) ∧
 (∀ x14 : Nat,
 (∀ x15 : SessionD,
 ((@LT.lt Nat _ x14 x13) →
 ((@Eq (@Option SessionD) (@GetElem?.getElem? (@List SessionD) Nat SessionD (fun x16 : (@List SessionD) => (fun x17 : Nat => (@LT.lt Nat _ x17 (@List.length SessionD x16)))) _ (@AlkA.l x) x14) (@Option.some SessionD x15)) →
 (@Eq Bool (@Bool.or (@BEq.beq Int _ (@SessionD.id x15) (@SessionD.id (@AlkA.s x))) (@BEq.beq Bs _ (@SessionD.name x15) (@SessionD.name (@AlkA.s x)))) Bool.false)))))) ∧
 (@LT.lt Nat _ (@Nat.sub (@List.length SessionD (@AlkA.l x)) x13) (@Nat.sub (@List.length SessionD (@AlkA.l x)) x6)))))))
 (Bad "check" "slices.go:109"))
 (∃ x18 : Unit,
 ((@Eq Bool (@Decidable.decide (@GE.ge Int _ (@Neg.neg Int _ (1 : Int)) (0 : Int)) _) (@List.any SessionD (@AlkA.l x) (@alk (@AlkA.s x)))) ∧
 ((@Eq Int (@SessionD.id (@AlkA.s x)) (@SessionD.id (@AlkA.s x))) ∧
 ((@Eq Int (@SessionD.seq (@AlkA.s x)) (@SessionD.seq (@AlkA.s x))) ∧
 ((@Eq Bs (@SessionD.name (@AlkA.s x)) (@SessionD.name (@AlkA.s x))) ∧
 ((@Eq Int (@VerdictD.code (@SessionD.last (@AlkA.s x))) (@VerdictD.code (@SessionD.last (@AlkA.s x)))) ∧
 ((@Eq Int (@VerdictD.session (@SessionD.last (@AlkA.s x))) (@VerdictD.session (@SessionD.last (@AlkA.s x)))) ∧
 ((@Eq Int (@VerdictD.rev (@SessionD.last (@AlkA.s x))) (@VerdictD.rev (@SessionD.last (@AlkA.s x)))) ∧
 ((@Eq Bs (@VerdictD.path (@SessionD.last (@AlkA.s x))) (@VerdictD.path (@SessionD.last (@AlkA.s x)))) ∧
 ((@Eq Int (@VerdictD.digest (@SessionD.last (@AlkA.s x))) (@VerdictD.digest (@SessionD.last (@AlkA.s x)))) ∧
 ((@Eq (@List CommitD) (@VerdictD.commits (@SessionD.last (@AlkA.s x))) (@VerdictD.commits (@SessionD.last (@AlkA.s x)))) ∧
 ((@Eq Int (@VerdictD.member (@SessionD.last (@AlkA.s x))) (@VerdictD.member (@SessionD.last (@AlkA.s x)))) ∧
 True)))))))))))))))))) := by kernel_rfl

theorem load1_vc (x : load1T.γ) : evCall loadEnv (ev loadEnv 1000) 28 (load1T.args x) ⟨load1T.blks x, load1T.n0, []⟩ (fun _ _ => False) (load1T.ends x) = (
(br (@Decidable.decide (@LT.lt Int _ (@TabA.size x) (1 : Int)) _)
 (∃ x1 : Unit,
 (Bad "match: mptr" ""))
 (br (@Decidable.decide (@GT.gt Int _ (@TabA.size x) (16 : Int)) _)
 (∃ x2 : Unit,
 (Bad "match: mptr" ""))
 ((@LE.le Nat _ (@HMul.hMul _ _ _ _ (@List.length SessionD (@TabA.l x)) (112 : Nat)) room47) →
 (br (@Decidable.decide (@GT.gt Int _ (Nat.cast (@List.length SessionD (@TabA.l x)) : Int) (@TabA.size x)) _)
 (∃ x3 : Unit,
 (Bad "match: mptr" ""))
 ((@LE.le Nat _ (@HMul.hMul _ _ _ _ (@List.length SessionD (@TabA.l x)) (112 : Nat)) room47) →
 ((∃ x4 : Nat,
 ((@Eq Int (0 : Int) (Nat.cast x4 : Int)) ∧
 ((@LE.le Nat _ x4 (@List.length SessionD (@TabA.l x))) ∧
 (@GoodTo (@TabA.l x) x4)))) ∧
 (∀ x5 : Nat,
 (((@LE.le Nat _ x5 (@List.length SessionD (@TabA.l x))) ∧
 (@GoodTo (@TabA.l x) x5)) →
 (br (@Decidable.decide (@LT.lt Int _ (Nat.cast x5 : Int) (Nat.cast (@List.length SessionD (@TabA.l x)) : Int)) _)
 (br (@Decidable.decide ((@LE.le Int _ (0 : Int) (Nat.cast x5 : Int)) ∧
 (@LT.lt Int _ (Nat.cast x5 : Int) (Nat.cast (@List.length SessionD (@TabA.l x)) : Int))) _)
 (br (@Decidable.decide (@LT.lt Int _ (@SessionD.seq (@List.getD SessionD (@TabA.l x) (@Int.toNat (Nat.cast x5 : Int)) (@SessionD.mk (0 : Int) (0 : Int) (@List.nil UInt8) VerdictD.dflt))) (0 : Int)) _)
 (∃ x6 : Unit,
 (Bad "match: mptr" ""))
 (br (@bndB (@List.length SessionD (@TabA.l x)) (@Option.none Int) (@Option.some Int (Nat.cast x5 : Int)) (@Option.none Int))
 (∃ x7 : AlkA,
 ((@Eq (@List SessionD) (@cutL SessionD (@TabA.l x) (@Option.none Int) (@Option.some Int (Nat.cast x5 : Int))) (@AlkA.l x7)) ∧
 ((@Eq Int (@SessionD.id (@List.getD SessionD (@TabA.l x) (@Int.toNat (Nat.cast x5 : Int)) (@SessionD.mk (0 : Int) (0 : Int) (@List.nil UInt8) VerdictD.dflt))) (@SessionD.id (@AlkA.s x7))) ∧
 ((@Eq Int (@SessionD.seq (@List.getD SessionD (@TabA.l x) (@Int.toNat (Nat.cast x5 : Int)) (@SessionD.mk (0 : Int) (0 : Int) (@List.nil UInt8) VerdictD.dflt))) (@SessionD.seq (@AlkA.s x7))) ∧
 ((@Eq Bs (@SessionD.name (@List.getD SessionD (@TabA.l x) (@Int.toNat (Nat.cast x5 : Int)) (@SessionD.mk (0 : Int) (0 : Int) (@List.nil UInt8) VerdictD.dflt))) (@SessionD.name (@AlkA.s x7))) ∧
 ((@Eq Int (@VerdictD.code (@SessionD.last (@List.getD SessionD (@TabA.l x) (@Int.toNat (Nat.cast x5 : Int)) (@SessionD.mk (0 : Int) (0 : Int) (@List.nil UInt8) VerdictD.dflt)))) (@VerdictD.code (@SessionD.last (@AlkA.s x7)))) ∧
 ((@Eq Int (@VerdictD.session (@SessionD.last (@List.getD SessionD (@TabA.l x) (@Int.toNat (Nat.cast x5 : Int)) (@SessionD.mk (0 : Int) (0 : Int) (@List.nil UInt8) VerdictD.dflt)))) (@VerdictD.session (@SessionD.last (@AlkA.s x7)))) ∧
 ((@Eq Int (@VerdictD.rev (@SessionD.last (@List.getD SessionD (@TabA.l x) (@Int.toNat (Nat.cast x5 : Int)) (@SessionD.mk (0 : Int) (0 : Int) (@List.nil UInt8) VerdictD.dflt)))) (@VerdictD.rev (@SessionD.last (@AlkA.s x7)))) ∧
 ((@Eq Bs (@VerdictD.path (@SessionD.last (@List.getD SessionD (@TabA.l x) (@Int.toNat (Nat.cast x5 : Int)) (@SessionD.mk (0 : Int) (0 : Int) (@List.nil UInt8) VerdictD.dflt)))) (@VerdictD.path (@SessionD.last (@AlkA.s x7)))) ∧
 ((@Eq Int (@VerdictD.digest (@SessionD.last (@List.getD SessionD (@TabA.l x) (@Int.toNat (Nat.cast x5 : Int)) (@SessionD.mk (0 : Int) (0 : Int) (@List.nil UInt8) VerdictD.dflt)))) (@VerdictD.digest (@SessionD.last (@AlkA.s x7)))) ∧
 ((@Eq (@List CommitD) (@VerdictD.commits (@SessionD.last (@List.getD SessionD (@TabA.l x) (@Int.toNat (Nat.cast x5 : Int)) (@SessionD.mk (0 : Int) (0 : Int) (@List.nil UInt8) VerdictD.dflt)))) (@VerdictD.commits (@SessionD.last (@AlkA.s x7)))) ∧
 ((@Eq Int (@VerdictD.member (@SessionD.last (@List.getD SessionD (@TabA.l x) (@Int.toNat (Nat.cast x5 : Int)) (@SessionD.mk (0 : Int) (0 : Int) (@List.nil UInt8) VerdictD.dflt)))) (@VerdictD.member (@SessionD.last (@AlkA.s x7)))) ∧
 (True ∧
 (∀ x8 : Unit,
 (True →
 (br (@List.any SessionD (@AlkA.l x7) (@alk (@AlkA.s x7)))
 (∃ x9 : Unit,
 (Bad "match: mptr" ""))
 (∃ x10 : Nat,
 ((@Eq Int (@Go.IntKind.wrap Go.IntKind.i64 (@HAdd.hAdd Int Int Int _ (Nat.cast x5 : Int) (1 : Int))) (Nat.cast x10 : Int)) ∧
 (((@LE.le Nat _ x10 (@List.length SessionD (@TabA.l x))) ∧
 (@GoodTo (@TabA.l x) x10)) ∧
 (@LT.lt Nat _ (@Nat.sub (@List.length SessionD (@TabA.l x)) x10) (@Nat.sub (@List.length SessionD (@TabA.l x)) x5)))))))))))))))))))))
 (Bad "check" "session.go:159")))
 (Bad "check" "session.go:158"))
 (∃ x11 : (@List SessionD),
 ((@Eq (@List SessionD) (@TabA.l x) x11) ∧
 (True ∧
 (∀ x12 : Unit,
 (True →
 (∃ x13 : Unit,
 ((@Eq Int (0 : Int) (0 : Int)) ∧
 ((@Eq Int (@TabA.size x) (@TabA.size x)) ∧
 ((@Eq Nat (0 : Nat) (0 : Nat)) ∧
 ((@Eq Nat (@List.length SessionD x11) (@List.length SessionD (@TabA.l x))) ∧
 ((@Eq (@List SessionD) x11 (@TabA.l x)) ∧
 True))))))))))))))))))))) := by kernel_rfl

theorem load2_vc (x : load2T.γ) : evCall loadEnv (ev loadEnv 1000) 28 (load2T.args x) ⟨load2T.blks x, load2T.n0, []⟩ (fun _ _ => False) (load2T.ends x) = (
(br (@Decidable.decide (@LT.lt Int _ (@TabA.size x) (1 : Int)) _)
 (∃ x1 : Unit,
 ((@Eq Int (1 : Int) (@loadE (@TabA.size x))) ∧
 True))
 (br (@Decidable.decide (@GT.gt Int _ (@TabA.size x) (16 : Int)) _)
 (∃ x2 : Unit,
 ((@Eq Int (1 : Int) (@loadE (@TabA.size x))) ∧
 True))
 ((@LE.le Nat _ (@HMul.hMul _ _ _ _ (@List.length SessionD (@TabA.l x)) (112 : Nat)) room47) →
 (br (@Decidable.decide (@GT.gt Int _ (Nat.cast (@List.length SessionD (@TabA.l x)) : Int) (@TabA.size x)) _)
 (∃ x3 : Unit,
 ((@Eq Int (4 : Int) (@loadE (@TabA.size x))) ∧
 True))
 ((@LE.le Nat _ (@HMul.hMul _ _ _ _ (@List.length SessionD (@TabA.l x)) (112 : Nat)) room47) →
 ((∃ x4 : Nat,
 ((@Eq Int (0 : Int) (Nat.cast x4 : Int)) ∧
 ((@LE.le Nat _ x4 (@List.length SessionD (@TabA.l x))) ∧
 (@GoodTo (@TabA.l x) x4)))) ∧
 (∀ x5 : Nat,
 (((@LE.le Nat _ x5 (@List.length SessionD (@TabA.l x))) ∧
 (@GoodTo (@TabA.l x) x5)) →
 (br (@Decidable.decide (@LT.lt Int _ (Nat.cast x5 : Int) (Nat.cast (@List.length SessionD (@TabA.l x)) : Int)) _)
 (br (@Decidable.decide ((@LE.le Int _ (0 : Int) (Nat.cast x5 : Int)) ∧
 (@LT.lt Int _ (Nat.cast x5 : Int) (Nat.cast (@List.length SessionD (@TabA.l x)) : Int))) _)
 (br (@Decidable.decide (@LT.lt Int _ (@SessionD.seq (@List.getD SessionD (@TabA.l x) (@Int.toNat (Nat.cast x5 : Int)) (@SessionD.mk (0 : Int) (0 : Int) (@List.nil UInt8) VerdictD.dflt))) (0 : Int)) _)
 (∃ x6 : Unit,
 ((@Eq Int (4 : Int) (@loadE (@TabA.size x))) ∧
 True))
 (br (@bndB (@List.length SessionD (@TabA.l x)) (@Option.none Int) (@Option.some Int (Nat.cast x5 : Int)) (@Option.none Int))
 (∃ x7 : AlkA,
 ((@Eq (@List SessionD) (@cutL SessionD (@TabA.l x) (@Option.none Int) (@Option.some Int (Nat.cast x5 : Int))) (@AlkA.l x7)) ∧
 ((@Eq Int (@SessionD.id (@List.getD SessionD (@TabA.l x) (@Int.toNat (Nat.cast x5 : Int)) (@SessionD.mk (0 : Int) (0 : Int) (@List.nil UInt8) VerdictD.dflt))) (@SessionD.id (@AlkA.s x7))) ∧
 ((@Eq Int (@SessionD.seq (@List.getD SessionD (@TabA.l x) (@Int.toNat (Nat.cast x5 : Int)) (@SessionD.mk (0 : Int) (0 : Int) (@List.nil UInt8) VerdictD.dflt))) (@SessionD.seq (@AlkA.s x7))) ∧
 ((@Eq Bs (@SessionD.name (@List.getD SessionD (@TabA.l x) (@Int.toNat (Nat.cast x5 : Int)) (@SessionD.mk (0 : Int) (0 : Int) (@List.nil UInt8) VerdictD.dflt))) (@SessionD.name (@AlkA.s x7))) ∧
 ((@Eq Int (@VerdictD.code (@SessionD.last (@List.getD SessionD (@TabA.l x) (@Int.toNat (Nat.cast x5 : Int)) (@SessionD.mk (0 : Int) (0 : Int) (@List.nil UInt8) VerdictD.dflt)))) (@VerdictD.code (@SessionD.last (@AlkA.s x7)))) ∧
 ((@Eq Int (@VerdictD.session (@SessionD.last (@List.getD SessionD (@TabA.l x) (@Int.toNat (Nat.cast x5 : Int)) (@SessionD.mk (0 : Int) (0 : Int) (@List.nil UInt8) VerdictD.dflt)))) (@VerdictD.session (@SessionD.last (@AlkA.s x7)))) ∧
 ((@Eq Int (@VerdictD.rev (@SessionD.last (@List.getD SessionD (@TabA.l x) (@Int.toNat (Nat.cast x5 : Int)) (@SessionD.mk (0 : Int) (0 : Int) (@List.nil UInt8) VerdictD.dflt)))) (@VerdictD.rev (@SessionD.last (@AlkA.s x7)))) ∧
 ((@Eq Bs (@VerdictD.path (@SessionD.last (@List.getD SessionD (@TabA.l x) (@Int.toNat (Nat.cast x5 : Int)) (@SessionD.mk (0 : Int) (0 : Int) (@List.nil UInt8) VerdictD.dflt)))) (@VerdictD.path (@SessionD.last (@AlkA.s x7)))) ∧
 ((@Eq Int (@VerdictD.digest (@SessionD.last (@List.getD SessionD (@TabA.l x) (@Int.toNat (Nat.cast x5 : Int)) (@SessionD.mk (0 : Int) (0 : Int) (@List.nil UInt8) VerdictD.dflt)))) (@VerdictD.digest (@SessionD.last (@AlkA.s x7)))) ∧
 ((@Eq (@List CommitD) (@VerdictD.commits (@SessionD.last (@List.getD SessionD (@TabA.l x) (@Int.toNat (Nat.cast x5 : Int)) (@SessionD.mk (0 : Int) (0 : Int) (@List.nil UInt8) VerdictD.dflt)))) (@VerdictD.commits (@SessionD.last (@AlkA.s x7)))) ∧
 ((@Eq Int (@VerdictD.member (@SessionD.last (@List.getD SessionD (@TabA.l x) (@Int.toNat (Nat.cast x5 : Int)) (@SessionD.mk (0 : Int) (0 : Int) (@List.nil UInt8) VerdictD.dflt)))) (@VerdictD.member (@SessionD.last (@AlkA.s x7)))) ∧
 (True ∧
 (∀ x8 : Unit,
 (True →
 (br (@List.any SessionD (@AlkA.l x7) (@alk (@AlkA.s x7)))
 (∃ x9 : Unit,
 ((@Eq Int (4 : Int) (@loadE (@TabA.size x))) ∧
 True))
 (∃ x10 : Nat,
 ((@Eq Int (@Go.IntKind.wrap Go.IntKind.i64 (@HAdd.hAdd Int Int Int _ (Nat.cast x5 : Int) (1 : Int))) (Nat.cast x10 : Int)) ∧
 (((@LE.le Nat _ x10 (@List.length SessionD (@TabA.l x))) ∧
 (@GoodTo (@TabA.l x) x10)) ∧
 (@LT.lt Nat _ (@Nat.sub (@List.length SessionD (@TabA.l x)) x10) (@Nat.sub (@List.length SessionD (@TabA.l x)) x5)))))))))))))))))))))
 (Bad "check" "session.go:159")))
 (Bad "check" "session.go:158"))
 (∃ x11 : (@List SessionD),
 ((@Eq (@List SessionD) (@TabA.l x) x11) ∧
 (True ∧
 (∀ x12 : Unit,
 (True →
 (∃ x13 : Unit,
 (Bad "match: nilp" ""))))))))))))))))) := by kernel_rfl

theorem rload1_vc (x : load1T.γ) : evCall rloadEnv (ev rloadEnv 1000) 29 (load1T.args x) ⟨load1T.blks x, load1T.n0, []⟩ (fun _ _ => False) (load1T.ends x) = (
(br (@Decidable.decide (@LT.lt Int _ (@TabA.size x) (1 : Int)) _)
 (∃ x1 : Unit,
 (Bad "match: mptr" ""))
 (br (@Decidable.decide (@GT.gt Int _ (@TabA.size x) (16 : Int)) _)
 (∃ x2 : Unit,
 (Bad "match: mptr" ""))
 ((@LE.le Nat _ (@HMul.hMul _ _ _ _ (@List.length SessionD (@TabA.l x)) (112 : Nat)) room47) →
 (br (@Decidable.decide (@GT.gt Int _ (Nat.cast (@List.length SessionD (@TabA.l x)) : Int) (@TabA.size x)) _)
 (∃ x3 : Unit,
 (Bad "match: mptr" ""))
 ((∃ x4 : Nat,
 ((@Eq Int (0 : Int) (Nat.cast x4 : Int)) ∧
 ((@Eq Int (@TabA.size x) (@TabA.size x)) ∧
 ((@Eq Nat (0 : Nat) x4) ∧
 ((@Eq (@List SessionD) (@List.nil SessionD) (@List.take SessionD x4 (@TabA.l x))) ∧
 ((@LE.le Nat _ x4 (@List.length SessionD (@TabA.l x))) ∧
 (@GoodTo (@TabA.l x) x4))))))) ∧
 (∀ x5 : Nat,
 (((@LE.le Nat _ x5 (@List.length SessionD (@TabA.l x))) ∧
 (@GoodTo (@TabA.l x) x5)) →
 ((@LE.le Nat _ (@HMul.hMul _ _ _ _ (@List.length SessionD (@TabA.l x)) (112 : Nat)) room47) →
 (br (@Decidable.decide (@LT.lt Int _ (Nat.cast x5 : Int) (Nat.cast (@List.length SessionD (@TabA.l x)) : Int)) _)
 (br (@Decidable.decide ((@LE.le Int _ (0 : Int) (Nat.cast x5 : Int)) ∧
 (@LT.lt Int _ (Nat.cast x5 : Int) (Nat.cast (@List.length SessionD (@TabA.l x)) : Int))) _)
 (br (@Decidable.decide (@LT.lt Int _ (@SessionD.seq (@List.getD SessionD (@TabA.l x) (@Int.toNat (Nat.cast x5 : Int)) (@SessionD.mk (0 : Int) (0 : Int) (@List.nil UInt8) VerdictD.dflt))) (0 : Int)) _)
 (∃ x6 : Unit,
 (Bad "match: mptr" ""))
 ((∃ x7 : Nat,
 ((@Eq Int (0 : Int) (Nat.cast x7 : Int)) ∧
 ((@Eq Bool (@Decidable.decide (@LE.le Int _ (Nat.cast x7 : Int) (Nat.cast x5 : Int)) _) Bool.true) ∧
 (∀ x8 : Nat,
 ((@LT.lt Nat _ x8 x7) →
 (@Eq Bool (@alk (@List.getD SessionD (@TabA.l x) (@Int.toNat (Nat.cast x5 : Int)) (@SessionD.mk (0 : Int) (0 : Int) (@List.nil UInt8) VerdictD.dflt)) (@List.getD SessionD (@TabA.l x) x8 (@SessionD.mk (0 : Int) (0 : Int) (@List.nil UInt8) VerdictD.dflt))) Bool.false)))))) ∧
 (∀ x9 : Nat,
 (((@Eq Bool (@Decidable.decide (@LE.le Int _ (Nat.cast x9 : Int) (Nat.cast x5 : Int)) _) Bool.true) ∧
 (∀ x10 : Nat,
 ((@LT.lt Nat _ x10 x9) →
 (@Eq Bool (@alk (@List.getD SessionD (@TabA.l x) (@Int.toNat (Nat.cast x5 : Int)) (@SessionD.mk (0 : Int) (0 : Int) (@List.nil UInt8) VerdictD.dflt)) (@List.getD SessionD (@TabA.l x) x10 (@SessionD.mk (0 : Int) (0 : Int) (@List.nil UInt8) VerdictD.dflt))) Bool.false)))) →
 (br (@Decidable.decide (@LT.lt Int _ (Nat.cast x9 : Int) (Nat.cast x5 : Int)) _)
 (br (@Decidable.decide ((@LE.le Int _ (0 : Int) (Nat.cast x9 : Int)) ∧
 (@LT.lt Int _ (Nat.cast x9 : Int) (Nat.cast (@List.length SessionD (@TabA.l x)) : Int))) _)
 (br (@Decidable.decide ((@LE.le Int _ (0 : Int) (Nat.cast x5 : Int)) ∧
 (@LT.lt Int _ (Nat.cast x5 : Int) (Nat.cast (@List.length SessionD (@TabA.l x)) : Int))) _)
 (br (@BEq.beq Int _ (@SessionD.id (@List.getD SessionD (@TabA.l x) (@Int.toNat (Nat.cast x9 : Int)) (@SessionD.mk (0 : Int) (0 : Int) (@List.nil UInt8) VerdictD.dflt))) (@SessionD.id (@List.getD SessionD (@TabA.l x) (@Int.toNat (Nat.cast x5 : Int)) (@SessionD.mk (0 : Int) (0 : Int) (@List.nil UInt8) VerdictD.dflt))))
 (∃ x11 : Unit,
 (Bad "match: mptr" ""))
 (br (@Decidable.decide ((@LE.le Int _ (0 : Int) (Nat.cast x9 : Int)) ∧
 (@LT.lt Int _ (Nat.cast x9 : Int) (Nat.cast (@List.length SessionD (@TabA.l x)) : Int))) _)
 (br (@Decidable.decide ((@LE.le Int _ (0 : Int) (Nat.cast x5 : Int)) ∧
 (@LT.lt Int _ (Nat.cast x5 : Int) (Nat.cast (@List.length SessionD (@TabA.l x)) : Int))) _)
 (br (@BEq.beq Bs _ (@SessionD.name (@List.getD SessionD (@TabA.l x) (@Int.toNat (Nat.cast x9 : Int)) (@SessionD.mk (0 : Int) (0 : Int) (@List.nil UInt8) VerdictD.dflt))) (@SessionD.name (@List.getD SessionD (@TabA.l x) (@Int.toNat (Nat.cast x5 : Int)) (@SessionD.mk (0 : Int) (0 : Int) (@List.nil UInt8) VerdictD.dflt))))
 (∃ x12 : Unit,
 (Bad "match: mptr" ""))
 (∃ x13 : Nat,
 ((@Eq Int (@Go.IntKind.wrap Go.IntKind.i64 (@HAdd.hAdd Int Int Int _ (Nat.cast x9 : Int) (1 : Int))) (Nat.cast x13 : Int)) ∧
 (((@Eq Bool (@Decidable.decide (@LE.le Int _ (Nat.cast x13 : Int) (Nat.cast x5 : Int)) _) Bool.true) ∧
 (∀ x14 : Nat,
 ((@LT.lt Nat _ x14 x13) →
 (@Eq Bool (@alk (@List.getD SessionD (@TabA.l x) (@Int.toNat (Nat.cast x5 : Int)) (@SessionD.mk (0 : Int) (0 : Int) (@List.nil UInt8) VerdictD.dflt)) (@List.getD SessionD (@TabA.l x) x14 (@SessionD.mk (0 : Int) (0 : Int) (@List.nil UInt8) VerdictD.dflt))) Bool.false)))) ∧
 (@LT.lt Nat _ (@Nat.sub (@Int.toNat (Nat.cast x5 : Int)) x13) (@Nat.sub (@Int.toNat (Nat.cast x5 : Int)) x9))))))
 (Bad "check" "ref.go:140"))
 (Bad "check" "ref.go:140")))
 (Bad "check" "ref.go:140"))
 (Bad "check" "ref.go:140"))
 (br (@Decidable.decide ((@LE.le Int _ (0 : Int) (Nat.cast x5 : Int)) ∧
 (@LT.lt Int _ (Nat.cast x5 : Int) (Nat.cast (@List.length SessionD (@TabA.l x)) : Int))) _)
 (∃ x15 : SessionD,
 ((@Eq Int (@SessionD.id (@List.getD SessionD (@TabA.l x) (@Int.toNat (Nat.cast x5 : Int)) (@SessionD.mk (0 : Int) (0 : Int) (@List.nil UInt8) VerdictD.dflt))) (@SessionD.id x15)) ∧
 ((@Eq Int (@SessionD.seq (@List.getD SessionD (@TabA.l x) (@Int.toNat (Nat.cast x5 : Int)) (@SessionD.mk (0 : Int) (0 : Int) (@List.nil UInt8) VerdictD.dflt))) (@SessionD.seq x15)) ∧
 ((@Eq Bs (@SessionD.name (@List.getD SessionD (@TabA.l x) (@Int.toNat (Nat.cast x5 : Int)) (@SessionD.mk (0 : Int) (0 : Int) (@List.nil UInt8) VerdictD.dflt))) (@SessionD.name x15)) ∧
 ((@Eq Int (@VerdictD.code (@SessionD.last (@List.getD SessionD (@TabA.l x) (@Int.toNat (Nat.cast x5 : Int)) (@SessionD.mk (0 : Int) (0 : Int) (@List.nil UInt8) VerdictD.dflt)))) (@VerdictD.code (@SessionD.last x15))) ∧
 ((@Eq Int (@VerdictD.session (@SessionD.last (@List.getD SessionD (@TabA.l x) (@Int.toNat (Nat.cast x5 : Int)) (@SessionD.mk (0 : Int) (0 : Int) (@List.nil UInt8) VerdictD.dflt)))) (@VerdictD.session (@SessionD.last x15))) ∧
 ((@Eq Int (@VerdictD.rev (@SessionD.last (@List.getD SessionD (@TabA.l x) (@Int.toNat (Nat.cast x5 : Int)) (@SessionD.mk (0 : Int) (0 : Int) (@List.nil UInt8) VerdictD.dflt)))) (@VerdictD.rev (@SessionD.last x15))) ∧
 ((@Eq Bs (@VerdictD.path (@SessionD.last (@List.getD SessionD (@TabA.l x) (@Int.toNat (Nat.cast x5 : Int)) (@SessionD.mk (0 : Int) (0 : Int) (@List.nil UInt8) VerdictD.dflt)))) (@VerdictD.path (@SessionD.last x15))) ∧
 ((@Eq Int (@VerdictD.digest (@SessionD.last (@List.getD SessionD (@TabA.l x) (@Int.toNat (Nat.cast x5 : Int)) (@SessionD.mk (0 : Int) (0 : Int) (@List.nil UInt8) VerdictD.dflt)))) (@VerdictD.digest (@SessionD.last x15))) ∧
 ((@Eq (@List CommitD) (@VerdictD.commits (@SessionD.last (@List.getD SessionD (@TabA.l x) (@Int.toNat (Nat.cast x5 : Int)) (@SessionD.mk (0 : Int) (0 : Int) (@List.nil UInt8) VerdictD.dflt)))) (@VerdictD.commits (@SessionD.last x15))) ∧
 ((@Eq Int (@VerdictD.member (@SessionD.last (@List.getD SessionD (@TabA.l x) (@Int.toNat (Nat.cast x5 : Int)) (@SessionD.mk (0 : Int) (0 : Int) (@List.nil UInt8) VerdictD.dflt)))) (@VerdictD.member (@SessionD.last x15))) ∧
 (True ∧
 (∀ x16 : Unit,
 (True →
 (((@Nat.le (@HMul.hMul _ _ _ _ x5 (112 : Nat)) room47) ∧
 (@Nat.le (@HMul.hMul _ _ _ _ (1 : Nat) (112 : Nat)) room47)) →
 (br (@Bool.and (@Bool.and (@Decidable.decide (@LE.le Nat _ (@HAdd.hAdd _ _ _ _ (0 : Nat) (1 : Nat)) (@List.length SessionD (@List.cons SessionD (@SessionD.mk (@SessionD.id x15) (@SessionD.seq x15) (@SessionD.name x15) (@VerdictD.mk (@VerdictD.code (@SessionD.last x15)) (@VerdictD.session (@SessionD.last x15)) (@VerdictD.rev (@SessionD.last x15)) (@VerdictD.path (@SessionD.last x15)) (@VerdictD.digest (@SessionD.last x15)) (@VerdictD.commits (@SessionD.last x15)) (@VerdictD.member (@SessionD.last x15)))) (@List.nil SessionD)))) _) (@Decidable.decide (@LE.le Nat _ (@HAdd.hAdd _ _ _ _ (0 : Nat) x5) (@List.length SessionD (@List.take SessionD x5 (@TabA.l x)))) _)) (@Decidable.decide (@LE.le Nat _ (@HMul.hMul _ _ _ _ (@HAdd.hAdd _ _ _ _ x5 (@List.length SessionD (@List.take SessionD (1 : Nat) (@List.drop SessionD (0 : Nat) (@List.cons SessionD (@SessionD.mk (@SessionD.id x15) (@SessionD.seq x15) (@SessionD.name x15) (@VerdictD.mk (@VerdictD.code (@SessionD.last x15)) (@VerdictD.session (@SessionD.last x15)) (@VerdictD.rev (@SessionD.last x15)) (@VerdictD.path (@SessionD.last x15)) (@VerdictD.digest (@SessionD.last x15)) (@VerdictD.commits (@SessionD.last x15)) (@VerdictD.member (@SessionD.last x15)))) (@List.nil SessionD)))))) (112 : Nat)) room47) _))
 (∃ x17 : Nat,
 ((@Eq Int (@Go.IntKind.wrap Go.IntKind.i64 (@HAdd.hAdd Int Int Int _ (Nat.cast x5 : Int) (1 : Int))) (Nat.cast x17 : Int)) ∧
 ((@Eq Int (@TabA.size x) (@TabA.size x)) ∧
 ((@Eq Nat (0 : Nat) (0 : Nat)) ∧
 ((@Eq Nat (@HAdd.hAdd _ _ _ _ x5 (@List.length SessionD (@List.take SessionD (1 : Nat) (@List.drop SessionD (0 : Nat) (@List.cons SessionD (@SessionD.mk (@SessionD.id x15) (@SessionD.seq x15) (@SessionD.name x15) (@VerdictD.mk (@VerdictD.code (@SessionD.last x15)) (@VerdictD.session (@SessionD.last x15)) (@VerdictD.rev (@SessionD.last x15)) (@VerdictD.path (@SessionD.last x15)) (@VerdictD.digest (@SessionD.last x15)) (@VerdictD.commits (@SessionD.last x15)) (@VerdictD.member (@SessionD.last x15)))) (@List.nil SessionD)))))) x17) ∧
 ((@Eq (@List SessionD) (@HAppend.hAppend (@List SessionD) (@List SessionD) (@List SessionD) _ (@List.take SessionD x5 (@List.drop SessionD (0 : Nat) (@List.take SessionD x5 (@TabA.l x)))) (@List.take SessionD (1 : Nat) (@List.drop SessionD (0 : Nat) (@List.cons SessionD (@SessionD.mk (@SessionD.id x15) (@SessionD.seq x15) (@SessionD.name x15) (@VerdictD.mk (@VerdictD.code (@SessionD.last x15)) (@VerdictD.session (@SessionD.last x15)) (@VerdictD.rev (@SessionD.last x15)) (@VerdictD.path (@SessionD.last x15)) (@VerdictD.digest (@SessionD.last x15)) (@VerdictD.commits (@SessionD.last x15)) (@VerdictD.member (@SessionD.last x15)))) (@List.nil SessionD))))) (@List.take SessionD x17 (@TabA.l x))) ∧
 (((@LE.le Nat _ x17 (@List.length SessionD (@TabA.l x))) ∧
 (@GoodTo (@TabA.l x) x17)) ∧
 (@LT.lt Nat _ (@Nat.sub (@List.length SessionD (@TabA.l x)) x17) (@Nat.sub (@List.length SessionD (@TabA.l x)) x5)))))))))
 (Bad "check" "ref.go:144")))))))))))))))))
 (Bad "check" "ref.go:144")))))))
 (Bad "check" "ref.go:136"))
 (∃ x18 : Unit,
 ((@Eq Int (0 : Int) (0 : Int)) ∧
 ((@Eq Int (@TabA.size x) (@TabA.size x)) ∧
 ((@Eq Nat (0 : Nat) (0 : Nat)) ∧
 ((@Eq Nat x5 (@List.length SessionD (@TabA.l x))) ∧
 ((@Eq (@List SessionD) (@List.take SessionD x5 (@TabA.l x)) (@TabA.l x)) ∧
 True)))))))))))))))) := by kernel_rfl

theorem rload2_vc (x : load2T.γ) : evCall rloadEnv (ev rloadEnv 1000) 29 (load2T.args x) ⟨load2T.blks x, load2T.n0, []⟩ (fun _ _ => False) (load2T.ends x) = (
(br (@Decidable.decide (@LT.lt Int _ (@TabA.size x) (1 : Int)) _)
 (∃ x1 : Unit,
 ((@Eq Int (1 : Int) (@loadE (@TabA.size x))) ∧
 True))
 (br (@Decidable.decide (@GT.gt Int _ (@TabA.size x) (16 : Int)) _)
 (∃ x2 : Unit,
 ((@Eq Int (1 : Int) (@loadE (@TabA.size x))) ∧
 True))
 ((@LE.le Nat _ (@HMul.hMul _ _ _ _ (@List.length SessionD (@TabA.l x)) (112 : Nat)) room47) →
 (br (@Decidable.decide (@GT.gt Int _ (Nat.cast (@List.length SessionD (@TabA.l x)) : Int) (@TabA.size x)) _)
 (∃ x3 : Unit,
 ((@Eq Int (4 : Int) (@loadE (@TabA.size x))) ∧
 True))
 ((∃ x4 : Nat,
 ((@Eq Int (0 : Int) (Nat.cast x4 : Int)) ∧
 ((@Eq Int (@TabA.size x) (@TabA.size x)) ∧
 ((@Eq Nat (0 : Nat) x4) ∧
 ((@Eq (@List SessionD) (@List.nil SessionD) (@List.take SessionD x4 (@TabA.l x))) ∧
 ((@LE.le Nat _ x4 (@List.length SessionD (@TabA.l x))) ∧
 (@GoodTo (@TabA.l x) x4))))))) ∧
 (∀ x5 : Nat,
 (((@LE.le Nat _ x5 (@List.length SessionD (@TabA.l x))) ∧
 (@GoodTo (@TabA.l x) x5)) →
 ((@LE.le Nat _ (@HMul.hMul _ _ _ _ (@List.length SessionD (@TabA.l x)) (112 : Nat)) room47) →
 (br (@Decidable.decide (@LT.lt Int _ (Nat.cast x5 : Int) (Nat.cast (@List.length SessionD (@TabA.l x)) : Int)) _)
 (br (@Decidable.decide ((@LE.le Int _ (0 : Int) (Nat.cast x5 : Int)) ∧
 (@LT.lt Int _ (Nat.cast x5 : Int) (Nat.cast (@List.length SessionD (@TabA.l x)) : Int))) _)
 (br (@Decidable.decide (@LT.lt Int _ (@SessionD.seq (@List.getD SessionD (@TabA.l x) (@Int.toNat (Nat.cast x5 : Int)) (@SessionD.mk (0 : Int) (0 : Int) (@List.nil UInt8) VerdictD.dflt))) (0 : Int)) _)
 (∃ x6 : Unit,
 ((@Eq Int (4 : Int) (@loadE (@TabA.size x))) ∧
 True))
 ((∃ x7 : Nat,
 ((@Eq Int (0 : Int) (Nat.cast x7 : Int)) ∧
 ((@Eq Bool (@Decidable.decide (@LE.le Int _ (Nat.cast x7 : Int) (Nat.cast x5 : Int)) _) Bool.true) ∧
 (∀ x8 : Nat,
 ((@LT.lt Nat _ x8 x7) →
 (@Eq Bool (@alk (@List.getD SessionD (@TabA.l x) (@Int.toNat (Nat.cast x5 : Int)) (@SessionD.mk (0 : Int) (0 : Int) (@List.nil UInt8) VerdictD.dflt)) (@List.getD SessionD (@TabA.l x) x8 (@SessionD.mk (0 : Int) (0 : Int) (@List.nil UInt8) VerdictD.dflt))) Bool.false)))))) ∧
 (∀ x9 : Nat,
 (((@Eq Bool (@Decidable.decide (@LE.le Int _ (Nat.cast x9 : Int) (Nat.cast x5 : Int)) _) Bool.true) ∧
 (∀ x10 : Nat,
 ((@LT.lt Nat _ x10 x9) →
 (@Eq Bool (@alk (@List.getD SessionD (@TabA.l x) (@Int.toNat (Nat.cast x5 : Int)) (@SessionD.mk (0 : Int) (0 : Int) (@List.nil UInt8) VerdictD.dflt)) (@List.getD SessionD (@TabA.l x) x10 (@SessionD.mk (0 : Int) (0 : Int) (@List.nil UInt8) VerdictD.dflt))) Bool.false)))) →
 (br (@Decidable.decide (@LT.lt Int _ (Nat.cast x9 : Int) (Nat.cast x5 : Int)) _)
 (br (@Decidable.decide ((@LE.le Int _ (0 : Int) (Nat.cast x9 : Int)) ∧
 (@LT.lt Int _ (Nat.cast x9 : Int) (Nat.cast (@List.length SessionD (@TabA.l x)) : Int))) _)
 (br (@Decidable.decide ((@LE.le Int _ (0 : Int) (Nat.cast x5 : Int)) ∧
 (@LT.lt Int _ (Nat.cast x5 : Int) (Nat.cast (@List.length SessionD (@TabA.l x)) : Int))) _)
 (br (@BEq.beq Int _ (@SessionD.id (@List.getD SessionD (@TabA.l x) (@Int.toNat (Nat.cast x9 : Int)) (@SessionD.mk (0 : Int) (0 : Int) (@List.nil UInt8) VerdictD.dflt))) (@SessionD.id (@List.getD SessionD (@TabA.l x) (@Int.toNat (Nat.cast x5 : Int)) (@SessionD.mk (0 : Int) (0 : Int) (@List.nil UInt8) VerdictD.dflt))))
 (∃ x11 : Unit,
 ((@Eq Int (4 : Int) (@loadE (@TabA.size x))) ∧
 True))
 (br (@Decidable.decide ((@LE.le Int _ (0 : Int) (Nat.cast x9 : Int)) ∧
 (@LT.lt Int _ (Nat.cast x9 : Int) (Nat.cast (@List.length SessionD (@TabA.l x)) : Int))) _)
 (br (@Decidable.decide ((@LE.le Int _ (0 : Int) (Nat.cast x5 : Int)) ∧
 (@LT.lt Int _ (Nat.cast x5 : Int) (Nat.cast (@List.length SessionD (@TabA.l x)) : Int))) _)
 (br (@BEq.beq Bs _ (@SessionD.name (@List.getD SessionD (@TabA.l x) (@Int.toNat (Nat.cast x9 : Int)) (@SessionD.mk (0 : Int) (0 : Int) (@List.nil UInt8) VerdictD.dflt))) (@SessionD.name (@List.getD SessionD (@TabA.l x) (@Int.toNat (Nat.cast x5 : Int)) (@SessionD.mk (0 : Int) (0 : Int) (@List.nil UInt8) VerdictD.dflt))))
 (∃ x12 : Unit,
 ((@Eq Int (4 : Int) (@loadE (@TabA.size x))) ∧
 True))
 (∃ x13 : Nat,
 ((@Eq Int (@Go.IntKind.wrap Go.IntKind.i64 (@HAdd.hAdd Int Int Int _ (Nat.cast x9 : Int) (1 : Int))) (Nat.cast x13 : Int)) ∧
 (((@Eq Bool (@Decidable.decide (@LE.le Int _ (Nat.cast x13 : Int) (Nat.cast x5 : Int)) _) Bool.true) ∧
 (∀ x14 : Nat,
 ((@LT.lt Nat _ x14 x13) →
 (@Eq Bool (@alk (@List.getD SessionD (@TabA.l x) (@Int.toNat (Nat.cast x5 : Int)) (@SessionD.mk (0 : Int) (0 : Int) (@List.nil UInt8) VerdictD.dflt)) (@List.getD SessionD (@TabA.l x) x14 (@SessionD.mk (0 : Int) (0 : Int) (@List.nil UInt8) VerdictD.dflt))) Bool.false)))) ∧
 (@LT.lt Nat _ (@Nat.sub (@Int.toNat (Nat.cast x5 : Int)) x13) (@Nat.sub (@Int.toNat (Nat.cast x5 : Int)) x9))))))
 (Bad "check" "ref.go:140"))
 (Bad "check" "ref.go:140")))
 (Bad "check" "ref.go:140"))
 (Bad "check" "ref.go:140"))
 (br (@Decidable.decide ((@LE.le Int _ (0 : Int) (Nat.cast x5 : Int)) ∧
 (@LT.lt Int _ (Nat.cast x5 : Int) (Nat.cast (@List.length SessionD (@TabA.l x)) : Int))) _)
 (∃ x15 : SessionD,
 ((@Eq Int (@SessionD.id (@List.getD SessionD (@TabA.l x) (@Int.toNat (Nat.cast x5 : Int)) (@SessionD.mk (0 : Int) (0 : Int) (@List.nil UInt8) VerdictD.dflt))) (@SessionD.id x15)) ∧
 ((@Eq Int (@SessionD.seq (@List.getD SessionD (@TabA.l x) (@Int.toNat (Nat.cast x5 : Int)) (@SessionD.mk (0 : Int) (0 : Int) (@List.nil UInt8) VerdictD.dflt))) (@SessionD.seq x15)) ∧
 ((@Eq Bs (@SessionD.name (@List.getD SessionD (@TabA.l x) (@Int.toNat (Nat.cast x5 : Int)) (@SessionD.mk (0 : Int) (0 : Int) (@List.nil UInt8) VerdictD.dflt))) (@SessionD.name x15)) ∧
 ((@Eq Int (@VerdictD.code (@SessionD.last (@List.getD SessionD (@TabA.l x) (@Int.toNat (Nat.cast x5 : Int)) (@SessionD.mk (0 : Int) (0 : Int) (@List.nil UInt8) VerdictD.dflt)))) (@VerdictD.code (@SessionD.last x15))) ∧
 ((@Eq Int (@VerdictD.session (@SessionD.last (@List.getD SessionD (@TabA.l x) (@Int.toNat (Nat.cast x5 : Int)) (@SessionD.mk (0 : Int) (0 : Int) (@List.nil UInt8) VerdictD.dflt)))) (@VerdictD.session (@SessionD.last x15))) ∧
 ((@Eq Int (@VerdictD.rev (@SessionD.last (@List.getD SessionD (@TabA.l x) (@Int.toNat (Nat.cast x5 : Int)) (@SessionD.mk (0 : Int) (0 : Int) (@List.nil UInt8) VerdictD.dflt)))) (@VerdictD.rev (@SessionD.last x15))) ∧
 ((@Eq Bs (@VerdictD.path (@SessionD.last (@List.getD SessionD (@TabA.l x) (@Int.toNat (Nat.cast x5 : Int)) (@SessionD.mk (0 : Int) (0 : Int) (@List.nil UInt8) VerdictD.dflt)))) (@VerdictD.path (@SessionD.last x15))) ∧
 ((@Eq Int (@VerdictD.digest (@SessionD.last (@List.getD SessionD (@TabA.l x) (@Int.toNat (Nat.cast x5 : Int)) (@SessionD.mk (0 : Int) (0 : Int) (@List.nil UInt8) VerdictD.dflt)))) (@VerdictD.digest (@SessionD.last x15))) ∧
 ((@Eq (@List CommitD) (@VerdictD.commits (@SessionD.last (@List.getD SessionD (@TabA.l x) (@Int.toNat (Nat.cast x5 : Int)) (@SessionD.mk (0 : Int) (0 : Int) (@List.nil UInt8) VerdictD.dflt)))) (@VerdictD.commits (@SessionD.last x15))) ∧
 ((@Eq Int (@VerdictD.member (@SessionD.last (@List.getD SessionD (@TabA.l x) (@Int.toNat (Nat.cast x5 : Int)) (@SessionD.mk (0 : Int) (0 : Int) (@List.nil UInt8) VerdictD.dflt)))) (@VerdictD.member (@SessionD.last x15))) ∧
 (True ∧
 (∀ x16 : Unit,
 (True →
 (((@Nat.le (@HMul.hMul _ _ _ _ x5 (112 : Nat)) room47) ∧
 (@Nat.le (@HMul.hMul _ _ _ _ (1 : Nat) (112 : Nat)) room47)) →
 (br (@Bool.and (@Bool.and (@Decidable.decide (@LE.le Nat _ (@HAdd.hAdd _ _ _ _ (0 : Nat) (1 : Nat)) (@List.length SessionD (@List.cons SessionD (@SessionD.mk (@SessionD.id x15) (@SessionD.seq x15) (@SessionD.name x15) (@VerdictD.mk (@VerdictD.code (@SessionD.last x15)) (@VerdictD.session (@SessionD.last x15)) (@VerdictD.rev (@SessionD.last x15)) (@VerdictD.path (@SessionD.last x15)) (@VerdictD.digest (@SessionD.last x15)) (@VerdictD.commits (@SessionD.last x15)) (@VerdictD.member (@SessionD.last x15)))) (@List.nil SessionD)))) _) (@Decidable.decide (@LE.le Nat _ (@HAdd.hAdd _ _ _ _ (0 : Nat) x5) (@List.length SessionD (@List.take SessionD x5 (@TabA.l x)))) _)) (@Decidable.decide (@LE.le Nat _ (@HMul.hMul _ _ _ _ (@HAdd.hAdd _ _ _ _ x5 (@List.length SessionD (@List.take SessionD (1 : Nat) (@List.drop SessionD (0 : Nat) (@List.cons SessionD (@SessionD.mk (@SessionD.id x15) (@SessionD.seq x15) (@SessionD.name x15) (@VerdictD.mk (@VerdictD.code (@SessionD.last x15)) (@VerdictD.session (@SessionD.last x15)) (@VerdictD.rev (@SessionD.last x15)) (@VerdictD.path (@SessionD.last x15)) (@VerdictD.digest (@SessionD.last x15)) (@VerdictD.commits (@SessionD.last x15)) (@VerdictD.member (@SessionD.last x15)))) (@List.nil SessionD)))))) (112 : Nat)) room47) _))
 (∃ x17 : Nat,
 ((@Eq Int (@Go.IntKind.wrap Go.IntKind.i64 (@HAdd.hAdd Int Int Int _ (Nat.cast x5 : Int) (1 : Int))) (Nat.cast x17 : Int)) ∧
 ((@Eq Int (@TabA.size x) (@TabA.size x)) ∧
 ((@Eq Nat (0 : Nat) (0 : Nat)) ∧
 ((@Eq Nat (@HAdd.hAdd _ _ _ _ x5 (@List.length SessionD (@List.take SessionD (1 : Nat) (@List.drop SessionD (0 : Nat) (@List.cons SessionD (@SessionD.mk (@SessionD.id x15) (@SessionD.seq x15) (@SessionD.name x15) (@VerdictD.mk (@VerdictD.code (@SessionD.last x15)) (@VerdictD.session (@SessionD.last x15)) (@VerdictD.rev (@SessionD.last x15)) (@VerdictD.path (@SessionD.last x15)) (@VerdictD.digest (@SessionD.last x15)) (@VerdictD.commits (@SessionD.last x15)) (@VerdictD.member (@SessionD.last x15)))) (@List.nil SessionD)))))) x17) ∧
 ((@Eq (@List SessionD) (@HAppend.hAppend (@List SessionD) (@List SessionD) (@List SessionD) _ (@List.take SessionD x5 (@List.drop SessionD (0 : Nat) (@List.take SessionD x5 (@TabA.l x)))) (@List.take SessionD (1 : Nat) (@List.drop SessionD (0 : Nat) (@List.cons SessionD (@SessionD.mk (@SessionD.id x15) (@SessionD.seq x15) (@SessionD.name x15) (@VerdictD.mk (@VerdictD.code (@SessionD.last x15)) (@VerdictD.session (@SessionD.last x15)) (@VerdictD.rev (@SessionD.last x15)) (@VerdictD.path (@SessionD.last x15)) (@VerdictD.digest (@SessionD.last x15)) (@VerdictD.commits (@SessionD.last x15)) (@VerdictD.member (@SessionD.last x15)))) (@List.nil SessionD))))) (@List.take SessionD x17 (@TabA.l x))) ∧
 (((@LE.le Nat _ x17 (@List.length SessionD (@TabA.l x))) ∧
 (@GoodTo (@TabA.l x) x17)) ∧
 (@LT.lt Nat _ (@Nat.sub (@List.length SessionD (@TabA.l x)) x17) (@Nat.sub (@List.length SessionD (@TabA.l x)) x5)))))))))
 (Bad "check" "ref.go:144")))))))))))))))))
 (Bad "check" "ref.go:144")))))))
 (Bad "check" "ref.go:136"))
 (∃ x18 : Unit,
 (Bad "match: nilp" "")))))))))))) := by kernel_rfl

theorem loads_vc (x : LoadsA) : evCall loadsE (ev loadsE 1000) 9 (loadsArgs x) ⟨[], 0, []⟩ (fun _ _ => False) (fun v _ => TrueV v) = (
(∃ x1 : Unit,
 (True ∧
 (∀ x2 : Unit,
 (True →
 (∃ x3 : (@List Deed6D),
 ((@Eq (@List Deed6D) (@LoadsA.l x) x3) ∧
 (True ∧
 (∀ x4 : Bool,
 (True →
 (br (@Bool.not x4)
 (@Eq Bool Bool.true Bool.true)
 ((@LE.le Nat _ (@HMul.hMul _ _ _ _ (@List.length SessionD (@LoadsA.raw x)) (112 : Nat)) room47) →
 (br (@Decidable.decide (@GT.gt Int _ (Nat.cast (@List.length SessionD (@LoadsA.raw x)) : Int) (40 : Int)) _)
 (@Eq Bool Bool.true Bool.true)
 (br (@Decidable.decide (@LT.lt Int _ (@LoadsA.size x) (1 : Int)) _)
 (@Or (∃ x5 : TabA,
 ((@Eq Int (@LoadsA.size x) (@TabA.size x5)) ∧
 ((@Eq (@List SessionD) (@LoadsA.raw x) (@TabA.l x5)) ∧
 (((@LE.le Int _ (1 : Int) (@TabA.size x5)) ∧
 ((@LE.le Int _ (@TabA.size x5) (16 : Int)) ∧
 ((@LE.le Int _ (Nat.cast (@List.length SessionD (@TabA.l x5)) : Int) (@TabA.size x5)) ∧
 ((∀ x6 : SessionD,
 ((@Membership.mem SessionD (@List SessionD) _ (@TabA.l x5) x6) →
 (@LE.le Int _ (0 : Int) (@SessionD.seq x6)))) ∧
 (@List.Pairwise SessionD Dif (@TabA.l x5)))))) ∧
 (∀ x7 : Unit,
 (True →
 (@Or (∃ x8 : TabA,
 ((@Eq Int (@LoadsA.size x) (@TabA.size x8)) ∧
 ((@Eq (@List SessionD) (@LoadsA.raw x) (@TabA.l x8)) ∧
 (((@LE.le Int _ (1 : Int) (@TabA.size x8)) ∧
 ((@LE.le Int _ (@TabA.size x8) (16 : Int)) ∧
 ((@LE.le Int _ (Nat.cast (@List.length SessionD (@TabA.l x8)) : Int) (@TabA.size x8)) ∧
 ((∀ x9 : SessionD,
 ((@Membership.mem SessionD (@List SessionD) _ (@TabA.l x8) x9) →
 (@LE.le Int _ (0 : Int) (@SessionD.seq x9)))) ∧
 (@List.Pairwise SessionD Dif (@TabA.l x8)))))) ∧
 (∀ x10 : Unit,
 (True →
 (∃ x11 : TabA,
 ((@Eq Int (@TabA.size x5) (@TabA.size x11)) ∧
 ((@Eq Nat (0 : Nat) (0 : Nat)) ∧
 ((@Eq Nat (@List.length SessionD (@TabA.l x5)) (@List.length SessionD (@TabA.l x11))) ∧
 ((@Eq (@List SessionD) (@TabA.l x5) (@TabA.l x11)) ∧
 ((@Eq Bool (@Decidable.decide (@LT.lt Int _ (0 : Int) (@TabA.size x11)) _) Bool.true) ∧
 (∀ x12 : Unit,
 (True →
 (∃ x13 : (@List SessionD),
 ((@LE.le Nat _ (@HAdd.hAdd _ _ _ _ (0 : Nat) (@List.length SessionD (@TabA.l x11))) (@List.length SessionD (@TabA.l x11))) ∧
 ((@Eq (@List SessionD) (@List.take SessionD (@List.length SessionD (@TabA.l x11)) (@List.drop SessionD (0 : Nat) (@TabA.l x11))) x13) ∧
 ((@LE.le Nat _ (@HAdd.hAdd _ _ _ _ (0 : Nat) (@List.length SessionD (@TabA.l x8))) (@List.length SessionD (@TabA.l x8))) ∧
 ((@Eq (@List SessionD) (@List.take SessionD (@List.length SessionD (@TabA.l x8)) (@List.drop SessionD (0 : Nat) (@TabA.l x8))) x13) ∧
 (True ∧
 (∀ x14 : Unit,
 (True →
 (@Eq Bool Bool.true Bool.true))))))))))))))))))))))) (∃ x15 : TabA,
 ((@Eq Int (@LoadsA.size x) (@TabA.size x15)) ∧
 ((@Eq (@List SessionD) (@LoadsA.raw x) (@TabA.l x15)) ∧
 (((@LoadOK (@TabA.size x15) (@TabA.l x15)) →
 False) ∧
 (∀ x16 : Unit,
 (True →
 (br (@bne Int _ (0 : Int) (@loadE (@TabA.size x15)))
 (Bad "operation" "law.go:112")
 (br (@Bool.not (@BEq.beq Bool _ (@BEq.beq Int _ (@loadE (@TabA.size x15)) (0 : Int)) (@Bool.not Bool.false)))
 (Bad "operation" "law.go:112")
 (br (@BEq.beq Int _ (@loadE (@TabA.size x15)) (0 : Int))
 (Bad "silent" "law.go:112")
 (@Eq Bool Bool.true Bool.true))))))))))))))))) (∃ x17 : TabA,
 ((@Eq Int (@LoadsA.size x) (@TabA.size x17)) ∧
 ((@Eq (@List SessionD) (@LoadsA.raw x) (@TabA.l x17)) ∧
 (((@LoadOK (@TabA.size x17) (@TabA.l x17)) →
 False) ∧
 (∀ x18 : Unit,
 (True →
 (@Or (∃ x19 : TabA,
 ((@Eq Int (@LoadsA.size x) (@TabA.size x19)) ∧
 ((@Eq (@List SessionD) (@LoadsA.raw x) (@TabA.l x19)) ∧
 (((@LE.le Int _ (1 : Int) (@TabA.size x19)) ∧
 ((@LE.le Int _ (@TabA.size x19) (16 : Int)) ∧
 ((@LE.le Int _ (Nat.cast (@List.length SessionD (@TabA.l x19)) : Int) (@TabA.size x19)) ∧
 ((∀ x20 : SessionD,
 ((@Membership.mem SessionD (@List SessionD) _ (@TabA.l x19) x20) →
 (@LE.le Int _ (0 : Int) (@SessionD.seq x20)))) ∧
 (@List.Pairwise SessionD Dif (@TabA.l x19)))))) ∧
 (∀ x21 : Unit,
 (True →
 (br (@bne Int _ (@loadE (@TabA.size x17)) (0 : Int))
 (Bad "operation" "law.go:112")
 (Bad "operation" "law.go:112")))))))) (∃ x22 : TabA,
 ((@Eq Int (@LoadsA.size x) (@TabA.size x22)) ∧
 ((@Eq (@List SessionD) (@LoadsA.raw x) (@TabA.l x22)) ∧
 (((@LoadOK (@TabA.size x22) (@TabA.l x22)) →
 False) ∧
 (∀ x23 : Unit,
 (True →
 (br (@bne Int _ (@loadE (@TabA.size x17)) (@loadE (@TabA.size x22)))
 (Bad "operation" "law.go:112")
 (br (@Bool.not (@BEq.beq Bool _ (@BEq.beq Int _ (@loadE (@TabA.size x22)) (0 : Int)) (@Bool.not Bool.true)))
 (Bad "operation" "law.go:112")
 (br (@BEq.beq Int _ (@loadE (@TabA.size x22)) (0 : Int))
 (Bad "silent" "law.go:112")
 (@Eq Bool Bool.true Bool.true))))))))))))))))))
 (br (@Decidable.decide (@GT.gt Int _ (@LoadsA.size x) (16 : Int)) _)
 (@Or (∃ x24 : TabA,
 ((@Eq Int (@LoadsA.size x) (@TabA.size x24)) ∧
 ((@Eq (@List SessionD) (@LoadsA.raw x) (@TabA.l x24)) ∧
 (((@LE.le Int _ (1 : Int) (@TabA.size x24)) ∧
 ((@LE.le Int _ (@TabA.size x24) (16 : Int)) ∧
 ((@LE.le Int _ (Nat.cast (@List.length SessionD (@TabA.l x24)) : Int) (@TabA.size x24)) ∧
 ((∀ x25 : SessionD,
 ((@Membership.mem SessionD (@List SessionD) _ (@TabA.l x24) x25) →
 (@LE.le Int _ (0 : Int) (@SessionD.seq x25)))) ∧
 (@List.Pairwise SessionD Dif (@TabA.l x24)))))) ∧
 (∀ x26 : Unit,
 (True →
 (@Or (∃ x27 : TabA,
 ((@Eq Int (@LoadsA.size x) (@TabA.size x27)) ∧
 ((@Eq (@List SessionD) (@LoadsA.raw x) (@TabA.l x27)) ∧
 (((@LE.le Int _ (1 : Int) (@TabA.size x27)) ∧
 ((@LE.le Int _ (@TabA.size x27) (16 : Int)) ∧
 ((@LE.le Int _ (Nat.cast (@List.length SessionD (@TabA.l x27)) : Int) (@TabA.size x27)) ∧
 ((∀ x28 : SessionD,
 ((@Membership.mem SessionD (@List SessionD) _ (@TabA.l x27) x28) →
 (@LE.le Int _ (0 : Int) (@SessionD.seq x28)))) ∧
 (@List.Pairwise SessionD Dif (@TabA.l x27)))))) ∧
 (∀ x29 : Unit,
 (True →
 (∃ x30 : TabA,
 ((@Eq Int (@TabA.size x24) (@TabA.size x30)) ∧
 ((@Eq Nat (0 : Nat) (0 : Nat)) ∧
 ((@Eq Nat (@List.length SessionD (@TabA.l x24)) (@List.length SessionD (@TabA.l x30))) ∧
 ((@Eq (@List SessionD) (@TabA.l x24) (@TabA.l x30)) ∧
 ((@Eq Bool (@Decidable.decide (@LT.lt Int _ (0 : Int) (@TabA.size x30)) _) Bool.true) ∧
 (∀ x31 : Unit,
 (True →
 (∃ x32 : (@List SessionD),
 ((@LE.le Nat _ (@HAdd.hAdd _ _ _ _ (0 : Nat) (@List.length SessionD (@TabA.l x30))) (@List.length SessionD (@TabA.l x30))) ∧
 ((@Eq (@List SessionD) (@List.take SessionD (@List.length SessionD (@TabA.l x30)) (@List.drop SessionD (0 : Nat) (@TabA.l x30))) x32) ∧
 ((@LE.le Nat _ (@HAdd.hAdd _ _ _ _ (0 : Nat) (@List.length SessionD (@TabA.l x27))) (@List.length SessionD (@TabA.l x27))) ∧
 ((@Eq (@List SessionD) (@List.take SessionD (@List.length SessionD (@TabA.l x27)) (@List.drop SessionD (0 : Nat) (@TabA.l x27))) x32) ∧
 (True ∧
 (∀ x33 : Unit,
 (True →
 (@Eq Bool Bool.true Bool.true))))))))))))))))))))))) (∃ x34 : TabA,
 ((@Eq Int (@LoadsA.size x) (@TabA.size x34)) ∧
 ((@Eq (@List SessionD) (@LoadsA.raw x) (@TabA.l x34)) ∧
 (((@LoadOK (@TabA.size x34) (@TabA.l x34)) →
 False) ∧
 (∀ x35 : Unit,
 (True →
 (br (@bne Int _ (0 : Int) (@loadE (@TabA.size x34)))
 (Bad "operation" "law.go:112")
 (br (@Bool.not (@BEq.beq Bool _ (@BEq.beq Int _ (@loadE (@TabA.size x34)) (0 : Int)) (@Bool.not Bool.false)))
 (Bad "operation" "law.go:112")
 (br (@BEq.beq Int _ (@loadE (@TabA.size x34)) (0 : Int))
 (Bad "silent" "law.go:112")
 (@Eq Bool Bool.true Bool.true))))))))))))))))) (∃ x36 : TabA,
 ((@Eq Int (@LoadsA.size x) (@TabA.size x36)) ∧
 ((@Eq (@List SessionD) (@LoadsA.raw x) (@TabA.l x36)) ∧
 (((@LoadOK (@TabA.size x36) (@TabA.l x36)) →
 False) ∧
 (∀ x37 : Unit,
 (True →
 (@Or (∃ x38 : TabA,
 ((@Eq Int (@LoadsA.size x) (@TabA.size x38)) ∧
 ((@Eq (@List SessionD) (@LoadsA.raw x) (@TabA.l x38)) ∧
 (((@LE.le Int _ (1 : Int) (@TabA.size x38)) ∧
 ((@LE.le Int _ (@TabA.size x38) (16 : Int)) ∧
 ((@LE.le Int _ (Nat.cast (@List.length SessionD (@TabA.l x38)) : Int) (@TabA.size x38)) ∧
 ((∀ x39 : SessionD,
 ((@Membership.mem SessionD (@List SessionD) _ (@TabA.l x38) x39) →
 (@LE.le Int _ (0 : Int) (@SessionD.seq x39)))) ∧
 (@List.Pairwise SessionD Dif (@TabA.l x38)))))) ∧
 (∀ x40 : Unit,
 (True →
 (br (@bne Int _ (@loadE (@TabA.size x36)) (0 : Int))
 (Bad "operation" "law.go:112")
 (Bad "operation" "law.go:112")))))))) (∃ x41 : TabA,
 ((@Eq Int (@LoadsA.size x) (@TabA.size x41)) ∧
 ((@Eq (@List SessionD) (@LoadsA.raw x) (@TabA.l x41)) ∧
 (((@LoadOK (@TabA.size x41) (@TabA.l x41)) →
 False) ∧
 (∀ x42 : Unit,
 (True →
 (br (@bne Int _ (@loadE (@TabA.size x36)) (@loadE (@TabA.size x41)))
 (Bad "operation" "law.go:112")
 (br (@Bool.not (@BEq.beq Bool _ (@BEq.beq Int _ (@loadE (@TabA.size x41)) (0 : Int)) (@Bool.not Bool.true)))
 (Bad "operation" "law.go:112")
 (br (@BEq.beq Int _ (@loadE (@TabA.size x41)) (0 : Int))
 (Bad "silent" "law.go:112")
 (@Eq Bool Bool.true Bool.true))))))))))))))))))
 (@Or (∃ x43 : TabA,
 ((@Eq Int (@LoadsA.size x) (@TabA.size x43)) ∧
 ((@Eq (@List SessionD) (@LoadsA.raw x) (@TabA.l x43)) ∧
 (((@LE.le Int _ (1 : Int) (@TabA.size x43)) ∧
 ((@LE.le Int _ (@TabA.size x43) (16 : Int)) ∧
 ((@LE.le Int _ (Nat.cast (@List.length SessionD (@TabA.l x43)) : Int) (@TabA.size x43)) ∧
 ((∀ x44 : SessionD,
 ((@Membership.mem SessionD (@List SessionD) _ (@TabA.l x43) x44) →
 (@LE.le Int _ (0 : Int) (@SessionD.seq x44)))) ∧
 (@List.Pairwise SessionD Dif (@TabA.l x43)))))) ∧
 (∀ x45 : Unit,
 (True →
 (@Or (∃ x46 : TabA,
 ((@Eq Int (@LoadsA.size x) (@TabA.size x46)) ∧
 ((@Eq (@List SessionD) (@LoadsA.raw x) (@TabA.l x46)) ∧
 (((@LE.le Int _ (1 : Int) (@TabA.size x46)) ∧
 ((@LE.le Int _ (@TabA.size x46) (16 : Int)) ∧
 ((@LE.le Int _ (Nat.cast (@List.length SessionD (@TabA.l x46)) : Int) (@TabA.size x46)) ∧
 ((∀ x47 : SessionD,
 ((@Membership.mem SessionD (@List SessionD) _ (@TabA.l x46) x47) →
 (@LE.le Int _ (0 : Int) (@SessionD.seq x47)))) ∧
 (@List.Pairwise SessionD Dif (@TabA.l x46)))))) ∧
 (∀ x48 : Unit,
 (True →
 (∃ x49 : TabA,
 ((@Eq Int (@TabA.size x43) (@TabA.size x49)) ∧
 ((@Eq Nat (0 : Nat) (0 : Nat)) ∧
 ((@Eq Nat (@List.length SessionD (@TabA.l x43)) (@List.length SessionD (@TabA.l x49))) ∧
 ((@Eq (@List SessionD) (@TabA.l x43) (@TabA.l x49)) ∧
 ((@Eq Bool (@Decidable.decide (@LT.lt Int _ (0 : Int) (@TabA.size x49)) _) Bool.true) ∧
 (∀ x50 : Unit,
 (True →
 (∃ x51 : (@List SessionD),
 ((@LE.le Nat _ (@HAdd.hAdd _ _ _ _ (0 : Nat) (@List.length SessionD (@TabA.l x49))) (@List.length SessionD (@TabA.l x49))) ∧
 ((@Eq (@List SessionD) (@List.take SessionD (@List.length SessionD (@TabA.l x49)) (@List.drop SessionD (0 : Nat) (@TabA.l x49))) x51) ∧
 ((@LE.le Nat _ (@HAdd.hAdd _ _ _ _ (0 : Nat) (@List.length SessionD (@TabA.l x46))) (@List.length SessionD (@TabA.l x46))) ∧
 ((@Eq (@List SessionD) (@List.take SessionD (@List.length SessionD (@TabA.l x46)) (@List.drop SessionD (0 : Nat) (@TabA.l x46))) x51) ∧
 (True ∧
 (∀ x52 : Unit,
 (True →
 ((∃ x53 : OneS,
 ((@Eq Int (0 : Int) (Nat.cast (@OneS.i x53) : Int)) ∧
 ((@Eq Int (@LoadsA.size x) (@LoadsA.size x)) ∧
 ((@Eq Nat (0 : Nat) (@List.length SessionD (@OneS.l x53))) ∧
 ((@Eq (@List SessionD) (@List.nil SessionD) (@OneS.l x53)) ∧
 ((@LE.le Nat _ (@OneS.i x53) (@List.length Deed6D (@LoadsA.l x))) ∧
 (@LoadOK (@LoadsA.size x) (@OneS.l x53)))))))) ∧
 (∀ x54 : OneS,
 (((@LE.le Nat _ (@OneS.i x54) (@List.length Deed6D (@LoadsA.l x))) ∧
 (@LoadOK (@LoadsA.size x) (@OneS.l x54))) →
 ((@LE.le Nat _ (@HMul.hMul _ _ _ _ (@List.length Deed6D (@LoadsA.l x)) (120 : Nat)) room47) →
 (br (@Decidable.decide (@LT.lt Int _ (Nat.cast (@OneS.i x54) : Int) (Nat.cast (@List.length Deed6D (@LoadsA.l x)) : Int)) _)
 (br (@Decidable.decide ((@LE.le Int _ (0 : Int) (Nat.cast (@OneS.i x54) : Int)) ∧
 (@LT.lt Int _ (Nat.cast (@OneS.i x54) : Int) (Nat.cast (@List.length Deed6D (@LoadsA.l x)) : Int))) _)
 (br (@Decidable.decide (@LE.le Int _ (@Deed6D.dof (@List.getD Deed6D (@LoadsA.l x) (@Int.toNat (Nat.cast (@OneS.i x54) : Int)) (@Deed6D.mk (0 : Int) (0 : Int) (0 : Int) (@List.nil UInt8) VerdictD.dflt))) (1 : Int)) _)
 (br (@Decidable.decide ((@LE.le Int _ (0 : Int) (Nat.cast (@OneS.i x54) : Int)) ∧
 (@LT.lt Int _ (Nat.cast (@OneS.i x54) : Int) (Nat.cast (@List.length Deed6D (@LoadsA.l x)) : Int))) _)
 (br (@Decidable.decide ((@LE.le Int _ (0 : Int) (Nat.cast (@OneS.i x54) : Int)) ∧
 (@LT.lt Int _ (Nat.cast (@OneS.i x54) : Int) (Nat.cast (@List.length Deed6D (@LoadsA.l x)) : Int))) _)
 (∃ x55 : OpenA,
 ((@Eq Bs (@Deed6D.name (@List.getD Deed6D (@LoadsA.l x) (@Int.toNat (Nat.cast (@OneS.i x54) : Int)) (@Deed6D.mk (0 : Int) (0 : Int) (0 : Int) (@List.nil UInt8) VerdictD.dflt))) (@OpenA.name x55)) ∧
 ((@Eq Int (@Deed6D.id (@List.getD Deed6D (@LoadsA.l x) (@Int.toNat (Nat.cast (@OneS.i x54) : Int)) (@Deed6D.mk (0 : Int) (0 : Int) (0 : Int) (@List.nil UInt8) VerdictD.dflt))) (@OpenA.id x55)) ∧
 ((@Eq Int (@LoadsA.size x) (@OpenA.size x55)) ∧
 ((@Eq Nat (0 : Nat) (0 : Nat)) ∧
 ((@Eq Nat (@List.length SessionD (@OneS.l x54)) (@List.length SessionD (@OpenA.l x55))) ∧
 ((@Eq (@List SessionD) (@OneS.l x54) (@OpenA.l x55)) ∧
 (((@Eq Bool (@Decidable.decide (@LT.lt Int _ (0 : Int) (@OpenA.size x55)) _) Bool.true) ∧
 (@Eq Bool (@Decidable.decide (@LE.le Nat _ (@List.length SessionD (@OpenA.l x55)) (1024 : Nat)) _) Bool.true)) ∧
 (∀ x56 : Unit,
 (True →
 (∃ x57 : OneS,
 ((@Eq Int (@Go.IntKind.wrap Go.IntKind.i64 (@HAdd.hAdd Int Int Int _ (Nat.cast (@OneS.i x54) : Int) (1 : Int))) (Nat.cast (@OneS.i x57) : Int)) ∧
 ((@Eq Int (@OpenA.size x55) (@LoadsA.size x)) ∧
 ((@Eq Nat (0 : Nat) (0 : Nat)) ∧
 ((@Eq Nat (@List.length SessionD (@Prod.snd Int (@List SessionD) (@openL x55))) (@List.length SessionD (@OneS.l x57))) ∧
 ((@Eq (@List SessionD) (@Prod.snd Int (@List SessionD) (@openL x55)) (@OneS.l x57)) ∧
 (((@LE.le Nat _ (@OneS.i x57) (@List.length Deed6D (@LoadsA.l x))) ∧
 (@LoadOK (@LoadsA.size x) (@OneS.l x57))) ∧
 (@LT.lt Nat _ (@Nat.sub (@List.length Deed6D (@LoadsA.l x)) (@OneS.i x57)) (@Nat.sub (@List.length Deed6D (@LoadsA.l x)) (@OneS.i x54))))))))))))))))))))
 (Bad "check" "law.go:121"))
 (Bad "check" "law.go:121"))
 (br (@Decidable.decide ((@LE.le Int _ (0 : Int) (Nat.cast (@OneS.i x54) : Int)) ∧
 (@LT.lt Int _ (Nat.cast (@OneS.i x54) : Int) (Nat.cast (@List.length Deed6D (@LoadsA.l x)) : Int))) _)
 (br (@Decidable.decide (@LE.le Int _ (@Deed6D.dof (@List.getD Deed6D (@LoadsA.l x) (@Int.toNat (Nat.cast (@OneS.i x54) : Int)) (@Deed6D.mk (0 : Int) (0 : Int) (0 : Int) (@List.nil UInt8) VerdictD.dflt))) (4 : Int)) _)
 (br (@Decidable.decide ((@LE.le Int _ (0 : Int) (Nat.cast (@OneS.i x54) : Int)) ∧
 (@LT.lt Int _ (Nat.cast (@OneS.i x54) : Int) (Nat.cast (@List.length Deed6D (@LoadsA.l x)) : Int))) _)
 (br (@Decidable.decide ((@LE.le Int _ (0 : Int) (Nat.cast (@OneS.i x54) : Int)) ∧
 (@LT.lt Int _ (Nat.cast (@OneS.i x54) : Int) (Nat.cast (@List.length Deed6D (@LoadsA.l x)) : Int))) _)
 (∃ x58 : AskA,
 ((@Eq Int (@Deed6D.id (@List.getD Deed6D (@LoadsA.l x) (@Int.toNat (Nat.cast (@OneS.i x54) : Int)) (@Deed6D.mk (0 : Int) (0 : Int) (0 : Int) (@List.nil UInt8) VerdictD.dflt))) (@AskA.id x58)) ∧
 ((@Eq Int (@Deed6D.seq (@List.getD Deed6D (@LoadsA.l x) (@Int.toNat (Nat.cast (@OneS.i x54) : Int)) (@Deed6D.mk (0 : Int) (0 : Int) (0 : Int) (@List.nil UInt8) VerdictD.dflt))) (@AskA.seq x58)) ∧
 ((@Eq Int (@LoadsA.size x) (@AskA.size x58)) ∧
 ((@Eq Nat (0 : Nat) (0 : Nat)) ∧
 ((@Eq Nat (@List.length SessionD (@OneS.l x54)) (@List.length SessionD (@AskA.l x58))) ∧
 ((@Eq (@List SessionD) (@OneS.l x54) (@AskA.l x58)) ∧
 (((@Eq Bool (@Decidable.decide (@LT.lt Int _ (0 : Int) (@AskA.size x58)) _) Bool.true) ∧
 (@Eq Bool (@Decidable.decide (@LE.le Nat _ (@List.length SessionD (@AskA.l x58)) (1024 : Nat)) _) Bool.true)) ∧
 (∀ x59 : Unit,
 (True →
 (∃ x60 : OneS,
 ((@Eq Int (@Go.IntKind.wrap Go.IntKind.i64 (@HAdd.hAdd Int Int Int _ (Nat.cast (@OneS.i x54) : Int) (1 : Int))) (Nat.cast (@OneS.i x60) : Int)) ∧
 ((@Eq Int (@AskA.size x58) (@LoadsA.size x)) ∧
 ((@Eq Nat (0 : Nat) (0 : Nat)) ∧
 ((@Eq Nat (@List.length SessionD (@Prod.snd (@Prod VerdictD Bool) (@List SessionD) (@askL x58))) (@List.length SessionD (@OneS.l x60))) ∧
 ((@Eq (@List SessionD) (@Prod.snd (@Prod VerdictD Bool) (@List SessionD) (@askL x58)) (@OneS.l x60)) ∧
 (((@LE.le Nat _ (@OneS.i x60) (@List.length Deed6D (@LoadsA.l x))) ∧
 (@LoadOK (@LoadsA.size x) (@OneS.l x60))) ∧
 (@LT.lt Nat _ (@Nat.sub (@List.length Deed6D (@LoadsA.l x)) (@OneS.i x60)) (@Nat.sub (@List.length Deed6D (@LoadsA.l x)) (@OneS.i x54))))))))))))))))))))
 (Bad "check" "law.go:123"))
 (Bad "check" "law.go:123"))
 (br (@Decidable.decide ((@LE.le Int _ (0 : Int) (Nat.cast (@OneS.i x54) : Int)) ∧
 (@LT.lt Int _ (Nat.cast (@OneS.i x54) : Int) (Nat.cast (@List.length Deed6D (@LoadsA.l x)) : Int))) _)
 (br (@Decidable.decide ((@LE.le Int _ (0 : Int) (Nat.cast (@OneS.i x54) : Int)) ∧
 (@LT.lt Int _ (Nat.cast (@OneS.i x54) : Int) (Nat.cast (@List.length Deed6D (@LoadsA.l x)) : Int))) _)
 (br (@Decidable.decide ((@LE.le Int _ (0 : Int) (Nat.cast (@OneS.i x54) : Int)) ∧
 (@LT.lt Int _ (Nat.cast (@OneS.i x54) : Int) (Nat.cast (@List.length Deed6D (@LoadsA.l x)) : Int))) _)
 (∃ x61 : DoneA,
 ((@Eq Int (@Deed6D.id (@List.getD Deed6D (@LoadsA.l x) (@Int.toNat (Nat.cast (@OneS.i x54) : Int)) (@Deed6D.mk (0 : Int) (0 : Int) (0 : Int) (@List.nil UInt8) VerdictD.dflt))) (@DoneA.id x61)) ∧
 ((@Eq Int (@Deed6D.seq (@List.getD Deed6D (@LoadsA.l x) (@Int.toNat (Nat.cast (@OneS.i x54) : Int)) (@Deed6D.mk (0 : Int) (0 : Int) (0 : Int) (@List.nil UInt8) VerdictD.dflt))) (@DoneA.seq x61)) ∧
 ((@Eq Int (@VerdictD.code (@Deed6D.v (@List.getD Deed6D (@LoadsA.l x) (@Int.toNat (Nat.cast (@OneS.i x54) : Int)) (@Deed6D.mk (0 : Int) (0 : Int) (0 : Int) (@List.nil UInt8) VerdictD.dflt)))) (@VerdictD.code (@DoneA.v x61))) ∧
 ((@Eq Int (@VerdictD.session (@Deed6D.v (@List.getD Deed6D (@LoadsA.l x) (@Int.toNat (Nat.cast (@OneS.i x54) : Int)) (@Deed6D.mk (0 : Int) (0 : Int) (0 : Int) (@List.nil UInt8) VerdictD.dflt)))) (@VerdictD.session (@DoneA.v x61))) ∧
 ((@Eq Int (@VerdictD.rev (@Deed6D.v (@List.getD Deed6D (@LoadsA.l x) (@Int.toNat (Nat.cast (@OneS.i x54) : Int)) (@Deed6D.mk (0 : Int) (0 : Int) (0 : Int) (@List.nil UInt8) VerdictD.dflt)))) (@VerdictD.rev (@DoneA.v x61))) ∧
 ((@Eq Bs (@VerdictD.path (@Deed6D.v (@List.getD Deed6D (@LoadsA.l x) (@Int.toNat (Nat.cast (@OneS.i x54) : Int)) (@Deed6D.mk (0 : Int) (0 : Int) (0 : Int) (@List.nil UInt8) VerdictD.dflt)))) (@VerdictD.path (@DoneA.v x61))) ∧
 ((@Eq Int (@VerdictD.digest (@Deed6D.v (@List.getD Deed6D (@LoadsA.l x) (@Int.toNat (Nat.cast (@OneS.i x54) : Int)) (@Deed6D.mk (0 : Int) (0 : Int) (0 : Int) (@List.nil UInt8) VerdictD.dflt)))) (@VerdictD.digest (@DoneA.v x61))) ∧
 ((@Eq (@List CommitD) (@VerdictD.commits (@Deed6D.v (@List.getD Deed6D (@LoadsA.l x) (@Int.toNat (Nat.cast (@OneS.i x54) : Int)) (@Deed6D.mk (0 : Int) (0 : Int) (0 : Int) (@List.nil UInt8) VerdictD.dflt)))) (@VerdictD.commits (@DoneA.v x61))) ∧
 ((@Eq Int (@VerdictD.member (@Deed6D.v (@List.getD Deed6D (@LoadsA.l x) (@Int.toNat (Nat.cast (@OneS.i x54) : Int)) (@Deed6D.mk (0 : Int) (0 : Int) (0 : Int) (@List.nil UInt8) VerdictD.dflt)))) (@VerdictD.member (@DoneA.v x61))) ∧
 ((@Eq Int (@LoadsA.size x) (@DoneA.size x61)) ∧
 ((@Eq Nat (0 : Nat) (0 : Nat)) ∧
 ((@Eq Nat (@List.length SessionD (@OneS.l x54)) (@List.length SessionD (@DoneA.l x61))) ∧
 ((@Eq (@List SessionD) (@OneS.l x54) (@DoneA.l x61)) ∧
 ((@Eq Bool (@Decidable.decide (@LT.lt Int _ (0 : Int) (@DoneA.size x61)) _) Bool.true) ∧
 (∀ x62 : Unit,
 (True →
 (∃ x63 : OneS,
 ((@Eq Int (@Go.IntKind.wrap Go.IntKind.i64 (@HAdd.hAdd Int Int Int _ (Nat.cast (@OneS.i x54) : Int) (1 : Int))) (Nat.cast (@OneS.i x63) : Int)) ∧
 ((@Eq Int (@DoneA.size x61) (@LoadsA.size x)) ∧
 ((@Eq Nat (0 : Nat) (0 : Nat)) ∧
 ((@Eq Nat (@List.length SessionD (@Prod.snd Bool (@List SessionD) (@doneL x61))) (@List.length SessionD (@OneS.l x63))) ∧
 ((@Eq (@List SessionD) (@Prod.snd Bool (@List SessionD) (@doneL x61)) (@OneS.l x63)) ∧
 (((@LE.le Nat _ (@OneS.i x63) (@List.length Deed6D (@LoadsA.l x))) ∧
 (@LoadOK (@LoadsA.size x) (@OneS.l x63))) ∧
 (@LT.lt Nat _ (@Nat.sub (@List.length Deed6D (@LoadsA.l x)) (@OneS.i x63)) (@Nat.sub (@List.length Deed6D (@LoadsA.l x)) (@OneS.i x54)))))))))))))))))))))))))))
 (Bad "check" "law.go:125"))
 (Bad "check" "law.go:125"))
 (Bad "check" "law.go:125")))
 (Bad "check" "law.go:122")))
 (Bad "check" "law.go:120"))
 (∃ x64 : TabA,
 ((@Eq Int (@LoadsA.size x) (@TabA.size x64)) ∧
 ((@Eq Nat (0 : Nat) (0 : Nat)) ∧
 ((@Eq Nat (@List.length SessionD (@OneS.l x54)) (@List.length SessionD (@TabA.l x64))) ∧
 ((@Eq (@List SessionD) (@OneS.l x54) (@TabA.l x64)) ∧
 ((@Eq Bool (@Decidable.decide (@LT.lt Int _ (0 : Int) (@TabA.size x64)) _) Bool.true) ∧
 (∀ x65 : Unit,
 (True →
 (@Or (∃ x66 : TabA,
 ((@Eq Int (@LoadsA.size x) (@TabA.size x66)) ∧
 ((@LE.le Nat _ (@HAdd.hAdd _ _ _ _ (0 : Nat) (@List.length SessionD (@TabA.l x64))) (@List.length SessionD (@TabA.l x64))) ∧
 ((@Eq (@List SessionD) (@List.take SessionD (@List.length SessionD (@TabA.l x64)) (@List.drop SessionD (0 : Nat) (@TabA.l x64))) (@TabA.l x66)) ∧
 (((@LE.le Int _ (1 : Int) (@TabA.size x66)) ∧
 ((@LE.le Int _ (@TabA.size x66) (16 : Int)) ∧
 ((@LE.le Int _ (Nat.cast (@List.length SessionD (@TabA.l x66)) : Int) (@TabA.size x66)) ∧
 ((∀ x67 : SessionD,
 ((@Membership.mem SessionD (@List SessionD) _ (@TabA.l x66) x67) →
 (@LE.le Int _ (0 : Int) (@SessionD.seq x67)))) ∧
 (@List.Pairwise SessionD Dif (@TabA.l x66)))))) ∧
 (∀ x68 : Unit,
 (True →
 (∃ x69 : TabA,
 ((@Eq Int (@TabA.size x66) (@TabA.size x69)) ∧
 ((@Eq Nat (0 : Nat) (0 : Nat)) ∧
 ((@Eq Nat (@List.length SessionD (@TabA.l x66)) (@List.length SessionD (@TabA.l x69))) ∧
 ((@Eq (@List SessionD) (@TabA.l x66) (@TabA.l x69)) ∧
 ((@Eq Bool (@Decidable.decide (@LT.lt Int _ (0 : Int) (@TabA.size x69)) _) Bool.true) ∧
 (∀ x70 : Unit,
 (True →
 (∃ x71 : TabA,
 ((@Eq Int (@TabA.size x64) (@TabA.size x71)) ∧
 ((@Eq Nat (0 : Nat) (0 : Nat)) ∧
 ((@Eq Nat (@List.length SessionD (@TabA.l x64)) (@List.length SessionD (@TabA.l x71))) ∧
 ((@Eq (@List SessionD) (@TabA.l x64) (@TabA.l x71)) ∧
 ((@Eq Bool (@Decidable.decide (@LT.lt Int _ (0 : Int) (@TabA.size x71)) _) Bool.true) ∧
 (∀ x72 : Unit,
 (True →
 (∃ x73 : (@List SessionD),
 ((@LE.le Nat _ (@HAdd.hAdd _ _ _ _ (0 : Nat) (@List.length SessionD (@TabA.l x69))) (@List.length SessionD (@TabA.l x69))) ∧
 ((@Eq (@List SessionD) (@List.take SessionD (@List.length SessionD (@TabA.l x69)) (@List.drop SessionD (0 : Nat) (@TabA.l x69))) x73) ∧
 ((@LE.le Nat _ (@HAdd.hAdd _ _ _ _ (0 : Nat) (@List.length SessionD (@TabA.l x71))) (@List.length SessionD (@TabA.l x71))) ∧
 ((@Eq (@List SessionD) (@List.take SessionD (@List.length SessionD (@TabA.l x71)) (@List.drop SessionD (0 : Nat) (@TabA.l x71))) x73) ∧
 (True ∧
 (∀ x74 : Unit,
 (True →
 (∃ x75 : TabA,
 ((@Eq Int (@TabA.size x71) (@TabA.size x75)) ∧
 ((@Eq Nat (0 : Nat) (0 : Nat)) ∧
 ((@Eq Nat (@List.length SessionD (@TabA.l x71)) (@List.length SessionD (@TabA.l x75))) ∧
 ((@Eq (@List SessionD) (@TabA.l x71) (@TabA.l x75)) ∧
 ((@Eq Bool (@Decidable.decide (@LT.lt Int _ (0 : Int) (@TabA.size x75)) _) Bool.true) ∧
 (∀ x76 : Unit,
 (True →
 ((@LE.le Nat _ (@HMul.hMul _ _ _ _ (@List.length SessionD (@TabA.l x75)) (112 : Nat)) room47) →
 (@Eq Bool (@Decidable.decide (@LE.le Int _ (Nat.cast (@List.length SessionD (@TabA.l x75)) : Int) (@LoadsA.size x)) _) Bool.true))))))))))))))))))))))))))))))))))))))))) (∃ x77 : TabA,
 ((@Eq Int (@LoadsA.size x) (@TabA.size x77)) ∧
 ((@LE.le Nat _ (@HAdd.hAdd _ _ _ _ (0 : Nat) (@List.length SessionD (@TabA.l x64))) (@List.length SessionD (@TabA.l x64))) ∧
 ((@Eq (@List SessionD) (@List.take SessionD (@List.length SessionD (@TabA.l x64)) (@List.drop SessionD (0 : Nat) (@TabA.l x64))) (@TabA.l x77)) ∧
 (((@LoadOK (@TabA.size x77) (@TabA.l x77)) →
 False) ∧
 (∀ x78 : Unit,
 (True →
 (br (@BEq.beq Int _ (@loadE (@TabA.size x77)) (0 : Int))
 (@Eq Bool Bool.false Bool.true)
 (@Eq Bool Bool.false Bool.true))))))))))))))))))))))))))))))))))))))))))))) (∃ x79 : TabA,
 ((@Eq Int (@LoadsA.size x) (@TabA.size x79)) ∧
 ((@Eq (@List SessionD) (@LoadsA.raw x) (@TabA.l x79)) ∧
 (((@LoadOK (@TabA.size x79) (@TabA.l x79)) →
 False) ∧
 (∀ x80 : Unit,
 (True →
 (br (@bne Int _ (0 : Int) (@loadE (@TabA.size x79)))
 (Bad "operation" "law.go:112")
 (br (@Bool.not (@BEq.beq Bool _ (@BEq.beq Int _ (@loadE (@TabA.size x79)) (0 : Int)) (@Bool.not Bool.false)))
 (Bad "operation" "law.go:112")
 (br (@BEq.beq Int _ (@loadE (@TabA.size x79)) (0 : Int))
 (Bad "silent" "law.go:112")
 ((∃ x81 : OneS,
 ((@Eq Int (0 : Int) (Nat.cast (@OneS.i x81) : Int)) ∧
 ((@Eq Int (@LoadsA.size x) (@LoadsA.size x)) ∧
 ((@Eq Nat (0 : Nat) (@List.length SessionD (@OneS.l x81))) ∧
 ((@Eq (@List SessionD) (@List.nil SessionD) (@OneS.l x81)) ∧
 ((@LE.le Nat _ (@OneS.i x81) (@List.length Deed6D (@LoadsA.l x))) ∧
 (@LoadOK (@LoadsA.size x) (@OneS.l x81)))))))) ∧
 (∀ x82 : OneS,
 (((@LE.le Nat _ (@OneS.i x82) (@List.length Deed6D (@LoadsA.l x))) ∧
 (@LoadOK (@LoadsA.size x) (@OneS.l x82))) →
 ((@LE.le Nat _ (@HMul.hMul _ _ _ _ (@List.length Deed6D (@LoadsA.l x)) (120 : Nat)) room47) →
 (br (@Decidable.decide (@LT.lt Int _ (Nat.cast (@OneS.i x82) : Int) (Nat.cast (@List.length Deed6D (@LoadsA.l x)) : Int)) _)
 (br (@Decidable.decide ((@LE.le Int _ (0 : Int) (Nat.cast (@OneS.i x82) : Int)) ∧
 (@LT.lt Int _ (Nat.cast (@OneS.i x82) : Int) (Nat.cast (@List.length Deed6D (@LoadsA.l x)) : Int))) _)
 (br (@Decidable.decide (@LE.le Int _ (@Deed6D.dof (@List.getD Deed6D (@LoadsA.l x) (@Int.toNat (Nat.cast (@OneS.i x82) : Int)) (@Deed6D.mk (0 : Int) (0 : Int) (0 : Int) (@List.nil UInt8) VerdictD.dflt))) (1 : Int)) _)
 (br (@Decidable.decide ((@LE.le Int _ (0 : Int) (Nat.cast (@OneS.i x82) : Int)) ∧
 (@LT.lt Int _ (Nat.cast (@OneS.i x82) : Int) (Nat.cast (@List.length Deed6D (@LoadsA.l x)) : Int))) _)
 (br (@Decidable.decide ((@LE.le Int _ (0 : Int) (Nat.cast (@OneS.i x82) : Int)) ∧
 (@LT.lt Int _ (Nat.cast (@OneS.i x82) : Int) (Nat.cast (@List.length Deed6D (@LoadsA.l x)) : Int))) _)
 (∃ x83 : OpenA,
 ((@Eq Bs (@Deed6D.name (@List.getD Deed6D (@LoadsA.l x) (@Int.toNat (Nat.cast (@OneS.i x82) : Int)) (@Deed6D.mk (0 : Int) (0 : Int) (0 : Int) (@List.nil UInt8) VerdictD.dflt))) (@OpenA.name x83)) ∧
 ((@Eq Int (@Deed6D.id (@List.getD Deed6D (@LoadsA.l x) (@Int.toNat (Nat.cast (@OneS.i x82) : Int)) (@Deed6D.mk (0 : Int) (0 : Int) (0 : Int) (@List.nil UInt8) VerdictD.dflt))) (@OpenA.id x83)) ∧
 ((@Eq Int (@LoadsA.size x) (@OpenA.size x83)) ∧
 ((@Eq Nat (0 : Nat) (0 : Nat)) ∧
 ((@Eq Nat (@List.length SessionD (@OneS.l x82)) (@List.length SessionD (@OpenA.l x83))) ∧
 ((@Eq (@List SessionD) (@OneS.l x82) (@OpenA.l x83)) ∧
 (((@Eq Bool (@Decidable.decide (@LT.lt Int _ (0 : Int) (@OpenA.size x83)) _) Bool.true) ∧
 (@Eq Bool (@Decidable.decide (@LE.le Nat _ (@List.length SessionD (@OpenA.l x83)) (1024 : Nat)) _) Bool.true)) ∧
 (∀ x84 : Unit,
 (True →
 (∃ x85 : OneS,
 ((@Eq Int (@Go.IntKind.wrap Go.IntKind.i64 (@HAdd.hAdd Int Int Int _ (Nat.cast (@OneS.i x82) : Int) (1 : Int))) (Nat.cast (@OneS.i x85) : Int)) ∧
 ((@Eq Int (@OpenA.size x83) (@LoadsA.size x)) ∧
 ((@Eq Nat (0 : Nat) (0 : Nat)) ∧
 ((@Eq Nat (@List.length SessionD (@Prod.snd Int (@List SessionD) (@openL x83))) (@List.length SessionD (@OneS.l x85))) ∧
 ((@Eq (@List SessionD) (@Prod.snd Int (@List SessionD) (@openL x83)) (@OneS.l x85)) ∧
 (((@LE.le Nat _ (@OneS.i x85) (@List.length Deed6D (@LoadsA.l x))) ∧
 (@LoadOK (@LoadsA.size x) (@OneS.l x85))) ∧
 (@LT.lt Nat _ (@Nat.sub (@List.length Deed6D (@LoadsA.l x)) (@OneS.i x85)) (@Nat.sub (@List.length Deed6D (@LoadsA.l x)) (@OneS.i x82))))))))))))))))))))
 (Bad "check" "law.go:121"))
 (Bad "check" "law.go:121"))
 (br (@Decidable.decide ((@LE.le Int _ (0 : Int) (Nat.cast (@OneS.i x82) : Int)) ∧
 (@LT.lt Int _ (Nat.cast (@OneS.i x82) : Int) (Nat.cast (@List.length Deed6D (@LoadsA.l x)) : Int))) _)
 (br (@Decidable.decide (@LE.le Int _ (@Deed6D.dof (@List.getD Deed6D (@LoadsA.l x) (@Int.toNat (Nat.cast (@OneS.i x82) : Int)) (@Deed6D.mk (0 : Int) (0 : Int) (0 : Int) (@List.nil UInt8) VerdictD.dflt))) (4 : Int)) _)
 (br (@Decidable.decide ((@LE.le Int _ (0 : Int) (Nat.cast (@OneS.i x82) : Int)) ∧
 (@LT.lt Int _ (Nat.cast (@OneS.i x82) : Int) (Nat.cast (@List.length Deed6D (@LoadsA.l x)) : Int))) _)
 (br (@Decidable.decide ((@LE.le Int _ (0 : Int) (Nat.cast (@OneS.i x82) : Int)) ∧
 (@LT.lt Int _ (Nat.cast (@OneS.i x82) : Int) (Nat.cast (@List.length Deed6D (@LoadsA.l x)) : Int))) _)
 (∃ x86 : AskA,
 ((@Eq Int (@Deed6D.id (@List.getD Deed6D (@LoadsA.l x) (@Int.toNat (Nat.cast (@OneS.i x82) : Int)) (@Deed6D.mk (0 : Int) (0 : Int) (0 : Int) (@List.nil UInt8) VerdictD.dflt))) (@AskA.id x86)) ∧
 ((@Eq Int (@Deed6D.seq (@List.getD Deed6D (@LoadsA.l x) (@Int.toNat (Nat.cast (@OneS.i x82) : Int)) (@Deed6D.mk (0 : Int) (0 : Int) (0 : Int) (@List.nil UInt8) VerdictD.dflt))) (@AskA.seq x86)) ∧
 ((@Eq Int (@LoadsA.size x) (@AskA.size x86)) ∧
 ((@Eq Nat (0 : Nat) (0 : Nat)) ∧
 ((@Eq Nat (@List.length SessionD (@OneS.l x82)) (@List.length SessionD (@AskA.l x86))) ∧
 ((@Eq (@List SessionD) (@OneS.l x82) (@AskA.l x86)) ∧
 (((@Eq Bool (@Decidable.decide (@LT.lt Int _ (0 : Int) (@AskA.size x86)) _) Bool.true) ∧
 (@Eq Bool (@Decidable.decide (@LE.le Nat _ (@List.length SessionD (@AskA.l x86)) (1024 : Nat)) _) Bool.true)) ∧
 (∀ x87 : Unit,
 (True →
 (∃ x88 : OneS,
 ((@Eq Int (@Go.IntKind.wrap Go.IntKind.i64 (@HAdd.hAdd Int Int Int _ (Nat.cast (@OneS.i x82) : Int) (1 : Int))) (Nat.cast (@OneS.i x88) : Int)) ∧
 ((@Eq Int (@AskA.size x86) (@LoadsA.size x)) ∧
 ((@Eq Nat (0 : Nat) (0 : Nat)) ∧
 ((@Eq Nat (@List.length SessionD (@Prod.snd (@Prod VerdictD Bool) (@List SessionD) (@askL x86))) (@List.length SessionD (@OneS.l x88))) ∧
 ((@Eq (@List SessionD) (@Prod.snd (@Prod VerdictD Bool) (@List SessionD) (@askL x86)) (@OneS.l x88)) ∧
 (((@LE.le Nat _ (@OneS.i x88) (@List.length Deed6D (@LoadsA.l x))) ∧
 (@LoadOK (@LoadsA.size x) (@OneS.l x88))) ∧
 (@LT.lt Nat _ (@Nat.sub (@List.length Deed6D (@LoadsA.l x)) (@OneS.i x88)) (@Nat.sub (@List.length Deed6D (@LoadsA.l x)) (@OneS.i x82))))))))))))))))))))
 (Bad "check" "law.go:123"))
 (Bad "check" "law.go:123"))
 (br (@Decidable.decide ((@LE.le Int _ (0 : Int) (Nat.cast (@OneS.i x82) : Int)) ∧
 (@LT.lt Int _ (Nat.cast (@OneS.i x82) : Int) (Nat.cast (@List.length Deed6D (@LoadsA.l x)) : Int))) _)
 (br (@Decidable.decide ((@LE.le Int _ (0 : Int) (Nat.cast (@OneS.i x82) : Int)) ∧
 (@LT.lt Int _ (Nat.cast (@OneS.i x82) : Int) (Nat.cast (@List.length Deed6D (@LoadsA.l x)) : Int))) _)
 (br (@Decidable.decide ((@LE.le Int _ (0 : Int) (Nat.cast (@OneS.i x82) : Int)) ∧
 (@LT.lt Int _ (Nat.cast (@OneS.i x82) : Int) (Nat.cast (@List.length Deed6D (@LoadsA.l x)) : Int))) _)
 (∃ x89 : DoneA,
 ((@Eq Int (@Deed6D.id (@List.getD Deed6D (@LoadsA.l x) (@Int.toNat (Nat.cast (@OneS.i x82) : Int)) (@Deed6D.mk (0 : Int) (0 : Int) (0 : Int) (@List.nil UInt8) VerdictD.dflt))) (@DoneA.id x89)) ∧
 ((@Eq Int (@Deed6D.seq (@List.getD Deed6D (@LoadsA.l x) (@Int.toNat (Nat.cast (@OneS.i x82) : Int)) (@Deed6D.mk (0 : Int) (0 : Int) (0 : Int) (@List.nil UInt8) VerdictD.dflt))) (@DoneA.seq x89)) ∧
 ((@Eq Int (@VerdictD.code (@Deed6D.v (@List.getD Deed6D (@LoadsA.l x) (@Int.toNat (Nat.cast (@OneS.i x82) : Int)) (@Deed6D.mk (0 : Int) (0 : Int) (0 : Int) (@List.nil UInt8) VerdictD.dflt)))) (@VerdictD.code (@DoneA.v x89))) ∧
 ((@Eq Int (@VerdictD.session (@Deed6D.v (@List.getD Deed6D (@LoadsA.l x) (@Int.toNat (Nat.cast (@OneS.i x82) : Int)) (@Deed6D.mk (0 : Int) (0 : Int) (0 : Int) (@List.nil UInt8) VerdictD.dflt)))) (@VerdictD.session (@DoneA.v x89))) ∧
 ((@Eq Int (@VerdictD.rev (@Deed6D.v (@List.getD Deed6D (@LoadsA.l x) (@Int.toNat (Nat.cast (@OneS.i x82) : Int)) (@Deed6D.mk (0 : Int) (0 : Int) (0 : Int) (@List.nil UInt8) VerdictD.dflt)))) (@VerdictD.rev (@DoneA.v x89))) ∧
 ((@Eq Bs (@VerdictD.path (@Deed6D.v (@List.getD Deed6D (@LoadsA.l x) (@Int.toNat (Nat.cast (@OneS.i x82) : Int)) (@Deed6D.mk (0 : Int) (0 : Int) (0 : Int) (@List.nil UInt8) VerdictD.dflt)))) (@VerdictD.path (@DoneA.v x89))) ∧
 ((@Eq Int (@VerdictD.digest (@Deed6D.v (@List.getD Deed6D (@LoadsA.l x) (@Int.toNat (Nat.cast (@OneS.i x82) : Int)) (@Deed6D.mk (0 : Int) (0 : Int) (0 : Int) (@List.nil UInt8) VerdictD.dflt)))) (@VerdictD.digest (@DoneA.v x89))) ∧
 ((@Eq (@List CommitD) (@VerdictD.commits (@Deed6D.v (@List.getD Deed6D (@LoadsA.l x) (@Int.toNat (Nat.cast (@OneS.i x82) : Int)) (@Deed6D.mk (0 : Int) (0 : Int) (0 : Int) (@List.nil UInt8) VerdictD.dflt)))) (@VerdictD.commits (@DoneA.v x89))) ∧
 ((@Eq Int (@VerdictD.member (@Deed6D.v (@List.getD Deed6D (@LoadsA.l x) (@Int.toNat (Nat.cast (@OneS.i x82) : Int)) (@Deed6D.mk (0 : Int) (0 : Int) (0 : Int) (@List.nil UInt8) VerdictD.dflt)))) (@VerdictD.member (@DoneA.v x89))) ∧
 ((@Eq Int (@LoadsA.size x) (@DoneA.size x89)) ∧
 ((@Eq Nat (0 : Nat) (0 : Nat)) ∧
 ((@Eq Nat (@List.length SessionD (@OneS.l x82)) (@List.length SessionD (@DoneA.l x89))) ∧
 ((@Eq (@List SessionD) (@OneS.l x82) (@DoneA.l x89)) ∧
 ((@Eq Bool (@Decidable.decide (@LT.lt Int _ (0 : Int) (@DoneA.size x89)) _) Bool.true) ∧
 (∀ x90 : Unit,
 (True →
 (∃ x91 : OneS,
 ((@Eq Int (@Go.IntKind.wrap Go.IntKind.i64 (@HAdd.hAdd Int Int Int _ (Nat.cast (@OneS.i x82) : Int) (1 : Int))) (Nat.cast (@OneS.i x91) : Int)) ∧
 ((@Eq Int (@DoneA.size x89) (@LoadsA.size x)) ∧
 ((@Eq Nat (0 : Nat) (0 : Nat)) ∧
 ((@Eq Nat (@List.length SessionD (@Prod.snd Bool (@List SessionD) (@doneL x89))) (@List.length SessionD (@OneS.l x91))) ∧
 ((@Eq (@List SessionD) (@Prod.snd Bool (@List SessionD) (@doneL x89)) (@OneS.l x91)) ∧
 (((@LE.le Nat _ (@OneS.i x91) (@List.length Deed6D (@LoadsA.l x))) ∧
 (@LoadOK (@LoadsA.size x) (@OneS.l x91))) ∧
 (@LT.lt Nat _ (@Nat.sub (@List.length Deed6D (@LoadsA.l x)) (@OneS.i x91)) (@Nat.sub (@List.length Deed6D (@LoadsA.l x)) (@OneS.i x82)))))))))))))))))))))))))))
 (Bad "check" "law.go:125"))
 (Bad "check" "law.go:125"))
 (Bad "check" "law.go:125")))
 (Bad "check" "law.go:122")))
 (Bad "check" "law.go:120"))
 (∃ x92 : TabA,
 ((@Eq Int (@LoadsA.size x) (@TabA.size x92)) ∧
 ((@Eq Nat (0 : Nat) (0 : Nat)) ∧
 ((@Eq Nat (@List.length SessionD (@OneS.l x82)) (@List.length SessionD (@TabA.l x92))) ∧
 ((@Eq (@List SessionD) (@OneS.l x82) (@TabA.l x92)) ∧
 ((@Eq Bool (@Decidable.decide (@LT.lt Int _ (0 : Int) (@TabA.size x92)) _) Bool.true) ∧
 (∀ x93 : Unit,
 (True →
 (@Or (∃ x94 : TabA,
 ((@Eq Int (@LoadsA.size x) (@TabA.size x94)) ∧
 ((@LE.le Nat _ (@HAdd.hAdd _ _ _ _ (0 : Nat) (@List.length SessionD (@TabA.l x92))) (@List.length SessionD (@TabA.l x92))) ∧
 ((@Eq (@List SessionD) (@List.take SessionD (@List.length SessionD (@TabA.l x92)) (@List.drop SessionD (0 : Nat) (@TabA.l x92))) (@TabA.l x94)) ∧
 (((@LE.le Int _ (1 : Int) (@TabA.size x94)) ∧
 ((@LE.le Int _ (@TabA.size x94) (16 : Int)) ∧
 ((@LE.le Int _ (Nat.cast (@List.length SessionD (@TabA.l x94)) : Int) (@TabA.size x94)) ∧
 ((∀ x95 : SessionD,
 ((@Membership.mem SessionD (@List SessionD) _ (@TabA.l x94) x95) →
 (@LE.le Int _ (0 : Int) (@SessionD.seq x95)))) ∧
 (@List.Pairwise SessionD Dif (@TabA.l x94)))))) ∧
 (∀ x96 : Unit,
 (True →
 (∃ x97 : TabA,
 ((@Eq Int (@TabA.size x94) (@TabA.size x97)) ∧
 ((@Eq Nat (0 : Nat) (0 : Nat)) ∧
 ((@Eq Nat (@List.length SessionD (@TabA.l x94)) (@List.length SessionD (@TabA.l x97))) ∧
 ((@Eq (@List SessionD) (@TabA.l x94) (@TabA.l x97)) ∧
 ((@Eq Bool (@Decidable.decide (@LT.lt Int _ (0 : Int) (@TabA.size x97)) _) Bool.true) ∧
 (∀ x98 : Unit,
 (True →
 (∃ x99 : TabA,
 ((@Eq Int (@TabA.size x92) (@TabA.size x99)) ∧
 ((@Eq Nat (0 : Nat) (0 : Nat)) ∧
 ((@Eq Nat (@List.length SessionD (@TabA.l x92)) (@List.length SessionD (@TabA.l x99))) ∧
 ((@Eq (@List SessionD) (@TabA.l x92) (@TabA.l x99)) ∧
 ((@Eq Bool (@Decidable.decide (@LT.lt Int _ (0 : Int) (@TabA.size x99)) _) Bool.true) ∧
 (∀ x100 : Unit,
 (True →
 (∃ x101 : (@List SessionD),
 ((@LE.le Nat _ (@HAdd.hAdd _ _ _ _ (0 : Nat) (@List.length SessionD (@TabA.l x97))) (@List.length SessionD (@TabA.l x97))) ∧
 ((@Eq (@List SessionD) (@List.take SessionD (@List.length SessionD (@TabA.l x97)) (@List.drop SessionD (0 : Nat) (@TabA.l x97))) x101) ∧
 ((@LE.le Nat _ (@HAdd.hAdd _ _ _ _ (0 : Nat) (@List.length SessionD (@TabA.l x99))) (@List.length SessionD (@TabA.l x99))) ∧
 ((@Eq (@List SessionD) (@List.take SessionD (@List.length SessionD (@TabA.l x99)) (@List.drop SessionD (0 : Nat) (@TabA.l x99))) x101) ∧
 (True ∧
 (∀ x102 : Unit,
 (True →
 (∃ x103 : TabA,
 ((@Eq Int (@TabA.size x99) (@TabA.size x103)) ∧
 ((@Eq Nat (0 : Nat) (0 : Nat)) ∧
 ((@Eq Nat (@List.length SessionD (@TabA.l x99)) (@List.length SessionD (@TabA.l x103))) ∧
 ((@Eq (@List SessionD) (@TabA.l x99) (@TabA.l x103)) ∧
 ((@Eq Bool (@Decidable.decide (@LT.lt Int _ (0 : Int) (@TabA.size x103)) _) Bool.true) ∧
 (∀ x104 : Unit,
 (True →
 ((@LE.le Nat _ (@HMul.hMul _ _ _ _ (@List.length SessionD (@TabA.l x103)) (112 : Nat)) room47) →
 (@Eq Bool (@Decidable.decide (@LE.le Int _ (Nat.cast (@List.length SessionD (@TabA.l x103)) : Int) (@LoadsA.size x)) _) Bool.true))))))))))))))))))))))))))))))))))))))))) (∃ x105 : TabA,
 ((@Eq Int (@LoadsA.size x) (@TabA.size x105)) ∧
 ((@LE.le Nat _ (@HAdd.hAdd _ _ _ _ (0 : Nat) (@List.length SessionD (@TabA.l x92))) (@List.length SessionD (@TabA.l x92))) ∧
 ((@Eq (@List SessionD) (@List.take SessionD (@List.length SessionD (@TabA.l x92)) (@List.drop SessionD (0 : Nat) (@TabA.l x92))) (@TabA.l x105)) ∧
 (((@LoadOK (@TabA.size x105) (@TabA.l x105)) →
 False) ∧
 (∀ x106 : Unit,
 (True →
 (br (@BEq.beq Int _ (@loadE (@TabA.size x105)) (0 : Int))
 (@Eq Bool Bool.false Bool.true)
 (@Eq Bool Bool.false Bool.true))))))))))))))))))))))))))))))))))))))) (∃ x107 : TabA,
 ((@Eq Int (@LoadsA.size x) (@TabA.size x107)) ∧
 ((@Eq (@List SessionD) (@LoadsA.raw x) (@TabA.l x107)) ∧
 (((@LoadOK (@TabA.size x107) (@TabA.l x107)) →
 False) ∧
 (∀ x108 : Unit,
 (True →
 (@Or (∃ x109 : TabA,
 ((@Eq Int (@LoadsA.size x) (@TabA.size x109)) ∧
 ((@Eq (@List SessionD) (@LoadsA.raw x) (@TabA.l x109)) ∧
 (((@LE.le Int _ (1 : Int) (@TabA.size x109)) ∧
 ((@LE.le Int _ (@TabA.size x109) (16 : Int)) ∧
 ((@LE.le Int _ (Nat.cast (@List.length SessionD (@TabA.l x109)) : Int) (@TabA.size x109)) ∧
 ((∀ x110 : SessionD,
 ((@Membership.mem SessionD (@List SessionD) _ (@TabA.l x109) x110) →
 (@LE.le Int _ (0 : Int) (@SessionD.seq x110)))) ∧
 (@List.Pairwise SessionD Dif (@TabA.l x109)))))) ∧
 (∀ x111 : Unit,
 (True →
 (br (@bne Int _ (@loadE (@TabA.size x107)) (0 : Int))
 (Bad "operation" "law.go:112")
 (Bad "operation" "law.go:112")))))))) (∃ x112 : TabA,
 ((@Eq Int (@LoadsA.size x) (@TabA.size x112)) ∧
 ((@Eq (@List SessionD) (@LoadsA.raw x) (@TabA.l x112)) ∧
 (((@LoadOK (@TabA.size x112) (@TabA.l x112)) →
 False) ∧
 (∀ x113 : Unit,
 (True →
 (br (@bne Int _ (@loadE (@TabA.size x107)) (@loadE (@TabA.size x112)))
 (Bad "operation" "law.go:112")
 (br (@Bool.not (@BEq.beq Bool _ (@BEq.beq Int _ (@loadE (@TabA.size x112)) (0 : Int)) (@Bool.not Bool.true)))
 (Bad "operation" "law.go:112")
 (br (@BEq.beq Int _ (@loadE (@TabA.size x112)) (0 : Int))
 (Bad "silent" "law.go:112")
 ((∃ x114 : OneS,
 ((@Eq Int (0 : Int) (Nat.cast (@OneS.i x114) : Int)) ∧
 ((@Eq Int (@LoadsA.size x) (@LoadsA.size x)) ∧
 ((@Eq Nat (0 : Nat) (@List.length SessionD (@OneS.l x114))) ∧
 ((@Eq (@List SessionD) (@List.nil SessionD) (@OneS.l x114)) ∧
 ((@LE.le Nat _ (@OneS.i x114) (@List.length Deed6D (@LoadsA.l x))) ∧
 (@LoadOK (@LoadsA.size x) (@OneS.l x114)))))))) ∧
 (∀ x115 : OneS,
 (((@LE.le Nat _ (@OneS.i x115) (@List.length Deed6D (@LoadsA.l x))) ∧
 (@LoadOK (@LoadsA.size x) (@OneS.l x115))) →
 ((@LE.le Nat _ (@HMul.hMul _ _ _ _ (@List.length Deed6D (@LoadsA.l x)) (120 : Nat)) room47) →
 (br (@Decidable.decide (@LT.lt Int _ (Nat.cast (@OneS.i x115) : Int) (Nat.cast (@List.length Deed6D (@LoadsA.l x)) : Int)) _)
 (br (@Decidable.decide ((@LE.le Int _ (0 : Int) (Nat.cast (@OneS.i x115) : Int)) ∧
 (@LT.lt Int _ (Nat.cast (@OneS.i x115) : Int) (Nat.cast (@List.length Deed6D (@LoadsA.l x)) : Int))) _)
 (br (@Decidable.decide (@LE.le Int _ (@Deed6D.dof (@List.getD Deed6D (@LoadsA.l x) (@Int.toNat (Nat.cast (@OneS.i x115) : Int)) (@Deed6D.mk (0 : Int) (0 : Int) (0 : Int) (@List.nil UInt8) VerdictD.dflt))) (1 : Int)) _)
 (br (@Decidable.decide ((@LE.le Int _ (0 : Int) (Nat.cast (@OneS.i x115) : Int)) ∧
 (@LT.lt Int _ (Nat.cast (@OneS.i x115) : Int) (Nat.cast (@List.length Deed6D (@LoadsA.l x)) : Int))) _)
 (br (@Decidable.decide ((@LE.le Int _ (0 : Int) (Nat.cast (@OneS.i x115) : Int)) ∧
 (@LT.lt Int _ (Nat.cast (@OneS.i x115) : Int) (Nat.cast (@List.length Deed6D (@LoadsA.l x)) : Int))) _)
 (∃ x116 : OpenA,
 ((@Eq Bs (@Deed6D.name (@List.getD Deed6D (@LoadsA.l x) (@Int.toNat (Nat.cast (@OneS.i x115) : Int)) (@Deed6D.mk (0 : Int) (0 : Int) (0 : Int) (@List.nil UInt8) VerdictD.dflt))) (@OpenA.name x116)) ∧
 ((@Eq Int (@Deed6D.id (@List.getD Deed6D (@LoadsA.l x) (@Int.toNat (Nat.cast (@OneS.i x115) : Int)) (@Deed6D.mk (0 : Int) (0 : Int) (0 : Int) (@List.nil UInt8) VerdictD.dflt))) (@OpenA.id x116)) ∧
 ((@Eq Int (@LoadsA.size x) (@OpenA.size x116)) ∧
 ((@Eq Nat (0 : Nat) (0 : Nat)) ∧
 ((@Eq Nat (@List.length SessionD (@OneS.l x115)) (@List.length SessionD (@OpenA.l x116))) ∧
 ((@Eq (@List SessionD) (@OneS.l x115) (@OpenA.l x116)) ∧
 (((@Eq Bool (@Decidable.decide (@LT.lt Int _ (0 : Int) (@OpenA.size x116)) _) Bool.true) ∧
 (@Eq Bool (@Decidable.decide (@LE.le Nat _ (@List.length SessionD (@OpenA.l x116)) (1024 : Nat)) _) Bool.true)) ∧
 (∀ x117 : Unit,
 (True →
 (∃ x118 : OneS,
 ((@Eq Int (@Go.IntKind.wrap Go.IntKind.i64 (@HAdd.hAdd Int Int Int _ (Nat.cast (@OneS.i x115) : Int) (1 : Int))) (Nat.cast (@OneS.i x118) : Int)) ∧
 ((@Eq Int (@OpenA.size x116) (@LoadsA.size x)) ∧
 ((@Eq Nat (0 : Nat) (0 : Nat)) ∧
 ((@Eq Nat (@List.length SessionD (@Prod.snd Int (@List SessionD) (@openL x116))) (@List.length SessionD (@OneS.l x118))) ∧
 ((@Eq (@List SessionD) (@Prod.snd Int (@List SessionD) (@openL x116)) (@OneS.l x118)) ∧
 (((@LE.le Nat _ (@OneS.i x118) (@List.length Deed6D (@LoadsA.l x))) ∧
 (@LoadOK (@LoadsA.size x) (@OneS.l x118))) ∧
 (@LT.lt Nat _ (@Nat.sub (@List.length Deed6D (@LoadsA.l x)) (@OneS.i x118)) (@Nat.sub (@List.length Deed6D (@LoadsA.l x)) (@OneS.i x115))))))))))))))))))))
 (Bad "check" "law.go:121"))
 (Bad "check" "law.go:121"))
 (br (@Decidable.decide ((@LE.le Int _ (0 : Int) (Nat.cast (@OneS.i x115) : Int)) ∧
 (@LT.lt Int _ (Nat.cast (@OneS.i x115) : Int) (Nat.cast (@List.length Deed6D (@LoadsA.l x)) : Int))) _)
 (br (@Decidable.decide (@LE.le Int _ (@Deed6D.dof (@List.getD Deed6D (@LoadsA.l x) (@Int.toNat (Nat.cast (@OneS.i x115) : Int)) (@Deed6D.mk (0 : Int) (0 : Int) (0 : Int) (@List.nil UInt8) VerdictD.dflt))) (4 : Int)) _)
 (br (@Decidable.decide ((@LE.le Int _ (0 : Int) (Nat.cast (@OneS.i x115) : Int)) ∧
 (@LT.lt Int _ (Nat.cast (@OneS.i x115) : Int) (Nat.cast (@List.length Deed6D (@LoadsA.l x)) : Int))) _)
 (br (@Decidable.decide ((@LE.le Int _ (0 : Int) (Nat.cast (@OneS.i x115) : Int)) ∧
 (@LT.lt Int _ (Nat.cast (@OneS.i x115) : Int) (Nat.cast (@List.length Deed6D (@LoadsA.l x)) : Int))) _)
 (∃ x119 : AskA,
 ((@Eq Int (@Deed6D.id (@List.getD Deed6D (@LoadsA.l x) (@Int.toNat (Nat.cast (@OneS.i x115) : Int)) (@Deed6D.mk (0 : Int) (0 : Int) (0 : Int) (@List.nil UInt8) VerdictD.dflt))) (@AskA.id x119)) ∧
 ((@Eq Int (@Deed6D.seq (@List.getD Deed6D (@LoadsA.l x) (@Int.toNat (Nat.cast (@OneS.i x115) : Int)) (@Deed6D.mk (0 : Int) (0 : Int) (0 : Int) (@List.nil UInt8) VerdictD.dflt))) (@AskA.seq x119)) ∧
 ((@Eq Int (@LoadsA.size x) (@AskA.size x119)) ∧
 ((@Eq Nat (0 : Nat) (0 : Nat)) ∧
 ((@Eq Nat (@List.length SessionD (@OneS.l x115)) (@List.length SessionD (@AskA.l x119))) ∧
 ((@Eq (@List SessionD) (@OneS.l x115) (@AskA.l x119)) ∧
 (((@Eq Bool (@Decidable.decide (@LT.lt Int _ (0 : Int) (@AskA.size x119)) _) Bool.true) ∧
 (@Eq Bool (@Decidable.decide (@LE.le Nat _ (@List.length SessionD (@AskA.l x119)) (1024 : Nat)) _) Bool.true)) ∧
 (∀ x120 : Unit,
 (True →
 (∃ x121 : OneS,
 ((@Eq Int (@Go.IntKind.wrap Go.IntKind.i64 (@HAdd.hAdd Int Int Int _ (Nat.cast (@OneS.i x115) : Int) (1 : Int))) (Nat.cast (@OneS.i x121) : Int)) ∧
 ((@Eq Int (@AskA.size x119) (@LoadsA.size x)) ∧
 ((@Eq Nat (0 : Nat) (0 : Nat)) ∧
 ((@Eq Nat (@List.length SessionD (@Prod.snd (@Prod VerdictD Bool) (@List SessionD) (@askL x119))) (@List.length SessionD (@OneS.l x121))) ∧
 ((@Eq (@List SessionD) (@Prod.snd (@Prod VerdictD Bool) (@List SessionD) (@askL x119)) (@OneS.l x121)) ∧
 (((@LE.le Nat _ (@OneS.i x121) (@List.length Deed6D (@LoadsA.l x))) ∧
 (@LoadOK (@LoadsA.size x) (@OneS.l x121))) ∧
 (@LT.lt Nat _ (@Nat.sub (@List.length Deed6D (@LoadsA.l x)) (@OneS.i x121)) (@Nat.sub (@List.length Deed6D (@LoadsA.l x)) (@OneS.i x115))))))))))))))))))))
 (Bad "check" "law.go:123"))
 (Bad "check" "law.go:123"))
 (br (@Decidable.decide ((@LE.le Int _ (0 : Int) (Nat.cast (@OneS.i x115) : Int)) ∧
 (@LT.lt Int _ (Nat.cast (@OneS.i x115) : Int) (Nat.cast (@List.length Deed6D (@LoadsA.l x)) : Int))) _)
 (br (@Decidable.decide ((@LE.le Int _ (0 : Int) (Nat.cast (@OneS.i x115) : Int)) ∧
 (@LT.lt Int _ (Nat.cast (@OneS.i x115) : Int) (Nat.cast (@List.length Deed6D (@LoadsA.l x)) : Int))) _)
 (br (@Decidable.decide ((@LE.le Int _ (0 : Int) (Nat.cast (@OneS.i x115) : Int)) ∧
 (@LT.lt Int _ (Nat.cast (@OneS.i x115) : Int) (Nat.cast (@List.length Deed6D (@LoadsA.l x)) : Int))) _)
 (∃ x122 : DoneA,
 ((@Eq Int (@Deed6D.id (@List.getD Deed6D (@LoadsA.l x) (@Int.toNat (Nat.cast (@OneS.i x115) : Int)) (@Deed6D.mk (0 : Int) (0 : Int) (0 : Int) (@List.nil UInt8) VerdictD.dflt))) (@DoneA.id x122)) ∧
 ((@Eq Int (@Deed6D.seq (@List.getD Deed6D (@LoadsA.l x) (@Int.toNat (Nat.cast (@OneS.i x115) : Int)) (@Deed6D.mk (0 : Int) (0 : Int) (0 : Int) (@List.nil UInt8) VerdictD.dflt))) (@DoneA.seq x122)) ∧
 ((@Eq Int (@VerdictD.code (@Deed6D.v (@List.getD Deed6D (@LoadsA.l x) (@Int.toNat (Nat.cast (@OneS.i x115) : Int)) (@Deed6D.mk (0 : Int) (0 : Int) (0 : Int) (@List.nil UInt8) VerdictD.dflt)))) (@VerdictD.code (@DoneA.v x122))) ∧
 ((@Eq Int (@VerdictD.session (@Deed6D.v (@List.getD Deed6D (@LoadsA.l x) (@Int.toNat (Nat.cast (@OneS.i x115) : Int)) (@Deed6D.mk (0 : Int) (0 : Int) (0 : Int) (@List.nil UInt8) VerdictD.dflt)))) (@VerdictD.session (@DoneA.v x122))) ∧
 ((@Eq Int (@VerdictD.rev (@Deed6D.v (@List.getD Deed6D (@LoadsA.l x) (@Int.toNat (Nat.cast (@OneS.i x115) : Int)) (@Deed6D.mk (0 : Int) (0 : Int) (0 : Int) (@List.nil UInt8) VerdictD.dflt)))) (@VerdictD.rev (@DoneA.v x122))) ∧
 ((@Eq Bs (@VerdictD.path (@Deed6D.v (@List.getD Deed6D (@LoadsA.l x) (@Int.toNat (Nat.cast (@OneS.i x115) : Int)) (@Deed6D.mk (0 : Int) (0 : Int) (0 : Int) (@List.nil UInt8) VerdictD.dflt)))) (@VerdictD.path (@DoneA.v x122))) ∧
 ((@Eq Int (@VerdictD.digest (@Deed6D.v (@List.getD Deed6D (@LoadsA.l x) (@Int.toNat (Nat.cast (@OneS.i x115) : Int)) (@Deed6D.mk (0 : Int) (0 : Int) (0 : Int) (@List.nil UInt8) VerdictD.dflt)))) (@VerdictD.digest (@DoneA.v x122))) ∧
 ((@Eq (@List CommitD) (@VerdictD.commits (@Deed6D.v (@List.getD Deed6D (@LoadsA.l x) (@Int.toNat (Nat.cast (@OneS.i x115) : Int)) (@Deed6D.mk (0 : Int) (0 : Int) (0 : Int) (@List.nil UInt8) VerdictD.dflt)))) (@VerdictD.commits (@DoneA.v x122))) ∧
 ((@Eq Int (@VerdictD.member (@Deed6D.v (@List.getD Deed6D (@LoadsA.l x) (@Int.toNat (Nat.cast (@OneS.i x115) : Int)) (@Deed6D.mk (0 : Int) (0 : Int) (0 : Int) (@List.nil UInt8) VerdictD.dflt)))) (@VerdictD.member (@DoneA.v x122))) ∧
 ((@Eq Int (@LoadsA.size x) (@DoneA.size x122)) ∧
 ((@Eq Nat (0 : Nat) (0 : Nat)) ∧
 ((@Eq Nat (@List.length SessionD (@OneS.l x115)) (@List.length SessionD (@DoneA.l x122))) ∧
 ((@Eq (@List SessionD) (@OneS.l x115) (@DoneA.l x122)) ∧
 ((@Eq Bool (@Decidable.decide (@LT.lt Int _ (0 : Int) (@DoneA.size x122)) _) Bool.true) ∧
 (∀ x123 : Unit,
 (True →
 (∃ x124 : OneS,
 ((@Eq Int (@Go.IntKind.wrap Go.IntKind.i64 (@HAdd.hAdd Int Int Int _ (Nat.cast (@OneS.i x115) : Int) (1 : Int))) (Nat.cast (@OneS.i x124) : Int)) ∧
 ((@Eq Int (@DoneA.size x122) (@LoadsA.size x)) ∧
 ((@Eq Nat (0 : Nat) (0 : Nat)) ∧
 ((@Eq Nat (@List.length SessionD (@Prod.snd Bool (@List SessionD) (@doneL x122))) (@List.length SessionD (@OneS.l x124))) ∧
 ((@Eq (@List SessionD) (@Prod.snd Bool (@List SessionD) (@doneL x122)) (@OneS.l x124)) ∧
 (((@LE.le Nat _ (@OneS.i x124) (@List.length Deed6D (@LoadsA.l x))) ∧
 (@LoadOK (@LoadsA.size x) (@OneS.l x124))) ∧
 (@LT.lt Nat _ (@Nat.sub (@List.length Deed6D (@LoadsA.l x)) (@OneS.i x124)) (@Nat.sub (@List.length Deed6D (@LoadsA.l x)) (@OneS.i x115)))))))))))))))))))))))))))
 (Bad "check" "law.go:125"))
 (Bad "check" "law.go:125"))
 (Bad "check" "law.go:125")))
 (Bad "check" "law.go:122")))
 (Bad "check" "law.go:120"))
 (∃ x125 : TabA,
 ((@Eq Int (@LoadsA.size x) (@TabA.size x125)) ∧
 ((@Eq Nat (0 : Nat) (0 : Nat)) ∧
 ((@Eq Nat (@List.length SessionD (@OneS.l x115)) (@List.length SessionD (@TabA.l x125))) ∧
 ((@Eq (@List SessionD) (@OneS.l x115) (@TabA.l x125)) ∧
 ((@Eq Bool (@Decidable.decide (@LT.lt Int _ (0 : Int) (@TabA.size x125)) _) Bool.true) ∧
 (∀ x126 : Unit,
 (True →
 (@Or (∃ x127 : TabA,
 ((@Eq Int (@LoadsA.size x) (@TabA.size x127)) ∧
 ((@LE.le Nat _ (@HAdd.hAdd _ _ _ _ (0 : Nat) (@List.length SessionD (@TabA.l x125))) (@List.length SessionD (@TabA.l x125))) ∧
 ((@Eq (@List SessionD) (@List.take SessionD (@List.length SessionD (@TabA.l x125)) (@List.drop SessionD (0 : Nat) (@TabA.l x125))) (@TabA.l x127)) ∧
 (((@LE.le Int _ (1 : Int) (@TabA.size x127)) ∧
 ((@LE.le Int _ (@TabA.size x127) (16 : Int)) ∧
 ((@LE.le Int _ (Nat.cast (@List.length SessionD (@TabA.l x127)) : Int) (@TabA.size x127)) ∧
 ((∀ x128 : SessionD,
 ((@Membership.mem SessionD (@List SessionD) _ (@TabA.l x127) x128) →
 (@LE.le Int _ (0 : Int) (@SessionD.seq x128)))) ∧
 (@List.Pairwise SessionD Dif (@TabA.l x127)))))) ∧
 (∀ x129 : Unit,
 (True →
 (∃ x130 : TabA,
 ((@Eq Int (@TabA.size x127) (@TabA.size x130)) ∧
 ((@Eq Nat (0 : Nat) (0 : Nat)) ∧
 ((@Eq Nat (@List.length SessionD (@TabA.l x127)) (@List.length SessionD (@TabA.l x130))) ∧
 ((@Eq (@List SessionD) (@TabA.l x127) (@TabA.l x130)) ∧
 ((@Eq Bool (@Decidable.decide (@LT.lt Int _ (0 : Int) (@TabA.size x130)) _) Bool.true) ∧
 (∀ x131 : Unit,
 (True →
 (∃ x132 : TabA,
 ((@Eq Int (@TabA.size x125) (@TabA.size x132)) ∧
 ((@Eq Nat (0 : Nat) (0 : Nat)) ∧
 ((@Eq Nat (@List.length SessionD (@TabA.l x125)) (@List.length SessionD (@TabA.l x132))) ∧
 ((@Eq (@List SessionD) (@TabA.l x125) (@TabA.l x132)) ∧
 ((@Eq Bool (@Decidable.decide (@LT.lt Int _ (0 : Int) (@TabA.size x132)) _) Bool.true) ∧
 (∀ x133 : Unit,
 (True →
 (∃ x134 : (@List SessionD),
 ((@LE.le Nat _ (@HAdd.hAdd _ _ _ _ (0 : Nat) (@List.length SessionD (@TabA.l x130))) (@List.length SessionD (@TabA.l x130))) ∧
 ((@Eq (@List SessionD) (@List.take SessionD (@List.length SessionD (@TabA.l x130)) (@List.drop SessionD (0 : Nat) (@TabA.l x130))) x134) ∧
 ((@LE.le Nat _ (@HAdd.hAdd _ _ _ _ (0 : Nat) (@List.length SessionD (@TabA.l x132))) (@List.length SessionD (@TabA.l x132))) ∧
 ((@Eq (@List SessionD) (@List.take SessionD (@List.length SessionD (@TabA.l x132)) (@List.drop SessionD (0 : Nat) (@TabA.l x132))) x134) ∧
 (True ∧
 (∀ x135 : Unit,
 (True →
 (∃ x136 : TabA,
 ((@Eq Int (@TabA.size x132) (@TabA.size x136)) ∧
 ((@Eq Nat (0 : Nat) (0 : Nat)) ∧
 ((@Eq Nat (@List.length SessionD (@TabA.l x132)) (@List.length SessionD (@TabA.l x136))) ∧
 ((@Eq (@List SessionD) (@TabA.l x132) (@TabA.l x136)) ∧
 ((@Eq Bool (@Decidable.decide (@LT.lt Int _ (0 : Int) (@TabA.size x136)) _) Bool.true) ∧
 (∀ x137 : Unit,
 (True →
 ((@LE.le Nat _ (@HMul.hMul _ _ _ _ (@List.length SessionD (@TabA.l x136)) (112 : Nat)) room47) →
 (@Eq Bool (@Decidable.decide (@LE.le Int _ (Nat.cast (@List.length SessionD (@TabA.l x136)) : Int) (@LoadsA.size x)) _) Bool.true))))))))))))))))))))))))))))))))))))))))) (∃ x138 : TabA,
 ((@Eq Int (@LoadsA.size x) (@TabA.size x138)) ∧
 ((@LE.le Nat _ (@HAdd.hAdd _ _ _ _ (0 : Nat) (@List.length SessionD (@TabA.l x125))) (@List.length SessionD (@TabA.l x125))) ∧
 ((@Eq (@List SessionD) (@List.take SessionD (@List.length SessionD (@TabA.l x125)) (@List.drop SessionD (0 : Nat) (@TabA.l x125))) (@TabA.l x138)) ∧
 (((@LoadOK (@TabA.size x138) (@TabA.l x138)) →
 False) ∧
 (∀ x139 : Unit,
 (True →
 (br (@BEq.beq Int _ (@loadE (@TabA.size x138)) (0 : Int))
 (@Eq Bool Bool.false Bool.true)
 (@Eq Bool Bool.false Bool.true))))))))))))))))))))))))))))))))))))))))))))))))))))))) := by kernel_rfl

end Go.Proofs.Ytnkhnogdiphboaa.Ses

namespace Go.Proofs.Ytnkhnogdiphboaa.Ses
open Go Go.Proofs Go.Proofs.Ytnkhnogdiphboaa.Sx
set_option format.width 180

theorem good0 {l : List SessionD} : GoodTo l 0 := ⟨by simp, by simp⟩
theorem good_step {l : List SessionD} {i : Nat} {d : SessionD} (hi : i < l.length) (hs : 0 ≤ (l.getD i d).seq) (ha : ∀ k : Nat, k < i → alk (l.getD i d) (l.getD k d) = false) (hG : GoodTo l i) : GoodTo l (i + 1) := by
  have h1 : l.getD i d = l[i] := by simp [hi]
  rw [h1] at hs ha
  have h2 : l.take (i + 1) = l.take i ++ [l[i]] := by simp
  obtain ⟨g1, g2⟩ := hG
  unfold GoodTo
  rw [h2]
  refine ⟨fun x hx => ?_, ?_⟩
  · rcases List.mem_append.1 hx with hx | hx
    · exact g1 x hx
    · simp at hx; subst hx; exact hs
  · rw [List.pairwise_append]
    refine ⟨g2, by simp, fun a ha' b hb => ?_⟩
    simp at hb
    subst hb
    obtain ⟨k, hk, e⟩ := List.mem_iff_getElem.1 ha'
    have hk' : k < i := by simp at hk; omega
    have := ha k hk'
    rw [show l.getD k d = a by rw [← e]; simp [show k < l.length by omega]] at this
    simp [alk] at this
    exact this
theorem good_all {l : List SessionD} (h : GoodTo l l.length) : (∀ x, x ∈ l → 0 ≤ x.seq) ∧ l.Pairwise Dif := by
  unfold GoodTo at h
  rwa [List.take_length] at h
theorem any_no {l : List SessionD} {i : Nat} {s d : SessionD} (hi : i ≤ l.length) (h : (l.take i).any (alk s) = false) : ∀ k : Nat, k < i → alk s (l.getD k d) = false := by
  intro k hk
  rw [List.any_eq_false] at h
  have := h l[k] (by rw [List.mem_iff_getElem]; exact ⟨k, by simp; omega, by simp⟩)
  rw [show l.getD k d = l[k] by simp [show k < l.length by omega]]
  simpa using this
theorem ok_seq {size : Int} {l : List SessionD} (h : LoadOK size l) {i : Nat} (hi : i < l.length) {d : SessionD} : 0 ≤ (l.getD i d).seq := by
  rw [show l.getD i d = l[i] by simp [hi]]
  exact h.2.2.2.1 _ (List.getElem_mem hi)
theorem ok_alk {size : Int} {l : List SessionD} (h : LoadOK size l) {i k : Nat} (hi : i < l.length) (hk : k < i) {d : SessionD} : alk (l.getD i d) (l.getD k d) = false := by
  have := List.pairwise_iff_getElem.1 h.2.2.2.2 k i (by omega) hi hk
  rw [show l.getD i d = l[i] by simp [hi], show l.getD k d = l[k]'(by omega) by simp [show k < l.length by omega]]
  simp [alk]
  exact this
theorem ok_any {size : Int} {l : List SessionD} (h : LoadOK size l) {i : Nat} (hi : i < l.length) {d : SessionD} : (l.take i).any (alk (l.getD i d)) = false := by
  rw [List.any_eq_false]
  intro x hx
  obtain ⟨k, hk, e⟩ := List.mem_iff_getElem.1 hx
  have hk' : k < i := by simp at hk; omega
  have := ok_alk h hi hk' (d := d)
  rw [show l.getD k d = x by rw [← e]; simp [show k < l.length by omega]] at this
  rw [this]; simp
theorem take_get {l : List SessionD} {i : Nat} (hi : i < l.length) {d : SessionD} : l.take i ++ [l.getD i d] = l.take (i + 1) := by
  have h2 : l.take (i + 1) = l.take i ++ [l[i]] := by simp
  rw [h2, show l.getD i d = l[i] by simp [hi]]
theorem loadE1 {size : Int} (h : size < 1 ∨ 16 < size) : 1 = loadE size := by
  unfold loadE
  rcases h with h | h <;> simp [h]
theorem loadE4 {size : Int} (h : ¬ size < 1) (h' : ¬ 16 < size) : 4 = loadE size := by
  simp [loadE, h, h']

theorem seq_open {size : Int} {l : List SessionD} {name : Bs} {id : Int} (h : ∀ x, x ∈ l → 0 ≤ x.seq) : ∀ x, x ∈ (openL ⟨size, l, name, id⟩).2 → 0 ≤ x.seq := by
  intro x hx
  have b1 := idxF_lt (nameIs name) l
  by_cases hi : idxF (nameIs name) l < 0
  · have h1 : ∀ x, x ∈ (bif decide (idxF (idIs id) l < 0) then l else outL l (idxF (idIs id) l)) → 0 ≤ x.seq := by
      intro x hx
      cases hd : decide (idxF (idIs id) l < 0)
      · rw [hd, cond_false] at hx; exact h x ((out_sub _ _).subset hx)
      · rw [hd, cond_true] at hx; exact h x hx
    unfold openL at hx
    dsimp only at hx
    rw [decide_eq_true hi, cond_true] at hx
    dsimp only at hx
    generalize (bif decide (idxF (idIs id) l < 0) then l else outL l (idxF (idIs id) l)) = l1 at hx h1
    rcases List.mem_append.1 hx with hx | hx
    · cases hd : decide ((l1.length : Int) = size)
      · rw [hd, cond_false] at hx; exact h1 x hx
      · rw [hd, cond_true] at hx; exact h1 x ((out_sub _ _).subset hx)
    · simp at hx; subst hx; simp
  · have : (openL ⟨size, l, name, id⟩).2 = usedL l (idxF (nameIs name) l) := by
      unfold openL; dsimp only; rw [decide_eq_false hi, cond_false]
    rw [this] at hx
    exact h x ((used_perm (by omega)).subset hx)
theorem ok_open {size : Int} {l : List SessionD} {name : Bs} {id : Int} (h : LoadOK size l) : LoadOK size (openL ⟨size, l, name, id⟩).2 := by
  have ho := one_open (name := name) (id := id) (by have := h.1; omega) (⟨h.2.2.1, h.2.2.2.2⟩ : OneI size l)
  exact ⟨h.1, h.2.1, ho.1, seq_open h.2.2.2.1, ho.2⟩
theorem ok_ask {size id seq : Int} {l : List SessionD} (h : LoadOK size l) : LoadOK size (askL ⟨size, l, id, seq⟩).2 := by
  have ho := one_ask (id := id) (seq := seq) (⟨h.2.2.1, h.2.2.2.2⟩ : OneI size l)
  refine ⟨h.1, h.2.1, ho.1, fun x hx => ?_, ho.2⟩
  have b1 := idxF_lt (idIs id) l
  by_cases hi : idxF (idIs id) l < 0
  · have : (askL ⟨size, l, id, seq⟩).2 = l := by unfold askL; dsimp only; rw [decide_eq_true hi, cond_true]
    rw [this] at hx; exact h.2.2.2.1 x hx
  · have : (askL ⟨size, l, id, seq⟩).2 = usedL l (idxF (idIs id) l) := by unfold askL; dsimp only; rw [decide_eq_false hi, cond_false]
    rw [this] at hx; exact h.2.2.2.1 x ((used_perm (by omega)).subset hx)
theorem ok_done {size id seq : Int} {l : List SessionD} {v : VerdictD} (h : LoadOK size l) : LoadOK size (doneL ⟨size, l, id, seq, v⟩).2 := by
  have ho := one_done (id := id) (seq := seq) (v := v) (⟨h.2.2.1, h.2.2.2.2⟩ : OneI size l)
  refine ⟨h.1, h.2.1, ho.1, fun x hx => ?_, ho.2⟩
  have b1 := idxF_lt (idIs id) l
  by_cases hc : (decide (idxF (idIs id) l < 0) || decide (seq ≤ (atL l (idxF (idIs id) l)).seq)) = true
  · have : (doneL ⟨size, l, id, seq, v⟩).2 = l := by unfold doneL; dsimp only; rw [hc, cond_true]
    rw [this] at hx; exact h.2.2.2.1 x hx
  · have hc : (decide (idxF (idIs id) l < 0) || decide (seq ≤ (atL l (idxF (idIs id) l)).seq)) = false := by simpa using hc
    have hs : ¬ idxF (idIs id) l < 0 ∧ (atL l (idxF (idIs id) l)).seq < seq := by simp at hc; omega
    obtain ⟨A, y, B, e, hlen, _, ha⟩ := split_at (l := l) (i := idxF (idIs id) l) (by omega)
    have : (doneL ⟨size, l, id, seq, v⟩).2 = l.set (idxF (idIs id) l).toNat ⟨(atL l (idxF (idIs id) l)).id, seq, (atL l (idxF (idIs id) l)).name, v⟩ := by
      unfold doneL; dsimp only; rw [hc, cond_false]
    rw [this] at hx
    rcases List.mem_or_eq_of_mem_set hx with hx | rfl
    · exact h.2.2.2.1 x hx
    · have h1 := h.2.2.2.1 y (by rw [e]; simp)
      rw [← ha] at h1
      dsimp only
      omega
theorem ok_first {size : Int} (h : ¬ size < 1) (h' : ¬ 16 < size) : LoadOK size [] := ⟨by omega, by omega, by simp; omega, by simp, by simp⟩
theorem loadE_ne (size : Int) : (loadE size == 0) = false := by
  unfold loadE
  cases (decide (size < 1) || decide (16 < size)) <;> rfl

theorem cp2_ok : SpecOK Try.prog 38 cp2T.spec := by
  refine Tri.ok (E := cpE) (Env_ok (by decide +kernel) (by simp [own_ok])) (n := 1000) cp2T fun x hx => ?_
  rw [cp2_vc]
  clear hx
  revert x
  intro (x : List SessionD)
  try simp only [br_bad, decide_eq_true_eq, Bool.and_eq_true, List.take_zero, List.nil_append, List.drop_zero, Nat.zero_add, Int.toNat_natCast, Nat.sub_eq, true_and, and_true, exists_const, List.length_nil, Nat.zero_le, Nat.zero_mul, Nat.le_refl, List.length_set, List.take_length, Int.natCast_nonneg, forall_const, implies_true, Int.toNat_zero, Nat.le_eq, Int.le_refl, addN, cutN, loN, hiN, bndB, Option.getD, List.length_cons, List.take_succ_cons, List.length_take, List.length_drop, Option.isNone, Nat.add_zero, Nat.min_self]
  try simp only [br_iff, decide_eq_true_eq, decide_eq_false_iff_not, room47, Bool.not_eq_true', Bool.not_eq_false', gt_iff_lt]
  intro b hb
  refine ⟨fun h => by have := hb h; simp [this], fun h h1 => ⟨h1, fun h2 => ⟨⟨0, rfl, by omega⟩, fun i hi => ⟨fun h3 => ⟨h3, by omega, (x.getD i ⟨0, 0, [], .dflt⟩).last, rfl, rfl, rfl, rfl, rfl, rfl, rfl, h3, by omega, i + 1, by rw [wrap_id (by omega) (by omega)]; rfl, ?_, by omega, by omega⟩, fun _ => trivial⟩⟩⟩⟩
  exact set_self (d := ⟨0, 0, [], .dflt⟩) (by omega) rfl

theorem alk_ok : SpecOK Try.prog 42 alkT.spec := by
  refine Tri.ok (E := alkE) (Env_ok (by decide +kernel) (by simp)) (n := 1000) alkT fun x hx => ?_
  rw [alk_vc]
  try simp only [br_bad, decide_eq_true_eq, Bool.and_eq_true, List.take_zero, List.nil_append, List.drop_zero, Nat.zero_add, Int.toNat_natCast, Nat.sub_eq, true_and, and_true, exists_const, List.length_nil, Nat.zero_le, Nat.zero_mul, Nat.le_refl, List.length_set, List.take_length, Int.natCast_nonneg, forall_const, implies_true, Int.toNat_zero, Nat.le_eq, Int.le_refl, addN, cutN, loN, hiN, bndB, Option.getD, List.length_cons, List.take_succ_cons, List.length_take, List.length_drop, Option.isNone, Nat.add_zero, Nat.min_self]
  try simp only [br_iff, decide_eq_true_eq, decide_eq_false_iff_not, room47, Bool.not_eq_true', Bool.not_eq_false', gt_iff_lt]
  obtain ⟨l, s⟩ := x
  dsimp only
  intro b
  refine ⟨⟨0, rfl, by omega, by omega⟩, fun i ⟨h2, h3⟩ => ⟨fun h4 => ⟨h4, fun h5 => ?_, fun h5 => ⟨fun h6 => ?_, fun h6 => ⟨i + 1, ?_, ⟨by omega, ?_⟩, by omega⟩⟩⟩, fun h4 => ?_⟩⟩
  · have hlt : i < l.length := by omega
    have h5 : (l[i].id == s.id) = true := by simpa [hlt] using h5
    have : l.any (alk s) = true := List.any_eq_true.2 ⟨l[i], List.getElem_mem hlt, by simp only [alk, h5, Bool.true_or]⟩
    simp [this]
  · have hlt : i < l.length := by omega
    have h6 : (l[i].name == s.name) = true := by simpa [hlt] using h6
    have : l.any (alk s) = true := List.any_eq_true.2 ⟨l[i], List.getElem_mem hlt, by simp only [alk, h6, Bool.or_true]⟩
    simp [this]
  · rw [wrap_id (by omega) (by omega)]; rfl
  · intro j x hj hx
    have hlt : i < l.length := by omega
    by_cases e : j = i
    · subst e
      simp only [hlt, List.getElem?_eq_getElem, Option.some.injEq] at hx
      subst hx
      rw [show l.getD j _ = l[j] by simp [hlt]] at h5 h6
      rw [h5, h6]; rfl
    · exact h3 j x (by omega) hx
  · have : l.any (alk s) = false := by
      rw [List.any_eq_false]
      intro x hx
      obtain ⟨j, hj, e⟩ := List.mem_iff_getElem.1 hx
      have := h3 j x (by omega) (by rw [← e]; simp [hj])
      simp only [alk]
      rw [this]; simp
    rw [this]; rfl

theorem load1_ok : SpecOK Try.prog 28 load1T.spec := by
  refine Tri.ok (E := loadEnv) (Env_ok (by decide +kernel) (by simp [alk_ok, cp2_ok])) (n := 1000) load1T fun x hx => ?_
  rw [load1_vc]
  try simp only [br_bad, decide_eq_true_eq, Bool.and_eq_true, List.take_zero, List.nil_append, List.drop_zero, Nat.zero_add, Int.toNat_natCast, Nat.sub_eq, true_and, and_true, exists_const, List.length_nil, Nat.zero_le, Nat.zero_mul, Nat.le_refl, List.length_set, List.take_length, Int.natCast_nonneg, forall_const, implies_true, Int.toNat_zero, Nat.le_eq, Int.le_refl, addN, cutN, loN, hiN, bndB, Option.getD, List.length_cons, List.take_succ_cons, List.length_take, List.length_drop, Option.isNone, Nat.add_zero, Nat.min_self]
  try simp only [br_iff, decide_eq_true_eq, decide_eq_false_iff_not, room47, Bool.not_eq_true', Bool.not_eq_false', gt_iff_lt]
  obtain ⟨size, l⟩ := x
  have hx : LoadOK size l := hx
  obtain ⟨o1, o2, o3, o4, o5⟩ := id hx
  dsimp only
  refine ⟨fun h => absurd h (by omega), fun _ => ⟨fun h => absurd h (by omega), fun _ b => ⟨fun h => absurd h (by omega), fun _ _ => ⟨⟨0, rfl, by omega, good0⟩, fun i ⟨h1, hG⟩ => ⟨fun h2 => ⟨h2, fun h3 => ?_, fun h3 => ⟨by omega, ⟨l.take i, l.getD i ⟨0, 0, [], .dflt⟩⟩, rfl, rfl, rfl, rfl, rfl, rfl, rfl, rfl, rfl, rfl, rfl, fun h4 => ?_, fun h4 => ⟨i + 1, by rw [wrap_id (by omega) (by omega)]; rfl, ⟨by omega, good_step (d := ⟨0, 0, [], .dflt⟩) (by omega) (by omega) (any_no (by omega) h4) hG⟩, by omega⟩⟩⟩, fun h2 => ⟨l, rfl, rfl, rfl⟩⟩⟩⟩⟩⟩
  · exact absurd (ok_seq hx (i := i) (d := ⟨0, 0, [], .dflt⟩) (by omega)) (by omega)
  · rw [ok_any hx (i := i) (d := ⟨0, 0, [], .dflt⟩) (by omega)] at h4
    exact absurd h4 (by simp)

theorem load2_ok : SpecOK Try.prog 28 load2T.spec := by
  refine Tri.ok (E := loadEnv) (Env_ok (by decide +kernel) (by simp [alk_ok, cp2_ok])) (n := 1000) load2T fun x hx => ?_
  rw [load2_vc]
  try simp only [br_bad, decide_eq_true_eq, Bool.and_eq_true, List.take_zero, List.nil_append, List.drop_zero, Nat.zero_add, Int.toNat_natCast, Nat.sub_eq, true_and, and_true, exists_const, List.length_nil, Nat.zero_le, Nat.zero_mul, Nat.le_refl, List.length_set, List.take_length, Int.natCast_nonneg, forall_const, implies_true, Int.toNat_zero, Nat.le_eq, Int.le_refl, addN, cutN, loN, hiN, bndB, Option.getD, List.length_cons, List.take_succ_cons, List.length_take, List.length_drop, Option.isNone, Nat.add_zero, Nat.min_self]
  try simp only [br_iff, decide_eq_true_eq, decide_eq_false_iff_not, room47, Bool.not_eq_true', Bool.not_eq_false', gt_iff_lt]
  obtain ⟨size, l⟩ := x
  have hx : ¬ LoadOK size l := hx
  dsimp only
  refine ⟨fun h => loadE1 (.inl h), fun g1 => ⟨fun h => loadE1 (.inr h), fun g2 b => ⟨fun _ => loadE4 g1 g2, fun g3 _ => ⟨⟨0, rfl, by omega, good0⟩, fun i ⟨h1, hG⟩ => ⟨fun h2 => ⟨h2, fun _ => loadE4 g1 g2, fun h3 => ⟨by omega, ⟨l.take i, l.getD i ⟨0, 0, [], .dflt⟩⟩, rfl, rfl, rfl, rfl, rfl, rfl, rfl, rfl, rfl, rfl, rfl, fun h4 => loadE4 g1 g2, fun h4 => ⟨i + 1, by rw [wrap_id (by omega) (by omega)]; rfl, ⟨by omega, good_step (d := ⟨0, 0, [], .dflt⟩) (by omega) (by omega) (any_no (by omega) h4) hG⟩, by omega⟩⟩⟩, fun h2 => ?_⟩⟩⟩⟩⟩
  have : i = l.length := by omega
  subst this
  exact absurd ⟨by omega, by omega, by omega, good_all hG⟩ hx

theorem rload1_ok : SpecOK Try.prog 29 load1T.spec := by
  refine Tri.ok (E := rloadEnv) (Env_ok (by decide +kernel) (by simp [cses_ok])) (n := 1000) load1T fun x hx => ?_
  rw [rload1_vc]
  try simp only [br_bad, decide_eq_true_eq, Bool.and_eq_true, List.take_zero, List.nil_append, List.drop_zero, Nat.zero_add, Int.toNat_natCast, Nat.sub_eq, true_and, and_true, exists_const, List.length_nil, Nat.zero_le, Nat.zero_mul, Nat.le_refl, List.length_set, List.take_length, Int.natCast_nonneg, forall_const, implies_true, Int.toNat_zero, Nat.le_eq, Int.le_refl, addN, cutN, loN, hiN, bndB, Option.getD, List.length_cons, List.take_succ_cons, List.length_take, List.length_drop, Option.isNone, Nat.add_zero, Nat.min_self]
  try simp only [br_iff, decide_eq_true_eq, decide_eq_false_iff_not, room47, Bool.not_eq_true', Bool.not_eq_false', gt_iff_lt]
  obtain ⟨size, l⟩ := x
  have hx : LoadOK size l := hx
  obtain ⟨o1, o2, o3, o4, o5⟩ := id hx
  dsimp only
  refine ⟨fun h => absurd h (by omega), fun _ => ⟨fun h => absurd h (by omega), fun _ b => ⟨fun h => absurd h (by omega), fun _ => ⟨⟨0, rfl, rfl, rfl, by omega, good0⟩, fun i ⟨h1, hG⟩ _ => ⟨fun h2 => ⟨h2, fun h3 => ?_, fun h3 => ⟨⟨0, rfl, by omega, by omega⟩, fun j ⟨hj, hJ⟩ => ⟨fun h4 => ⟨by omega, by omega, fun h5 => ?_, fun h5 => ⟨by omega, by omega, fun h6 => ?_, fun h6 => ⟨j + 1, ?_, ⟨by omega, ?_⟩, by omega⟩⟩⟩, fun h4 => ⟨by omega, l.getD i ⟨0, 0, [], .dflt⟩, rfl, rfl, rfl, rfl, rfl, rfl, rfl, rfl, rfl, rfl, fun _ => ⟨⟨by omega, by omega⟩, i + 1, ?_, rfl, ?_, ⟨by omega, ?_⟩, by omega⟩⟩⟩⟩⟩, fun h2 => ⟨by omega, List.take_of_length_le (by omega)⟩⟩⟩⟩⟩⟩
  · exact absurd (ok_seq hx (i := i) (d := ⟨0, 0, [], .dflt⟩) (by omega)) (by omega)
  · have := ok_alk hx (i := i) (k := j) (by omega) (by omega) (d := ⟨0, 0, [], .dflt⟩)
    simp only [alk] at this
    rw [h5] at this
    simp at this
  · have := ok_alk hx (i := i) (k := j) (by omega) (by omega) (d := ⟨0, 0, [], .dflt⟩)
    simp only [alk] at this
    rw [h6] at this
    simp at this
  · rw [wrap_id (by omega) (by omega)]; rfl
  · intro k hk
    by_cases e : k = j
    · subst e
      simp only [alk]
      rw [h5, h6]; rfl
    · exact hJ k (by omega)
  · rw [wrap_id (by omega) (by omega)]; rfl
  · rw [List.take_of_length_le (l := l.take i) (by simp; omega)]
    exact take_get (by omega)
  · exact good_step (d := ⟨0, 0, [], .dflt⟩) (by omega) (by omega) (fun k hk => hJ k (by omega)) hG

theorem rload2_ok : SpecOK Try.prog 29 load2T.spec := by
  refine Tri.ok (E := rloadEnv) (Env_ok (by decide +kernel) (by simp [cses_ok])) (n := 1000) load2T fun x hx => ?_
  rw [rload2_vc]
  try simp only [br_bad, decide_eq_true_eq, Bool.and_eq_true, List.take_zero, List.nil_append, List.drop_zero, Nat.zero_add, Int.toNat_natCast, Nat.sub_eq, true_and, and_true, exists_const, List.length_nil, Nat.zero_le, Nat.zero_mul, Nat.le_refl, List.length_set, List.take_length, Int.natCast_nonneg, forall_const, implies_true, Int.toNat_zero, Nat.le_eq, Int.le_refl, addN, cutN, loN, hiN, bndB, Option.getD, List.length_cons, List.take_succ_cons, List.length_take, List.length_drop, Option.isNone, Nat.add_zero, Nat.min_self]
  try simp only [br_iff, decide_eq_true_eq, decide_eq_false_iff_not, room47, Bool.not_eq_true', Bool.not_eq_false', gt_iff_lt]
  obtain ⟨size, l⟩ := x
  have hx : ¬ LoadOK size l := hx
  dsimp only
  refine ⟨fun h => loadE1 (.inl h), fun g1 => ⟨fun h => loadE1 (.inr h), fun g2 b => ⟨fun _ => loadE4 g1 g2, fun g3 => ⟨⟨0, rfl, rfl, rfl, by omega, good0⟩, fun i ⟨h1, hG⟩ _ => ?_⟩⟩⟩⟩
  have h2 : i < l.length := by
    rcases Nat.lt_or_ge i l.length with h | h
    · exact h
    · have : i = l.length := by omega
      subst this
      exact absurd ⟨by omega, by omega, by omega, good_all hG⟩ hx
  refine ⟨by omega, by omega, fun _ => loadE4 g1 g2, fun h3 => ⟨⟨0, rfl, by omega, by omega⟩, fun j ⟨hj, hJ⟩ => ⟨fun h4 => ⟨by omega, by omega, fun h5 => ?_, fun h5 => ⟨by omega, by omega, fun h6 => ?_, fun h6 => ⟨j + 1, ?_, ⟨by omega, ?_⟩, by omega⟩⟩⟩, fun h4 => ⟨by omega, l.getD i ⟨0, 0, [], .dflt⟩, rfl, rfl, rfl, rfl, rfl, rfl, rfl, rfl, rfl, rfl, fun _ => ⟨⟨by omega, by omega⟩, i + 1, ?_, rfl, ?_, ⟨by omega, ?_⟩, by omega⟩⟩⟩⟩⟩
  · exact loadE4 g1 g2
  · exact loadE4 g1 g2
  · rw [wrap_id (by omega) (by omega)]; rfl
  · intro k hk
    by_cases e : k = j
    · subst e
      simp only [alk]
      rw [h5, h6]; rfl
    · exact hJ k (by omega)
  · rw [wrap_id (by omega) (by omega)]; rfl
  · rw [List.take_of_length_le (l := l.take i) (by simp; omega)]
    exact take_get (by omega)
  · exact good_step (d := ⟨0, 0, [], .dflt⟩) (by omega) (by omega) (fun k hk => hJ k (by omega)) hG

theorem loads_body (x : LoadsA) : evCall loadsE (ev loadsE 1000) 9 (loadsArgs x) ⟨[], 0, []⟩ (fun _ _ => False) (fun v _ => TrueV v) := by
  rw [loads_vc]
  try simp only [br_bad, decide_eq_true_eq, Bool.and_eq_true, List.take_zero, List.nil_append, List.drop_zero, Nat.zero_add, Int.toNat_natCast, Nat.sub_eq, true_and, and_true, exists_const, List.length_nil, Nat.zero_le, Nat.zero_mul, Nat.le_refl, List.length_set, List.take_length, Int.natCast_nonneg, forall_const, implies_true, Int.toNat_zero, Nat.le_eq, Int.le_refl, addN, cutN, loN, hiN, bndB, Option.getD, List.length_cons, List.take_succ_cons, List.length_take, List.length_drop, Option.isNone, Nat.add_zero, Nat.min_self]
  try simp only [br_iff, decide_eq_true_eq, decide_eq_false_iff_not, room47, Bool.not_eq_true', Bool.not_eq_false', gt_iff_lt]
  obtain ⟨size, l, raw⟩ := x
  dsimp only
  refine ⟨l, rfl, fun r => ⟨fun _ => trivial, fun _ b => ⟨fun _ => trivial, fun _ => ⟨fun g => ?_, fun g1 => ⟨fun g => ?_, fun g2 => ?_⟩⟩⟩⟩⟩
  · have hL : ¬ LoadOK size raw := fun h => by have := h.1; omega
    exact .inr ⟨⟨size, raw⟩, rfl, rfl, hL, .inr ⟨⟨size, raw⟩, rfl, rfl, hL, fun h => absurd h (by simp), fun _ => ⟨fun h => absurd h (by rw [loadE_ne]; simp), fun _ => ⟨fun h => absurd h (by rw [loadE_ne]; simp), fun _ => trivial⟩⟩⟩⟩
  · have hL : ¬ LoadOK size raw := fun h => by have := h.2.1; omega
    exact .inr ⟨⟨size, raw⟩, rfl, rfl, hL, .inr ⟨⟨size, raw⟩, rfl, rfl, hL, fun h => absurd h (by simp), fun _ => ⟨fun h => absurd h (by rw [loadE_ne]; simp), fun _ => ⟨fun h => absurd h (by rw [loadE_ne]; simp), fun _ => trivial⟩⟩⟩⟩
  · by_cases hL : LoadOK size raw
    · refine .inl ⟨⟨size, raw⟩, rfl, rfl, hL, .inl ⟨⟨size, raw⟩, rfl, rfl, hL, ⟨size, raw⟩, rfl, rfl, rfl, by dsimp only; omega, raw, rfl, rfl, ⟨⟨0, []⟩, rfl, rfl, rfl, by simp, ok_first g1 g2⟩, ?_⟩⟩
      rintro ⟨i, L⟩ ⟨h1, hI⟩ b1
      generalize hd : l.getD i ⟨0, 0, 0, [], .dflt⟩ = d
      dsimp only at h1 hI ⊢
      have hI : LoadOK size L := hI
      have hlen := hI.2.2.1
      exact ⟨fun g => ⟨g, fun g4 => ⟨g, g, ⟨size, L, d.name, d.id⟩, rfl, rfl, rfl, rfl, rfl, ⟨by dsimp only; omega, by dsimp only; omega⟩, ⟨i + 1, _⟩, by rw [wrap_id (by omega) (by omega)]; rfl, rfl, rfl, rfl, ⟨by dsimp only; omega, ok_open hI⟩, by dsimp only; omega⟩, fun g4 => ⟨g, fun g5 => ⟨g, g, ⟨size, L, d.id, d.seq⟩, rfl, rfl, rfl, rfl, rfl, ⟨by dsimp only; omega, by dsimp only; omega⟩, ⟨i + 1, _⟩, by rw [wrap_id (by omega) (by omega)]; rfl, rfl, rfl, rfl, ⟨by dsimp only; omega, ok_ask hI⟩, by dsimp only; omega⟩, fun g5 => ⟨g, g, g, ⟨size, L, d.id, d.seq, d.v⟩, rfl, rfl, rfl, rfl, rfl, rfl, rfl, rfl, rfl, rfl, rfl, rfl, by dsimp only; omega, ⟨i + 1, _⟩, by rw [wrap_id (by omega) (by omega)]; rfl, rfl, rfl, rfl, ⟨by dsimp only; omega, ok_done hI⟩, by dsimp only; omega⟩⟩⟩,
        fun g => ⟨⟨size, L⟩, rfl, rfl, rfl, by dsimp only; omega, .inl ⟨⟨size, L⟩, rfl, rfl, hI, ⟨size, L⟩, rfl, rfl, rfl, by dsimp only; omega, ⟨size, L⟩, rfl, rfl, rfl, by dsimp only; omega, L, rfl, rfl, ⟨size, L⟩, rfl, rfl, rfl, by dsimp only; omega, fun _ => hlen⟩⟩⟩
    · refine .inr ⟨⟨size, raw⟩, rfl, rfl, hL, .inr ⟨⟨size, raw⟩, rfl, rfl, hL, fun h => absurd h (by simp), fun _ => ⟨fun h => absurd h (by rw [loadE_ne]; simp), fun _ => ⟨fun h => absurd h (by rw [loadE_ne]; simp), fun _ => ⟨⟨⟨0, []⟩, rfl, rfl, rfl, by simp, ok_first g1 g2⟩, ?_⟩⟩⟩⟩⟩
      rintro ⟨i, L⟩ ⟨h1, hI⟩ b1
      generalize hd : l.getD i ⟨0, 0, 0, [], .dflt⟩ = d
      dsimp only at h1 hI ⊢
      have hI : LoadOK size L := hI
      have hlen := hI.2.2.1
      exact ⟨fun g => ⟨g, fun g4 => ⟨g, g, ⟨size, L, d.name, d.id⟩, rfl, rfl, rfl, rfl, rfl, ⟨by dsimp only; omega, by dsimp only; omega⟩, ⟨i + 1, _⟩, by rw [wrap_id (by omega) (by omega)]; rfl, rfl, rfl, rfl, ⟨by dsimp only; omega, ok_open hI⟩, by dsimp only; omega⟩, fun g4 => ⟨g, fun g5 => ⟨g, g, ⟨size, L, d.id, d.seq⟩, rfl, rfl, rfl, rfl, rfl, ⟨by dsimp only; omega, by dsimp only; omega⟩, ⟨i + 1, _⟩, by rw [wrap_id (by omega) (by omega)]; rfl, rfl, rfl, rfl, ⟨by dsimp only; omega, ok_ask hI⟩, by dsimp only; omega⟩, fun g5 => ⟨g, g, g, ⟨size, L, d.id, d.seq, d.v⟩, rfl, rfl, rfl, rfl, rfl, rfl, rfl, rfl, rfl, rfl, rfl, rfl, by dsimp only; omega, ⟨i + 1, _⟩, by rw [wrap_id (by omega) (by omega)]; rfl, rfl, rfl, rfl, ⟨by dsimp only; omega, ok_done hI⟩, by dsimp only; omega⟩⟩⟩,
        fun g => ⟨⟨size, L⟩, rfl, rfl, rfl, by dsimp only; omega, .inl ⟨⟨size, L⟩, rfl, rfl, hI, ⟨size, L⟩, rfl, rfl, rfl, by dsimp only; omega, ⟨size, L⟩, rfl, rfl, rfl, by dsimp only; omega, L, rfl, rfl, ⟨size, L⟩, rfl, rfl, rfl, by dsimp only; omega, fun _ => hlen⟩⟩⟩

theorem loads_env : EnvOK loadsE := Env_ok (by decide +kernel) (by simp [awake_ok, open_ok, ask_ok, done_ok, room_ok, all_ok, sall_ok, altSpec_ok load1_ok load2_ok, altSpec_ok rload1_ok rload2_ok])
end Go.Proofs.Ytnkhnogdiphboaa.Ses
