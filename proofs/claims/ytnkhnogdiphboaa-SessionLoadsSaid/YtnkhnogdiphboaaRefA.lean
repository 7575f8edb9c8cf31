/- What the functions of the reference for sessions do, on lists. No condition. -/
import Derived.Test.YtnkhnogdiphboaaOneA
import Derived.KernelRfl
set_option linter.unusedSimpArgs false
set_option linter.unusedVariables false

namespace Go.Proofs.Ytnkhnogdiphboaa.Ses
open Go Go.Proofs Go.Proofs.Ytnkhnogdiphboaa.Sx

/-- a loop over two equal slices that are only read -/
noncomputable def sameI : St → LInv := fun s => match getE s.env 0 with
  | .rslice _ c l => { σ := Nat, I := fun i => i ≤ l.length, μ := fun i => l.length - i, env := fun i => [(5, .int .i64 i)], blk := fun _ => [], fresh := 0, drop := [] }
  | _ => LInv.none

noncomputable def sameE : Envr := Env Try.prog cod [] [(4, sameI)]
noncomputable def sameT : Tri := { γ := List ChangeD, n0 := 0, args := fun l => [.rslice false .change l, .rslice false .change l], blks := fun _ => [], pre := fun _ => True, δ := Unit, post := fun _ _ => True, n1 := 0, res := fun _ _ => .bool true, blks' := fun _ _ => [], scal := true }
noncomputable def scomE : Envr := Env Try.prog cod [(52, sameT.spec)] [(4, sameI)]
noncomputable def scomT : Tri := { γ := CommitD, n0 := 0, args := fun c => [.agg (enc .commit c), .agg (enc .commit c)], blks := fun _ => [], pre := fun _ => True, δ := Unit, post := fun _ _ => True, n1 := 0, res := fun _ _ => .bool true, blks' := fun _ _ => [], scal := true }
noncomputable def scomsE : Envr := Env Try.prog cod [(50, scomT.spec)] [(4, sameI)]
noncomputable def scomsT : Tri := { γ := List CommitD, n0 := 0, args := fun l => [.rslice false .commit l, .rslice false .commit l], blks := fun _ => [], pre := fun _ => True, δ := Unit, post := fun _ _ => True, n1 := 0, res := fun _ _ => .bool true, blks' := fun _ _ => [], scal := true }
noncomputable def alikeE : Envr := Env Try.prog cod [(41, scomsT.spec)] []
noncomputable def alikeT : Tri := { γ := VerdictD, n0 := 0, args := fun v => [.agg v.enc, .agg v.enc], blks := fun _ => [], pre := fun _ => True, δ := Unit, post := fun _ _ => True, n1 := 0, res := fun _ _ => .bool true, blks' := fun _ _ => [], scal := true }
noncomputable def ssesE : Envr := Env Try.prog cod [(24, alikeT.spec)] []
noncomputable def ssesT : Tri := { γ := SessionD, n0 := 0, args := fun v => [.agg (enc .session v), .agg (enc .session v)], blks := fun _ => [], pre := fun _ => True, δ := Unit, post := fun _ _ => True, n1 := 0, res := fun _ _ => .bool true, blks' := fun _ _ => [], scal := true }
noncomputable def sallE : Envr := Env Try.prog cod [(27, ssesT.spec)] [(4, sameI)]
noncomputable def sallT : Tri := { γ := List SessionD, n0 := 0, args := fun l => [.rslice false .session l, .rslice false .session l], blks := fun _ => [], pre := fun _ => True, δ := Unit, post := fun _ _ => True, n1 := 0, res := fun _ _ => .bool true, blks' := fun _ _ => [], scal := true }

noncomputable def ccomT : Tri := { γ := CommitD, n0 := 0, args := fun c => [.agg (enc .commit c)], blks := fun _ => [], pre := fun _ => True, δ := Unit, post := fun _ _ => True, n1 := 0, res := fun c _ => .agg (enc .commit c), blks' := fun _ _ => [], scal := false }
noncomputable def ccomsI : St → LInv := fun s => match getE s.env 0 with
  | .rslice _ .commit l => { σ := Nat, I := fun i => i ≤ l.length, μ := fun i => l.length - i, env := fun i => [(4, .int .i64 i), (3, .mslice .commit s.m.next 0 i)], blk := fun i => [(s.m.next, .rows .commit (l.take i))], fresh := 1, drop := [] }
  | _ => LInv.none
noncomputable def ccomsE : Envr := Env Try.prog cod [(51, ccomT.spec)] [(3, ccomsI)]
noncomputable def ccomsT : Tri := { γ := List CommitD, n0 := 0, args := fun l => [.rslice false .commit l], blks := fun _ => [], pre := fun _ => True, δ := Unit, post := fun _ _ => True, n1 := 0, res := fun l _ => .rslice false .commit l, blks' := fun _ _ => [], scal := false }
noncomputable def cverE : Envr := Env Try.prog cod [(49, ccomsT.spec)] []
noncomputable def cverT : Tri := { γ := VerdictD, n0 := 0, args := fun v => [.agg v.enc], blks := fun _ => [], pre := fun _ => True, δ := Unit, post := fun _ _ => True, n1 := 0, res := fun v _ => .agg v.enc, blks' := fun _ _ => [], scal := false }
noncomputable def csesE : Envr := Env Try.prog cod [(40, cverT.spec)] []
noncomputable def csesT : Tri := { γ := SessionD, n0 := 0, args := fun v => [.agg (enc .session v)], blks := fun _ => [], pre := fun _ => True, δ := Unit, post := fun _ _ => True, n1 := 0, res := fun v _ => .agg (enc .session v), blks' := fun _ _ => [], scal := false }

/-- a loop that looks for a number, or a name, in the reference's table: the index's slot; what is looked for -/
noncomputable def seekI (ix key : Nat) : St → LInv := fun s => match getE s.env 0, getE s.env key with
  | .mptr n _, k => match s.m.blks.get n with
    | some (.cells [_, .mslice _ q _ _]) => match s.m.blks.get q with
      | some (.rows .session l) =>
        { σ := Nat, I := fun i => i ≤ l.length ∧ ∀ (j : Nat) x, j < i → l[j]? = some x → (match k with | .int _ n => idIs n x | .str n => nameIs n x | _ => false) = false,
          μ := fun i => l.length - i, env := fun i => [(ix, .int .i64 i)], blk := fun _ => [], fresh := 0, drop := [] }
      | _ => LInv.none
    | _ => LInv.none
  | _, _ => LInv.none
noncomputable def rfindE : Envr := Env Try.prog cod [] [(2, seekI 5 1)]
noncomputable def rfindT : Tri := { γ := TabI, n0 := 2, args := fun x => [.mptr 0 0, .int .i64 x.n], blks := fun x => tabB x.size x.l 1, pre := fun x => True, δ := Unit, post := fun _ _ => True, n1 := 0, res := fun x _ => .int .i64 (idxF (idIs x.n) x.l), blks' := fun x _ => tabB x.size x.l 1, scal := false }
noncomputable def lastT : Tri := { γ := TabI, n0 := 2, args := fun x => [.mptr 0 0, .int .i64 x.n], blks := fun x => tabB x.size x.l 1, pre := fun x => decide (0 ≤ x.n ∧ x.n < x.l.length) = true ∧ decide (x.l.length ≤ 1024) = true, δ := Unit, post := fun _ _ => True, n1 := 1, res := fun x _ => .tuple [], blks' := fun x _ => tabB x.size (usedL x.l x.n) 2, scal := false }
noncomputable def ropenE : Envr := Env Try.prog cod [(26, rfindT.spec), (39, lastT.spec)] [(2, seekI 7 1)]
noncomputable def ropenT : Tri := { γ := OpenA, n0 := 2, args := fun x => [.mptr 0 0, .str x.name, .int .i64 x.id], blks := fun x => tabB x.size x.l 1, pre := fun x => decide (0 < x.size) = true ∧ decide (x.l.length ≤ 1024) = true ∧ decide ((x.l.length : Int) ≤ x.size) = true, δ := Unit, post := fun _ _ => True, n1 := 1, res := fun x _ => .int .i64 (openL x).1, blks' := fun x _ => tabB x.size (openL x).2 2, scal := false }
noncomputable def raskE : Envr := Env Try.prog cod [(26, rfindT.spec), (39, lastT.spec), (40, cverT.spec)] []
noncomputable def raskT : Tri := { γ := AskA, n0 := 2, args := fun x => [.mptr 0 0, .int .i64 x.id, .int .i64 x.seq], blks := fun x => tabB x.size x.l 1, pre := fun x => decide (x.l.length ≤ 1024) = true, δ := Unit, post := fun _ _ => True, n1 := 1, res := fun x _ => .tuple [.agg (askL x).1.1.enc, .bool (askL x).1.2], blks' := fun x _ => tabB x.size (askL x).2 2, scal := false }
noncomputable def rdoneT : Tri := { γ := DoneA, n0 := 2, args := fun x => [.mptr 0 0, .int .i64 x.id, .int .i64 x.seq, .agg x.v.enc], blks := fun x => tabB x.size x.l 1, pre := fun x => True, δ := Unit, post := fun _ _ => True, n1 := 1, res := fun x _ => .bool (doneL x).1, blks' := fun x _ => tabB x.size (doneL x).2 2, scal := false }
end Go.Proofs.Ytnkhnogdiphboaa.Ses

namespace Go.Proofs.Ytnkhnogdiphboaa.Ses
open Go Go.Proofs Go.Proofs.Ytnkhnogdiphboaa.Sx
set_option maxRecDepth 100000

theorem same_vc (x : sameT.γ) : evCall sameE (ev sameE 1000) 52 (sameT.args x) ⟨sameT.blks x, sameT.n0, []⟩ (fun _ _ => False) (sameT.ends x) = (
((@LE.le Nat _ (@HMul.hMul _ _ _ _ (@List.length ChangeD x) (32 : Nat)) room47) →
 ((@LE.le Nat _ (@HMul.hMul _ _ _ _ (@List.length ChangeD x) (32 : Nat)) room47) →
 (br (@bne Int _ (Nat.cast (@List.length ChangeD x) : Int) (Nat.cast (@List.length ChangeD x) : Int))
 (∃ x1 : Unit,
 ((@Eq Bool Bool.false Bool.true) ∧
 True))
 ((∃ x2 : Nat,
 ((@Eq Int (0 : Int) (Nat.cast x2 : Int)) ∧
 (@Nat.le x2 (@List.length ChangeD x)))) ∧
 (∀ x3 : Nat,
 ((@Nat.le x3 (@List.length ChangeD x)) →
 ((@LE.le Nat _ (@HMul.hMul _ _ _ _ (@List.length ChangeD x) (32 : Nat)) room47) →
 (br (@Decidable.decide (@LT.lt Int _ (Nat.cast x3 : Int) (Nat.cast (@List.length ChangeD x) : Int)) _)
 (br (@Decidable.decide ((@LE.le Int _ (0 : Int) (Nat.cast x3 : Int)) ∧
 (@LT.lt Int _ (Nat.cast x3 : Int) (Nat.cast (@List.length ChangeD x) : Int))) _)
 (br (@Decidable.decide ((@LE.le Int _ (0 : Int) (Nat.cast x3 : Int)) ∧
 (@LT.lt Int _ (Nat.cast x3 : Int) (Nat.cast (@List.length ChangeD x) : Int))) _)
 (br (@Bool.not (@Bool.and (@BEq.beq Bs _ (@ChangeD.path (@List.getD ChangeD x (@Int.toNat (Nat.cast x3 : Int)) (@ChangeD.mk (@List.nil UInt8) Bool.false (0 : Int)))) (@ChangeD.path (@List.getD ChangeD x (@Int.toNat (Nat.cast x3 : Int)) (@ChangeD.mk (@List.nil UInt8) Bool.false (0 : Int))))) (@Bool.and (@BEq.beq Bool _ (@ChangeD.gone (@List.getD ChangeD x (@Int.toNat (Nat.cast x3 : Int)) (@ChangeD.mk (@List.nil UInt8) Bool.false (0 : Int)))) (@ChangeD.gone (@List.getD ChangeD x (@Int.toNat (Nat.cast x3 : Int)) (@ChangeD.mk (@List.nil UInt8) Bool.false (0 : Int))))) (@Bool.and (@BEq.beq Int _ (@ChangeD.digest (@List.getD ChangeD x (@Int.toNat (Nat.cast x3 : Int)) (@ChangeD.mk (@List.nil UInt8) Bool.false (0 : Int)))) (@ChangeD.digest (@List.getD ChangeD x (@Int.toNat (Nat.cast x3 : Int)) (@ChangeD.mk (@List.nil UInt8) Bool.false (0 : Int))))) Bool.true))))
 (∃ x4 : Unit,
 ((@Eq Bool Bool.false Bool.true) ∧
 True))
 (∃ x5 : Nat,
 ((@Eq Int (@Go.IntKind.wrap Go.IntKind.i64 (@HAdd.hAdd Int Int Int _ (Nat.cast x3 : Int) (1 : Int))) (Nat.cast x5 : Int)) ∧
 ((@Nat.le x5 (@List.length ChangeD x)) ∧
 (@LT.lt Nat _ (@Nat.sub (@List.length ChangeD x) x5) (@Nat.sub (@List.length ChangeD x) x3))))))
 (Bad "check" "ref.go:118"))
 (Bad "check" "ref.go:118"))
 (∃ x6 : Unit,
 ((@Eq Bool Bool.true Bool.true) ∧
 True))))))))))) := by kernel_rfl

theorem scom_vc (x : scomT.γ) : evCall scomE (ev scomE 1000) 50 (scomT.args x) ⟨scomT.blks x, scomT.n0, []⟩ (fun _ _ => False) (scomT.ends x) = (
(br (@BEq.beq Int _ (@CommitD.rev x) (@CommitD.rev x))
 (br (@BEq.beq Int _ (@CommitD.base x) (@CommitD.base x))
 (br (@BEq.beq Bs _ (@CommitD.ref x) (@CommitD.ref x))
 (∃ x1 : (@List ChangeD),
 ((@Eq (@List ChangeD) (@CommitD.changes x) x1) ∧
 ((@Eq (@List ChangeD) (@CommitD.changes x) x1) ∧
 (True ∧
 (∀ x2 : Unit,
 (True →
 (∃ x3 : Unit,
 ((@Eq Bool Bool.true Bool.true) ∧
 True))))))))
 (∃ x4 : Unit,
 ((@Eq Bool Bool.false Bool.true) ∧
 True)))
 (∃ x5 : Unit,
 ((@Eq Bool Bool.false Bool.true) ∧
 True)))
 (∃ x6 : Unit,
 ((@Eq Bool Bool.false Bool.true) ∧
 True)))) := by kernel_rfl

theorem scoms_vc (x : scomsT.γ) : evCall scomsE (ev scomsE 1000) 41 (scomsT.args x) ⟨scomsT.blks x, scomsT.n0, []⟩ (fun _ _ => False) (scomsT.ends x) = (
((@LE.le Nat _ (@HMul.hMul _ _ _ _ (@List.length CommitD x) (56 : Nat)) room47) →
 ((@LE.le Nat _ (@HMul.hMul _ _ _ _ (@List.length CommitD x) (56 : Nat)) room47) →
 (br (@bne Int _ (Nat.cast (@List.length CommitD x) : Int) (Nat.cast (@List.length CommitD x) : Int))
 (∃ x1 : Unit,
 ((@Eq Bool Bool.false Bool.true) ∧
 True))
 ((∃ x2 : Nat,
 ((@Eq Int (0 : Int) (Nat.cast x2 : Int)) ∧
 (@Nat.le x2 (@List.length CommitD x)))) ∧
 (∀ x3 : Nat,
 ((@Nat.le x3 (@List.length CommitD x)) →
 ((@LE.le Nat _ (@HMul.hMul _ _ _ _ (@List.length CommitD x) (56 : Nat)) room47) →
 (br (@Decidable.decide (@LT.lt Int _ (Nat.cast x3 : Int) (Nat.cast (@List.length CommitD x) : Int)) _)
 (br (@Decidable.decide ((@LE.le Int _ (0 : Int) (Nat.cast x3 : Int)) ∧
 (@LT.lt Int _ (Nat.cast x3 : Int) (Nat.cast (@List.length CommitD x) : Int))) _)
 (br (@Decidable.decide ((@LE.le Int _ (0 : Int) (Nat.cast x3 : Int)) ∧
 (@LT.lt Int _ (Nat.cast x3 : Int) (Nat.cast (@List.length CommitD x) : Int))) _)
 (∃ x4 : CommitD,
 ((@Eq Int (@CommitD.rev (@List.getD CommitD x (@Int.toNat (Nat.cast x3 : Int)) (@CommitD.mk (0 : Int) (0 : Int) (@List.nil UInt8) (@List.nil ChangeD)))) (@CommitD.rev x4)) ∧
 ((@Eq Int (@CommitD.base (@List.getD CommitD x (@Int.toNat (Nat.cast x3 : Int)) (@CommitD.mk (0 : Int) (0 : Int) (@List.nil UInt8) (@List.nil ChangeD)))) (@CommitD.base x4)) ∧
 ((@Eq Bs (@CommitD.ref (@List.getD CommitD x (@Int.toNat (Nat.cast x3 : Int)) (@CommitD.mk (0 : Int) (0 : Int) (@List.nil UInt8) (@List.nil ChangeD)))) (@CommitD.ref x4)) ∧
 ((@Eq (@List ChangeD) (@CommitD.changes (@List.getD CommitD x (@Int.toNat (Nat.cast x3 : Int)) (@CommitD.mk (0 : Int) (0 : Int) (@List.nil UInt8) (@List.nil ChangeD)))) (@CommitD.changes x4)) ∧
 ((@Eq Int (@CommitD.rev (@List.getD CommitD x (@Int.toNat (Nat.cast x3 : Int)) (@CommitD.mk (0 : Int) (0 : Int) (@List.nil UInt8) (@List.nil ChangeD)))) (@CommitD.rev x4)) ∧
 ((@Eq Int (@CommitD.base (@List.getD CommitD x (@Int.toNat (Nat.cast x3 : Int)) (@CommitD.mk (0 : Int) (0 : Int) (@List.nil UInt8) (@List.nil ChangeD)))) (@CommitD.base x4)) ∧
 ((@Eq Bs (@CommitD.ref (@List.getD CommitD x (@Int.toNat (Nat.cast x3 : Int)) (@CommitD.mk (0 : Int) (0 : Int) (@List.nil UInt8) (@List.nil ChangeD)))) (@CommitD.ref x4)) ∧
 ((@Eq (@List ChangeD) (@CommitD.changes (@List.getD CommitD x (@Int.toNat (Nat.cast x3 : Int)) (@CommitD.mk (0 : Int) (0 : Int) (@List.nil UInt8) (@List.nil ChangeD)))) (@CommitD.changes x4)) ∧
 (True ∧
 (∀ x5 : Unit,
 (True →
 (∃ x6 : Nat,
 ((@Eq Int (@Go.IntKind.wrap Go.IntKind.i64 (@HAdd.hAdd Int Int Int _ (Nat.cast x3 : Int) (1 : Int))) (Nat.cast x6 : Int)) ∧
 ((@Nat.le x6 (@List.length CommitD x)) ∧
 (@LT.lt Nat _ (@Nat.sub (@List.length CommitD x) x6) (@Nat.sub (@List.length CommitD x) x3)))))))))))))))))
 (Bad "check" "ref.go:164"))
 (Bad "check" "ref.go:164"))
 (∃ x7 : Unit,
 ((@Eq Bool Bool.true Bool.true) ∧
 True))))))))))) := by kernel_rfl

theorem alike_vc (x : alikeT.γ) : evCall alikeE (ev alikeE 1000) 24 (alikeT.args x) ⟨alikeT.blks x, alikeT.n0, []⟩ (fun _ _ => False) (alikeT.ends x) = (
(br (@BEq.beq Int _ (@VerdictD.code x) (@VerdictD.code x))
 (br (@BEq.beq Int _ (@VerdictD.session x) (@VerdictD.session x))
 (br (@BEq.beq Int _ (@VerdictD.rev x) (@VerdictD.rev x))
 (br (@BEq.beq Bs _ (@VerdictD.path x) (@VerdictD.path x))
 (br (@BEq.beq Int _ (@VerdictD.digest x) (@VerdictD.digest x))
 (br (@BEq.beq Int _ (@VerdictD.member x) (@VerdictD.member x))
 (∃ x1 : (@List CommitD),
 ((@Eq (@List CommitD) (@VerdictD.commits x) x1) ∧
 ((@Eq (@List CommitD) (@VerdictD.commits x) x1) ∧
 (True ∧
 (∀ x2 : Unit,
 (True →
 (∃ x3 : Unit,
 ((@Eq Bool Bool.true Bool.true) ∧
 True))))))))
 (∃ x4 : Unit,
 ((@Eq Bool Bool.false Bool.true) ∧
 True)))
 (∃ x5 : Unit,
 ((@Eq Bool Bool.false Bool.true) ∧
 True)))
 (∃ x6 : Unit,
 ((@Eq Bool Bool.false Bool.true) ∧
 True)))
 (∃ x7 : Unit,
 ((@Eq Bool Bool.false Bool.true) ∧
 True)))
 (∃ x8 : Unit,
 ((@Eq Bool Bool.false Bool.true) ∧
 True)))
 (∃ x9 : Unit,
 ((@Eq Bool Bool.false Bool.true) ∧
 True)))) := by kernel_rfl

theorem sses_vc (x : ssesT.γ) : evCall ssesE (ev ssesE 1000) 27 (ssesT.args x) ⟨ssesT.blks x, ssesT.n0, []⟩ (fun _ _ => False) (ssesT.ends x) = (
(br (@BEq.beq Int _ (@SessionD.id x) (@SessionD.id x))
 (br (@BEq.beq Int _ (@SessionD.seq x) (@SessionD.seq x))
 (br (@BEq.beq Bs _ (@SessionD.name x) (@SessionD.name x))
 (∃ x1 : VerdictD,
 ((@Eq Int (@VerdictD.code (@SessionD.last x)) (@VerdictD.code x1)) ∧
 ((@Eq Int (@VerdictD.session (@SessionD.last x)) (@VerdictD.session x1)) ∧
 ((@Eq Int (@VerdictD.rev (@SessionD.last x)) (@VerdictD.rev x1)) ∧
 ((@Eq Bs (@VerdictD.path (@SessionD.last x)) (@VerdictD.path x1)) ∧
 ((@Eq Int (@VerdictD.digest (@SessionD.last x)) (@VerdictD.digest x1)) ∧
 ((@Eq (@List CommitD) (@VerdictD.commits (@SessionD.last x)) (@VerdictD.commits x1)) ∧
 ((@Eq Int (@VerdictD.member (@SessionD.last x)) (@VerdictD.member x1)) ∧
 ((@Eq Int (@VerdictD.code (@SessionD.last x)) (@VerdictD.code x1)) ∧
 ((@Eq Int (@VerdictD.session (@SessionD.last x)) (@VerdictD.session x1)) ∧
 ((@Eq Int (@VerdictD.rev (@SessionD.last x)) (@VerdictD.rev x1)) ∧
 ((@Eq Bs (@VerdictD.path (@SessionD.last x)) (@VerdictD.path x1)) ∧
 ((@Eq Int (@VerdictD.digest (@SessionD.last x)) (@VerdictD.digest x1)) ∧
 ((@Eq (@List CommitD) (@VerdictD.commits (@SessionD.last x)) (@VerdictD.commits x1)) ∧
 ((@Eq Int (@VerdictD.member (@SessionD.last x)) (@VerdictD.member x1)) ∧
 (True ∧
 (∀ x2 : Unit,
 (True →
 (∃ x3 : Unit,
 ((@Eq Bool Bool.true Bool.true) ∧
 True))))))))))))))))))))
 (∃ x4 : Unit,
 ((@Eq Bool Bool.false Bool.true) ∧
 True)))
 (∃ x5 : Unit,
 ((@Eq Bool Bool.false Bool.true) ∧
 True)))
 (∃ x6 : Unit,
 ((@Eq Bool Bool.false Bool.true) ∧
 True)))) := by kernel_rfl

theorem sall_vc (x : sallT.γ) : evCall sallE (ev sallE 1000) 22 (sallT.args x) ⟨sallT.blks x, sallT.n0, []⟩ (fun _ _ => False) (sallT.ends x) = (
((@LE.le Nat _ (@HMul.hMul _ _ _ _ (@List.length SessionD x) (112 : Nat)) room47) →
 ((@LE.le Nat _ (@HMul.hMul _ _ _ _ (@List.length SessionD x) (112 : Nat)) room47) →
 (br (@bne Int _ (Nat.cast (@List.length SessionD x) : Int) (Nat.cast (@List.length SessionD x) : Int))
 (∃ x1 : Unit,
 ((@Eq Bool Bool.false Bool.true) ∧
 True))
 ((∃ x2 : Nat,
 ((@Eq Int (0 : Int) (Nat.cast x2 : Int)) ∧
 (@Nat.le x2 (@List.length SessionD x)))) ∧
 (∀ x3 : Nat,
 ((@Nat.le x3 (@List.length SessionD x)) →
 ((@LE.le Nat _ (@HMul.hMul _ _ _ _ (@List.length SessionD x) (112 : Nat)) room47) →
 (br (@Decidable.decide (@LT.lt Int _ (Nat.cast x3 : Int) (Nat.cast (@List.length SessionD x) : Int)) _)
 (br (@Decidable.decide ((@LE.le Int _ (0 : Int) (Nat.cast x3 : Int)) ∧
 (@LT.lt Int _ (Nat.cast x3 : Int) (Nat.cast (@List.length SessionD x) : Int))) _)
 (br (@Decidable.decide ((@LE.le Int _ (0 : Int) (Nat.cast x3 : Int)) ∧
 (@LT.lt Int _ (Nat.cast x3 : Int) (Nat.cast (@List.length SessionD x) : Int))) _)
 (∃ x4 : SessionD,
 ((@Eq Int (@SessionD.id (@List.getD SessionD x (@Int.toNat (Nat.cast x3 : Int)) (@SessionD.mk (0 : Int) (0 : Int) (@List.nil UInt8) VerdictD.dflt))) (@SessionD.id x4)) ∧
 ((@Eq Int (@SessionD.seq (@List.getD SessionD x (@Int.toNat (Nat.cast x3 : Int)) (@SessionD.mk (0 : Int) (0 : Int) (@List.nil UInt8) VerdictD.dflt))) (@SessionD.seq x4)) ∧
 ((@Eq Bs (@SessionD.name (@List.getD SessionD x (@Int.toNat (Nat.cast x3 : Int)) (@SessionD.mk (0 : Int) (0 : Int) (@List.nil UInt8) VerdictD.dflt))) (@SessionD.name x4)) ∧
 ((@Eq Int (@VerdictD.code (@SessionD.last (@List.getD SessionD x (@Int.toNat (Nat.cast x3 : Int)) (@SessionD.mk (0 : Int) (0 : Int) (@List.nil UInt8) VerdictD.dflt)))) (@VerdictD.code (@SessionD.last x4))) ∧
 ((@Eq Int (@VerdictD.session (@SessionD.last (@List.getD SessionD x (@Int.toNat (Nat.cast x3 : Int)) (@SessionD.mk (0 : Int) (0 : Int) (@List.nil UInt8) VerdictD.dflt)))) (@VerdictD.session (@SessionD.last x4))) ∧
 ((@Eq Int (@VerdictD.rev (@SessionD.last (@List.getD SessionD x (@Int.toNat (Nat.cast x3 : Int)) (@SessionD.mk (0 : Int) (0 : Int) (@List.nil UInt8) VerdictD.dflt)))) (@VerdictD.rev (@SessionD.last x4))) ∧
 ((@Eq Bs (@VerdictD.path (@SessionD.last (@List.getD SessionD x (@Int.toNat (Nat.cast x3 : Int)) (@SessionD.mk (0 : Int) (0 : Int) (@List.nil UInt8) VerdictD.dflt)))) (@VerdictD.path (@SessionD.last x4))) ∧
 ((@Eq Int (@VerdictD.digest (@SessionD.last (@List.getD SessionD x (@Int.toNat (Nat.cast x3 : Int)) (@SessionD.mk (0 : Int) (0 : Int) (@List.nil UInt8) VerdictD.dflt)))) (@VerdictD.digest (@SessionD.last x4))) ∧
 ((@Eq (@List CommitD) (@VerdictD.commits (@SessionD.last (@List.getD SessionD x (@Int.toNat (Nat.cast x3 : Int)) (@SessionD.mk (0 : Int) (0 : Int) (@List.nil UInt8) VerdictD.dflt)))) (@VerdictD.commits (@SessionD.last x4))) ∧
 ((@Eq Int (@VerdictD.member (@SessionD.last (@List.getD SessionD x (@Int.toNat (Nat.cast x3 : Int)) (@SessionD.mk (0 : Int) (0 : Int) (@List.nil UInt8) VerdictD.dflt)))) (@VerdictD.member (@SessionD.last x4))) ∧
 ((@Eq Int (@SessionD.id (@List.getD SessionD x (@Int.toNat (Nat.cast x3 : Int)) (@SessionD.mk (0 : Int) (0 : Int) (@List.nil UInt8) VerdictD.dflt))) (@SessionD.id x4)) ∧
 ((@Eq Int (@SessionD.seq (@List.getD SessionD x (@Int.toNat (Nat.cast x3 : Int)) (@SessionD.mk (0 : Int) (0 : Int) (@List.nil UInt8) VerdictD.dflt))) (@SessionD.seq x4)) ∧
 ((@Eq Bs (@SessionD.name (@List.getD SessionD x (@Int.toNat (Nat.cast x3 : Int)) (@SessionD.mk (0 : Int) (0 : Int) (@List.nil UInt8) VerdictD.dflt))) (@SessionD.name x4)) ∧
 ((@Eq Int (@VerdictD.code (@SessionD.last (@List.getD SessionD x (@Int.toNat (Nat.cast x3 : Int)) (@SessionD.mk (0 : Int) (0 : Int) (@List.nil UInt8) VerdictD.dflt)))) (@VerdictD.code (@SessionD.last x4))) ∧
 ((@Eq Int (@VerdictD.session (@SessionD.last (@List.getD SessionD x (@Int.toNat (Nat.cast x3 : Int)) (@SessionD.mk (0 : Int) (0 : Int) (@List.nil UInt8) VerdictD.dflt)))) (@VerdictD.session (@SessionD.last x4))) ∧
 ((@Eq Int (@VerdictD.rev (@SessionD.last (@List.getD SessionD x (@Int.toNat (Nat.cast x3 : Int)) (@SessionD.mk (0 : Int) (0 : Int) (@List.nil UInt8) VerdictD.dflt)))) (@VerdictD.rev (@SessionD.last x4))) ∧
 ((@Eq Bs (@VerdictD.path (@SessionD.last (@List.getD SessionD x (@Int.toNat (Nat.cast x3 : Int)) (@SessionD.mk (0 : Int) (0 : Int) (@List.nil UInt8) VerdictD.dflt)))) (@VerdictD.path (@SessionD.last x4))) ∧
 ((@Eq Int (@VerdictD.digest (@SessionD.last (@List.getD SessionD x (@Int.toNat (Nat.cast x3 : Int)) (@SessionD.mk (0 : Int) (0 : Int) (@List.nil UInt8) VerdictD.dflt)))) (@VerdictD.digest (@SessionD.last x4))) ∧
 ((@Eq (@List CommitD) (@VerdictD.commits (@SessionD.last (@List.getD SessionD x (@Int.toNat (Nat.cast x3 : Int)) (@SessionD.mk (0 : Int) (0 : Int) (@List.nil UInt8) VerdictD.dflt)))) (@VerdictD.commits (@SessionD.last x4))) ∧
 ((@Eq Int (@VerdictD.member (@SessionD.last (@List.getD SessionD x (@Int.toNat (Nat.cast x3 : Int)) (@SessionD.mk (0 : Int) (0 : Int) (@List.nil UInt8) VerdictD.dflt)))) (@VerdictD.member (@SessionD.last x4))) ∧
 (True ∧
 (∀ x5 : Unit,
 (True →
 (∃ x6 : Nat,
 ((@Eq Int (@Go.IntKind.wrap Go.IntKind.i64 (@HAdd.hAdd Int Int Int _ (Nat.cast x3 : Int) (1 : Int))) (Nat.cast x6 : Int)) ∧
 ((@Nat.le x6 (@List.length SessionD x)) ∧
 (@LT.lt Nat _ (@Nat.sub (@List.length SessionD x) x6) (@Nat.sub (@List.length SessionD x) x3)))))))))))))))))))))))))))))
 (Bad "check" "ref.go:27"))
 (Bad "check" "ref.go:27"))
 (∃ x7 : Unit,
 ((@Eq Bool Bool.true Bool.true) ∧
 True))))))))))) := by kernel_rfl

theorem ccom_vc (x : ccomT.γ) : evCall noE (ev noE 1000) 51 (ccomT.args x) ⟨ccomT.blks x, ccomT.n0, []⟩ (fun _ _ => False) (ccomT.ends x) = (
(((@Nat.le (@HMul.hMul _ _ _ _ (0 : Nat) (32 : Nat)) room47) ∧
 (@Nat.le (@HMul.hMul _ _ _ _ (@List.length ChangeD (@CommitD.changes x)) (32 : Nat)) room47)) →
 (br (@Bool.and (@Bool.and Bool.true (@Decidable.decide (@LE.le Nat _ (@HAdd.hAdd _ _ _ _ (0 : Nat) (0 : Nat)) (@List.length ChangeD (@List.nil ChangeD))) _)) (@Decidable.decide (@LE.le Nat _ (@HMul.hMul _ _ _ _ (@HAdd.hAdd _ _ _ _ (0 : Nat) (@List.length ChangeD (@CommitD.changes x))) (32 : Nat)) room47) _))
 (∃ x1 : Unit,
 ((@Eq Int (@CommitD.rev x) (@CommitD.rev x)) ∧
 ((@Eq Int (@CommitD.base x) (@CommitD.base x)) ∧
 ((@Eq Bs (@CommitD.ref x) (@CommitD.ref x)) ∧
 ((@LE.le Nat _ (@HAdd.hAdd _ _ _ _ (0 : Nat) (@HAdd.hAdd _ _ _ _ (0 : Nat) (@List.length ChangeD (@CommitD.changes x)))) (@List.length ChangeD (@HAppend.hAppend (@List ChangeD) (@List ChangeD) (@List ChangeD) _ (@List.take ChangeD (0 : Nat) (@List.drop ChangeD (0 : Nat) (@List.nil ChangeD))) (@CommitD.changes x)))) ∧
 ((@Eq (@List ChangeD) (@List.take ChangeD (@HAdd.hAdd _ _ _ _ (0 : Nat) (@List.length ChangeD (@CommitD.changes x))) (@List.drop ChangeD (0 : Nat) (@HAppend.hAppend (@List ChangeD) (@List ChangeD) (@List ChangeD) _ (@List.take ChangeD (0 : Nat) (@List.drop ChangeD (0 : Nat) (@List.nil ChangeD))) (@CommitD.changes x)))) (@CommitD.changes x)) ∧
 True))))))
 (Bad "check" "ref.go:140")))) := by kernel_rfl

theorem ccoms_vc (x : ccomsT.γ) : evCall ccomsE (ev ccomsE 1000) 49 (ccomsT.args x) ⟨ccomsT.blks x, ccomsT.n0, []⟩ (fun _ _ => False) (ccomsT.ends x) = (
((∃ x1 : Nat,
 ((@Eq Int (0 : Int) (Nat.cast x1 : Int)) ∧
 ((@Eq Nat (0 : Nat) x1) ∧
 ((@Eq (@List CommitD) (@List.nil CommitD) (@List.take CommitD x1 x)) ∧
 (@Nat.le x1 (@List.length CommitD x)))))) ∧
 (∀ x2 : Nat,
 ((@Nat.le x2 (@List.length CommitD x)) →
 ((@LE.le Nat _ (@HMul.hMul _ _ _ _ (@List.length CommitD x) (56 : Nat)) room47) →
 (br (@Decidable.decide (@LT.lt Int _ (Nat.cast x2 : Int) (Nat.cast (@List.length CommitD x) : Int)) _)
 (br (@Decidable.decide ((@LE.le Int _ (0 : Int) (Nat.cast x2 : Int)) ∧
 (@LT.lt Int _ (Nat.cast x2 : Int) (Nat.cast (@List.length CommitD x) : Int))) _)
 (∃ x3 : CommitD,
 ((@Eq Int (@CommitD.rev (@List.getD CommitD x (@Int.toNat (Nat.cast x2 : Int)) (@CommitD.mk (0 : Int) (0 : Int) (@List.nil UInt8) (@List.nil ChangeD)))) (@CommitD.rev x3)) ∧
 ((@Eq Int (@CommitD.base (@List.getD CommitD x (@Int.toNat (Nat.cast x2 : Int)) (@CommitD.mk (0 : Int) (0 : Int) (@List.nil UInt8) (@List.nil ChangeD)))) (@CommitD.base x3)) ∧
 ((@Eq Bs (@CommitD.ref (@List.getD CommitD x (@Int.toNat (Nat.cast x2 : Int)) (@CommitD.mk (0 : Int) (0 : Int) (@List.nil UInt8) (@List.nil ChangeD)))) (@CommitD.ref x3)) ∧
 ((@Eq (@List ChangeD) (@CommitD.changes (@List.getD CommitD x (@Int.toNat (Nat.cast x2 : Int)) (@CommitD.mk (0 : Int) (0 : Int) (@List.nil UInt8) (@List.nil ChangeD)))) (@CommitD.changes x3)) ∧
 (True ∧
 (∀ x4 : Unit,
 (True →
 (((@Nat.le (@HMul.hMul _ _ _ _ x2 (56 : Nat)) room47) ∧
 (@Nat.le (@HMul.hMul _ _ _ _ (1 : Nat) (56 : Nat)) room47)) →
 (br (@Bool.and (@Bool.and (@Decidable.decide (@LE.le Nat _ (@HAdd.hAdd _ _ _ _ (0 : Nat) (1 : Nat)) (@List.length CommitD (@List.cons CommitD (@CommitD.mk (@CommitD.rev x3) (@CommitD.base x3) (@CommitD.ref x3) (@CommitD.changes x3)) (@List.nil CommitD)))) _) (@Decidable.decide (@LE.le Nat _ (@HAdd.hAdd _ _ _ _ (0 : Nat) x2) (@List.length CommitD (@List.take CommitD x2 x))) _)) (@Decidable.decide (@LE.le Nat _ (@HMul.hMul _ _ _ _ (@HAdd.hAdd _ _ _ _ x2 (@List.length CommitD (@List.take CommitD (1 : Nat) (@List.drop CommitD (0 : Nat) (@List.cons CommitD (@CommitD.mk (@CommitD.rev x3) (@CommitD.base x3) (@CommitD.ref x3) (@CommitD.changes x3)) (@List.nil CommitD)))))) (56 : Nat)) room47) _))
 (∃ x5 : Nat,
 ((@Eq Int (@Go.IntKind.wrap Go.IntKind.i64 (@HAdd.hAdd Int Int Int _ (Nat.cast x2 : Int) (1 : Int))) (Nat.cast x5 : Int)) ∧
 ((@Eq Nat (0 : Nat) (0 : Nat)) ∧
 ((@Eq Nat (@HAdd.hAdd _ _ _ _ x2 (@List.length CommitD (@List.take CommitD (1 : Nat) (@List.drop CommitD (0 : Nat) (@List.cons CommitD (@CommitD.mk (@CommitD.rev x3) (@CommitD.base x3) (@CommitD.ref x3) (@CommitD.changes x3)) (@List.nil CommitD)))))) x5) ∧
 ((@Eq (@List CommitD) (@HAppend.hAppend (@List CommitD) (@List CommitD) (@List CommitD) _ (@List.take CommitD x2 (@List.drop CommitD (0 : Nat) (@List.take CommitD x2 x))) (@List.take CommitD (1 : Nat) (@List.drop CommitD (0 : Nat) (@List.cons CommitD (@CommitD.mk (@CommitD.rev x3) (@CommitD.base x3) (@CommitD.ref x3) (@CommitD.changes x3)) (@List.nil CommitD))))) (@List.take CommitD x5 x)) ∧
 ((@Nat.le x5 (@List.length CommitD x)) ∧
 (@LT.lt Nat _ (@Nat.sub (@List.length CommitD x) x5) (@Nat.sub (@List.length CommitD x) x2))))))))
 (Bad "check" "ref.go:148")))))))))))
 (Bad "check" "ref.go:148"))
 (∃ x6 : Unit,
 ((@LE.le Nat _ (@HAdd.hAdd _ _ _ _ (0 : Nat) x2) (@List.length CommitD (@List.take CommitD x2 x))) ∧
 ((@Eq (@List CommitD) (@List.take CommitD x2 (@List.drop CommitD (0 : Nat) (@List.take CommitD x2 x))) x) ∧
 True))))))))) := by kernel_rfl

theorem cver_vc (x : cverT.γ) : evCall cverE (ev cverE 1000) 40 (cverT.args x) ⟨cverT.blks x, cverT.n0, []⟩ (fun _ _ => False) (cverT.ends x) = (
(∃ x1 : (@List CommitD),
 ((@Eq (@List CommitD) (@VerdictD.commits x) x1) ∧
 (True ∧
 (∀ x2 : Unit,
 (True →
 (∃ x3 : Unit,
 ((@Eq Int (@VerdictD.code x) (@VerdictD.code x)) ∧
 ((@Eq Int (@VerdictD.session x) (@VerdictD.session x)) ∧
 ((@Eq Int (@VerdictD.rev x) (@VerdictD.rev x)) ∧
 ((@Eq Bs (@VerdictD.path x) (@VerdictD.path x)) ∧
 ((@Eq Int (@VerdictD.digest x) (@VerdictD.digest x)) ∧
 ((@Eq (@List CommitD) x1 (@VerdictD.commits x)) ∧
 ((@Eq Int (@VerdictD.member x) (@VerdictD.member x)) ∧
 True)))))))))))))) := by kernel_rfl

theorem cses_vc (x : csesT.γ) : evCall csesE (ev csesE 1000) 44 (csesT.args x) ⟨csesT.blks x, csesT.n0, []⟩ (fun _ _ => False) (csesT.ends x) = (
(∃ x1 : VerdictD,
 ((@Eq Int (@VerdictD.code (@SessionD.last x)) (@VerdictD.code x1)) ∧
 ((@Eq Int (@VerdictD.session (@SessionD.last x)) (@VerdictD.session x1)) ∧
 ((@Eq Int (@VerdictD.rev (@SessionD.last x)) (@VerdictD.rev x1)) ∧
 ((@Eq Bs (@VerdictD.path (@SessionD.last x)) (@VerdictD.path x1)) ∧
 ((@Eq Int (@VerdictD.digest (@SessionD.last x)) (@VerdictD.digest x1)) ∧
 ((@Eq (@List CommitD) (@VerdictD.commits (@SessionD.last x)) (@VerdictD.commits x1)) ∧
 ((@Eq Int (@VerdictD.member (@SessionD.last x)) (@VerdictD.member x1)) ∧
 (True ∧
 (∀ x2 : Unit,
 (True →
 (∃ x3 : Unit,
 ((@Eq Int (@SessionD.id x) (@SessionD.id x)) ∧
 ((@Eq Int (@SessionD.seq x) (@SessionD.seq x)) ∧
 ((@Eq Bs (@SessionD.name x) (@SessionD.name x)) ∧
 ((@Eq Int (@VerdictD.code x1) (@VerdictD.code (@SessionD.last x))) ∧
 ((@Eq Int (@VerdictD.session x1) (@VerdictD.session (@SessionD.last x))) ∧
 ((@Eq Int (@VerdictD.rev x1) (@VerdictD.rev (@SessionD.last x))) ∧
 ((@Eq Bs (@VerdictD.path x1) (@VerdictD.path (@SessionD.last x))) ∧
 ((@Eq Int (@VerdictD.digest x1) (@VerdictD.digest (@SessionD.last x))) ∧
 ((@Eq (@List CommitD) (@VerdictD.commits x1) (@VerdictD.commits (@SessionD.last x))) ∧
 ((@Eq Int (@VerdictD.member x1) (@VerdictD.member (@SessionD.last x))) ∧
 True))))))))))))))))))))))) := by kernel_rfl

theorem rfind_vc (x : rfindT.γ) : evCall rfindE (ev rfindE 1000) 26 (rfindT.args x) ⟨rfindT.blks x, rfindT.n0, []⟩ (fun _ _ => False) (rfindT.ends x) = (
((∃ x1 : Nat,
 ((@Eq Int (0 : Int) (Nat.cast x1 : Int)) ∧
 ((@LE.le Nat _ x1 (@List.length SessionD (@TabI.l x))) ∧
 (∀ x2 : Nat,
 (∀ x3 : SessionD,
 ((@LT.lt Nat _ x2 x1) →
 ((@Eq (@Option SessionD) (@GetElem?.getElem? (@List SessionD) Nat SessionD (fun x4 : (@List SessionD) => (fun x5 : Nat => (@LT.lt Nat _ x5 (@List.length SessionD x4)))) _ (@TabI.l x) x2) (@Option.some SessionD x3)) →
 (@Eq Bool (@idIs (@TabI.n x) x3) Bool.false)))))))) ∧
 (∀ x6 : Nat,
 (((@LE.le Nat _ x6 (@List.length SessionD (@TabI.l x))) ∧
 (∀ x7 : Nat,
 (∀ x8 : SessionD,
 ((@LT.lt Nat _ x7 x6) →
 ((@Eq (@Option SessionD) (@GetElem?.getElem? (@List SessionD) Nat SessionD (fun x9 : (@List SessionD) => (fun x10 : Nat => (@LT.lt Nat _ x10 (@List.length SessionD x9)))) _ (@TabI.l x) x7) (@Option.some SessionD x8)) →
 (@Eq Bool (@idIs (@TabI.n x) x8) Bool.false)))))) →
 ((@LE.le Nat _ (@HMul.hMul _ _ _ _ (@List.length SessionD (@TabI.l x)) (112 : Nat)) room47) →
 (br (@Decidable.decide (@LT.lt Int _ (Nat.cast x6 : Int) (Nat.cast (@List.length SessionD (@TabI.l x)) : Int)) _)
 (br (@Decidable.decide ((@LE.le Int _ (0 : Int) (Nat.cast x6 : Int)) ∧
 (@LT.lt Int _ (Nat.cast x6 : Int) (Nat.cast (@List.length SessionD (@TabI.l x)) : Int))) _)
 (br (@Decidable.decide (@LT.lt Nat _ (@HAdd.hAdd _ _ _ _ (0 : Nat) (@Int.toNat (Nat.cast x6 : Int))) (@List.length SessionD (@TabI.l x))) _)
 (br (@BEq.beq Int _ (@SessionD.id (@List.getD SessionD (@TabI.l x) (@HAdd.hAdd _ _ _ _ (0 : Nat) (@Int.toNat (Nat.cast x6 : Int))) (@SessionD.mk (0 : Int) (0 : Int) (@List.nil UInt8) VerdictD.dflt))) (@TabI.n x))
 (∃ x11 : Unit,
 ((@Eq Int (Nat.cast x6 : Int) (@idxF (@idIs (@TabI.n x)) (@TabI.l x))) ∧
 ((@Eq Int (@TabI.size x) (@TabI.size x)) ∧
 ((@Eq Nat (0 : Nat) (0 : Nat)) ∧
 ((@Eq Nat (@List.length SessionD (@TabI.l x)) (@List.length SessionD (@TabI.l x))) ∧
 ((@Eq (@List SessionD) (@TabI.l x) (@TabI.l x)) ∧
 True))))))
 (∃ x12 : Nat,
 ((@Eq Int (@Go.IntKind.wrap Go.IntKind.i64 (@HAdd.hAdd Int Int Int _ (Nat.cast x6 : Int) (1 : Int))) (Nat.cast x12 : Int)) ∧
 (((@LE.le Nat _ x12 (@List.length SessionD (@TabI.l x))) ∧
 (∀ x13 : Nat,
 (∀ x14 : SessionD,
 ((@LT.lt Nat _ x13 x12) →
 ((@Eq (@Option SessionD) (@GetElem?.getElem? (@List SessionD) Nat SessionD (fun x15 : (@List SessionD) => (fun x16 : Nat => (@LT.lt Nat _ x16 (@List.length SessionD x15)))) _ (@TabI.l x) x13) (@Option.some SessionD x14)) →
 (@Eq Bool (@idIs (@TabI.n x) x14) Bool.false)))))) ∧
 (@LT.lt Nat _ (@Nat.sub (@List.length SessionD (@TabI.l x)) x12) (@Nat.sub (@List.length SessionD (@TabI.l x)) x6))))))
 (Bad "check" "ref.go:68"))
 (Bad "check" "ref.go:68"))
 (∃ x17 : Unit,
 ((@Eq Int (@Neg.neg Int _ (1 : Int)) (@idxF (@idIs (@TabI.n x)) (@TabI.l x))) ∧
 ((@Eq Int (@TabI.size x) (@TabI.size x)) ∧
 ((@Eq Nat (0 : Nat) (0 : Nat)) ∧
 ((@Eq Nat (@List.length SessionD (@TabI.l x)) (@List.length SessionD (@TabI.l x))) ∧
 ((@Eq (@List SessionD) (@TabI.l x) (@TabI.l x)) ∧
 True)))))))))))) := by kernel_rfl

theorem last_vc (x : lastT.γ) : evCall noE (ev noE 1000) 39 (lastT.args x) ⟨lastT.blks x, lastT.n0, []⟩ (fun _ _ => False) (lastT.ends x) = (
(br (@Decidable.decide ((@LE.le Int _ (0 : Int) (@TabI.n x)) ∧
 (@LT.lt Int _ (@TabI.n x) (Nat.cast (@List.length SessionD (@TabI.l x)) : Int))) _)
 (br (@Decidable.decide (@LT.lt Nat _ (@HAdd.hAdd _ _ _ _ (0 : Nat) (@Int.toNat (@TabI.n x))) (@List.length SessionD (@TabI.l x))) _)
 (br (@bndB (@List.length SessionD (@TabI.l x)) (@Option.none Int) (@Option.some Int (@TabI.n x)) (@Option.none Int))
 (((@Nat.le (@HMul.hMul _ _ _ _ (0 : Nat) (112 : Nat)) room47) ∧
 (@Nat.le (@HMul.hMul _ _ _ _ (@cutN (@List.length SessionD (@TabI.l x)) (@Option.none Int) (@Option.some Int (@TabI.n x))) (112 : Nat)) room47)) →
 (br (@Bool.and (@Bool.and (@Decidable.decide (@LE.le Nat _ (@HAdd.hAdd _ _ _ _ (@addN (0 : Nat) (@Option.none Int)) (@cutN (@List.length SessionD (@TabI.l x)) (@Option.none Int) (@Option.some Int (@TabI.n x)))) (@List.length SessionD (@TabI.l x))) _) (@Decidable.decide (@LE.le Nat _ (@HAdd.hAdd _ _ _ _ (0 : Nat) (0 : Nat)) (@List.length SessionD (@List.nil SessionD))) _)) (@Decidable.decide (@LE.le Nat _ (@HMul.hMul _ _ _ _ (@HAdd.hAdd _ _ _ _ (0 : Nat) (@List.length SessionD (@List.take SessionD (@cutN (@List.length SessionD (@TabI.l x)) (@Option.none Int) (@Option.some Int (@TabI.n x))) (@List.drop SessionD (@addN (0 : Nat) (@Option.none Int)) (@TabI.l x))))) (112 : Nat)) room47) _))
 (br (@bndB (@List.length SessionD (@TabI.l x)) (@Option.some Int (@Go.IntKind.wrap Go.IntKind.i64 (@HAdd.hAdd Int Int Int _ (@TabI.n x) (1 : Int)))) (@Option.none Int) (@Option.none Int))
 (((@Nat.le (@HMul.hMul _ _ _ _ (@HAdd.hAdd _ _ _ _ (0 : Nat) (@List.length SessionD (@List.take SessionD (@cutN (@List.length SessionD (@TabI.l x)) (@Option.none Int) (@Option.some Int (@TabI.n x))) (@List.drop SessionD (@addN (0 : Nat) (@Option.none Int)) (@TabI.l x))))) (112 : Nat)) room47) ∧
 (@Nat.le (@HMul.hMul _ _ _ _ (@cutN (@List.length SessionD (@TabI.l x)) (@Option.some Int (@Go.IntKind.wrap Go.IntKind.i64 (@HAdd.hAdd Int Int Int _ (@TabI.n x) (1 : Int)))) (@Option.none Int)) (112 : Nat)) room47)) →
 (br (@Bool.and (@Bool.and (@Decidable.decide (@LE.le Nat _ (@HAdd.hAdd _ _ _ _ (@addN (0 : Nat) (@Option.some Int (@Go.IntKind.wrap Go.IntKind.i64 (@HAdd.hAdd Int Int Int _ (@TabI.n x) (1 : Int))))) (@cutN (@List.length SessionD (@TabI.l x)) (@Option.some Int (@Go.IntKind.wrap Go.IntKind.i64 (@HAdd.hAdd Int Int Int _ (@TabI.n x) (1 : Int)))) (@Option.none Int))) (@List.length SessionD (@TabI.l x))) _) (@Decidable.decide (@LE.le Nat _ (@HAdd.hAdd _ _ _ _ (0 : Nat) (@HAdd.hAdd _ _ _ _ (0 : Nat) (@List.length SessionD (@List.take SessionD (@cutN (@List.length SessionD (@TabI.l x)) (@Option.none Int) (@Option.some Int (@TabI.n x))) (@List.drop SessionD (@addN (0 : Nat) (@Option.none Int)) (@TabI.l x)))))) (@List.length SessionD (@HAppend.hAppend (@List SessionD) (@List SessionD) (@List SessionD) _ (@List.take SessionD (0 : Nat) (@List.drop SessionD (0 : Nat) (@List.nil SessionD))) (@List.take SessionD (@cutN (@List.length SessionD (@TabI.l x)) (@Option.none Int) (@Option.some Int (@TabI.n x))) (@List.drop SessionD (@addN (0 : Nat) (@Option.none Int)) (@TabI.l x)))))) _)) (@Decidable.decide (@LE.le Nat _ (@HMul.hMul _ _ _ _ (@HAdd.hAdd _ _ _ _ (@HAdd.hAdd _ _ _ _ (0 : Nat) (@List.length SessionD (@List.take SessionD (@cutN (@List.length SessionD (@TabI.l x)) (@Option.none Int) (@Option.some Int (@TabI.n x))) (@List.drop SessionD (@addN (0 : Nat) (@Option.none Int)) (@TabI.l x))))) (@List.length SessionD (@List.take SessionD (@cutN (@List.length SessionD (@TabI.l x)) (@Option.some Int (@Go.IntKind.wrap Go.IntKind.i64 (@HAdd.hAdd Int Int Int _ (@TabI.n x) (1 : Int)))) (@Option.none Int)) (@List.drop SessionD (@addN (0 : Nat) (@Option.some Int (@Go.IntKind.wrap Go.IntKind.i64 (@HAdd.hAdd Int Int Int _ (@TabI.n x) (1 : Int))))) (@TabI.l x))))) (112 : Nat)) room47) _))
 (((@Nat.le (@HMul.hMul _ _ _ _ (@HAdd.hAdd _ _ _ _ (@HAdd.hAdd _ _ _ _ (0 : Nat) (@List.length SessionD (@List.take SessionD (@cutN (@List.length SessionD (@TabI.l x)) (@Option.none Int) (@Option.some Int (@TabI.n x))) (@List.drop SessionD (@addN (0 : Nat) (@Option.none Int)) (@TabI.l x))))) (@List.length SessionD (@List.take SessionD (@cutN (@List.length SessionD (@TabI.l x)) (@Option.some Int (@Go.IntKind.wrap Go.IntKind.i64 (@HAdd.hAdd Int Int Int _ (@TabI.n x) (1 : Int)))) (@Option.none Int)) (@List.drop SessionD (@addN (0 : Nat) (@Option.some Int (@Go.IntKind.wrap Go.IntKind.i64 (@HAdd.hAdd Int Int Int _ (@TabI.n x) (1 : Int))))) (@TabI.l x))))) (112 : Nat)) room47) ∧
 (@Nat.le (@HMul.hMul _ _ _ _ (1 : Nat) (112 : Nat)) room47)) →
 (br (@Bool.and (@Bool.and (@Decidable.decide (@LE.le Nat _ (@HAdd.hAdd _ _ _ _ (0 : Nat) (1 : Nat)) (@List.length SessionD (@List.cons SessionD (@SessionD.mk (@SessionD.id (@List.getD SessionD (@TabI.l x) (@HAdd.hAdd _ _ _ _ (0 : Nat) (@Int.toNat (@TabI.n x))) (@SessionD.mk (0 : Int) (0 : Int) (@List.nil UInt8) VerdictD.dflt))) (@SessionD.seq (@List.getD SessionD (@TabI.l x) (@HAdd.hAdd _ _ _ _ (0 : Nat) (@Int.toNat (@TabI.n x))) (@SessionD.mk (0 : Int) (0 : Int) (@List.nil UInt8) VerdictD.dflt))) (@SessionD.name (@List.getD SessionD (@TabI.l x) (@HAdd.hAdd _ _ _ _ (0 : Nat) (@Int.toNat (@TabI.n x))) (@SessionD.mk (0 : Int) (0 : Int) (@List.nil UInt8) VerdictD.dflt))) (@VerdictD.mk (@VerdictD.code (@SessionD.last (@List.getD SessionD (@TabI.l x) (@HAdd.hAdd _ _ _ _ (0 : Nat) (@Int.toNat (@TabI.n x))) (@SessionD.mk (0 : Int) (0 : Int) (@List.nil UInt8) VerdictD.dflt)))) (@VerdictD.session (@SessionD.last (@List.getD SessionD (@TabI.l x) (@HAdd.hAdd _ _ _ _ (0 : Nat) (@Int.toNat (@TabI.n x))) (@SessionD.mk (0 : Int) (0 : Int) (@List.nil UInt8) VerdictD.dflt)))) (@VerdictD.rev (@SessionD.last (@List.getD SessionD (@TabI.l x) (@HAdd.hAdd _ _ _ _ (0 : Nat) (@Int.toNat (@TabI.n x))) (@SessionD.mk (0 : Int) (0 : Int) (@List.nil UInt8) VerdictD.dflt)))) (@VerdictD.path (@SessionD.last (@List.getD SessionD (@TabI.l x) (@HAdd.hAdd _ _ _ _ (0 : Nat) (@Int.toNat (@TabI.n x))) (@SessionD.mk (0 : Int) (0 : Int) (@List.nil UInt8) VerdictD.dflt)))) (@VerdictD.digest (@SessionD.last (@List.getD SessionD (@TabI.l x) (@HAdd.hAdd _ _ _ _ (0 : Nat) (@Int.toNat (@TabI.n x))) (@SessionD.mk (0 : Int) (0 : Int) (@List.nil UInt8) VerdictD.dflt)))) (@VerdictD.commits (@SessionD.last (@List.getD SessionD (@TabI.l x) (@HAdd.hAdd _ _ _ _ (0 : Nat) (@Int.toNat (@TabI.n x))) (@SessionD.mk (0 : Int) (0 : Int) (@List.nil UInt8) VerdictD.dflt)))) (@VerdictD.member (@SessionD.last (@List.getD SessionD (@TabI.l x) (@HAdd.hAdd _ _ _ _ (0 : Nat) (@Int.toNat (@TabI.n x))) (@SessionD.mk (0 : Int) (0 : Int) (@List.nil UInt8) VerdictD.dflt)))))) (@List.nil SessionD)))) _) (@Decidable.decide (@LE.le Nat _ (@HAdd.hAdd _ _ _ _ (0 : Nat) (@HAdd.hAdd _ _ _ _ (@HAdd.hAdd _ _ _ _ (0 : Nat) (@List.length SessionD (@List.take SessionD (@cutN (@List.length SessionD (@TabI.l x)) (@Option.none Int) (@Option.some Int (@TabI.n x))) (@List.drop SessionD (@addN (0 : Nat) (@Option.none Int)) (@TabI.l x))))) (@List.length SessionD (@List.take SessionD (@cutN (@List.length SessionD (@TabI.l x)) (@Option.some Int (@Go.IntKind.wrap Go.IntKind.i64 (@HAdd.hAdd Int Int Int _ (@TabI.n x) (1 : Int)))) (@Option.none Int)) (@List.drop SessionD (@addN (0 : Nat) (@Option.some Int (@Go.IntKind.wrap Go.IntKind.i64 (@HAdd.hAdd Int Int Int _ (@TabI.n x) (1 : Int))))) (@TabI.l x)))))) (@List.length SessionD (@HAppend.hAppend (@List SessionD) (@List SessionD) (@List SessionD) _ (@List.take SessionD (@HAdd.hAdd _ _ _ _ (0 : Nat) (@List.length SessionD (@List.take SessionD (@cutN (@List.length SessionD (@TabI.l x)) (@Option.none Int) (@Option.some Int (@TabI.n x))) (@List.drop SessionD (@addN (0 : Nat) (@Option.none Int)) (@TabI.l x))))) (@List.drop SessionD (0 : Nat) (@HAppend.hAppend (@List SessionD) (@List SessionD) (@List SessionD) _ (@List.take SessionD (0 : Nat) (@List.drop SessionD (0 : Nat) (@List.nil SessionD))) (@List.take SessionD (@cutN (@List.length SessionD (@TabI.l x)) (@Option.none Int) (@Option.some Int (@TabI.n x))) (@List.drop SessionD (@addN (0 : Nat) (@Option.none Int)) (@TabI.l x)))))) (@List.take SessionD (@cutN (@List.length SessionD (@TabI.l x)) (@Option.some Int (@Go.IntKind.wrap Go.IntKind.i64 (@HAdd.hAdd Int Int Int _ (@TabI.n x) (1 : Int)))) (@Option.none Int)) (@List.drop SessionD (@addN (0 : Nat) (@Option.some Int (@Go.IntKind.wrap Go.IntKind.i64 (@HAdd.hAdd Int Int Int _ (@TabI.n x) (1 : Int))))) (@TabI.l x)))))) _)) (@Decidable.decide (@LE.le Nat _ (@HMul.hMul _ _ _ _ (@HAdd.hAdd _ _ _ _ (@HAdd.hAdd _ _ _ _ (@HAdd.hAdd _ _ _ _ (0 : Nat) (@List.length SessionD (@List.take SessionD (@cutN (@List.length SessionD (@TabI.l x)) (@Option.none Int) (@Option.some Int (@TabI.n x))) (@List.drop SessionD (@addN (0 : Nat) (@Option.none Int)) (@TabI.l x))))) (@List.length SessionD (@List.take SessionD (@cutN (@List.length SessionD (@TabI.l x)) (@Option.some Int (@Go.IntKind.wrap Go.IntKind.i64 (@HAdd.hAdd Int Int Int _ (@TabI.n x) (1 : Int)))) (@Option.none Int)) (@List.drop SessionD (@addN (0 : Nat) (@Option.some Int (@Go.IntKind.wrap Go.IntKind.i64 (@HAdd.hAdd Int Int Int _ (@TabI.n x) (1 : Int))))) (@TabI.l x))))) (@List.length SessionD (@List.take SessionD (1 : Nat) (@List.drop SessionD (0 : Nat) (@List.cons SessionD (@SessionD.mk (@SessionD.id (@List.getD SessionD (@TabI.l x) (@HAdd.hAdd _ _ _ _ (0 : Nat) (@Int.toNat (@TabI.n x))) (@SessionD.mk (0 : Int) (0 : Int) (@List.nil UInt8) VerdictD.dflt))) (@SessionD.seq (@List.getD SessionD (@TabI.l x) (@HAdd.hAdd _ _ _ _ (0 : Nat) (@Int.toNat (@TabI.n x))) (@SessionD.mk (0 : Int) (0 : Int) (@List.nil UInt8) VerdictD.dflt))) (@SessionD.name (@List.getD SessionD (@TabI.l x) (@HAdd.hAdd _ _ _ _ (0 : Nat) (@Int.toNat (@TabI.n x))) (@SessionD.mk (0 : Int) (0 : Int) (@List.nil UInt8) VerdictD.dflt))) (@VerdictD.mk (@VerdictD.code (@SessionD.last (@List.getD SessionD (@TabI.l x) (@HAdd.hAdd _ _ _ _ (0 : Nat) (@Int.toNat (@TabI.n x))) (@SessionD.mk (0 : Int) (0 : Int) (@List.nil UInt8) VerdictD.dflt)))) (@VerdictD.session (@SessionD.last (@List.getD SessionD (@TabI.l x) (@HAdd.hAdd _ _ _ _ (0 : Nat) (@Int.toNat (@TabI.n x))) (@SessionD.mk (0 : Int) (0 : Int) (@List.nil UInt8) VerdictD.dflt)))) (@VerdictD.rev (@SessionD.last (@List.getD SessionD (@TabI.l x) (@HAdd.hAdd _ _ _ _ (0 : Nat) (@Int.toNat (@TabI.n x))) (@SessionD.mk (0 : Int) (0 : Int) (@List.nil UInt8) VerdictD.dflt)))) (@VerdictD.path (@SessionD.last (@List.getD SessionD (@TabI.l x) (@HAdd.hAdd _ _ _ _ (0 : Nat) (@Int.toNat (@TabI.n x))) (@SessionD.mk (0 : Int) (0 : Int) (@List.nil UInt8) VerdictD.dflt)))) (@VerdictD.digest (@SessionD.last (@List.getD SessionD (@TabI.l x) (@HAdd.hAdd _ _ _ _ (0 : Nat) (@Int.toNat (@TabI.n x))) (@SessionD.mk (0 : Int) (0 : Int) (@List.nil UInt8) VerdictD.dflt)))) (@VerdictD.commits (@SessionD.last (@List.getD SessionD (@TabI.l x) (@HAdd.hAdd _ _ _ _ (0 : Nat) (@Int.toNat (@TabI.n x))) (@SessionD.mk (0 : Int) (0 : Int) (@List.nil UInt8) VerdictD.dflt)))) (@VerdictD.member (@SessionD.last (@List.getD SessionD (@TabI.l x) (@HAdd.hAdd _ _ _ _ (0 : Nat) (@Int.toNat (@TabI.n x))) (@SessionD.mk (0 : Int) (0 : Int) (@List.nil UInt8) VerdictD.dflt)))))) (@List.nil SessionD)))))) (112 : Nat)) room47) _))
 (∃ x1 : Unit,
 ((@Eq Int (@TabI.size x) (@TabI.size x)) ∧
 ((@Eq Nat (0 : Nat) (0 : Nat)) ∧
 ((@Eq Nat (@HAdd.hAdd _ _ _ _ (@HAdd.hAdd _ _ _ _ (@HAdd.hAdd _ _ _ _ (0 : Nat) (@List.length SessionD (@List.take SessionD (@cutN (@List.length SessionD (@TabI.l x)) (@Option.none Int) (@Option.some Int (@TabI.n x))) (@List.drop SessionD (@addN (0 : Nat) (@Option.none Int)) (@TabI.l x))))) (@List.length SessionD (@List.take SessionD (@cutN (@List.length SessionD (@TabI.l x)) (@Option.some Int (@Go.IntKind.wrap Go.IntKind.i64 (@HAdd.hAdd Int Int Int _ (@TabI.n x) (1 : Int)))) (@Option.none Int)) (@List.drop SessionD (@addN (0 : Nat) (@Option.some Int (@Go.IntKind.wrap Go.IntKind.i64 (@HAdd.hAdd Int Int Int _ (@TabI.n x) (1 : Int))))) (@TabI.l x))))) (@List.length SessionD (@List.take SessionD (1 : Nat) (@List.drop SessionD (0 : Nat) (@List.cons SessionD (@SessionD.mk (@SessionD.id (@List.getD SessionD (@TabI.l x) (@HAdd.hAdd _ _ _ _ (0 : Nat) (@Int.toNat (@TabI.n x))) (@SessionD.mk (0 : Int) (0 : Int) (@List.nil UInt8) VerdictD.dflt))) (@SessionD.seq (@List.getD SessionD (@TabI.l x) (@HAdd.hAdd _ _ _ _ (0 : Nat) (@Int.toNat (@TabI.n x))) (@SessionD.mk (0 : Int) (0 : Int) (@List.nil UInt8) VerdictD.dflt))) (@SessionD.name (@List.getD SessionD (@TabI.l x) (@HAdd.hAdd _ _ _ _ (0 : Nat) (@Int.toNat (@TabI.n x))) (@SessionD.mk (0 : Int) (0 : Int) (@List.nil UInt8) VerdictD.dflt))) (@VerdictD.mk (@VerdictD.code (@SessionD.last (@List.getD SessionD (@TabI.l x) (@HAdd.hAdd _ _ _ _ (0 : Nat) (@Int.toNat (@TabI.n x))) (@SessionD.mk (0 : Int) (0 : Int) (@List.nil UInt8) VerdictD.dflt)))) (@VerdictD.session (@SessionD.last (@List.getD SessionD (@TabI.l x) (@HAdd.hAdd _ _ _ _ (0 : Nat) (@Int.toNat (@TabI.n x))) (@SessionD.mk (0 : Int) (0 : Int) (@List.nil UInt8) VerdictD.dflt)))) (@VerdictD.rev (@SessionD.last (@List.getD SessionD (@TabI.l x) (@HAdd.hAdd _ _ _ _ (0 : Nat) (@Int.toNat (@TabI.n x))) (@SessionD.mk (0 : Int) (0 : Int) (@List.nil UInt8) VerdictD.dflt)))) (@VerdictD.path (@SessionD.last (@List.getD SessionD (@TabI.l x) (@HAdd.hAdd _ _ _ _ (0 : Nat) (@Int.toNat (@TabI.n x))) (@SessionD.mk (0 : Int) (0 : Int) (@List.nil UInt8) VerdictD.dflt)))) (@VerdictD.digest (@SessionD.last (@List.getD SessionD (@TabI.l x) (@HAdd.hAdd _ _ _ _ (0 : Nat) (@Int.toNat (@TabI.n x))) (@SessionD.mk (0 : Int) (0 : Int) (@List.nil UInt8) VerdictD.dflt)))) (@VerdictD.commits (@SessionD.last (@List.getD SessionD (@TabI.l x) (@HAdd.hAdd _ _ _ _ (0 : Nat) (@Int.toNat (@TabI.n x))) (@SessionD.mk (0 : Int) (0 : Int) (@List.nil UInt8) VerdictD.dflt)))) (@VerdictD.member (@SessionD.last (@List.getD SessionD (@TabI.l x) (@HAdd.hAdd _ _ _ _ (0 : Nat) (@Int.toNat (@TabI.n x))) (@SessionD.mk (0 : Int) (0 : Int) (@List.nil UInt8) VerdictD.dflt)))))) (@List.nil SessionD)))))) (@List.length SessionD (@usedL (@TabI.l x) (@TabI.n x)))) ∧
 ((@Eq (@List SessionD) (@HAppend.hAppend (@List SessionD) (@List SessionD) (@List SessionD) _ (@List.take SessionD (@HAdd.hAdd _ _ _ _ (@HAdd.hAdd _ _ _ _ (0 : Nat) (@List.length SessionD (@List.take SessionD (@cutN (@List.length SessionD (@TabI.l x)) (@Option.none Int) (@Option.some Int (@TabI.n x))) (@List.drop SessionD (@addN (0 : Nat) (@Option.none Int)) (@TabI.l x))))) (@List.length SessionD (@List.take SessionD (@cutN (@List.length SessionD (@TabI.l x)) (@Option.some Int (@Go.IntKind.wrap Go.IntKind.i64 (@HAdd.hAdd Int Int Int _ (@TabI.n x) (1 : Int)))) (@Option.none Int)) (@List.drop SessionD (@addN (0 : Nat) (@Option.some Int (@Go.IntKind.wrap Go.IntKind.i64 (@HAdd.hAdd Int Int Int _ (@TabI.n x) (1 : Int))))) (@TabI.l x))))) (@List.drop SessionD (0 : Nat) (@HAppend.hAppend (@List SessionD) (@List SessionD) (@List SessionD) _ (@List.take SessionD (@HAdd.hAdd _ _ _ _ (0 : Nat) (@List.length SessionD (@List.take SessionD (@cutN (@List.length SessionD (@TabI.l x)) (@Option.none Int) (@Option.some Int (@TabI.n x))) (@List.drop SessionD (@addN (0 : Nat) (@Option.none Int)) (@TabI.l x))))) (@List.drop SessionD (0 : Nat) (@HAppend.hAppend (@List SessionD) (@List SessionD) (@List SessionD) _ (@List.take SessionD (0 : Nat) (@List.drop SessionD (0 : Nat) (@List.nil SessionD))) (@List.take SessionD (@cutN (@List.length SessionD (@TabI.l x)) (@Option.none Int) (@Option.some Int (@TabI.n x))) (@List.drop SessionD (@addN (0 : Nat) (@Option.none Int)) (@TabI.l x)))))) (@List.take SessionD (@cutN (@List.length SessionD (@TabI.l x)) (@Option.some Int (@Go.IntKind.wrap Go.IntKind.i64 (@HAdd.hAdd Int Int Int _ (@TabI.n x) (1 : Int)))) (@Option.none Int)) (@List.drop SessionD (@addN (0 : Nat) (@Option.some Int (@Go.IntKind.wrap Go.IntKind.i64 (@HAdd.hAdd Int Int Int _ (@TabI.n x) (1 : Int))))) (@TabI.l x)))))) (@List.take SessionD (1 : Nat) (@List.drop SessionD (0 : Nat) (@List.cons SessionD (@SessionD.mk (@SessionD.id (@List.getD SessionD (@TabI.l x) (@HAdd.hAdd _ _ _ _ (0 : Nat) (@Int.toNat (@TabI.n x))) (@SessionD.mk (0 : Int) (0 : Int) (@List.nil UInt8) VerdictD.dflt))) (@SessionD.seq (@List.getD SessionD (@TabI.l x) (@HAdd.hAdd _ _ _ _ (0 : Nat) (@Int.toNat (@TabI.n x))) (@SessionD.mk (0 : Int) (0 : Int) (@List.nil UInt8) VerdictD.dflt))) (@SessionD.name (@List.getD SessionD (@TabI.l x) (@HAdd.hAdd _ _ _ _ (0 : Nat) (@Int.toNat (@TabI.n x))) (@SessionD.mk (0 : Int) (0 : Int) (@List.nil UInt8) VerdictD.dflt))) (@VerdictD.mk (@VerdictD.code (@SessionD.last (@List.getD SessionD (@TabI.l x) (@HAdd.hAdd _ _ _ _ (0 : Nat) (@Int.toNat (@TabI.n x))) (@SessionD.mk (0 : Int) (0 : Int) (@List.nil UInt8) VerdictD.dflt)))) (@VerdictD.session (@SessionD.last (@List.getD SessionD (@TabI.l x) (@HAdd.hAdd _ _ _ _ (0 : Nat) (@Int.toNat (@TabI.n x))) (@SessionD.mk (0 : Int) (0 : Int) (@List.nil UInt8) VerdictD.dflt)))) (@VerdictD.rev (@SessionD.last (@List.getD SessionD (@TabI.l x) (@HAdd.hAdd _ _ _ _ (0 : Nat) (@Int.toNat (@TabI.n x))) (@SessionD.mk (0 : Int) (0 : Int) (@List.nil UInt8) VerdictD.dflt)))) (@VerdictD.path (@SessionD.last (@List.getD SessionD (@TabI.l x) (@HAdd.hAdd _ _ _ _ (0 : Nat) (@Int.toNat (@TabI.n x))) (@SessionD.mk (0 : Int) (0 : Int) (@List.nil UInt8) VerdictD.dflt)))) (@VerdictD.digest (@SessionD.last (@List.getD SessionD (@TabI.l x) (@HAdd.hAdd _ _ _ _ (0 : Nat) (@Int.toNat (@TabI.n x))) (@SessionD.mk (0 : Int) (0 : Int) (@List.nil UInt8) VerdictD.dflt)))) (@VerdictD.commits (@SessionD.last (@List.getD SessionD (@TabI.l x) (@HAdd.hAdd _ _ _ _ (0 : Nat) (@Int.toNat (@TabI.n x))) (@SessionD.mk (0 : Int) (0 : Int) (@List.nil UInt8) VerdictD.dflt)))) (@VerdictD.member (@SessionD.last (@List.getD SessionD (@TabI.l x) (@HAdd.hAdd _ _ _ _ (0 : Nat) (@Int.toNat (@TabI.n x))) (@SessionD.mk (0 : Int) (0 : Int) (@List.nil UInt8) VerdictD.dflt)))))) (@List.nil SessionD))))) (@usedL (@TabI.l x) (@TabI.n x))) ∧
 True)))))
 (Bad "check" "ref.go:62")))
 (Bad "check" "ref.go:61")))
 (Bad "check" "ref.go:61"))
 (Bad "check" "ref.go:60")))
 (Bad "check" "ref.go:60"))
 (Bad "check" "ref.go:59"))
 (Bad "check" "ref.go:59"))) := by kernel_rfl

theorem ropen_vc (x : ropenT.γ) : evCall ropenE (ev ropenE 1000) 19 (ropenT.args x) ⟨ropenT.blks x, ropenT.n0, []⟩ (fun _ _ => False) (ropenT.ends x) = (
((∃ x1 : Nat,
 ((@Eq Int (0 : Int) (Nat.cast x1 : Int)) ∧
 ((@LE.le Nat _ x1 (@List.length SessionD (@OpenA.l x))) ∧
 (∀ x2 : Nat,
 (∀ x3 : SessionD,
 ((@LT.lt Nat _ x2 x1) →
 ((@Eq (@Option SessionD) (@GetElem?.getElem? (@List SessionD) Nat SessionD (fun x4 : (@List SessionD) => (fun x5 : Nat => (@LT.lt Nat _ x5 (@List.length SessionD x4)))) _ (@OpenA.l x) x2) (@Option.some SessionD x3)) →
 (@Eq Bool (@nameIs (@OpenA.name x) x3) Bool.false)))))))) ∧
 (∀ x6 : Nat,
 (((@LE.le Nat _ x6 (@List.length SessionD (@OpenA.l x))) ∧
 (∀ x7 : Nat,
 (∀ x8 : SessionD,
 ((@LT.lt Nat _ x7 x6) →
 ((@Eq (@Option SessionD) (@GetElem?.getElem? (@List SessionD) Nat SessionD (fun x9 : (@List SessionD) => (fun x10 : Nat => (@LT.lt Nat _ x10 (@List.length SessionD x9)))) _ (@OpenA.l x) x7) (@Option.some SessionD x8)) →
 (@Eq Bool (@nameIs (@OpenA.name x) x8) Bool.false)))))) →
 ((@LE.le Nat _ (@HMul.hMul _ _ _ _ (@List.length SessionD (@OpenA.l x)) (112 : Nat)) room47) →
 (br (@Decidable.decide (@LT.lt Int _ (Nat.cast x6 : Int) (Nat.cast (@List.length SessionD (@OpenA.l x)) : Int)) _)
 (br (@Decidable.decide ((@LE.le Int _ (0 : Int) (Nat.cast x6 : Int)) ∧
 (@LT.lt Int _ (Nat.cast x6 : Int) (Nat.cast (@List.length SessionD (@OpenA.l x)) : Int))) _)
 (br (@Decidable.decide (@LT.lt Nat _ (@HAdd.hAdd _ _ _ _ (0 : Nat) (@Int.toNat (Nat.cast x6 : Int))) (@List.length SessionD (@OpenA.l x))) _)
 (br (@BEq.beq Bs _ (@SessionD.name (@List.getD SessionD (@OpenA.l x) (@HAdd.hAdd _ _ _ _ (0 : Nat) (@Int.toNat (Nat.cast x6 : Int))) (@SessionD.mk (0 : Int) (0 : Int) (@List.nil UInt8) VerdictD.dflt))) (@OpenA.name x))
 (br (@Decidable.decide ((@LE.le Int _ (0 : Int) (Nat.cast x6 : Int)) ∧
 (@LT.lt Int _ (Nat.cast x6 : Int) (Nat.cast (@List.length SessionD (@OpenA.l x)) : Int))) _)
 (br (@Decidable.decide (@LT.lt Nat _ (@HAdd.hAdd _ _ _ _ (0 : Nat) (@Int.toNat (Nat.cast x6 : Int))) (@List.length SessionD (@OpenA.l x))) _)
 (∃ x11 : TabI,
 ((@Eq Int (Nat.cast x6 : Int) (@TabI.n x11)) ∧
 ((@Eq Int (@OpenA.size x) (@TabI.size x11)) ∧
 ((@Eq Nat (0 : Nat) (0 : Nat)) ∧
 ((@Eq Nat (@List.length SessionD (@OpenA.l x)) (@List.length SessionD (@TabI.l x11))) ∧
 ((@Eq (@List SessionD) (@OpenA.l x) (@TabI.l x11)) ∧
 (((@Eq Bool (@Decidable.decide ((@LE.le Int _ (0 : Int) (@TabI.n x11)) ∧
 (@LT.lt Int _ (@TabI.n x11) (Nat.cast (@List.length SessionD (@TabI.l x11)) : Int))) _) Bool.true) ∧
 (@Eq Bool (@Decidable.decide (@LE.le Nat _ (@List.length SessionD (@TabI.l x11)) (1024 : Nat)) _) Bool.true)) ∧
 (∀ x12 : Unit,
 (True →
 (∃ x13 : Unit,
 ((@Eq Int (@SessionD.id (@List.getD SessionD (@OpenA.l x) (@HAdd.hAdd _ _ _ _ (0 : Nat) (@Int.toNat (Nat.cast x6 : Int))) (@SessionD.mk (0 : Int) (0 : Int) (@List.nil UInt8) VerdictD.dflt))) (@Prod.fst Int (@List SessionD) (@openL x))) ∧
 ((@Eq Int (@TabI.size x11) (@OpenA.size x)) ∧
 ((@Eq Nat (0 : Nat) (0 : Nat)) ∧
 ((@Eq Nat (@List.length SessionD (@usedL (@TabI.l x11) (@TabI.n x11))) (@List.length SessionD (@Prod.snd Int (@List SessionD) (@openL x)))) ∧
 ((@Eq (@List SessionD) (@usedL (@TabI.l x11) (@TabI.n x11)) (@Prod.snd Int (@List SessionD) (@openL x))) ∧
 True)))))))))))))))
 (Bad "check" "ref.go:79"))
 (Bad "check" "ref.go:79"))
 (∃ x14 : Nat,
 ((@Eq Int (@Go.IntKind.wrap Go.IntKind.i64 (@HAdd.hAdd Int Int Int _ (Nat.cast x6 : Int) (1 : Int))) (Nat.cast x14 : Int)) ∧
 (((@LE.le Nat _ x14 (@List.length SessionD (@OpenA.l x))) ∧
 (∀ x15 : Nat,
 (∀ x16 : SessionD,
 ((@LT.lt Nat _ x15 x14) →
 ((@Eq (@Option SessionD) (@GetElem?.getElem? (@List SessionD) Nat SessionD (fun x17 : (@List SessionD) => (fun x18 : Nat => (@LT.lt Nat _ x18 (@List.length SessionD x17)))) _ (@OpenA.l x) x15) (@Option.some SessionD x16)) →
 (@Eq Bool (@nameIs (@OpenA.name x) x16) Bool.false)))))) ∧
 (@LT.lt Nat _ (@Nat.sub (@List.length SessionD (@OpenA.l x)) x14) (@Nat.sub (@List.length SessionD (@OpenA.l x)) x6))))))
 (Bad "check" "ref.go:78"))
 (Bad "check" "ref.go:78"))
 (∃ x19 : TabI,
 ((@Eq Int (@OpenA.id x) (@TabI.n x19)) ∧
 ((@Eq Int (@OpenA.size x) (@TabI.size x19)) ∧
 ((@Eq Nat (0 : Nat) (0 : Nat)) ∧
 ((@Eq Nat (@List.length SessionD (@OpenA.l x)) (@List.length SessionD (@TabI.l x19))) ∧
 ((@Eq (@List SessionD) (@OpenA.l x) (@TabI.l x19)) ∧
 (True ∧
 (∀ x20 : Unit,
 (True →
 (br (@Decidable.decide (@GE.ge Int _ (@idxF (@idIs (@TabI.n x19)) (@TabI.l x19)) (0 : Int)) _)
 (br (@bndB (@List.length SessionD (@TabI.l x19)) (@Option.none Int) (@Option.some Int (@idxF (@idIs (@TabI.n x19)) (@TabI.l x19))) (@Option.none Int))
 (((@Nat.le (@HMul.hMul _ _ _ _ (0 : Nat) (112 : Nat)) room47) ∧
 (@Nat.le (@HMul.hMul _ _ _ _ (@cutN (@List.length SessionD (@TabI.l x19)) (@Option.none Int) (@Option.some Int (@idxF (@idIs (@TabI.n x19)) (@TabI.l x19)))) (112 : Nat)) room47)) →
 (br (@Bool.and (@Bool.and (@Decidable.decide (@LE.le Nat _ (@HAdd.hAdd _ _ _ _ (@addN (0 : Nat) (@Option.none Int)) (@cutN (@List.length SessionD (@TabI.l x19)) (@Option.none Int) (@Option.some Int (@idxF (@idIs (@TabI.n x19)) (@TabI.l x19))))) (@List.length SessionD (@TabI.l x19))) _) (@Decidable.decide (@LE.le Nat _ (@HAdd.hAdd _ _ _ _ (0 : Nat) (0 : Nat)) (@List.length SessionD (@List.nil SessionD))) _)) (@Decidable.decide (@LE.le Nat _ (@HMul.hMul _ _ _ _ (@HAdd.hAdd _ _ _ _ (0 : Nat) (@List.length SessionD (@List.take SessionD (@cutN (@List.length SessionD (@TabI.l x19)) (@Option.none Int) (@Option.some Int (@idxF (@idIs (@TabI.n x19)) (@TabI.l x19)))) (@List.drop SessionD (@addN (0 : Nat) (@Option.none Int)) (@TabI.l x19))))) (112 : Nat)) room47) _))
 (br (@bndB (@List.length SessionD (@TabI.l x19)) (@Option.some Int (@Go.IntKind.wrap Go.IntKind.i64 (@HAdd.hAdd Int Int Int _ (@idxF (@idIs (@TabI.n x19)) (@TabI.l x19)) (1 : Int)))) (@Option.none Int) (@Option.none Int))
 (((@Nat.le (@HMul.hMul _ _ _ _ (@HAdd.hAdd _ _ _ _ (0 : Nat) (@List.length SessionD (@List.take SessionD (@cutN (@List.length SessionD (@TabI.l x19)) (@Option.none Int) (@Option.some Int (@idxF (@idIs (@TabI.n x19)) (@TabI.l x19)))) (@List.drop SessionD (@addN (0 : Nat) (@Option.none Int)) (@TabI.l x19))))) (112 : Nat)) room47) ∧
 (@Nat.le (@HMul.hMul _ _ _ _ (@cutN (@List.length SessionD (@TabI.l x19)) (@Option.some Int (@Go.IntKind.wrap Go.IntKind.i64 (@HAdd.hAdd Int Int Int _ (@idxF (@idIs (@TabI.n x19)) (@TabI.l x19)) (1 : Int)))) (@Option.none Int)) (112 : Nat)) room47)) →
 (br (@Bool.and (@Bool.and (@Decidable.decide (@LE.le Nat _ (@HAdd.hAdd _ _ _ _ (@addN (0 : Nat) (@Option.some Int (@Go.IntKind.wrap Go.IntKind.i64 (@HAdd.hAdd Int Int Int _ (@idxF (@idIs (@TabI.n x19)) (@TabI.l x19)) (1 : Int))))) (@cutN (@List.length SessionD (@TabI.l x19)) (@Option.some Int (@Go.IntKind.wrap Go.IntKind.i64 (@HAdd.hAdd Int Int Int _ (@idxF (@idIs (@TabI.n x19)) (@TabI.l x19)) (1 : Int)))) (@Option.none Int))) (@List.length SessionD (@TabI.l x19))) _) (@Decidable.decide (@LE.le Nat _ (@HAdd.hAdd _ _ _ _ (0 : Nat) (@HAdd.hAdd _ _ _ _ (0 : Nat) (@List.length SessionD (@List.take SessionD (@cutN (@List.length SessionD (@TabI.l x19)) (@Option.none Int) (@Option.some Int (@idxF (@idIs (@TabI.n x19)) (@TabI.l x19)))) (@List.drop SessionD (@addN (0 : Nat) (@Option.none Int)) (@TabI.l x19)))))) (@List.length SessionD (@HAppend.hAppend (@List SessionD) (@List SessionD) (@List SessionD) _ (@List.take SessionD (0 : Nat) (@List.drop SessionD (0 : Nat) (@List.nil SessionD))) (@List.take SessionD (@cutN (@List.length SessionD (@TabI.l x19)) (@Option.none Int) (@Option.some Int (@idxF (@idIs (@TabI.n x19)) (@TabI.l x19)))) (@List.drop SessionD (@addN (0 : Nat) (@Option.none Int)) (@TabI.l x19)))))) _)) (@Decidable.decide (@LE.le Nat _ (@HMul.hMul _ _ _ _ (@HAdd.hAdd _ _ _ _ (@HAdd.hAdd _ _ _ _ (0 : Nat) (@List.length SessionD (@List.take SessionD (@cutN (@List.length SessionD (@TabI.l x19)) (@Option.none Int) (@Option.some Int (@idxF (@idIs (@TabI.n x19)) (@TabI.l x19)))) (@List.drop SessionD (@addN (0 : Nat) (@Option.none Int)) (@TabI.l x19))))) (@List.length SessionD (@List.take SessionD (@cutN (@List.length SessionD (@TabI.l x19)) (@Option.some Int (@Go.IntKind.wrap Go.IntKind.i64 (@HAdd.hAdd Int Int Int _ (@idxF (@idIs (@TabI.n x19)) (@TabI.l x19)) (1 : Int)))) (@Option.none Int)) (@List.drop SessionD (@addN (0 : Nat) (@Option.some Int (@Go.IntKind.wrap Go.IntKind.i64 (@HAdd.hAdd Int Int Int _ (@idxF (@idIs (@TabI.n x19)) (@TabI.l x19)) (1 : Int))))) (@TabI.l x19))))) (112 : Nat)) room47) _))
 ((@LE.le Nat _ (@HMul.hMul _ _ _ _ (@HAdd.hAdd _ _ _ _ (@HAdd.hAdd _ _ _ _ (0 : Nat) (@List.length SessionD (@List.take SessionD (@cutN (@List.length SessionD (@TabI.l x19)) (@Option.none Int) (@Option.some Int (@idxF (@idIs (@TabI.n x19)) (@TabI.l x19)))) (@List.drop SessionD (@addN (0 : Nat) (@Option.none Int)) (@TabI.l x19))))) (@List.length SessionD (@List.take SessionD (@cutN (@List.length SessionD (@TabI.l x19)) (@Option.some Int (@Go.IntKind.wrap Go.IntKind.i64 (@HAdd.hAdd Int Int Int _ (@idxF (@idIs (@TabI.n x19)) (@TabI.l x19)) (1 : Int)))) (@Option.none Int)) (@List.drop SessionD (@addN (0 : Nat) (@Option.some Int (@Go.IntKind.wrap Go.IntKind.i64 (@HAdd.hAdd Int Int Int _ (@idxF (@idIs (@TabI.n x19)) (@TabI.l x19)) (1 : Int))))) (@TabI.l x19))))) (112 : Nat)) room47) →
 (br (@Decidable.decide (@GE.ge Int _ (Nat.cast (@HAdd.hAdd _ _ _ _ (@HAdd.hAdd _ _ _ _ (0 : Nat) (@List.length SessionD (@List.take SessionD (@cutN (@List.length SessionD (@TabI.l x19)) (@Option.none Int) (@Option.some Int (@idxF (@idIs (@TabI.n x19)) (@TabI.l x19)))) (@List.drop SessionD (@addN (0 : Nat) (@Option.none Int)) (@TabI.l x19))))) (@List.length SessionD (@List.take SessionD (@cutN (@List.length SessionD (@TabI.l x19)) (@Option.some Int (@Go.IntKind.wrap Go.IntKind.i64 (@HAdd.hAdd Int Int Int _ (@idxF (@idIs (@TabI.n x19)) (@TabI.l x19)) (1 : Int)))) (@Option.none Int)) (@List.drop SessionD (@addN (0 : Nat) (@Option.some Int (@Go.IntKind.wrap Go.IntKind.i64 (@HAdd.hAdd Int Int Int _ (@idxF (@idIs (@TabI.n x19)) (@TabI.l x19)) (1 : Int))))) (@TabI.l x19))))) : Int) (@TabI.size x19)) _)
 (br (@bndB (@HAdd.hAdd _ _ _ _ (@HAdd.hAdd _ _ _ _ (0 : Nat) (@List.length SessionD (@List.take SessionD (@cutN (@List.length SessionD (@TabI.l x19)) (@Option.none Int) (@Option.some Int (@idxF (@idIs (@TabI.n x19)) (@TabI.l x19)))) (@List.drop SessionD (@addN (0 : Nat) (@Option.none Int)) (@TabI.l x19))))) (@List.length SessionD (@List.take SessionD (@cutN (@List.length SessionD (@TabI.l x19)) (@Option.some Int (@Go.IntKind.wrap Go.IntKind.i64 (@HAdd.hAdd Int Int Int _ (@idxF (@idIs (@TabI.n x19)) (@TabI.l x19)) (1 : Int)))) (@Option.none Int)) (@List.drop SessionD (@addN (0 : Nat) (@Option.some Int (@Go.IntKind.wrap Go.IntKind.i64 (@HAdd.hAdd Int Int Int _ (@idxF (@idIs (@TabI.n x19)) (@TabI.l x19)) (1 : Int))))) (@TabI.l x19))))) (@Option.some Int (1 : Int)) (@Option.none Int) (@Option.none Int))
 (((@Nat.le (@HMul.hMul _ _ _ _ (0 : Nat) (112 : Nat)) room47) ∧
 (@Nat.le (@HMul.hMul _ _ _ _ (@cutN (@HAdd.hAdd _ _ _ _ (@HAdd.hAdd _ _ _ _ (0 : Nat) (@List.length SessionD (@List.take SessionD (@cutN (@List.length SessionD (@TabI.l x19)) (@Option.none Int) (@Option.some Int (@idxF (@idIs (@TabI.n x19)) (@TabI.l x19)))) (@List.drop SessionD (@addN (0 : Nat) (@Option.none Int)) (@TabI.l x19))))) (@List.length SessionD (@List.take SessionD (@cutN (@List.length SessionD (@TabI.l x19)) (@Option.some Int (@Go.IntKind.wrap Go.IntKind.i64 (@HAdd.hAdd Int Int Int _ (@idxF (@idIs (@TabI.n x19)) (@TabI.l x19)) (1 : Int)))) (@Option.none Int)) (@List.drop SessionD (@addN (0 : Nat) (@Option.some Int (@Go.IntKind.wrap Go.IntKind.i64 (@HAdd.hAdd Int Int Int _ (@idxF (@idIs (@TabI.n x19)) (@TabI.l x19)) (1 : Int))))) (@TabI.l x19))))) (@Option.some Int (1 : Int)) (@Option.none Int)) (112 : Nat)) room47)) →
 (br (@Bool.and (@Bool.and (@Decidable.decide (@LE.le Nat _ (@HAdd.hAdd _ _ _ _ (@addN (0 : Nat) (@Option.some Int (1 : Int))) (@cutN (@HAdd.hAdd _ _ _ _ (@HAdd.hAdd _ _ _ _ (0 : Nat) (@List.length SessionD (@List.take SessionD (@cutN (@List.length SessionD (@TabI.l x19)) (@Option.none Int) (@Option.some Int (@idxF (@idIs (@TabI.n x19)) (@TabI.l x19)))) (@List.drop SessionD (@addN (0 : Nat) (@Option.none Int)) (@TabI.l x19))))) (@List.length SessionD (@List.take SessionD (@cutN (@List.length SessionD (@TabI.l x19)) (@Option.some Int (@Go.IntKind.wrap Go.IntKind.i64 (@HAdd.hAdd Int Int Int _ (@idxF (@idIs (@TabI.n x19)) (@TabI.l x19)) (1 : Int)))) (@Option.none Int)) (@List.drop SessionD (@addN (0 : Nat) (@Option.some Int (@Go.IntKind.wrap Go.IntKind.i64 (@HAdd.hAdd Int Int Int _ (@idxF (@idIs (@TabI.n x19)) (@TabI.l x19)) (1 : Int))))) (@TabI.l x19))))) (@Option.some Int (1 : Int)) (@Option.none Int))) (@List.length SessionD (@HAppend.hAppend (@List SessionD) (@List SessionD) (@List SessionD) _ (@List.take SessionD (@HAdd.hAdd _ _ _ _ (0 : Nat) (@List.length SessionD (@List.take SessionD (@cutN (@List.length SessionD (@TabI.l x19)) (@Option.none Int) (@Option.some Int (@idxF (@idIs (@TabI.n x19)) (@TabI.l x19)))) (@List.drop SessionD (@addN (0 : Nat) (@Option.none Int)) (@TabI.l x19))))) (@List.drop SessionD (0 : Nat) (@HAppend.hAppend (@List SessionD) (@List SessionD) (@List SessionD) _ (@List.take SessionD (0 : Nat) (@List.drop SessionD (0 : Nat) (@List.nil SessionD))) (@List.take SessionD (@cutN (@List.length SessionD (@TabI.l x19)) (@Option.none Int) (@Option.some Int (@idxF (@idIs (@TabI.n x19)) (@TabI.l x19)))) (@List.drop SessionD (@addN (0 : Nat) (@Option.none Int)) (@TabI.l x19)))))) (@List.take SessionD (@cutN (@List.length SessionD (@TabI.l x19)) (@Option.some Int (@Go.IntKind.wrap Go.IntKind.i64 (@HAdd.hAdd Int Int Int _ (@idxF (@idIs (@TabI.n x19)) (@TabI.l x19)) (1 : Int)))) (@Option.none Int)) (@List.drop SessionD (@addN (0 : Nat) (@Option.some Int (@Go.IntKind.wrap Go.IntKind.i64 (@HAdd.hAdd Int Int Int _ (@idxF (@idIs (@TabI.n x19)) (@TabI.l x19)) (1 : Int))))) (@TabI.l x19)))))) _) (@Decidable.decide (@LE.le Nat _ (@HAdd.hAdd _ _ _ _ (0 : Nat) (0 : Nat)) (@List.length SessionD (@List.nil SessionD))) _)) (@Decidable.decide (@LE.le Nat _ (@HMul.hMul _ _ _ _ (@HAdd.hAdd _ _ _ _ (0 : Nat) (@List.length SessionD (@List.take SessionD (@cutN (@HAdd.hAdd _ _ _ _ (@HAdd.hAdd _ _ _ _ (0 : Nat) (@List.length SessionD (@List.take SessionD (@cutN (@List.length SessionD (@TabI.l x19)) (@Option.none Int) (@Option.some Int (@idxF (@idIs (@TabI.n x19)) (@TabI.l x19)))) (@List.drop SessionD (@addN (0 : Nat) (@Option.none Int)) (@TabI.l x19))))) (@List.length SessionD (@List.take SessionD (@cutN (@List.length SessionD (@TabI.l x19)) (@Option.some Int (@Go.IntKind.wrap Go.IntKind.i64 (@HAdd.hAdd Int Int Int _ (@idxF (@idIs (@TabI.n x19)) (@TabI.l x19)) (1 : Int)))) (@Option.none Int)) (@List.drop SessionD (@addN (0 : Nat) (@Option.some Int (@Go.IntKind.wrap Go.IntKind.i64 (@HAdd.hAdd Int Int Int _ (@idxF (@idIs (@TabI.n x19)) (@TabI.l x19)) (1 : Int))))) (@TabI.l x19))))) (@Option.some Int (1 : Int)) (@Option.none Int)) (@List.drop SessionD (@addN (0 : Nat) (@Option.some Int (1 : Int))) (@HAppend.hAppend (@List SessionD) (@List SessionD) (@List SessionD) _ (@List.take SessionD (@HAdd.hAdd _ _ _ _ (0 : Nat) (@List.length SessionD (@List.take SessionD (@cutN (@List.length SessionD (@TabI.l x19)) (@Option.none Int) (@Option.some Int (@idxF (@idIs (@TabI.n x19)) (@TabI.l x19)))) (@List.drop SessionD (@addN (0 : Nat) (@Option.none Int)) (@TabI.l x19))))) (@List.drop SessionD (0 : Nat) (@HAppend.hAppend (@List SessionD) (@List SessionD) (@List SessionD) _ (@List.take SessionD (0 : Nat) (@List.drop SessionD (0 : Nat) (@List.nil SessionD))) (@List.take SessionD (@cutN (@List.length SessionD (@TabI.l x19)) (@Option.none Int) (@Option.some Int (@idxF (@idIs (@TabI.n x19)) (@TabI.l x19)))) (@List.drop SessionD (@addN (0 : Nat) (@Option.none Int)) (@TabI.l x19)))))) (@List.take SessionD (@cutN (@List.length SessionD (@TabI.l x19)) (@Option.some Int (@Go.IntKind.wrap Go.IntKind.i64 (@HAdd.hAdd Int Int Int _ (@idxF (@idIs (@TabI.n x19)) (@TabI.l x19)) (1 : Int)))) (@Option.none Int)) (@List.drop SessionD (@addN (0 : Nat) (@Option.some Int (@Go.IntKind.wrap Go.IntKind.i64 (@HAdd.hAdd Int Int Int _ (@idxF (@idIs (@TabI.n x19)) (@TabI.l x19)) (1 : Int))))) (@TabI.l x19)))))))) (112 : Nat)) room47) _))
 (((@Nat.le (@HMul.hMul _ _ _ _ (@HAdd.hAdd _ _ _ _ (0 : Nat) (@List.length SessionD (@List.take SessionD (@cutN (@HAdd.hAdd _ _ _ _ (@HAdd.hAdd _ _ _ _ (0 : Nat) (@List.length SessionD (@List.take SessionD (@cutN (@List.length SessionD (@TabI.l x19)) (@Option.none Int) (@Option.some Int (@idxF (@idIs (@TabI.n x19)) (@TabI.l x19)))) (@List.drop SessionD (@addN (0 : Nat) (@Option.none Int)) (@TabI.l x19))))) (@List.length SessionD (@List.take SessionD (@cutN (@List.length SessionD (@TabI.l x19)) (@Option.some Int (@Go.IntKind.wrap Go.IntKind.i64 (@HAdd.hAdd Int Int Int _ (@idxF (@idIs (@TabI.n x19)) (@TabI.l x19)) (1 : Int)))) (@Option.none Int)) (@List.drop SessionD (@addN (0 : Nat) (@Option.some Int (@Go.IntKind.wrap Go.IntKind.i64 (@HAdd.hAdd Int Int Int _ (@idxF (@idIs (@TabI.n x19)) (@TabI.l x19)) (1 : Int))))) (@TabI.l x19))))) (@Option.some Int (1 : Int)) (@Option.none Int)) (@List.drop SessionD (@addN (0 : Nat) (@Option.some Int (1 : Int))) (@HAppend.hAppend (@List SessionD) (@List SessionD) (@List SessionD) _ (@List.take SessionD (@HAdd.hAdd _ _ _ _ (0 : Nat) (@List.length SessionD (@List.take SessionD (@cutN (@List.length SessionD (@TabI.l x19)) (@Option.none Int) (@Option.some Int (@idxF (@idIs (@TabI.n x19)) (@TabI.l x19)))) (@List.drop SessionD (@addN (0 : Nat) (@Option.none Int)) (@TabI.l x19))))) (@List.drop SessionD (0 : Nat) (@HAppend.hAppend (@List SessionD) (@List SessionD) (@List SessionD) _ (@List.take SessionD (0 : Nat) (@List.drop SessionD (0 : Nat) (@List.nil SessionD))) (@List.take SessionD (@cutN (@List.length SessionD (@TabI.l x19)) (@Option.none Int) (@Option.some Int (@idxF (@idIs (@TabI.n x19)) (@TabI.l x19)))) (@List.drop SessionD (@addN (0 : Nat) (@Option.none Int)) (@TabI.l x19)))))) (@List.take SessionD (@cutN (@List.length SessionD (@TabI.l x19)) (@Option.some Int (@Go.IntKind.wrap Go.IntKind.i64 (@HAdd.hAdd Int Int Int _ (@idxF (@idIs (@TabI.n x19)) (@TabI.l x19)) (1 : Int)))) (@Option.none Int)) (@List.drop SessionD (@addN (0 : Nat) (@Option.some Int (@Go.IntKind.wrap Go.IntKind.i64 (@HAdd.hAdd Int Int Int _ (@idxF (@idIs (@TabI.n x19)) (@TabI.l x19)) (1 : Int))))) (@TabI.l x19)))))))) (112 : Nat)) room47) ∧
 (@Nat.le (@HMul.hMul _ _ _ _ (1 : Nat) (112 : Nat)) room47)) →
 (br (@Bool.and (@Bool.and (@Decidable.decide (@LE.le Nat _ (@HAdd.hAdd _ _ _ _ (0 : Nat) (1 : Nat)) (@List.length SessionD (@List.cons SessionD (@SessionD.mk (@OpenA.id x) (0 : Int) (@OpenA.name x) (@VerdictD.mk (0 : Int) (0 : Int) (0 : Int) (@Array.toList UInt8 (@ByteArray.data (@ByteArray.mk (@List.toArray UInt8 (@List.nil UInt8))))) (0 : Int) (@List.nil CommitD) (0 : Int))) (@List.nil SessionD)))) _) (@Decidable.decide (@LE.le Nat _ (@HAdd.hAdd _ _ _ _ (0 : Nat) (@HAdd.hAdd _ _ _ _ (0 : Nat) (@List.length SessionD (@List.take SessionD (@cutN (@HAdd.hAdd _ _ _ _ (@HAdd.hAdd _ _ _ _ (0 : Nat) (@List.length SessionD (@List.take SessionD (@cutN (@List.length SessionD (@TabI.l x19)) (@Option.none Int) (@Option.some Int (@idxF (@idIs (@TabI.n x19)) (@TabI.l x19)))) (@List.drop SessionD (@addN (0 : Nat) (@Option.none Int)) (@TabI.l x19))))) (@List.length SessionD (@List.take SessionD (@cutN (@List.length SessionD (@TabI.l x19)) (@Option.some Int (@Go.IntKind.wrap Go.IntKind.i64 (@HAdd.hAdd Int Int Int _ (@idxF (@idIs (@TabI.n x19)) (@TabI.l x19)) (1 : Int)))) (@Option.none Int)) (@List.drop SessionD (@addN (0 : Nat) (@Option.some Int (@Go.IntKind.wrap Go.IntKind.i64 (@HAdd.hAdd Int Int Int _ (@idxF (@idIs (@TabI.n x19)) (@TabI.l x19)) (1 : Int))))) (@TabI.l x19))))) (@Option.some Int (1 : Int)) (@Option.none Int)) (@List.drop SessionD (@addN (0 : Nat) (@Option.some Int (1 : Int))) (@HAppend.hAppend (@List SessionD) (@List SessionD) (@List SessionD) _ (@List.take SessionD (@HAdd.hAdd _ _ _ _ (0 : Nat) (@List.length SessionD (@List.take SessionD (@cutN (@List.length SessionD (@TabI.l x19)) (@Option.none Int) (@Option.some Int (@idxF (@idIs (@TabI.n x19)) (@TabI.l x19)))) (@List.drop SessionD (@addN (0 : Nat) (@Option.none Int)) (@TabI.l x19))))) (@List.drop SessionD (0 : Nat) (@HAppend.hAppend (@List SessionD) (@List SessionD) (@List SessionD) _ (@List.take SessionD (0 : Nat) (@List.drop SessionD (0 : Nat) (@List.nil SessionD))) (@List.take SessionD (@cutN (@List.length SessionD (@TabI.l x19)) (@Option.none Int) (@Option.some Int (@idxF (@idIs (@TabI.n x19)) (@TabI.l x19)))) (@List.drop SessionD (@addN (0 : Nat) (@Option.none Int)) (@TabI.l x19)))))) (@List.take SessionD (@cutN (@List.length SessionD (@TabI.l x19)) (@Option.some Int (@Go.IntKind.wrap Go.IntKind.i64 (@HAdd.hAdd Int Int Int _ (@idxF (@idIs (@TabI.n x19)) (@TabI.l x19)) (1 : Int)))) (@Option.none Int)) (@List.drop SessionD (@addN (0 : Nat) (@Option.some Int (@Go.IntKind.wrap Go.IntKind.i64 (@HAdd.hAdd Int Int Int _ (@idxF (@idIs (@TabI.n x19)) (@TabI.l x19)) (1 : Int))))) (@TabI.l x19))))))))) (@List.length SessionD (@HAppend.hAppend (@List SessionD) (@List SessionD) (@List SessionD) _ (@List.take SessionD (0 : Nat) (@List.drop SessionD (0 : Nat) (@List.nil SessionD))) (@List.take SessionD (@cutN (@HAdd.hAdd _ _ _ _ (@HAdd.hAdd _ _ _ _ (0 : Nat) (@List.length SessionD (@List.take SessionD (@cutN (@List.length SessionD (@TabI.l x19)) (@Option.none Int) (@Option.some Int (@idxF (@idIs (@TabI.n x19)) (@TabI.l x19)))) (@List.drop SessionD (@addN (0 : Nat) (@Option.none Int)) (@TabI.l x19))))) (@List.length SessionD (@List.take SessionD (@cutN (@List.length SessionD (@TabI.l x19)) (@Option.some Int (@Go.IntKind.wrap Go.IntKind.i64 (@HAdd.hAdd Int Int Int _ (@idxF (@idIs (@TabI.n x19)) (@TabI.l x19)) (1 : Int)))) (@Option.none Int)) (@List.drop SessionD (@addN (0 : Nat) (@Option.some Int (@Go.IntKind.wrap Go.IntKind.i64 (@HAdd.hAdd Int Int Int _ (@idxF (@idIs (@TabI.n x19)) (@TabI.l x19)) (1 : Int))))) (@TabI.l x19))))) (@Option.some Int (1 : Int)) (@Option.none Int)) (@List.drop SessionD (@addN (0 : Nat) (@Option.some Int (1 : Int))) (@HAppend.hAppend (@List SessionD) (@List SessionD) (@List SessionD) _ (@List.take SessionD (@HAdd.hAdd _ _ _ _ (0 : Nat) (@List.length SessionD (@List.take SessionD (@cutN (@List.length SessionD (@TabI.l x19)) (@Option.none Int) (@Option.some Int (@idxF (@idIs (@TabI.n x19)) (@TabI.l x19)))) (@List.drop SessionD (@addN (0 : Nat) (@Option.none Int)) (@TabI.l x19))))) (@List.drop SessionD (0 : Nat) (@HAppend.hAppend (@List SessionD) (@List SessionD) (@List SessionD) _ (@List.take SessionD (0 : Nat) (@List.drop SessionD (0 : Nat) (@List.nil SessionD))) (@List.take SessionD (@cutN (@List.length SessionD (@TabI.l x19)) (@Option.none Int) (@Option.some Int (@idxF (@idIs (@TabI.n x19)) (@TabI.l x19)))) (@List.drop SessionD (@addN (0 : Nat) (@Option.none Int)) (@TabI.l x19)))))) (@List.take SessionD (@cutN (@List.length SessionD (@TabI.l x19)) (@Option.some Int (@Go.IntKind.wrap Go.IntKind.i64 (@HAdd.hAdd Int Int Int _ (@idxF (@idIs (@TabI.n x19)) (@TabI.l x19)) (1 : Int)))) (@Option.none Int)) (@List.drop SessionD (@addN (0 : Nat) (@Option.some Int (@Go.IntKind.wrap Go.IntKind.i64 (@HAdd.hAdd Int Int Int _ (@idxF (@idIs (@TabI.n x19)) (@TabI.l x19)) (1 : Int))))) (@TabI.l x19))))))))) _)) (@Decidable.decide (@LE.le Nat _ (@HMul.hMul _ _ _ _ (@HAdd.hAdd _ _ _ _ (@HAdd.hAdd _ _ _ _ (0 : Nat) (@List.length SessionD (@List.take SessionD (@cutN (@HAdd.hAdd _ _ _ _ (@HAdd.hAdd _ _ _ _ (0 : Nat) (@List.length SessionD (@List.take SessionD (@cutN (@List.length SessionD (@TabI.l x19)) (@Option.none Int) (@Option.some Int (@idxF (@idIs (@TabI.n x19)) (@TabI.l x19)))) (@List.drop SessionD (@addN (0 : Nat) (@Option.none Int)) (@TabI.l x19))))) (@List.length SessionD (@List.take SessionD (@cutN (@List.length SessionD (@TabI.l x19)) (@Option.some Int (@Go.IntKind.wrap Go.IntKind.i64 (@HAdd.hAdd Int Int Int _ (@idxF (@idIs (@TabI.n x19)) (@TabI.l x19)) (1 : Int)))) (@Option.none Int)) (@List.drop SessionD (@addN (0 : Nat) (@Option.some Int (@Go.IntKind.wrap Go.IntKind.i64 (@HAdd.hAdd Int Int Int _ (@idxF (@idIs (@TabI.n x19)) (@TabI.l x19)) (1 : Int))))) (@TabI.l x19))))) (@Option.some Int (1 : Int)) (@Option.none Int)) (@List.drop SessionD (@addN (0 : Nat) (@Option.some Int (1 : Int))) (@HAppend.hAppend (@List SessionD) (@List SessionD) (@List SessionD) _ (@List.take SessionD (@HAdd.hAdd _ _ _ _ (0 : Nat) (@List.length SessionD (@List.take SessionD (@cutN (@List.length SessionD (@TabI.l x19)) (@Option.none Int) (@Option.some Int (@idxF (@idIs (@TabI.n x19)) (@TabI.l x19)))) (@List.drop SessionD (@addN (0 : Nat) (@Option.none Int)) (@TabI.l x19))))) (@List.drop SessionD (0 : Nat) (@HAppend.hAppend (@List SessionD) (@List SessionD) (@List SessionD) _ (@List.take SessionD (0 : Nat) (@List.drop SessionD (0 : Nat) (@List.nil SessionD))) (@List.take SessionD (@cutN (@List.length SessionD (@TabI.l x19)) (@Option.none Int) (@Option.some Int (@idxF (@idIs (@TabI.n x19)) (@TabI.l x19)))) (@List.drop SessionD (@addN (0 : Nat) (@Option.none Int)) (@TabI.l x19)))))) (@List.take SessionD (@cutN (@List.length SessionD (@TabI.l x19)) (@Option.some Int (@Go.IntKind.wrap Go.IntKind.i64 (@HAdd.hAdd Int Int Int _ (@idxF (@idIs (@TabI.n x19)) (@TabI.l x19)) (1 : Int)))) (@Option.none Int)) (@List.drop SessionD (@addN (0 : Nat) (@Option.some Int (@Go.IntKind.wrap Go.IntKind.i64 (@HAdd.hAdd Int Int Int _ (@idxF (@idIs (@TabI.n x19)) (@TabI.l x19)) (1 : Int))))) (@TabI.l x19)))))))) (@List.length SessionD (@List.take SessionD (1 : Nat) (@List.drop SessionD (0 : Nat) (@List.cons SessionD (@SessionD.mk (@OpenA.id x) (0 : Int) (@OpenA.name x) (@VerdictD.mk (0 : Int) (0 : Int) (0 : Int) (@Array.toList UInt8 (@ByteArray.data (@ByteArray.mk (@List.toArray UInt8 (@List.nil UInt8))))) (0 : Int) (@List.nil CommitD) (0 : Int))) (@List.nil SessionD)))))) (112 : Nat)) room47) _))
 (∃ x21 : Unit,
 ((@Eq Int (@OpenA.id x) (@Prod.fst Int (@List SessionD) (@openL x))) ∧
 ((@Eq Int (@TabI.size x19) (@OpenA.size x)) ∧
 ((@Eq Nat (0 : Nat) (0 : Nat)) ∧
 ((@Eq Nat (@HAdd.hAdd _ _ _ _ (@HAdd.hAdd _ _ _ _ (0 : Nat) (@List.length SessionD (@List.take SessionD (@cutN (@HAdd.hAdd _ _ _ _ (@HAdd.hAdd _ _ _ _ (0 : Nat) (@List.length SessionD (@List.take SessionD (@cutN (@List.length SessionD (@TabI.l x19)) (@Option.none Int) (@Option.some Int (@idxF (@idIs (@TabI.n x19)) (@TabI.l x19)))) (@List.drop SessionD (@addN (0 : Nat) (@Option.none Int)) (@TabI.l x19))))) (@List.length SessionD (@List.take SessionD (@cutN (@List.length SessionD (@TabI.l x19)) (@Option.some Int (@Go.IntKind.wrap Go.IntKind.i64 (@HAdd.hAdd Int Int Int _ (@idxF (@idIs (@TabI.n x19)) (@TabI.l x19)) (1 : Int)))) (@Option.none Int)) (@List.drop SessionD (@addN (0 : Nat) (@Option.some Int (@Go.IntKind.wrap Go.IntKind.i64 (@HAdd.hAdd Int Int Int _ (@idxF (@idIs (@TabI.n x19)) (@TabI.l x19)) (1 : Int))))) (@TabI.l x19))))) (@Option.some Int (1 : Int)) (@Option.none Int)) (@List.drop SessionD (@addN (0 : Nat) (@Option.some Int (1 : Int))) (@HAppend.hAppend (@List SessionD) (@List SessionD) (@List SessionD) _ (@List.take SessionD (@HAdd.hAdd _ _ _ _ (0 : Nat) (@List.length SessionD (@List.take SessionD (@cutN (@List.length SessionD (@TabI.l x19)) (@Option.none Int) (@Option.some Int (@idxF (@idIs (@TabI.n x19)) (@TabI.l x19)))) (@List.drop SessionD (@addN (0 : Nat) (@Option.none Int)) (@TabI.l x19))))) (@List.drop SessionD (0 : Nat) (@HAppend.hAppend (@List SessionD) (@List SessionD) (@List SessionD) _ (@List.take SessionD (0 : Nat) (@List.drop SessionD (0 : Nat) (@List.nil SessionD))) (@List.take SessionD (@cutN (@List.length SessionD (@TabI.l x19)) (@Option.none Int) (@Option.some Int (@idxF (@idIs (@TabI.n x19)) (@TabI.l x19)))) (@List.drop SessionD (@addN (0 : Nat) (@Option.none Int)) (@TabI.l x19)))))) (@List.take SessionD (@cutN (@List.length SessionD (@TabI.l x19)) (@Option.some Int (@Go.IntKind.wrap Go.IntKind.i64 (@HAdd.hAdd Int Int Int _ (@idxF (@idIs (@TabI.n x19)) (@TabI.l x19)) (1 : Int)))) (@Option.none Int)) (@List.drop SessionD (@addN (0 : Nat) (@Option.some Int (@Go.IntKind.wrap Go.IntKind.i64 (@HAdd.hAdd Int Int Int _ (@idxF (@idIs (@TabI.n x19)) (@TabI.l x19)) (1 : Int))))) (@TabI.l x19)))))))) (@List.length SessionD (@List.take SessionD (1 : Nat) (@List.drop SessionD (0 : Nat) (@List.cons SessionD (@SessionD.mk (@OpenA.id x) (0 : Int) (@OpenA.name x) (@VerdictD.mk (0 : Int) (0 : Int) (0 : Int) (@Array.toList UInt8 (@ByteArray.data (@ByteArray.mk (@List.toArray UInt8 (@List.nil UInt8))))) (0 : Int) (@List.nil CommitD) (0 : Int))) (@List.nil SessionD)))))) (@List.length SessionD (@Prod.snd Int (@List SessionD) (@openL x)))) ∧
 ((@Eq (@List SessionD) (@HAppend.hAppend (@List SessionD) (@List SessionD) (@List SessionD) _ (@List.take SessionD (@HAdd.hAdd _ _ _ _ (0 : Nat) (@List.length SessionD (@List.take SessionD (@cutN (@HAdd.hAdd _ _ _ _ (@HAdd.hAdd _ _ _ _ (0 : Nat) (@List.length SessionD (@List.take SessionD (@cutN (@List.length SessionD (@TabI.l x19)) (@Option.none Int) (@Option.some Int (@idxF (@idIs (@TabI.n x19)) (@TabI.l x19)))) (@List.drop SessionD (@addN (0 : Nat) (@Option.none Int)) (@TabI.l x19))))) (@List.length SessionD (@List.take SessionD (@cutN (@List.length SessionD (@TabI.l x19)) (@Option.some Int (@Go.IntKind.wrap Go.IntKind.i64 (@HAdd.hAdd Int Int Int _ (@idxF (@idIs (@TabI.n x19)) (@TabI.l x19)) (1 : Int)))) (@Option.none Int)) (@List.drop SessionD (@addN (0 : Nat) (@Option.some Int (@Go.IntKind.wrap Go.IntKind.i64 (@HAdd.hAdd Int Int Int _ (@idxF (@idIs (@TabI.n x19)) (@TabI.l x19)) (1 : Int))))) (@TabI.l x19))))) (@Option.some Int (1 : Int)) (@Option.none Int)) (@List.drop SessionD (@addN (0 : Nat) (@Option.some Int (1 : Int))) (@HAppend.hAppend (@List SessionD) (@List SessionD) (@List SessionD) _ (@List.take SessionD (@HAdd.hAdd _ _ _ _ (0 : Nat) (@List.length SessionD (@List.take SessionD (@cutN (@List.length SessionD (@TabI.l x19)) (@Option.none Int) (@Option.some Int (@idxF (@idIs (@TabI.n x19)) (@TabI.l x19)))) (@List.drop SessionD (@addN (0 : Nat) (@Option.none Int)) (@TabI.l x19))))) (@List.drop SessionD (0 : Nat) (@HAppend.hAppend (@List SessionD) (@List SessionD) (@List SessionD) _ (@List.take SessionD (0 : Nat) (@List.drop SessionD (0 : Nat) (@List.nil SessionD))) (@List.take SessionD (@cutN (@List.length SessionD (@TabI.l x19)) (@Option.none Int) (@Option.some Int (@idxF (@idIs (@TabI.n x19)) (@TabI.l x19)))) (@List.drop SessionD (@addN (0 : Nat) (@Option.none Int)) (@TabI.l x19)))))) (@List.take SessionD (@cutN (@List.length SessionD (@TabI.l x19)) (@Option.some Int (@Go.IntKind.wrap Go.IntKind.i64 (@HAdd.hAdd Int Int Int _ (@idxF (@idIs (@TabI.n x19)) (@TabI.l x19)) (1 : Int)))) (@Option.none Int)) (@List.drop SessionD (@addN (0 : Nat) (@Option.some Int (@Go.IntKind.wrap Go.IntKind.i64 (@HAdd.hAdd Int Int Int _ (@idxF (@idIs (@TabI.n x19)) (@TabI.l x19)) (1 : Int))))) (@TabI.l x19)))))))) (@List.drop SessionD (0 : Nat) (@HAppend.hAppend (@List SessionD) (@List SessionD) (@List SessionD) _ (@List.take SessionD (0 : Nat) (@List.drop SessionD (0 : Nat) (@List.nil SessionD))) (@List.take SessionD (@cutN (@HAdd.hAdd _ _ _ _ (@HAdd.hAdd _ _ _ _ (0 : Nat) (@List.length SessionD (@List.take SessionD (@cutN (@List.length SessionD (@TabI.l x19)) (@Option.none Int) (@Option.some Int (@idxF (@idIs (@TabI.n x19)) (@TabI.l x19)))) (@List.drop SessionD (@addN (0 : Nat) (@Option.none Int)) (@TabI.l x19))))) (@List.length SessionD (@List.take SessionD (@cutN (@List.length SessionD (@TabI.l x19)) (@Option.some Int (@Go.IntKind.wrap Go.IntKind.i64 (@HAdd.hAdd Int Int Int _ (@idxF (@idIs (@TabI.n x19)) (@TabI.l x19)) (1 : Int)))) (@Option.none Int)) (@List.drop SessionD (@addN (0 : Nat) (@Option.some Int (@Go.IntKind.wrap Go.IntKind.i64 (@HAdd.hAdd Int Int Int _ (@idxF (@idIs (@TabI.n x19)) (@TabI.l x19)) (1 : Int))))) (@TabI.l x19))))) (@Option.some Int (1 : Int)) (@Option.none Int)) (@List.drop SessionD (@addN (0 : Nat) (@Option.some Int (1 : Int))) (@HAppend.hAppend (@List SessionD) (@List SessionD) (@List SessionD) _ (@List.take SessionD (@HAdd.hAdd _ _ _ _ (0 : Nat) (@List.length SessionD (@List.take SessionD (@cutN (@List.length SessionD (@TabI.l x19)) (@Option.none Int) (@Option.some Int (@idxF (@idIs (@TabI.n x19)) (@TabI.l x19)))) (@List.drop SessionD (@addN (0 : Nat) (@Option.none Int)) (@TabI.l x19))))) (@List.drop SessionD (0 : Nat) (@HAppend.hAppend (@List SessionD) (@List SessionD) (@List SessionD) _ (@List.take SessionD (0 : Nat) (@List.drop SessionD (0 : Nat) (@List.nil SessionD))) (@List.take SessionD (@cutN (@List.length SessionD (@TabI.l x19)) (@Option.none Int) (@Option.some Int (@idxF (@idIs (@TabI.n x19)) (@TabI.l x19)))) (@List.drop SessionD (@addN (0 : Nat) (@Option.none Int)) (@TabI.l x19)))))) (@List.take SessionD (@cutN (@List.length SessionD (@TabI.l x19)) (@Option.some Int (@Go.IntKind.wrap Go.IntKind.i64 (@HAdd.hAdd Int Int Int _ (@idxF (@idIs (@TabI.n x19)) (@TabI.l x19)) (1 : Int)))) (@Option.none Int)) (@List.drop SessionD (@addN (0 : Nat) (@Option.some Int (@Go.IntKind.wrap Go.IntKind.i64 (@HAdd.hAdd Int Int Int _ (@idxF (@idIs (@TabI.n x19)) (@TabI.l x19)) (1 : Int))))) (@TabI.l x19))))))))) (@List.take SessionD (1 : Nat) (@List.drop SessionD (0 : Nat) (@List.cons SessionD (@SessionD.mk (@OpenA.id x) (0 : Int) (@OpenA.name x) (@VerdictD.mk (0 : Int) (0 : Int) (0 : Int) (@Array.toList UInt8 (@ByteArray.data (@ByteArray.mk (@List.toArray UInt8 (@List.nil UInt8))))) (0 : Int) (@List.nil CommitD) (0 : Int))) (@List.nil SessionD))))) (@Prod.snd Int (@List SessionD) (@openL x))) ∧
 True))))))
 (Bad "check" "ref.go:92")))
 (Bad "check" "ref.go:90")))
 (Bad "check" "ref.go:90"))
 (((@Nat.le (@HMul.hMul _ _ _ _ (@HAdd.hAdd _ _ _ _ (@HAdd.hAdd _ _ _ _ (0 : Nat) (@List.length SessionD (@List.take SessionD (@cutN (@List.length SessionD (@TabI.l x19)) (@Option.none Int) (@Option.some Int (@idxF (@idIs (@TabI.n x19)) (@TabI.l x19)))) (@List.drop SessionD (@addN (0 : Nat) (@Option.none Int)) (@TabI.l x19))))) (@List.length SessionD (@List.take SessionD (@cutN (@List.length SessionD (@TabI.l x19)) (@Option.some Int (@Go.IntKind.wrap Go.IntKind.i64 (@HAdd.hAdd Int Int Int _ (@idxF (@idIs (@TabI.n x19)) (@TabI.l x19)) (1 : Int)))) (@Option.none Int)) (@List.drop SessionD (@addN (0 : Nat) (@Option.some Int (@Go.IntKind.wrap Go.IntKind.i64 (@HAdd.hAdd Int Int Int _ (@idxF (@idIs (@TabI.n x19)) (@TabI.l x19)) (1 : Int))))) (@TabI.l x19))))) (112 : Nat)) room47) ∧
 (@Nat.le (@HMul.hMul _ _ _ _ (1 : Nat) (112 : Nat)) room47)) →
 (br (@Bool.and (@Bool.and (@Decidable.decide (@LE.le Nat _ (@HAdd.hAdd _ _ _ _ (0 : Nat) (1 : Nat)) (@List.length SessionD (@List.cons SessionD (@SessionD.mk (@OpenA.id x) (0 : Int) (@OpenA.name x) (@VerdictD.mk (0 : Int) (0 : Int) (0 : Int) (@Array.toList UInt8 (@ByteArray.data (@ByteArray.mk (@List.toArray UInt8 (@List.nil UInt8))))) (0 : Int) (@List.nil CommitD) (0 : Int))) (@List.nil SessionD)))) _) (@Decidable.decide (@LE.le Nat _ (@HAdd.hAdd _ _ _ _ (0 : Nat) (@HAdd.hAdd _ _ _ _ (@HAdd.hAdd _ _ _ _ (0 : Nat) (@List.length SessionD (@List.take SessionD (@cutN (@List.length SessionD (@TabI.l x19)) (@Option.none Int) (@Option.some Int (@idxF (@idIs (@TabI.n x19)) (@TabI.l x19)))) (@List.drop SessionD (@addN (0 : Nat) (@Option.none Int)) (@TabI.l x19))))) (@List.length SessionD (@List.take SessionD (@cutN (@List.length SessionD (@TabI.l x19)) (@Option.some Int (@Go.IntKind.wrap Go.IntKind.i64 (@HAdd.hAdd Int Int Int _ (@idxF (@idIs (@TabI.n x19)) (@TabI.l x19)) (1 : Int)))) (@Option.none Int)) (@List.drop SessionD (@addN (0 : Nat) (@Option.some Int (@Go.IntKind.wrap Go.IntKind.i64 (@HAdd.hAdd Int Int Int _ (@idxF (@idIs (@TabI.n x19)) (@TabI.l x19)) (1 : Int))))) (@TabI.l x19)))))) (@List.length SessionD (@HAppend.hAppend (@List SessionD) (@List SessionD) (@List SessionD) _ (@List.take SessionD (@HAdd.hAdd _ _ _ _ (0 : Nat) (@List.length SessionD (@List.take SessionD (@cutN (@List.length SessionD (@TabI.l x19)) (@Option.none Int) (@Option.some Int (@idxF (@idIs (@TabI.n x19)) (@TabI.l x19)))) (@List.drop SessionD (@addN (0 : Nat) (@Option.none Int)) (@TabI.l x19))))) (@List.drop SessionD (0 : Nat) (@HAppend.hAppend (@List SessionD) (@List SessionD) (@List SessionD) _ (@List.take SessionD (0 : Nat) (@List.drop SessionD (0 : Nat) (@List.nil SessionD))) (@List.take SessionD (@cutN (@List.length SessionD (@TabI.l x19)) (@Option.none Int) (@Option.some Int (@idxF (@idIs (@TabI.n x19)) (@TabI.l x19)))) (@List.drop SessionD (@addN (0 : Nat) (@Option.none Int)) (@TabI.l x19)))))) (@List.take SessionD (@cutN (@List.length SessionD (@TabI.l x19)) (@Option.some Int (@Go.IntKind.wrap Go.IntKind.i64 (@HAdd.hAdd Int Int Int _ (@idxF (@idIs (@TabI.n x19)) (@TabI.l x19)) (1 : Int)))) (@Option.none Int)) (@List.drop SessionD (@addN (0 : Nat) (@Option.some Int (@Go.IntKind.wrap Go.IntKind.i64 (@HAdd.hAdd Int Int Int _ (@idxF (@idIs (@TabI.n x19)) (@TabI.l x19)) (1 : Int))))) (@TabI.l x19)))))) _)) (@Decidable.decide (@LE.le Nat _ (@HMul.hMul _ _ _ _ (@HAdd.hAdd _ _ _ _ (@HAdd.hAdd _ _ _ _ (@HAdd.hAdd _ _ _ _ (0 : Nat) (@List.length SessionD (@List.take SessionD (@cutN (@List.length SessionD (@TabI.l x19)) (@Option.none Int) (@Option.some Int (@idxF (@idIs (@TabI.n x19)) (@TabI.l x19)))) (@List.drop SessionD (@addN (0 : Nat) (@Option.none Int)) (@TabI.l x19))))) (@List.length SessionD (@List.take SessionD (@cutN (@List.length SessionD (@TabI.l x19)) (@Option.some Int (@Go.IntKind.wrap Go.IntKind.i64 (@HAdd.hAdd Int Int Int _ (@idxF (@idIs (@TabI.n x19)) (@TabI.l x19)) (1 : Int)))) (@Option.none Int)) (@List.drop SessionD (@addN (0 : Nat) (@Option.some Int (@Go.IntKind.wrap Go.IntKind.i64 (@HAdd.hAdd Int Int Int _ (@idxF (@idIs (@TabI.n x19)) (@TabI.l x19)) (1 : Int))))) (@TabI.l x19))))) (@List.length SessionD (@List.take SessionD (1 : Nat) (@List.drop SessionD (0 : Nat) (@List.cons SessionD (@SessionD.mk (@OpenA.id x) (0 : Int) (@OpenA.name x) (@VerdictD.mk (0 : Int) (0 : Int) (0 : Int) (@Array.toList UInt8 (@ByteArray.data (@ByteArray.mk (@List.toArray UInt8 (@List.nil UInt8))))) (0 : Int) (@List.nil CommitD) (0 : Int))) (@List.nil SessionD)))))) (112 : Nat)) room47) _))
 (∃ x22 : Unit,
 ((@Eq Int (@OpenA.id x) (@Prod.fst Int (@List SessionD) (@openL x))) ∧
 ((@Eq Int (@TabI.size x19) (@OpenA.size x)) ∧
 ((@Eq Nat (0 : Nat) (0 : Nat)) ∧
 ((@Eq Nat (@HAdd.hAdd _ _ _ _ (@HAdd.hAdd _ _ _ _ (@HAdd.hAdd _ _ _ _ (0 : Nat) (@List.length SessionD (@List.take SessionD (@cutN (@List.length SessionD (@TabI.l x19)) (@Option.none Int) (@Option.some Int (@idxF (@idIs (@TabI.n x19)) (@TabI.l x19)))) (@List.drop SessionD (@addN (0 : Nat) (@Option.none Int)) (@TabI.l x19))))) (@List.length SessionD (@List.take SessionD (@cutN (@List.length SessionD (@TabI.l x19)) (@Option.some Int (@Go.IntKind.wrap Go.IntKind.i64 (@HAdd.hAdd Int Int Int _ (@idxF (@idIs (@TabI.n x19)) (@TabI.l x19)) (1 : Int)))) (@Option.none Int)) (@List.drop SessionD (@addN (0 : Nat) (@Option.some Int (@Go.IntKind.wrap Go.IntKind.i64 (@HAdd.hAdd Int Int Int _ (@idxF (@idIs (@TabI.n x19)) (@TabI.l x19)) (1 : Int))))) (@TabI.l x19))))) (@List.length SessionD (@List.take SessionD (1 : Nat) (@List.drop SessionD (0 : Nat) (@List.cons SessionD (@SessionD.mk (@OpenA.id x) (0 : Int) (@OpenA.name x) (@VerdictD.mk (0 : Int) (0 : Int) (0 : Int) (@Array.toList UInt8 (@ByteArray.data (@ByteArray.mk (@List.toArray UInt8 (@List.nil UInt8))))) (0 : Int) (@List.nil CommitD) (0 : Int))) (@List.nil SessionD)))))) (@List.length SessionD (@Prod.snd Int (@List SessionD) (@openL x)))) ∧
 ((@Eq (@List SessionD) (@HAppend.hAppend (@List SessionD) (@List SessionD) (@List SessionD) _ (@List.take SessionD (@HAdd.hAdd _ _ _ _ (@HAdd.hAdd _ _ _ _ (0 : Nat) (@List.length SessionD (@List.take SessionD (@cutN (@List.length SessionD (@TabI.l x19)) (@Option.none Int) (@Option.some Int (@idxF (@idIs (@TabI.n x19)) (@TabI.l x19)))) (@List.drop SessionD (@addN (0 : Nat) (@Option.none Int)) (@TabI.l x19))))) (@List.length SessionD (@List.take SessionD (@cutN (@List.length SessionD (@TabI.l x19)) (@Option.some Int (@Go.IntKind.wrap Go.IntKind.i64 (@HAdd.hAdd Int Int Int _ (@idxF (@idIs (@TabI.n x19)) (@TabI.l x19)) (1 : Int)))) (@Option.none Int)) (@List.drop SessionD (@addN (0 : Nat) (@Option.some Int (@Go.IntKind.wrap Go.IntKind.i64 (@HAdd.hAdd Int Int Int _ (@idxF (@idIs (@TabI.n x19)) (@TabI.l x19)) (1 : Int))))) (@TabI.l x19))))) (@List.drop SessionD (0 : Nat) (@HAppend.hAppend (@List SessionD) (@List SessionD) (@List SessionD) _ (@List.take SessionD (@HAdd.hAdd _ _ _ _ (0 : Nat) (@List.length SessionD (@List.take SessionD (@cutN (@List.length SessionD (@TabI.l x19)) (@Option.none Int) (@Option.some Int (@idxF (@idIs (@TabI.n x19)) (@TabI.l x19)))) (@List.drop SessionD (@addN (0 : Nat) (@Option.none Int)) (@TabI.l x19))))) (@List.drop SessionD (0 : Nat) (@HAppend.hAppend (@List SessionD) (@List SessionD) (@List SessionD) _ (@List.take SessionD (0 : Nat) (@List.drop SessionD (0 : Nat) (@List.nil SessionD))) (@List.take SessionD (@cutN (@List.length SessionD (@TabI.l x19)) (@Option.none Int) (@Option.some Int (@idxF (@idIs (@TabI.n x19)) (@TabI.l x19)))) (@List.drop SessionD (@addN (0 : Nat) (@Option.none Int)) (@TabI.l x19)))))) (@List.take SessionD (@cutN (@List.length SessionD (@TabI.l x19)) (@Option.some Int (@Go.IntKind.wrap Go.IntKind.i64 (@HAdd.hAdd Int Int Int _ (@idxF (@idIs (@TabI.n x19)) (@TabI.l x19)) (1 : Int)))) (@Option.none Int)) (@List.drop SessionD (@addN (0 : Nat) (@Option.some Int (@Go.IntKind.wrap Go.IntKind.i64 (@HAdd.hAdd Int Int Int _ (@idxF (@idIs (@TabI.n x19)) (@TabI.l x19)) (1 : Int))))) (@TabI.l x19)))))) (@List.take SessionD (1 : Nat) (@List.drop SessionD (0 : Nat) (@List.cons SessionD (@SessionD.mk (@OpenA.id x) (0 : Int) (@OpenA.name x) (@VerdictD.mk (0 : Int) (0 : Int) (0 : Int) (@Array.toList UInt8 (@ByteArray.data (@ByteArray.mk (@List.toArray UInt8 (@List.nil UInt8))))) (0 : Int) (@List.nil CommitD) (0 : Int))) (@List.nil SessionD))))) (@Prod.snd Int (@List SessionD) (@openL x))) ∧
 True))))))
 (Bad "check" "ref.go:92")))))
 (Bad "check" "ref.go:87")))
 (Bad "check" "ref.go:87"))
 (Bad "check" "ref.go:86")))
 (Bad "check" "ref.go:86"))
 ((@LE.le Nat _ (@HMul.hMul _ _ _ _ (@List.length SessionD (@TabI.l x19)) (112 : Nat)) room47) →
 (br (@Decidable.decide (@GE.ge Int _ (Nat.cast (@List.length SessionD (@TabI.l x19)) : Int) (@TabI.size x19)) _)
 (br (@bndB (@List.length SessionD (@TabI.l x19)) (@Option.some Int (1 : Int)) (@Option.none Int) (@Option.none Int))
 (((@Nat.le (@HMul.hMul _ _ _ _ (0 : Nat) (112 : Nat)) room47) ∧
 (@Nat.le (@HMul.hMul _ _ _ _ (@cutN (@List.length SessionD (@TabI.l x19)) (@Option.some Int (1 : Int)) (@Option.none Int)) (112 : Nat)) room47)) →
 (br (@Bool.and (@Bool.and (@Decidable.decide (@LE.le Nat _ (@HAdd.hAdd _ _ _ _ (@addN (0 : Nat) (@Option.some Int (1 : Int))) (@cutN (@List.length SessionD (@TabI.l x19)) (@Option.some Int (1 : Int)) (@Option.none Int))) (@List.length SessionD (@TabI.l x19))) _) (@Decidable.decide (@LE.le Nat _ (@HAdd.hAdd _ _ _ _ (0 : Nat) (0 : Nat)) (@List.length SessionD (@List.nil SessionD))) _)) (@Decidable.decide (@LE.le Nat _ (@HMul.hMul _ _ _ _ (@HAdd.hAdd _ _ _ _ (0 : Nat) (@List.length SessionD (@List.take SessionD (@cutN (@List.length SessionD (@TabI.l x19)) (@Option.some Int (1 : Int)) (@Option.none Int)) (@List.drop SessionD (@addN (0 : Nat) (@Option.some Int (1 : Int))) (@TabI.l x19))))) (112 : Nat)) room47) _))
 (((@Nat.le (@HMul.hMul _ _ _ _ (@HAdd.hAdd _ _ _ _ (0 : Nat) (@List.length SessionD (@List.take SessionD (@cutN (@List.length SessionD (@TabI.l x19)) (@Option.some Int (1 : Int)) (@Option.none Int)) (@List.drop SessionD (@addN (0 : Nat) (@Option.some Int (1 : Int))) (@TabI.l x19))))) (112 : Nat)) room47) ∧
 (@Nat.le (@HMul.hMul _ _ _ _ (1 : Nat) (112 : Nat)) room47)) →
 (br (@Bool.and (@Bool.and (@Decidable.decide (@LE.le Nat _ (@HAdd.hAdd _ _ _ _ (0 : Nat) (1 : Nat)) (@List.length SessionD (@List.cons SessionD (@SessionD.mk (@OpenA.id x) (0 : Int) (@OpenA.name x) (@VerdictD.mk (0 : Int) (0 : Int) (0 : Int) (@Array.toList UInt8 (@ByteArray.data (@ByteArray.mk (@List.toArray UInt8 (@List.nil UInt8))))) (0 : Int) (@List.nil CommitD) (0 : Int))) (@List.nil SessionD)))) _) (@Decidable.decide (@LE.le Nat _ (@HAdd.hAdd _ _ _ _ (0 : Nat) (@HAdd.hAdd _ _ _ _ (0 : Nat) (@List.length SessionD (@List.take SessionD (@cutN (@List.length SessionD (@TabI.l x19)) (@Option.some Int (1 : Int)) (@Option.none Int)) (@List.drop SessionD (@addN (0 : Nat) (@Option.some Int (1 : Int))) (@TabI.l x19)))))) (@List.length SessionD (@HAppend.hAppend (@List SessionD) (@List SessionD) (@List SessionD) _ (@List.take SessionD (0 : Nat) (@List.drop SessionD (0 : Nat) (@List.nil SessionD))) (@List.take SessionD (@cutN (@List.length SessionD (@TabI.l x19)) (@Option.some Int (1 : Int)) (@Option.none Int)) (@List.drop SessionD (@addN (0 : Nat) (@Option.some Int (1 : Int))) (@TabI.l x19)))))) _)) (@Decidable.decide (@LE.le Nat _ (@HMul.hMul _ _ _ _ (@HAdd.hAdd _ _ _ _ (@HAdd.hAdd _ _ _ _ (0 : Nat) (@List.length SessionD (@List.take SessionD (@cutN (@List.length SessionD (@TabI.l x19)) (@Option.some Int (1 : Int)) (@Option.none Int)) (@List.drop SessionD (@addN (0 : Nat) (@Option.some Int (1 : Int))) (@TabI.l x19))))) (@List.length SessionD (@List.take SessionD (1 : Nat) (@List.drop SessionD (0 : Nat) (@List.cons SessionD (@SessionD.mk (@OpenA.id x) (0 : Int) (@OpenA.name x) (@VerdictD.mk (0 : Int) (0 : Int) (0 : Int) (@Array.toList UInt8 (@ByteArray.data (@ByteArray.mk (@List.toArray UInt8 (@List.nil UInt8))))) (0 : Int) (@List.nil CommitD) (0 : Int))) (@List.nil SessionD)))))) (112 : Nat)) room47) _))
 (∃ x23 : Unit,
 ((@Eq Int (@OpenA.id x) (@Prod.fst Int (@List SessionD) (@openL x))) ∧
 ((@Eq Int (@TabI.size x19) (@OpenA.size x)) ∧
 ((@Eq Nat (0 : Nat) (0 : Nat)) ∧
 ((@Eq Nat (@HAdd.hAdd _ _ _ _ (@HAdd.hAdd _ _ _ _ (0 : Nat) (@List.length SessionD (@List.take SessionD (@cutN (@List.length SessionD (@TabI.l x19)) (@Option.some Int (1 : Int)) (@Option.none Int)) (@List.drop SessionD (@addN (0 : Nat) (@Option.some Int (1 : Int))) (@TabI.l x19))))) (@List.length SessionD (@List.take SessionD (1 : Nat) (@List.drop SessionD (0 : Nat) (@List.cons SessionD (@SessionD.mk (@OpenA.id x) (0 : Int) (@OpenA.name x) (@VerdictD.mk (0 : Int) (0 : Int) (0 : Int) (@Array.toList UInt8 (@ByteArray.data (@ByteArray.mk (@List.toArray UInt8 (@List.nil UInt8))))) (0 : Int) (@List.nil CommitD) (0 : Int))) (@List.nil SessionD)))))) (@List.length SessionD (@Prod.snd Int (@List SessionD) (@openL x)))) ∧
 ((@Eq (@List SessionD) (@HAppend.hAppend (@List SessionD) (@List SessionD) (@List SessionD) _ (@List.take SessionD (@HAdd.hAdd _ _ _ _ (0 : Nat) (@List.length SessionD (@List.take SessionD (@cutN (@List.length SessionD (@TabI.l x19)) (@Option.some Int (1 : Int)) (@Option.none Int)) (@List.drop SessionD (@addN (0 : Nat) (@Option.some Int (1 : Int))) (@TabI.l x19))))) (@List.drop SessionD (0 : Nat) (@HAppend.hAppend (@List SessionD) (@List SessionD) (@List SessionD) _ (@List.take SessionD (0 : Nat) (@List.drop SessionD (0 : Nat) (@List.nil SessionD))) (@List.take SessionD (@cutN (@List.length SessionD (@TabI.l x19)) (@Option.some Int (1 : Int)) (@Option.none Int)) (@List.drop SessionD (@addN (0 : Nat) (@Option.some Int (1 : Int))) (@TabI.l x19)))))) (@List.take SessionD (1 : Nat) (@List.drop SessionD (0 : Nat) (@List.cons SessionD (@SessionD.mk (@OpenA.id x) (0 : Int) (@OpenA.name x) (@VerdictD.mk (0 : Int) (0 : Int) (0 : Int) (@Array.toList UInt8 (@ByteArray.data (@ByteArray.mk (@List.toArray UInt8 (@List.nil UInt8))))) (0 : Int) (@List.nil CommitD) (0 : Int))) (@List.nil SessionD))))) (@Prod.snd Int (@List SessionD) (@openL x))) ∧
 True))))))
 (Bad "check" "ref.go:92")))
 (Bad "check" "ref.go:90")))
 (Bad "check" "ref.go:90"))
 (((@Nat.le (@HMul.hMul _ _ _ _ (@List.length SessionD (@TabI.l x19)) (112 : Nat)) room47) ∧
 (@Nat.le (@HMul.hMul _ _ _ _ (1 : Nat) (112 : Nat)) room47)) →
 (br (@Bool.and (@Bool.and (@Decidable.decide (@LE.le Nat _ (@HAdd.hAdd _ _ _ _ (0 : Nat) (1 : Nat)) (@List.length SessionD (@List.cons SessionD (@SessionD.mk (@OpenA.id x) (0 : Int) (@OpenA.name x) (@VerdictD.mk (0 : Int) (0 : Int) (0 : Int) (@Array.toList UInt8 (@ByteArray.data (@ByteArray.mk (@List.toArray UInt8 (@List.nil UInt8))))) (0 : Int) (@List.nil CommitD) (0 : Int))) (@List.nil SessionD)))) _) (@Decidable.decide (@LE.le Nat _ (@HAdd.hAdd _ _ _ _ (0 : Nat) (@List.length SessionD (@TabI.l x19))) (@List.length SessionD (@TabI.l x19))) _)) (@Decidable.decide (@LE.le Nat _ (@HMul.hMul _ _ _ _ (@HAdd.hAdd _ _ _ _ (@List.length SessionD (@TabI.l x19)) (@List.length SessionD (@List.take SessionD (1 : Nat) (@List.drop SessionD (0 : Nat) (@List.cons SessionD (@SessionD.mk (@OpenA.id x) (0 : Int) (@OpenA.name x) (@VerdictD.mk (0 : Int) (0 : Int) (0 : Int) (@Array.toList UInt8 (@ByteArray.data (@ByteArray.mk (@List.toArray UInt8 (@List.nil UInt8))))) (0 : Int) (@List.nil CommitD) (0 : Int))) (@List.nil SessionD)))))) (112 : Nat)) room47) _))
 (∃ x24 : Unit,
 ((@Eq Int (@OpenA.id x) (@Prod.fst Int (@List SessionD) (@openL x))) ∧
 ((@Eq Int (@TabI.size x19) (@OpenA.size x)) ∧
 ((@Eq Nat (0 : Nat) (0 : Nat)) ∧
 ((@Eq Nat (@HAdd.hAdd _ _ _ _ (@List.length SessionD (@TabI.l x19)) (@List.length SessionD (@List.take SessionD (1 : Nat) (@List.drop SessionD (0 : Nat) (@List.cons SessionD (@SessionD.mk (@OpenA.id x) (0 : Int) (@OpenA.name x) (@VerdictD.mk (0 : Int) (0 : Int) (0 : Int) (@Array.toList UInt8 (@ByteArray.data (@ByteArray.mk (@List.toArray UInt8 (@List.nil UInt8))))) (0 : Int) (@List.nil CommitD) (0 : Int))) (@List.nil SessionD)))))) (@List.length SessionD (@Prod.snd Int (@List SessionD) (@openL x)))) ∧
 ((@Eq (@List SessionD) (@HAppend.hAppend (@List SessionD) (@List SessionD) (@List SessionD) _ (@List.take SessionD (@List.length SessionD (@TabI.l x19)) (@List.drop SessionD (0 : Nat) (@TabI.l x19))) (@List.take SessionD (1 : Nat) (@List.drop SessionD (0 : Nat) (@List.cons SessionD (@SessionD.mk (@OpenA.id x) (0 : Int) (@OpenA.name x) (@VerdictD.mk (0 : Int) (0 : Int) (0 : Int) (@Array.toList UInt8 (@ByteArray.data (@ByteArray.mk (@List.toArray UInt8 (@List.nil UInt8))))) (0 : Int) (@List.nil CommitD) (0 : Int))) (@List.nil SessionD))))) (@Prod.snd Int (@List SessionD) (@openL x))) ∧
 True))))))
 (Bad "check" "ref.go:92"))))))))))))))))))))) := by kernel_rfl

theorem rask_vc (x : raskT.γ) : evCall raskE (ev raskE 1000) 23 (raskT.args x) ⟨raskT.blks x, raskT.n0, []⟩ (fun _ _ => False) (raskT.ends x) = (
(∃ x1 : TabI,
 ((@Eq Int (@AskA.id x) (@TabI.n x1)) ∧
 ((@Eq Int (@AskA.size x) (@TabI.size x1)) ∧
 ((@Eq Nat (0 : Nat) (0 : Nat)) ∧
 ((@Eq Nat (@List.length SessionD (@AskA.l x)) (@List.length SessionD (@TabI.l x1))) ∧
 ((@Eq (@List SessionD) (@AskA.l x) (@TabI.l x1)) ∧
 (True ∧
 (∀ x2 : Unit,
 (True →
 (br (@Decidable.decide (@LT.lt Int _ (@idxF (@idIs (@TabI.n x1)) (@TabI.l x1)) (0 : Int)) _)
 (∃ x3 : Unit,
 ((@Eq Int (6 : Int) (@VerdictD.code (@Prod.fst VerdictD Bool (@Prod.fst (@Prod VerdictD Bool) (@List SessionD) (@askL x))))) ∧
 ((@Eq Int (0 : Int) (@VerdictD.session (@Prod.fst VerdictD Bool (@Prod.fst (@Prod VerdictD Bool) (@List SessionD) (@askL x))))) ∧
 ((@Eq Int (0 : Int) (@VerdictD.rev (@Prod.fst VerdictD Bool (@Prod.fst (@Prod VerdictD Bool) (@List SessionD) (@askL x))))) ∧
 ((@Eq Bs (@Array.toList UInt8 (@ByteArray.data (@ByteArray.mk (@List.toArray UInt8 (@List.nil UInt8))))) (@VerdictD.path (@Prod.fst VerdictD Bool (@Prod.fst (@Prod VerdictD Bool) (@List SessionD) (@askL x))))) ∧
 ((@Eq Int (0 : Int) (@VerdictD.digest (@Prod.fst VerdictD Bool (@Prod.fst (@Prod VerdictD Bool) (@List SessionD) (@askL x))))) ∧
 ((@Eq (@List CommitD) (@List.nil CommitD) (@VerdictD.commits (@Prod.fst VerdictD Bool (@Prod.fst (@Prod VerdictD Bool) (@List SessionD) (@askL x))))) ∧
 ((@Eq Int (0 : Int) (@VerdictD.member (@Prod.fst VerdictD Bool (@Prod.fst (@Prod VerdictD Bool) (@List SessionD) (@askL x))))) ∧
 ((@Eq Bool Bool.true (@Prod.snd VerdictD Bool (@Prod.fst (@Prod VerdictD Bool) (@List SessionD) (@askL x)))) ∧
 ((@Eq Int (@TabI.size x1) (@AskA.size x)) ∧
 ((@Eq Nat (0 : Nat) (0 : Nat)) ∧
 ((@Eq Nat (@List.length SessionD (@TabI.l x1)) (@List.length SessionD (@Prod.snd (@Prod VerdictD Bool) (@List SessionD) (@askL x)))) ∧
 ((@Eq (@List SessionD) (@TabI.l x1) (@Prod.snd (@Prod VerdictD Bool) (@List SessionD) (@askL x))) ∧
 True)))))))))))))
 (br (@Decidable.decide ((@LE.le Int _ (0 : Int) (@idxF (@idIs (@TabI.n x1)) (@TabI.l x1))) ∧
 (@LT.lt Int _ (@idxF (@idIs (@TabI.n x1)) (@TabI.l x1)) (Nat.cast (@List.length SessionD (@TabI.l x1)) : Int))) _)
 (br (@Decidable.decide (@LT.lt Nat _ (@HAdd.hAdd _ _ _ _ (0 : Nat) (@Int.toNat (@idxF (@idIs (@TabI.n x1)) (@TabI.l x1)))) (@List.length SessionD (@TabI.l x1))) _)
 (∃ x4 : TabI,
 ((@Eq Int (@idxF (@idIs (@TabI.n x1)) (@TabI.l x1)) (@TabI.n x4)) ∧
 ((@Eq Int (@TabI.size x1) (@TabI.size x4)) ∧
 ((@Eq Nat (0 : Nat) (0 : Nat)) ∧
 ((@Eq Nat (@List.length SessionD (@TabI.l x1)) (@List.length SessionD (@TabI.l x4))) ∧
 ((@Eq (@List SessionD) (@TabI.l x1) (@TabI.l x4)) ∧
 (((@Eq Bool (@Decidable.decide ((@LE.le Int _ (0 : Int) (@TabI.n x4)) ∧
 (@LT.lt Int _ (@TabI.n x4) (Nat.cast (@List.length SessionD (@TabI.l x4)) : Int))) _) Bool.true) ∧
 (@Eq Bool (@Decidable.decide (@LE.le Nat _ (@List.length SessionD (@TabI.l x4)) (1024 : Nat)) _) Bool.true)) ∧
 (∀ x5 : Unit,
 (True →
 (br (@Decidable.decide (@LT.lt Int _ (@AskA.seq x) (1 : Int)) _)
 (∃ x6 : Unit,
 ((@Eq Int (5 : Int) (@VerdictD.code (@Prod.fst VerdictD Bool (@Prod.fst (@Prod VerdictD Bool) (@List SessionD) (@askL x))))) ∧
 ((@Eq Int (0 : Int) (@VerdictD.session (@Prod.fst VerdictD Bool (@Prod.fst (@Prod VerdictD Bool) (@List SessionD) (@askL x))))) ∧
 ((@Eq Int (0 : Int) (@VerdictD.rev (@Prod.fst VerdictD Bool (@Prod.fst (@Prod VerdictD Bool) (@List SessionD) (@askL x))))) ∧
 ((@Eq Bs (@Array.toList UInt8 (@ByteArray.data (@ByteArray.mk (@List.toArray UInt8 (@List.nil UInt8))))) (@VerdictD.path (@Prod.fst VerdictD Bool (@Prod.fst (@Prod VerdictD Bool) (@List SessionD) (@askL x))))) ∧
 ((@Eq Int (0 : Int) (@VerdictD.digest (@Prod.fst VerdictD Bool (@Prod.fst (@Prod VerdictD Bool) (@List SessionD) (@askL x))))) ∧
 ((@Eq (@List CommitD) (@List.nil CommitD) (@VerdictD.commits (@Prod.fst VerdictD Bool (@Prod.fst (@Prod VerdictD Bool) (@List SessionD) (@askL x))))) ∧
 ((@Eq Int (0 : Int) (@VerdictD.member (@Prod.fst VerdictD Bool (@Prod.fst (@Prod VerdictD Bool) (@List SessionD) (@askL x))))) ∧
 ((@Eq Bool Bool.true (@Prod.snd VerdictD Bool (@Prod.fst (@Prod VerdictD Bool) (@List SessionD) (@askL x)))) ∧
 ((@Eq Int (@TabI.size x4) (@AskA.size x)) ∧
 ((@Eq Nat (0 : Nat) (0 : Nat)) ∧
 ((@Eq Nat (@List.length SessionD (@usedL (@TabI.l x4) (@TabI.n x4))) (@List.length SessionD (@Prod.snd (@Prod VerdictD Bool) (@List SessionD) (@askL x)))) ∧
 ((@Eq (@List SessionD) (@usedL (@TabI.l x4) (@TabI.n x4)) (@Prod.snd (@Prod VerdictD Bool) (@List SessionD) (@askL x))) ∧
 True)))))))))))))
 (br (@Decidable.decide (@LT.lt Int _ (@AskA.seq x) (@SessionD.seq (@List.getD SessionD (@TabI.l x1) (@HAdd.hAdd _ _ _ _ (0 : Nat) (@Int.toNat (@idxF (@idIs (@TabI.n x1)) (@TabI.l x1)))) (@SessionD.mk (0 : Int) (0 : Int) (@List.nil UInt8) VerdictD.dflt)))) _)
 (∃ x7 : Unit,
 ((@Eq Int (7 : Int) (@VerdictD.code (@Prod.fst VerdictD Bool (@Prod.fst (@Prod VerdictD Bool) (@List SessionD) (@askL x))))) ∧
 ((@Eq Int (0 : Int) (@VerdictD.session (@Prod.fst VerdictD Bool (@Prod.fst (@Prod VerdictD Bool) (@List SessionD) (@askL x))))) ∧
 ((@Eq Int (0 : Int) (@VerdictD.rev (@Prod.fst VerdictD Bool (@Prod.fst (@Prod VerdictD Bool) (@List SessionD) (@askL x))))) ∧
 ((@Eq Bs (@Array.toList UInt8 (@ByteArray.data (@ByteArray.mk (@List.toArray UInt8 (@List.nil UInt8))))) (@VerdictD.path (@Prod.fst VerdictD Bool (@Prod.fst (@Prod VerdictD Bool) (@List SessionD) (@askL x))))) ∧
 ((@Eq Int (0 : Int) (@VerdictD.digest (@Prod.fst VerdictD Bool (@Prod.fst (@Prod VerdictD Bool) (@List SessionD) (@askL x))))) ∧
 ((@Eq (@List CommitD) (@List.nil CommitD) (@VerdictD.commits (@Prod.fst VerdictD Bool (@Prod.fst (@Prod VerdictD Bool) (@List SessionD) (@askL x))))) ∧
 ((@Eq Int (0 : Int) (@VerdictD.member (@Prod.fst VerdictD Bool (@Prod.fst (@Prod VerdictD Bool) (@List SessionD) (@askL x))))) ∧
 ((@Eq Bool Bool.true (@Prod.snd VerdictD Bool (@Prod.fst (@Prod VerdictD Bool) (@List SessionD) (@askL x)))) ∧
 ((@Eq Int (@TabI.size x4) (@AskA.size x)) ∧
 ((@Eq Nat (0 : Nat) (0 : Nat)) ∧
 ((@Eq Nat (@List.length SessionD (@usedL (@TabI.l x4) (@TabI.n x4))) (@List.length SessionD (@Prod.snd (@Prod VerdictD Bool) (@List SessionD) (@askL x)))) ∧
 ((@Eq (@List SessionD) (@usedL (@TabI.l x4) (@TabI.n x4)) (@Prod.snd (@Prod VerdictD Bool) (@List SessionD) (@askL x))) ∧
 True)))))))))))))
 (br (@BEq.beq Int _ (@AskA.seq x) (@SessionD.seq (@List.getD SessionD (@TabI.l x1) (@HAdd.hAdd _ _ _ _ (0 : Nat) (@Int.toNat (@idxF (@idIs (@TabI.n x1)) (@TabI.l x1)))) (@SessionD.mk (0 : Int) (0 : Int) (@List.nil UInt8) VerdictD.dflt))))
 (∃ x8 : VerdictD,
 ((@Eq Int (@VerdictD.code (@SessionD.last (@List.getD SessionD (@TabI.l x1) (@HAdd.hAdd _ _ _ _ (0 : Nat) (@Int.toNat (@idxF (@idIs (@TabI.n x1)) (@TabI.l x1)))) (@SessionD.mk (0 : Int) (0 : Int) (@List.nil UInt8) VerdictD.dflt)))) (@VerdictD.code x8)) ∧
 ((@Eq Int (@VerdictD.session (@SessionD.last (@List.getD SessionD (@TabI.l x1) (@HAdd.hAdd _ _ _ _ (0 : Nat) (@Int.toNat (@idxF (@idIs (@TabI.n x1)) (@TabI.l x1)))) (@SessionD.mk (0 : Int) (0 : Int) (@List.nil UInt8) VerdictD.dflt)))) (@VerdictD.session x8)) ∧
 ((@Eq Int (@VerdictD.rev (@SessionD.last (@List.getD SessionD (@TabI.l x1) (@HAdd.hAdd _ _ _ _ (0 : Nat) (@Int.toNat (@idxF (@idIs (@TabI.n x1)) (@TabI.l x1)))) (@SessionD.mk (0 : Int) (0 : Int) (@List.nil UInt8) VerdictD.dflt)))) (@VerdictD.rev x8)) ∧
 ((@Eq Bs (@VerdictD.path (@SessionD.last (@List.getD SessionD (@TabI.l x1) (@HAdd.hAdd _ _ _ _ (0 : Nat) (@Int.toNat (@idxF (@idIs (@TabI.n x1)) (@TabI.l x1)))) (@SessionD.mk (0 : Int) (0 : Int) (@List.nil UInt8) VerdictD.dflt)))) (@VerdictD.path x8)) ∧
 ((@Eq Int (@VerdictD.digest (@SessionD.last (@List.getD SessionD (@TabI.l x1) (@HAdd.hAdd _ _ _ _ (0 : Nat) (@Int.toNat (@idxF (@idIs (@TabI.n x1)) (@TabI.l x1)))) (@SessionD.mk (0 : Int) (0 : Int) (@List.nil UInt8) VerdictD.dflt)))) (@VerdictD.digest x8)) ∧
 ((@Eq (@List CommitD) (@VerdictD.commits (@SessionD.last (@List.getD SessionD (@TabI.l x1) (@HAdd.hAdd _ _ _ _ (0 : Nat) (@Int.toNat (@idxF (@idIs (@TabI.n x1)) (@TabI.l x1)))) (@SessionD.mk (0 : Int) (0 : Int) (@List.nil UInt8) VerdictD.dflt)))) (@VerdictD.commits x8)) ∧
 ((@Eq Int (@VerdictD.member (@SessionD.last (@List.getD SessionD (@TabI.l x1) (@HAdd.hAdd _ _ _ _ (0 : Nat) (@Int.toNat (@idxF (@idIs (@TabI.n x1)) (@TabI.l x1)))) (@SessionD.mk (0 : Int) (0 : Int) (@List.nil UInt8) VerdictD.dflt)))) (@VerdictD.member x8)) ∧
 (True ∧
 (∀ x9 : Unit,
 (True →
 (∃ x10 : Unit,
 ((@Eq Int (@VerdictD.code x8) (@VerdictD.code (@Prod.fst VerdictD Bool (@Prod.fst (@Prod VerdictD Bool) (@List SessionD) (@askL x))))) ∧
 ((@Eq Int (@VerdictD.session x8) (@VerdictD.session (@Prod.fst VerdictD Bool (@Prod.fst (@Prod VerdictD Bool) (@List SessionD) (@askL x))))) ∧
 ((@Eq Int (@VerdictD.rev x8) (@VerdictD.rev (@Prod.fst VerdictD Bool (@Prod.fst (@Prod VerdictD Bool) (@List SessionD) (@askL x))))) ∧
 ((@Eq Bs (@VerdictD.path x8) (@VerdictD.path (@Prod.fst VerdictD Bool (@Prod.fst (@Prod VerdictD Bool) (@List SessionD) (@askL x))))) ∧
 ((@Eq Int (@VerdictD.digest x8) (@VerdictD.digest (@Prod.fst VerdictD Bool (@Prod.fst (@Prod VerdictD Bool) (@List SessionD) (@askL x))))) ∧
 ((@Eq (@List CommitD) (@VerdictD.commits x8) (@VerdictD.commits (@Prod.fst VerdictD Bool (@Prod.fst (@Prod VerdictD Bool) (@List SessionD) (@askL x))))) ∧
 ((@Eq Int (@VerdictD.member x8) (@VerdictD.member (@Prod.fst VerdictD Bool (@Prod.fst (@Prod VerdictD Bool) (@List SessionD) (@askL x))))) ∧
 ((@Eq Bool Bool.true (@Prod.snd VerdictD Bool (@Prod.fst (@Prod VerdictD Bool) (@List SessionD) (@askL x)))) ∧
 ((@Eq Int (@TabI.size x4) (@AskA.size x)) ∧
 ((@Eq Nat (0 : Nat) (0 : Nat)) ∧
 ((@Eq Nat (@List.length SessionD (@usedL (@TabI.l x4) (@TabI.n x4))) (@List.length SessionD (@Prod.snd (@Prod VerdictD Bool) (@List SessionD) (@askL x)))) ∧
 ((@Eq (@List SessionD) (@usedL (@TabI.l x4) (@TabI.n x4)) (@Prod.snd (@Prod VerdictD Bool) (@List SessionD) (@askL x))) ∧
 True))))))))))))))))))))))))
 (∃ x11 : Unit,
 ((@Eq Int (0 : Int) (@VerdictD.code (@Prod.fst VerdictD Bool (@Prod.fst (@Prod VerdictD Bool) (@List SessionD) (@askL x))))) ∧
 ((@Eq Int (0 : Int) (@VerdictD.session (@Prod.fst VerdictD Bool (@Prod.fst (@Prod VerdictD Bool) (@List SessionD) (@askL x))))) ∧
 ((@Eq Int (0 : Int) (@VerdictD.rev (@Prod.fst VerdictD Bool (@Prod.fst (@Prod VerdictD Bool) (@List SessionD) (@askL x))))) ∧
 ((@Eq Bs (@Array.toList UInt8 (@ByteArray.data (@ByteArray.mk (@List.toArray UInt8 (@List.nil UInt8))))) (@VerdictD.path (@Prod.fst VerdictD Bool (@Prod.fst (@Prod VerdictD Bool) (@List SessionD) (@askL x))))) ∧
 ((@Eq Int (0 : Int) (@VerdictD.digest (@Prod.fst VerdictD Bool (@Prod.fst (@Prod VerdictD Bool) (@List SessionD) (@askL x))))) ∧
 ((@Eq (@List CommitD) (@List.nil CommitD) (@VerdictD.commits (@Prod.fst VerdictD Bool (@Prod.fst (@Prod VerdictD Bool) (@List SessionD) (@askL x))))) ∧
 ((@Eq Int (0 : Int) (@VerdictD.member (@Prod.fst VerdictD Bool (@Prod.fst (@Prod VerdictD Bool) (@List SessionD) (@askL x))))) ∧
 ((@Eq Bool Bool.false (@Prod.snd VerdictD Bool (@Prod.fst (@Prod VerdictD Bool) (@List SessionD) (@askL x)))) ∧
 ((@Eq Int (@TabI.size x4) (@AskA.size x)) ∧
 ((@Eq Nat (0 : Nat) (0 : Nat)) ∧
 ((@Eq Nat (@List.length SessionD (@usedL (@TabI.l x4) (@TabI.n x4))) (@List.length SessionD (@Prod.snd (@Prod VerdictD Bool) (@List SessionD) (@askL x)))) ∧
 ((@Eq (@List SessionD) (@usedL (@TabI.l x4) (@TabI.n x4)) (@Prod.snd (@Prod VerdictD Bool) (@List SessionD) (@askL x))) ∧
 True)))))))))))))))))))))))))
 (Bad "check" "ref.go:102"))
 (Bad "check" "ref.go:102"))))))))))))) := by kernel_rfl

theorem rdone_vc (x : rdoneT.γ) : evCall raskE (ev raskE 1000) 20 (rdoneT.args x) ⟨rdoneT.blks x, rdoneT.n0, []⟩ (fun _ _ => False) (rdoneT.ends x) = (
(∃ x1 : TabI,
 ((@Eq Int (@DoneA.id x) (@TabI.n x1)) ∧
 ((@Eq Int (@DoneA.size x) (@TabI.size x1)) ∧
 ((@Eq Nat (0 : Nat) (0 : Nat)) ∧
 ((@Eq Nat (@List.length SessionD (@DoneA.l x)) (@List.length SessionD (@TabI.l x1))) ∧
 ((@Eq (@List SessionD) (@DoneA.l x) (@TabI.l x1)) ∧
 (True ∧
 (∀ x2 : Unit,
 (True →
 (br (@Decidable.decide (@LT.lt Int _ (@idxF (@idIs (@TabI.n x1)) (@TabI.l x1)) (0 : Int)) _)
 (∃ x3 : Unit,
 ((@Eq Bool Bool.false (@Prod.fst Bool (@List SessionD) (@doneL x))) ∧
 ((@Eq Int (@TabI.size x1) (@DoneA.size x)) ∧
 ((@Eq Nat (0 : Nat) (0 : Nat)) ∧
 ((@Eq Nat (@List.length SessionD (@TabI.l x1)) (@List.length SessionD (@Prod.snd Bool (@List SessionD) (@doneL x)))) ∧
 ((@Eq (@List SessionD) (@TabI.l x1) (@Prod.snd Bool (@List SessionD) (@doneL x))) ∧
 True))))))
 (br (@Decidable.decide ((@LE.le Int _ (0 : Int) (@idxF (@idIs (@TabI.n x1)) (@TabI.l x1))) ∧
 (@LT.lt Int _ (@idxF (@idIs (@TabI.n x1)) (@TabI.l x1)) (Nat.cast (@List.length SessionD (@TabI.l x1)) : Int))) _)
 (br (@Decidable.decide (@LT.lt Nat _ (@HAdd.hAdd _ _ _ _ (0 : Nat) (@Int.toNat (@idxF (@idIs (@TabI.n x1)) (@TabI.l x1)))) (@List.length SessionD (@TabI.l x1))) _)
 (br (@Decidable.decide (@LE.le Int _ (@DoneA.seq x) (@SessionD.seq (@List.getD SessionD (@TabI.l x1) (@HAdd.hAdd _ _ _ _ (0 : Nat) (@Int.toNat (@idxF (@idIs (@TabI.n x1)) (@TabI.l x1)))) (@SessionD.mk (0 : Int) (0 : Int) (@List.nil UInt8) VerdictD.dflt)))) _)
 (∃ x4 : Unit,
 ((@Eq Bool Bool.false (@Prod.fst Bool (@List SessionD) (@doneL x))) ∧
 ((@Eq Int (@TabI.size x1) (@DoneA.size x)) ∧
 ((@Eq Nat (0 : Nat) (0 : Nat)) ∧
 ((@Eq Nat (@List.length SessionD (@TabI.l x1)) (@List.length SessionD (@Prod.snd Bool (@List SessionD) (@doneL x)))) ∧
 ((@Eq (@List SessionD) (@TabI.l x1) (@Prod.snd Bool (@List SessionD) (@doneL x))) ∧
 True))))))
 (br (@Decidable.decide ((@LE.le Int _ (0 : Int) (@idxF (@idIs (@TabI.n x1)) (@TabI.l x1))) ∧
 (@LT.lt Int _ (@idxF (@idIs (@TabI.n x1)) (@TabI.l x1)) (Nat.cast (@List.length SessionD (@TabI.l x1)) : Int))) _)
 (br (@Bool.and Bool.true (@Decidable.decide (@LT.lt Nat _ (@HAdd.hAdd _ _ _ _ (0 : Nat) (@Int.toNat (@idxF (@idIs (@TabI.n x1)) (@TabI.l x1)))) (@List.length SessionD (@TabI.l x1))) _))
 (∃ x5 : VerdictD,
 ((@Eq Int (@VerdictD.code (@DoneA.v x)) (@VerdictD.code x5)) ∧
 ((@Eq Int (@VerdictD.session (@DoneA.v x)) (@VerdictD.session x5)) ∧
 ((@Eq Int (@VerdictD.rev (@DoneA.v x)) (@VerdictD.rev x5)) ∧
 ((@Eq Bs (@VerdictD.path (@DoneA.v x)) (@VerdictD.path x5)) ∧
 ((@Eq Int (@VerdictD.digest (@DoneA.v x)) (@VerdictD.digest x5)) ∧
 ((@Eq (@List CommitD) (@VerdictD.commits (@DoneA.v x)) (@VerdictD.commits x5)) ∧
 ((@Eq Int (@VerdictD.member (@DoneA.v x)) (@VerdictD.member x5)) ∧
 (True ∧
 (∀ x6 : Unit,
 (True →
 (br (@Decidable.decide ((@LE.le Int _ (0 : Int) (@idxF (@idIs (@TabI.n x1)) (@TabI.l x1))) ∧
 (@LT.lt Int _ (@idxF (@idIs (@TabI.n x1)) (@TabI.l x1)) (Nat.cast (@List.length SessionD (@TabI.l x1)) : Int))) _)
 (br (@Bool.and Bool.true (@Decidable.decide (@LT.lt Nat _ (@HAdd.hAdd _ _ _ _ (0 : Nat) (@Int.toNat (@idxF (@idIs (@TabI.n x1)) (@TabI.l x1)))) (@List.length SessionD (@List.set SessionD (@TabI.l x1) (@HAdd.hAdd _ _ _ _ (0 : Nat) (@Int.toNat (@idxF (@idIs (@TabI.n x1)) (@TabI.l x1)))) (@SessionD.mk (@SessionD.id (@List.getD SessionD (@TabI.l x1) (@HAdd.hAdd _ _ _ _ (0 : Nat) (@Int.toNat (@idxF (@idIs (@TabI.n x1)) (@TabI.l x1)))) (@SessionD.mk (0 : Int) (0 : Int) (@List.nil UInt8) VerdictD.dflt))) (@DoneA.seq x) (@SessionD.name (@List.getD SessionD (@TabI.l x1) (@HAdd.hAdd _ _ _ _ (0 : Nat) (@Int.toNat (@idxF (@idIs (@TabI.n x1)) (@TabI.l x1)))) (@SessionD.mk (0 : Int) (0 : Int) (@List.nil UInt8) VerdictD.dflt))) (@VerdictD.mk (@VerdictD.code (@SessionD.last (@List.getD SessionD (@TabI.l x1) (@HAdd.hAdd _ _ _ _ (0 : Nat) (@Int.toNat (@idxF (@idIs (@TabI.n x1)) (@TabI.l x1)))) (@SessionD.mk (0 : Int) (0 : Int) (@List.nil UInt8) VerdictD.dflt)))) (@VerdictD.session (@SessionD.last (@List.getD SessionD (@TabI.l x1) (@HAdd.hAdd _ _ _ _ (0 : Nat) (@Int.toNat (@idxF (@idIs (@TabI.n x1)) (@TabI.l x1)))) (@SessionD.mk (0 : Int) (0 : Int) (@List.nil UInt8) VerdictD.dflt)))) (@VerdictD.rev (@SessionD.last (@List.getD SessionD (@TabI.l x1) (@HAdd.hAdd _ _ _ _ (0 : Nat) (@Int.toNat (@idxF (@idIs (@TabI.n x1)) (@TabI.l x1)))) (@SessionD.mk (0 : Int) (0 : Int) (@List.nil UInt8) VerdictD.dflt)))) (@VerdictD.path (@SessionD.last (@List.getD SessionD (@TabI.l x1) (@HAdd.hAdd _ _ _ _ (0 : Nat) (@Int.toNat (@idxF (@idIs (@TabI.n x1)) (@TabI.l x1)))) (@SessionD.mk (0 : Int) (0 : Int) (@List.nil UInt8) VerdictD.dflt)))) (@VerdictD.digest (@SessionD.last (@List.getD SessionD (@TabI.l x1) (@HAdd.hAdd _ _ _ _ (0 : Nat) (@Int.toNat (@idxF (@idIs (@TabI.n x1)) (@TabI.l x1)))) (@SessionD.mk (0 : Int) (0 : Int) (@List.nil UInt8) VerdictD.dflt)))) (@VerdictD.commits (@SessionD.last (@List.getD SessionD (@TabI.l x1) (@HAdd.hAdd _ _ _ _ (0 : Nat) (@Int.toNat (@idxF (@idIs (@TabI.n x1)) (@TabI.l x1)))) (@SessionD.mk (0 : Int) (0 : Int) (@List.nil UInt8) VerdictD.dflt)))) (@VerdictD.member (@SessionD.last (@List.getD SessionD (@TabI.l x1) (@HAdd.hAdd _ _ _ _ (0 : Nat) (@Int.toNat (@idxF (@idIs (@TabI.n x1)) (@TabI.l x1)))) (@SessionD.mk (0 : Int) (0 : Int) (@List.nil UInt8) VerdictD.dflt))))))))) _))
 (∃ x7 : Unit,
 ((@Eq Bool Bool.true (@Prod.fst Bool (@List SessionD) (@doneL x))) ∧
 ((@Eq Int (@TabI.size x1) (@DoneA.size x)) ∧
 ((@Eq Nat (0 : Nat) (0 : Nat)) ∧
 ((@Eq Nat (@List.length SessionD (@TabI.l x1)) (@List.length SessionD (@Prod.snd Bool (@List SessionD) (@doneL x)))) ∧
 ((@Eq (@List SessionD) (@List.set SessionD (@List.set SessionD (@TabI.l x1) (@HAdd.hAdd _ _ _ _ (0 : Nat) (@Int.toNat (@idxF (@idIs (@TabI.n x1)) (@TabI.l x1)))) (@SessionD.mk (@SessionD.id (@List.getD SessionD (@TabI.l x1) (@HAdd.hAdd _ _ _ _ (0 : Nat) (@Int.toNat (@idxF (@idIs (@TabI.n x1)) (@TabI.l x1)))) (@SessionD.mk (0 : Int) (0 : Int) (@List.nil UInt8) VerdictD.dflt))) (@DoneA.seq x) (@SessionD.name (@List.getD SessionD (@TabI.l x1) (@HAdd.hAdd _ _ _ _ (0 : Nat) (@Int.toNat (@idxF (@idIs (@TabI.n x1)) (@TabI.l x1)))) (@SessionD.mk (0 : Int) (0 : Int) (@List.nil UInt8) VerdictD.dflt))) (@VerdictD.mk (@VerdictD.code (@SessionD.last (@List.getD SessionD (@TabI.l x1) (@HAdd.hAdd _ _ _ _ (0 : Nat) (@Int.toNat (@idxF (@idIs (@TabI.n x1)) (@TabI.l x1)))) (@SessionD.mk (0 : Int) (0 : Int) (@List.nil UInt8) VerdictD.dflt)))) (@VerdictD.session (@SessionD.last (@List.getD SessionD (@TabI.l x1) (@HAdd.hAdd _ _ _ _ (0 : Nat) (@Int.toNat (@idxF (@idIs (@TabI.n x1)) (@TabI.l x1)))) (@SessionD.mk (0 : Int) (0 : Int) (@List.nil UInt8) VerdictD.dflt)))) (@VerdictD.rev (@SessionD.last (@List.getD SessionD (@TabI.l x1) (@HAdd.hAdd _ _ _ _ (0 : Nat) (@Int.toNat (@idxF (@idIs (@TabI.n x1)) (@TabI.l x1)))) (@SessionD.mk (0 : Int) (0 : Int) (@List.nil UInt8) VerdictD.dflt)))) (@VerdictD.path (@SessionD.last (@List.getD SessionD (@TabI.l x1) (@HAdd.hAdd _ _ _ _ (0 : Nat) (@Int.toNat (@idxF (@idIs (@TabI.n x1)) (@TabI.l x1)))) (@SessionD.mk (0 : Int) (0 : Int) (@List.nil UInt8) VerdictD.dflt)))) (@VerdictD.digest (@SessionD.last (@List.getD SessionD (@TabI.l x1) (@HAdd.hAdd _ _ _ _ (0 : Nat) (@Int.toNat (@idxF (@idIs (@TabI.n x1)) (@TabI.l x1)))) (@SessionD.mk (0 : Int) (0 : Int) (@List.nil UInt8) VerdictD.dflt)))) (@VerdictD.commits (@SessionD.last (@List.getD SessionD (@TabI.l x1) (@HAdd.hAdd _ _ _ _ (0 : Nat) (@Int.toNat (@idxF (@idIs (@TabI.n x1)) (@TabI.l x1)))) (@SessionD.mk (0 : Int) (0 : Int) (@List.nil UInt8) VerdictD.dflt)))) (@VerdictD.member (@SessionD.last (@List.getD SessionD (@TabI.l x1) (@HAdd.hAdd _ _ _ _ (0 : Nat) (@Int.toNat (@idxF (@idIs (@TabI.n x1)) (@TabI.l x1)))) (@SessionD.mk (0 : Int) (0 : Int) (@List.nil UInt8) VerdictD.dflt))))))) (@HAdd.hAdd _ _ _ _ (0 : Nat) (@Int.toNat (@idxF (@idIs (@TabI.n x1)) (@TabI.l x1)))) (@SessionD.mk (@SessionD.id (@List.getD SessionD (@List.set SessionD (@TabI.l x1) (@HAdd.hAdd _ _ _ _ (0 : Nat) (@Int.toNat (@idxF (@idIs (@TabI.n x1)) (@TabI.l x1)))) (@SessionD.mk (@SessionD.id (@List.getD SessionD (@TabI.l x1) (@HAdd.hAdd _ _ _ _ (0 : Nat) (@Int.toNat (@idxF (@idIs (@TabI.n x1)) (@TabI.l x1)))) (@SessionD.mk (0 : Int) (0 : Int) (@List.nil UInt8) VerdictD.dflt))) (@DoneA.seq x) (@SessionD.name (@List.getD SessionD (@TabI.l x1) (@HAdd.hAdd _ _ _ _ (0 : Nat) (@Int.toNat (@idxF (@idIs (@TabI.n x1)) (@TabI.l x1)))) (@SessionD.mk (0 : Int) (0 : Int) (@List.nil UInt8) VerdictD.dflt))) (@VerdictD.mk (@VerdictD.code (@SessionD.last (@List.getD SessionD (@TabI.l x1) (@HAdd.hAdd _ _ _ _ (0 : Nat) (@Int.toNat (@idxF (@idIs (@TabI.n x1)) (@TabI.l x1)))) (@SessionD.mk (0 : Int) (0 : Int) (@List.nil UInt8) VerdictD.dflt)))) (@VerdictD.session (@SessionD.last (@List.getD SessionD (@TabI.l x1) (@HAdd.hAdd _ _ _ _ (0 : Nat) (@Int.toNat (@idxF (@idIs (@TabI.n x1)) (@TabI.l x1)))) (@SessionD.mk (0 : Int) (0 : Int) (@List.nil UInt8) VerdictD.dflt)))) (@VerdictD.rev (@SessionD.last (@List.getD SessionD (@TabI.l x1) (@HAdd.hAdd _ _ _ _ (0 : Nat) (@Int.toNat (@idxF (@idIs (@TabI.n x1)) (@TabI.l x1)))) (@SessionD.mk (0 : Int) (0 : Int) (@List.nil UInt8) VerdictD.dflt)))) (@VerdictD.path (@SessionD.last (@List.getD SessionD (@TabI.l x1) (@HAdd.hAdd _ _ _ _ (0 : Nat) (@Int.toNat (@idxF (@idIs (@TabI.n x1)) (@TabI.l x1)))) (@SessionD.mk (0 : Int) (0 : Int) (@List.nil UInt8) VerdictD.dflt)))) (@VerdictD.digest (@SessionD.last (@List.getD SessionD (@TabI.l x1) (@HAdd.hAdd _ _ _ _ (0 : Nat) (@Int.toNat (@idxF (@idIs (@TabI.n x1)) (@TabI.l x1)))) (@SessionD.mk (0 : Int) (0 : Int) (@List.nil UInt8) VerdictD.dflt)))) (@VerdictD.commits (@SessionD.last (@List.getD SessionD (@TabI.l x1) (@HAdd.hAdd _ _ _ _ (0 : Nat) (@Int.toNat (@idxF (@idIs (@TabI.n x1)) (@TabI.l x1)))) (@SessionD.mk (0 : Int) (0 : Int) (@List.nil UInt8) VerdictD.dflt)))) (@VerdictD.member (@SessionD.last (@List.getD SessionD (@TabI.l x1) (@HAdd.hAdd _ _ _ _ (0 : Nat) (@Int.toNat (@idxF (@idIs (@TabI.n x1)) (@TabI.l x1)))) (@SessionD.mk (0 : Int) (0 : Int) (@List.nil UInt8) VerdictD.dflt))))))) (@HAdd.hAdd _ _ _ _ (0 : Nat) (@Int.toNat (@idxF (@idIs (@TabI.n x1)) (@TabI.l x1)))) (@SessionD.mk (0 : Int) (0 : Int) (@List.nil UInt8) VerdictD.dflt))) (@SessionD.seq (@List.getD SessionD (@List.set SessionD (@TabI.l x1) (@HAdd.hAdd _ _ _ _ (0 : Nat) (@Int.toNat (@idxF (@idIs (@TabI.n x1)) (@TabI.l x1)))) (@SessionD.mk (@SessionD.id (@List.getD SessionD (@TabI.l x1) (@HAdd.hAdd _ _ _ _ (0 : Nat) (@Int.toNat (@idxF (@idIs (@TabI.n x1)) (@TabI.l x1)))) (@SessionD.mk (0 : Int) (0 : Int) (@List.nil UInt8) VerdictD.dflt))) (@DoneA.seq x) (@SessionD.name (@List.getD SessionD (@TabI.l x1) (@HAdd.hAdd _ _ _ _ (0 : Nat) (@Int.toNat (@idxF (@idIs (@TabI.n x1)) (@TabI.l x1)))) (@SessionD.mk (0 : Int) (0 : Int) (@List.nil UInt8) VerdictD.dflt))) (@VerdictD.mk (@VerdictD.code (@SessionD.last (@List.getD SessionD (@TabI.l x1) (@HAdd.hAdd _ _ _ _ (0 : Nat) (@Int.toNat (@idxF (@idIs (@TabI.n x1)) (@TabI.l x1)))) (@SessionD.mk (0 : Int) (0 : Int) (@List.nil UInt8) VerdictD.dflt)))) (@VerdictD.session (@SessionD.last (@List.getD SessionD (@TabI.l x1) (@HAdd.hAdd _ _ _ _ (0 : Nat) (@Int.toNat (@idxF (@idIs (@TabI.n x1)) (@TabI.l x1)))) (@SessionD.mk (0 : Int) (0 : Int) (@List.nil UInt8) VerdictD.dflt)))) (@VerdictD.rev (@SessionD.last (@List.getD SessionD (@TabI.l x1) (@HAdd.hAdd _ _ _ _ (0 : Nat) (@Int.toNat (@idxF (@idIs (@TabI.n x1)) (@TabI.l x1)))) (@SessionD.mk (0 : Int) (0 : Int) (@List.nil UInt8) VerdictD.dflt)))) (@VerdictD.path (@SessionD.last (@List.getD SessionD (@TabI.l x1) (@HAdd.hAdd _ _ _ _ (0 : Nat) (@Int.toNat (@idxF (@idIs (@TabI.n x1)) (@TabI.l x1)))) (@SessionD.mk (0 : Int) (0 : Int) (@List.nil UInt8) VerdictD.dflt)))) (@VerdictD.digest (@SessionD.last (@List.getD SessionD (@TabI.l x1) (@HAdd.hAdd _ _ _ _ (0 : Nat) (@Int.toNat (@idxF (@idIs (@TabI.n x1)) (@TabI.l x1)))) (@SessionD.mk (0 : Int) (0 : Int) (@List.nil UInt8) VerdictD.dflt)))) (@VerdictD.commits (@SessionD.last (@List.getD SessionD (@TabI.l x1) (@HAdd.hAdd _ _ _ _ (0 : Nat) (@Int.toNat (@idxF (@idIs (@TabI.n x1)) (@TabI.l x1)))) (@SessionD.mk (0 : Int) (0 : Int) (@List.nil UInt8) VerdictD.dflt)))) (@VerdictD.member (@SessionD.last (@List.getD SessionD (@TabI.l x1) (@HAdd.hAdd _ _ _ _ (0 : Nat) (@Int.toNat (@idxF (@idIs (@TabI.n x1)) (@TabI.l x1)))) (@SessionD.mk (0 : Int) (0 : Int) (@List.nil UInt8) VerdictD.dflt))))))) (@HAdd.hAdd _ _ _ _ (0 : Nat) (@Int.toNat (@idxF (@idIs (@TabI.n x1)) (@TabI.l x1)))) (@SessionD.mk (0 : Int) (0 : Int) (@List.nil UInt8) VerdictD.dflt))) (@SessionD.name (@List.getD SessionD (@List.set SessionD (@TabI.l x1) (@HAdd.hAdd _ _ _ _ (0 : Nat) (@Int.toNat (@idxF (@idIs (@TabI.n x1)) (@TabI.l x1)))) (@SessionD.mk (@SessionD.id (@List.getD SessionD (@TabI.l x1) (@HAdd.hAdd _ _ _ _ (0 : Nat) (@Int.toNat (@idxF (@idIs (@TabI.n x1)) (@TabI.l x1)))) (@SessionD.mk (0 : Int) (0 : Int) (@List.nil UInt8) VerdictD.dflt))) (@DoneA.seq x) (@SessionD.name (@List.getD SessionD (@TabI.l x1) (@HAdd.hAdd _ _ _ _ (0 : Nat) (@Int.toNat (@idxF (@idIs (@TabI.n x1)) (@TabI.l x1)))) (@SessionD.mk (0 : Int) (0 : Int) (@List.nil UInt8) VerdictD.dflt))) (@VerdictD.mk (@VerdictD.code (@SessionD.last (@List.getD SessionD (@TabI.l x1) (@HAdd.hAdd _ _ _ _ (0 : Nat) (@Int.toNat (@idxF (@idIs (@TabI.n x1)) (@TabI.l x1)))) (@SessionD.mk (0 : Int) (0 : Int) (@List.nil UInt8) VerdictD.dflt)))) (@VerdictD.session (@SessionD.last (@List.getD SessionD (@TabI.l x1) (@HAdd.hAdd _ _ _ _ (0 : Nat) (@Int.toNat (@idxF (@idIs (@TabI.n x1)) (@TabI.l x1)))) (@SessionD.mk (0 : Int) (0 : Int) (@List.nil UInt8) VerdictD.dflt)))) (@VerdictD.rev (@SessionD.last (@List.getD SessionD (@TabI.l x1) (@HAdd.hAdd _ _ _ _ (0 : Nat) (@Int.toNat (@idxF (@idIs (@TabI.n x1)) (@TabI.l x1)))) (@SessionD.mk (0 : Int) (0 : Int) (@List.nil UInt8) VerdictD.dflt)))) (@VerdictD.path (@SessionD.last (@List.getD SessionD (@TabI.l x1) (@HAdd.hAdd _ _ _ _ (0 : Nat) (@Int.toNat (@idxF (@idIs (@TabI.n x1)) (@TabI.l x1)))) (@SessionD.mk (0 : Int) (0 : Int) (@List.nil UInt8) VerdictD.dflt)))) (@VerdictD.digest (@SessionD.last (@List.getD SessionD (@TabI.l x1) (@HAdd.hAdd _ _ _ _ (0 : Nat) (@Int.toNat (@idxF (@idIs (@TabI.n x1)) (@TabI.l x1)))) (@SessionD.mk (0 : Int) (0 : Int) (@List.nil UInt8) VerdictD.dflt)))) (@VerdictD.commits (@SessionD.last (@List.getD SessionD (@TabI.l x1) (@HAdd.hAdd _ _ _ _ (0 : Nat) (@Int.toNat (@idxF (@idIs (@TabI.n x1)) (@TabI.l x1)))) (@SessionD.mk (0 : Int) (0 : Int) (@List.nil UInt8) VerdictD.dflt)))) (@VerdictD.member (@SessionD.last (@List.getD SessionD (@TabI.l x1) (@HAdd.hAdd _ _ _ _ (0 : Nat) (@Int.toNat (@idxF (@idIs (@TabI.n x1)) (@TabI.l x1)))) (@SessionD.mk (0 : Int) (0 : Int) (@List.nil UInt8) VerdictD.dflt))))))) (@HAdd.hAdd _ _ _ _ (0 : Nat) (@Int.toNat (@idxF (@idIs (@TabI.n x1)) (@TabI.l x1)))) (@SessionD.mk (0 : Int) (0 : Int) (@List.nil UInt8) VerdictD.dflt))) (@VerdictD.mk (@VerdictD.code x5) (@VerdictD.session x5) (@VerdictD.rev x5) (@VerdictD.path x5) (@VerdictD.digest x5) (@VerdictD.commits x5) (@VerdictD.member x5)))) (@Prod.snd Bool (@List SessionD) (@doneL x))) ∧
 True))))))
 (Bad "check" "ref.go:122"))
 (Bad "check" "ref.go:122")))))))))))))
 (Bad "check" "ref.go:121"))
 (Bad "check" "ref.go:121")))
 (Bad "check" "ref.go:118"))
 (Bad "check" "ref.go:118"))))))))))))) := by kernel_rfl

end Go.Proofs.Ytnkhnogdiphboaa.Ses

namespace Go.Proofs.Ytnkhnogdiphboaa.Ses
open Go Go.Proofs Go.Proofs.Ytnkhnogdiphboaa.Sx

theorem same_ok : SpecOK Try.prog 52 sameT.spec := by
  refine Tri.ok (E := sameE) (Env_ok (by decide +kernel) (by simp)) (n := 1000) sameT fun x hx => ?_
  rw [same_vc]
  clear hx
  revert x
  intro (x : List ChangeD)
  try simp only [br_bad, decide_eq_true_eq, Bool.and_eq_true, List.take_zero, List.nil_append, List.drop_zero, Nat.zero_add, Int.toNat_natCast, Nat.sub_eq, true_and, and_true, exists_const, List.length_nil, Nat.zero_le, Nat.zero_mul, Nat.le_refl, List.length_set, List.take_length, Int.natCast_nonneg, forall_const, implies_true, Int.toNat_zero, Nat.le_eq, Int.le_refl, addN, cutN, loN, hiN, bndB, Option.getD, List.length_cons, List.take_succ_cons, List.length_take, List.length_drop, Option.isNone, Nat.add_zero, Nat.min_self]
  try simp only [br_iff, decide_eq_true_eq, decide_eq_false_iff_not, room47, Bool.not_eq_true', Bool.not_eq_false', gt_iff_lt]
  intro b _
  exact ⟨fun h => by simp at h, fun _ => ⟨⟨0, rfl, by omega⟩, fun i hi _ => ⟨fun h => ⟨h, h, fun h2 => by simp at h2, fun _ => ⟨i + 1, by rw [wrap_id (by omega) (by omega)]; rfl, by omega, by omega⟩⟩, fun _ => trivial⟩⟩⟩

theorem scom_ok : SpecOK Try.prog 50 scomT.spec := by
  refine Tri.ok (E := scomE) (Env_ok (by decide +kernel) (by simp [same_ok])) (n := 1000) scomT fun x hx => ?_
  rw [scom_vc]
  clear hx
  revert x
  intro (x : CommitD)
  try simp only [br_bad, decide_eq_true_eq, Bool.and_eq_true, List.take_zero, List.nil_append, List.drop_zero, Nat.zero_add, Int.toNat_natCast, Nat.sub_eq, true_and, and_true, exists_const, List.length_nil, Nat.zero_le, Nat.zero_mul, Nat.le_refl, List.length_set, List.take_length, Int.natCast_nonneg, forall_const, implies_true, Int.toNat_zero, Nat.le_eq, Int.le_refl, addN, cutN, loN, hiN, bndB, Option.getD, List.length_cons, List.take_succ_cons, List.length_take, List.length_drop, Option.isNone, Nat.add_zero, Nat.min_self]
  try simp only [br_iff, decide_eq_true_eq, decide_eq_false_iff_not, room47, Bool.not_eq_true', Bool.not_eq_false', gt_iff_lt]
  exact ⟨fun _ => ⟨fun _ => ⟨fun _ => ⟨_, rfl, rfl⟩, fun h => by simp at h⟩, fun h => by simp at h⟩, fun h => by simp at h⟩

theorem scoms_ok : SpecOK Try.prog 41 scomsT.spec := by
  refine Tri.ok (E := scomsE) (Env_ok (by decide +kernel) (by simp [scom_ok])) (n := 1000) scomsT fun x hx => ?_
  rw [scoms_vc]
  clear hx
  revert x
  intro (x : List CommitD)
  try simp only [br_bad, decide_eq_true_eq, Bool.and_eq_true, List.take_zero, List.nil_append, List.drop_zero, Nat.zero_add, Int.toNat_natCast, Nat.sub_eq, true_and, and_true, exists_const, List.length_nil, Nat.zero_le, Nat.zero_mul, Nat.le_refl, List.length_set, List.take_length, Int.natCast_nonneg, forall_const, implies_true, Int.toNat_zero, Nat.le_eq, Int.le_refl, addN, cutN, loN, hiN, bndB, Option.getD, List.length_cons, List.take_succ_cons, List.length_take, List.length_drop, Option.isNone, Nat.add_zero, Nat.min_self]
  try simp only [br_iff, decide_eq_true_eq, decide_eq_false_iff_not, room47, Bool.not_eq_true', Bool.not_eq_false', gt_iff_lt]
  intro b _
  exact ⟨fun h => by simp at h, fun _ => ⟨⟨0, rfl, by omega⟩, fun i hi _ => ⟨fun h => ⟨h, h, x.getD i _, rfl, rfl, rfl, rfl, rfl, rfl, rfl, rfl, i + 1, by rw [wrap_id (by omega) (by omega)]; rfl, by omega, by omega⟩, fun _ => trivial⟩⟩⟩

theorem alike_ok : SpecOK Try.prog 24 alikeT.spec := by
  refine Tri.ok (E := alikeE) (Env_ok (by decide +kernel) (by simp [scoms_ok])) (n := 1000) alikeT fun x hx => ?_
  rw [alike_vc]
  clear hx
  revert x
  intro (x : VerdictD)
  try simp only [br_bad, decide_eq_true_eq, Bool.and_eq_true, List.take_zero, List.nil_append, List.drop_zero, Nat.zero_add, Int.toNat_natCast, Nat.sub_eq, true_and, and_true, exists_const, List.length_nil, Nat.zero_le, Nat.zero_mul, Nat.le_refl, List.length_set, List.take_length, Int.natCast_nonneg, forall_const, implies_true, Int.toNat_zero, Nat.le_eq, Int.le_refl, addN, cutN, loN, hiN, bndB, Option.getD, List.length_cons, List.take_succ_cons, List.length_take, List.length_drop, Option.isNone, Nat.add_zero, Nat.min_self]
  try simp only [br_iff, decide_eq_true_eq, decide_eq_false_iff_not, room47, Bool.not_eq_true', Bool.not_eq_false', gt_iff_lt]
  exact ⟨fun _ => ⟨fun _ => ⟨fun _ => ⟨fun _ => ⟨fun _ => ⟨fun _ => ⟨_, rfl, rfl⟩, fun h => by simp at h⟩, fun h => by simp at h⟩, fun h => by simp at h⟩, fun h => by simp at h⟩, fun h => by simp at h⟩, fun h => by simp at h⟩

theorem sses_ok : SpecOK Try.prog 27 ssesT.spec := by
  refine Tri.ok (E := ssesE) (Env_ok (by decide +kernel) (by simp [alike_ok])) (n := 1000) ssesT fun x hx => ?_
  rw [sses_vc]
  clear hx
  revert x
  intro (x : SessionD)
  try simp only [br_bad, decide_eq_true_eq, Bool.and_eq_true, List.take_zero, List.nil_append, List.drop_zero, Nat.zero_add, Int.toNat_natCast, Nat.sub_eq, true_and, and_true, exists_const, List.length_nil, Nat.zero_le, Nat.zero_mul, Nat.le_refl, List.length_set, List.take_length, Int.natCast_nonneg, forall_const, implies_true, Int.toNat_zero, Nat.le_eq, Int.le_refl, addN, cutN, loN, hiN, bndB, Option.getD, List.length_cons, List.take_succ_cons, List.length_take, List.length_drop, Option.isNone, Nat.add_zero, Nat.min_self]
  try simp only [br_iff, decide_eq_true_eq, decide_eq_false_iff_not, room47, Bool.not_eq_true', Bool.not_eq_false', gt_iff_lt]
  exact ⟨fun _ => ⟨fun _ => ⟨fun _ => ⟨x.last, rfl, rfl, rfl, rfl, rfl, rfl, rfl, rfl, rfl, rfl, rfl, rfl, rfl, rfl⟩, fun h => by simp at h⟩, fun h => by simp at h⟩, fun h => by simp at h⟩

theorem sall_ok : SpecOK Try.prog 22 sallT.spec := by
  refine Tri.ok (E := sallE) (Env_ok (by decide +kernel) (by simp [sses_ok])) (n := 1000) sallT fun x hx => ?_
  rw [sall_vc]
  clear hx
  revert x
  intro (x : List SessionD)
  try simp only [br_bad, decide_eq_true_eq, Bool.and_eq_true, List.take_zero, List.nil_append, List.drop_zero, Nat.zero_add, Int.toNat_natCast, Nat.sub_eq, true_and, and_true, exists_const, List.length_nil, Nat.zero_le, Nat.zero_mul, Nat.le_refl, List.length_set, List.take_length, Int.natCast_nonneg, forall_const, implies_true, Int.toNat_zero, Nat.le_eq, Int.le_refl, addN, cutN, loN, hiN, bndB, Option.getD, List.length_cons, List.take_succ_cons, List.length_take, List.length_drop, Option.isNone, Nat.add_zero, Nat.min_self]
  try simp only [br_iff, decide_eq_true_eq, decide_eq_false_iff_not, room47, Bool.not_eq_true', Bool.not_eq_false', gt_iff_lt]
  intro b _
  exact ⟨fun h => by simp at h, fun _ => ⟨⟨0, rfl, by omega⟩, fun i hi _ => ⟨fun h => ⟨h, h, x.getD i _, rfl, rfl, rfl, rfl, rfl, rfl, rfl, rfl, rfl, rfl, rfl, rfl, rfl, rfl, rfl, rfl, rfl, rfl, rfl, rfl, i + 1, by rw [wrap_id (by omega) (by omega)]; rfl, by omega, by omega⟩, fun _ => trivial⟩⟩⟩

theorem ccom_ok : SpecOK Try.prog 51 ccomT.spec := by
  refine Tri.ok (E := noE) (Env_ok (by decide +kernel) (by simp)) (n := 1000) ccomT fun x hx => ?_
  rw [ccom_vc]
  clear hx
  revert x
  intro (x : CommitD)
  try simp only [br_bad, decide_eq_true_eq, Bool.and_eq_true, List.take_zero, List.nil_append, List.drop_zero, Nat.zero_add, Int.toNat_natCast, Nat.sub_eq, true_and, and_true, exists_const, List.length_nil, Nat.zero_le, Nat.zero_mul, Nat.le_refl, List.length_set, List.take_length, Int.natCast_nonneg, forall_const, implies_true, Int.toNat_zero, Nat.le_eq, Int.le_refl, addN, cutN, loN, hiN, bndB, Option.getD, List.length_cons, List.take_succ_cons, List.length_take, List.length_drop, Option.isNone, Nat.add_zero, Nat.min_self]
  try simp only [br_iff, decide_eq_true_eq, decide_eq_false_iff_not, room47, Bool.not_eq_true', Bool.not_eq_false', gt_iff_lt]
  exact fun h => h

theorem ccoms_ok : SpecOK Try.prog 49 ccomsT.spec := by
  refine Tri.ok (E := ccomsE) (Env_ok (by decide +kernel) (by simp [ccom_ok])) (n := 1000) ccomsT fun x hx => ?_
  rw [ccoms_vc]
  clear hx
  revert x
  intro (x : List CommitD)
  try simp only [br_bad, decide_eq_true_eq, Bool.and_eq_true, List.take_zero, List.nil_append, List.drop_zero, Nat.zero_add, Int.toNat_natCast, Nat.sub_eq, true_and, and_true, exists_const, List.length_nil, Nat.zero_le, Nat.zero_mul, Nat.le_refl, List.length_set, List.take_length, Int.natCast_nonneg, forall_const, implies_true, Int.toNat_zero, Nat.le_eq, Int.le_refl, addN, cutN, loN, hiN, bndB, Option.getD, List.length_cons, List.take_succ_cons, List.length_take, List.length_drop, Option.isNone, Nat.add_zero, Nat.min_self]
  try simp only [br_iff, decide_eq_true_eq, decide_eq_false_iff_not, room47, Bool.not_eq_true', Bool.not_eq_false', gt_iff_lt]
  refine ⟨⟨0, rfl, rfl, rfl, by omega⟩, fun i hi b => ⟨fun h => ⟨h, x.getD i _, rfl, rfl, rfl, rfl, fun _ => ⟨⟨by omega, by omega⟩, i + 1, by rw [wrap_id (by omega) (by omega)]; rfl, rfl, ?_, by omega, by omega⟩⟩, fun h => ⟨by omega, ?_⟩⟩⟩
  · have hlt : i < x.length := by omega
    rw [List.take_of_length_le (l := x.take i) (by simp; omega)]
    have h2 : x.take (i + 1) = x.take i ++ [x[i]] := by simp
    rw [h2]
    have h3 : x.getD i ⟨0, 0, [], []⟩ = x[i] := by simp [hlt]
    rw [h3]
  · rw [List.take_of_length_le (l := x.take i) (by simp; omega), List.take_of_length_le (by omega)]

theorem cver_ok : SpecOK Try.prog 40 cverT.spec := by
  refine Tri.ok (E := cverE) (Env_ok (by decide +kernel) (by simp [ccoms_ok])) (n := 1000) cverT fun x hx => ?_
  rw [cver_vc]
  clear hx
  revert x
  intro (x : VerdictD)
  try simp only [br_bad, decide_eq_true_eq, Bool.and_eq_true, List.take_zero, List.nil_append, List.drop_zero, Nat.zero_add, Int.toNat_natCast, Nat.sub_eq, true_and, and_true, exists_const, List.length_nil, Nat.zero_le, Nat.zero_mul, Nat.le_refl, List.length_set, List.take_length, Int.natCast_nonneg, forall_const, implies_true, Int.toNat_zero, Nat.le_eq, Int.le_refl, addN, cutN, loN, hiN, bndB, Option.getD, List.length_cons, List.take_succ_cons, List.length_take, List.length_drop, Option.isNone, Nat.add_zero, Nat.min_self]
  try simp only [br_iff, decide_eq_true_eq, decide_eq_false_iff_not, room47, Bool.not_eq_true', Bool.not_eq_false', gt_iff_lt]
  exact ⟨_, rfl, rfl⟩

theorem cses_ok : SpecOK Try.prog 44 csesT.spec := by
  refine Tri.ok (E := csesE) (Env_ok (by decide +kernel) (by simp [cver_ok])) (n := 1000) csesT fun x hx => ?_
  rw [cses_vc]
  clear hx
  revert x
  intro (x : SessionD)
  try simp only [br_bad, decide_eq_true_eq, Bool.and_eq_true, List.take_zero, List.nil_append, List.drop_zero, Nat.zero_add, Int.toNat_natCast, Nat.sub_eq, true_and, and_true, exists_const, List.length_nil, Nat.zero_le, Nat.zero_mul, Nat.le_refl, List.length_set, List.take_length, Int.natCast_nonneg, forall_const, implies_true, Int.toNat_zero, Nat.le_eq, Int.le_refl, addN, cutN, loN, hiN, bndB, Option.getD, List.length_cons, List.take_succ_cons, List.length_take, List.length_drop, Option.isNone, Nat.add_zero, Nat.min_self]
  try simp only [br_iff, decide_eq_true_eq, decide_eq_false_iff_not, room47, Bool.not_eq_true', Bool.not_eq_false', gt_iff_lt]
  exact ⟨x.last, rfl, rfl, rfl, rfl, rfl, rfl, rfl, rfl, rfl, rfl, rfl, rfl, rfl, rfl⟩

theorem rfind_ok : SpecOK Try.prog 26 rfindT.spec := by
  refine Tri.ok (E := rfindE) (Env_ok (by decide +kernel) (by simp)) (n := 1000) rfindT fun x hx => ?_
  rw [rfind_vc]
  try simp only [br_bad, decide_eq_true_eq, Bool.and_eq_true, List.take_zero, List.nil_append, List.drop_zero, Nat.zero_add, Int.toNat_natCast, Nat.sub_eq, true_and, and_true, exists_const, List.length_nil, Nat.zero_le, Nat.zero_mul, Nat.le_refl, List.length_set, List.take_length, Int.natCast_nonneg, forall_const, implies_true, Int.toNat_zero, Nat.le_eq, Int.le_refl, addN, cutN, loN, hiN, bndB, Option.getD, List.length_cons, List.take_succ_cons, List.length_take, List.length_drop, Option.isNone, Nat.add_zero, Nat.min_self]
  try simp only [br_iff, decide_eq_true_eq, decide_eq_false_iff_not, room47, Bool.not_eq_true', Bool.not_eq_false', gt_iff_lt]
  obtain ⟨size, l, n⟩ := x
  dsimp only
  refine ⟨⟨0, rfl, by omega, by omega⟩, fun i ⟨h2, h3⟩ h1 => ⟨fun h4 => ⟨h4, by omega, fun h5 => ?_, fun h5 => ⟨i + 1, ?_, ⟨by omega, ?_⟩, by omega⟩⟩, fun h4 => (idxF_no fun j x hj => h3 j x ?_ hj).symm⟩⟩
  · have : i < l.length := by omega
    refine (idxF_at (i := i) (x := l[i]) (by simp) ?_ h3).symm
    simpa [this, idIs, nameIs] using h5
  · rw [wrap_id (by omega) (by omega)]; rfl
  · intro j x hj hx
    have hlt : i < l.length := by omega
    by_cases e : j = i
    · subst e
      simp only [hlt, List.getElem?_eq_getElem, Option.some.injEq] at hx
      subst hx
      simpa [hlt, idIs, nameIs] using h5
    · exact h3 j x (by omega) hx
  · have := (List.getElem?_eq_some_iff.1 hj).1
    omega

theorem last_ok : SpecOK Try.prog 39 lastT.spec := by
  refine Tri.ok (E := noE) (Env_ok (by decide +kernel) (by simp)) (n := 1000) lastT fun x hx => ?_
  rw [last_vc]
  try simp only [br_bad, decide_eq_true_eq, Bool.and_eq_true, List.take_zero, List.nil_append, List.drop_zero, Nat.zero_add, Int.toNat_natCast, Nat.sub_eq, true_and, and_true, exists_const, List.length_nil, Nat.zero_le, Nat.zero_mul, Nat.le_refl, List.length_set, List.take_length, Int.natCast_nonneg, forall_const, implies_true, Int.toNat_zero, Nat.le_eq, Int.le_refl, addN, cutN, loN, hiN, bndB, Option.getD, List.length_cons, List.take_succ_cons, List.length_take, List.length_drop, Option.isNone, Nat.add_zero, Nat.min_self]
  try simp only [br_iff, decide_eq_true_eq, decide_eq_false_iff_not, room47, Bool.not_eq_true', Bool.not_eq_false', gt_iff_lt]
  obtain ⟨size, l, n⟩ := x
  have hx : decide (0 ≤ n ∧ n < l.length) = true ∧ decide (l.length ≤ 1024) = true := hx
  have h0 := of_decide_eq_true hx.1
  have h1 := of_decide_eq_true hx.2
  dsimp only
  rw [wrap_id (by omega) (by omega), show (n + 1).toNat = n.toNat + 1 by omega, show min n.toNat l.length = n.toNat by omega]
  refine ⟨h0, by omega, ⟨by omega, by omega⟩, fun _ => ⟨⟨by omega, by omega⟩, ⟨by omega, by omega⟩, fun _ => ⟨⟨by omega, by omega⟩, fun _ => ⟨⟨by simp; omega, by omega⟩, ?_, ?_⟩⟩⟩⟩
  · rw [usedL_length h0]; omega
  · have e1 : List.take (l.length - (n.toNat + 1)) (List.drop (n.toNat + 1) l) = List.drop (n.toNat + 1) l := List.take_of_length_le (by simp)
    have e2 : List.take n.toNat (List.take n.toNat l) = List.take n.toNat l := List.take_of_length_le (by simp; omega)
    rw [e1, e2, List.take_of_length_le (by simp; omega)]
    rfl

theorem ropen_ok : SpecOK Try.prog 19 ropenT.spec := by
  refine Tri.ok (E := ropenE) (Env_ok (by decide +kernel) (by simp [rfind_ok, last_ok])) (n := 1000) ropenT fun x hx => ?_
  rw [ropen_vc]
  try simp only [br_bad, decide_eq_true_eq, Bool.and_eq_true, List.take_zero, List.nil_append, List.drop_zero, Nat.zero_add, Int.toNat_natCast, Nat.sub_eq, true_and, and_true, exists_const, List.length_nil, Nat.zero_le, Nat.zero_mul, Nat.le_refl, List.length_set, List.take_length, Int.natCast_nonneg, forall_const, implies_true, Int.toNat_zero, Nat.le_eq, Int.le_refl, addN, cutN, loN, hiN, bndB, Option.getD, List.length_cons, List.take_succ_cons, List.length_take, List.length_drop, Option.isNone, Nat.add_zero, Nat.min_self]
  try simp only [br_iff, decide_eq_true_eq, decide_eq_false_iff_not, room47, Bool.not_eq_true', Bool.not_eq_false', gt_iff_lt]
  obtain ⟨size, l, name, id⟩ := x
  have hx : decide (0 < size) = true ∧ decide (l.length ≤ 1024) = true ∧ decide ((l.length : Int) ≤ size) = true := hx
  have h0 := of_decide_eq_true hx.1
  have h1 := of_decide_eq_true hx.2.1
  have h2 := of_decide_eq_true hx.2.2
  have b2 := idxF_lt (idIs id) l
  dsimp only
  refine ⟨⟨0, rfl, by omega, by omega⟩, fun i ⟨hi, hn⟩ _ => ⟨fun h4 => ⟨h4, by omega, fun h5 => ⟨h4, by omega, ⟨size, l, i⟩, rfl, rfl, rfl, rfl, ⟨⟨by dsimp only; omega, by dsimp only; omega⟩, by dsimp only; omega⟩, ?_⟩, fun h5 => ⟨i + 1, ?_, ⟨by omega, ?_⟩, by omega⟩⟩, fun h4 => ⟨⟨size, l, id⟩, rfl, rfl, rfl, rfl, fun hj => ?_, fun hj _ => ⟨fun h6 => ?_, fun h6 _ => ?_⟩⟩⟩⟩ <;> try dsimp only at *
  · have hlt : i < l.length := by omega
    have hidx : idxF (nameIs name) l = (i : Int) := idxF_at (i := i) (x := l[i]) (by simp) (by simpa [hlt, nameIs] using h5) hn
    have ho : openL ⟨size, l, name, id⟩ = ((atL l (i : Int)).id, usedL l (i : Int)) := by
      unfold openL
      dsimp only
      rw [hidx, show decide ((i : Int) < 0) = false by simp, cond_false]
    rw [ho]
    exact ⟨rfl, rfl, rfl, rfl⟩
  · rw [wrap_id (by omega) (by omega)]; rfl
  · intro j x hj hx
    have hlt : i < l.length := by omega
    by_cases e : j = i
    · subst e
      simp only [hlt, List.getElem?_eq_getElem, Option.some.injEq] at hx
      subst hx
      simpa [hlt, nameIs] using h5
    · exact hn j x (by omega) hx
  · have hidx : idxF (nameIs name) l = -1 := idxF_no fun j x hj => hn j x (by have := (List.getElem?_eq_some_iff.1 hj).1; omega) hj
    have e1 : List.take (l.length - ((idxF (idIs id) l).toNat + 1)) (List.drop ((idxF (idIs id) l).toNat + 1) l) = List.drop ((idxF (idIs id) l).toNat + 1) l := List.take_of_length_le (by simp)
    have e2 : List.take (idxF (idIs id) l).toNat (List.take (idxF (idIs id) l).toNat l) = List.take (idxF (idIs id) l).toNat l := List.take_of_length_le (by simp; omega)
    have e3 : List.take (idxF (idIs id) l).toNat l ++ List.drop ((idxF (idIs id) l).toNat + 1) l = outL l (idxF (idIs id) l) := rfl
    have e4 := outL_length (l := l) (i := idxF (idIs id) l) (by omega)
    have ho : openL ⟨size, l, name, id⟩ = (id, outL l (idxF (idIs id) l) ++ [⟨id, 0, name, .dflt⟩]) := by
      unfold openL
      dsimp only
      rw [hidx, show decide ((-1 : Int) < 0) = true by decide, cond_true, show decide (idxF (idIs id) l < 0) = false by simp; omega, cond_false, e4, show decide (((l.length - 1 : Nat) : Int) = size) = false by simp; omega, cond_false]
    rw [wrap_id (by omega) (by omega), show (idxF (idIs id) l + 1).toNat = (idxF (idIs id) l).toNat + 1 by omega, show min (idxF (idIs id) l).toNat l.length = (idxF (idIs id) l).toNat by omega, e1, e2, e3, ho, e4]
    refine ⟨⟨by omega, by omega⟩, fun _ => ⟨⟨by omega, by omega⟩, ⟨by omega, by omega⟩, fun _ => ⟨⟨by omega, by omega⟩, fun _ => ⟨fun h6 => absurd h6 (by omega), fun _ _ => ⟨⟨by omega, by omega⟩, rfl, rfl, by simp [e4]; omega, ?_⟩⟩⟩⟩⟩
    rw [List.take_of_length_le (by rw [e4]; omega)]
    rfl
  · have hidx : idxF (nameIs name) l = -1 := idxF_no fun j x hj => hn j x (by have := (List.getElem?_eq_some_iff.1 hj).1; omega) hj
    have e4 := outL_length (l := l) (i := 0) (by omega)
    have ho : openL ⟨size, l, name, id⟩ = (id, outL l 0 ++ [⟨id, 0, name, .dflt⟩]) := by
      unfold openL
      dsimp only
      rw [hidx, show decide ((-1 : Int) < 0) = true by decide, cond_true, show decide (idxF (idIs id) l < 0) = true by simp; omega, cond_true, show decide ((l.length : Int) = size) = true by simp; omega, cond_true]
    rw [ho]
    refine ⟨⟨by omega, by omega⟩, fun _ => ⟨⟨by simp; omega, by simp; omega⟩, fun _ => ⟨by simp; omega, rfl, rfl, by simp [e4], ?_⟩⟩⟩
    have e1 : ∀ n, l.length - 1 ≤ n → List.take n (List.drop (Int.toNat 1) l) = List.drop 1 l := fun n h => List.take_of_length_le (by simpa using h)
    rw [e1 _ (by simp), List.take_of_length_le (by simp)]
    simp [outL, VerdictD.dflt]
  · have hidx : idxF (nameIs name) l = -1 := idxF_no fun j x hj => hn j x (by have := (List.getElem?_eq_some_iff.1 hj).1; omega) hj
    have ho : openL ⟨size, l, name, id⟩ = (id, l ++ [⟨id, 0, name, .dflt⟩]) := by
      unfold openL
      dsimp only
      rw [hidx, show decide ((-1 : Int) < 0) = true by decide, cond_true, show decide (idxF (idIs id) l < 0) = true by simp; omega, cond_true, show decide ((l.length : Int) = size) = false by simp; omega, cond_false]
    rw [ho]
    exact ⟨by omega, rfl, rfl, by simp, rfl⟩

theorem rask_ok : SpecOK Try.prog 23 raskT.spec := by
  refine Tri.ok (E := raskE) (Env_ok (by decide +kernel) (by simp [rfind_ok, last_ok, cver_ok])) (n := 1000) raskT fun x hx => ?_
  rw [rask_vc]
  try simp only [br_bad, decide_eq_true_eq, Bool.and_eq_true, List.take_zero, List.nil_append, List.drop_zero, Nat.zero_add, Int.toNat_natCast, Nat.sub_eq, true_and, and_true, exists_const, List.length_nil, Nat.zero_le, Nat.zero_mul, Nat.le_refl, List.length_set, List.take_length, Int.natCast_nonneg, forall_const, implies_true, Int.toNat_zero, Nat.le_eq, Int.le_refl, addN, cutN, loN, hiN, bndB, Option.getD, List.length_cons, List.take_succ_cons, List.length_take, List.length_drop, Option.isNone, Nat.add_zero, Nat.min_self]
  try simp only [br_iff, decide_eq_true_eq, decide_eq_false_iff_not, room47, Bool.not_eq_true', Bool.not_eq_false', gt_iff_lt]
  obtain ⟨size, l, id, seq⟩ := x
  have hx : decide (l.length ≤ 1024) = true := hx
  have h1 := of_decide_eq_true hx
  have b1 := idxF_lt (idIs id) l
  dsimp only
  refine ⟨⟨size, l, id⟩, rfl, rfl, rfl, rfl, fun hi => ?_, fun hi => ⟨by dsimp only at *; omega, by dsimp only at *; omega, ⟨size, l, _⟩, rfl, rfl, rfl, rfl, by dsimp only at *; omega, fun h2 => ?_, fun h2 => ⟨fun h3 => ?_, fun h3 => ⟨fun h4 => ⟨(atL l (idxF (idIs id) l)).last, rfl, rfl, rfl, rfl, rfl, rfl, rfl, ?_⟩, fun h4 => ?_⟩⟩⟩⟩ <;> try dsimp only at *
  · simp [askL, hi, vd]
  · simp [askL, hi, h2, vd]
  · have h3 : seq < (atL l (idxF (idIs id) l)).seq := h3
    simp [askL, hi, h2, h3, vd]
  · simp only [beq_iff_eq] at h4
    have h4 : seq = (atL l (idxF (idIs id) l)).seq := h4
    simp [askL, hi, h2, ← h4, vd]
  · simp only [beq_eq_false_iff_ne, ne_eq] at h4
    have h4 : ¬ seq = (atL l (idxF (idIs id) l)).seq := h4
    have h3 : ¬ seq < (atL l (idxF (idIs id) l)).seq := h3
    simp [askL, hi, h2, h3, h4, vd]

theorem rdone_ok : SpecOK Try.prog 20 rdoneT.spec := by
  refine Tri.ok (E := raskE) (Env_ok (by decide +kernel) (by simp [rfind_ok, last_ok, cver_ok])) (n := 1000) rdoneT fun x hx => ?_
  rw [rdone_vc]
  try simp only [br_bad, decide_eq_true_eq, Bool.and_eq_true, List.take_zero, List.nil_append, List.drop_zero, Nat.zero_add, Int.toNat_natCast, Nat.sub_eq, true_and, and_true, exists_const, List.length_nil, Nat.zero_le, Nat.zero_mul, Nat.le_refl, List.length_set, List.take_length, Int.natCast_nonneg, forall_const, implies_true, Int.toNat_zero, Nat.le_eq, Int.le_refl, addN, cutN, loN, hiN, bndB, Option.getD, List.length_cons, List.take_succ_cons, List.length_take, List.length_drop, Option.isNone, Nat.add_zero, Nat.min_self]
  try simp only [br_iff, decide_eq_true_eq, decide_eq_false_iff_not, room47, Bool.not_eq_true', Bool.not_eq_false', gt_iff_lt]
  obtain ⟨size, l, id, seq, v⟩ := x
  have b1 := idxF_lt (idIs id) l
  dsimp only
  refine ⟨⟨size, l, id⟩, rfl, rfl, rfl, rfl, fun hi => ?_, fun hi => ⟨by dsimp only at *; omega, by dsimp only at *; omega, fun h2 => ?_, fun h2 => ⟨by dsimp only at *; omega, by dsimp only at *; omega, v, rfl, rfl, rfl, rfl, rfl, rfl, rfl, by dsimp only at *; omega, by dsimp only at *; omega, ?_⟩⟩⟩ <;> try dsimp only at *
  · simp [doneL, hi]
  · have h2 : seq ≤ (atL l (idxF (idIs id) l)).seq := h2
    simp [doneL, hi, h2]
  · have h2 : ¬ seq ≤ (atL l (idxF (idIs id) l)).seq := h2
    have hi' : (idxF (idIs id) l).toNat < l.length := by omega
    simp only [doneL, hi, h2, decide_false, Bool.or_false, cond_false, List.length_set, true_and]
    simp [hi', atL]
end Go.Proofs.Ytnkhnogdiphboaa.Ses
