/- The reference loads: what the evaluator leaves, and that it holds. No condition. -/
import Derived.Test.YtildflamnehilaaGreatGrvB
import Derived.KernelRfl
set_option linter.unusedSimpArgs false
set_option linter.unusedVariables false

namespace Go.Proofs.YtildflamnehilaaGreat.Ses
open Go Go.Proofs Go.Proofs.YtildflamnehilaaGreat.Sx Go.Proofs.YtildflamnehilaaGreat.Trx

theorem land_not {x : LandA} (h : ¬ (landV x).code = 2) : landC x = x.C := by
  cases hb : badLd x
  · by_cases ha : x.base > x.C.length
    · exact (land_ahead hb ha).2
    · cases hc : confA x with
      | none => exact absurd (by rw [(land_in hb ha hc).1]; rfl) h
      | some q => exact (land_conf hb ha hc).2
  · exact (land_bad hb).2
theorem stepB_congr {a b : List CommitD} {j : Nat} (h1 : a.take j = b.take j) (h2 : a.getD j noM = b.getD j noM) : stepB a j = stepB b j := by
  unfold stepB loadA
  rw [h1, h2]
theorem insS_twice (l : List ChangeD) : insS (insS l) = insS l := insS_self (insS_srt l)
/-- a commit that landed lands again -/
theorem land_again {x : LandA} (h : (landV x).code = 2) : landV ⟨x.C, x.base, x.ref, insS x.l⟩ = landV x := by
  unfold landV badLd confA
  dsimp only
  rw [chk_insS, insS_twice]
structure GoMore (l : List Deed5D) : Prop where
  loads : ∀ j, j < (goC l).length → stepB (goC l) j = true
  short : (∀ i, i < l.length → shortC (l.getD i noD).l = true) → ∀ c, c ∈ goC l → shortC c.changes = true
theorem go_more (l : List Deed5D) : GoMore l := by
  refine snocL (p := GoMore) ⟨fun j hj => by simp [goC] at hj, fun _ c hc => by simp [goC] at hc⟩ (fun l d h => ?_) l
  have e : goC (l ++ [d]) = landC ⟨goC l, d.base, d.ref, d.l⟩ := by simp [goC, oneC]
  have hshort : (∀ i, i < (l ++ [d]).length → shortC ((l ++ [d]).getD i noD).l = true) → (∀ c, c ∈ goC l → shortC c.changes = true) ∧ shortC d.l = true := by
    intro hs
    refine ⟨h.short fun i hi => ?_, ?_⟩
    · have := hs i (by simp; omega)
      rwa [show (l ++ [d]).getD i noD = l.getD i noD by simp [List.getD, List.getElem?_append_left hi]] at this
    · have := hs l.length (by simp)
      rwa [show (l ++ [d]).getD l.length noD = d by simp [List.getD]] at this
  by_cases hc : (landV ⟨goC l, d.base, d.ref, d.l⟩).code = 2
  · obtain ⟨hb, hV, hC⟩ := land_two hc
    have hC : landC ⟨goC l, d.base, d.ref, d.l⟩ = goC l ++ [newC ⟨goC l, d.base, d.ref, d.l⟩] := hC
    have hV : landV ⟨goC l, d.base, d.ref, d.l⟩ = vC 2 (((goC l).length : Int) + 1) [] := hV
    refine ⟨fun j hj => ?_, fun hs c hc => ?_⟩
    · rw [e, hC] at hj ⊢
      rcases Nat.lt_or_ge j (goC l).length with hj2 | hj2
      · rw [← h.loads j hj2]
        exact stepB_congr (List.take_append_of_le_length (by omega)) (by simp [List.getD, List.getElem?_append_left hj2])
      · have : j = (goC l).length := by simp at hj; omega
        subst this
        have eA : loadA (goC l ++ [newC ⟨goC l, d.base, d.ref, d.l⟩]) (goC l).length = ⟨goC l, d.base, d.ref, insS d.l⟩ := by
          unfold loadA
          rw [List.take_left]
          have eg : (goC l ++ [newC ⟨goC l, d.base, d.ref, d.l⟩]).getD (goC l).length ⟨0, 0, [], []⟩ = newC ⟨goC l, d.base, d.ref, d.l⟩ := by simp [List.getD]
          rw [eg]
          rfl
        have eg : (goC l ++ [newC ⟨goC l, d.base, d.ref, d.l⟩]).getD (goC l).length ⟨0, 0, [], []⟩ = newC ⟨goC l, d.base, d.ref, d.l⟩ := by simp [List.getD]
        have hag : landV ⟨goC l, d.base, d.ref, insS d.l⟩ = vC 2 (((goC l).length : Int) + 1) [] := (land_again (x := ⟨goC l, d.base, d.ref, d.l⟩) hc).trans hV
        unfold stepB
        rw [eA, eg, hag]
        show ((2 : Int) == 2 && ((((goC l).length : Int) + 1 == ((goC l).length : Int) + 1) && sameC (insS (insS d.l)) (insS d.l))) = true
        rw [insS_twice, sameC_self]
        simp
    · obtain ⟨s1, s2⟩ := hshort hs
      rw [e, hC] at hc
      rcases List.mem_append.1 hc with hc | hc
      · exact s1 c hc
      · have : c = newC ⟨goC l, d.base, d.ref, d.l⟩ := by simpa using hc
        rw [this]
        exact List.all_eq_true.2 fun y hy => List.all_eq_true.1 s2 y (mem_insS.1 hy)
  · have hC := land_not hc
    have hC : landC ⟨goC l, d.base, d.ref, d.l⟩ = goC l := hC
    refine ⟨fun j hj => ?_, fun hs c hc => ?_⟩
    · rw [e, hC] at hj ⊢
      exact h.loads j hj
    · rw [e, hC] at hc
      exact (hshort hs).1 c hc
end Go.Proofs.YtildflamnehilaaGreat.Ses

namespace Go.Proofs.YtildflamnehilaaGreat.Ses
open Go Go.Proofs Go.Proofs.YtildflamnehilaaGreat.Sx Go.Proofs.YtildflamnehilaaGreat.Trx

def fewM (C : List CommitD) : Bool := C.all fun c => fewX c.changes
noncomputable def rload1T : Tri := { γ := ComL, n0 := 0, args := fun raw => [.rslice false .commit raw], blks := fun _ => [], pre := fun raw => (mayM raw = true ∧ fewM raw = true) ∧ LoadsTo raw raw.length, δ := Unit, post := fun _ _ => True, n1 := 3, res := fun raw _ => .tuple [rargs raw (rowC raw) (refsR raw), .int .i64 0], blks' := fun raw _ => rrows raw (rowC raw) (refsR raw), scal := false }
noncomputable def rload2T : Tri := { γ := ComL, n0 := 0, args := fun raw => [.rslice false .commit raw], blks := fun _ => [], pre := fun raw => (mayM raw = true ∧ fewM raw = true) ∧ ¬ LoadsTo raw raw.length, δ := Unit, post := fun _ _ => True, n1 := 0, res := fun _ _ => .tuple [.agg [.nils, .nils, .nils], .int .i64 4], blks' := fun _ _ => [], scal := false }
noncomputable def rloadI : St → LInv := fun s => match getE s.env 0, getE s.env 4 with
  | .rslice _ .commit raw, .mptr q _ => { σ := Nat, I := fun i => i ≤ raw.length ∧ LoadsTo raw i, μ := fun i => raw.length - i, env := fun i => [(5, .int .i64 i)], blk := fun i => [(q, rcell (raw.take i) s.m.next (s.m.next + 1) (s.m.next + 2)), (s.m.next, .rows .commit (raw.take i)), (s.m.next + 1, .rows .leaf (rowC (raw.take i))), (s.m.next + 2, .rows .ref (refsR (raw.take i)))], fresh := 3, drop := [] }
  | _, _ => LInv.none
noncomputable def rloadE : Envr := Env Tryz.prog cod [(19, rlandT.spec), (87, scomT.spec)] [(3, rloadI)]
end Go.Proofs.YtildflamnehilaaGreat.Ses

namespace Go.Proofs.YtildflamnehilaaGreat.Ses
open Go Go.Proofs Go.Proofs.YtildflamnehilaaGreat.Sx Go.Proofs.YtildflamnehilaaGreat.Trx
set_option maxRecDepth 100000

theorem rload1_vc (x : rload1T.γ) : evCall rloadE (ev rloadE 1000) 35 (rload1T.args x) ⟨rload1T.blks x, rload1T.n0, []⟩ (fun _ _ => False) (rload1T.ends x) = (
((∃ x1 : Nat,
 (((0 : Int) = (↑x1 : Int)) ∧
 (((0 : Nat) = (List.length (List.take x1 x))) ∧
 (((0 : Nat) = (List.length (rowC (List.take x1 x)))) ∧
 (((0 : Nat) = (List.length (refsR (List.take x1 x)))) ∧
 ((([] : List CommitD) = (List.take x1 x)) ∧
 ((([] : List LeafD) = (rowC (List.take x1 x))) ∧
 ((([] : List RefD) = (refsR (List.take x1 x))) ∧
 ((x1 ≤ (List.length x)) ∧
 (LoadsTo x x1)))))))))) ∧
 (∀ x2 : Nat,
 (((x2 ≤ (List.length x)) ∧
 (LoadsTo x x2)) →
 ((((List.length x) * (56 : Nat)) ≤ room47) →
 (br (decide ((↑x2 : Int) < (↑(List.length x) : Int)))
 (br (decide (((0 : Int) ≤ (↑x2 : Int)) ∧
 ((↑x2 : Int) < (↑(List.length x) : Int))))
 (br (decide (((0 : Int) ≤ (↑x2 : Int)) ∧
 ((↑x2 : Int) < (↑(List.length x) : Int))))
 (br (decide (((0 : Int) ≤ (↑x2 : Int)) ∧
 ((↑x2 : Int) < (↑(List.length x) : Int))))
 ((∃ x3 : LandA,
 (((CommitD.base (List.getD x (Int.toNat (↑x2 : Int)) (CommitD.mk (0 : Int) (0 : Int) ([] : List UInt8) ([] : List ChangeD)))) = (LandA.base x3)) ∧
 (((CommitD.ref (List.getD x (Int.toNat (↑x2 : Int)) (CommitD.mk (0 : Int) (0 : Int) ([] : List UInt8) ([] : List ChangeD)))) = (LandA.ref x3)) ∧
 (((CommitD.changes (List.getD x (Int.toNat (↑x2 : Int)) (CommitD.mk (0 : Int) (0 : Int) ([] : List UInt8) ([] : List ChangeD)))) = (LandA.l x3)) ∧
 (((0 : Nat) = (0 : Nat)) ∧
 (((List.length (List.take x2 x)) = (List.length (LandA.C x3))) ∧
 (((0 : Nat) = (0 : Nat)) ∧
 (((List.length (rowC (List.take x2 x))) = (List.length (rowC (LandA.C x3)))) ∧
 (((0 : Nat) = (0 : Nat)) ∧
 (((List.length (refsR (List.take x2 x))) = (List.length (refsR (LandA.C x3)))) ∧
 (((List.take x2 x) = (LandA.C x3)) ∧
 (((rowC (List.take x2 x)) = (rowC (LandA.C x3))) ∧
 (((refsR (List.take x2 x)) = (refsR (LandA.C x3))) ∧
 (((((fewG (LandA.C x3)) = Bool.true) ∧
 ((shortM (LandA.C x3)) = Bool.true)) ∧
 (((shortC (LandA.l x3)) = Bool.true) ∧
 ((fewX (LandA.l x3)) = Bool.true))) ∧
 (∀ x4 : Unit,
 (True →
 (br ((VerdictD.code (landV x3)) != (2 : Int))
 (∃ x5 : Unit,
 (((0 : Nat) = (List.length x)) ∧
 (((0 : Nat) = (List.length (rowC x))) ∧
 (((0 : Nat) = (List.length (refsR x))) ∧
 (((4 : Int) = (0 : Int)) ∧
 ((([] : List CommitD) = x) ∧
 ((([] : List LeafD) = (rowC x)) ∧
 ((([] : List RefD) = (refsR x)) ∧
 True))))))))
 (br (decide (((0 : Int) ≤ (↑x2 : Int)) ∧
 ((↑x2 : Int) < (↑(List.length (landC x3)) : Int))))
 (br (decide (((0 : Nat) + (Int.toNat (↑x2 : Int))) < (List.length (landC x3))))
 (br (decide (((0 : Int) ≤ (↑x2 : Int)) ∧
 ((↑x2 : Int) < (↑(List.length x) : Int))))
 (∃ x6 : Cmt2,
 (((CommitD.rev (List.getD (landC x3) ((0 : Nat) + (Int.toNat (↑x2 : Int))) (CommitD.mk (0 : Int) (0 : Int) ([] : List UInt8) ([] : List ChangeD)))) = (CommitD.rev (Cmt2.a x6))) ∧
 (((CommitD.base (List.getD (landC x3) ((0 : Nat) + (Int.toNat (↑x2 : Int))) (CommitD.mk (0 : Int) (0 : Int) ([] : List UInt8) ([] : List ChangeD)))) = (CommitD.base (Cmt2.a x6))) ∧
 (((CommitD.ref (List.getD (landC x3) ((0 : Nat) + (Int.toNat (↑x2 : Int))) (CommitD.mk (0 : Int) (0 : Int) ([] : List UInt8) ([] : List ChangeD)))) = (CommitD.ref (Cmt2.a x6))) ∧
 (((CommitD.changes (List.getD (landC x3) ((0 : Nat) + (Int.toNat (↑x2 : Int))) (CommitD.mk (0 : Int) (0 : Int) ([] : List UInt8) ([] : List ChangeD)))) = (CommitD.changes (Cmt2.a x6))) ∧
 (((CommitD.rev (List.getD x (Int.toNat (↑x2 : Int)) (CommitD.mk (0 : Int) (0 : Int) ([] : List UInt8) ([] : List ChangeD)))) = (CommitD.rev (Cmt2.b x6))) ∧
 (((CommitD.base (List.getD x (Int.toNat (↑x2 : Int)) (CommitD.mk (0 : Int) (0 : Int) ([] : List UInt8) ([] : List ChangeD)))) = (CommitD.base (Cmt2.b x6))) ∧
 (((CommitD.ref (List.getD x (Int.toNat (↑x2 : Int)) (CommitD.mk (0 : Int) (0 : Int) ([] : List UInt8) ([] : List ChangeD)))) = (CommitD.ref (Cmt2.b x6))) ∧
 (((CommitD.changes (List.getD x (Int.toNat (↑x2 : Int)) (CommitD.mk (0 : Int) (0 : Int) ([] : List UInt8) ([] : List ChangeD)))) = (CommitD.changes (Cmt2.b x6))) ∧
 (True ∧
 (∀ x7 : Unit,
 (True →
 (br (Bool.not (eqM (Cmt2.a x6) (Cmt2.b x6)))
 (∃ x8 : Unit,
 (((0 : Nat) = (List.length x)) ∧
 (((0 : Nat) = (List.length (rowC x))) ∧
 (((0 : Nat) = (List.length (refsR x))) ∧
 (((4 : Int) = (0 : Int)) ∧
 ((([] : List CommitD) = x) ∧
 ((([] : List LeafD) = (rowC x)) ∧
 ((([] : List RefD) = (refsR x)) ∧
 True))))))))
 (∃ x9 : Nat,
 (((IntKind.wrap IntKind.i64 ((↑x2 : Int) + (1 : Int))) = (↑x9 : Int)) ∧
 (((0 : Nat) = (0 : Nat)) ∧
 (((List.length (landC x3)) = (List.length (List.take x9 x))) ∧
 (((0 : Nat) = (0 : Nat)) ∧
 (((List.length (rowC (landC x3))) = (List.length (rowC (List.take x9 x)))) ∧
 (((0 : Nat) = (0 : Nat)) ∧
 (((List.length (refsR (landC x3))) = (List.length (refsR (List.take x9 x)))) ∧
 (((landC x3) = (List.take x9 x)) ∧
 (((rowC (landC x3)) = (rowC (List.take x9 x))) ∧
 (((refsR (landC x3)) = (refsR (List.take x9 x))) ∧
 (((x9 ≤ (List.length x)) ∧
 (LoadsTo x x9)) ∧
 ((Nat.sub (List.length x) x9) < (Nat.sub (List.length x) x2)))))))))))))))))))))))))))
 (Bad "check" "ref.go:251"))
 (Bad "check" "ref.go:251"))
 (Bad "check" "ref.go:251"))))))))))))))))))) ∧
 (∃ x10 : LandA,
 (((CommitD.base (List.getD x (Int.toNat (↑x2 : Int)) (CommitD.mk (0 : Int) (0 : Int) ([] : List UInt8) ([] : List ChangeD)))) = (LandA.base x10)) ∧
 (((CommitD.ref (List.getD x (Int.toNat (↑x2 : Int)) (CommitD.mk (0 : Int) (0 : Int) ([] : List UInt8) ([] : List ChangeD)))) = (LandA.ref x10)) ∧
 (((CommitD.changes (List.getD x (Int.toNat (↑x2 : Int)) (CommitD.mk (0 : Int) (0 : Int) ([] : List UInt8) ([] : List ChangeD)))) = (LandA.l x10)) ∧
 (((0 : Nat) = (0 : Nat)) ∧
 (((List.length (List.take x2 x)) = (List.length (LandA.C x10))) ∧
 (((0 : Nat) = (0 : Nat)) ∧
 (((List.length (rowC (List.take x2 x))) = (List.length (rowC (LandA.C x10)))) ∧
 (((0 : Nat) = (0 : Nat)) ∧
 (((List.length (refsR (List.take x2 x))) = (List.length (refsR (LandA.C x10)))) ∧
 (((List.take x2 x) = (LandA.C x10)) ∧
 (((rowC (List.take x2 x)) = (rowC (LandA.C x10))) ∧
 (((refsR (List.take x2 x)) = (refsR (LandA.C x10))) ∧
 (((((fewG (LandA.C x10)) = Bool.true) ∧
 ((shortM (LandA.C x10)) = Bool.true)) ∧
 (((shortC (LandA.l x10)) = Bool.true) ∧
 ((fewX (LandA.l x10)) = Bool.true))) ∧
 (∀ x11 : Unit,
 (True →
 (br ((VerdictD.code (landV x10)) != (2 : Int))
 (∃ x12 : Unit,
 (((0 : Nat) = (List.length x)) ∧
 (((0 : Nat) = (List.length (rowC x))) ∧
 (((0 : Nat) = (List.length (refsR x))) ∧
 (((4 : Int) = (0 : Int)) ∧
 ((([] : List CommitD) = x) ∧
 ((([] : List LeafD) = (rowC x)) ∧
 ((([] : List RefD) = (refsR x)) ∧
 True))))))))
 (br (decide (((0 : Int) ≤ (↑x2 : Int)) ∧
 ((↑x2 : Int) < (↑(List.length (landC x10)) : Int))))
 (br (decide (((0 : Nat) + (Int.toNat (↑x2 : Int))) < (List.length (landC x10))))
 (br (decide (((0 : Int) ≤ (↑x2 : Int)) ∧
 ((↑x2 : Int) < (↑(List.length x) : Int))))
 (∃ x13 : Cmt2,
 (((CommitD.rev (List.getD (landC x10) ((0 : Nat) + (Int.toNat (↑x2 : Int))) (CommitD.mk (0 : Int) (0 : Int) ([] : List UInt8) ([] : List ChangeD)))) = (CommitD.rev (Cmt2.a x13))) ∧
 (((CommitD.base (List.getD (landC x10) ((0 : Nat) + (Int.toNat (↑x2 : Int))) (CommitD.mk (0 : Int) (0 : Int) ([] : List UInt8) ([] : List ChangeD)))) = (CommitD.base (Cmt2.a x13))) ∧
 (((CommitD.ref (List.getD (landC x10) ((0 : Nat) + (Int.toNat (↑x2 : Int))) (CommitD.mk (0 : Int) (0 : Int) ([] : List UInt8) ([] : List ChangeD)))) = (CommitD.ref (Cmt2.a x13))) ∧
 (((CommitD.changes (List.getD (landC x10) ((0 : Nat) + (Int.toNat (↑x2 : Int))) (CommitD.mk (0 : Int) (0 : Int) ([] : List UInt8) ([] : List ChangeD)))) = (CommitD.changes (Cmt2.a x13))) ∧
 (((CommitD.rev (List.getD x (Int.toNat (↑x2 : Int)) (CommitD.mk (0 : Int) (0 : Int) ([] : List UInt8) ([] : List ChangeD)))) = (CommitD.rev (Cmt2.b x13))) ∧
 (((CommitD.base (List.getD x (Int.toNat (↑x2 : Int)) (CommitD.mk (0 : Int) (0 : Int) ([] : List UInt8) ([] : List ChangeD)))) = (CommitD.base (Cmt2.b x13))) ∧
 (((CommitD.ref (List.getD x (Int.toNat (↑x2 : Int)) (CommitD.mk (0 : Int) (0 : Int) ([] : List UInt8) ([] : List ChangeD)))) = (CommitD.ref (Cmt2.b x13))) ∧
 (((CommitD.changes (List.getD x (Int.toNat (↑x2 : Int)) (CommitD.mk (0 : Int) (0 : Int) ([] : List UInt8) ([] : List ChangeD)))) = (CommitD.changes (Cmt2.b x13))) ∧
 (True ∧
 (∀ x14 : Unit,
 (True →
 (br (Bool.not (eqM (Cmt2.a x13) (Cmt2.b x13)))
 (∃ x15 : Unit,
 (((0 : Nat) = (List.length x)) ∧
 (((0 : Nat) = (List.length (rowC x))) ∧
 (((0 : Nat) = (List.length (refsR x))) ∧
 (((4 : Int) = (0 : Int)) ∧
 ((([] : List CommitD) = x) ∧
 ((([] : List LeafD) = (rowC x)) ∧
 ((([] : List RefD) = (refsR x)) ∧
 True))))))))
 (∃ x16 : Nat,
 (((IntKind.wrap IntKind.i64 ((↑x2 : Int) + (1 : Int))) = (↑x16 : Int)) ∧
 (((0 : Nat) = (0 : Nat)) ∧
 (((List.length (landC x10)) = (List.length (List.take x16 x))) ∧
 (((0 : Nat) = (0 : Nat)) ∧
 (((List.length (rowC (landC x10))) = (List.length (rowC (List.take x16 x)))) ∧
 (((0 : Nat) = (0 : Nat)) ∧
 (((List.length (refsR (landC x10))) = (List.length (refsR (List.take x16 x)))) ∧
 (((landC x10) = (List.take x16 x)) ∧
 (((rowC (landC x10)) = (rowC (List.take x16 x))) ∧
 (((refsR (landC x10)) = (refsR (List.take x16 x))) ∧
 (((x16 ≤ (List.length x)) ∧
 (LoadsTo x x16)) ∧
 ((Nat.sub (List.length x) x16) < (Nat.sub (List.length x) x2)))))))))))))))))))))))))))
 (Bad "check" "ref.go:251"))
 (Bad "check" "ref.go:251"))
 (Bad "check" "ref.go:251"))))))))))))))))))))
 (Bad "check" "ref.go:250"))
 (Bad "check" "ref.go:250"))
 (Bad "check" "ref.go:250"))
 (∃ x17 : Unit,
 (((0 : Nat) = (0 : Nat)) ∧
 (((List.length (List.take x2 x)) = (List.length x)) ∧
 (((0 : Nat) = (0 : Nat)) ∧
 (((List.length (rowC (List.take x2 x))) = (List.length (rowC x))) ∧
 (((0 : Nat) = (0 : Nat)) ∧
 (((List.length (refsR (List.take x2 x))) = (List.length (refsR x))) ∧
 (((0 : Int) = (0 : Int)) ∧
 (((List.take x2 x) = x) ∧
 (((rowC (List.take x2 x)) = (rowC x)) ∧
 (((refsR (List.take x2 x)) = (refsR x)) ∧
 True))))))))))))))))) := by kernel_rfl

theorem rload2_vc (x : rload2T.γ) : evCall rloadE (ev rloadE 1000) 35 (rload2T.args x) ⟨rload2T.blks x, rload2T.n0, []⟩ (fun _ _ => False) (rload2T.ends x) = (
((∃ x1 : Nat,
 (((0 : Int) = (↑x1 : Int)) ∧
 (((0 : Nat) = (List.length (List.take x1 x))) ∧
 (((0 : Nat) = (List.length (rowC (List.take x1 x)))) ∧
 (((0 : Nat) = (List.length (refsR (List.take x1 x)))) ∧
 ((([] : List CommitD) = (List.take x1 x)) ∧
 ((([] : List LeafD) = (rowC (List.take x1 x))) ∧
 ((([] : List RefD) = (refsR (List.take x1 x))) ∧
 ((x1 ≤ (List.length x)) ∧
 (LoadsTo x x1)))))))))) ∧
 (∀ x2 : Nat,
 (((x2 ≤ (List.length x)) ∧
 (LoadsTo x x2)) →
 ((((List.length x) * (56 : Nat)) ≤ room47) →
 (br (decide ((↑x2 : Int) < (↑(List.length x) : Int)))
 (br (decide (((0 : Int) ≤ (↑x2 : Int)) ∧
 ((↑x2 : Int) < (↑(List.length x) : Int))))
 (br (decide (((0 : Int) ≤ (↑x2 : Int)) ∧
 ((↑x2 : Int) < (↑(List.length x) : Int))))
 (br (decide (((0 : Int) ≤ (↑x2 : Int)) ∧
 ((↑x2 : Int) < (↑(List.length x) : Int))))
 ((∃ x3 : LandA,
 (((CommitD.base (List.getD x (Int.toNat (↑x2 : Int)) (CommitD.mk (0 : Int) (0 : Int) ([] : List UInt8) ([] : List ChangeD)))) = (LandA.base x3)) ∧
 (((CommitD.ref (List.getD x (Int.toNat (↑x2 : Int)) (CommitD.mk (0 : Int) (0 : Int) ([] : List UInt8) ([] : List ChangeD)))) = (LandA.ref x3)) ∧
 (((CommitD.changes (List.getD x (Int.toNat (↑x2 : Int)) (CommitD.mk (0 : Int) (0 : Int) ([] : List UInt8) ([] : List ChangeD)))) = (LandA.l x3)) ∧
 (((0 : Nat) = (0 : Nat)) ∧
 (((List.length (List.take x2 x)) = (List.length (LandA.C x3))) ∧
 (((0 : Nat) = (0 : Nat)) ∧
 (((List.length (rowC (List.take x2 x))) = (List.length (rowC (LandA.C x3)))) ∧
 (((0 : Nat) = (0 : Nat)) ∧
 (((List.length (refsR (List.take x2 x))) = (List.length (refsR (LandA.C x3)))) ∧
 (((List.take x2 x) = (LandA.C x3)) ∧
 (((rowC (List.take x2 x)) = (rowC (LandA.C x3))) ∧
 (((refsR (List.take x2 x)) = (refsR (LandA.C x3))) ∧
 (((((fewG (LandA.C x3)) = Bool.true) ∧
 ((shortM (LandA.C x3)) = Bool.true)) ∧
 (((shortC (LandA.l x3)) = Bool.true) ∧
 ((fewX (LandA.l x3)) = Bool.true))) ∧
 (∀ x4 : Unit,
 (True →
 (br ((VerdictD.code (landV x3)) != (2 : Int))
 (∃ x5 : Unit,
 (((4 : Int) = (4 : Int)) ∧
 True))
 (br (decide (((0 : Int) ≤ (↑x2 : Int)) ∧
 ((↑x2 : Int) < (↑(List.length (landC x3)) : Int))))
 (br (decide (((0 : Nat) + (Int.toNat (↑x2 : Int))) < (List.length (landC x3))))
 (br (decide (((0 : Int) ≤ (↑x2 : Int)) ∧
 ((↑x2 : Int) < (↑(List.length x) : Int))))
 (∃ x6 : Cmt2,
 (((CommitD.rev (List.getD (landC x3) ((0 : Nat) + (Int.toNat (↑x2 : Int))) (CommitD.mk (0 : Int) (0 : Int) ([] : List UInt8) ([] : List ChangeD)))) = (CommitD.rev (Cmt2.a x6))) ∧
 (((CommitD.base (List.getD (landC x3) ((0 : Nat) + (Int.toNat (↑x2 : Int))) (CommitD.mk (0 : Int) (0 : Int) ([] : List UInt8) ([] : List ChangeD)))) = (CommitD.base (Cmt2.a x6))) ∧
 (((CommitD.ref (List.getD (landC x3) ((0 : Nat) + (Int.toNat (↑x2 : Int))) (CommitD.mk (0 : Int) (0 : Int) ([] : List UInt8) ([] : List ChangeD)))) = (CommitD.ref (Cmt2.a x6))) ∧
 (((CommitD.changes (List.getD (landC x3) ((0 : Nat) + (Int.toNat (↑x2 : Int))) (CommitD.mk (0 : Int) (0 : Int) ([] : List UInt8) ([] : List ChangeD)))) = (CommitD.changes (Cmt2.a x6))) ∧
 (((CommitD.rev (List.getD x (Int.toNat (↑x2 : Int)) (CommitD.mk (0 : Int) (0 : Int) ([] : List UInt8) ([] : List ChangeD)))) = (CommitD.rev (Cmt2.b x6))) ∧
 (((CommitD.base (List.getD x (Int.toNat (↑x2 : Int)) (CommitD.mk (0 : Int) (0 : Int) ([] : List UInt8) ([] : List ChangeD)))) = (CommitD.base (Cmt2.b x6))) ∧
 (((CommitD.ref (List.getD x (Int.toNat (↑x2 : Int)) (CommitD.mk (0 : Int) (0 : Int) ([] : List UInt8) ([] : List ChangeD)))) = (CommitD.ref (Cmt2.b x6))) ∧
 (((CommitD.changes (List.getD x (Int.toNat (↑x2 : Int)) (CommitD.mk (0 : Int) (0 : Int) ([] : List UInt8) ([] : List ChangeD)))) = (CommitD.changes (Cmt2.b x6))) ∧
 (True ∧
 (∀ x7 : Unit,
 (True →
 (br (Bool.not (eqM (Cmt2.a x6) (Cmt2.b x6)))
 (∃ x8 : Unit,
 (((4 : Int) = (4 : Int)) ∧
 True))
 (∃ x9 : Nat,
 (((IntKind.wrap IntKind.i64 ((↑x2 : Int) + (1 : Int))) = (↑x9 : Int)) ∧
 (((0 : Nat) = (0 : Nat)) ∧
 (((List.length (landC x3)) = (List.length (List.take x9 x))) ∧
 (((0 : Nat) = (0 : Nat)) ∧
 (((List.length (rowC (landC x3))) = (List.length (rowC (List.take x9 x)))) ∧
 (((0 : Nat) = (0 : Nat)) ∧
 (((List.length (refsR (landC x3))) = (List.length (refsR (List.take x9 x)))) ∧
 (((landC x3) = (List.take x9 x)) ∧
 (((rowC (landC x3)) = (rowC (List.take x9 x))) ∧
 (((refsR (landC x3)) = (refsR (List.take x9 x))) ∧
 (((x9 ≤ (List.length x)) ∧
 (LoadsTo x x9)) ∧
 ((Nat.sub (List.length x) x9) < (Nat.sub (List.length x) x2)))))))))))))))))))))))))))
 (Bad "check" "ref.go:251"))
 (Bad "check" "ref.go:251"))
 (Bad "check" "ref.go:251"))))))))))))))))))) ∧
 (∃ x10 : LandA,
 (((CommitD.base (List.getD x (Int.toNat (↑x2 : Int)) (CommitD.mk (0 : Int) (0 : Int) ([] : List UInt8) ([] : List ChangeD)))) = (LandA.base x10)) ∧
 (((CommitD.ref (List.getD x (Int.toNat (↑x2 : Int)) (CommitD.mk (0 : Int) (0 : Int) ([] : List UInt8) ([] : List ChangeD)))) = (LandA.ref x10)) ∧
 (((CommitD.changes (List.getD x (Int.toNat (↑x2 : Int)) (CommitD.mk (0 : Int) (0 : Int) ([] : List UInt8) ([] : List ChangeD)))) = (LandA.l x10)) ∧
 (((0 : Nat) = (0 : Nat)) ∧
 (((List.length (List.take x2 x)) = (List.length (LandA.C x10))) ∧
 (((0 : Nat) = (0 : Nat)) ∧
 (((List.length (rowC (List.take x2 x))) = (List.length (rowC (LandA.C x10)))) ∧
 (((0 : Nat) = (0 : Nat)) ∧
 (((List.length (refsR (List.take x2 x))) = (List.length (refsR (LandA.C x10)))) ∧
 (((List.take x2 x) = (LandA.C x10)) ∧
 (((rowC (List.take x2 x)) = (rowC (LandA.C x10))) ∧
 (((refsR (List.take x2 x)) = (refsR (LandA.C x10))) ∧
 (((((fewG (LandA.C x10)) = Bool.true) ∧
 ((shortM (LandA.C x10)) = Bool.true)) ∧
 (((shortC (LandA.l x10)) = Bool.true) ∧
 ((fewX (LandA.l x10)) = Bool.true))) ∧
 (∀ x11 : Unit,
 (True →
 (br ((VerdictD.code (landV x10)) != (2 : Int))
 (∃ x12 : Unit,
 (((4 : Int) = (4 : Int)) ∧
 True))
 (br (decide (((0 : Int) ≤ (↑x2 : Int)) ∧
 ((↑x2 : Int) < (↑(List.length (landC x10)) : Int))))
 (br (decide (((0 : Nat) + (Int.toNat (↑x2 : Int))) < (List.length (landC x10))))
 (br (decide (((0 : Int) ≤ (↑x2 : Int)) ∧
 ((↑x2 : Int) < (↑(List.length x) : Int))))
 (∃ x13 : Cmt2,
 (((CommitD.rev (List.getD (landC x10) ((0 : Nat) + (Int.toNat (↑x2 : Int))) (CommitD.mk (0 : Int) (0 : Int) ([] : List UInt8) ([] : List ChangeD)))) = (CommitD.rev (Cmt2.a x13))) ∧
 (((CommitD.base (List.getD (landC x10) ((0 : Nat) + (Int.toNat (↑x2 : Int))) (CommitD.mk (0 : Int) (0 : Int) ([] : List UInt8) ([] : List ChangeD)))) = (CommitD.base (Cmt2.a x13))) ∧
 (((CommitD.ref (List.getD (landC x10) ((0 : Nat) + (Int.toNat (↑x2 : Int))) (CommitD.mk (0 : Int) (0 : Int) ([] : List UInt8) ([] : List ChangeD)))) = (CommitD.ref (Cmt2.a x13))) ∧
 (((CommitD.changes (List.getD (landC x10) ((0 : Nat) + (Int.toNat (↑x2 : Int))) (CommitD.mk (0 : Int) (0 : Int) ([] : List UInt8) ([] : List ChangeD)))) = (CommitD.changes (Cmt2.a x13))) ∧
 (((CommitD.rev (List.getD x (Int.toNat (↑x2 : Int)) (CommitD.mk (0 : Int) (0 : Int) ([] : List UInt8) ([] : List ChangeD)))) = (CommitD.rev (Cmt2.b x13))) ∧
 (((CommitD.base (List.getD x (Int.toNat (↑x2 : Int)) (CommitD.mk (0 : Int) (0 : Int) ([] : List UInt8) ([] : List ChangeD)))) = (CommitD.base (Cmt2.b x13))) ∧
 (((CommitD.ref (List.getD x (Int.toNat (↑x2 : Int)) (CommitD.mk (0 : Int) (0 : Int) ([] : List UInt8) ([] : List ChangeD)))) = (CommitD.ref (Cmt2.b x13))) ∧
 (((CommitD.changes (List.getD x (Int.toNat (↑x2 : Int)) (CommitD.mk (0 : Int) (0 : Int) ([] : List UInt8) ([] : List ChangeD)))) = (CommitD.changes (Cmt2.b x13))) ∧
 (True ∧
 (∀ x14 : Unit,
 (True →
 (br (Bool.not (eqM (Cmt2.a x13) (Cmt2.b x13)))
 (∃ x15 : Unit,
 (((4 : Int) = (4 : Int)) ∧
 True))
 (∃ x16 : Nat,
 (((IntKind.wrap IntKind.i64 ((↑x2 : Int) + (1 : Int))) = (↑x16 : Int)) ∧
 (((0 : Nat) = (0 : Nat)) ∧
 (((List.length (landC x10)) = (List.length (List.take x16 x))) ∧
 (((0 : Nat) = (0 : Nat)) ∧
 (((List.length (rowC (landC x10))) = (List.length (rowC (List.take x16 x)))) ∧
 (((0 : Nat) = (0 : Nat)) ∧
 (((List.length (refsR (landC x10))) = (List.length (refsR (List.take x16 x)))) ∧
 (((landC x10) = (List.take x16 x)) ∧
 (((rowC (landC x10)) = (rowC (List.take x16 x))) ∧
 (((refsR (landC x10)) = (refsR (List.take x16 x))) ∧
 (((x16 ≤ (List.length x)) ∧
 (LoadsTo x x16)) ∧
 ((Nat.sub (List.length x) x16) < (Nat.sub (List.length x) x2)))))))))))))))))))))))))))
 (Bad "check" "ref.go:251"))
 (Bad "check" "ref.go:251"))
 (Bad "check" "ref.go:251"))))))))))))))))))))
 (Bad "check" "ref.go:250"))
 (Bad "check" "ref.go:250"))
 (Bad "check" "ref.go:250"))
 (∃ x17 : Unit,
 (Bad "match: nils" "")))))))) := by kernel_rfl

end Go.Proofs.YtildflamnehilaaGreat.Ses

namespace Go.Proofs.YtildflamnehilaaGreat.Ses
open Go Go.Proofs Go.Proofs.YtildflamnehilaaGreat.Sx Go.Proofs.YtildflamnehilaaGreat.Trx

theorem rloadE_ok : EnvOK rloadE := Env_ok (by decide +kernel) (by
  intro p hp
  simp only [List.mem_cons, List.mem_nil_iff, or_false] at hp
  rcases hp with rfl | rfl
  · exact rland_ok
  · exact scom_ok)
theorem fewM_of {raw : List CommitD} (h : fewM raw = true) : ∀ i, i < raw.length → fewX (raw.getD i noM).changes = true := by
  unfold fewM at h
  rw [List.all_eq_true] at h
  exact fun i hi => h _ (getD_mem hi)
theorem shortM_take {raw : List CommitD} (h : mayM raw = true) (i : Nat) : shortM (raw.take i) = true := by
  unfold mayM at h
  simp only [Bool.and_eq_true, decide_eq_true_eq, List.all_eq_true] at h
  unfold shortM
  rw [List.all_eq_true]
  exact fun c hc => h.2 c (List.mem_of_mem_take hc)
theorem eqM_parts {a b : CommitD} (h : eqM a b = true) : a.rev = b.rev ∧ sameC a.changes b.changes = true := by
  unfold eqM at h
  simp only [Bool.and_eq_true, beq_iff_eq] at h
  exact ⟨h.1, h.2.2.2⟩
/-- the last one that landed -/
theorem load_new {x : List CommitD} {i : Nat} (hi : i < x.length) (g1 : (landV (loadA x i)).code = 2) :
    (landC (loadA x i)).length = i + 1 ∧ (landC (loadA x i)).getD i noM = newC (loadA x i) ∧ (landV (loadA x i)).rev = (i : Int) + 1 ∧ (newC (loadA x i)).rev = (i : Int) + 1 ∧ (newC (loadA x i)).changes = insS (x.getD i noM).changes := by
  obtain ⟨hb, hV, hC⟩ := land_two g1
  have hl : (loadA x i).C.length = i := by show (x.take i).length = i; rw [List.length_take]; omega
  refine ⟨by rw [hC, List.length_append, hl]; rfl, ?_, by rw [hV, hl]; rfl, ?_, rfl⟩
  · rw [hC]
    have e := get_mid (loadA x i).C (newC (loadA x i)) [] noM
    rw [hl] at e
    exact e
  · show ((loadA x i).C.length : Int) + 1 = _
    rw [hl]
set_option maxHeartbeats 0 in
theorem rload1_ok : SpecOK Tryz.prog 35 rload1T.spec := by
  refine Tri.ok (E := rloadE) rloadE_ok (n := 1000) rload1T fun x hx => ?_
  rw [rload1_vc]
  revert hx
  revert x
  intro (x : List CommitD) (hx : (mayM x = true ∧ fewM x = true) ∧ LoadsTo x x.length)
  obtain ⟨⟨hm, hf⟩, hL⟩ := hx
  obtain ⟨m1, m2⟩ := mayM_of hm
  have m3 := fewM_of hf
  refine ⟨⟨0, rfl, rfl, rfl, rfl, rfl, rfl, rfl, Nat.zero_le _, fun j hj => absurd hj (Nat.not_lt_zero _)⟩, fun i hi _ => br_i (fun h1 => ?_) (fun h1 => ?_)⟩
  · obtain ⟨i1, i2⟩ := hi
    have h1 := of_decide_eq_true h1
    have hs := step_of (hL i (by omega))
    obtain ⟨s1, s2, s3⟩ := step_land (by omega) hs
    have bi : decide ((0 : Int) ≤ (i : Int) ∧ (i : Int) < (x.length : Int)) = true := decide_eq_true ⟨by omega, h1⟩
    obtain ⟨n1, n2, n3, n4, n5⟩ := load_new (x := x) (i := i) (by omega) hs.code
    refine br_t bi (br_t bi (br_t bi (dup ⟨loadA x i, rfl, rfl, rfl, rfl, rfl, rfl, rfl, rfl, rfl, rfl, rfl, rfl, ⟨⟨loads_few i1 m1 i2, shortM_take hm i⟩, m2 i (by omega), m3 i (by omega)⟩, fun _ _ => ?_⟩)))
    have e0 : 0 + (i : Int).toNat = i := by simp
    rw [e0, hs.code]
    have hg : (landC (loadA x i)).getD i noM = x.getD i noM := by
      rw [s1]; simp [List.getD, List.getElem?_take]
    rw [s1]
    have tl : (x.take (i + 1)).length = i + 1 := by rw [List.length_take]; omega
    have tg : (x.take (i + 1)).getD i ⟨0, 0, [], []⟩ = x.getD i noM := by simp [List.getD, List.getElem?_take]
    have e1 : (i : Int).toNat = i := rfl
    rw [tg, e1]
    refine br_f (by decide) (br_t (decide_eq_true ⟨by omega, by omega⟩) (br_t (decide_eq_true (by omega)) (br_t bi ⟨⟨x.getD i noM, x.getD i noM⟩, rfl, rfl, rfl, rfl, rfl, rfl, rfl, rfl, trivial, fun _ _ => br_f (by rw [eqM_self]; rfl) ?_⟩)))
    exact ⟨i + 1, by rw [wrap_id (by omega) (by omega)]; rfl, rfl, rfl, rfl, rfl, rfl, rfl, rfl, rfl, rfl, ⟨by omega, loads_suc i2 (hL i (by omega))⟩, by show x.length - (i + 1) < x.length - i; omega⟩
  · obtain ⟨i1, i2⟩ := hi
    have h1 := of_decide_eq_false h1
    rw [List.take_of_length_le (by omega)]
    exact ⟨(), rfl, rfl, rfl, rfl, rfl, rfl, rfl, rfl, rfl, rfl, trivial⟩
set_option maxHeartbeats 0 in
theorem rload2_ok : SpecOK Tryz.prog 35 rload2T.spec := by
  refine Tri.ok (E := rloadE) rloadE_ok (n := 1000) rload2T fun x hx => ?_
  rw [rload2_vc]
  revert hx
  revert x
  intro (x : List CommitD) (hx : (mayM x = true ∧ fewM x = true) ∧ ¬ LoadsTo x x.length)
  obtain ⟨⟨hm, hf⟩, hL⟩ := hx
  obtain ⟨m1, m2⟩ := mayM_of hm
  have m3 := fewM_of hf
  refine ⟨⟨0, rfl, rfl, rfl, rfl, rfl, rfl, rfl, Nat.zero_le _, fun j hj => absurd hj (Nat.not_lt_zero _)⟩, fun i hi _ => br_i (fun h1 => ?_) (fun h1 => ?_)⟩
  · obtain ⟨i1, i2⟩ := hi
    have h1 := of_decide_eq_true h1
    have bi : decide ((0 : Int) ≤ (i : Int) ∧ (i : Int) < (x.length : Int)) = true := decide_eq_true ⟨by omega, h1⟩
    refine br_t bi (br_t bi (br_t bi (dup ⟨loadA x i, rfl, rfl, rfl, rfl, rfl, rfl, rfl, rfl, rfl, rfl, rfl, rfl, ⟨⟨loads_few i1 m1 i2, shortM_take hm i⟩, m2 i (by omega), m3 i (by omega)⟩, fun _ _ => ?_⟩)))
    refine br_i (fun _ => ?_) (fun g1 => ?_)
    · first | exact ⟨(), rfl, trivial⟩ | exact ⟨(), trivial⟩
    have g1 : (landV (loadA x i)).code = 2 := by simpa using g1
    obtain ⟨n1, n2, n3, n4, n5⟩ := load_new (x := x) (i := i) (by omega) g1
    have e0 : 0 + (i : Int).toNat = i := by simp
    rw [e0]
    have n2' : (landC (loadA x i)).getD i ⟨0, 0, [], []⟩ = newC (loadA x i) := n2
    rw [n2', n1]
    refine br_t (decide_eq_true ⟨by omega, by omega⟩) (br_t (decide_eq_true (by omega)) (br_t bi ⟨⟨newC (loadA x i), x.getD i noM⟩, rfl, rfl, rfl, rfl, rfl, rfl, rfl, rfl, trivial, fun _ _ => br_i (fun _ => ?_) (fun g3 => ?_)⟩))
    · first | exact ⟨(), rfl, trivial⟩ | exact ⟨(), trivial⟩
    have g3 : eqM (newC (loadA x i)) (x.getD i noM) = true := by rw [Bool.not_eq_false'] at g3; exact g3
    obtain ⟨q1, q2⟩ := eqM_parts g3
    rw [n4] at q1
    rw [n5] at q2
    have hst : stepB x i = true := by
      unfold stepB
      rw [q2, n3, ← q1, g1]
      simp
    obtain ⟨s1, s2, s3⟩ := step_land (by omega) (step_of hst)
    have tl : (x.take (i + 1)).length = i + 1 := by rw [List.length_take]; omega
    rw [s1]
    exact ⟨i + 1, by rw [wrap_id (by omega) (by omega)]; rfl, rfl, by rw [tl], rfl, rfl, rfl, rfl, rfl, rfl, rfl, ⟨by omega, loads_suc i2 hst⟩, by show x.length - (i + 1) < x.length - i; omega⟩
  · obtain ⟨i1, i2⟩ := hi
    have h1 := of_decide_eq_false h1
    have : i = x.length := by omega
    subst this
    exact absurd i2 hL
end Go.Proofs.YtildflamnehilaaGreat.Ses
