/- Members change; what a machine tells; the law MachineKnown. No condition. -/
import Derived.Test.YtildflamnehilaaGreatMsB
import Derived.KernelRfl
set_option linter.unusedSimpArgs false
set_option linter.unusedVariables false

namespace Go.Proofs.YtildflamnehilaaGreat.Ses
open Go Go.Proofs Go.Proofs.YtildflamnehilaaGreat.Sx

noncomputable def echgE : Envr := Env Tryz.prog cod [(238, binT.spec), (239, innT.spec), (240, delT.spec)] []
structure ChgB where
  alpha : Int
  E : List EpochD
  slot : Int
  member : Int
def toA (x : ChgB) (b : Bool) : ChgA := ⟨x.alpha, x.E, x.slot, x.member, b⟩
noncomputable def echtT : Tri := { γ := ChgB, n0 := 2, args := fun x => [.mptr 0 0, .int .i64 x.slot, .int .i64 x.member, .bool true], blks := fun x => epB x.alpha x.E 0 1, pre := fun x => okEp x.alpha x.E = true ∧ (0 ≤ x.slot ∧ x.slot ≤ 2199023255552), δ := Unit, post := fun _ _ => True, n1 := 1, res := fun x _ => .int .i64 (chgE (toA x true)).1, blks' := fun x _ => epB x.alpha (chgE (toA x true)).2 0 2, scal := false }
noncomputable def echfT : Tri := { γ := ChgB, n0 := 2, args := fun x => [.mptr 0 0, .int .i64 x.slot, .int .i64 x.member, .bool false], blks := fun x => epB x.alpha x.E 0 1, pre := fun x => okEp x.alpha x.E = true ∧ (0 ≤ x.slot ∧ x.slot ≤ 2199023255552), δ := Unit, post := fun _ _ => True, n1 := 1, res := fun x _ => .int .i64 (chgE (toA x false)).1, blks' := fun x _ => epB x.alpha (chgE (toA x false)).2 0 2, scal := false }
end Go.Proofs.YtildflamnehilaaGreat.Ses

namespace Go.Proofs.YtildflamnehilaaGreat.Ses
open Go Go.Proofs Go.Proofs.YtildflamnehilaaGreat.Sx
set_option maxRecDepth 100000

theorem echt_vc (x : echtT.γ) : evCall echgE (ev echgE 1000) 211 (echtT.args x) ⟨echtT.blks x, echtT.n0, []⟩ (fun _ _ => False) (echtT.ends x) = (
((((List.length (ChgB.E x)) * (32 : Nat)) ≤ room47) →
 (br (Bool.not (decide ((↑(List.length (ChgB.E x)) : Int) > (0 : Int))))
 (∃ x1 : Unit,
 (((12 : Int) = (Prod.fst (chgE (toA x Bool.true)))) ∧
 (((ChgB.alpha x) = (ChgB.alpha x)) ∧
 (((0 : Nat) = (0 : Nat)) ∧
 (((List.length (ChgB.E x)) = (List.length (Prod.snd (chgE (toA x Bool.true))))) ∧
 (((ChgB.E x) = (Prod.snd (chgE (toA x Bool.true)))) ∧
 True))))))
 ((((List.length (ChgB.E x)) * (32 : Nat)) ≤ room47) →
 (br (decide (((0 : Int) ≤ (IntKind.wrap IntKind.i64 ((↑(List.length (ChgB.E x)) : Int) - (1 : Int)))) ∧
 ((IntKind.wrap IntKind.i64 ((↑(List.length (ChgB.E x)) : Int) - (1 : Int))) < (↑(List.length (ChgB.E x)) : Int))))
 (br (decide (((0 : Nat) + (Int.toNat (IntKind.wrap IntKind.i64 ((↑(List.length (ChgB.E x)) : Int) - (1 : Int))))) < (List.length (ChgB.E x))))
 (∃ x2 : BnsA,
 (((EpochD.members (List.getD (ChgB.E x) ((0 : Nat) + (Int.toNat (IntKind.wrap IntKind.i64 ((↑(List.length (ChgB.E x)) : Int) - (1 : Int))))) (EpochD.mk (0 : Int) ([] : List Int)))) = (BnsA.l x2)) ∧
 (((ChgB.member x) = (BnsA.m x2)) ∧
 (((@List.Pairwise Int (fun x3 : Int => (fun x4 : Int => (x3 ≤ x4))) (BnsA.l x2)) ∧
 (((0 : Nat) < (List.length (BnsA.l x2))) ∧
 ((List.length (BnsA.l x2)) ≤ (1000 : Nat)))) ∧
 (∀ x5 : Unit,
 (True →
 (br (decide ((ChgB.slot x) < (0 : Int)))
 (∃ x6 : Unit,
 (((1 : Int) = (Prod.fst (chgE (toA x Bool.true)))) ∧
 (((ChgB.alpha x) = (ChgB.alpha x)) ∧
 (((0 : Nat) = (0 : Nat)) ∧
 (((List.length (ChgB.E x)) = (List.length (Prod.snd (chgE (toA x Bool.true))))) ∧
 (((ChgB.E x) = (Prod.snd (chgE (toA x Bool.true)))) ∧
 True))))))
 (br (decide ((ChgB.slot x) > (IntKind.wrap IntKind.i64 ((1099511627776 : Int) - (ChgB.alpha x)))))
 (∃ x7 : Unit,
 (((1 : Int) = (Prod.fst (chgE (toA x Bool.true)))) ∧
 (((ChgB.alpha x) = (ChgB.alpha x)) ∧
 (((0 : Nat) = (0 : Nat)) ∧
 (((List.length (ChgB.E x)) = (List.length (Prod.snd (chgE (toA x Bool.true))))) ∧
 (((ChgB.E x) = (Prod.snd (chgE (toA x Bool.true)))) ∧
 True))))))
 (br (decide ((ChgB.member x) < (0 : Int)))
 (∃ x8 : Unit,
 (((1 : Int) = (Prod.fst (chgE (toA x Bool.true)))) ∧
 (((ChgB.alpha x) = (ChgB.alpha x)) ∧
 (((0 : Nat) = (0 : Nat)) ∧
 (((List.length (ChgB.E x)) = (List.length (Prod.snd (chgE (toA x Bool.true))))) ∧
 (((ChgB.E x) = (Prod.snd (chgE (toA x Bool.true)))) ∧
 True))))))
 (br (decide (@GE.ge Int _ (ChgB.member x) (15 : Int)))
 (∃ x9 : Unit,
 (((1 : Int) = (Prod.fst (chgE (toA x Bool.true)))) ∧
 (((ChgB.alpha x) = (ChgB.alpha x)) ∧
 (((0 : Nat) = (0 : Nat)) ∧
 (((List.length (ChgB.E x)) = (List.length (Prod.snd (chgE (toA x Bool.true))))) ∧
 (((ChgB.E x) = (Prod.snd (chgE (toA x Bool.true)))) ∧
 True))))))
 (br (decide ((EpochD.from_ (List.getD (ChgB.E x) ((0 : Nat) + (Int.toNat (IntKind.wrap IntKind.i64 ((↑(List.length (ChgB.E x)) : Int) - (1 : Int))))) (EpochD.mk (0 : Int) ([] : List Int)))) > (ChgB.slot x)))
 (∃ x10 : Unit,
 (((12 : Int) = (Prod.fst (chgE (toA x Bool.true)))) ∧
 (((ChgB.alpha x) = (ChgB.alpha x)) ∧
 (((0 : Nat) = (0 : Nat)) ∧
 (((List.length (ChgB.E x)) = (List.length (Prod.snd (chgE (toA x Bool.true))))) ∧
 (((ChgB.E x) = (Prod.snd (chgE (toA x Bool.true)))) ∧
 True))))))
 (br (@List.contains Int _ (BnsA.l x2) (BnsA.m x2))
 (∃ x11 : Unit,
 (((9 : Int) = (Prod.fst (chgE (toA x Bool.true)))) ∧
 (((ChgB.alpha x) = (ChgB.alpha x)) ∧
 (((0 : Nat) = (0 : Nat)) ∧
 (((List.length (ChgB.E x)) = (List.length (Prod.snd (chgE (toA x Bool.true))))) ∧
 (((ChgB.E x) = (Prod.snd (chgE (toA x Bool.true)))) ∧
 True))))))
 (∀ x12 : Bool,
 (((x12 = Bool.true) →
 ((EpochD.members (List.getD (ChgB.E x) ((0 : Nat) + (Int.toNat (IntKind.wrap IntKind.i64 ((↑(List.length (ChgB.E x)) : Int) - (1 : Int))))) (EpochD.mk (0 : Int) ([] : List Int)))) = ([] : List Int))) →
 (br x12
 (∃ x13 : InnA,
 (((0 : Nat) = (List.length (InnA.l x13))) ∧
 (((↑(@List.countP Int (fun x14 : Int => (decide (x14 < (BnsA.m x2)))) (BnsA.l x2)) : Int) = (↑(InnA.i x13) : Int)) ∧
 (((0 : Nat) = (0 : Nat)) ∧
 (((1 : Nat) = (1 : Nat)) ∧
 ((([] : List Int) = (InnA.l x13)) ∧
 (((List.cons (ChgB.member x) ([] : List Int)) = (List.cons (InnA.m x13) ([] : List Int))) ∧
 (((((1 : Nat) ≤ (List.length (InnA.l x13))) ∧
 ((List.length (InnA.l x13)) ≤ (1000 : Nat))) ∧
 ((InnA.i x13) ≤ (List.length (InnA.l x13)))) ∧
 (∀ x15 : Unit,
 (True →
 (((Nat.le ((List.length (ChgB.E x)) * (32 : Nat)) room47) ∧
 (Nat.le ((1 : Nat) * (32 : Nat)) room47)) →
 (br (Bool.and (Bool.and (decide (((0 : Nat) + (1 : Nat)) ≤ (List.length (List.cons (EpochD.mk (IntKind.wrap IntKind.i64 ((ChgB.slot x) + (ChgB.alpha x))) (innAt (InnA.l x13) (InnA.i x13) (InnA.m x13))) ([] : List EpochD))))) (decide (((0 : Nat) + (List.length (ChgB.E x))) ≤ (List.length (ChgB.E x))))) (decide ((((List.length (ChgB.E x)) + (List.length (List.take (1 : Nat) (List.drop (0 : Nat) (List.cons (EpochD.mk (IntKind.wrap IntKind.i64 ((ChgB.slot x) + (ChgB.alpha x))) (innAt (InnA.l x13) (InnA.i x13) (InnA.m x13))) ([] : List EpochD)))))) * (32 : Nat)) ≤ room47)))
 (∃ x16 : Unit,
 (((0 : Int) = (Prod.fst (chgE (toA x Bool.true)))) ∧
 (((ChgB.alpha x) = (ChgB.alpha x)) ∧
 (((0 : Nat) = (0 : Nat)) ∧
 ((((List.length (ChgB.E x)) + (List.length (List.take (1 : Nat) (List.drop (0 : Nat) (List.cons (EpochD.mk (IntKind.wrap IntKind.i64 ((ChgB.slot x) + (ChgB.alpha x))) (innAt (InnA.l x13) (InnA.i x13) (InnA.m x13))) ([] : List EpochD)))))) = (List.length (Prod.snd (chgE (toA x Bool.true))))) ∧
 (((@HAppend.hAppend (List EpochD) (List EpochD) (List EpochD) _ (List.take (List.length (ChgB.E x)) (List.drop (0 : Nat) (ChgB.E x))) (List.take (1 : Nat) (List.drop (0 : Nat) (List.cons (EpochD.mk (IntKind.wrap IntKind.i64 ((ChgB.slot x) + (ChgB.alpha x))) (innAt (InnA.l x13) (InnA.i x13) (InnA.m x13))) ([] : List EpochD))))) = (Prod.snd (chgE (toA x Bool.true)))) ∧
 True))))))
 (Bad "check" "epoch.go:113")))))))))))))
 (((Nat.le ((0 : Nat) * (8 : Nat)) room47) ∧
 (Nat.le ((List.length (EpochD.members (List.getD (ChgB.E x) ((0 : Nat) + (Int.toNat (IntKind.wrap IntKind.i64 ((↑(List.length (ChgB.E x)) : Int) - (1 : Int))))) (EpochD.mk (0 : Int) ([] : List Int))))) * (8 : Nat)) room47)) →
 (br (Bool.and (Bool.and Bool.true (decide (((0 : Nat) + (0 : Nat)) ≤ (List.length ([] : List Int))))) (decide ((((0 : Nat) + (List.length (EpochD.members (List.getD (ChgB.E x) ((0 : Nat) + (Int.toNat (IntKind.wrap IntKind.i64 ((↑(List.length (ChgB.E x)) : Int) - (1 : Int))))) (EpochD.mk (0 : Int) ([] : List Int)))))) * (8 : Nat)) ≤ room47)))
 (∃ x17 : InnA,
 (((0 : Nat) = (0 : Nat)) ∧
 ((((0 : Nat) + (List.length (EpochD.members (List.getD (ChgB.E x) ((0 : Nat) + (Int.toNat (IntKind.wrap IntKind.i64 ((↑(List.length (ChgB.E x)) : Int) - (1 : Int))))) (EpochD.mk (0 : Int) ([] : List Int)))))) = (List.length (InnA.l x17))) ∧
 (((↑(@List.countP Int (fun x18 : Int => (decide (x18 < (BnsA.m x2)))) (BnsA.l x2)) : Int) = (↑(InnA.i x17) : Int)) ∧
 (((0 : Nat) = (0 : Nat)) ∧
 (((1 : Nat) = (1 : Nat)) ∧
 (((@HAppend.hAppend (List Int) (List Int) (List Int) _ (List.take (0 : Nat) (List.drop (0 : Nat) ([] : List Int))) (EpochD.members (List.getD (ChgB.E x) ((0 : Nat) + (Int.toNat (IntKind.wrap IntKind.i64 ((↑(List.length (ChgB.E x)) : Int) - (1 : Int))))) (EpochD.mk (0 : Int) ([] : List Int))))) = (InnA.l x17)) ∧
 (((List.cons (ChgB.member x) ([] : List Int)) = (List.cons (InnA.m x17) ([] : List Int))) ∧
 (((((1 : Nat) ≤ (List.length (InnA.l x17))) ∧
 ((List.length (InnA.l x17)) ≤ (1000 : Nat))) ∧
 ((InnA.i x17) ≤ (List.length (InnA.l x17)))) ∧
 (∀ x19 : Unit,
 (True →
 (((Nat.le ((List.length (ChgB.E x)) * (32 : Nat)) room47) ∧
 (Nat.le ((1 : Nat) * (32 : Nat)) room47)) →
 (br (Bool.and (Bool.and (decide (((0 : Nat) + (1 : Nat)) ≤ (List.length (List.cons (EpochD.mk (IntKind.wrap IntKind.i64 ((ChgB.slot x) + (ChgB.alpha x))) (innAt (InnA.l x17) (InnA.i x17) (InnA.m x17))) ([] : List EpochD))))) (decide (((0 : Nat) + (List.length (ChgB.E x))) ≤ (List.length (ChgB.E x))))) (decide ((((List.length (ChgB.E x)) + (List.length (List.take (1 : Nat) (List.drop (0 : Nat) (List.cons (EpochD.mk (IntKind.wrap IntKind.i64 ((ChgB.slot x) + (ChgB.alpha x))) (innAt (InnA.l x17) (InnA.i x17) (InnA.m x17))) ([] : List EpochD)))))) * (32 : Nat)) ≤ room47)))
 (∃ x20 : Unit,
 (((0 : Int) = (Prod.fst (chgE (toA x Bool.true)))) ∧
 (((ChgB.alpha x) = (ChgB.alpha x)) ∧
 (((0 : Nat) = (0 : Nat)) ∧
 ((((List.length (ChgB.E x)) + (List.length (List.take (1 : Nat) (List.drop (0 : Nat) (List.cons (EpochD.mk (IntKind.wrap IntKind.i64 ((ChgB.slot x) + (ChgB.alpha x))) (innAt (InnA.l x17) (InnA.i x17) (InnA.m x17))) ([] : List EpochD)))))) = (List.length (Prod.snd (chgE (toA x Bool.true))))) ∧
 (((@HAppend.hAppend (List EpochD) (List EpochD) (List EpochD) _ (List.take (List.length (ChgB.E x)) (List.drop (0 : Nat) (ChgB.E x))) (List.take (1 : Nat) (List.drop (0 : Nat) (List.cons (EpochD.mk (IntKind.wrap IntKind.i64 ((ChgB.slot x) + (ChgB.alpha x))) (innAt (InnA.l x17) (InnA.i x17) (InnA.m x17))) ([] : List EpochD))))) = (Prod.snd (chgE (toA x Bool.true)))) ∧
 True))))))
 (Bad "check" "epoch.go:113"))))))))))))))
 (Bad "check" "slices.go:362"))))))))))))))))))
 (Bad "check" "epoch.go:93"))
 (Bad "check" "epoch.go:93")))))) := by kernel_rfl

theorem echf_vc (x : echfT.γ) : evCall echgE (ev echgE 1000) 211 (echfT.args x) ⟨echfT.blks x, echfT.n0, []⟩ (fun _ _ => False) (echfT.ends x) = (
((((List.length (ChgB.E x)) * (32 : Nat)) ≤ room47) →
 (br (Bool.not (decide ((↑(List.length (ChgB.E x)) : Int) > (0 : Int))))
 (∃ x1 : Unit,
 (((12 : Int) = (Prod.fst (chgE (toA x Bool.false)))) ∧
 (((ChgB.alpha x) = (ChgB.alpha x)) ∧
 (((0 : Nat) = (0 : Nat)) ∧
 (((List.length (ChgB.E x)) = (List.length (Prod.snd (chgE (toA x Bool.false))))) ∧
 (((ChgB.E x) = (Prod.snd (chgE (toA x Bool.false)))) ∧
 True))))))
 ((((List.length (ChgB.E x)) * (32 : Nat)) ≤ room47) →
 (br (decide (((0 : Int) ≤ (IntKind.wrap IntKind.i64 ((↑(List.length (ChgB.E x)) : Int) - (1 : Int)))) ∧
 ((IntKind.wrap IntKind.i64 ((↑(List.length (ChgB.E x)) : Int) - (1 : Int))) < (↑(List.length (ChgB.E x)) : Int))))
 (br (decide (((0 : Nat) + (Int.toNat (IntKind.wrap IntKind.i64 ((↑(List.length (ChgB.E x)) : Int) - (1 : Int))))) < (List.length (ChgB.E x))))
 (∃ x2 : BnsA,
 (((EpochD.members (List.getD (ChgB.E x) ((0 : Nat) + (Int.toNat (IntKind.wrap IntKind.i64 ((↑(List.length (ChgB.E x)) : Int) - (1 : Int))))) (EpochD.mk (0 : Int) ([] : List Int)))) = (BnsA.l x2)) ∧
 (((ChgB.member x) = (BnsA.m x2)) ∧
 (((@List.Pairwise Int (fun x3 : Int => (fun x4 : Int => (x3 ≤ x4))) (BnsA.l x2)) ∧
 (((0 : Nat) < (List.length (BnsA.l x2))) ∧
 ((List.length (BnsA.l x2)) ≤ (1000 : Nat)))) ∧
 (∀ x5 : Unit,
 (True →
 (br (decide ((ChgB.slot x) < (0 : Int)))
 (∃ x6 : Unit,
 (((1 : Int) = (Prod.fst (chgE (toA x Bool.false)))) ∧
 (((ChgB.alpha x) = (ChgB.alpha x)) ∧
 (((0 : Nat) = (0 : Nat)) ∧
 (((List.length (ChgB.E x)) = (List.length (Prod.snd (chgE (toA x Bool.false))))) ∧
 (((ChgB.E x) = (Prod.snd (chgE (toA x Bool.false)))) ∧
 True))))))
 (br (decide ((ChgB.slot x) > (IntKind.wrap IntKind.i64 ((1099511627776 : Int) - (ChgB.alpha x)))))
 (∃ x7 : Unit,
 (((1 : Int) = (Prod.fst (chgE (toA x Bool.false)))) ∧
 (((ChgB.alpha x) = (ChgB.alpha x)) ∧
 (((0 : Nat) = (0 : Nat)) ∧
 (((List.length (ChgB.E x)) = (List.length (Prod.snd (chgE (toA x Bool.false))))) ∧
 (((ChgB.E x) = (Prod.snd (chgE (toA x Bool.false)))) ∧
 True))))))
 (br (decide ((ChgB.member x) < (0 : Int)))
 (∃ x8 : Unit,
 (((1 : Int) = (Prod.fst (chgE (toA x Bool.false)))) ∧
 (((ChgB.alpha x) = (ChgB.alpha x)) ∧
 (((0 : Nat) = (0 : Nat)) ∧
 (((List.length (ChgB.E x)) = (List.length (Prod.snd (chgE (toA x Bool.false))))) ∧
 (((ChgB.E x) = (Prod.snd (chgE (toA x Bool.false)))) ∧
 True))))))
 (br (decide (@GE.ge Int _ (ChgB.member x) (15 : Int)))
 (∃ x9 : Unit,
 (((1 : Int) = (Prod.fst (chgE (toA x Bool.false)))) ∧
 (((ChgB.alpha x) = (ChgB.alpha x)) ∧
 (((0 : Nat) = (0 : Nat)) ∧
 (((List.length (ChgB.E x)) = (List.length (Prod.snd (chgE (toA x Bool.false))))) ∧
 (((ChgB.E x) = (Prod.snd (chgE (toA x Bool.false)))) ∧
 True))))))
 (br (decide ((EpochD.from_ (List.getD (ChgB.E x) ((0 : Nat) + (Int.toNat (IntKind.wrap IntKind.i64 ((↑(List.length (ChgB.E x)) : Int) - (1 : Int))))) (EpochD.mk (0 : Int) ([] : List Int)))) > (ChgB.slot x)))
 (∃ x10 : Unit,
 (((12 : Int) = (Prod.fst (chgE (toA x Bool.false)))) ∧
 (((ChgB.alpha x) = (ChgB.alpha x)) ∧
 (((0 : Nat) = (0 : Nat)) ∧
 (((List.length (ChgB.E x)) = (List.length (Prod.snd (chgE (toA x Bool.false))))) ∧
 (((ChgB.E x) = (Prod.snd (chgE (toA x Bool.false)))) ∧
 True))))))
 (br (Bool.not (@List.contains Int _ (BnsA.l x2) (BnsA.m x2)))
 (∃ x11 : Unit,
 (((8 : Int) = (Prod.fst (chgE (toA x Bool.false)))) ∧
 (((ChgB.alpha x) = (ChgB.alpha x)) ∧
 (((0 : Nat) = (0 : Nat)) ∧
 (((List.length (ChgB.E x)) = (List.length (Prod.snd (chgE (toA x Bool.false))))) ∧
 (((ChgB.E x) = (Prod.snd (chgE (toA x Bool.false)))) ∧
 True))))))
 ((((List.length (EpochD.members (List.getD (ChgB.E x) ((0 : Nat) + (Int.toNat (IntKind.wrap IntKind.i64 ((↑(List.length (ChgB.E x)) : Int) - (1 : Int))))) (EpochD.mk (0 : Int) ([] : List Int))))) * (8 : Nat)) ≤ room47) →
 (br ((↑(List.length (EpochD.members (List.getD (ChgB.E x) ((0 : Nat) + (Int.toNat (IntKind.wrap IntKind.i64 ((↑(List.length (ChgB.E x)) : Int) - (1 : Int))))) (EpochD.mk (0 : Int) ([] : List Int))))) : Int) == (1 : Int))
 (∃ x12 : Unit,
 (((1 : Int) = (Prod.fst (chgE (toA x Bool.false)))) ∧
 (((ChgB.alpha x) = (ChgB.alpha x)) ∧
 (((0 : Nat) = (0 : Nat)) ∧
 (((List.length (ChgB.E x)) = (List.length (Prod.snd (chgE (toA x Bool.false))))) ∧
 (((ChgB.E x) = (Prod.snd (chgE (toA x Bool.false)))) ∧
 True))))))
 (∀ x13 : Bool,
 (((x13 = Bool.true) →
 ((EpochD.members (List.getD (ChgB.E x) ((0 : Nat) + (Int.toNat (IntKind.wrap IntKind.i64 ((↑(List.length (ChgB.E x)) : Int) - (1 : Int))))) (EpochD.mk (0 : Int) ([] : List Int)))) = ([] : List Int))) →
 (br x13
 (∃ x14 : DllA,
 (((0 : Nat) = (List.length (DllA.l x14))) ∧
 (((↑(@List.countP Int (fun x15 : Int => (decide (x15 < (BnsA.m x2)))) (BnsA.l x2)) : Int) = (↑(DllA.i x14) : Int)) ∧
 (((IntKind.wrap IntKind.i64 ((↑(@List.countP Int (fun x16 : Int => (decide (x16 < (BnsA.m x2)))) (BnsA.l x2)) : Int) + (1 : Int))) = (↑((DllA.i x14) + (1 : Nat)) : Int)) ∧
 ((([] : List Int) = (DllA.l x14)) ∧
 ((((List.length (DllA.l x14)) ≤ (1000 : Nat)) ∧
 ((DllA.i x14) < (List.length (DllA.l x14)))) ∧
 (∀ x17 : Unit,
 (True →
 (((Nat.le ((List.length (ChgB.E x)) * (32 : Nat)) room47) ∧
 (Nat.le ((1 : Nat) * (32 : Nat)) room47)) →
 (br (Bool.and (Bool.and (decide (((0 : Nat) + (1 : Nat)) ≤ (List.length (List.cons (EpochD.mk (IntKind.wrap IntKind.i64 ((ChgB.slot x) + (ChgB.alpha x))) (delAt (DllA.l x14) (DllA.i x14))) ([] : List EpochD))))) (decide (((0 : Nat) + (List.length (ChgB.E x))) ≤ (List.length (ChgB.E x))))) (decide ((((List.length (ChgB.E x)) + (List.length (List.take (1 : Nat) (List.drop (0 : Nat) (List.cons (EpochD.mk (IntKind.wrap IntKind.i64 ((ChgB.slot x) + (ChgB.alpha x))) (delAt (DllA.l x14) (DllA.i x14))) ([] : List EpochD)))))) * (32 : Nat)) ≤ room47)))
 (∃ x18 : Unit,
 (((0 : Int) = (Prod.fst (chgE (toA x Bool.false)))) ∧
 (((ChgB.alpha x) = (ChgB.alpha x)) ∧
 (((0 : Nat) = (0 : Nat)) ∧
 ((((List.length (ChgB.E x)) + (List.length (List.take (1 : Nat) (List.drop (0 : Nat) (List.cons (EpochD.mk (IntKind.wrap IntKind.i64 ((ChgB.slot x) + (ChgB.alpha x))) (delAt (DllA.l x14) (DllA.i x14))) ([] : List EpochD)))))) = (List.length (Prod.snd (chgE (toA x Bool.false))))) ∧
 (((@HAppend.hAppend (List EpochD) (List EpochD) (List EpochD) _ (List.take (List.length (ChgB.E x)) (List.drop (0 : Nat) (ChgB.E x))) (List.take (1 : Nat) (List.drop (0 : Nat) (List.cons (EpochD.mk (IntKind.wrap IntKind.i64 ((ChgB.slot x) + (ChgB.alpha x))) (delAt (DllA.l x14) (DllA.i x14))) ([] : List EpochD))))) = (Prod.snd (chgE (toA x Bool.false)))) ∧
 True))))))
 (Bad "check" "epoch.go:113")))))))))))
 (((Nat.le ((0 : Nat) * (8 : Nat)) room47) ∧
 (Nat.le ((List.length (EpochD.members (List.getD (ChgB.E x) ((0 : Nat) + (Int.toNat (IntKind.wrap IntKind.i64 ((↑(List.length (ChgB.E x)) : Int) - (1 : Int))))) (EpochD.mk (0 : Int) ([] : List Int))))) * (8 : Nat)) room47)) →
 (br (Bool.and (Bool.and Bool.true (decide (((0 : Nat) + (0 : Nat)) ≤ (List.length ([] : List Int))))) (decide ((((0 : Nat) + (List.length (EpochD.members (List.getD (ChgB.E x) ((0 : Nat) + (Int.toNat (IntKind.wrap IntKind.i64 ((↑(List.length (ChgB.E x)) : Int) - (1 : Int))))) (EpochD.mk (0 : Int) ([] : List Int)))))) * (8 : Nat)) ≤ room47)))
 (∃ x19 : DllA,
 (((0 : Nat) = (0 : Nat)) ∧
 ((((0 : Nat) + (List.length (EpochD.members (List.getD (ChgB.E x) ((0 : Nat) + (Int.toNat (IntKind.wrap IntKind.i64 ((↑(List.length (ChgB.E x)) : Int) - (1 : Int))))) (EpochD.mk (0 : Int) ([] : List Int)))))) = (List.length (DllA.l x19))) ∧
 (((↑(@List.countP Int (fun x20 : Int => (decide (x20 < (BnsA.m x2)))) (BnsA.l x2)) : Int) = (↑(DllA.i x19) : Int)) ∧
 (((IntKind.wrap IntKind.i64 ((↑(@List.countP Int (fun x21 : Int => (decide (x21 < (BnsA.m x2)))) (BnsA.l x2)) : Int) + (1 : Int))) = (↑((DllA.i x19) + (1 : Nat)) : Int)) ∧
 (((@HAppend.hAppend (List Int) (List Int) (List Int) _ (List.take (0 : Nat) (List.drop (0 : Nat) ([] : List Int))) (EpochD.members (List.getD (ChgB.E x) ((0 : Nat) + (Int.toNat (IntKind.wrap IntKind.i64 ((↑(List.length (ChgB.E x)) : Int) - (1 : Int))))) (EpochD.mk (0 : Int) ([] : List Int))))) = (DllA.l x19)) ∧
 ((((List.length (DllA.l x19)) ≤ (1000 : Nat)) ∧
 ((DllA.i x19) < (List.length (DllA.l x19)))) ∧
 (∀ x22 : Unit,
 (True →
 (((Nat.le ((List.length (ChgB.E x)) * (32 : Nat)) room47) ∧
 (Nat.le ((1 : Nat) * (32 : Nat)) room47)) →
 (br (Bool.and (Bool.and (decide (((0 : Nat) + (1 : Nat)) ≤ (List.length (List.cons (EpochD.mk (IntKind.wrap IntKind.i64 ((ChgB.slot x) + (ChgB.alpha x))) (delAt (DllA.l x19) (DllA.i x19))) ([] : List EpochD))))) (decide (((0 : Nat) + (List.length (ChgB.E x))) ≤ (List.length (ChgB.E x))))) (decide ((((List.length (ChgB.E x)) + (List.length (List.take (1 : Nat) (List.drop (0 : Nat) (List.cons (EpochD.mk (IntKind.wrap IntKind.i64 ((ChgB.slot x) + (ChgB.alpha x))) (delAt (DllA.l x19) (DllA.i x19))) ([] : List EpochD)))))) * (32 : Nat)) ≤ room47)))
 (∃ x23 : Unit,
 (((0 : Int) = (Prod.fst (chgE (toA x Bool.false)))) ∧
 (((ChgB.alpha x) = (ChgB.alpha x)) ∧
 (((0 : Nat) = (0 : Nat)) ∧
 ((((List.length (ChgB.E x)) + (List.length (List.take (1 : Nat) (List.drop (0 : Nat) (List.cons (EpochD.mk (IntKind.wrap IntKind.i64 ((ChgB.slot x) + (ChgB.alpha x))) (delAt (DllA.l x19) (DllA.i x19))) ([] : List EpochD)))))) = (List.length (Prod.snd (chgE (toA x Bool.false))))) ∧
 (((@HAppend.hAppend (List EpochD) (List EpochD) (List EpochD) _ (List.take (List.length (ChgB.E x)) (List.drop (0 : Nat) (ChgB.E x))) (List.take (1 : Nat) (List.drop (0 : Nat) (List.cons (EpochD.mk (IntKind.wrap IntKind.i64 ((ChgB.slot x) + (ChgB.alpha x))) (delAt (DllA.l x19) (DllA.i x19))) ([] : List EpochD))))) = (Prod.snd (chgE (toA x Bool.false)))) ∧
 True))))))
 (Bad "check" "epoch.go:113"))))))))))))
 (Bad "check" "slices.go:362"))))))))))))))))))))
 (Bad "check" "epoch.go:93"))
 (Bad "check" "epoch.go:93")))))) := by kernel_rfl

end Go.Proofs.YtildflamnehilaaGreat.Ses

namespace Go.Proofs.YtildflamnehilaaGreat.Ses
open Go Go.Proofs Go.Proofs.YtildflamnehilaaGreat.Sx

theorem upE_all : ∀ {M : List Int} {a : Int}, upE a M = true → (∀ m, m ∈ M → a < m ∧ m < 15) ∧ M.Pairwise (· ≤ ·)
  | [], a, _ => ⟨fun m h => (nomatch h), List.Pairwise.nil⟩
  | m :: r, a, h => by
    unfold upE at h
    simp only [Bool.and_eq_true, decide_eq_true_eq] at h
    obtain ⟨h1, h2⟩ := upE_all (M := r) (a := m) h.2.2
    refine ⟨fun y hy => ?_, List.pairwise_cons.2 ⟨fun y hy => by have := (h1 y hy).1; omega, h2⟩⟩
    rcases List.mem_cons.1 hy with rfl | hy
    · exact ⟨h.1, h.2.1⟩
    · have := h1 y hy
      omega
theorem mayE_of {M : List Int} (h : mayE M = true) : 1 ≤ M.length ∧ M.length ≤ 15 ∧ (∀ m, m ∈ M → 0 ≤ m ∧ m < 15) ∧ M.Pairwise (· ≤ ·) := by
  unfold mayE at h
  simp only [Bool.and_eq_true, decide_eq_true_eq] at h
  obtain ⟨h1, h2⟩ := upE_all h.2.2
  exact ⟨h.1, h.2.1, fun m hm => by have := h1 m hm; omega, h2⟩
theorem echgE_ok : EnvOK echgE := Env_ok (by decide +kernel) (by
  intro p hp
  simp only [List.mem_cons, List.mem_nil_iff, or_false] at hp
  rcases hp with rfl | rfl | rfl
  · exact bin_ok
  · exact inn_ok
  · exact del_ok)
/-- what is known when members are to change -/
structure ChgK (x : ChgB) : Prop where
  a1 : 1 ≤ x.alpha
  a8 : x.alpha ≤ 8
  e1 : 1 ≤ x.E.length
  eM : x.E.length ≤ 1000000
  s0 : 0 ≤ x.slot
  sM : x.slot ≤ 2199023255552
  m1 : 1 ≤ (lastEp x.E).members.length
  mM : (lastEp x.E).members.length ≤ 15
  mp : (lastEp x.E).members.Pairwise (· ≤ ·)
theorem chgK {x : ChgB} (h : okEp x.alpha x.E = true ∧ (0 ≤ x.slot ∧ x.slot ≤ 2199023255552)) : ChgK x := by
  obtain ⟨h1, h2, h3, h4, h5⟩ := okEp_of h.1
  have hm : lastEp x.E ∈ x.E := getD_mem (by omega)
  obtain ⟨m1, m2, _, m3⟩ := mayE_of (h5 _ hm)
  exact ⟨h1, h2, h3, h4, h.2.1, h.2.2, m1, m2, m3⟩
theorem last_ix {n : Nat} (h1 : 1 ≤ n) (h2 : n ≤ 1000000) : IntKind.i64.wrap ((n : Int) - 1) = ((n - 1 : Nat) : Int) := by
  rw [wrap_id (by omega) (by omega)]; omega
theorem echg_false (y : echfT.γ) : (evCall echgE (ev echgE 1000) 211 (echgT.args (toA y false)) ⟨echgT.blks (toA y false), echgT.n0, []⟩ (fun _ _ => False) (echgT.ends (toA y false))) = (evCall echgE (ev echgE 1000) 211 (echfT.args y) ⟨echfT.blks y, echfT.n0, []⟩ (fun _ _ => False) (echfT.ends y)) := by kernel_rfl
theorem echg_true (y : echtT.γ) : (evCall echgE (ev echgE 1000) 211 (echgT.args (toA y true)) ⟨echgT.blks (toA y true), echgT.n0, []⟩ (fun _ _ => False) (echgT.ends (toA y true))) = (evCall echgE (ev echgE 1000) 211 (echtT.args y) ⟨echtT.blks y, echtT.n0, []⟩ (fun _ _ => False) (echtT.ends y)) := by kernel_rfl
theorem echg_split (P : ChgA → Prop) (h1 : ∀ y : ChgB, P (toA y false)) (h2 : ∀ y : ChgB, P (toA y true)) : ∀ x, P x := by
  rintro ⟨a, b, c, d, e⟩
  cases e
  · exact h1 ⟨a, b, c, d⟩
  · exact h2 ⟨a, b, c, d⟩
set_option maxRecDepth 100000 in
set_option maxHeartbeats 0 in
theorem echg_ok : SpecOK Tryz.prog 211 echgT.spec := by
  refine Tri.ok (E := echgE) echgE_ok (n := 1000) echgT (echg_split _ (fun y hx => ?_) (fun y hx => ?_))
  · rw [echg_false y, echf_vc y]
    have hx2 : okEp y.alpha y.E = true ∧ (0 ≤ y.slot ∧ y.slot ≤ 2199023255552) := hx
    clear hx
    obtain ⟨alpha, E, slot, member⟩ := y
    obtain ⟨k1, k2, k3, k4, k5, k6, k7, k8, k9⟩ := chgK (x := ChgB.mk alpha E slot member) hx2
    clear hx2
    dsimp only at *
    rw [last_ix k3 k4]
    have ei : 0 + ((E.length - 1 : Nat) : Int).toNat = E.length - 1 := by simp
    rw [ei]
    have el : E.getD (E.length - 1) ⟨0, []⟩ = lastEp E := rfl
    rw [el]
    have hch : chgE (toA ⟨alpha, E, slot, member⟩ false) = (bif decide (slot < 0) || (decide (slot > 1099511627776 - alpha) || (decide (member < 0) || decide (member ≥ 15))) then (1, E)
      else bif decide ((lastEp E).from_ > slot) then (12, E)
      else bif false && (lastEp E).members.contains member then (9, E)
      else bif !false && !((lastEp E).members.contains member) then (8, E)
      else bif !false && decide ((lastEp E).members.length = 1) then (1, E)
      else (0, E ++ [⟨slot + alpha, bif false then insM (lastEp E).members member else delM (lastEp E).members member⟩])) := rfl
    generalize hM : (lastEp E).members = M at *
    generalize (lastEp E).from_ = fr at *
    have wa : IntKind.i64.wrap (1099511627776 - alpha) = 1099511627776 - alpha := wrap_id (by omega) (by omega)
    rw [wa]
    have hcnt : M.countP (· < member) ≤ M.length := List.countP_le_length
    refine fun hr => br_f (by rw [decide_eq_true (by omega)]; rfl) fun _ => br_t (decide_eq_true ⟨by omega, by omega⟩) (br_t (decide_eq_true (by omega)) ⟨⟨M, member⟩, rfl, rfl, ⟨k9, by show 0 < M.length; omega, by show M.length ≤ 1000; omega⟩, fun _ _ => ?_⟩)
    dsimp only
    refine br_i (fun q => ?_) fun q1 => br_i (fun q => ?_) fun q2 => br_i (fun q => ?_) fun q3 => br_i (fun q => ?_) fun q4 => br_i (fun q => ?_) fun q5 => ?_
    · have e : chgE (toA ⟨alpha, E, slot, member⟩ false) = (1, E) := by rw [hch, q]; rfl
      rw [e]; exact ⟨(), rfl, rfl, rfl, rfl, rfl, trivial⟩
    · have e : chgE (toA ⟨alpha, E, slot, member⟩ false) = (1, E) := by rw [hch, q1, q]; rfl
      rw [e]; exact ⟨(), rfl, rfl, rfl, rfl, rfl, trivial⟩
    · have e : chgE (toA ⟨alpha, E, slot, member⟩ false) = (1, E) := by rw [hch, q1, q2, q]; rfl
      rw [e]; exact ⟨(), rfl, rfl, rfl, rfl, rfl, trivial⟩
    · have e : chgE (toA ⟨alpha, E, slot, member⟩ false) = (1, E) := by rw [hch, q1, q2, q3, q]; rfl
      rw [e]; exact ⟨(), rfl, rfl, rfl, rfl, rfl, trivial⟩
    · have e : chgE (toA ⟨alpha, E, slot, member⟩ false) = (12, E) := by rw [hch, q1, q2, q3, q4, q]; rfl
      rw [e]; exact ⟨(), rfl, rfl, rfl, rfl, rfl, trivial⟩
    refine br_i (fun q => ?_) fun q6 hz0 => br_i (fun q => ?_) fun q7 => ?_
    · have e : chgE (toA ⟨alpha, E, slot, member⟩ false) = (8, E) := by rw [hch, q1, q2, q3, q4, q5, q]; rfl
      rw [e]; exact ⟨(), rfl, rfl, rfl, rfl, rfl, trivial⟩
    · have e7 : decide (M.length = 1) = true := by
        have : (M.length : Int) = 1 := by simpa using q
        exact decide_eq_true (by omega)
      have e : chgE (toA ⟨alpha, E, slot, member⟩ false) = (1, E) := by rw [hch, q1, q2, q3, q4, q5, q6, e7]; rfl
      rw [e]; exact ⟨(), rfl, rfl, rfl, rfl, rfl, trivial⟩
    have e7 : decide (M.length = 1) = false := by
      have : ¬ (M.length : Int) = 1 := by simpa using q7
      exact decide_eq_false (by omega)
    have e : chgE (toA ⟨alpha, E, slot, member⟩ false) = (0, E ++ [⟨slot + alpha, delM M member⟩]) := by rw [hch, q1, q2, q3, q4, q5, q6, e7]; rfl
    rw [e]
    have hin : M.countP (· < member) < M.length := by
      rw [Bool.not_eq_false', List.contains_iff_mem] at q6
      rcases Nat.lt_or_ge (M.countP (· < member)) M.length with h | h
      · exact h
      · have := (List.countP_eq_length.1 (Nat.le_antisymm hcnt h)) member q6
        simp at this
    refine fun bb hbb => br_i (fun hb => ?_) fun _ hz => br_t ?_ ?_
    · have := hbb hb
      rw [this] at k7
      exact absurd k7 (by decide)
    · have h2 : M.length * 8 ≤ room47 := hz.2
      simp only [Nat.zero_add, Bool.true_and, Bool.and_eq_true]
      exact ⟨rfl, decide_eq_true h2⟩
    have hs : IntKind.i64.wrap (slot + alpha) = slot + alpha := wrap_id (by omega) (by omega)
    have hw1 : IntKind.i64.wrap (((M.countP (· < member) : Nat) : Int) + 1) = ((M.countP (· < member) + 1 : Nat) : Int) := by rw [wrap_id (by omega) (by omega)]; omega
    rw [hs]
    refine ⟨⟨M, M.countP (· < member)⟩, rfl, by simp, rfl, hw1, by simp, ⟨by show M.length ≤ 1000; omega, hin⟩, fun _ _ hz2 => br_t ?_ ⟨(), rfl, rfl, rfl, ?_, ?_, trivial⟩⟩
    · have hE : E.length * 32 ≤ room47 := hz2.1
      simp only [List.length_cons, List.length_nil, List.drop_zero, List.take_succ_cons, List.take_nil, Bool.and_eq_true, decide_eq_true_eq]
      exact ⟨⟨by omega, by omega⟩, by unfold room47; omega⟩
    · simp
    · simp [delM, delAt]
  · rw [echg_true y, echt_vc y]
    have hx2 : okEp y.alpha y.E = true ∧ (0 ≤ y.slot ∧ y.slot ≤ 2199023255552) := hx
    clear hx
    obtain ⟨alpha, E, slot, member⟩ := y
    obtain ⟨k1, k2, k3, k4, k5, k6, k7, k8, k9⟩ := chgK (x := ChgB.mk alpha E slot member) hx2
    clear hx2
    dsimp only at *
    rw [last_ix k3 k4]
    have ei : 0 + ((E.length - 1 : Nat) : Int).toNat = E.length - 1 := by simp
    rw [ei]
    have el : E.getD (E.length - 1) ⟨0, []⟩ = lastEp E := rfl
    rw [el]
    have hch : chgE (toA ⟨alpha, E, slot, member⟩ true) = (bif decide (slot < 0) || (decide (slot > 1099511627776 - alpha) || (decide (member < 0) || decide (member ≥ 15))) then (1, E)
      else bif decide ((lastEp E).from_ > slot) then (12, E)
      else bif true && (lastEp E).members.contains member then (9, E)
      else bif !true && !((lastEp E).members.contains member) then (8, E)
      else bif !true && decide ((lastEp E).members.length = 1) then (1, E)
      else (0, E ++ [⟨slot + alpha, bif true then insM (lastEp E).members member else delM (lastEp E).members member⟩])) := rfl
    generalize hM : (lastEp E).members = M at *
    generalize (lastEp E).from_ = fr at *
    have wa : IntKind.i64.wrap (1099511627776 - alpha) = 1099511627776 - alpha := wrap_id (by omega) (by omega)
    rw [wa]
    have hcnt : M.countP (· < member) ≤ M.length := List.countP_le_length
    refine fun hr => br_f (by rw [decide_eq_true (by omega)]; rfl) fun _ => br_t (decide_eq_true ⟨by omega, by omega⟩) (br_t (decide_eq_true (by omega)) ⟨⟨M, member⟩, rfl, rfl, ⟨k9, by show 0 < M.length; omega, by show M.length ≤ 1000; omega⟩, fun _ _ => ?_⟩)
    dsimp only
    refine br_i (fun q => ?_) fun q1 => br_i (fun q => ?_) fun q2 => br_i (fun q => ?_) fun q3 => br_i (fun q => ?_) fun q4 => br_i (fun q => ?_) fun q5 => ?_
    · have e : chgE (toA ⟨alpha, E, slot, member⟩ true) = (1, E) := by rw [hch, q]; rfl
      rw [e]; exact ⟨(), rfl, rfl, rfl, rfl, rfl, trivial⟩
    · have e : chgE (toA ⟨alpha, E, slot, member⟩ true) = (1, E) := by rw [hch, q1, q]; rfl
      rw [e]; exact ⟨(), rfl, rfl, rfl, rfl, rfl, trivial⟩
    · have e : chgE (toA ⟨alpha, E, slot, member⟩ true) = (1, E) := by rw [hch, q1, q2, q]; rfl
      rw [e]; exact ⟨(), rfl, rfl, rfl, rfl, rfl, trivial⟩
    · have e : chgE (toA ⟨alpha, E, slot, member⟩ true) = (1, E) := by rw [hch, q1, q2, q3, q]; rfl
      rw [e]; exact ⟨(), rfl, rfl, rfl, rfl, rfl, trivial⟩
    · have e : chgE (toA ⟨alpha, E, slot, member⟩ true) = (12, E) := by rw [hch, q1, q2, q3, q4, q]; rfl
      rw [e]; exact ⟨(), rfl, rfl, rfl, rfl, rfl, trivial⟩
    refine br_i (fun q => ?_) fun q6 => ?_
    · have e : chgE (toA ⟨alpha, E, slot, member⟩ true) = (9, E) := by rw [hch, q1, q2, q3, q4, q5, q]; rfl
      rw [e]; exact ⟨(), rfl, rfl, rfl, rfl, rfl, trivial⟩
    have e : chgE (toA ⟨alpha, E, slot, member⟩ true) = (0, E ++ [⟨slot + alpha, insM M member⟩]) := by rw [hch, q1, q2, q3, q4, q5, q6]; rfl
    rw [e]
    refine fun bb hbb => br_i (fun hb => ?_) fun _ hz => br_t ?_ ?_
    · have := hbb hb
      rw [this] at k7
      exact absurd k7 (by decide)
    · have h2 : M.length * 8 ≤ room47 := hz.2
      simp only [Nat.zero_add, Bool.true_and, Bool.and_eq_true]
      exact ⟨rfl, decide_eq_true h2⟩
    have hs : IntKind.i64.wrap (slot + alpha) = slot + alpha := wrap_id (by omega) (by omega)
    rw [hs]
    refine ⟨⟨M, M.countP (· < member), member⟩, rfl, by simp, rfl, rfl, rfl, by simp, rfl, ⟨⟨k7, by show M.length ≤ 1000; omega⟩, hcnt⟩, fun _ _ hz2 => br_t ?_ ⟨(), rfl, rfl, rfl, ?_, ?_, trivial⟩⟩
    · have hE : E.length * 32 ≤ room47 := hz2.1
      simp only [List.length_cons, List.length_nil, List.drop_zero, List.take_succ_cons, List.take_nil, Bool.and_eq_true, decide_eq_true_eq]
      exact ⟨⟨by omega, by omega⟩, by unfold room47; omega⟩
    · simp
    · simp [insM, innAt]
end Go.Proofs.YtildflamnehilaaGreat.Ses

namespace Go.Proofs.YtildflamnehilaaGreat.Ses
open Go Go.Proofs Go.Proofs.YtildflamnehilaaGreat.Sx

def fresh0 : MacS := ⟨2, 3, 0, [], [], [⟨0, [0, 1, 2]⟩]⟩
noncomputable def freshT : Tri := { γ := Unit, n0 := 0, args := fun _ => [], blks := fun _ => [], pre := fun _ => True, δ := Unit, post := fun _ _ => True, n1 := 8, res := fun _ _ => .mptr 0 0, blks' := fun _ _ => mB fresh0 0 1 2 3 4 5 6 7, scal := false }
noncomputable def freshE : Envr := Env Tryz.prog cod [(142, emayT.spec), (143, iclnT.spec), (17, gnewT.spec)] []
def okQ (r : RequestD) : Bool := decide (r.name.length ≤ 300) && (decide (r.ref.length ≤ 300) && (decide (r.path.length ≤ 300) && (decide (r.changes.length ≤ 40) && r.changes.all fun c => decide (c.path.length ≤ 300))))
def roomM (l : List RequestD) (most : Int) : Bool := decide ((l.length : Int) ≤ most) && l.all okQ
structure RmA where
  l : List RequestD
  most : Int
noncomputable def mroomT : Tri := { γ := RmA, n0 := 0, args := fun x => [.rslice false .request x.l, .int .i64 x.most], blks := fun _ => [], pre := fun _ => True, δ := Unit, post := fun _ _ => True, n1 := 0, res := fun x _ => .bool (roomM x.l x.most), blks' := fun _ _ => [], scal := true }
noncomputable def mroomI4 : St → LInv := fun s => match getE s.env 0 with
  | .rslice _ .request l => { σ := Nat, I := fun i => i ≤ l.length ∧ (l.take i).all okQ = true, μ := fun i => l.length - i, env := fun i => [(5, .int .i64 i)], blk := fun _ => [], fresh := 0, drop := [] }
  | _ => LInv.none
noncomputable def mroomI9 : St → LInv := fun s => match getE s.env 0, getE s.env 5 with
  | .rslice _ .request l, .int _ i => { σ := Nat, I := fun k => k ≤ (l.getD i.toNat RequestD.dflt).changes.length ∧ ((l.getD i.toNat RequestD.dflt).changes.take k).all (fun c => decide (c.path.length ≤ 300)) = true, μ := fun k => (l.getD i.toNat RequestD.dflt).changes.length - k, env := fun k => [(6, .int .i64 k)], blk := fun _ => [], fresh := 0, drop := [] }
  | _, _ => LInv.none
noncomputable def mroomE : Envr := Env Tryz.prog cod [] [(4, mroomI4), (9, mroomI9)]

noncomputable def comMT : Tri := { γ := MacS, n0 := 8, args := fun _ => [.mptr 0 0], blks := fun x => mB x 0 1 2 3 4 5 6 7, pre := fun x => fewG x.C = true, δ := Unit, post := fun _ _ => True, n1 := 0, res := fun x _ => .rslice false .commit x.C, blks' := fun x _ => mB x 0 1 2 3 4 5 6 7, scal := false }
noncomputable def comME : Envr := Env Tryz.prog cod [(21, commitsT.spec)] []
noncomputable def headMT : Tri := { γ := MacS, n0 := 8, args := fun _ => [.mptr 0 0], blks := fun x => mB x 0 1 2 3 4 5 6 7, pre := fun _ => True, δ := Unit, post := fun _ _ => True, n1 := 0, res := fun x _ => .int .i64 x.C.length, blks' := fun x _ => mB x 0 1 2 3 4 5 6 7, scal := false }
noncomputable def headME : Envr := Env Tryz.prog cod [(60, gheadT.spec)] []
noncomputable def appMT : Tri := { γ := MacS, n0 := 8, args := fun _ => [.mptr 0 0], blks := fun x => mB x 0 1 2 3 4 5 6 7, pre := fun _ => True, δ := Unit, post := fun _ _ => True, n1 := 0, res := fun x _ => .int .i64 x.applied, blks' := fun x _ => mB x 0 1 2 3 4 5 6 7, scal := false }
structure MatA where
  x : MacS
  slot : Int
noncomputable def aw8T : Tri := { γ := Unit, n0 := 0, args := fun _ => [], blks := fun _ => [], pre := fun _ => True, δ := Unit, post := fun _ _ => True, n1 := 0, res := fun _ _ => .bool true, blks' := fun _ _ => [], scal := false }
noncomputable def aw8E : Envr := Env Tryz.prog cod [(25, freshT.spec), (26, applyT.spec), (33, headMT.spec), (41, appMT.spec)] []
end Go.Proofs.YtildflamnehilaaGreat.Ses

namespace Go.Proofs.YtildflamnehilaaGreat.Ses
open Go Go.Proofs Go.Proofs.YtildflamnehilaaGreat.Sx
set_option maxRecDepth 100000

theorem fresh_vc (x : freshT.γ) : evCall freshE (ev freshE 1000) 25 (freshT.args x) ⟨freshT.blks x, freshT.n0, []⟩ (fun _ _ => False) (freshT.ends x) = (
(∃ x1 : (List Int),
 ((((0 : Nat) + (3 : Nat)) ≤ (List.length (List.cons (0 : Int) (List.cons (1 : Int) (List.cons (2 : Int) ([] : List Int)))))) ∧
 (((List.take (3 : Nat) (List.drop (0 : Nat) (List.cons (0 : Int) (List.cons (1 : Int) (List.cons (2 : Int) ([] : List Int)))))) = x1) ∧
 (True ∧
 (∀ x2 : Unit,
 (True →
 (br (Bool.not (mayE x1))
 (∃ x3 : Unit,
 (Bad "match: mptr" ""))
 (∃ x4 : (List Int),
 ((((0 : Nat) + (3 : Nat)) ≤ (List.length (List.cons (0 : Int) (List.cons (1 : Int) (List.cons (2 : Int) ([] : List Int)))))) ∧
 (((List.take (3 : Nat) (List.drop (0 : Nat) (List.cons (0 : Int) (List.cons (1 : Int) (List.cons (2 : Int) ([] : List Int)))))) = x4) ∧
 (True ∧
 (∀ x5 : Unit,
 (True →
 (∃ x6 : Unit,
 (True ∧
 (∀ x7 : Unit,
 (True →
 (∃ x8 : Unit,
 (((2 : Int) = (MacS.alpha fresh0)) ∧
 (((3 : Int) = (MacS.size fresh0)) ∧
 (((0 : Int) = (MacS.applied fresh0)) ∧
 (((0 : Nat) = (0 : Nat)) ∧
 (((List.length ([] : List CommitD)) = (List.length (MacS.C fresh0))) ∧
 (((treeC ([] : List CommitD)) = (treeC (MacS.C fresh0))) ∧
 ((([] : List CommitD) = (MacS.C fresh0)) ∧
 (((kvC ([] : List CommitD)) = (kvC (MacS.C fresh0))) ∧
 (((3 : Int) = (MacS.size fresh0)) ∧
 (((0 : Nat) = (List.length (MacS.S fresh0))) ∧
 ((([] : List SessionD) = (MacS.S fresh0)) ∧
 (((2 : Int) = (MacS.alpha fresh0)) ∧
 (((0 : Nat) = (0 : Nat)) ∧
 (((1 : Nat) = (List.length (MacS.E fresh0))) ∧
 (((List.cons (EpochD.mk (0 : Int) x4) ([] : List EpochD)) = (MacS.E fresh0)) ∧
 True)))))))))))))))))))))))))))))))))) := by kernel_rfl

theorem mroom_vc (x : mroomT.γ) : evCall mroomE (ev mroomE 1000) 30 (mroomT.args x) ⟨mroomT.blks x, mroomT.n0, []⟩ (fun _ _ => False) (mroomT.ends x) = (
((((List.length (RmA.l x)) * (128 : Nat)) ≤ room47) →
 (br (decide ((↑(List.length (RmA.l x)) : Int) > (RmA.most x)))
 (∃ x1 : Unit,
 ((Bool.false = (roomM (RmA.l x) (RmA.most x))) ∧
 True))
 ((∃ x2 : Nat,
 (((0 : Int) = (↑x2 : Int)) ∧
 ((x2 ≤ (List.length (RmA.l x))) ∧
 ((List.all (List.take x2 (RmA.l x)) okQ) = Bool.true)))) ∧
 (∀ x3 : Nat,
 (((x3 ≤ (List.length (RmA.l x))) ∧
 ((List.all (List.take x3 (RmA.l x)) okQ) = Bool.true)) →
 ((((List.length (RmA.l x)) * (128 : Nat)) ≤ room47) →
 (br (decide ((↑x3 : Int) < (↑(List.length (RmA.l x)) : Int)))
 (br (decide (((0 : Int) ≤ (↑x3 : Int)) ∧
 ((↑x3 : Int) < (↑(List.length (RmA.l x)) : Int))))
 (((List.length (RequestD.name (List.getD (RmA.l x) (Int.toNat (↑x3 : Int)) (RequestD.mk (0 : Int) ([] : List UInt8) (0 : Int) (0 : Int) (0 : Int) ([] : List UInt8) ([] : List ChangeD) ([] : List UInt8) (0 : Int) (0 : Int) (0 : Int))))) ≤ maxI64) →
 (br (decide ((↑(List.length (RequestD.name (List.getD (RmA.l x) (Int.toNat (↑x3 : Int)) (RequestD.mk (0 : Int) ([] : List UInt8) (0 : Int) (0 : Int) (0 : Int) ([] : List UInt8) ([] : List ChangeD) ([] : List UInt8) (0 : Int) (0 : Int) (0 : Int))))) : Int) > (300 : Int)))
 (∃ x4 : Unit,
 ((Bool.false = (roomM (RmA.l x) (RmA.most x))) ∧
 True))
 (br (decide (((0 : Int) ≤ (↑x3 : Int)) ∧
 ((↑x3 : Int) < (↑(List.length (RmA.l x)) : Int))))
 (((List.length (RequestD.ref (List.getD (RmA.l x) (Int.toNat (↑x3 : Int)) (RequestD.mk (0 : Int) ([] : List UInt8) (0 : Int) (0 : Int) (0 : Int) ([] : List UInt8) ([] : List ChangeD) ([] : List UInt8) (0 : Int) (0 : Int) (0 : Int))))) ≤ maxI64) →
 (br (decide ((↑(List.length (RequestD.ref (List.getD (RmA.l x) (Int.toNat (↑x3 : Int)) (RequestD.mk (0 : Int) ([] : List UInt8) (0 : Int) (0 : Int) (0 : Int) ([] : List UInt8) ([] : List ChangeD) ([] : List UInt8) (0 : Int) (0 : Int) (0 : Int))))) : Int) > (300 : Int)))
 (∃ x5 : Unit,
 ((Bool.false = (roomM (RmA.l x) (RmA.most x))) ∧
 True))
 (br (decide (((0 : Int) ≤ (↑x3 : Int)) ∧
 ((↑x3 : Int) < (↑(List.length (RmA.l x)) : Int))))
 (((List.length (RequestD.path (List.getD (RmA.l x) (Int.toNat (↑x3 : Int)) (RequestD.mk (0 : Int) ([] : List UInt8) (0 : Int) (0 : Int) (0 : Int) ([] : List UInt8) ([] : List ChangeD) ([] : List UInt8) (0 : Int) (0 : Int) (0 : Int))))) ≤ maxI64) →
 (br (decide ((↑(List.length (RequestD.path (List.getD (RmA.l x) (Int.toNat (↑x3 : Int)) (RequestD.mk (0 : Int) ([] : List UInt8) (0 : Int) (0 : Int) (0 : Int) ([] : List UInt8) ([] : List ChangeD) ([] : List UInt8) (0 : Int) (0 : Int) (0 : Int))))) : Int) > (300 : Int)))
 (∃ x6 : Unit,
 ((Bool.false = (roomM (RmA.l x) (RmA.most x))) ∧
 True))
 (br (decide (((0 : Int) ≤ (↑x3 : Int)) ∧
 ((↑x3 : Int) < (↑(List.length (RmA.l x)) : Int))))
 ((((List.length (RequestD.changes (List.getD (RmA.l x) (Int.toNat (↑x3 : Int)) (RequestD.mk (0 : Int) ([] : List UInt8) (0 : Int) (0 : Int) (0 : Int) ([] : List UInt8) ([] : List ChangeD) ([] : List UInt8) (0 : Int) (0 : Int) (0 : Int))))) * (32 : Nat)) ≤ room47) →
 (br (decide ((↑(List.length (RequestD.changes (List.getD (RmA.l x) (Int.toNat (↑x3 : Int)) (RequestD.mk (0 : Int) ([] : List UInt8) (0 : Int) (0 : Int) (0 : Int) ([] : List UInt8) ([] : List ChangeD) ([] : List UInt8) (0 : Int) (0 : Int) (0 : Int))))) : Int) > (40 : Int)))
 (∃ x7 : Unit,
 ((Bool.false = (roomM (RmA.l x) (RmA.most x))) ∧
 True))
 ((∃ x8 : Nat,
 (((0 : Int) = (↑x8 : Int)) ∧
 ((x8 ≤ (List.length (RequestD.changes (List.getD (RmA.l x) (Int.toNat (↑x3 : Int)) RequestD.dflt)))) ∧
 ((List.all (List.take x8 (RequestD.changes (List.getD (RmA.l x) (Int.toNat (↑x3 : Int)) RequestD.dflt))) (fun x9 : ChangeD => (decide ((List.length (ChangeD.path x9)) ≤ (300 : Nat))))) = Bool.true)))) ∧
 (∀ x10 : Nat,
 (((x10 ≤ (List.length (RequestD.changes (List.getD (RmA.l x) (Int.toNat (↑x3 : Int)) RequestD.dflt)))) ∧
 ((List.all (List.take x10 (RequestD.changes (List.getD (RmA.l x) (Int.toNat (↑x3 : Int)) RequestD.dflt))) (fun x11 : ChangeD => (decide ((List.length (ChangeD.path x11)) ≤ (300 : Nat))))) = Bool.true)) →
 (br (decide (((0 : Int) ≤ (↑x3 : Int)) ∧
 ((↑x3 : Int) < (↑(List.length (RmA.l x)) : Int))))
 ((((List.length (RequestD.changes (List.getD (RmA.l x) (Int.toNat (↑x3 : Int)) (RequestD.mk (0 : Int) ([] : List UInt8) (0 : Int) (0 : Int) (0 : Int) ([] : List UInt8) ([] : List ChangeD) ([] : List UInt8) (0 : Int) (0 : Int) (0 : Int))))) * (32 : Nat)) ≤ room47) →
 (br (decide ((↑x10 : Int) < (↑(List.length (RequestD.changes (List.getD (RmA.l x) (Int.toNat (↑x3 : Int)) (RequestD.mk (0 : Int) ([] : List UInt8) (0 : Int) (0 : Int) (0 : Int) ([] : List UInt8) ([] : List ChangeD) ([] : List UInt8) (0 : Int) (0 : Int) (0 : Int))))) : Int)))
 (br (decide (((0 : Int) ≤ (↑x3 : Int)) ∧
 ((↑x3 : Int) < (↑(List.length (RmA.l x)) : Int))))
 (br (decide (((0 : Int) ≤ (↑x10 : Int)) ∧
 ((↑x10 : Int) < (↑(List.length (RequestD.changes (List.getD (RmA.l x) (Int.toNat (↑x3 : Int)) (RequestD.mk (0 : Int) ([] : List UInt8) (0 : Int) (0 : Int) (0 : Int) ([] : List UInt8) ([] : List ChangeD) ([] : List UInt8) (0 : Int) (0 : Int) (0 : Int))))) : Int))))
 (((List.length (ChangeD.path (List.getD (RequestD.changes (List.getD (RmA.l x) (Int.toNat (↑x3 : Int)) (RequestD.mk (0 : Int) ([] : List UInt8) (0 : Int) (0 : Int) (0 : Int) ([] : List UInt8) ([] : List ChangeD) ([] : List UInt8) (0 : Int) (0 : Int) (0 : Int)))) (Int.toNat (↑x10 : Int)) (ChangeD.mk ([] : List UInt8) Bool.false (0 : Int))))) ≤ maxI64) →
 (br (decide ((↑(List.length (ChangeD.path (List.getD (RequestD.changes (List.getD (RmA.l x) (Int.toNat (↑x3 : Int)) (RequestD.mk (0 : Int) ([] : List UInt8) (0 : Int) (0 : Int) (0 : Int) ([] : List UInt8) ([] : List ChangeD) ([] : List UInt8) (0 : Int) (0 : Int) (0 : Int)))) (Int.toNat (↑x10 : Int)) (ChangeD.mk ([] : List UInt8) Bool.false (0 : Int))))) : Int) > (300 : Int)))
 (∃ x12 : Unit,
 ((Bool.false = (roomM (RmA.l x) (RmA.most x))) ∧
 True))
 (∃ x13 : Nat,
 (((IntKind.wrap IntKind.i64 ((↑x10 : Int) + (1 : Int))) = (↑x13 : Int)) ∧
 (((x13 ≤ (List.length (RequestD.changes (List.getD (RmA.l x) (Int.toNat (↑x3 : Int)) RequestD.dflt)))) ∧
 ((List.all (List.take x13 (RequestD.changes (List.getD (RmA.l x) (Int.toNat (↑x3 : Int)) RequestD.dflt))) (fun x14 : ChangeD => (decide ((List.length (ChangeD.path x14)) ≤ (300 : Nat))))) = Bool.true)) ∧
 ((Nat.sub (List.length (RequestD.changes (List.getD (RmA.l x) (Int.toNat (↑x3 : Int)) RequestD.dflt))) x13) < (Nat.sub (List.length (RequestD.changes (List.getD (RmA.l x) (Int.toNat (↑x3 : Int)) RequestD.dflt))) x10)))))))
 (Bad "check" "law.go:48"))
 (Bad "check" "law.go:48"))
 (∃ x15 : Nat,
 (((IntKind.wrap IntKind.i64 ((↑x3 : Int) + (1 : Int))) = (↑x15 : Int)) ∧
 (((x15 ≤ (List.length (RmA.l x))) ∧
 ((List.all (List.take x15 (RmA.l x)) okQ) = Bool.true)) ∧
 ((Nat.sub (List.length (RmA.l x)) x15) < (Nat.sub (List.length (RmA.l x)) x3)))))))
 (Bad "check" "law.go:47")))))))
 (Bad "check" "law.go:44"))))
 (Bad "check" "law.go:44"))))
 (Bad "check" "law.go:44"))))
 (Bad "check" "law.go:44"))
 (∃ x16 : Unit,
 ((Bool.true = (roomM (RmA.l x) (RmA.most x))) ∧
 True)))))))))) := by kernel_rfl

theorem comM_vc (x : comMT.γ) : evCall comME (ev comME 1000) 32 (comMT.args x) ⟨comMT.blks x, comMT.n0, []⟩ (fun _ _ => False) (comMT.ends x) = (
(∃ x1 : (List CommitD),
 (((0 : Nat) = (0 : Nat)) ∧
 (((List.length (MacS.C x)) = (List.length x1)) ∧
 (((treeC (MacS.C x)) = (treeC x1)) ∧
 (((MacS.C x) = x1) ∧
 (((kvC (MacS.C x)) = (kvC x1)) ∧
 (((fewG x1) = Bool.true) ∧
 (∀ x2 : Unit,
 (True →
 (∃ x3 : Unit,
 ((x1 = (MacS.C x)) ∧
 (((MacS.alpha x) = (MacS.alpha x)) ∧
 (((MacS.size x) = (MacS.size x)) ∧
 (((MacS.applied x) = (MacS.applied x)) ∧
 (((0 : Nat) = (0 : Nat)) ∧
 (((List.length x1) = (List.length (MacS.C x))) ∧
 (((treeC x1) = (treeC (MacS.C x))) ∧
 ((x1 = (MacS.C x)) ∧
 (((kvC x1) = (kvC (MacS.C x))) ∧
 (((MacS.size x) = (MacS.size x)) ∧
 (((0 : Nat) = (0 : Nat)) ∧
 (((List.length (MacS.S x)) = (List.length (MacS.S x))) ∧
 (((MacS.S x) = (MacS.S x)) ∧
 (((MacS.alpha x) = (MacS.alpha x)) ∧
 (((0 : Nat) = (0 : Nat)) ∧
 (((List.length (MacS.E x)) = (List.length (MacS.E x))) ∧
 (((MacS.E x) = (MacS.E x)) ∧
 True)))))))))))))))))))))))))))) := by kernel_rfl

theorem headM_vc (x : headMT.γ) : evCall headME (ev headME 1000) 33 (headMT.args x) ⟨headMT.blks x, headMT.n0, []⟩ (fun _ _ => False) (headMT.ends x) = (
(∃ x1 : (List CommitD),
 (((0 : Nat) = (0 : Nat)) ∧
 (((List.length (MacS.C x)) = (List.length x1)) ∧
 (((treeC (MacS.C x)) = (treeC x1)) ∧
 (((MacS.C x) = x1) ∧
 (((kvC (MacS.C x)) = (kvC x1)) ∧
 (True ∧
 (∀ x2 : Unit,
 (True →
 (∃ x3 : Unit,
 (((↑(List.length x1) : Int) = (↑(List.length (MacS.C x)) : Int)) ∧
 (((MacS.alpha x) = (MacS.alpha x)) ∧
 (((MacS.size x) = (MacS.size x)) ∧
 (((MacS.applied x) = (MacS.applied x)) ∧
 (((0 : Nat) = (0 : Nat)) ∧
 (((List.length x1) = (List.length (MacS.C x))) ∧
 (((treeC x1) = (treeC (MacS.C x))) ∧
 ((x1 = (MacS.C x)) ∧
 (((kvC x1) = (kvC (MacS.C x))) ∧
 (((MacS.size x) = (MacS.size x)) ∧
 (((0 : Nat) = (0 : Nat)) ∧
 (((List.length (MacS.S x)) = (List.length (MacS.S x))) ∧
 (((MacS.S x) = (MacS.S x)) ∧
 (((MacS.alpha x) = (MacS.alpha x)) ∧
 (((0 : Nat) = (0 : Nat)) ∧
 (((List.length (MacS.E x)) = (List.length (MacS.E x))) ∧
 (((MacS.E x) = (MacS.E x)) ∧
 True)))))))))))))))))))))))))))) := by kernel_rfl

theorem appM_vc (x : appMT.γ) : evCall noE (ev noE 1000) 41 (appMT.args x) ⟨appMT.blks x, appMT.n0, []⟩ (fun _ _ => False) (appMT.ends x) = (
(∃ x1 : Unit,
 (((MacS.applied x) = (MacS.applied x)) ∧
 (((MacS.alpha x) = (MacS.alpha x)) ∧
 (((MacS.size x) = (MacS.size x)) ∧
 (((MacS.applied x) = (MacS.applied x)) ∧
 (((0 : Nat) = (0 : Nat)) ∧
 (((List.length (MacS.C x)) = (List.length (MacS.C x))) ∧
 (((treeC (MacS.C x)) = (treeC (MacS.C x))) ∧
 (((MacS.C x) = (MacS.C x)) ∧
 (((kvC (MacS.C x)) = (kvC (MacS.C x))) ∧
 (((MacS.size x) = (MacS.size x)) ∧
 (((0 : Nat) = (0 : Nat)) ∧
 (((List.length (MacS.S x)) = (List.length (MacS.S x))) ∧
 (((MacS.S x) = (MacS.S x)) ∧
 (((MacS.alpha x) = (MacS.alpha x)) ∧
 (((0 : Nat) = (0 : Nat)) ∧
 (((List.length (MacS.E x)) = (List.length (MacS.E x))) ∧
 (((MacS.E x) = (MacS.E x)) ∧
 True))))))))))))))))))) := by kernel_rfl

theorem aw8_vc (x : aw8T.γ) : evCall aw8E (ev aw8E 1000) 24 (aw8T.args x) ⟨aw8T.blks x, aw8T.n0, []⟩ (fun _ _ => False) (aw8T.ends x) = (
(∃ x1 : Unit,
 (True ∧
 (∀ x2 : Unit,
 (True →
 (∃ x3 : MacA,
 (((1 : Int) = (RequestD.kind (MacA.r x3))) ∧
 (((Array.toList (ByteArray.data (ByteArray.mk (List.toArray (List.cons (99 : UInt8) ([] : List UInt8)))))) = (RequestD.name (MacA.r x3))) ∧
 (((0 : Int) = (RequestD.session (MacA.r x3))) ∧
 (((0 : Int) = (RequestD.seq (MacA.r x3))) ∧
 (((0 : Int) = (RequestD.base (MacA.r x3))) ∧
 (((Array.toList (ByteArray.data (ByteArray.mk (List.toArray ([] : List UInt8))))) = (RequestD.ref (MacA.r x3))) ∧
 ((([] : List ChangeD) = (RequestD.changes (MacA.r x3))) ∧
 (((Array.toList (ByteArray.data (ByteArray.mk (List.toArray ([] : List UInt8))))) = (RequestD.path (MacA.r x3))) ∧
 (((0 : Int) = (RequestD.from_ (MacA.r x3))) ∧
 (((0 : Int) = (RequestD.many (MacA.r x3))) ∧
 (((0 : Int) = (RequestD.member (MacA.r x3))) ∧
 (((MacS.alpha fresh0) = (MacS.alpha (MacA.x x3))) ∧
 (((MacS.size fresh0) = (MacS.size (MacA.x x3))) ∧
 (((MacS.applied fresh0) = (MacS.applied (MacA.x x3))) ∧
 (((0 : Nat) = (0 : Nat)) ∧
 (((List.length (MacS.C fresh0)) = (List.length (MacS.C (MacA.x x3)))) ∧
 (((treeC (MacS.C fresh0)) = (treeC (MacS.C (MacA.x x3)))) ∧
 (((MacS.C fresh0) = (MacS.C (MacA.x x3))) ∧
 (((kvC (MacS.C fresh0)) = (kvC (MacS.C (MacA.x x3)))) ∧
 (((MacS.size fresh0) = (MacS.size (MacA.x x3))) ∧
 (((0 : Nat) = (0 : Nat)) ∧
 (((List.length (MacS.S fresh0)) = (List.length (MacS.S (MacA.x x3)))) ∧
 (((MacS.S fresh0) = (MacS.S (MacA.x x3))) ∧
 (((MacS.alpha fresh0) = (MacS.alpha (MacA.x x3))) ∧
 (((0 : Nat) = (0 : Nat)) ∧
 (((List.length (MacS.E fresh0)) = (List.length (MacS.E (MacA.x x3)))) ∧
 (((MacS.E fresh0) = (MacS.E (MacA.x x3))) ∧
 ((((okMS (MacA.x x3)) = Bool.true) ∧
 ((okRq (MacA.r x3)) = Bool.true)) ∧
 (∀ x4 : Unit,
 (True →
 (∃ x5 : MacA,
 (((2 : Int) = (RequestD.kind (MacA.r x5))) ∧
 (((Array.toList (ByteArray.data (ByteArray.mk (List.toArray ([] : List UInt8))))) = (RequestD.name (MacA.r x5))) ∧
 (((1 : Int) = (RequestD.session (MacA.r x5))) ∧
 (((1 : Int) = (RequestD.seq (MacA.r x5))) ∧
 (((0 : Int) = (RequestD.base (MacA.r x5))) ∧
 (((Array.toList (ByteArray.data (ByteArray.mk (List.toArray ([] : List UInt8))))) = (RequestD.ref (MacA.r x5))) ∧
 ((((0 : Nat) + (1 : Nat)) ≤ (List.length (List.cons (ChangeD.mk (Array.toList (ByteArray.data (ByteArray.mk (List.toArray (List.cons (97 : UInt8) ([] : List UInt8)))))) Bool.false (5 : Int)) ([] : List ChangeD)))) ∧
 (((List.take (1 : Nat) (List.drop (0 : Nat) (List.cons (ChangeD.mk (Array.toList (ByteArray.data (ByteArray.mk (List.toArray (List.cons (97 : UInt8) ([] : List UInt8)))))) Bool.false (5 : Int)) ([] : List ChangeD)))) = (RequestD.changes (MacA.r x5))) ∧
 (((Array.toList (ByteArray.data (ByteArray.mk (List.toArray ([] : List UInt8))))) = (RequestD.path (MacA.r x5))) ∧
 (((0 : Int) = (RequestD.from_ (MacA.r x5))) ∧
 (((0 : Int) = (RequestD.many (MacA.r x5))) ∧
 (((0 : Int) = (RequestD.member (MacA.r x5))) ∧
 (((MacS.alpha (Prod.snd (applyM (MacA.x x3) (MacA.r x3)))) = (MacS.alpha (MacA.x x5))) ∧
 (((MacS.size (Prod.snd (applyM (MacA.x x3) (MacA.r x3)))) = (MacS.size (MacA.x x5))) ∧
 (((MacS.applied (Prod.snd (applyM (MacA.x x3) (MacA.r x3)))) = (MacS.applied (MacA.x x5))) ∧
 (((0 : Nat) = (0 : Nat)) ∧
 (((List.length (MacS.C (Prod.snd (applyM (MacA.x x3) (MacA.r x3))))) = (List.length (MacS.C (MacA.x x5)))) ∧
 (((treeC (MacS.C (Prod.snd (applyM (MacA.x x3) (MacA.r x3))))) = (treeC (MacS.C (MacA.x x5)))) ∧
 (((MacS.C (Prod.snd (applyM (MacA.x x3) (MacA.r x3)))) = (MacS.C (MacA.x x5))) ∧
 (((kvC (MacS.C (Prod.snd (applyM (MacA.x x3) (MacA.r x3))))) = (kvC (MacS.C (MacA.x x5)))) ∧
 (((MacS.size (Prod.snd (applyM (MacA.x x3) (MacA.r x3)))) = (MacS.size (MacA.x x5))) ∧
 (((0 : Nat) = (0 : Nat)) ∧
 (((List.length (MacS.S (Prod.snd (applyM (MacA.x x3) (MacA.r x3))))) = (List.length (MacS.S (MacA.x x5)))) ∧
 (((MacS.S (Prod.snd (applyM (MacA.x x3) (MacA.r x3)))) = (MacS.S (MacA.x x5))) ∧
 (((MacS.alpha (Prod.snd (applyM (MacA.x x3) (MacA.r x3)))) = (MacS.alpha (MacA.x x5))) ∧
 (((0 : Nat) = (0 : Nat)) ∧
 (((List.length (MacS.E (Prod.snd (applyM (MacA.x x3) (MacA.r x3))))) = (List.length (MacS.E (MacA.x x5)))) ∧
 (((MacS.E (Prod.snd (applyM (MacA.x x3) (MacA.r x3)))) = (MacS.E (MacA.x x5))) ∧
 ((((okMS (MacA.x x5)) = Bool.true) ∧
 ((okRq (MacA.r x5)) = Bool.true)) ∧
 (∀ x6 : Unit,
 (True →
 (∃ x7 : MacA,
 (((2 : Int) = (RequestD.kind (MacA.r x7))) ∧
 (((Array.toList (ByteArray.data (ByteArray.mk (List.toArray ([] : List UInt8))))) = (RequestD.name (MacA.r x7))) ∧
 (((1 : Int) = (RequestD.session (MacA.r x7))) ∧
 (((1 : Int) = (RequestD.seq (MacA.r x7))) ∧
 (((0 : Int) = (RequestD.base (MacA.r x7))) ∧
 (((Array.toList (ByteArray.data (ByteArray.mk (List.toArray ([] : List UInt8))))) = (RequestD.ref (MacA.r x7))) ∧
 ((((0 : Nat) + (1 : Nat)) ≤ (List.length (List.cons (ChangeD.mk (Array.toList (ByteArray.data (ByteArray.mk (List.toArray (List.cons (97 : UInt8) ([] : List UInt8)))))) Bool.false (5 : Int)) ([] : List ChangeD)))) ∧
 (((List.take (1 : Nat) (List.drop (0 : Nat) (List.cons (ChangeD.mk (Array.toList (ByteArray.data (ByteArray.mk (List.toArray (List.cons (97 : UInt8) ([] : List UInt8)))))) Bool.false (5 : Int)) ([] : List ChangeD)))) = (RequestD.changes (MacA.r x7))) ∧
 (((Array.toList (ByteArray.data (ByteArray.mk (List.toArray ([] : List UInt8))))) = (RequestD.path (MacA.r x7))) ∧
 (((0 : Int) = (RequestD.from_ (MacA.r x7))) ∧
 (((0 : Int) = (RequestD.many (MacA.r x7))) ∧
 (((0 : Int) = (RequestD.member (MacA.r x7))) ∧
 (((MacS.alpha (Prod.snd (applyM (MacA.x x5) (MacA.r x5)))) = (MacS.alpha (MacA.x x7))) ∧
 (((MacS.size (Prod.snd (applyM (MacA.x x5) (MacA.r x5)))) = (MacS.size (MacA.x x7))) ∧
 (((MacS.applied (Prod.snd (applyM (MacA.x x5) (MacA.r x5)))) = (MacS.applied (MacA.x x7))) ∧
 (((0 : Nat) = (0 : Nat)) ∧
 (((List.length (MacS.C (Prod.snd (applyM (MacA.x x5) (MacA.r x5))))) = (List.length (MacS.C (MacA.x x7)))) ∧
 (((treeC (MacS.C (Prod.snd (applyM (MacA.x x5) (MacA.r x5))))) = (treeC (MacS.C (MacA.x x7)))) ∧
 (((MacS.C (Prod.snd (applyM (MacA.x x5) (MacA.r x5)))) = (MacS.C (MacA.x x7))) ∧
 (((kvC (MacS.C (Prod.snd (applyM (MacA.x x5) (MacA.r x5))))) = (kvC (MacS.C (MacA.x x7)))) ∧
 (((MacS.size (Prod.snd (applyM (MacA.x x5) (MacA.r x5)))) = (MacS.size (MacA.x x7))) ∧
 (((0 : Nat) = (0 : Nat)) ∧
 (((List.length (MacS.S (Prod.snd (applyM (MacA.x x5) (MacA.r x5))))) = (List.length (MacS.S (MacA.x x7)))) ∧
 (((MacS.S (Prod.snd (applyM (MacA.x x5) (MacA.r x5)))) = (MacS.S (MacA.x x7))) ∧
 (((MacS.alpha (Prod.snd (applyM (MacA.x x5) (MacA.r x5)))) = (MacS.alpha (MacA.x x7))) ∧
 (((0 : Nat) = (0 : Nat)) ∧
 (((List.length (MacS.E (Prod.snd (applyM (MacA.x x5) (MacA.r x5))))) = (List.length (MacS.E (MacA.x x7)))) ∧
 (((MacS.E (Prod.snd (applyM (MacA.x x5) (MacA.r x5)))) = (MacS.E (MacA.x x7))) ∧
 ((((okMS (MacA.x x7)) = Bool.true) ∧
 ((okRq (MacA.r x7)) = Bool.true)) ∧
 (∀ x8 : Unit,
 (True →
 (br ((VerdictD.code (Prod.fst (applyM (MacA.x x3) (MacA.r x3)))) == (1 : Int))
 (br ((VerdictD.session (Prod.fst (applyM (MacA.x x3) (MacA.r x3)))) == (1 : Int))
 (br ((VerdictD.code (Prod.fst (applyM (MacA.x x5) (MacA.r x5)))) == (2 : Int))
 (br ((VerdictD.code (Prod.fst (applyM (MacA.x x7) (MacA.r x7)))) == (2 : Int))
 (br ((VerdictD.rev (Prod.fst (applyM (MacA.x x7) (MacA.r x7)))) == (1 : Int))
 (∃ x9 : MacS,
 (((MacS.alpha (Prod.snd (applyM (MacA.x x7) (MacA.r x7)))) = (MacS.alpha x9)) ∧
 (((MacS.size (Prod.snd (applyM (MacA.x x7) (MacA.r x7)))) = (MacS.size x9)) ∧
 (((MacS.applied (Prod.snd (applyM (MacA.x x7) (MacA.r x7)))) = (MacS.applied x9)) ∧
 (((0 : Nat) = (0 : Nat)) ∧
 (((List.length (MacS.C (Prod.snd (applyM (MacA.x x7) (MacA.r x7))))) = (List.length (MacS.C x9))) ∧
 (((treeC (MacS.C (Prod.snd (applyM (MacA.x x7) (MacA.r x7))))) = (treeC (MacS.C x9))) ∧
 (((MacS.C (Prod.snd (applyM (MacA.x x7) (MacA.r x7)))) = (MacS.C x9)) ∧
 (((kvC (MacS.C (Prod.snd (applyM (MacA.x x7) (MacA.r x7))))) = (kvC (MacS.C x9))) ∧
 (((MacS.size (Prod.snd (applyM (MacA.x x7) (MacA.r x7)))) = (MacS.size x9)) ∧
 (((0 : Nat) = (0 : Nat)) ∧
 (((List.length (MacS.S (Prod.snd (applyM (MacA.x x7) (MacA.r x7))))) = (List.length (MacS.S x9))) ∧
 (((MacS.S (Prod.snd (applyM (MacA.x x7) (MacA.r x7)))) = (MacS.S x9)) ∧
 (((MacS.alpha (Prod.snd (applyM (MacA.x x7) (MacA.r x7)))) = (MacS.alpha x9)) ∧
 (((0 : Nat) = (0 : Nat)) ∧
 (((List.length (MacS.E (Prod.snd (applyM (MacA.x x7) (MacA.r x7))))) = (List.length (MacS.E x9))) ∧
 (((MacS.E (Prod.snd (applyM (MacA.x x7) (MacA.r x7)))) = (MacS.E x9)) ∧
 (True ∧
 (∀ x10 : Unit,
 (True →
 (br ((↑(List.length (MacS.C x9)) : Int) == (1 : Int))
 (∃ x11 : MacS,
 (((MacS.alpha x9) = (MacS.alpha x11)) ∧
 (((MacS.size x9) = (MacS.size x11)) ∧
 (((MacS.applied x9) = (MacS.applied x11)) ∧
 (((0 : Nat) = (0 : Nat)) ∧
 (((List.length (MacS.C x9)) = (List.length (MacS.C x11))) ∧
 (((treeC (MacS.C x9)) = (treeC (MacS.C x11))) ∧
 (((MacS.C x9) = (MacS.C x11)) ∧
 (((kvC (MacS.C x9)) = (kvC (MacS.C x11))) ∧
 (((MacS.size x9) = (MacS.size x11)) ∧
 (((0 : Nat) = (0 : Nat)) ∧
 (((List.length (MacS.S x9)) = (List.length (MacS.S x11))) ∧
 (((MacS.S x9) = (MacS.S x11)) ∧
 (((MacS.alpha x9) = (MacS.alpha x11)) ∧
 (((0 : Nat) = (0 : Nat)) ∧
 (((List.length (MacS.E x9)) = (List.length (MacS.E x11))) ∧
 (((MacS.E x9) = (MacS.E x11)) ∧
 (True ∧
 (∀ x12 : Unit,
 (True →
 (∃ x13 : Unit,
 ((((MacS.applied x11) == (3 : Int)) = Bool.true) ∧
 True))))))))))))))))))))))
 (∃ x14 : Unit,
 ((Bool.false = Bool.true) ∧
 True)))))))))))))))))))))))
 (∃ x15 : Unit,
 ((Bool.false = Bool.true) ∧
 True)))
 (∃ x16 : Unit,
 ((Bool.false = Bool.true) ∧
 True)))
 (∃ x17 : Unit,
 ((Bool.false = Bool.true) ∧
 True)))
 (∃ x18 : Unit,
 ((Bool.false = Bool.true) ∧
 True)))
 (∃ x19 : Unit,
 ((Bool.false = Bool.true) ∧
 True))))))))))))))))))))))))))))))))))))))))))))))))))))))))))))))))))))))))))))))))))))))))))))))))))))))) := by kernel_rfl

end Go.Proofs.YtildflamnehilaaGreat.Ses

namespace Go.Proofs.YtildflamnehilaaGreat.Ses
open Go Go.Proofs Go.Proofs.YtildflamnehilaaGreat.Sx

theorem fresh_ok : SpecOK Tryz.prog 25 freshT.spec := by
  refine Tri.ok (E := freshE) (Env_ok (by decide +kernel) (by
    intro p hp
    simp only [List.mem_cons, List.mem_nil_iff, or_false] at hp
    rcases hp with rfl | rfl | rfl
    · exact emay_ok
    · exact icln_ok
    · exact gnew_ok)) (n := 1000) freshT fun x hx => ?_
  rw [fresh_vc]
  exact ⟨[0, 1, 2], by decide, rfl, trivial, fun _ _ => br_f (by decide) ⟨[0, 1, 2], by decide, rfl, trivial, fun _ _ => ⟨(), trivial, fun _ _ => ⟨(), (by repeat' (first | exact trivial | refine And.intro ?_ ?_ | rfl))⟩⟩⟩⟩
theorem okQ_split (r : RequestD) : okQ r = (decide (r.name.length ≤ 300) && (decide (r.ref.length ≤ 300) && (decide (r.path.length ≤ 300) && (decide (r.changes.length ≤ 40) && r.changes.all fun c => decide (c.path.length ≤ 300))))) := rfl
theorem room_bad {x : RmA} {i : Nat} (hi : i < x.l.length) (h : okQ (x.l.getD i RequestD.dflt) = false) : false = roomM x.l x.most := by
  unfold roomM
  have : x.l.all okQ = false := by
    rw [List.all_eq_false]
    exact ⟨_, getD_mem hi, by rw [h]; decide⟩
  rw [this, Bool.and_false]
set_option maxHeartbeats 0 in
theorem mroom_ok : SpecOK Tryz.prog 30 mroomT.spec := by
  refine Tri.ok (E := mroomE) (Env_ok (by decide +kernel) (by simp)) (n := 1000) mroomT fun x hx => ?_
  rw [mroom_vc]
  clear hx
  revert x
  intro (x : RmA)
  refine fun hl => br_i (fun h => ⟨(), ?_, trivial⟩) fun h0 => ⟨⟨0, rfl, Nat.zero_le _, rfl⟩, fun i hi hb => br_i (fun h1 => ?_) (fun h1 => ⟨(), ?_, trivial⟩)⟩
  · have := of_decide_eq_true h
    unfold roomM
    rw [decide_eq_false (by omega : ¬ (x.l.length : Int) ≤ x.most)]; rfl
  · obtain ⟨i1, i2⟩ := hi
    have h1 := of_decide_eq_true h1
    have hlt : i < x.l.length := by omega
    have bi : decide ((0 : Int) ≤ (i : Int) ∧ (i : Int) < (x.l.length : Int)) = true := decide_eq_true ⟨by omega, h1⟩
    have e0 : (i : Int).toNat = i := rfl
    rw [e0]
    have eg : x.l.getD i ⟨0, [], 0, 0, 0, [], [], [], 0, 0, 0⟩ = x.l.getD i RequestD.dflt := rfl
    rw [eg]
    have hbad := room_bad (x := x) hlt
    have hsp := okQ_split (x.l.getD i RequestD.dflt)
    have htake : x.l.take (i + 1) = x.l.take i ++ [x.l.getD i RequestD.dflt] := take_succ_getD _ hlt
    generalize x.l.getD i RequestD.dflt = r at hbad hsp htake ⊢
    have hsm : x.l.length ≤ 1099511627776 := by unfold room47 at hl; omega
    refine br_t bi fun _ => br_i (fun q => ⟨(), hbad ?_, trivial⟩) fun q1 => br_t bi fun _ => br_i (fun q => ⟨(), hbad ?_, trivial⟩) fun q2 => br_t bi fun _ => br_i (fun q => ⟨(), hbad ?_, trivial⟩) fun q3 => br_t bi fun _ => br_i (fun q => ⟨(), hbad ?_, trivial⟩) fun q4 => ⟨⟨0, rfl, Nat.zero_le _, rfl⟩, fun k hk => br_t bi fun _ => br_i (fun h2 => ?_) (fun h2 => ?_)⟩
    · rw [hsp, decide_eq_false (by have := of_decide_eq_true q; omega : ¬ r.name.length ≤ 300)]; rfl
    · rw [hsp, decide_eq_false (by have := of_decide_eq_true q; omega : ¬ r.ref.length ≤ 300)]; simp
    · rw [hsp, decide_eq_false (by have := of_decide_eq_true q; omega : ¬ r.path.length ≤ 300)]; simp
    · rw [hsp, decide_eq_false (by have := of_decide_eq_true q; omega : ¬ r.changes.length ≤ 40)]; simp
    · obtain ⟨k1, k2⟩ := hk
      have h2 := of_decide_eq_true h2
      have q4 := of_decide_eq_false q4
      have hk3 : k < r.changes.length := by omega
      have ek : (k : Int).toNat = k := rfl
      rw [ek]
      have eg2 : r.changes.getD k ⟨[], false, 0⟩ = r.changes.getD k noC := rfl
      rw [eg2]
      refine br_t bi (br_t (decide_eq_true ⟨by omega, h2⟩) fun _ => br_i (fun q => ⟨(), hbad ?_, trivial⟩) fun q5 => ⟨k + 1, by rw [wrap_id (by omega) (by omega)]; rfl, ⟨by omega, ?_⟩, by show r.changes.length - (k + 1) < r.changes.length - k; omega⟩)
      · have hf : r.changes.all (fun c => decide (c.path.length ≤ 300)) = false := by
          rw [List.all_eq_false]
          have h9 := of_decide_eq_true q
          exact ⟨_, getD_mem (d := noC) hk3, fun e => by have := of_decide_eq_true e; omega⟩
        rw [hsp, hf]; simp
      · rw [take_succ_getD noC hk3, List.all_append, k2]
        have h9 := of_decide_eq_false q5
        show (true && (decide ((r.changes.getD k noC).path.length ≤ 300) && true)) = true
        rw [decide_eq_true (by omega)]; rfl
    · obtain ⟨k1, k2⟩ := hk
      have h2 := of_decide_eq_false h2
      have hke : k = r.changes.length := by omega
      rw [hke, List.take_length] at k2
      have hr : okQ r = true := by
        rw [hsp, k2, decide_eq_true (by have := of_decide_eq_false q1; omega : r.name.length ≤ 300), decide_eq_true (by have := of_decide_eq_false q2; omega : r.ref.length ≤ 300), decide_eq_true (by have := of_decide_eq_false q3; omega : r.path.length ≤ 300), decide_eq_true (by have := of_decide_eq_false q4; omega : r.changes.length ≤ 40)]
        rfl
      refine ⟨i + 1, by rw [wrap_id (by omega) (by omega)]; rfl, ⟨by omega, ?_⟩, by show x.l.length - (i + 1) < x.l.length - i; omega⟩
      rw [htake, List.all_append, i2]
      simp [hr]
  · obtain ⟨i1, i2⟩ := hi
    have h1 := of_decide_eq_false h1
    have h0 := of_decide_eq_false h0
    have : i = x.l.length := by omega
    rw [this, List.take_length] at i2
    unfold roomM
    rw [i2, decide_eq_true (by omega : (x.l.length : Int) ≤ x.most)]; rfl
theorem comM_ok : SpecOK Tryz.prog 32 comMT.spec := by
  refine Tri.ok (E := comME) (Env_ok (by decide +kernel) (by simp [commits_ok])) (n := 1000) comMT fun x hx => ?_
  rw [comM_vc]
  have hx : fewG x.C = true := hx
  exact ⟨x.C, rfl, rfl, rfl, rfl, rfl, hx, fun _ _ => ⟨(), (by repeat' (first | exact trivial | refine And.intro ?_ ?_ | rfl))⟩⟩
theorem headM_ok : SpecOK Tryz.prog 33 headMT.spec := by
  refine Tri.ok (E := headME) (Env_ok (by decide +kernel) (by simp [ghead_ok])) (n := 1000) headMT fun x hx => ?_
  rw [headM_vc]
  exact ⟨x.C, rfl, rfl, rfl, rfl, rfl, trivial, fun _ _ => ⟨(), (by repeat' (first | exact trivial | refine And.intro ?_ ?_ | rfl))⟩⟩
theorem appM_ok : SpecOK Tryz.prog 41 appMT.spec := by
  refine Tri.ok (E := noE) (Env_ok (by decide +kernel) (by simp)) (n := 1000) appMT fun x hx => ?_
  rw [appM_vc]
  exact ⟨(), (by repeat' (first | exact trivial | refine And.intro ?_ ?_ | rfl))⟩
/-! ### closed -/

def rqO : RequestD := ⟨1, [99], 0, 0, 0, [], [], [], 0, 0, 0⟩
def rqL (s : Int) : RequestD := ⟨2, [], s, 1, 0, [], [⟨[97], false, 5⟩], [], 0, 0, 0⟩
def mach1 : MacS := (applyM fresh0 rqO).2
def mach2 : MacS := (applyM mach1 (rqL 1)).2
def mach3 : MacS := (applyM mach2 (rqL 1)).2
theorem ok_f0 : okMS fresh0 = true := by decide +kernel
theorem ok_m1 : okMS mach1 = true := by decide +kernel
theorem ok_m2 : okMS mach2 = true := by decide +kernel
theorem ok_rO : okRq rqO = true := by decide +kernel
theorem ok_r1 : okRq (rqL 1) = true := by decide +kernel
set_option maxHeartbeats 0 in
theorem aw8_ok : SpecOK Tryz.prog 24 aw8T.spec := by
  refine Tri.ok (E := aw8E) (Env_ok (by decide +kernel) (by
    intro p hp
    simp only [List.mem_cons, List.mem_nil_iff, or_false] at hp
    rcases hp with rfl | rfl | rfl | rfl
    · exact fresh_ok
    · exact apply_ok echg_ok
    · exact headM_ok
    · exact appM_ok)) (n := 1000) aw8T fun x hx => ?_
  rw [aw8_vc]
  refine ⟨(), trivial, fun _ _ => ⟨⟨fresh0, rqO⟩, rfl, rfl, rfl, rfl, rfl, rfl, rfl, rfl, rfl, rfl, rfl, rfl, rfl, rfl, rfl, rfl, rfl, rfl, rfl, rfl, rfl, rfl, rfl, rfl, rfl, rfl, rfl, ⟨ok_f0, ok_rO⟩, fun _ _ => ?_⟩⟩
  refine ⟨⟨mach1, rqL 1⟩, rfl, rfl, rfl, rfl, rfl, rfl, (by decide), rfl, rfl, rfl, rfl, rfl, rfl, rfl, rfl, rfl, rfl, rfl, rfl, rfl, rfl, rfl, rfl, rfl, rfl, rfl, rfl, rfl, ⟨ok_m1, ok_r1⟩, fun _ _ => ?_⟩
  refine ⟨⟨mach2, rqL 1⟩, rfl, rfl, rfl, rfl, rfl, rfl, (by decide), rfl, rfl, rfl, rfl, rfl, rfl, rfl, rfl, rfl, rfl, rfl, rfl, rfl, rfl, rfl, rfl, rfl, rfl, rfl, rfl, rfl, ⟨ok_m2, ok_r1⟩, fun _ _ => ?_⟩
  refine br_t (by decide +kernel) (br_t (by decide +kernel) (br_t (by decide +kernel) (br_t (by decide +kernel) (br_t (by decide +kernel) ?_))))
  refine ⟨mach3, rfl, rfl, rfl, rfl, rfl, rfl, rfl, rfl, rfl, rfl, rfl, rfl, rfl, rfl, rfl, rfl, trivial, fun _ _ => br_t (by decide +kernel) ⟨mach3, rfl, rfl, rfl, rfl, rfl, rfl, rfl, rfl, rfl, rfl, rfl, rfl, rfl, rfl, rfl, rfl, trivial, fun _ _ => ⟨(), by decide +kernel, trivial⟩⟩⟩
end Go.Proofs.YtildflamnehilaaGreat.Ses
