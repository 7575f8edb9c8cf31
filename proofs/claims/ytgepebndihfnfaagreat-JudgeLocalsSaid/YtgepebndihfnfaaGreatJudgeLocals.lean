/- 'JudgeLocals' returns true, whatever the input, in whatever memory, whatever orders and capacities are drawn; the input reads as it did. No condition. -/
import Derived.Test.YtgepebndihfnfaaGreatJMhN
import Derived.Test.YtgepebndihfnfaaGreatJudgeLocalsFacts
import Derived.Test.YtgepebndihfnfaaGreatRows
import Derived.ProofKit
import Derived.OpenShut
import Derived.SizedLaws
import Derived.KernelRfl
namespace Go.Proofs.YtgepebndihfnfaaGreat.JudgeLocals
open Go.ChangeShapes Go.WideShapes Go.ChangeAt Go.RowKit
set_option linter.unusedVariables false

theorem own : ownKnob Tryz.prog.godebug = none := by kernel_rfl

set_option maxRecDepth 100000 in
theorem walk {H : Type} {enc : TypeId × Value → H} {W : World} {v0 v1 v2 : Value} {d0 d1 d2 : DataW H} {p0 p1 p2 : List MemPlace} {r : Reach} {b0 : Nat}
    (o0 : Value.okWide Tryz.prog W r b0 22 v0) (h0 : DataW.Trod enc Tryz.prog W 0 (fun _ => true) true 22 v0 d0 p0) (w0 : (d0.weights Tryz.prog 22).all (· ≤ reachBytes) = true)
    (o1 : Value.okWide Tryz.prog W r b0 3 v1) (h1 : DataW.Trod enc Tryz.prog W 0 (fun _ => true) true 3 v1 d1 p1) (w1 : (d1.weights Tryz.prog 3).all (· ≤ reachBytes) = true)
    (o2 : Value.okWide Tryz.prog W r b0 3 v2) (h2 : DataW.Trod enc Tryz.prog W 0 (fun _ => true) true 3 v2 d2 p2) (w2 : (d2.weights Tryz.prog 3).all (· ≤ reachBytes) = true)
    : Calls Tryz.prog 11 #[v0, v1, v2] W fun e w' => e = .returned (.bool true) ∧ Sx.Kept W w' := by
  obtain ⟨⟨n0, q0⟩, r0⟩ := Sx.arg_sliceP (c := .request) Tryz.underlying22 Ses.op_requests o0 h0 w0
  obtain ⟨n1, rfl, rfl, rfl, b1⟩ := open_int Tryz.underlying3 o1 h1
  obtain ⟨n2, rfl, rfl, rfl, b2⟩ := open_int Tryz.underlying3 o2 h2
  exact Sx.law_of Ses.jdl_ok (Ses.jdl_body ⟨n0, n1, n2⟩ q0) (β := []) rfl (.cons (r0 _) (.cons (.int _ n1) (.cons (.int _ n2) (Sx.RepL.nil _))))

set_option maxRecDepth 100000 in
theorem lifted (os : Os) (started : os.Started) (H : Type) (enc : TypeId × Value → H) :
    ReturnsInHanded {} Tryz.checked os 11 .any (Rows.judgeLocalsSpec.pre6 enc Tryz.prog Tryz.f11 Rows.judgeLocalsRow.domain false) (Rows.judgeLocalsSpec.post enc Tryz.prog Tryz.f11 false true false false) := by
  refine returnsInHanded_of_change_sized (C := Tryz.checked) own started (by kernel_rfl) Tryz.func11
    (ChangeSpec.witness6 (enc := enc) (C := Tryz.checked) false ⟨#[], #[.slice none 0 0, .int .i64 0, .int .i64 0], []⟩ 8 (by kernel_rfl) (by kernel_rfl) (by kernel_rfl) (by kernel_rfl)) ?_
  intro W base args ds gs before hval hW hcnd hsz _
  have hW' := hW
  obtain ⟨p, q, hA0, hV, rfl, hfz, hnd⟩ := hW
  have hA : DataW.TrodAll enc Tryz.prog W 0 (fun _ => true) true Tryz.f11.params.toList args.toList ds p := hA0
  have hA1 := hA
  rw [Tryz.params11] at hA
  obtain ⟨v0, vs0, d0, ds0, p0, q0, e0, rfl, rfl, h0, r0⟩ := trodAll_cons hA
  obtain ⟨v1, vs1, d1, ds1, p1, q1, e1, rfl, rfl, h1, r1⟩ := trodAll_cons r0
  obtain ⟨v2, vs2, d2, ds2, p2, q2, e2, rfl, rfl, h2, r2⟩ := trodAll_cons r1
  obtain ⟨rfl, rfl, rfl⟩ := trodAll_nil r2
  subst e2
  subst e1
  obtain rfl : args = #[v0, v1, v2] := by cases args; simp_all
  obtain ⟨rfl, rfl⟩ := trodVars_none hV
  refine (walk (hval 0 22 v0 rfl rfl) h0 (Sx.weightsEach_get hsz 0 22 d0 (by kernel_rfl) rfl) (hval 1 3 v1 rfl rfl) h1 (Sx.weightsEach_get hsz 1 3 d1 (by kernel_rfl) rfl) (hval 2 3 v2 rfl rfl) h2 (Sx.weightsEach_get hsz 2 3 d2 (by kernel_rfl) rfl)).mono fun e W' ⟨he, hg⟩ => ?_
  subst he
  exact ⟨_, rfl, hg.post (pv := []) hW' (fun _ _ _ => (trodAll_cons_mk (shut_bool Tryz.underlying4 _) trodAll_mk0))
    (fun sp hsp => hg.args (by kernel_rfl) (by kernel_rfl) hA1 (fun x hx => hW'.lt x (List.mem_append_left _ hx)) (fun x hx => hsp x (List.mem_append_left _ hx))) (fun _ _ => rfl) rfl
    (ok_one (by kernel_rfl) rfl (okWide_bool_mk Tryz.underlying4 _))⟩

theorem over : Rows.judgeLocalsRow.holds Tryz.pinned (OpenSpec.ofChange Rows.judgeLocalsSpec) :=
  OpenClaim.holds_of_wide 11 Tryz.f11 rfl rfl rfl rfl rfl rfl rfl ⟨rfl, rfl, rfl, rfl, rfl⟩ rfl rfl rfl rfl rfl (by kernel_rfl) Tryz.func11 closed
    (of_decide_eq_true (by kernel_rfl)) (by unfold Func.isWrapper; first | (rw [if_pos (by decide +kernel)]; kernel_rfl) | (rw [if_neg (by decide +kernel)]; exact ⟨rfl, rfl⟩))
    (fun os started H enc _ => lifted os started H enc)

theorem proved : Rows.JudgeLocalsSaid := over
end Go.Proofs.YtgepebndihfnfaaGreat.JudgeLocals
