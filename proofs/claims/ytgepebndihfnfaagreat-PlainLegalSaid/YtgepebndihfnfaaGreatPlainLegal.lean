/- 'PlainLegal' returns true, whatever the input, in whatever memory, whatever orders and capacities are drawn; the input reads as it did. No condition. -/
import Derived.Test.YtgepebndihfnfaaGreatLMhJ
import Derived.Test.YtgepebndihfnfaaGreatPlainLegalFacts
import Derived.Test.YtgepebndihfnfaaGreatRows
import Derived.ProofKit
import Derived.OpenShut
import Derived.SizedLaws
import Derived.KernelRfl
namespace Go.Proofs.YtgepebndihfnfaaGreat.PlainLegal
open Go.ChangeShapes Go.WideShapes Go.ChangeAt Go.RowKit
set_option linter.unusedVariables false

theorem own : ownKnob Tryz.prog.godebug = none := by kernel_rfl

set_option maxRecDepth 100000 in
theorem walk {H : Type} {enc : TypeId × Value → H} {W : World} {v0 v1 : Value} {d0 d1 : DataW H} {p0 p1 : List MemPlace} {r : Reach} {b0 : Nat}
    (o0 : Value.okWide Tryz.prog W r b0 22 v0) (h0 : DataW.Trod enc Tryz.prog W 0 (fun _ => true) true 22 v0 d0 p0) (w0 : (d0.weights Tryz.prog 22).all (· ≤ reachBytes) = true)
    (o1 : Value.okWide Tryz.prog W r b0 36 v1) (h1 : DataW.Trod enc Tryz.prog W 0 (fun _ => true) true 36 v1 d1 p1) (w1 : (d1.weights Tryz.prog 36).all (· ≤ reachBytes) = true)
    : Calls Tryz.prog 6 #[v0, v1] W fun e w' => e = .returned (.bool true) ∧ Sx.Kept W w' := by
  obtain ⟨⟨n0, q0⟩, r0⟩ := Sx.arg_sliceP (c := .request) Tryz.underlying22 Ses.op_requests o0 h0 w0
  obtain ⟨n1, r1⟩ := Sx.arg_slice (c := .commit) Tryz.underlying36 Ses.op_commits o1 h1 w1
  exact Sx.law_of Ses.plg_ok (Ses.plg_body ⟨n0, n1⟩ q0) (β := []) rfl (.cons (r0 _) (.cons (r1 _) (Sx.RepL.nil _)))

set_option maxRecDepth 100000 in
theorem lifted (os : Os) (started : os.Started) (H : Type) (enc : TypeId × Value → H) :
    ReturnsInHanded {} Tryz.checked os 6 .any (Rows.plainLegalSpec.pre6 enc Tryz.prog Tryz.f6 Rows.plainLegalRow.domain false) (Rows.plainLegalSpec.post enc Tryz.prog Tryz.f6 false true false false) := by
  refine returnsInHanded_of_change_sized (C := Tryz.checked) own started (by kernel_rfl) Tryz.func6
    (ChangeSpec.witness6 (enc := enc) (C := Tryz.checked) false ⟨#[], #[.slice none 0 0, .slice none 0 0], []⟩ 8 (by kernel_rfl) (by kernel_rfl) (by kernel_rfl) (by kernel_rfl)) ?_
  intro W base args ds gs before hval hW hcnd hsz _
  have hW' := hW
  obtain ⟨p, q, hA0, hV, rfl, hfz, hnd⟩ := hW
  have hA : DataW.TrodAll enc Tryz.prog W 0 (fun _ => true) true Tryz.f6.params.toList args.toList ds p := hA0
  have hA1 := hA
  rw [Tryz.params6] at hA
  obtain ⟨v0, vs0, d0, ds0, p0, q0, e0, rfl, rfl, h0, r0⟩ := trodAll_cons hA
  obtain ⟨v1, vs1, d1, ds1, p1, q1, e1, rfl, rfl, h1, r1⟩ := trodAll_cons r0
  obtain ⟨rfl, rfl, rfl⟩ := trodAll_nil r1
  subst e1
  obtain rfl : args = #[v0, v1] := by cases args; simp_all
  obtain ⟨rfl, rfl⟩ := trodVars_none hV
  refine (walk (hval 0 22 v0 rfl rfl) h0 (Sx.weightsEach_get hsz 0 22 d0 (by kernel_rfl) rfl) (hval 1 36 v1 rfl rfl) h1 (Sx.weightsEach_get hsz 1 36 d1 (by kernel_rfl) rfl)).mono fun e W' ⟨he, hg⟩ => ?_
  subst he
  exact ⟨_, rfl, hg.post (pv := []) hW' (fun _ _ _ => (trodAll_cons_mk (shut_bool Tryz.underlying4 _) trodAll_mk0))
    (fun sp hsp => hg.args (by kernel_rfl) (by kernel_rfl) hA1 (fun x hx => hW'.lt x (List.mem_append_left _ hx)) (fun x hx => hsp x (List.mem_append_left _ hx))) (fun _ _ => rfl) rfl
    (ok_one (by kernel_rfl) rfl (okWide_bool_mk Tryz.underlying4 _))⟩

theorem over : Rows.plainLegalRow.holds Tryz.pinned (OpenSpec.ofChange Rows.plainLegalSpec) :=
  OpenClaim.holds_of_wide 6 Tryz.f6 rfl rfl rfl rfl rfl rfl rfl ⟨rfl, rfl, rfl, rfl, rfl⟩ rfl rfl rfl rfl rfl (by kernel_rfl) Tryz.func6 closed
    (of_decide_eq_true (by kernel_rfl)) (by unfold Func.isWrapper; first | (rw [if_pos (by decide +kernel)]; kernel_rfl) | (rw [if_neg (by decide +kernel)]; exact ⟨rfl, rfl⟩))
    (fun os started H enc _ => lifted os started H enc)

theorem proved : Rows.PlainLegalSaid := over
end Go.Proofs.YtgepebndihfnfaaGreat.PlainLegal
