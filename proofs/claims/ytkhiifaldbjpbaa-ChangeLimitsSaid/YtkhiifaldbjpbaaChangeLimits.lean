/- 'ChangeLimits' returns true, whatever the input, in whatever memory, whatever orders and capacities are drawn; the input reads as it did. No condition. -/
import Derived.Test.YtkhiifaldbjpbaaChbA
import Derived.Test.YtkhiifaldbjpbaaRows
import Derived.ProofKit
import Derived.OpenShut
import Derived.SizedLaws
import Derived.KernelRfl
namespace Go.Proofs.Ytkhiifaldbjpbaa.ChangeLimits
open Go.ChangeShapes Go.WideShapes Go.ChangeAt Go.RowKit
set_option linter.unusedVariables false

theorem own : ownKnob Try.prog.godebug = none := by kernel_rfl

set_option maxRecDepth 100000 in
theorem walk {H : Type} {enc : TypeId × Value → H} {W : World} {v0 v1 v2 : Value} {d0 d1 d2 : DataW H} {p0 p1 p2 : List MemPlace} {r : Reach} {b0 : Nat}
    (o0 : Value.okWide Try.prog W r b0 5 v0) (h0 : DataW.Trod enc Try.prog W 0 (fun _ => true) true 5 v0 d0 p0) (w0 : (d0.weights Try.prog 5).all (· ≤ reachBytes) = true)
    (o1 : Value.okWide Try.prog W r b0 5 v1) (h1 : DataW.Trod enc Try.prog W 0 (fun _ => true) true 5 v1 d1 p1) (w1 : (d1.weights Try.prog 5).all (· ≤ reachBytes) = true)
    (o2 : Value.okWide Try.prog W r b0 4 v2) (h2 : DataW.Trod enc Try.prog W 0 (fun _ => true) true 4 v2 d2 p2) (w2 : (d2.weights Try.prog 4).all (· ≤ reachBytes) = true)
    : Calls Try.prog 18 #[v0, v1, v2] W fun e w' => e = .returned (.bool true) ∧ Sx.Kept W w' := by
  obtain ⟨n0, rfl, rfl, rfl, b0⟩ := open_int Try.underlying5 o0 h0
  have c0 : 0 ≤ n0 ∧ n0 < 256 := by simp [Lit.wf, IntKind.min, IntKind.max, IntKind.signed, IntKind.bits] at b0; omega
  obtain ⟨m0, rfl⟩ := Int.eq_ofNat_of_zero_le c0.1
  have k0 : m0 < 256 := by omega
  obtain ⟨n1, rfl, rfl, rfl, b1⟩ := open_int Try.underlying5 o1 h1
  have c1 : 0 ≤ n1 ∧ n1 < 256 := by simp [Lit.wf, IntKind.min, IntKind.max, IntKind.signed, IntKind.bits] at b1; omega
  obtain ⟨m1, rfl⟩ := Int.eq_ofNat_of_zero_le c1.1
  have k1 : m1 < 256 := by omega
  obtain ⟨n2, rfl, rfl, rfl⟩ := open_bool Try.underlying4 o2 h2
  exact Sx.law_of Ses.lim_ok (Ses.limits_body ⟨m0, m1, n2⟩ k0 k1) (β := []) rfl (.cons (.int _ _) (.cons (.int _ _) (.cons (.bool n2) (Sx.RepL.nil _))))

set_option maxRecDepth 100000 in
theorem lifted (os : Os) (started : os.Started) (H : Type) (enc : TypeId × Value → H) :
    ReturnsInHanded {} Try.checked os 18 .any (Rows.changeLimitsSpec.pre6 enc Try.prog Try.f18 Rows.changeLimitsRow.domain false) (Rows.changeLimitsSpec.post enc Try.prog Try.f18 false true false false) := by
  refine returnsInHanded_of_change_sized (C := Try.checked) own started (by kernel_rfl) Try.func18
    (ChangeSpec.witness6 (enc := enc) (C := Try.checked) false ⟨#[], #[.int .u8 0, .int .u8 0, .bool false], []⟩ 8 (by kernel_rfl) (by kernel_rfl) (by kernel_rfl) (by kernel_rfl)) ?_
  intro W base args ds gs before hval hW hcnd hsz _
  have hW' := hW
  obtain ⟨p, q, hA0, hV, rfl, hfz, hnd⟩ := hW
  have hA : DataW.TrodAll enc Try.prog W 0 (fun _ => true) true Try.f18.params.toList args.toList ds p := hA0
  have hA1 := hA
  rw [Try.params18] at hA
  obtain ⟨v0, vs0, d0, ds0, p0, q0, e0, rfl, rfl, h0, r0⟩ := trodAll_cons hA
  obtain ⟨v1, vs1, d1, ds1, p1, q1, e1, rfl, rfl, h1, r1⟩ := trodAll_cons r0
  obtain ⟨v2, vs2, d2, ds2, p2, q2, e2, rfl, rfl, h2, r2⟩ := trodAll_cons r1
  obtain ⟨rfl, rfl, rfl⟩ := trodAll_nil r2
  subst e2
  subst e1
  obtain rfl : args = #[v0, v1, v2] := by cases args; simp_all
  obtain ⟨rfl, rfl⟩ := trodVars_none hV
  refine (walk (hval 0 5 v0 rfl rfl) h0 (Sx.weightsEach_get hsz 0 5 d0 (by kernel_rfl) rfl) (hval 1 5 v1 rfl rfl) h1 (Sx.weightsEach_get hsz 1 5 d1 (by kernel_rfl) rfl) (hval 2 4 v2 rfl rfl) h2 (Sx.weightsEach_get hsz 2 4 d2 (by kernel_rfl) rfl)).mono fun e W' ⟨he, hg⟩ => ?_
  subst he
  exact ⟨_, rfl, hg.post (pv := []) hW' (fun _ _ _ => (trodAll_cons_mk (shut_bool Try.underlying4 _) trodAll_mk0))
    (fun sp hsp => hg.args (by kernel_rfl) (by kernel_rfl) hA1 (fun x hx => hW'.lt x (List.mem_append_left _ hx)) (fun x hx => hsp x (List.mem_append_left _ hx))) (fun _ _ => rfl) rfl
    (ok_one (by kernel_rfl) rfl (okWide_bool_mk Try.underlying4 _))⟩

theorem over : Rows.changeLimitsRow.holds Try.pinned (OpenSpec.ofChange Rows.changeLimitsSpec) :=
  OpenClaim.holds_of_wide 18 Try.f18 rfl rfl rfl rfl rfl rfl rfl ⟨rfl, rfl, rfl, rfl, rfl⟩ rfl rfl rfl rfl rfl (by kernel_rfl) Try.func18 (by kernel_rfl)
    (of_decide_eq_true (by kernel_rfl)) (by unfold Func.isWrapper; first | (rw [if_pos (by decide +kernel)]; kernel_rfl) | (rw [if_neg (by decide +kernel)]; exact ⟨rfl, rfl⟩))
    (fun os started H enc _ => lifted os started H enc)

theorem proved : Rows.ChangeLimitsSaid := over
end Go.Proofs.Ytkhiifaldbjpbaa.ChangeLimits
