/- 'SessionLeaves' returns true, whatever the input, in whatever memory, whatever orders and capacities are drawn; the input reads as it did. No condition. -/
import Derived.Test.YtnkhnogdiphboaaLeaA
import Derived.Test.YtnkhnogdiphboaaRows
import Derived.ProofKit
import Derived.OpenShut
import Derived.KernelRfl
namespace Go.Proofs.Ytnkhnogdiphboaa.SessionLeaves
open Go.ChangeShapes Go.WideShapes Go.ChangeAt Go.RowKit
set_option linter.unusedVariables false

theorem own : ownKnob Try.prog.godebug = none := by kernel_rfl

theorem walk {H : Type} {enc : TypeId × Value → H} {W : World} {v0 v1 v2 : Value} {d0 d1 d2 : DataW H} {p0 p1 p2 : List MemPlace} {r : Reach} {b0 : Nat}
    (o0 : Value.okWide Try.prog W r b0 3 v0) (o1 : Value.okWide Try.prog W r b0 34 v1) (o2 : Value.okWide Try.prog W r b0 34 v2)
    (h0 : DataW.Trod enc Try.prog W 0 (fun _ => true) true 3 v0 d0 p0) (h1 : DataW.Trod enc Try.prog W 0 (fun _ => true) true 34 v1 d1 p1) (h2 : DataW.Trod enc Try.prog W 0 (fun _ => true) true 34 v2 d2 p2) :
    Calls Try.prog 4 #[v0, v1, v2] W fun e w' => e = .returned (.bool true) ∧ Sx.Kept W w' := by
  obtain ⟨n, rfl, rfl, rfl, _⟩ := open_int Try.underlying3 o0 h0
  obtain ⟨l1, a1, b1⟩ := Sx.ints_rep Try.underlying34 Try.underlying3 (by kernel_rfl) o1 h1
  obtain ⟨l2, a2, b2⟩ := Sx.ints_rep Try.underlying34 Try.underlying3 (by kernel_rfl) o2 h2
  have many : ∀ {l : List Int}, ¬ l.length * 8 ≤ Sx.room47 → 100 < l.length := fun h => by simp [Sx.room47] at h; omega
  by_cases c1 : l1.length * 8 ≤ Sx.room47
  · by_cases c2 : l2.length * 8 ≤ Sx.room47
    · exact Sx.law_of Ses.lea_env (Ses.leaves_body ⟨n, l1, l2⟩) (β := []) rfl (.cons (.int .i64 n) (.cons (a1 c1 _) (.cons (a2 c2 _) (Sx.RepL.nil _))))
    · obtain ⟨reg, hr⟩ := b2 c2
      exact Sx.law_of Ses.lea_env (Ses.big2_body ⟨n, l1, l2.length⟩ (many c2)) (β := [some reg]) rfl (.cons (.int .i64 n) (.cons (a1 c1 _) (.cons (hr [some reg] 0 rfl) (Sx.RepL.nil _))))
  · obtain ⟨reg, hr⟩ := b1 c1
    exact Sx.law_of Ses.lea_env (Ses.big1_body ⟨n, l1.length⟩ (many c1)) (β := [some reg]) rfl (.cons (.int .i64 n) (.cons (hr [some reg] 0 rfl) (.cons (.undef _) (Sx.RepL.nil _))))

set_option maxRecDepth 100000 in
theorem lifted (os : Os) (started : os.Started) (H : Type) (enc : TypeId × Value → H) :
    ReturnsInHanded {} Try.checked os 4 .any (Rows.sessionLeavesSpec.pre6 enc Try.prog Try.f4 Rows.sessionLeavesRow.domain false) (Rows.sessionLeavesSpec.post enc Try.prog Try.f4 false true false false) := by
  refine returnsInHanded_of_change (C := Try.checked) own started (by kernel_rfl) Try.func4
    (ChangeSpec.witness6 (enc := enc) (C := Try.checked) false ⟨#[], #[.int .i64 0, .slice none 0 0, .slice none 0 0], []⟩ 8 (by kernel_rfl) (by kernel_rfl) (by kernel_rfl) (by kernel_rfl)) ?_
  intro W base args ds gs before hval0 hW hcnd _
  have hW' := hW
  obtain ⟨p, q, hA0, hV, rfl, hfz, hnd⟩ := hW
  have hA : DataW.TrodAll enc Try.prog W 0 (fun _ => true) true Try.f4.params.toList args.toList ds p := hA0
  have hA1 := hA
  rw [Try.params4] at hA
  obtain ⟨v0, v1, v2, d0, d1, d2, p0, p1, p2, rfl, rfl, rfl, h0, h1, h2⟩ := trodAll_three hA
  obtain ⟨rfl, rfl⟩ := trodVars_none hV
  have hval := hval0
  refine (walk (hval 0 3 v0 rfl rfl) (hval 1 34 v1 rfl rfl) (hval 2 34 v2 rfl rfl) h0 h1 h2).mono fun e W' ⟨he, hg⟩ => ?_
  subst he
  exact ⟨_, rfl, post_of_same (pv := []) hW' (fun _ _ _ => (trodAll_cons_mk (shut_bool Try.underlying4 _) trodAll_mk0))
    (fun sp hsp => hg.args (by kernel_rfl) (by kernel_rfl) hA1 (fun x hx => hW'.lt x (List.mem_append_left _ hx)) (fun x hx => hsp x (List.mem_append_left _ hx))) (fun _ _ => rfl) rfl
    (hg.grown.frame _) hg.grown.2.1 (ok_one (by kernel_rfl) rfl (okWide_bool_mk Try.underlying4 _))⟩

theorem over : Rows.sessionLeavesRow.holds Try.pinned (OpenSpec.ofChange Rows.sessionLeavesSpec) :=
  OpenClaim.holds_of_wide 4 Try.f4 rfl rfl rfl rfl rfl rfl rfl ⟨rfl, rfl, rfl, rfl, rfl⟩ rfl rfl rfl rfl rfl (by kernel_rfl) Try.func4 (by kernel_rfl)
    (of_decide_eq_true (by kernel_rfl)) (by unfold Func.isWrapper; first | (rw [if_pos (by decide +kernel)]; kernel_rfl) | (rw [if_neg (by decide +kernel)]; exact ⟨rfl, rfl⟩))
    (fun os started H enc _ => lifted os started H enc)

theorem proved : Rows.SessionLeavesSaid := over
end Go.Proofs.Ytnkhnogdiphboaa.SessionLeaves
