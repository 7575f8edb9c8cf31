/- A law of graphs: that it holds. No condition. -/
import Derived.Test.YtildflamnehilaaGrmB
set_option linter.unusedSimpArgs false
set_option linter.unusedVariables false

namespace Go.Proofs.Ytildflamnehilaa.Ses
open Go Go.Proofs Go.Proofs.Ytildflamnehilaa.Sx Go.Proofs.Ytildflamnehilaa.Trx

theorem wasR_snoc (C : List CommitD) (c : CommitD) : wasR (C ++ [c]) = wasR C ++ [readV ⟨C ++ [c], [97]⟩] := by
  unfold wasR
  rw [List.length_append, List.length_singleton, List.range_succ, List.map_append]
  congr 1
  · apply List.map_congr_left
    intro n hn
    rw [List.mem_range] at hn
    rw [List.take_append_of_le_length (by omega)]
  · rw [List.map_singleton, List.take_of_length_le (by simp)]
theorem wasR_len (C : List CommitD) : (wasR C).length = C.length := by simp [wasR]
theorem wasR_get {C : List CommitD} {n : Nat} (h : n < C.length) (d : VerdictD) : (wasR C).getD n d = readV ⟨C.take (n + 1), [97]⟩ := by
  simp [wasR, List.getD, h]
theorem land_not {x : LandA} (h : ¬ (landV x).code = 2) : landC x = x.C := by
  cases hb : badLd x
  · by_cases ha : x.base > x.C.length
    · exact (land_ahead hb ha).2
    · cases hc : confA x with
      | none => exact absurd (by rw [(land_in hb ha hc).1]; rfl) h
      | some q => exact (land_conf hb ha hc).2
  · exact (land_bad hb).2
theorem stepB_congr {a b : List CommitD} {j : Nat} (h1 : a.take j = b.take j) (h2 : a.getD j noM = b.getD j noM) : stepB a j = stepB b j := by
  unfold stepB loadA
  rw [h1, h2]
theorem insS_twice (l : List ChangeD) : insS (insS l) = insS l := insS_self (insS_srt l)
/-- a commit that landed lands again -/
theorem land_again {x : LandA} (h : (landV x).code = 2) : landV ⟨x.C, x.base, x.ref, insS x.l⟩ = landV x := by
  unfold landV badLd confA
  dsimp only
  rw [chk_insS, insS_twice]
structure GoMore (l : List Deed5D) : Prop where
  loads : ∀ j, j < (goC l).length → stepB (goC l) j = true
  short : (∀ i, i < l.length → shortC (l.getD i noD).l = true) → ∀ c, c ∈ goC l → shortC c.changes = true
theorem go_more (l : List Deed5D) : GoMore l := by
  refine snocL (p := GoMore) ⟨fun j hj => by simp [goC] at hj, fun _ c hc => by simp [goC] at hc⟩ (fun l d h => ?_) l
  have e : goC (l ++ [d]) = landC ⟨goC l, d.base, d.ref, d.l⟩ := by simp [goC, oneC]
  have hshort : (∀ i, i < (l ++ [d]).length → shortC ((l ++ [d]).getD i noD).l = true) → (∀ c, c ∈ goC l → shortC c.changes = true) ∧ shortC d.l = true := by
    intro hs
    refine ⟨h.short fun i hi => ?_, ?_⟩
    · have := hs i (by simp; omega)
      rwa [show (l ++ [d]).getD i noD = l.getD i noD by simp [List.getD, List.getElem?_append_left hi]] at this
    · have := hs l.length (by simp)
      rwa [show (l ++ [d]).getD l.length noD = d by simp [List.getD]] at this
  by_cases hc : (landV ⟨goC l, d.base, d.ref, d.l⟩).code = 2
  · obtain ⟨hb, hV, hC⟩ := land_two hc
    have hC : landC ⟨goC l, d.base, d.ref, d.l⟩ = goC l ++ [newC ⟨goC l, d.base, d.ref, d.l⟩] := hC
    have hV : landV ⟨goC l, d.base, d.ref, d.l⟩ = vC 2 (((goC l).length : Int) + 1) [] := hV
    refine ⟨fun j hj => ?_, fun hs c hc => ?_⟩
    · rw [e, hC] at hj ⊢
      rcases Nat.lt_or_ge j (goC l).length with hj2 | hj2
      · rw [← h.loads j hj2]
        exact stepB_congr (List.take_append_of_le_length (by omega)) (by simp [List.getD, List.getElem?_append_left hj2])
      · have : j = (goC l).length := by simp at hj; omega
        subst this
        have eA : loadA (goC l ++ [newC ⟨goC l, d.base, d.ref, d.l⟩]) (goC l).length = ⟨goC l, d.base, d.ref, insS d.l⟩ := by
          unfold loadA
          rw [List.take_left]
          have eg : (goC l ++ [newC ⟨goC l, d.base, d.ref, d.l⟩]).getD (goC l).length ⟨0, 0, [], []⟩ = newC ⟨goC l, d.base, d.ref, d.l⟩ := by simp [List.getD]
          rw [eg]
          rfl
        have eg : (goC l ++ [newC ⟨goC l, d.base, d.ref, d.l⟩]).getD (goC l).length ⟨0, 0, [], []⟩ = newC ⟨goC l, d.base, d.ref, d.l⟩ := by simp [List.getD]
        have hag : landV ⟨goC l, d.base, d.ref, insS d.l⟩ = vC 2 (((goC l).length : Int) + 1) [] := (land_again (x := ⟨goC l, d.base, d.ref, d.l⟩) hc).trans hV
        unfold stepB
        rw [eA, eg, hag]
        show ((2 : Int) == 2 && ((((goC l).length : Int) + 1 == ((goC l).length : Int) + 1) && sameC (insS (insS d.l)) (insS d.l))) = true
        rw [insS_twice, sameC_self]
        simp
    · obtain ⟨s1, s2⟩ := hshort hs
      rw [e, hC] at hc
      rcases List.mem_append.1 hc with hc | hc
      · exact s1 c hc
      · have : c = newC ⟨goC l, d.base, d.ref, d.l⟩ := by simpa using hc
        rw [this]
        exact List.all_eq_true.2 fun y hy => List.all_eq_true.1 s2 y (mem_insS.1 hy)
  · have hC := land_not hc
    have hC : landC ⟨goC l, d.base, d.ref, d.l⟩ = goC l := hC
    refine ⟨fun j hj => ?_, fun hs c hc => ?_⟩
    · rw [e, hC] at hj ⊢
      exact h.loads j hj
    · rw [e, hC] at hc
      exact (hshort hs).1 c hc
theorem mod_in2 (a : Int) {n : Nat} (h0 : 0 < n) (hn : n ≤ 4000) : ∃ b : Nat, Int.tmod (IntKind.i64.wrap (Int.tmod a (n : Int) + (n : Int))) (n : Int) = (b : Int) ∧ b < n := by
  have h1 := Int.tmod_lt_of_pos a (show (0 : Int) < (n : Int) by omega)
  have h2 := Int.lt_tmod_of_pos a (show (0 : Int) < (n : Int) by omega)
  rw [wrap_id (n := Int.tmod a (n : Int) + (n : Int)) (by omega) (by omega)]
  have h3 := Int.tmod_nonneg (a := Int.tmod a (n : Int) + (n : Int)) (n : Int) (by omega)
  have h4 := Int.tmod_lt_of_pos (Int.tmod a (n : Int) + (n : Int)) (show (0 : Int) < (n : Int) by omega)
  obtain ⟨b, hb⟩ := Int.eq_ofNat_of_zero_le h3
  exact ⟨b, hb, by omega⟩
theorem pre_ok : EnvOK preE := glaw_ok
set_option maxHeartbeats 0 in
theorem pre_body (x : PreA) : evCall preE (ev preE 1000) 5 (preArgs x) ⟨[], 0, []⟩ (fun _ _ => False) (fun v _ => TrueV v) := by
  rw [pre_vc]
  obtain ⟨l, n⟩ := x
  dsimp only
  refine ⟨(), trivial, fun _ _ => ⟨l, rfl, trivial, fun _ _ => br_i (fun _ => rfl) fun hr => ⟨(), trivial, fun _ _ => ⟨⟨0, rfl, rfl, rfl, rfl, rfl, rfl, rfl, rfl, Nat.zero_le _⟩, fun i hi _ => br_i (fun h1 => ?_) (fun h1 => ?_)⟩⟩⟩⟩
  all_goals
    rw [Bool.not_eq_false'] at hr
    obtain ⟨r1, r2⟩ := roomG_of hr
  · have h1 := of_decide_eq_true h1
    have bi : decide ((0 : Int) ≤ (i : Int) ∧ (i : Int) < (l.length : Int)) = true := decide_eq_true ⟨by omega, h1⟩
    have hgo : landC ⟨goC (l.take i), (l.getD i noD).base, (l.getD i noD).ref, (l.getD i noD).l⟩ = goC (l.take (i + 1)) := (goC_at (by omega)).symm
    have hCl : (goC (l.take i)).length ≤ 100 := by
      have h5 := (goC_ok (l.take i) (by rw [List.length_take]; omega)).len
      rw [List.length_take] at h5
      omega
    have hfew := go_few r1 i
    refine br_t bi (br_t bi (br_t bi (dup ⟨⟨goC (l.take i), (l.getD i noD).base, (l.getD i noD).ref, (l.getD i noD).l⟩, rfl, rfl, rfl, rfl, rfl, rfl, rfl, rfl, ⟨hfew, r2 i (by omega)⟩, fun _ _ => ?_⟩)))
    have hwl := wasR_len (goC (l.take i))
    refine br_i (fun hc => ?_) (fun hc => ?_)
    · have hc : (landV ⟨goC (l.take i), (l.getD i noD).base, (l.getD i noD).ref, (l.getD i noD).l⟩).code = 2 := eq_of_beq hc
      have hC := (land_two hc).2.2
      have hC : landC ⟨goC (l.take i), (l.getD i noD).base, (l.getD i noD).ref, (l.getD i noD).l⟩ = goC (l.take i) ++ [newC ⟨goC (l.take i), (l.getD i noD).base, (l.getD i noD).ref, (l.getD i noD).l⟩] := hC
      have hw : wasR (goC (l.take (i + 1))) = wasR (goC (l.take i)) ++ [readV ⟨goC (l.take (i + 1)), [97]⟩] := by
        rw [← hgo, hC, wasR_snoc]
      rw [hgo]
      refine ⟨⟨goC (l.take (i + 1)), [97]⟩, rfl, rfl, rfl, rfl, rfl, rfl, (show shortB [97] = true by decide), fun _ _ _ => br_t ?_ ⟨i + 1, by rw [wrap_id (by omega) (by omega)]; rfl, rfl, ?_, rfl, rfl, rfl, rfl, rfl, ?_, by show i + 1 ≤ l.length; omega, by show l.length - (i + 1) < l.length - i; omega⟩⟩
      · have r3 : decide (((wasR (goC (l.take i))).length + 1) * 80 ≤ room47) = true := by
          have : 101 * 80 ≤ room47 := by decide
          exact decide_eq_true (Nat.le_trans (Nat.mul_le_mul_right 80 (by omega)) this)
        simp only [Bool.and_eq_true]
        refine ⟨⟨by simp, by simp⟩, ?_⟩
        simpa using r3
      · rw [hw]; simp
      · rw [hw, all_lenG _ rfl]
        rfl
    · have hc : ¬ (landV ⟨goC (l.take i), (l.getD i noD).base, (l.getD i noD).ref, (l.getD i noD).l⟩).code = 2 := by simpa using hc
      have hC := land_not hc
      rw [hgo] at hC
      have hC : goC (l.take (i + 1)) = goC (l.take i) := hC
      rw [hgo]
      exact ⟨i + 1, by rw [wrap_id (by omega) (by omega)]; rfl, rfl, by rw [hC], rfl, rfl, rfl, rfl, rfl, by rw [hC], by show i + 1 ≤ l.length; omega, by show l.length - (i + 1) < l.length - i; omega⟩
  have h1 := of_decide_eq_false h1
  have hi : i ≤ l.length := hi
  have hfew := go_few r1 i
  rw [List.take_of_length_le (by omega)] at hfew ⊢
  have ho := goC_ok l (by omega)
  have hCl := ho.len
  have hok := ho.ok
  have hlo := (go_more l).loads
  have hsh := (go_more l).short r2
  clear ho h1 hi r2 hr
  generalize goC l = C at hfew hok hCl hlo hsh ⊢
  have hwl := wasR_len C
  refine ⟨C, rfl, rfl, rfl, rfl, rfl, hfew, fun _ _ _ _ => br_f (by rw [hwl]; simp) fun _ => br_i (fun _ => rfl) fun hz => fun _ => ?_⟩
  have hz : ¬ (C.length : Int) = 0 := by simpa using hz
  have hnz : ((C.length : Int) != 0) = true := by simpa using hz
  obtain ⟨b, hb, hbn⟩ := mod_in2 n (n := C.length) (by omega) (by omega)
  rw [hb]
  have hw : IntKind.i64.wrap ((b : Int) + 1) = ((b + 1 : Nat) : Int) := by rw [wrap_id (by omega) (by omega)]; omega
  rw [hw]
  have c1 : cutL C none (some ((b + 1 : Nat) : Int)) = C.take (b + 1) := by simp [cutL, loN, hiN]
  have c2 : cutL C (some ((b + 1 : Nat) : Int)) none = C.drop (b + 1) := by simp [cutL, loN, hiN]
  rw [c1, c2]
  have mayP : ∀ D : List CommitD, (∀ c, c ∈ D → c ∈ C) → D.length ≤ C.length → mayM D = true := fun D hD hl => by
    unfold mayM
    simp only [Bool.and_eq_true, decide_eq_true_eq, List.all_eq_true]
    exact ⟨by omega, fun c hc => hsh c (hD c hc)⟩
  have tl : (C.take (b + 1)).length = b + 1 := by rw [List.length_take]; omega
  have may1 : mayM (C.take (b + 1)) = true := mayP _ (fun c hc => List.mem_of_mem_take hc) (by omega)
  have may2 : mayM (C.drop (b + 1)) = true := mayP _ (fun c hc => List.mem_of_mem_drop hc) (by rw [List.length_drop]; omega)
  have load1 : LoadsTo (C.take (b + 1)) (C.take (b + 1)).length := fun j hj => by
    rw [tl] at hj
    rw [← hlo j (by omega)]
    exact stepB_congr (by rw [List.take_take, Nat.min_eq_left (by omega)]) (by simp [List.getD, List.getElem?_take, hj])
  have e0 : 0 + (b : Int).toNat = b := by simp
  rw [e0]
  have hwas := wasR_get hbn ⟨0, 0, 0, [], 0, [], 0⟩
  have bw : decide ((0 : Int) ≤ (b : Int) ∧ (b : Int) < ((wasR C).length : Int)) = true := decide_eq_true ⟨by omega, by omega⟩
  have dw : decide (b < (wasR C).length) = true := decide_eq_true (by omega)
  have htl : (((C.take (b + 1)).length : Int) == ((b + 1 : Nat) : Int)) = true := by rw [tl]; simp
  rw [hwas]
  have b1 : bndB C.length none (some ((b + 1 : Nat) : Int)) none = true := by simp [bndB]; omega
  have b2 : bndB C.length (some ((b + 1 : Nat) : Int)) none none = true := by simp [bndB]; omega
  refine br_t hnz fun _ _ => br_t hnz (br_t b1 (.inl ⟨C.take (b + 1), rfl, ⟨may1, load1⟩, fun _ _ => br_t b2 ?_⟩))
  by_cases hm : b + 1 = C.length
  · refine .inl ⟨C.drop (b + 1), rfl, ⟨may2, ?_⟩, fun _ _ => ⟨C.take (b + 1), rfl, rfl, rfl, rfl, rfl, trivial, fun _ _ => br_t htl (br_t bw (br_t dw ⟨⟨C.take (b + 1), [97]⟩, rfl, rfl, rfl, rfl, rfl, rfl, (show shortB [97] = true by decide), fun _ _ => ⟨⟨readV ⟨C.take (b + 1), [97]⟩, readV ⟨C.take (b + 1), [97]⟩⟩, rfl, rfl, rfl, rfl, rfl, rfl, rfl, rfl, rfl, rfl, rfl, rfl, rfl, rfl, trivial, fun _ _ => br_t (eqV_self _) fun _ => ?_⟩⟩))⟩⟩
    · intro j hj
      rw [List.length_drop] at hj
      omega
    · rw [hm]; simp
  · refine .inr ⟨C.drop (b + 1), rfl, ⟨may2, ?_⟩, fun _ _ => ⟨C.take (b + 1), rfl, rfl, rfl, rfl, rfl, trivial, fun _ _ => br_t htl (br_t bw (br_t dw ⟨⟨C.take (b + 1), [97]⟩, rfl, rfl, rfl, rfl, rfl, rfl, (show shortB [97] = true by decide), fun _ _ => ⟨⟨readV ⟨C.take (b + 1), [97]⟩, readV ⟨C.take (b + 1), [97]⟩⟩, rfl, rfl, rfl, rfl, rfl, rfl, rfl, rfl, rfl, rfl, rfl, rfl, rfl, rfl, trivial, fun _ _ => br_t (eqV_self _) fun _ => ?_⟩⟩))⟩⟩
    · intro hL
      have hs := step_of (hL 0 (by rw [List.length_drop]; omega))
      have h2 := step_land (by rw [List.length_drop]; omega) hs
      have h3 := hs.rev
      rw [h2.2.1] at h3
      have h4 : (C.drop (b + 1)).getD 0 noM = C[b + 1]'(by omega) := by
        have hlt : b + 1 < C.length := by omega
        simp [List.getD, hlt]
      rw [h4, hok.rev (b + 1) (by omega)] at h3
      omega
    · have : (((b + 1 : Nat) : Int) == (C.length : Int)) = false := by
        have : ¬ ((b + 1 : Nat) : Int) = (C.length : Int) := by omega
        simpa using this
      rw [this]
      decide
end Go.Proofs.Ytildflamnehilaa.Ses
