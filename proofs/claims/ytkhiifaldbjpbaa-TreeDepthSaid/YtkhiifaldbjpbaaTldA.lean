/- A law of trees: what the evaluator leaves, and that it holds. No condition. -/
import Derived.Test.YtkhiifaldbjpbaaTlmA
import Derived.KernelRfl
set_option linter.unusedSimpArgs false
set_option linter.unusedVariables false

namespace Go.Proofs.Ytkhiifaldbjpbaa.Ses
open Go Go.Proofs Go.Proofs.Ytkhiifaldbjpbaa.Sx Go.Proofs.Ytkhiifaldbjpbaa.Trx
set_option maxRecDepth 100000

theorem tdep_vc (x : LeaL) : evCall tdepE (ev tdepE 1000) 4 (leafArgs x) ⟨[], 0, []⟩ (fun _ _ => False) (fun v _ => TrueV v) = (
(∃ x1 : Unit,
 (True ∧
 (∀ x2 : Unit,
 (True →
 (∃ x3 : (@List LeafD),
 ((@Eq (@List LeafD) x x3) ∧
 (True ∧
 (∀ x4 : Unit,
 (True →
 (br (@Bool.not (@roomB x3))
 (@Eq Bool Bool.true Bool.true)
 (∃ x5 : Unit,
 (True ∧
 (∀ x6 : Unit,
 (True →
 ((∃ x7 : Nat,
 ((@Eq Int (0 : Int) (Nat.cast x7 : Int)) ∧
 ((@Eq TreeD (@TreeD.node Bool.false (@LeafD.mk (@List.nil UInt8) (0 : Int) (0 : Int) Bool.false) TreeD.nil TreeD.nil (0 : Int) (0 : Int)) (@putsD (@List.take LeafD x7 x))) ∧
 (@Nat.le x7 (@List.length LeafD x))))) ∧
 (∀ x8 : Nat,
 ((@Nat.le x8 (@List.length LeafD x)) →
 ((@LE.le Nat _ (@HMul.hMul _ _ _ _ (@List.length LeafD x) (40 : Nat)) room47) →
 (br (@Decidable.decide (@LT.lt Int _ (Nat.cast x8 : Int) (Nat.cast (@List.length LeafD x) : Int)) _)
 (br (@Decidable.decide ((@LE.le Int _ (0 : Int) (Nat.cast x8 : Int)) ∧
 (@LT.lt Int _ (Nat.cast x8 : Int) (Nat.cast (@List.length LeafD x) : Int))) _)
 (∃ x9 : PutA,
 ((@Eq TreeD (@putsD (@List.take LeafD x8 x)) (@PutA.t x9)) ∧
 ((@Eq Bs (@LeafD.path (@List.getD LeafD x (@Int.toNat (Nat.cast x8 : Int)) (@LeafD.mk (@List.nil UInt8) (0 : Int) (0 : Int) Bool.false))) (@LeafD.path (@PutA.x x9))) ∧
 ((@Eq Int (@LeafD.digest (@List.getD LeafD x (@Int.toNat (Nat.cast x8 : Int)) (@LeafD.mk (@List.nil UInt8) (0 : Int) (0 : Int) Bool.false))) (@LeafD.digest (@PutA.x x9))) ∧
 ((@Eq Int (@LeafD.rev (@List.getD LeafD x (@Int.toNat (Nat.cast x8 : Int)) (@LeafD.mk (@List.nil UInt8) (0 : Int) (0 : Int) Bool.false))) (@LeafD.rev (@PutA.x x9))) ∧
 ((@Eq Bool (@LeafD.gone (@List.getD LeafD x (@Int.toNat (Nat.cast x8 : Int)) (@LeafD.mk (@List.nil UInt8) (0 : Int) (0 : Int) Bool.false))) (@LeafD.gone (@PutA.x x9))) ∧
 (((@putP (@PutA.t x9)) ∧
 (@LT.lt Nat _ (@ht (@PutA.t x9)) (100000 : Nat))) ∧
 (∀ x10 : Unit,
 (True →
 (∃ x11 : TreeD,
 ((@Eq TreeD (@putD (@PutA.x x9) (@PutA.t x9)) x11) ∧
 (True ∧
 (∀ x12 : Unit,
 (True →
 (br (@Decidable.decide (@LE.le Int _ (0 : Int) (@Go.IntKind.wrap Go.IntKind.u64 (@cond Int Bool.true (@ite Int (@LT.lt Int _ (40 : Int) (@Go.IntKind.wrap Go.IntKind.i64 (@Int.tdiv (@depthD x11) (2 : Int)))) _ (40 : Int) (@Go.IntKind.wrap Go.IntKind.i64 (@Int.tdiv (@depthD x11) (2 : Int)))) (@ite Int (@GT.gt Int _ (40 : Int) (@Go.IntKind.wrap Go.IntKind.i64 (@Int.tdiv (@depthD x11) (2 : Int)))) _ (40 : Int) (@Go.IntKind.wrap Go.IntKind.i64 (@Int.tdiv (@depthD x11) (2 : Int))))))) _)
 (∃ x13 : TreeD,
 ((@Eq TreeD (@putD (@PutA.x x9) (@PutA.t x9)) x13) ∧
 (True ∧
 (∀ x14 : Unit,
 (True →
 (br (@Decidable.decide (@GT.gt Int _ (@Go.IntKind.wrap Go.IntKind.i64 (@HMul.hMul Int Int Int _ (1 : Int) (@HPow.hPow Int Nat Int _ (2 : Int) (@Min.min Nat _ (@Int.toNat (@Go.IntKind.wrap Go.IntKind.u64 (@cond Int Bool.true (@ite Int (@LT.lt Int _ (40 : Int) (@Go.IntKind.wrap Go.IntKind.i64 (@Int.tdiv (@depthD x11) (2 : Int)))) _ (40 : Int) (@Go.IntKind.wrap Go.IntKind.i64 (@Int.tdiv (@depthD x11) (2 : Int)))) (@ite Int (@GT.gt Int _ (40 : Int) (@Go.IntKind.wrap Go.IntKind.i64 (@Int.tdiv (@depthD x11) (2 : Int)))) _ (40 : Int) (@Go.IntKind.wrap Go.IntKind.i64 (@Int.tdiv (@depthD x11) (2 : Int))))))) (@Go.IntKind.bits Go.IntKind.i64))))) (@Go.IntKind.wrap Go.IntKind.i64 (@HAdd.hAdd Int Int Int _ (@lenD x13) (1 : Int)))) _)
 (@Eq Bool Bool.false Bool.true)
 (∃ x15 : TreeD,
 ((@Eq TreeD (@putD (@PutA.x x9) (@PutA.t x9)) x15) ∧
 (True ∧
 (∀ x16 : Unit,
 (True →
 (br (@Decidable.decide (@LT.lt Int _ (@depthD x15) (1 : Int)) _)
 (@Eq Bool Bool.false Bool.true)
 (∃ x17 : Nat,
 ((@Eq Int (@Go.IntKind.wrap Go.IntKind.i64 (@HAdd.hAdd Int Int Int _ (Nat.cast x8 : Int) (1 : Int))) (Nat.cast x17 : Int)) ∧
 ((@Eq TreeD (@putD (@PutA.x x9) (@PutA.t x9)) (@putsD (@List.take LeafD x17 x))) ∧
 ((@Nat.le x17 (@List.length LeafD x)) ∧
 (@LT.lt Nat _ (@Nat.sub (@List.length LeafD x) x17) (@Nat.sub (@List.length LeafD x) x8))))))))))))))))))
 (Bad "check" "law.go:104"))))))))))))))))
 (Bad "check" "law.go:103"))
 (@Eq Bool Bool.true Bool.true))))))))))))))))))))) := by kernel_rfl

end Go.Proofs.Ytkhiifaldbjpbaa.Ses

namespace Go.Proofs.Ytkhiifaldbjpbaa.Ses
open Go Go.Proofs Go.Proofs.Ytkhiifaldbjpbaa.Sx Go.Proofs.Ytkhiifaldbjpbaa.Trx

theorem shift_q {d X : Int} (h0 : 0 ≤ d) (h1 : d ≤ 1000) : ∃ q : Nat, IntKind.u64.wrap (cond true (ite (40 < IntKind.i64.wrap (d.tdiv 2)) 40 (IntKind.i64.wrap (d.tdiv 2))) X) = (q : Int) ∧ (2 * q : Int) ≤ d ∧ q ≤ 40 := by
  obtain ⟨n, rfl⟩ := Int.eq_ofNat_of_zero_le h0
  have e : (n : Int).tdiv 2 = ((n / 2 : Nat) : Int) := rfl
  rw [e, wrap_id (by omega) (by omega)]
  by_cases g : (40 : Int) < ((n / 2 : Nat) : Int)
  · rw [if_pos g]
    exact ⟨40, by rw [cond_true, wrap_u64 (by omega) (by omega)]; rfl, by omega, by omega⟩
  · rw [if_neg g]
    exact ⟨n / 2, by rw [cond_true, wrap_u64 (by omega) (by omega)], by omega, by omega⟩

theorem tdep_ok : EnvOK tdepE := tlaw_ok
theorem tdep_body (l : LeaL) : evCall tdepE (ev tdepE 1000) 4 (leafArgs l) ⟨[], 0, []⟩ (fun _ _ => False) (fun v _ => TrueV v) := by
  rw [tdep_vc]
  refine ⟨(), trivial, fun _ _ => ⟨l, rfl, trivial, fun _ _ => br_i (fun _ => rfl) fun hr => ⟨(), trivial, fun _ _ => ⟨⟨0, rfl, rfl, Nat.zero_le _⟩, fun i hi hl => br_i (fun h1 => ?_) (fun _ => rfl)⟩⟩⟩⟩
  have h1 : (i : Int) < l.length := of_decide_eq_true h1
  have hr := (room_of hr).1
  have e := put_step h1
  have hlen := len_may (l := l.take (i + 1))
  rw [List.length_take] at hlen
  have hw := wf_puts (l := l.take (i + 1)) (by intro h; have h5 := congrArg List.length h; rw [List.length_take, List.length_nil] at h5; omega)
  have hn := wf_num _ hw
  have hd : 1 ≤ depthD (putsD (l.take (i + 1))) := by
    rcases wf_cases hw with h | ⟨x, a, b, h, ha, hb, _⟩
    · have h4 := putD_ne (l.getD i noL) (putsD (l.take i))
      rw [e, h] at h4
      cases h4
    · rw [h, depth_join]
      have := wf_num _ ha
      have := wf_num _ hb
      omega
  refine br_t (decide_eq_true ⟨by omega, h1⟩) ⟨⟨putsD (l.take i), l.getD i noL⟩, rfl, rfl, rfl, rfl, rfl, take_may hr i, fun _ _ => ⟨putsD (l.take (i + 1)), e, trivial, fun _ _ => ?_⟩⟩
  obtain ⟨q, hq, hq2, hq3⟩ := shift_q (d := depthD (putsD (l.take (i + 1)))) (X := (@ite Int ((40 : Int) > (IntKind.i64.wrap (Int.tdiv (depthD (putsD (l.take (i + 1)))) 2))) _ (40 : Int) (IntKind.i64.wrap (Int.tdiv (depthD (putsD (l.take (i + 1)))) 2)))) (by omega) (by omega)
  rw [hq]
  have hpow := wf_pow _ hw q hq2
  have hm : min (q : Int).toNat IntKind.i64.bits = q := by
    show min q 64 = q
    omega
  refine br_t (decide_eq_true (by omega)) ⟨_, e, trivial, fun _ _ => br_f ?_ ⟨_, e, trivial, fun _ _ => br_f (decide_eq_false (by omega)) ⟨i + 1, by rw [wrap_id (by omega) (by omega)]; rfl, e, by show i + 1 ≤ l.length; omega, by show l.length - (i + 1) < l.length - i; omega⟩⟩⟩
  rw [hm]
  have h0 : (0 : Int) < 2 ^ q := Int.pow_pos (by omega)
  refine decide_eq_false ?_
  rw [wrap_id (n := 1 * 2 ^ q) (by omega) (by omega), wrap_id (by omega) (by omega)]
  omega
end Go.Proofs.Ytkhiifaldbjpbaa.Ses
