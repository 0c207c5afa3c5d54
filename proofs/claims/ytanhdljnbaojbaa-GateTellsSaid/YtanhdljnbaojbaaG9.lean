/- Contracts of functions of the given program, each proved by a walk of its code: written by gprint.py, this session's program round the kit's print; texts of our own stand among the printed ones. No condition beyond each theorem's own premises. -/
import Derived.Test.YtanhdljnbaojbaaG0
namespace Go.Proofs.Ytanhdljnbaojbaa.G
open Go.RowKit Go.Proofs.YtanhdljnbaojbaaW.PrintWords Go.Proofs.YtanhdljnbaojbaaW.PrintLast Go.Proofs.YtanhdljnbaojbaaW.PrintMore
attribute [local go_sem] max2_int min2_int max_two min_two max_three min_three max_four min_four   -- for this text's walks alone
set_option linter.unusedVariables false
set_option linter.unusedSimpArgs false

/-! ### bucket_Fill: function 53 -/
-- GIVEN OWN
def FillMay (x0 x1 x2 x3 now : Int) : Prop := (1 ≤ x0 ∧ x0 ≤ 100) ∧ (1 ≤ x1 ∧ x1 ≤ 1048576) ∧ (0 ≤ x2 ∧ x2 ≤ x0) ∧ (0 ≤ x3 ∧ x3 ≤ 1099511627776) ∧ 0 ≤ now ∧ now ≤ 1099511627776
instance (x0 x1 x2 x3 now : Int) : Decidable (FillMay x0 x1 x2 x3 now) := by unfold FillMay; infer_instance
def bucket_Fill.f (x0 x1 x2 x3 now : Int) : Option (Int × Int × Int × Int × Int) :=
  if FillMay x0 x1 x2 x3 now then
    if now < x3 then some (0, 0, 0, 0, 6)
    else if x0 ≤ x2 + (now - x3) / x1 then some (x0, x1, x0, now, 0)
    else some (x0, x1, x2 + (now - x3) / x1, x3 + (now - x3) / x1 * x1, 0)
  else some (0, 0, 0, 0, 1)

set_option maxHeartbeats 2000000 in
set_option maxRecDepth 100000 in
theorem fill_no (x0 x1 x2 x3 now : Int) (w : World) (h : ¬ FillMay x0 x1 x2 x3 now) :
    Calls Try.prog 53 #[.agg #[.int .i64 x0, .int .i64 x1, .int .i64 x2, .int .i64 x3], .int .i64 now] w fun e w' => e = .returned (.tuple #[.agg #[.int .i64 0, .int .i64 0, .int .i64 0, .int .i64 0], .int .i64 1]) ∧ Below w.heap.size w w' := by
  have H := Aside0.mk h
  clear h
  by_cases c : now ≤ 1099511627776
  all_goals go_enter Try.func53, Try.ntmps53
  all_goals go_wp2
  all_goals first
    | (exfalso; exact H.out (by unfold FillMay; omega))
    | exact bodyPost_ret (v := .tuple #[.agg #[.int .i64 0, .int .i64 0, .int .i64 0, .int .i64 0], .int .i64 1]) (by simp [results, Try.results53, go_sem]) rfl ⟨rfl, (by repeat (first | exact Below.refl _ _ | apply below_alloc | apply below_drew | apply pw_below_drewN | refine Below.setCell ?_ (by simp; omega) _))⟩

set_option maxHeartbeats 2000000 in
set_option maxRecDepth 100000 in
theorem fill_early (x0 x1 x2 x3 now : Int) (w : World) (h : FillMay x0 x1 x2 x3 now) (hn : now < x3) :
    Calls Try.prog 53 #[.agg #[.int .i64 x0, .int .i64 x1, .int .i64 x2, .int .i64 x3], .int .i64 now] w fun e w' => e = .returned (.tuple #[.agg #[.int .i64 0, .int .i64 0, .int .i64 0, .int .i64 0], .int .i64 6]) ∧ Below w.heap.size w w' := by
  obtain ⟨⟨h1, h2⟩, ⟨h3, h4⟩, ⟨h5, h6⟩, ⟨h7, h8⟩, h9, h10⟩ := h
  go_enter Try.func53, Try.ntmps53
  go_wp2
  exact bodyPost_ret (v := .tuple #[.agg #[.int .i64 0, .int .i64 0, .int .i64 0, .int .i64 0], .int .i64 6]) (by simp [results, Try.results53, go_sem]) rfl ⟨rfl, (by repeat (first | exact Below.refl _ _ | apply below_alloc | apply below_drew | apply pw_below_drewN | refine Below.setCell ?_ (by simp; omega) _))⟩

set_option maxHeartbeats 2000000 in
set_option maxRecDepth 100000 in
theorem fill_full (x0 x1 x2 x3 now : Int) (w : World) (h : FillMay x0 x1 x2 x3 now) (hn : ¬ now < x3) (hf : x0 ≤ x2 + (now - x3) / x1) :
    Calls Try.prog 53 #[.agg #[.int .i64 x0, .int .i64 x1, .int .i64 x2, .int .i64 x3], .int .i64 now] w fun e w' => e = .returned (.tuple #[.agg #[.int .i64 x0, .int .i64 x1, .int .i64 x0, .int .i64 now], .int .i64 0]) ∧ Below w.heap.size w w' := by
  obtain ⟨⟨h1, h2⟩, ⟨h3, h4⟩, ⟨h5, h6⟩, ⟨h7, h8⟩, h9, h10⟩ := h
  have k1 : x3 ≤ now := by omega
  have k2 : 0 ≤ (now - x3) / x1 := Int.ediv_nonneg (by omega) (by omega)
  have k3 : (now - x3) / x1 ≤ 1099511627776 := Int.le_trans (Int.ediv_le_self _ (by omega)) (by omega)
  have k4 : (now - x3) / x1 * x1 ≤ now - x3 := Int.ediv_mul_le _ (by omega)
  have k5 : 0 ≤ (now - x3) / x1 * x1 := Int.mul_nonneg k2 (by omega)
  clear hn
  have hmf : ∀ (fn : Fn) (first cap : Array Value) (w : World), (Instr.makeFunc fn first cap).run Try.prog w = .ok (.func fn first cap) w := fun _ _ _ _ => rfl
  by_cases hc : x0 - x2 < (now - x3) / x1
  · go_enter Try.func53, Try.ntmps53
    go_wp2
    refine bodyPost_ret (v := .agg #[.int .i64 x0, .int .i64 x1, .int .i64 x0, .int .i64 now]) (by simp [results, Try.results84, go_sem]) rfl ?_
    go_wp2
    refine bodyPost_ret (v := .agg #[.int .i64 x0, .int .i64 x1, .int .i64 (x2 + (x0 - x2)), .int .i64 (wrap64 (x3 + wrap64 ((x0 - x2) * x1)))]) (by simp [results, Try.results83, go_sem]) rfl ?_
    go_wp2
    exact bodyPost_ret (v := .tuple #[.agg #[.int .i64 x0, .int .i64 x1, .int .i64 x0, .int .i64 now], .int .i64 0]) (by simp [results, Try.results53, go_sem]) rfl ⟨rfl, (by repeat (first | exact Below.refl _ _ | apply below_alloc | apply below_drew | apply pw_below_drewN | refine Below.setCell ?_ (by simp; omega) _))⟩
  · go_enter Try.func53, Try.ntmps53
    go_wp2
    refine bodyPost_ret (v := .agg #[.int .i64 x0, .int .i64 x1, .int .i64 x0, .int .i64 now]) (by simp [results, Try.results84, go_sem]) rfl ?_
    go_wp2
    refine bodyPost_ret (v := .agg #[.int .i64 x0, .int .i64 x1, .int .i64 (x2 + (now - x3) / x1), .int .i64 (x3 + (now - x3) / x1 * x1)]) (by simp [results, Try.results83, go_sem]) rfl ?_
    go_wp2
    exact bodyPost_ret (v := .tuple #[.agg #[.int .i64 x0, .int .i64 x1, .int .i64 x0, .int .i64 now], .int .i64 0]) (by simp [results, Try.results53, go_sem]) rfl ⟨rfl, (by repeat (first | exact Below.refl _ _ | apply below_alloc | apply below_drew | apply pw_below_drewN | refine Below.setCell ?_ (by simp; omega) _))⟩

set_option maxHeartbeats 2000000 in
set_option maxRecDepth 100000 in
theorem fill_some (x0 x1 x2 x3 now : Int) (w : World) (h : FillMay x0 x1 x2 x3 now) (hn : ¬ now < x3) (hf : ¬ x0 ≤ x2 + (now - x3) / x1) :
    Calls Try.prog 53 #[.agg #[.int .i64 x0, .int .i64 x1, .int .i64 x2, .int .i64 x3], .int .i64 now] w fun e w' => e = .returned (.tuple #[.agg #[.int .i64 x0, .int .i64 x1, .int .i64 (x2 + (now - x3) / x1), .int .i64 (x3 + (now - x3) / x1 * x1)], .int .i64 0]) ∧ Below w.heap.size w w' := by
  obtain ⟨⟨h1, h2⟩, ⟨h3, h4⟩, ⟨h5, h6⟩, ⟨h7, h8⟩, h9, h10⟩ := h
  have k1 : x3 ≤ now := by omega
  have k2 : 0 ≤ (now - x3) / x1 := Int.ediv_nonneg (by omega) (by omega)
  have k3 : (now - x3) / x1 ≤ 1099511627776 := Int.le_trans (Int.ediv_le_self _ (by omega)) (by omega)
  have k4 : (now - x3) / x1 * x1 ≤ now - x3 := Int.ediv_mul_le _ (by omega)
  have k5 : 0 ≤ (now - x3) / x1 * x1 := Int.mul_nonneg k2 (by omega)
  have k6 : x2 + (now - x3) / x1 < x0 := by omega
  clear hn hf
  have hmf : ∀ (fn : Fn) (first cap : Array Value) (w : World), (Instr.makeFunc fn first cap).run Try.prog w = .ok (.func fn first cap) w := fun _ _ _ _ => rfl
  go_enter Try.func53, Try.ntmps53
  go_wp2
  refine bodyPost_ret (v := .agg #[.int .i64 x0, .int .i64 x1, .int .i64 x0, .int .i64 now]) (by simp [results, Try.results84, go_sem]) rfl ?_
  go_wp2
  refine bodyPost_ret (v := .agg #[.int .i64 x0, .int .i64 x1, .int .i64 (x2 + (now - x3) / x1), .int .i64 (x3 + (now - x3) / x1 * x1)]) (by simp [results, Try.results83, go_sem]) rfl ?_
  go_wp2
  refine bodyPost_ret (v := .agg #[.int .i64 x0, .int .i64 x1, .int .i64 (x2 + (now - x3) / x1), .int .i64 (x3 + (now - x3) / x1 * x1)]) (by simp [results, Try.results83, go_sem]) rfl ?_
  go_wp2
  exact bodyPost_ret (v := .tuple #[.agg #[.int .i64 x0, .int .i64 x1, .int .i64 (x2 + (now - x3) / x1), .int .i64 (x3 + (now - x3) / x1 * x1)], .int .i64 0]) (by simp [results, Try.results53, go_sem]) rfl ⟨rfl, (by repeat (first | exact Below.refl _ _ | apply below_alloc | apply below_drew | apply pw_below_drewN | refine Below.setCell ?_ (by simp; omega) _))⟩

theorem bucket_Fill.calls (a0_0 a0_1 a0_2 a0_3 a1 r1 r2 r3 r4 r5 : Int) (w : World) (h : bucket_Fill.f a0_0 a0_1 a0_2 a0_3 a1 = some (r1, r2, r3, r4, r5)) :
    Calls Try.prog 53 #[.agg #[.int .i64 a0_0, .int .i64 a0_1, .int .i64 a0_2, .int .i64 a0_3], .int .i64 a1] w fun e w' => e = .returned (.tuple #[.agg #[.int .i64 r1, .int .i64 r2, .int .i64 r3, .int .i64 r4], .int .i64 r5]) ∧ Below w.heap.size w w' := by
  unfold bucket_Fill.f at h
  by_cases hm : FillMay a0_0 a0_1 a0_2 a0_3 a1
  · rw [if_pos hm] at h
    by_cases hn : a1 < a0_3
    · rw [if_pos hn] at h
      simp only [Option.some.injEq, Prod.mk.injEq] at h
      obtain ⟨rfl, rfl, rfl, rfl, rfl⟩ := h
      exact fill_early _ _ _ _ _ w hm hn
    · rw [if_neg hn] at h
      by_cases hf : a0_0 ≤ a0_2 + (a1 - a0_3) / a0_1
      · rw [if_pos hf] at h
        simp only [Option.some.injEq, Prod.mk.injEq] at h
        obtain ⟨rfl, rfl, rfl, rfl, rfl⟩ := h
        exact fill_full _ _ _ _ _ w hm hn hf
      · rw [if_neg hf] at h
        simp only [Option.some.injEq, Prod.mk.injEq] at h
        obtain ⟨rfl, rfl, rfl, rfl, rfl⟩ := h
        exact fill_some _ _ _ _ _ w hm hn hf
  · rw [if_neg hm] at h
    simp only [Option.some.injEq, Prod.mk.injEq] at h
    obtain ⟨rfl, rfl, rfl, rfl, rfl⟩ := h
    exact fill_no _ _ _ _ _ w hm


end Go.Proofs.Ytanhdljnbaojbaa.G
