/- The statement TickSpreads over plain numbers: a product is spread over a sum of times, and rises with both; the least of three is that of the first and of the least of the others. No condition. -/
import Derived.Test.YtkkopknlhijgiaaG5
import Derived.Test.YtkkopknlhijgiaaG6
import Derived.Test.YtkkopknlhijgiaaTick
namespace Go.Proofs.Ytkkopknlhijgiaa.Pure
open Go.RowKit Go.Proofs.Ytkkopknlhijgiaa.G Go.Proofs.YtkkopknlhijgiaaW.PrintWords Go.Proofs.YtkkopknlhijgiaaW.PrintLast Go.Proofs.YtkkopknlhijgiaaW.PrintMore Go.Proofs.Ytkkopknlhijgiaa.Tick
set_option linter.unusedVariables false
set_option linter.unusedSimpArgs false
theorem mn_tm' {x : Int} (h : 0 ≤ x) : Tm (mn x 1099511627776) := by unfold Tm mn; split <;> omega
theorem spread {a b c : Int} (ha : Tm a) (hb : Tm b) (hc : Tm c) : tim a (mn (b + c) 1099511627776) = mn (tim a b + tim a c) 1099511627776 := by
  have hbc : Tm (mn (b + c) 1099511627776) := mn_tm' (by have := hc.1; have := hb.1; omega)
  rw [tim_mn ha hbc, tim_mn ha hb, tim_mn ha hc]
  unfold Tm at ha hb hc
  have kb : 0 ≤ a * b := Int.mul_nonneg ha.1 hb.1
  have kc : 0 ≤ a * c := Int.mul_nonneg ha.1 hc.1
  by_cases z : a = 0
  · subst z; simp [mn]
  · have e : a * (b + c) = a * b + a * c := Int.mul_add a b c
    by_cases h : 1099511627776 < b + c
    · have e2 : mn (b + c) 1099511627776 = 1099511627776 := by unfold mn; rw [if_pos h]
      rw [e2]
      have k1 : 1 * (b + c) ≤ a * (b + c) := Int.mul_le_mul_of_nonneg_right (by omega) (by omega)
      have k2 : 1 * 1099511627776 ≤ a * 1099511627776 := Int.mul_le_mul_of_nonneg_right (by omega) (by omega)
      have e3 : mn (a * 1099511627776) 1099511627776 = 1099511627776 := by unfold mn; split <;> omega
      rw [e3]
      unfold mn
      repeat' (first | omega | split)
    · have e2 : mn (b + c) 1099511627776 = b + c := by unfold mn; rw [if_neg h]
      rw [e2, e]
      unfold mn
      repeat' (first | omega | split)
theorem tim_mono {a b c : Int} (ha : Tm a) (hb : Tm b) (hc : Tm c) : tim a b ≤ mn (tim a b + tim a c) 1099511627776 ∧ tim a c ≤ mn (tim a b + tim a c) 1099511627776 := by
  have h1 := tim_tm ha hb
  have h2 := tim_tm ha hc
  unfold Tm at h1 h2
  unfold mn
  split <;> omega
theorem TickSpreads : foghornlaw05_TickSpreads.Pure := by
  intro a0 a1 a2 _ _ _
  obtain ⟨a, ea, ha⟩ := time_tm a0
  obtain ⟨b, eb, hb⟩ := time_tm a1
  obtain ⟨c, ec, hc⟩ := time_tm a2
  have hbc : Tm (mn (b + c) 1099511627776) := mn_tm' (by have := hc.1; have := hb.1; omega)
  have tab := tim_tm ha hb
  have tac := tim_tm ha hc
  have f1 := first_is [a, b, c] (by simp) (by intro t ht; simp at ht; rcases ht with rfl | rfl | rfl <;> assumption)
  have f2 := first_is [b, c] (by simp) (by intro t ht; simp at ht; rcases ht with rfl | rfl <;> assumption)
  unfold foghornlaw05_TickSpreads.f
  simp only [ea, eb, ec, Option.bind_some, add_in hb hc, times_in ha hbc, times_in ha hb, times_in ha hc, add_in tab tac, f1, f2, alive_is, if_true]
  have e := spread ha hb hc
  obtain ⟨m1, m2⟩ := tim_mono ha hb hc
  rw [if_pos e, if_pos (by rw [e]; exact m1), if_pos (by rw [e]; exact m2)]
  congr 1
  rw [beq_iff_eq]
  simp only [minOf, rd, List.tail_cons, List.foldl_cons, List.foldl_nil, Int.toNat_zero, List.getD_cons_zero]
  unfold mn
  repeat' (first | omega | split)
end Go.Proofs.Ytkkopknlhijgiaa.Pure
