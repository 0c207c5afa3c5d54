/- What the tick functions come to, as plain mathematics: times between 0 and 2^40, sums, products and differences cut at both ends. -/
import Derived.Test.YtanhdljnbaojbaaG13
import Derived.Test.YtanhdljnbaojbaaG15
import Derived.Test.YtanhdljnbaojbaaG4
namespace Go.Proofs.Ytanhdljnbaojbaa.Tick
open Go.RowKit Go.Proofs.Ytanhdljnbaojbaa.G Go.Proofs.YtanhdljnbaojbaaW.PrintWords Go.Proofs.YtanhdljnbaojbaaW.PrintLast Go.Proofs.YtanhdljnbaojbaaW.PrintMore
set_option linter.unusedVariables false
set_option linter.unusedSimpArgs false
/-- A time. -/
def Tm (t : Int) : Prop := 0 ≤ t ∧ t ≤ 1099511627776
instance (t : Int) : Decidable (Tm t) := by unfold Tm; infer_instance
theorem tm_bool (t : Int) : (decide (0 ≤ t) && decide (t ≤ 1099511627776)) = decide (Tm t) := by
  rw [Bool.eq_iff_iff, Bool.and_eq_true, decide_eq_true_iff, decide_eq_true_iff, decide_eq_true_iff]; exact Iff.rfl
theorem all_two (a b : Int) : tick_all.f [a, b] = some (decide (Tm a ∧ Tm b)) := by
  unfold tick_all.f
  simp only [List.all_cons, List.all_nil, Bool.and_true, tm_bool, Bool.decide_and]
theorem w64 {n : Int} (h : -9223372036854775808 ≤ n) (h' : n ≤ 9223372036854775807) : wrap64 n = n := by unfold wrap64; omega
theorem add_in {a b : Int} (ha : Tm a) (hb : Tm b) : tick_Add.f a b = some (mn (a + b) 1099511627776, 0) := by
  unfold tick_Add.f
  rw [all_two, decide_eq_true ⟨ha, hb⟩]
  unfold Tm at ha hb
  simp only [Option.bind_some, if_true]
  rw [w64 (by omega) (by omega)]
theorem add_out {a b : Int} (h : ¬ (Tm a ∧ Tm b)) : tick_Add.f a b = some (0, 1) := by
  unfold tick_Add.f
  rw [all_two, decide_eq_false h]
  simp
/-- A product, cut at the last time. -/
def tim (a b : Int) : Int := if 0 < a ∧ 1099511627776 / a < b then 1099511627776 else a * b
theorem tim_mn {a b : Int} (ha : Tm a) (hb : Tm b) : tim a b = mn (a * b) 1099511627776 := by
  unfold tim mn
  unfold Tm at ha hb
  by_cases h0 : 0 < a
  · by_cases h1 : 1099511627776 / a < b
    · rw [if_pos ⟨h0, h1⟩]
      have : 1099511627776 < a * b := by
        have := (Int.ediv_lt_iff_lt_mul h0).1 h1
        rw [Int.mul_comm]; exact this
      rw [if_pos (by omega)]
    · rw [if_neg (by omega)]
      have : b * a ≤ 1099511627776 := (Int.le_ediv_iff_mul_le h0).1 (by omega)
      rw [Int.mul_comm] at this
      rw [if_neg (by omega)]
  · rw [if_neg (by omega)]
    have : a = 0 := by omega
    subst this
    simp
theorem tim_tm {a b : Int} (ha : Tm a) (hb : Tm b) : Tm (tim a b) := by
  rw [tim_mn ha hb]
  have : 0 ≤ a * b := Int.mul_nonneg ha.1 hb.1
  unfold Tm mn
  split <;> omega
theorem right_is (a : Int) : tick_Right.f a = some (decide (Tm a)) := by
  unfold tick_Right.f Tm
  by_cases h : 0 ≤ a
  · rw [if_pos (by omega)]; simp [h]
  · rw [if_neg (by omega)]; simp [h]
theorem ref_right_is (a : Int) : foghornref05_Right.f a = some (decide (Tm a)) := by
  unfold foghornref05_Right.f Tm
  by_cases h : 0 ≤ a
  · rw [if_pos (by omega)]; simp [h]
  · rw [if_neg (by omega)]; simp [h]
end Go.Proofs.Ytanhdljnbaojbaa.Tick
