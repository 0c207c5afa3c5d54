/- What the tick functions come to, as plain mathematics: times between 0 and 2^40, sums, products and differences cut at both ends. -/
import Derived.Test.YtkkopknlhijgiaaG2
import Derived.Test.YtkkopknlhijgiaaG3
import Derived.Test.YtkkopknlhijgiaaG5
import Derived.Test.YtkkopknlhijgiaaG6
namespace Go.Proofs.Ytkkopknlhijgiaa.Tick
open Go.RowKit Go.Proofs.Ytkkopknlhijgiaa.G Go.Proofs.YtkkopknlhijgiaaW.PrintWords Go.Proofs.YtkkopknlhijgiaaW.PrintLast Go.Proofs.YtkkopknlhijgiaaW.PrintMore
set_option linter.unusedVariables false
set_option linter.unusedSimpArgs false
/-- A time. -/
def Tm (t : Int) : Prop := 0 ≤ t ∧ t ≤ 1099511627776
instance (t : Int) : Decidable (Tm t) := by unfold Tm; infer_instance
theorem tm_bool (t : Int) : (decide (0 ≤ t) && decide (t ≤ 1099511627776)) = decide (Tm t) := by
  rw [Bool.eq_iff_iff, Bool.and_eq_true, decide_eq_true_iff, decide_eq_true_iff, decide_eq_true_iff]; exact Iff.rfl
theorem all_two (a b : Int) : tick_all.f [a, b] = some (decide (Tm a ∧ Tm b)) := by
  unfold tick_all.f
  simp only [List.all_cons, List.all_nil, Bool.and_true, tm_bool, Bool.decide_and]
theorem w64 {n : Int} (h : -9223372036854775808 ≤ n) (h' : n ≤ 9223372036854775807) : wrap64 n = n := by unfold wrap64; omega
theorem time_tm (a : Int) : ∃ t, foghornlaw05_time.f a = some t ∧ Tm t := by
  unfold foghornlaw05_time.f
  refine ⟨_, rfl, ?_⟩
  have h1 : 0 ≤ IntKind.u64.wrap a := by rw [IntKind.wrap_u64]; omega
  rw [Int.tmod_eq_emod_of_nonneg h1]
  have h2 := Int.emod_nonneg (IntKind.u64.wrap a) (show (1099511627777 : Int) ≠ 0 by decide)
  have h3 := Int.emod_lt_of_pos (IntKind.u64.wrap a) (show (0 : Int) < 1099511627777 by decide)
  rw [w64 (by omega) (by omega)]
  exact ⟨h2, by omega⟩
theorem add_in {a b : Int} (ha : Tm a) (hb : Tm b) : tick_Add.f a b = some (mn (a + b) 1099511627776, 0) := by
  unfold tick_Add.f
  rw [all_two, decide_eq_true ⟨ha, hb⟩]
  unfold Tm at ha hb
  simp only [Option.bind_some, if_true]
  rw [w64 (by omega) (by omega)]
theorem add_out {a b : Int} (h : ¬ (Tm a ∧ Tm b)) : tick_Add.f a b = some (0, 1) := by
  unfold tick_Add.f
  rw [all_two, decide_eq_false h]
  simp
theorem sub_in {a b : Int} (ha : Tm a) (hb : Tm b) : tick_Sub.f a b = some (mx (a - b) 0, 0) := by
  unfold tick_Sub.f
  rw [all_two, decide_eq_true ⟨ha, hb⟩]
  unfold Tm at ha hb
  simp only [Option.bind_some, if_true]
  rw [w64 (by omega) (by omega)]
theorem sub_out {a b : Int} (h : ¬ (Tm a ∧ Tm b)) : tick_Sub.f a b = some (0, 1) := by
  unfold tick_Sub.f
  rw [all_two, decide_eq_false h]
  simp
/-- A product, cut at the last time. -/
def tim (a b : Int) : Int := if 0 < a ∧ 1099511627776 / a < b then 1099511627776 else a * b
theorem tim_mn {a b : Int} (ha : Tm a) (hb : Tm b) : tim a b = mn (a * b) 1099511627776 := by
  unfold tim mn
  unfold Tm at ha hb
  by_cases h0 : 0 < a
  · by_cases h1 : 1099511627776 / a < b
    · rw [if_pos ⟨h0, h1⟩]
      have : 1099511627776 < a * b := by
        have := (Int.ediv_lt_iff_lt_mul h0).1 h1
        rw [Int.mul_comm]; exact this
      rw [if_pos (by omega)]
    · rw [if_neg (by omega)]
      have : b * a ≤ 1099511627776 := (Int.le_ediv_iff_mul_le h0).1 (by omega)
      rw [Int.mul_comm] at this
      rw [if_neg (by omega)]
  · rw [if_neg (by omega)]
    have : a = 0 := by omega
    subst this
    simp
theorem tim_tm {a b : Int} (ha : Tm a) (hb : Tm b) : Tm (tim a b) := by
  rw [tim_mn ha hb]
  have : 0 ≤ a * b := Int.mul_nonneg ha.1 hb.1
  unfold Tm mn
  split <;> omega
theorem times_in {a b : Int} (ha : Tm a) (hb : Tm b) : tick_Times.f a b = some (tim a b, 0) := by
  unfold tick_Times.f
  rw [all_two, decide_eq_true ⟨ha, hb⟩]
  simp only [Option.bind_some, if_true]
  have ht := tim_tm ha hb
  unfold tim at ht ⊢
  unfold Tm at ha hb ht
  by_cases h0 : 0 < a
  · rw [if_pos (by omega), if_neg (by omega)]
    by_cases h1 : 1099511627776 / a < b
    · rw [if_pos (by omega), if_pos ⟨h0, h1⟩]
    · rw [if_neg (by omega), if_neg (by omega)]
      rw [if_neg (by omega)] at ht
      rw [w64 (by omega) (by omega)]
  · rw [if_neg (by omega), if_neg (by omega)]
    rw [if_neg (by omega)] at ht
    rw [w64 (by omega) (by omega)]
theorem times_out {a b : Int} (h : ¬ (Tm a ∧ Tm b)) : tick_Times.f a b = some (0, 1) := by
  unfold tick_Times.f
  rw [all_two, decide_eq_false h]
  simp
theorem right_is (a : Int) : tick_Right.f a = some (decide (Tm a)) := by
  unfold tick_Right.f Tm
  by_cases h : 0 ≤ a
  · rw [if_pos (by omega)]; simp [h]
  · rw [if_neg (by omega)]; simp [h]
theorem ref_right_is (a : Int) : foghornref05_Right.f a = some (decide (Tm a)) := by
  unfold foghornref05_Right.f Tm
  by_cases h : 0 ≤ a
  · rw [if_pos (by omega)]; simp [h]
  · rw [if_neg (by omega)]; simp [h]
theorem alive_is : foghornlaw05_alive.f = some true := by
  unfold foghornlaw05_alive.f
  rw [add_in (by unfold Tm; omega) (by unfold Tm; omega)]
  simp only [Option.bind_some]
  rw [show mn (3 + 4) 1099511627776 = 7 from rfl, times_in (by unfold Tm; omega) (by unfold Tm; omega)]
  simp only [Option.bind_some]
  rw [show tim 7 5 = 35 by unfold tim; omega, right_is]
  simp [Tm]
theorem first_is (l : List Int) (h : l ≠ []) (ht : ∀ t ∈ l, Tm t) : tick_First.f l = some (minOf l, 0) := by
  unfold tick_First.f
  have : tick_all.f l = some true := by
    unfold tick_all.f
    congr 1
    rw [List.all_eq_true]
    intro x hx
    rw [tm_bool]
    exact decide_eq_true (ht x hx)
  rw [this]
  simp only [Option.bind_some, if_true]
  have hl : (l.length : Int) ≠ 0 := by
    have := List.length_pos_iff.2 h; omega
  rw [if_neg hl]
  unfold slices_Min_int_int.f
  rw [if_neg h]
  rfl
end Go.Proofs.Ytkkopknlhijgiaa.Tick
