/- The statement TickOrder over plain numbers: sums and products of times hang on no order, and what is added and taken away again is as it was, or the last time was met. No condition. -/
import Derived.Test.YtkkopknlhijgiaaG4
import Derived.Test.YtkkopknlhijgiaaTick
namespace Go.Proofs.Ytkkopknlhijgiaa.Pure
open Go.RowKit Go.Proofs.Ytkkopknlhijgiaa.G Go.Proofs.YtkkopknlhijgiaaW.PrintWords Go.Proofs.YtkkopknlhijgiaaW.PrintLast Go.Proofs.YtkkopknlhijgiaaW.PrintMore Go.Proofs.Ytkkopknlhijgiaa.Tick
set_option linter.unusedVariables false
set_option linter.unusedSimpArgs false
theorem mn_tm {x : Int} (h : 0 ≤ x) : Tm (mn x 1099511627776) := by unfold Tm mn; split <;> omega
theorem mul_big {x y z : Int} (hx : x ≤ y) (hz : 1 ≤ z) (hx0 : 0 ≤ x) : x ≤ y * z := by
  have : y * 1 ≤ y * z := Int.mul_le_mul_of_nonneg_left hz (by omega)
  omega
theorem tim_assoc {a b c : Int} (ha : Tm a) (hb : Tm b) (hc : Tm c) (a0 : a ≠ 0) (b0 : b ≠ 0) (c0 : c ≠ 0) : tim (tim a b) c = tim a (tim b c) := by
  have e1 := tim_mn ha hb
  have e2 := tim_mn hb hc
  have t1 := tim_tm ha hb
  have t2 := tim_tm hb hc
  rw [tim_mn t1 hc, tim_mn ha t2, e1, e2]
  unfold Tm at ha hb hc
  have hab : 0 ≤ a * b := Int.mul_nonneg ha.1 hb.1
  have hbc : 0 ≤ b * c := Int.mul_nonneg hb.1 hc.1
  have k1 : a * b ≤ a * b * c := mul_big (Int.le_refl _) (by omega) hab
  have k2 : b * c ≤ a * (b * c) := by rw [Int.mul_comm a]; exact mul_big (Int.le_refl _) (by omega) hbc
  have k3 : a * b * c = a * (b * c) := Int.mul_assoc a b c
  unfold mn
  by_cases h1 : 1099511627776 < a * b
  · rw [if_pos h1]
    have k4 : (1099511627776 : Int) ≤ 1099511627776 * c := mul_big (Int.le_refl _) (by omega) (by omega)
    by_cases h2 : 1099511627776 < b * c
    · rw [if_pos h2]
      have k5 : (1099511627776 : Int) ≤ a * 1099511627776 := by rw [Int.mul_comm]; exact mul_big (Int.le_refl _) (by omega) (by omega)
      split <;> split <;> omega
    · rw [if_neg h2]
      split <;> split <;> omega
  · rw [if_neg h1]
    by_cases h2 : 1099511627776 < b * c
    · rw [if_pos h2]
      have k5 : (1099511627776 : Int) ≤ a * 1099511627776 := by rw [Int.mul_comm]; exact mul_big (Int.le_refl _) (by omega) (by omega)
      split <;> split <;> omega
    · rw [if_neg h2, k3]
theorem TickOrder : foghornlaw05_TickOrder.Pure := by
  intro a0 a1 a2 _ _ _
  refine ⟨1, ?_⟩
  obtain ⟨a, ea, ha⟩ := time_tm a0
  obtain ⟨b, eb, hb⟩ := time_tm a1
  obtain ⟨c, ec, hc⟩ := time_tm a2
  have hab : Tm (mn (a + b) 1099511627776) := mn_tm (by have := ha.1; have := hb.1; omega)
  have hbc : Tm (mn (b + c) 1099511627776) := mn_tm (by have := hc.1; have := hb.1; omega)
  have tab := tim_tm ha hb
  have tbc := tim_tm hb hc
  have tba := tim_tm hb ha
  have tabc := tim_tm tab hc
  unfold foghornlaw05_TickOrder.f
  simp only [ea, eb, ec, Option.bind_some, add_in ha hb, add_in hb ha, add_in hb hc, add_in hab hc, add_in ha hbc, times_in ha hb, times_in hb ha, times_in hb hc, times_in tab hc, times_in ha tbc, sub_in hab hb, if_true, alive_is]
  have x1 : Tm (mn (mn (a + b) 1099511627776 + c) 1099511627776) := mn_tm (by have := hab.1; have := hc.1; omega)
  simp only [foghornlaw05_TickOrder.j0, Bool.not_true, Bool.false_eq_true, if_false, right_is, Option.bind_some, decide_eq_true x1, decide_eq_true tabc, if_true]
  have e1 : tim a b = tim b a := by rw [tim_mn ha hb, tim_mn hb ha, Int.mul_comm]
  have p1 : ¬ mn (a + b) 1099511627776 < a := by unfold Tm at ha hb hc; unfold mn; split <;> omega
  have p2 : ¬ mn (a + b) 1099511627776 < b := by unfold Tm at ha hb hc; unfold mn; split <;> omega
  have p3 : mn (a + b) 1099511627776 = mn (b + a) 1099511627776 := by rw [Int.add_comm]
  have p4 : mn (mn (a + b) 1099511627776 + c) 1099511627776 = mn (a + mn (b + c) 1099511627776) 1099511627776 := by
    unfold Tm at ha hb hc; unfold mn; split <;> split <;> split <;> split <;> omega
  have p5 : mx (mn (a + b) 1099511627776 - b) 0 ≠ a → mn (a + b) 1099511627776 = 1099511627776 := by
    unfold Tm at ha hb hc; unfold mn mx; split <;> split <;> omega
  rw [if_neg p1, if_neg p2, if_pos p3, if_pos p4, if_pos e1]
  have fin : (if a = 0 then some true else (if b = 0 then some true else (if c = 0 then some true else some (tim (tim a b) c == tim a (tim b c))))) = some true := by
    by_cases z1 : a = 0
    · rw [if_pos z1]
    · rw [if_neg z1]
      by_cases z2 : b = 0
      · rw [if_pos z2]
      · rw [if_neg z2]
        by_cases z3 : c = 0
        · rw [if_pos z3]
        · rw [if_neg z3, tim_assoc ha hb hc z1 z2 z3, beq_self_eq_true]
  by_cases q : mx (mn (a + b) 1099511627776 - b) 0 = a
  · rw [if_pos q]; exact fin
  · rw [if_neg q, if_pos (p5 q)]; exact fin
end Go.Proofs.Ytkkopknlhijgiaa.Pure
