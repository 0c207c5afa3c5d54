/- Contracts of functions of the given program, and what they come to, for any arguments. No condition beyond each theorem's own premises. -/
import Derived.Test.YtkphinfijppkeaaXRouteRoundM7
namespace Go.Proofs.Ytkphinfijppkeaa.G
open Go.RowKit Go.Proofs.YtkphinfijppkeaaW.PrintWords Go.Proofs.YtkphinfijppkeaaW.PrintLast Go.Proofs.YtkphinfijppkeaaW.PrintMore
attribute [local go_sem] max2_int min2_int max_two min_two max_three min_three max_four min_four
set_option linter.unusedVariables false
set_option linter.unusedSimpArgs false
theorem cfg_routes {c : Cf} (h : cfgB c = true) : ∀ x ∈ c.ro, routeB c.rs.length x = true := by
  unfold cfgB at h
  simp only [Bool.and_eq_true] at h
  exact List.all_eq_true.1 h.2.1
theorem take_C {α : Type} {d : Kd α} {w : World} {A : Option Addr} {l L : List α} (n : Nat) (hr : Kd.C d w A l.length l) (hL : l.take n = L) : Kd.C d w A L.length L := by
  have h := Kd.C_take (m := min n l.length) hr (by omega)
  have e : l.take (min n l.length) = L := by
    rw [← hL]
    rcases Nat.le_total l.length n with h | h
    · rw [Nat.min_eq_right h, List.take_length, List.take_of_length_le h]
    · rw [Nat.min_eq_left h]
  rwa [e] at h
end Go.Proofs.Ytkphinfijppkeaa.G
