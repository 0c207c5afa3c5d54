/- Contracts of functions of the given program, and what they come to, for any arguments. No condition beyond each theorem's own premises. -/
import Derived.Test.YtkphinfijppkeaaXRouteFirstM7
namespace Go.Proofs.Ytkphinfijppkeaa.G
open Go.RowKit Go.Proofs.YtkphinfijppkeaaW.PrintWords Go.Proofs.YtkphinfijppkeaaW.PrintLast Go.Proofs.YtkphinfijppkeaaW.PrintMore
attribute [local go_sem] max2_int min2_int max_two min_two max_three min_three max_four min_four
set_option linter.unusedVariables false
set_option linter.unusedSimpArgs false
theorem route_kinds {n : Int} {x : S58} (h : routeB n x = true) : x.f1.length ≤ 1000 ∧ (∀ m ∈ x.f1, matcherB m = true) ∧ ∀ m ∈ x.f1, 0 ≤ m.f0 ∧ m.f0 ≤ 3 := by
  unfold routeB at h
  simp only [Bool.and_eq_true, decide_eq_true_eq] at h
  have hm := List.all_eq_true.1 h.2.2.2.2
  refine ⟨by omega, hm, fun m hx => ?_⟩
  have := hm m hx
  unfold matcherB at this
  simp only [Bool.and_eq_true, decide_eq_true_eq] at this
  exact ⟨this.1, this.2.1⟩
theorem cfg_routes {c : Cf} (h : cfgB c = true) : ∀ x ∈ c.ro, routeB c.rs.length x = true := by
  unfold cfgB at h
  simp only [Bool.and_eq_true] at h
  exact List.all_eq_true.1 h.2.1
theorem takes_is {n : Int} {x : S58} {L : List S92} (hR : rightB L = true) (h : routeB n x = true) : takesB L x = x.f1.all fun m => matchB m L := by
  have hm := (route_kinds h).2.1
  unfold takesB
  rw [Bool.eq_iff_iff, List.all_eq_true, List.all_eq_true]
  constructor
  · intro k m hx
    have := k m hx
    rwa [allV_one hR (hm m hx)] at this
  · intro k m hx
    rw [allV_one hR (hm m hx)]
    exact k m hx
theorem take_C {α : Type} {d : Kd α} {w : World} {A : Option Addr} {l L : List α} (n : Nat) (hr : Kd.C d w A l.length l) (hL : l.take n = L) : Kd.C d w A L.length L := by
  have h := Kd.C_take (m := min n l.length) hr (by omega)
  have e : l.take (min n l.length) = L := by
    rw [← hL]
    rcases Nat.le_total l.length n with h | h
    · rw [Nat.min_eq_right h, List.take_length, List.take_of_length_le h]
    · rw [Nat.min_eq_left h]
  rwa [e] at h
end Go.Proofs.Ytkphinfijppkeaa.G
