/- Contracts of functions of the given program, each proved by a walk of its code: written by gprint.py, this session's program round the kit's print; texts of our own stand among the printed ones. No condition beyond each theorem's own premises. -/
import Derived.Test.YtkkopknlhijgiaaG0
import Derived.Test.YtkkopknlhijgiaaG2
namespace Go.Proofs.Ytkkopknlhijgiaa.G
open Go.RowKit Go.Proofs.YtkkopknlhijgiaaW.PrintWords Go.Proofs.YtkkopknlhijgiaaW.PrintLast Go.Proofs.YtkkopknlhijgiaaW.PrintMore
attribute [local go_sem] max2_int min2_int max_two min_two max_three min_three max_four min_four   -- for this text's walks alone
set_option linter.unusedVariables false
set_option linter.unusedSimpArgs false

/-! ### slices_Min_int_int: function 56 -/
def minOf (l : List Int) : Int := l.tail.foldl mn (rd l 0)
theorem minOf_snoc (l : List Int) (k : Nat) (h0 : 1 ≤ k) (hk : k < l.length) : minOf (l.take (k + 1)) = mn (minOf (l.take k)) (rd l (k : Int)) := by
  have e : l.take (k + 1) = l.take k ++ [rd l (k : Int)] := by
    rw [List.take_succ_eq_append_getElem hk]
    simp [rd, List.getD_eq_getElem?_getD, hk]
  have hne : l.take k ≠ [] := by
    intro h
    rcases List.take_eq_nil_iff.1 h with h | h
    · omega
    · subst h; simp at hk
  rw [e]
  unfold minOf
  rw [List.tail_append_of_ne_nil hne, List.foldl_append]
  have : rd (l.take k ++ [rd l (k : Int)]) 0 = rd (l.take k) 0 := by
    unfold rd
    have : 0 < (l.take k).length := List.length_pos_iff.2 hne
    rw [List.getD_eq_getElem?_getD, List.getD_eq_getElem?_getD, List.getElem?_append_left (by simpa using this)]
    rw [List.getD_eq_getElem?_getD]
  rw [this]
  simp only [List.foldl_cons, List.foldl_nil]
def slices_Min_int_int.f (l0 : List Int) : Option Int := if l0 = [] then none else some (minOf l0)
set_option maxHeartbeats 1000000 in
theorem slices_Min_int_int.calls (A0 : Option Addr) (c0 : Nat) (l0 : List Int) (r : Int) (w : World) (hr0 : Kd.C (Kd.int .i64) w A0 l0.length l0) (hc0 : l0.length ≤ c0) (h : slices_Min_int_int.f l0 = some r) :
    Calls Try.prog 56 #[.slice A0 l0.length c0] w fun e w' => e = .returned (.int .i64 r) ∧ Drawn0 w w' := by
  unfold slices_Min_int_int.f at h
  by_cases hn : l0 = []
  · rw [if_pos hn] at h; simp at h
  · rw [if_neg hn] at h
    have hl : 1 ≤ l0.length := List.length_pos_iff.2 hn
    have H := Aside0.mk (Option.some.inj h)
    have HR := Aside0.mk hr0
    have hmax : l0.length ≤ 9223372036854775807 := hr0.2.1
    clear hr0 hc0 h hn
    have hg : (1 : Int) ≤ (l0.length : Int) := by omega
    obtain ⟨ad, e1, hx⟩ := Kd.at_int HR.out 0 (by omega) (by omega)
    cases e1
    rw [show (0 : Int).toNat = 0 from rfl, show ad.add 0 = ad from by obtain ⟨b_, o_, s_⟩ := ad; cases s_ <;> simp [Addr.add]] at hx
    go_enter Try.func56, Try.ntmps56
    go_wp2
    go_loopg [3, 4] l0.length (fun kq v3 v4 w' => ∃ k : Nat, 1 ≤ k ∧ k ≤ l0.length ∧ l0.length - k ≤ kq ∧ v4 = .int .i64 k ∧ v3 = .int .i64 (minOf (l0.take k)) ∧ Drawn0 w w')
    case atStart =>
      refine ⟨1, Nat.le_refl _, hl, by omega, rfl, ?_, Drawn0.refl _⟩
      have : minOf (l0.take 1) = rd l0 0 := by
        cases l0 with
        | nil => simp at hl
        | cons x xs => simp [minOf, rd]
      rw [this]
    case round =>
      clear hx
      obtain ⟨k, hk1, hk, hgk, rfl, rfl, ⟨m1, rfl⟩⟩ := hrel
      by_cases hlt : k < l0.length
      · have hlti : (k : Int) < (l0.length : Int) := by omega
        obtain ⟨ad', e1, hx⟩ := Kd.at_int HR.out (k : Int) (by omega) hlti
        cases e1
        rw [Int.toNat_natCast] at hx
        have HS := Aside0.mk (minOf_snoc l0 k hk1 hlt)
        obtain ⟨y, hy⟩ : ∃ y, rd l0 (k : Int) = y := ⟨_, rfl⟩
        rw [hy] at hx HS
        clear hy
        obtain ⟨z, hz⟩ : ∃ z, minOf (l0.take k) = z := ⟨_, rfl⟩
        rw [hz] at HS ⊢
        clear hz
        go_wp2
        all_goals
          go_roundg (l0.length - (k + 1))
          case measure => omega
          case rel => exact ⟨k + 1, by omega, by omega, by omega, by go_num, by rw [HS.out]; unfold mn; first | rfl | (rw [if_pos (by omega)]) | (rw [if_neg (by omega)]), by repeat (first | exact Drawn0.refl _ | apply Drawn0.step)⟩
      · have : k = l0.length := by omega
        subst this
        have HT := Aside0.mk (List.take_length (l := l0))
        go_wp2
        go_ret
        exact ⟨ret_int64 (by rw [← H.out, HT.out]), by repeat (first | exact Drawn0.refl _ | apply Drawn0.step)⟩


/-! ### tick_First: function 27 -/
def tick_First.f (l0 : List Int) : Option (Int × Int) := (tick_all.f l0).bind fun t146 => (if t146 = true then (if (l0.length : Int) = 0 then (some (0, 4)) else ((slices_Min_int_int.f l0).bind fun t147 => (some (t147, 0)))) else (some (0, 1)))
set_option maxHeartbeats 8000000 in
set_option maxRecDepth 100000 in
theorem tick_First.calls (A0 : Option Addr) (c0 : Nat) (l0 : List Int) (r1 : Int) (r2 : Int) (w : World) (hr0 : Kd.C (Kd.int .i64) w A0 l0.length l0) (hc0 : l0.length ≤ c0) (h : tick_First.f l0 = some (r1, r2)) :
    Calls Try.prog 27 #[.slice A0 l0.length c0] w fun e w' => e = .returned (.tuple #[.int .i64 r1, .int .i64 r2]) ∧ Drawn0 w w' := by
  have HR0 := Aside0.mk hr0
  have HC0 := Aside0.mk hc0
  clear hr0 hc0
  have H : ((tick_all.f l0).bind fun t146 => (if t146 = true then (if (l0.length : Int) = 0 then (some (0, 4)) else ((slices_Min_int_int.f l0).bind fun t147 => (some (t147, 0)))) else (some (0, 1)))) = some (r1, r2) := h
  clear h
  replace H := Option.bind_eq_some_iff.mp H
  obtain ⟨t146, A20, H⟩ := H
  replace H : (if t146 = true then (if (l0.length : Int) = 0 then (some (0, 4)) else ((slices_Min_int_int.f l0).bind fun t147 => (some (t147, 0)))) else (some (0, 1))) = some (r1, r2) := H
  have A2 := Aside0.mk A20
  clear A20
  by_cases c3 : t146 = true
  · subst c3
    have H1 : (if (l0.length : Int) = 0 then (some (0, 4)) else ((slices_Min_int_int.f l0).bind fun t147 => (some (t147, 0)))) = some (r1, r2) := by rw [if_pos rfl] at H; exact H
    clear H
    have H := H1
    clear H1
    by_cases c4 : (l0.length : Int) = 0
    · rw [if_pos c4] at H
      have c4b0 : ((l0.length : Int) == 0) = true := beq_iff_eq.mpr c4
      have c4b1 : ((l0.length : Int) != 0) = false := bne_eq_false_iff_eq.mpr c4
      clear c4
      simp only [Option.some.injEq, Prod.mk.injEq] at H
      obtain ⟨rfl, rfl⟩ := H
      go_enter Try.func27, Try.ntmps27
      go_wp2_with (first | ((with_reducible refine gate_callee (f := 54) rfl ?_); refine goesL_ (some 6) rfl rfl Try.func54 (by kernel_rfl) rfl #[.slice A0 l0.length c0] rfl (by (try simp only [List.map_toArray, List.map_cons, List.map_nil]); first | done | rfl | (simp only [List.length_drop, List.length_take]; rfl)) ?_; (with_reducible refine (tick_all.calls _ _ l0 true _ ?side1 ?side2 A2.out).mono ?_); (case side1 => repeat (first | exact HR0.out | (with_reducible refine Kd.C_alloc ?_ _) | (with_reducible refine Kd.C_drewN ?_ _) | (with_reducible refine Kd.C_drew ?_))); (case side2 => exact HC0.out); rintro e w' ⟨rfl, ⟨nd, rfl⟩⟩; refine ⟨_, rfl, ?_⟩))
      go_ret2
      exact ⟨by first | rfl | (simp; done) | (simp [*]; done), by repeat (first | exact Drawn0.refl _ | apply Drawn0.step)⟩
    · rw [if_neg c4] at H
      have c4b0 : ((l0.length : Int) == 0) = false := beq_eq_false_iff_ne.mpr c4
      have c4b1 : ((l0.length : Int) != 0) = true := bne_iff_ne.mpr c4
      have c4b2 : ¬ (l0 = []) := fun h_ => c4 (by rw [h_]; rfl)
      replace H := Option.bind_eq_some_iff.mp H
      obtain ⟨t147, A50, H⟩ := H
      replace H : (some (t147, 0)) = some (r1, r2) := H
      have A5 := Aside0.mk A50
      clear A50
      simp only [Option.some.injEq, Prod.mk.injEq] at H
      obtain ⟨rfl, rfl⟩ := H
      go_enter Try.func27, Try.ntmps27
      go_wp2_with (first | ((with_reducible refine gate_callee (f := 54) rfl ?_); refine goesL_ (some 6) rfl rfl Try.func54 (by kernel_rfl) rfl #[.slice A0 l0.length c0] rfl (by (try simp only [List.map_toArray, List.map_cons, List.map_nil]); first | done | rfl | (simp only [List.length_drop, List.length_take]; rfl)) ?_; (with_reducible refine (tick_all.calls _ _ l0 true _ ?side1 ?side2 A2.out).mono ?_); (case side1 => repeat (first | exact HR0.out | (with_reducible refine Kd.C_alloc ?_ _) | (with_reducible refine Kd.C_drewN ?_ _) | (with_reducible refine Kd.C_drew ?_))); (case side2 => exact HC0.out); rintro e w' ⟨rfl, ⟨nd, rfl⟩⟩; refine ⟨_, rfl, ?_⟩) | ((with_reducible refine gate_callee (f := 56) rfl ?_); refine goesL_ (some 13) rfl rfl Try.func56 (by kernel_rfl) rfl #[.slice A0 l0.length c0] rfl (by (try simp only [List.map_toArray, List.map_cons, List.map_nil]); first | done | rfl | (simp only [List.length_drop, List.length_take]; rfl)) ?_; (with_reducible refine (slices_Min_int_int.calls _ _ l0 t147 _ ?side1 ?side2 A5.out).mono ?_); (case side1 => repeat (first | exact HR0.out | (with_reducible refine Kd.C_alloc ?_ _) | (with_reducible refine Kd.C_drewN ?_ _) | (with_reducible refine Kd.C_drew ?_))); (case side2 => exact HC0.out); rintro e w' ⟨rfl, ⟨nd, rfl⟩⟩; refine ⟨_, rfl, ?_⟩))
      go_ret2
      exact ⟨by first | rfl | (simp; done) | (simp [*]; done), by repeat (first | exact Drawn0.refl _ | apply Drawn0.step)⟩
  · replace c3 := Bool.eq_false_iff.mpr c3
    subst c3
    have H1 : (some (0, 1)) = some (r1, r2) := by rw [if_neg (show ¬ (false = true) by decide)] at H; exact H
    clear H
    have H := H1
    clear H1
    simp only [Option.some.injEq, Prod.mk.injEq] at H
    obtain ⟨rfl, rfl⟩ := H
    go_enter Try.func27, Try.ntmps27
    go_wp2_with (first | ((with_reducible refine gate_callee (f := 54) rfl ?_); refine goesL_ (some 6) rfl rfl Try.func54 (by kernel_rfl) rfl #[.slice A0 l0.length c0] rfl (by (try simp only [List.map_toArray, List.map_cons, List.map_nil]); first | done | rfl | (simp only [List.length_drop, List.length_take]; rfl)) ?_; (with_reducible refine (tick_all.calls _ _ l0 false _ ?side1 ?side2 A2.out).mono ?_); (case side1 => repeat (first | exact HR0.out | (with_reducible refine Kd.C_alloc ?_ _) | (with_reducible refine Kd.C_drewN ?_ _) | (with_reducible refine Kd.C_drew ?_))); (case side2 => exact HC0.out); rintro e w' ⟨rfl, ⟨nd, rfl⟩⟩; refine ⟨_, rfl, ?_⟩))
    go_ret2
    exact ⟨by first | rfl | (simp; done) | (simp [*]; done), by repeat (first | exact Drawn0.refl _ | apply Drawn0.step)⟩

end Go.Proofs.Ytkkopknlhijgiaa.G
