/- Contracts of functions of the given program, and what they come to, for any arguments. No condition beyond each theorem's own premises. -/
import Derived.Test.YtkphinfijppkeaaXDutyOrderM0
import Derived.Test.YtkphinfijppkeaaXDutyOrderM6
import Derived.Test.YtkphinfijppkeaaXDutyOrderM5
namespace Go.Proofs.Ytkphinfijppkeaa.G
open Go.RowKit Go.Proofs.YtkphinfijppkeaaW.PrintWords Go.Proofs.YtkphinfijppkeaaW.PrintLast Go.Proofs.YtkphinfijppkeaaW.PrintMore
attribute [local go_sem] max2_int min2_int max_two min_two max_three min_three max_four min_four
set_option linter.unusedVariables false
set_option linter.unusedSimpArgs false
attribute [local go_sem high] eqA92
def foghornref16_less.l0 : Nat → List (S92) → List (S92) → Int → Int → Option (Bool)
  | 0, _, _, _, _ => none
  | k + 1, x0, x1, x7, x8 => if x8 < x7 then (if x8 = (x1.length : Int) then (some false) else (if 0 ≤ x8 then (if x8 < (x0.length : Int) then (if x8 < (x1.length : Int) then (if (!((((rd_T92 x0 x8).f0).toList) == (((rd_T92 x1 x8).f0).toList)) || (!((((rd_T92 x0 x8).f1).toList) == (((rd_T92 x1 x8).f1).toList)))) = true then (if (Op.bytesLess (((rd_T92 x0 x8).f0).toList) (((rd_T92 x1 x8).f0).toList)) = true then (some true) else (if ((rd_T92 x0 x8).f0).toList = ((rd_T92 x1 x8).f0).toList then (some (Op.bytesLess (((rd_T92 x0 x8).f1).toList) (((rd_T92 x1 x8).f1).toList))) else (some false))) else (foghornref16_less.l0 k x0 x1 x7 (wrap64 (x8 + 1)))) else (none)) else (none)) else (none))) else (some (decide ((x0.length : Int) < (x1.length : Int))))
def foghornref16_less.f (k : Nat) (l0 : List (S92)) (l1 : List (S92)) : Option (Bool) := foghornref16_less.l0 k l0 l1 (l0.length : Int) 0
set_option maxHeartbeats 8000000 in
set_option maxRecDepth 100000 in
theorem foghornref16_less.calls (k : Nat) (A0 : Option Addr) (c0 : Nat) (l0 : List (S92)) (A1 : Option Addr) (c1 : Nat) (l1 : List (S92)) (r : Bool) (w : World) (hr0 : Kd.C k92 w A0 l0.length l0) (hc0 : l0.length ≤ c0) (hr1 : Kd.C k92 w A1 l1.length l1) (hc1 : l1.length ≤ c1) (h : foghornref16_less.f k l0 l1 = some r) :
    Calls Try.prog 90 #[.slice A0 l0.length c0, .slice A1 l1.length c1] w fun e w' => e = .returned (.bool r) ∧ Drawn0 w w' := by
  have hu92 := Try.underlying92
  have HR0 := Aside0.mk hr0
  have HC0 := Aside0.mk hc0
  clear hr0 hc0
  have HR1 := Aside0.mk hr1
  have HC1 := Aside0.mk hc1
  clear hr1 hc1
  have H : (foghornref16_less.l0 k l0 l1 (l0.length : Int) 0) = some r := h
  clear h
  have H' := Aside0.mk H
  clear H
  go_enter Try.func90, Try.ntmps90
  go_wp2
  repeat (go_quiet (fail); try go_wp2)
  go_loopg [8] k (fun kq v8 w' => ∃ (x8_1 : Int), v8 = .int .i64 x8_1 ∧ Aside0 (foghornref16_less.l0 kq l0 l1 (l0.length : Int) x8_1 = some r) ∧ Aside0 (kq ≤ k) ∧ Drawn0 w w')
  case atStart => exact ⟨(0), (by first | rfl | (simp; done) | (simp [*]; done)), H', ⟨Nat.le_refl _⟩, by repeat (first | exact Drawn0.refl _ | apply Drawn0.step)⟩
  case round =>
    clear H'
    try clear c1
    try clear p2
    obtain ⟨x8_1, rfl, HA, HK1, ⟨m1, rfl⟩⟩ := hrel
    cases gk with
    | zero => exact absurd HA.out (by simp [foghornref16_less.l0])
    | succ k1 =>
      have H := HA.out
      clear HA
      simp only [foghornref16_less.l0] at H
      by_cases c3 : x8_1 < (l0.length : Int)
      · rw [if_pos c3] at H
        have c3b0 : decide (x8_1 < (l0.length : Int)) = true := decide_eq_true c3
        clear c3
        by_cases c4 : x8_1 = (l1.length : Int)
        · rw [if_pos c4] at H
          have c4b0 : (x8_1 == (l1.length : Int)) = true := beq_iff_eq.mpr c4
          have c4b1 : (x8_1 != (l1.length : Int)) = false := bne_eq_false_iff_eq.mpr c4
          clear c4
          obtain rfl := Option.some.inj H
          go_wp2
          repeat (go_quiet (fail); try go_wp2)
          go_ret
          exact ⟨by first | rfl | (simp; done) | (simp [*]; done), by repeat (first | exact Drawn0.refl _ | apply Drawn0.step)⟩
        · rw [if_neg c4] at H
          have c4b0 : (x8_1 == (l1.length : Int)) = false := beq_eq_false_iff_ne.mpr c4
          have c4b1 : (x8_1 != (l1.length : Int)) = true := bne_iff_ne.mpr c4
          by_cases c5 : 0 ≤ x8_1
          · rw [if_pos c5] at H
            have c5b0 : decide (0 ≤ x8_1) = true := decide_eq_true c5
            clear c5
            by_cases c6 : x8_1 < (l0.length : Int)
            · rw [if_pos c6] at H
              have c6b0 : decide (x8_1 < (l0.length : Int)) = true := decide_eq_true c6
              clear c6
              by_cases c7 : x8_1 < (l1.length : Int)
              · rw [if_pos c7] at H
                have c7b0 : decide (x8_1 < (l1.length : Int)) = true := decide_eq_true c7
                clear c7
                by_cases c8 : (!((((rd_T92 l0 x8_1).f0).toList) == (((rd_T92 l1 x8_1).f0).toList)) || (!((((rd_T92 l0 x8_1).f1).toList) == (((rd_T92 l1 x8_1).f1).toList)))) = true
                · rw [if_pos c8] at H
                  have c8b0 : (!((((rd_T92 l0 x8_1).f0).toList) == (((rd_T92 l1 x8_1).f0).toList)) || (!((((rd_T92 l0 x8_1).f1).toList) == (((rd_T92 l1 x8_1).f1).toList)))) = true := c8
                  clear c8
                  by_cases c9 : (Op.bytesLess (((rd_T92 l0 x8_1).f0).toList) (((rd_T92 l1 x8_1).f0).toList)) = true
                  · rw [if_pos c9] at H
                    have c9b0 : (Op.bytesLess (((rd_T92 l0 x8_1).f0).toList) (((rd_T92 l1 x8_1).f0).toList)) = true := c9
                    clear c9
                    obtain rfl := Option.some.inj H
                    have p440 : 0 ≤ (x8_1 : Int) := of_decide_eq_true (by first | (with_reducible assumption) | assumption)
                    have q440 : x8_1 < (l0.length : Int) := of_decide_eq_true (by first | (with_reducible assumption) | assumption)
                    obtain ⟨ad440, e440, hx440_0, hx440_1⟩ := at_T92 HR0.out x8_1 p440 q440
                    cases e440
                    replace p440 := eq_true p440
                    replace q440 := eq_true q440
                    have p441 : 0 ≤ (x8_1 : Int) := of_decide_eq_true (by first | (with_reducible assumption) | assumption)
                    have q441 : x8_1 < (l1.length : Int) := of_decide_eq_true (by first | (with_reducible assumption) | assumption)
                    obtain ⟨ad441, e441, hx441_0, hx441_1⟩ := at_T92 HR1.out x8_1 p441 q441
                    cases e441
                    replace p441 := eq_true p441
                    replace q441 := eq_true q441
                    have p442 : 0 ≤ (x8_1 : Int) := of_decide_eq_true (by first | (with_reducible assumption) | assumption)
                    have q442 : x8_1 < (l0.length : Int) := of_decide_eq_true (by first | (with_reducible assumption) | assumption)
                    obtain ⟨ad442, e442, hx442_0, hx442_1⟩ := at_T92 HR0.out x8_1 p442 q442
                    obtain rfl : ad440 = ad442 := (by injection e442)
                    replace p442 := eq_true p442
                    replace q442 := eq_true q442
                    have p443 : 0 ≤ (x8_1 : Int) := of_decide_eq_true (by first | (with_reducible assumption) | assumption)
                    have q443 : x8_1 < (l1.length : Int) := of_decide_eq_true (by first | (with_reducible assumption) | assumption)
                    obtain ⟨ad443, e443, hx443_0, hx443_1⟩ := at_T92 HR1.out x8_1 p443 q443
                    obtain rfl : ad441 = ad443 := (by injection e443)
                    replace p443 := eq_true p443
                    replace q443 := eq_true q443
                    go_wp2
                    repeat (go_quiet (fail); try go_wp2)
                    go_ret
                    exact ⟨by first | rfl | (simp; done) | (simp [*]; done), by repeat (first | exact Drawn0.refl _ | apply Drawn0.step)⟩
                  · rw [if_neg c9] at H
                    have c9b0 : (Op.bytesLess (((rd_T92 l0 x8_1).f0).toList) (((rd_T92 l1 x8_1).f0).toList)) = false := by simpa using c9
                    clear c9
                    by_cases c10 : ((rd_T92 l0 x8_1).f0).toList = ((rd_T92 l1 x8_1).f0).toList
                    · rw [if_pos c10] at H
                      have c10b0 : (((rd_T92 l0 x8_1).f0).toList == ((rd_T92 l1 x8_1).f0).toList) = true := beq_iff_eq.mpr c10
                      have c10b1 : (((rd_T92 l0 x8_1).f0).toList != ((rd_T92 l1 x8_1).f0).toList) = false := bne_eq_false_iff_eq.mpr c10
                      have c8b1 : (((rd_T92 l0 x8_1).f1).toList == ((rd_T92 l1 x8_1).f1).toList) = false := by simpa [c10b0] using c8b0
                      clear c10
                      obtain rfl := Option.some.inj H
                      have p440 : 0 ≤ (x8_1 : Int) := of_decide_eq_true (by first | (with_reducible assumption) | assumption)
                      have q440 : x8_1 < (l0.length : Int) := of_decide_eq_true (by first | (with_reducible assumption) | assumption)
                      obtain ⟨ad440, e440, hx440_0, hx440_1⟩ := at_T92 HR0.out x8_1 p440 q440
                      cases e440
                      replace p440 := eq_true p440
                      replace q440 := eq_true q440
                      have p441 : 0 ≤ (x8_1 : Int) := of_decide_eq_true (by first | (with_reducible assumption) | assumption)
                      have q441 : x8_1 < (l1.length : Int) := of_decide_eq_true (by first | (with_reducible assumption) | assumption)
                      obtain ⟨ad441, e441, hx441_0, hx441_1⟩ := at_T92 HR1.out x8_1 p441 q441
                      cases e441
                      replace p441 := eq_true p441
                      replace q441 := eq_true q441
                      have p442 : 0 ≤ (x8_1 : Int) := of_decide_eq_true (by first | (with_reducible assumption) | assumption)
                      have q442 : x8_1 < (l0.length : Int) := of_decide_eq_true (by first | (with_reducible assumption) | assumption)
                      obtain ⟨ad442, e442, hx442_0, hx442_1⟩ := at_T92 HR0.out x8_1 p442 q442
                      obtain rfl : ad440 = ad442 := (by injection e442)
                      replace p442 := eq_true p442
                      replace q442 := eq_true q442
                      have p443 : 0 ≤ (x8_1 : Int) := of_decide_eq_true (by first | (with_reducible assumption) | assumption)
                      have q443 : x8_1 < (l1.length : Int) := of_decide_eq_true (by first | (with_reducible assumption) | assumption)
                      obtain ⟨ad443, e443, hx443_0, hx443_1⟩ := at_T92 HR1.out x8_1 p443 q443
                      obtain rfl : ad441 = ad443 := (by injection e443)
                      replace p443 := eq_true p443
                      replace q443 := eq_true q443
                      have p444 : 0 ≤ (x8_1 : Int) := of_decide_eq_true (by first | (with_reducible assumption) | assumption)
                      have q444 : x8_1 < (l0.length : Int) := of_decide_eq_true (by first | (with_reducible assumption) | assumption)
                      obtain ⟨ad444, e444, hx444_0, hx444_1⟩ := at_T92 HR0.out x8_1 p444 q444
                      obtain rfl : ad440 = ad444 := (by injection e444)
                      replace p444 := eq_true p444
                      replace q444 := eq_true q444
                      have p445 : 0 ≤ (x8_1 : Int) := of_decide_eq_true (by first | (with_reducible assumption) | assumption)
                      have q445 : x8_1 < (l1.length : Int) := of_decide_eq_true (by first | (with_reducible assumption) | assumption)
                      obtain ⟨ad445, e445, hx445_0, hx445_1⟩ := at_T92 HR1.out x8_1 p445 q445
                      obtain rfl : ad441 = ad445 := (by injection e445)
                      replace p445 := eq_true p445
                      replace q445 := eq_true q445
                      have p446 : 0 ≤ (x8_1 : Int) := of_decide_eq_true (by first | (with_reducible assumption) | assumption)
                      have q446 : x8_1 < (l0.length : Int) := of_decide_eq_true (by first | (with_reducible assumption) | assumption)
                      obtain ⟨ad446, e446, hx446_0, hx446_1⟩ := at_T92 HR0.out x8_1 p446 q446
                      obtain rfl : ad440 = ad446 := (by injection e446)
                      replace p446 := eq_true p446
                      replace q446 := eq_true q446
                      have p447 : 0 ≤ (x8_1 : Int) := of_decide_eq_true (by first | (with_reducible assumption) | assumption)
                      have q447 : x8_1 < (l1.length : Int) := of_decide_eq_true (by first | (with_reducible assumption) | assumption)
                      obtain ⟨ad447, e447, hx447_0, hx447_1⟩ := at_T92 HR1.out x8_1 p447 q447
                      obtain rfl : ad441 = ad447 := (by injection e447)
                      replace p447 := eq_true p447
                      replace q447 := eq_true q447
                      go_wp2
                      repeat (go_quiet (fail); try go_wp2)
                      go_ret
                      exact ⟨by first | rfl | (simp; done) | (simp [*]; done), by repeat (first | exact Drawn0.refl _ | apply Drawn0.step)⟩
                    · rw [if_neg c10] at H
                      have c10b0 : (((rd_T92 l0 x8_1).f0).toList == ((rd_T92 l1 x8_1).f0).toList) = false := beq_eq_false_iff_ne.mpr c10
                      have c10b1 : (((rd_T92 l0 x8_1).f0).toList != ((rd_T92 l1 x8_1).f0).toList) = true := bne_iff_ne.mpr c10
                      obtain rfl := Option.some.inj H
                      have p440 : 0 ≤ (x8_1 : Int) := of_decide_eq_true (by first | (with_reducible assumption) | assumption)
                      have q440 : x8_1 < (l0.length : Int) := of_decide_eq_true (by first | (with_reducible assumption) | assumption)
                      obtain ⟨ad440, e440, hx440_0, hx440_1⟩ := at_T92 HR0.out x8_1 p440 q440
                      cases e440
                      replace p440 := eq_true p440
                      replace q440 := eq_true q440
                      have p441 : 0 ≤ (x8_1 : Int) := of_decide_eq_true (by first | (with_reducible assumption) | assumption)
                      have q441 : x8_1 < (l1.length : Int) := of_decide_eq_true (by first | (with_reducible assumption) | assumption)
                      obtain ⟨ad441, e441, hx441_0, hx441_1⟩ := at_T92 HR1.out x8_1 p441 q441
                      cases e441
                      replace p441 := eq_true p441
                      replace q441 := eq_true q441
                      have p442 : 0 ≤ (x8_1 : Int) := of_decide_eq_true (by first | (with_reducible assumption) | assumption)
                      have q442 : x8_1 < (l0.length : Int) := of_decide_eq_true (by first | (with_reducible assumption) | assumption)
                      obtain ⟨ad442, e442, hx442_0, hx442_1⟩ := at_T92 HR0.out x8_1 p442 q442
                      obtain rfl : ad440 = ad442 := (by injection e442)
                      replace p442 := eq_true p442
                      replace q442 := eq_true q442
                      have p443 : 0 ≤ (x8_1 : Int) := of_decide_eq_true (by first | (with_reducible assumption) | assumption)
                      have q443 : x8_1 < (l1.length : Int) := of_decide_eq_true (by first | (with_reducible assumption) | assumption)
                      obtain ⟨ad443, e443, hx443_0, hx443_1⟩ := at_T92 HR1.out x8_1 p443 q443
                      obtain rfl : ad441 = ad443 := (by injection e443)
                      replace p443 := eq_true p443
                      replace q443 := eq_true q443
                      have p444 : 0 ≤ (x8_1 : Int) := of_decide_eq_true (by first | (with_reducible assumption) | assumption)
                      have q444 : x8_1 < (l0.length : Int) := of_decide_eq_true (by first | (with_reducible assumption) | assumption)
                      obtain ⟨ad444, e444, hx444_0, hx444_1⟩ := at_T92 HR0.out x8_1 p444 q444
                      obtain rfl : ad440 = ad444 := (by injection e444)
                      replace p444 := eq_true p444
                      replace q444 := eq_true q444
                      have p445 : 0 ≤ (x8_1 : Int) := of_decide_eq_true (by first | (with_reducible assumption) | assumption)
                      have q445 : x8_1 < (l1.length : Int) := of_decide_eq_true (by first | (with_reducible assumption) | assumption)
                      obtain ⟨ad445, e445, hx445_0, hx445_1⟩ := at_T92 HR1.out x8_1 p445 q445
                      obtain rfl : ad441 = ad445 := (by injection e445)
                      replace p445 := eq_true p445
                      replace q445 := eq_true q445
                      go_wp2
                      repeat (go_quiet (fail); try go_wp2)
                      go_ret
                      exact ⟨by first | rfl | (simp; done) | (simp [*]; done), by repeat (first | exact Drawn0.refl _ | apply Drawn0.step)⟩
                · rw [if_neg c8] at H
                  have c8b0 : (!((((rd_T92 l0 x8_1).f0).toList) == (((rd_T92 l1 x8_1).f0).toList)) || (!((((rd_T92 l0 x8_1).f1).toList) == (((rd_T92 l1 x8_1).f1).toList)))) = false := by simpa using c8
                  clear c8
                  have H' := Aside0.mk H
                  clear H
                  have p440 : 0 ≤ (x8_1 : Int) := of_decide_eq_true (by first | (with_reducible assumption) | assumption)
                  have q440 : x8_1 < (l0.length : Int) := of_decide_eq_true (by first | (with_reducible assumption) | assumption)
                  obtain ⟨ad440, e440, hx440_0, hx440_1⟩ := at_T92 HR0.out x8_1 p440 q440
                  cases e440
                  replace p440 := eq_true p440
                  replace q440 := eq_true q440
                  have p441 : 0 ≤ (x8_1 : Int) := of_decide_eq_true (by first | (with_reducible assumption) | assumption)
                  have q441 : x8_1 < (l1.length : Int) := of_decide_eq_true (by first | (with_reducible assumption) | assumption)
                  obtain ⟨ad441, e441, hx441_0, hx441_1⟩ := at_T92 HR1.out x8_1 p441 q441
                  cases e441
                  replace p441 := eq_true p441
                  replace q441 := eq_true q441
                  go_wp2
                  repeat (go_quiet (fail); try go_wp2)
                  go_roundg k1
                  case measure => have := HK1.out; omega
                  case rel => exact ⟨(wrap64 (x8_1 + 1)), (by first | rfl | (simp; done) | (simp [*]; done)), H', ⟨by have := HK1.out; omega⟩, by repeat (first | exact Drawn0.refl _ | apply Drawn0.step)⟩
              · rw [if_neg c7] at H
                exact absurd H (by simp)
            · rw [if_neg c6] at H
              exact absurd H (by simp)
          · rw [if_neg c5] at H
            exact absurd H (by simp)
      · rw [if_neg c3] at H
        have c3b0 : decide (x8_1 < (l0.length : Int)) = false := decide_eq_false c3
        clear c3
        obtain rfl := Option.some.inj H
        go_wp2
        repeat (go_quiet (fail); try go_wp2)
        go_ret
        exact ⟨by first | rfl | (simp; done) | (simp [*]; done), by repeat (first | exact Drawn0.refl _ | apply Drawn0.step)⟩
def foghornref16_Ahead.f (k : Nat) (l0_0 : List (S92)) (a0_1 : Int) (a0_2 : Int) (a0_3 : Int) (a0_4 : Int) (a0_5 : Int) (l1_0 : List (S92)) (a1_1 : Int) (a1_2 : Int) (a1_3 : Int) (a1_4 : Int) (a1_5 : Int) : Option (Bool) := if a0_4 < a1_4 then (some true) else (if a0_4 = a1_4 then ((foghornref16_less.f k l0_0 l1_0).bind fun t450 => (some t450)) else (some false))
set_option maxHeartbeats 8000000 in
set_option maxRecDepth 100000 in
theorem foghornref16_Ahead.calls (k : Nat) (A0_0 : Option Addr) (c0_0 : Nat) (l0_0 : List (S92)) (a0_1 : Int) (a0_2 : Int) (a0_3 : Int) (a0_4 : Int) (a0_5 : Int) (A1_0 : Option Addr) (c1_0 : Nat) (l1_0 : List (S92)) (a1_1 : Int) (a1_2 : Int) (a1_3 : Int) (a1_4 : Int) (a1_5 : Int) (r : Bool) (w : World) (hr0_0 : Kd.C k92 w A0_0 l0_0.length l0_0) (hc0_0 : l0_0.length ≤ c0_0) (hr1_0 : Kd.C k92 w A1_0 l1_0.length l1_0) (hc1_0 : l1_0.length ≤ c1_0) (h : foghornref16_Ahead.f k l0_0 a0_1 a0_2 a0_3 a0_4 a0_5 l1_0 a1_1 a1_2 a1_3 a1_4 a1_5 = some r) :
    Calls Try.prog 53 #[.agg #[.slice A0_0 l0_0.length c0_0, .int .i64 a0_1, .int .i64 a0_2, .int .i64 a0_3, .int .i64 a0_4, .int .i64 a0_5], .agg #[.slice A1_0 l1_0.length c1_0, .int .i64 a1_1, .int .i64 a1_2, .int .i64 a1_3, .int .i64 a1_4, .int .i64 a1_5]] w fun e w' => e = .returned (.bool r) ∧ Below w.heap.size w w' := by
  have hu69 := Try.underlying69
  have HR0_0 := Aside0.mk hr0_0
  have HC0_0 := Aside0.mk hc0_0
  clear hr0_0 hc0_0
  have HR1_0 := Aside0.mk hr1_0
  have HC1_0 := Aside0.mk hc1_0
  clear hr1_0 hc1_0
  have HB := Aside0.mk (Below.refl w.heap.size w)
  have H : (if a0_4 < a1_4 then (some true) else (if a0_4 = a1_4 then ((foghornref16_less.f k l0_0 l1_0).bind fun t450 => (some t450)) else (some false))) = some r := h
  clear h
  by_cases c3 : a0_4 < a1_4
  · rw [if_pos c3] at H
    have c3b0 : decide (a0_4 < a1_4) = true := decide_eq_true c3
    clear c3
    obtain rfl := Option.some.inj H
    go_enter Try.func53, Try.ntmps53
    go_wp2_with (first | ((with_reducible refine gate_dst (N := 2) rfl ?_); refine box_event ?hg (N := 2) ?hd (cs := #[.slice A0_0 l0_0.length c0_0, .int .i64 a0_1, .int .i64 a0_2, .int .i64 a0_3, .int .i64 a0_4, .int .i64 a0_5]) (t := 69) ?hr ?_; (case hd => rfl); (case hg => rfl); (case hr => first | (go_simp; done) | (go_simp; rfl)); intro gb448 hg w4 hbox hb; have n0_ := Aside0.mk (below_step (by repeat (first | (with_reducible first | exact HB.out | apply below_alloc | apply pw_below_drewN | apply below_drew1) | exact HB.out)) hb); have n1_ := Aside0.mk (hbox); have n2_ := Aside0.mk ((by rw [hg]; exact (below_size (by repeat (first | (with_reducible first | exact HB.out | apply below_alloc | apply pw_below_drewN | apply below_drew1) | exact HB.out))) : w.heap.size ≤ gb448)); have n3_ := Aside0.mk ((by rw [hg]; exact (below_size (by repeat (first | (with_reducible first | exact HB.out | apply below_alloc | apply pw_below_drewN | apply below_drew1) | exact HB.out))) : w.heap.size ≤ gb448)); clear HB; have HB := n0_; have BK448 := n1_; have GW448 := n2_; have GE448 := n3_; clear n0_ n1_ n2_ n3_; clear hb hbox hg) | ((with_reducible refine gate_dst (N := 3) rfl ?_); refine box_event ?hg (N := 3) ?hd (cs := #[.slice A1_0 l1_0.length c1_0, .int .i64 a1_1, .int .i64 a1_2, .int .i64 a1_3, .int .i64 a1_4, .int .i64 a1_5]) (t := 69) ?hr ?_; (case hd => rfl); (case hg => rfl); (case hr => first | (go_simp; done) | (go_simp; rfl)); intro gb449 hg w5 hbox hb; have n0_ := Aside0.mk (blk_below (g := gb448) (o := .cells #[.slice A0_0 l0_0.length c0_0, .int .i64 a0_1, .int .i64 a0_2, .int .i64 a0_3, .int .i64 a0_4, .int .i64 a0_5] 69 (0, 0)) (by (with_reducible repeat (first | refine blk_drewN ?_ _ | refine blk_drew ?_ | refine blk_alloc ?_ _)); exact BK448.out) hb); have n1_ := Aside0.mk (below_step (by repeat (first | (with_reducible first | exact HB.out | apply below_alloc | apply pw_below_drewN | apply below_drew1 | refine below_set ?_ GE448.out) | exact HB.out)) hb); have n2_ := Aside0.mk (hbox); have n3_ := Aside0.mk ((by rw [hg]; exact (below_size (by repeat (first | (with_reducible first | exact HB.out | apply below_alloc | apply pw_below_drewN | apply below_drew1 | refine below_set ?_ GE448.out) | exact HB.out))) : w.heap.size ≤ gb449)); have n4_ := Aside0.mk ((by rw [hg]; exact (below_size (by repeat (first | (with_reducible first | exact HB.out | apply below_alloc | apply pw_below_drewN | apply below_drew1 | refine below_set ?_ GE448.out) | exact HB.out))) : w.heap.size ≤ gb449)); have n5_ := Aside0.mk ((by rw [hg]; exact Nat.ne_of_lt (blk_lt (g := gb448) (o := .cells #[.slice A0_0 l0_0.length c0_0, .int .i64 a0_1, .int .i64 a0_2, .int .i64 a0_3, .int .i64 a0_4, .int .i64 a0_5] 69 (0, 0)) (by (with_reducible repeat (first | refine blk_drewN ?_ _ | refine blk_drew ?_ | refine blk_alloc ?_ _)); exact BK448.out)) : gb448 ≠ gb449)); have n6_ := Aside0.mk ((by rw [hg]; exact Nat.ne_of_gt (blk_lt (g := gb448) (o := .cells #[.slice A0_0 l0_0.length c0_0, .int .i64 a0_1, .int .i64 a0_2, .int .i64 a0_3, .int .i64 a0_4, .int .i64 a0_5] 69 (0, 0)) (by (with_reducible repeat (first | refine blk_drewN ?_ _ | refine blk_drew ?_ | refine blk_alloc ?_ _)); exact BK448.out)) : gb449 ≠ gb448)); clear BK448; clear HB; have BK448 := n0_; have HB := n1_; have BK449 := n2_; have GW449 := n3_; have GE449 := n4_; have NB448_449 := n5_; have NB449_448 := n6_; clear n0_ n1_ n2_ n3_ n4_ n5_ n6_; clear hb hbox hg; have hnb6 := NB448_449.out; have hnc6 := NB449_448.out; have hcz7_0 : w5.cell? ⟨gb448, 0, none⟩ = some (.slice A0_0 l0_0.length c0_0) := (blk_cell BK448.out 0).trans rfl; have hcz7_1 : w5.cell? ⟨gb448, 1, none⟩ = some (.int .i64 a0_1) := (blk_cell BK448.out 1).trans rfl; have hcz7_2 : w5.cell? ⟨gb448, 2, none⟩ = some (.int .i64 a0_2) := (blk_cell BK448.out 2).trans rfl; have hcz7_3 : w5.cell? ⟨gb448, 3, none⟩ = some (.int .i64 a0_3) := (blk_cell BK448.out 3).trans rfl; have hcz7_4 : w5.cell? ⟨gb448, 4, none⟩ = some (.int .i64 a0_4) := (blk_cell BK448.out 4).trans rfl; have hcz7_5 : w5.cell? ⟨gb448, 5, none⟩ = some (.int .i64 a0_5) := (blk_cell BK448.out 5).trans rfl; have hfz7_0 := blk_frozen BK448.out 0; have hfz7_1 := blk_frozen BK448.out 1; have hfz7_2 := blk_frozen BK448.out 2; have hfz7_3 := blk_frozen BK448.out 3; have hfz7_4 := blk_frozen BK448.out 4; have hfz7_5 := blk_frozen BK448.out 5; have hcz8_0 : w5.cell? ⟨gb449, 0, none⟩ = some (.slice A1_0 l1_0.length c1_0) := (blk_cell BK449.out 0).trans rfl; have hcz8_1 : w5.cell? ⟨gb449, 1, none⟩ = some (.int .i64 a1_1) := (blk_cell BK449.out 1).trans rfl; have hcz8_2 : w5.cell? ⟨gb449, 2, none⟩ = some (.int .i64 a1_2) := (blk_cell BK449.out 2).trans rfl; have hcz8_3 : w5.cell? ⟨gb449, 3, none⟩ = some (.int .i64 a1_3) := (blk_cell BK449.out 3).trans rfl; have hcz8_4 : w5.cell? ⟨gb449, 4, none⟩ = some (.int .i64 a1_4) := (blk_cell BK449.out 4).trans rfl; have hcz8_5 : w5.cell? ⟨gb449, 5, none⟩ = some (.int .i64 a1_5) := (blk_cell BK449.out 5).trans rfl; have hfz8_0 := blk_frozen BK449.out 0; have hfz8_1 := blk_frozen BK449.out 1; have hfz8_2 := blk_frozen BK449.out 2; have hfz8_3 := blk_frozen BK449.out 3; have hfz8_4 := blk_frozen BK449.out 4; have hfz8_5 := blk_frozen BK449.out 5))
    go_ret
    exact ⟨by first | rfl | (simp [errW_none, errW_some] <;> rfl) | (simp [*, errW_none, errW_some] <;> rfl), by repeat (first | (with_reducible first | exact HB.out | apply below_alloc | apply pw_below_drewN | apply below_drew1 | refine below_set ?_ GE448.out | refine below_set ?_ GE449.out) | exact HB.out)⟩
  · rw [if_neg c3] at H
    have c3b0 : decide (a0_4 < a1_4) = false := decide_eq_false c3
    clear c3
    by_cases c9 : a0_4 = a1_4
    · rw [if_pos c9] at H
      have c9b0 : (a0_4 == a1_4) = true := beq_iff_eq.mpr c9
      have c9b1 : (a0_4 != a1_4) = false := bne_eq_false_iff_eq.mpr c9
      clear c9
      replace H := Option.bind_eq_some_iff.mp H
      obtain ⟨t450, A100, H⟩ := H
      replace H : (some t450) = some r := H
      have A10 := Aside0.mk A100
      clear A100
      obtain rfl := Option.some.inj H
      go_enter Try.func53, Try.ntmps53
      go_wp2_with (first | ((with_reducible refine gate_dst (N := 2) rfl ?_); refine box_event ?hg (N := 2) ?hd (cs := #[.slice A0_0 l0_0.length c0_0, .int .i64 a0_1, .int .i64 a0_2, .int .i64 a0_3, .int .i64 a0_4, .int .i64 a0_5]) (t := 69) ?hr ?_; (case hd => rfl); (case hg => rfl); (case hr => first | (go_simp; done) | (go_simp; rfl)); intro gb448 hg w11 hbox hb; have n0_ := Aside0.mk (below_step (by repeat (first | (with_reducible first | exact HB.out | apply below_alloc | apply pw_below_drewN | apply below_drew1) | exact HB.out)) hb); have n1_ := Aside0.mk (hbox); have n2_ := Aside0.mk ((by rw [hg]; exact (below_size (by repeat (first | (with_reducible first | exact HB.out | apply below_alloc | apply pw_below_drewN | apply below_drew1) | exact HB.out))) : w.heap.size ≤ gb448)); have n3_ := Aside0.mk ((by rw [hg]; exact (below_size (by repeat (first | (with_reducible first | exact HB.out | apply below_alloc | apply pw_below_drewN | apply below_drew1) | exact HB.out))) : w.heap.size ≤ gb448)); clear HB; have HB := n0_; have BK448 := n1_; have GW448 := n2_; have GE448 := n3_; clear n0_ n1_ n2_ n3_; clear hb hbox hg) | ((with_reducible refine gate_dst (N := 3) rfl ?_); refine box_event ?hg (N := 3) ?hd (cs := #[.slice A1_0 l1_0.length c1_0, .int .i64 a1_1, .int .i64 a1_2, .int .i64 a1_3, .int .i64 a1_4, .int .i64 a1_5]) (t := 69) ?hr ?_; (case hd => rfl); (case hg => rfl); (case hr => first | (go_simp; done) | (go_simp; rfl)); intro gb449 hg w12 hbox hb; have n0_ := Aside0.mk (blk_below (g := gb448) (o := .cells #[.slice A0_0 l0_0.length c0_0, .int .i64 a0_1, .int .i64 a0_2, .int .i64 a0_3, .int .i64 a0_4, .int .i64 a0_5] 69 (0, 0)) (by (with_reducible repeat (first | refine blk_drewN ?_ _ | refine blk_drew ?_ | refine blk_alloc ?_ _)); exact BK448.out) hb); have n1_ := Aside0.mk (below_step (by repeat (first | (with_reducible first | exact HB.out | apply below_alloc | apply pw_below_drewN | apply below_drew1 | refine below_set ?_ GE448.out) | exact HB.out)) hb); have n2_ := Aside0.mk (hbox); have n3_ := Aside0.mk ((by rw [hg]; exact (below_size (by repeat (first | (with_reducible first | exact HB.out | apply below_alloc | apply pw_below_drewN | apply below_drew1 | refine below_set ?_ GE448.out) | exact HB.out))) : w.heap.size ≤ gb449)); have n4_ := Aside0.mk ((by rw [hg]; exact (below_size (by repeat (first | (with_reducible first | exact HB.out | apply below_alloc | apply pw_below_drewN | apply below_drew1 | refine below_set ?_ GE448.out) | exact HB.out))) : w.heap.size ≤ gb449)); have n5_ := Aside0.mk ((by rw [hg]; exact Nat.ne_of_lt (blk_lt (g := gb448) (o := .cells #[.slice A0_0 l0_0.length c0_0, .int .i64 a0_1, .int .i64 a0_2, .int .i64 a0_3, .int .i64 a0_4, .int .i64 a0_5] 69 (0, 0)) (by (with_reducible repeat (first | refine blk_drewN ?_ _ | refine blk_drew ?_ | refine blk_alloc ?_ _)); exact BK448.out)) : gb448 ≠ gb449)); have n6_ := Aside0.mk ((by rw [hg]; exact Nat.ne_of_gt (blk_lt (g := gb448) (o := .cells #[.slice A0_0 l0_0.length c0_0, .int .i64 a0_1, .int .i64 a0_2, .int .i64 a0_3, .int .i64 a0_4, .int .i64 a0_5] 69 (0, 0)) (by (with_reducible repeat (first | refine blk_drewN ?_ _ | refine blk_drew ?_ | refine blk_alloc ?_ _)); exact BK448.out)) : gb449 ≠ gb448)); clear BK448; clear HB; have BK448 := n0_; have HB := n1_; have BK449 := n2_; have GW449 := n3_; have GE449 := n4_; have NB448_449 := n5_; have NB449_448 := n6_; clear n0_ n1_ n2_ n3_ n4_ n5_ n6_; clear hb hbox hg; have hnb13 := NB448_449.out; have hnc13 := NB449_448.out; have hcz14_0 : w12.cell? ⟨gb448, 0, none⟩ = some (.slice A0_0 l0_0.length c0_0) := (blk_cell BK448.out 0).trans rfl; have hcz14_1 : w12.cell? ⟨gb448, 1, none⟩ = some (.int .i64 a0_1) := (blk_cell BK448.out 1).trans rfl; have hcz14_2 : w12.cell? ⟨gb448, 2, none⟩ = some (.int .i64 a0_2) := (blk_cell BK448.out 2).trans rfl; have hcz14_3 : w12.cell? ⟨gb448, 3, none⟩ = some (.int .i64 a0_3) := (blk_cell BK448.out 3).trans rfl; have hcz14_4 : w12.cell? ⟨gb448, 4, none⟩ = some (.int .i64 a0_4) := (blk_cell BK448.out 4).trans rfl; have hcz14_5 : w12.cell? ⟨gb448, 5, none⟩ = some (.int .i64 a0_5) := (blk_cell BK448.out 5).trans rfl; have hfz14_0 := blk_frozen BK448.out 0; have hfz14_1 := blk_frozen BK448.out 1; have hfz14_2 := blk_frozen BK448.out 2; have hfz14_3 := blk_frozen BK448.out 3; have hfz14_4 := blk_frozen BK448.out 4; have hfz14_5 := blk_frozen BK448.out 5; have hcz15_0 : w12.cell? ⟨gb449, 0, none⟩ = some (.slice A1_0 l1_0.length c1_0) := (blk_cell BK449.out 0).trans rfl; have hcz15_1 : w12.cell? ⟨gb449, 1, none⟩ = some (.int .i64 a1_1) := (blk_cell BK449.out 1).trans rfl; have hcz15_2 : w12.cell? ⟨gb449, 2, none⟩ = some (.int .i64 a1_2) := (blk_cell BK449.out 2).trans rfl; have hcz15_3 : w12.cell? ⟨gb449, 3, none⟩ = some (.int .i64 a1_3) := (blk_cell BK449.out 3).trans rfl; have hcz15_4 : w12.cell? ⟨gb449, 4, none⟩ = some (.int .i64 a1_4) := (blk_cell BK449.out 4).trans rfl; have hcz15_5 : w12.cell? ⟨gb449, 5, none⟩ = some (.int .i64 a1_5) := (blk_cell BK449.out 5).trans rfl; have hfz15_0 := blk_frozen BK449.out 0; have hfz15_1 := blk_frozen BK449.out 1; have hfz15_2 := blk_frozen BK449.out 2; have hfz15_3 := blk_frozen BK449.out 3; have hfz15_4 := blk_frozen BK449.out 4; have hfz15_5 := blk_frozen BK449.out 5) | (go_at_call 90; (with_reducible refine (foghornref16_less.calls k _ _ l0_0 _ _ l1_0 t450 _ ?side1 ?side2 ?side3 ?side4 A10.out).mono ?_); (case side1 => repeat (first | exact (Kd.C_below HR0_0.out HB.out) | (with_reducible refine Kd.C_alloc ?_ _) | (with_reducible refine Kd.C_drewN ?_ _) | (with_reducible refine Kd.C_drew ?_))); (case side2 => exact HC0_0.out); (case side3 => repeat (first | exact (Kd.C_below HR1_0.out HB.out) | (with_reducible refine Kd.C_alloc ?_ _) | (with_reducible refine Kd.C_drewN ?_ _) | (with_reducible refine Kd.C_drew ?_))); (case side4 => exact HC1_0.out); rintro e w' ⟨rfl, ⟨nd, rfl⟩⟩))
      go_ret
      exact ⟨by first | rfl | (simp [errW_none, errW_some] <;> rfl) | (simp [*, errW_none, errW_some] <;> rfl), by repeat (first | (with_reducible first | exact HB.out | apply below_alloc | apply pw_below_drewN | apply below_drew1 | refine below_set ?_ GE448.out | refine below_set ?_ GE449.out) | exact HB.out)⟩
    · rw [if_neg c9] at H
      have c9b0 : (a0_4 == a1_4) = false := beq_eq_false_iff_ne.mpr c9
      have c9b1 : (a0_4 != a1_4) = true := bne_iff_ne.mpr c9
      obtain rfl := Option.some.inj H
      go_enter Try.func53, Try.ntmps53
      go_wp2_with (first | ((with_reducible refine gate_dst (N := 2) rfl ?_); refine box_event ?hg (N := 2) ?hd (cs := #[.slice A0_0 l0_0.length c0_0, .int .i64 a0_1, .int .i64 a0_2, .int .i64 a0_3, .int .i64 a0_4, .int .i64 a0_5]) (t := 69) ?hr ?_; (case hd => rfl); (case hg => rfl); (case hr => first | (go_simp; done) | (go_simp; rfl)); intro gb448 hg w16 hbox hb; have n0_ := Aside0.mk (below_step (by repeat (first | (with_reducible first | exact HB.out | apply below_alloc | apply pw_below_drewN | apply below_drew1) | exact HB.out)) hb); have n1_ := Aside0.mk (hbox); have n2_ := Aside0.mk ((by rw [hg]; exact (below_size (by repeat (first | (with_reducible first | exact HB.out | apply below_alloc | apply pw_below_drewN | apply below_drew1) | exact HB.out))) : w.heap.size ≤ gb448)); have n3_ := Aside0.mk ((by rw [hg]; exact (below_size (by repeat (first | (with_reducible first | exact HB.out | apply below_alloc | apply pw_below_drewN | apply below_drew1) | exact HB.out))) : w.heap.size ≤ gb448)); clear HB; have HB := n0_; have BK448 := n1_; have GW448 := n2_; have GE448 := n3_; clear n0_ n1_ n2_ n3_; clear hb hbox hg) | ((with_reducible refine gate_dst (N := 3) rfl ?_); refine box_event ?hg (N := 3) ?hd (cs := #[.slice A1_0 l1_0.length c1_0, .int .i64 a1_1, .int .i64 a1_2, .int .i64 a1_3, .int .i64 a1_4, .int .i64 a1_5]) (t := 69) ?hr ?_; (case hd => rfl); (case hg => rfl); (case hr => first | (go_simp; done) | (go_simp; rfl)); intro gb449 hg w17 hbox hb; have n0_ := Aside0.mk (blk_below (g := gb448) (o := .cells #[.slice A0_0 l0_0.length c0_0, .int .i64 a0_1, .int .i64 a0_2, .int .i64 a0_3, .int .i64 a0_4, .int .i64 a0_5] 69 (0, 0)) (by (with_reducible repeat (first | refine blk_drewN ?_ _ | refine blk_drew ?_ | refine blk_alloc ?_ _)); exact BK448.out) hb); have n1_ := Aside0.mk (below_step (by repeat (first | (with_reducible first | exact HB.out | apply below_alloc | apply pw_below_drewN | apply below_drew1 | refine below_set ?_ GE448.out) | exact HB.out)) hb); have n2_ := Aside0.mk (hbox); have n3_ := Aside0.mk ((by rw [hg]; exact (below_size (by repeat (first | (with_reducible first | exact HB.out | apply below_alloc | apply pw_below_drewN | apply below_drew1 | refine below_set ?_ GE448.out) | exact HB.out))) : w.heap.size ≤ gb449)); have n4_ := Aside0.mk ((by rw [hg]; exact (below_size (by repeat (first | (with_reducible first | exact HB.out | apply below_alloc | apply pw_below_drewN | apply below_drew1 | refine below_set ?_ GE448.out) | exact HB.out))) : w.heap.size ≤ gb449)); have n5_ := Aside0.mk ((by rw [hg]; exact Nat.ne_of_lt (blk_lt (g := gb448) (o := .cells #[.slice A0_0 l0_0.length c0_0, .int .i64 a0_1, .int .i64 a0_2, .int .i64 a0_3, .int .i64 a0_4, .int .i64 a0_5] 69 (0, 0)) (by (with_reducible repeat (first | refine blk_drewN ?_ _ | refine blk_drew ?_ | refine blk_alloc ?_ _)); exact BK448.out)) : gb448 ≠ gb449)); have n6_ := Aside0.mk ((by rw [hg]; exact Nat.ne_of_gt (blk_lt (g := gb448) (o := .cells #[.slice A0_0 l0_0.length c0_0, .int .i64 a0_1, .int .i64 a0_2, .int .i64 a0_3, .int .i64 a0_4, .int .i64 a0_5] 69 (0, 0)) (by (with_reducible repeat (first | refine blk_drewN ?_ _ | refine blk_drew ?_ | refine blk_alloc ?_ _)); exact BK448.out)) : gb449 ≠ gb448)); clear BK448; clear HB; have BK448 := n0_; have HB := n1_; have BK449 := n2_; have GW449 := n3_; have GE449 := n4_; have NB448_449 := n5_; have NB449_448 := n6_; clear n0_ n1_ n2_ n3_ n4_ n5_ n6_; clear hb hbox hg; have hnb18 := NB448_449.out; have hnc18 := NB449_448.out; have hcz19_0 : w17.cell? ⟨gb448, 0, none⟩ = some (.slice A0_0 l0_0.length c0_0) := (blk_cell BK448.out 0).trans rfl; have hcz19_1 : w17.cell? ⟨gb448, 1, none⟩ = some (.int .i64 a0_1) := (blk_cell BK448.out 1).trans rfl; have hcz19_2 : w17.cell? ⟨gb448, 2, none⟩ = some (.int .i64 a0_2) := (blk_cell BK448.out 2).trans rfl; have hcz19_3 : w17.cell? ⟨gb448, 3, none⟩ = some (.int .i64 a0_3) := (blk_cell BK448.out 3).trans rfl; have hcz19_4 : w17.cell? ⟨gb448, 4, none⟩ = some (.int .i64 a0_4) := (blk_cell BK448.out 4).trans rfl; have hcz19_5 : w17.cell? ⟨gb448, 5, none⟩ = some (.int .i64 a0_5) := (blk_cell BK448.out 5).trans rfl; have hfz19_0 := blk_frozen BK448.out 0; have hfz19_1 := blk_frozen BK448.out 1; have hfz19_2 := blk_frozen BK448.out 2; have hfz19_3 := blk_frozen BK448.out 3; have hfz19_4 := blk_frozen BK448.out 4; have hfz19_5 := blk_frozen BK448.out 5; have hcz20_0 : w17.cell? ⟨gb449, 0, none⟩ = some (.slice A1_0 l1_0.length c1_0) := (blk_cell BK449.out 0).trans rfl; have hcz20_1 : w17.cell? ⟨gb449, 1, none⟩ = some (.int .i64 a1_1) := (blk_cell BK449.out 1).trans rfl; have hcz20_2 : w17.cell? ⟨gb449, 2, none⟩ = some (.int .i64 a1_2) := (blk_cell BK449.out 2).trans rfl; have hcz20_3 : w17.cell? ⟨gb449, 3, none⟩ = some (.int .i64 a1_3) := (blk_cell BK449.out 3).trans rfl; have hcz20_4 : w17.cell? ⟨gb449, 4, none⟩ = some (.int .i64 a1_4) := (blk_cell BK449.out 4).trans rfl; have hcz20_5 : w17.cell? ⟨gb449, 5, none⟩ = some (.int .i64 a1_5) := (blk_cell BK449.out 5).trans rfl; have hfz20_0 := blk_frozen BK449.out 0; have hfz20_1 := blk_frozen BK449.out 1; have hfz20_2 := blk_frozen BK449.out 2; have hfz20_3 := blk_frozen BK449.out 3; have hfz20_4 := blk_frozen BK449.out 4; have hfz20_5 := blk_frozen BK449.out 5))
      go_ret
      exact ⟨by first | rfl | (simp [errW_none, errW_some] <;> rfl) | (simp [*, errW_none, errW_some] <;> rfl), by repeat (first | (with_reducible first | exact HB.out | apply below_alloc | apply pw_below_drewN | apply below_drew1 | refine below_set ?_ GE448.out | refine below_set ?_ GE449.out) | exact HB.out)⟩
theorem cS_cases (a b : ByteArray) : (Op.bytesLess a.toList b.toList = true ∧ a.toList ≠ b.toList ∧ Op.bytesLess b.toList a.toList = false ∧ cS a b = -1) ∨ (a.toList = b.toList ∧ Op.bytesLess a.toList b.toList = false ∧ Op.bytesLess b.toList a.toList = false ∧ cS a b = 0) ∨ (Op.bytesLess b.toList a.toList = true ∧ a.toList ≠ b.toList ∧ Op.bytesLess a.toList b.toList = false ∧ cS a b = 1) := by
  unfold cS
  rcases bytesLess_three a.toList b.toList with ⟨h1, h2, h3⟩ | ⟨h1, h2, h3⟩ | ⟨h1, h2, h3⟩
  · exact .inl ⟨h1, h2, h3, by rw [if_pos h1]⟩
  · exact .inr (.inl ⟨h1, h2, h3, by rw [h2, h3]; rfl⟩)
  · exact .inr (.inr ⟨h1, h2, h3, by rw [h3, h1]; rfl⟩)
theorem bl_self (z : List UInt8) : Op.bytesLess z z = false := by
  rcases bytesLess_three z z with ⟨_, h, _⟩ | ⟨_, h, _⟩ | ⟨_, h, _⟩
  · exact absurd rfl h
  · exact h
  · exact absurd rfl h
theorem less_l0 (l0 l1 : List S92) (hl : l0.length ≤ 1000) : ∀ (d k i : Nat), i + d = l0.length → i ≤ l1.length → d < k → foghornref16_less.l0 k l0 l1 (l0.length : Int) (i : Int) = some (decide (cLs (l0.drop i) (l1.drop i) < 0))
  | 0, k + 1, i, hd, h1, hk => by
    rw [foghornref16_less.l0, if_neg (by omega), cLs_end l0 l1 i (by omega) h1]
    by_cases h : l0.length < l1.length
    · rw [if_pos h, decide_eq_true (by omega)]; rfl
    · rw [if_neg h, decide_eq_false (by omega)]; rfl
  | d + 1, k + 1, i, hd, h1, hk => by
    rw [foghornref16_less.l0, if_pos (by omega)]
    by_cases he : i = l1.length
    · rw [if_pos (by omega), cLs_long l0 l1 i (by omega) he]; rfl
    · rw [if_neg (by omega), if_pos (by omega), if_pos (by omega), if_pos (by omega), cLs_drop l0 l1 i (by omega) (by omega), w64' (by omega) (by omega), show ((i : Int) + 1) = ((i + 1 : Nat) : Int) by omega]
      have ih := less_l0 l0 l1 hl d k (i + 1) (by omega) (by omega) (by omega)
      rw [ih]
      clear ih
      generalize rd_T92 l0 (i : Nat) = x at *
      generalize rd_T92 l1 (i : Nat) = y at *
      unfold cL orI
      rcases cS_cases x.f0 y.f0 with ⟨a1, a2, a3, a4⟩ | ⟨a1, a2, a3, a4⟩ | ⟨a1, a2, a3, a4⟩ <;> rcases cS_cases x.f1 y.f1 with ⟨b1, b2, b3, b4⟩ | ⟨b1, b2, b3, b4⟩ | ⟨b1, b2, b3, b4⟩ <;> simp [a1, a2, a3, a4, b1, b2, b3, b4, bl_self]
theorem less_is (l0 l1 : List S92) (hl : l0.length ≤ 1000) : foghornref16_less.f 1001 l0 l1 = some (decide (cLs l0 l1 < 0)) := by
  unfold foghornref16_less.f
  exact less_l0 l0 l1 hl l0.length 1001 0 (by omega) (by omega) (by omega)
theorem ahead_ref (a b : Dy) (hl : a.ls.length ≤ 1000) : foghornref16_Ahead.f 1001 a.ls a.ro a.pl a.tr a.due a.st b.ls b.ro b.pl b.tr b.due b.st = some (ahB a.due a.ls b.due b.ls) := by
  unfold foghornref16_Ahead.f ahB cI orI
  rw [less_is a.ls b.ls hl]
  by_cases h1 : a.due < b.due
  · rw [if_pos h1, if_pos h1]; rfl
  · rw [if_neg h1, if_neg h1]
    by_cases h2 : a.due = b.due
    · rw [if_pos h2, if_neg (by omega : ¬ a.due > b.due)]; rfl
    · rw [if_neg h2, if_pos (by omega : a.due > b.due)]; rfl
theorem same92_l0 (l0 l1 : List S92) (hl : l0.length ≤ 1000) (he : l0.length = l1.length) : ∀ (d k i : Nat), i + d = l0.length → d < k → foghornref10_Same.l0 k l0 l1 (l0.length : Int) (i : Int) = some (decide (cLs (l0.drop i) (l1.drop i) = 0))
  | 0, k + 1, i, hd, hk => by
    rw [foghornref10_Same.l0, if_neg (by omega), cLs_end l0 l1 i (by omega) (by omega), if_neg (by omega)]; rfl
  | d + 1, k + 1, i, hd, hk => by
    rw [foghornref10_Same.l0, if_pos (by omega), if_pos (by omega), if_pos (by omega), if_pos (by omega), cLs_drop l0 l1 i (by omega) (by omega), w64' (by omega) (by omega), show ((i : Int) + 1) = ((i + 1 : Nat) : Int) by omega]
    have ih := same92_l0 l0 l1 hl he d k (i + 1) (by omega) (by omega)
    rw [ih]
    clear ih
    generalize rd_T92 l0 (i : Nat) = x at *
    generalize rd_T92 l1 (i : Nat) = y at *
    unfold cL orI
    rcases cS_cases x.f0 y.f0 with ⟨a1, a2, a3, a4⟩ | ⟨a1, a2, a3, a4⟩ | ⟨a1, a2, a3, a4⟩ <;> rcases cS_cases x.f1 y.f1 with ⟨b1, b2, b3, b4⟩ | ⟨b1, b2, b3, b4⟩ | ⟨b1, b2, b3, b4⟩ <;> simp [a1, a2, a3, a4, b1, b2, b3, b4, bl_self]
theorem cLs_len : ∀ l0 l1 : List S92, cLs l0 l1 = 0 → l0.length = l1.length
  | [], [], _ => rfl
  | [], _ :: _, h => by rw [cLs] at h; exact absurd h (by decide)
  | _ :: _, [], h => by rw [cLs] at h; exact absurd h (by decide)
  | x :: xs, y :: ys, h => by
    rw [cLs] at h
    by_cases hc : cL x y = 0
    · rw [if_pos hc] at h; simp [cLs_len xs ys h]
    · rw [if_neg hc] at h; exact absurd h hc
theorem same92_is (l0 l1 : List S92) (hl : l0.length ≤ 1000) : foghornref10_Same.f 1001 l0 l1 = some (decide (cLs l0 l1 = 0)) := by
  unfold foghornref10_Same.f
  by_cases he : l0.length = l1.length
  · rw [if_pos (by omega)]
    exact same92_l0 l0 l1 hl he l0.length 1001 0 (by omega) (by omega)
  · rw [if_neg (by omega), decide_eq_false (fun h => he (cLs_len l0 l1 h))]
structure Cmp {α : Type} (C : α → α → Int) : Prop where
  neg : ∀ x y, C y x = - C x y
  eq : ∀ x y z, C x y = 0 → C x z = C y z
  tr : ∀ x y z, C x y < 0 → C y z < 0 → C x z < 0
theorem Cmp.er {α : Type} {C : α → α → Int} (h : Cmp C) {x y z : α} (he : C y z = 0) : C x y = C x z := by
  have h1 := h.eq y z x he
  have h2 := h.neg y x
  have h3 := h.neg z x
  omega
theorem cmp_or {α : Type} {C D : α → α → Int} (hC : Cmp C) (hD : Cmp D) : Cmp (fun x y => orI (C x y) (D x y)) where
  neg x y := by
    have h1 := hC.neg x y
    have h2 := hD.neg x y
    unfold orI
    split <;> split <;> omega
  eq x y z h := by
    unfold orI at h ⊢
    by_cases h0 : C x y = 0
    · rw [if_pos h0] at h
      rw [hC.eq x y z h0, hD.eq x y z h]
    · rw [if_neg h0] at h; exact absurd h h0
  tr x y z h1 h2 := by
    unfold orI at h1 h2 ⊢
    by_cases hx : C x y = 0
    · rw [if_pos hx] at h1
      have e := hC.eq x y z hx
      by_cases hy : C y z = 0
      · rw [if_pos hy] at h2; rw [if_pos (by omega)]; exact hD.tr x y z h1 h2
      · rw [if_neg hy] at h2; rw [if_neg (by omega)]; omega
    · rw [if_neg hx] at h1
      by_cases hy : C y z = 0
      · have e := hC.er (x := x) hy
        rw [if_neg (by omega)]; omega
      · rw [if_neg hy] at h2
        have := hC.tr x y z h1 h2
        rw [if_neg (by omega)]; exact this
theorem cmp_on {α β : Type} {C : β → β → Int} (h : Cmp C) (f : α → β) : Cmp (fun x y => C (f x) (f y)) :=
  ⟨fun x y => h.neg _ _, fun x y z e => h.eq _ _ _ e, fun x y z e e' => h.tr _ _ _ e e'⟩
theorem bytesLess_tr : ∀ a b c : List UInt8, Op.bytesLess a b = true → Op.bytesLess b c = true → Op.bytesLess a c = true
  | [], [], _, h, _ => by simp [Op.bytesLess] at h
  | [], _ :: _, [], _, h => by simp [Op.bytesLess] at h
  | [], _ :: _, _ :: _, _, _ => rfl
  | _ :: _, [], _, h, _ => by simp [Op.bytesLess] at h
  | _ :: _, _ :: _, [], _, h => by simp [Op.bytesLess] at h
  | a :: x, b :: y, c :: z, h1, h2 => by
    have ih := bytesLess_tr x y z
    simp only [Op.bytesLess, Bool.or_eq_true, Bool.and_eq_true, decide_eq_true_eq, beq_iff_eq] at h1 h2 ⊢
    rcases h1 with h1 | ⟨rfl, h1⟩
    · rcases h2 with h2 | ⟨rfl, h2⟩
      · exact .inl (UInt8.lt_trans h1 h2)
      · exact .inl h1
    · rcases h2 with h2 | ⟨rfl, h2⟩
      · exact .inl h2
      · exact .inr ⟨rfl, ih h1 h2⟩
theorem cS_cmp : Cmp cS where
  neg x y := by
    rcases cS_cases x y with ⟨a1, a2, a3, a4⟩ | ⟨a1, a2, a3, a4⟩ | ⟨a1, a2, a3, a4⟩ <;> rw [a4] <;> unfold cS <;> simp [a1, a2, a3, bl_self]
  eq x y z h := by
    rcases cS_cases x y with ⟨a1, a2, a3, a4⟩ | ⟨a1, a2, a3, a4⟩ | ⟨a1, a2, a3, a4⟩
    · omega
    · unfold cS; rw [a1]
    · omega
  tr x y z h1 h2 := by
    have e1 : Op.bytesLess x.toList y.toList = true := by
      rcases cS_cases x y with ⟨a1, a2, a3, a4⟩ | ⟨a1, a2, a3, a4⟩ | ⟨a1, a2, a3, a4⟩
      · exact a1
      · omega
      · omega
    have e2 : Op.bytesLess y.toList z.toList = true := by
      rcases cS_cases y z with ⟨a1, a2, a3, a4⟩ | ⟨a1, a2, a3, a4⟩ | ⟨a1, a2, a3, a4⟩
      · exact a1
      · omega
      · omega
    unfold cS
    rw [if_pos (bytesLess_tr _ _ _ e1 e2)]
    decide
theorem cI_cmp : Cmp cI where
  neg x y := by unfold cI; split <;> split <;> (try split) <;> (try split) <;> omega
  eq x y z h := by
    have : x = y := by unfold cI at h; split at h; omega; split at h <;> omega
    rw [this]
  tr x y z h1 h2 := by
    have e1 : x < y := by unfold cI at h1; split at h1; assumption; split at h1 <;> omega
    have e2 : y < z := by unfold cI at h2; split at h2; assumption; split at h2 <;> omega
    unfold cI; rw [if_pos (by omega)]; decide
theorem cL_cmp : Cmp cL := cmp_or (cmp_on cS_cmp (fun x : S92 => x.f0)) (cmp_on cS_cmp (fun x : S92 => x.f1))
theorem cLs_cons (x y : S92) (xs ys : List S92) : cLs (x :: xs) (y :: ys) = orI (cL x y) (cLs xs ys) := rfl
theorem cLs_neg : ∀ a b, cLs b a = - cLs a b
  | [], [] => rfl
  | [], _ :: _ => rfl
  | _ :: _, [] => rfl
  | x :: xs, y :: ys => by
    have h1 := cL_cmp.neg x y
    have h2 := cLs_neg xs ys
    rw [cLs_cons, cLs_cons]
    unfold orI
    split <;> split <;> omega
theorem cLs_eq : ∀ a b c, cLs a b = 0 → cLs a c = cLs b c
  | [], [], _, _ => rfl
  | [], _ :: _, _, h => by rw [cLs] at h; exact absurd h (by decide)
  | _ :: _, [], _, h => by rw [cLs] at h; exact absurd h (by decide)
  | _ :: _, _ :: _, [], _ => rfl
  | x :: xs, y :: ys, z :: zs, h => by
    rw [cLs_cons] at h
    unfold orI at h
    by_cases h0 : cL x y = 0
    · rw [if_pos h0] at h
      rw [cLs_cons, cLs_cons, cL_cmp.eq x y z h0, cLs_eq xs ys zs h]
    · rw [if_neg h0] at h; exact absurd h h0
theorem cLs_tr : ∀ a b c, cLs a b < 0 → cLs b c < 0 → cLs a c < 0
  | [], [], _, h, _ => by rw [cLs] at h; exact absurd h (by decide)
  | [], _ :: _, [], _, h => by rw [cLs] at h; exact absurd h (by decide)
  | [], _ :: _, _ :: _, _, _ => by rw [cLs]; decide
  | _ :: _, [], _, h, _ => by rw [cLs] at h; exact absurd h (by decide)
  | _ :: _, _ :: _, [], _, h => by rw [cLs] at h; exact absurd h (by decide)
  | x :: xs, y :: ys, z :: zs, h1, h2 => by
    have ih := cLs_tr xs ys zs
    rw [cLs_cons] at h1 h2 ⊢
    unfold orI at h1 h2 ⊢
    by_cases hx : cL x y = 0
    · rw [if_pos hx] at h1
      have e := cL_cmp.eq x y z hx
      by_cases hy : cL y z = 0
      · rw [if_pos hy] at h2; rw [if_pos (by omega)]; exact ih h1 h2
      · rw [if_neg hy] at h2; rw [if_neg (by omega)]; omega
    · rw [if_neg hx] at h1
      by_cases hy : cL y z = 0
      · have e := cL_cmp.er (x := x) hy
        rw [if_neg (by omega)]; omega
      · rw [if_neg hy] at h2
        have := cL_cmp.tr x y z h1 h2
        rw [if_neg (by omega)]; exact this
theorem cLs_cmp : Cmp cLs := ⟨cLs_neg, cLs_eq, cLs_tr⟩
def cD (x y : Int × List S92) : Int := orI (cI x.1 y.1) (cLs x.2 y.2)
theorem cD_cmp : Cmp cD := cmp_or (cmp_on cI_cmp (fun x : Int × List S92 => x.1)) (cmp_on cLs_cmp (fun x : Int × List S92 => x.2))
end Go.Proofs.Ytkphinfijppkeaa.G
namespace Go.Proofs.Ytkphinfijppkeaa.G
open Go.RowKit Go.Proofs.YtkphinfijppkeaaW.PrintWords Go.Proofs.YtkphinfijppkeaaW.PrintLast Go.Proofs.YtkphinfijppkeaaW.PrintMore
attribute [local go_sem] max2_int min2_int max_two min_two max_three min_three max_four min_four
set_option linter.unusedVariables false
set_option linter.unusedSimpArgs false
theorem six_of {w0 W : World} {bs : List Fr.Blk} {rs : List Fr.Row} {g : Nat} {t : TypeId} {a b c d e f : Value} (h : Fr.Frame w0 W bs rs) (hm : (g, [a, b, c, d, e, f], t) ∈ bs) : W.cell? ⟨g, 0, none⟩ = some a ∧ W.cell? ⟨g, 1, none⟩ = some b ∧ W.cell? ⟨g, 2, none⟩ = some c ∧ W.cell? ⟨g, 3, none⟩ = some d ∧ W.cell? ⟨g, 4, none⟩ = some e ∧ W.cell? ⟨g, 5, none⟩ = some f := by
  have hb := (h.blk _ hm).2
  exact ⟨(blk_cell hb 0).trans rfl, (blk_cell hb 1).trans rfl, (blk_cell hb 2).trans rfl, (blk_cell hb 3).trans rfl, (blk_cell hb 4).trans rfl, (blk_cell hb 5).trans rfl⟩
set_option maxHeartbeats 2000000 in
set_option maxRecDepth 100000 in
theorem cut50_calls (A : Option Addr) (c : Nat) (l : List S92) (ro pl tr du st : Int) (w : World) (hl : l.length ≤ c) (hm : l.length ≤ 9223372036854775807) : Calls Try.prog 50 #[.agg #[.slice A l.length c, .int .i64 ro, .int .i64 pl, .int .i64 tr, .int .i64 du, .int .i64 st]] w fun e w' => e = .returned (.agg #[.slice A (l.take 5).length c, .int .i64 ro, .int .i64 pl, .int .i64 tr, .int .i64 du, .int .i64 st]) ∧ Below w.heap.size w w' := by
  have H42 := Aside0.mk (fun W => some42 A c l W hl hm)
  obtain ⟨n, hn⟩ : ∃ n, (l.take 5).length = n := ⟨_, rfl⟩
  rw [hn] at H42 ⊢
  clear hn hl hm
  have hF := Aside0.mk (Fr.Frame.start w)
  have HC : True := trivial
  go_enter Try.func50, Try.ntmps50
  go_wp2_with (first | ((with_reducible refine gate_store rfl ?_); apply Fr.fr_store hF.out rfl rfl rfl; (case hp => rfl); (case hx => first | (go_simp; rfl) | rfl); (case hu => (simp only [Value.cells]; rfl)); (case hs => (repeat (first | exact Fr.Spot.here _ _ | apply Fr.Spot.there))); (case ht => kernel_rfl); (case h1 => simp [Value.oneCell']); (case hfit => simp); intro W hF1; simp only [Fr.patch, List.take_zero, List.nil_append, List.drop, List.append_nil, List.take, List.cons_append, List.length_cons, List.length_nil, Nat.reduceAdd] at hF1; have HC1 := hF1.cells; simp only [Fr.Cells, List.length_cons, List.length_nil, Nat.reduceAdd, and_true] at HC1; clear hF HC; have HC := HC1; have hF := Aside0.mk hF1; clear hF1 HC1) | ((first | (with_reducible refine Fr.gate_alloc rfl ?_) | (with_reducible refine Fr.gate_box rfl ?_)); apply Fr.fr_box hF.out rfl; (case hrun => first | (go_simp; done) | (go_simp; rfl)); intro g W hF1; have HC1 := hF1.cells; simp only [Fr.Cells, List.length_cons, List.length_nil, Nat.reduceAdd, and_true] at HC1; clear hF HC; have HC := HC1; have hF := Aside0.mk hF1; clear hF1 HC1))
  (with_reducible refine (H42.out _).mono ?_)
  rintro e W' ⟨rfl, rfl⟩
  go_wp2_with (first | ((with_reducible refine gate_store rfl ?_); apply Fr.fr_store hF.out rfl rfl rfl; (case hp => rfl); (case hx => first | (go_simp; rfl) | rfl); (case hu => (simp only [Value.cells]; rfl)); (case hs => (repeat (first | exact Fr.Spot.here _ _ | apply Fr.Spot.there))); (case ht => kernel_rfl); (case h1 => simp [Value.oneCell']); (case hfit => simp); intro W hF1; simp only [Fr.patch, List.take_zero, List.nil_append, List.drop, List.append_nil, List.take, List.cons_append, List.length_cons, List.length_nil, Nat.reduceAdd] at hF1; have HC1 := hF1.cells; simp only [Fr.Cells, List.length_cons, List.length_nil, Nat.reduceAdd, and_true] at HC1; clear hF HC; have HC := HC1; have hF := Aside0.mk hF1; clear hF1 HC1) | ((first | (with_reducible refine Fr.gate_alloc rfl ?_) | (with_reducible refine Fr.gate_box rfl ?_)); apply Fr.fr_box hF.out rfl; (case hrun => first | (go_simp; done) | (go_simp; rfl)); intro g W hF1; have HC1 := hF1.cells; simp only [Fr.Cells, List.length_cons, List.length_nil, Nat.reduceAdd, and_true] at HC1; clear hF HC; have HC := HC1; have hF := Aside0.mk hF1; clear hF1 HC1))
  refine bodyPost_ret ?_ rfl ⟨rfl, hF.out.below⟩
  simp [results, Try.results50, go_sem, HC]
theorem wp_absG {G : World → Prop} {W : World} (F : World → Prop) (hF : F W) (h : ∀ W9, F W9 → G W9) : G W := h W hF
theorem key_in {F G : World → Prop} {R : Prop} (h1 : Aside0 (∀ W9, F W9 → G W9) → R) (h2 : ∀ W9, F W9 → G W9) : R := h1 ⟨h2⟩
theorem twelve_of {w0 W : World} {bs : List Fr.Blk} {rs : List Fr.Row} {g g' : Nat} {t t' : TypeId} {a b c d e f a' b' c' d' e' f' : Value} (h : Fr.Frame w0 W bs rs) (hm : (g, [a, b, c, d, e, f], t) ∈ bs) (hm' : (g', [a', b', c', d', e', f'], t') ∈ bs) : (W.cell? ⟨g, 0, none⟩ = some a ∧ W.cell? ⟨g, 1, none⟩ = some b ∧ W.cell? ⟨g, 2, none⟩ = some c ∧ W.cell? ⟨g, 3, none⟩ = some d ∧ W.cell? ⟨g, 4, none⟩ = some e ∧ W.cell? ⟨g, 5, none⟩ = some f) ∧ W.cell? ⟨g', 0, none⟩ = some a' ∧ W.cell? ⟨g', 1, none⟩ = some b' ∧ W.cell? ⟨g', 2, none⟩ = some c' ∧ W.cell? ⟨g', 3, none⟩ = some d' ∧ W.cell? ⟨g', 4, none⟩ = some e' ∧ W.cell? ⟨g', 5, none⟩ = some f' := ⟨six_of h hm, six_of h hm'⟩
set_option maxHeartbeats 16000000 in
set_option maxRecDepth 100000 in
theorem order_walk (Aa : Option Addr) (ca na ma : Nat) (roa pla tra dua sta : Int) (Ab : Option Addr) (cb nb mb : Nat) (rob plb trb dub stb : Int) (Ac : Option Addr) (cc nc mc : Nat) (roc plc trc duc stc : Int) (ab ba bc ac sm : Bool) (w : World)
    (h50a : ∀ W, Calls Try.prog 50 #[.agg #[.slice Aa na ca, .int .i64 roa, .int .i64 pla, .int .i64 tra, .int .i64 dua, .int .i64 sta]] W fun e w' => e = .returned (.agg #[.slice Aa ma ca, .int .i64 roa, .int .i64 pla, .int .i64 tra, .int .i64 dua, .int .i64 sta]) ∧ Below W.heap.size W w')
    (h50b : ∀ W, Calls Try.prog 50 #[.agg #[.slice Ab nb cb, .int .i64 rob, .int .i64 plb, .int .i64 trb, .int .i64 dub, .int .i64 stb]] W fun e w' => e = .returned (.agg #[.slice Ab mb cb, .int .i64 rob, .int .i64 plb, .int .i64 trb, .int .i64 dub, .int .i64 stb]) ∧ Below W.heap.size W w')
    (h50c : ∀ W, Calls Try.prog 50 #[.agg #[.slice Ac nc cc, .int .i64 roc, .int .i64 plc, .int .i64 trc, .int .i64 duc, .int .i64 stc]] W fun e w' => e = .returned (.agg #[.slice Ac mc cc, .int .i64 roc, .int .i64 plc, .int .i64 trc, .int .i64 duc, .int .i64 stc]) ∧ Below W.heap.size W w')
    (hab : ∀ W, Below w.heap.size w W → Calls Try.prog 52 #[.agg #[.slice Aa ma ca, .int .i64 roa, .int .i64 pla, .int .i64 tra, .int .i64 dua, .int .i64 sta], .agg #[.slice Ab mb cb, .int .i64 rob, .int .i64 plb, .int .i64 trb, .int .i64 dub, .int .i64 stb]] W fun e w' => e = .returned (.bool ab) ∧ Below W.heap.size W w')
    (hba : ∀ W, Below w.heap.size w W → Calls Try.prog 52 #[.agg #[.slice Ab mb cb, .int .i64 rob, .int .i64 plb, .int .i64 trb, .int .i64 dub, .int .i64 stb], .agg #[.slice Aa ma ca, .int .i64 roa, .int .i64 pla, .int .i64 tra, .int .i64 dua, .int .i64 sta]] W fun e w' => e = .returned (.bool ba) ∧ Below W.heap.size W w')
    (haa : ∀ W, Below w.heap.size w W → Calls Try.prog 52 #[.agg #[.slice Aa ma ca, .int .i64 roa, .int .i64 pla, .int .i64 tra, .int .i64 dua, .int .i64 sta], .agg #[.slice Aa ma ca, .int .i64 roa, .int .i64 pla, .int .i64 tra, .int .i64 dua, .int .i64 sta]] W fun e w' => e = .returned (.bool false) ∧ Below W.heap.size W w')
    (hbc : ∀ W, Below w.heap.size w W → Calls Try.prog 52 #[.agg #[.slice Ab mb cb, .int .i64 rob, .int .i64 plb, .int .i64 trb, .int .i64 dub, .int .i64 stb], .agg #[.slice Ac mc cc, .int .i64 roc, .int .i64 plc, .int .i64 trc, .int .i64 duc, .int .i64 stc]] W fun e w' => e = .returned (.bool bc) ∧ Below W.heap.size W w')
    (hac : ∀ W, Below w.heap.size w W → Calls Try.prog 52 #[.agg #[.slice Aa ma ca, .int .i64 roa, .int .i64 pla, .int .i64 tra, .int .i64 dua, .int .i64 sta], .agg #[.slice Ac mc cc, .int .i64 roc, .int .i64 plc, .int .i64 trc, .int .i64 duc, .int .i64 stc]] W fun e w' => e = .returned (.bool ac) ∧ Below W.heap.size W w')
    (hrf : ∀ W, Below w.heap.size w W → Calls Try.prog 53 #[.agg #[.slice Aa ma ca, .int .i64 roa, .int .i64 pla, .int .i64 tra, .int .i64 dua, .int .i64 sta], .agg #[.slice Ab mb cb, .int .i64 rob, .int .i64 plb, .int .i64 trb, .int .i64 dub, .int .i64 stb]] W fun e w' => e = .returned (.bool ab) ∧ Below W.heap.size W w')
    (hsm : ∀ W, Below w.heap.size w W → Calls Try.prog 49 #[.slice Aa ma ca, .slice Ab mb cb] W fun e w' => e = .returned (.bool sm) ∧ Drawn0 W w')
    (hcase : (ab = true ∧ ba = false ∧ (dua = dub → sm = false) ∧ (bc = true → ac = true)) ∨ (ab = false ∧ ba = true ∧ (dua = dub → sm = false)) ∨ (ab = false ∧ ba = false ∧ dua = dub ∧ sm = true)) :
    Calls Try.prog 13 #[.agg #[.slice Aa na ca, .int .i64 roa, .int .i64 pla, .int .i64 tra, .int .i64 dua, .int .i64 sta], .agg #[.slice Ab nb cb, .int .i64 rob, .int .i64 plb, .int .i64 trb, .int .i64 dub, .int .i64 stb], .agg #[.slice Ac nc cc, .int .i64 roc, .int .i64 plc, .int .i64 trc, .int .i64 duc, .int .i64 stc]] w fun e w' => e = .returned (.bool true) ∧ Below w.heap.size w w' := by
  have H50A := Aside0.mk h50a
  have H50B := Aside0.mk h50b
  have H50C := Aside0.mk h50c
  have HAB := Aside0.mk hab
  have HBA := Aside0.mk hba
  have HAA := Aside0.mk haa
  have HBC := Aside0.mk hbc
  have HAC := Aside0.mk hac
  have HRF := Aside0.mk hrf
  have HSM := Aside0.mk hsm
  have HCASE := Aside0.mk hcase
  clear h50a h50b h50c hab hba haa hbc hac hrf hsm hcase
  have hF := Aside0.mk (Fr.Frame.start w)
  have HC : True := trivial
  go_enter Try.func13, Try.ntmps13
  go_wp2_with (first | ((with_reducible refine gate_store rfl ?_); apply Fr.fr_store hF.out rfl rfl rfl; (case hp => rfl); (case hx => first | (go_simp; rfl) | rfl); (case hu => (simp only [Value.cells]; rfl)); (case hs => (repeat (first | exact Fr.Spot.here _ _ | apply Fr.Spot.there))); (case ht => kernel_rfl); (case h1 => simp [Value.oneCell']); (case hfit => simp); intro W hF1; simp only [Fr.patch, List.take_zero, List.nil_append, List.drop, List.append_nil, List.take, List.cons_append, List.length_cons, List.length_nil, Nat.reduceAdd] at hF1; have HC1 := hF1.cells; simp only [Fr.Cells, List.length_cons, List.length_nil, Nat.reduceAdd, and_true] at HC1; clear hF HC; have HC := HC1; have hF := Aside0.mk hF1; clear hF1 HC1) | ((with_reducible refine gate_dst (N := 3) rfl ?_); apply Fr.fr_box hF.out rfl; (case hrun => first | (go_simp; done) | (go_simp; rfl)); intro ga W hF1; have HC1 := hF1.cells; simp only [Fr.Cells, List.length_cons, List.length_nil, Nat.reduceAdd, and_true] at HC1; clear hF HC; have HC := HC1; have hF := Aside0.mk hF1; clear hF1 HC1) | ((with_reducible refine gate_dst (N := 4) rfl ?_); apply Fr.fr_box hF.out rfl; (case hrun => first | (go_simp; done) | (go_simp; rfl)); intro gb W hF1; have HC1 := hF1.cells; simp only [Fr.Cells, List.length_cons, List.length_nil, Nat.reduceAdd, and_true] at HC1; clear hF HC; have HC := HC1; have hF := Aside0.mk hF1; clear hF1 HC1) | ((with_reducible refine gate_dst (N := 5) rfl ?_); apply Fr.fr_box hF.out rfl; (case hrun => first | (go_simp; done) | (go_simp; rfl)); intro gc W hF1; have HC1 := hF1.cells; simp only [Fr.Cells, List.length_cons, List.length_nil, Nat.reduceAdd, and_true] at HC1; clear hF HC; have HC := HC1; have hF := Aside0.mk hF1; clear hF1 HC1) | ((first | (with_reducible refine Fr.gate_alloc rfl ?_) | (with_reducible refine Fr.gate_box rfl ?_)); apply Fr.fr_box hF.out rfl; (case hrun => first | (go_simp; done) | (go_simp; rfl)); intro g W hF1; have HC1 := hF1.cells; simp only [Fr.Cells, List.length_cons, List.length_nil, Nat.reduceAdd, and_true] at HC1; clear hF HC; have HC := HC1; have hF := Aside0.mk hF1; clear hF1 HC1))
  have HF0 := Aside0.mk hF.out.drew
  clear hF HC
  have hnd := HF0.out.nodup
  simp only [List.map_cons, List.map_nil, List.nodup_cons, List.mem_cons, List.not_mem_nil, or_false, not_or, not_false_eq_true, List.nodup_nil, and_true] at hnd
  obtain ⟨⟨e1, e2⟩, e3⟩ := hnd
  have e4 := fun h => e1 (Eq.symm h)
  have e5 := fun h => e2 (Eq.symm h)
  have e6 := fun h => e3 (Eq.symm h)
  apply key_in (F := fun W9 => Fr.Frame w W9 [(gc, [.slice Ac mc cc, .int .i64 roc, .int .i64 plc, .int .i64 trc, .int .i64 duc, .int .i64 stc], 69), (gb, [.slice Ab mb cb, .int .i64 rob, .int .i64 plb, .int .i64 trb, .int .i64 dub, .int .i64 stb], 69), (ga, [.slice Aa ma ca, .int .i64 roa, .int .i64 pla, .int .i64 tra, .int .i64 dua, .int .i64 sta], 69)] [])
  case h1 =>
    intro key
    have HD0 := HF0.out.cells
    simp only [Fr.Cells, List.length_cons, List.length_nil, Nat.reduceAdd, and_true] at HD0
    go_region_with (first | (go_at_call 50; first | ((with_reducible refine (H50A.out _).mono ?_); rintro e Wa ⟨rfl, hb⟩; have HFa := Aside0.mk (HF0.out.call hb); clear hb HD0; have HDa := HFa.out.cells; simp only [Fr.Cells, List.length_cons, List.length_nil, Nat.reduceAdd, and_true] at HDa) | ((with_reducible refine (H50B.out _).mono ?_); rintro e Wb ⟨rfl, hb⟩; have HFb := Aside0.mk (HFa.out.call hb); clear hb HDa; have HDb := HFb.out.cells; simp only [Fr.Cells, List.length_cons, List.length_nil, Nat.reduceAdd, and_true] at HDb) | ((with_reducible refine (H50C.out _).mono ?_); rintro e Wc ⟨rfl, hb⟩; have HFc := Aside0.mk (HFb.out.call hb); clear hb HDb; have HDc := HFc.out.cells; simp only [Fr.Cells, List.length_cons, List.length_nil, Nat.reduceAdd, and_true] at HDc)))
    all_goals (refine wp_absG (fun W9 => Fr.Frame w W9 [(gc, [.slice Ac mc cc, .int .i64 roc, .int .i64 plc, .int .i64 trc, .int .i64 duc, .int .i64 stc], 69), (gb, [.slice Ab mb cb, .int .i64 rob, .int .i64 plb, .int .i64 trb, .int .i64 dub, .int .i64 stb], 69), (ga, [.slice Aa ma ca, .int .i64 roa, .int .i64 pla, .int .i64 tra, .int .i64 dua, .int .i64 sta], 69)] []) (((HFc.out.put (Fr.Spot.there _ (Fr.Spot.there _ (Fr.Spot.here _ _))) 0 [.slice Aa ma ca, .int .i64 roa, .int .i64 pla, .int .i64 tra, .int .i64 dua, .int .i64 sta] (by simp)).put (Fr.Spot.there _ (Fr.Spot.here _ _)) 0 [.slice Ab mb cb, .int .i64 rob, .int .i64 plb, .int .i64 trb, .int .i64 dub, .int .i64 stb] (by simp)).put (Fr.Spot.here _ _) 0 [.slice Ac mc cc, .int .i64 roc, .int .i64 plc, .int .i64 trc, .int .i64 duc, .int .i64 stc] (by simp)) ?_; exact key.out)
  case h2 =>
    clear HF0 H50A H50B H50C e1 e2 e3 e4 e5 e6
    intro W9 hF1
    have hF : True := trivial
    have HC : True := trivial
    have HC1 := hF1.cells; simp only [Fr.Cells, List.length_cons, List.length_nil, Nat.reduceAdd, and_true] at HC1; clear hF HC; have HC := HC1; have hF := Aside0.mk hF1; clear hF1 HC1
    go_wp2_with (first | ((with_reducible refine gate_store rfl ?_); apply Fr.fr_store hF.out rfl rfl rfl; (case hp => rfl); (case hx => first | (go_simp; rfl) | rfl); (case hu => (simp only [Value.cells]; rfl)); (case hs => (repeat (first | exact Fr.Spot.here _ _ | apply Fr.Spot.there))); (case ht => kernel_rfl); (case h1 => simp [Value.oneCell']); (case hfit => simp); intro W hF1; simp only [Fr.patch, List.take_zero, List.nil_append, List.drop, List.append_nil, List.take, List.cons_append, List.length_cons, List.length_nil, Nat.reduceAdd] at hF1; have HC1 := hF1.cells; simp only [Fr.Cells, List.length_cons, List.length_nil, Nat.reduceAdd, and_true] at HC1; clear hF HC; have HC := HC1; have hF := Aside0.mk hF1; clear hF1 HC1) | ((first | (with_reducible refine Fr.gate_alloc rfl ?_) | (with_reducible refine Fr.gate_box rfl ?_)); apply Fr.fr_box hF.out rfl; (case hrun => first | (go_simp; done) | (go_simp; rfl)); intro g W hF1; have HC1 := hF1.cells; simp only [Fr.Cells, List.length_cons, List.length_nil, Nat.reduceAdd, and_true] at HC1; clear hF HC; have HC := HC1; have hF := Aside0.mk hF1; clear hF1 HC1))
    have HF9 := Aside0.mk hF.out.drew
    clear hF HC
    go_region_held3 (fun w' => (w'.cell? ⟨ga, 0, none⟩ = some (.slice Aa ma ca) ∧ w'.cell? ⟨ga, 1, none⟩ = some (.int .i64 roa) ∧ w'.cell? ⟨ga, 2, none⟩ = some (.int .i64 pla) ∧ w'.cell? ⟨ga, 3, none⟩ = some (.int .i64 tra) ∧ w'.cell? ⟨ga, 4, none⟩ = some (.int .i64 dua) ∧ w'.cell? ⟨ga, 5, none⟩ = some (.int .i64 sta)) ∧ w'.cell? ⟨gb, 0, none⟩ = some (.slice Ab mb cb) ∧ w'.cell? ⟨gb, 1, none⟩ = some (.int .i64 rob) ∧ w'.cell? ⟨gb, 2, none⟩ = some (.int .i64 plb) ∧ w'.cell? ⟨gb, 3, none⟩ = some (.int .i64 trb) ∧ w'.cell? ⟨gb, 4, none⟩ = some (.int .i64 dub) ∧ w'.cell? ⟨gb, 5, none⟩ = some (.int .i64 stb))
      (first | with_reducible exact twelve_of HF9.out (List.Mem.tail _ (List.Mem.tail _ (List.Mem.head _))) (List.Mem.tail _ (List.Mem.head _)) | with_reducible exact twelve_of HFab.out (List.Mem.tail _ (List.Mem.tail _ (List.Mem.head _))) (List.Mem.tail _ (List.Mem.head _)) | with_reducible exact twelve_of HFba.out (List.Mem.tail _ (List.Mem.tail _ (List.Mem.head _))) (List.Mem.tail _ (List.Mem.head _)))
      (first | (go_at_call 52; first | ((with_reducible refine (HAB.out _ HF9.out.below).mono ?_); rintro e Wp ⟨rfl, hb⟩; have HFab := Aside0.mk (HF9.out.call hb); clear hb) | ((with_reducible refine (HBA.out _ HFab.out.below).mono ?_); rintro e Wq ⟨rfl, hb⟩; have HFba := Aside0.mk (HFab.out.call hb); clear hb)))
    have hF1 := HFba.out
    clear HF9 HFab HFba HAB HBA
    have hF : True := trivial
    have HC : True := trivial
    have HC1 := hF1.cells; simp only [Fr.Cells, List.length_cons, List.length_nil, Nat.reduceAdd, and_true] at HC1; clear hF HC; have HC := HC1; have hF := Aside0.mk hF1; clear hF1 HC1
    rcases HCASE.out with ⟨rfl, rfl, h1, h2⟩ | ⟨rfl, rfl, h1⟩ | ⟨rfl, rfl, h1, h2⟩
    · clear HCASE
      by_cases hd : dua = dub
      · obtain rfl := h1 hd
        subst hd
        cases bc with
        | true =>
          obtain rfl := h2 rfl
          clear h1 h2
          iterate 7 (go_wp2_with (first | ((with_reducible refine gate_store rfl ?_); apply Fr.fr_store hF.out rfl rfl rfl; (case hp => rfl); (case hx => first | (go_simp; rfl) | rfl); (case hu => (simp only [Value.cells]; rfl)); (case hs => (repeat (first | exact Fr.Spot.here _ _ | apply Fr.Spot.there))); (case ht => kernel_rfl); (case h1 => simp [Value.oneCell']); (case hfit => simp); intro W hF1; simp only [Fr.patch, List.take_zero, List.nil_append, List.drop, List.append_nil, List.take, List.cons_append, List.length_cons, List.length_nil, Nat.reduceAdd] at hF1; have HC1 := hF1.cells; simp only [Fr.Cells, List.length_cons, List.length_nil, Nat.reduceAdd, and_true] at HC1; clear hF HC; have HC := HC1; have hF := Aside0.mk hF1; clear hF1 HC1) | ((first | (with_reducible refine Fr.gate_alloc rfl ?_) | (with_reducible refine Fr.gate_box rfl ?_)); apply Fr.fr_box hF.out rfl; (case hrun => first | (go_simp; done) | (go_simp; rfl)); intro g W hF1; have HC1 := hF1.cells; simp only [Fr.Cells, List.length_cons, List.length_nil, Nat.reduceAdd, and_true] at HC1; clear hF HC; have HC := HC1; have hF := Aside0.mk hF1; clear hF1 HC1)); try ((first | ((with_reducible refine (HSM.out _ hF.out.below).mono ?_); rintro e W ⟨rfl, hb⟩; have hF1 := hF.out.call hb.below; clear hb) | ((with_reducible refine (HAA.out _ hF.out.below).mono ?_); rintro e W ⟨rfl, hb⟩; have hF1 := hF.out.call hb; clear hb) | ((with_reducible refine (HRF.out _ hF.out.below).mono ?_); rintro e W ⟨rfl, hb⟩; have hF1 := hF.out.call hb; clear hb) | ((with_reducible refine (HBC.out _ hF.out.below).mono ?_); rintro e W ⟨rfl, hb⟩; have hF1 := hF.out.call hb; clear hb) | ((with_reducible refine (HAC.out _ hF.out.below).mono ?_); rintro e W ⟨rfl, hb⟩; have hF1 := hF.out.call hb; clear hb) | ((with_reducible refine (alive44_calls _).mono ?_); rintro e W ⟨rfl, hb⟩; have hF1 := hF.out.call hb; clear hb)); have HC1 := hF1.cells; simp only [Fr.Cells, List.length_cons, List.length_nil, Nat.reduceAdd, and_true] at HC1; clear hF HC; have HC := HC1; have hF := Aside0.mk hF1; clear hF1 HC1))
          go_ret
          exact ⟨rfl, hF.out.below⟩
        | false =>
          clear h1 h2
          iterate 7 (go_wp2_with (first | ((with_reducible refine gate_store rfl ?_); apply Fr.fr_store hF.out rfl rfl rfl; (case hp => rfl); (case hx => first | (go_simp; rfl) | rfl); (case hu => (simp only [Value.cells]; rfl)); (case hs => (repeat (first | exact Fr.Spot.here _ _ | apply Fr.Spot.there))); (case ht => kernel_rfl); (case h1 => simp [Value.oneCell']); (case hfit => simp); intro W hF1; simp only [Fr.patch, List.take_zero, List.nil_append, List.drop, List.append_nil, List.take, List.cons_append, List.length_cons, List.length_nil, Nat.reduceAdd] at hF1; have HC1 := hF1.cells; simp only [Fr.Cells, List.length_cons, List.length_nil, Nat.reduceAdd, and_true] at HC1; clear hF HC; have HC := HC1; have hF := Aside0.mk hF1; clear hF1 HC1) | ((first | (with_reducible refine Fr.gate_alloc rfl ?_) | (with_reducible refine Fr.gate_box rfl ?_)); apply Fr.fr_box hF.out rfl; (case hrun => first | (go_simp; done) | (go_simp; rfl)); intro g W hF1; have HC1 := hF1.cells; simp only [Fr.Cells, List.length_cons, List.length_nil, Nat.reduceAdd, and_true] at HC1; clear hF HC; have HC := HC1; have hF := Aside0.mk hF1; clear hF1 HC1)); try ((first | ((with_reducible refine (HSM.out _ hF.out.below).mono ?_); rintro e W ⟨rfl, hb⟩; have hF1 := hF.out.call hb.below; clear hb) | ((with_reducible refine (HAA.out _ hF.out.below).mono ?_); rintro e W ⟨rfl, hb⟩; have hF1 := hF.out.call hb; clear hb) | ((with_reducible refine (HRF.out _ hF.out.below).mono ?_); rintro e W ⟨rfl, hb⟩; have hF1 := hF.out.call hb; clear hb) | ((with_reducible refine (HBC.out _ hF.out.below).mono ?_); rintro e W ⟨rfl, hb⟩; have hF1 := hF.out.call hb; clear hb) | ((with_reducible refine (HAC.out _ hF.out.below).mono ?_); rintro e W ⟨rfl, hb⟩; have hF1 := hF.out.call hb; clear hb) | ((with_reducible refine (alive44_calls _).mono ?_); rintro e W ⟨rfl, hb⟩; have hF1 := hF.out.call hb; clear hb)); have HC1 := hF1.cells; simp only [Fr.Cells, List.length_cons, List.length_nil, Nat.reduceAdd, and_true] at HC1; clear hF HC; have HC := HC1; have hF := Aside0.mk hF1; clear hF1 HC1))
          go_ret
          exact ⟨rfl, hF.out.below⟩
      · have hdb : (dua == dub) = false := beq_false_of_ne hd
        cases bc with
        | true =>
          obtain rfl := h2 rfl
          clear h1 h2
          iterate 7 (go_wp2_with (first | ((with_reducible refine gate_store rfl ?_); apply Fr.fr_store hF.out rfl rfl rfl; (case hp => rfl); (case hx => first | (go_simp; rfl) | rfl); (case hu => (simp only [Value.cells]; rfl)); (case hs => (repeat (first | exact Fr.Spot.here _ _ | apply Fr.Spot.there))); (case ht => kernel_rfl); (case h1 => simp [Value.oneCell']); (case hfit => simp); intro W hF1; simp only [Fr.patch, List.take_zero, List.nil_append, List.drop, List.append_nil, List.take, List.cons_append, List.length_cons, List.length_nil, Nat.reduceAdd] at hF1; have HC1 := hF1.cells; simp only [Fr.Cells, List.length_cons, List.length_nil, Nat.reduceAdd, and_true] at HC1; clear hF HC; have HC := HC1; have hF := Aside0.mk hF1; clear hF1 HC1) | ((first | (with_reducible refine Fr.gate_alloc rfl ?_) | (with_reducible refine Fr.gate_box rfl ?_)); apply Fr.fr_box hF.out rfl; (case hrun => first | (go_simp; done) | (go_simp; rfl)); intro g W hF1; have HC1 := hF1.cells; simp only [Fr.Cells, List.length_cons, List.length_nil, Nat.reduceAdd, and_true] at HC1; clear hF HC; have HC := HC1; have hF := Aside0.mk hF1; clear hF1 HC1)); try ((first | ((with_reducible refine (HSM.out _ hF.out.below).mono ?_); rintro e W ⟨rfl, hb⟩; have hF1 := hF.out.call hb.below; clear hb) | ((with_reducible refine (HAA.out _ hF.out.below).mono ?_); rintro e W ⟨rfl, hb⟩; have hF1 := hF.out.call hb; clear hb) | ((with_reducible refine (HRF.out _ hF.out.below).mono ?_); rintro e W ⟨rfl, hb⟩; have hF1 := hF.out.call hb; clear hb) | ((with_reducible refine (HBC.out _ hF.out.below).mono ?_); rintro e W ⟨rfl, hb⟩; have hF1 := hF.out.call hb; clear hb) | ((with_reducible refine (HAC.out _ hF.out.below).mono ?_); rintro e W ⟨rfl, hb⟩; have hF1 := hF.out.call hb; clear hb) | ((with_reducible refine (alive44_calls _).mono ?_); rintro e W ⟨rfl, hb⟩; have hF1 := hF.out.call hb; clear hb)); have HC1 := hF1.cells; simp only [Fr.Cells, List.length_cons, List.length_nil, Nat.reduceAdd, and_true] at HC1; clear hF HC; have HC := HC1; have hF := Aside0.mk hF1; clear hF1 HC1))
          go_ret
          exact ⟨rfl, hF.out.below⟩
        | false =>
          clear h1 h2
          iterate 7 (go_wp2_with (first | ((with_reducible refine gate_store rfl ?_); apply Fr.fr_store hF.out rfl rfl rfl; (case hp => rfl); (case hx => first | (go_simp; rfl) | rfl); (case hu => (simp only [Value.cells]; rfl)); (case hs => (repeat (first | exact Fr.Spot.here _ _ | apply Fr.Spot.there))); (case ht => kernel_rfl); (case h1 => simp [Value.oneCell']); (case hfit => simp); intro W hF1; simp only [Fr.patch, List.take_zero, List.nil_append, List.drop, List.append_nil, List.take, List.cons_append, List.length_cons, List.length_nil, Nat.reduceAdd] at hF1; have HC1 := hF1.cells; simp only [Fr.Cells, List.length_cons, List.length_nil, Nat.reduceAdd, and_true] at HC1; clear hF HC; have HC := HC1; have hF := Aside0.mk hF1; clear hF1 HC1) | ((first | (with_reducible refine Fr.gate_alloc rfl ?_) | (with_reducible refine Fr.gate_box rfl ?_)); apply Fr.fr_box hF.out rfl; (case hrun => first | (go_simp; done) | (go_simp; rfl)); intro g W hF1; have HC1 := hF1.cells; simp only [Fr.Cells, List.length_cons, List.length_nil, Nat.reduceAdd, and_true] at HC1; clear hF HC; have HC := HC1; have hF := Aside0.mk hF1; clear hF1 HC1)); try ((first | ((with_reducible refine (HSM.out _ hF.out.below).mono ?_); rintro e W ⟨rfl, hb⟩; have hF1 := hF.out.call hb.below; clear hb) | ((with_reducible refine (HAA.out _ hF.out.below).mono ?_); rintro e W ⟨rfl, hb⟩; have hF1 := hF.out.call hb; clear hb) | ((with_reducible refine (HRF.out _ hF.out.below).mono ?_); rintro e W ⟨rfl, hb⟩; have hF1 := hF.out.call hb; clear hb) | ((with_reducible refine (HBC.out _ hF.out.below).mono ?_); rintro e W ⟨rfl, hb⟩; have hF1 := hF.out.call hb; clear hb) | ((with_reducible refine (HAC.out _ hF.out.below).mono ?_); rintro e W ⟨rfl, hb⟩; have hF1 := hF.out.call hb; clear hb) | ((with_reducible refine (alive44_calls _).mono ?_); rintro e W ⟨rfl, hb⟩; have hF1 := hF.out.call hb; clear hb)); have HC1 := hF1.cells; simp only [Fr.Cells, List.length_cons, List.length_nil, Nat.reduceAdd, and_true] at HC1; clear hF HC; have HC := HC1; have hF := Aside0.mk hF1; clear hF1 HC1))
          go_ret
          exact ⟨rfl, hF.out.below⟩
    · clear HCASE
      by_cases hd : dua = dub
      · obtain rfl := h1 hd
        subst hd
        clear h1
        iterate 7 (go_wp2_with (first | ((with_reducible refine gate_store rfl ?_); apply Fr.fr_store hF.out rfl rfl rfl; (case hp => rfl); (case hx => first | (go_simp; rfl) | rfl); (case hu => (simp only [Value.cells]; rfl)); (case hs => (repeat (first | exact Fr.Spot.here _ _ | apply Fr.Spot.there))); (case ht => kernel_rfl); (case h1 => simp [Value.oneCell']); (case hfit => simp); intro W hF1; simp only [Fr.patch, List.take_zero, List.nil_append, List.drop, List.append_nil, List.take, List.cons_append, List.length_cons, List.length_nil, Nat.reduceAdd] at hF1; have HC1 := hF1.cells; simp only [Fr.Cells, List.length_cons, List.length_nil, Nat.reduceAdd, and_true] at HC1; clear hF HC; have HC := HC1; have hF := Aside0.mk hF1; clear hF1 HC1) | ((first | (with_reducible refine Fr.gate_alloc rfl ?_) | (with_reducible refine Fr.gate_box rfl ?_)); apply Fr.fr_box hF.out rfl; (case hrun => first | (go_simp; done) | (go_simp; rfl)); intro g W hF1; have HC1 := hF1.cells; simp only [Fr.Cells, List.length_cons, List.length_nil, Nat.reduceAdd, and_true] at HC1; clear hF HC; have HC := HC1; have hF := Aside0.mk hF1; clear hF1 HC1)); try ((first | ((with_reducible refine (HSM.out _ hF.out.below).mono ?_); rintro e W ⟨rfl, hb⟩; have hF1 := hF.out.call hb.below; clear hb) | ((with_reducible refine (HAA.out _ hF.out.below).mono ?_); rintro e W ⟨rfl, hb⟩; have hF1 := hF.out.call hb; clear hb) | ((with_reducible refine (HRF.out _ hF.out.below).mono ?_); rintro e W ⟨rfl, hb⟩; have hF1 := hF.out.call hb; clear hb) | ((with_reducible refine (HBC.out _ hF.out.below).mono ?_); rintro e W ⟨rfl, hb⟩; have hF1 := hF.out.call hb; clear hb) | ((with_reducible refine (HAC.out _ hF.out.below).mono ?_); rintro e W ⟨rfl, hb⟩; have hF1 := hF.out.call hb; clear hb) | ((with_reducible refine (alive44_calls _).mono ?_); rintro e W ⟨rfl, hb⟩; have hF1 := hF.out.call hb; clear hb)); have HC1 := hF1.cells; simp only [Fr.Cells, List.length_cons, List.length_nil, Nat.reduceAdd, and_true] at HC1; clear hF HC; have HC := HC1; have hF := Aside0.mk hF1; clear hF1 HC1))
        go_ret
        exact ⟨rfl, hF.out.below⟩
      · have hdb : (dua == dub) = false := beq_false_of_ne hd
        clear h1
        iterate 7 (go_wp2_with (first | ((with_reducible refine gate_store rfl ?_); apply Fr.fr_store hF.out rfl rfl rfl; (case hp => rfl); (case hx => first | (go_simp; rfl) | rfl); (case hu => (simp only [Value.cells]; rfl)); (case hs => (repeat (first | exact Fr.Spot.here _ _ | apply Fr.Spot.there))); (case ht => kernel_rfl); (case h1 => simp [Value.oneCell']); (case hfit => simp); intro W hF1; simp only [Fr.patch, List.take_zero, List.nil_append, List.drop, List.append_nil, List.take, List.cons_append, List.length_cons, List.length_nil, Nat.reduceAdd] at hF1; have HC1 := hF1.cells; simp only [Fr.Cells, List.length_cons, List.length_nil, Nat.reduceAdd, and_true] at HC1; clear hF HC; have HC := HC1; have hF := Aside0.mk hF1; clear hF1 HC1) | ((first | (with_reducible refine Fr.gate_alloc rfl ?_) | (with_reducible refine Fr.gate_box rfl ?_)); apply Fr.fr_box hF.out rfl; (case hrun => first | (go_simp; done) | (go_simp; rfl)); intro g W hF1; have HC1 := hF1.cells; simp only [Fr.Cells, List.length_cons, List.length_nil, Nat.reduceAdd, and_true] at HC1; clear hF HC; have HC := HC1; have hF := Aside0.mk hF1; clear hF1 HC1)); try ((first | ((with_reducible refine (HSM.out _ hF.out.below).mono ?_); rintro e W ⟨rfl, hb⟩; have hF1 := hF.out.call hb.below; clear hb) | ((with_reducible refine (HAA.out _ hF.out.below).mono ?_); rintro e W ⟨rfl, hb⟩; have hF1 := hF.out.call hb; clear hb) | ((with_reducible refine (HRF.out _ hF.out.below).mono ?_); rintro e W ⟨rfl, hb⟩; have hF1 := hF.out.call hb; clear hb) | ((with_reducible refine (HBC.out _ hF.out.below).mono ?_); rintro e W ⟨rfl, hb⟩; have hF1 := hF.out.call hb; clear hb) | ((with_reducible refine (HAC.out _ hF.out.below).mono ?_); rintro e W ⟨rfl, hb⟩; have hF1 := hF.out.call hb; clear hb) | ((with_reducible refine (alive44_calls _).mono ?_); rintro e W ⟨rfl, hb⟩; have hF1 := hF.out.call hb; clear hb)); have HC1 := hF1.cells; simp only [Fr.Cells, List.length_cons, List.length_nil, Nat.reduceAdd, and_true] at HC1; clear hF HC; have HC := HC1; have hF := Aside0.mk hF1; clear hF1 HC1))
        go_ret
        exact ⟨rfl, hF.out.below⟩
    · clear HCASE
      subst h1
      subst h2
      iterate 7 (go_wp2_with (first | ((with_reducible refine gate_store rfl ?_); apply Fr.fr_store hF.out rfl rfl rfl; (case hp => rfl); (case hx => first | (go_simp; rfl) | rfl); (case hu => (simp only [Value.cells]; rfl)); (case hs => (repeat (first | exact Fr.Spot.here _ _ | apply Fr.Spot.there))); (case ht => kernel_rfl); (case h1 => simp [Value.oneCell']); (case hfit => simp); intro W hF1; simp only [Fr.patch, List.take_zero, List.nil_append, List.drop, List.append_nil, List.take, List.cons_append, List.length_cons, List.length_nil, Nat.reduceAdd] at hF1; have HC1 := hF1.cells; simp only [Fr.Cells, List.length_cons, List.length_nil, Nat.reduceAdd, and_true] at HC1; clear hF HC; have HC := HC1; have hF := Aside0.mk hF1; clear hF1 HC1) | ((first | (with_reducible refine Fr.gate_alloc rfl ?_) | (with_reducible refine Fr.gate_box rfl ?_)); apply Fr.fr_box hF.out rfl; (case hrun => first | (go_simp; done) | (go_simp; rfl)); intro g W hF1; have HC1 := hF1.cells; simp only [Fr.Cells, List.length_cons, List.length_nil, Nat.reduceAdd, and_true] at HC1; clear hF HC; have HC := HC1; have hF := Aside0.mk hF1; clear hF1 HC1)); try ((first | ((with_reducible refine (HSM.out _ hF.out.below).mono ?_); rintro e W ⟨rfl, hb⟩; have hF1 := hF.out.call hb.below; clear hb) | ((with_reducible refine (HAA.out _ hF.out.below).mono ?_); rintro e W ⟨rfl, hb⟩; have hF1 := hF.out.call hb; clear hb) | ((with_reducible refine (HRF.out _ hF.out.below).mono ?_); rintro e W ⟨rfl, hb⟩; have hF1 := hF.out.call hb; clear hb) | ((with_reducible refine (HBC.out _ hF.out.below).mono ?_); rintro e W ⟨rfl, hb⟩; have hF1 := hF.out.call hb; clear hb) | ((with_reducible refine (HAC.out _ hF.out.below).mono ?_); rintro e W ⟨rfl, hb⟩; have hF1 := hF.out.call hb; clear hb) | ((with_reducible refine (alive44_calls _).mono ?_); rintro e W ⟨rfl, hb⟩; have hF1 := hF.out.call hb; clear hb)); have HC1 := hF1.cells; simp only [Fr.Cells, List.length_cons, List.length_nil, Nat.reduceAdd, and_true] at HC1; clear hF HC; have HC := HC1; have hF := Aside0.mk hF1; clear hF1 HC1))
      go_ret
      exact ⟨rfl, hF.out.below⟩
theorem cD_zero (x y : Int × List S92) : cD x y = 0 ↔ x.1 = y.1 ∧ cLs x.2 y.2 = 0 := by
  unfold cD orI cI
  by_cases h1 : x.1 < y.1
  · rw [if_pos h1, if_neg (by decide)]
    exact ⟨fun h => absurd h (by decide), fun h => by omega⟩
  · rw [if_neg h1]
    by_cases h2 : x.1 > y.1
    · rw [if_pos h2, if_neg (by decide)]
      exact ⟨fun h => absurd h (by decide), fun h => by omega⟩
    · rw [if_neg h2, if_pos rfl]
      exact ⟨fun h => ⟨by omega, h⟩, fun h => h.2⟩
theorem order_case (a b c : Int × List S92) : (decide (cD a b < 0) = true ∧ decide (cD b a < 0) = false ∧ (a.1 = b.1 → decide (cLs a.2 b.2 = 0) = false) ∧ (decide (cD b c < 0) = true → decide (cD a c < 0) = true)) ∨ (decide (cD a b < 0) = false ∧ decide (cD b a < 0) = true ∧ (a.1 = b.1 → decide (cLs a.2 b.2 = 0) = false)) ∨ (decide (cD a b < 0) = false ∧ decide (cD b a < 0) = false ∧ a.1 = b.1 ∧ decide (cLs a.2 b.2 = 0) = true) := by
  have hn := cD_cmp.neg a b
  have hz := cD_zero a b
  have ht := cD_cmp.tr a b c
  simp only [decide_eq_true_eq, decide_eq_false_iff_not]
  rcases Int.lt_trichotomy (cD a b) 0 with h | h | h
  · exact .inl ⟨h, by omega, fun e e' => by have := hz.2 ⟨e, e'⟩; omega, fun e => ht h e⟩
  · obtain ⟨h1, h2⟩ := hz.1 h
    exact .inr (.inr ⟨by omega, by omega, h1, h2⟩)
  · exact .inr (.inl ⟨by omega, by omega, fun e e' => by have := hz.2 ⟨e, e'⟩; omega⟩)
theorem cD_self (a : Int × List S92) : decide (cD a a < 0) = false := by
  have := cD_cmp.neg a a
  rw [decide_eq_false_iff_not]
  omega
theorem DutyOrder (a : Dy) (Aa : Option Addr) (ca : Nat) (b : Dy) (Ab : Option Addr) (cb : Nat) (c : Dy) (Ac : Option Addr) (cc : Nat) (w : World) (hra : Kd.C k92 w Aa a.ls.length a.ls) (hla : a.ls.length ≤ ca) (hrb : Kd.C k92 w Ab b.ls.length b.ls) (hlb : b.ls.length ≤ cb) (hrc : Kd.C k92 w Ac c.ls.length c.ls) (hlc : c.ls.length ≤ cc) :
    Calls Try.prog 13 #[.agg #[.slice Aa a.ls.length ca, .int .i64 a.ro, .int .i64 a.pl, .int .i64 a.tr, .int .i64 a.due, .int .i64 a.st], .agg #[.slice Ab b.ls.length cb, .int .i64 b.ro, .int .i64 b.pl, .int .i64 b.tr, .int .i64 b.due, .int .i64 b.st], .agg #[.slice Ac c.ls.length cc, .int .i64 c.ro, .int .i64 c.pl, .int .i64 c.tr, .int .i64 c.due, .int .i64 c.st]] w fun e w' => e = .returned (.bool true) ∧ Below w.heap.size w w' := by
  have hqa : Kd.C k92 w Aa (a.ls.take 5).length (a.ls.take 5) := take_C 5 hra rfl
  have hqb : Kd.C k92 w Ab (b.ls.take 5).length (b.ls.take 5) := take_C 5 hrb rfl
  have hqc : Kd.C k92 w Ac (c.ls.take 5).length (c.ls.take 5) := take_C 5 hrc rfl
  have h5a : (a.ls.take 5).length ≤ 5 := List.length_take_le 5 a.ls
  have hka : (a.ls.take 5).length ≤ ca := by rw [List.length_take]; omega
  have hkb : (b.ls.take 5).length ≤ cb := by rw [List.length_take]; omega
  refine order_walk Aa ca a.ls.length (a.ls.take 5).length a.ro a.pl a.tr a.due a.st Ab cb b.ls.length (b.ls.take 5).length b.ro b.pl b.tr b.due b.st Ac cc c.ls.length (c.ls.take 5).length c.ro c.pl c.tr c.due c.st
    (ahB a.due (a.ls.take 5) b.due (b.ls.take 5)) (ahB b.due (b.ls.take 5) a.due (a.ls.take 5)) (ahB b.due (b.ls.take 5) c.due (c.ls.take 5)) (ahB a.due (a.ls.take 5) c.due (c.ls.take 5)) (decide (cLs (a.ls.take 5) (b.ls.take 5) = 0)) w
    (fun W => cut50_calls Aa ca a.ls a.ro a.pl a.tr a.due a.st W hla hra.2.1)
    (fun W => cut50_calls Ab cb b.ls b.ro b.pl b.tr b.due b.st W hlb hrb.2.1)
    (fun W => cut50_calls Ac cc c.ls c.ro c.pl c.tr c.due c.st W hlc hrc.2.1)
    (fun W hb => ahead_calls ⟨a.ls.take 5, a.ro, a.pl, a.tr, a.due, a.st⟩ Aa ca ⟨b.ls.take 5, b.ro, b.pl, b.tr, b.due, b.st⟩ Ab cb W (Kd.C_below hqa hb) (Kd.C_below hqb hb))
    (fun W hb => ahead_calls ⟨b.ls.take 5, b.ro, b.pl, b.tr, b.due, b.st⟩ Ab cb ⟨a.ls.take 5, a.ro, a.pl, a.tr, a.due, a.st⟩ Aa ca W (Kd.C_below hqb hb) (Kd.C_below hqa hb))
    (fun W hb => ?_)
    (fun W hb => ahead_calls ⟨b.ls.take 5, b.ro, b.pl, b.tr, b.due, b.st⟩ Ab cb ⟨c.ls.take 5, c.ro, c.pl, c.tr, c.due, c.st⟩ Ac cc W (Kd.C_below hqb hb) (Kd.C_below hqc hb))
    (fun W hb => ahead_calls ⟨a.ls.take 5, a.ro, a.pl, a.tr, a.due, a.st⟩ Aa ca ⟨c.ls.take 5, c.ro, c.pl, c.tr, c.due, c.st⟩ Ac cc W (Kd.C_below hqa hb) (Kd.C_below hqc hb))
    (fun W hb => foghornref16_Ahead.calls 1001 Aa ca (a.ls.take 5) a.ro a.pl a.tr a.due a.st Ab cb (b.ls.take 5) b.ro b.pl b.tr b.due b.st _ W (Kd.C_below hqa hb) hka (Kd.C_below hqb hb) hkb (ahead_ref ⟨a.ls.take 5, a.ro, a.pl, a.tr, a.due, a.st⟩ ⟨b.ls.take 5, b.ro, b.pl, b.tr, b.due, b.st⟩ (by show (a.ls.take 5).length ≤ 1000; omega)))
    (fun W hb => foghornref10_Same.calls 1001 Aa ca (a.ls.take 5) Ab cb (b.ls.take 5) _ W (Kd.C_below hqa hb) hka (Kd.C_below hqb hb) hkb (same92_is (a.ls.take 5) (b.ls.take 5) (by omega)))
    (order_case (a.due, a.ls.take 5) (b.due, b.ls.take 5) (c.due, c.ls.take 5))
  have h := ahead_calls ⟨a.ls.take 5, a.ro, a.pl, a.tr, a.due, a.st⟩ Aa ca ⟨a.ls.take 5, a.ro, a.pl, a.tr, a.due, a.st⟩ Aa ca W (Kd.C_below hqa hb) (Kd.C_below hqa hb)
  rw [show ahB a.due (a.ls.take 5) a.due (a.ls.take 5) = false from cD_self (a.due, a.ls.take 5)] at h
  exact h
theorem DutyOrderR (Aa : Option Addr) (ca : Nat) (la : List S92) (roa pla tra dua sta : Int) (Ab : Option Addr) (cb : Nat) (lb : List S92) (rob plb trb dub stb : Int) (Ac : Option Addr) (cc : Nat) (lc : List S92) (roc plc trc duc stc : Int) (w : World) (hra : Kd.C k92 w Aa la.length la) (hla : la.length ≤ ca) (hrb : Kd.C k92 w Ab lb.length lb) (hlb : lb.length ≤ cb) (hrc : Kd.C k92 w Ac lc.length lc) (hlc : lc.length ≤ cc) :
    Calls Try.prog 13 #[.agg #[.slice Aa la.length ca, .int .i64 roa, .int .i64 pla, .int .i64 tra, .int .i64 dua, .int .i64 sta], .agg #[.slice Ab lb.length cb, .int .i64 rob, .int .i64 plb, .int .i64 trb, .int .i64 dub, .int .i64 stb], .agg #[.slice Ac lc.length cc, .int .i64 roc, .int .i64 plc, .int .i64 trc, .int .i64 duc, .int .i64 stc]] w fun e w' => e = .returned (.bool true) ∧ Below w.heap.size w w' :=
  DutyOrder ⟨la, roa, pla, tra, dua, sta⟩ Aa ca ⟨lb, rob, plb, trb, dub, stb⟩ Ab cb ⟨lc, roc, plc, trc, duc, stc⟩ Ac cc w hra hla hrb hlb hrc hlc
end Go.Proofs.Ytkphinfijppkeaa.G
