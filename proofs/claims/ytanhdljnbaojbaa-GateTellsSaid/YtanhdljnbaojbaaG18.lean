/- Contracts of functions of the given program, each proved by a walk of its code: written by gprint.py, this session's program round the kit's print; texts of our own stand among the printed ones. No condition beyond each theorem's own premises. -/
import Derived.Test.YtanhdljnbaojbaaG0
import Derived.Test.YtanhdljnbaojbaaG13
namespace Go.Proofs.Ytanhdljnbaojbaa.G
open Go.RowKit Go.Proofs.YtanhdljnbaojbaaW.PrintWords Go.Proofs.YtanhdljnbaojbaaW.PrintLast Go.Proofs.YtanhdljnbaojbaaW.PrintMore
attribute [local go_sem] max2_int min2_int max_two min_two max_three min_three max_four min_four   -- for this text's walks alone
set_option linter.unusedVariables false
set_option linter.unusedSimpArgs false

/-! ### foghornref07_Right: function 64 -/
def foghornref07_Right.j0 : Nat → Bool → Int → Int → Int → Int → Int → Option (Bool)
  | 0, _, _, _, _, _, _ => none
  | k + 1, x20, x374000, x374001, x374002, x374003, x374004 => if x20 = true then (some false) else (if x374002 = 0 then (if x374003 ≥ 0 then (if x374003 < x374000 then (some (x374004 == 0)) else (some false)) else (some false)) else (if x374002 = 1 then (if x374003 = 0 then ((foghornref05_Right.f x374004).bind fun t374 => (some t374)) else (some false)) else (if x374002 = 2 then (if x374003 = 0 then (some (x374004 == 0)) else (some false)) else (some false))))
def foghornref07_Right.f (k : Nat) (a0_0 : Int) (a0_1 : Int) (a0_2 : Int) (a0_3 : Int) (a0_4 : Int) : Option (Bool) := if a0_0 < 1 then (foghornref07_Right.j0 k true a0_0 a0_1 a0_2 a0_3 a0_4) else (if a0_0 > 100 then (foghornref07_Right.j0 k true a0_0 a0_1 a0_2 a0_3 a0_4) else (if a0_1 < 1 then (foghornref07_Right.j0 k true a0_0 a0_1 a0_2 a0_3 a0_4) else (foghornref07_Right.j0 k (decide (a0_1 > 1048576)) a0_0 a0_1 a0_2 a0_3 a0_4)))
theorem foghornref07_Right.mono_l : ∀ k, (∀ y0 y1 y2 y3 y4 y5, LeO (foghornref07_Right.j0 k y0 y1 y2 y3 y4 y5) (foghornref07_Right.j0 (k + 1) y0 y1 y2 y3 y4 y5))
  | 0 => fun _ _ _ _ _ _ r h => by simp [foghornref07_Right.j0] at h
  | k + 1 => by
    have ih0 := foghornref07_Right.mono_l k
    · intro y0 y1 y2 y3 y4 y5
      unfold foghornref07_Right.j0
      repeat' first
      | (with_reducible exact ih0 _ _ _ _ _ _)
      | (with_reducible exact LeO.refl _)
      | (with_reducible exact LeO.none _)
      | (with_reducible refine LeO.ite ?_ ?_)
      | (with_reducible refine LeO.bind ?_ (fun _ => ?_))
      | exact ih0 _ _ _ _ _ _
      | exact LeO.none _
      | refine LeO.ite ?_ ?_
      | refine LeO.bind ?_ (fun _ => ?_)
theorem foghornref07_Right.mono : ∀ a0 a1 a2 a3 a4 k, LeO (foghornref07_Right.f k a0 a1 a2 a3 a4) (foghornref07_Right.f (k + 1) a0 a1 a2 a3 a4) := by
  intro a0 a1 a2 a3 a4 k
  have ih0 := foghornref07_Right.mono_l k
  unfold foghornref07_Right.f
  repeat' first
      | (with_reducible exact ih0 _ _ _ _ _ _)
      | (with_reducible exact LeO.refl _)
      | (with_reducible exact LeO.none _)
      | (with_reducible refine LeO.ite ?_ ?_)
      | (with_reducible refine LeO.bind ?_ (fun _ => ?_))
      | exact ih0 _ _ _ _ _ _
      | exact LeO.none _
      | refine LeO.ite ?_ ?_
      | refine LeO.bind ?_ (fun _ => ?_)
set_option maxHeartbeats 8000000 in
set_option maxRecDepth 100000 in
theorem foghornref07_Right.calls (k : Nat) (a0_0 : Int) (a0_1 : Int) (a0_2 : Int) (a0_3 : Int) (a0_4 : Int) (r : Bool) (w : World) (h : foghornref07_Right.f k a0_0 a0_1 a0_2 a0_3 a0_4 = some r) :
    Calls Try.prog 64 #[.agg #[.int .i64 a0_0, .int .i64 a0_1, .int .i64 a0_2, .int .i64 a0_3, .int .i64 a0_4]] w fun e w' => e = .returned (.bool r) ∧ Below w.heap.size w w' := by
  have hu32 := Try.underlying32
  have HB := Aside0.mk (Below.refl w.heap.size w)
  have H : (if a0_0 < 1 then (foghornref07_Right.j0 k true a0_0 a0_1 a0_2 a0_3 a0_4) else (if a0_0 > 100 then (foghornref07_Right.j0 k true a0_0 a0_1 a0_2 a0_3 a0_4) else (if a0_1 < 1 then (foghornref07_Right.j0 k true a0_0 a0_1 a0_2 a0_3 a0_4) else (foghornref07_Right.j0 k (decide (a0_1 > 1048576)) a0_0 a0_1 a0_2 a0_3 a0_4)))) = some r := h
  clear h
  have HC2 := Aside0.mk H
  clear H
  go_enter Try.func64, Try.ntmps64
  go_upto_region 1 with (first | ((with_reducible refine gate_dst (N := 1) rfl ?_); refine box_event ?hg (N := 1) ?hd (cs := #[.int .i64 a0_0, .int .i64 a0_1, .int .i64 a0_2, .int .i64 a0_3, .int .i64 a0_4]) (t := 32) ?hr ?_; (case hd => rfl); (case hg => rfl); (case hr => first | (go_simp; done) | (go_simp; rfl)); intro gb373 hg w3 hbox hb; have n0_ := Aside0.mk (below_step (by repeat (first | (with_reducible first | exact HB.out | apply below_alloc | apply pw_below_drewN | apply below_drew1) | exact HB.out)) hb); have n1_ := Aside0.mk (hbox); have n2_ := Aside0.mk ((by rw [hg]; exact (below_size (by repeat (first | (with_reducible first | exact HB.out | apply below_alloc | apply pw_below_drewN | apply below_drew1) | exact HB.out))) : w.heap.size ≤ gb373)); have n3_ := Aside0.mk ((by rw [hg]; exact (below_size (by repeat (first | (with_reducible first | exact HB.out | apply below_alloc | apply pw_below_drewN | apply below_drew1) | exact HB.out))) : w.heap.size ≤ gb373)); clear HB; have HB := n0_; have BK373 := n1_; have GW373 := n2_; have GE373 := n3_; clear n0_ n1_ n2_ n3_; clear hb hbox hg))
  (try simp only [Act.put, List.setIfInBounds_toArray, List.set_cons_zero, List.set_cons_succ])
  go_cut [20] (fun v20 wc => ∃ (kq : Nat) (x20_1 : Bool), v20 = .bool x20_1 ∧ Aside0 (foghornref07_Right.j0 kq x20_1 a0_0 a0_1 a0_2 a0_3 a0_4 = some r) ∧ Aside0 (kq ≤ k) ∧ Aside0 (wc.heap[gb373]? = some (.cells #[.int .i64 a0_0, .int .i64 a0_1, .int .i64 a0_2, .int .i64 a0_3, .int .i64 a0_4] 32 (0, 0))) ∧ Aside0 (Below w.heap.size w wc))
  case first =>
    have H := HC2.out
    clear HC2
    by_cases c4 : a0_0 < 1
    · rw [if_pos c4] at H
      have c4b0 : decide (a0_0 < 1) = true := decide_eq_true c4
      clear c4
      (first | rw [c4b0] | (simp only [i64_w, i32_w]; rw [c4b0]) | skip)
      have H' := Aside0.mk H
      clear H
      have hcz5_0 : w3.cell? ⟨gb373, 0, none⟩ = some (.int .i64 a0_0) := (blk_cell BK373.out 0).trans rfl
      have hcz5_1 : w3.cell? ⟨gb373, 1, none⟩ = some (.int .i64 a0_1) := (blk_cell BK373.out 1).trans rfl
      have hcz5_2 : w3.cell? ⟨gb373, 2, none⟩ = some (.int .i64 a0_2) := (blk_cell BK373.out 2).trans rfl
      have hcz5_3 : w3.cell? ⟨gb373, 3, none⟩ = some (.int .i64 a0_3) := (blk_cell BK373.out 3).trans rfl
      have hcz5_4 : w3.cell? ⟨gb373, 4, none⟩ = some (.int .i64 a0_4) := (blk_cell BK373.out 4).trans rfl
      have hfz5_0 := blk_frozen BK373.out 0
      have hfz5_1 := blk_frozen BK373.out 1
      have hfz5_2 := blk_frozen BK373.out 2
      have hfz5_3 := blk_frozen BK373.out 3
      have hfz5_4 := blk_frozen BK373.out 4
      go_wp2
      go_meet
      case rel => exact ⟨_, (true), (by first | rfl | (simp; done) | (simp [*]; done)), H', ⟨by first | omega | exact Nat.le_refl _⟩, ⟨by (with_reducible repeat (first | refine blk_drewN ?_ _ | refine blk_drew ?_ | refine blk_alloc ?_ _)); exact BK373.out⟩, ⟨by repeat (first | (with_reducible first | exact HB.out | apply below_alloc | apply pw_below_drewN | apply below_drew1 | refine below_set ?_ GE373.out) | exact HB.out)⟩⟩
    · rw [if_neg c4] at H
      have c4b0 : decide (a0_0 < 1) = false := decide_eq_false c4
      clear c4
      (first | rw [c4b0] | (simp only [i64_w, i32_w]; rw [c4b0]) | skip)
      by_cases c6 : a0_0 > 100
      · rw [if_pos c6] at H
        have c6b0 : decide (100 < a0_0) = true := decide_eq_true c6
        clear c6
        have H' := Aside0.mk H
        clear H
        have hcz7_0 : w3.cell? ⟨gb373, 0, none⟩ = some (.int .i64 a0_0) := (blk_cell BK373.out 0).trans rfl
        have hcz7_1 : w3.cell? ⟨gb373, 1, none⟩ = some (.int .i64 a0_1) := (blk_cell BK373.out 1).trans rfl
        have hcz7_2 : w3.cell? ⟨gb373, 2, none⟩ = some (.int .i64 a0_2) := (blk_cell BK373.out 2).trans rfl
        have hcz7_3 : w3.cell? ⟨gb373, 3, none⟩ = some (.int .i64 a0_3) := (blk_cell BK373.out 3).trans rfl
        have hcz7_4 : w3.cell? ⟨gb373, 4, none⟩ = some (.int .i64 a0_4) := (blk_cell BK373.out 4).trans rfl
        have hfz7_0 := blk_frozen BK373.out 0
        have hfz7_1 := blk_frozen BK373.out 1
        have hfz7_2 := blk_frozen BK373.out 2
        have hfz7_3 := blk_frozen BK373.out 3
        have hfz7_4 := blk_frozen BK373.out 4
        go_wp2
        go_meet
        case rel => exact ⟨_, (true), (by first | rfl | (simp; done) | (simp [*]; done)), H', ⟨by first | omega | exact Nat.le_refl _⟩, ⟨by (with_reducible repeat (first | refine blk_drewN ?_ _ | refine blk_drew ?_ | refine blk_alloc ?_ _)); exact BK373.out⟩, ⟨by repeat (first | (with_reducible first | exact HB.out | apply below_alloc | apply pw_below_drewN | apply below_drew1 | refine below_set ?_ GE373.out) | exact HB.out)⟩⟩
      · rw [if_neg c6] at H
        have c6b0 : decide (100 < a0_0) = false := decide_eq_false c6
        clear c6
        by_cases c8 : a0_1 < 1
        · rw [if_pos c8] at H
          have c8b0 : decide (a0_1 < 1) = true := decide_eq_true c8
          clear c8
          have H' := Aside0.mk H
          clear H
          have hcz9_0 : w3.cell? ⟨gb373, 0, none⟩ = some (.int .i64 a0_0) := (blk_cell BK373.out 0).trans rfl
          have hcz9_1 : w3.cell? ⟨gb373, 1, none⟩ = some (.int .i64 a0_1) := (blk_cell BK373.out 1).trans rfl
          have hcz9_2 : w3.cell? ⟨gb373, 2, none⟩ = some (.int .i64 a0_2) := (blk_cell BK373.out 2).trans rfl
          have hcz9_3 : w3.cell? ⟨gb373, 3, none⟩ = some (.int .i64 a0_3) := (blk_cell BK373.out 3).trans rfl
          have hcz9_4 : w3.cell? ⟨gb373, 4, none⟩ = some (.int .i64 a0_4) := (blk_cell BK373.out 4).trans rfl
          have hfz9_0 := blk_frozen BK373.out 0
          have hfz9_1 := blk_frozen BK373.out 1
          have hfz9_2 := blk_frozen BK373.out 2
          have hfz9_3 := blk_frozen BK373.out 3
          have hfz9_4 := blk_frozen BK373.out 4
          go_wp2
          go_meet
          case rel => exact ⟨_, (true), (by first | rfl | (simp; done) | (simp [*]; done)), H', ⟨by first | omega | exact Nat.le_refl _⟩, ⟨by (with_reducible repeat (first | refine blk_drewN ?_ _ | refine blk_drew ?_ | refine blk_alloc ?_ _)); exact BK373.out⟩, ⟨by repeat (first | (with_reducible first | exact HB.out | apply below_alloc | apply pw_below_drewN | apply below_drew1 | refine below_set ?_ GE373.out) | exact HB.out)⟩⟩
        · rw [if_neg c8] at H
          have c8b0 : decide (a0_1 < 1) = false := decide_eq_false c8
          clear c8
          have H' := Aside0.mk H
          clear H
          have hcz10_0 : w3.cell? ⟨gb373, 0, none⟩ = some (.int .i64 a0_0) := (blk_cell BK373.out 0).trans rfl
          have hcz10_1 : w3.cell? ⟨gb373, 1, none⟩ = some (.int .i64 a0_1) := (blk_cell BK373.out 1).trans rfl
          have hcz10_2 : w3.cell? ⟨gb373, 2, none⟩ = some (.int .i64 a0_2) := (blk_cell BK373.out 2).trans rfl
          have hcz10_3 : w3.cell? ⟨gb373, 3, none⟩ = some (.int .i64 a0_3) := (blk_cell BK373.out 3).trans rfl
          have hcz10_4 : w3.cell? ⟨gb373, 4, none⟩ = some (.int .i64 a0_4) := (blk_cell BK373.out 4).trans rfl
          have hfz10_0 := blk_frozen BK373.out 0
          have hfz10_1 := blk_frozen BK373.out 1
          have hfz10_2 := blk_frozen BK373.out 2
          have hfz10_3 := blk_frozen BK373.out 3
          have hfz10_4 := blk_frozen BK373.out 4
          go_wp2
          go_meet
          case rel => exact ⟨_, (decide (a0_1 > 1048576)), (by first | rfl | (simp; done) | (simp [*]; done)), H', ⟨by first | omega | exact Nat.le_refl _⟩, ⟨by (with_reducible repeat (first | refine blk_drewN ?_ _ | refine blk_drew ?_ | refine blk_alloc ?_ _)); exact BK373.out⟩, ⟨by repeat (first | (with_reducible first | exact HB.out | apply below_alloc | apply pw_below_drewN | apply below_drew1 | refine below_set ?_ GE373.out) | exact HB.out)⟩⟩
  case rest =>
    clear HC2
    try clear p2
    try clear c4
    try clear c4b0
    try clear c6
    try clear c6b0
    try clear c8
    try clear c8b0
    try clear hcz10_0
    try clear hcz10_1
    try clear hcz10_2
    try clear hcz10_3
    try clear hcz10_4
    try clear hcz5_0
    try clear hcz5_1
    try clear hcz5_2
    try clear hcz5_3
    try clear hcz5_4
    try clear hcz7_0
    try clear hcz7_1
    try clear hcz7_2
    try clear hcz7_3
    try clear hcz7_4
    try clear hcz9_0
    try clear hcz9_1
    try clear hcz9_2
    try clear hcz9_3
    try clear hcz9_4
    try clear hfz10_0
    try clear hfz10_1
    try clear hfz10_2
    try clear hfz10_3
    try clear hfz10_4
    try clear hfz5_0
    try clear hfz5_1
    try clear hfz5_2
    try clear hfz5_3
    try clear hfz5_4
    try clear hfz7_0
    try clear hfz7_1
    try clear hfz7_2
    try clear hfz7_3
    try clear hfz7_4
    try clear hfz9_0
    try clear hfz9_1
    try clear hfz9_2
    try clear hfz9_3
    try clear hfz9_4
    obtain ⟨kq, x20_1, rfl, HA, HJ1, BK373, HB⟩ := hcut
    cases kq with
    | zero => exact absurd HA.out (by simp [foghornref07_Right.j0])
    | succ kj1 =>
      have H := HA.out
      clear HA
      simp only [foghornref07_Right.j0] at H
      by_cases c11 : x20_1 = true
      · subst c11
        have H1 : (some false) = some r := by rw [if_pos rfl] at H; exact H
        clear H
        have H := H1
        clear H1
        obtain rfl := Option.some.inj H
        go_wp2
        go_ret
        exact ⟨by first | rfl | (simp [errW_none, errW_some] <;> rfl) | (simp [*, errW_none, errW_some] <;> rfl), by repeat (first | (with_reducible first | exact HB.out | apply below_alloc | apply pw_below_drewN | apply below_drew1 | refine below_set ?_ GE373.out) | exact HB.out)⟩
      · replace c11 := Bool.eq_false_iff.mpr c11
        subst c11
        have H1 : (if a0_2 = 0 then (if a0_3 ≥ 0 then (if a0_3 < a0_0 then (some (a0_4 == 0)) else (some false)) else (some false)) else (if a0_2 = 1 then (if a0_3 = 0 then ((foghornref05_Right.f a0_4).bind fun t374 => (some t374)) else (some false)) else (if a0_2 = 2 then (if a0_3 = 0 then (some (a0_4 == 0)) else (some false)) else (some false)))) = some r := by rw [if_neg (show ¬ (false = true) by decide)] at H; exact H
        clear H
        have H := H1
        clear H1
        by_cases c12 : a0_2 = 0
        · rw [if_pos c12] at H
          have c12b0 : (a0_2 == 0) = true := beq_iff_eq.mpr c12
          have c12b1 : (a0_2 != 0) = false := bne_eq_false_iff_eq.mpr c12
          clear c12
          by_cases c13 : a0_3 ≥ 0
          · rw [if_pos c13] at H
            have c13b0 : decide (0 ≤ a0_3) = true := decide_eq_true c13
            clear c13
            by_cases c14 : a0_3 < a0_0
            · rw [if_pos c14] at H
              have c14b0 : decide (a0_3 < a0_0) = true := decide_eq_true c14
              clear c14
              obtain rfl := Option.some.inj H
              have hcz15_0 : wc.cell? ⟨gb373, 0, none⟩ = some (.int .i64 a0_0) := (blk_cell BK373.out 0).trans rfl
              have hcz15_1 : wc.cell? ⟨gb373, 1, none⟩ = some (.int .i64 a0_1) := (blk_cell BK373.out 1).trans rfl
              have hcz15_2 : wc.cell? ⟨gb373, 2, none⟩ = some (.int .i64 a0_2) := (blk_cell BK373.out 2).trans rfl
              have hcz15_3 : wc.cell? ⟨gb373, 3, none⟩ = some (.int .i64 a0_3) := (blk_cell BK373.out 3).trans rfl
              have hcz15_4 : wc.cell? ⟨gb373, 4, none⟩ = some (.int .i64 a0_4) := (blk_cell BK373.out 4).trans rfl
              have hfz15_0 := blk_frozen BK373.out 0
              have hfz15_1 := blk_frozen BK373.out 1
              have hfz15_2 := blk_frozen BK373.out 2
              have hfz15_3 := blk_frozen BK373.out 3
              have hfz15_4 := blk_frozen BK373.out 4
              go_wp2
              go_ret
              exact ⟨by first | rfl | (simp [errW_none, errW_some] <;> rfl) | (simp [*, errW_none, errW_some] <;> rfl), by repeat (first | (with_reducible first | exact HB.out | apply below_alloc | apply pw_below_drewN | apply below_drew1 | refine below_set ?_ GE373.out) | exact HB.out)⟩
            · rw [if_neg c14] at H
              have c14b0 : decide (a0_3 < a0_0) = false := decide_eq_false c14
              clear c14
              obtain rfl := Option.some.inj H
              have hcz16_0 : wc.cell? ⟨gb373, 0, none⟩ = some (.int .i64 a0_0) := (blk_cell BK373.out 0).trans rfl
              have hcz16_1 : wc.cell? ⟨gb373, 1, none⟩ = some (.int .i64 a0_1) := (blk_cell BK373.out 1).trans rfl
              have hcz16_2 : wc.cell? ⟨gb373, 2, none⟩ = some (.int .i64 a0_2) := (blk_cell BK373.out 2).trans rfl
              have hcz16_3 : wc.cell? ⟨gb373, 3, none⟩ = some (.int .i64 a0_3) := (blk_cell BK373.out 3).trans rfl
              have hcz16_4 : wc.cell? ⟨gb373, 4, none⟩ = some (.int .i64 a0_4) := (blk_cell BK373.out 4).trans rfl
              have hfz16_0 := blk_frozen BK373.out 0
              have hfz16_1 := blk_frozen BK373.out 1
              have hfz16_2 := blk_frozen BK373.out 2
              have hfz16_3 := blk_frozen BK373.out 3
              have hfz16_4 := blk_frozen BK373.out 4
              go_wp2
              go_ret
              exact ⟨by first | rfl | (simp [errW_none, errW_some] <;> rfl) | (simp [*, errW_none, errW_some] <;> rfl), by repeat (first | (with_reducible first | exact HB.out | apply below_alloc | apply pw_below_drewN | apply below_drew1 | refine below_set ?_ GE373.out) | exact HB.out)⟩
          · rw [if_neg c13] at H
            have c13b0 : decide (0 ≤ a0_3) = false := decide_eq_false c13
            clear c13
            obtain rfl := Option.some.inj H
            have hcz17_0 : wc.cell? ⟨gb373, 0, none⟩ = some (.int .i64 a0_0) := (blk_cell BK373.out 0).trans rfl
            have hcz17_1 : wc.cell? ⟨gb373, 1, none⟩ = some (.int .i64 a0_1) := (blk_cell BK373.out 1).trans rfl
            have hcz17_2 : wc.cell? ⟨gb373, 2, none⟩ = some (.int .i64 a0_2) := (blk_cell BK373.out 2).trans rfl
            have hcz17_3 : wc.cell? ⟨gb373, 3, none⟩ = some (.int .i64 a0_3) := (blk_cell BK373.out 3).trans rfl
            have hcz17_4 : wc.cell? ⟨gb373, 4, none⟩ = some (.int .i64 a0_4) := (blk_cell BK373.out 4).trans rfl
            have hfz17_0 := blk_frozen BK373.out 0
            have hfz17_1 := blk_frozen BK373.out 1
            have hfz17_2 := blk_frozen BK373.out 2
            have hfz17_3 := blk_frozen BK373.out 3
            have hfz17_4 := blk_frozen BK373.out 4
            go_wp2
            go_ret
            exact ⟨by first | rfl | (simp [errW_none, errW_some] <;> rfl) | (simp [*, errW_none, errW_some] <;> rfl), by repeat (first | (with_reducible first | exact HB.out | apply below_alloc | apply pw_below_drewN | apply below_drew1 | refine below_set ?_ GE373.out) | exact HB.out)⟩
        · rw [if_neg c12] at H
          have c12b0 : (a0_2 == 0) = false := beq_eq_false_iff_ne.mpr c12
          have c12b1 : (a0_2 != 0) = true := bne_iff_ne.mpr c12
          by_cases c18 : a0_2 = 1
          · rw [if_pos c18] at H
            have c18b0 : (a0_2 == 1) = true := beq_iff_eq.mpr c18
            have c18b1 : (a0_2 != 1) = false := bne_eq_false_iff_eq.mpr c18
            clear c18
            by_cases c19 : a0_3 = 0
            · rw [if_pos c19] at H
              have c19b0 : (a0_3 == 0) = true := beq_iff_eq.mpr c19
              have c19b1 : (a0_3 != 0) = false := bne_eq_false_iff_eq.mpr c19
              clear c19
              replace H := Option.bind_eq_some_iff.mp H
              obtain ⟨t374, A200, H⟩ := H
              replace H : (some t374) = some r := H
              have A20 := Aside0.mk A200
              clear A200
              obtain rfl := Option.some.inj H
              have hcz21_0 : wc.cell? ⟨gb373, 0, none⟩ = some (.int .i64 a0_0) := (blk_cell BK373.out 0).trans rfl
              have hcz21_1 : wc.cell? ⟨gb373, 1, none⟩ = some (.int .i64 a0_1) := (blk_cell BK373.out 1).trans rfl
              have hcz21_2 : wc.cell? ⟨gb373, 2, none⟩ = some (.int .i64 a0_2) := (blk_cell BK373.out 2).trans rfl
              have hcz21_3 : wc.cell? ⟨gb373, 3, none⟩ = some (.int .i64 a0_3) := (blk_cell BK373.out 3).trans rfl
              have hcz21_4 : wc.cell? ⟨gb373, 4, none⟩ = some (.int .i64 a0_4) := (blk_cell BK373.out 4).trans rfl
              have hfz21_0 := blk_frozen BK373.out 0
              have hfz21_1 := blk_frozen BK373.out 1
              have hfz21_2 := blk_frozen BK373.out 2
              have hfz21_3 := blk_frozen BK373.out 3
              have hfz21_4 := blk_frozen BK373.out 4
              go_wp2_with (first | (go_at_call 24; (with_reducible refine (foghornref05_Right.calls a0_4 t374 _ A20.out).mono ?_); rintro e w' ⟨rfl, ⟨nd, rfl⟩⟩))
              go_ret
              exact ⟨by first | rfl | (simp [errW_none, errW_some] <;> rfl) | (simp [*, errW_none, errW_some] <;> rfl), by repeat (first | (with_reducible first | exact HB.out | apply below_alloc | apply pw_below_drewN | apply below_drew1 | refine below_set ?_ GE373.out) | exact HB.out)⟩
            · rw [if_neg c19] at H
              have c19b0 : (a0_3 == 0) = false := beq_eq_false_iff_ne.mpr c19
              have c19b1 : (a0_3 != 0) = true := bne_iff_ne.mpr c19
              obtain rfl := Option.some.inj H
              have hcz22_0 : wc.cell? ⟨gb373, 0, none⟩ = some (.int .i64 a0_0) := (blk_cell BK373.out 0).trans rfl
              have hcz22_1 : wc.cell? ⟨gb373, 1, none⟩ = some (.int .i64 a0_1) := (blk_cell BK373.out 1).trans rfl
              have hcz22_2 : wc.cell? ⟨gb373, 2, none⟩ = some (.int .i64 a0_2) := (blk_cell BK373.out 2).trans rfl
              have hcz22_3 : wc.cell? ⟨gb373, 3, none⟩ = some (.int .i64 a0_3) := (blk_cell BK373.out 3).trans rfl
              have hcz22_4 : wc.cell? ⟨gb373, 4, none⟩ = some (.int .i64 a0_4) := (blk_cell BK373.out 4).trans rfl
              have hfz22_0 := blk_frozen BK373.out 0
              have hfz22_1 := blk_frozen BK373.out 1
              have hfz22_2 := blk_frozen BK373.out 2
              have hfz22_3 := blk_frozen BK373.out 3
              have hfz22_4 := blk_frozen BK373.out 4
              go_wp2
              go_ret
              exact ⟨by first | rfl | (simp [errW_none, errW_some] <;> rfl) | (simp [*, errW_none, errW_some] <;> rfl), by repeat (first | (with_reducible first | exact HB.out | apply below_alloc | apply pw_below_drewN | apply below_drew1 | refine below_set ?_ GE373.out) | exact HB.out)⟩
          · rw [if_neg c18] at H
            have c18b0 : (a0_2 == 1) = false := beq_eq_false_iff_ne.mpr c18
            have c18b1 : (a0_2 != 1) = true := bne_iff_ne.mpr c18
            by_cases c23 : a0_2 = 2
            · rw [if_pos c23] at H
              have c23b0 : (a0_2 == 2) = true := beq_iff_eq.mpr c23
              have c23b1 : (a0_2 != 2) = false := bne_eq_false_iff_eq.mpr c23
              clear c23
              by_cases c24 : a0_3 = 0
              · rw [if_pos c24] at H
                have c24b0 : (a0_3 == 0) = true := beq_iff_eq.mpr c24
                have c24b1 : (a0_3 != 0) = false := bne_eq_false_iff_eq.mpr c24
                clear c24
                obtain rfl := Option.some.inj H
                have hcz25_0 : wc.cell? ⟨gb373, 0, none⟩ = some (.int .i64 a0_0) := (blk_cell BK373.out 0).trans rfl
                have hcz25_1 : wc.cell? ⟨gb373, 1, none⟩ = some (.int .i64 a0_1) := (blk_cell BK373.out 1).trans rfl
                have hcz25_2 : wc.cell? ⟨gb373, 2, none⟩ = some (.int .i64 a0_2) := (blk_cell BK373.out 2).trans rfl
                have hcz25_3 : wc.cell? ⟨gb373, 3, none⟩ = some (.int .i64 a0_3) := (blk_cell BK373.out 3).trans rfl
                have hcz25_4 : wc.cell? ⟨gb373, 4, none⟩ = some (.int .i64 a0_4) := (blk_cell BK373.out 4).trans rfl
                have hfz25_0 := blk_frozen BK373.out 0
                have hfz25_1 := blk_frozen BK373.out 1
                have hfz25_2 := blk_frozen BK373.out 2
                have hfz25_3 := blk_frozen BK373.out 3
                have hfz25_4 := blk_frozen BK373.out 4
                go_wp2
                go_ret
                exact ⟨by first | rfl | (simp [errW_none, errW_some] <;> rfl) | (simp [*, errW_none, errW_some] <;> rfl), by repeat (first | (with_reducible first | exact HB.out | apply below_alloc | apply pw_below_drewN | apply below_drew1 | refine below_set ?_ GE373.out) | exact HB.out)⟩
              · rw [if_neg c24] at H
                have c24b0 : (a0_3 == 0) = false := beq_eq_false_iff_ne.mpr c24
                have c24b1 : (a0_3 != 0) = true := bne_iff_ne.mpr c24
                obtain rfl := Option.some.inj H
                have hcz26_0 : wc.cell? ⟨gb373, 0, none⟩ = some (.int .i64 a0_0) := (blk_cell BK373.out 0).trans rfl
                have hcz26_1 : wc.cell? ⟨gb373, 1, none⟩ = some (.int .i64 a0_1) := (blk_cell BK373.out 1).trans rfl
                have hcz26_2 : wc.cell? ⟨gb373, 2, none⟩ = some (.int .i64 a0_2) := (blk_cell BK373.out 2).trans rfl
                have hcz26_3 : wc.cell? ⟨gb373, 3, none⟩ = some (.int .i64 a0_3) := (blk_cell BK373.out 3).trans rfl
                have hcz26_4 : wc.cell? ⟨gb373, 4, none⟩ = some (.int .i64 a0_4) := (blk_cell BK373.out 4).trans rfl
                have hfz26_0 := blk_frozen BK373.out 0
                have hfz26_1 := blk_frozen BK373.out 1
                have hfz26_2 := blk_frozen BK373.out 2
                have hfz26_3 := blk_frozen BK373.out 3
                have hfz26_4 := blk_frozen BK373.out 4
                go_wp2
                go_ret
                exact ⟨by first | rfl | (simp [errW_none, errW_some] <;> rfl) | (simp [*, errW_none, errW_some] <;> rfl), by repeat (first | (with_reducible first | exact HB.out | apply below_alloc | apply pw_below_drewN | apply below_drew1 | refine below_set ?_ GE373.out) | exact HB.out)⟩
            · rw [if_neg c23] at H
              have c23b0 : (a0_2 == 2) = false := beq_eq_false_iff_ne.mpr c23
              have c23b1 : (a0_2 != 2) = true := bne_iff_ne.mpr c23
              obtain rfl := Option.some.inj H
              have hcz27_0 : wc.cell? ⟨gb373, 0, none⟩ = some (.int .i64 a0_0) := (blk_cell BK373.out 0).trans rfl
              have hcz27_1 : wc.cell? ⟨gb373, 1, none⟩ = some (.int .i64 a0_1) := (blk_cell BK373.out 1).trans rfl
              have hcz27_2 : wc.cell? ⟨gb373, 2, none⟩ = some (.int .i64 a0_2) := (blk_cell BK373.out 2).trans rfl
              have hcz27_3 : wc.cell? ⟨gb373, 3, none⟩ = some (.int .i64 a0_3) := (blk_cell BK373.out 3).trans rfl
              have hcz27_4 : wc.cell? ⟨gb373, 4, none⟩ = some (.int .i64 a0_4) := (blk_cell BK373.out 4).trans rfl
              have hfz27_0 := blk_frozen BK373.out 0
              have hfz27_1 := blk_frozen BK373.out 1
              have hfz27_2 := blk_frozen BK373.out 2
              have hfz27_3 := blk_frozen BK373.out 3
              have hfz27_4 := blk_frozen BK373.out 4
              go_wp2
              go_ret
              exact ⟨by first | rfl | (simp [errW_none, errW_some] <;> rfl) | (simp [*, errW_none, errW_some] <;> rfl), by repeat (first | (with_reducible first | exact HB.out | apply below_alloc | apply pw_below_drewN | apply below_drew1 | refine below_set ?_ GE373.out) | exact HB.out)⟩

end Go.Proofs.Ytanhdljnbaojbaa.G
