/- Contracts of functions of the given program, each proved by a walk of its code: written by gprint.py, this session's program round the kit's print; texts of our own stand among the printed ones. No condition beyond each theorem's own premises. -/
import Derived.Test.YtanhdljnbaojbaaG0
import Derived.Test.YtanhdljnbaojbaaG4
import Derived.Test.YtanhdljnbaojbaaG7
import Derived.Test.YtanhdljnbaojbaaG10
import Derived.Test.YtanhdljnbaojbaaG15
namespace Go.Proofs.Ytanhdljnbaojbaa.G
open Go.RowKit Go.Proofs.YtanhdljnbaojbaaW.PrintWords Go.Proofs.YtanhdljnbaojbaaW.PrintLast Go.Proofs.YtanhdljnbaojbaaW.PrintMore
attribute [local go_sem] max2_int min2_int max_two min_two max_three min_three max_four min_four   -- for this text's walks alone
set_option linter.unusedVariables false
set_option linter.unusedSimpArgs false

/-! ### breaker_Told: function 61 -/
mutual
def breaker_Told.j0 : Nat → Int → Bool → Bool → Int → Int → Int → Int → Int → Option (Int × Int × Int × Int × Int × Int)
  | 0, _, _, _, _, _, _, _, _ => none
  | k + 1, x1, x2, x8, x348000, x348001, x348002, x348003, x348004 => if x8 = true then (some (0, 0, 0, 0, 0, 1)) else (if x348002 = 1 then (some (0, 0, 0, 0, 0, 6)) else (if x2 = true then ((breaker_fresh.f x348000 x348001 x348002 x348003 x348004 0).bind fun bt351 => (some (bt351.1, bt351.2.1, bt351.2.2.1, bt351.2.2.2.1, bt351.2.2.2.2, 0))) else (if x348002 = 0 then (breaker_Told.j1 k x1 (decide (x348003 < (wrap64 (x348000 - 1)))) x348000 x348001 x348002 x348003 x348004) else (breaker_Told.j1 k x1 false x348000 x348001 x348002 x348003 x348004))))
def breaker_Told.j1 : Nat → Int → Bool → Int → Int → Int → Int → Int → Option (Int × Int × Int × Int × Int × Int)
  | 0, _, _, _, _, _, _, _ => none
  | k + 1, x1, x27, x348000, x348001, x348002, x348003, x348004 => if x27 = true then (some (x348000, x348001, x348002, wrap64 (x348003 + 1), x348004, 0)) else ((breaker_fresh.f x348000 x348001 x348002 x348003 x348004 1).bind fun bt356 => ((tick_Add.f x1 bt356.2.1).bind fun bt361 => (some (bt356.1, bt356.2.1, bt356.2.2.1, bt356.2.2.2.1, bt361.1, 0))))
end
def breaker_Told.f (k : Nat) (a0_0 : Int) (a0_1 : Int) (a0_2 : Int) (a0_3 : Int) (a0_4 : Int) (a1 : Int) (a2 : Bool) : Option (Int × Int × Int × Int × Int × Int) := (breaker_Right.f k a0_0 a0_1 a0_2 a0_3 a0_4).bind fun t349 => (if t349 = true then ((tick_Right.f a1).bind fun t350 => (breaker_Told.j0 k a1 a2 (!t350) a0_0 a0_1 a0_2 a0_3 a0_4)) else (breaker_Told.j0 k a1 a2 true a0_0 a0_1 a0_2 a0_3 a0_4))
theorem breaker_Told.mono_l : ∀ k, (∀ y0 y1 y2 y3 y4 y5 y6 y7, LeO (breaker_Told.j0 k y0 y1 y2 y3 y4 y5 y6 y7) (breaker_Told.j0 (k + 1) y0 y1 y2 y3 y4 y5 y6 y7)) ∧ (∀ y0 y1 y2 y3 y4 y5 y6, LeO (breaker_Told.j1 k y0 y1 y2 y3 y4 y5 y6) (breaker_Told.j1 (k + 1) y0 y1 y2 y3 y4 y5 y6))
  | 0 => ⟨fun _ _ _ _ _ _ _ _ r h => by simp [breaker_Told.j0] at h, fun _ _ _ _ _ _ _ r h => by simp [breaker_Told.j1] at h⟩
  | k + 1 => by
    obtain ⟨ih0, ih1⟩ := breaker_Told.mono_l k
    refine ⟨?_, ?_⟩
    · intro y0 y1 y2 y3 y4 y5 y6 y7
      unfold breaker_Told.j0
      repeat' first
      | (with_reducible exact ih0 _ _ _ _ _ _ _ _)
      | (with_reducible exact ih1 _ _ _ _ _ _ _)
      | (with_reducible exact breaker_Right.mono _ _ _ _ _ _)
      | (with_reducible exact LeO.refl _)
      | (with_reducible exact LeO.none _)
      | (with_reducible refine LeO.ite ?_ ?_)
      | (with_reducible refine LeO.bind ?_ (fun _ => ?_))
      | exact ih0 _ _ _ _ _ _ _ _
      | exact ih1 _ _ _ _ _ _ _
      | exact breaker_Right.mono _ _ _ _ _ _
      | exact LeO.none _
      | refine LeO.ite ?_ ?_
      | refine LeO.bind ?_ (fun _ => ?_)
    · intro y0 y1 y2 y3 y4 y5 y6
      unfold breaker_Told.j1
      repeat' first
      | (with_reducible exact ih0 _ _ _ _ _ _ _ _)
      | (with_reducible exact ih1 _ _ _ _ _ _ _)
      | (with_reducible exact breaker_Right.mono _ _ _ _ _ _)
      | (with_reducible exact LeO.refl _)
      | (with_reducible exact LeO.none _)
      | (with_reducible refine LeO.ite ?_ ?_)
      | (with_reducible refine LeO.bind ?_ (fun _ => ?_))
      | exact ih0 _ _ _ _ _ _ _ _
      | exact ih1 _ _ _ _ _ _ _
      | exact breaker_Right.mono _ _ _ _ _ _
      | exact LeO.none _
      | refine LeO.ite ?_ ?_
      | refine LeO.bind ?_ (fun _ => ?_)
theorem breaker_Told.mono : ∀ a0 a1 a2 a3 a4 a5 a6 k, LeO (breaker_Told.f k a0 a1 a2 a3 a4 a5 a6) (breaker_Told.f (k + 1) a0 a1 a2 a3 a4 a5 a6) := by
  intro a0 a1 a2 a3 a4 a5 a6 k
  obtain ⟨ih0, ih1⟩ := breaker_Told.mono_l k
  unfold breaker_Told.f
  repeat' first
      | (with_reducible exact ih0 _ _ _ _ _ _ _ _)
      | (with_reducible exact ih1 _ _ _ _ _ _ _)
      | (with_reducible exact breaker_Right.mono _ _ _ _ _ _)
      | (with_reducible exact LeO.refl _)
      | (with_reducible exact LeO.none _)
      | (with_reducible refine LeO.ite ?_ ?_)
      | (with_reducible refine LeO.bind ?_ (fun _ => ?_))
      | exact ih0 _ _ _ _ _ _ _ _
      | exact ih1 _ _ _ _ _ _ _
      | exact breaker_Right.mono _ _ _ _ _ _
      | exact LeO.none _
      | refine LeO.ite ?_ ?_
      | refine LeO.bind ?_ (fun _ => ?_)
set_option maxHeartbeats 8000000 in
set_option maxRecDepth 100000 in
theorem breaker_Told.calls (k : Nat) (a0_0 : Int) (a0_1 : Int) (a0_2 : Int) (a0_3 : Int) (a0_4 : Int) (a1 : Int) (a2 : Bool) (r1 : Int) (r2 : Int) (r3 : Int) (r4 : Int) (r5 : Int) (r6 : Int) (w : World) (h : breaker_Told.f k a0_0 a0_1 a0_2 a0_3 a0_4 a1 a2 = some (r1, r2, r3, r4, r5, r6)) :
    Calls Try.prog 61 #[.agg #[.int .i64 a0_0, .int .i64 a0_1, .int .i64 a0_2, .int .i64 a0_3, .int .i64 a0_4], .int .i64 a1, .bool a2] w fun e w' => e = .returned (.tuple #[.agg #[.int .i64 r1, .int .i64 r2, .int .i64 r3, .int .i64 r4, .int .i64 r5], .int .i64 r6]) ∧ Below w.heap.size w w' := by
  have hu32 := Try.underlying32
  have HB := Aside0.mk (Below.refl w.heap.size w)
  have H : ((breaker_Right.f k a0_0 a0_1 a0_2 a0_3 a0_4).bind fun t349 => (if t349 = true then ((tick_Right.f a1).bind fun t350 => (breaker_Told.j0 k a1 a2 (!t350) a0_0 a0_1 a0_2 a0_3 a0_4)) else (breaker_Told.j0 k a1 a2 true a0_0 a0_1 a0_2 a0_3 a0_4))) = some (r1, r2, r3, r4, r5, r6) := h
  clear h
  have HC4 := Aside0.mk H
  clear H
  go_enter Try.func61, Try.ntmps61
  go_upto_region 1 with (first | ((with_reducible refine gate_dst (N := 3) rfl ?_); refine box_event ?hg (N := 3) ?hd (cs := #[.int .i64 a0_0, .int .i64 a0_1, .int .i64 a0_2, .int .i64 a0_3, .int .i64 a0_4]) (t := 32) ?hr ?_; (case hd => rfl); (case hg => rfl); (case hr => first | (go_simp; done) | (go_simp; rfl)); intro gb347 hg w5 hbox hb; have n0_ := Aside0.mk (below_step (by repeat (first | (with_reducible first | exact HB.out | apply below_alloc | apply pw_below_drewN | apply below_drew1) | exact HB.out)) hb); have n1_ := Aside0.mk (hbox); have n2_ := Aside0.mk ((by rw [hg]; exact (below_size (by repeat (first | (with_reducible first | exact HB.out | apply below_alloc | apply pw_below_drewN | apply below_drew1) | exact HB.out))) : w.heap.size ≤ gb347)); have n3_ := Aside0.mk ((by rw [hg]; exact (below_size (by repeat (first | (with_reducible first | exact HB.out | apply below_alloc | apply pw_below_drewN | apply below_drew1) | exact HB.out))) : w.heap.size ≤ gb347)); clear HB; have HB := n0_; have BK347 := n1_; have GW347 := n2_; have GE347 := n3_; clear n0_ n1_ n2_ n3_; clear hb hbox hg) | ((with_reducible refine gate_dst (N := 6) rfl ?_); refine box_event ?hg (N := 6) ?hd (cs := #[.int .i64 0, .int .i64 0, .int .i64 0, .int .i64 0, .int .i64 0]) (t := 32) ?hr ?_; (case hd => rfl); (case hg => rfl); (case hr => first | (go_simp; done) | (go_simp; rfl)); intro gb348 hg w6 hbox hb; have n0_ := Aside0.mk (blk_below (g := gb347) (o := .cells #[.int .i64 a0_0, .int .i64 a0_1, .int .i64 a0_2, .int .i64 a0_3, .int .i64 a0_4] 32 (0, 0)) (by (with_reducible repeat (first | refine blk_drewN ?_ _ | refine blk_drew ?_ | refine blk_alloc ?_ _)); exact BK347.out) hb); have n1_ := Aside0.mk (below_step (by repeat (first | (with_reducible first | exact HB.out | apply below_alloc | apply pw_below_drewN | apply below_drew1 | refine below_set ?_ GE347.out) | exact HB.out)) hb); have n2_ := Aside0.mk (hbox); have n3_ := Aside0.mk ((by rw [hg]; exact (below_size (by repeat (first | (with_reducible first | exact HB.out | apply below_alloc | apply pw_below_drewN | apply below_drew1 | refine below_set ?_ GE347.out) | exact HB.out))) : w.heap.size ≤ gb348)); have n4_ := Aside0.mk ((by rw [hg]; exact (below_size (by repeat (first | (with_reducible first | exact HB.out | apply below_alloc | apply pw_below_drewN | apply below_drew1 | refine below_set ?_ GE347.out) | exact HB.out))) : w.heap.size ≤ gb348)); have n5_ := Aside0.mk ((by rw [hg]; exact Nat.ne_of_lt (blk_lt (g := gb347) (o := .cells #[.int .i64 a0_0, .int .i64 a0_1, .int .i64 a0_2, .int .i64 a0_3, .int .i64 a0_4] 32 (0, 0)) (by (with_reducible repeat (first | refine blk_drewN ?_ _ | refine blk_drew ?_ | refine blk_alloc ?_ _)); exact BK347.out)) : gb347 ≠ gb348)); have n6_ := Aside0.mk ((by rw [hg]; exact Nat.ne_of_gt (blk_lt (g := gb347) (o := .cells #[.int .i64 a0_0, .int .i64 a0_1, .int .i64 a0_2, .int .i64 a0_3, .int .i64 a0_4] 32 (0, 0)) (by (with_reducible repeat (first | refine blk_drewN ?_ _ | refine blk_drew ?_ | refine blk_alloc ?_ _)); exact BK347.out)) : gb348 ≠ gb347)); clear BK347; clear HB; have BK347 := n0_; have HB := n1_; have BK348 := n2_; have GW348 := n3_; have GE348 := n4_; have NB347_348 := n5_; have NB348_347 := n6_; clear n0_ n1_ n2_ n3_ n4_ n5_ n6_; clear hb hbox hg))
  (try simp only [Act.put, List.setIfInBounds_toArray, List.set_cons_zero, List.set_cons_succ])
  go_cut [8] (fun v8 wc => ∃ (kq : Nat) (x8_3 : Bool), v8 = .bool x8_3 ∧ Aside0 (breaker_Told.j0 kq a1 a2 x8_3 a0_0 a0_1 a0_2 a0_3 a0_4 = some (r1, r2, r3, r4, r5, r6)) ∧ Aside0 (kq ≤ k) ∧ Aside0 (wc.heap[gb347]? = some (.cells #[.int .i64 a0_0, .int .i64 a0_1, .int .i64 a0_2, .int .i64 a0_3, .int .i64 a0_4] 32 (0, 0))) ∧ Aside0 (wc.heap[gb348]? = some (.cells #[.int .i64 0, .int .i64 0, .int .i64 0, .int .i64 0, .int .i64 0] 32 (0, 0))) ∧ Aside0 (Below w.heap.size w wc))
  case first =>
    have H := HC4.out
    clear HC4
    replace H := Option.bind_eq_some_iff.mp H
    obtain ⟨t349, A70, H⟩ := H
    replace H : (if t349 = true then ((tick_Right.f a1).bind fun t350 => (breaker_Told.j0 k a1 a2 (!t350) a0_0 a0_1 a0_2 a0_3 a0_4)) else (breaker_Told.j0 k a1 a2 true a0_0 a0_1 a0_2 a0_3 a0_4)) = some (r1, r2, r3, r4, r5, r6) := H
    have A7 := Aside0.mk A70
    clear A70
    by_cases c8 : t349 = true
    · subst c8
      have H1 : ((tick_Right.f a1).bind fun t350 => (breaker_Told.j0 k a1 a2 (!t350) a0_0 a0_1 a0_2 a0_3 a0_4)) = some (r1, r2, r3, r4, r5, r6) := by rw [if_pos rfl] at H; exact H
      clear H
      have H := H1
      clear H1
      replace H := Option.bind_eq_some_iff.mp H
      obtain ⟨t350, A90, H⟩ := H
      replace H : (breaker_Told.j0 k a1 a2 (!t350) a0_0 a0_1 a0_2 a0_3 a0_4) = some (r1, r2, r3, r4, r5, r6) := H
      have A9 := Aside0.mk A90
      clear A90
      have H' := Aside0.mk H
      clear H
      have hnb10 := NB347_348.out
      have hnc10 := NB348_347.out
      have hcz11_0 : w6.cell? ⟨gb347, 0, none⟩ = some (.int .i64 a0_0) := (blk_cell BK347.out 0).trans rfl
      have hcz11_1 : w6.cell? ⟨gb347, 1, none⟩ = some (.int .i64 a0_1) := (blk_cell BK347.out 1).trans rfl
      have hcz11_2 : w6.cell? ⟨gb347, 2, none⟩ = some (.int .i64 a0_2) := (blk_cell BK347.out 2).trans rfl
      have hcz11_3 : w6.cell? ⟨gb347, 3, none⟩ = some (.int .i64 a0_3) := (blk_cell BK347.out 3).trans rfl
      have hcz11_4 : w6.cell? ⟨gb347, 4, none⟩ = some (.int .i64 a0_4) := (blk_cell BK347.out 4).trans rfl
      have hfz11_0 := blk_frozen BK347.out 0
      have hfz11_1 := blk_frozen BK347.out 1
      have hfz11_2 := blk_frozen BK347.out 2
      have hfz11_3 := blk_frozen BK347.out 3
      have hfz11_4 := blk_frozen BK347.out 4
      go_wp2_with (first | ((with_reducible refine gate_callee (f := 62) rfl ?_); refine goesL_ (some 10) rfl rfl Try.func62 (by kernel_rfl) rfl #[.agg #[.int .i64 a0_0, .int .i64 a0_1, .int .i64 a0_2, .int .i64 a0_3, .int .i64 a0_4]] rfl (by (try simp only [List.map_toArray, List.map_cons, List.map_nil]); first | done | rfl | (simp only [List.length_drop, List.length_take]; rfl)) ?_; (with_reducible refine (breaker_Right.calls k a0_0 a0_1 a0_2 a0_3 a0_4 true _ A7.out).mono ?_); rintro e w12 ⟨rfl, hb⟩; refine ⟨_, rfl, ?_⟩; have n0_ := Aside0.mk (blk_below (g := gb347) (o := .cells #[.int .i64 a0_0, .int .i64 a0_1, .int .i64 a0_2, .int .i64 a0_3, .int .i64 a0_4] 32 (0, 0)) (by (with_reducible repeat (first | refine blk_drewN ?_ _ | refine blk_drew ?_ | refine blk_alloc ?_ _)); exact BK347.out) hb); have n1_ := Aside0.mk (blk_below (g := gb348) (o := .cells #[.int .i64 0, .int .i64 0, .int .i64 0, .int .i64 0, .int .i64 0] 32 (0, 0)) (by (with_reducible repeat (first | refine blk_drewN ?_ _ | refine blk_drew ?_ | refine blk_alloc ?_ _)); exact BK348.out) hb); have n2_ := Aside0.mk (below_step (by repeat (first | (with_reducible first | exact HB.out | apply below_alloc | apply pw_below_drewN | apply below_drew1 | refine below_set ?_ GE347.out | refine below_set ?_ GE348.out) | exact HB.out)) hb); clear BK347; clear BK348; clear HB; have BK347 := n0_; have BK348 := n1_; have HB := n2_; clear n0_ n1_ n2_; (try clear hb); (try clear hb2); (try clear hk); (try clear hi)) | (go_at_call 50; (with_reducible refine (tick_Right.calls a1 t350 _ A9.out).mono ?_); rintro e w' ⟨rfl, ⟨nd, rfl⟩⟩))
      go_meet
      case rel => exact ⟨_, (!t350), (by first | rfl | (simp; done) | (simp [*]; done)), H', ⟨by first | omega | exact Nat.le_refl _⟩, ⟨by (with_reducible repeat (first | refine blk_drewN ?_ _ | refine blk_drew ?_ | refine blk_alloc ?_ _)); exact BK347.out⟩, ⟨by (with_reducible repeat (first | refine blk_drewN ?_ _ | refine blk_drew ?_ | refine blk_alloc ?_ _)); exact BK348.out⟩, ⟨by repeat (first | (with_reducible first | exact HB.out | apply below_alloc | apply pw_below_drewN | apply below_drew1 | refine below_set ?_ GE347.out | refine below_set ?_ GE348.out) | exact HB.out)⟩⟩
    · replace c8 := Bool.eq_false_iff.mpr c8
      subst c8
      have H1 : (breaker_Told.j0 k a1 a2 true a0_0 a0_1 a0_2 a0_3 a0_4) = some (r1, r2, r3, r4, r5, r6) := by rw [if_neg (show ¬ (false = true) by decide)] at H; exact H
      clear H
      have H := H1
      clear H1
      have H' := Aside0.mk H
      clear H
      have hnb13 := NB347_348.out
      have hnc13 := NB348_347.out
      have hcz14_0 : w6.cell? ⟨gb347, 0, none⟩ = some (.int .i64 a0_0) := (blk_cell BK347.out 0).trans rfl
      have hcz14_1 : w6.cell? ⟨gb347, 1, none⟩ = some (.int .i64 a0_1) := (blk_cell BK347.out 1).trans rfl
      have hcz14_2 : w6.cell? ⟨gb347, 2, none⟩ = some (.int .i64 a0_2) := (blk_cell BK347.out 2).trans rfl
      have hcz14_3 : w6.cell? ⟨gb347, 3, none⟩ = some (.int .i64 a0_3) := (blk_cell BK347.out 3).trans rfl
      have hcz14_4 : w6.cell? ⟨gb347, 4, none⟩ = some (.int .i64 a0_4) := (blk_cell BK347.out 4).trans rfl
      have hfz14_0 := blk_frozen BK347.out 0
      have hfz14_1 := blk_frozen BK347.out 1
      have hfz14_2 := blk_frozen BK347.out 2
      have hfz14_3 := blk_frozen BK347.out 3
      have hfz14_4 := blk_frozen BK347.out 4
      go_wp2_with (first | ((with_reducible refine gate_callee (f := 62) rfl ?_); refine goesL_ (some 10) rfl rfl Try.func62 (by kernel_rfl) rfl #[.agg #[.int .i64 a0_0, .int .i64 a0_1, .int .i64 a0_2, .int .i64 a0_3, .int .i64 a0_4]] rfl (by (try simp only [List.map_toArray, List.map_cons, List.map_nil]); first | done | rfl | (simp only [List.length_drop, List.length_take]; rfl)) ?_; (with_reducible refine (breaker_Right.calls k a0_0 a0_1 a0_2 a0_3 a0_4 false _ A7.out).mono ?_); rintro e w15 ⟨rfl, hb⟩; refine ⟨_, rfl, ?_⟩; have n0_ := Aside0.mk (blk_below (g := gb347) (o := .cells #[.int .i64 a0_0, .int .i64 a0_1, .int .i64 a0_2, .int .i64 a0_3, .int .i64 a0_4] 32 (0, 0)) (by (with_reducible repeat (first | refine blk_drewN ?_ _ | refine blk_drew ?_ | refine blk_alloc ?_ _)); exact BK347.out) hb); have n1_ := Aside0.mk (blk_below (g := gb348) (o := .cells #[.int .i64 0, .int .i64 0, .int .i64 0, .int .i64 0, .int .i64 0] 32 (0, 0)) (by (with_reducible repeat (first | refine blk_drewN ?_ _ | refine blk_drew ?_ | refine blk_alloc ?_ _)); exact BK348.out) hb); have n2_ := Aside0.mk (below_step (by repeat (first | (with_reducible first | exact HB.out | apply below_alloc | apply pw_below_drewN | apply below_drew1 | refine below_set ?_ GE347.out | refine below_set ?_ GE348.out) | exact HB.out)) hb); clear BK347; clear BK348; clear HB; have BK347 := n0_; have BK348 := n1_; have HB := n2_; clear n0_ n1_ n2_; (try clear hb); (try clear hb2); (try clear hk); (try clear hi)))
      go_meet
      case rel => exact ⟨_, (true), (by first | rfl | (simp; done) | (simp [*]; done)), H', ⟨by first | omega | exact Nat.le_refl _⟩, ⟨by (with_reducible repeat (first | refine blk_drewN ?_ _ | refine blk_drew ?_ | refine blk_alloc ?_ _)); exact BK347.out⟩, ⟨by (with_reducible repeat (first | refine blk_drewN ?_ _ | refine blk_drew ?_ | refine blk_alloc ?_ _)); exact BK348.out⟩, ⟨by repeat (first | (with_reducible first | exact HB.out | apply below_alloc | apply pw_below_drewN | apply below_drew1 | refine below_set ?_ GE347.out | refine below_set ?_ GE348.out) | exact HB.out)⟩⟩
  case rest =>
    clear HC4
    try clear c1
    try clear p2
    try clear c6
    try clear c8
    try clear c10
    try clear c13
    try clear hcz11_0
    try clear hcz11_1
    try clear hcz11_2
    try clear hcz11_3
    try clear hcz11_4
    try clear hcz14_0
    try clear hcz14_1
    try clear hcz14_2
    try clear hcz14_3
    try clear hcz14_4
    try clear hfz11_0
    try clear hfz11_1
    try clear hfz11_2
    try clear hfz11_3
    try clear hfz11_4
    try clear hfz14_0
    try clear hfz14_1
    try clear hfz14_2
    try clear hfz14_3
    try clear hfz14_4
    obtain ⟨kq, x8_3, rfl, HA, HJ3, BK347, BK348, HB⟩ := hcut
    cases kq with
    | zero => exact absurd HA.out (by simp [breaker_Told.j0])
    | succ kj3 =>
      have H := HA.out
      clear HA
      simp only [breaker_Told.j0] at H
      by_cases c16 : x8_3 = true
      · subst c16
        have H1 : (some (0, 0, 0, 0, 0, 1)) = some (r1, r2, r3, r4, r5, r6) := by rw [if_pos rfl] at H; exact H
        clear H
        have H := H1
        clear H1
        simp only [Option.some.injEq, Prod.mk.injEq] at H
        obtain ⟨rfl, rfl, rfl, rfl, rfl, rfl⟩ := H
        have hnb17 := NB348_347.out
        have hnc17 := NB347_348.out
        have hcz18_0 : wc.cell? ⟨gb348, 0, none⟩ = some (.int .i64 0) := (blk_cell BK348.out 0).trans rfl
        have hcz18_1 : wc.cell? ⟨gb348, 1, none⟩ = some (.int .i64 0) := (blk_cell BK348.out 1).trans rfl
        have hcz18_2 : wc.cell? ⟨gb348, 2, none⟩ = some (.int .i64 0) := (blk_cell BK348.out 2).trans rfl
        have hcz18_3 : wc.cell? ⟨gb348, 3, none⟩ = some (.int .i64 0) := (blk_cell BK348.out 3).trans rfl
        have hcz18_4 : wc.cell? ⟨gb348, 4, none⟩ = some (.int .i64 0) := (blk_cell BK348.out 4).trans rfl
        have hfz18_0 := blk_frozen BK348.out 0
        have hfz18_1 := blk_frozen BK348.out 1
        have hfz18_2 := blk_frozen BK348.out 2
        have hfz18_3 := blk_frozen BK348.out 3
        have hfz18_4 := blk_frozen BK348.out 4
        go_wp2
        refine bodyPost_ret (results_ct rfl _ _ gb348 32 #[.int .i64 0, .int .i64 0, .int .i64 0, .int .i64 0, .int .i64 0] (0, 0) _ rfl (by (with_reducible repeat (first | refine blk_drewN ?_ _ | refine blk_drew ?_ | refine blk_alloc ?_ _)); refine blk_put (cs := #[.int .i64 0, .int .i64 0, .int .i64 0, .int .i64 0, .int .i64 0]) ?_ 4 _ rfl; (with_reducible repeat (first | refine blk_drewN ?_ _ | refine blk_drew ?_ | refine blk_alloc ?_ _)); refine blk_put (cs := #[.int .i64 0, .int .i64 0, .int .i64 0, .int .i64 0, .int .i64 0]) ?_ 3 _ rfl; (with_reducible repeat (first | refine blk_drewN ?_ _ | refine blk_drew ?_ | refine blk_alloc ?_ _)); refine blk_put (cs := #[.int .i64 0, .int .i64 0, .int .i64 0, .int .i64 0, .int .i64 0]) ?_ 2 _ rfl; (with_reducible repeat (first | refine blk_drewN ?_ _ | refine blk_drew ?_ | refine blk_alloc ?_ _)); refine blk_put (cs := #[.int .i64 0, .int .i64 0, .int .i64 0, .int .i64 0, .int .i64 0]) ?_ 1 _ rfl; (with_reducible repeat (first | refine blk_drewN ?_ _ | refine blk_drew ?_ | refine blk_alloc ?_ _)); refine blk_put (cs := #[.int .i64 0, .int .i64 0, .int .i64 0, .int .i64 0, .int .i64 0]) ?_ 0 _ rfl; (with_reducible repeat (first | refine blk_drewN ?_ _ | refine blk_drew ?_ | refine blk_alloc ?_ _)); exact BK348.out) Try.underlying32 rfl (by kernel_rfl)) rfl ?_
        exact ⟨by first | rfl | (simp [errW_none, errW_some] <;> rfl) | (simp [*, errW_none, errW_some] <;> rfl), by repeat (first | (with_reducible first | exact HB.out | apply below_alloc | apply pw_below_drewN | apply below_drew1 | refine below_set ?_ GE347.out | refine below_set ?_ GE348.out) | exact HB.out)⟩
      · replace c16 := Bool.eq_false_iff.mpr c16
        subst c16
        have H1 : (if a0_2 = 1 then (some (0, 0, 0, 0, 0, 6)) else (if a2 = true then ((breaker_fresh.f a0_0 a0_1 a0_2 a0_3 a0_4 0).bind fun bt351 => (some (bt351.1, bt351.2.1, bt351.2.2.1, bt351.2.2.2.1, bt351.2.2.2.2, 0))) else (if a0_2 = 0 then (breaker_Told.j1 kj3 a1 (decide (a0_3 < (wrap64 (a0_0 - 1)))) a0_0 a0_1 a0_2 a0_3 a0_4) else (breaker_Told.j1 kj3 a1 false a0_0 a0_1 a0_2 a0_3 a0_4)))) = some (r1, r2, r3, r4, r5, r6) := by rw [if_neg (show ¬ (false = true) by decide)] at H; exact H
        clear H
        have H := H1
        clear H1
        by_cases c19 : a0_2 = 1
        · rw [if_pos c19] at H
          have c19b0 : (a0_2 == 1) = true := beq_iff_eq.mpr c19
          have c19b1 : (a0_2 != 1) = false := bne_eq_false_iff_eq.mpr c19
          clear c19
          simp only [Option.some.injEq, Prod.mk.injEq] at H
          obtain ⟨rfl, rfl, rfl, rfl, rfl, rfl⟩ := H
          have hnb20 := NB347_348.out
          have hnc20 := NB348_347.out
          have hcz21_0 : wc.cell? ⟨gb347, 0, none⟩ = some (.int .i64 a0_0) := (blk_cell BK347.out 0).trans rfl
          have hcz21_1 : wc.cell? ⟨gb347, 1, none⟩ = some (.int .i64 a0_1) := (blk_cell BK347.out 1).trans rfl
          have hcz21_2 : wc.cell? ⟨gb347, 2, none⟩ = some (.int .i64 a0_2) := (blk_cell BK347.out 2).trans rfl
          have hcz21_3 : wc.cell? ⟨gb347, 3, none⟩ = some (.int .i64 a0_3) := (blk_cell BK347.out 3).trans rfl
          have hcz21_4 : wc.cell? ⟨gb347, 4, none⟩ = some (.int .i64 a0_4) := (blk_cell BK347.out 4).trans rfl
          have hfz21_0 := blk_frozen BK347.out 0
          have hfz21_1 := blk_frozen BK347.out 1
          have hfz21_2 := blk_frozen BK347.out 2
          have hfz21_3 := blk_frozen BK347.out 3
          have hfz21_4 := blk_frozen BK347.out 4
          have hcz22_0 : wc.cell? ⟨gb348, 0, none⟩ = some (.int .i64 0) := (blk_cell BK348.out 0).trans rfl
          have hcz22_1 : wc.cell? ⟨gb348, 1, none⟩ = some (.int .i64 0) := (blk_cell BK348.out 1).trans rfl
          have hcz22_2 : wc.cell? ⟨gb348, 2, none⟩ = some (.int .i64 0) := (blk_cell BK348.out 2).trans rfl
          have hcz22_3 : wc.cell? ⟨gb348, 3, none⟩ = some (.int .i64 0) := (blk_cell BK348.out 3).trans rfl
          have hcz22_4 : wc.cell? ⟨gb348, 4, none⟩ = some (.int .i64 0) := (blk_cell BK348.out 4).trans rfl
          have hfz22_0 := blk_frozen BK348.out 0
          have hfz22_1 := blk_frozen BK348.out 1
          have hfz22_2 := blk_frozen BK348.out 2
          have hfz22_3 := blk_frozen BK348.out 3
          have hfz22_4 := blk_frozen BK348.out 4
          go_wp2
          refine bodyPost_ret (results_ct rfl _ _ gb348 32 #[.int .i64 0, .int .i64 0, .int .i64 0, .int .i64 0, .int .i64 0] (0, 0) _ rfl (by (with_reducible repeat (first | refine blk_drewN ?_ _ | refine blk_drew ?_ | refine blk_alloc ?_ _)); refine blk_put (cs := #[.int .i64 0, .int .i64 0, .int .i64 0, .int .i64 0, .int .i64 0]) ?_ 4 _ rfl; (with_reducible repeat (first | refine blk_drewN ?_ _ | refine blk_drew ?_ | refine blk_alloc ?_ _)); refine blk_put (cs := #[.int .i64 0, .int .i64 0, .int .i64 0, .int .i64 0, .int .i64 0]) ?_ 3 _ rfl; (with_reducible repeat (first | refine blk_drewN ?_ _ | refine blk_drew ?_ | refine blk_alloc ?_ _)); refine blk_put (cs := #[.int .i64 0, .int .i64 0, .int .i64 0, .int .i64 0, .int .i64 0]) ?_ 2 _ rfl; (with_reducible repeat (first | refine blk_drewN ?_ _ | refine blk_drew ?_ | refine blk_alloc ?_ _)); refine blk_put (cs := #[.int .i64 0, .int .i64 0, .int .i64 0, .int .i64 0, .int .i64 0]) ?_ 1 _ rfl; (with_reducible repeat (first | refine blk_drewN ?_ _ | refine blk_drew ?_ | refine blk_alloc ?_ _)); refine blk_put (cs := #[.int .i64 0, .int .i64 0, .int .i64 0, .int .i64 0, .int .i64 0]) ?_ 0 _ rfl; (with_reducible repeat (first | refine blk_drewN ?_ _ | refine blk_drew ?_ | refine blk_alloc ?_ _)); exact BK348.out) Try.underlying32 rfl (by kernel_rfl)) rfl ?_
          exact ⟨by first | rfl | (simp [errW_none, errW_some] <;> rfl) | (simp [*, errW_none, errW_some] <;> rfl), by repeat (first | (with_reducible first | exact HB.out | apply below_alloc | apply pw_below_drewN | apply below_drew1 | refine below_set ?_ GE347.out | refine below_set ?_ GE348.out) | exact HB.out)⟩
        · rw [if_neg c19] at H
          have c19b0 : (a0_2 == 1) = false := beq_eq_false_iff_ne.mpr c19
          have c19b1 : (a0_2 != 1) = true := bne_iff_ne.mpr c19
          by_cases c23 : a2 = true
          · subst c23
            have H1 : ((breaker_fresh.f a0_0 a0_1 a0_2 a0_3 a0_4 0).bind fun bt351 => (some (bt351.1, bt351.2.1, bt351.2.2.1, bt351.2.2.2.1, bt351.2.2.2.2, 0))) = some (r1, r2, r3, r4, r5, r6) := by rw [if_pos rfl] at H; exact H
            clear H
            have H := H1
            clear H1
            replace H := Option.bind_eq_some_iff.mp H
            obtain ⟨⟨t351, t352, t353, t354, t355⟩, A240, H⟩ := H
            replace H : (some (t351, t352, t353, t354, t355, 0)) = some (r1, r2, r3, r4, r5, r6) := H
            have A24 := Aside0.mk A240
            clear A240
            simp only [Option.some.injEq, Prod.mk.injEq] at H
            obtain ⟨rfl, rfl, rfl, rfl, rfl, rfl⟩ := H
            have hnb25 := NB347_348.out
            have hnc25 := NB348_347.out
            have hcz26_0 : wc.cell? ⟨gb347, 0, none⟩ = some (.int .i64 a0_0) := (blk_cell BK347.out 0).trans rfl
            have hcz26_1 : wc.cell? ⟨gb347, 1, none⟩ = some (.int .i64 a0_1) := (blk_cell BK347.out 1).trans rfl
            have hcz26_2 : wc.cell? ⟨gb347, 2, none⟩ = some (.int .i64 a0_2) := (blk_cell BK347.out 2).trans rfl
            have hcz26_3 : wc.cell? ⟨gb347, 3, none⟩ = some (.int .i64 a0_3) := (blk_cell BK347.out 3).trans rfl
            have hcz26_4 : wc.cell? ⟨gb347, 4, none⟩ = some (.int .i64 a0_4) := (blk_cell BK347.out 4).trans rfl
            have hfz26_0 := blk_frozen BK347.out 0
            have hfz26_1 := blk_frozen BK347.out 1
            have hfz26_2 := blk_frozen BK347.out 2
            have hfz26_3 := blk_frozen BK347.out 3
            have hfz26_4 := blk_frozen BK347.out 4
            go_wp2_with (first | ((with_reducible refine gate_callee (f := 85) rfl ?_); refine goesL_ (some 26) rfl rfl Try.func85 (by kernel_rfl) rfl #[.agg #[.int .i64 a0_0, .int .i64 a0_1, .int .i64 a0_2, .int .i64 a0_3, .int .i64 a0_4], .int .i64 0] rfl (by (try simp only [List.map_toArray, List.map_cons, List.map_nil]); first | done | rfl | (simp only [List.length_drop, List.length_take]; rfl)) ?_; (with_reducible refine (breaker_fresh.calls a0_0 a0_1 a0_2 a0_3 a0_4 0 t351 t352 t353 t354 t355 _ A24.out).mono ?_); rintro e w27 ⟨rfl, hb⟩; refine ⟨_, rfl, ?_⟩; have n0_ := Aside0.mk (blk_below (g := gb347) (o := .cells #[.int .i64 a0_0, .int .i64 a0_1, .int .i64 a0_2, .int .i64 a0_3, .int .i64 a0_4] 32 (0, 0)) (by (with_reducible repeat (first | refine blk_drewN ?_ _ | refine blk_drew ?_ | refine blk_alloc ?_ _)); exact BK347.out) hb); have n1_ := Aside0.mk (blk_below (g := gb348) (o := .cells #[.int .i64 0, .int .i64 0, .int .i64 0, .int .i64 0, .int .i64 0] 32 (0, 0)) (by (with_reducible repeat (first | refine blk_drewN ?_ _ | refine blk_drew ?_ | refine blk_alloc ?_ _)); exact BK348.out) hb); have n2_ := Aside0.mk (below_step (by repeat (first | (with_reducible first | exact HB.out | apply below_alloc | apply pw_below_drewN | apply below_drew1 | refine below_set ?_ GE347.out | refine below_set ?_ GE348.out) | exact HB.out)) hb); clear BK347; clear BK348; clear HB; have BK347 := n0_; have BK348 := n1_; have HB := n2_; clear n0_ n1_ n2_; (try clear hb); (try clear hb2); (try clear hk); (try clear hi); have hcz28_0 : w27.cell? ⟨gb348, 0, none⟩ = some (.int .i64 0) := (blk_cell BK348.out 0).trans rfl; have hcz28_1 : w27.cell? ⟨gb348, 1, none⟩ = some (.int .i64 0) := (blk_cell BK348.out 1).trans rfl; have hcz28_2 : w27.cell? ⟨gb348, 2, none⟩ = some (.int .i64 0) := (blk_cell BK348.out 2).trans rfl; have hcz28_3 : w27.cell? ⟨gb348, 3, none⟩ = some (.int .i64 0) := (blk_cell BK348.out 3).trans rfl; have hcz28_4 : w27.cell? ⟨gb348, 4, none⟩ = some (.int .i64 0) := (blk_cell BK348.out 4).trans rfl; have hfz28_0 := blk_frozen BK348.out 0; have hfz28_1 := blk_frozen BK348.out 1; have hfz28_2 := blk_frozen BK348.out 2; have hfz28_3 := blk_frozen BK348.out 3; have hfz28_4 := blk_frozen BK348.out 4))
            refine bodyPost_ret (results_ct rfl _ _ gb348 32 #[.int .i64 t351, .int .i64 t352, .int .i64 t353, .int .i64 t354, .int .i64 t355] (0, 0) _ rfl (by (with_reducible repeat (first | refine blk_drewN ?_ _ | refine blk_drew ?_ | refine blk_alloc ?_ _)); refine blk_put (cs := #[.int .i64 t351, .int .i64 t352, .int .i64 t353, .int .i64 t354, .int .i64 0]) ?_ 4 _ rfl; (with_reducible repeat (first | refine blk_drewN ?_ _ | refine blk_drew ?_ | refine blk_alloc ?_ _)); refine blk_put (cs := #[.int .i64 t351, .int .i64 t352, .int .i64 t353, .int .i64 0, .int .i64 0]) ?_ 3 _ rfl; (with_reducible repeat (first | refine blk_drewN ?_ _ | refine blk_drew ?_ | refine blk_alloc ?_ _)); refine blk_put (cs := #[.int .i64 t351, .int .i64 t352, .int .i64 0, .int .i64 0, .int .i64 0]) ?_ 2 _ rfl; (with_reducible repeat (first | refine blk_drewN ?_ _ | refine blk_drew ?_ | refine blk_alloc ?_ _)); refine blk_put (cs := #[.int .i64 t351, .int .i64 0, .int .i64 0, .int .i64 0, .int .i64 0]) ?_ 1 _ rfl; (with_reducible repeat (first | refine blk_drewN ?_ _ | refine blk_drew ?_ | refine blk_alloc ?_ _)); refine blk_put (cs := #[.int .i64 0, .int .i64 0, .int .i64 0, .int .i64 0, .int .i64 0]) ?_ 0 _ rfl; (with_reducible repeat (first | refine blk_drewN ?_ _ | refine blk_drew ?_ | refine blk_alloc ?_ _)); exact BK348.out) Try.underlying32 rfl (by kernel_rfl)) rfl ?_
            exact ⟨by first | rfl | (simp [errW_none, errW_some] <;> rfl) | (simp [*, errW_none, errW_some] <;> rfl), by repeat (first | (with_reducible first | exact HB.out | apply below_alloc | apply pw_below_drewN | apply below_drew1 | refine below_set ?_ GE347.out | refine below_set ?_ GE348.out) | exact HB.out)⟩
          · replace c23 := Bool.eq_false_iff.mpr c23
            subst c23
            have H1 : (if a0_2 = 0 then (breaker_Told.j1 kj3 a1 (decide (a0_3 < (wrap64 (a0_0 - 1)))) a0_0 a0_1 a0_2 a0_3 a0_4) else (breaker_Told.j1 kj3 a1 false a0_0 a0_1 a0_2 a0_3 a0_4)) = some (r1, r2, r3, r4, r5, r6) := by rw [if_neg (show ¬ (false = true) by decide)] at H; exact H
            clear H
            have H := H1
            clear H1
            have HC29 := Aside0.mk H
            clear H
            have hnb30 := NB347_348.out
            have hnc30 := NB348_347.out
            have hcz31_0 : wc.cell? ⟨gb347, 0, none⟩ = some (.int .i64 a0_0) := (blk_cell BK347.out 0).trans rfl
            have hcz31_1 : wc.cell? ⟨gb347, 1, none⟩ = some (.int .i64 a0_1) := (blk_cell BK347.out 1).trans rfl
            have hcz31_2 : wc.cell? ⟨gb347, 2, none⟩ = some (.int .i64 a0_2) := (blk_cell BK347.out 2).trans rfl
            have hcz31_3 : wc.cell? ⟨gb347, 3, none⟩ = some (.int .i64 a0_3) := (blk_cell BK347.out 3).trans rfl
            have hcz31_4 : wc.cell? ⟨gb347, 4, none⟩ = some (.int .i64 a0_4) := (blk_cell BK347.out 4).trans rfl
            have hfz31_0 := blk_frozen BK347.out 0
            have hfz31_1 := blk_frozen BK347.out 1
            have hfz31_2 := blk_frozen BK347.out 2
            have hfz31_3 := blk_frozen BK347.out 3
            have hfz31_4 := blk_frozen BK347.out 4
            go_upto_region 7 with (fail)
            go_cut [27] (fun v27 wc => ∃ (kq : Nat) (x27_28 : Bool), v27 = .bool x27_28 ∧ Aside0 (breaker_Told.j1 kq a1 x27_28 a0_0 a0_1 a0_2 a0_3 a0_4 = some (r1, r2, r3, r4, r5, r6)) ∧ Aside0 (kq ≤ kj3) ∧ Aside0 (wc.heap[gb347]? = some (.cells #[.int .i64 a0_0, .int .i64 a0_1, .int .i64 a0_2, .int .i64 a0_3, .int .i64 a0_4] 32 (0, 0))) ∧ Aside0 (wc.heap[gb348]? = some (.cells #[.int .i64 0, .int .i64 0, .int .i64 0, .int .i64 0, .int .i64 0] 32 (0, 0))) ∧ Aside0 (Below w.heap.size w wc))
            case first =>
              have H := HC29.out
              clear HC29
              by_cases c32 : a0_2 = 0
              · rw [if_pos c32] at H
                have c32b0 : (a0_2 == 0) = true := beq_iff_eq.mpr c32
                have c32b1 : (a0_2 != 0) = false := bne_eq_false_iff_eq.mpr c32
                clear c32
                (first | rw [c32b0] | (simp only [i64_w, i32_w]; rw [c32b0]) | skip)
                have H' := Aside0.mk H
                clear H
                have hnb33 := NB347_348.out
                have hnc33 := NB348_347.out
                have hcz34_0 : wc.cell? ⟨gb347, 0, none⟩ = some (.int .i64 a0_0) := (blk_cell BK347.out 0).trans rfl
                have hcz34_1 : wc.cell? ⟨gb347, 1, none⟩ = some (.int .i64 a0_1) := (blk_cell BK347.out 1).trans rfl
                have hcz34_2 : wc.cell? ⟨gb347, 2, none⟩ = some (.int .i64 a0_2) := (blk_cell BK347.out 2).trans rfl
                have hcz34_3 : wc.cell? ⟨gb347, 3, none⟩ = some (.int .i64 a0_3) := (blk_cell BK347.out 3).trans rfl
                have hcz34_4 : wc.cell? ⟨gb347, 4, none⟩ = some (.int .i64 a0_4) := (blk_cell BK347.out 4).trans rfl
                have hfz34_0 := blk_frozen BK347.out 0
                have hfz34_1 := blk_frozen BK347.out 1
                have hfz34_2 := blk_frozen BK347.out 2
                have hfz34_3 := blk_frozen BK347.out 3
                have hfz34_4 := blk_frozen BK347.out 4
                go_wp2
                go_meet
                case rel => exact ⟨_, (decide (a0_3 < (wrap64 (a0_0 - 1)))), (by first | rfl | (simp; done) | (simp [*]; done)), H', ⟨by have := HJ3.out; first | omega | exact Nat.le_refl _⟩, ⟨by (with_reducible repeat (first | refine blk_drewN ?_ _ | refine blk_drew ?_ | refine blk_alloc ?_ _)); exact BK347.out⟩, ⟨by (with_reducible repeat (first | refine blk_drewN ?_ _ | refine blk_drew ?_ | refine blk_alloc ?_ _)); exact BK348.out⟩, ⟨by repeat (first | (with_reducible first | exact HB.out | apply below_alloc | apply pw_below_drewN | apply below_drew1 | refine below_set ?_ GE347.out | refine below_set ?_ GE348.out) | exact HB.out)⟩⟩
              · rw [if_neg c32] at H
                have c32b0 : (a0_2 == 0) = false := beq_eq_false_iff_ne.mpr c32
                have c32b1 : (a0_2 != 0) = true := bne_iff_ne.mpr c32
                (first | rw [c32b0] | (simp only [i64_w, i32_w]; rw [c32b0]) | skip)
                have H' := Aside0.mk H
                clear H
                have hnb35 := NB347_348.out
                have hnc35 := NB348_347.out
                have hcz36_0 : wc.cell? ⟨gb347, 0, none⟩ = some (.int .i64 a0_0) := (blk_cell BK347.out 0).trans rfl
                have hcz36_1 : wc.cell? ⟨gb347, 1, none⟩ = some (.int .i64 a0_1) := (blk_cell BK347.out 1).trans rfl
                have hcz36_2 : wc.cell? ⟨gb347, 2, none⟩ = some (.int .i64 a0_2) := (blk_cell BK347.out 2).trans rfl
                have hcz36_3 : wc.cell? ⟨gb347, 3, none⟩ = some (.int .i64 a0_3) := (blk_cell BK347.out 3).trans rfl
                have hcz36_4 : wc.cell? ⟨gb347, 4, none⟩ = some (.int .i64 a0_4) := (blk_cell BK347.out 4).trans rfl
                have hfz36_0 := blk_frozen BK347.out 0
                have hfz36_1 := blk_frozen BK347.out 1
                have hfz36_2 := blk_frozen BK347.out 2
                have hfz36_3 := blk_frozen BK347.out 3
                have hfz36_4 := blk_frozen BK347.out 4
                go_wp2
                go_meet
                case rel => exact ⟨_, (false), (by first | rfl | (simp; done) | (simp [*]; done)), H', ⟨by have := HJ3.out; first | omega | exact Nat.le_refl _⟩, ⟨by (with_reducible repeat (first | refine blk_drewN ?_ _ | refine blk_drew ?_ | refine blk_alloc ?_ _)); exact BK347.out⟩, ⟨by (with_reducible repeat (first | refine blk_drewN ?_ _ | refine blk_drew ?_ | refine blk_alloc ?_ _)); exact BK348.out⟩, ⟨by repeat (first | (with_reducible first | exact HB.out | apply below_alloc | apply pw_below_drewN | apply below_drew1 | refine below_set ?_ GE347.out | refine below_set ?_ GE348.out) | exact HB.out)⟩⟩
            case rest =>
              clear HC29
              try clear c1
              try clear c2
              try clear p2
              try clear c3
              try clear c6
              try clear p6
              try clear c8
              try clear c10
              try clear c13
              try clear c16
              try clear c17
              try clear c19
              try clear c19b0
              try clear c19b1
              try clear c20
              try clear c23
              try clear c25
              try clear c30
              try clear c32
              try clear c32b0
              try clear c32b1
              try clear c33
              try clear c35
              try clear hcz11_0
              try clear hcz11_1
              try clear hcz11_2
              try clear hcz11_3
              try clear hcz11_4
              try clear hcz14_0
              try clear hcz14_1
              try clear hcz14_2
              try clear hcz14_3
              try clear hcz14_4
              try clear hcz18_0
              try clear hcz18_1
              try clear hcz18_2
              try clear hcz18_3
              try clear hcz18_4
              try clear hcz21_0
              try clear hcz21_1
              try clear hcz21_2
              try clear hcz21_3
              try clear hcz21_4
              try clear hcz22_0
              try clear hcz22_1
              try clear hcz22_2
              try clear hcz22_3
              try clear hcz22_4
              try clear hcz26_0
              try clear hcz26_1
              try clear hcz26_2
              try clear hcz26_3
              try clear hcz26_4
              try clear hcz28_0
              try clear hcz28_1
              try clear hcz28_2
              try clear hcz28_3
              try clear hcz28_4
              try clear hcz31_0
              try clear hcz31_1
              try clear hcz31_2
              try clear hcz31_3
              try clear hcz31_4
              try clear hcz34_0
              try clear hcz34_1
              try clear hcz34_2
              try clear hcz34_3
              try clear hcz34_4
              try clear hcz36_0
              try clear hcz36_1
              try clear hcz36_2
              try clear hcz36_3
              try clear hcz36_4
              try clear hfz11_0
              try clear hfz11_1
              try clear hfz11_2
              try clear hfz11_3
              try clear hfz11_4
              try clear hfz14_0
              try clear hfz14_1
              try clear hfz14_2
              try clear hfz14_3
              try clear hfz14_4
              try clear hfz18_0
              try clear hfz18_1
              try clear hfz18_2
              try clear hfz18_3
              try clear hfz18_4
              try clear hfz21_0
              try clear hfz21_1
              try clear hfz21_2
              try clear hfz21_3
              try clear hfz21_4
              try clear hfz22_0
              try clear hfz22_1
              try clear hfz22_2
              try clear hfz22_3
              try clear hfz22_4
              try clear hfz26_0
              try clear hfz26_1
              try clear hfz26_2
              try clear hfz26_3
              try clear hfz26_4
              try clear hfz28_0
              try clear hfz28_1
              try clear hfz28_2
              try clear hfz28_3
              try clear hfz28_4
              try clear hfz31_0
              try clear hfz31_1
              try clear hfz31_2
              try clear hfz31_3
              try clear hfz31_4
              try clear hfz34_0
              try clear hfz34_1
              try clear hfz34_2
              try clear hfz34_3
              try clear hfz34_4
              try clear hfz36_0
              try clear hfz36_1
              try clear hfz36_2
              try clear hfz36_3
              try clear hfz36_4
              try clear p2
              obtain ⟨kq, x27_28, rfl, HA, HJ28, BK347, BK348, HB⟩ := hcut
              cases kq with
              | zero => exact absurd HA.out (by simp [breaker_Told.j1])
              | succ kj28 =>
                have H := HA.out
                clear HA
                simp only [breaker_Told.j1] at H
                by_cases c37 : x27_28 = true
                · subst c37
                  have H1 : (some (a0_0, a0_1, a0_2, wrap64 (a0_3 + 1), a0_4, 0)) = some (r1, r2, r3, r4, r5, r6) := by rw [if_pos rfl] at H; exact H
                  clear H
                  have H := H1
                  clear H1
                  simp only [Option.some.injEq, Prod.mk.injEq] at H
                  obtain ⟨rfl, rfl, rfl, rfl, rfl, rfl⟩ := H
                  have hnb38 := NB347_348.out
                  have hnc38 := NB348_347.out
                  have hcz39_0 : wc.cell? ⟨gb347, 0, none⟩ = some (.int .i64 a0_0) := (blk_cell BK347.out 0).trans rfl
                  have hcz39_1 : wc.cell? ⟨gb347, 1, none⟩ = some (.int .i64 a0_1) := (blk_cell BK347.out 1).trans rfl
                  have hcz39_2 : wc.cell? ⟨gb347, 2, none⟩ = some (.int .i64 a0_2) := (blk_cell BK347.out 2).trans rfl
                  have hcz39_3 : wc.cell? ⟨gb347, 3, none⟩ = some (.int .i64 a0_3) := (blk_cell BK347.out 3).trans rfl
                  have hcz39_4 : wc.cell? ⟨gb347, 4, none⟩ = some (.int .i64 a0_4) := (blk_cell BK347.out 4).trans rfl
                  have hfz39_0 := blk_frozen BK347.out 0
                  have hfz39_1 := blk_frozen BK347.out 1
                  have hfz39_2 := blk_frozen BK347.out 2
                  have hfz39_3 := blk_frozen BK347.out 3
                  have hfz39_4 := blk_frozen BK347.out 4
                  have hcz40_0 : wc.cell? ⟨gb348, 0, none⟩ = some (.int .i64 0) := (blk_cell BK348.out 0).trans rfl
                  have hcz40_1 : wc.cell? ⟨gb348, 1, none⟩ = some (.int .i64 0) := (blk_cell BK348.out 1).trans rfl
                  have hcz40_2 : wc.cell? ⟨gb348, 2, none⟩ = some (.int .i64 0) := (blk_cell BK348.out 2).trans rfl
                  have hcz40_3 : wc.cell? ⟨gb348, 3, none⟩ = some (.int .i64 0) := (blk_cell BK348.out 3).trans rfl
                  have hcz40_4 : wc.cell? ⟨gb348, 4, none⟩ = some (.int .i64 0) := (blk_cell BK348.out 4).trans rfl
                  have hfz40_0 := blk_frozen BK348.out 0
                  have hfz40_1 := blk_frozen BK348.out 1
                  have hfz40_2 := blk_frozen BK348.out 2
                  have hfz40_3 := blk_frozen BK348.out 3
                  have hfz40_4 := blk_frozen BK348.out 4
                  go_wp2
                  refine bodyPost_ret (results_ct rfl _ _ gb348 32 #[.int .i64 a0_0, .int .i64 a0_1, .int .i64 a0_2, .int .i64 (wrap64 (a0_3 + 1)), .int .i64 a0_4] (0, 0) _ rfl (by (with_reducible repeat (first | refine blk_drewN ?_ _ | refine blk_drew ?_ | refine blk_alloc ?_ _)); refine blk_put (cs := #[.int .i64 a0_0, .int .i64 a0_1, .int .i64 a0_2, .int .i64 (wrap64 (a0_3 + 1)), .int .i64 0]) ?_ 4 _ rfl; (with_reducible repeat (first | refine blk_drewN ?_ _ | refine blk_drew ?_ | refine blk_alloc ?_ _)); refine blk_put (cs := #[.int .i64 a0_0, .int .i64 a0_1, .int .i64 a0_2, .int .i64 0, .int .i64 0]) ?_ 3 _ rfl; (with_reducible repeat (first | refine blk_drewN ?_ _ | refine blk_drew ?_ | refine blk_alloc ?_ _)); refine blk_put (cs := #[.int .i64 a0_0, .int .i64 a0_1, .int .i64 0, .int .i64 0, .int .i64 0]) ?_ 2 _ rfl; (with_reducible repeat (first | refine blk_drewN ?_ _ | refine blk_drew ?_ | refine blk_alloc ?_ _)); refine blk_put (cs := #[.int .i64 a0_0, .int .i64 0, .int .i64 0, .int .i64 0, .int .i64 0]) ?_ 1 _ rfl; (with_reducible repeat (first | refine blk_drewN ?_ _ | refine blk_drew ?_ | refine blk_alloc ?_ _)); refine blk_put (cs := #[.int .i64 0, .int .i64 0, .int .i64 0, .int .i64 0, .int .i64 0]) ?_ 0 _ rfl; (with_reducible repeat (first | refine blk_drewN ?_ _ | refine blk_drew ?_ | refine blk_alloc ?_ _)); refine blk_far ?_ NB348_347.out _; (with_reducible repeat (first | refine blk_drewN ?_ _ | refine blk_drew ?_ | refine blk_alloc ?_ _)); exact BK348.out) Try.underlying32 rfl (by kernel_rfl)) rfl ?_
                  exact ⟨by first | rfl | (simp [errW_none, errW_some] <;> rfl) | (simp [*, errW_none, errW_some] <;> rfl), by repeat (first | (with_reducible first | exact HB.out | apply below_alloc | apply pw_below_drewN | apply below_drew1 | refine below_set ?_ GE347.out | refine below_set ?_ GE348.out) | exact HB.out)⟩
                · replace c37 := Bool.eq_false_iff.mpr c37
                  subst c37
                  have H1 : ((breaker_fresh.f a0_0 a0_1 a0_2 a0_3 a0_4 1).bind fun bt356 => ((tick_Add.f a1 bt356.2.1).bind fun bt361 => (some (bt356.1, bt356.2.1, bt356.2.2.1, bt356.2.2.2.1, bt361.1, 0)))) = some (r1, r2, r3, r4, r5, r6) := by rw [if_neg (show ¬ (false = true) by decide)] at H; exact H
                  clear H
                  have H := H1
                  clear H1
                  replace H := Option.bind_eq_some_iff.mp H
                  obtain ⟨⟨t356, t357, t358, t359, t360⟩, A410, H⟩ := H
                  replace H : ((tick_Add.f a1 t357).bind fun bt361 => (some (t356, t357, t358, t359, bt361.1, 0))) = some (r1, r2, r3, r4, r5, r6) := H
                  have A41 := Aside0.mk A410
                  clear A410
                  replace H := Option.bind_eq_some_iff.mp H
                  obtain ⟨⟨t361, t362⟩, A420, H⟩ := H
                  replace H : (some (t356, t357, t358, t359, t361, 0)) = some (r1, r2, r3, r4, r5, r6) := H
                  have A42 := Aside0.mk A420
                  clear A420
                  simp only [Option.some.injEq, Prod.mk.injEq] at H
                  obtain ⟨rfl, rfl, rfl, rfl, rfl, rfl⟩ := H
                  have hnb43 := NB347_348.out
                  have hnc43 := NB348_347.out
                  have hcz44_0 : wc.cell? ⟨gb347, 0, none⟩ = some (.int .i64 a0_0) := (blk_cell BK347.out 0).trans rfl
                  have hcz44_1 : wc.cell? ⟨gb347, 1, none⟩ = some (.int .i64 a0_1) := (blk_cell BK347.out 1).trans rfl
                  have hcz44_2 : wc.cell? ⟨gb347, 2, none⟩ = some (.int .i64 a0_2) := (blk_cell BK347.out 2).trans rfl
                  have hcz44_3 : wc.cell? ⟨gb347, 3, none⟩ = some (.int .i64 a0_3) := (blk_cell BK347.out 3).trans rfl
                  have hcz44_4 : wc.cell? ⟨gb347, 4, none⟩ = some (.int .i64 a0_4) := (blk_cell BK347.out 4).trans rfl
                  have hfz44_0 := blk_frozen BK347.out 0
                  have hfz44_1 := blk_frozen BK347.out 1
                  have hfz44_2 := blk_frozen BK347.out 2
                  have hfz44_3 := blk_frozen BK347.out 3
                  have hfz44_4 := blk_frozen BK347.out 4
                  go_wp2_with (first | ((with_reducible refine gate_callee (f := 85) rfl ?_); refine goesL_ (some 45) rfl rfl Try.func85 (by kernel_rfl) rfl #[.agg #[.int .i64 a0_0, .int .i64 a0_1, .int .i64 a0_2, .int .i64 a0_3, .int .i64 a0_4], .int .i64 1] rfl (by (try simp only [List.map_toArray, List.map_cons, List.map_nil]); first | done | rfl | (simp only [List.length_drop, List.length_take]; rfl)) ?_; (with_reducible refine (breaker_fresh.calls a0_0 a0_1 a0_2 a0_3 a0_4 1 t356 t357 t358 t359 t360 _ A41.out).mono ?_); rintro e w45 ⟨rfl, hb⟩; refine ⟨_, rfl, ?_⟩; have n0_ := Aside0.mk (blk_below (g := gb347) (o := .cells #[.int .i64 a0_0, .int .i64 a0_1, .int .i64 a0_2, .int .i64 a0_3, .int .i64 a0_4] 32 (0, 0)) (by (with_reducible repeat (first | refine blk_drewN ?_ _ | refine blk_drew ?_ | refine blk_alloc ?_ _)); exact BK347.out) hb); have n1_ := Aside0.mk (blk_below (g := gb348) (o := .cells #[.int .i64 0, .int .i64 0, .int .i64 0, .int .i64 0, .int .i64 0] 32 (0, 0)) (by (with_reducible repeat (first | refine blk_drewN ?_ _ | refine blk_drew ?_ | refine blk_alloc ?_ _)); exact BK348.out) hb); have n2_ := Aside0.mk (below_step (by repeat (first | (with_reducible first | exact HB.out | apply below_alloc | apply pw_below_drewN | apply below_drew1 | refine below_set ?_ GE347.out | refine below_set ?_ GE348.out) | exact HB.out)) hb); clear BK347; clear BK348; clear HB; have BK347 := n0_; have BK348 := n1_; have HB := n2_; clear n0_ n1_ n2_; (try clear hb); (try clear hb2); (try clear hk); (try clear hi); have hcz46_0 : w45.cell? ⟨gb347, 0, none⟩ = some (.int .i64 a0_0) := (blk_cell BK347.out 0).trans rfl; have hcz46_1 : w45.cell? ⟨gb347, 1, none⟩ = some (.int .i64 a0_1) := (blk_cell BK347.out 1).trans rfl; have hcz46_2 : w45.cell? ⟨gb347, 2, none⟩ = some (.int .i64 a0_2) := (blk_cell BK347.out 2).trans rfl; have hcz46_3 : w45.cell? ⟨gb347, 3, none⟩ = some (.int .i64 a0_3) := (blk_cell BK347.out 3).trans rfl; have hcz46_4 : w45.cell? ⟨gb347, 4, none⟩ = some (.int .i64 a0_4) := (blk_cell BK347.out 4).trans rfl; have hfz46_0 := blk_frozen BK347.out 0; have hfz46_1 := blk_frozen BK347.out 1; have hfz46_2 := blk_frozen BK347.out 2; have hfz46_3 := blk_frozen BK347.out 3; have hfz46_4 := blk_frozen BK347.out 4) | ((with_reducible refine gate_callee (f := 88) rfl ?_); refine goesL_ (some 50) rfl rfl Try.func88 (by kernel_rfl) rfl #[.int .i64 a1, .int .i64 t357] rfl (by (try simp only [List.map_toArray, List.map_cons, List.map_nil]); first | done | rfl | (simp only [List.length_drop, List.length_take]; rfl)) ?_; (with_reducible refine (tick_Add.calls a1 t357 t361 t362 _ A42.out).mono ?_); rintro e w47 ⟨rfl, hb⟩; refine ⟨_, rfl, ?_⟩; have n0_ := Aside0.mk (blk_below (g := gb347) (o := .cells #[.int .i64 t356, .int .i64 t357, .int .i64 t358, .int .i64 t359, .int .i64 t360] 32 (0, 0)) (by (with_reducible repeat (first | refine blk_drewN ?_ _ | refine blk_drew ?_ | refine blk_alloc ?_ _)); refine blk_put (cs := #[.int .i64 t356, .int .i64 t357, .int .i64 t358, .int .i64 t359, .int .i64 a0_4]) ?_ 4 _ rfl; (with_reducible repeat (first | refine blk_drewN ?_ _ | refine blk_drew ?_ | refine blk_alloc ?_ _)); refine blk_put (cs := #[.int .i64 t356, .int .i64 t357, .int .i64 t358, .int .i64 a0_3, .int .i64 a0_4]) ?_ 3 _ rfl; (with_reducible repeat (first | refine blk_drewN ?_ _ | refine blk_drew ?_ | refine blk_alloc ?_ _)); refine blk_put (cs := #[.int .i64 t356, .int .i64 t357, .int .i64 a0_2, .int .i64 a0_3, .int .i64 a0_4]) ?_ 2 _ rfl; (with_reducible repeat (first | refine blk_drewN ?_ _ | refine blk_drew ?_ | refine blk_alloc ?_ _)); refine blk_put (cs := #[.int .i64 t356, .int .i64 a0_1, .int .i64 a0_2, .int .i64 a0_3, .int .i64 a0_4]) ?_ 1 _ rfl; (with_reducible repeat (first | refine blk_drewN ?_ _ | refine blk_drew ?_ | refine blk_alloc ?_ _)); refine blk_put (cs := #[.int .i64 a0_0, .int .i64 a0_1, .int .i64 a0_2, .int .i64 a0_3, .int .i64 a0_4]) ?_ 0 _ rfl; (with_reducible repeat (first | refine blk_drewN ?_ _ | refine blk_drew ?_ | refine blk_alloc ?_ _)); exact BK347.out) hb); have n1_ := Aside0.mk (blk_below (g := gb348) (o := .cells #[.int .i64 0, .int .i64 0, .int .i64 0, .int .i64 0, .int .i64 0] 32 (0, 0)) (by (with_reducible repeat (first | refine blk_drewN ?_ _ | refine blk_drew ?_ | refine blk_alloc ?_ _)); refine blk_far ?_ NB348_347.out _; (with_reducible repeat (first | refine blk_drewN ?_ _ | refine blk_drew ?_ | refine blk_alloc ?_ _)); refine blk_far ?_ NB348_347.out _; (with_reducible repeat (first | refine blk_drewN ?_ _ | refine blk_drew ?_ | refine blk_alloc ?_ _)); refine blk_far ?_ NB348_347.out _; (with_reducible repeat (first | refine blk_drewN ?_ _ | refine blk_drew ?_ | refine blk_alloc ?_ _)); refine blk_far ?_ NB348_347.out _; (with_reducible repeat (first | refine blk_drewN ?_ _ | refine blk_drew ?_ | refine blk_alloc ?_ _)); refine blk_far ?_ NB348_347.out _; (with_reducible repeat (first | refine blk_drewN ?_ _ | refine blk_drew ?_ | refine blk_alloc ?_ _)); exact BK348.out) hb); have n2_ := Aside0.mk (below_step (by repeat (first | (with_reducible first | exact HB.out | apply below_alloc | apply pw_below_drewN | apply below_drew1 | refine below_set ?_ GE347.out | refine below_set ?_ GE348.out) | exact HB.out)) hb); clear BK347; clear BK348; clear HB; have BK347 := n0_; have BK348 := n1_; have HB := n2_; clear n0_ n1_ n2_; (try clear hb); (try clear hb2); (try clear hk); (try clear hi); have hcz48_0 : w47.cell? ⟨gb347, 0, none⟩ = some (.int .i64 t356) := (blk_cell BK347.out 0).trans rfl; have hcz48_1 : w47.cell? ⟨gb347, 1, none⟩ = some (.int .i64 t357) := (blk_cell BK347.out 1).trans rfl; have hcz48_2 : w47.cell? ⟨gb347, 2, none⟩ = some (.int .i64 t358) := (blk_cell BK347.out 2).trans rfl; have hcz48_3 : w47.cell? ⟨gb347, 3, none⟩ = some (.int .i64 t359) := (blk_cell BK347.out 3).trans rfl; have hcz48_4 : w47.cell? ⟨gb347, 4, none⟩ = some (.int .i64 t360) := (blk_cell BK347.out 4).trans rfl; have hfz48_0 := blk_frozen BK347.out 0; have hfz48_1 := blk_frozen BK347.out 1; have hfz48_2 := blk_frozen BK347.out 2; have hfz48_3 := blk_frozen BK347.out 3; have hfz48_4 := blk_frozen BK347.out 4; have hcz49_0 : w47.cell? ⟨gb348, 0, none⟩ = some (.int .i64 0) := (blk_cell BK348.out 0).trans rfl; have hcz49_1 : w47.cell? ⟨gb348, 1, none⟩ = some (.int .i64 0) := (blk_cell BK348.out 1).trans rfl; have hcz49_2 : w47.cell? ⟨gb348, 2, none⟩ = some (.int .i64 0) := (blk_cell BK348.out 2).trans rfl; have hcz49_3 : w47.cell? ⟨gb348, 3, none⟩ = some (.int .i64 0) := (blk_cell BK348.out 3).trans rfl; have hcz49_4 : w47.cell? ⟨gb348, 4, none⟩ = some (.int .i64 0) := (blk_cell BK348.out 4).trans rfl; have hfz49_0 := blk_frozen BK348.out 0; have hfz49_1 := blk_frozen BK348.out 1; have hfz49_2 := blk_frozen BK348.out 2; have hfz49_3 := blk_frozen BK348.out 3; have hfz49_4 := blk_frozen BK348.out 4))
                  refine bodyPost_ret (results_ct rfl _ _ gb348 32 #[.int .i64 t356, .int .i64 t357, .int .i64 t358, .int .i64 t359, .int .i64 t361] (0, 0) _ rfl (by (with_reducible repeat (first | refine blk_drewN ?_ _ | refine blk_drew ?_ | refine blk_alloc ?_ _)); refine blk_put (cs := #[.int .i64 t356, .int .i64 t357, .int .i64 t358, .int .i64 t359, .int .i64 0]) ?_ 4 _ rfl; (with_reducible repeat (first | refine blk_drewN ?_ _ | refine blk_drew ?_ | refine blk_alloc ?_ _)); refine blk_put (cs := #[.int .i64 t356, .int .i64 t357, .int .i64 t358, .int .i64 0, .int .i64 0]) ?_ 3 _ rfl; (with_reducible repeat (first | refine blk_drewN ?_ _ | refine blk_drew ?_ | refine blk_alloc ?_ _)); refine blk_put (cs := #[.int .i64 t356, .int .i64 t357, .int .i64 0, .int .i64 0, .int .i64 0]) ?_ 2 _ rfl; (with_reducible repeat (first | refine blk_drewN ?_ _ | refine blk_drew ?_ | refine blk_alloc ?_ _)); refine blk_put (cs := #[.int .i64 t356, .int .i64 0, .int .i64 0, .int .i64 0, .int .i64 0]) ?_ 1 _ rfl; (with_reducible repeat (first | refine blk_drewN ?_ _ | refine blk_drew ?_ | refine blk_alloc ?_ _)); refine blk_put (cs := #[.int .i64 0, .int .i64 0, .int .i64 0, .int .i64 0, .int .i64 0]) ?_ 0 _ rfl; (with_reducible repeat (first | refine blk_drewN ?_ _ | refine blk_drew ?_ | refine blk_alloc ?_ _)); refine blk_far ?_ NB348_347.out _; (with_reducible repeat (first | refine blk_drewN ?_ _ | refine blk_drew ?_ | refine blk_alloc ?_ _)); exact BK348.out) Try.underlying32 rfl (by kernel_rfl)) rfl ?_
                  exact ⟨by first | rfl | (simp [errW_none, errW_some] <;> rfl) | (simp [*, errW_none, errW_some] <;> rfl), by repeat (first | (with_reducible first | exact HB.out | apply below_alloc | apply pw_below_drewN | apply below_drew1 | refine below_set ?_ GE347.out | refine below_set ?_ GE348.out) | exact HB.out)⟩

end Go.Proofs.Ytanhdljnbaojbaa.G
