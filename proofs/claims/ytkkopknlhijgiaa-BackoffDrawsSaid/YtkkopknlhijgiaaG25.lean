/- Contracts of functions of the given program, each proved by a walk of its code: written by gprint.py, this session's program round the kit's print; texts of our own stand among the printed ones. No condition beyond each theorem's own premises. -/
import Derived.Test.YtkkopknlhijgiaaG0
import Derived.Test.YtkkopknlhijgiaaG24
namespace Go.Proofs.Ytkkopknlhijgiaa.G
open Go.RowKit Go.Proofs.YtkkopknlhijgiaaW.PrintWords Go.Proofs.YtkkopknlhijgiaaW.PrintLast Go.Proofs.YtkkopknlhijgiaaW.PrintMore
attribute [local go_sem] max2_int min2_int max_two min_two max_three min_three max_four min_four   -- for this text's walks alone
set_option linter.unusedVariables false
set_option linter.unusedSimpArgs false

/-! ### backoff_Wait: function 17 -/
def backoff_Wait.f (a0_0 : Int) (a0_1 : Int) (a0_2 : Int) (a1 : Int) (a2 : Int) : Option (Int × Int) := (backoff_Step.f a0_0 a0_1 a0_2 a1).bind fun bt412 => (if bt412.2 = 0 then (if (wrap64 (a0_2 + 1)) = 0 then (none) else (if (Int.tmod a2 (wrap64 (a0_2 + 1))) < 0 then (some (wrap64 (bt412.1 + (wrap64 ((Int.tmod a2 (wrap64 (a0_2 + 1))) + (wrap64 (a0_2 + 1))))), 0)) else (some (wrap64 (bt412.1 + (Int.tmod a2 (wrap64 (a0_2 + 1)))), 0)))) else (some (0, bt412.2)))
set_option maxHeartbeats 8000000 in
set_option maxRecDepth 100000 in
theorem backoff_Wait.calls (a0_0 : Int) (a0_1 : Int) (a0_2 : Int) (a1 : Int) (a2 : Int) (r1 : Int) (r2 : Int) (w : World) (h : backoff_Wait.f a0_0 a0_1 a0_2 a1 a2 = some (r1, r2)) :
    Calls Try.prog 17 #[.agg #[.int .i64 a0_0, .int .i64 a0_1, .int .i64 a0_2], .int .i64 a1, .int .i64 a2] w fun e w' => e = .returned (.tuple #[.int .i64 r1, .int .i64 r2]) ∧ Below w.heap.size w w' := by
  have hu23 := Try.underlying23
  have HB := Aside0.mk (Below.refl w.heap.size w)
  have H : ((backoff_Step.f a0_0 a0_1 a0_2 a1).bind fun bt412 => (if bt412.2 = 0 then (if (wrap64 (a0_2 + 1)) = 0 then (none) else (if (Int.tmod a2 (wrap64 (a0_2 + 1))) < 0 then (some (wrap64 (bt412.1 + (wrap64 ((Int.tmod a2 (wrap64 (a0_2 + 1))) + (wrap64 (a0_2 + 1))))), 0)) else (some (wrap64 (bt412.1 + (Int.tmod a2 (wrap64 (a0_2 + 1)))), 0)))) else (some (0, bt412.2)))) = some (r1, r2) := h
  clear h
  replace H := Option.bind_eq_some_iff.mp H
  obtain ⟨⟨t412, t413⟩, A40, H⟩ := H
  replace H : (if t413 = 0 then (if (wrap64 (a0_2 + 1)) = 0 then (none) else (if (Int.tmod a2 (wrap64 (a0_2 + 1))) < 0 then (some (wrap64 (t412 + (wrap64 ((Int.tmod a2 (wrap64 (a0_2 + 1))) + (wrap64 (a0_2 + 1))))), 0)) else (some (wrap64 (t412 + (Int.tmod a2 (wrap64 (a0_2 + 1)))), 0)))) else (some (0, t413))) = some (r1, r2) := H
  have A4 := Aside0.mk A40
  clear A40
  by_cases c5 : t413 = 0
  · rw [if_pos c5] at H
    have c5b0 : (t413 == 0) = true := beq_iff_eq.mpr c5
    have c5b1 : (t413 != 0) = false := bne_eq_false_iff_eq.mpr c5
    clear c5
    by_cases c6 : (wrap64 (a0_2 + 1)) = 0
    · rw [if_pos c6] at H
      exact absurd H (by simp)
    · rw [if_neg c6] at H
      have c6b0 : ((wrap64 (a0_2 + 1)) == 0) = false := beq_eq_false_iff_ne.mpr c6
      have c6b1 : ((wrap64 (a0_2 + 1)) != 0) = true := bne_iff_ne.mpr c6
      by_cases c7 : (Int.tmod a2 (wrap64 (a0_2 + 1))) < 0
      · rw [if_pos c7] at H
        have c7b0 : decide ((Int.tmod a2 (wrap64 (a0_2 + 1))) < 0) = true := decide_eq_true c7
        clear c7
        simp only [Option.some.injEq, Prod.mk.injEq] at H
        obtain ⟨rfl, rfl⟩ := H
        go_enter Try.func17, Try.ntmps17
        go_wp2_with (first | ((with_reducible refine gate_dst (N := 3) rfl ?_); refine box_event ?hg (N := 3) ?hd (cs := #[.int .i64 a0_0, .int .i64 a0_1, .int .i64 a0_2]) (t := 23) ?hr ?_; (case hd => rfl); (case hg => rfl); (case hr => first | (go_simp; done) | (go_simp; rfl)); intro gb411 hg w8 hbox hb; have n0_ := Aside0.mk (below_step (by repeat (first | (with_reducible first | exact HB.out | apply below_alloc | apply pw_below_drewN | apply below_drew1) | exact HB.out)) hb); have n1_ := Aside0.mk (hbox); have n2_ := Aside0.mk ((by rw [hg]; exact (below_size (by repeat (first | (with_reducible first | exact HB.out | apply below_alloc | apply pw_below_drewN | apply below_drew1) | exact HB.out))) : w.heap.size ≤ gb411)); have n3_ := Aside0.mk ((by rw [hg]; exact (below_size (by repeat (first | (with_reducible first | exact HB.out | apply below_alloc | apply pw_below_drewN | apply below_drew1) | exact HB.out))) : w.heap.size ≤ gb411)); clear HB; have HB := n0_; have BK411 := n1_; have GW411 := n2_; have GE411 := n3_; clear n0_ n1_ n2_ n3_; clear hb hbox hg; have hcz9_0 : w8.cell? ⟨gb411, 0, none⟩ = some (.int .i64 a0_0) := (blk_cell BK411.out 0).trans rfl; have hcz9_1 : w8.cell? ⟨gb411, 1, none⟩ = some (.int .i64 a0_1) := (blk_cell BK411.out 1).trans rfl; have hcz9_2 : w8.cell? ⟨gb411, 2, none⟩ = some (.int .i64 a0_2) := (blk_cell BK411.out 2).trans rfl; have hfz9_0 := blk_frozen BK411.out 0; have hfz9_1 := blk_frozen BK411.out 1; have hfz9_2 := blk_frozen BK411.out 2) | ((with_reducible refine gate_callee (f := 15) rfl ?_); refine goesL_ (some 14) rfl rfl Try.func15 (by kernel_rfl) rfl #[.agg #[.int .i64 a0_0, .int .i64 a0_1, .int .i64 a0_2], .int .i64 a1] rfl (by (try simp only [List.map_toArray, List.map_cons, List.map_nil]); first | done | rfl | (simp only [List.length_drop, List.length_take]; rfl)) ?_; (with_reducible refine (backoff_Step.calls a0_0 a0_1 a0_2 a1 t412 t413 _ A4.out).mono ?_); rintro e w10 ⟨rfl, hb⟩; refine ⟨_, rfl, ?_⟩; have n0_ := Aside0.mk (blk_below (g := gb411) (o := .cells #[.int .i64 a0_0, .int .i64 a0_1, .int .i64 a0_2] 23 (0, 0)) (by (with_reducible repeat (first | refine blk_drewN ?_ _ | refine blk_drew ?_ | refine blk_alloc ?_ _)); exact BK411.out) hb); have n1_ := Aside0.mk (below_step (by repeat (first | (with_reducible first | exact HB.out | apply below_alloc | apply pw_below_drewN | apply below_drew1 | refine below_set ?_ GE411.out) | exact HB.out)) hb); clear BK411; clear HB; have BK411 := n0_; have HB := n1_; clear n0_ n1_; (try clear hb); (try clear hb2); (try clear hk); (try clear hi); have hcz11_0 : w10.cell? ⟨gb411, 0, none⟩ = some (.int .i64 a0_0) := (blk_cell BK411.out 0).trans rfl; have hcz11_1 : w10.cell? ⟨gb411, 1, none⟩ = some (.int .i64 a0_1) := (blk_cell BK411.out 1).trans rfl; have hcz11_2 : w10.cell? ⟨gb411, 2, none⟩ = some (.int .i64 a0_2) := (blk_cell BK411.out 2).trans rfl; have hfz11_0 := blk_frozen BK411.out 0; have hfz11_1 := blk_frozen BK411.out 1; have hfz11_2 := blk_frozen BK411.out 2))
        go_ret2
        exact ⟨by first | rfl | (simp [errW_none, errW_some] <;> rfl) | (simp [*, errW_none, errW_some] <;> rfl), by repeat (first | (with_reducible first | exact HB.out | apply below_alloc | apply pw_below_drewN | apply below_drew1 | refine below_set ?_ GE411.out) | exact HB.out)⟩
      · rw [if_neg c7] at H
        have c7b0 : decide ((Int.tmod a2 (wrap64 (a0_2 + 1))) < 0) = false := decide_eq_false c7
        clear c7
        simp only [Option.some.injEq, Prod.mk.injEq] at H
        obtain ⟨rfl, rfl⟩ := H
        go_enter Try.func17, Try.ntmps17
        go_wp2_with (first | ((with_reducible refine gate_dst (N := 3) rfl ?_); refine box_event ?hg (N := 3) ?hd (cs := #[.int .i64 a0_0, .int .i64 a0_1, .int .i64 a0_2]) (t := 23) ?hr ?_; (case hd => rfl); (case hg => rfl); (case hr => first | (go_simp; done) | (go_simp; rfl)); intro gb411 hg w12 hbox hb; have n0_ := Aside0.mk (below_step (by repeat (first | (with_reducible first | exact HB.out | apply below_alloc | apply pw_below_drewN | apply below_drew1) | exact HB.out)) hb); have n1_ := Aside0.mk (hbox); have n2_ := Aside0.mk ((by rw [hg]; exact (below_size (by repeat (first | (with_reducible first | exact HB.out | apply below_alloc | apply pw_below_drewN | apply below_drew1) | exact HB.out))) : w.heap.size ≤ gb411)); have n3_ := Aside0.mk ((by rw [hg]; exact (below_size (by repeat (first | (with_reducible first | exact HB.out | apply below_alloc | apply pw_below_drewN | apply below_drew1) | exact HB.out))) : w.heap.size ≤ gb411)); clear HB; have HB := n0_; have BK411 := n1_; have GW411 := n2_; have GE411 := n3_; clear n0_ n1_ n2_ n3_; clear hb hbox hg; have hcz13_0 : w12.cell? ⟨gb411, 0, none⟩ = some (.int .i64 a0_0) := (blk_cell BK411.out 0).trans rfl; have hcz13_1 : w12.cell? ⟨gb411, 1, none⟩ = some (.int .i64 a0_1) := (blk_cell BK411.out 1).trans rfl; have hcz13_2 : w12.cell? ⟨gb411, 2, none⟩ = some (.int .i64 a0_2) := (blk_cell BK411.out 2).trans rfl; have hfz13_0 := blk_frozen BK411.out 0; have hfz13_1 := blk_frozen BK411.out 1; have hfz13_2 := blk_frozen BK411.out 2) | ((with_reducible refine gate_callee (f := 15) rfl ?_); refine goesL_ (some 14) rfl rfl Try.func15 (by kernel_rfl) rfl #[.agg #[.int .i64 a0_0, .int .i64 a0_1, .int .i64 a0_2], .int .i64 a1] rfl (by (try simp only [List.map_toArray, List.map_cons, List.map_nil]); first | done | rfl | (simp only [List.length_drop, List.length_take]; rfl)) ?_; (with_reducible refine (backoff_Step.calls a0_0 a0_1 a0_2 a1 t412 t413 _ A4.out).mono ?_); rintro e w14 ⟨rfl, hb⟩; refine ⟨_, rfl, ?_⟩; have n0_ := Aside0.mk (blk_below (g := gb411) (o := .cells #[.int .i64 a0_0, .int .i64 a0_1, .int .i64 a0_2] 23 (0, 0)) (by (with_reducible repeat (first | refine blk_drewN ?_ _ | refine blk_drew ?_ | refine blk_alloc ?_ _)); exact BK411.out) hb); have n1_ := Aside0.mk (below_step (by repeat (first | (with_reducible first | exact HB.out | apply below_alloc | apply pw_below_drewN | apply below_drew1 | refine below_set ?_ GE411.out) | exact HB.out)) hb); clear BK411; clear HB; have BK411 := n0_; have HB := n1_; clear n0_ n1_; (try clear hb); (try clear hb2); (try clear hk); (try clear hi); have hcz15_0 : w14.cell? ⟨gb411, 0, none⟩ = some (.int .i64 a0_0) := (blk_cell BK411.out 0).trans rfl; have hcz15_1 : w14.cell? ⟨gb411, 1, none⟩ = some (.int .i64 a0_1) := (blk_cell BK411.out 1).trans rfl; have hcz15_2 : w14.cell? ⟨gb411, 2, none⟩ = some (.int .i64 a0_2) := (blk_cell BK411.out 2).trans rfl; have hfz15_0 := blk_frozen BK411.out 0; have hfz15_1 := blk_frozen BK411.out 1; have hfz15_2 := blk_frozen BK411.out 2))
        go_ret2
        exact ⟨by first | rfl | (simp [errW_none, errW_some] <;> rfl) | (simp [*, errW_none, errW_some] <;> rfl), by repeat (first | (with_reducible first | exact HB.out | apply below_alloc | apply pw_below_drewN | apply below_drew1 | refine below_set ?_ GE411.out) | exact HB.out)⟩
  · rw [if_neg c5] at H
    have c5b0 : (t413 == 0) = false := beq_eq_false_iff_ne.mpr c5
    have c5b1 : (t413 != 0) = true := bne_iff_ne.mpr c5
    simp only [Option.some.injEq, Prod.mk.injEq] at H
    obtain ⟨rfl, rfl⟩ := H
    go_enter Try.func17, Try.ntmps17
    go_wp2_with (first | ((with_reducible refine gate_dst (N := 3) rfl ?_); refine box_event ?hg (N := 3) ?hd (cs := #[.int .i64 a0_0, .int .i64 a0_1, .int .i64 a0_2]) (t := 23) ?hr ?_; (case hd => rfl); (case hg => rfl); (case hr => first | (go_simp; done) | (go_simp; rfl)); intro gb411 hg w16 hbox hb; have n0_ := Aside0.mk (below_step (by repeat (first | (with_reducible first | exact HB.out | apply below_alloc | apply pw_below_drewN | apply below_drew1) | exact HB.out)) hb); have n1_ := Aside0.mk (hbox); have n2_ := Aside0.mk ((by rw [hg]; exact (below_size (by repeat (first | (with_reducible first | exact HB.out | apply below_alloc | apply pw_below_drewN | apply below_drew1) | exact HB.out))) : w.heap.size ≤ gb411)); have n3_ := Aside0.mk ((by rw [hg]; exact (below_size (by repeat (first | (with_reducible first | exact HB.out | apply below_alloc | apply pw_below_drewN | apply below_drew1) | exact HB.out))) : w.heap.size ≤ gb411)); clear HB; have HB := n0_; have BK411 := n1_; have GW411 := n2_; have GE411 := n3_; clear n0_ n1_ n2_ n3_; clear hb hbox hg; have hcz17_0 : w16.cell? ⟨gb411, 0, none⟩ = some (.int .i64 a0_0) := (blk_cell BK411.out 0).trans rfl; have hcz17_1 : w16.cell? ⟨gb411, 1, none⟩ = some (.int .i64 a0_1) := (blk_cell BK411.out 1).trans rfl; have hcz17_2 : w16.cell? ⟨gb411, 2, none⟩ = some (.int .i64 a0_2) := (blk_cell BK411.out 2).trans rfl; have hfz17_0 := blk_frozen BK411.out 0; have hfz17_1 := blk_frozen BK411.out 1; have hfz17_2 := blk_frozen BK411.out 2) | ((with_reducible refine gate_callee (f := 15) rfl ?_); refine goesL_ (some 14) rfl rfl Try.func15 (by kernel_rfl) rfl #[.agg #[.int .i64 a0_0, .int .i64 a0_1, .int .i64 a0_2], .int .i64 a1] rfl (by (try simp only [List.map_toArray, List.map_cons, List.map_nil]); first | done | rfl | (simp only [List.length_drop, List.length_take]; rfl)) ?_; (with_reducible refine (backoff_Step.calls a0_0 a0_1 a0_2 a1 t412 t413 _ A4.out).mono ?_); rintro e w18 ⟨rfl, hb⟩; refine ⟨_, rfl, ?_⟩; have n0_ := Aside0.mk (blk_below (g := gb411) (o := .cells #[.int .i64 a0_0, .int .i64 a0_1, .int .i64 a0_2] 23 (0, 0)) (by (with_reducible repeat (first | refine blk_drewN ?_ _ | refine blk_drew ?_ | refine blk_alloc ?_ _)); exact BK411.out) hb); have n1_ := Aside0.mk (below_step (by repeat (first | (with_reducible first | exact HB.out | apply below_alloc | apply pw_below_drewN | apply below_drew1 | refine below_set ?_ GE411.out) | exact HB.out)) hb); clear BK411; clear HB; have BK411 := n0_; have HB := n1_; clear n0_ n1_; (try clear hb); (try clear hb2); (try clear hk); (try clear hi)))
    go_ret2
    exact ⟨by first | rfl | (simp [errW_none, errW_some] <;> rfl) | (simp [*, errW_none, errW_some] <;> rfl), by repeat (first | (with_reducible first | exact HB.out | apply below_alloc | apply pw_below_drewN | apply below_drew1 | refine below_set ?_ GE411.out) | exact HB.out)⟩

/-! ### foghornlaw06_alive: function 16 -/
def foghornlaw06_alive.f  : Option (Bool) := (backoff_Wait.f 2 9 3 1 (-1)).bind fun bt414 => (if bt414.2 = 0 then (some (bt414.1 == 7)) else (some false))
set_option maxHeartbeats 8000000 in
set_option maxRecDepth 100000 in
theorem foghornlaw06_alive.calls  (r : Bool) (w : World) (h : foghornlaw06_alive.f  = some r) :
    Calls Try.prog 16 #[] w fun e w' => e = .returned (.bool r) ∧ Below w.heap.size w w' := by
  have hu23 := Try.underlying23
  have HB := Aside0.mk (Below.refl w.heap.size w)
  have H : ((backoff_Wait.f 2 9 3 1 (-1)).bind fun bt414 => (if bt414.2 = 0 then (some (bt414.1 == 7)) else (some false))) = some r := h
  clear h
  replace H := Option.bind_eq_some_iff.mp H
  obtain ⟨⟨t414, t415⟩, A10, H⟩ := H
  replace H : (if t415 = 0 then (some (t414 == 7)) else (some false)) = some r := H
  have A1 := Aside0.mk A10
  clear A10
  by_cases c2 : t415 = 0
  · rw [if_pos c2] at H
    have c2b0 : (t415 == 0) = true := beq_iff_eq.mpr c2
    have c2b1 : (t415 != 0) = false := bne_eq_false_iff_eq.mpr c2
    clear c2
    obtain rfl := Option.some.inj H
    go_enter Try.func16, Try.ntmps16
    go_wp2_with (first | ((with_reducible refine gate_callee (f := 17) rfl ?_); refine goesL_ (some 5) rfl rfl Try.func17 (by kernel_rfl) rfl #[.agg #[.int .i64 2, .int .i64 9, .int .i64 3], .int .i64 1, .int .i64 (-1)] rfl (by (try simp only [List.map_toArray, List.map_cons, List.map_nil]); first | done | rfl | (simp only [List.length_drop, List.length_take]; rfl)) ?_; (with_reducible refine (backoff_Wait.calls 2 9 3 1 (-1) t414 t415 _ A1.out).mono ?_); rintro e w3 ⟨rfl, hb⟩; refine ⟨_, rfl, ?_⟩; have n0_ := Aside0.mk (below_step (by repeat (first | (with_reducible first | exact HB.out | apply below_alloc | apply pw_below_drewN | apply below_drew1) | exact HB.out)) hb); clear HB; have HB := n0_; clear n0_; (try clear hb); (try clear hb2); (try clear hk); (try clear hi)))
    go_ret
    exact ⟨by first | rfl | (simp [errW_none, errW_some] <;> rfl) | (simp [*, errW_none, errW_some] <;> rfl), by repeat (first | (with_reducible first | exact HB.out | apply below_alloc | apply pw_below_drewN | apply below_drew1) | exact HB.out)⟩
  · rw [if_neg c2] at H
    have c2b0 : (t415 == 0) = false := beq_eq_false_iff_ne.mpr c2
    have c2b1 : (t415 != 0) = true := bne_iff_ne.mpr c2
    obtain rfl := Option.some.inj H
    go_enter Try.func16, Try.ntmps16
    go_wp2_with (first | ((with_reducible refine gate_callee (f := 17) rfl ?_); refine goesL_ (some 5) rfl rfl Try.func17 (by kernel_rfl) rfl #[.agg #[.int .i64 2, .int .i64 9, .int .i64 3], .int .i64 1, .int .i64 (-1)] rfl (by (try simp only [List.map_toArray, List.map_cons, List.map_nil]); first | done | rfl | (simp only [List.length_drop, List.length_take]; rfl)) ?_; (with_reducible refine (backoff_Wait.calls 2 9 3 1 (-1) t414 t415 _ A1.out).mono ?_); rintro e w4 ⟨rfl, hb⟩; refine ⟨_, rfl, ?_⟩; have n0_ := Aside0.mk (below_step (by repeat (first | (with_reducible first | exact HB.out | apply below_alloc | apply pw_below_drewN | apply below_drew1) | exact HB.out)) hb); clear HB; have HB := n0_; clear n0_; (try clear hb); (try clear hb2); (try clear hk); (try clear hi)))
    go_ret
    exact ⟨by first | rfl | (simp [errW_none, errW_some] <;> rfl) | (simp [*, errW_none, errW_some] <;> rfl), by repeat (first | (with_reducible first | exact HB.out | apply below_alloc | apply pw_below_drewN | apply below_drew1) | exact HB.out)⟩

end Go.Proofs.Ytkkopknlhijgiaa.G
