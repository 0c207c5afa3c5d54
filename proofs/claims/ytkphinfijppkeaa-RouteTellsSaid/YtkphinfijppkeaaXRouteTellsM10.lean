/- Contracts of functions of the given program, and what they come to, for any arguments. No condition beyond each theorem's own premises. -/
import Derived.Test.YtkphinfijppkeaaXRouteTellsM0
import Derived.Test.YtkphinfijppkeaaXRouteTellsM8
import Derived.Test.YtkphinfijppkeaaXRouteTellsM7
import Derived.Test.YtkphinfijppkeaaXRouteTellsM9
namespace Go.Proofs.Ytkphinfijppkeaa.G
open Go.RowKit Go.Proofs.YtkphinfijppkeaaW.PrintWords Go.Proofs.YtkphinfijppkeaaW.PrintLast Go.Proofs.YtkphinfijppkeaaW.PrintMore
attribute [local go_sem] max2_int min2_int max_two min_two max_three min_three max_four min_four   -- for this text's walks alone
set_option linter.unusedVariables false
set_option linter.unusedSimpArgs false
def foghornref15_Choose.l0 : Nat → List (S92) → List (S58) → Int → Int → Option (Int)
  | 0, _, _, _, _ => none
  | k + 1, x1, x8, x9, x10 => if x10 < x9 then (if 0 ≤ x10 then (if x10 < (x8.length : Int) then ((foghornref10_All.f k ((rd_T58 x8 x10).f1) x1).bind fun t349 => (if t349 = true then (some x10) else (foghornref15_Choose.l0 k x1 x8 x9 (wrap64 (x10 + 1))))) else (none)) else (none)) else (some (-1))
def foghornref15_Choose.f (k : Nat) (l0_0 : List (S76)) (l0_1 : List (S58)) (a0_2 : Int) (a0_3 : Int) (l1 : List (S92)) : Option (Int) := foghornref15_Choose.l0 k l1 l0_1 (l0_1.length : Int) 0
set_option maxHeartbeats 8000000 in
set_option maxRecDepth 100000 in
theorem foghornref15_Choose.calls (k : Nat) (A0_0 : Option Addr) (c0_0 : Nat) (l0_0 : List (S76)) (A0_1 : Option Addr) (c0_1 : Nat) (l0_1 : List (S58)) (a0_2 : Int) (a0_3 : Int) (A1 : Option Addr) (c1 : Nat) (l1 : List (S92)) (r : Int) (w : World) (hr0_0 : Kd.C k76 w A0_0 l0_0.length l0_0) (hc0_0 : l0_0.length ≤ c0_0) (hr0_1 : Kd.C k58 w A0_1 l0_1.length l0_1) (hc0_1 : l0_1.length ≤ c0_1) (hr1 : Kd.C k92 w A1 l1.length l1) (hc1 : l1.length ≤ c1) (h : foghornref15_Choose.f k l0_0 l0_1 a0_2 a0_3 l1 = some r) :
    Calls Try.prog 38 #[.agg #[.slice A0_0 l0_0.length c0_0, .slice A0_1 l0_1.length c0_1, .int .i64 a0_2, .int .i64 a0_3], .slice A1 l1.length c1] w fun e w' => e = .returned (.int .i64 r) ∧ Below w.heap.size w w' := by
  have hu53 := Try.underlying53
  have hu58 := Try.underlying58
  have HR0_0 := Aside0.mk hr0_0
  have HC0_0 := Aside0.mk hc0_0
  clear hr0_0 hc0_0
  have HR0_1 := Aside0.mk hr0_1
  have HC0_1 := Aside0.mk hc0_1
  clear hr0_1 hc0_1
  have HR1 := Aside0.mk hr1
  have HC1 := Aside0.mk hc1
  clear hr1 hc1
  have HB := Aside0.mk (Below.refl w.heap.size w)
  have H : (foghornref15_Choose.l0 k l1 l0_1 (l0_1.length : Int) 0) = some r := h
  clear h
  have H' := Aside0.mk H
  clear H
  go_enter Try.func38, Try.ntmps38
  go_wp2_with (first | ((with_reducible refine gate_dst (N := 2) rfl ?_); refine box_event ?hg (N := 2) ?hd (cs := #[.slice A0_0 l0_0.length c0_0, .slice A0_1 l0_1.length c0_1, .int .i64 a0_2, .int .i64 a0_3]) (t := 53) ?hr ?_; (case hd => rfl); (case hg => rfl); (case hr => first | (go_simp; done) | (go_simp; rfl)); intro gb346 hg w3 hbox hb; have n0_ := Aside0.mk (below_step (by repeat (first | (with_reducible first | exact HB.out | apply below_alloc | apply pw_below_drewN | apply below_drew1) | exact HB.out)) hb); have n1_ := Aside0.mk (hbox); have n2_ := Aside0.mk ((by rw [hg]; exact (below_size (by repeat (first | (with_reducible first | exact HB.out | apply below_alloc | apply pw_below_drewN | apply below_drew1) | exact HB.out))) : w.heap.size ≤ gb346)); have n3_ := n2_; clear HB; have HB := n0_; have BK346 := n1_; have GW346 := n2_; have GE346 := n3_; clear n0_ n1_ n2_ n3_; clear hb hbox hg; obtain ⟨hcz4_0, hcz4_1, hcz4_2, hcz4_3⟩ := cells_4 BK346.out; obtain ⟨hfz4_0, hfz4_1, hfz4_2, hfz4_3⟩ := froz_4 BK346.out))
  go_loopg [10] k (fun kq v10 w' => ∃ (x10_1 : Int), v10 = .int .i64 x10_1 ∧ Aside0 (foghornref15_Choose.l0 kq l1 l0_1 (l0_1.length : Int) x10_1 = some r) ∧ Aside0 (kq ≤ k) ∧ Aside0 (w'.heap[gb346]? = some (.cells #[(.slice A0_0 l0_0.length c0_0), (.slice A0_1 l0_1.length c0_1), .int .i64 a0_2, .int .i64 a0_3] 53 (0, 0))) ∧ Aside0 (Below w.heap.size w w'))
  case atStart => exact ⟨(0), (by first | rfl | (simp; done) | (simp [*]; done)), H', ⟨Nat.le_refl _⟩, ⟨by (with_reducible repeat (first | refine blk_drewN ?_ _ | refine blk_drew ?_ | refine blk_alloc ?_ _)); exact BK346.out⟩, ⟨by repeat (first | (with_reducible first | exact HB.out | apply below_alloc | apply pw_below_drewN | apply below_drew1 | refine below_set ?_ GE346.out) | exact HB.out)⟩⟩
  case round =>
    clear H'
    try clear c1
    try clear p2
    try clear c3
    try clear hcz4_0
    try clear hcz4_1
    try clear hcz4_2
    try clear hcz4_3
    try clear hfz4_0
    try clear hfz4_1
    try clear hfz4_2
    try clear hfz4_3
    obtain ⟨x10_1, rfl, HA, HK1, BK346, HB⟩ := hrel
    cases gk with
    | zero => exact absurd HA.out (by simp [foghornref15_Choose.l0])
    | succ k1 =>
      have H := HA.out
      clear HA
      simp only [foghornref15_Choose.l0] at H
      by_cases c5 : x10_1 < (l0_1.length : Int)
      · rw [if_pos c5] at H
        have c5b0 : decide (x10_1 < (l0_1.length : Int)) = true := decide_eq_true c5
        clear c5
        by_cases c6 : 0 ≤ x10_1
        · rw [if_pos c6] at H
          have c6b0 : decide (0 ≤ x10_1) = true := decide_eq_true c6
          clear c6
          by_cases c7 : x10_1 < (l0_1.length : Int)
          · rw [if_pos c7] at H
            have c7b0 : decide (x10_1 < (l0_1.length : Int)) = true := decide_eq_true c7
            clear c7
            replace H := Option.bind_eq_some_iff.mp H
            obtain ⟨t349, A80, H⟩ := H
            replace H : (if t349 = true then (some x10_1) else (foghornref15_Choose.l0 k1 l1 l0_1 (l0_1.length : Int) (wrap64 (x10_1 + 1)))) = some r := H
            have A8 := Aside0.mk A80
            clear A80
            by_cases c9 : t349 = true
            · subst c9
              have H1 : (some x10_1) = some r := by rw [if_pos rfl] at H; exact H
              clear H
              have H := H1
              clear H1
              obtain rfl := Option.some.inj H
              have p347 : 0 ≤ (x10_1 : Int) := of_decide_eq_true (by first | (with_reducible assumption) | assumption)
              have q347 : x10_1 < (l0_1.length : Int) := of_decide_eq_true (by first | (with_reducible assumption) | assumption)
              obtain ⟨ad347, A347_0, c347_0, A347_1, c347_1, e347, hx347_0, hx347_1, hl347_0, hi347_0, hl347_1, hi347_1⟩ := at_T58 HR0_1.out x10_1 p347 q347
              cases e347
              replace hx347_0 := (HB.out.cell (World.block_lt_of_cell? w _ hx347_0)).trans hx347_0
              replace hx347_1 := (HB.out.cell (World.block_lt_of_cell? w _ hx347_1)).trans hx347_1
              have HR347_0 := Aside0.mk hi347_0
              have HC347_0 := Aside0.mk hl347_0
              clear hi347_0 hl347_0
              have HR347_1 := Aside0.mk hi347_1
              have HC347_1 := Aside0.mk hl347_1
              clear hi347_1 hl347_1
              replace p347 := eq_true p347
              replace q347 := eq_true q347
              go_wp2_with (first | ((with_reducible refine gate_dst (N := 6) rfl ?_); refine box_event ?hg (N := 6) ?hd (cs := #[.slice none 0 0, .slice none 0 0]) (t := 58) ?hr ?_; (case hd => rfl); (case hg => rfl); (case hr => first | (go_simp; done) | (go_simp; rfl)); intro gb348 hg w10 hbox hb; have n0_ := Aside0.mk (blk_below (g := gb346) (o := .cells #[.slice A0_0 l0_0.length c0_0, .slice (some ad347) l0_1.length c0_1, .int .i64 a0_2, .int .i64 a0_3] 53 (0, 0)) (by (with_reducible repeat (first | refine blk_drewN ?_ _ | refine blk_drew ?_ | refine blk_alloc ?_ _)); exact BK346.out) hb); have n1_ := Aside0.mk (below_step (by repeat (first | (with_reducible first | exact HB.out | apply below_alloc | apply pw_below_drewN | apply below_drew1 | refine below_set ?_ GE346.out) | exact HB.out)) hb); have n2_ := Aside0.mk (hbox); have n3_ := Aside0.mk ((by rw [hg]; exact (below_size (by repeat (first | (with_reducible first | exact HB.out | apply below_alloc | apply pw_below_drewN | apply below_drew1 | refine below_set ?_ GE346.out) | exact HB.out))) : w.heap.size ≤ gb348)); have n4_ := n3_; have n5_ := Aside0.mk ((by rw [hg]; exact Nat.ne_of_lt (blk_lt (g := gb346) (o := .cells #[.slice A0_0 l0_0.length c0_0, .slice (some ad347) l0_1.length c0_1, .int .i64 a0_2, .int .i64 a0_3] 53 (0, 0)) (by (with_reducible repeat (first | refine blk_drewN ?_ _ | refine blk_drew ?_ | refine blk_alloc ?_ _)); exact BK346.out)) : gb346 ≠ gb348)); have n6_ := Aside0.mk ((by rw [hg]; exact Nat.ne_of_gt (blk_lt (g := gb346) (o := .cells #[.slice A0_0 l0_0.length c0_0, .slice (some ad347) l0_1.length c0_1, .int .i64 a0_2, .int .i64 a0_3] 53 (0, 0)) (by (with_reducible repeat (first | refine blk_drewN ?_ _ | refine blk_drew ?_ | refine blk_alloc ?_ _)); exact BK346.out)) : gb348 ≠ gb346)); clear BK346; clear HB; have BK346 := n0_; have HB := n1_; have BK348 := n2_; have GW348 := n3_; have GE348 := n4_; have NB346_348 := n5_; have NB348_346 := n6_; clear n0_ n1_ n2_ n3_ n4_ n5_ n6_; clear hb hbox hg; have hnb11 := NB348_346.out; have hnc11 := NB346_348.out; have hcz12_0 : w10.cell? ⟨gb348, 0, none⟩ = some (.slice none 0 0) := (blk_cell BK348.out 0).trans rfl; have hcz12_1 : w10.cell? ⟨gb348, 1, none⟩ = some (.slice none 0 0) := (blk_cell BK348.out 1).trans rfl; have hfz12_0 := blk_frozen BK348.out 0; have hfz12_1 := blk_frozen BK348.out 1) | ((with_reducible refine gate_callee (f := 65) rfl ?_); refine goesL_ (some 18) rfl rfl Try.func65 (by kernel_rfl) rfl #[.slice A347_1 ((rd_T58 l0_1 x10_1).f1).length c347_1, .slice A1 l1.length c1] rfl (by (try simp only [List.map_toArray, List.map_cons, List.map_nil]); first | done | rfl | (simp only [List.length_drop, List.length_take]; rfl)) ?_; (with_reducible refine (foghornref10_All.calls k1 _ _ ((rd_T58 l0_1 x10_1).f1) _ _ l1 true _ ?side1 ?side2 ?side3 ?side4 A8.out).mono ?_); (case side1 => exact Kd.C_below HR347_1.out (by repeat (first | (with_reducible first | exact HB.out | apply below_alloc | apply pw_below_drewN | apply below_drew1 | refine below_set ?_ GE346.out | refine below_set ?_ GE348.out) | exact HB.out))); (case side2 => exact HC347_1.out); (case side3 => exact Kd.C_below HR1.out (by repeat (first | (with_reducible first | exact HB.out | apply below_alloc | apply pw_below_drewN | apply below_drew1 | refine below_set ?_ GE346.out | refine below_set ?_ GE348.out) | exact HB.out))); (case side4 => exact HC1.out); rintro e w13 ⟨rfl, hb⟩; refine ⟨_, rfl, ?_⟩; have n0_ := Aside0.mk (blk_below (g := gb346) (o := .cells #[.slice A0_0 l0_0.length c0_0, .slice (some ad347) l0_1.length c0_1, .int .i64 a0_2, .int .i64 a0_3] 53 (0, 0)) (by (repeat (first | (with_reducible first | refine blk_drewN ?_ _ | refine blk_drew ?_ | refine blk_alloc ?_ _) | refine blk_far ?_ NB346_348.out _)); exact BK346.out) hb); have n1_ := Aside0.mk (blk_below (g := gb348) (o := .cells #[.slice A347_0 ((rd_T58 l0_1 x10_1).f0).length c347_0, .slice A347_1 ((rd_T58 l0_1 x10_1).f1).length c347_1] 58 (0, 0)) (by (with_reducible repeat (first | refine blk_drewN ?_ _ | refine blk_drew ?_ | refine blk_alloc ?_ _)); refine blk_put (cs := #[.slice A347_0 ((rd_T58 l0_1 x10_1).f0).length c347_0, .slice none 0 0]) ?_ 1 _ rfl; (with_reducible repeat (first | refine blk_drewN ?_ _ | refine blk_drew ?_ | refine blk_alloc ?_ _)); refine blk_put (cs := #[.slice none 0 0, .slice none 0 0]) ?_ 0 _ rfl; (with_reducible repeat (first | refine blk_drewN ?_ _ | refine blk_drew ?_ | refine blk_alloc ?_ _)); exact BK348.out) hb); have n2_ := Aside0.mk (below_step (by repeat (first | (with_reducible first | exact HB.out | apply below_alloc | apply pw_below_drewN | apply below_drew1 | refine below_set ?_ GE346.out | refine below_set ?_ GE348.out) | exact HB.out)) hb); clear BK346; clear BK348; clear HB; have BK346 := n0_; have BK348 := n1_; have HB := n2_; clear n0_ n1_ n2_; (try clear hb); (try clear hb2); (try clear hk); (try clear hi)))
              go_ret
              exact ⟨by first | rfl | (simp [errW_none, errW_some] <;> rfl) | (simp [*, errW_none, errW_some] <;> rfl), by repeat (first | (with_reducible first | exact HB.out | apply below_alloc | apply pw_below_drewN | apply below_drew1 | refine below_set ?_ GE346.out | refine below_set ?_ GE348.out) | exact HB.out)⟩
            · replace c9 := Bool.eq_false_iff.mpr c9
              subst c9
              have H1 : (foghornref15_Choose.l0 k1 l1 l0_1 (l0_1.length : Int) (wrap64 (x10_1 + 1))) = some r := by rw [if_neg (show ¬ (false = true) by decide)] at H; exact H
              clear H
              have H := H1
              clear H1
              have H' := Aside0.mk H
              clear H
              have p347 : 0 ≤ (x10_1 : Int) := of_decide_eq_true (by first | (with_reducible assumption) | assumption)
              have q347 : x10_1 < (l0_1.length : Int) := of_decide_eq_true (by first | (with_reducible assumption) | assumption)
              obtain ⟨ad347, A347_0, c347_0, A347_1, c347_1, e347, hx347_0, hx347_1, hl347_0, hi347_0, hl347_1, hi347_1⟩ := at_T58 HR0_1.out x10_1 p347 q347
              cases e347
              replace hx347_0 := (HB.out.cell (World.block_lt_of_cell? w _ hx347_0)).trans hx347_0
              replace hx347_1 := (HB.out.cell (World.block_lt_of_cell? w _ hx347_1)).trans hx347_1
              have HR347_0 := Aside0.mk hi347_0
              have HC347_0 := Aside0.mk hl347_0
              clear hi347_0 hl347_0
              have HR347_1 := Aside0.mk hi347_1
              have HC347_1 := Aside0.mk hl347_1
              clear hi347_1 hl347_1
              replace p347 := eq_true p347
              replace q347 := eq_true q347
              go_wp2_with (first | ((with_reducible refine gate_dst (N := 6) rfl ?_); refine box_event ?hg (N := 6) ?hd (cs := #[.slice none 0 0, .slice none 0 0]) (t := 58) ?hr ?_; (case hd => rfl); (case hg => rfl); (case hr => first | (go_simp; done) | (go_simp; rfl)); intro gb348 hg w14 hbox hb; have n0_ := Aside0.mk (blk_below (g := gb346) (o := .cells #[.slice A0_0 l0_0.length c0_0, .slice (some ad347) l0_1.length c0_1, .int .i64 a0_2, .int .i64 a0_3] 53 (0, 0)) (by (with_reducible repeat (first | refine blk_drewN ?_ _ | refine blk_drew ?_ | refine blk_alloc ?_ _)); exact BK346.out) hb); have n1_ := Aside0.mk (below_step (by repeat (first | (with_reducible first | exact HB.out | apply below_alloc | apply pw_below_drewN | apply below_drew1 | refine below_set ?_ GE346.out) | exact HB.out)) hb); have n2_ := Aside0.mk (hbox); have n3_ := Aside0.mk ((by rw [hg]; exact (below_size (by repeat (first | (with_reducible first | exact HB.out | apply below_alloc | apply pw_below_drewN | apply below_drew1 | refine below_set ?_ GE346.out) | exact HB.out))) : w.heap.size ≤ gb348)); have n4_ := n3_; have n5_ := Aside0.mk ((by rw [hg]; exact Nat.ne_of_lt (blk_lt (g := gb346) (o := .cells #[.slice A0_0 l0_0.length c0_0, .slice (some ad347) l0_1.length c0_1, .int .i64 a0_2, .int .i64 a0_3] 53 (0, 0)) (by (with_reducible repeat (first | refine blk_drewN ?_ _ | refine blk_drew ?_ | refine blk_alloc ?_ _)); exact BK346.out)) : gb346 ≠ gb348)); have n6_ := Aside0.mk ((by rw [hg]; exact Nat.ne_of_gt (blk_lt (g := gb346) (o := .cells #[.slice A0_0 l0_0.length c0_0, .slice (some ad347) l0_1.length c0_1, .int .i64 a0_2, .int .i64 a0_3] 53 (0, 0)) (by (with_reducible repeat (first | refine blk_drewN ?_ _ | refine blk_drew ?_ | refine blk_alloc ?_ _)); exact BK346.out)) : gb348 ≠ gb346)); clear BK346; clear HB; have BK346 := n0_; have HB := n1_; have BK348 := n2_; have GW348 := n3_; have GE348 := n4_; have NB346_348 := n5_; have NB348_346 := n6_; clear n0_ n1_ n2_ n3_ n4_ n5_ n6_; clear hb hbox hg; have hnb15 := NB348_346.out; have hnc15 := NB346_348.out; have hcz16_0 : w14.cell? ⟨gb348, 0, none⟩ = some (.slice none 0 0) := (blk_cell BK348.out 0).trans rfl; have hcz16_1 : w14.cell? ⟨gb348, 1, none⟩ = some (.slice none 0 0) := (blk_cell BK348.out 1).trans rfl; have hfz16_0 := blk_frozen BK348.out 0; have hfz16_1 := blk_frozen BK348.out 1) | ((with_reducible refine gate_callee (f := 65) rfl ?_); refine goesL_ (some 18) rfl rfl Try.func65 (by kernel_rfl) rfl #[.slice A347_1 ((rd_T58 l0_1 x10_1).f1).length c347_1, .slice A1 l1.length c1] rfl (by (try simp only [List.map_toArray, List.map_cons, List.map_nil]); first | done | rfl | (simp only [List.length_drop, List.length_take]; rfl)) ?_; (with_reducible refine (foghornref10_All.calls k1 _ _ ((rd_T58 l0_1 x10_1).f1) _ _ l1 false _ ?side1 ?side2 ?side3 ?side4 A8.out).mono ?_); (case side1 => exact Kd.C_below HR347_1.out (by repeat (first | (with_reducible first | exact HB.out | apply below_alloc | apply pw_below_drewN | apply below_drew1 | refine below_set ?_ GE346.out | refine below_set ?_ GE348.out) | exact HB.out))); (case side2 => exact HC347_1.out); (case side3 => exact Kd.C_below HR1.out (by repeat (first | (with_reducible first | exact HB.out | apply below_alloc | apply pw_below_drewN | apply below_drew1 | refine below_set ?_ GE346.out | refine below_set ?_ GE348.out) | exact HB.out))); (case side4 => exact HC1.out); rintro e w17 ⟨rfl, hb⟩; refine ⟨_, rfl, ?_⟩; have n0_ := Aside0.mk (blk_below (g := gb346) (o := .cells #[.slice A0_0 l0_0.length c0_0, .slice (some ad347) l0_1.length c0_1, .int .i64 a0_2, .int .i64 a0_3] 53 (0, 0)) (by (repeat (first | (with_reducible first | refine blk_drewN ?_ _ | refine blk_drew ?_ | refine blk_alloc ?_ _) | refine blk_far ?_ NB346_348.out _)); exact BK346.out) hb); have n1_ := Aside0.mk (blk_below (g := gb348) (o := .cells #[.slice A347_0 ((rd_T58 l0_1 x10_1).f0).length c347_0, .slice A347_1 ((rd_T58 l0_1 x10_1).f1).length c347_1] 58 (0, 0)) (by (with_reducible repeat (first | refine blk_drewN ?_ _ | refine blk_drew ?_ | refine blk_alloc ?_ _)); refine blk_put (cs := #[.slice A347_0 ((rd_T58 l0_1 x10_1).f0).length c347_0, .slice none 0 0]) ?_ 1 _ rfl; (with_reducible repeat (first | refine blk_drewN ?_ _ | refine blk_drew ?_ | refine blk_alloc ?_ _)); refine blk_put (cs := #[.slice none 0 0, .slice none 0 0]) ?_ 0 _ rfl; (with_reducible repeat (first | refine blk_drewN ?_ _ | refine blk_drew ?_ | refine blk_alloc ?_ _)); exact BK348.out) hb); have n2_ := Aside0.mk (below_step (by repeat (first | (with_reducible first | exact HB.out | apply below_alloc | apply pw_below_drewN | apply below_drew1 | refine below_set ?_ GE346.out | refine below_set ?_ GE348.out) | exact HB.out)) hb); clear BK346; clear BK348; clear HB; have BK346 := n0_; have BK348 := n1_; have HB := n2_; clear n0_ n1_ n2_; (try clear hb); (try clear hb2); (try clear hk); (try clear hi)))
              go_roundg k1
              case measure => have := HK1.out; omega
              case rel => exact ⟨(wrap64 (x10_1 + 1)), (by first | rfl | (simp; done) | (simp [*]; done)), H', ⟨by have := HK1.out; omega⟩, ⟨by (with_reducible repeat (first | refine blk_drewN ?_ _ | refine blk_drew ?_ | refine blk_alloc ?_ _)); exact BK346.out⟩, ⟨by repeat (first | (with_reducible first | exact HB.out | apply below_alloc | apply pw_below_drewN | apply below_drew1 | refine below_set ?_ GE346.out | refine below_set ?_ GE348.out) | exact HB.out)⟩⟩
          · rw [if_neg c7] at H
            exact absurd H (by simp)
        · rw [if_neg c6] at H
          exact absurd H (by simp)
      · rw [if_neg c5] at H
        have c5b0 : decide (x10_1 < (l0_1.length : Int)) = false := decide_eq_false c5
        clear c5
        obtain rfl := Option.some.inj H
        go_wp2
        go_ret
        exact ⟨by first | rfl | (simp [errW_none, errW_some] <;> rfl) | (simp [*, errW_none, errW_some] <;> rfl), by repeat (first | (with_reducible first | exact HB.out | apply below_alloc | apply pw_below_drewN | apply below_drew1 | refine below_set ?_ GE346.out) | exact HB.out)⟩
def foghornref15_Has.f (l0_0 : List (S76)) (l0_1 : List (S58)) (a0_2 : Int) (a0_3 : Int) (a1 : Int) (a2 : Int) : Option (Bool) := if a1 ≥ 0 then (if a1 < (l0_1.length : Int) then (if a2 ≥ 0 then (if 0 ≤ a1 then (some (decide (a2 < (((rd_T58 l0_1 a1).f0).length : Int)))) else (none)) else (some false)) else (some false)) else (some false)
set_option maxHeartbeats 8000000 in
set_option maxRecDepth 100000 in
theorem foghornref15_Has.calls (A0_0 : Option Addr) (c0_0 : Nat) (l0_0 : List (S76)) (A0_1 : Option Addr) (c0_1 : Nat) (l0_1 : List (S58)) (a0_2 : Int) (a0_3 : Int) (a1 : Int) (a2 : Int) (r : Bool) (w : World) (hr0_0 : Kd.C k76 w A0_0 l0_0.length l0_0) (hc0_0 : l0_0.length ≤ c0_0) (hr0_1 : Kd.C k58 w A0_1 l0_1.length l0_1) (hc0_1 : l0_1.length ≤ c0_1) (h : foghornref15_Has.f l0_0 l0_1 a0_2 a0_3 a1 a2 = some r) :
    Calls Try.prog 39 #[.agg #[.slice A0_0 l0_0.length c0_0, .slice A0_1 l0_1.length c0_1, .int .i64 a0_2, .int .i64 a0_3], .int .i64 a1, .int .i64 a2] w fun e w' => e = .returned (.bool r) ∧ Below w.heap.size w w' := by
  have hu53 := Try.underlying53
  have HR0_0 := Aside0.mk hr0_0
  have HC0_0 := Aside0.mk hc0_0
  clear hr0_0 hc0_0
  have HR0_1 := Aside0.mk hr0_1
  have HC0_1 := Aside0.mk hc0_1
  clear hr0_1 hc0_1
  have HB := Aside0.mk (Below.refl w.heap.size w)
  have H : (if a1 ≥ 0 then (if a1 < (l0_1.length : Int) then (if a2 ≥ 0 then (if 0 ≤ a1 then (some (decide (a2 < (((rd_T58 l0_1 a1).f0).length : Int)))) else (none)) else (some false)) else (some false)) else (some false)) = some r := h
  clear h
  by_cases c4 : a1 ≥ 0
  · rw [if_pos c4] at H
    have c4b0 : decide (0 ≤ a1) = true := decide_eq_true c4
    clear c4
    by_cases c5 : a1 < (l0_1.length : Int)
    · rw [if_pos c5] at H
      have c5b0 : decide (a1 < (l0_1.length : Int)) = true := decide_eq_true c5
      clear c5
      by_cases c6 : a2 ≥ 0
      · rw [if_pos c6] at H
        have c6b0 : decide (0 ≤ a2) = true := decide_eq_true c6
        clear c6
        by_cases c7 : 0 ≤ a1
        · rw [if_pos c7] at H
          have c7b0 : decide (0 ≤ a1) = true := decide_eq_true c7
          clear c7
          obtain rfl := Option.some.inj H
          go_enter Try.func39, Try.ntmps39
          go_wp2_with (first | ((with_reducible refine gate_dst (N := 3) rfl ?_); (try (refine gate_guard (by rfl) ?_; dsimp only)); refine box_event ?hg (N := 3) ?hd (cs := #[.slice A0_0 l0_0.length c0_0, .slice A0_1 l0_1.length c0_1, .int .i64 a0_2, .int .i64 a0_3]) (t := 53) ?hr ?_; (case hd => rfl); (case hg => rfl); (case hr => first | (go_simp; done) | (go_simp; rfl)); intro gb350 hg w8 hbox hb; have n0_ := Aside0.mk (below_step (by repeat (first | (with_reducible first | exact HB.out | apply below_alloc | apply pw_below_drewN | apply below_drew1) | exact HB.out)) hb); have n1_ := Aside0.mk (hbox); have n2_ := Aside0.mk ((by rw [hg]; exact (below_size (by repeat (first | (with_reducible first | exact HB.out | apply below_alloc | apply pw_below_drewN | apply below_drew1) | exact HB.out))) : w.heap.size ≤ gb350)); have n3_ := n2_; clear HB; have HB := n0_; have BK350 := n1_; have GW350 := n2_; have GE350 := n3_; clear n0_ n1_ n2_ n3_; clear hb hbox hg; obtain ⟨hcz9_0, hcz9_1, hcz9_2, hcz9_3⟩ := cells_4 BK350.out; obtain ⟨hfz9_0, hfz9_1, hfz9_2, hfz9_3⟩ := froz_4 BK350.out; have p351 : 0 ≤ (a1 : Int) := of_decide_eq_true (by first | (with_reducible assumption) | assumption); have q351 : a1 < (l0_1.length : Int) := of_decide_eq_true (by first | (with_reducible assumption) | assumption); obtain ⟨ad351, A351_0, c351_0, A351_1, c351_1, e351, hx351_0, hx351_1, hl351_0, hi351_0, hl351_1, hi351_1⟩ := at_T58 HR0_1.out a1 p351 q351; cases e351; replace hx351_0 := (HB.out.cell (World.block_lt_of_cell? w _ hx351_0)).trans hx351_0; replace hx351_1 := (HB.out.cell (World.block_lt_of_cell? w _ hx351_1)).trans hx351_1; have HR351_0 := Aside0.mk hi351_0; have HC351_0 := Aside0.mk hl351_0; clear hi351_0 hl351_0; have HR351_1 := Aside0.mk hi351_1; have HC351_1 := Aside0.mk hl351_1; clear hi351_1 hl351_1; replace p351 := eq_true p351; replace q351 := eq_true q351))
          go_ret
          exact ⟨by first | rfl | (simp [errW_none, errW_some] <;> rfl) | (simp [*, errW_none, errW_some] <;> rfl), by repeat (first | (with_reducible first | exact HB.out | apply below_alloc | apply pw_below_drewN | apply below_drew1 | refine below_set ?_ GE350.out) | exact HB.out)⟩
        · rw [if_neg c7] at H
          exact absurd H (by simp)
      · rw [if_neg c6] at H
        have c6b0 : decide (0 ≤ a2) = false := decide_eq_false c6
        clear c6
        obtain rfl := Option.some.inj H
        go_enter Try.func39, Try.ntmps39
        go_wp2_with (first | ((with_reducible refine gate_dst (N := 3) rfl ?_); (try (refine gate_guard (by rfl) ?_; dsimp only)); refine box_event ?hg (N := 3) ?hd (cs := #[.slice A0_0 l0_0.length c0_0, .slice A0_1 l0_1.length c0_1, .int .i64 a0_2, .int .i64 a0_3]) (t := 53) ?hr ?_; (case hd => rfl); (case hg => rfl); (case hr => first | (go_simp; done) | (go_simp; rfl)); intro gb350 hg w10 hbox hb; have n0_ := Aside0.mk (below_step (by repeat (first | (with_reducible first | exact HB.out | apply below_alloc | apply pw_below_drewN | apply below_drew1) | exact HB.out)) hb); have n1_ := Aside0.mk (hbox); have n2_ := Aside0.mk ((by rw [hg]; exact (below_size (by repeat (first | (with_reducible first | exact HB.out | apply below_alloc | apply pw_below_drewN | apply below_drew1) | exact HB.out))) : w.heap.size ≤ gb350)); have n3_ := n2_; clear HB; have HB := n0_; have BK350 := n1_; have GW350 := n2_; have GE350 := n3_; clear n0_ n1_ n2_ n3_; clear hb hbox hg; obtain ⟨hcz11_0, hcz11_1, hcz11_2, hcz11_3⟩ := cells_4 BK350.out; obtain ⟨hfz11_0, hfz11_1, hfz11_2, hfz11_3⟩ := froz_4 BK350.out))
        go_ret
        exact ⟨by first | rfl | (simp [errW_none, errW_some] <;> rfl) | (simp [*, errW_none, errW_some] <;> rfl), by repeat (first | (with_reducible first | exact HB.out | apply below_alloc | apply pw_below_drewN | apply below_drew1 | refine below_set ?_ GE350.out) | exact HB.out)⟩
    · rw [if_neg c5] at H
      have c5b0 : decide (a1 < (l0_1.length : Int)) = false := decide_eq_false c5
      clear c5
      obtain rfl := Option.some.inj H
      go_enter Try.func39, Try.ntmps39
      go_wp2_with (first | ((with_reducible refine gate_dst (N := 3) rfl ?_); (try (refine gate_guard (by rfl) ?_; dsimp only)); refine box_event ?hg (N := 3) ?hd (cs := #[.slice A0_0 l0_0.length c0_0, .slice A0_1 l0_1.length c0_1, .int .i64 a0_2, .int .i64 a0_3]) (t := 53) ?hr ?_; (case hd => rfl); (case hg => rfl); (case hr => first | (go_simp; done) | (go_simp; rfl)); intro gb350 hg w12 hbox hb; have n0_ := Aside0.mk (below_step (by repeat (first | (with_reducible first | exact HB.out | apply below_alloc | apply pw_below_drewN | apply below_drew1) | exact HB.out)) hb); have n1_ := Aside0.mk (hbox); have n2_ := Aside0.mk ((by rw [hg]; exact (below_size (by repeat (first | (with_reducible first | exact HB.out | apply below_alloc | apply pw_below_drewN | apply below_drew1) | exact HB.out))) : w.heap.size ≤ gb350)); have n3_ := n2_; clear HB; have HB := n0_; have BK350 := n1_; have GW350 := n2_; have GE350 := n3_; clear n0_ n1_ n2_ n3_; clear hb hbox hg; obtain ⟨hcz13_0, hcz13_1, hcz13_2, hcz13_3⟩ := cells_4 BK350.out; obtain ⟨hfz13_0, hfz13_1, hfz13_2, hfz13_3⟩ := froz_4 BK350.out))
      go_ret
      exact ⟨by first | rfl | (simp [errW_none, errW_some] <;> rfl) | (simp [*, errW_none, errW_some] <;> rfl), by repeat (first | (with_reducible first | exact HB.out | apply below_alloc | apply pw_below_drewN | apply below_drew1 | refine below_set ?_ GE350.out) | exact HB.out)⟩
  · rw [if_neg c4] at H
    have c4b0 : decide (0 ≤ a1) = false := decide_eq_false c4
    clear c4
    obtain rfl := Option.some.inj H
    go_enter Try.func39, Try.ntmps39
    go_wp2_with (first | ((with_reducible refine gate_dst (N := 3) rfl ?_); (try (refine gate_guard (by rfl) ?_; dsimp only)); refine box_event ?hg (N := 3) ?hd (cs := #[.slice A0_0 l0_0.length c0_0, .slice A0_1 l0_1.length c0_1, .int .i64 a0_2, .int .i64 a0_3]) (t := 53) ?hr ?_; (case hd => rfl); (case hg => rfl); (case hr => first | (go_simp; done) | (go_simp; rfl)); intro gb350 hg w14 hbox hb; have n0_ := Aside0.mk (below_step (by repeat (first | (with_reducible first | exact HB.out | apply below_alloc | apply pw_below_drewN | apply below_drew1) | exact HB.out)) hb); have n1_ := Aside0.mk (hbox); have n2_ := Aside0.mk ((by rw [hg]; exact (below_size (by repeat (first | (with_reducible first | exact HB.out | apply below_alloc | apply pw_below_drewN | apply below_drew1) | exact HB.out))) : w.heap.size ≤ gb350)); have n3_ := n2_; clear HB; have HB := n0_; have BK350 := n1_; have GW350 := n2_; have GE350 := n3_; clear n0_ n1_ n2_ n3_; clear hb hbox hg))
    go_ret
    exact ⟨by first | rfl | (simp [errW_none, errW_some] <;> rfl) | (simp [*, errW_none, errW_some] <;> rfl), by repeat (first | (with_reducible first | exact HB.out | apply below_alloc | apply pw_below_drewN | apply below_drew1 | refine below_set ?_ GE350.out) | exact HB.out)⟩
def foghornref15_After.f (l0_0 : List (S76)) (l0_1 : List (S58)) (a0_2 : Int) (a0_3 : Int) (a1 : Int) (a2 : Int) : Option (Int) := if 0 ≤ a1 then (if a1 < (l0_1.length : Int) then (if (wrap64 (a2 + 1)) = (((rd_T58 l0_1 a1).f0).length : Int) then (some 0) else (some (wrap64 (a2 + 1)))) else (none)) else (none)
set_option maxHeartbeats 8000000 in
set_option maxRecDepth 100000 in
theorem foghornref15_After.calls (A0_0 : Option Addr) (c0_0 : Nat) (l0_0 : List (S76)) (A0_1 : Option Addr) (c0_1 : Nat) (l0_1 : List (S58)) (a0_2 : Int) (a0_3 : Int) (a1 : Int) (a2 : Int) (r : Int) (w : World) (hr0_0 : Kd.C k76 w A0_0 l0_0.length l0_0) (hc0_0 : l0_0.length ≤ c0_0) (hr0_1 : Kd.C k58 w A0_1 l0_1.length l0_1) (hc0_1 : l0_1.length ≤ c0_1) (h : foghornref15_After.f l0_0 l0_1 a0_2 a0_3 a1 a2 = some r) :
    Calls Try.prog 40 #[.agg #[.slice A0_0 l0_0.length c0_0, .slice A0_1 l0_1.length c0_1, .int .i64 a0_2, .int .i64 a0_3], .int .i64 a1, .int .i64 a2] w fun e w' => e = .returned (.int .i64 r) ∧ Below w.heap.size w w' := by
  have hu53 := Try.underlying53
  have HR0_0 := Aside0.mk hr0_0
  have HC0_0 := Aside0.mk hc0_0
  clear hr0_0 hc0_0
  have HR0_1 := Aside0.mk hr0_1
  have HC0_1 := Aside0.mk hc0_1
  clear hr0_1 hc0_1
  have HB := Aside0.mk (Below.refl w.heap.size w)
  have H : (if 0 ≤ a1 then (if a1 < (l0_1.length : Int) then (if (wrap64 (a2 + 1)) = (((rd_T58 l0_1 a1).f0).length : Int) then (some 0) else (some (wrap64 (a2 + 1)))) else (none)) else (none)) = some r := h
  clear h
  by_cases c4 : 0 ≤ a1
  · rw [if_pos c4] at H
    have c4b0 : decide (0 ≤ a1) = true := decide_eq_true c4
    clear c4
    by_cases c5 : a1 < (l0_1.length : Int)
    · rw [if_pos c5] at H
      have c5b0 : decide (a1 < (l0_1.length : Int)) = true := decide_eq_true c5
      clear c5
      by_cases c6 : (wrap64 (a2 + 1)) = (((rd_T58 l0_1 a1).f0).length : Int)
      · rw [if_pos c6] at H
        have c6b0 : ((wrap64 (a2 + 1)) == (((rd_T58 l0_1 a1).f0).length : Int)) = true := beq_iff_eq.mpr c6
        have c6b1 : ((wrap64 (a2 + 1)) != (((rd_T58 l0_1 a1).f0).length : Int)) = false := bne_eq_false_iff_eq.mpr c6
        clear c6
        obtain rfl := Option.some.inj H
        go_enter Try.func40, Try.ntmps40
        go_wp2_with (first | ((with_reducible refine gate_dst (N := 3) rfl ?_); refine box_event ?hg (N := 3) ?hd (cs := #[.slice A0_0 l0_0.length c0_0, .slice A0_1 l0_1.length c0_1, .int .i64 a0_2, .int .i64 a0_3]) (t := 53) ?hr ?_; (case hd => rfl); (case hg => rfl); (case hr => first | (go_simp; done) | (go_simp; rfl)); intro gb352 hg w7 hbox hb; have n0_ := Aside0.mk (below_step (by repeat (first | (with_reducible first | exact HB.out | apply below_alloc | apply pw_below_drewN | apply below_drew1) | exact HB.out)) hb); have n1_ := Aside0.mk (hbox); have n2_ := Aside0.mk ((by rw [hg]; exact (below_size (by repeat (first | (with_reducible first | exact HB.out | apply below_alloc | apply pw_below_drewN | apply below_drew1) | exact HB.out))) : w.heap.size ≤ gb352)); have n3_ := n2_; clear HB; have HB := n0_; have BK352 := n1_; have GW352 := n2_; have GE352 := n3_; clear n0_ n1_ n2_ n3_; clear hb hbox hg; obtain ⟨hcz8_0, hcz8_1, hcz8_2, hcz8_3⟩ := cells_4 BK352.out; obtain ⟨hfz8_0, hfz8_1, hfz8_2, hfz8_3⟩ := froz_4 BK352.out; have p353 : 0 ≤ (a1 : Int) := of_decide_eq_true (by first | (with_reducible assumption) | assumption); have q353 : a1 < (l0_1.length : Int) := of_decide_eq_true (by first | (with_reducible assumption) | assumption); obtain ⟨ad353, A353_0, c353_0, A353_1, c353_1, e353, hx353_0, hx353_1, hl353_0, hi353_0, hl353_1, hi353_1⟩ := at_T58 HR0_1.out a1 p353 q353; cases e353; replace hx353_0 := (HB.out.cell (World.block_lt_of_cell? w _ hx353_0)).trans hx353_0; replace hx353_1 := (HB.out.cell (World.block_lt_of_cell? w _ hx353_1)).trans hx353_1; have HR353_0 := Aside0.mk hi353_0; have HC353_0 := Aside0.mk hl353_0; clear hi353_0 hl353_0; have HR353_1 := Aside0.mk hi353_1; have HC353_1 := Aside0.mk hl353_1; clear hi353_1 hl353_1; replace p353 := eq_true p353; replace q353 := eq_true q353))
        go_ret
        exact ⟨by first | rfl | (simp [errW_none, errW_some] <;> rfl) | (simp [*, errW_none, errW_some] <;> rfl), by repeat (first | (with_reducible first | exact HB.out | apply below_alloc | apply pw_below_drewN | apply below_drew1 | refine below_set ?_ GE352.out) | exact HB.out)⟩
      · rw [if_neg c6] at H
        have c6b0 : ((wrap64 (a2 + 1)) == (((rd_T58 l0_1 a1).f0).length : Int)) = false := beq_eq_false_iff_ne.mpr c6
        have c6b1 : ((wrap64 (a2 + 1)) != (((rd_T58 l0_1 a1).f0).length : Int)) = true := bne_iff_ne.mpr c6
        obtain rfl := Option.some.inj H
        go_enter Try.func40, Try.ntmps40
        go_wp2_with (first | ((with_reducible refine gate_dst (N := 3) rfl ?_); refine box_event ?hg (N := 3) ?hd (cs := #[.slice A0_0 l0_0.length c0_0, .slice A0_1 l0_1.length c0_1, .int .i64 a0_2, .int .i64 a0_3]) (t := 53) ?hr ?_; (case hd => rfl); (case hg => rfl); (case hr => first | (go_simp; done) | (go_simp; rfl)); intro gb352 hg w9 hbox hb; have n0_ := Aside0.mk (below_step (by repeat (first | (with_reducible first | exact HB.out | apply below_alloc | apply pw_below_drewN | apply below_drew1) | exact HB.out)) hb); have n1_ := Aside0.mk (hbox); have n2_ := Aside0.mk ((by rw [hg]; exact (below_size (by repeat (first | (with_reducible first | exact HB.out | apply below_alloc | apply pw_below_drewN | apply below_drew1) | exact HB.out))) : w.heap.size ≤ gb352)); have n3_ := n2_; clear HB; have HB := n0_; have BK352 := n1_; have GW352 := n2_; have GE352 := n3_; clear n0_ n1_ n2_ n3_; clear hb hbox hg; obtain ⟨hcz10_0, hcz10_1, hcz10_2, hcz10_3⟩ := cells_4 BK352.out; obtain ⟨hfz10_0, hfz10_1, hfz10_2, hfz10_3⟩ := froz_4 BK352.out; have p353 : 0 ≤ (a1 : Int) := of_decide_eq_true (by first | (with_reducible assumption) | assumption); have q353 : a1 < (l0_1.length : Int) := of_decide_eq_true (by first | (with_reducible assumption) | assumption); obtain ⟨ad353, A353_0, c353_0, A353_1, c353_1, e353, hx353_0, hx353_1, hl353_0, hi353_0, hl353_1, hi353_1⟩ := at_T58 HR0_1.out a1 p353 q353; cases e353; replace hx353_0 := (HB.out.cell (World.block_lt_of_cell? w _ hx353_0)).trans hx353_0; replace hx353_1 := (HB.out.cell (World.block_lt_of_cell? w _ hx353_1)).trans hx353_1; have HR353_0 := Aside0.mk hi353_0; have HC353_0 := Aside0.mk hl353_0; clear hi353_0 hl353_0; have HR353_1 := Aside0.mk hi353_1; have HC353_1 := Aside0.mk hl353_1; clear hi353_1 hl353_1; replace p353 := eq_true p353; replace q353 := eq_true q353))
        go_ret
        exact ⟨by first | rfl | (simp [errW_none, errW_some] <;> rfl) | (simp [*, errW_none, errW_some] <;> rfl), by repeat (first | (with_reducible first | exact HB.out | apply below_alloc | apply pw_below_drewN | apply below_drew1 | refine below_set ?_ GE352.out) | exact HB.out)⟩
    · rw [if_neg c5] at H
      exact absurd H (by simp)
  · rw [if_neg c4] at H
    exact absurd H (by simp)
end Go.Proofs.Ytkphinfijppkeaa.G
namespace Go.Proofs.Ytkphinfijppkeaa.G
open Go.RowKit Go.Proofs.YtkphinfijppkeaaW.PrintWords Go.Proofs.YtkphinfijppkeaaW.PrintLast Go.Proofs.YtkphinfijppkeaaW.PrintMore
attribute [local go_sem] max2_int min2_int max_two min_two max_three min_three max_four min_four
set_option linter.unusedVariables false
set_option linter.unusedSimpArgs false
abbrev M63 : Nat := 9223372036854775807
theorem w64n {n : Nat} (h : n + 1 ≤ M63) : wrap64 ((n : Int) + 1) = ((n + 1 : Nat) : Int) := by rw [w64' (by omega) (by simp only [M63] at h; omega)]; omega
theorem name_ev (s : ByteArray) (hs : s.size ≤ M63) : Ev (fun k => foghornref10_Name.f k s) (nameB s) := ⟨s.size + 1, fun k hk => name_ref s hs k (by omega)⟩
theorem matcher_ev (m : S88) (h1 : m.f1.size ≤ M63) (h2 : m.f2.size ≤ M63) : Ev (fun k => foghornref10_Matcher.f k m.f0 m.f1 m.f2) (matcherB m) := ⟨m.f1.size + m.f2.size + 1, fun k hk => matcher_ref m k ⟨by omega, by omega, h1, h2⟩⟩
def MOk (m : S88) : Prop := m.f1.size ≤ M63 ∧ m.f2.size ≤ M63
theorem matchers_e0 (l : List S88) (hl : l.length ≤ M63) (hz : ∀ m ∈ l, MOk m) : ∀ (d i : Nat), i + d = l.length → (∀ j, (hj : j < l.length) → j < i → matcherB l[j] = true) → Ev (fun k => foghornref10_Matchers.l0 k l l (l.length : Int) (i : Int)) (l.all matcherB && decide (l.length ≤ 4))
  | 0, i, hd, ha => by
    refine Ev.step (f := fun _ => some (l.all matcherB && decide (l.length ≤ 4))) (fun k => ?_) (Ev.now _)
    rw [foghornref10_Matchers.l0, if_neg (by omega)]
    have : l.all matcherB = true := List.all_eq_true.2 fun x hx => by
      obtain ⟨j, hj, rfl⟩ := List.mem_iff_getElem.1 hx
      exact ha j hj (by omega)
    rw [this, Bool.true_and]
    congr 1
    rw [decide_eq_decide]; omega
  | d + 1, i, hd, ha => by
    have hi : i < l.length := by omega
    have hm := hz _ (List.getElem_mem hi)
    refine Ev.step (f := fun k => (foghornref10_Matcher.f k l[i].f0 l[i].f1 l[i].f2).bind fun t => if t = true then foghornref10_Matchers.l0 k l l (l.length : Int) ((i + 1 : Nat) : Int) else some false) (fun k => ?_) ?_
    · rw [foghornref10_Matchers.l0, if_pos (by omega), if_pos (by omega), if_pos (by omega), rd_get88 l i hi, w64n (by omega)]
    · refine Ev.bind (matcher_ev l[i] hm.1 hm.2) ?_
      cases h : matcherB l[i] with
      | false =>
        have : l.all matcherB = false := by
          rw [List.all_eq_false]
          exact ⟨l[i], List.getElem_mem hi, by simp [h]⟩
        rw [this, Bool.false_and]
        exact Ev.now _
      | true =>
        refine matchers_e0 l hl hz d (i + 1) (by omega) (fun j hj hji => ?_)
        by_cases e : j = i
        · subst e; exact h
        · exact ha j hj (by omega)
theorem matchers_ev (l : List S88) (hl : l.length ≤ M63) (hz : ∀ m ∈ l, MOk m) : Ev (fun k => foghornref10_Matchers.f k l) (decide (l.length ≤ 4) && l.all matcherB) := by
  rw [Bool.and_comm]
  exact matchers_e0 l hl hz l.length 0 (by omega) (fun j _ hj => absurd hj (Nat.not_lt_zero _))
theorem nm_is (s : ByteArray) : matcherB ⟨3, s, ⟨#[]⟩⟩ = nameB s := by
  unfold matcherB
  have : valueB ⟨#[]⟩ = true := by decide +kernel
  simp [this]
  intro _; rfl
theorem r06_is (x : S74) : foghornref06_Right.f x.f0 x.f1 x.f2 = some (backB x) := by
  unfold foghornref06_Right.f backB
  by_cases h1 : x.f0 ≥ 1
  · rw [if_pos h1, decide_eq_true (show 1 ≤ x.f0 by omega)]
    by_cases h2 : x.f0 ≤ 1048576
    · rw [if_pos h2, decide_eq_true h2]
      by_cases h3 : x.f1 ≥ x.f0
      · rw [if_pos h3, decide_eq_true (show x.f0 ≤ x.f1 by omega)]
        by_cases h4 : x.f1 ≤ 1073741824
        · rw [if_pos h4, decide_eq_true h4]
          by_cases h5 : x.f2 ≥ 0
          · rw [if_pos h5, decide_eq_true (show 0 ≤ x.f2 by omega)]; simp
          · rw [if_neg h5, decide_eq_false (show ¬ 0 ≤ x.f2 by omega)]; simp
        · rw [if_neg h4, decide_eq_false h4]; simp
      · rw [if_neg h3, decide_eq_false (show ¬ x.f0 ≤ x.f1 by omega)]; simp
    · rw [if_neg h2, decide_eq_false h2]; simp
  · rw [if_neg h1, decide_eq_false (show ¬ 1 ≤ x.f0 by omega)]; simp
theorem r07_is (a b : Int) (k : Nat) : foghornref07_Right.f (k + 1) a b 0 0 0 = some (brB a b) := by
  unfold foghornref07_Right.f brB
  by_cases h1 : a < 1
  · rw [if_pos h1, decide_eq_false (show ¬ 1 ≤ a by omega)]
    simp [foghornref07_Right.j0]
  · rw [if_neg h1, decide_eq_true (show 1 ≤ a by omega)]
    by_cases h2 : a > 100
    · rw [if_pos h2, decide_eq_false (show ¬ a ≤ 100 by omega)]
      simp [foghornref07_Right.j0]
    · rw [if_neg h2, decide_eq_true (show a ≤ 100 by omega)]
      by_cases h3 : b < 1
      · rw [if_pos h3, decide_eq_false (show ¬ 1 ≤ b by omega)]
        simp [foghornref07_Right.j0]
      · rw [if_neg h3, decide_eq_true (show 1 ≤ b by omega)]
        by_cases h4 : b > 1048576
        · rw [decide_eq_true h4, decide_eq_false (show ¬ b ≤ 1048576 by omega)]
          simp [foghornref07_Right.j0]
        · rw [decide_eq_false h4, decide_eq_true (show b ≤ 1048576 by omega)]
          simp [foghornref07_Right.j0, show 0 < a by omega]
theorem r08_is (a b : Int) : foghornref08_Right.f a b 0 0 = some (brB a b) := by
  unfold foghornref08_Right.f brB
  by_cases h1 : a ≥ 1
  · rw [if_pos h1, decide_eq_true (show 1 ≤ a by omega)]
    by_cases h2 : a ≤ 100
    · rw [if_pos h2, decide_eq_true h2]
      by_cases h3 : b ≥ 1
      · rw [if_pos h3, decide_eq_true (show 1 ≤ b by omega)]
        by_cases h4 : b ≤ 1048576
        · rw [if_pos h4, decide_eq_true h4]
          simp [show (0 : Int) ≤ a by omega, tick_ref, tmB]
        · rw [if_neg h4, decide_eq_false h4]; simp
      · rw [if_neg h3, decide_eq_false (show ¬ 1 ≤ b by omega)]; simp
    · rw [if_neg h2, decide_eq_false h2]; simp
  · rw [if_neg h1, decide_eq_false (show ¬ 1 ≤ a by omega)]; simp
theorem rec_ev (r : S76) (hz : r.f0.size ≤ M63) : Ev (fun k => foghornref13_receiver.f k r.f0 r.f1.f0 r.f1.f1 r.f1.f2 r.f2 r.f3 r.f4 r.f5 r.f6) (recB r) := by
  unfold foghornref13_receiver.f
  refine Ev.bind (name_ev r.f0 hz) ?_
  unfold recB nmB
  rw [nm_is]
  cases hn : nameB r.f0 with
  | false => simpa using Ev.now false
  | true =>
    by_cases hi : r.f0.toList = [105, 102]
    · simp only [hi, if_pos]
      simpa using Ev.now false
    · have hi2 : (r.f0.toList != [105, 102]) = true := by simpa using hi
      rw [hi2]
      simp only [if_pos, if_neg hi, r06_is, Option.bind_some, Bool.true_and]
      cases hb : backB r.f1 with
      | false => simpa using Ev.now false
      | true =>
        simp only [if_pos, Bool.true_and]
        by_cases h1 : 1 ≤ r.f2
        · by_cases h2 : r.f2 ≤ 100
          · simp only [show r.f2 ≥ 1 from h1, h2, if_pos, decide_eq_true h1, decide_eq_true h2, Bool.true_and, r08_is, Option.bind_some]
            refine Ev.step (f := fun k => if brB r.f3 r.f4 = true then some (brB r.f5 r.f6) else some false) (fun k => ?_) ?_
            · rw [r07_is, Option.bind_some]
            · cases brB r.f3 r.f4
              · exact Ev.now _
              · exact Ev.now _
          · simp only [show r.f2 ≥ 1 from h1, h2, if_pos, if_neg, not_false_eq_true, decide_eq_false h2]
            simpa using Ev.now false
        · simp only [show ¬ r.f2 ≥ 1 from h1, if_neg, not_false_eq_true, decide_eq_false h1]
          simpa using Ev.now false
theorem place_e0 (nm : ByteArray) (l : List S76) (hl : l.length ≤ M63) : ∀ (d i : Nat), i + d = l.length → (∀ j : Nat, j < i → nmP nm (rd_T76 l (j : Nat)) = false) → Ev (fun k => foghornref13_place.l0 k nm l (l.length : Int) (i : Int)) (idxP (nmP nm) l)
  | 0, i, hd, ha => by
    refine Ev.step (f := fun _ => some (idxP (nmP nm) l)) (fun k => ?_) (Ev.now _)
    rw [foghornref13_place.l0, if_neg (by omega), idxR_miss76 (nmP nm) l (fun j hj => ha j (by omega))]
  | d + 1, i, hd, ha => by
    have hi : i < l.length := by omega
    cases h : nmP nm (rd_T76 l (i : Nat)) with
    | true =>
      refine Ev.step (f := fun _ => some (idxP (nmP nm) l)) (fun k => ?_) (Ev.now _)
      rw [foghornref13_place.l0, if_pos (by omega), if_pos (by omega), if_pos (by omega), if_pos (by unfold nmP at h; simpa using h), idxR_hit76 (nmP nm) l i hi ha h]
    | false =>
      refine Ev.step (f := fun k => foghornref13_place.l0 k nm l (l.length : Int) ((i + 1 : Nat) : Int)) (fun k => ?_) (place_e0 nm l hl d (i + 1) (by omega) (fun j hj => ?_))
      · rw [foghornref13_place.l0, if_pos (by omega), if_pos (by omega), if_pos (by omega), if_neg (by unfold nmP at h; simpa using h), w64n (by omega)]
      · by_cases e : j = i
        · subst e; exact h
        · exact ha j (by omega)
theorem place_ev (nm : ByteArray) (l : List S76) (hl : l.length ≤ M63) : Ev (fun k => foghornref13_place.f k l nm) (idxP (nmP nm) l) :=
  place_e0 nm l hl l.length 0 (by omega) (fun j hj => absurd hj (Nat.not_lt_zero _))
theorem chain_e1 (n : Int) (x : S58) (hl : x.f0.length ≤ M63) (i : Nat) (hi : i < x.f0.length) (v : Bool) (hin : rd x.f0 (i : Nat) ∈ x.f0.take i → v = false) (hout : rd x.f0 (i : Nat) ∉ x.f0.take i → Ev (fun k => foghornref13_route.l0 k n x.f0 (x.f0.length : Int) ((i + 1 : Nat) : Int) x.f0 x.f1) v) :
    ∀ (d j : Nat), j + d = (x.f0.take i).length → (∀ q, (hq : q < (x.f0.take i).length) → q < j → (x.f0.take i)[q] ≠ rd x.f0 (i : Nat)) → Ev (fun k => foghornref13_route.l1 k n (rd x.f0 (i : Nat)) x.f0 (x.f0.length : Int) (i : Int) (x.f0.take i) ((x.f0.take i).length : Int) (j : Int) x.f0 x.f1) v
  | 0, j, hd, ha => by
    refine Ev.step (f := fun k => foghornref13_route.l0 k n x.f0 (x.f0.length : Int) ((i + 1 : Nat) : Int) x.f0 x.f1) (fun k => ?_) (hout fun hm => ?_)
    · rw [foghornref13_route.l1, if_neg (by omega), w64n (by omega)]
    · obtain ⟨q, hq, e⟩ := List.mem_iff_getElem.1 hm
      exact ha q hq (by omega) e
  | d + 1, j, hd, ha => by
    have hj : j < (x.f0.take i).length := by omega
    have hjl : j < x.f0.length := by rw [List.length_take] at hj; omega
    have hrd : rd (x.f0.take i) (j : Nat) = (x.f0.take i)[j] := by simp only [rd, Int.toNat_natCast, List.getD_eq_getElem?_getD, List.getElem?_eq_getElem hj, Option.getD_some]
    by_cases h : (x.f0.take i)[j] = rd x.f0 (i : Nat)
    · rw [hin (by rw [← h]; exact List.getElem_mem hj)]
      refine Ev.step (f := fun _ => some false) (fun k => ?_) (Ev.now _)
      rw [foghornref13_route.l1, if_pos (by omega), if_pos (by omega), if_pos (by omega), hrd, if_pos h]
    · refine Ev.step (f := fun k => foghornref13_route.l1 k n (rd x.f0 (i : Nat)) x.f0 (x.f0.length : Int) (i : Int) (x.f0.take i) ((x.f0.take i).length : Int) ((j + 1 : Nat) : Int) x.f0 x.f1) (fun k => ?_) (chain_e1 n x hl i hi v hin hout d (j + 1) (by omega) (fun q hq hqj => ?_))
      · rw [foghornref13_route.l1, if_pos (by omega), if_pos (by omega), if_pos (by omega), hrd, if_neg h, w64n (by omega)]
      · by_cases e : q = j
        · subst e; exact h
        · exact ha q hq (by omega)
theorem route_e0 (n : Int) (x : S58) (hl : x.f0.length ≤ M63) (hl1 : x.f1.length ≤ M63) (hz : ∀ m ∈ x.f1, MOk m) : ∀ (d i : Nat), i + d = x.f0.length → (∀ q : Nat, q < i → 0 ≤ rd x.f0 (q : Nat) ∧ rd x.f0 (q : Nat) < n ∧ rd x.f0 (q : Nat) ∉ x.f0.take q) → Ev (fun k => foghornref13_route.l0 k n x.f0 (x.f0.length : Int) (i : Int) x.f0 x.f1) (routeB n x)
  | 0, i, hd, ha => by
    have hc : chainB n x.f0 = true := chain_yes fun q hq => ha q (by omega)
    unfold routeB
    rw [hc, Bool.true_and]
    by_cases h1 : 1 ≤ x.f0.length
    · by_cases h2 : x.f0.length ≤ 4
      · rw [decide_eq_true h1, decide_eq_true h2, Bool.true_and, Bool.true_and]
        refine Ev.step (f := fun k => (foghornref10_Matchers.f k x.f1).bind fun t => some t) (fun k => ?_) (Ev.bind (matchers_ev x.f1 hl1 hz) (Ev.now _))
        rw [foghornref13_route.l0, if_neg (by omega), if_pos (by omega), if_pos (by omega)]
      · rw [decide_eq_false h2, Bool.false_and, Bool.and_false]
        refine Ev.step (f := fun _ => some false) (fun k => ?_) (Ev.now _)
        rw [foghornref13_route.l0, if_neg (by omega), if_pos (by omega), if_neg (by omega)]
    · rw [decide_eq_false h1, Bool.false_and]
      refine Ev.step (f := fun _ => some false) (fun k => ?_) (Ev.now _)
      rw [foghornref13_route.l0, if_neg (by omega), if_neg (by omega)]
  | d + 1, i, hd, ha => by
    have hi : i < x.f0.length := by omega
    have hno : ¬ (0 ≤ rd x.f0 (i : Nat) ∧ rd x.f0 (i : Nat) < n ∧ rd x.f0 (i : Nat) ∉ x.f0.take i) → routeB n x = false := fun h => by unfold routeB; rw [chain_no hi h]; rfl
    by_cases h0 : rd x.f0 (i : Nat) < 0
    · rw [hno (fun h => by omega)]
      refine Ev.step (f := fun k => foghornref13_route.j1 k n (i : Int) (rd x.f0 (i : Nat)) x.f0 (x.f0.length : Int) (i : Int) true x.f0 x.f1) (fun k => ?_) (Ev.step (f := fun _ => some false) (fun k => ?_) (Ev.now _))
      · rw [foghornref13_route.l0, if_pos (by omega), if_pos (by omega), if_pos (by omega), if_pos h0]
      · rw [foghornref13_route.j1, if_pos rfl]
    · by_cases h1 : rd x.f0 (i : Nat) ≥ n
      · rw [hno (fun h => by omega)]
        refine Ev.step (f := fun k => foghornref13_route.j1 k n (i : Int) (rd x.f0 (i : Nat)) x.f0 (x.f0.length : Int) (i : Int) true x.f0 x.f1) (fun k => ?_) (Ev.step (f := fun _ => some false) (fun k => ?_) (Ev.now _))
        · rw [foghornref13_route.l0, if_pos (by omega), if_pos (by omega), if_pos (by omega), if_neg h0, decide_eq_true h1]
        · rw [foghornref13_route.j1, if_pos rfl]
      · refine Ev.step (f := fun k => foghornref13_route.j1 k n (i : Int) (rd x.f0 (i : Nat)) x.f0 (x.f0.length : Int) (i : Int) false x.f0 x.f1) (fun k => ?_) (Ev.step (f := fun k => foghornref13_route.l1 k n (rd x.f0 (i : Nat)) x.f0 (x.f0.length : Int) (i : Int) (x.f0.take i) ((x.f0.take i).length : Int) ((0 : Nat) : Int) x.f0 x.f1) (fun k => ?_) ?_)
        · rw [foghornref13_route.l0, if_pos (by omega), if_pos (by omega), if_pos (by omega), if_neg h0, decide_eq_false h1]
        · rw [foghornref13_route.j1, if_neg (by decide), if_pos (by omega), if_pos (by omega), Option.bind_some, Int.toNat_natCast]
          rfl
        · refine chain_e1 n x hl i hi (routeB n x) (fun hm => hno (fun h => h.2.2 hm)) (fun hm => ?_) (x.f0.take i).length 0 (by omega) (fun q _ hq => absurd hq (Nat.not_lt_zero _))
          refine route_e0 n x hl hl1 hz d (i + 1) (by omega) (fun q hq => ?_)
          by_cases e : q = i
          · subst e; exact ⟨by omega, by omega, hm⟩
          · exact ha q (by omega)
theorem route_ev (n : Int) (x : S58) (hl : x.f0.length ≤ M63) (hl1 : x.f1.length ≤ M63) (hz : ∀ m ∈ x.f1, MOk m) : Ev (fun k => foghornref13_route.f k x.f0 x.f1 n) (routeB n x) :=
  route_e0 n x hl hl1 hz x.f0.length 0 (by omega) (fun q hq => absurd hq (Nat.not_lt_zero _))
theorem oft_is (n : Int) : foghornref13_often.f n = some (oftB n) := often_is n
def ROk (x : S58) : Prop := x.f0.length ≤ M63 ∧ x.f1.length ≤ M63 ∧ ∀ m ∈ x.f1, MOk m
def CfOk (c : Cf) : Prop := c.rs.length ≤ M63 ∧ c.ro.length ≤ M63 ∧ (∀ r ∈ c.rs, r.f0.size ≤ M63) ∧ ∀ x ∈ c.ro, ROk x
theorem cfg_e1 (c : Cf) (hz : CfOk c) (hrs : recsB c.rs = true) : ∀ (d i : Nat), i + d = c.ro.length → (∀ j, (hj : j < c.ro.length) → j < i → routeB c.rs.length c.ro[j] = true) → Ev (fun k => foghornref13_Right.l1 k c.ro (c.ro.length : Int) (i : Int) c.rs c.ro c.rep c.beat) (cfgB c)
  | 0, i, hd, ha => by
    have hall : c.ro.all (routeB c.rs.length) = true := List.all_eq_true.2 fun x hx => by
      obtain ⟨j, hj, rfl⟩ := List.mem_iff_getElem.1 hx
      exact ha j hj (by omega)
    unfold cfgB
    rw [hrs, hall, Bool.true_and, Bool.true_and]
    refine Ev.step (f := fun _ => some _) (fun k => ?_) (Ev.now _)
    rw [foghornref13_Right.l1, if_neg (by omega)]
    by_cases h1 : 1 ≤ c.rs.length
    · rw [if_pos (by omega), decide_eq_true h1, Bool.true_and]
      by_cases h2 : c.rs.length ≤ 4
      · rw [if_pos (by omega), decide_eq_true h2, Bool.true_and]
        by_cases h3 : 1 ≤ c.ro.length
        · rw [if_pos (by omega), decide_eq_true h3, Bool.true_and]
          by_cases h4 : c.ro.length ≤ 4
          · rw [if_pos (by omega), decide_eq_true h4, Bool.true_and, oft_is, Option.bind_some, oft_is, Option.bind_some]
            cases oftB c.rep <;> rfl
          · rw [if_neg (by omega), decide_eq_false h4, Bool.false_and]
        · rw [if_neg (by omega), decide_eq_false h3, Bool.false_and]
      · rw [if_neg (by omega), decide_eq_false h2, Bool.false_and]
    · rw [if_neg (by omega), decide_eq_false h1, Bool.false_and]
  | d + 1, i, hd, ha => by
    have hi : i < c.ro.length := by omega
    have hx := hz.2.2.2 _ (List.getElem_mem hi)
    refine Ev.step (f := fun k => (foghornref13_route.f k c.ro[i].f0 c.ro[i].f1 (c.rs.length : Int)).bind fun t => if t = true then foghornref13_Right.l1 k c.ro (c.ro.length : Int) ((i + 1 : Nat) : Int) c.rs c.ro c.rep c.beat else some false) (fun k => ?_) ?_
    · rw [foghornref13_Right.l1, if_pos (by omega), if_pos (by omega), if_pos (by omega), rd_get58 c.ro i hi, w64n (by have := hz.2.1; omega)]
    · refine Ev.bind (route_ev c.rs.length c.ro[i] hx.1 hx.2.1 hx.2.2) ?_
      cases h : routeB c.rs.length c.ro[i] with
      | false =>
        have : c.ro.all (routeB c.rs.length) = false := by
          rw [List.all_eq_false]
          exact ⟨c.ro[i], List.getElem_mem hi, by simp [h]⟩
        unfold cfgB
        rw [this, Bool.false_and, Bool.and_false]
        exact Ev.now _
      | true =>
        refine cfg_e1 c hz hrs d (i + 1) (by omega) (fun j hj hji => ?_)
        by_cases e : j = i
        · subst e; exact h
        · exact ha j hj (by omega)
theorem cfg_e0 (c : Cf) (hz : CfOk c) : ∀ (d i : Nat), i + d = c.rs.length → (∀ q : Nat, q < i → recB (rd_T76 c.rs (q : Nat)) = true ∧ idxP (nmP (rd_T76 c.rs (q : Nat)).f0) (c.rs.take q) < 0) → Ev (fun k => foghornref13_Right.l0 k c.rs (c.rs.length : Int) (i : Int) c.rs c.ro c.rep c.beat) (cfgB c)
  | 0, i, hd, ha => by
    have hrs : recsB c.rs = true := recs_yes fun q hq => ha q (by omega)
    refine Ev.step (f := fun k => foghornref13_Right.l1 k c.ro (c.ro.length : Int) ((0 : Nat) : Int) c.rs c.ro c.rep c.beat) (fun k => ?_) (cfg_e1 c hz hrs c.ro.length 0 (by omega) (fun j _ hj => absurd hj (Nat.not_lt_zero _)))
    rw [foghornref13_Right.l0, if_neg (by omega)]
    rfl
  | d + 1, i, hd, ha => by
    have hi : i < c.rs.length := by omega
    have hx := hz.2.2.1 _ (List.getElem_mem hi)
    have hno : ¬ (recB (rd_T76 c.rs (i : Nat)) = true ∧ idxP (nmP (rd_T76 c.rs (i : Nat)).f0) (c.rs.take i) < 0) → cfgB c = false := fun h => by unfold cfgB; rw [recs_no hi h]; rfl
    rw [← rd_get76 c.rs i hi] at hx
    refine Ev.step (f := fun k => (foghornref13_receiver.f k (rd_T76 c.rs (i : Nat)).f0 (rd_T76 c.rs (i : Nat)).f1.f0 (rd_T76 c.rs (i : Nat)).f1.f1 (rd_T76 c.rs (i : Nat)).f1.f2 (rd_T76 c.rs (i : Nat)).f2 (rd_T76 c.rs (i : Nat)).f3 (rd_T76 c.rs (i : Nat)).f4 (rd_T76 c.rs (i : Nat)).f5 (rd_T76 c.rs (i : Nat)).f6).bind fun t => if t = true then (foghornref13_place.f k (c.rs.take i) (rd_T76 c.rs (i : Nat)).f0).bind fun t => if t ≥ 0 then some false else foghornref13_Right.l0 k c.rs (c.rs.length : Int) ((i + 1 : Nat) : Int) c.rs c.ro c.rep c.beat else some false) (fun k => ?_) ?_
    · rw [foghornref13_Right.l0, if_pos (by omega), if_pos (by omega), if_pos (by omega), if_pos (by omega), Int.toNat_natCast, w64n (by have := hz.1; omega)]
    · refine Ev.bind (rec_ev _ hx) ?_
      cases h : recB (rd_T76 c.rs (i : Nat)) with
      | false =>
        rw [hno (by rw [h]; simp)]
        exact Ev.now _
      | true =>
        simp only [if_pos]
        refine Ev.bind (place_ev _ _ (by have := List.length_take_le i c.rs; have := hz.1; omega)) ?_
        by_cases hp : idxP (nmP (rd_T76 c.rs (i : Nat)).f0) (c.rs.take i) ≥ 0
        · rw [hno (fun h => by omega)]
          simp only [if_pos hp]
          exact Ev.now _
        · simp only [if_neg hp]
          refine cfg_e0 c hz d (i + 1) (by omega) (fun q hq => ?_)
          by_cases e : q = i
          · subst e; exact ⟨h, by omega⟩
          · exact ha q (by omega)
theorem cfg_ev (c : Cf) (hz : CfOk c) : Ev (fun k => foghornref13_Right.f k c.rs c.ro c.rep c.beat) (cfgB c) :=
  cfg_e0 c hz c.rs.length 0 (by omega) (fun q hq => absurd hq (Nat.not_lt_zero _))
end Go.Proofs.Ytkphinfijppkeaa.G
