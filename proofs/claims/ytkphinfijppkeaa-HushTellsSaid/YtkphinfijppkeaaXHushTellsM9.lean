/- Contracts of functions of the given program, and what they come to, for any arguments. No condition beyond each theorem's own premises. -/
import Derived.Test.YtkphinfijppkeaaXHushTellsM0
import Derived.Test.YtkphinfijppkeaaXHushTellsM8
import Derived.Test.YtkphinfijppkeaaXHushTellsM7
namespace Go.Proofs.Ytkphinfijppkeaa.G
open Go.RowKit Go.Proofs.YtkphinfijppkeaaW.PrintWords Go.Proofs.YtkphinfijppkeaaW.PrintLast Go.Proofs.YtkphinfijppkeaaW.PrintMore
attribute [local go_sem] max2_int min2_int max_two min_two max_three min_three max_four min_four   -- for this text's walks alone
def foghornref14_Free.l0 : Nat → List (S25) → List (S92) → Int → Int → List (S25) → Int → Int → Option (Int)
  | 0, _, _, _, _, _, _, _ => none
  | k + 1, x0, x1, x2, x7, x16, x17, x18 => if x18 < x17 then (if 0 ≤ x18 then (if x18 < (x16.length : Int) then (if ((rd_T25 x16 x18).f1) > x2 then (if ((rd_T25 x16 x18).f1) < x7 then ((foghornref14_Active.f k x0 x1 ((rd_T25 x16 x18).f1)).bind fun t198 => (if t198 = true then (foghornref14_Free.l0 k x0 x1 x2 x7 x16 x17 (wrap64 (x18 + 1))) else (foghornref14_Free.l0 k x0 x1 x2 ((rd_T25 x16 x18).f1) x16 x17 (wrap64 (x18 + 1))))) else (foghornref14_Free.l0 k x0 x1 x2 x7 x16 x17 (wrap64 (x18 + 1)))) else (foghornref14_Free.l0 k x0 x1 x2 x7 x16 x17 (wrap64 (x18 + 1)))) else (none)) else (none)) else (some x7)
def foghornref14_Free.f (k : Nat) (l0 : List (S25)) (l1 : List (S92)) (a2 : Int) : Option (Int) := (foghornref14_Active.f k l0 l1 a2).bind fun t195 => (if t195 = true then (foghornref14_Free.l0 k l0 l1 a2 1099511627776 l0 (l0.length : Int) 0) else (some a2))
set_option maxHeartbeats 8000000 in
set_option maxRecDepth 100000 in
theorem foghornref14_Free.calls (k : Nat) (A0 : Option Addr) (c0 : Nat) (l0 : List (S25)) (A1 : Option Addr) (c1 : Nat) (l1 : List (S92)) (a2 : Int) (r : Int) (w : World) (hr0 : Kd.C k25 w A0 l0.length l0) (hc0 : l0.length ≤ c0) (hr1 : Kd.C k92 w A1 l1.length l1) (hc1 : l1.length ≤ c1) (h : foghornref14_Free.f k l0 l1 a2 = some r) :
    Calls Try.prog 29 #[.slice A0 l0.length c0, .slice A1 l1.length c1, .int .i64 a2] w fun e w' => e = .returned (.int .i64 r) ∧ Below w.heap.size w w' := by
  have hu25 := Try.underlying25
  have HR0 := Aside0.mk hr0
  have HC0 := Aside0.mk hc0
  clear hr0 hc0
  have HR1 := Aside0.mk hr1
  have HC1 := Aside0.mk hc1
  clear hr1 hc1
  have HB := Aside0.mk (Below.refl w.heap.size w)
  have H : ((foghornref14_Active.f k l0 l1 a2).bind fun t195 => (if t195 = true then (foghornref14_Free.l0 k l0 l1 a2 1099511627776 l0 (l0.length : Int) 0) else (some a2))) = some r := h
  clear h
  replace H := Option.bind_eq_some_iff.mp H
  obtain ⟨t195, A40, H⟩ := H
  replace H : (if t195 = true then (foghornref14_Free.l0 k l0 l1 a2 1099511627776 l0 (l0.length : Int) 0) else (some a2)) = some r := H
  have A4 := Aside0.mk A40
  clear A40
  by_cases c5 : t195 = true
  · subst c5
    have H1 : (foghornref14_Free.l0 k l0 l1 a2 1099511627776 l0 (l0.length : Int) 0) = some r := by rw [if_pos rfl] at H; exact H
    clear H
    have H := H1
    clear H1
    have H' := Aside0.mk H
    clear H
    go_enter Try.func29, Try.ntmps29
    go_wp2_with (first | ((with_reducible refine gate_callee (f := 28) rfl ?_); refine goesL_ (some 13) rfl rfl Try.func28 (by kernel_rfl) rfl #[.slice A0 l0.length c0, .slice A1 l1.length c1, .int .i64 a2] rfl (by (try simp only [List.map_toArray, List.map_cons, List.map_nil]); first | done | rfl | (simp only [List.length_drop, List.length_take]; rfl)) ?_; (with_reducible refine (foghornref14_Active.calls k _ _ l0 _ _ l1 a2 true _ ?side1 ?side2 ?side3 ?side4 A4.out).mono ?_); (case side1 => repeat (first | exact HR0.out | (with_reducible refine Kd.C_alloc ?_ _) | (with_reducible refine Kd.C_drewN ?_ _) | (with_reducible refine Kd.C_drew ?_))); (case side2 => exact HC0.out); (case side3 => repeat (first | exact HR1.out | (with_reducible refine Kd.C_alloc ?_ _) | (with_reducible refine Kd.C_drewN ?_ _) | (with_reducible refine Kd.C_drew ?_))); (case side4 => exact HC1.out); rintro e w6 ⟨rfl, hb⟩; refine ⟨_, rfl, ?_⟩; have n0_ := Aside0.mk (below_step (by repeat (first | (with_reducible first | exact HB.out | apply below_alloc | apply pw_below_drewN | apply below_drew1) | exact HB.out)) hb); clear HB; have HB := n0_; clear n0_; (try clear hb); (try clear hb2); (try clear hk); (try clear hi)))
    go_loopg [7, 18] k (fun kq v7 v18 w' => ∃ (x7_1 : Int) (x18_1 : Int), v7 = .int .i64 x7_1 ∧ v18 = .int .i64 x18_1 ∧ Aside0 (foghornref14_Free.l0 kq l0 l1 a2 x7_1 l0 (l0.length : Int) x18_1 = some r) ∧ Aside0 (kq ≤ k) ∧ Aside0 (Below w.heap.size w w'))
    case atStart => exact ⟨(1099511627776), (0), (by first | rfl | (simp; done) | (simp [*]; done)), (by first | rfl | (simp; done) | (simp [*]; done)), H', ⟨Nat.le_refl _⟩, ⟨by repeat (first | (with_reducible first | exact HB.out | apply below_alloc | apply pw_below_drewN | apply below_drew1) | exact HB.out)⟩⟩
    case round =>
      clear H'
      try clear c1
      try clear c2
      try clear p2
      try clear c5
      obtain ⟨x7_1, x18_1, rfl, rfl, HA, HK1, HB⟩ := hrel
      cases gk with
      | zero => exact absurd HA.out (by simp [foghornref14_Free.l0])
      | succ k1 =>
        have H := HA.out
        clear HA
        simp only [foghornref14_Free.l0] at H
        by_cases c7 : x18_1 < (l0.length : Int)
        · rw [if_pos c7] at H
          have c7b0 : decide (x18_1 < (l0.length : Int)) = true := decide_eq_true c7
          clear c7
          by_cases c8 : 0 ≤ x18_1
          · rw [if_pos c8] at H
            have c8b0 : decide (0 ≤ x18_1) = true := decide_eq_true c8
            clear c8
            by_cases c9 : x18_1 < (l0.length : Int)
            · rw [if_pos c9] at H
              have c9b0 : decide (x18_1 < (l0.length : Int)) = true := decide_eq_true c9
              clear c9
              by_cases c10 : ((rd_T25 l0 x18_1).f1) > a2
              · rw [if_pos c10] at H
                have c10b0 : decide (a2 < ((rd_T25 l0 x18_1).f1)) = true := decide_eq_true c10
                clear c10
                by_cases c11 : ((rd_T25 l0 x18_1).f1) < x7_1
                · rw [if_pos c11] at H
                  have c11b0 : decide (((rd_T25 l0 x18_1).f1) < x7_1) = true := decide_eq_true c11
                  clear c11
                  replace H := Option.bind_eq_some_iff.mp H
                  obtain ⟨t198, A120, H⟩ := H
                  replace H : (if t198 = true then (foghornref14_Free.l0 k1 l0 l1 a2 x7_1 l0 (l0.length : Int) (wrap64 (x18_1 + 1))) else (foghornref14_Free.l0 k1 l0 l1 a2 ((rd_T25 l0 x18_1).f1) l0 (l0.length : Int) (wrap64 (x18_1 + 1)))) = some r := H
                  have A12 := Aside0.mk A120
                  clear A120
                  by_cases c13 : t198 = true
                  · subst c13
                    have H1 : (foghornref14_Free.l0 k1 l0 l1 a2 x7_1 l0 (l0.length : Int) (wrap64 (x18_1 + 1))) = some r := by rw [if_pos rfl] at H; exact H
                    clear H
                    have H := H1
                    clear H1
                    have H' := Aside0.mk H
                    clear H
                    have p196 : 0 ≤ (x18_1 : Int) := of_decide_eq_true (by first | (with_reducible assumption) | assumption)
                    have q196 : x18_1 < (l0.length : Int) := of_decide_eq_true (by first | (with_reducible assumption) | assumption)
                    obtain ⟨ad196, A196_2, c196_2, e196, hx196_0, hx196_1, hx196_2, hl196_2, hi196_2⟩ := at_T25 HR0.out x18_1 p196 q196
                    cases e196
                    replace hx196_0 := (HB.out.cell (World.block_lt_of_cell? w _ hx196_0)).trans hx196_0
                    replace hx196_1 := (HB.out.cell (World.block_lt_of_cell? w _ hx196_1)).trans hx196_1
                    replace hx196_2 := (HB.out.cell (World.block_lt_of_cell? w _ hx196_2)).trans hx196_2
                    have HR196_2 := Aside0.mk hi196_2
                    have HC196_2 := Aside0.mk hl196_2
                    clear hi196_2 hl196_2
                    replace p196 := eq_true p196
                    replace q196 := eq_true q196
                    go_wp2_with (first | ((with_reducible refine gate_dst (N := 9) rfl ?_); refine box_event ?hg (N := 9) ?hd (cs := #[.int .i64 0, .int .i64 0, .slice none 0 0]) (t := 25) ?hr ?_; (case hd => rfl); (case hg => rfl); (case hr => first | (go_simp; done) | (go_simp; rfl)); intro gb197 hg w14 hbox hb; have n0_ := Aside0.mk (below_step (by repeat (first | (with_reducible first | exact HB.out | apply below_alloc | apply pw_below_drewN | apply below_drew1) | exact HB.out)) hb); have n1_ := Aside0.mk (hbox); have n2_ := Aside0.mk ((by rw [hg]; exact (below_size (by repeat (first | (with_reducible first | exact HB.out | apply below_alloc | apply pw_below_drewN | apply below_drew1) | exact HB.out))) : w.heap.size ≤ gb197)); have n3_ := Aside0.mk ((by rw [hg]; exact (below_size (by repeat (first | (with_reducible first | exact HB.out | apply below_alloc | apply pw_below_drewN | apply below_drew1) | exact HB.out))) : w.heap.size ≤ gb197)); clear HB; have HB := n0_; have BK197 := n1_; have GW197 := n2_; have GE197 := n3_; clear n0_ n1_ n2_ n3_; clear hb hbox hg; have hcz15_0 : w14.cell? ⟨gb197, 0, none⟩ = some (.int .i64 0) := (blk_cell BK197.out 0).trans rfl; have hcz15_1 : w14.cell? ⟨gb197, 1, none⟩ = some (.int .i64 0) := (blk_cell BK197.out 1).trans rfl; have hcz15_2 : w14.cell? ⟨gb197, 2, none⟩ = some (.slice none 0 0) := (blk_cell BK197.out 2).trans rfl; have hfz15_0 := blk_frozen BK197.out 0; have hfz15_1 := blk_frozen BK197.out 1; have hfz15_2 := blk_frozen BK197.out 2) | (go_at_call 28; (with_reducible refine (foghornref14_Active.calls k1 _ _ l0 _ _ l1 ((rd_T25 l0 x18_1).f1) true _ ?side1 ?side2 ?side3 ?side4 A12.out).mono ?_); (case side1 => exact Kd.C_below HR0.out (by repeat (first | (with_reducible first | exact HB.out | apply below_alloc | apply pw_below_drewN | apply below_drew1 | refine below_set ?_ GE197.out) | exact HB.out))); (case side2 => exact HC0.out); (case side3 => exact Kd.C_below HR1.out (by repeat (first | (with_reducible first | exact HB.out | apply below_alloc | apply pw_below_drewN | apply below_drew1 | refine below_set ?_ GE197.out) | exact HB.out))); (case side4 => exact HC1.out); rintro e w16 ⟨rfl, hb⟩; have n0_ := Aside0.mk (blk_below (g := gb197) (o := .cells #[.int .i64 ((rd_T25 l0 x18_1).f0), .int .i64 ((rd_T25 l0 x18_1).f1), .slice A196_2 ((rd_T25 l0 x18_1).f2).length c196_2] 25 (0, 0)) (by (with_reducible repeat (first | refine blk_drewN ?_ _ | refine blk_drew ?_ | refine blk_alloc ?_ _)); refine blk_put (cs := #[.int .i64 ((rd_T25 l0 x18_1).f0), .int .i64 ((rd_T25 l0 x18_1).f1), .slice none 0 0]) ?_ 2 _ rfl; (with_reducible repeat (first | refine blk_drewN ?_ _ | refine blk_drew ?_ | refine blk_alloc ?_ _)); refine blk_put (cs := #[.int .i64 ((rd_T25 l0 x18_1).f0), .int .i64 0, .slice none 0 0]) ?_ 1 _ rfl; (with_reducible repeat (first | refine blk_drewN ?_ _ | refine blk_drew ?_ | refine blk_alloc ?_ _)); refine blk_put (cs := #[.int .i64 0, .int .i64 0, .slice none 0 0]) ?_ 0 _ rfl; (with_reducible repeat (first | refine blk_drewN ?_ _ | refine blk_drew ?_ | refine blk_alloc ?_ _)); exact BK197.out) hb); have n1_ := Aside0.mk (below_step (by repeat (first | (with_reducible first | exact HB.out | apply below_alloc | apply pw_below_drewN | apply below_drew1 | refine below_set ?_ GE197.out) | exact HB.out)) hb); clear BK197; clear HB; have BK197 := n0_; have HB := n1_; clear n0_ n1_; (try clear hb); (try clear hb2); (try clear hk); (try clear hi)))
                    go_roundg k1
                    case measure => have := HK1.out; omega
                    case rel => exact ⟨(x7_1), (wrap64 (x18_1 + 1)), (by first | rfl | (simp; done) | (simp [*]; done)), (by first | rfl | (simp; done) | (simp [*]; done)), H', ⟨by have := HK1.out; omega⟩, ⟨by repeat (first | (with_reducible first | exact HB.out | apply below_alloc | apply pw_below_drewN | apply below_drew1 | refine below_set ?_ GE197.out) | exact HB.out)⟩⟩
                  · replace c13 := Bool.eq_false_iff.mpr c13
                    subst c13
                    have H1 : (foghornref14_Free.l0 k1 l0 l1 a2 ((rd_T25 l0 x18_1).f1) l0 (l0.length : Int) (wrap64 (x18_1 + 1))) = some r := by rw [if_neg (show ¬ (false = true) by decide)] at H; exact H
                    clear H
                    have H := H1
                    clear H1
                    have H' := Aside0.mk H
                    clear H
                    have p196 : 0 ≤ (x18_1 : Int) := of_decide_eq_true (by first | (with_reducible assumption) | assumption)
                    have q196 : x18_1 < (l0.length : Int) := of_decide_eq_true (by first | (with_reducible assumption) | assumption)
                    obtain ⟨ad196, A196_2, c196_2, e196, hx196_0, hx196_1, hx196_2, hl196_2, hi196_2⟩ := at_T25 HR0.out x18_1 p196 q196
                    cases e196
                    replace hx196_0 := (HB.out.cell (World.block_lt_of_cell? w _ hx196_0)).trans hx196_0
                    replace hx196_1 := (HB.out.cell (World.block_lt_of_cell? w _ hx196_1)).trans hx196_1
                    replace hx196_2 := (HB.out.cell (World.block_lt_of_cell? w _ hx196_2)).trans hx196_2
                    have HR196_2 := Aside0.mk hi196_2
                    have HC196_2 := Aside0.mk hl196_2
                    clear hi196_2 hl196_2
                    replace p196 := eq_true p196
                    replace q196 := eq_true q196
                    go_wp2_with (first | ((with_reducible refine gate_dst (N := 9) rfl ?_); refine box_event ?hg (N := 9) ?hd (cs := #[.int .i64 0, .int .i64 0, .slice none 0 0]) (t := 25) ?hr ?_; (case hd => rfl); (case hg => rfl); (case hr => first | (go_simp; done) | (go_simp; rfl)); intro gb197 hg w17 hbox hb; have n0_ := Aside0.mk (below_step (by repeat (first | (with_reducible first | exact HB.out | apply below_alloc | apply pw_below_drewN | apply below_drew1) | exact HB.out)) hb); have n1_ := Aside0.mk (hbox); have n2_ := Aside0.mk ((by rw [hg]; exact (below_size (by repeat (first | (with_reducible first | exact HB.out | apply below_alloc | apply pw_below_drewN | apply below_drew1) | exact HB.out))) : w.heap.size ≤ gb197)); have n3_ := Aside0.mk ((by rw [hg]; exact (below_size (by repeat (first | (with_reducible first | exact HB.out | apply below_alloc | apply pw_below_drewN | apply below_drew1) | exact HB.out))) : w.heap.size ≤ gb197)); clear HB; have HB := n0_; have BK197 := n1_; have GW197 := n2_; have GE197 := n3_; clear n0_ n1_ n2_ n3_; clear hb hbox hg; have hcz18_0 : w17.cell? ⟨gb197, 0, none⟩ = some (.int .i64 0) := (blk_cell BK197.out 0).trans rfl; have hcz18_1 : w17.cell? ⟨gb197, 1, none⟩ = some (.int .i64 0) := (blk_cell BK197.out 1).trans rfl; have hcz18_2 : w17.cell? ⟨gb197, 2, none⟩ = some (.slice none 0 0) := (blk_cell BK197.out 2).trans rfl; have hfz18_0 := blk_frozen BK197.out 0; have hfz18_1 := blk_frozen BK197.out 1; have hfz18_2 := blk_frozen BK197.out 2) | (go_at_call 28; (with_reducible refine (foghornref14_Active.calls k1 _ _ l0 _ _ l1 ((rd_T25 l0 x18_1).f1) false _ ?side1 ?side2 ?side3 ?side4 A12.out).mono ?_); (case side1 => exact Kd.C_below HR0.out (by repeat (first | (with_reducible first | exact HB.out | apply below_alloc | apply pw_below_drewN | apply below_drew1 | refine below_set ?_ GE197.out) | exact HB.out))); (case side2 => exact HC0.out); (case side3 => exact Kd.C_below HR1.out (by repeat (first | (with_reducible first | exact HB.out | apply below_alloc | apply pw_below_drewN | apply below_drew1 | refine below_set ?_ GE197.out) | exact HB.out))); (case side4 => exact HC1.out); rintro e w19 ⟨rfl, hb⟩; have n0_ := Aside0.mk (blk_below (g := gb197) (o := .cells #[.int .i64 ((rd_T25 l0 x18_1).f0), .int .i64 ((rd_T25 l0 x18_1).f1), .slice A196_2 ((rd_T25 l0 x18_1).f2).length c196_2] 25 (0, 0)) (by (with_reducible repeat (first | refine blk_drewN ?_ _ | refine blk_drew ?_ | refine blk_alloc ?_ _)); refine blk_put (cs := #[.int .i64 ((rd_T25 l0 x18_1).f0), .int .i64 ((rd_T25 l0 x18_1).f1), .slice none 0 0]) ?_ 2 _ rfl; (with_reducible repeat (first | refine blk_drewN ?_ _ | refine blk_drew ?_ | refine blk_alloc ?_ _)); refine blk_put (cs := #[.int .i64 ((rd_T25 l0 x18_1).f0), .int .i64 0, .slice none 0 0]) ?_ 1 _ rfl; (with_reducible repeat (first | refine blk_drewN ?_ _ | refine blk_drew ?_ | refine blk_alloc ?_ _)); refine blk_put (cs := #[.int .i64 0, .int .i64 0, .slice none 0 0]) ?_ 0 _ rfl; (with_reducible repeat (first | refine blk_drewN ?_ _ | refine blk_drew ?_ | refine blk_alloc ?_ _)); exact BK197.out) hb); have n1_ := Aside0.mk (below_step (by repeat (first | (with_reducible first | exact HB.out | apply below_alloc | apply pw_below_drewN | apply below_drew1 | refine below_set ?_ GE197.out) | exact HB.out)) hb); clear BK197; clear HB; have BK197 := n0_; have HB := n1_; clear n0_ n1_; (try clear hb); (try clear hb2); (try clear hk); (try clear hi); have hcz20_0 : w19.cell? ⟨gb197, 0, none⟩ = some (.int .i64 ((rd_T25 l0 x18_1).f0)) := (blk_cell BK197.out 0).trans rfl; have hcz20_1 : w19.cell? ⟨gb197, 1, none⟩ = some (.int .i64 ((rd_T25 l0 x18_1).f1)) := (blk_cell BK197.out 1).trans rfl; have hcz20_2 : w19.cell? ⟨gb197, 2, none⟩ = some (.slice A196_2 ((rd_T25 l0 x18_1).f2).length c196_2) := (blk_cell BK197.out 2).trans rfl; have hfz20_0 := blk_frozen BK197.out 0; have hfz20_1 := blk_frozen BK197.out 1; have hfz20_2 := blk_frozen BK197.out 2))
                    go_roundg k1
                    case measure => have := HK1.out; omega
                    case rel => exact ⟨((rd_T25 l0 x18_1).f1), (wrap64 (x18_1 + 1)), (by first | rfl | (simp; done) | (simp [*]; done)), (by first | rfl | (simp; done) | (simp [*]; done)), H', ⟨by have := HK1.out; omega⟩, ⟨by repeat (first | (with_reducible first | exact HB.out | apply below_alloc | apply pw_below_drewN | apply below_drew1 | refine below_set ?_ GE197.out) | exact HB.out)⟩⟩
                · rw [if_neg c11] at H
                  have c11b0 : decide (((rd_T25 l0 x18_1).f1) < x7_1) = false := decide_eq_false c11
                  clear c11
                  have H' := Aside0.mk H
                  clear H
                  have p196 : 0 ≤ (x18_1 : Int) := of_decide_eq_true (by first | (with_reducible assumption) | assumption)
                  have q196 : x18_1 < (l0.length : Int) := of_decide_eq_true (by first | (with_reducible assumption) | assumption)
                  obtain ⟨ad196, A196_2, c196_2, e196, hx196_0, hx196_1, hx196_2, hl196_2, hi196_2⟩ := at_T25 HR0.out x18_1 p196 q196
                  cases e196
                  replace hx196_0 := (HB.out.cell (World.block_lt_of_cell? w _ hx196_0)).trans hx196_0
                  replace hx196_1 := (HB.out.cell (World.block_lt_of_cell? w _ hx196_1)).trans hx196_1
                  replace hx196_2 := (HB.out.cell (World.block_lt_of_cell? w _ hx196_2)).trans hx196_2
                  have HR196_2 := Aside0.mk hi196_2
                  have HC196_2 := Aside0.mk hl196_2
                  clear hi196_2 hl196_2
                  replace p196 := eq_true p196
                  replace q196 := eq_true q196
                  go_wp2_with (first | ((with_reducible refine gate_dst (N := 9) rfl ?_); refine box_event ?hg (N := 9) ?hd (cs := #[.int .i64 0, .int .i64 0, .slice none 0 0]) (t := 25) ?hr ?_; (case hd => rfl); (case hg => rfl); (case hr => first | (go_simp; done) | (go_simp; rfl)); intro gb197 hg w21 hbox hb; have n0_ := Aside0.mk (below_step (by repeat (first | (with_reducible first | exact HB.out | apply below_alloc | apply pw_below_drewN | apply below_drew1) | exact HB.out)) hb); have n1_ := Aside0.mk (hbox); have n2_ := Aside0.mk ((by rw [hg]; exact (below_size (by repeat (first | (with_reducible first | exact HB.out | apply below_alloc | apply pw_below_drewN | apply below_drew1) | exact HB.out))) : w.heap.size ≤ gb197)); have n3_ := Aside0.mk ((by rw [hg]; exact (below_size (by repeat (first | (with_reducible first | exact HB.out | apply below_alloc | apply pw_below_drewN | apply below_drew1) | exact HB.out))) : w.heap.size ≤ gb197)); clear HB; have HB := n0_; have BK197 := n1_; have GW197 := n2_; have GE197 := n3_; clear n0_ n1_ n2_ n3_; clear hb hbox hg; have hcz22_0 : w21.cell? ⟨gb197, 0, none⟩ = some (.int .i64 0) := (blk_cell BK197.out 0).trans rfl; have hcz22_1 : w21.cell? ⟨gb197, 1, none⟩ = some (.int .i64 0) := (blk_cell BK197.out 1).trans rfl; have hcz22_2 : w21.cell? ⟨gb197, 2, none⟩ = some (.slice none 0 0) := (blk_cell BK197.out 2).trans rfl; have hfz22_0 := blk_frozen BK197.out 0; have hfz22_1 := blk_frozen BK197.out 1; have hfz22_2 := blk_frozen BK197.out 2))
                  go_roundg k1
                  case measure => have := HK1.out; omega
                  case rel => exact ⟨(x7_1), (wrap64 (x18_1 + 1)), (by first | rfl | (simp; done) | (simp [*]; done)), (by first | rfl | (simp; done) | (simp [*]; done)), H', ⟨by have := HK1.out; omega⟩, ⟨by repeat (first | (with_reducible first | exact HB.out | apply below_alloc | apply pw_below_drewN | apply below_drew1 | refine below_set ?_ GE197.out) | exact HB.out)⟩⟩
              · rw [if_neg c10] at H
                have c10b0 : decide (a2 < ((rd_T25 l0 x18_1).f1)) = false := decide_eq_false c10
                clear c10
                have H' := Aside0.mk H
                clear H
                have p196 : 0 ≤ (x18_1 : Int) := of_decide_eq_true (by first | (with_reducible assumption) | assumption)
                have q196 : x18_1 < (l0.length : Int) := of_decide_eq_true (by first | (with_reducible assumption) | assumption)
                obtain ⟨ad196, A196_2, c196_2, e196, hx196_0, hx196_1, hx196_2, hl196_2, hi196_2⟩ := at_T25 HR0.out x18_1 p196 q196
                cases e196
                replace hx196_0 := (HB.out.cell (World.block_lt_of_cell? w _ hx196_0)).trans hx196_0
                replace hx196_1 := (HB.out.cell (World.block_lt_of_cell? w _ hx196_1)).trans hx196_1
                replace hx196_2 := (HB.out.cell (World.block_lt_of_cell? w _ hx196_2)).trans hx196_2
                have HR196_2 := Aside0.mk hi196_2
                have HC196_2 := Aside0.mk hl196_2
                clear hi196_2 hl196_2
                replace p196 := eq_true p196
                replace q196 := eq_true q196
                go_wp2_with (first | ((with_reducible refine gate_dst (N := 9) rfl ?_); refine box_event ?hg (N := 9) ?hd (cs := #[.int .i64 0, .int .i64 0, .slice none 0 0]) (t := 25) ?hr ?_; (case hd => rfl); (case hg => rfl); (case hr => first | (go_simp; done) | (go_simp; rfl)); intro gb197 hg w23 hbox hb; have n0_ := Aside0.mk (below_step (by repeat (first | (with_reducible first | exact HB.out | apply below_alloc | apply pw_below_drewN | apply below_drew1) | exact HB.out)) hb); have n1_ := Aside0.mk (hbox); have n2_ := Aside0.mk ((by rw [hg]; exact (below_size (by repeat (first | (with_reducible first | exact HB.out | apply below_alloc | apply pw_below_drewN | apply below_drew1) | exact HB.out))) : w.heap.size ≤ gb197)); have n3_ := Aside0.mk ((by rw [hg]; exact (below_size (by repeat (first | (with_reducible first | exact HB.out | apply below_alloc | apply pw_below_drewN | apply below_drew1) | exact HB.out))) : w.heap.size ≤ gb197)); clear HB; have HB := n0_; have BK197 := n1_; have GW197 := n2_; have GE197 := n3_; clear n0_ n1_ n2_ n3_; clear hb hbox hg; have hcz24_0 : w23.cell? ⟨gb197, 0, none⟩ = some (.int .i64 0) := (blk_cell BK197.out 0).trans rfl; have hcz24_1 : w23.cell? ⟨gb197, 1, none⟩ = some (.int .i64 0) := (blk_cell BK197.out 1).trans rfl; have hcz24_2 : w23.cell? ⟨gb197, 2, none⟩ = some (.slice none 0 0) := (blk_cell BK197.out 2).trans rfl; have hfz24_0 := blk_frozen BK197.out 0; have hfz24_1 := blk_frozen BK197.out 1; have hfz24_2 := blk_frozen BK197.out 2))
                go_roundg k1
                case measure => have := HK1.out; omega
                case rel => exact ⟨(x7_1), (wrap64 (x18_1 + 1)), (by first | rfl | (simp; done) | (simp [*]; done)), (by first | rfl | (simp; done) | (simp [*]; done)), H', ⟨by have := HK1.out; omega⟩, ⟨by repeat (first | (with_reducible first | exact HB.out | apply below_alloc | apply pw_below_drewN | apply below_drew1 | refine below_set ?_ GE197.out) | exact HB.out)⟩⟩
            · rw [if_neg c9] at H
              exact absurd H (by simp)
          · rw [if_neg c8] at H
            exact absurd H (by simp)
        · rw [if_neg c7] at H
          have c7b0 : decide (x18_1 < (l0.length : Int)) = false := decide_eq_false c7
          clear c7
          obtain rfl := Option.some.inj H
          go_wp2
          go_ret
          exact ⟨by first | rfl | (simp [errW_none, errW_some] <;> rfl) | (simp [*, errW_none, errW_some] <;> rfl), by repeat (first | (with_reducible first | exact HB.out | apply below_alloc | apply pw_below_drewN | apply below_drew1) | exact HB.out)⟩
  · replace c5 := Bool.eq_false_iff.mpr c5
    subst c5
    have H1 : (some a2) = some r := by rw [if_neg (show ¬ (false = true) by decide)] at H; exact H
    clear H
    have H := H1
    clear H1
    obtain rfl := Option.some.inj H
    go_enter Try.func29, Try.ntmps29
    go_wp2_with (first | ((with_reducible refine gate_callee (f := 28) rfl ?_); refine goesL_ (some 13) rfl rfl Try.func28 (by kernel_rfl) rfl #[.slice A0 l0.length c0, .slice A1 l1.length c1, .int .i64 a2] rfl (by (try simp only [List.map_toArray, List.map_cons, List.map_nil]); first | done | rfl | (simp only [List.length_drop, List.length_take]; rfl)) ?_; (with_reducible refine (foghornref14_Active.calls k _ _ l0 _ _ l1 a2 false _ ?side1 ?side2 ?side3 ?side4 A4.out).mono ?_); (case side1 => repeat (first | exact HR0.out | (with_reducible refine Kd.C_alloc ?_ _) | (with_reducible refine Kd.C_drewN ?_ _) | (with_reducible refine Kd.C_drew ?_))); (case side2 => exact HC0.out); (case side3 => repeat (first | exact HR1.out | (with_reducible refine Kd.C_alloc ?_ _) | (with_reducible refine Kd.C_drewN ?_ _) | (with_reducible refine Kd.C_drew ?_))); (case side4 => exact HC1.out); rintro e w25 ⟨rfl, hb⟩; refine ⟨_, rfl, ?_⟩; have n0_ := Aside0.mk (below_step (by repeat (first | (with_reducible first | exact HB.out | apply below_alloc | apply pw_below_drewN | apply below_drew1) | exact HB.out)) hb); clear HB; have HB := n0_; clear n0_; (try clear hb); (try clear hb2); (try clear hk); (try clear hi)))
    go_ret
    exact ⟨by first | rfl | (simp [errW_none, errW_some] <;> rfl) | (simp [*, errW_none, errW_some] <;> rfl), by repeat (first | (with_reducible first | exact HB.out | apply below_alloc | apply pw_below_drewN | apply below_drew1) | exact HB.out)⟩
theorem eqA88 (d : Nat) (w : World) (x0 y0 : Int) (x1 y1 : ByteArray) (x2 y2 : ByteArray) :
    (Op.equalIn (d + 2) 88 (.agg #[.int .i64 x0, .string x1, .string x2]) (.agg #[.int .i64 y0, .string y1, .string y2])).run Try.prog w = .ok (x0 == y0 && (x1.toList == y1.toList && (x2.toList == y2.toList))) w := by
  refine eqA_of Try.underlying88 (by kernel_rfl) ?_
  refine eqf_cons (by rfl) (by go_simp; rfl) (by go_simp; rfl) (by go_simp) ?_
  refine eqf_cons (by rfl) (by go_simp; rfl) (by go_simp; rfl) (by go_simp) ?_
  exact eqf_last (by rfl) (by go_simp; rfl) (by go_simp; rfl) (by go_simp)
end Go.Proofs.Ytkphinfijppkeaa.G
namespace Go.Proofs.Ytkphinfijppkeaa.G
open Go.RowKit Go.Proofs.YtkphinfijppkeaaW.PrintWords Go.Proofs.YtkphinfijppkeaaW.PrintLast Go.Proofs.YtkphinfijppkeaaW.PrintMore
attribute [local go_sem] max2_int min2_int max_two min_two max_three min_three max_four min_four   -- for this text's walks alone
attribute [local go_sem high] eqA88
def foghornref10_Asked.l0 : Nat → List (S88) → List (S88) → Int → Int → Option (Bool)
  | 0, _, _, _, _ => none
  | k + 1, x0, x1, x12, x13 => if x13 < x12 then (if 0 ≤ x13 then (if x13 < (x0.length : Int) then (if x13 < (x1.length : Int) then (if (!(((rd_T88 x0 x13).f0) == ((rd_T88 x1 x13).f0)) || (!((((rd_T88 x0 x13).f1).toList) == (((rd_T88 x1 x13).f1).toList)) || (!((((rd_T88 x0 x13).f2).toList) == (((rd_T88 x1 x13).f2).toList))))) = true then (some false) else (foghornref10_Asked.l0 k x0 x1 x12 (wrap64 (x13 + 1)))) else (none)) else (none)) else (none)) else (some true)
def foghornref10_Asked.f (k : Nat) (l0 : List (S88)) (l1 : List (S88)) : Option (Bool) := if (l0.length : Int) = (l1.length : Int) then (foghornref10_Asked.l0 k l0 l1 (l0.length : Int) 0) else (some false)
set_option maxHeartbeats 8000000 in
set_option maxRecDepth 100000 in
theorem foghornref10_Asked.calls (k : Nat) (A0 : Option Addr) (c0 : Nat) (l0 : List (S88)) (A1 : Option Addr) (c1 : Nat) (l1 : List (S88)) (r : Bool) (w : World) (hr0 : Kd.C k88 w A0 l0.length l0) (hc0 : l0.length ≤ c0) (hr1 : Kd.C k88 w A1 l1.length l1) (hc1 : l1.length ≤ c1) (h : foghornref10_Asked.f k l0 l1 = some r) :
    Calls Try.prog 96 #[.slice A0 l0.length c0, .slice A1 l1.length c1] w fun e w' => e = .returned (.bool r) ∧ Drawn0 w w' := by
  have hu88 := Try.underlying88
  have HR0 := Aside0.mk hr0
  have HC0 := Aside0.mk hc0
  clear hr0 hc0
  have HR1 := Aside0.mk hr1
  have HC1 := Aside0.mk hc1
  clear hr1 hc1
  have H : (if (l0.length : Int) = (l1.length : Int) then (foghornref10_Asked.l0 k l0 l1 (l0.length : Int) 0) else (some false)) = some r := h
  clear h
  by_cases c3 : (l0.length : Int) = (l1.length : Int)
  · rw [if_pos c3] at H
    have c3b0 : ((l0.length : Int) == (l1.length : Int)) = true := beq_iff_eq.mpr c3
    have c3b1 : ((l0.length : Int) != (l1.length : Int)) = false := bne_eq_false_iff_eq.mpr c3
    have c3b2 : (l0.length == l1.length) = true := by first | simpa using c3 | (simp at c3 ⊢; omega)
    clear c3
    have H' := Aside0.mk H
    clear H
    go_enter Try.func96, Try.ntmps96
    go_wp2
    repeat (go_quiet (fail); try go_wp2)
    go_loopg [13] k (fun kq v13 w' => ∃ (x13_1 : Int), v13 = .int .i64 x13_1 ∧ Aside0 (foghornref10_Asked.l0 kq l0 l1 (l0.length : Int) x13_1 = some r) ∧ Aside0 (kq ≤ k) ∧ Drawn0 w w')
    case atStart => exact ⟨(0), (by first | rfl | (simp; done) | (simp [*]; done)), H', ⟨Nat.le_refl _⟩, by repeat (first | exact Drawn0.refl _ | apply Drawn0.step)⟩
    case round =>
      clear H'
      try clear c1
      try clear p2
      try clear c3
      try clear c3b0
      try clear c3b1
      try clear c3b2
      obtain ⟨x13_1, rfl, HA, HK1, ⟨m1, rfl⟩⟩ := hrel
      cases gk with
      | zero => exact absurd HA.out (by simp [foghornref10_Asked.l0])
      | succ k1 =>
        have H := HA.out
        clear HA
        simp only [foghornref10_Asked.l0] at H
        by_cases c4 : x13_1 < (l0.length : Int)
        · rw [if_pos c4] at H
          have c4b0 : decide (x13_1 < (l0.length : Int)) = true := decide_eq_true c4
          clear c4
          by_cases c5 : 0 ≤ x13_1
          · rw [if_pos c5] at H
            have c5b0 : decide (0 ≤ x13_1) = true := decide_eq_true c5
            clear c5
            by_cases c6 : x13_1 < (l0.length : Int)
            · rw [if_pos c6] at H
              have c6b0 : decide (x13_1 < (l0.length : Int)) = true := decide_eq_true c6
              clear c6
              by_cases c7 : x13_1 < (l1.length : Int)
              · rw [if_pos c7] at H
                have c7b0 : decide (x13_1 < (l1.length : Int)) = true := decide_eq_true c7
                clear c7
                by_cases c8 : (!(((rd_T88 l0 x13_1).f0) == ((rd_T88 l1 x13_1).f0)) || (!((((rd_T88 l0 x13_1).f1).toList) == (((rd_T88 l1 x13_1).f1).toList)) || (!((((rd_T88 l0 x13_1).f2).toList) == (((rd_T88 l1 x13_1).f2).toList))))) = true
                · rw [if_pos c8] at H
                  have c8b0 : (!(((rd_T88 l0 x13_1).f0) == ((rd_T88 l1 x13_1).f0)) || (!((((rd_T88 l0 x13_1).f1).toList) == (((rd_T88 l1 x13_1).f1).toList)) || (!((((rd_T88 l0 x13_1).f2).toList) == (((rd_T88 l1 x13_1).f2).toList))))) = true := c8
                  clear c8
                  obtain rfl := Option.some.inj H
                  have p170 : 0 ≤ (x13_1 : Int) := of_decide_eq_true (by first | (with_reducible assumption) | assumption)
                  have q170 : x13_1 < (l0.length : Int) := of_decide_eq_true (by first | (with_reducible assumption) | assumption)
                  obtain ⟨ad170, e170, hx170_0, hx170_1, hx170_2⟩ := at_T88 HR0.out x13_1 p170 q170
                  cases e170
                  replace p170 := eq_true p170
                  replace q170 := eq_true q170
                  have p171 : 0 ≤ (x13_1 : Int) := of_decide_eq_true (by first | (with_reducible assumption) | assumption)
                  have q171 : x13_1 < (l1.length : Int) := of_decide_eq_true (by first | (with_reducible assumption) | assumption)
                  obtain ⟨ad171, e171, hx171_0, hx171_1, hx171_2⟩ := at_T88 HR1.out x13_1 p171 q171
                  cases e171
                  replace p171 := eq_true p171
                  replace q171 := eq_true q171
                  go_wp2
                  repeat (go_quiet (fail); try go_wp2)
                  go_ret
                  exact ⟨by first | rfl | (simp; done) | (simp [*]; done), by repeat (first | exact Drawn0.refl _ | apply Drawn0.step)⟩
                · rw [if_neg c8] at H
                  have c8b0 : (!(((rd_T88 l0 x13_1).f0) == ((rd_T88 l1 x13_1).f0)) || (!((((rd_T88 l0 x13_1).f1).toList) == (((rd_T88 l1 x13_1).f1).toList)) || (!((((rd_T88 l0 x13_1).f2).toList) == (((rd_T88 l1 x13_1).f2).toList))))) = false := by simpa using c8
                  clear c8
                  have H' := Aside0.mk H
                  clear H
                  have p170 : 0 ≤ (x13_1 : Int) := of_decide_eq_true (by first | (with_reducible assumption) | assumption)
                  have q170 : x13_1 < (l0.length : Int) := of_decide_eq_true (by first | (with_reducible assumption) | assumption)
                  obtain ⟨ad170, e170, hx170_0, hx170_1, hx170_2⟩ := at_T88 HR0.out x13_1 p170 q170
                  cases e170
                  replace p170 := eq_true p170
                  replace q170 := eq_true q170
                  have p171 : 0 ≤ (x13_1 : Int) := of_decide_eq_true (by first | (with_reducible assumption) | assumption)
                  have q171 : x13_1 < (l1.length : Int) := of_decide_eq_true (by first | (with_reducible assumption) | assumption)
                  obtain ⟨ad171, e171, hx171_0, hx171_1, hx171_2⟩ := at_T88 HR1.out x13_1 p171 q171
                  cases e171
                  replace p171 := eq_true p171
                  replace q171 := eq_true q171
                  go_wp2
                  repeat (go_quiet (fail); try go_wp2)
                  go_roundg k1
                  case measure => have := HK1.out; omega
                  case rel => exact ⟨(wrap64 (x13_1 + 1)), (by first | rfl | (simp; done) | (simp [*]; done)), H', ⟨by have := HK1.out; omega⟩, by repeat (first | exact Drawn0.refl _ | apply Drawn0.step)⟩
              · rw [if_neg c7] at H
                exact absurd H (by simp)
            · rw [if_neg c6] at H
              exact absurd H (by simp)
          · rw [if_neg c5] at H
            exact absurd H (by simp)
        · rw [if_neg c4] at H
          have c4b0 : decide (x13_1 < (l0.length : Int)) = false := decide_eq_false c4
          clear c4
          obtain rfl := Option.some.inj H
          go_wp2
          repeat (go_quiet (fail); try go_wp2)
          go_ret
          exact ⟨by first | rfl | (simp; done) | (simp [*]; done), by repeat (first | exact Drawn0.refl _ | apply Drawn0.step)⟩
  · rw [if_neg c3] at H
    have c3b0 : ((l0.length : Int) == (l1.length : Int)) = false := beq_eq_false_iff_ne.mpr c3
    have c3b1 : ((l0.length : Int) != (l1.length : Int)) = true := bne_iff_ne.mpr c3
    have c3b2 : (l0.length == l1.length) = false := by first | simpa using c3 | (simp at c3 ⊢; omega)
    obtain rfl := Option.some.inj H
    go_enter Try.func96, Try.ntmps96
    go_wp2
    repeat (go_quiet (fail); try go_wp2)
    go_ret
    exact ⟨by first | rfl | (simp; done) | (simp [*]; done), by repeat (first | exact Drawn0.refl _ | apply Drawn0.step)⟩
def foghornref12_Hushes.f (k : Nat) (a0_0 : Int) (a0_1 : Int) (l0_2 : List (S88)) (a1_0 : Int) (a1_1 : Int) (l1_2 : List (S88)) : Option (Bool) := if a0_0 = a1_0 then (if a0_1 = a1_1 then ((foghornref10_Asked.f k l0_2 l1_2).bind fun t174 => (some t174)) else (some false)) else (some false)
set_option maxHeartbeats 8000000 in
set_option maxRecDepth 100000 in
theorem foghornref12_Hushes.calls (k : Nat) (a0_0 : Int) (a0_1 : Int) (A0_2 : Option Addr) (c0_2 : Nat) (l0_2 : List (S88)) (a1_0 : Int) (a1_1 : Int) (A1_2 : Option Addr) (c1_2 : Nat) (l1_2 : List (S88)) (r : Bool) (w : World) (hr0_2 : Kd.C k88 w A0_2 l0_2.length l0_2) (hc0_2 : l0_2.length ≤ c0_2) (hr1_2 : Kd.C k88 w A1_2 l1_2.length l1_2) (hc1_2 : l1_2.length ≤ c1_2) (h : foghornref12_Hushes.f k a0_0 a0_1 l0_2 a1_0 a1_1 l1_2 = some r) :
    Calls Try.prog 63 #[.agg #[.int .i64 a0_0, .int .i64 a0_1, .slice A0_2 l0_2.length c0_2], .agg #[.int .i64 a1_0, .int .i64 a1_1, .slice A1_2 l1_2.length c1_2]] w fun e w' => e = .returned (.bool r) ∧ Below w.heap.size w w' := by
  have hu25 := Try.underlying25
  have HR0_2 := Aside0.mk hr0_2
  have HC0_2 := Aside0.mk hc0_2
  clear hr0_2 hc0_2
  have HR1_2 := Aside0.mk hr1_2
  have HC1_2 := Aside0.mk hc1_2
  clear hr1_2 hc1_2
  have HB := Aside0.mk (Below.refl w.heap.size w)
  have H : (if a0_0 = a1_0 then (if a0_1 = a1_1 then ((foghornref10_Asked.f k l0_2 l1_2).bind fun t174 => (some t174)) else (some false)) else (some false)) = some r := h
  clear h
  by_cases c3 : a0_0 = a1_0
  · rw [if_pos c3] at H
    have c3b0 : (a0_0 == a1_0) = true := beq_iff_eq.mpr c3
    have c3b1 : (a0_0 != a1_0) = false := bne_eq_false_iff_eq.mpr c3
    clear c3
    by_cases c4 : a0_1 = a1_1
    · rw [if_pos c4] at H
      have c4b0 : (a0_1 == a1_1) = true := beq_iff_eq.mpr c4
      have c4b1 : (a0_1 != a1_1) = false := bne_eq_false_iff_eq.mpr c4
      clear c4
      replace H := Option.bind_eq_some_iff.mp H
      obtain ⟨t174, A50, H⟩ := H
      replace H : (some t174) = some r := H
      have A5 := Aside0.mk A50
      clear A50
      obtain rfl := Option.some.inj H
      go_enter Try.func63, Try.ntmps63
      go_wp2_with (first | ((with_reducible refine gate_dst (N := 2) rfl ?_); refine box_event ?hg (N := 2) ?hd (cs := #[.int .i64 a0_0, .int .i64 a0_1, .slice A0_2 l0_2.length c0_2]) (t := 25) ?hr ?_; (case hd => rfl); (case hg => rfl); (case hr => first | (go_simp; done) | (go_simp; rfl)); intro gb172 hg w6 hbox hb; have n0_ := Aside0.mk (below_step (by repeat (first | (with_reducible first | exact HB.out | apply below_alloc | apply pw_below_drewN | apply below_drew1) | exact HB.out)) hb); have n1_ := Aside0.mk (hbox); have n2_ := Aside0.mk ((by rw [hg]; exact (below_size (by repeat (first | (with_reducible first | exact HB.out | apply below_alloc | apply pw_below_drewN | apply below_drew1) | exact HB.out))) : w.heap.size ≤ gb172)); have n3_ := Aside0.mk ((by rw [hg]; exact (below_size (by repeat (first | (with_reducible first | exact HB.out | apply below_alloc | apply pw_below_drewN | apply below_drew1) | exact HB.out))) : w.heap.size ≤ gb172)); clear HB; have HB := n0_; have BK172 := n1_; have GW172 := n2_; have GE172 := n3_; clear n0_ n1_ n2_ n3_; clear hb hbox hg) | ((with_reducible refine gate_dst (N := 3) rfl ?_); refine box_event ?hg (N := 3) ?hd (cs := #[.int .i64 a1_0, .int .i64 a1_1, .slice A1_2 l1_2.length c1_2]) (t := 25) ?hr ?_; (case hd => rfl); (case hg => rfl); (case hr => first | (go_simp; done) | (go_simp; rfl)); intro gb173 hg w7 hbox hb; have n0_ := Aside0.mk (blk_below (g := gb172) (o := .cells #[.int .i64 a0_0, .int .i64 a0_1, .slice A0_2 l0_2.length c0_2] 25 (0, 0)) (by (with_reducible repeat (first | refine blk_drewN ?_ _ | refine blk_drew ?_ | refine blk_alloc ?_ _)); exact BK172.out) hb); have n1_ := Aside0.mk (below_step (by repeat (first | (with_reducible first | exact HB.out | apply below_alloc | apply pw_below_drewN | apply below_drew1 | refine below_set ?_ GE172.out) | exact HB.out)) hb); have n2_ := Aside0.mk (hbox); have n3_ := Aside0.mk ((by rw [hg]; exact (below_size (by repeat (first | (with_reducible first | exact HB.out | apply below_alloc | apply pw_below_drewN | apply below_drew1 | refine below_set ?_ GE172.out) | exact HB.out))) : w.heap.size ≤ gb173)); have n4_ := Aside0.mk ((by rw [hg]; exact (below_size (by repeat (first | (with_reducible first | exact HB.out | apply below_alloc | apply pw_below_drewN | apply below_drew1 | refine below_set ?_ GE172.out) | exact HB.out))) : w.heap.size ≤ gb173)); have n5_ := Aside0.mk ((by rw [hg]; exact Nat.ne_of_lt (blk_lt (g := gb172) (o := .cells #[.int .i64 a0_0, .int .i64 a0_1, .slice A0_2 l0_2.length c0_2] 25 (0, 0)) (by (with_reducible repeat (first | refine blk_drewN ?_ _ | refine blk_drew ?_ | refine blk_alloc ?_ _)); exact BK172.out)) : gb172 ≠ gb173)); have n6_ := Aside0.mk ((by rw [hg]; exact Nat.ne_of_gt (blk_lt (g := gb172) (o := .cells #[.int .i64 a0_0, .int .i64 a0_1, .slice A0_2 l0_2.length c0_2] 25 (0, 0)) (by (with_reducible repeat (first | refine blk_drewN ?_ _ | refine blk_drew ?_ | refine blk_alloc ?_ _)); exact BK172.out)) : gb173 ≠ gb172)); clear BK172; clear HB; have BK172 := n0_; have HB := n1_; have BK173 := n2_; have GW173 := n3_; have GE173 := n4_; have NB172_173 := n5_; have NB173_172 := n6_; clear n0_ n1_ n2_ n3_ n4_ n5_ n6_; clear hb hbox hg; have hnb8 := NB172_173.out; have hnc8 := NB173_172.out; have hcz9_0 : w7.cell? ⟨gb172, 0, none⟩ = some (.int .i64 a0_0) := (blk_cell BK172.out 0).trans rfl; have hcz9_1 : w7.cell? ⟨gb172, 1, none⟩ = some (.int .i64 a0_1) := (blk_cell BK172.out 1).trans rfl; have hcz9_2 : w7.cell? ⟨gb172, 2, none⟩ = some (.slice A0_2 l0_2.length c0_2) := (blk_cell BK172.out 2).trans rfl; have hfz9_0 := blk_frozen BK172.out 0; have hfz9_1 := blk_frozen BK172.out 1; have hfz9_2 := blk_frozen BK172.out 2; have hcz10_0 : w7.cell? ⟨gb173, 0, none⟩ = some (.int .i64 a1_0) := (blk_cell BK173.out 0).trans rfl; have hcz10_1 : w7.cell? ⟨gb173, 1, none⟩ = some (.int .i64 a1_1) := (blk_cell BK173.out 1).trans rfl; have hcz10_2 : w7.cell? ⟨gb173, 2, none⟩ = some (.slice A1_2 l1_2.length c1_2) := (blk_cell BK173.out 2).trans rfl; have hfz10_0 := blk_frozen BK173.out 0; have hfz10_1 := blk_frozen BK173.out 1; have hfz10_2 := blk_frozen BK173.out 2) | (go_at_call 96; (with_reducible refine (foghornref10_Asked.calls k _ _ l0_2 _ _ l1_2 t174 _ ?side1 ?side2 ?side3 ?side4 A5.out).mono ?_); (case side1 => repeat (first | exact (Kd.C_below HR0_2.out HB.out) | (with_reducible refine Kd.C_alloc ?_ _) | (with_reducible refine Kd.C_drewN ?_ _) | (with_reducible refine Kd.C_drew ?_))); (case side2 => exact HC0_2.out); (case side3 => repeat (first | exact (Kd.C_below HR1_2.out HB.out) | (with_reducible refine Kd.C_alloc ?_ _) | (with_reducible refine Kd.C_drewN ?_ _) | (with_reducible refine Kd.C_drew ?_))); (case side4 => exact HC1_2.out); rintro e w' ⟨rfl, ⟨nd, rfl⟩⟩))
      go_ret
      exact ⟨by first | rfl | (simp [errW_none, errW_some] <;> rfl) | (simp [*, errW_none, errW_some] <;> rfl), by repeat (first | (with_reducible first | exact HB.out | apply below_alloc | apply pw_below_drewN | apply below_drew1 | refine below_set ?_ GE172.out | refine below_set ?_ GE173.out) | exact HB.out)⟩
    · rw [if_neg c4] at H
      have c4b0 : (a0_1 == a1_1) = false := beq_eq_false_iff_ne.mpr c4
      have c4b1 : (a0_1 != a1_1) = true := bne_iff_ne.mpr c4
      obtain rfl := Option.some.inj H
      go_enter Try.func63, Try.ntmps63
      go_wp2_with (first | ((with_reducible refine gate_dst (N := 2) rfl ?_); refine box_event ?hg (N := 2) ?hd (cs := #[.int .i64 a0_0, .int .i64 a0_1, .slice A0_2 l0_2.length c0_2]) (t := 25) ?hr ?_; (case hd => rfl); (case hg => rfl); (case hr => first | (go_simp; done) | (go_simp; rfl)); intro gb172 hg w11 hbox hb; have n0_ := Aside0.mk (below_step (by repeat (first | (with_reducible first | exact HB.out | apply below_alloc | apply pw_below_drewN | apply below_drew1) | exact HB.out)) hb); have n1_ := Aside0.mk (hbox); have n2_ := Aside0.mk ((by rw [hg]; exact (below_size (by repeat (first | (with_reducible first | exact HB.out | apply below_alloc | apply pw_below_drewN | apply below_drew1) | exact HB.out))) : w.heap.size ≤ gb172)); have n3_ := Aside0.mk ((by rw [hg]; exact (below_size (by repeat (first | (with_reducible first | exact HB.out | apply below_alloc | apply pw_below_drewN | apply below_drew1) | exact HB.out))) : w.heap.size ≤ gb172)); clear HB; have HB := n0_; have BK172 := n1_; have GW172 := n2_; have GE172 := n3_; clear n0_ n1_ n2_ n3_; clear hb hbox hg) | ((with_reducible refine gate_dst (N := 3) rfl ?_); refine box_event ?hg (N := 3) ?hd (cs := #[.int .i64 a1_0, .int .i64 a1_1, .slice A1_2 l1_2.length c1_2]) (t := 25) ?hr ?_; (case hd => rfl); (case hg => rfl); (case hr => first | (go_simp; done) | (go_simp; rfl)); intro gb173 hg w12 hbox hb; have n0_ := Aside0.mk (blk_below (g := gb172) (o := .cells #[.int .i64 a0_0, .int .i64 a0_1, .slice A0_2 l0_2.length c0_2] 25 (0, 0)) (by (with_reducible repeat (first | refine blk_drewN ?_ _ | refine blk_drew ?_ | refine blk_alloc ?_ _)); exact BK172.out) hb); have n1_ := Aside0.mk (below_step (by repeat (first | (with_reducible first | exact HB.out | apply below_alloc | apply pw_below_drewN | apply below_drew1 | refine below_set ?_ GE172.out) | exact HB.out)) hb); have n2_ := Aside0.mk (hbox); have n3_ := Aside0.mk ((by rw [hg]; exact (below_size (by repeat (first | (with_reducible first | exact HB.out | apply below_alloc | apply pw_below_drewN | apply below_drew1 | refine below_set ?_ GE172.out) | exact HB.out))) : w.heap.size ≤ gb173)); have n4_ := Aside0.mk ((by rw [hg]; exact (below_size (by repeat (first | (with_reducible first | exact HB.out | apply below_alloc | apply pw_below_drewN | apply below_drew1 | refine below_set ?_ GE172.out) | exact HB.out))) : w.heap.size ≤ gb173)); have n5_ := Aside0.mk ((by rw [hg]; exact Nat.ne_of_lt (blk_lt (g := gb172) (o := .cells #[.int .i64 a0_0, .int .i64 a0_1, .slice A0_2 l0_2.length c0_2] 25 (0, 0)) (by (with_reducible repeat (first | refine blk_drewN ?_ _ | refine blk_drew ?_ | refine blk_alloc ?_ _)); exact BK172.out)) : gb172 ≠ gb173)); have n6_ := Aside0.mk ((by rw [hg]; exact Nat.ne_of_gt (blk_lt (g := gb172) (o := .cells #[.int .i64 a0_0, .int .i64 a0_1, .slice A0_2 l0_2.length c0_2] 25 (0, 0)) (by (with_reducible repeat (first | refine blk_drewN ?_ _ | refine blk_drew ?_ | refine blk_alloc ?_ _)); exact BK172.out)) : gb173 ≠ gb172)); clear BK172; clear HB; have BK172 := n0_; have HB := n1_; have BK173 := n2_; have GW173 := n3_; have GE173 := n4_; have NB172_173 := n5_; have NB173_172 := n6_; clear n0_ n1_ n2_ n3_ n4_ n5_ n6_; clear hb hbox hg; have hnb13 := NB172_173.out; have hnc13 := NB173_172.out; have hcz14_0 : w12.cell? ⟨gb172, 0, none⟩ = some (.int .i64 a0_0) := (blk_cell BK172.out 0).trans rfl; have hcz14_1 : w12.cell? ⟨gb172, 1, none⟩ = some (.int .i64 a0_1) := (blk_cell BK172.out 1).trans rfl; have hcz14_2 : w12.cell? ⟨gb172, 2, none⟩ = some (.slice A0_2 l0_2.length c0_2) := (blk_cell BK172.out 2).trans rfl; have hfz14_0 := blk_frozen BK172.out 0; have hfz14_1 := blk_frozen BK172.out 1; have hfz14_2 := blk_frozen BK172.out 2; have hcz15_0 : w12.cell? ⟨gb173, 0, none⟩ = some (.int .i64 a1_0) := (blk_cell BK173.out 0).trans rfl; have hcz15_1 : w12.cell? ⟨gb173, 1, none⟩ = some (.int .i64 a1_1) := (blk_cell BK173.out 1).trans rfl; have hcz15_2 : w12.cell? ⟨gb173, 2, none⟩ = some (.slice A1_2 l1_2.length c1_2) := (blk_cell BK173.out 2).trans rfl; have hfz15_0 := blk_frozen BK173.out 0; have hfz15_1 := blk_frozen BK173.out 1; have hfz15_2 := blk_frozen BK173.out 2))
      go_ret
      exact ⟨by first | rfl | (simp [errW_none, errW_some] <;> rfl) | (simp [*, errW_none, errW_some] <;> rfl), by repeat (first | (with_reducible first | exact HB.out | apply below_alloc | apply pw_below_drewN | apply below_drew1 | refine below_set ?_ GE172.out | refine below_set ?_ GE173.out) | exact HB.out)⟩
  · rw [if_neg c3] at H
    have c3b0 : (a0_0 == a1_0) = false := beq_eq_false_iff_ne.mpr c3
    have c3b1 : (a0_0 != a1_0) = true := bne_iff_ne.mpr c3
    obtain rfl := Option.some.inj H
    go_enter Try.func63, Try.ntmps63
    go_wp2_with (first | ((with_reducible refine gate_dst (N := 2) rfl ?_); refine box_event ?hg (N := 2) ?hd (cs := #[.int .i64 a0_0, .int .i64 a0_1, .slice A0_2 l0_2.length c0_2]) (t := 25) ?hr ?_; (case hd => rfl); (case hg => rfl); (case hr => first | (go_simp; done) | (go_simp; rfl)); intro gb172 hg w16 hbox hb; have n0_ := Aside0.mk (below_step (by repeat (first | (with_reducible first | exact HB.out | apply below_alloc | apply pw_below_drewN | apply below_drew1) | exact HB.out)) hb); have n1_ := Aside0.mk (hbox); have n2_ := Aside0.mk ((by rw [hg]; exact (below_size (by repeat (first | (with_reducible first | exact HB.out | apply below_alloc | apply pw_below_drewN | apply below_drew1) | exact HB.out))) : w.heap.size ≤ gb172)); have n3_ := Aside0.mk ((by rw [hg]; exact (below_size (by repeat (first | (with_reducible first | exact HB.out | apply below_alloc | apply pw_below_drewN | apply below_drew1) | exact HB.out))) : w.heap.size ≤ gb172)); clear HB; have HB := n0_; have BK172 := n1_; have GW172 := n2_; have GE172 := n3_; clear n0_ n1_ n2_ n3_; clear hb hbox hg) | ((with_reducible refine gate_dst (N := 3) rfl ?_); refine box_event ?hg (N := 3) ?hd (cs := #[.int .i64 a1_0, .int .i64 a1_1, .slice A1_2 l1_2.length c1_2]) (t := 25) ?hr ?_; (case hd => rfl); (case hg => rfl); (case hr => first | (go_simp; done) | (go_simp; rfl)); intro gb173 hg w17 hbox hb; have n0_ := Aside0.mk (blk_below (g := gb172) (o := .cells #[.int .i64 a0_0, .int .i64 a0_1, .slice A0_2 l0_2.length c0_2] 25 (0, 0)) (by (with_reducible repeat (first | refine blk_drewN ?_ _ | refine blk_drew ?_ | refine blk_alloc ?_ _)); exact BK172.out) hb); have n1_ := Aside0.mk (below_step (by repeat (first | (with_reducible first | exact HB.out | apply below_alloc | apply pw_below_drewN | apply below_drew1 | refine below_set ?_ GE172.out) | exact HB.out)) hb); have n2_ := Aside0.mk (hbox); have n3_ := Aside0.mk ((by rw [hg]; exact (below_size (by repeat (first | (with_reducible first | exact HB.out | apply below_alloc | apply pw_below_drewN | apply below_drew1 | refine below_set ?_ GE172.out) | exact HB.out))) : w.heap.size ≤ gb173)); have n4_ := Aside0.mk ((by rw [hg]; exact (below_size (by repeat (first | (with_reducible first | exact HB.out | apply below_alloc | apply pw_below_drewN | apply below_drew1 | refine below_set ?_ GE172.out) | exact HB.out))) : w.heap.size ≤ gb173)); have n5_ := Aside0.mk ((by rw [hg]; exact Nat.ne_of_lt (blk_lt (g := gb172) (o := .cells #[.int .i64 a0_0, .int .i64 a0_1, .slice A0_2 l0_2.length c0_2] 25 (0, 0)) (by (with_reducible repeat (first | refine blk_drewN ?_ _ | refine blk_drew ?_ | refine blk_alloc ?_ _)); exact BK172.out)) : gb172 ≠ gb173)); have n6_ := Aside0.mk ((by rw [hg]; exact Nat.ne_of_gt (blk_lt (g := gb172) (o := .cells #[.int .i64 a0_0, .int .i64 a0_1, .slice A0_2 l0_2.length c0_2] 25 (0, 0)) (by (with_reducible repeat (first | refine blk_drewN ?_ _ | refine blk_drew ?_ | refine blk_alloc ?_ _)); exact BK172.out)) : gb173 ≠ gb172)); clear BK172; clear HB; have BK172 := n0_; have HB := n1_; have BK173 := n2_; have GW173 := n3_; have GE173 := n4_; have NB172_173 := n5_; have NB173_172 := n6_; clear n0_ n1_ n2_ n3_ n4_ n5_ n6_; clear hb hbox hg; have hnb18 := NB172_173.out; have hnc18 := NB173_172.out; have hcz19_0 : w17.cell? ⟨gb172, 0, none⟩ = some (.int .i64 a0_0) := (blk_cell BK172.out 0).trans rfl; have hcz19_1 : w17.cell? ⟨gb172, 1, none⟩ = some (.int .i64 a0_1) := (blk_cell BK172.out 1).trans rfl; have hcz19_2 : w17.cell? ⟨gb172, 2, none⟩ = some (.slice A0_2 l0_2.length c0_2) := (blk_cell BK172.out 2).trans rfl; have hfz19_0 := blk_frozen BK172.out 0; have hfz19_1 := blk_frozen BK172.out 1; have hfz19_2 := blk_frozen BK172.out 2; have hcz20_0 : w17.cell? ⟨gb173, 0, none⟩ = some (.int .i64 a1_0) := (blk_cell BK173.out 0).trans rfl; have hcz20_1 : w17.cell? ⟨gb173, 1, none⟩ = some (.int .i64 a1_1) := (blk_cell BK173.out 1).trans rfl; have hcz20_2 : w17.cell? ⟨gb173, 2, none⟩ = some (.slice A1_2 l1_2.length c1_2) := (blk_cell BK173.out 2).trans rfl; have hfz20_0 := blk_frozen BK173.out 0; have hfz20_1 := blk_frozen BK173.out 1; have hfz20_2 := blk_frozen BK173.out 2))
    go_ret
    exact ⟨by first | rfl | (simp [errW_none, errW_some] <;> rfl) | (simp [*, errW_none, errW_some] <;> rfl), by repeat (first | (with_reducible first | exact HB.out | apply below_alloc | apply pw_below_drewN | apply below_drew1 | refine below_set ?_ GE172.out | refine below_set ?_ GE173.out) | exact HB.out)⟩
end Go.Proofs.Ytkphinfijppkeaa.G
namespace Go.Proofs.Ytkphinfijppkeaa.G
open Go.RowKit Go.Proofs.YtkphinfijppkeaaW.PrintWords Go.Proofs.YtkphinfijppkeaaW.PrintLast Go.Proofs.YtkphinfijppkeaaW.PrintMore
attribute [local go_sem] max2_int min2_int max_two min_two max_three min_three max_four min_four   -- for this text's walks alone
def foghornref14_Same.l0 : Nat → List (S25) → List (S25) → Int → Int → Option (Bool)
  | 0, _, _, _, _ => none
  | k + 1, x0, x1, x12, x13 => if x13 < x12 then (if 0 ≤ x13 then (if x13 < (x0.length : Int) then (if x13 < (x1.length : Int) then ((foghornref12_Hushes.f k ((rd_T25 x0 x13).f0) ((rd_T25 x0 x13).f1) ((rd_T25 x0 x13).f2) ((rd_T25 x1 x13).f0) ((rd_T25 x1 x13).f1) ((rd_T25 x1 x13).f2)).bind fun t177 => (if t177 = true then (foghornref14_Same.l0 k x0 x1 x12 (wrap64 (x13 + 1))) else (some false))) else (none)) else (none)) else (none)) else (some true)
def foghornref14_Same.f (k : Nat) (l0 : List (S25)) (l1 : List (S25)) : Option (Bool) := if (l0.length : Int) = (l1.length : Int) then (foghornref14_Same.l0 k l0 l1 (l0.length : Int) 0) else (some false)
def foghornref14_Same.T6 : Bool × List (List Nat × List Nat) := (true, [([], []), ([], []), ([0, 1], [0, 1]), ([2], [2]), ([], []), ([], []), ([4, 5], [4, 5]), ([6], [6]), ([3, 7], [3, 7]), ([8], [8])])
def foghornref14_Same.B6 : List Nat := [0, 0, 3, 7, 0, 0, 48, 112, 255, 511]
theorem foghornref14_Same.tab6 : rtab .any (opsOf Try.f26 6) = foghornref14_Same.T6 := by kernel_rfl
theorem foghornref14_Same.bits6 : waitsOk foghornref14_Same.T6.2 foghornref14_Same.B6 = true := by kernel_rfl
set_option maxHeartbeats 8000000 in
set_option maxRecDepth 100000 in
theorem foghornref14_Same.calls (k : Nat) (A0 : Option Addr) (c0 : Nat) (l0 : List (S25)) (A1 : Option Addr) (c1 : Nat) (l1 : List (S25)) (r : Bool) (w : World) (hr0 : Kd.C k25 w A0 l0.length l0) (hc0 : l0.length ≤ c0) (hr1 : Kd.C k25 w A1 l1.length l1) (hc1 : l1.length ≤ c1) (h : foghornref14_Same.f k l0 l1 = some r) :
    Calls Try.prog 26 #[.slice A0 l0.length c0, .slice A1 l1.length c1] w fun e w' => e = .returned (.bool r) ∧ Below w.heap.size w w' := by
  have hu25 := Try.underlying25
  have HR0 := Aside0.mk hr0
  have HC0 := Aside0.mk hc0
  clear hr0 hc0
  have HR1 := Aside0.mk hr1
  have HC1 := Aside0.mk hc1
  clear hr1 hc1
  have HB := Aside0.mk (Below.refl w.heap.size w)
  have H : (if (l0.length : Int) = (l1.length : Int) then (foghornref14_Same.l0 k l0 l1 (l0.length : Int) 0) else (some false)) = some r := h
  clear h
  by_cases c3 : (l0.length : Int) = (l1.length : Int)
  · rw [if_pos c3] at H
    have c3b0 : ((l0.length : Int) == (l1.length : Int)) = true := beq_iff_eq.mpr c3
    have c3b1 : ((l0.length : Int) != (l1.length : Int)) = false := bne_eq_false_iff_eq.mpr c3
    have c3b2 : (l0.length == l1.length) = true := by first | simpa using c3 | (simp at c3 ⊢; omega)
    clear c3
    have H' := Aside0.mk H
    clear H
    go_enter Try.func26, Try.ntmps26
    go_wp2
    go_loopg [13] k (fun kq v13 w' => ∃ (x13_1 : Int), v13 = .int .i64 x13_1 ∧ Aside0 (foghornref14_Same.l0 kq l0 l1 (l0.length : Int) x13_1 = some r) ∧ Aside0 (kq ≤ k) ∧ Aside0 (Below w.heap.size w w'))
    case atStart => exact ⟨(0), (by first | rfl | (simp; done) | (simp [*]; done)), H', ⟨Nat.le_refl _⟩, ⟨by repeat (first | (with_reducible first | exact HB.out | apply below_alloc | apply pw_below_drewN | apply below_drew1) | exact HB.out)⟩⟩
    case round =>
      clear H'
      try clear c1
      try clear c2
      try clear p2
      try clear c3
      try clear c3b0
      try clear c3b1
      try clear c3b2
      obtain ⟨x13_1, rfl, HA, HK1, HB⟩ := hrel
      cases gk with
      | zero => exact absurd HA.out (by simp [foghornref14_Same.l0])
      | succ k1 =>
        have H := HA.out
        clear HA
        simp only [foghornref14_Same.l0] at H
        by_cases c4 : x13_1 < (l0.length : Int)
        · rw [if_pos c4] at H
          have c4b0 : decide (x13_1 < (l0.length : Int)) = true := decide_eq_true c4
          clear c4
          by_cases c5 : 0 ≤ x13_1
          · rw [if_pos c5] at H
            have c5b0 : decide (0 ≤ x13_1) = true := decide_eq_true c5
            clear c5
            by_cases c6 : x13_1 < (l0.length : Int)
            · rw [if_pos c6] at H
              have c6b0 : decide (x13_1 < (l0.length : Int)) = true := decide_eq_true c6
              clear c6
              by_cases c7 : x13_1 < (l1.length : Int)
              · rw [if_pos c7] at H
                have c7b0 : decide (x13_1 < (l1.length : Int)) = true := decide_eq_true c7
                clear c7
                replace H := Option.bind_eq_some_iff.mp H
                obtain ⟨t177, A80, H⟩ := H
                replace H : (if t177 = true then (foghornref14_Same.l0 k1 l0 l1 (l0.length : Int) (wrap64 (x13_1 + 1))) else (some false)) = some r := H
                have A8 := Aside0.mk A80
                clear A80
                by_cases c9 : t177 = true
                · subst c9
                  have H1 : (foghornref14_Same.l0 k1 l0 l1 (l0.length : Int) (wrap64 (x13_1 + 1))) = some r := by rw [if_pos rfl] at H; exact H
                  clear H
                  have H := H1
                  clear H1
                  have H' := Aside0.mk H
                  clear H
                  try go_wp2
                  have n0_ := Aside0.mk (below_drew1 HB.out)
                  clear HB
                  have HB := n0_
                  clear n0_
                  have p175 : 0 ≤ (x13_1 : Int) := of_decide_eq_true (by first | (with_reducible assumption) | assumption)
                  have q175 : x13_1 < (l0.length : Int) := of_decide_eq_true (by first | (with_reducible assumption) | assumption)
                  obtain ⟨ad175, A175_2, c175_2, e175, hx175_0, hx175_1, hx175_2, hl175_2, hi175_2⟩ := at_T25 HR0.out x13_1 p175 q175
                  have hw175_2 := hx175_2
                  have hw175_1 := hx175_1
                  have hw175_0 := hx175_0
                  cases e175
                  replace hx175_0 := (HB.out.cell (World.block_lt_of_cell? w _ hx175_0)).trans hx175_0
                  replace hx175_1 := (HB.out.cell (World.block_lt_of_cell? w _ hx175_1)).trans hx175_1
                  replace hx175_2 := (HB.out.cell (World.block_lt_of_cell? w _ hx175_2)).trans hx175_2
                  have HR175_2 := Aside0.mk hi175_2
                  have HC175_2 := Aside0.mk hl175_2
                  clear hi175_2 hl175_2
                  replace p175 := eq_true p175
                  replace q175 := eq_true q175
                  have p176 : 0 ≤ (x13_1 : Int) := of_decide_eq_true (by first | (with_reducible assumption) | assumption)
                  have q176 : x13_1 < (l1.length : Int) := of_decide_eq_true (by first | (with_reducible assumption) | assumption)
                  obtain ⟨ad176, A176_2, c176_2, e176, hx176_0, hx176_1, hx176_2, hl176_2, hi176_2⟩ := at_T25 HR1.out x13_1 p176 q176
                  have hw176_2 := hx176_2
                  have hw176_1 := hx176_1
                  have hw176_0 := hx176_0
                  cases e176
                  replace hx176_0 := (HB.out.cell (World.block_lt_of_cell? w _ hx176_0)).trans hx176_0
                  replace hx176_1 := (HB.out.cell (World.block_lt_of_cell? w _ hx176_1)).trans hx176_1
                  replace hx176_2 := (HB.out.cell (World.block_lt_of_cell? w _ hx176_2)).trans hx176_2
                  have HR176_2 := Aside0.mk hi176_2
                  have HC176_2 := Aside0.mk hl176_2
                  clear hi176_2 hl176_2
                  replace p176 := eq_true p176
                  replace q176 := eq_true q176
                  refine start_ (n := 10) (S := fun w' => w'.cell? (ad175.add ((x13_1).toNat * 3)) = some (.int .i64 ((rd_T25 l0 x13_1).f0)) ∧ w'.cell? ⟨(ad175.add ((x13_1).toNat * 3)).block, (ad175.add ((x13_1).toNat * 3)).off + 1, none⟩ = some (.int .i64 ((rd_T25 l0 x13_1).f1)) ∧ w'.cell? ⟨(ad175.add ((x13_1).toNat * 3)).block, (ad175.add ((x13_1).toNat * 3)).off + 2, none⟩ = some (.slice A175_2 ((rd_T25 l0 x13_1).f2).length c175_2) ∧ w'.cell? (ad176.add ((x13_1).toNat * 3)) = some (.int .i64 ((rd_T25 l1 x13_1).f0)) ∧ w'.cell? ⟨(ad176.add ((x13_1).toNat * 3)).block, (ad176.add ((x13_1).toNat * 3)).off + 1, none⟩ = some (.int .i64 ((rd_T25 l1 x13_1).f1)) ∧ w'.cell? ⟨(ad176.add ((x13_1).toNat * 3)).block, (ad176.add ((x13_1).toNat * 3)).off + 2, none⟩ = some (.slice A176_2 ((rd_T25 l1 x13_1).f2).length c176_2)) (ds := []) #[false, false, false, false, false, false, false, false, false, false] (by kernel_rfl) rfl rfl ⟨((HB.out.cell (World.block_lt_of_cell? w _ hw175_0)).trans hw175_0), ((HB.out.cell (World.block_lt_of_cell? w _ hw175_1)).trans hw175_1), ((HB.out.cell (World.block_lt_of_cell? w _ hw175_2)).trans hw175_2), ((HB.out.cell (World.block_lt_of_cell? w _ hw176_0)).trans hw176_0), ((HB.out.cell (World.block_lt_of_cell? w _ hw176_1)).trans hw176_1), ((HB.out.cell (World.block_lt_of_cell? w _ hw176_2)).trans hw176_2)⟩ (fun hHeld => ?_); refine with_tabW foghornref14_Same.tab6 foghornref14_Same.bits6 (fun HT_ HW_ => ?_)
                  generalize wr.drew = w10 at HB HR175_2 HR176_2 hx175_0 hx175_1 hx175_2 hx176_0 hx176_1 hx176_2 hHeld ⊢
                  refine pure_ (i := 0) (N := some 16) (v := ?_) (a' := ?_) #[true, false, false, false, false, false, false, false, false, false] rfl rfl (any_of HT_.out (by kernel_rfl)) (fun _ _ _ h => h) (Or.inl ⟨by rfl, ?_⟩) ?_ ?_
                  rotate_left
                  · intro w'
                    go_simp
                    with_reducible rfl
                  rotate_left
                  · simp only [Act.put, List.setIfInBounds_toArray, List.set_cons_zero, List.set_cons_succ, i64_w, i32_w]
                    rfl
                  refine pure_ (i := 1) (N := some 17) (v := ?_) (a' := ?_) #[true, true, false, false, false, false, false, false, false, false] rfl rfl (any_of HT_.out (by kernel_rfl)) (fun _ _ _ h => h) (Or.inl ⟨by rfl, ?_⟩) ?_ ?_
                  rotate_left
                  · intro w'
                    go_simp
                    with_reducible rfl
                  rotate_left
                  · simp only [Act.put, List.setIfInBounds_toArray, List.set_cons_zero, List.set_cons_succ, i64_w, i32_w]
                    rfl
                  refine pure_ (i := 2) (N := some 18) (v := ?_) (a' := ?_) #[true, true, true, false, false, false, false, false, false, false] rfl rfl (any_of HT_.out (by kernel_rfl)) (fun _ _ _ h => h) (Or.inl ⟨by rfl, ?_⟩) ?_ ?_
                  rotate_left
                  · intro w'
                    go_simp
                    with_reducible rfl
                  rotate_left
                  · simp only [Act.put, List.setIfInBounds_toArray, List.set_cons_zero, List.set_cons_succ, i64_w, i32_w]
                    rfl
                  refine pure_ (i := 4) (N := some 20) (v := ?_) (a' := ?_) #[true, true, true, false, true, false, false, false, false, false] rfl rfl (any_of HT_.out (by kernel_rfl)) (fun _ _ _ h => h) (Or.inl ⟨by rfl, ?_⟩) ?_ ?_
                  rotate_left
                  · intro w'
                    go_simp
                    with_reducible rfl
                  rotate_left
                  · simp only [Act.put, List.setIfInBounds_toArray, List.set_cons_zero, List.set_cons_succ, i64_w, i32_w]
                    rfl
                  refine pure_ (i := 5) (N := some 21) (v := ?_) (a' := ?_) #[true, true, true, false, true, true, false, false, false, false] rfl rfl (any_of HT_.out (by kernel_rfl)) (fun _ _ _ h => h) (Or.inl ⟨by rfl, ?_⟩) ?_ ?_
                  rotate_left
                  · intro w'
                    go_simp
                    with_reducible rfl
                  rotate_left
                  · simp only [Act.put, List.setIfInBounds_toArray, List.set_cons_zero, List.set_cons_succ, i64_w, i32_w]
                    rfl
                  refine pure_ (i := 6) (N := some 22) (v := ?_) (a' := ?_) #[true, true, true, false, true, true, true, false, false, false] rfl rfl (any_of HT_.out (by kernel_rfl)) (fun _ _ _ h => h) (Or.inl ⟨by rfl, ?_⟩) ?_ ?_
                  rotate_left
                  · intro w'
                    go_simp
                    with_reducible rfl
                  rotate_left
                  · simp only [Act.put, List.setIfInBounds_toArray, List.set_cons_zero, List.set_cons_succ, i64_w, i32_w]
                    rfl
                  refine take_ (i := 3) (N := some 19) (v := ?_) (a' := ?_) #[true, true, true, true, true, true, true, false, false, false] rfl rfl (take_ofW HT_.out HW_.out (by kernel_rfl)) (fun _ _ _ h => h) (Or.inl ⟨by rfl, ?_⟩) hHeld ?_ ?_
                  rotate_left
                  · rintro w' ⟨s0, s1, s2, s3, s4, s5⟩
                    go_simp
                    with_reducible rfl
                  rotate_left
                  · simp only [Act.put, List.setIfInBounds_toArray, List.set_cons_zero, List.set_cons_succ, i64_w, i32_w]
                    rfl
                  refine take_ (i := 7) (N := some 23) (v := ?_) (a' := ?_) #[true, true, true, true, true, true, true, true, false, false] rfl rfl (take_ofW HT_.out HW_.out (by kernel_rfl)) (fun _ _ _ h => h) (Or.inl ⟨by rfl, ?_⟩) hHeld ?_ ?_
                  rotate_left
                  · rintro w' ⟨s0, s1, s2, s3, s4, s5⟩
                    go_simp
                    with_reducible rfl
                  rotate_left
                  · simp only [Act.put, List.setIfInBounds_toArray, List.set_cons_zero, List.set_cons_succ, i64_w, i32_w]
                    rfl
                  refine one_ (i := 8) (N := some 24) #[true, true, true, true, true, true, true, true, true, false] rfl rfl (one_of HT_.out (by kernel_rfl)) (by decide) (fun K hK => ?_)
                  refine goes_ Try.func63 (by kernel_rfl) rfl #[.agg #[.int .i64 ((rd_T25 l0 x13_1).f0), .int .i64 ((rd_T25 l0 x13_1).f1), .slice A175_2 ((rd_T25 l0 x13_1).f2).length c175_2], .agg #[.int .i64 ((rd_T25 l1 x13_1).f0), .int .i64 ((rd_T25 l1 x13_1).f1), .slice A176_2 ((rd_T25 l1 x13_1).f2).length c176_2]] (by rfl) rfl rfl (by (try simp only [List.map_toArray, List.map_cons, List.map_nil]); first | done | rfl | (simp only [List.length_drop, List.length_take]; rfl)) ?_
                  with_reducible refine (foghornref12_Hushes.calls k1 ((rd_T25 l0 x13_1).f0) ((rd_T25 l0 x13_1).f1) _ _ ((rd_T25 l0 x13_1).f2) ((rd_T25 l1 x13_1).f0) ((rd_T25 l1 x13_1).f1) _ _ ((rd_T25 l1 x13_1).f2) true _ ?side1 ?side2 ?side3 ?side4 A8.out).mono ?_
                  (case side1 => repeat (first | exact (Kd.C_below HR175_2.out HB.out) | (with_reducible refine Kd.C_alloc ?_ _) | (with_reducible refine Kd.C_drewN ?_ _) | (with_reducible refine Kd.C_drew ?_)))
                  (case side2 => exact HC175_2.out)
                  (case side3 => repeat (first | exact (Kd.C_below HR176_2.out HB.out) | (with_reducible refine Kd.C_alloc ?_ _) | (with_reducible refine Kd.C_drewN ?_ _) | (with_reducible refine Kd.C_drew ?_)))
                  (case side4 => exact HC176_2.out)
                  rintro e w11 ⟨rfl, hb⟩
                  refine ⟨_, rfl, ?_⟩
                  have n0_ := Aside0.mk (below_step (by repeat (first | (with_reducible first | exact HB.out | apply below_alloc | apply pw_below_drewN | apply below_drew1) | exact HB.out)) hb)
                  clear HB
                  have HB := n0_
                  clear n0_
                  (try clear hb)
                  (try clear hb2)
                  (try clear hk)
                  (try clear hi)
                  refine hK.out _ _ ⟨((HB.out.cell (World.block_lt_of_cell? w _ hw175_0)).trans hw175_0), ((HB.out.cell (World.block_lt_of_cell? w _ hw175_1)).trans hw175_1), ((HB.out.cell (World.block_lt_of_cell? w _ hw175_2)).trans hw175_2), ((HB.out.cell (World.block_lt_of_cell? w _ hw176_0)).trans hw176_0), ((HB.out.cell (World.block_lt_of_cell? w _ hw176_1)).trans hw176_1), ((HB.out.cell (World.block_lt_of_cell? w _ hw176_2)).trans hw176_2)⟩ (fun hHeld => ?_)
                  clear hK K
                  refine norm_ (a' := ?_) ?_ ?_
                  rotate_left
                  · show Act.put _ (some 24) _ = _
                    simp only [Act.put, List.setIfInBounds_toArray, List.set_cons_zero, List.set_cons_succ, i64_w, i32_w]
                    rfl
                  refine pure_ (i := 9) (N := some 25) (v := ?_) (a' := ?_) #[true, true, true, true, true, true, true, true, true, true] rfl rfl (any_of HT_.out (by kernel_rfl)) (fun _ _ _ h => h) (Or.inl ⟨by rfl, ?_⟩) ?_ ?_
                  rotate_left
                  · intro w'
                    go_simp
                    with_reducible rfl
                  rotate_left
                  · simp only [Act.put, List.setIfInBounds_toArray, List.set_cons_zero, List.set_cons_succ, i64_w, i32_w]
                    rfl
                  refine done_ (done_of HT_.out (by kernel_rfl)) ?_
                  try go_wp2
                  go_roundg k1
                  case measure => have := HK1.out; omega
                  case rel => exact ⟨(wrap64 (x13_1 + 1)), (by first | rfl | (simp; done) | (simp [*]; done)), H', ⟨by have := HK1.out; omega⟩, ⟨by repeat (first | (with_reducible first | exact HB.out | apply below_alloc | apply pw_below_drewN | apply below_drew1) | exact HB.out)⟩⟩
                · replace c9 := Bool.eq_false_iff.mpr c9
                  subst c9
                  have H1 : (some false) = some r := by rw [if_neg (show ¬ (false = true) by decide)] at H; exact H
                  clear H
                  have H := H1
                  clear H1
                  obtain rfl := Option.some.inj H
                  try go_wp2
                  have n0_ := Aside0.mk (below_drew1 HB.out)
                  clear HB
                  have HB := n0_
                  clear n0_
                  have p175 : 0 ≤ (x13_1 : Int) := of_decide_eq_true (by first | (with_reducible assumption) | assumption)
                  have q175 : x13_1 < (l0.length : Int) := of_decide_eq_true (by first | (with_reducible assumption) | assumption)
                  obtain ⟨ad175, A175_2, c175_2, e175, hx175_0, hx175_1, hx175_2, hl175_2, hi175_2⟩ := at_T25 HR0.out x13_1 p175 q175
                  have hw175_2 := hx175_2
                  have hw175_1 := hx175_1
                  have hw175_0 := hx175_0
                  cases e175
                  replace hx175_0 := (HB.out.cell (World.block_lt_of_cell? w _ hx175_0)).trans hx175_0
                  replace hx175_1 := (HB.out.cell (World.block_lt_of_cell? w _ hx175_1)).trans hx175_1
                  replace hx175_2 := (HB.out.cell (World.block_lt_of_cell? w _ hx175_2)).trans hx175_2
                  have HR175_2 := Aside0.mk hi175_2
                  have HC175_2 := Aside0.mk hl175_2
                  clear hi175_2 hl175_2
                  replace p175 := eq_true p175
                  replace q175 := eq_true q175
                  have p176 : 0 ≤ (x13_1 : Int) := of_decide_eq_true (by first | (with_reducible assumption) | assumption)
                  have q176 : x13_1 < (l1.length : Int) := of_decide_eq_true (by first | (with_reducible assumption) | assumption)
                  obtain ⟨ad176, A176_2, c176_2, e176, hx176_0, hx176_1, hx176_2, hl176_2, hi176_2⟩ := at_T25 HR1.out x13_1 p176 q176
                  have hw176_2 := hx176_2
                  have hw176_1 := hx176_1
                  have hw176_0 := hx176_0
                  cases e176
                  replace hx176_0 := (HB.out.cell (World.block_lt_of_cell? w _ hx176_0)).trans hx176_0
                  replace hx176_1 := (HB.out.cell (World.block_lt_of_cell? w _ hx176_1)).trans hx176_1
                  replace hx176_2 := (HB.out.cell (World.block_lt_of_cell? w _ hx176_2)).trans hx176_2
                  have HR176_2 := Aside0.mk hi176_2
                  have HC176_2 := Aside0.mk hl176_2
                  clear hi176_2 hl176_2
                  replace p176 := eq_true p176
                  replace q176 := eq_true q176
                  refine start_ (n := 10) (S := fun w' => w'.cell? (ad175.add ((x13_1).toNat * 3)) = some (.int .i64 ((rd_T25 l0 x13_1).f0)) ∧ w'.cell? ⟨(ad175.add ((x13_1).toNat * 3)).block, (ad175.add ((x13_1).toNat * 3)).off + 1, none⟩ = some (.int .i64 ((rd_T25 l0 x13_1).f1)) ∧ w'.cell? ⟨(ad175.add ((x13_1).toNat * 3)).block, (ad175.add ((x13_1).toNat * 3)).off + 2, none⟩ = some (.slice A175_2 ((rd_T25 l0 x13_1).f2).length c175_2) ∧ w'.cell? (ad176.add ((x13_1).toNat * 3)) = some (.int .i64 ((rd_T25 l1 x13_1).f0)) ∧ w'.cell? ⟨(ad176.add ((x13_1).toNat * 3)).block, (ad176.add ((x13_1).toNat * 3)).off + 1, none⟩ = some (.int .i64 ((rd_T25 l1 x13_1).f1)) ∧ w'.cell? ⟨(ad176.add ((x13_1).toNat * 3)).block, (ad176.add ((x13_1).toNat * 3)).off + 2, none⟩ = some (.slice A176_2 ((rd_T25 l1 x13_1).f2).length c176_2)) (ds := []) #[false, false, false, false, false, false, false, false, false, false] (by kernel_rfl) rfl rfl ⟨((HB.out.cell (World.block_lt_of_cell? w _ hw175_0)).trans hw175_0), ((HB.out.cell (World.block_lt_of_cell? w _ hw175_1)).trans hw175_1), ((HB.out.cell (World.block_lt_of_cell? w _ hw175_2)).trans hw175_2), ((HB.out.cell (World.block_lt_of_cell? w _ hw176_0)).trans hw176_0), ((HB.out.cell (World.block_lt_of_cell? w _ hw176_1)).trans hw176_1), ((HB.out.cell (World.block_lt_of_cell? w _ hw176_2)).trans hw176_2)⟩ (fun hHeld => ?_); refine with_tabW foghornref14_Same.tab6 foghornref14_Same.bits6 (fun HT_ HW_ => ?_)
                  generalize wr.drew = w12 at HB HR175_2 HR176_2 hx175_0 hx175_1 hx175_2 hx176_0 hx176_1 hx176_2 hHeld ⊢
                  refine pure_ (i := 0) (N := some 16) (v := ?_) (a' := ?_) #[true, false, false, false, false, false, false, false, false, false] rfl rfl (any_of HT_.out (by kernel_rfl)) (fun _ _ _ h => h) (Or.inl ⟨by rfl, ?_⟩) ?_ ?_
                  rotate_left
                  · intro w'
                    go_simp
                    with_reducible rfl
                  rotate_left
                  · simp only [Act.put, List.setIfInBounds_toArray, List.set_cons_zero, List.set_cons_succ, i64_w, i32_w]
                    rfl
                  refine pure_ (i := 1) (N := some 17) (v := ?_) (a' := ?_) #[true, true, false, false, false, false, false, false, false, false] rfl rfl (any_of HT_.out (by kernel_rfl)) (fun _ _ _ h => h) (Or.inl ⟨by rfl, ?_⟩) ?_ ?_
                  rotate_left
                  · intro w'
                    go_simp
                    with_reducible rfl
                  rotate_left
                  · simp only [Act.put, List.setIfInBounds_toArray, List.set_cons_zero, List.set_cons_succ, i64_w, i32_w]
                    rfl
                  refine pure_ (i := 2) (N := some 18) (v := ?_) (a' := ?_) #[true, true, true, false, false, false, false, false, false, false] rfl rfl (any_of HT_.out (by kernel_rfl)) (fun _ _ _ h => h) (Or.inl ⟨by rfl, ?_⟩) ?_ ?_
                  rotate_left
                  · intro w'
                    go_simp
                    with_reducible rfl
                  rotate_left
                  · simp only [Act.put, List.setIfInBounds_toArray, List.set_cons_zero, List.set_cons_succ, i64_w, i32_w]
                    rfl
                  refine pure_ (i := 4) (N := some 20) (v := ?_) (a' := ?_) #[true, true, true, false, true, false, false, false, false, false] rfl rfl (any_of HT_.out (by kernel_rfl)) (fun _ _ _ h => h) (Or.inl ⟨by rfl, ?_⟩) ?_ ?_
                  rotate_left
                  · intro w'
                    go_simp
                    with_reducible rfl
                  rotate_left
                  · simp only [Act.put, List.setIfInBounds_toArray, List.set_cons_zero, List.set_cons_succ, i64_w, i32_w]
                    rfl
                  refine pure_ (i := 5) (N := some 21) (v := ?_) (a' := ?_) #[true, true, true, false, true, true, false, false, false, false] rfl rfl (any_of HT_.out (by kernel_rfl)) (fun _ _ _ h => h) (Or.inl ⟨by rfl, ?_⟩) ?_ ?_
                  rotate_left
                  · intro w'
                    go_simp
                    with_reducible rfl
                  rotate_left
                  · simp only [Act.put, List.setIfInBounds_toArray, List.set_cons_zero, List.set_cons_succ, i64_w, i32_w]
                    rfl
                  refine pure_ (i := 6) (N := some 22) (v := ?_) (a' := ?_) #[true, true, true, false, true, true, true, false, false, false] rfl rfl (any_of HT_.out (by kernel_rfl)) (fun _ _ _ h => h) (Or.inl ⟨by rfl, ?_⟩) ?_ ?_
                  rotate_left
                  · intro w'
                    go_simp
                    with_reducible rfl
                  rotate_left
                  · simp only [Act.put, List.setIfInBounds_toArray, List.set_cons_zero, List.set_cons_succ, i64_w, i32_w]
                    rfl
                  refine take_ (i := 3) (N := some 19) (v := ?_) (a' := ?_) #[true, true, true, true, true, true, true, false, false, false] rfl rfl (take_ofW HT_.out HW_.out (by kernel_rfl)) (fun _ _ _ h => h) (Or.inl ⟨by rfl, ?_⟩) hHeld ?_ ?_
                  rotate_left
                  · rintro w' ⟨s0, s1, s2, s3, s4, s5⟩
                    go_simp
                    with_reducible rfl
                  rotate_left
                  · simp only [Act.put, List.setIfInBounds_toArray, List.set_cons_zero, List.set_cons_succ, i64_w, i32_w]
                    rfl
                  refine take_ (i := 7) (N := some 23) (v := ?_) (a' := ?_) #[true, true, true, true, true, true, true, true, false, false] rfl rfl (take_ofW HT_.out HW_.out (by kernel_rfl)) (fun _ _ _ h => h) (Or.inl ⟨by rfl, ?_⟩) hHeld ?_ ?_
                  rotate_left
                  · rintro w' ⟨s0, s1, s2, s3, s4, s5⟩
                    go_simp
                    with_reducible rfl
                  rotate_left
                  · simp only [Act.put, List.setIfInBounds_toArray, List.set_cons_zero, List.set_cons_succ, i64_w, i32_w]
                    rfl
                  refine one_ (i := 8) (N := some 24) #[true, true, true, true, true, true, true, true, true, false] rfl rfl (one_of HT_.out (by kernel_rfl)) (by decide) (fun K hK => ?_)
                  refine goes_ Try.func63 (by kernel_rfl) rfl #[.agg #[.int .i64 ((rd_T25 l0 x13_1).f0), .int .i64 ((rd_T25 l0 x13_1).f1), .slice A175_2 ((rd_T25 l0 x13_1).f2).length c175_2], .agg #[.int .i64 ((rd_T25 l1 x13_1).f0), .int .i64 ((rd_T25 l1 x13_1).f1), .slice A176_2 ((rd_T25 l1 x13_1).f2).length c176_2]] (by rfl) rfl rfl (by (try simp only [List.map_toArray, List.map_cons, List.map_nil]); first | done | rfl | (simp only [List.length_drop, List.length_take]; rfl)) ?_
                  with_reducible refine (foghornref12_Hushes.calls k1 ((rd_T25 l0 x13_1).f0) ((rd_T25 l0 x13_1).f1) _ _ ((rd_T25 l0 x13_1).f2) ((rd_T25 l1 x13_1).f0) ((rd_T25 l1 x13_1).f1) _ _ ((rd_T25 l1 x13_1).f2) false _ ?side1 ?side2 ?side3 ?side4 A8.out).mono ?_
                  (case side1 => repeat (first | exact (Kd.C_below HR175_2.out HB.out) | (with_reducible refine Kd.C_alloc ?_ _) | (with_reducible refine Kd.C_drewN ?_ _) | (with_reducible refine Kd.C_drew ?_)))
                  (case side2 => exact HC175_2.out)
                  (case side3 => repeat (first | exact (Kd.C_below HR176_2.out HB.out) | (with_reducible refine Kd.C_alloc ?_ _) | (with_reducible refine Kd.C_drewN ?_ _) | (with_reducible refine Kd.C_drew ?_)))
                  (case side4 => exact HC176_2.out)
                  rintro e w13 ⟨rfl, hb⟩
                  refine ⟨_, rfl, ?_⟩
                  have n0_ := Aside0.mk (below_step (by repeat (first | (with_reducible first | exact HB.out | apply below_alloc | apply pw_below_drewN | apply below_drew1) | exact HB.out)) hb)
                  clear HB
                  have HB := n0_
                  clear n0_
                  (try clear hb)
                  (try clear hb2)
                  (try clear hk)
                  (try clear hi)
                  refine hK.out _ _ ⟨((HB.out.cell (World.block_lt_of_cell? w _ hw175_0)).trans hw175_0), ((HB.out.cell (World.block_lt_of_cell? w _ hw175_1)).trans hw175_1), ((HB.out.cell (World.block_lt_of_cell? w _ hw175_2)).trans hw175_2), ((HB.out.cell (World.block_lt_of_cell? w _ hw176_0)).trans hw176_0), ((HB.out.cell (World.block_lt_of_cell? w _ hw176_1)).trans hw176_1), ((HB.out.cell (World.block_lt_of_cell? w _ hw176_2)).trans hw176_2)⟩ (fun hHeld => ?_)
                  clear hK K
                  refine norm_ (a' := ?_) ?_ ?_
                  rotate_left
                  · show Act.put _ (some 24) _ = _
                    simp only [Act.put, List.setIfInBounds_toArray, List.set_cons_zero, List.set_cons_succ, i64_w, i32_w]
                    rfl
                  refine pure_ (i := 9) (N := some 25) (v := ?_) (a' := ?_) #[true, true, true, true, true, true, true, true, true, true] rfl rfl (any_of HT_.out (by kernel_rfl)) (fun _ _ _ h => h) (Or.inl ⟨by rfl, ?_⟩) ?_ ?_
                  rotate_left
                  · intro w'
                    go_simp
                    with_reducible rfl
                  rotate_left
                  · simp only [Act.put, List.setIfInBounds_toArray, List.set_cons_zero, List.set_cons_succ, i64_w, i32_w]
                    rfl
                  refine done_ (done_of HT_.out (by kernel_rfl)) ?_
                  try go_wp2
                  go_ret
                  exact ⟨by first | rfl | (simp [errW_none, errW_some] <;> rfl) | (simp [*, errW_none, errW_some] <;> rfl), by repeat (first | (with_reducible first | exact HB.out | apply below_alloc | apply pw_below_drewN | apply below_drew1) | exact HB.out)⟩
              · rw [if_neg c7] at H
                exact absurd H (by simp)
            · rw [if_neg c6] at H
              exact absurd H (by simp)
          · rw [if_neg c5] at H
            exact absurd H (by simp)
        · rw [if_neg c4] at H
          have c4b0 : decide (x13_1 < (l0.length : Int)) = false := decide_eq_false c4
          clear c4
          obtain rfl := Option.some.inj H
          go_wp2
          go_ret
          exact ⟨by first | rfl | (simp [errW_none, errW_some] <;> rfl) | (simp [*, errW_none, errW_some] <;> rfl), by repeat (first | (with_reducible first | exact HB.out | apply below_alloc | apply pw_below_drewN | apply below_drew1) | exact HB.out)⟩
  · rw [if_neg c3] at H
    have c3b0 : ((l0.length : Int) == (l1.length : Int)) = false := beq_eq_false_iff_ne.mpr c3
    have c3b1 : ((l0.length : Int) != (l1.length : Int)) = true := bne_iff_ne.mpr c3
    have c3b2 : (l0.length == l1.length) = false := by first | simpa using c3 | (simp at c3 ⊢; omega)
    obtain rfl := Option.some.inj H
    go_enter Try.func26, Try.ntmps26
    go_wp2
    go_ret
    exact ⟨by first | rfl | (simp [errW_none, errW_some] <;> rfl) | (simp [*, errW_none, errW_some] <;> rfl), by repeat (first | (with_reducible first | exact HB.out | apply below_alloc | apply pw_below_drewN | apply below_drew1) | exact HB.out)⟩
end Go.Proofs.Ytkphinfijppkeaa.G
namespace Go.Proofs.Ytkphinfijppkeaa.G
open Go.RowKit Go.Proofs.YtkphinfijppkeaaW.PrintWords Go.Proofs.YtkphinfijppkeaaW.PrintLast Go.Proofs.YtkphinfijppkeaaW.PrintMore
attribute [local go_sem] max2_int min2_int max_two min_two max_three min_three max_four min_four
def LSz (k : Nat) (x : S92) : Prop := x.f0.size < k ∧ x.f1.size < k ∧ x.f0.size ≤ 9223372036854775807 ∧ x.f1.size ≤ 9223372036854775807
theorem each_l0 (l : List S92) (hl : l.length ≤ 1000) (k : Nat) (hz : ∀ x ∈ l, LSz k x) : ∀ (d K i : Nat), i + d = l.length → k + d < K → (∀ j, (hj : j < l.length) → j < i → labelB l[j] = true) → foghornref10_each.l0 K l l (l.length : Int) (i : Int) = some (eachB l)
  | 0, K + 1, i, hd, hk, ha => by
    rw [foghornref10_each.l0, if_neg (by omega)]
    have : l.all labelB = true := List.all_eq_true.2 fun x hx => by
      obtain ⟨j, hj, rfl⟩ := List.mem_iff_getElem.1 hx
      exact ha j hj (by omega)
    unfold eachB
    rw [this, Bool.and_true]
    by_cases h : 1 ≤ l.length
    · rw [if_pos (by omega), decide_eq_true h, Bool.true_and]
      congr 1
      rw [decide_eq_decide]; omega
    · rw [if_neg (by omega), decide_eq_false h]; rfl
  | d + 1, K + 1, i, hd, hk, ha => by
    have hi : i < l.length := by omega
    have hs := hz _ (List.getElem_mem hi)
    have no : labelB l[i] = false → eachB l = false := fun h => by
      have : l.all labelB = false := by
        rw [List.all_eq_false]
        exact ⟨l[i], List.getElem_mem hi, by simp [h]⟩
      unfold eachB
      rw [this]; simp
    rw [foghornref10_each.l0, if_pos (by omega), if_pos (by omega), if_pos (by omega), rd_get92 l i hi, name_ref _ hs.2.2.1 K (by have := hs.1; omega), value_ref _ hs.2.2.2 K (by have := hs.2.1; omega), Option.bind_some]
    cases h1 : nameB l[i].f0 with
    | false => rw [if_neg (by decide), no (by unfold labelB; rw [h1]; rfl)]
    | true =>
      rw [if_pos rfl, Option.bind_some]
      cases h2 : valueB l[i].f1 with
      | false => rw [if_neg (by decide), no (by unfold labelB; rw [h1, h2]; rfl)]
      | true =>
        rw [if_pos rfl, w64' (by omega) (by omega), show ((i : Int) + 1) = ((i + 1 : Nat) : Int) by omega]
        refine each_l0 l hl k hz d K (i + 1) (by omega) (by omega) (fun j hj hji => ?_)
        by_cases e : j = i
        · subst e; unfold labelB; rw [h1, h2]; rfl
        · exact ha j hj (by omega)
theorem each_ref (l : List S92) (hl : l.length ≤ 1000) (k K : Nat) (hz : ∀ x ∈ l, LSz k x) (hK : k + 1001 ≤ K) : foghornref10_each.f K l = some (eachB l) :=
  each_l0 l hl k hz l.length K 0 (by omega) (by omega) (fun j _ hj => absurd hj (Nat.not_lt_zero _))
theorem cmp_less (a b : ByteArray) : cmpS a b < 0 ↔ Op.bytesLess a.toList b.toList = true := by
  unfold cmpS
  by_cases h : Op.bytesLess a.toList b.toList = true
  · rw [if_pos h]; simp [h]
  · rw [if_neg h]
    split <;> simp [h]
theorem right_l0 (l : List S92) (hl : l.length ≤ 1000) (k : Nat) (hz : ∀ x ∈ l, LSz k x) : ∀ (d K i : Nat), i + d = l.length → k + 1001 + d < K → (∀ j, j + 1 < l.length → j + 1 < i → cmpS (rd_T92 l (j : Nat)).f0 (rd_T92 l ((j + 1 : Nat) : Int)).f0 < 0) → foghornref10_Right.l0 K l l (l.length : Int) (i : Int) = some (rightB l)
  | 0, K + 1, i, hd, hk, ha => by
    rw [foghornref10_Right.l0, if_neg (by omega), each_ref l hl k K hz (by omega), Option.bind_some]
    have : upL l = true := by
      unfold upL
      rw [List.all_eq_true]
      intro j hj
      rw [List.mem_range] at hj
      exact decide_eq_true (ha j (by omega) (by omega))
    unfold rightB
    rw [this, Bool.true_and]
  | d + 1, K + 1, i, hd, hk, ha => by
    have hi : i < l.length := by omega
    have hw : wrap64 ((i : Int) + 1) = ((i + 1 : Nat) : Int) := by rw [w64' (by omega) (by omega)]; omega
    rw [foghornref10_Right.l0, if_pos (by omega), if_pos (by omega), if_pos (by omega), hw]
    by_cases h0 : 0 < i
    · obtain ⟨j, rfl⟩ : ∃ j, i = j + 1 := ⟨i - 1, by omega⟩
      have hw2 : wrap64 (((j + 1 : Nat) : Int) - 1) = (j : Int) := by rw [w64' (by omega) (by omega)]; omega
      rw [if_pos (by omega), hw2, if_pos (by omega), if_pos (by omega)]
      by_cases hc : Op.bytesLess (rd_T92 l (j : Nat)).f0.toList (rd_T92 l ((j + 1 : Nat) : Int)).f0.toList = true
      · rw [if_pos hc]
        refine right_l0 l hl k hz d K (j + 1 + 1) (by omega) (by omega) (fun j' h1 h2 => ?_)
        by_cases e : j' = j
        · subst e; exact (cmp_less _ _).2 hc
        · exact ha j' h1 (by omega)
      · rw [if_neg hc]
        have : upL l = false := by
          unfold upL
          rw [List.all_eq_false]
          refine ⟨j, List.mem_range.2 (by omega), ?_⟩
          rw [decide_eq_true_iff, cmp_less]
          exact hc
        unfold rightB
        rw [this, Bool.false_and]
    · rw [if_neg (by omega)]
      exact right_l0 l hl k hz d K (i + 1) (by omega) (by omega) (fun j' h1 h2 => by omega)
theorem right_ref (l : List S92) (hl : l.length ≤ 1000) (k K : Nat) (hz : ∀ x ∈ l, LSz k x) (hK : k + 2002 ≤ K) : foghornref10_Right.f K l = some (rightB l) :=
  right_l0 l hl k hz l.length K 0 (by omega) (by omega) (fun j _ hj => by omega)
def findB (m : S88) (o : Option S92) : Bool := match o with | none => decide (m.f0 = 1) | some x => askB m.f0.toNat x.f1 m.f2
theorem ask_is (m : S88) (h0 : 0 ≤ m.f0) (h3 : m.f0 ≤ 3) (v : ByteArray) : (if m.f0 ≤ 1 then (some ((v.toList == m.f2.toList) == (m.f0 == 0))) else (if m.f0 = 3 then (some true) else (if (v.size : Int) ≥ (m.f2.size : Int) then (if 0 ≤ (m.f2.size : Int) then (if (m.f2.size : Int) ≤ (v.size : Int) then (some ((v.extract 0 ((m.f2.size : Int) : Int).toNat).toList == m.f2.toList)) else (none)) else (none)) else (some false)))) = some (askB m.f0.toNat v m.f2) := by
  obtain h | h | h | h : m.f0 = 0 ∨ m.f0 = 1 ∨ m.f0 = 2 ∨ m.f0 = 3 := by omega
  · rw [h]; simp [askB]
  · rw [h]; simp [askB, bne]
  · rw [h]
    by_cases hs : m.f2.size ≤ v.size
    · have : (m.f2.size : Int) ≤ (v.size : Int) := by omega
      simp [askB, prefB, hs, this]
    · have : ¬ (m.f2.size : Int) ≤ (v.size : Int) := by omega
      simp [askB, prefB, hs, this]
  · rw [h]; simp [askB]
theorem match_l0 (m : S88) (h0 : 0 ≤ m.f0) (h3 : m.f0 ≤ 3) (l : List S92) (hl : l.length ≤ 1000) : ∀ (d K i : Nat), i + d = l.length → d < K → foghornref10_match.l0 K l (l.length : Int) (i : Int) m.f0 m.f1 m.f2 = some (findB m ((l.drop i).find? (namP m)))
  | 0, K + 1, i, hd, hk => by
    rw [foghornref10_match.l0, if_neg (by omega), List.drop_of_length_le (by omega)]
    simp only [List.find?_nil, findB]
    congr 1
  | d + 1, K + 1, i, hd, hk => by
    have hi : i < l.length := by omega
    rw [foghornref10_match.l0, if_pos (by omega), if_pos (by omega), if_pos (by omega), rd_get92 l i hi, List.drop_eq_getElem_cons hi, List.find?_cons]
    by_cases h : l[i].f0.toList = m.f1.toList
    · rw [if_pos h, ask_is m h0 h3]
      have : namP m l[i] = true := by unfold namP; rw [h]; simp
      rw [this]
      rfl
    · have : namP m l[i] = false := by unfold namP; simpa using h
      rw [if_neg h, this, w64' (by omega) (by omega), show ((i : Int) + 1) = ((i + 1 : Nat) : Int) by omega]
      exact match_l0 m h0 h3 l hl d K (i + 1) (by omega) (by omega)
theorem match_ref (m : S88) (h0 : 0 ≤ m.f0) (h3 : m.f0 ≤ 3) (l : List S92) (hl : l.length ≤ 1000) (K : Nat) (hk : 1000 < K) : foghornref10_match.f K m.f0 m.f1 m.f2 l = some (matchB m l) := by
  have := match_l0 m h0 h3 l hl l.length K 0 (by omega) (by omega)
  unfold foghornref10_match.f
  refine this.trans ?_
  rw [List.drop_zero]
  unfold findB matchB
  rfl
theorem all_l0 (ms : List S88) (hms : ms.length ≤ 1000) (hm : ∀ m ∈ ms, 0 ≤ m.f0 ∧ m.f0 ≤ 3) (l : List S92) (hl : l.length ≤ 1000) : ∀ (d K i : Nat), i + d = ms.length → d + 1001 < K → foghornref10_All.l0 K l ms (ms.length : Int) (i : Int) = some ((ms.drop i).all fun m => matchB m l)
  | 0, K + 1, i, hd, hk => by
    rw [foghornref10_All.l0, if_neg (by omega), List.drop_of_length_le (by omega)]
    rfl
  | d + 1, K + 1, i, hd, hk => by
    have hi : i < ms.length := by omega
    have hk2 := hm _ (List.getElem_mem hi)
    rw [foghornref10_All.l0, if_pos (by omega), if_pos (by omega), if_pos (by omega), rd_get88 ms i hi, match_ref ms[i] hk2.1 hk2.2 l hl K (by omega), Option.bind_some, List.drop_eq_getElem_cons hi, List.all_cons]
    cases h : matchB ms[i] l with
    | false => rfl
    | true =>
      rw [if_pos rfl, Bool.true_and, w64' (by omega) (by omega), show ((i : Int) + 1) = ((i + 1 : Nat) : Int) by omega]
      exact all_l0 ms hms hm l hl d K (i + 1) (by omega) (by omega)
theorem all_ref (ms : List S88) (hms : ms.length ≤ 1000) (hm : ∀ m ∈ ms, 0 ≤ m.f0 ∧ m.f0 ≤ 3) (l : List S92) (hl : l.length ≤ 1000) (K : Nat) (hk : 2002 < K) : foghornref10_All.f K ms l = some (ms.all fun m => matchB m l) :=
  all_l0 ms hms hm l hl ms.length K 0 (by omega) (by omega)
theorem allV_one {m : S88} {L : List S92} (hR : rightB L = true) (hm : matcherB m = true) : allV [m] L = matchB m L := by
  unfold allV allB
  rw [hR]
  simp [hm]
theorem hit_is {h : S25} {L : List S92} (hR : rightB L = true) (hh : hushB h = true) (y : Int) : hitB L y h = (decide (h.f0 ≤ y) && (decide (y < h.f1) && h.f2.all fun m => matchB m L)) := by
  unfold hushB at hh
  simp only [Bool.and_eq_true] at hh
  have hm := hh.2.2.2.2.2
  unfold hitB
  congr 2
  rw [Bool.eq_iff_iff, List.all_eq_true, List.all_eq_true]
  constructor
  · intro k m hx
    have := k m hx
    rwa [allV_one hR (List.all_eq_true.1 hm m hx)] at this
  · intro k m hx
    rw [allV_one hR (List.all_eq_true.1 hm m hx)]
    exact k m hx
theorem hush_kinds {h : S25} (hh : hushB h = true) : h.f2.length ≤ 1000 ∧ ∀ m ∈ h.f2, 0 ≤ m.f0 ∧ m.f0 ≤ 3 := by
  unfold hushB at hh
  simp only [Bool.and_eq_true, decide_eq_true_eq] at hh
  refine ⟨by omega, fun m hm => ?_⟩
  have := List.all_eq_true.1 hh.2.2.2.2.2 m hm
  unfold matcherB at this
  simp only [Bool.and_eq_true, decide_eq_true_eq] at this
  exact ⟨this.1, this.2.1⟩
theorem active_l0 (hs : List S25) (L : List S92) (hR : rightB L = true) (hL : L.length ≤ 1000) (hl : hs.length ≤ 1000) (hh : ∀ h ∈ hs, hushB h = true) (y : Int) : ∀ (d K i : Nat), i + d = hs.length → d + 2003 < K → foghornref14_Active.l0 K L y hs (hs.length : Int) (i : Int) = some ((hs.drop i).any (hitB L y))
  | 0, K + 1, i, hd, hk => by
    rw [foghornref14_Active.l0, if_neg (by omega), List.drop_of_length_le (by omega)]
    rfl
  | d + 1, K + 1, i, hd, hk => by
    have hi : i < hs.length := by omega
    have h1 := hh _ (List.getElem_mem hi)
    have h2 := hush_kinds h1
    have hw : wrap64 ((i : Int) + 1) = ((i + 1 : Nat) : Int) := by rw [w64' (by omega) (by omega)]; omega
    have ih := active_l0 hs L hR hL hl hh y d K (i + 1) (by omega) (by omega)
    rw [foghornref14_Active.l0, if_pos (by omega), if_pos (by omega), if_pos (by omega), rd_get25 hs i hi, hw, ih, all_ref _ h2.1 h2.2 L hL K (by omega), Option.bind_some, List.drop_eq_getElem_cons hi, List.any_cons, hit_is hR h1]
    by_cases c1 : hs[i].f0 ≤ y
    · rw [if_pos c1, decide_eq_true c1]
      by_cases c2 : y < hs[i].f1
      · rw [if_pos c2, decide_eq_true c2]
        cases hs[i].f2.all fun m => matchB m L <;> rfl
      · rw [if_neg c2, decide_eq_false c2]; rfl
    · rw [if_neg c1, decide_eq_false c1]; rfl
theorem any_hushed (hs : List S25) (L : List S92) (y : Int) : hs.any (hitB L y) = true ↔ hushed hs L y := by
  rw [hushed_iff, List.any_eq_true]
theorem active_ref (hs : List S25) (L : List S92) (hR : rightB L = true) (hL : L.length ≤ 1000) (hl : hs.length ≤ 1000) (hh : ∀ h ∈ hs, hushB h = true) (y : Int) (K : Nat) (hk : 3003 < K) : foghornref14_Active.f K hs L y = some (hs.any (hitB L y)) :=
  active_l0 hs L hR hL hl hh y hs.length K 0 (by omega) (by omega)
theorem free_l0 (hs : List S25) (L : List S92) (hR : rightB L = true) (hL : L.length ≤ 1000) (hl : hs.length ≤ 1000) (hh : ∀ h ∈ hs, hushB h = true) (now t : Int) (h1 : now < t) (h2 : ¬ hushed hs L t) (h3 : ∀ y, now ≤ y → y < t → hushed hs L y) (h4 : ∃ h ∈ hs, t = h.f1) : ∀ (d K i : Nat) (out : Int), i + d = hs.length → d + 3004 < K → t ≤ out → (out = t ∨ ∃ h ∈ hs.drop i, t = h.f1) → foghornref14_Free.l0 K hs L now out hs (hs.length : Int) (i : Int) = some t
  | 0, K + 1, i, out, hd, hk, ho, hm => by
    rw [foghornref14_Free.l0, if_neg (by omega)]
    rw [List.drop_of_length_le (by omega)] at hm
    rcases hm with rfl | ⟨h, hx, _⟩
    · rfl
    · simp at hx
  | d + 1, K + 1, i, out, hd, hk, ho, hm => by
    have hi : i < hs.length := by omega
    have hw : wrap64 ((i : Int) + 1) = ((i + 1 : Nat) : Int) := by rw [w64' (by omega) (by omega)]; omega
    rw [foghornref14_Free.l0, if_pos (by omega), if_pos (by omega), if_pos (by omega), rd_get25 hs i hi, hw, active_ref hs L hR hL hl hh _ K (by omega), Option.bind_some]
    rw [List.drop_eq_getElem_cons hi] at hm
    have ih := fun out' => free_l0 hs L hR hL hl hh now t h1 h2 h3 h4 d K (i + 1) out' (by omega) (by omega)
    by_cases c1 : hs[i].f1 > now
    · rw [if_pos c1]
      by_cases c2 : hs[i].f1 < out
      · rw [if_pos c2]
        by_cases c3 : hushed hs L hs[i].f1
        · rw [if_pos ((any_hushed _ _ _).2 c3)]
          refine ih out ho ?_
          rcases hm with hm | ⟨h, hx, hm⟩
          · exact .inl hm
          · rcases List.mem_cons.1 hx with rfl | hx
            · rw [hm] at h2; exact absurd c3 h2
            · exact .inr ⟨h, hx, hm⟩
        · rw [if_neg (fun c => c3 ((any_hushed _ _ _).1 c))]
          have hge : t ≤ hs[i].f1 := by
            by_cases c4 : hs[i].f1 < t
            · exact absurd (h3 _ (by omega) c4) c3
            · omega
          refine ih _ hge ?_
          rcases hm with hm | ⟨h, hx, hm⟩
          · omega
          · rcases List.mem_cons.1 hx with rfl | hx
            · exact .inl hm.symm
            · exact .inr ⟨h, hx, hm⟩
      · rw [if_neg c2]
        refine ih out ho ?_
        rcases hm with hm | ⟨h, hx, hm⟩
        · exact .inl hm
        · rcases List.mem_cons.1 hx with rfl | hx
          · exact .inl (by omega)
          · exact .inr ⟨h, hx, hm⟩
    · rw [if_neg c1]
      refine ih out ho ?_
      rcases hm with hm | ⟨h, hx, hm⟩
      · exact .inl hm
      · rcases List.mem_cons.1 hx with rfl | hx
        · omega
        · exact .inr ⟨h, hx, hm⟩
theorem free_ref (hs : List S25) (L : List S92) (hR : rightB L = true) (hL : L.length ≤ 1000) (hl : hs.length ≤ 1000) (hh : ∀ h ∈ hs, hushB h = true) (now : Int) (K : Nat) (hk : 4005 < K) : foghornref14_Free.f K hs L now = some (freeG hs L (hs.length + 1) now) := by
  obtain ⟨s1, s2, s3, s4⟩ := free_spec hs L (hs.length + 1) now (cnt_lt hs now)
  unfold foghornref14_Free.f
  rw [active_ref hs L hR hL hl hh now K (by omega), Option.bind_some]
  by_cases c : hushed hs L now
  · rw [if_pos ((any_hushed _ _ _).2 c)]
    have hne : freeG hs L (hs.length + 1) now ≠ now := fun e => by rw [e] at s2; exact s2 c
    rcases s4 with s4 | ⟨h, hx, s4⟩
    · exact absurd s4 hne
    · refine free_l0 hs L hR hL hl hh now _ (by omega) s2 s3 ⟨h, hx, s4⟩ hs.length K 0 _ (by omega) (by omega) ?_ (.inr ⟨h, by rw [List.drop_zero]; exact hx, s4⟩)
      rw [s4]
      have := hh h hx
      unfold hushB at this
      simp only [Bool.and_eq_true] at this
      exact ((tm_iff h.f1).1 this.2.1).2
  · rw [if_neg (fun h => c ((any_hushed _ _ _).1 h))]
    rw [free_only (t := now) (Int.le_refl _) c (fun y h1 h2 => by omega)]
theorem asked_l0 (l : List S88) (hl : l.length ≤ 1000) : ∀ (d K i : Nat), i + d = l.length → d < K → foghornref10_Asked.l0 K l l (l.length : Int) (i : Int) = some true
  | 0, K + 1, i, hd, hk => by rw [foghornref10_Asked.l0, if_neg (by omega)]
  | d + 1, K + 1, i, hd, hk => by
    rw [foghornref10_Asked.l0, if_pos (by omega), if_pos (by omega), if_pos (by omega), if_pos (by omega), if_neg (by simp), w64' (by omega) (by omega), show ((i : Int) + 1) = ((i + 1 : Nat) : Int) by omega]
    exact asked_l0 l hl d K (i + 1) (by omega) (by omega)
theorem hushes_same (h : S25) (hl : h.f2.length ≤ 1000) (K : Nat) (hk : 1000 < K) : foghornref12_Hushes.f K h.f0 h.f1 h.f2 h.f0 h.f1 h.f2 = some true := by
  unfold foghornref12_Hushes.f foghornref10_Asked.f
  rw [if_pos rfl, if_pos rfl, if_pos rfl]
  have : foghornref10_Asked.l0 K h.f2 h.f2 (h.f2.length : Int) 0 = some true := asked_l0 h.f2 hl h.f2.length K 0 (by omega) (by omega)
  rw [this]; rfl
theorem same_l0 (l : List S25) (hl : l.length ≤ 1000) (hh : ∀ h ∈ l, h.f2.length ≤ 1000) : ∀ (d K i : Nat), i + d = l.length → d + 1001 < K → foghornref14_Same.l0 K l l (l.length : Int) (i : Int) = some true
  | 0, K + 1, i, hd, hk => by rw [foghornref14_Same.l0, if_neg (by omega)]
  | d + 1, K + 1, i, hd, hk => by
    have hi : i < l.length := by omega
    rw [foghornref14_Same.l0, if_pos (by omega), if_pos (by omega), if_pos (by omega), if_pos (by omega), rd_get25 l i hi, hushes_same _ (hh _ (List.getElem_mem hi)) K (by omega), Option.bind_some, if_pos rfl, w64' (by omega) (by omega), show ((i : Int) + 1) = ((i + 1 : Nat) : Int) by omega]
    exact same_l0 l hl hh d K (i + 1) (by omega) (by omega)
theorem same_ref (l : List S25) (hl : l.length ≤ 1000) (hh : ∀ h ∈ l, h.f2.length ≤ 1000) (K : Nat) (hk : 2002 < K) : foghornref14_Same.f K l l = some true := by
  unfold foghornref14_Same.f
  rw [if_pos rfl]
  exact same_l0 l hl hh l.length K 0 (by omega) (by omega)
theorem reps_raw {sz : Nat} {w : World} {base : Nat} {ok : Nat → Prop} : ∀ {rows : List (List Value)} {inner : List Value}, Reps ((Kd.raw sz).M w base ok) sz rows inner → inner = rows.flatten ∧ ∀ r ∈ rows, r.length = sz ∧ ∀ u ∈ r, u.oneCell' = true
  | [], inner, h => ⟨by have := h.1; simpa using this, by simp⟩
  | c :: r, inner, h => by
    have h0 := h.2 0 c rfl
    rw [Nat.zero_mul, List.drop_zero] at h0
    have e0 : inner.take sz = c := h0.1
    have ih := reps_raw (sz := sz) (w := w) (base := base) (ok := ok) (rows := r) (inner := inner.drop sz) ⟨by rw [List.length_drop, h.1, List.length_cons, Nat.add_mul]; omega, fun j p hp => by
      have := h.2 (j + 1) p (by simpa using hp)
      rw [List.drop_drop]
      rwa [show sz + j * sz = (j + 1) * sz by rw [Nat.add_mul]; omega]⟩
    refine ⟨by rw [List.flatten_cons, ← ih.1, ← e0, List.take_append_drop], fun q hq => ?_⟩
    rcases List.mem_cons.1 hq with rfl | hq
    · have := h0.2
      rw [e0] at this
      exact this
    · exact ih.2 q hq
def Row3 (r : List Value) : Prop := r.length = 3 ∧ ∀ u ∈ r, u.oneCell' = true
theorem flat3_len : ∀ {rs : List (List Value)}, (∀ r ∈ rs, Row3 r) → rs.flatten.length = rs.length * 3
  | [], _ => rfl
  | c :: r, h => by
    rw [List.flatten_cons, List.length_append, flat3_len (fun q hq => h q (List.mem_cons_of_mem _ hq)), (h c List.mem_cons_self).1, List.length_cons]; omega
theorem flat3_get {rest : List Value} : ∀ {rs : List (List Value)} {j : Nat} {r : List Value} {t : Nat} {u : Value}, (∀ r ∈ rs, Row3 r) → rs[j]? = some r → r[t]? = some u → (rs.flatten ++ rest)[j * 3 + t]? = some u
  | [], j, r, t, u, _, hj, _ => by simp at hj
  | c :: rs, 0, r, t, u, h, hj, ht => by
    simp at hj
    subst hj
    rw [Nat.zero_mul, Nat.zero_add, List.flatten_cons, List.append_assoc, List.getElem?_append_left (List.getElem?_eq_some_iff.1 ht).1]
    exact ht
  | c :: rs, j + 1, r, t, u, h, hj, ht => by
    have hc := (h c List.mem_cons_self).1
    rw [List.flatten_cons, List.append_assoc, List.getElem?_append_right (by omega), hc, show (j + 1) * 3 + t - 3 = j * 3 + t by omega]
    exact flat3_get (fun q hq => h q (List.mem_cons_of_mem _ hq)) (by simpa using hj) ht
theorem flat3_patch {rest x : List Value} (hx : x.length = 3) : ∀ {rs : List (List Value)} {i : Nat}, (∀ r ∈ rs, Row3 r) → i < rs.length → Fr.patch (rs.flatten ++ rest) (i * 3) x = (rs.set i x).flatten ++ rest
  | [], i, _, hi => by simp at hi
  | c :: rs, 0, h, _ => by
    have hc := (h c List.mem_cons_self).1
    unfold Fr.patch
    rw [Nat.zero_mul, List.take_zero, List.nil_append, Nat.zero_add, hx, List.flatten_cons, List.append_assoc, List.drop_append_of_le_length (by omega), List.drop_of_length_le (by omega)]
    simp
  | c :: rs, i + 1, h, hi => by
    have hc := (h c List.mem_cons_self).1
    have ih := flat3_patch (rest := rest) hx (rs := rs) (i := i) (fun q hq => h q (List.mem_cons_of_mem _ hq)) (by simpa using hi)
    unfold Fr.patch at ih ⊢
    rw [List.set_cons_succ, List.flatten_cons, List.flatten_cons, List.append_assoc c rs.flatten rest, List.append_assoc c (rs.set i x).flatten rest, ← ih]
    rw [List.take_append, List.take_of_length_le (by omega), hc, show (i + 1) * 3 - 3 = i * 3 by omega]
    rw [List.drop_append, List.drop_of_length_le (by omega), hc, show (i + 1) * 3 + x.length - 3 = i * 3 + x.length by omega]
    simp
section
variable {w0 W : World} {bs : List Fr.Blk}
theorem own_blk {S : Nat → Prop} {v : Value} {rows : List (List Value)} (hF : Fr.Frame w0 W bs [Fr.rowR (Kd.raw 3) 25 w0.heap.size v rows S]) (hp : 0 < rows.length) :
    ∃ g cap rest, v = .slice (some ⟨g, 0, none⟩) rows.length cap ∧ rows.length ≤ cap ∧ cap ≤ maxLen ∧ (rows.flatten ++ rest).length = cap * 3 ∧ (∀ r ∈ rows, Row3 r) ∧ Fr.Frame w0 W ((g, rows.flatten ++ rest, 25) :: bs) [] := by
  have hr := hF.row (Fr.rowR (Kd.raw 3) 25 w0.heap.size v rows S) List.mem_cons_self
  obtain ⟨h1, inner, ⟨h2, h3⟩, h4⟩ := (hr.1 : (Kd.raw 3).R 25 W w0.heap.size S v rows)
  obtain ⟨e, hall⟩ := reps_raw h4
  rcases h3 with ⟨_, h3⟩ | ⟨g, cap, cur, rfl, hg, hh, hn, hc, hs, ht⟩
  · omega
  · have e2 : rows.flatten ++ cur.toList.drop (rows.length * 3) = cur.toList := by
      rw [← e, ← ht]
      exact List.take_append_drop _ _
    refine ⟨g, cap, cur.toList.drop (rows.length * 3), rfl, hn, hc, by rw [e2, Array.length_toList]; exact hs, hall, hF.below, fun b hb => ?_, ?_, by simp⟩
    · rcases List.mem_cons.1 hb with rfl | hb
      · exact ⟨hg, by rw [e2]; exact hh⟩
      · exact hF.blk b hb
    · rw [List.map_cons, List.nodup_cons]
      refine ⟨fun hm => ?_, hF.nodup⟩
      obtain ⟨b, hb, e3⟩ := List.mem_map.1 hm
      exact hr.2.2 b hb (by rw [e3]; exact h1 g rfl)
theorem blk_own {g cap : Nat} {rows : List (List Value)} {rest : List Value} (hF : Fr.Frame w0 W ((g, rows.flatten ++ rest, 25) :: bs) []) (hn : rows.length ≤ cap) (hc : cap ≤ maxLen) (hl : (rows.flatten ++ rest).length = cap * 3) (hall : ∀ r ∈ rows, Row3 r) :
    ∃ S, Fr.Frame w0 W bs [Fr.rowR (Kd.raw 3) 25 w0.heap.size (.slice (some ⟨g, 0, none⟩) rows.length cap) rows S] := by
  obtain ⟨hg, hh⟩ := hF.blk _ List.mem_cons_self
  refine (Fr.Frame.drop hF).rowIn (ok := fun k => k = g) ⟨fun k hk => ?_, rows.flatten, ⟨flat3_len hall, .inr ⟨g, cap, (rows.flatten ++ rest).toArray, rfl, hg, hh, hn, hc, by rw [List.size_toArray]; exact hl, ?_⟩⟩, reps_flat _ _ _ hall⟩ (fun k hk b hb e => ?_)
  · have : g = k := by simpa [Value.ownBlock] using hk
    exact this.symm
  · show List.take (rows.length * 3) _ = _
    rw [← flat3_len hall]
    simp
  · subst hk
    have := (List.nodup_cons.1 hF.nodup).1
    exact this (List.mem_map.2 ⟨b, hb, e.symm⟩)
theorem row3_cells {g j : Nat} {ad : Addr} {rs : List (List Value)} {rest : List Value} {x0 x1 x2 : Value} (hF : Fr.Frame w0 W ((g, rs.flatten ++ rest, 25) :: bs) []) (hga : ∀ m, ad.add m = ⟨g, m, none⟩) (hall : ∀ r ∈ rs, Row3 r) (hj : rs[j]? = some [x0, x1, x2]) :
    W.cell? (ad.add (j * 3)) = some x0 ∧ W.cell? ⟨(ad.add (j * 3)).block, (ad.add (j * 3)).off + 1, none⟩ = some x1 ∧ W.cell? ⟨(ad.add (j * 3)).block, (ad.add (j * 3)).off + 2, none⟩ = some x2 := by
  have hc := fun i => blk_cell (hF.blk _ List.mem_cons_self).2 i
  rw [hga]
  refine ⟨?_, ?_, ?_⟩
  · rw [hc]; have := flat3_get (rest := rest) hall hj (t := 0) rfl; simpa using this
  · rw [hc]; have := flat3_get (rest := rest) hall hj (t := 1) rfl; simpa using this
  · rw [hc]; have := flat3_get (rest := rest) hall hj (t := 2) rfl; simpa using this
end
abbrev RowZ := List (S25 × List Value)
def keepZ (now : Int) (z : RowZ) : RowZ := z.filter fun p => !overP now p.1
structure DI (now : Int) (z : RowZ) (i j : Nat) (rs : List (List Value)) : Prop where
  len : rs.length = z.length
  all : ∀ r ∈ rs, Row3 r
  kept : rs.take i = (keepZ now (z.take j)).map (·.2)
  at_ : i = (keepZ now (z.take j)).length
  rest : rs.drop j = (z.drop j).map (·.2)
  lt : i < j
theorem keepZ_snoc (now : Int) (z : RowZ) (j : Nat) (hj : j < z.length) : keepZ now (z.take (j + 1)) = keepZ now (z.take j) ++ (if overP now z[j].1 = true then [] else [z[j]]) := by
  unfold keepZ
  rw [List.take_succ_eq_append_getElem hj, List.filter_append]
  by_cases h : overP now z[j].1 = true <;> simp [h]
theorem DI.row {now : Int} {z : RowZ} {i j : Nat} {rs : List (List Value)} (h : DI now z i j rs) (hj : j < z.length) : rs[j]? = some z[j].2 := by
  have h1 : (rs.drop j)[0]? = ((z.drop j).map (·.2))[0]? := by rw [h.rest]
  rw [List.getElem?_drop, List.getElem?_map, List.getElem?_drop] at h1
  rw [Nat.add_zero] at h1
  rw [h1, List.getElem?_eq_getElem hj]
  rfl
theorem DI.skip {now : Int} {z : RowZ} {i j : Nat} {rs : List (List Value)} (h : DI now z i j rs) (hj : j < z.length) (ho : overP now z[j].1 = true) : DI now z i (j + 1) rs := by
  have e := keepZ_snoc now z j hj
  rw [if_pos ho, List.append_nil] at e
  refine ⟨h.len, h.all, by rw [e]; exact h.kept, by rw [e]; exact h.at_, ?_, by have := h.lt; omega⟩
  rw [← List.drop_drop, ← List.drop_drop, h.rest]
  simp only [List.map_drop]
theorem DI.move {now : Int} {z : RowZ} {i j : Nat} {rs : List (List Value)} (h : DI now z i j rs) (hj : j < z.length) (ho : overP now z[j].1 = false) (h3 : Row3 z[j].2) : DI now z (i + 1) (j + 1) (rs.set i z[j].2) := by
  have e := keepZ_snoc now z j hj
  rw [if_neg (by simp [ho])] at e
  have hl := h.lt
  have hi : i < rs.length := by rw [h.len]; omega
  refine ⟨by simp [h.len], fun r hr => ?_, ?_, by rw [e, List.length_append, ← h.at_]; rfl, ?_, by omega⟩
  · rcases List.mem_or_eq_of_mem_set hr with hr | rfl
    · exact h.all r hr
    · exact h3
  · rw [e, List.map_append, ← h.kept, List.take_succ_eq_append_getElem (by simpa using hi), List.take_set_of_le (Nat.le_refl _)]
    simp
  · rw [List.drop_set_of_lt (by omega), ← List.drop_drop, h.rest]
    simp only [List.map_drop, List.drop_drop]
theorem DI.start {now : Int} {z : RowZ} {i : Nat} (hi : i < z.length) (hh : overP now z[i].1 = true) (hb : ∀ j (hj : j < i), overP now (z[j]'(by omega)).1 = false) (h3 : ∀ p ∈ z, Row3 p.2) : DI now z i (i + 1) (z.map (·.2)) := by
  have e := keepZ_snoc now z i hi
  rw [if_pos hh, List.append_nil] at e
  have e2 : keepZ now (z.take i) = z.take i := by
    unfold keepZ
    rw [List.filter_eq_self]
    intro p hp
    obtain ⟨j, hj, rfl⟩ := List.mem_iff_getElem.1 hp
    rw [List.length_take] at hj
    rw [List.getElem_take, hb j (by omega)]
    rfl
  refine ⟨by simp, fun r hr => ?_, by rw [e, e2, List.map_take], by rw [e, e2, List.length_take]; omega, by rw [List.map_drop], by omega⟩
  obtain ⟨p, hp, rfl⟩ := List.mem_map.1 hr
  exact h3 p hp
theorem DI.done {now : Int} {z : RowZ} {i j : Nat} {rs : List (List Value)} (h : DI now z i j rs) (hj : z.length ≤ j) : rs.take i = (keepZ now z).map (·.2) ∧ i = (keepZ now z).length := by
  have h1 := h.kept
  have h2 := h.at_
  rw [List.take_of_length_le hj] at h1 h2
  exact ⟨h1, h2⟩
end Go.Proofs.Ytkphinfijppkeaa.G
