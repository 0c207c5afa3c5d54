/- Contracts of functions of the given program, and what they come to, for any arguments. No condition beyond each theorem's own premises. -/
import Derived.Test.YtkphinfijppkeaaXRouteTellsM0
import Derived.Test.YtkphinfijppkeaaXRouteTellsM4
import Derived.Test.YtkphinfijppkeaaXRouteTellsM8
namespace Go.Proofs.Ytkphinfijppkeaa.G
open Go.RowKit Go.Proofs.YtkphinfijppkeaaW.PrintWords Go.Proofs.YtkphinfijppkeaaW.PrintLast Go.Proofs.YtkphinfijppkeaaW.PrintMore
attribute [local go_sem] max2_int min2_int max_two min_two max_three min_three max_four min_four   -- for this text's walks alone
set_option linter.unusedVariables false
set_option linter.unusedSimpArgs false
mutual
def foghornref13_route.l0 : Nat → Int → List Int → Int → Int → List Int → List (S88) → Option (Bool)
  | 0, _, _, _, _, _, _ => none
  | k + 1, x1, x10, x11, x12, x325000, x325001 => if x12 < x11 then (if 0 ≤ x12 then (if x12 < (x10.length : Int) then (if (rd x10 x12) < 0 then (foghornref13_route.j1 k x1 x12 (rd x10 x12) x10 x11 x12 true x325000 x325001) else (foghornref13_route.j1 k x1 x12 (rd x10 x12) x10 x11 x12 (decide ((rd x10 x12) ≥ x1)) x325000 x325001)) else (none)) else (none)) else (if (x325000.length : Int) ≥ 1 then (if (x325000.length : Int) ≤ 4 then ((foghornref10_Matchers.f k x325001).bind fun t325 => (some t325)) else (some false)) else (some false))
def foghornref13_route.j1 : Nat → Int → Int → Int → List Int → Int → Int → Bool → List Int → List (S88) → Option (Bool)
  | 0, _, _, _, _, _, _, _, _, _ => none
  | k + 1, x1, x5, x6, x10, x11, x12, x23, x325000, x325001 => if x23 = true then (some false) else (if 0 ≤ x5 then (if x5 ≤ (x325000.length : Int) then ((some (x325000.take (x5 : Int).toNat : List Int)).bind fun y327 => (foghornref13_route.l1 k x1 x6 x10 x11 x12 y327 (y327.length : Int) 0 x325000 x325001)) else (none)) else (none))
def foghornref13_route.l1 : Nat → Int → Int → List Int → Int → Int → List Int → Int → Int → List Int → List (S88) → Option (Bool)
  | 0, _, _, _, _, _, _, _, _, _, _ => none
  | k + 1, x1, x6, x10, x11, x12, x27, x28, x29, x325000, x325001 => if x29 < x28 then (if 0 ≤ x29 then (if x29 < (x27.length : Int) then (if (rd x27 x29) = x6 then (some false) else (foghornref13_route.l1 k x1 x6 x10 x11 x12 x27 x28 (wrap64 (x29 + 1)) x325000 x325001)) else (none)) else (none)) else (foghornref13_route.l0 k x1 x10 x11 (wrap64 (x12 + 1)) x325000 x325001)
end
def foghornref13_route.f (k : Nat) (l0_0 : List Int) (l0_1 : List (S88)) (a1 : Int) : Option (Bool) := foghornref13_route.l0 k a1 l0_0 (l0_0.length : Int) 0 l0_0 l0_1
set_option maxHeartbeats 8000000 in
set_option maxRecDepth 100000 in
theorem foghornref13_route.calls (k : Nat) (A0_0 : Option Addr) (c0_0 : Nat) (l0_0 : List Int) (A0_1 : Option Addr) (c0_1 : Nat) (l0_1 : List (S88)) (a1 : Int) (r : Bool) (w : World) (hr0_0 : Kd.C (Kd.int .i64) w A0_0 l0_0.length l0_0) (hc0_0 : l0_0.length ≤ c0_0) (hr0_1 : Kd.C k88 w A0_1 l0_1.length l0_1) (hc0_1 : l0_1.length ≤ c0_1) (h : foghornref13_route.f k l0_0 l0_1 a1 = some r) :
    Calls Try.prog 77 #[.agg #[.slice A0_0 l0_0.length c0_0, .slice A0_1 l0_1.length c0_1], .int .i64 a1] w fun e w' => e = .returned (.bool r) ∧ Below w.heap.size w w' := by
  have hu58 := Try.underlying58
  have HR0_0 := Aside0.mk hr0_0
  have HC0_0 := Aside0.mk hc0_0
  clear hr0_0 hc0_0
  have HR0_1 := Aside0.mk hr0_1
  have HC0_1 := Aside0.mk hc0_1
  clear hr0_1 hc0_1
  have HB := Aside0.mk (Below.refl w.heap.size w)
  have H : (foghornref13_route.l0 k a1 l0_0 (l0_0.length : Int) 0 l0_0 l0_1) = some r := h
  clear h
  have H' := Aside0.mk H
  clear H
  go_enter Try.func77, Try.ntmps77
  go_wp2_with (first | ((with_reducible refine gate_dst (N := 2) rfl ?_); (try (refine gate_guard (by rfl) ?_; dsimp only)); refine box_event ?hg (N := 2) ?hd (cs := #[.slice A0_0 l0_0.length c0_0, .slice A0_1 l0_1.length c0_1]) (t := 58) ?hr ?_; (case hd => rfl); (case hg => rfl); (case hr => first | (go_simp; done) | (go_simp; rfl)); intro gb324 hg w3 hbox hb; have n0_ := Aside0.mk (below_step (by repeat (first | (with_reducible first | exact HB.out | apply below_alloc | apply pw_below_drewN | apply below_drew1) | exact HB.out)) hb); have n1_ := Aside0.mk (hbox); have n2_ := Aside0.mk ((by rw [hg]; exact (below_size (by repeat (first | (with_reducible first | exact HB.out | apply below_alloc | apply pw_below_drewN | apply below_drew1) | exact HB.out))) : w.heap.size ≤ gb324)); have n3_ := Aside0.mk ((by rw [hg]; exact (below_size (by repeat (first | (with_reducible first | exact HB.out | apply below_alloc | apply pw_below_drewN | apply below_drew1) | exact HB.out))) : w.heap.size ≤ gb324)); clear HB; have HB := n0_; have BK324 := n1_; have GW324 := n2_; have GE324 := n3_; clear n0_ n1_ n2_ n3_; clear hb hbox hg; have hcz4_0 : w3.cell? ⟨gb324, 0, none⟩ = some (.slice A0_0 l0_0.length c0_0) := (blk_cell BK324.out 0).trans rfl; have hcz4_1 : w3.cell? ⟨gb324, 1, none⟩ = some (.slice A0_1 l0_1.length c0_1) := (blk_cell BK324.out 1).trans rfl; have hfz4_0 := blk_frozen BK324.out 0; have hfz4_1 := blk_frozen BK324.out 1))
  go_loopg [12] k (fun kq v12 w' => ∃ (x12_1 : Int), v12 = .int .i64 x12_1 ∧ Aside0 (foghornref13_route.l0 kq a1 l0_0 (l0_0.length : Int) x12_1 l0_0 l0_1 = some r) ∧ Aside0 (kq ≤ k) ∧ Aside0 (w'.heap[gb324]? = some (.cells #[(.slice A0_0 l0_0.length c0_0), (.slice A0_1 l0_1.length c0_1)] 58 (0, 0))) ∧ Aside0 (Below w.heap.size w w'))
  case atStart => exact ⟨(0), (by first | rfl | (simp; done) | (simp [*]; done)), H', ⟨Nat.le_refl _⟩, ⟨by (with_reducible repeat (first | refine blk_drewN ?_ _ | refine blk_drew ?_ | refine blk_alloc ?_ _)); exact BK324.out⟩, ⟨by repeat (first | (with_reducible first | exact HB.out | apply below_alloc | apply pw_below_drewN | apply below_drew1 | refine below_set ?_ GE324.out) | exact HB.out)⟩⟩
  case round =>
    clear H'
    try clear p2
    try clear hcz4_0
    try clear hcz4_1
    try clear hfz4_0
    try clear hfz4_1
    obtain ⟨x12_1, rfl, HA, HK1, BK324, HB⟩ := hrel
    cases gk with
    | zero => exact absurd HA.out (by simp [foghornref13_route.l0])
    | succ k1 =>
      have H := HA.out
      clear HA
      simp only [foghornref13_route.l0] at H
      by_cases c5 : x12_1 < (l0_0.length : Int)
      · rw [if_pos c5] at H
        have c5b0 : decide (x12_1 < (l0_0.length : Int)) = true := decide_eq_true c5
        clear c5
        by_cases c6 : 0 ≤ x12_1
        · rw [if_pos c6] at H
          have c6b0 : decide (0 ≤ x12_1) = true := decide_eq_true c6
          clear c6
          by_cases c7 : x12_1 < (l0_0.length : Int)
          · rw [if_pos c7] at H
            have c7b0 : decide (x12_1 < (l0_0.length : Int)) = true := decide_eq_true c7
            clear c7
            have HC8 := Aside0.mk H
            clear H
            have p326 : 0 ≤ (x12_1 : Int) := of_decide_eq_true (by first | (with_reducible assumption) | assumption)
            have q326 : x12_1 < (l0_0.length : Int) := of_decide_eq_true (by first | (with_reducible assumption) | assumption)
            obtain ⟨ad326, e326, hx326_0⟩ := Kd.at_int HR0_0.out x12_1 p326 q326
            cases e326
            replace hx326_0 := (HB.out.cell (World.block_lt_of_cell? w _ hx326_0)).trans hx326_0
            replace p326 := eq_true p326
            replace q326 := eq_true q326
            go_upto_region 4 with (fail)
            go_cut [23] (fun v23 wc => ∃ (kq : Nat) (x23_7 : Bool), v23 = .bool x23_7 ∧ Aside0 (foghornref13_route.j1 kq a1 x12_1 (rd l0_0 x12_1) l0_0 (l0_0.length : Int) x12_1 x23_7 l0_0 l0_1 = some r) ∧ Aside0 (kq ≤ k1) ∧ Aside0 (wc.heap[gb324]? = some (.cells #[(.slice (some ad326) l0_0.length c0_0), (.slice A0_1 l0_1.length c0_1)] 58 (0, 0))) ∧ Aside0 (Below w.heap.size w wc))
            case first =>
              have H := HC8.out
              clear HC8
              by_cases c9 : (rd l0_0 x12_1) < 0
              · rw [if_pos c9] at H
                have c9b0 : decide ((rd l0_0 x12_1) < 0) = true := decide_eq_true c9
                clear c9
                (first | rw [c9b0] | (simp only [i64_w, i32_w]; rw [c9b0]) | skip)
                have H' := Aside0.mk H
                clear H
                go_wp2
                go_meet
                case rel => exact ⟨_, (true), (by first | rfl | (simp; done) | (simp [*]; done)), H', ⟨by have := HK1.out; first | omega | exact Nat.le_refl _⟩, ⟨by (with_reducible repeat (first | refine blk_drewN ?_ _ | refine blk_drew ?_ | refine blk_alloc ?_ _)); exact BK324.out⟩, ⟨by repeat (first | (with_reducible first | exact HB.out | apply below_alloc | apply pw_below_drewN | apply below_drew1 | refine below_set ?_ GE324.out) | exact HB.out)⟩⟩
              · rw [if_neg c9] at H
                have c9b0 : decide ((rd l0_0 x12_1) < 0) = false := decide_eq_false c9
                clear c9
                (first | rw [c9b0] | (simp only [i64_w, i32_w]; rw [c9b0]) | skip)
                have H' := Aside0.mk H
                clear H
                go_wp2
                go_meet
                case rel => exact ⟨_, (decide ((rd l0_0 x12_1) ≥ a1)), (by first | rfl | (simp; done) | (simp [*]; done)), H', ⟨by have := HK1.out; first | omega | exact Nat.le_refl _⟩, ⟨by (with_reducible repeat (first | refine blk_drewN ?_ _ | refine blk_drew ?_ | refine blk_alloc ?_ _)); exact BK324.out⟩, ⟨by repeat (first | (with_reducible first | exact HB.out | apply below_alloc | apply pw_below_drewN | apply below_drew1 | refine below_set ?_ GE324.out) | exact HB.out)⟩⟩
            case rest =>
              clear HC8
              try clear p2
              try clear p3
              try clear q3
              try clear hx3
              try clear c5
              try clear c5b0
              try clear c6
              try clear c6b0
              try clear c7
              try clear c7b0
              try clear c9
              try clear c9b0
              try clear hcz4_0
              try clear hcz4_1
              try clear hfz4_0
              try clear hfz4_1
              try clear hx326_0
              try clear p2
              try clear p326
              try clear q326
              obtain ⟨kq, x23_7, rfl, HA, HJ7, BK324, HB⟩ := hcut
              cases kq with
              | zero => exact absurd HA.out (by simp [foghornref13_route.j1])
              | succ kj7 =>
                have H := HA.out
                clear HA
                simp only [foghornref13_route.j1] at H
                by_cases c10 : x23_7 = true
                · subst c10
                  have H1 : (some false) = some r := by rw [if_pos rfl] at H; exact H
                  clear H
                  have H := H1
                  clear H1
                  obtain rfl := Option.some.inj H
                  go_wp2
                  go_ret
                  exact ⟨by first | rfl | (simp [errW_none, errW_some] <;> rfl) | (simp [*, errW_none, errW_some] <;> rfl), by repeat (first | (with_reducible first | exact HB.out | apply below_alloc | apply pw_below_drewN | apply below_drew1 | refine below_set ?_ GE324.out) | exact HB.out)⟩
                · replace c10 := Bool.eq_false_iff.mpr c10
                  subst c10
                  have H1 : (if 0 ≤ x12_1 then (if x12_1 ≤ (l0_0.length : Int) then ((some (l0_0.take (x12_1 : Int).toNat : List Int)).bind fun y327 => (foghornref13_route.l1 kj7 a1 (rd l0_0 x12_1) l0_0 (l0_0.length : Int) x12_1 y327 (y327.length : Int) 0 l0_0 l0_1)) else (none)) else (none)) = some r := by rw [if_neg (show ¬ (false = true) by decide)] at H; exact H
                  clear H
                  have H := H1
                  clear H1
                  by_cases c11 : 0 ≤ x12_1
                  · rw [if_pos c11] at H
                    have c11b0 := eq_true c11
                    have c11b1 : decide (0 ≤ x12_1) = true := decide_eq_true c11
                    clear c11
                    by_cases c12 : x12_1 ≤ (l0_0.length : Int)
                    · rw [if_pos c12] at H
                      have c12b0 := eq_true c12
                      have c12b1 : decide (x12_1 ≤ (l0_0.length : Int)) = true := decide_eq_true c12
                      clear c12
                      obtain ⟨y327, hy327⟩ : ∃ y_ : List Int, y_ = (l0_0.take (x12_1 : Int).toNat) := ⟨_, rfl⟩
                      replace H : (foghornref13_route.l1 kj7 a1 (rd l0_0 x12_1) l0_0 (l0_0.length : Int) x12_1 y327 (y327.length : Int) 0 l0_0 l0_1) = some r := by first | (rw [hy327]; with_reducible exact H) | (have H2_ := (Option.bind_some _ _).symm.trans H; rw [hy327]; with_reducible exact H2_) | (have H2_ := (Option.bind_some _ _).symm.trans H; with_reducible exact H2_) | with_reducible exact H | (rw [hy327]; exact H) | exact H
                      have Ny327 := Aside0.mk hy327
                      clear hy327
                      have H' := Aside0.mk H
                      clear H
                      have hcz13_0 : wc.cell? ⟨gb324, 0, none⟩ = some (.slice (some ad326) l0_0.length c0_0) := (blk_cell BK324.out 0).trans rfl
                      have hcz13_1 : wc.cell? ⟨gb324, 1, none⟩ = some (.slice A0_1 l0_1.length c0_1) := (blk_cell BK324.out 1).trans rfl
                      have hfz13_0 := blk_frozen BK324.out 0
                      have hfz13_1 := blk_frozen BK324.out 1
                      have q14 : (x12_1 : Int) ≤ ((l0_0.length : Int) : Int) := of_decide_eq_true (by first | (with_reducible assumption) | assumption)
                      obtain ⟨i014, hi014, _, hsz14, _⟩ := info_parts info3
                      have hroom14 : l0_0.length ≤ c0_0 := HC0_0.out
                      have hC14 : Kd.C (Kd.int .i64) _ (some ad326) l0_0.length l0_0 := HR0_0.out
                      have hcut14 := cut_to (P := Try.prog) 56 3 .i64 Try.underlying56 hi014 (some ad326) l0_0.length c0_0 x12_1 (of_decide_eq_true (by first | (with_reducible assumption) | assumption)) q14 hroom14
                      have hr14 := Kd.C_take (m := (x12_1 : Int).toNat) hC14 (by omega)
                      have hy14 : y327.length = (x12_1 : Int).toNat := (by rw [Ny327.out, List.length_take]; omega)
                      rw [← Ny327.out] at hr14
                      rw [← hy14] at hcut14
                      have HR330 := Aside0.mk hr14
                      have HC330 := Aside0.mk (show y327.length ≤ c0_0 from by omega)
                      clear hr14 hC14 hroom14 hi014 hsz14
                      have KY14 := Aside0.mk hy14
                      clear hy14
                      replace q14 := eq_true q14
                      go_wp2
                      go_loopg [29] kj7 (fun kq v29 w' => ∃ (x29_3 : Int), v29 = .int .i64 x29_3 ∧ Aside0 (foghornref13_route.l1 kq a1 (rd l0_0 x12_1) l0_0 (l0_0.length : Int) x12_1 y327 (y327.length : Int) x29_3 l0_0 l0_1 = some r) ∧ Aside0 (kq ≤ kj7) ∧ Aside0 (w'.heap[gb324]? = some (.cells #[(.slice (some ad326) l0_0.length c0_0), (.slice A0_1 l0_1.length c0_1)] 58 (0, 0))) ∧ Aside0 (Below w.heap.size w w'))
                      case atStart => exact ⟨(0), (by first | rfl | (simp; done) | (simp [*]; done)), H', ⟨Nat.le_refl _⟩, ⟨by (with_reducible repeat (first | refine blk_drewN ?_ _ | refine blk_drew ?_ | refine blk_alloc ?_ _)); exact BK324.out⟩, ⟨by repeat (first | (with_reducible first | exact HB.out | apply below_alloc | apply pw_below_drewN | apply below_drew1 | refine below_set ?_ GE324.out) | exact HB.out)⟩⟩
                      case round =>
                        clear H'
                        try clear c1
                        try clear q1
                        try clear p2
                        try clear p3
                        try clear q3
                        try clear hx3
                        try clear c5
                        try clear c5b0
                        try clear c6
                        try clear c6b0
                        try clear c7
                        try clear c7b0
                        try clear c9
                        try clear c9b0
                        try clear c10
                        try clear c11
                        try clear c11b0
                        try clear c11b1
                        try clear c12
                        try clear c12b0
                        try clear c12b1
                        try clear q14
                        try clear hcz13_0
                        try clear hcz13_1
                        try clear hcz4_0
                        try clear hcz4_1
                        try clear hfz13_0
                        try clear hfz13_1
                        try clear hfz4_0
                        try clear hfz4_1
                        try clear hx326_0
                        try clear p2
                        try clear p3
                        try clear p326
                        try clear q14
                        try clear q3
                        try clear q326
                        obtain ⟨x29_3, rfl, HA, HK3, BK324, HB⟩ := hrel
                        cases gk with
                        | zero => exact absurd HA.out (by simp [foghornref13_route.l1])
                        | succ k3 =>
                          have H := HA.out
                          clear HA
                          simp only [foghornref13_route.l1] at H
                          by_cases c15 : x29_3 < (y327.length : Int)
                          · rw [if_pos c15] at H
                            have c15b0 : decide (x29_3 < (y327.length : Int)) = true := decide_eq_true c15
                            clear c15
                            by_cases c16 : 0 ≤ x29_3
                            · rw [if_pos c16] at H
                              have c16b0 : decide (0 ≤ x29_3) = true := decide_eq_true c16
                              clear c16
                              by_cases c17 : x29_3 < (y327.length : Int)
                              · rw [if_pos c17] at H
                                have c17b0 : decide (x29_3 < (y327.length : Int)) = true := decide_eq_true c17
                                clear c17
                                by_cases c18 : (rd y327 x29_3) = (rd l0_0 x12_1)
                                · rw [if_pos c18] at H
                                  have c18b0 : ((rd y327 x29_3) == (rd l0_0 x12_1)) = true := beq_iff_eq.mpr c18
                                  have c18b1 : ((rd y327 x29_3) != (rd l0_0 x12_1)) = false := bne_eq_false_iff_eq.mpr c18
                                  clear c18
                                  obtain rfl := Option.some.inj H
                                  have p331 : 0 ≤ (x29_3 : Int) := of_decide_eq_true (by first | (with_reducible assumption) | assumption)
                                  have q331 : x29_3 < (y327.length : Int) := of_decide_eq_true (by first | (with_reducible assumption) | assumption)
                                  obtain ⟨ad331, e331, hx331_0⟩ := Kd.at_int HR330.out x29_3 p331 q331
                                  obtain rfl : ad326 = ad331 := (by injection e331)
                                  replace hx331_0 := (HB.out.cell (World.block_lt_of_cell? w _ hx331_0)).trans hx331_0
                                  replace p331 := eq_true p331
                                  replace q331 := eq_true q331
                                  go_wp2
                                  go_ret
                                  exact ⟨by first | rfl | (simp [errW_none, errW_some] <;> rfl) | (simp [*, errW_none, errW_some] <;> rfl), by repeat (first | (with_reducible first | exact HB.out | apply below_alloc | apply pw_below_drewN | apply below_drew1 | refine below_set ?_ GE324.out) | exact HB.out)⟩
                                · rw [if_neg c18] at H
                                  have c18b0 : ((rd y327 x29_3) == (rd l0_0 x12_1)) = false := beq_eq_false_iff_ne.mpr c18
                                  have c18b1 : ((rd y327 x29_3) != (rd l0_0 x12_1)) = true := bne_iff_ne.mpr c18
                                  have H' := Aside0.mk H
                                  clear H
                                  have p331 : 0 ≤ (x29_3 : Int) := of_decide_eq_true (by first | (with_reducible assumption) | assumption)
                                  have q331 : x29_3 < (y327.length : Int) := of_decide_eq_true (by first | (with_reducible assumption) | assumption)
                                  obtain ⟨ad331, e331, hx331_0⟩ := Kd.at_int HR330.out x29_3 p331 q331
                                  obtain rfl : ad326 = ad331 := (by injection e331)
                                  replace hx331_0 := (HB.out.cell (World.block_lt_of_cell? w _ hx331_0)).trans hx331_0
                                  replace p331 := eq_true p331
                                  replace q331 := eq_true q331
                                  go_wp2
                                  go_roundg k3
                                  case measure => have := HK1.out; have := HJ7.out; have := HK3.out; omega
                                  case rel => exact ⟨(wrap64 (x29_3 + 1)), (by first | rfl | (simp; done) | (simp [*]; done)), H', ⟨by have := HK1.out; have := HJ7.out; have := HK3.out; omega⟩, ⟨by (with_reducible repeat (first | refine blk_drewN ?_ _ | refine blk_drew ?_ | refine blk_alloc ?_ _)); exact BK324.out⟩, ⟨by repeat (first | (with_reducible first | exact HB.out | apply below_alloc | apply pw_below_drewN | apply below_drew1 | refine below_set ?_ GE324.out) | exact HB.out)⟩⟩
                              · rw [if_neg c17] at H
                                exact absurd H (by simp)
                            · rw [if_neg c16] at H
                              exact absurd H (by simp)
                          · rw [if_neg c15] at H
                            have c15b0 : decide (x29_3 < (y327.length : Int)) = false := decide_eq_false c15
                            clear c15
                            have H' := Aside0.mk H
                            clear H
                            go_wp2
                            go_roundg k3
                            case measure => have := HK1.out; have := HJ7.out; have := HK3.out; omega
                            case rel => exact ⟨(wrap64 (x12_1 + 1)), (by first | rfl | (simp; done) | (simp [*]; done)), H', ⟨by have := HK1.out; have := HJ7.out; have := HK3.out; omega⟩, ⟨by (with_reducible repeat (first | refine blk_drewN ?_ _ | refine blk_drew ?_ | refine blk_alloc ?_ _)); exact BK324.out⟩, ⟨by repeat (first | (with_reducible first | exact HB.out | apply below_alloc | apply pw_below_drewN | apply below_drew1 | refine below_set ?_ GE324.out) | exact HB.out)⟩⟩
                    · rw [if_neg c12] at H
                      exact absurd H (by simp)
                  · rw [if_neg c11] at H
                    exact absurd H (by simp)
          · rw [if_neg c7] at H
            exact absurd H (by simp)
        · rw [if_neg c6] at H
          exact absurd H (by simp)
      · rw [if_neg c5] at H
        have c5b0 : decide (x12_1 < (l0_0.length : Int)) = false := decide_eq_false c5
        clear c5
        by_cases c19 : (l0_0.length : Int) ≥ 1
        · rw [if_pos c19] at H
          have c19b0 : decide (1 ≤ (l0_0.length : Int)) = true := decide_eq_true c19
          have c19b1 : decide (1 ≤ l0_0.length) = true := decide_eq_true (by omega)
          clear c19
          by_cases c20 : (l0_0.length : Int) ≤ 4
          · rw [if_pos c20] at H
            have c20b0 : decide ((l0_0.length : Int) ≤ 4) = true := decide_eq_true c20
            have c20b1 : decide (l0_0.length ≤ 4) = true := decide_eq_true (by omega)
            clear c20
            replace H := Option.bind_eq_some_iff.mp H
            obtain ⟨t325, A210, H⟩ := H
            replace H : (some t325) = some r := H
            have A21 := Aside0.mk A210
            clear A210
            obtain rfl := Option.some.inj H
            have hcz22_0 : wr.cell? ⟨gb324, 0, none⟩ = some (.slice A0_0 l0_0.length c0_0) := (blk_cell BK324.out 0).trans rfl
            have hcz22_1 : wr.cell? ⟨gb324, 1, none⟩ = some (.slice A0_1 l0_1.length c0_1) := (blk_cell BK324.out 1).trans rfl
            have hfz22_0 := blk_frozen BK324.out 0
            have hfz22_1 := blk_frozen BK324.out 1
            go_wp2_with (first | (go_at_call 62; (with_reducible refine (foghornref10_Matchers.calls k1 _ _ l0_1 t325 _ ?side1 ?side2 A21.out).mono ?_); (case side1 => repeat (first | exact (Kd.C_below HR0_1.out HB.out) | (with_reducible refine Kd.C_alloc ?_ _) | (with_reducible refine Kd.C_drewN ?_ _) | (with_reducible refine Kd.C_drew ?_))); (case side2 => exact HC0_1.out); rintro e w23 ⟨rfl, hb⟩; have n0_ := Aside0.mk (blk_below (g := gb324) (o := .cells #[.slice A0_0 l0_0.length c0_0, .slice A0_1 l0_1.length c0_1] 58 (0, 0)) (by (with_reducible repeat (first | refine blk_drewN ?_ _ | refine blk_drew ?_ | refine blk_alloc ?_ _)); exact BK324.out) hb); have n1_ := Aside0.mk (below_step (by repeat (first | (with_reducible first | exact HB.out | apply below_alloc | apply pw_below_drewN | apply below_drew1 | refine below_set ?_ GE324.out) | exact HB.out)) hb); clear BK324; clear HB; have BK324 := n0_; have HB := n1_; clear n0_ n1_; (try clear hb); (try clear hb2); (try clear hk); (try clear hi)))
            go_ret
            exact ⟨by first | rfl | (simp [errW_none, errW_some] <;> rfl) | (simp [*, errW_none, errW_some] <;> rfl), by repeat (first | (with_reducible first | exact HB.out | apply below_alloc | apply pw_below_drewN | apply below_drew1 | refine below_set ?_ GE324.out) | exact HB.out)⟩
          · rw [if_neg c20] at H
            have c20b0 : decide ((l0_0.length : Int) ≤ 4) = false := decide_eq_false c20
            have c20b1 : decide (l0_0.length ≤ 4) = false := decide_eq_false (by omega)
            clear c20
            obtain rfl := Option.some.inj H
            have hcz24_0 : wr.cell? ⟨gb324, 0, none⟩ = some (.slice A0_0 l0_0.length c0_0) := (blk_cell BK324.out 0).trans rfl
            have hcz24_1 : wr.cell? ⟨gb324, 1, none⟩ = some (.slice A0_1 l0_1.length c0_1) := (blk_cell BK324.out 1).trans rfl
            have hfz24_0 := blk_frozen BK324.out 0
            have hfz24_1 := blk_frozen BK324.out 1
            go_wp2
            go_ret
            exact ⟨by first | rfl | (simp [errW_none, errW_some] <;> rfl) | (simp [*, errW_none, errW_some] <;> rfl), by repeat (first | (with_reducible first | exact HB.out | apply below_alloc | apply pw_below_drewN | apply below_drew1 | refine below_set ?_ GE324.out) | exact HB.out)⟩
        · rw [if_neg c19] at H
          have c19b0 : decide (1 ≤ (l0_0.length : Int)) = false := decide_eq_false c19
          have c19b1 : decide (1 ≤ l0_0.length) = false := decide_eq_false (by omega)
          clear c19
          obtain rfl := Option.some.inj H
          have hcz25_0 : wr.cell? ⟨gb324, 0, none⟩ = some (.slice A0_0 l0_0.length c0_0) := (blk_cell BK324.out 0).trans rfl
          have hcz25_1 : wr.cell? ⟨gb324, 1, none⟩ = some (.slice A0_1 l0_1.length c0_1) := (blk_cell BK324.out 1).trans rfl
          have hfz25_0 := blk_frozen BK324.out 0
          have hfz25_1 := blk_frozen BK324.out 1
          go_wp2
          go_ret
          exact ⟨by first | rfl | (simp [errW_none, errW_some] <;> rfl) | (simp [*, errW_none, errW_some] <;> rfl), by repeat (first | (with_reducible first | exact HB.out | apply below_alloc | apply pw_below_drewN | apply below_drew1 | refine below_set ?_ GE324.out) | exact HB.out)⟩
def foghornref13_often.f (a0 : Int) : Option (Bool) := if a0 ≥ 1 then (some (decide (a0 ≤ 1073741824))) else (some false)
set_option maxHeartbeats 8000000 in
set_option maxRecDepth 100000 in
theorem foghornref13_often.calls (a0 : Int) (r : Bool) (w : World) (h : foghornref13_often.f a0 = some r) :
    Calls Try.prog 78 #[.int .i64 a0] w fun e w' => e = .returned (.bool r) ∧ Drawn0 w w' := by
  have H : (if a0 ≥ 1 then (some (decide (a0 ≤ 1073741824))) else (some false)) = some r := h
  clear h
  by_cases c2 : a0 ≥ 1
  · rw [if_pos c2] at H
    have c2b0 : decide (1 ≤ a0) = true := decide_eq_true c2
    clear c2
    obtain rfl := Option.some.inj H
    go_enter Try.func78, Try.ntmps78
    go_wp2
    go_ret
    exact ⟨by first | rfl | (simp; done) | (simp [*]; done), by repeat (first | exact Drawn0.refl _ | apply Drawn0.step)⟩
  · rw [if_neg c2] at H
    have c2b0 : decide (1 ≤ a0) = false := decide_eq_false c2
    clear c2
    obtain rfl := Option.some.inj H
    go_enter Try.func78, Try.ntmps78
    go_wp2
    go_ret
    exact ⟨by first | rfl | (simp; done) | (simp [*]; done), by repeat (first | exact Drawn0.refl _ | apply Drawn0.step)⟩
mutual
def foghornref13_Right.l0 : Nat → List (S76) → Int → Int → List (S76) → List (S58) → Int → Int → Option (Bool)
  | 0, _, _, _, _, _, _, _ => none
  | k + 1, x8, x9, x10, x333000, x333001, x333002, x333003 => if x10 < x9 then (if 0 ≤ x10 then (if x10 < (x8.length : Int) then ((foghornref13_receiver.f k ((rd_T76 x8 x10).f0) ((rd_T76 x8 x10).f1.f0) ((rd_T76 x8 x10).f1.f1) ((rd_T76 x8 x10).f1.f2) ((rd_T76 x8 x10).f2) ((rd_T76 x8 x10).f3) ((rd_T76 x8 x10).f4) ((rd_T76 x8 x10).f5) ((rd_T76 x8 x10).f6)).bind fun t335 => (if t335 = true then (if x10 ≤ (x333000.length : Int) then ((foghornref13_place.f k (x333000.take (x10 : Int).toNat) ((rd_T76 x8 x10).f0)).bind fun t340 => (if t340 ≥ 0 then (some false) else (foghornref13_Right.l0 k x8 x9 (wrap64 (x10 + 1)) x333000 x333001 x333002 x333003))) else (none)) else (some false))) else (none)) else (none)) else (foghornref13_Right.l1 k x333001 (x333001.length : Int) 0 x333000 x333001 x333002 x333003)
def foghornref13_Right.l1 : Nat → List (S58) → Int → Int → List (S76) → List (S58) → Int → Int → Option (Bool)
  | 0, _, _, _, _, _, _, _ => none
  | k + 1, x30, x31, x32, x333000, x333001, x333002, x333003 => if x32 < x31 then (if 0 ≤ x32 then (if x32 < (x30.length : Int) then ((foghornref13_route.f k ((rd_T58 x30 x32).f0) ((rd_T58 x30 x32).f1) (x333000.length : Int)).bind fun t343 => (if t343 = true then (foghornref13_Right.l1 k x30 x31 (wrap64 (x32 + 1)) x333000 x333001 x333002 x333003) else (some false))) else (none)) else (none)) else (if (x333000.length : Int) ≥ 1 then (if (x333000.length : Int) ≤ 4 then (if (x333001.length : Int) ≥ 1 then (if (x333001.length : Int) ≤ 4 then ((foghornref13_often.f x333002).bind fun t344 => (if t344 = true then ((foghornref13_often.f x333003).bind fun t345 => (some t345)) else (some false))) else (some false)) else (some false)) else (some false)) else (some false))
end
def foghornref13_Right.f (k : Nat) (l0_0 : List (S76)) (l0_1 : List (S58)) (a0_2 : Int) (a0_3 : Int) : Option (Bool) := foghornref13_Right.l0 k l0_0 (l0_0.length : Int) 0 l0_0 l0_1 a0_2 a0_3
def foghornref13_Right.T4 : Bool × List (List Nat × List Nat) := (true, [([], []), ([0], [0]), ([1], [1]), ([2, 1], [2]), ([3], [3]), ([4, 3], [3, 4]), ([3], [3]), ([5, 6, 3], [3, 5, 6]), ([3], [3]), ([8, 3], [3, 8]), ([7, 9, 3, 3], [3, 7, 9]), ([10, 3], [3, 10]), ([3, 11], [3, 11])])
def foghornref13_Right.B4 : List Nat := [0, 1, 3, 7, 15, 31, 15, 127, 15, 271, 1023, 2047, 4095]
theorem foghornref13_Right.tab4 : rtab .any (opsOf Try.f37 4) = foghornref13_Right.T4 := by kernel_rfl
theorem foghornref13_Right.bits4 : waitsOk foghornref13_Right.T4.2 foghornref13_Right.B4 = true := by kernel_rfl
set_option maxHeartbeats 8000000 in
set_option maxRecDepth 100000 in
theorem foghornref13_Right.calls (k : Nat) (A0_0 : Option Addr) (c0_0 : Nat) (l0_0 : List (S76)) (A0_1 : Option Addr) (c0_1 : Nat) (l0_1 : List (S58)) (a0_2 : Int) (a0_3 : Int) (r : Bool) (w : World) (hr0_0 : Kd.C k76 w A0_0 l0_0.length l0_0) (hc0_0 : l0_0.length ≤ c0_0) (hr0_1 : Kd.C k58 w A0_1 l0_1.length l0_1) (hc0_1 : l0_1.length ≤ c0_1) (h : foghornref13_Right.f k l0_0 l0_1 a0_2 a0_3 = some r) :
    Calls Try.prog 37 #[.agg #[.slice A0_0 l0_0.length c0_0, .slice A0_1 l0_1.length c0_1, .int .i64 a0_2, .int .i64 a0_3]] w fun e w' => e = .returned (.bool r) ∧ Below w.heap.size w w' := by
  have hu53 := Try.underlying53
  have hu76 := Try.underlying76
  have hu58 := Try.underlying58
  have HR0_0 := Aside0.mk hr0_0
  have HC0_0 := Aside0.mk hc0_0
  clear hr0_0 hc0_0
  have HR0_1 := Aside0.mk hr0_1
  have HC0_1 := Aside0.mk hc0_1
  clear hr0_1 hc0_1
  have HB := Aside0.mk (Below.refl w.heap.size w)
  have H : (foghornref13_Right.l0 k l0_0 (l0_0.length : Int) 0 l0_0 l0_1 a0_2 a0_3) = some r := h
  clear h
  have H' := Aside0.mk H
  clear H
  go_enter Try.func37, Try.ntmps37
  go_wp2_with (first | ((with_reducible refine gate_dst (N := 1) rfl ?_); (try (refine gate_guard (by rfl) ?_; dsimp only)); refine box_event ?hg (N := 1) ?hd (cs := #[.slice A0_0 l0_0.length c0_0, .slice A0_1 l0_1.length c0_1, .int .i64 a0_2, .int .i64 a0_3]) (t := 53) ?hr ?_; (case hd => rfl); (case hg => rfl); (case hr => first | (go_simp; done) | (go_simp; rfl)); intro gb332 hg w2 hbox hb; have n0_ := Aside0.mk (below_step (by repeat (first | (with_reducible first | exact HB.out | apply below_alloc | apply pw_below_drewN | apply below_drew1) | exact HB.out)) hb); have n1_ := Aside0.mk (hbox); have n2_ := Aside0.mk ((by rw [hg]; exact (below_size (by repeat (first | (with_reducible first | exact HB.out | apply below_alloc | apply pw_below_drewN | apply below_drew1) | exact HB.out))) : w.heap.size ≤ gb332)); have n3_ := n2_; clear HB; have HB := n0_; have BK332 := n1_; have GW332 := n2_; have GE332 := n3_; clear n0_ n1_ n2_ n3_; clear hb hbox hg; obtain ⟨hcz3_0, hcz3_1, hcz3_2, hcz3_3⟩ := cells_4 BK332.out; obtain ⟨hfz3_0, hfz3_1, hfz3_2, hfz3_3⟩ := froz_4 BK332.out))
  go_loopg [10] k (fun kq v10 w' => ∃ (x10_1 : Int), v10 = .int .i64 x10_1 ∧ Aside0 (foghornref13_Right.l0 kq l0_0 (l0_0.length : Int) x10_1 l0_0 l0_1 a0_2 a0_3 = some r) ∧ Aside0 (kq ≤ k) ∧ Aside0 (w'.heap[gb332]? = some (.cells #[(.slice A0_0 l0_0.length c0_0), (.slice A0_1 l0_1.length c0_1), .int .i64 a0_2, .int .i64 a0_3] 53 (0, 0))) ∧ Aside0 (Below w.heap.size w w'))
  case atStart => exact ⟨(0), (by first | rfl | (simp; done) | (simp [*]; done)), H', ⟨Nat.le_refl _⟩, ⟨by (with_reducible repeat (first | refine blk_drewN ?_ _ | refine blk_drew ?_ | refine blk_alloc ?_ _)); exact BK332.out⟩, ⟨by repeat (first | (with_reducible first | exact HB.out | apply below_alloc | apply pw_below_drewN | apply below_drew1 | refine below_set ?_ GE332.out) | exact HB.out)⟩⟩
  case round =>
    clear H'
    try clear p2
    try clear c3
    try clear hcz3_0
    try clear hcz3_1
    try clear hcz3_2
    try clear hcz3_3
    try clear hfz3_0
    try clear hfz3_1
    try clear hfz3_2
    try clear hfz3_3
    obtain ⟨x10_1, rfl, HA, HK1, BK332, HB⟩ := hrel
    cases gk with
    | zero => exact absurd HA.out (by simp [foghornref13_Right.l0])
    | succ k1 =>
      have H := HA.out
      clear HA
      simp only [foghornref13_Right.l0] at H
      by_cases c4 : x10_1 < (l0_0.length : Int)
      · rw [if_pos c4] at H
        have c4b0 : decide (x10_1 < (l0_0.length : Int)) = true := decide_eq_true c4
        clear c4
        by_cases c5 : 0 ≤ x10_1
        · rw [if_pos c5] at H
          have c5b0 : decide (0 ≤ x10_1) = true := decide_eq_true c5
          clear c5
          by_cases c6 : x10_1 < (l0_0.length : Int)
          · rw [if_pos c6] at H
            have c6b0 : decide (x10_1 < (l0_0.length : Int)) = true := decide_eq_true c6
            clear c6
            replace H := Option.bind_eq_some_iff.mp H
            obtain ⟨t335, A70, H⟩ := H
            replace H : (if t335 = true then (if x10_1 ≤ (l0_0.length : Int) then ((foghornref13_place.f k1 (l0_0.take (x10_1 : Int).toNat) ((rd_T76 l0_0 x10_1).f0)).bind fun t340 => (if t340 ≥ 0 then (some false) else (foghornref13_Right.l0 k1 l0_0 (l0_0.length : Int) (wrap64 (x10_1 + 1)) l0_0 l0_1 a0_2 a0_3))) else (none)) else (some false)) = some r := H
            have A7 := Aside0.mk A70
            clear A70
            by_cases c8 : t335 = true
            · subst c8
              have H1 : (if x10_1 ≤ (l0_0.length : Int) then ((foghornref13_place.f k1 (l0_0.take (x10_1 : Int).toNat) ((rd_T76 l0_0 x10_1).f0)).bind fun t340 => (if t340 ≥ 0 then (some false) else (foghornref13_Right.l0 k1 l0_0 (l0_0.length : Int) (wrap64 (x10_1 + 1)) l0_0 l0_1 a0_2 a0_3))) else (none)) = some r := by rw [if_pos rfl] at H; exact H
              clear H
              have H := H1
              clear H1
              have c9b0 := eq_true (of_decide_eq_true (by first | (with_reducible assumption) | assumption) : 0 ≤ x10_1)
              by_cases c10 : x10_1 ≤ (l0_0.length : Int)
              · rw [if_pos c10] at H
                have c10b0 := eq_true c10
                have c10b1 : decide (x10_1 ≤ (l0_0.length : Int)) = true := decide_eq_true c10
                clear c10
                obtain ⟨y336, hy336⟩ : ∃ y_ : List (S76), y_ = (l0_0.take (x10_1 : Int).toNat) := ⟨_, rfl⟩
                replace H : ((foghornref13_place.f k1 y336 ((rd_T76 l0_0 x10_1).f0)).bind fun t340 => (if t340 ≥ 0 then (some false) else (foghornref13_Right.l0 k1 l0_0 (l0_0.length : Int) (wrap64 (x10_1 + 1)) l0_0 l0_1 a0_2 a0_3))) = some r := by first | (rw [hy336]; with_reducible exact H) | (have H2_ := (Option.bind_some _ _).symm.trans H; rw [hy336]; with_reducible exact H2_) | (have H2_ := (Option.bind_some _ _).symm.trans H; with_reducible exact H2_) | with_reducible exact H | (rw [hy336]; exact H) | exact H
                have Ny336 := Aside0.mk hy336
                clear hy336
                replace H := Option.bind_eq_some_iff.mp H
                obtain ⟨t340, A110, H⟩ := H
                replace H : (if t340 ≥ 0 then (some false) else (foghornref13_Right.l0 k1 l0_0 (l0_0.length : Int) (wrap64 (x10_1 + 1)) l0_0 l0_1 a0_2 a0_3)) = some r := H
                have A11 := Aside0.mk A110
                clear A110
                by_cases c12 : t340 ≥ 0
                · rw [if_pos c12] at H
                  have c12b0 : decide (0 ≤ t340) = true := decide_eq_true c12
                  clear c12
                  obtain rfl := Option.some.inj H
                  have p333 : 0 ≤ (x10_1 : Int) := of_decide_eq_true (by first | (with_reducible assumption) | assumption)
                  have q333 : x10_1 < (l0_0.length : Int) := of_decide_eq_true (by first | (with_reducible assumption) | assumption)
                  obtain ⟨ad333, e333, hx333_0, hx333_1, hx333_2, hx333_3, hx333_4, hx333_5, hx333_6, hx333_7, hx333_8⟩ := at_T76 HR0_0.out x10_1 p333 q333
                  cases e333
                  replace hx333_0 := (HB.out.cell (World.block_lt_of_cell? w _ hx333_0)).trans hx333_0
                  replace hx333_1 := (HB.out.cell (World.block_lt_of_cell? w _ hx333_1)).trans hx333_1
                  replace hx333_2 := (HB.out.cell (World.block_lt_of_cell? w _ hx333_2)).trans hx333_2
                  replace hx333_3 := (HB.out.cell (World.block_lt_of_cell? w _ hx333_3)).trans hx333_3
                  replace hx333_4 := (HB.out.cell (World.block_lt_of_cell? w _ hx333_4)).trans hx333_4
                  replace hx333_5 := (HB.out.cell (World.block_lt_of_cell? w _ hx333_5)).trans hx333_5
                  replace hx333_6 := (HB.out.cell (World.block_lt_of_cell? w _ hx333_6)).trans hx333_6
                  replace hx333_7 := (HB.out.cell (World.block_lt_of_cell? w _ hx333_7)).trans hx333_7
                  replace hx333_8 := (HB.out.cell (World.block_lt_of_cell? w _ hx333_8)).trans hx333_8
                  replace p333 := eq_true p333
                  replace q333 := eq_true q333
                  try go_wp2_with (first | ((with_reducible refine gate_dst (N := 4) rfl ?_); (try (refine gate_guard (by rfl) ?_; dsimp only)); refine box_event ?hg (N := 4) ?hd (cs := #[.string (⟨#[]⟩ : ByteArray), .int .i64 0, .int .i64 0, .int .i64 0, .int .i64 0, .int .i64 0, .int .i64 0, .int .i64 0, .int .i64 0]) (t := 76) ?hr ?_; (case hd => rfl); (case hg => rfl); (case hr => first | (go_simp; done) | (go_simp; rfl)); intro gb334 hg w13 hbox hb; have n0_ := Aside0.mk (blk_below (g := gb332) (o := .cells #[.slice (some ad333) l0_0.length c0_0, .slice A0_1 l0_1.length c0_1, .int .i64 a0_2, .int .i64 a0_3] 53 (0, 0)) (by (with_reducible repeat (first | refine blk_drewN ?_ _ | refine blk_drew ?_ | refine blk_alloc ?_ _)); exact BK332.out) hb); have n1_ := Aside0.mk (below_step (by repeat (first | (with_reducible first | exact HB.out | apply below_alloc | apply pw_below_drewN | apply below_drew1 | refine below_set ?_ GE332.out) | exact HB.out)) hb); have n2_ := Aside0.mk (hbox); have n3_ := Aside0.mk ((by rw [hg]; exact (below_size (by repeat (first | (with_reducible first | exact HB.out | apply below_alloc | apply pw_below_drewN | apply below_drew1 | refine below_set ?_ GE332.out) | exact HB.out))) : w.heap.size ≤ gb334)); have n4_ := n3_; have n5_ := Aside0.mk ((by rw [hg]; exact Nat.ne_of_lt (blk_lt (g := gb332) (o := .cells #[.slice (some ad333) l0_0.length c0_0, .slice A0_1 l0_1.length c0_1, .int .i64 a0_2, .int .i64 a0_3] 53 (0, 0)) (by (with_reducible repeat (first | refine blk_drewN ?_ _ | refine blk_drew ?_ | refine blk_alloc ?_ _)); exact BK332.out)) : gb332 ≠ gb334)); have n6_ := Aside0.mk ((by rw [hg]; exact Nat.ne_of_gt (blk_lt (g := gb332) (o := .cells #[.slice (some ad333) l0_0.length c0_0, .slice A0_1 l0_1.length c0_1, .int .i64 a0_2, .int .i64 a0_3] 53 (0, 0)) (by (with_reducible repeat (first | refine blk_drewN ?_ _ | refine blk_drew ?_ | refine blk_alloc ?_ _)); exact BK332.out)) : gb334 ≠ gb332)); clear BK332; clear HB; have BK332 := n0_; have HB := n1_; have BK334 := n2_; have GW334 := n3_; have GE334 := n4_; have NB332_334 := n5_; have NB334_332 := n6_; clear n0_ n1_ n2_ n3_ n4_ n5_ n6_; clear hb hbox hg; have hnb14 := NB334_332.out; have hnc14 := NB332_334.out; obtain ⟨hcz15_0, hcz15_1, hcz15_2, hcz15_3, hcz15_4, hcz15_5, hcz15_6, hcz15_7, hcz15_8⟩ := cells_9 BK334.out; obtain ⟨hfz15_0, hfz15_1, hfz15_2, hfz15_3, hfz15_4, hfz15_5, hfz15_6, hfz15_7, hfz15_8⟩ := froz_9 BK334.out))
                  have n0_ : Aside0 ((((((((((w13.setCell ⟨gb334, 0, none⟩ (.string ((rd_T76 l0_0 x10_1).f0))).setCell ⟨gb334, 1, none⟩ (.int .i64 ((rd_T76 l0_0 x10_1).f1.f0))).setCell ⟨gb334, 2, none⟩ (.int .i64 ((rd_T76 l0_0 x10_1).f1.f1))).setCell ⟨gb334, 3, none⟩ (.int .i64 ((rd_T76 l0_0 x10_1).f1.f2))).setCell ⟨gb334, 4, none⟩ (.int .i64 ((rd_T76 l0_0 x10_1).f2))).setCell ⟨gb334, 5, none⟩ (.int .i64 ((rd_T76 l0_0 x10_1).f3))).setCell ⟨gb334, 6, none⟩ (.int .i64 ((rd_T76 l0_0 x10_1).f4))).setCell ⟨gb334, 7, none⟩ (.int .i64 ((rd_T76 l0_0 x10_1).f5))).setCell ⟨gb334, 8, none⟩ (.int .i64 ((rd_T76 l0_0 x10_1).f6))).heap[gb332]? = some (.cells #[.slice (some ad333) l0_0.length c0_0, .slice A0_1 l0_1.length c0_1, .int .i64 a0_2, .int .i64 a0_3] 53 (0, 0))) := ⟨by (repeat (first | (with_reducible first | refine blk_drewN ?_ _ | refine blk_drew ?_ | refine blk_alloc ?_ _) | refine blk_far ?_ NB332_334.out _)); exact BK332.out⟩
                  have n1_ : Aside0 ((((((((((w13.setCell ⟨gb334, 0, none⟩ (.string ((rd_T76 l0_0 x10_1).f0))).setCell ⟨gb334, 1, none⟩ (.int .i64 ((rd_T76 l0_0 x10_1).f1.f0))).setCell ⟨gb334, 2, none⟩ (.int .i64 ((rd_T76 l0_0 x10_1).f1.f1))).setCell ⟨gb334, 3, none⟩ (.int .i64 ((rd_T76 l0_0 x10_1).f1.f2))).setCell ⟨gb334, 4, none⟩ (.int .i64 ((rd_T76 l0_0 x10_1).f2))).setCell ⟨gb334, 5, none⟩ (.int .i64 ((rd_T76 l0_0 x10_1).f3))).setCell ⟨gb334, 6, none⟩ (.int .i64 ((rd_T76 l0_0 x10_1).f4))).setCell ⟨gb334, 7, none⟩ (.int .i64 ((rd_T76 l0_0 x10_1).f5))).setCell ⟨gb334, 8, none⟩ (.int .i64 ((rd_T76 l0_0 x10_1).f6))).heap[gb334]? = some (.cells #[.string ((rd_T76 l0_0 x10_1).f0), .int .i64 ((rd_T76 l0_0 x10_1).f1.f0), .int .i64 ((rd_T76 l0_0 x10_1).f1.f1), .int .i64 ((rd_T76 l0_0 x10_1).f1.f2), .int .i64 ((rd_T76 l0_0 x10_1).f2), .int .i64 ((rd_T76 l0_0 x10_1).f3), .int .i64 ((rd_T76 l0_0 x10_1).f4), .int .i64 ((rd_T76 l0_0 x10_1).f5), .int .i64 ((rd_T76 l0_0 x10_1).f6)] 76 (0, 0))) := ⟨by (with_reducible repeat (first | refine blk_drewN ?_ _ | refine blk_drew ?_ | refine blk_alloc ?_ _)); refine blk_put (cs := #[.string ((rd_T76 l0_0 x10_1).f0), .int .i64 ((rd_T76 l0_0 x10_1).f1.f0), .int .i64 ((rd_T76 l0_0 x10_1).f1.f1), .int .i64 ((rd_T76 l0_0 x10_1).f1.f2), .int .i64 ((rd_T76 l0_0 x10_1).f2), .int .i64 ((rd_T76 l0_0 x10_1).f3), .int .i64 ((rd_T76 l0_0 x10_1).f4), .int .i64 ((rd_T76 l0_0 x10_1).f5), .int .i64 0]) ?_ 8 _ rfl; (with_reducible repeat (first | refine blk_drewN ?_ _ | refine blk_drew ?_ | refine blk_alloc ?_ _)); refine blk_put (cs := #[.string ((rd_T76 l0_0 x10_1).f0), .int .i64 ((rd_T76 l0_0 x10_1).f1.f0), .int .i64 ((rd_T76 l0_0 x10_1).f1.f1), .int .i64 ((rd_T76 l0_0 x10_1).f1.f2), .int .i64 ((rd_T76 l0_0 x10_1).f2), .int .i64 ((rd_T76 l0_0 x10_1).f3), .int .i64 ((rd_T76 l0_0 x10_1).f4), .int .i64 0, .int .i64 0]) ?_ 7 _ rfl; (with_reducible repeat (first | refine blk_drewN ?_ _ | refine blk_drew ?_ | refine blk_alloc ?_ _)); refine blk_put (cs := #[.string ((rd_T76 l0_0 x10_1).f0), .int .i64 ((rd_T76 l0_0 x10_1).f1.f0), .int .i64 ((rd_T76 l0_0 x10_1).f1.f1), .int .i64 ((rd_T76 l0_0 x10_1).f1.f2), .int .i64 ((rd_T76 l0_0 x10_1).f2), .int .i64 ((rd_T76 l0_0 x10_1).f3), .int .i64 0, .int .i64 0, .int .i64 0]) ?_ 6 _ rfl; (with_reducible repeat (first | refine blk_drewN ?_ _ | refine blk_drew ?_ | refine blk_alloc ?_ _)); refine blk_put (cs := #[.string ((rd_T76 l0_0 x10_1).f0), .int .i64 ((rd_T76 l0_0 x10_1).f1.f0), .int .i64 ((rd_T76 l0_0 x10_1).f1.f1), .int .i64 ((rd_T76 l0_0 x10_1).f1.f2), .int .i64 ((rd_T76 l0_0 x10_1).f2), .int .i64 0, .int .i64 0, .int .i64 0, .int .i64 0]) ?_ 5 _ rfl; (with_reducible repeat (first | refine blk_drewN ?_ _ | refine blk_drew ?_ | refine blk_alloc ?_ _)); refine blk_put (cs := #[.string ((rd_T76 l0_0 x10_1).f0), .int .i64 ((rd_T76 l0_0 x10_1).f1.f0), .int .i64 ((rd_T76 l0_0 x10_1).f1.f1), .int .i64 ((rd_T76 l0_0 x10_1).f1.f2), .int .i64 0, .int .i64 0, .int .i64 0, .int .i64 0, .int .i64 0]) ?_ 4 _ rfl; (with_reducible repeat (first | refine blk_drewN ?_ _ | refine blk_drew ?_ | refine blk_alloc ?_ _)); refine blk_put (cs := #[.string ((rd_T76 l0_0 x10_1).f0), .int .i64 ((rd_T76 l0_0 x10_1).f1.f0), .int .i64 ((rd_T76 l0_0 x10_1).f1.f1), .int .i64 0, .int .i64 0, .int .i64 0, .int .i64 0, .int .i64 0, .int .i64 0]) ?_ 3 _ rfl; (with_reducible repeat (first | refine blk_drewN ?_ _ | refine blk_drew ?_ | refine blk_alloc ?_ _)); refine blk_put (cs := #[.string ((rd_T76 l0_0 x10_1).f0), .int .i64 ((rd_T76 l0_0 x10_1).f1.f0), .int .i64 0, .int .i64 0, .int .i64 0, .int .i64 0, .int .i64 0, .int .i64 0, .int .i64 0]) ?_ 2 _ rfl; (with_reducible repeat (first | refine blk_drewN ?_ _ | refine blk_drew ?_ | refine blk_alloc ?_ _)); refine blk_put (cs := #[.string ((rd_T76 l0_0 x10_1).f0), .int .i64 0, .int .i64 0, .int .i64 0, .int .i64 0, .int .i64 0, .int .i64 0, .int .i64 0, .int .i64 0]) ?_ 1 _ rfl; (with_reducible repeat (first | refine blk_drewN ?_ _ | refine blk_drew ?_ | refine blk_alloc ?_ _)); refine blk_put (cs := #[.string (⟨#[]⟩ : ByteArray), .int .i64 0, .int .i64 0, .int .i64 0, .int .i64 0, .int .i64 0, .int .i64 0, .int .i64 0, .int .i64 0]) ?_ 0 _ rfl; (with_reducible repeat (first | refine blk_drewN ?_ _ | refine blk_drew ?_ | refine blk_alloc ?_ _)); exact BK334.out⟩
                  have n2_ : Aside0 (Below w.heap.size w (((((((((w13.setCell ⟨gb334, 0, none⟩ (.string ((rd_T76 l0_0 x10_1).f0))).setCell ⟨gb334, 1, none⟩ (.int .i64 ((rd_T76 l0_0 x10_1).f1.f0))).setCell ⟨gb334, 2, none⟩ (.int .i64 ((rd_T76 l0_0 x10_1).f1.f1))).setCell ⟨gb334, 3, none⟩ (.int .i64 ((rd_T76 l0_0 x10_1).f1.f2))).setCell ⟨gb334, 4, none⟩ (.int .i64 ((rd_T76 l0_0 x10_1).f2))).setCell ⟨gb334, 5, none⟩ (.int .i64 ((rd_T76 l0_0 x10_1).f3))).setCell ⟨gb334, 6, none⟩ (.int .i64 ((rd_T76 l0_0 x10_1).f4))).setCell ⟨gb334, 7, none⟩ (.int .i64 ((rd_T76 l0_0 x10_1).f5))).setCell ⟨gb334, 8, none⟩ (.int .i64 ((rd_T76 l0_0 x10_1).f6)))) := ⟨by repeat (first | (with_reducible first | exact HB.out | apply below_alloc | apply pw_below_drewN | apply below_drew1 | refine below_set ?_ GE332.out | refine below_set ?_ GE334.out) | exact HB.out)⟩
                  (try clear BK332)
                  (try clear BK334)
                  (try clear HB)
                  generalize (((((((((w13.setCell ⟨gb334, 0, none⟩ (.string ((rd_T76 l0_0 x10_1).f0))).setCell ⟨gb334, 1, none⟩ (.int .i64 ((rd_T76 l0_0 x10_1).f1.f0))).setCell ⟨gb334, 2, none⟩ (.int .i64 ((rd_T76 l0_0 x10_1).f1.f1))).setCell ⟨gb334, 3, none⟩ (.int .i64 ((rd_T76 l0_0 x10_1).f1.f2))).setCell ⟨gb334, 4, none⟩ (.int .i64 ((rd_T76 l0_0 x10_1).f2))).setCell ⟨gb334, 5, none⟩ (.int .i64 ((rd_T76 l0_0 x10_1).f3))).setCell ⟨gb334, 6, none⟩ (.int .i64 ((rd_T76 l0_0 x10_1).f4))).setCell ⟨gb334, 7, none⟩ (.int .i64 ((rd_T76 l0_0 x10_1).f5))).setCell ⟨gb334, 8, none⟩ (.int .i64 ((rd_T76 l0_0 x10_1).f6))) = w16 at n0_ n1_ n2_ ⊢
                  have BK332 := n0_
                  have BK334 := n1_
                  have HB := n2_
                  clear n0_ n1_ n2_
                  have n0_ := Aside0.mk (blk_drew BK332.out)
                  have n1_ := Aside0.mk (blk_drew BK334.out)
                  have n2_ := Aside0.mk (below_drew1 HB.out)
                  clear BK332
                  clear BK334
                  clear HB
                  have BK332 := n0_
                  have BK334 := n1_
                  have HB := n2_
                  clear n0_ n1_ n2_
                  refine start_ (n := 13) (S := fun w' => w'.cell? ⟨gb334, 0, none⟩ = some (.string ((rd_T76 l0_0 x10_1).f0)) ∧ w'.cell? ⟨gb334, 1, none⟩ = some (.int .i64 ((rd_T76 l0_0 x10_1).f1.f0)) ∧ w'.cell? ⟨gb334, 2, none⟩ = some (.int .i64 ((rd_T76 l0_0 x10_1).f1.f1)) ∧ w'.cell? ⟨gb334, 3, none⟩ = some (.int .i64 ((rd_T76 l0_0 x10_1).f1.f2)) ∧ w'.cell? ⟨gb334, 4, none⟩ = some (.int .i64 ((rd_T76 l0_0 x10_1).f2)) ∧ w'.cell? ⟨gb334, 5, none⟩ = some (.int .i64 ((rd_T76 l0_0 x10_1).f3)) ∧ w'.cell? ⟨gb334, 6, none⟩ = some (.int .i64 ((rd_T76 l0_0 x10_1).f4)) ∧ w'.cell? ⟨gb334, 7, none⟩ = some (.int .i64 ((rd_T76 l0_0 x10_1).f5)) ∧ w'.cell? ⟨gb334, 8, none⟩ = some (.int .i64 ((rd_T76 l0_0 x10_1).f6)) ∧ w'.cell? ⟨gb332, 0, none⟩ = some (.slice (some ad333) l0_0.length c0_0) ∧ w'.cell? ⟨gb332, 1, none⟩ = some (.slice A0_1 l0_1.length c0_1) ∧ w'.cell? ⟨gb332, 2, none⟩ = some (.int .i64 a0_2) ∧ w'.cell? ⟨gb332, 3, none⟩ = some (.int .i64 a0_3)) (ds := []) #[false, false, false, false, false, false, false, false, false, false, false, false, false] (by kernel_rfl) rfl rfl ⟨(blk_cell BK334.out 0).trans rfl, (blk_cell BK334.out 1).trans rfl, (blk_cell BK334.out 2).trans rfl, (blk_cell BK334.out 3).trans rfl, (blk_cell BK334.out 4).trans rfl, (blk_cell BK334.out 5).trans rfl, (blk_cell BK334.out 6).trans rfl, (blk_cell BK334.out 7).trans rfl, (blk_cell BK334.out 8).trans rfl, (blk_cell BK332.out 0).trans rfl, (blk_cell BK332.out 1).trans rfl, (blk_cell BK332.out 2).trans rfl, (blk_cell BK332.out 3).trans rfl⟩ (fun hHeld => ?_); refine with_tabW foghornref13_Right.tab4 foghornref13_Right.bits4 (fun HT_ HW_ => ?_)
                  generalize w16.drew = w17 at BK332 BK334 HB hHeld ⊢
                  refine take_ (i := 0) (N := some 15) (v := ?_) (a' := ?_) #[true, false, false, false, false, false, false, false, false, false, false, false, false] rfl rfl (take_ofW HT_.out HW_.out (by kernel_rfl)) (fun _ _ _ h => h) (Or.inl ⟨by rfl, ?_⟩) hHeld ?_ ?_
                  rotate_left
                  · rintro w' ⟨s0, s1, s2, s3, s4, s5, s6, s7, s8, s9, s10, s11, s12⟩
                    go_simp
                    with_reducible rfl
                  rotate_left
                  · simp only [Act.put, List.setIfInBounds_toArray, List.set_cons_zero, List.set_cons_succ, i64_w, i32_w]
                    rfl
                  refine one_ (i := 1) (N := some 16) #[true, true, false, false, false, false, false, false, false, false, false, false, false] rfl rfl (one_of HT_.out (by kernel_rfl)) (by decide) (fun K hK => ?_)
                  refine goes_ Try.func75 (by kernel_rfl) rfl #[.agg #[.string ((rd_T76 l0_0 x10_1).f0), .int .i64 ((rd_T76 l0_0 x10_1).f1.f0), .int .i64 ((rd_T76 l0_0 x10_1).f1.f1), .int .i64 ((rd_T76 l0_0 x10_1).f1.f2), .int .i64 ((rd_T76 l0_0 x10_1).f2), .int .i64 ((rd_T76 l0_0 x10_1).f3), .int .i64 ((rd_T76 l0_0 x10_1).f4), .int .i64 ((rd_T76 l0_0 x10_1).f5), .int .i64 ((rd_T76 l0_0 x10_1).f6)]] (by rfl) rfl rfl (by (try simp only [List.map_toArray, List.map_cons, List.map_nil]); first | done | rfl | (simp only [List.length_drop, List.length_take]; rfl)) ?_
                  with_reducible refine (foghornref13_receiver.calls k1 ((rd_T76 l0_0 x10_1).f0) ((rd_T76 l0_0 x10_1).f1.f0) ((rd_T76 l0_0 x10_1).f1.f1) ((rd_T76 l0_0 x10_1).f1.f2) ((rd_T76 l0_0 x10_1).f2) ((rd_T76 l0_0 x10_1).f3) ((rd_T76 l0_0 x10_1).f4) ((rd_T76 l0_0 x10_1).f5) ((rd_T76 l0_0 x10_1).f6) true _ A7.out).mono ?_
                  rintro e w18 ⟨rfl, hb⟩
                  refine ⟨_, rfl, ?_⟩
                  have n0_ := Aside0.mk (blk_below (g := gb332) (o := .cells #[.slice (some ad333) l0_0.length c0_0, .slice A0_1 l0_1.length c0_1, .int .i64 a0_2, .int .i64 a0_3] 53 (0, 0)) (by (with_reducible repeat (first | refine blk_drewN ?_ _ | refine blk_drew ?_ | refine blk_alloc ?_ _)); exact BK332.out) hb)
                  have n1_ := Aside0.mk (blk_below (g := gb334) (o := .cells #[.string ((rd_T76 l0_0 x10_1).f0), .int .i64 ((rd_T76 l0_0 x10_1).f1.f0), .int .i64 ((rd_T76 l0_0 x10_1).f1.f1), .int .i64 ((rd_T76 l0_0 x10_1).f1.f2), .int .i64 ((rd_T76 l0_0 x10_1).f2), .int .i64 ((rd_T76 l0_0 x10_1).f3), .int .i64 ((rd_T76 l0_0 x10_1).f4), .int .i64 ((rd_T76 l0_0 x10_1).f5), .int .i64 ((rd_T76 l0_0 x10_1).f6)] 76 (0, 0)) (by (with_reducible repeat (first | refine blk_drewN ?_ _ | refine blk_drew ?_ | refine blk_alloc ?_ _)); exact BK334.out) hb)
                  have n2_ := Aside0.mk (below_step (by repeat (first | (with_reducible first | exact HB.out | apply below_alloc | apply pw_below_drewN | apply below_drew1 | refine below_set ?_ GE332.out | refine below_set ?_ GE334.out) | exact HB.out)) hb)
                  clear BK332
                  clear BK334
                  clear HB
                  have BK332 := n0_
                  have BK334 := n1_
                  have HB := n2_
                  clear n0_ n1_ n2_
                  (try clear hb)
                  (try clear hb2)
                  (try clear hk)
                  (try clear hi)
                  have q19 : (x10_1 : Int) ≤ ((l0_0.length : Int) : Int) := of_decide_eq_true (by first | (with_reducible assumption) | assumption)
                  obtain ⟨i019, hi019, _, hsz19, _⟩ := info_parts info76
                  have hroom19 : l0_0.length ≤ c0_0 := HC0_0.out
                  have hC19 : Kd.C k76 _ (some ad333) l0_0.length l0_0 := HR0_0.out
                  have hcut19 := cut_to (P := Try.prog) 50 76 .i64 Try.underlying50 hi019 (some ad333) l0_0.length c0_0 x10_1 (of_decide_eq_true (by first | (with_reducible assumption) | assumption)) q19 hroom19
                  have hr19 := Kd.C_take (m := (x10_1 : Int).toNat) hC19 (by omega)
                  have hy19 : y336.length = (x10_1 : Int).toNat := (by rw [Ny336.out, List.length_take]; omega)
                  rw [← Ny336.out] at hr19
                  rw [← hy19] at hcut19
                  have HR339 := Aside0.mk hr19
                  have HC339 := Aside0.mk (show y336.length ≤ c0_0 from by omega)
                  clear hr19 hC19 hroom19 hi019 hsz19
                  have KY19 := Aside0.mk hy19
                  clear hy19
                  replace q19 := eq_true q19
                  refine hK.out _ _ ⟨(blk_cell BK334.out 0).trans rfl, (blk_cell BK334.out 1).trans rfl, (blk_cell BK334.out 2).trans rfl, (blk_cell BK334.out 3).trans rfl, (blk_cell BK334.out 4).trans rfl, (blk_cell BK334.out 5).trans rfl, (blk_cell BK334.out 6).trans rfl, (blk_cell BK334.out 7).trans rfl, (blk_cell BK334.out 8).trans rfl, (blk_cell BK332.out 0).trans rfl, (blk_cell BK332.out 1).trans rfl, (blk_cell BK332.out 2).trans rfl, (blk_cell BK332.out 3).trans rfl⟩ (fun hHeld => ?_)
                  clear hK K
                  refine norm_ (a' := ?_) ?_ ?_
                  rotate_left
                  · show Act.put _ (some 16) _ = _
                    simp only [Act.put, List.setIfInBounds_toArray, List.set_cons_zero, List.set_cons_succ, i64_w, i32_w]
                    rfl
                  refine pure_ (i := 2) (N := some 17) (v := ?_) (a' := ?_) #[true, true, true, false, false, false, false, false, false, false, false, false, false] rfl rfl (any_of HT_.out (by kernel_rfl)) (fun _ _ _ h => h) (Or.inl ⟨by rfl, ?_⟩) ?_ ?_
                  rotate_left
                  · intro w'
                    go_simp
                    with_reducible rfl
                  rotate_left
                  · simp only [Act.put, List.setIfInBounds_toArray, List.set_cons_zero, List.set_cons_succ, i64_w, i32_w]
                    rfl
                  refine pure_ (i := 3) (N := some 18) (v := ?_) (a' := ?_) #[true, true, true, true, false, false, false, false, false, false, false, false, false] rfl rfl (any_of HT_.out (by kernel_rfl)) (fun _ _ _ h => h) (Or.inl ⟨by rfl, ?_⟩) ?_ ?_
                  rotate_left
                  · intro w'
                    go_simp
                    with_reducible rfl
                  rotate_left
                  · simp only [Act.put, List.setIfInBounds_toArray, List.set_cons_zero, List.set_cons_succ, i64_w, i32_w]
                    rfl
                  refine pure_ (i := 4) (N := some 19) (v := ?_) (a' := ?_) #[true, true, true, true, true, false, false, false, false, false, false, false, false] rfl rfl (any_of HT_.out (by kernel_rfl)) (fun _ _ _ h => h) (Or.inl ⟨by rfl, ?_⟩) ?_ ?_
                  rotate_left
                  · intro w'
                    go_simp
                    with_reducible rfl
                  rotate_left
                  · simp only [Act.put, List.setIfInBounds_toArray, List.set_cons_zero, List.set_cons_succ, i64_w, i32_w]
                    rfl
                  refine pure_ (i := 6) (N := some 21) (v := ?_) (a' := ?_) #[true, true, true, true, true, false, true, false, false, false, false, false, false] rfl rfl (any_of HT_.out (by kernel_rfl)) (fun _ _ _ h => h) (Or.inl ⟨by rfl, ?_⟩) ?_ ?_
                  rotate_left
                  · intro w'
                    go_simp
                    with_reducible rfl
                  rotate_left
                  · simp only [Act.put, List.setIfInBounds_toArray, List.set_cons_zero, List.set_cons_succ, i64_w, i32_w]
                    rfl
                  refine pure_ (i := 8) (N := some 23) (v := ?_) (a' := ?_) #[true, true, true, true, true, false, true, false, true, false, false, false, false] rfl rfl (any_of HT_.out (by kernel_rfl)) (fun _ _ _ h => h) (Or.inl ⟨by rfl, ?_⟩) ?_ ?_
                  rotate_left
                  · intro w'
                    go_simp
                    with_reducible rfl
                  rotate_left
                  · simp only [Act.put, List.setIfInBounds_toArray, List.set_cons_zero, List.set_cons_succ, i64_w, i32_w]
                    rfl
                  refine take_ (i := 5) (N := some 20) (v := ?_) (a' := ?_) #[true, true, true, true, true, true, true, false, true, false, false, false, false] rfl rfl (take_ofW HT_.out HW_.out (by kernel_rfl)) (fun _ _ _ h => h) (Or.inl ⟨by rfl, ?_⟩) hHeld ?_ ?_
                  rotate_left
                  · rintro w' ⟨s0, s1, s2, s3, s4, s5, s6, s7, s8, s9, s10, s11, s12⟩
                    go_simp
                    with_reducible rfl
                  rotate_left
                  · simp only [Act.put, List.setIfInBounds_toArray, List.set_cons_zero, List.set_cons_succ, i64_w, i32_w]
                    rfl
                  refine pure_ (i := 7) (N := some 22) (v := ?_) (a' := ?_) #[true, true, true, true, true, true, true, true, true, false, false, false, false] rfl rfl (any_of HT_.out (by kernel_rfl)) (fun _ _ _ h => h) (Or.inl ⟨by rfl, ?_⟩) ?_ ?_
                  rotate_left
                  · intro w'
                    go_simp
                    with_reducible rfl
                  rotate_left
                  · simp only [Act.put, List.setIfInBounds_toArray, List.set_cons_zero, List.set_cons_succ, i64_w, i32_w]
                    rfl
                  refine take_ (i := 9) (N := some 24) (v := ?_) (a' := ?_) #[true, true, true, true, true, true, true, true, true, true, false, false, false] rfl rfl (take_ofW HT_.out HW_.out (by kernel_rfl)) (fun _ _ _ h => h) (Or.inl ⟨by rfl, ?_⟩) hHeld ?_ ?_
                  rotate_left
                  · rintro w' ⟨s0, s1, s2, s3, s4, s5, s6, s7, s8, s9, s10, s11, s12⟩
                    go_simp
                    with_reducible rfl
                  rotate_left
                  · simp only [Act.put, List.setIfInBounds_toArray, List.set_cons_zero, List.set_cons_succ, i64_w, i32_w]
                    rfl
                  refine one_ (i := 10) (N := some 25) #[true, true, true, true, true, true, true, true, true, true, true, false, false] rfl rfl (one_of HT_.out (by kernel_rfl)) (by decide) (fun K hK => ?_)
                  refine goes_ Try.func76 (by kernel_rfl) rfl #[.slice (some ad333) y336.length c0_0, .string ((rd_T76 l0_0 x10_1).f0)] (by rfl) rfl rfl (by (try simp only [List.map_toArray, List.map_cons, List.map_nil]); first | done | rfl | (simp only [List.length_drop, List.length_take]; rfl)) ?_
                  with_reducible refine (foghornref13_place.calls k1 _ _ y336 ((rd_T76 l0_0 x10_1).f0) t340 _ ?side1 ?side2 A11.out).mono ?_
                  (case side1 => repeat (first | exact (Kd.C_below HR339.out HB.out) | (with_reducible refine Kd.C_alloc ?_ _) | (with_reducible refine Kd.C_drewN ?_ _) | (with_reducible refine Kd.C_drew ?_)))
                  (case side2 => exact HC339.out)
                  rintro e w20 ⟨rfl, hb⟩
                  refine ⟨_, rfl, ?_⟩
                  have n0_ := Aside0.mk (blk_below (g := gb332) (o := .cells #[.slice (some ad333) l0_0.length c0_0, .slice A0_1 l0_1.length c0_1, .int .i64 a0_2, .int .i64 a0_3] 53 (0, 0)) (by (with_reducible repeat (first | refine blk_drewN ?_ _ | refine blk_drew ?_ | refine blk_alloc ?_ _)); exact BK332.out) hb)
                  have n1_ := Aside0.mk (blk_below (g := gb334) (o := .cells #[.string ((rd_T76 l0_0 x10_1).f0), .int .i64 ((rd_T76 l0_0 x10_1).f1.f0), .int .i64 ((rd_T76 l0_0 x10_1).f1.f1), .int .i64 ((rd_T76 l0_0 x10_1).f1.f2), .int .i64 ((rd_T76 l0_0 x10_1).f2), .int .i64 ((rd_T76 l0_0 x10_1).f3), .int .i64 ((rd_T76 l0_0 x10_1).f4), .int .i64 ((rd_T76 l0_0 x10_1).f5), .int .i64 ((rd_T76 l0_0 x10_1).f6)] 76 (0, 0)) (by (with_reducible repeat (first | refine blk_drewN ?_ _ | refine blk_drew ?_ | refine blk_alloc ?_ _)); exact BK334.out) hb)
                  have n2_ := Aside0.mk (below_step (by repeat (first | (with_reducible first | exact HB.out | apply below_alloc | apply pw_below_drewN | apply below_drew1 | refine below_set ?_ GE332.out | refine below_set ?_ GE334.out) | exact HB.out)) hb)
                  clear BK332
                  clear BK334
                  clear HB
                  have BK332 := n0_
                  have BK334 := n1_
                  have HB := n2_
                  clear n0_ n1_ n2_
                  (try clear hb)
                  (try clear hb2)
                  (try clear hk)
                  (try clear hi)
                  refine hK.out _ _ ⟨(blk_cell BK334.out 0).trans rfl, (blk_cell BK334.out 1).trans rfl, (blk_cell BK334.out 2).trans rfl, (blk_cell BK334.out 3).trans rfl, (blk_cell BK334.out 4).trans rfl, (blk_cell BK334.out 5).trans rfl, (blk_cell BK334.out 6).trans rfl, (blk_cell BK334.out 7).trans rfl, (blk_cell BK334.out 8).trans rfl, (blk_cell BK332.out 0).trans rfl, (blk_cell BK332.out 1).trans rfl, (blk_cell BK332.out 2).trans rfl, (blk_cell BK332.out 3).trans rfl⟩ (fun hHeld => ?_)
                  clear hK K
                  refine norm_ (a' := ?_) ?_ ?_
                  rotate_left
                  · show Act.put _ (some 25) _ = _
                    simp only [Act.put, List.setIfInBounds_toArray, List.set_cons_zero, List.set_cons_succ, i64_w, i32_w]
                    rfl
                  refine pure_ (i := 11) (N := some 26) (v := ?_) (a' := ?_) #[true, true, true, true, true, true, true, true, true, true, true, true, false] rfl rfl (any_of HT_.out (by kernel_rfl)) (fun _ _ _ h => h) (Or.inl ⟨by rfl, ?_⟩) ?_ ?_
                  rotate_left
                  · intro w'
                    go_simp
                    with_reducible rfl
                  rotate_left
                  · simp only [Act.put, List.setIfInBounds_toArray, List.set_cons_zero, List.set_cons_succ, i64_w, i32_w]
                    rfl
                  refine pure_ (i := 12) (N := some 27) (v := ?_) (a' := ?_) #[true, true, true, true, true, true, true, true, true, true, true, true, true] rfl rfl (any_of HT_.out (by kernel_rfl)) (fun _ _ _ h => h) (Or.inl ⟨by rfl, ?_⟩) ?_ ?_
                  rotate_left
                  · intro w'
                    go_simp
                    with_reducible rfl
                  rotate_left
                  · simp only [Act.put, List.setIfInBounds_toArray, List.set_cons_zero, List.set_cons_succ, i64_w, i32_w]
                    rfl
                  refine done_ (done_of HT_.out (by kernel_rfl)) ?_
                  try go_wp2
                  go_ret
                  exact ⟨by first | rfl | (simp [errW_none, errW_some] <;> rfl) | (simp [*, errW_none, errW_some] <;> rfl), by repeat (first | (with_reducible first | exact HB.out | apply below_alloc | apply pw_below_drewN | apply below_drew1 | refine below_set ?_ GE332.out | refine below_set ?_ GE334.out) | exact HB.out)⟩
                · rw [if_neg c12] at H
                  have c12b0 : decide (0 ≤ t340) = false := decide_eq_false c12
                  clear c12
                  have H' := Aside0.mk H
                  clear H
                  have p333 : 0 ≤ (x10_1 : Int) := of_decide_eq_true (by first | (with_reducible assumption) | assumption)
                  have q333 : x10_1 < (l0_0.length : Int) := of_decide_eq_true (by first | (with_reducible assumption) | assumption)
                  obtain ⟨ad333, e333, hx333_0, hx333_1, hx333_2, hx333_3, hx333_4, hx333_5, hx333_6, hx333_7, hx333_8⟩ := at_T76 HR0_0.out x10_1 p333 q333
                  cases e333
                  replace hx333_0 := (HB.out.cell (World.block_lt_of_cell? w _ hx333_0)).trans hx333_0
                  replace hx333_1 := (HB.out.cell (World.block_lt_of_cell? w _ hx333_1)).trans hx333_1
                  replace hx333_2 := (HB.out.cell (World.block_lt_of_cell? w _ hx333_2)).trans hx333_2
                  replace hx333_3 := (HB.out.cell (World.block_lt_of_cell? w _ hx333_3)).trans hx333_3
                  replace hx333_4 := (HB.out.cell (World.block_lt_of_cell? w _ hx333_4)).trans hx333_4
                  replace hx333_5 := (HB.out.cell (World.block_lt_of_cell? w _ hx333_5)).trans hx333_5
                  replace hx333_6 := (HB.out.cell (World.block_lt_of_cell? w _ hx333_6)).trans hx333_6
                  replace hx333_7 := (HB.out.cell (World.block_lt_of_cell? w _ hx333_7)).trans hx333_7
                  replace hx333_8 := (HB.out.cell (World.block_lt_of_cell? w _ hx333_8)).trans hx333_8
                  replace p333 := eq_true p333
                  replace q333 := eq_true q333
                  try go_wp2_with (first | ((with_reducible refine gate_dst (N := 4) rfl ?_); (try (refine gate_guard (by rfl) ?_; dsimp only)); refine box_event ?hg (N := 4) ?hd (cs := #[.string (⟨#[]⟩ : ByteArray), .int .i64 0, .int .i64 0, .int .i64 0, .int .i64 0, .int .i64 0, .int .i64 0, .int .i64 0, .int .i64 0]) (t := 76) ?hr ?_; (case hd => rfl); (case hg => rfl); (case hr => first | (go_simp; done) | (go_simp; rfl)); intro gb334 hg w21 hbox hb; have n0_ := Aside0.mk (blk_below (g := gb332) (o := .cells #[.slice (some ad333) l0_0.length c0_0, .slice A0_1 l0_1.length c0_1, .int .i64 a0_2, .int .i64 a0_3] 53 (0, 0)) (by (with_reducible repeat (first | refine blk_drewN ?_ _ | refine blk_drew ?_ | refine blk_alloc ?_ _)); exact BK332.out) hb); have n1_ := Aside0.mk (below_step (by repeat (first | (with_reducible first | exact HB.out | apply below_alloc | apply pw_below_drewN | apply below_drew1 | refine below_set ?_ GE332.out) | exact HB.out)) hb); have n2_ := Aside0.mk (hbox); have n3_ := Aside0.mk ((by rw [hg]; exact (below_size (by repeat (first | (with_reducible first | exact HB.out | apply below_alloc | apply pw_below_drewN | apply below_drew1 | refine below_set ?_ GE332.out) | exact HB.out))) : w.heap.size ≤ gb334)); have n4_ := n3_; have n5_ := Aside0.mk ((by rw [hg]; exact Nat.ne_of_lt (blk_lt (g := gb332) (o := .cells #[.slice (some ad333) l0_0.length c0_0, .slice A0_1 l0_1.length c0_1, .int .i64 a0_2, .int .i64 a0_3] 53 (0, 0)) (by (with_reducible repeat (first | refine blk_drewN ?_ _ | refine blk_drew ?_ | refine blk_alloc ?_ _)); exact BK332.out)) : gb332 ≠ gb334)); have n6_ := Aside0.mk ((by rw [hg]; exact Nat.ne_of_gt (blk_lt (g := gb332) (o := .cells #[.slice (some ad333) l0_0.length c0_0, .slice A0_1 l0_1.length c0_1, .int .i64 a0_2, .int .i64 a0_3] 53 (0, 0)) (by (with_reducible repeat (first | refine blk_drewN ?_ _ | refine blk_drew ?_ | refine blk_alloc ?_ _)); exact BK332.out)) : gb334 ≠ gb332)); clear BK332; clear HB; have BK332 := n0_; have HB := n1_; have BK334 := n2_; have GW334 := n3_; have GE334 := n4_; have NB332_334 := n5_; have NB334_332 := n6_; clear n0_ n1_ n2_ n3_ n4_ n5_ n6_; clear hb hbox hg; have hnb22 := NB334_332.out; have hnc22 := NB332_334.out; obtain ⟨hcz23_0, hcz23_1, hcz23_2, hcz23_3, hcz23_4, hcz23_5, hcz23_6, hcz23_7, hcz23_8⟩ := cells_9 BK334.out; obtain ⟨hfz23_0, hfz23_1, hfz23_2, hfz23_3, hfz23_4, hfz23_5, hfz23_6, hfz23_7, hfz23_8⟩ := froz_9 BK334.out))
                  have n0_ : Aside0 ((((((((((w21.setCell ⟨gb334, 0, none⟩ (.string ((rd_T76 l0_0 x10_1).f0))).setCell ⟨gb334, 1, none⟩ (.int .i64 ((rd_T76 l0_0 x10_1).f1.f0))).setCell ⟨gb334, 2, none⟩ (.int .i64 ((rd_T76 l0_0 x10_1).f1.f1))).setCell ⟨gb334, 3, none⟩ (.int .i64 ((rd_T76 l0_0 x10_1).f1.f2))).setCell ⟨gb334, 4, none⟩ (.int .i64 ((rd_T76 l0_0 x10_1).f2))).setCell ⟨gb334, 5, none⟩ (.int .i64 ((rd_T76 l0_0 x10_1).f3))).setCell ⟨gb334, 6, none⟩ (.int .i64 ((rd_T76 l0_0 x10_1).f4))).setCell ⟨gb334, 7, none⟩ (.int .i64 ((rd_T76 l0_0 x10_1).f5))).setCell ⟨gb334, 8, none⟩ (.int .i64 ((rd_T76 l0_0 x10_1).f6))).heap[gb332]? = some (.cells #[.slice (some ad333) l0_0.length c0_0, .slice A0_1 l0_1.length c0_1, .int .i64 a0_2, .int .i64 a0_3] 53 (0, 0))) := ⟨by (repeat (first | (with_reducible first | refine blk_drewN ?_ _ | refine blk_drew ?_ | refine blk_alloc ?_ _) | refine blk_far ?_ NB332_334.out _)); exact BK332.out⟩
                  have n1_ : Aside0 ((((((((((w21.setCell ⟨gb334, 0, none⟩ (.string ((rd_T76 l0_0 x10_1).f0))).setCell ⟨gb334, 1, none⟩ (.int .i64 ((rd_T76 l0_0 x10_1).f1.f0))).setCell ⟨gb334, 2, none⟩ (.int .i64 ((rd_T76 l0_0 x10_1).f1.f1))).setCell ⟨gb334, 3, none⟩ (.int .i64 ((rd_T76 l0_0 x10_1).f1.f2))).setCell ⟨gb334, 4, none⟩ (.int .i64 ((rd_T76 l0_0 x10_1).f2))).setCell ⟨gb334, 5, none⟩ (.int .i64 ((rd_T76 l0_0 x10_1).f3))).setCell ⟨gb334, 6, none⟩ (.int .i64 ((rd_T76 l0_0 x10_1).f4))).setCell ⟨gb334, 7, none⟩ (.int .i64 ((rd_T76 l0_0 x10_1).f5))).setCell ⟨gb334, 8, none⟩ (.int .i64 ((rd_T76 l0_0 x10_1).f6))).heap[gb334]? = some (.cells #[.string ((rd_T76 l0_0 x10_1).f0), .int .i64 ((rd_T76 l0_0 x10_1).f1.f0), .int .i64 ((rd_T76 l0_0 x10_1).f1.f1), .int .i64 ((rd_T76 l0_0 x10_1).f1.f2), .int .i64 ((rd_T76 l0_0 x10_1).f2), .int .i64 ((rd_T76 l0_0 x10_1).f3), .int .i64 ((rd_T76 l0_0 x10_1).f4), .int .i64 ((rd_T76 l0_0 x10_1).f5), .int .i64 ((rd_T76 l0_0 x10_1).f6)] 76 (0, 0))) := ⟨by (with_reducible repeat (first | refine blk_drewN ?_ _ | refine blk_drew ?_ | refine blk_alloc ?_ _)); refine blk_put (cs := #[.string ((rd_T76 l0_0 x10_1).f0), .int .i64 ((rd_T76 l0_0 x10_1).f1.f0), .int .i64 ((rd_T76 l0_0 x10_1).f1.f1), .int .i64 ((rd_T76 l0_0 x10_1).f1.f2), .int .i64 ((rd_T76 l0_0 x10_1).f2), .int .i64 ((rd_T76 l0_0 x10_1).f3), .int .i64 ((rd_T76 l0_0 x10_1).f4), .int .i64 ((rd_T76 l0_0 x10_1).f5), .int .i64 0]) ?_ 8 _ rfl; (with_reducible repeat (first | refine blk_drewN ?_ _ | refine blk_drew ?_ | refine blk_alloc ?_ _)); refine blk_put (cs := #[.string ((rd_T76 l0_0 x10_1).f0), .int .i64 ((rd_T76 l0_0 x10_1).f1.f0), .int .i64 ((rd_T76 l0_0 x10_1).f1.f1), .int .i64 ((rd_T76 l0_0 x10_1).f1.f2), .int .i64 ((rd_T76 l0_0 x10_1).f2), .int .i64 ((rd_T76 l0_0 x10_1).f3), .int .i64 ((rd_T76 l0_0 x10_1).f4), .int .i64 0, .int .i64 0]) ?_ 7 _ rfl; (with_reducible repeat (first | refine blk_drewN ?_ _ | refine blk_drew ?_ | refine blk_alloc ?_ _)); refine blk_put (cs := #[.string ((rd_T76 l0_0 x10_1).f0), .int .i64 ((rd_T76 l0_0 x10_1).f1.f0), .int .i64 ((rd_T76 l0_0 x10_1).f1.f1), .int .i64 ((rd_T76 l0_0 x10_1).f1.f2), .int .i64 ((rd_T76 l0_0 x10_1).f2), .int .i64 ((rd_T76 l0_0 x10_1).f3), .int .i64 0, .int .i64 0, .int .i64 0]) ?_ 6 _ rfl; (with_reducible repeat (first | refine blk_drewN ?_ _ | refine blk_drew ?_ | refine blk_alloc ?_ _)); refine blk_put (cs := #[.string ((rd_T76 l0_0 x10_1).f0), .int .i64 ((rd_T76 l0_0 x10_1).f1.f0), .int .i64 ((rd_T76 l0_0 x10_1).f1.f1), .int .i64 ((rd_T76 l0_0 x10_1).f1.f2), .int .i64 ((rd_T76 l0_0 x10_1).f2), .int .i64 0, .int .i64 0, .int .i64 0, .int .i64 0]) ?_ 5 _ rfl; (with_reducible repeat (first | refine blk_drewN ?_ _ | refine blk_drew ?_ | refine blk_alloc ?_ _)); refine blk_put (cs := #[.string ((rd_T76 l0_0 x10_1).f0), .int .i64 ((rd_T76 l0_0 x10_1).f1.f0), .int .i64 ((rd_T76 l0_0 x10_1).f1.f1), .int .i64 ((rd_T76 l0_0 x10_1).f1.f2), .int .i64 0, .int .i64 0, .int .i64 0, .int .i64 0, .int .i64 0]) ?_ 4 _ rfl; (with_reducible repeat (first | refine blk_drewN ?_ _ | refine blk_drew ?_ | refine blk_alloc ?_ _)); refine blk_put (cs := #[.string ((rd_T76 l0_0 x10_1).f0), .int .i64 ((rd_T76 l0_0 x10_1).f1.f0), .int .i64 ((rd_T76 l0_0 x10_1).f1.f1), .int .i64 0, .int .i64 0, .int .i64 0, .int .i64 0, .int .i64 0, .int .i64 0]) ?_ 3 _ rfl; (with_reducible repeat (first | refine blk_drewN ?_ _ | refine blk_drew ?_ | refine blk_alloc ?_ _)); refine blk_put (cs := #[.string ((rd_T76 l0_0 x10_1).f0), .int .i64 ((rd_T76 l0_0 x10_1).f1.f0), .int .i64 0, .int .i64 0, .int .i64 0, .int .i64 0, .int .i64 0, .int .i64 0, .int .i64 0]) ?_ 2 _ rfl; (with_reducible repeat (first | refine blk_drewN ?_ _ | refine blk_drew ?_ | refine blk_alloc ?_ _)); refine blk_put (cs := #[.string ((rd_T76 l0_0 x10_1).f0), .int .i64 0, .int .i64 0, .int .i64 0, .int .i64 0, .int .i64 0, .int .i64 0, .int .i64 0, .int .i64 0]) ?_ 1 _ rfl; (with_reducible repeat (first | refine blk_drewN ?_ _ | refine blk_drew ?_ | refine blk_alloc ?_ _)); refine blk_put (cs := #[.string (⟨#[]⟩ : ByteArray), .int .i64 0, .int .i64 0, .int .i64 0, .int .i64 0, .int .i64 0, .int .i64 0, .int .i64 0, .int .i64 0]) ?_ 0 _ rfl; (with_reducible repeat (first | refine blk_drewN ?_ _ | refine blk_drew ?_ | refine blk_alloc ?_ _)); exact BK334.out⟩
                  have n2_ : Aside0 (Below w.heap.size w (((((((((w21.setCell ⟨gb334, 0, none⟩ (.string ((rd_T76 l0_0 x10_1).f0))).setCell ⟨gb334, 1, none⟩ (.int .i64 ((rd_T76 l0_0 x10_1).f1.f0))).setCell ⟨gb334, 2, none⟩ (.int .i64 ((rd_T76 l0_0 x10_1).f1.f1))).setCell ⟨gb334, 3, none⟩ (.int .i64 ((rd_T76 l0_0 x10_1).f1.f2))).setCell ⟨gb334, 4, none⟩ (.int .i64 ((rd_T76 l0_0 x10_1).f2))).setCell ⟨gb334, 5, none⟩ (.int .i64 ((rd_T76 l0_0 x10_1).f3))).setCell ⟨gb334, 6, none⟩ (.int .i64 ((rd_T76 l0_0 x10_1).f4))).setCell ⟨gb334, 7, none⟩ (.int .i64 ((rd_T76 l0_0 x10_1).f5))).setCell ⟨gb334, 8, none⟩ (.int .i64 ((rd_T76 l0_0 x10_1).f6)))) := ⟨by repeat (first | (with_reducible first | exact HB.out | apply below_alloc | apply pw_below_drewN | apply below_drew1 | refine below_set ?_ GE332.out | refine below_set ?_ GE334.out) | exact HB.out)⟩
                  (try clear BK332)
                  (try clear BK334)
                  (try clear HB)
                  generalize (((((((((w21.setCell ⟨gb334, 0, none⟩ (.string ((rd_T76 l0_0 x10_1).f0))).setCell ⟨gb334, 1, none⟩ (.int .i64 ((rd_T76 l0_0 x10_1).f1.f0))).setCell ⟨gb334, 2, none⟩ (.int .i64 ((rd_T76 l0_0 x10_1).f1.f1))).setCell ⟨gb334, 3, none⟩ (.int .i64 ((rd_T76 l0_0 x10_1).f1.f2))).setCell ⟨gb334, 4, none⟩ (.int .i64 ((rd_T76 l0_0 x10_1).f2))).setCell ⟨gb334, 5, none⟩ (.int .i64 ((rd_T76 l0_0 x10_1).f3))).setCell ⟨gb334, 6, none⟩ (.int .i64 ((rd_T76 l0_0 x10_1).f4))).setCell ⟨gb334, 7, none⟩ (.int .i64 ((rd_T76 l0_0 x10_1).f5))).setCell ⟨gb334, 8, none⟩ (.int .i64 ((rd_T76 l0_0 x10_1).f6))) = w24 at n0_ n1_ n2_ ⊢
                  have BK332 := n0_
                  have BK334 := n1_
                  have HB := n2_
                  clear n0_ n1_ n2_
                  have n0_ := Aside0.mk (blk_drew BK332.out)
                  have n1_ := Aside0.mk (blk_drew BK334.out)
                  have n2_ := Aside0.mk (below_drew1 HB.out)
                  clear BK332
                  clear BK334
                  clear HB
                  have BK332 := n0_
                  have BK334 := n1_
                  have HB := n2_
                  clear n0_ n1_ n2_
                  refine start_ (n := 13) (S := fun w' => w'.cell? ⟨gb334, 0, none⟩ = some (.string ((rd_T76 l0_0 x10_1).f0)) ∧ w'.cell? ⟨gb334, 1, none⟩ = some (.int .i64 ((rd_T76 l0_0 x10_1).f1.f0)) ∧ w'.cell? ⟨gb334, 2, none⟩ = some (.int .i64 ((rd_T76 l0_0 x10_1).f1.f1)) ∧ w'.cell? ⟨gb334, 3, none⟩ = some (.int .i64 ((rd_T76 l0_0 x10_1).f1.f2)) ∧ w'.cell? ⟨gb334, 4, none⟩ = some (.int .i64 ((rd_T76 l0_0 x10_1).f2)) ∧ w'.cell? ⟨gb334, 5, none⟩ = some (.int .i64 ((rd_T76 l0_0 x10_1).f3)) ∧ w'.cell? ⟨gb334, 6, none⟩ = some (.int .i64 ((rd_T76 l0_0 x10_1).f4)) ∧ w'.cell? ⟨gb334, 7, none⟩ = some (.int .i64 ((rd_T76 l0_0 x10_1).f5)) ∧ w'.cell? ⟨gb334, 8, none⟩ = some (.int .i64 ((rd_T76 l0_0 x10_1).f6)) ∧ w'.cell? ⟨gb332, 0, none⟩ = some (.slice (some ad333) l0_0.length c0_0) ∧ w'.cell? ⟨gb332, 1, none⟩ = some (.slice A0_1 l0_1.length c0_1) ∧ w'.cell? ⟨gb332, 2, none⟩ = some (.int .i64 a0_2) ∧ w'.cell? ⟨gb332, 3, none⟩ = some (.int .i64 a0_3)) (ds := []) #[false, false, false, false, false, false, false, false, false, false, false, false, false] (by kernel_rfl) rfl rfl ⟨(blk_cell BK334.out 0).trans rfl, (blk_cell BK334.out 1).trans rfl, (blk_cell BK334.out 2).trans rfl, (blk_cell BK334.out 3).trans rfl, (blk_cell BK334.out 4).trans rfl, (blk_cell BK334.out 5).trans rfl, (blk_cell BK334.out 6).trans rfl, (blk_cell BK334.out 7).trans rfl, (blk_cell BK334.out 8).trans rfl, (blk_cell BK332.out 0).trans rfl, (blk_cell BK332.out 1).trans rfl, (blk_cell BK332.out 2).trans rfl, (blk_cell BK332.out 3).trans rfl⟩ (fun hHeld => ?_); refine with_tabW foghornref13_Right.tab4 foghornref13_Right.bits4 (fun HT_ HW_ => ?_)
                  generalize w24.drew = w25 at BK332 BK334 HB hHeld ⊢
                  refine take_ (i := 0) (N := some 15) (v := ?_) (a' := ?_) #[true, false, false, false, false, false, false, false, false, false, false, false, false] rfl rfl (take_ofW HT_.out HW_.out (by kernel_rfl)) (fun _ _ _ h => h) (Or.inl ⟨by rfl, ?_⟩) hHeld ?_ ?_
                  rotate_left
                  · rintro w' ⟨s0, s1, s2, s3, s4, s5, s6, s7, s8, s9, s10, s11, s12⟩
                    go_simp
                    with_reducible rfl
                  rotate_left
                  · simp only [Act.put, List.setIfInBounds_toArray, List.set_cons_zero, List.set_cons_succ, i64_w, i32_w]
                    rfl
                  refine one_ (i := 1) (N := some 16) #[true, true, false, false, false, false, false, false, false, false, false, false, false] rfl rfl (one_of HT_.out (by kernel_rfl)) (by decide) (fun K hK => ?_)
                  refine goes_ Try.func75 (by kernel_rfl) rfl #[.agg #[.string ((rd_T76 l0_0 x10_1).f0), .int .i64 ((rd_T76 l0_0 x10_1).f1.f0), .int .i64 ((rd_T76 l0_0 x10_1).f1.f1), .int .i64 ((rd_T76 l0_0 x10_1).f1.f2), .int .i64 ((rd_T76 l0_0 x10_1).f2), .int .i64 ((rd_T76 l0_0 x10_1).f3), .int .i64 ((rd_T76 l0_0 x10_1).f4), .int .i64 ((rd_T76 l0_0 x10_1).f5), .int .i64 ((rd_T76 l0_0 x10_1).f6)]] (by rfl) rfl rfl (by (try simp only [List.map_toArray, List.map_cons, List.map_nil]); first | done | rfl | (simp only [List.length_drop, List.length_take]; rfl)) ?_
                  with_reducible refine (foghornref13_receiver.calls k1 ((rd_T76 l0_0 x10_1).f0) ((rd_T76 l0_0 x10_1).f1.f0) ((rd_T76 l0_0 x10_1).f1.f1) ((rd_T76 l0_0 x10_1).f1.f2) ((rd_T76 l0_0 x10_1).f2) ((rd_T76 l0_0 x10_1).f3) ((rd_T76 l0_0 x10_1).f4) ((rd_T76 l0_0 x10_1).f5) ((rd_T76 l0_0 x10_1).f6) true _ A7.out).mono ?_
                  rintro e w26 ⟨rfl, hb⟩
                  refine ⟨_, rfl, ?_⟩
                  have n0_ := Aside0.mk (blk_below (g := gb332) (o := .cells #[.slice (some ad333) l0_0.length c0_0, .slice A0_1 l0_1.length c0_1, .int .i64 a0_2, .int .i64 a0_3] 53 (0, 0)) (by (with_reducible repeat (first | refine blk_drewN ?_ _ | refine blk_drew ?_ | refine blk_alloc ?_ _)); exact BK332.out) hb)
                  have n1_ := Aside0.mk (blk_below (g := gb334) (o := .cells #[.string ((rd_T76 l0_0 x10_1).f0), .int .i64 ((rd_T76 l0_0 x10_1).f1.f0), .int .i64 ((rd_T76 l0_0 x10_1).f1.f1), .int .i64 ((rd_T76 l0_0 x10_1).f1.f2), .int .i64 ((rd_T76 l0_0 x10_1).f2), .int .i64 ((rd_T76 l0_0 x10_1).f3), .int .i64 ((rd_T76 l0_0 x10_1).f4), .int .i64 ((rd_T76 l0_0 x10_1).f5), .int .i64 ((rd_T76 l0_0 x10_1).f6)] 76 (0, 0)) (by (with_reducible repeat (first | refine blk_drewN ?_ _ | refine blk_drew ?_ | refine blk_alloc ?_ _)); exact BK334.out) hb)
                  have n2_ := Aside0.mk (below_step (by repeat (first | (with_reducible first | exact HB.out | apply below_alloc | apply pw_below_drewN | apply below_drew1 | refine below_set ?_ GE332.out | refine below_set ?_ GE334.out) | exact HB.out)) hb)
                  clear BK332
                  clear BK334
                  clear HB
                  have BK332 := n0_
                  have BK334 := n1_
                  have HB := n2_
                  clear n0_ n1_ n2_
                  (try clear hb)
                  (try clear hb2)
                  (try clear hk)
                  (try clear hi)
                  have q27 : (x10_1 : Int) ≤ ((l0_0.length : Int) : Int) := of_decide_eq_true (by first | (with_reducible assumption) | assumption)
                  obtain ⟨i027, hi027, _, hsz27, _⟩ := info_parts info76
                  have hroom27 : l0_0.length ≤ c0_0 := HC0_0.out
                  have hC27 : Kd.C k76 _ (some ad333) l0_0.length l0_0 := HR0_0.out
                  have hcut27 := cut_to (P := Try.prog) 50 76 .i64 Try.underlying50 hi027 (some ad333) l0_0.length c0_0 x10_1 (of_decide_eq_true (by first | (with_reducible assumption) | assumption)) q27 hroom27
                  have hr27 := Kd.C_take (m := (x10_1 : Int).toNat) hC27 (by omega)
                  have hy27 : y336.length = (x10_1 : Int).toNat := (by rw [Ny336.out, List.length_take]; omega)
                  rw [← Ny336.out] at hr27
                  rw [← hy27] at hcut27
                  have HR339 := Aside0.mk hr27
                  have HC339 := Aside0.mk (show y336.length ≤ c0_0 from by omega)
                  clear hr27 hC27 hroom27 hi027 hsz27
                  have KY27 := Aside0.mk hy27
                  clear hy27
                  replace q27 := eq_true q27
                  refine hK.out _ _ ⟨(blk_cell BK334.out 0).trans rfl, (blk_cell BK334.out 1).trans rfl, (blk_cell BK334.out 2).trans rfl, (blk_cell BK334.out 3).trans rfl, (blk_cell BK334.out 4).trans rfl, (blk_cell BK334.out 5).trans rfl, (blk_cell BK334.out 6).trans rfl, (blk_cell BK334.out 7).trans rfl, (blk_cell BK334.out 8).trans rfl, (blk_cell BK332.out 0).trans rfl, (blk_cell BK332.out 1).trans rfl, (blk_cell BK332.out 2).trans rfl, (blk_cell BK332.out 3).trans rfl⟩ (fun hHeld => ?_)
                  clear hK K
                  refine norm_ (a' := ?_) ?_ ?_
                  rotate_left
                  · show Act.put _ (some 16) _ = _
                    simp only [Act.put, List.setIfInBounds_toArray, List.set_cons_zero, List.set_cons_succ, i64_w, i32_w]
                    rfl
                  refine pure_ (i := 2) (N := some 17) (v := ?_) (a' := ?_) #[true, true, true, false, false, false, false, false, false, false, false, false, false] rfl rfl (any_of HT_.out (by kernel_rfl)) (fun _ _ _ h => h) (Or.inl ⟨by rfl, ?_⟩) ?_ ?_
                  rotate_left
                  · intro w'
                    go_simp
                    with_reducible rfl
                  rotate_left
                  · simp only [Act.put, List.setIfInBounds_toArray, List.set_cons_zero, List.set_cons_succ, i64_w, i32_w]
                    rfl
                  refine pure_ (i := 3) (N := some 18) (v := ?_) (a' := ?_) #[true, true, true, true, false, false, false, false, false, false, false, false, false] rfl rfl (any_of HT_.out (by kernel_rfl)) (fun _ _ _ h => h) (Or.inl ⟨by rfl, ?_⟩) ?_ ?_
                  rotate_left
                  · intro w'
                    go_simp
                    with_reducible rfl
                  rotate_left
                  · simp only [Act.put, List.setIfInBounds_toArray, List.set_cons_zero, List.set_cons_succ, i64_w, i32_w]
                    rfl
                  refine pure_ (i := 4) (N := some 19) (v := ?_) (a' := ?_) #[true, true, true, true, true, false, false, false, false, false, false, false, false] rfl rfl (any_of HT_.out (by kernel_rfl)) (fun _ _ _ h => h) (Or.inl ⟨by rfl, ?_⟩) ?_ ?_
                  rotate_left
                  · intro w'
                    go_simp
                    with_reducible rfl
                  rotate_left
                  · simp only [Act.put, List.setIfInBounds_toArray, List.set_cons_zero, List.set_cons_succ, i64_w, i32_w]
                    rfl
                  refine pure_ (i := 6) (N := some 21) (v := ?_) (a' := ?_) #[true, true, true, true, true, false, true, false, false, false, false, false, false] rfl rfl (any_of HT_.out (by kernel_rfl)) (fun _ _ _ h => h) (Or.inl ⟨by rfl, ?_⟩) ?_ ?_
                  rotate_left
                  · intro w'
                    go_simp
                    with_reducible rfl
                  rotate_left
                  · simp only [Act.put, List.setIfInBounds_toArray, List.set_cons_zero, List.set_cons_succ, i64_w, i32_w]
                    rfl
                  refine pure_ (i := 8) (N := some 23) (v := ?_) (a' := ?_) #[true, true, true, true, true, false, true, false, true, false, false, false, false] rfl rfl (any_of HT_.out (by kernel_rfl)) (fun _ _ _ h => h) (Or.inl ⟨by rfl, ?_⟩) ?_ ?_
                  rotate_left
                  · intro w'
                    go_simp
                    with_reducible rfl
                  rotate_left
                  · simp only [Act.put, List.setIfInBounds_toArray, List.set_cons_zero, List.set_cons_succ, i64_w, i32_w]
                    rfl
                  refine take_ (i := 5) (N := some 20) (v := ?_) (a' := ?_) #[true, true, true, true, true, true, true, false, true, false, false, false, false] rfl rfl (take_ofW HT_.out HW_.out (by kernel_rfl)) (fun _ _ _ h => h) (Or.inl ⟨by rfl, ?_⟩) hHeld ?_ ?_
                  rotate_left
                  · rintro w' ⟨s0, s1, s2, s3, s4, s5, s6, s7, s8, s9, s10, s11, s12⟩
                    go_simp
                    with_reducible rfl
                  rotate_left
                  · simp only [Act.put, List.setIfInBounds_toArray, List.set_cons_zero, List.set_cons_succ, i64_w, i32_w]
                    rfl
                  refine pure_ (i := 7) (N := some 22) (v := ?_) (a' := ?_) #[true, true, true, true, true, true, true, true, true, false, false, false, false] rfl rfl (any_of HT_.out (by kernel_rfl)) (fun _ _ _ h => h) (Or.inl ⟨by rfl, ?_⟩) ?_ ?_
                  rotate_left
                  · intro w'
                    go_simp
                    with_reducible rfl
                  rotate_left
                  · simp only [Act.put, List.setIfInBounds_toArray, List.set_cons_zero, List.set_cons_succ, i64_w, i32_w]
                    rfl
                  refine take_ (i := 9) (N := some 24) (v := ?_) (a' := ?_) #[true, true, true, true, true, true, true, true, true, true, false, false, false] rfl rfl (take_ofW HT_.out HW_.out (by kernel_rfl)) (fun _ _ _ h => h) (Or.inl ⟨by rfl, ?_⟩) hHeld ?_ ?_
                  rotate_left
                  · rintro w' ⟨s0, s1, s2, s3, s4, s5, s6, s7, s8, s9, s10, s11, s12⟩
                    go_simp
                    with_reducible rfl
                  rotate_left
                  · simp only [Act.put, List.setIfInBounds_toArray, List.set_cons_zero, List.set_cons_succ, i64_w, i32_w]
                    rfl
                  refine one_ (i := 10) (N := some 25) #[true, true, true, true, true, true, true, true, true, true, true, false, false] rfl rfl (one_of HT_.out (by kernel_rfl)) (by decide) (fun K hK => ?_)
                  refine goes_ Try.func76 (by kernel_rfl) rfl #[.slice (some ad333) y336.length c0_0, .string ((rd_T76 l0_0 x10_1).f0)] (by rfl) rfl rfl (by (try simp only [List.map_toArray, List.map_cons, List.map_nil]); first | done | rfl | (simp only [List.length_drop, List.length_take]; rfl)) ?_
                  with_reducible refine (foghornref13_place.calls k1 _ _ y336 ((rd_T76 l0_0 x10_1).f0) t340 _ ?side1 ?side2 A11.out).mono ?_
                  (case side1 => repeat (first | exact (Kd.C_below HR339.out HB.out) | (with_reducible refine Kd.C_alloc ?_ _) | (with_reducible refine Kd.C_drewN ?_ _) | (with_reducible refine Kd.C_drew ?_)))
                  (case side2 => exact HC339.out)
                  rintro e w28 ⟨rfl, hb⟩
                  refine ⟨_, rfl, ?_⟩
                  have n0_ := Aside0.mk (blk_below (g := gb332) (o := .cells #[.slice (some ad333) l0_0.length c0_0, .slice A0_1 l0_1.length c0_1, .int .i64 a0_2, .int .i64 a0_3] 53 (0, 0)) (by (with_reducible repeat (first | refine blk_drewN ?_ _ | refine blk_drew ?_ | refine blk_alloc ?_ _)); exact BK332.out) hb)
                  have n1_ := Aside0.mk (blk_below (g := gb334) (o := .cells #[.string ((rd_T76 l0_0 x10_1).f0), .int .i64 ((rd_T76 l0_0 x10_1).f1.f0), .int .i64 ((rd_T76 l0_0 x10_1).f1.f1), .int .i64 ((rd_T76 l0_0 x10_1).f1.f2), .int .i64 ((rd_T76 l0_0 x10_1).f2), .int .i64 ((rd_T76 l0_0 x10_1).f3), .int .i64 ((rd_T76 l0_0 x10_1).f4), .int .i64 ((rd_T76 l0_0 x10_1).f5), .int .i64 ((rd_T76 l0_0 x10_1).f6)] 76 (0, 0)) (by (with_reducible repeat (first | refine blk_drewN ?_ _ | refine blk_drew ?_ | refine blk_alloc ?_ _)); exact BK334.out) hb)
                  have n2_ := Aside0.mk (below_step (by repeat (first | (with_reducible first | exact HB.out | apply below_alloc | apply pw_below_drewN | apply below_drew1 | refine below_set ?_ GE332.out | refine below_set ?_ GE334.out) | exact HB.out)) hb)
                  clear BK332
                  clear BK334
                  clear HB
                  have BK332 := n0_
                  have BK334 := n1_
                  have HB := n2_
                  clear n0_ n1_ n2_
                  (try clear hb)
                  (try clear hb2)
                  (try clear hk)
                  (try clear hi)
                  refine hK.out _ _ ⟨(blk_cell BK334.out 0).trans rfl, (blk_cell BK334.out 1).trans rfl, (blk_cell BK334.out 2).trans rfl, (blk_cell BK334.out 3).trans rfl, (blk_cell BK334.out 4).trans rfl, (blk_cell BK334.out 5).trans rfl, (blk_cell BK334.out 6).trans rfl, (blk_cell BK334.out 7).trans rfl, (blk_cell BK334.out 8).trans rfl, (blk_cell BK332.out 0).trans rfl, (blk_cell BK332.out 1).trans rfl, (blk_cell BK332.out 2).trans rfl, (blk_cell BK332.out 3).trans rfl⟩ (fun hHeld => ?_)
                  clear hK K
                  refine norm_ (a' := ?_) ?_ ?_
                  rotate_left
                  · show Act.put _ (some 25) _ = _
                    simp only [Act.put, List.setIfInBounds_toArray, List.set_cons_zero, List.set_cons_succ, i64_w, i32_w]
                    rfl
                  refine pure_ (i := 11) (N := some 26) (v := ?_) (a' := ?_) #[true, true, true, true, true, true, true, true, true, true, true, true, false] rfl rfl (any_of HT_.out (by kernel_rfl)) (fun _ _ _ h => h) (Or.inl ⟨by rfl, ?_⟩) ?_ ?_
                  rotate_left
                  · intro w'
                    go_simp
                    with_reducible rfl
                  rotate_left
                  · simp only [Act.put, List.setIfInBounds_toArray, List.set_cons_zero, List.set_cons_succ, i64_w, i32_w]
                    rfl
                  refine pure_ (i := 12) (N := some 27) (v := ?_) (a' := ?_) #[true, true, true, true, true, true, true, true, true, true, true, true, true] rfl rfl (any_of HT_.out (by kernel_rfl)) (fun _ _ _ h => h) (Or.inl ⟨by rfl, ?_⟩) ?_ ?_
                  rotate_left
                  · intro w'
                    go_simp
                    with_reducible rfl
                  rotate_left
                  · simp only [Act.put, List.setIfInBounds_toArray, List.set_cons_zero, List.set_cons_succ, i64_w, i32_w]
                    rfl
                  refine done_ (done_of HT_.out (by kernel_rfl)) ?_
                  try go_wp2
                  go_roundg k1
                  case measure => have := HK1.out; omega
                  case rel => exact ⟨(wrap64 (x10_1 + 1)), (by first | rfl | (simp; done) | (simp [*]; done)), H', ⟨by have := HK1.out; omega⟩, ⟨by (with_reducible repeat (first | refine blk_drewN ?_ _ | refine blk_drew ?_ | refine blk_alloc ?_ _)); exact BK332.out⟩, ⟨by repeat (first | (with_reducible first | exact HB.out | apply below_alloc | apply pw_below_drewN | apply below_drew1 | refine below_set ?_ GE332.out | refine below_set ?_ GE334.out) | exact HB.out)⟩⟩
              · rw [if_neg c10] at H
                exact absurd H (by simp)
            · replace c8 := Bool.eq_false_iff.mpr c8
              subst c8
              have H1 : (some false) = some r := by rw [if_neg (show ¬ (false = true) by decide)] at H; exact H
              clear H
              have H := H1
              clear H1
              obtain rfl := Option.some.inj H
              have p333 : 0 ≤ (x10_1 : Int) := of_decide_eq_true (by first | (with_reducible assumption) | assumption)
              have q333 : x10_1 < (l0_0.length : Int) := of_decide_eq_true (by first | (with_reducible assumption) | assumption)
              obtain ⟨ad333, e333, hx333_0, hx333_1, hx333_2, hx333_3, hx333_4, hx333_5, hx333_6, hx333_7, hx333_8⟩ := at_T76 HR0_0.out x10_1 p333 q333
              cases e333
              replace hx333_0 := (HB.out.cell (World.block_lt_of_cell? w _ hx333_0)).trans hx333_0
              replace hx333_1 := (HB.out.cell (World.block_lt_of_cell? w _ hx333_1)).trans hx333_1
              replace hx333_2 := (HB.out.cell (World.block_lt_of_cell? w _ hx333_2)).trans hx333_2
              replace hx333_3 := (HB.out.cell (World.block_lt_of_cell? w _ hx333_3)).trans hx333_3
              replace hx333_4 := (HB.out.cell (World.block_lt_of_cell? w _ hx333_4)).trans hx333_4
              replace hx333_5 := (HB.out.cell (World.block_lt_of_cell? w _ hx333_5)).trans hx333_5
              replace hx333_6 := (HB.out.cell (World.block_lt_of_cell? w _ hx333_6)).trans hx333_6
              replace hx333_7 := (HB.out.cell (World.block_lt_of_cell? w _ hx333_7)).trans hx333_7
              replace hx333_8 := (HB.out.cell (World.block_lt_of_cell? w _ hx333_8)).trans hx333_8
              replace p333 := eq_true p333
              replace q333 := eq_true q333
              try go_wp2_with (first | ((with_reducible refine gate_dst (N := 4) rfl ?_); (try (refine gate_guard (by rfl) ?_; dsimp only)); refine box_event ?hg (N := 4) ?hd (cs := #[.string (⟨#[]⟩ : ByteArray), .int .i64 0, .int .i64 0, .int .i64 0, .int .i64 0, .int .i64 0, .int .i64 0, .int .i64 0, .int .i64 0]) (t := 76) ?hr ?_; (case hd => rfl); (case hg => rfl); (case hr => first | (go_simp; done) | (go_simp; rfl)); intro gb334 hg w29 hbox hb; have n0_ := Aside0.mk (blk_below (g := gb332) (o := .cells #[.slice (some ad333) l0_0.length c0_0, .slice A0_1 l0_1.length c0_1, .int .i64 a0_2, .int .i64 a0_3] 53 (0, 0)) (by (with_reducible repeat (first | refine blk_drewN ?_ _ | refine blk_drew ?_ | refine blk_alloc ?_ _)); exact BK332.out) hb); have n1_ := Aside0.mk (below_step (by repeat (first | (with_reducible first | exact HB.out | apply below_alloc | apply pw_below_drewN | apply below_drew1 | refine below_set ?_ GE332.out) | exact HB.out)) hb); have n2_ := Aside0.mk (hbox); have n3_ := Aside0.mk ((by rw [hg]; exact (below_size (by repeat (first | (with_reducible first | exact HB.out | apply below_alloc | apply pw_below_drewN | apply below_drew1 | refine below_set ?_ GE332.out) | exact HB.out))) : w.heap.size ≤ gb334)); have n4_ := n3_; have n5_ := Aside0.mk ((by rw [hg]; exact Nat.ne_of_lt (blk_lt (g := gb332) (o := .cells #[.slice (some ad333) l0_0.length c0_0, .slice A0_1 l0_1.length c0_1, .int .i64 a0_2, .int .i64 a0_3] 53 (0, 0)) (by (with_reducible repeat (first | refine blk_drewN ?_ _ | refine blk_drew ?_ | refine blk_alloc ?_ _)); exact BK332.out)) : gb332 ≠ gb334)); have n6_ := Aside0.mk ((by rw [hg]; exact Nat.ne_of_gt (blk_lt (g := gb332) (o := .cells #[.slice (some ad333) l0_0.length c0_0, .slice A0_1 l0_1.length c0_1, .int .i64 a0_2, .int .i64 a0_3] 53 (0, 0)) (by (with_reducible repeat (first | refine blk_drewN ?_ _ | refine blk_drew ?_ | refine blk_alloc ?_ _)); exact BK332.out)) : gb334 ≠ gb332)); clear BK332; clear HB; have BK332 := n0_; have HB := n1_; have BK334 := n2_; have GW334 := n3_; have GE334 := n4_; have NB332_334 := n5_; have NB334_332 := n6_; clear n0_ n1_ n2_ n3_ n4_ n5_ n6_; clear hb hbox hg; have hnb30 := NB334_332.out; have hnc30 := NB332_334.out; obtain ⟨hcz31_0, hcz31_1, hcz31_2, hcz31_3, hcz31_4, hcz31_5, hcz31_6, hcz31_7, hcz31_8⟩ := cells_9 BK334.out; obtain ⟨hfz31_0, hfz31_1, hfz31_2, hfz31_3, hfz31_4, hfz31_5, hfz31_6, hfz31_7, hfz31_8⟩ := froz_9 BK334.out))
              have n0_ : Aside0 ((((((((((w29.setCell ⟨gb334, 0, none⟩ (.string ((rd_T76 l0_0 x10_1).f0))).setCell ⟨gb334, 1, none⟩ (.int .i64 ((rd_T76 l0_0 x10_1).f1.f0))).setCell ⟨gb334, 2, none⟩ (.int .i64 ((rd_T76 l0_0 x10_1).f1.f1))).setCell ⟨gb334, 3, none⟩ (.int .i64 ((rd_T76 l0_0 x10_1).f1.f2))).setCell ⟨gb334, 4, none⟩ (.int .i64 ((rd_T76 l0_0 x10_1).f2))).setCell ⟨gb334, 5, none⟩ (.int .i64 ((rd_T76 l0_0 x10_1).f3))).setCell ⟨gb334, 6, none⟩ (.int .i64 ((rd_T76 l0_0 x10_1).f4))).setCell ⟨gb334, 7, none⟩ (.int .i64 ((rd_T76 l0_0 x10_1).f5))).setCell ⟨gb334, 8, none⟩ (.int .i64 ((rd_T76 l0_0 x10_1).f6))).heap[gb332]? = some (.cells #[.slice (some ad333) l0_0.length c0_0, .slice A0_1 l0_1.length c0_1, .int .i64 a0_2, .int .i64 a0_3] 53 (0, 0))) := ⟨by (repeat (first | (with_reducible first | refine blk_drewN ?_ _ | refine blk_drew ?_ | refine blk_alloc ?_ _) | refine blk_far ?_ NB332_334.out _)); exact BK332.out⟩
              have n1_ : Aside0 ((((((((((w29.setCell ⟨gb334, 0, none⟩ (.string ((rd_T76 l0_0 x10_1).f0))).setCell ⟨gb334, 1, none⟩ (.int .i64 ((rd_T76 l0_0 x10_1).f1.f0))).setCell ⟨gb334, 2, none⟩ (.int .i64 ((rd_T76 l0_0 x10_1).f1.f1))).setCell ⟨gb334, 3, none⟩ (.int .i64 ((rd_T76 l0_0 x10_1).f1.f2))).setCell ⟨gb334, 4, none⟩ (.int .i64 ((rd_T76 l0_0 x10_1).f2))).setCell ⟨gb334, 5, none⟩ (.int .i64 ((rd_T76 l0_0 x10_1).f3))).setCell ⟨gb334, 6, none⟩ (.int .i64 ((rd_T76 l0_0 x10_1).f4))).setCell ⟨gb334, 7, none⟩ (.int .i64 ((rd_T76 l0_0 x10_1).f5))).setCell ⟨gb334, 8, none⟩ (.int .i64 ((rd_T76 l0_0 x10_1).f6))).heap[gb334]? = some (.cells #[.string ((rd_T76 l0_0 x10_1).f0), .int .i64 ((rd_T76 l0_0 x10_1).f1.f0), .int .i64 ((rd_T76 l0_0 x10_1).f1.f1), .int .i64 ((rd_T76 l0_0 x10_1).f1.f2), .int .i64 ((rd_T76 l0_0 x10_1).f2), .int .i64 ((rd_T76 l0_0 x10_1).f3), .int .i64 ((rd_T76 l0_0 x10_1).f4), .int .i64 ((rd_T76 l0_0 x10_1).f5), .int .i64 ((rd_T76 l0_0 x10_1).f6)] 76 (0, 0))) := ⟨by (with_reducible repeat (first | refine blk_drewN ?_ _ | refine blk_drew ?_ | refine blk_alloc ?_ _)); refine blk_put (cs := #[.string ((rd_T76 l0_0 x10_1).f0), .int .i64 ((rd_T76 l0_0 x10_1).f1.f0), .int .i64 ((rd_T76 l0_0 x10_1).f1.f1), .int .i64 ((rd_T76 l0_0 x10_1).f1.f2), .int .i64 ((rd_T76 l0_0 x10_1).f2), .int .i64 ((rd_T76 l0_0 x10_1).f3), .int .i64 ((rd_T76 l0_0 x10_1).f4), .int .i64 ((rd_T76 l0_0 x10_1).f5), .int .i64 0]) ?_ 8 _ rfl; (with_reducible repeat (first | refine blk_drewN ?_ _ | refine blk_drew ?_ | refine blk_alloc ?_ _)); refine blk_put (cs := #[.string ((rd_T76 l0_0 x10_1).f0), .int .i64 ((rd_T76 l0_0 x10_1).f1.f0), .int .i64 ((rd_T76 l0_0 x10_1).f1.f1), .int .i64 ((rd_T76 l0_0 x10_1).f1.f2), .int .i64 ((rd_T76 l0_0 x10_1).f2), .int .i64 ((rd_T76 l0_0 x10_1).f3), .int .i64 ((rd_T76 l0_0 x10_1).f4), .int .i64 0, .int .i64 0]) ?_ 7 _ rfl; (with_reducible repeat (first | refine blk_drewN ?_ _ | refine blk_drew ?_ | refine blk_alloc ?_ _)); refine blk_put (cs := #[.string ((rd_T76 l0_0 x10_1).f0), .int .i64 ((rd_T76 l0_0 x10_1).f1.f0), .int .i64 ((rd_T76 l0_0 x10_1).f1.f1), .int .i64 ((rd_T76 l0_0 x10_1).f1.f2), .int .i64 ((rd_T76 l0_0 x10_1).f2), .int .i64 ((rd_T76 l0_0 x10_1).f3), .int .i64 0, .int .i64 0, .int .i64 0]) ?_ 6 _ rfl; (with_reducible repeat (first | refine blk_drewN ?_ _ | refine blk_drew ?_ | refine blk_alloc ?_ _)); refine blk_put (cs := #[.string ((rd_T76 l0_0 x10_1).f0), .int .i64 ((rd_T76 l0_0 x10_1).f1.f0), .int .i64 ((rd_T76 l0_0 x10_1).f1.f1), .int .i64 ((rd_T76 l0_0 x10_1).f1.f2), .int .i64 ((rd_T76 l0_0 x10_1).f2), .int .i64 0, .int .i64 0, .int .i64 0, .int .i64 0]) ?_ 5 _ rfl; (with_reducible repeat (first | refine blk_drewN ?_ _ | refine blk_drew ?_ | refine blk_alloc ?_ _)); refine blk_put (cs := #[.string ((rd_T76 l0_0 x10_1).f0), .int .i64 ((rd_T76 l0_0 x10_1).f1.f0), .int .i64 ((rd_T76 l0_0 x10_1).f1.f1), .int .i64 ((rd_T76 l0_0 x10_1).f1.f2), .int .i64 0, .int .i64 0, .int .i64 0, .int .i64 0, .int .i64 0]) ?_ 4 _ rfl; (with_reducible repeat (first | refine blk_drewN ?_ _ | refine blk_drew ?_ | refine blk_alloc ?_ _)); refine blk_put (cs := #[.string ((rd_T76 l0_0 x10_1).f0), .int .i64 ((rd_T76 l0_0 x10_1).f1.f0), .int .i64 ((rd_T76 l0_0 x10_1).f1.f1), .int .i64 0, .int .i64 0, .int .i64 0, .int .i64 0, .int .i64 0, .int .i64 0]) ?_ 3 _ rfl; (with_reducible repeat (first | refine blk_drewN ?_ _ | refine blk_drew ?_ | refine blk_alloc ?_ _)); refine blk_put (cs := #[.string ((rd_T76 l0_0 x10_1).f0), .int .i64 ((rd_T76 l0_0 x10_1).f1.f0), .int .i64 0, .int .i64 0, .int .i64 0, .int .i64 0, .int .i64 0, .int .i64 0, .int .i64 0]) ?_ 2 _ rfl; (with_reducible repeat (first | refine blk_drewN ?_ _ | refine blk_drew ?_ | refine blk_alloc ?_ _)); refine blk_put (cs := #[.string ((rd_T76 l0_0 x10_1).f0), .int .i64 0, .int .i64 0, .int .i64 0, .int .i64 0, .int .i64 0, .int .i64 0, .int .i64 0, .int .i64 0]) ?_ 1 _ rfl; (with_reducible repeat (first | refine blk_drewN ?_ _ | refine blk_drew ?_ | refine blk_alloc ?_ _)); refine blk_put (cs := #[.string (⟨#[]⟩ : ByteArray), .int .i64 0, .int .i64 0, .int .i64 0, .int .i64 0, .int .i64 0, .int .i64 0, .int .i64 0, .int .i64 0]) ?_ 0 _ rfl; (with_reducible repeat (first | refine blk_drewN ?_ _ | refine blk_drew ?_ | refine blk_alloc ?_ _)); exact BK334.out⟩
              have n2_ : Aside0 (Below w.heap.size w (((((((((w29.setCell ⟨gb334, 0, none⟩ (.string ((rd_T76 l0_0 x10_1).f0))).setCell ⟨gb334, 1, none⟩ (.int .i64 ((rd_T76 l0_0 x10_1).f1.f0))).setCell ⟨gb334, 2, none⟩ (.int .i64 ((rd_T76 l0_0 x10_1).f1.f1))).setCell ⟨gb334, 3, none⟩ (.int .i64 ((rd_T76 l0_0 x10_1).f1.f2))).setCell ⟨gb334, 4, none⟩ (.int .i64 ((rd_T76 l0_0 x10_1).f2))).setCell ⟨gb334, 5, none⟩ (.int .i64 ((rd_T76 l0_0 x10_1).f3))).setCell ⟨gb334, 6, none⟩ (.int .i64 ((rd_T76 l0_0 x10_1).f4))).setCell ⟨gb334, 7, none⟩ (.int .i64 ((rd_T76 l0_0 x10_1).f5))).setCell ⟨gb334, 8, none⟩ (.int .i64 ((rd_T76 l0_0 x10_1).f6)))) := ⟨by repeat (first | (with_reducible first | exact HB.out | apply below_alloc | apply pw_below_drewN | apply below_drew1 | refine below_set ?_ GE332.out | refine below_set ?_ GE334.out) | exact HB.out)⟩
              (try clear BK332)
              (try clear BK334)
              (try clear HB)
              generalize (((((((((w29.setCell ⟨gb334, 0, none⟩ (.string ((rd_T76 l0_0 x10_1).f0))).setCell ⟨gb334, 1, none⟩ (.int .i64 ((rd_T76 l0_0 x10_1).f1.f0))).setCell ⟨gb334, 2, none⟩ (.int .i64 ((rd_T76 l0_0 x10_1).f1.f1))).setCell ⟨gb334, 3, none⟩ (.int .i64 ((rd_T76 l0_0 x10_1).f1.f2))).setCell ⟨gb334, 4, none⟩ (.int .i64 ((rd_T76 l0_0 x10_1).f2))).setCell ⟨gb334, 5, none⟩ (.int .i64 ((rd_T76 l0_0 x10_1).f3))).setCell ⟨gb334, 6, none⟩ (.int .i64 ((rd_T76 l0_0 x10_1).f4))).setCell ⟨gb334, 7, none⟩ (.int .i64 ((rd_T76 l0_0 x10_1).f5))).setCell ⟨gb334, 8, none⟩ (.int .i64 ((rd_T76 l0_0 x10_1).f6))) = w32 at n0_ n1_ n2_ ⊢
              have BK332 := n0_
              have BK334 := n1_
              have HB := n2_
              clear n0_ n1_ n2_
              have n0_ := Aside0.mk (blk_drew BK332.out)
              have n1_ := Aside0.mk (blk_drew BK334.out)
              have n2_ := Aside0.mk (below_drew1 HB.out)
              clear BK332
              clear BK334
              clear HB
              have BK332 := n0_
              have BK334 := n1_
              have HB := n2_
              clear n0_ n1_ n2_
              refine start_ (n := 13) (S := fun w' => w'.cell? ⟨gb334, 0, none⟩ = some (.string ((rd_T76 l0_0 x10_1).f0)) ∧ w'.cell? ⟨gb334, 1, none⟩ = some (.int .i64 ((rd_T76 l0_0 x10_1).f1.f0)) ∧ w'.cell? ⟨gb334, 2, none⟩ = some (.int .i64 ((rd_T76 l0_0 x10_1).f1.f1)) ∧ w'.cell? ⟨gb334, 3, none⟩ = some (.int .i64 ((rd_T76 l0_0 x10_1).f1.f2)) ∧ w'.cell? ⟨gb334, 4, none⟩ = some (.int .i64 ((rd_T76 l0_0 x10_1).f2)) ∧ w'.cell? ⟨gb334, 5, none⟩ = some (.int .i64 ((rd_T76 l0_0 x10_1).f3)) ∧ w'.cell? ⟨gb334, 6, none⟩ = some (.int .i64 ((rd_T76 l0_0 x10_1).f4)) ∧ w'.cell? ⟨gb334, 7, none⟩ = some (.int .i64 ((rd_T76 l0_0 x10_1).f5)) ∧ w'.cell? ⟨gb334, 8, none⟩ = some (.int .i64 ((rd_T76 l0_0 x10_1).f6))) (ds := []) #[false, false, false, false, false, false, false, false, false, false, false, false, false] (by kernel_rfl) rfl rfl ⟨(blk_cell BK334.out 0).trans rfl, (blk_cell BK334.out 1).trans rfl, (blk_cell BK334.out 2).trans rfl, (blk_cell BK334.out 3).trans rfl, (blk_cell BK334.out 4).trans rfl, (blk_cell BK334.out 5).trans rfl, (blk_cell BK334.out 6).trans rfl, (blk_cell BK334.out 7).trans rfl, (blk_cell BK334.out 8).trans rfl⟩ (fun hHeld => ?_); refine with_tabW foghornref13_Right.tab4 foghornref13_Right.bits4 (fun HT_ HW_ => ?_)
              generalize w32.drew = w33 at BK332 BK334 HB hHeld ⊢
              refine take_ (i := 0) (N := some 15) (v := ?_) (a' := ?_) #[true, false, false, false, false, false, false, false, false, false, false, false, false] rfl rfl (take_ofW HT_.out HW_.out (by kernel_rfl)) (fun _ _ _ h => h) (Or.inl ⟨by rfl, ?_⟩) hHeld ?_ ?_
              rotate_left
              · rintro w' ⟨s0, s1, s2, s3, s4, s5, s6, s7, s8⟩
                go_simp
                with_reducible rfl
              rotate_left
              · simp only [Act.put, List.setIfInBounds_toArray, List.set_cons_zero, List.set_cons_succ, i64_w, i32_w]
                rfl
              refine one_ (i := 1) (N := some 16) #[true, true, false, false, false, false, false, false, false, false, false, false, false] rfl rfl (one_of HT_.out (by kernel_rfl)) (by decide) (fun K hK => ?_)
              refine goes_ Try.func75 (by kernel_rfl) rfl #[.agg #[.string ((rd_T76 l0_0 x10_1).f0), .int .i64 ((rd_T76 l0_0 x10_1).f1.f0), .int .i64 ((rd_T76 l0_0 x10_1).f1.f1), .int .i64 ((rd_T76 l0_0 x10_1).f1.f2), .int .i64 ((rd_T76 l0_0 x10_1).f2), .int .i64 ((rd_T76 l0_0 x10_1).f3), .int .i64 ((rd_T76 l0_0 x10_1).f4), .int .i64 ((rd_T76 l0_0 x10_1).f5), .int .i64 ((rd_T76 l0_0 x10_1).f6)]] (by rfl) rfl rfl (by (try simp only [List.map_toArray, List.map_cons, List.map_nil]); first | done | rfl | (simp only [List.length_drop, List.length_take]; rfl)) ?_
              with_reducible refine (foghornref13_receiver.calls k1 ((rd_T76 l0_0 x10_1).f0) ((rd_T76 l0_0 x10_1).f1.f0) ((rd_T76 l0_0 x10_1).f1.f1) ((rd_T76 l0_0 x10_1).f1.f2) ((rd_T76 l0_0 x10_1).f2) ((rd_T76 l0_0 x10_1).f3) ((rd_T76 l0_0 x10_1).f4) ((rd_T76 l0_0 x10_1).f5) ((rd_T76 l0_0 x10_1).f6) false _ A7.out).mono ?_
              rintro e w34 ⟨rfl, hb⟩
              refine ⟨_, rfl, ?_⟩
              have n0_ := Aside0.mk (blk_below (g := gb332) (o := .cells #[.slice (some ad333) l0_0.length c0_0, .slice A0_1 l0_1.length c0_1, .int .i64 a0_2, .int .i64 a0_3] 53 (0, 0)) (by (with_reducible repeat (first | refine blk_drewN ?_ _ | refine blk_drew ?_ | refine blk_alloc ?_ _)); exact BK332.out) hb)
              have n1_ := Aside0.mk (blk_below (g := gb334) (o := .cells #[.string ((rd_T76 l0_0 x10_1).f0), .int .i64 ((rd_T76 l0_0 x10_1).f1.f0), .int .i64 ((rd_T76 l0_0 x10_1).f1.f1), .int .i64 ((rd_T76 l0_0 x10_1).f1.f2), .int .i64 ((rd_T76 l0_0 x10_1).f2), .int .i64 ((rd_T76 l0_0 x10_1).f3), .int .i64 ((rd_T76 l0_0 x10_1).f4), .int .i64 ((rd_T76 l0_0 x10_1).f5), .int .i64 ((rd_T76 l0_0 x10_1).f6)] 76 (0, 0)) (by (with_reducible repeat (first | refine blk_drewN ?_ _ | refine blk_drew ?_ | refine blk_alloc ?_ _)); exact BK334.out) hb)
              have n2_ := Aside0.mk (below_step (by repeat (first | (with_reducible first | exact HB.out | apply below_alloc | apply pw_below_drewN | apply below_drew1 | refine below_set ?_ GE332.out | refine below_set ?_ GE334.out) | exact HB.out)) hb)
              clear BK332
              clear BK334
              clear HB
              have BK332 := n0_
              have BK334 := n1_
              have HB := n2_
              clear n0_ n1_ n2_
              (try clear hb)
              (try clear hb2)
              (try clear hk)
              (try clear hi)
              refine hK.out _ _ ⟨(blk_cell BK334.out 0).trans rfl, (blk_cell BK334.out 1).trans rfl, (blk_cell BK334.out 2).trans rfl, (blk_cell BK334.out 3).trans rfl, (blk_cell BK334.out 4).trans rfl, (blk_cell BK334.out 5).trans rfl, (blk_cell BK334.out 6).trans rfl, (blk_cell BK334.out 7).trans rfl, (blk_cell BK334.out 8).trans rfl⟩ (fun hHeld => ?_)
              clear hK K
              refine norm_ (a' := ?_) ?_ ?_
              rotate_left
              · show Act.put _ (some 16) _ = _
                simp only [Act.put, List.setIfInBounds_toArray, List.set_cons_zero, List.set_cons_succ, i64_w, i32_w]
                rfl
              refine pure_ (i := 2) (N := some 17) (v := ?_) (a' := ?_) #[true, true, true, false, false, false, false, false, false, false, false, false, false] rfl rfl (any_of HT_.out (by kernel_rfl)) (fun _ _ _ h => h) (Or.inl ⟨by rfl, ?_⟩) ?_ ?_
              rotate_left
              · intro w'
                go_simp
                with_reducible rfl
              rotate_left
              · simp only [Act.put, List.setIfInBounds_toArray, List.set_cons_zero, List.set_cons_succ, i64_w, i32_w]
                rfl
              refine pure_ (i := 3) (N := some 18) (v := ?_) (a' := ?_) #[true, true, true, true, false, false, false, false, false, false, false, false, false] rfl rfl (any_of HT_.out (by kernel_rfl)) (fun _ _ _ h => h) (Or.inl ⟨by rfl, ?_⟩) ?_ ?_
              rotate_left
              · intro w'
                go_simp
                with_reducible rfl
              rotate_left
              · simp only [Act.put, List.setIfInBounds_toArray, List.set_cons_zero, List.set_cons_succ, i64_w, i32_w]
                rfl
              refine pure_ (i := 4) (N := some 19) (v := undef) (a' := ?_) #[true, true, true, true, true, false, false, false, false, false, false, false, false] rfl rfl (any_of HT_.out (by kernel_rfl)) (fun _ _ _ h => h) (Or.inr ⟨by rfl, rfl⟩) ?_ ?_
              rotate_left
              · simp only [Act.put, List.setIfInBounds_toArray, List.set_cons_zero, List.set_cons_succ, i64_w, i32_w]
                rfl
              refine pure_ (i := 5) (N := some 20) (v := undef) (a' := ?_) #[true, true, true, true, true, true, false, false, false, false, false, false, false] rfl rfl (any_of HT_.out (by kernel_rfl)) (fun _ _ _ h => h) (Or.inr ⟨by rfl, rfl⟩) ?_ ?_
              rotate_left
              · simp only [Act.put, List.setIfInBounds_toArray, List.set_cons_zero, List.set_cons_succ, i64_w, i32_w]
                rfl
              refine pure_ (i := 6) (N := some 21) (v := undef) (a' := ?_) #[true, true, true, true, true, true, true, false, false, false, false, false, false] rfl rfl (any_of HT_.out (by kernel_rfl)) (fun _ _ _ h => h) (Or.inr ⟨by rfl, rfl⟩) ?_ ?_
              rotate_left
              · simp only [Act.put, List.setIfInBounds_toArray, List.set_cons_zero, List.set_cons_succ, i64_w, i32_w]
                rfl
              refine pure_ (i := 7) (N := some 22) (v := undef) (a' := ?_) #[true, true, true, true, true, true, true, true, false, false, false, false, false] rfl rfl (any_of HT_.out (by kernel_rfl)) (fun _ _ _ h => h) (Or.inr ⟨by rfl, rfl⟩) ?_ ?_
              rotate_left
              · simp only [Act.put, List.setIfInBounds_toArray, List.set_cons_zero, List.set_cons_succ, i64_w, i32_w]
                rfl
              refine pure_ (i := 8) (N := some 23) (v := undef) (a' := ?_) #[true, true, true, true, true, true, true, true, true, false, false, false, false] rfl rfl (any_of HT_.out (by kernel_rfl)) (fun _ _ _ h => h) (Or.inr ⟨by rfl, rfl⟩) ?_ ?_
              rotate_left
              · simp only [Act.put, List.setIfInBounds_toArray, List.set_cons_zero, List.set_cons_succ, i64_w, i32_w]
                rfl
              refine pure_ (i := 9) (N := some 24) (v := undef) (a' := ?_) #[true, true, true, true, true, true, true, true, true, true, false, false, false] rfl rfl (any_of HT_.out (by kernel_rfl)) (fun _ _ _ h => h) (Or.inr ⟨by rfl, rfl⟩) ?_ ?_
              rotate_left
              · simp only [Act.put, List.setIfInBounds_toArray, List.set_cons_zero, List.set_cons_succ, i64_w, i32_w]
                rfl
              refine pure_ (i := 10) (N := some 25) (v := undef) (a' := ?_) #[true, true, true, true, true, true, true, true, true, true, true, false, false] rfl rfl (any_of HT_.out (by kernel_rfl)) (fun _ _ _ h => h) (Or.inr ⟨by rfl, rfl⟩) ?_ ?_
              rotate_left
              · simp only [Act.put, List.setIfInBounds_toArray, List.set_cons_zero, List.set_cons_succ, i64_w, i32_w]
                rfl
              refine pure_ (i := 11) (N := some 26) (v := undef) (a' := ?_) #[true, true, true, true, true, true, true, true, true, true, true, true, false] rfl rfl (any_of HT_.out (by kernel_rfl)) (fun _ _ _ h => h) (Or.inr ⟨by rfl, rfl⟩) ?_ ?_
              rotate_left
              · simp only [Act.put, List.setIfInBounds_toArray, List.set_cons_zero, List.set_cons_succ, i64_w, i32_w]
                rfl
              refine pure_ (i := 12) (N := some 27) (v := ?_) (a' := ?_) #[true, true, true, true, true, true, true, true, true, true, true, true, true] rfl rfl (any_of HT_.out (by kernel_rfl)) (fun _ _ _ h => h) (Or.inl ⟨by rfl, ?_⟩) ?_ ?_
              rotate_left
              · intro w'
                go_simp
                with_reducible rfl
              rotate_left
              · simp only [Act.put, List.setIfInBounds_toArray, List.set_cons_zero, List.set_cons_succ, i64_w, i32_w]
                rfl
              refine done_ (done_of HT_.out (by kernel_rfl)) ?_
              try go_wp2
              go_ret
              exact ⟨by first | rfl | (simp [errW_none, errW_some] <;> rfl) | (simp [*, errW_none, errW_some] <;> rfl), by repeat (first | (with_reducible first | exact HB.out | apply below_alloc | apply pw_below_drewN | apply below_drew1 | refine below_set ?_ GE332.out | refine below_set ?_ GE334.out) | exact HB.out)⟩
          · rw [if_neg c6] at H
            exact absurd H (by simp)
        · rw [if_neg c5] at H
          exact absurd H (by simp)
      · rw [if_neg c4] at H
        have c4b0 : decide (x10_1 < (l0_0.length : Int)) = false := decide_eq_false c4
        clear c4
        have H' := Aside0.mk H
        clear H
        have hcz35_0 : wr.cell? ⟨gb332, 0, none⟩ = some (.slice A0_0 l0_0.length c0_0) := (blk_cell BK332.out 0).trans rfl
        have hcz35_1 : wr.cell? ⟨gb332, 1, none⟩ = some (.slice A0_1 l0_1.length c0_1) := (blk_cell BK332.out 1).trans rfl
        have hcz35_2 : wr.cell? ⟨gb332, 2, none⟩ = some (.int .i64 a0_2) := (blk_cell BK332.out 2).trans rfl
        have hcz35_3 : wr.cell? ⟨gb332, 3, none⟩ = some (.int .i64 a0_3) := (blk_cell BK332.out 3).trans rfl
        have hfz35_0 := blk_frozen BK332.out 0
        have hfz35_1 := blk_frozen BK332.out 1
        have hfz35_2 := blk_frozen BK332.out 2
        have hfz35_3 := blk_frozen BK332.out 3
        go_wp2
        go_loopg [32] k1 (fun kq v32 w' => ∃ (x32_2 : Int), v32 = .int .i64 x32_2 ∧ Aside0 (foghornref13_Right.l1 kq l0_1 (l0_1.length : Int) x32_2 l0_0 l0_1 a0_2 a0_3 = some r) ∧ Aside0 (kq ≤ k1) ∧ Aside0 (w'.heap[gb332]? = some (.cells #[(.slice A0_0 l0_0.length c0_0), (.slice A0_1 l0_1.length c0_1), .int .i64 a0_2, .int .i64 a0_3] 53 (0, 0))) ∧ Aside0 (Below w.heap.size w w'))
        case atStart => exact ⟨(0), (by first | rfl | (simp; done) | (simp [*]; done)), H', ⟨Nat.le_refl _⟩, ⟨by (with_reducible repeat (first | refine blk_drewN ?_ _ | refine blk_drew ?_ | refine blk_alloc ?_ _)); exact BK332.out⟩, ⟨by repeat (first | (with_reducible first | exact HB.out | apply below_alloc | apply pw_below_drewN | apply below_drew1 | refine below_set ?_ GE332.out) | exact HB.out)⟩⟩
        case round =>
          clear H'
          try clear c1
          try clear q1
          try clear c2
          try clear p2
          try clear q2
          try clear c3
          try clear p3
          try clear q3
          try clear hx3
          try clear c4
          try clear c4b0
          try clear c5
          try clear c6
          try clear p6
          try clear c7
          try clear c8
          try clear c9
          try clear c9b0
          try clear c10
          try clear c10b0
          try clear c10b1
          try clear c12
          try clear c12b0
          try clear c14
          try clear q19
          try clear c22
          try clear q27
          try clear c30
          try clear p33
          try clear q33
          try clear hx33
          try clear hcz15_0
          try clear hcz15_1
          try clear hcz15_2
          try clear hcz15_3
          try clear hcz15_4
          try clear hcz15_5
          try clear hcz15_6
          try clear hcz15_7
          try clear hcz15_8
          try clear hcz23_0
          try clear hcz23_1
          try clear hcz23_2
          try clear hcz23_3
          try clear hcz23_4
          try clear hcz23_5
          try clear hcz23_6
          try clear hcz23_7
          try clear hcz23_8
          try clear hcz31_0
          try clear hcz31_1
          try clear hcz31_2
          try clear hcz31_3
          try clear hcz31_4
          try clear hcz31_5
          try clear hcz31_6
          try clear hcz31_7
          try clear hcz31_8
          try clear hcz35_0
          try clear hcz35_1
          try clear hcz35_2
          try clear hcz35_3
          try clear hfz15_0
          try clear hfz15_1
          try clear hfz15_2
          try clear hfz15_3
          try clear hfz15_4
          try clear hfz15_5
          try clear hfz15_6
          try clear hfz15_7
          try clear hfz15_8
          try clear hfz23_0
          try clear hfz23_1
          try clear hfz23_2
          try clear hfz23_3
          try clear hfz23_4
          try clear hfz23_5
          try clear hfz23_6
          try clear hfz23_7
          try clear hfz23_8
          try clear hfz31_0
          try clear hfz31_1
          try clear hfz31_2
          try clear hfz31_3
          try clear hfz31_4
          try clear hfz31_5
          try clear hfz31_6
          try clear hfz31_7
          try clear hfz31_8
          try clear hfz35_0
          try clear hfz35_1
          try clear hfz35_2
          try clear hfz35_3
          try clear hx333_0
          try clear hx333_1
          try clear hx333_2
          try clear hx333_3
          try clear hx333_4
          try clear hx333_5
          try clear hx333_6
          try clear hx333_7
          try clear hx333_8
          try clear p333
          try clear q19
          try clear q27
          try clear q333
          obtain ⟨x32_2, rfl, HA, HK2, BK332, HB⟩ := hrel
          cases gk with
          | zero => exact absurd HA.out (by simp [foghornref13_Right.l1])
          | succ k2 =>
            have H := HA.out
            clear HA
            simp only [foghornref13_Right.l1] at H
            by_cases c36 : x32_2 < (l0_1.length : Int)
            · rw [if_pos c36] at H
              have c36b0 : decide (x32_2 < (l0_1.length : Int)) = true := decide_eq_true c36
              clear c36
              by_cases c37 : 0 ≤ x32_2
              · rw [if_pos c37] at H
                have c37b0 : decide (0 ≤ x32_2) = true := decide_eq_true c37
                clear c37
                by_cases c38 : x32_2 < (l0_1.length : Int)
                · rw [if_pos c38] at H
                  have c38b0 : decide (x32_2 < (l0_1.length : Int)) = true := decide_eq_true c38
                  clear c38
                  replace H := Option.bind_eq_some_iff.mp H
                  obtain ⟨t343, A390, H⟩ := H
                  replace H : (if t343 = true then (foghornref13_Right.l1 k2 l0_1 (l0_1.length : Int) (wrap64 (x32_2 + 1)) l0_0 l0_1 a0_2 a0_3) else (some false)) = some r := H
                  have A39 := Aside0.mk A390
                  clear A390
                  by_cases c40 : t343 = true
                  · subst c40
                    have H1 : (foghornref13_Right.l1 k2 l0_1 (l0_1.length : Int) (wrap64 (x32_2 + 1)) l0_0 l0_1 a0_2 a0_3) = some r := by rw [if_pos rfl] at H; exact H
                    clear H
                    have H := H1
                    clear H1
                    have H' := Aside0.mk H
                    clear H
                    have p341 : 0 ≤ (x32_2 : Int) := of_decide_eq_true (by first | (with_reducible assumption) | assumption)
                    have q341 : x32_2 < (l0_1.length : Int) := of_decide_eq_true (by first | (with_reducible assumption) | assumption)
                    obtain ⟨ad341, A341_0, c341_0, A341_1, c341_1, e341, hx341_0, hx341_1, hl341_0, hi341_0, hl341_1, hi341_1⟩ := at_T58 HR0_1.out x32_2 p341 q341
                    cases e341
                    replace hx341_0 := (HB.out.cell (World.block_lt_of_cell? w _ hx341_0)).trans hx341_0
                    replace hx341_1 := (HB.out.cell (World.block_lt_of_cell? w _ hx341_1)).trans hx341_1
                    have HR341_0 := Aside0.mk hi341_0
                    have HC341_0 := Aside0.mk hl341_0
                    clear hi341_0 hl341_0
                    have HR341_1 := Aside0.mk hi341_1
                    have HC341_1 := Aside0.mk hl341_1
                    clear hi341_1 hl341_1
                    replace p341 := eq_true p341
                    replace q341 := eq_true q341
                    go_wp2_with (first | ((with_reducible refine gate_dst (N := 6) rfl ?_); (try (refine gate_guard (by rfl) ?_; dsimp only)); refine box_event ?hg (N := 6) ?hd (cs := #[.slice none 0 0, .slice none 0 0]) (t := 58) ?hr ?_; (case hd => rfl); (case hg => rfl); (case hr => first | (go_simp; done) | (go_simp; rfl)); intro gb342 hg w41 hbox hb; have n0_ := Aside0.mk (blk_below (g := gb332) (o := .cells #[.slice A0_0 l0_0.length c0_0, .slice (some ad341) l0_1.length c0_1, .int .i64 a0_2, .int .i64 a0_3] 53 (0, 0)) (by (with_reducible repeat (first | refine blk_drewN ?_ _ | refine blk_drew ?_ | refine blk_alloc ?_ _)); exact BK332.out) hb); have n1_ := Aside0.mk (below_step (by repeat (first | (with_reducible first | exact HB.out | apply below_alloc | apply pw_below_drewN | apply below_drew1 | refine below_set ?_ GE332.out) | exact HB.out)) hb); have n2_ := Aside0.mk (hbox); have n3_ := Aside0.mk ((by rw [hg]; exact (below_size (by repeat (first | (with_reducible first | exact HB.out | apply below_alloc | apply pw_below_drewN | apply below_drew1 | refine below_set ?_ GE332.out) | exact HB.out))) : w.heap.size ≤ gb342)); have n4_ := n3_; have n5_ := Aside0.mk ((by rw [hg]; exact Nat.ne_of_lt (blk_lt (g := gb332) (o := .cells #[.slice A0_0 l0_0.length c0_0, .slice (some ad341) l0_1.length c0_1, .int .i64 a0_2, .int .i64 a0_3] 53 (0, 0)) (by (with_reducible repeat (first | refine blk_drewN ?_ _ | refine blk_drew ?_ | refine blk_alloc ?_ _)); exact BK332.out)) : gb332 ≠ gb342)); have n6_ := Aside0.mk ((by rw [hg]; exact Nat.ne_of_gt (blk_lt (g := gb332) (o := .cells #[.slice A0_0 l0_0.length c0_0, .slice (some ad341) l0_1.length c0_1, .int .i64 a0_2, .int .i64 a0_3] 53 (0, 0)) (by (with_reducible repeat (first | refine blk_drewN ?_ _ | refine blk_drew ?_ | refine blk_alloc ?_ _)); exact BK332.out)) : gb342 ≠ gb332)); clear BK332; clear HB; have BK332 := n0_; have HB := n1_; have BK342 := n2_; have GW342 := n3_; have GE342 := n4_; have NB332_342 := n5_; have NB342_332 := n6_; clear n0_ n1_ n2_ n3_ n4_ n5_ n6_; clear hb hbox hg; have hnb42 := NB342_332.out; have hnc42 := NB332_342.out; have hcz43_0 : w41.cell? ⟨gb342, 0, none⟩ = some (.slice none 0 0) := (blk_cell BK342.out 0).trans rfl; have hcz43_1 : w41.cell? ⟨gb342, 1, none⟩ = some (.slice none 0 0) := (blk_cell BK342.out 1).trans rfl; have hfz43_0 := blk_frozen BK342.out 0; have hfz43_1 := blk_frozen BK342.out 1; obtain ⟨hcz44_0, hcz44_1, hcz44_2, hcz44_3⟩ := cells_4 BK332.out; obtain ⟨hfz44_0, hfz44_1, hfz44_2, hfz44_3⟩ := froz_4 BK332.out) | ((with_reducible refine gate_callee (f := 77) rfl ?_); refine goesL_ (some 40) rfl rfl Try.func77 (by kernel_rfl) rfl #[.agg #[.slice A341_0 ((rd_T58 l0_1 x32_2).f0).length c341_0, .slice A341_1 ((rd_T58 l0_1 x32_2).f1).length c341_1], .int .i64 (l0_0.length : Int)] rfl (by (try simp only [List.map_toArray, List.map_cons, List.map_nil]); first | done | rfl | (simp only [List.length_drop, List.length_take]; rfl)) ?_; (with_reducible refine (foghornref13_route.calls k2 _ _ ((rd_T58 l0_1 x32_2).f0) _ _ ((rd_T58 l0_1 x32_2).f1) (l0_0.length : Int) true _ ?side1 ?side2 ?side3 ?side4 A39.out).mono ?_); (case side1 => exact Kd.C_below HR341_0.out (by repeat (first | (with_reducible first | exact HB.out | apply below_alloc | apply pw_below_drewN | apply below_drew1 | refine below_set ?_ GE332.out | refine below_set ?_ GE342.out) | exact HB.out))); (case side2 => exact HC341_0.out); (case side3 => exact Kd.C_below HR341_1.out (by repeat (first | (with_reducible first | exact HB.out | apply below_alloc | apply pw_below_drewN | apply below_drew1 | refine below_set ?_ GE332.out | refine below_set ?_ GE342.out) | exact HB.out))); (case side4 => exact HC341_1.out); rintro e w45 ⟨rfl, hb⟩; refine ⟨_, rfl, ?_⟩; have n0_ := Aside0.mk (blk_below (g := gb332) (o := .cells #[.slice A0_0 l0_0.length c0_0, .slice (some ad341) l0_1.length c0_1, .int .i64 a0_2, .int .i64 a0_3] 53 (0, 0)) (by (repeat (first | (with_reducible first | refine blk_drewN ?_ _ | refine blk_drew ?_ | refine blk_alloc ?_ _) | refine blk_far ?_ NB332_342.out _)); exact BK332.out) hb); have n1_ := Aside0.mk (blk_below (g := gb342) (o := .cells #[.slice A341_0 ((rd_T58 l0_1 x32_2).f0).length c341_0, .slice A341_1 ((rd_T58 l0_1 x32_2).f1).length c341_1] 58 (0, 0)) (by (with_reducible repeat (first | refine blk_drewN ?_ _ | refine blk_drew ?_ | refine blk_alloc ?_ _)); refine blk_put (cs := #[.slice A341_0 ((rd_T58 l0_1 x32_2).f0).length c341_0, .slice none 0 0]) ?_ 1 _ rfl; (with_reducible repeat (first | refine blk_drewN ?_ _ | refine blk_drew ?_ | refine blk_alloc ?_ _)); refine blk_put (cs := #[.slice none 0 0, .slice none 0 0]) ?_ 0 _ rfl; (with_reducible repeat (first | refine blk_drewN ?_ _ | refine blk_drew ?_ | refine blk_alloc ?_ _)); exact BK342.out) hb); have n2_ := Aside0.mk (below_step (by repeat (first | (with_reducible first | exact HB.out | apply below_alloc | apply pw_below_drewN | apply below_drew1 | refine below_set ?_ GE332.out | refine below_set ?_ GE342.out) | exact HB.out)) hb); clear BK332; clear BK342; clear HB; have BK332 := n0_; have BK342 := n1_; have HB := n2_; clear n0_ n1_ n2_; (try clear hb); (try clear hb2); (try clear hk); (try clear hi)))
                    go_roundg k2
                    case measure => have := HK1.out; have := HK2.out; omega
                    case rel => exact ⟨(wrap64 (x32_2 + 1)), (by first | rfl | (simp; done) | (simp [*]; done)), H', ⟨by have := HK1.out; have := HK2.out; omega⟩, ⟨by (with_reducible repeat (first | refine blk_drewN ?_ _ | refine blk_drew ?_ | refine blk_alloc ?_ _)); exact BK332.out⟩, ⟨by repeat (first | (with_reducible first | exact HB.out | apply below_alloc | apply pw_below_drewN | apply below_drew1 | refine below_set ?_ GE332.out | refine below_set ?_ GE342.out) | exact HB.out)⟩⟩
                  · replace c40 := Bool.eq_false_iff.mpr c40
                    subst c40
                    have H1 : (some false) = some r := by rw [if_neg (show ¬ (false = true) by decide)] at H; exact H
                    clear H
                    have H := H1
                    clear H1
                    obtain rfl := Option.some.inj H
                    have p341 : 0 ≤ (x32_2 : Int) := of_decide_eq_true (by first | (with_reducible assumption) | assumption)
                    have q341 : x32_2 < (l0_1.length : Int) := of_decide_eq_true (by first | (with_reducible assumption) | assumption)
                    obtain ⟨ad341, A341_0, c341_0, A341_1, c341_1, e341, hx341_0, hx341_1, hl341_0, hi341_0, hl341_1, hi341_1⟩ := at_T58 HR0_1.out x32_2 p341 q341
                    cases e341
                    replace hx341_0 := (HB.out.cell (World.block_lt_of_cell? w _ hx341_0)).trans hx341_0
                    replace hx341_1 := (HB.out.cell (World.block_lt_of_cell? w _ hx341_1)).trans hx341_1
                    have HR341_0 := Aside0.mk hi341_0
                    have HC341_0 := Aside0.mk hl341_0
                    clear hi341_0 hl341_0
                    have HR341_1 := Aside0.mk hi341_1
                    have HC341_1 := Aside0.mk hl341_1
                    clear hi341_1 hl341_1
                    replace p341 := eq_true p341
                    replace q341 := eq_true q341
                    go_wp2_with (first | ((with_reducible refine gate_dst (N := 6) rfl ?_); (try (refine gate_guard (by rfl) ?_; dsimp only)); refine box_event ?hg (N := 6) ?hd (cs := #[.slice none 0 0, .slice none 0 0]) (t := 58) ?hr ?_; (case hd => rfl); (case hg => rfl); (case hr => first | (go_simp; done) | (go_simp; rfl)); intro gb342 hg w46 hbox hb; have n0_ := Aside0.mk (blk_below (g := gb332) (o := .cells #[.slice A0_0 l0_0.length c0_0, .slice (some ad341) l0_1.length c0_1, .int .i64 a0_2, .int .i64 a0_3] 53 (0, 0)) (by (with_reducible repeat (first | refine blk_drewN ?_ _ | refine blk_drew ?_ | refine blk_alloc ?_ _)); exact BK332.out) hb); have n1_ := Aside0.mk (below_step (by repeat (first | (with_reducible first | exact HB.out | apply below_alloc | apply pw_below_drewN | apply below_drew1 | refine below_set ?_ GE332.out) | exact HB.out)) hb); have n2_ := Aside0.mk (hbox); have n3_ := Aside0.mk ((by rw [hg]; exact (below_size (by repeat (first | (with_reducible first | exact HB.out | apply below_alloc | apply pw_below_drewN | apply below_drew1 | refine below_set ?_ GE332.out) | exact HB.out))) : w.heap.size ≤ gb342)); have n4_ := n3_; have n5_ := Aside0.mk ((by rw [hg]; exact Nat.ne_of_lt (blk_lt (g := gb332) (o := .cells #[.slice A0_0 l0_0.length c0_0, .slice (some ad341) l0_1.length c0_1, .int .i64 a0_2, .int .i64 a0_3] 53 (0, 0)) (by (with_reducible repeat (first | refine blk_drewN ?_ _ | refine blk_drew ?_ | refine blk_alloc ?_ _)); exact BK332.out)) : gb332 ≠ gb342)); have n6_ := Aside0.mk ((by rw [hg]; exact Nat.ne_of_gt (blk_lt (g := gb332) (o := .cells #[.slice A0_0 l0_0.length c0_0, .slice (some ad341) l0_1.length c0_1, .int .i64 a0_2, .int .i64 a0_3] 53 (0, 0)) (by (with_reducible repeat (first | refine blk_drewN ?_ _ | refine blk_drew ?_ | refine blk_alloc ?_ _)); exact BK332.out)) : gb342 ≠ gb332)); clear BK332; clear HB; have BK332 := n0_; have HB := n1_; have BK342 := n2_; have GW342 := n3_; have GE342 := n4_; have NB332_342 := n5_; have NB342_332 := n6_; clear n0_ n1_ n2_ n3_ n4_ n5_ n6_; clear hb hbox hg; have hnb47 := NB342_332.out; have hnc47 := NB332_342.out; have hcz48_0 : w46.cell? ⟨gb342, 0, none⟩ = some (.slice none 0 0) := (blk_cell BK342.out 0).trans rfl; have hcz48_1 : w46.cell? ⟨gb342, 1, none⟩ = some (.slice none 0 0) := (blk_cell BK342.out 1).trans rfl; have hfz48_0 := blk_frozen BK342.out 0; have hfz48_1 := blk_frozen BK342.out 1; obtain ⟨hcz49_0, hcz49_1, hcz49_2, hcz49_3⟩ := cells_4 BK332.out; obtain ⟨hfz49_0, hfz49_1, hfz49_2, hfz49_3⟩ := froz_4 BK332.out) | ((with_reducible refine gate_callee (f := 77) rfl ?_); refine goesL_ (some 40) rfl rfl Try.func77 (by kernel_rfl) rfl #[.agg #[.slice A341_0 ((rd_T58 l0_1 x32_2).f0).length c341_0, .slice A341_1 ((rd_T58 l0_1 x32_2).f1).length c341_1], .int .i64 (l0_0.length : Int)] rfl (by (try simp only [List.map_toArray, List.map_cons, List.map_nil]); first | done | rfl | (simp only [List.length_drop, List.length_take]; rfl)) ?_; (with_reducible refine (foghornref13_route.calls k2 _ _ ((rd_T58 l0_1 x32_2).f0) _ _ ((rd_T58 l0_1 x32_2).f1) (l0_0.length : Int) false _ ?side1 ?side2 ?side3 ?side4 A39.out).mono ?_); (case side1 => exact Kd.C_below HR341_0.out (by repeat (first | (with_reducible first | exact HB.out | apply below_alloc | apply pw_below_drewN | apply below_drew1 | refine below_set ?_ GE332.out | refine below_set ?_ GE342.out) | exact HB.out))); (case side2 => exact HC341_0.out); (case side3 => exact Kd.C_below HR341_1.out (by repeat (first | (with_reducible first | exact HB.out | apply below_alloc | apply pw_below_drewN | apply below_drew1 | refine below_set ?_ GE332.out | refine below_set ?_ GE342.out) | exact HB.out))); (case side4 => exact HC341_1.out); rintro e w50 ⟨rfl, hb⟩; refine ⟨_, rfl, ?_⟩; have n0_ := Aside0.mk (blk_below (g := gb332) (o := .cells #[.slice A0_0 l0_0.length c0_0, .slice (some ad341) l0_1.length c0_1, .int .i64 a0_2, .int .i64 a0_3] 53 (0, 0)) (by (repeat (first | (with_reducible first | refine blk_drewN ?_ _ | refine blk_drew ?_ | refine blk_alloc ?_ _) | refine blk_far ?_ NB332_342.out _)); exact BK332.out) hb); have n1_ := Aside0.mk (blk_below (g := gb342) (o := .cells #[.slice A341_0 ((rd_T58 l0_1 x32_2).f0).length c341_0, .slice A341_1 ((rd_T58 l0_1 x32_2).f1).length c341_1] 58 (0, 0)) (by (with_reducible repeat (first | refine blk_drewN ?_ _ | refine blk_drew ?_ | refine blk_alloc ?_ _)); refine blk_put (cs := #[.slice A341_0 ((rd_T58 l0_1 x32_2).f0).length c341_0, .slice none 0 0]) ?_ 1 _ rfl; (with_reducible repeat (first | refine blk_drewN ?_ _ | refine blk_drew ?_ | refine blk_alloc ?_ _)); refine blk_put (cs := #[.slice none 0 0, .slice none 0 0]) ?_ 0 _ rfl; (with_reducible repeat (first | refine blk_drewN ?_ _ | refine blk_drew ?_ | refine blk_alloc ?_ _)); exact BK342.out) hb); have n2_ := Aside0.mk (below_step (by repeat (first | (with_reducible first | exact HB.out | apply below_alloc | apply pw_below_drewN | apply below_drew1 | refine below_set ?_ GE332.out | refine below_set ?_ GE342.out) | exact HB.out)) hb); clear BK332; clear BK342; clear HB; have BK332 := n0_; have BK342 := n1_; have HB := n2_; clear n0_ n1_ n2_; (try clear hb); (try clear hb2); (try clear hk); (try clear hi)))
                    go_ret
                    exact ⟨by first | rfl | (simp [errW_none, errW_some] <;> rfl) | (simp [*, errW_none, errW_some] <;> rfl), by repeat (first | (with_reducible first | exact HB.out | apply below_alloc | apply pw_below_drewN | apply below_drew1 | refine below_set ?_ GE332.out | refine below_set ?_ GE342.out) | exact HB.out)⟩
                · rw [if_neg c38] at H
                  exact absurd H (by simp)
              · rw [if_neg c37] at H
                exact absurd H (by simp)
            · rw [if_neg c36] at H
              have c36b0 : decide (x32_2 < (l0_1.length : Int)) = false := decide_eq_false c36
              clear c36
              by_cases c51 : (l0_0.length : Int) ≥ 1
              · rw [if_pos c51] at H
                have c51b0 : decide (1 ≤ (l0_0.length : Int)) = true := decide_eq_true c51
                have c51b1 : decide (1 ≤ l0_0.length) = true := decide_eq_true (by omega)
                clear c51
                by_cases c52 : (l0_0.length : Int) ≤ 4
                · rw [if_pos c52] at H
                  have c52b0 : decide ((l0_0.length : Int) ≤ 4) = true := decide_eq_true c52
                  have c52b1 : decide (l0_0.length ≤ 4) = true := decide_eq_true (by omega)
                  clear c52
                  by_cases c53 : (l0_1.length : Int) ≥ 1
                  · rw [if_pos c53] at H
                    have c53b0 : decide (1 ≤ (l0_1.length : Int)) = true := decide_eq_true c53
                    have c53b1 : decide (1 ≤ l0_1.length) = true := decide_eq_true (by omega)
                    clear c53
                    by_cases c54 : (l0_1.length : Int) ≤ 4
                    · rw [if_pos c54] at H
                      have c54b0 : decide ((l0_1.length : Int) ≤ 4) = true := decide_eq_true c54
                      have c54b1 : decide (l0_1.length ≤ 4) = true := decide_eq_true (by omega)
                      clear c54
                      replace H := Option.bind_eq_some_iff.mp H
                      obtain ⟨t344, A550, H⟩ := H
                      replace H : (if t344 = true then ((foghornref13_often.f a0_3).bind fun t345 => (some t345)) else (some false)) = some r := H
                      have A55 := Aside0.mk A550
                      clear A550
                      by_cases c56 : t344 = true
                      · subst c56
                        have H1 : ((foghornref13_often.f a0_3).bind fun t345 => (some t345)) = some r := by rw [if_pos rfl] at H; exact H
                        clear H
                        have H := H1
                        clear H1
                        replace H := Option.bind_eq_some_iff.mp H
                        obtain ⟨t345, A570, H⟩ := H
                        replace H : (some t345) = some r := H
                        have A57 := Aside0.mk A570
                        clear A570
                        obtain rfl := Option.some.inj H
                        have hcz58_0 : wr.cell? ⟨gb332, 0, none⟩ = some (.slice A0_0 l0_0.length c0_0) := (blk_cell BK332.out 0).trans rfl
                        have hcz58_1 : wr.cell? ⟨gb332, 1, none⟩ = some (.slice A0_1 l0_1.length c0_1) := (blk_cell BK332.out 1).trans rfl
                        have hcz58_2 : wr.cell? ⟨gb332, 2, none⟩ = some (.int .i64 a0_2) := (blk_cell BK332.out 2).trans rfl
                        have hcz58_3 : wr.cell? ⟨gb332, 3, none⟩ = some (.int .i64 a0_3) := (blk_cell BK332.out 3).trans rfl
                        have hfz58_0 := blk_frozen BK332.out 0
                        have hfz58_1 := blk_frozen BK332.out 1
                        have hfz58_2 := blk_frozen BK332.out 2
                        have hfz58_3 := blk_frozen BK332.out 3
                        go_wp2_with (first | (go_at_call 78; (with_reducible refine (foghornref13_often.calls a0_2 true _ A55.out).mono ?_); rintro e w' ⟨rfl, ⟨nd, rfl⟩⟩) | (go_at_call 78; (with_reducible refine (foghornref13_often.calls a0_3 t345 _ A57.out).mono ?_); rintro e w' ⟨rfl, ⟨nd, rfl⟩⟩))
                        go_ret
                        exact ⟨by first | rfl | (simp [errW_none, errW_some] <;> rfl) | (simp [*, errW_none, errW_some] <;> rfl), by repeat (first | (with_reducible first | exact HB.out | apply below_alloc | apply pw_below_drewN | apply below_drew1 | refine below_set ?_ GE332.out) | exact HB.out)⟩
                      · replace c56 := Bool.eq_false_iff.mpr c56
                        subst c56
                        have H1 : (some false) = some r := by rw [if_neg (show ¬ (false = true) by decide)] at H; exact H
                        clear H
                        have H := H1
                        clear H1
                        obtain rfl := Option.some.inj H
                        have hcz59_0 : wr.cell? ⟨gb332, 0, none⟩ = some (.slice A0_0 l0_0.length c0_0) := (blk_cell BK332.out 0).trans rfl
                        have hcz59_1 : wr.cell? ⟨gb332, 1, none⟩ = some (.slice A0_1 l0_1.length c0_1) := (blk_cell BK332.out 1).trans rfl
                        have hcz59_2 : wr.cell? ⟨gb332, 2, none⟩ = some (.int .i64 a0_2) := (blk_cell BK332.out 2).trans rfl
                        have hcz59_3 : wr.cell? ⟨gb332, 3, none⟩ = some (.int .i64 a0_3) := (blk_cell BK332.out 3).trans rfl
                        have hfz59_0 := blk_frozen BK332.out 0
                        have hfz59_1 := blk_frozen BK332.out 1
                        have hfz59_2 := blk_frozen BK332.out 2
                        have hfz59_3 := blk_frozen BK332.out 3
                        go_wp2_with (first | (go_at_call 78; (with_reducible refine (foghornref13_often.calls a0_2 false _ A55.out).mono ?_); rintro e w' ⟨rfl, ⟨nd, rfl⟩⟩))
                        go_ret
                        exact ⟨by first | rfl | (simp [errW_none, errW_some] <;> rfl) | (simp [*, errW_none, errW_some] <;> rfl), by repeat (first | (with_reducible first | exact HB.out | apply below_alloc | apply pw_below_drewN | apply below_drew1 | refine below_set ?_ GE332.out) | exact HB.out)⟩
                    · rw [if_neg c54] at H
                      have c54b0 : decide ((l0_1.length : Int) ≤ 4) = false := decide_eq_false c54
                      have c54b1 : decide (l0_1.length ≤ 4) = false := decide_eq_false (by omega)
                      clear c54
                      obtain rfl := Option.some.inj H
                      have hcz60_0 : wr.cell? ⟨gb332, 0, none⟩ = some (.slice A0_0 l0_0.length c0_0) := (blk_cell BK332.out 0).trans rfl
                      have hcz60_1 : wr.cell? ⟨gb332, 1, none⟩ = some (.slice A0_1 l0_1.length c0_1) := (blk_cell BK332.out 1).trans rfl
                      have hcz60_2 : wr.cell? ⟨gb332, 2, none⟩ = some (.int .i64 a0_2) := (blk_cell BK332.out 2).trans rfl
                      have hcz60_3 : wr.cell? ⟨gb332, 3, none⟩ = some (.int .i64 a0_3) := (blk_cell BK332.out 3).trans rfl
                      have hfz60_0 := blk_frozen BK332.out 0
                      have hfz60_1 := blk_frozen BK332.out 1
                      have hfz60_2 := blk_frozen BK332.out 2
                      have hfz60_3 := blk_frozen BK332.out 3
                      go_wp2
                      go_ret
                      exact ⟨by first | rfl | (simp [errW_none, errW_some] <;> rfl) | (simp [*, errW_none, errW_some] <;> rfl), by repeat (first | (with_reducible first | exact HB.out | apply below_alloc | apply pw_below_drewN | apply below_drew1 | refine below_set ?_ GE332.out) | exact HB.out)⟩
                  · rw [if_neg c53] at H
                    have c53b0 : decide (1 ≤ (l0_1.length : Int)) = false := decide_eq_false c53
                    have c53b1 : decide (1 ≤ l0_1.length) = false := decide_eq_false (by omega)
                    clear c53
                    obtain rfl := Option.some.inj H
                    have hcz61_0 : wr.cell? ⟨gb332, 0, none⟩ = some (.slice A0_0 l0_0.length c0_0) := (blk_cell BK332.out 0).trans rfl
                    have hcz61_1 : wr.cell? ⟨gb332, 1, none⟩ = some (.slice A0_1 l0_1.length c0_1) := (blk_cell BK332.out 1).trans rfl
                    have hcz61_2 : wr.cell? ⟨gb332, 2, none⟩ = some (.int .i64 a0_2) := (blk_cell BK332.out 2).trans rfl
                    have hcz61_3 : wr.cell? ⟨gb332, 3, none⟩ = some (.int .i64 a0_3) := (blk_cell BK332.out 3).trans rfl
                    have hfz61_0 := blk_frozen BK332.out 0
                    have hfz61_1 := blk_frozen BK332.out 1
                    have hfz61_2 := blk_frozen BK332.out 2
                    have hfz61_3 := blk_frozen BK332.out 3
                    go_wp2
                    go_ret
                    exact ⟨by first | rfl | (simp [errW_none, errW_some] <;> rfl) | (simp [*, errW_none, errW_some] <;> rfl), by repeat (first | (with_reducible first | exact HB.out | apply below_alloc | apply pw_below_drewN | apply below_drew1 | refine below_set ?_ GE332.out) | exact HB.out)⟩
                · rw [if_neg c52] at H
                  have c52b0 : decide ((l0_0.length : Int) ≤ 4) = false := decide_eq_false c52
                  have c52b1 : decide (l0_0.length ≤ 4) = false := decide_eq_false (by omega)
                  clear c52
                  obtain rfl := Option.some.inj H
                  have hcz62_0 : wr.cell? ⟨gb332, 0, none⟩ = some (.slice A0_0 l0_0.length c0_0) := (blk_cell BK332.out 0).trans rfl
                  have hcz62_1 : wr.cell? ⟨gb332, 1, none⟩ = some (.slice A0_1 l0_1.length c0_1) := (blk_cell BK332.out 1).trans rfl
                  have hcz62_2 : wr.cell? ⟨gb332, 2, none⟩ = some (.int .i64 a0_2) := (blk_cell BK332.out 2).trans rfl
                  have hcz62_3 : wr.cell? ⟨gb332, 3, none⟩ = some (.int .i64 a0_3) := (blk_cell BK332.out 3).trans rfl
                  have hfz62_0 := blk_frozen BK332.out 0
                  have hfz62_1 := blk_frozen BK332.out 1
                  have hfz62_2 := blk_frozen BK332.out 2
                  have hfz62_3 := blk_frozen BK332.out 3
                  go_wp2
                  go_ret
                  exact ⟨by first | rfl | (simp [errW_none, errW_some] <;> rfl) | (simp [*, errW_none, errW_some] <;> rfl), by repeat (first | (with_reducible first | exact HB.out | apply below_alloc | apply pw_below_drewN | apply below_drew1 | refine below_set ?_ GE332.out) | exact HB.out)⟩
              · rw [if_neg c51] at H
                have c51b0 : decide (1 ≤ (l0_0.length : Int)) = false := decide_eq_false c51
                have c51b1 : decide (1 ≤ l0_0.length) = false := decide_eq_false (by omega)
                clear c51
                obtain rfl := Option.some.inj H
                have hcz63_0 : wr.cell? ⟨gb332, 0, none⟩ = some (.slice A0_0 l0_0.length c0_0) := (blk_cell BK332.out 0).trans rfl
                have hcz63_1 : wr.cell? ⟨gb332, 1, none⟩ = some (.slice A0_1 l0_1.length c0_1) := (blk_cell BK332.out 1).trans rfl
                have hcz63_2 : wr.cell? ⟨gb332, 2, none⟩ = some (.int .i64 a0_2) := (blk_cell BK332.out 2).trans rfl
                have hcz63_3 : wr.cell? ⟨gb332, 3, none⟩ = some (.int .i64 a0_3) := (blk_cell BK332.out 3).trans rfl
                have hfz63_0 := blk_frozen BK332.out 0
                have hfz63_1 := blk_frozen BK332.out 1
                have hfz63_2 := blk_frozen BK332.out 2
                have hfz63_3 := blk_frozen BK332.out 3
                go_wp2
                go_ret
                exact ⟨by first | rfl | (simp [errW_none, errW_some] <;> rfl) | (simp [*, errW_none, errW_some] <;> rfl), by repeat (first | (with_reducible first | exact HB.out | apply below_alloc | apply pw_below_drewN | apply below_drew1 | refine below_set ?_ GE332.out) | exact HB.out)⟩
end Go.Proofs.Ytkphinfijppkeaa.G
