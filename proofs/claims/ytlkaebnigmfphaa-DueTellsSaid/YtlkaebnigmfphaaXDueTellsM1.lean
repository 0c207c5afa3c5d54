/- Contracts of functions of the given program, and what they come to, for any arguments. No condition beyond each theorem's own premises. -/
import Derived.Test.YtlkaebnigmfphaaXDueTellsM0
namespace Go.Proofs.Ytlkaebnigmfphaa.G
open Go.RowKit Go.Proofs.YtlkaebnigmfphaaW.PrintWords Go.Proofs.YtlkaebnigmfphaaW.PrintLast Go.Proofs.YtlkaebnigmfphaaW.PrintMore
attribute [local go_sem] max2_int min2_int max_two min_two max_three min_three max_four min_four   -- for this text's walks alone
set_option linter.unusedVariables false
set_option linter.unusedSimpArgs false
mutual
def foghornref09_Sorted.l0 : Nat → List (S32) → List (S32) → Int → Int → Option ((List (S32)))
  | 0, _, _, _, _ => none
  | k + 1, x3, x9, x10, x11 => if x11 < x10 then (if 0 ≤ x11 then (if x11 < (x9.length : Int) then (foghornref09_Sorted.l1 k x3 0 x9 x10 x11 ((rd_T32 x9 x11).f0) ((rd_T32 x9 x11).f1)) else (none)) else (none)) else (some x3)
def foghornref09_Sorted.l1 : Nat → List (S32) → Int → List (S32) → Int → Int → Int → Int → Option ((List (S32)))
  | 0, _, _, _, _, _, _, _ => none
  | k + 1, x3, x6, x9, x10, x11, x116000, x116001 => if x6 < (x3.length : Int) then (if 0 ≤ x6 then ((foghornref09_Ahead.f x116000 x116001 ((rd_T32 x3 x6).f0) ((rd_T32 x3 x6).f1)).bind fun t117 => (if t117 = true then ((some (([] : List (S32)) : List (S32))).bind fun y118 => (if x6 ≤ (x3.length : Int) then ((some (x3.take (x6 : Int).toNat : List (S32))).bind fun y121 => (if y118.length + y121.length < 8796093022208 then ((some (y118 ++ y121 : List (S32))).bind fun y125 => (if y125.length < 8796093022208 then ((some (y125 ++ [(⟨x116000, x116001⟩ : S32)] : List (S32))).bind fun y128 => ((some (x3.drop (x6 : Int).toNat : List (S32))).bind fun y131 => (if y128.length + y131.length < 8796093022208 then (foghornref09_Sorted.l0 k (y128 ++ y131) x9 x10 (wrap64 (x11 + 1))) else (none)))) else (none))) else (none))) else (none))) else (foghornref09_Sorted.l1 k x3 (wrap64 (x6 + 1)) x9 x10 x11 x116000 x116001))) else (none)) else ((some (([] : List (S32)) : List (S32))).bind fun y138 => (if 0 ≤ x6 then (if x6 ≤ (x3.length : Int) then ((some (x3.take (x6 : Int).toNat : List (S32))).bind fun y141 => (if y138.length + y141.length < 8796093022208 then ((some (y138 ++ y141 : List (S32))).bind fun y145 => (if y145.length < 8796093022208 then ((some (y145 ++ [(⟨x116000, x116001⟩ : S32)] : List (S32))).bind fun y148 => ((some (x3.drop (x6 : Int).toNat : List (S32))).bind fun y151 => (if y148.length + y151.length < 8796093022208 then (foghornref09_Sorted.l0 k (y148 ++ y151) x9 x10 (wrap64 (x11 + 1))) else (none)))) else (none))) else (none))) else (none)) else (none)))
end
def foghornref09_Sorted.f (k : Nat) (l0 : List (S32)) : Option ((List (S32))) := foghornref09_Sorted.l0 k (([] : List (S32))) l0 (l0.length : Int) 0
def foghornref09_Sorted.T6 : Bool × List (List Nat × List Nat) := (true, [([], []), ([], []), ([1], [1]), ([0, 2], [0, 2]), ([3], [3]), ([4], [4]), ([4], [4]), ([4], [4]), ([6, 7, 4], [4, 6, 7]), ([8, 4], [4, 8]), ([5, 9, 4, 4], [4, 5, 9]), ([10, 4], [4, 10]), ([4, 11], [4, 11])])
def foghornref09_Sorted.B6 : List Nat := [0, 0, 2, 7, 15, 31, 31, 31, 223, 479, 1023, 2047, 4095]
theorem foghornref09_Sorted.tab6 : rtab .any (opsOf Try.f16 6) = foghornref09_Sorted.T6 := by kernel_rfl
theorem foghornref09_Sorted.bits6 : waitsOk foghornref09_Sorted.T6.2 foghornref09_Sorted.B6 = true := by kernel_rfl
set_option maxHeartbeats 8000000 in
set_option maxRecDepth 100000 in
theorem foghornref09_Sorted.calls (k : Nat) (A0 : Option Addr) (c0 : Nat) (l0 : List (S32)) (r : List (S32)) (w : World) (hr0 : Kd.C k32 w A0 l0.length l0) (hc0 : l0.length ≤ c0) (h : foghornref09_Sorted.f k l0 = some r) :
    Calls Try.prog 16 #[.slice A0 l0.length c0] w fun e w' => ∃ v0_ : Value, e = .returned (v0_) ∧ Kd.R k32 32 w' w.heap.size (fun _ => True) v0_ r ∧ Below w.heap.size w w' := by
  have hu32 := Try.underlying32
  have HR0 := Aside0.mk hr0
  have HC0 := Aside0.mk hc0
  clear hr0 hc0
  have HB := Aside0.mk (Below.refl w.heap.size w)
  have H : (foghornref09_Sorted.l0 k (([] : List (S32))) l0 (l0.length : Int) 0) = some r := h
  clear h
  obtain ⟨y111, hy111⟩ : ∃ y_ : List (S32), y_ = (([] : List (S32))) := ⟨_, rfl⟩
  replace H : (foghornref09_Sorted.l0 k y111 l0 (l0.length : Int) 0) = some r := by first | (rw [hy111]; with_reducible exact H) | (have H2_ := (Option.bind_some _ _).symm.trans H; rw [hy111]; with_reducible exact H2_) | (have H2_ := (Option.bind_some _ _).symm.trans H; with_reducible exact H2_) | with_reducible exact H | (rw [hy111]; exact H) | exact H
  have Ny111 := Aside0.mk hy111
  clear hy111
  have H' := Aside0.mk H
  clear H
  go_enter Try.func16, Try.ntmps16
  go_wp2_with (first | ((with_reducible refine gate_dst (N := 8) rfl ?_); refine Kd.R_lit k32 _ 32 ?hg (N := 8) ?hd (xs := ([] : List (S32))) (inner := []) (ok := fun _ => True) (okp := fun _ => True) ?hr ?hp (fun _ hk => hk) trivial (Below.refl _ _) (Nat.le_refl _) (by simp) ?_; (case hd => rfl); (case hg => rfl); (case hr => first | (go_simp; done) | (go_simp; rfl)); (case hp => exact (Reps.none _ _)); intro v112 w2 ho3 hb hg_ hnew_; clear hg_ hnew_; (first | rw [← Ny111.out] at ho3 | (simp only [Int.reduceToNat] at ho3; rw [← Ny111.out] at ho3)); have n0_ := Aside0.mk (Kd.R_lower ho3 (below_size (by repeat (first | (with_reducible first | exact HB.out | apply below_alloc | apply pw_below_drewN | apply below_drew1) | exact HB.out)))); have n1_ := Aside0.mk (below_step (by repeat (first | (with_reducible first | exact HB.out | apply below_alloc | apply pw_below_drewN | apply below_drew1) | exact HB.out)) hb); clear HB; have HO113 := n0_; have HB := n1_; clear n0_ n1_; clear hb ho3))
  go_loopg [3, 11] k (fun kq v3 v11 w' => ∃ (x3_1 : List (S32)) (x11_1 : Int), v11 = .int .i64 x11_1 ∧ Aside0 (foghornref09_Sorted.l0 kq x3_1 l0 (l0.length : Int) x11_1 = some r) ∧ Aside0 (kq ≤ k) ∧ Aside0 (Kd.R k32 32 w' w.heap.size (fun _ => True) v3 x3_1) ∧ Aside0 (Below w.heap.size w w'))
  case atStart => exact ⟨(y111), (0), (by first | rfl | (simp; done) | (simp [*]; done)), H', ⟨Nat.le_refl _⟩, ⟨by (with_reducible repeat (first | apply Kd.R_alloc | apply Kd.R_drewN | apply Kd.R_drew)); exact HO113.out⟩, ⟨by repeat (first | (with_reducible first | exact HB.out | apply below_alloc | apply pw_below_drewN | apply below_drew1) | exact HB.out)⟩⟩
  case round =>
    clear H'
    try clear c1
    try clear p2
    obtain ⟨x3_1, x11_1, rfl, HA, HK1, HO_3, HB⟩ := hrel
    cases gk with
    | zero => exact absurd HA.out (by simp [foghornref09_Sorted.l0])
    | succ k1 =>
      have H := HA.out
      clear HA
      simp only [foghornref09_Sorted.l0] at H
      by_cases c4 : x11_1 < (l0.length : Int)
      · rw [if_pos c4] at H
        have c4b0 : decide (x11_1 < (l0.length : Int)) = true := decide_eq_true c4
        clear c4
        by_cases c5 : 0 ≤ x11_1
        · rw [if_pos c5] at H
          have c5b0 : decide (0 ≤ x11_1) = true := decide_eq_true c5
          clear c5
          by_cases c6 : x11_1 < (l0.length : Int)
          · rw [if_pos c6] at H
            have c6b0 : decide (x11_1 < (l0.length : Int)) = true := decide_eq_true c6
            clear c6
            have H' := Aside0.mk H
            clear H
            have p114 : 0 ≤ (x11_1 : Int) := of_decide_eq_true (by first | (with_reducible assumption) | assumption)
            have q114 : x11_1 < (l0.length : Int) := of_decide_eq_true (by first | (with_reducible assumption) | assumption)
            obtain ⟨ad114, e114, hx114_0, hx114_1⟩ := at_T32 HR0.out x11_1 p114 q114
            cases e114
            replace hx114_0 := (HB.out.cell (World.block_lt_of_cell? w _ hx114_0)).trans hx114_0
            replace hx114_1 := (HB.out.cell (World.block_lt_of_cell? w _ hx114_1)).trans hx114_1
            replace p114 := eq_true p114
            replace q114 := eq_true q114
            go_wp2_with (first | ((with_reducible refine gate_dst (N := 5) rfl ?_); refine box_event ?hg (N := 5) ?hd (cs := #[.int .i64 0, .int .i64 0]) (t := 32) ?hr ?_; (case hd => rfl); (case hg => rfl); (case hr => first | (go_simp; done) | (go_simp; rfl)); intro gb115 hg w7 hbox hb; have n0_ := Aside0.mk (Kd.R_below (Kd.R_elderB (by (with_reducible repeat (first | apply Kd.R_alloc | apply Kd.R_drewN | apply Kd.R_drew)); exact HO_3.out) gb115 (Nat.le_of_eq hg.symm)) hb); have n1_ := Aside0.mk (below_step (by repeat (first | (with_reducible first | exact HB.out | apply below_alloc | apply pw_below_drewN | apply below_drew1) | exact HB.out)) hb); have n2_ := Aside0.mk (hbox); have n3_ := Aside0.mk ((by rw [hg]; exact (below_size (by repeat (first | (with_reducible first | exact HB.out | apply below_alloc | apply pw_below_drewN | apply below_drew1) | exact HB.out))) : w.heap.size ≤ gb115)); have n4_ := Aside0.mk ((by rw [hg]; exact (below_size (by repeat (first | (with_reducible first | exact HB.out | apply below_alloc | apply pw_below_drewN | apply below_drew1) | exact HB.out))) : w.heap.size ≤ gb115)); clear HO_3; clear HB; have HO_3 := n0_; have HB := n1_; have BK115 := n2_; have GW115 := n3_; have GE115 := n4_; clear n0_ n1_ n2_ n3_ n4_; clear hb hbox hg; have hcz8_0 : w7.cell? ⟨gb115, 0, none⟩ = some (.int .i64 0) := (blk_cell BK115.out 0).trans rfl; have hcz8_1 : w7.cell? ⟨gb115, 1, none⟩ = some (.int .i64 0) := (blk_cell BK115.out 1).trans rfl; have hfz8_0 := blk_frozen BK115.out 0; have hfz8_1 := blk_frozen BK115.out 1))
            go_loopg [6] k1 (fun kq v6 w' => ∃ (x6_2 : Int), v6 = .int .i64 x6_2 ∧ Aside0 (foghornref09_Sorted.l1 kq x3_1 x6_2 l0 (l0.length : Int) x11_1 ((rd_T32 l0 x11_1).f0) ((rd_T32 l0 x11_1).f1) = some r) ∧ Aside0 (kq ≤ k1) ∧ Aside0 (Kd.R k32 32 w' w.heap.size (fun k_ => k_ ≠ gb115) u3 x3_1) ∧ Aside0 (w'.heap[gb115]? = some (.cells #[.int .i64 ((rd_T32 l0 x11_1).f0), .int .i64 ((rd_T32 l0 x11_1).f1)] 32 (0, 0))) ∧ Aside0 (Below w.heap.size w w'))
            case atStart => exact ⟨(0), (by first | rfl | (simp; done) | (simp [*]; done)), H', ⟨Nat.le_refl _⟩, ⟨by (with_reducible repeat (first | apply Kd.R_alloc | apply Kd.R_drewN | apply Kd.R_drew)); exact Kd.R_mono (Kd.R_far (p := ⟨gb115, 1, none⟩) (Kd.R_far (p := ⟨gb115, 0, none⟩) (Kd.R_mono HO_3.out (fun k_ hk => (⟨hk, hk.2⟩ : _ ∧ k_ ≠ gb115))) (fun _ hk => hk.2) (.int .i64 ((rd_T32 l0 x11_1).f0))) (fun _ hk => hk.2) (.int .i64 ((rd_T32 l0 x11_1).f1))) (fun _ hk => hk.1.2)⟩, ⟨by (with_reducible repeat (first | refine blk_drewN ?_ _ | refine blk_drew ?_ | refine blk_alloc ?_ _)); refine blk_put (cs := #[.int .i64 ((rd_T32 l0 x11_1).f0), .int .i64 0]) ?_ 1 _ rfl; (with_reducible repeat (first | refine blk_drewN ?_ _ | refine blk_drew ?_ | refine blk_alloc ?_ _)); refine blk_put (cs := #[.int .i64 0, .int .i64 0]) ?_ 0 _ rfl; (with_reducible repeat (first | refine blk_drewN ?_ _ | refine blk_drew ?_ | refine blk_alloc ?_ _)); exact BK115.out⟩, ⟨by repeat (first | (with_reducible first | exact HB.out | apply below_alloc | apply pw_below_drewN | apply below_drew1 | refine below_set ?_ GE115.out) | exact HB.out)⟩⟩
            case round =>
              clear H'
              try clear c1
              try clear p1
              try clear q1
              try clear hx1
              try clear p2
              try clear c4
              try clear c4b0
              try clear c5
              try clear c5b0
              try clear c6
              try clear c6b0
              try clear hcz8_0
              try clear hcz8_1
              try clear hfz8_0
              try clear hfz8_1
              try clear hx114_0
              try clear hx114_1
              try clear p114
              try clear p2
              try clear q114
              obtain ⟨x6_2, rfl, HA, HK2, HO_3, BK115, HB⟩ := hrel
              cases gk with
              | zero => exact absurd HA.out (by simp [foghornref09_Sorted.l1])
              | succ k2 =>
                have H := HA.out
                clear HA
                simp only [foghornref09_Sorted.l1] at H
                by_cases c9 : x6_2 < (x3_1.length : Int)
                · rw [if_pos c9] at H
                  have c9b0 : decide (x6_2 < (x3_1.length : Int)) = true := decide_eq_true c9
                  clear c9
                  by_cases c10 : 0 ≤ x6_2
                  · rw [if_pos c10] at H
                    have c10b0 : decide (0 ≤ x6_2) = true := decide_eq_true c10
                    clear c10
                    replace H := Option.bind_eq_some_iff.mp H
                    obtain ⟨t117, A110, H⟩ := H
                    replace H : (if t117 = true then ((some (([] : List (S32)) : List (S32))).bind fun y118 => (if x6_2 ≤ (x3_1.length : Int) then ((some (x3_1.take (x6_2 : Int).toNat : List (S32))).bind fun y121 => (if y118.length + y121.length < 8796093022208 then ((some (y118 ++ y121 : List (S32))).bind fun y125 => (if y125.length < 8796093022208 then ((some (y125 ++ [(⟨((rd_T32 l0 x11_1).f0), ((rd_T32 l0 x11_1).f1)⟩ : S32)] : List (S32))).bind fun y128 => ((some (x3_1.drop (x6_2 : Int).toNat : List (S32))).bind fun y131 => (if y128.length + y131.length < 8796093022208 then (foghornref09_Sorted.l0 k2 (y128 ++ y131) l0 (l0.length : Int) (wrap64 (x11_1 + 1))) else (none)))) else (none))) else (none))) else (none))) else (foghornref09_Sorted.l1 k2 x3_1 (wrap64 (x6_2 + 1)) l0 (l0.length : Int) x11_1 ((rd_T32 l0 x11_1).f0) ((rd_T32 l0 x11_1).f1))) = some r := H
                    have A11 := Aside0.mk A110
                    clear A110
                    by_cases c12 : t117 = true
                    · subst c12
                      have H1 : ((some (([] : List (S32)) : List (S32))).bind fun y118 => (if x6_2 ≤ (x3_1.length : Int) then ((some (x3_1.take (x6_2 : Int).toNat : List (S32))).bind fun y121 => (if y118.length + y121.length < 8796093022208 then ((some (y118 ++ y121 : List (S32))).bind fun y125 => (if y125.length < 8796093022208 then ((some (y125 ++ [(⟨((rd_T32 l0 x11_1).f0), ((rd_T32 l0 x11_1).f1)⟩ : S32)] : List (S32))).bind fun y128 => ((some (x3_1.drop (x6_2 : Int).toNat : List (S32))).bind fun y131 => (if y128.length + y131.length < 8796093022208 then (foghornref09_Sorted.l0 k2 (y128 ++ y131) l0 (l0.length : Int) (wrap64 (x11_1 + 1))) else (none)))) else (none))) else (none))) else (none))) = some r := by rw [if_pos rfl] at H; exact H
                      clear H
                      have H := H1
                      clear H1
                      obtain ⟨y118, hy118⟩ : ∃ y_ : List (S32), y_ = (([] : List (S32))) := ⟨_, rfl⟩
                      replace H : (if x6_2 ≤ (x3_1.length : Int) then ((some (x3_1.take (x6_2 : Int).toNat : List (S32))).bind fun y121 => (if y118.length + y121.length < 8796093022208 then ((some (y118 ++ y121 : List (S32))).bind fun y125 => (if y125.length < 8796093022208 then ((some (y125 ++ [(⟨((rd_T32 l0 x11_1).f0), ((rd_T32 l0 x11_1).f1)⟩ : S32)] : List (S32))).bind fun y128 => ((some (x3_1.drop (x6_2 : Int).toNat : List (S32))).bind fun y131 => (if y128.length + y131.length < 8796093022208 then (foghornref09_Sorted.l0 k2 (y128 ++ y131) l0 (l0.length : Int) (wrap64 (x11_1 + 1))) else (none)))) else (none))) else (none))) else (none)) = some r := by first | (rw [hy118]; with_reducible exact H) | (have H2_ := (Option.bind_some _ _).symm.trans H; rw [hy118]; with_reducible exact H2_) | (have H2_ := (Option.bind_some _ _).symm.trans H; with_reducible exact H2_) | with_reducible exact H | (rw [hy118]; exact H) | exact H
                      have Ny118 := Aside0.mk hy118
                      clear hy118
                      have c13b0 := eq_true (of_decide_eq_true (by first | (with_reducible assumption) | assumption) : 0 ≤ x6_2)
                      by_cases c14 : x6_2 ≤ (x3_1.length : Int)
                      · rw [if_pos c14] at H
                        have c14b0 := eq_true c14
                        have c14b1 : decide (x6_2 ≤ (x3_1.length : Int)) = true := decide_eq_true c14
                        clear c14
                        obtain ⟨y121, hy121⟩ : ∃ y_ : List (S32), y_ = (x3_1.take (x6_2 : Int).toNat) := ⟨_, rfl⟩
                        replace H : (if y118.length + y121.length < 8796093022208 then ((some (y118 ++ y121 : List (S32))).bind fun y125 => (if y125.length < 8796093022208 then ((some (y125 ++ [(⟨((rd_T32 l0 x11_1).f0), ((rd_T32 l0 x11_1).f1)⟩ : S32)] : List (S32))).bind fun y128 => ((some (x3_1.drop (x6_2 : Int).toNat : List (S32))).bind fun y131 => (if y128.length + y131.length < 8796093022208 then (foghornref09_Sorted.l0 k2 (y128 ++ y131) l0 (l0.length : Int) (wrap64 (x11_1 + 1))) else (none)))) else (none))) else (none)) = some r := by first | (rw [hy121]; with_reducible exact H) | (have H2_ := (Option.bind_some _ _).symm.trans H; rw [hy121]; with_reducible exact H2_) | (have H2_ := (Option.bind_some _ _).symm.trans H; with_reducible exact H2_) | with_reducible exact H | (rw [hy121]; exact H) | exact H
                        have Ny121 := Aside0.mk hy121
                        clear hy121
                        by_cases c15 : y118.length + y121.length < 8796093022208
                        · rw [if_pos c15] at H
                          have LMc15 := Aside0.mk c15
                          clear c15
                          obtain ⟨y125, hy125⟩ : ∃ y_ : List (S32), y_ = (y118 ++ y121) := ⟨_, rfl⟩
                          replace H : (if y125.length < 8796093022208 then ((some (y125 ++ [(⟨((rd_T32 l0 x11_1).f0), ((rd_T32 l0 x11_1).f1)⟩ : S32)] : List (S32))).bind fun y128 => ((some (x3_1.drop (x6_2 : Int).toNat : List (S32))).bind fun y131 => (if y128.length + y131.length < 8796093022208 then (foghornref09_Sorted.l0 k2 (y128 ++ y131) l0 (l0.length : Int) (wrap64 (x11_1 + 1))) else (none)))) else (none)) = some r := by first | (rw [hy125]; with_reducible exact H) | (have H2_ := (Option.bind_some _ _).symm.trans H; rw [hy125]; with_reducible exact H2_) | (have H2_ := (Option.bind_some _ _).symm.trans H; with_reducible exact H2_) | with_reducible exact H | (rw [hy125]; exact H) | exact H
                          have Ny125 := Aside0.mk hy125
                          clear hy125
                          by_cases c16 : y125.length < 8796093022208
                          · rw [if_pos c16] at H
                            have LMc16 := Aside0.mk c16
                            clear c16
                            obtain ⟨y128, hy128⟩ : ∃ y_ : List (S32), y_ = (y125 ++ [(⟨((rd_T32 l0 x11_1).f0), ((rd_T32 l0 x11_1).f1)⟩ : S32)]) := ⟨_, rfl⟩
                            replace H : ((some (x3_1.drop (x6_2 : Int).toNat : List (S32))).bind fun y131 => (if y128.length + y131.length < 8796093022208 then (foghornref09_Sorted.l0 k2 (y128 ++ y131) l0 (l0.length : Int) (wrap64 (x11_1 + 1))) else (none))) = some r := by first | (rw [hy128]; with_reducible exact H) | (have H2_ := (Option.bind_some _ _).symm.trans H; rw [hy128]; with_reducible exact H2_) | (have H2_ := (Option.bind_some _ _).symm.trans H; with_reducible exact H2_) | with_reducible exact H | (rw [hy128]; exact H) | exact H
                            have Ny128 := Aside0.mk hy128
                            clear hy128
                            have c17b0 := eq_true (of_decide_eq_true (by first | (with_reducible assumption) | assumption) : 0 ≤ x6_2)
                            have c18b0 := eq_true (of_decide_eq_true (by first | (with_reducible assumption) | assumption) : x6_2 ≤ (x3_1.length : Int))
                            obtain ⟨y131, hy131⟩ : ∃ y_ : List (S32), y_ = (x3_1.drop (x6_2 : Int).toNat) := ⟨_, rfl⟩
                            replace H : (if y128.length + y131.length < 8796093022208 then (foghornref09_Sorted.l0 k2 (y128 ++ y131) l0 (l0.length : Int) (wrap64 (x11_1 + 1))) else (none)) = some r := by first | (rw [hy131]; with_reducible exact H) | (have H2_ := (Option.bind_some _ _).symm.trans H; rw [hy131]; with_reducible exact H2_) | (have H2_ := (Option.bind_some _ _).symm.trans H; with_reducible exact H2_) | with_reducible exact H | (rw [hy131]; exact H) | exact H
                            have Ny131 := Aside0.mk hy131
                            clear hy131
                            by_cases c19 : y128.length + y131.length < 8796093022208
                            · rw [if_pos c19] at H
                              have LMc19 := Aside0.mk c19
                              clear c19
                              obtain ⟨y135, hy135⟩ : ∃ y_ : List (S32), y_ = (y128 ++ y131) := ⟨_, rfl⟩
                              replace H : (foghornref09_Sorted.l0 k2 y135 l0 (l0.length : Int) (wrap64 (x11_1 + 1))) = some r := by first | (rw [hy135]; with_reducible exact H) | (have H2_ := (Option.bind_some _ _).symm.trans H; rw [hy135]; with_reducible exact H2_) | (have H2_ := (Option.bind_some _ _).symm.trans H; with_reducible exact H2_) | with_reducible exact H | (rw [hy135]; exact H) | exact H
                              have Ny135 := Aside0.mk hy135
                              clear hy135
                              have H' := Aside0.mk H
                              clear H
                              try go_wp2
                              have n0_ := Aside0.mk (Kd.R_drew HO_3.out)
                              have n1_ := Aside0.mk (blk_drew BK115.out)
                              have n2_ := Aside0.mk (below_drew1 HB.out)
                              clear HO_3
                              clear BK115
                              clear HB
                              have HO_3 := n0_
                              have BK115 := n1_
                              have HB := n2_
                              clear n0_ n1_ n2_
                              obtain ⟨Ao21, co21, eo21⟩ := Kd.R_slice HO_3.out
                              (first | subst eo21 | (injection eo21 with f1_ f2_ f3_; have f4_ := f1_.symm; have f5_ := f3_.symm; clear f1_ f2_ f3_; subst f4_; subst f5_))
                              have p116 : 0 ≤ (x6_2 : Int) := of_decide_eq_true (by first | (with_reducible assumption) | assumption)
                              have q116 : x6_2 < (x3_1.length : Int) := of_decide_eq_true (by first | (with_reducible assumption) | assumption)
                              obtain ⟨ad116, e116, hx116_0, hx116_1⟩ := at_T32 (Kd.R_reads' HO_3.out).2.2 x6_2 p116 q116
                              cases e116
                              replace p116 := eq_true p116
                              replace q116 := eq_true q116
                              refine start_ (n := 13) (S := fun w' => w'.cell? ⟨gb115, 0, none⟩ = some (.int .i64 ((rd_T32 l0 x11_1).f0)) ∧ w'.cell? ⟨gb115, 1, none⟩ = some (.int .i64 ((rd_T32 l0 x11_1).f1)) ∧ w'.cell? (ad116.add ((x6_2).toNat * 2)) = some (.int .i64 ((rd_T32 x3_1 x6_2).f0)) ∧ w'.cell? ⟨(ad116.add ((x6_2).toNat * 2)).block, (ad116.add ((x6_2).toNat * 2)).off + 1, none⟩ = some (.int .i64 ((rd_T32 x3_1 x6_2).f1))) (ds := []) #[false, false, false, false, false, false, false, false, false, false, false, false, false] (by kernel_rfl) rfl rfl ⟨(blk_cell BK115.out 0).trans rfl, (blk_cell BK115.out 1).trans rfl, hx116_0, hx116_1⟩ (fun hHeld => ?_); refine with_tabW foghornref09_Sorted.tab6 foghornref09_Sorted.bits6 (fun HT_ HW_ => ?_)
                              generalize wr.drew = w20 at HO_3 BK115 HB hx116_0 hx116_1 hHeld ⊢
                              refine pure_ (i := 0) (N := some 15) (v := ?_) (a' := ?_) #[true, false, false, false, false, false, false, false, false, false, false, false, false] rfl rfl (any_of HT_.out (by kernel_rfl)) (fun _ _ _ h => h) (Or.inl ⟨by rfl, ?_⟩) ?_ ?_
                              rotate_left
                              · intro w'
                                go_simp
                                with_reducible rfl
                              rotate_left
                              · simp only [Act.put, List.setIfInBounds_toArray, List.set_cons_zero, List.set_cons_succ, i64_w, i32_w]
                                rfl
                              refine pure_ (i := 1) (N := some 16) (v := ?_) (a' := ?_) #[true, true, false, false, false, false, false, false, false, false, false, false, false] rfl rfl (any_of HT_.out (by kernel_rfl)) (fun _ _ _ h => h) (Or.inl ⟨by rfl, ?_⟩) ?_ ?_
                              rotate_left
                              · intro w'
                                go_simp
                                with_reducible rfl
                              rotate_left
                              · simp only [Act.put, List.setIfInBounds_toArray, List.set_cons_zero, List.set_cons_succ, i64_w, i32_w]
                                rfl
                              refine pure_ (i := 2) (N := some 17) (v := ?_) (a' := ?_) #[true, true, true, false, false, false, false, false, false, false, false, false, false] rfl rfl (any_of HT_.out (by kernel_rfl)) (fun _ _ _ h => h) (Or.inl ⟨by rfl, ?_⟩) ?_ ?_
                              rotate_left
                              · intro w'
                                go_simp
                                with_reducible rfl
                              rotate_left
                              · simp only [Act.put, List.setIfInBounds_toArray, List.set_cons_zero, List.set_cons_succ, i64_w, i32_w]
                                rfl
                              refine pure_ (i := 3) (N := some 18) (v := ?_) (a' := ?_) #[true, true, true, true, false, false, false, false, false, false, false, false, false] rfl rfl (any_of HT_.out (by kernel_rfl)) (fun _ _ _ h => h) (Or.inl ⟨by rfl, ?_⟩) ?_ ?_
                              rotate_left
                              · intro w'
                                go_simp
                                with_reducible rfl
                              rotate_left
                              · simp only [Act.put, List.setIfInBounds_toArray, List.set_cons_zero, List.set_cons_succ, i64_w, i32_w]
                                rfl
                              refine pure_ (i := 4) (N := some 19) (v := ?_) (a' := ?_) #[true, true, true, true, true, false, false, false, false, false, false, false, false] rfl rfl (any_of HT_.out (by kernel_rfl)) (fun _ _ _ h => h) (Or.inl ⟨by rfl, ?_⟩) ?_ ?_
                              rotate_left
                              · intro w'
                                go_simp
                                with_reducible rfl
                              rotate_left
                              · simp only [Act.put, List.setIfInBounds_toArray, List.set_cons_zero, List.set_cons_succ, i64_w, i32_w]
                                rfl
                              refine pure_ (i := 6) (N := some 21) (v := ?_) (a' := ?_) #[true, true, true, true, true, false, true, false, false, false, false, false, false] rfl rfl (any_of HT_.out (by kernel_rfl)) (fun _ _ _ h => h) (Or.inl ⟨by rfl, ?_⟩) ?_ ?_
                              rotate_left
                              · intro w'
                                go_simp
                                with_reducible rfl
                              rotate_left
                              · simp only [Act.put, List.setIfInBounds_toArray, List.set_cons_zero, List.set_cons_succ, i64_w, i32_w]
                                rfl
                              refine pure_ (i := 7) (N := some 22) (v := ?_) (a' := ?_) #[true, true, true, true, true, false, true, true, false, false, false, false, false] rfl rfl (any_of HT_.out (by kernel_rfl)) (fun _ _ _ h => h) (Or.inl ⟨by rfl, ?_⟩) ?_ ?_
                              rotate_left
                              · intro w'
                                go_simp
                                with_reducible rfl
                              rotate_left
                              · simp only [Act.put, List.setIfInBounds_toArray, List.set_cons_zero, List.set_cons_succ, i64_w, i32_w]
                                rfl
                              refine pure_ (i := 8) (N := some 23) (v := ?_) (a' := ?_) #[true, true, true, true, true, false, true, true, true, false, false, false, false] rfl rfl (any_of HT_.out (by kernel_rfl)) (fun _ _ _ h => h) (Or.inl ⟨by rfl, ?_⟩) ?_ ?_
                              rotate_left
                              · intro w'
                                go_simp
                                with_reducible rfl
                              rotate_left
                              · simp only [Act.put, List.setIfInBounds_toArray, List.set_cons_zero, List.set_cons_succ, i64_w, i32_w]
                                rfl
                              refine take_ (i := 5) (N := some 20) (v := ?_) (a' := ?_) #[true, true, true, true, true, true, true, true, true, false, false, false, false] rfl rfl (take_ofW HT_.out HW_.out (by kernel_rfl)) (fun _ _ _ h => h) (Or.inl ⟨by rfl, ?_⟩) hHeld ?_ ?_
                              rotate_left
                              · rintro w' ⟨s0, s1, s2, s3⟩
                                go_simp
                                with_reducible rfl
                              rotate_left
                              · simp only [Act.put, List.setIfInBounds_toArray, List.set_cons_zero, List.set_cons_succ, i64_w, i32_w]
                                rfl
                              refine take_ (i := 9) (N := some 24) (v := ?_) (a' := ?_) #[true, true, true, true, true, true, true, true, true, true, false, false, false] rfl rfl (take_ofW HT_.out HW_.out (by kernel_rfl)) (fun _ _ _ h => h) (Or.inl ⟨by rfl, ?_⟩) hHeld ?_ ?_
                              rotate_left
                              · rintro w' ⟨s0, s1, s2, s3⟩
                                go_simp
                                with_reducible rfl
                              rotate_left
                              · simp only [Act.put, List.setIfInBounds_toArray, List.set_cons_zero, List.set_cons_succ, i64_w, i32_w]
                                rfl
                              refine one_ (i := 10) (N := some 25) #[true, true, true, true, true, true, true, true, true, true, true, false, false] rfl rfl (one_of HT_.out (by kernel_rfl)) (by decide) (fun K hK => ?_)
                              refine goes_ Try.func18 (by kernel_rfl) rfl #[.agg #[.int .i64 ((rd_T32 l0 x11_1).f0), .int .i64 ((rd_T32 l0 x11_1).f1)], .agg #[.int .i64 ((rd_T32 x3_1 x6_2).f0), .int .i64 ((rd_T32 x3_1 x6_2).f1)]] (by rfl) rfl rfl (by (try simp only [List.map_toArray, List.map_cons, List.map_nil]); first | done | rfl | (simp only [List.length_drop, List.length_take]; rfl)) ?_
                              with_reducible refine (foghornref09_Ahead.calls ((rd_T32 l0 x11_1).f0) ((rd_T32 l0 x11_1).f1) ((rd_T32 x3_1 x6_2).f0) ((rd_T32 x3_1 x6_2).f1) true _ A11.out).mono ?_
                              rintro e w22 ⟨rfl, hb⟩
                              have HS2_ := (hb.cell (World.block_lt_of_cell? _ _ (hHeld.2.2.1))).trans (hHeld.2.2.1)
                              have HS3_ := (hb.cell (World.block_lt_of_cell? _ _ (hHeld.2.2.2))).trans (hHeld.2.2.2)
                              refine ⟨_, rfl, ?_⟩
                              have n0_ := Aside0.mk (Kd.R_below (by (with_reducible repeat (first | apply Kd.R_alloc | apply Kd.R_drewN | apply Kd.R_drew)); exact HO_3.out) hb)
                              have n1_ := Aside0.mk (blk_below (g := gb115) (o := .cells #[.int .i64 ((rd_T32 l0 x11_1).f0), .int .i64 ((rd_T32 l0 x11_1).f1)] 32 (0, 0)) (by (with_reducible repeat (first | refine blk_drewN ?_ _ | refine blk_drew ?_ | refine blk_alloc ?_ _)); exact BK115.out) hb)
                              have n2_ := Aside0.mk (below_step (by repeat (first | (with_reducible first | exact HB.out | apply below_alloc | apply pw_below_drewN | apply below_drew1 | refine below_set ?_ GE115.out) | exact HB.out)) hb)
                              clear HO_3
                              clear BK115
                              clear HB
                              have HO_3 := n0_
                              have BK115 := n1_
                              have HB := n2_
                              clear n0_ n1_ n2_
                              (try clear hb)
                              (try clear hb2)
                              (try clear hk)
                              (try clear hi)
                              refine hK.out _ _ ⟨(blk_cell BK115.out 0).trans rfl, (blk_cell BK115.out 1).trans rfl, HS2_, HS3_⟩ (fun hHeld => ?_)
                              clear hK K
                              refine norm_ (a' := ?_) ?_ ?_
                              rotate_left
                              · show Act.put _ (some 25) _ = _
                                simp only [Act.put, List.setIfInBounds_toArray, List.set_cons_zero, List.set_cons_succ, i64_w, i32_w]
                                rfl
                              refine pure_ (i := 11) (N := some 26) (v := ?_) (a' := ?_) #[true, true, true, true, true, true, true, true, true, true, true, true, false] rfl rfl (any_of HT_.out (by kernel_rfl)) (fun _ _ _ h => h) (Or.inl ⟨by rfl, ?_⟩) ?_ ?_
                              rotate_left
                              · intro w'
                                go_simp
                                with_reducible rfl
                              rotate_left
                              · simp only [Act.put, List.setIfInBounds_toArray, List.set_cons_zero, List.set_cons_succ, i64_w, i32_w]
                                rfl
                              refine pure_ (i := 12) (N := some 27) (v := ?_) (a' := ?_) #[true, true, true, true, true, true, true, true, true, true, true, true, true] rfl rfl (any_of HT_.out (by kernel_rfl)) (fun _ _ _ h => h) (Or.inl ⟨by rfl, ?_⟩) ?_ ?_
                              rotate_left
                              · intro w'
                                go_simp
                                with_reducible rfl
                              rotate_left
                              · simp only [Act.put, List.setIfInBounds_toArray, List.set_cons_zero, List.set_cons_succ, i64_w, i32_w]
                                rfl
                              refine done_ (done_of HT_.out (by kernel_rfl)) ?_
                              try go_wp2_with (first | ((with_reducible refine gate_dst (N := 30) rfl ?_); refine Kd.R_lit k32 _ 32 ?hg (N := 30) ?hd (xs := ([] : List (S32))) (inner := []) (ok := fun _ => True) (okp := fun _ => True) ?hr ?hp (fun _ hk => hk) trivial (Below.refl _ _) (Nat.le_refl _) (by simp) ?_; (case hd => rfl); (case hg => rfl); (case hr => first | (go_simp; done) | (go_simp; rfl)); (case hp => exact (Reps.none _ _)); intro v119 w23 ho24 hb hg_ hnew_; clear hg_ hnew_; (first | rw [← Ny118.out] at ho24 | (simp only [Int.reduceToNat] at ho24; rw [← Ny118.out] at ho24)); have n0_ := Aside0.mk (Kd.R_elder' (by (with_reducible repeat (first | apply Kd.R_alloc | apply Kd.R_drewN | apply Kd.R_drew)); exact HO_3.out) (Kd.R_base ho24) hb); have n1_ := Aside0.mk (Kd.R_lower (Kd.R_newB (Kd.R_new' ho24 (Kd.R_lt (by (with_reducible repeat (first | apply Kd.R_alloc | apply Kd.R_drewN | apply Kd.R_drew)); exact HO_3.out))) (g := gb115) (o := .cells #[.int .i64 ((rd_T32 l0 x11_1).f0), .int .i64 ((rd_T32 l0 x11_1).f1)] 32 (0, 0)) (by (with_reducible repeat (first | refine blk_drewN ?_ _ | refine blk_drew ?_ | refine blk_alloc ?_ _)); exact BK115.out)) (below_size (by repeat (first | (with_reducible first | exact HB.out | apply below_alloc | apply pw_below_drewN | apply below_drew1 | refine below_set ?_ GE115.out) | exact HB.out)))); have n2_ := Aside0.mk (blk_below (g := gb115) (o := .cells #[.int .i64 ((rd_T32 l0 x11_1).f0), .int .i64 ((rd_T32 l0 x11_1).f1)] 32 (0, 0)) (by (with_reducible repeat (first | refine blk_drewN ?_ _ | refine blk_drew ?_ | refine blk_alloc ?_ _)); exact BK115.out) hb); have n3_ := Aside0.mk (below_step (by repeat (first | (with_reducible first | exact HB.out | apply below_alloc | apply pw_below_drewN | apply below_drew1 | refine below_set ?_ GE115.out) | exact HB.out)) hb); clear HO_3; clear BK115; clear HB; have HO_3 := n0_; have HO120 := n1_; have BK115 := n2_; have HB := n3_; clear n0_ n1_ n2_ n3_; clear hb ho24; have q25 : (x6_2 : Int) ≤ ((x3_1.length : Int) : Int) := of_decide_eq_true (by first | (with_reducible assumption) | assumption); obtain ⟨i025, hi025, _, hsz25, _⟩ := info_parts info32; have hroom25 : x3_1.length ≤ co21 := (Kd.R_reads' HO_3.out).2.1; have hC25 : Kd.C k32 _ (some ad116) x3_1.length x3_1 := (Kd.R_reads' HO_3.out).2.2; have hcut25 := cut_to (P := Try.prog) 22 32 .i64 Try.underlying22 hi025 (some ad116) x3_1.length co21 x6_2 (of_decide_eq_true (by first | (with_reducible assumption) | assumption)) q25 hroom25; have hr25 := Kd.C_take (m := (x6_2 : Int).toNat) hC25 (by omega); have hy25 : y121.length = (x6_2 : Int).toNat := (by rw [Ny121.out, List.length_take]; omega); rw [← Ny121.out] at hr25; rw [← hy25] at hcut25; have HR124 := Aside0.mk hr25; have HC124 := Aside0.mk (show y121.length ≤ co21 from by omega); clear hr25 hC25 hroom25 hi025 hsz25; have KY25 := Aside0.mk hy25; clear hy25; have KL25 := Aside0.mk (show (x6_2 : Int).toNat ≤ x3_1.length from by omega); replace q25 := eq_true q25) | ((with_reducible refine gate_builtin (b := .append) (xs := #[.tmp 31, .tmp 34]) rfl ?_); at_builtin; refine Kd.R_append_rows k32 (w0 := w) w.heap.size rfl (.tmp 31) (.tmp 34) 22 32 (.agg #[(.int .i64 0), (.int .i64 0)]) 16 rfl Try.underlying22 info32 rfl (by decide) (by omega) v119 y118 y121 _ _ _ (fun k_ => some k_ ≠ (.slice (some ad116) x3_1.length co21 : Value).ownBlock ∧ k_ ≠ gb115) (fun _ => False) rfl rfl ?aO ?aR (fun _ _ h => h) (fun _ h => h.elim) ?aF ?aB ?aS ?aL ?_; (case aR => repeat (first | exact (by repeat (first | (with_reducible exact HR124.out) | (with_reducible refine Kd.C_alloc ?_ _) | (with_reducible refine Kd.C_drewN ?_ _) | (with_reducible refine Kd.C_drew ?_) | exact HR124.out)) | (with_reducible refine Kd.C_alloc ?_ _) | (with_reducible refine Kd.C_drewN ?_ _) | (with_reducible refine Kd.C_drew ?_))); (case aB => exact (by repeat (first | (with_reducible first | exact HB.out | apply below_alloc | apply pw_below_drewN | apply below_drew1 | refine below_set ?_ GE115.out) | exact HB.out))); (case aF => exact (fun k_ hk => ⟨Kd.fresh' (Kd.R_lt (by (with_reducible repeat (first | apply Kd.R_alloc | apply Kd.R_drewN | apply Kd.R_drew)); exact HO_3.out)) k_ hk, Kd.freshB (g := gb115) (o := .cells #[.int .i64 ((rd_T32 l0 x11_1).f0), .int .i64 ((rd_T32 l0 x11_1).f1)] 32 (0, 0)) (by (with_reducible repeat (first | refine blk_drewN ?_ _ | refine blk_drew ?_ | refine blk_alloc ?_ _)); exact BK115.out) k_ hk⟩)); (case aO => exact (by (with_reducible repeat (first | apply Kd.R_alloc | apply Kd.R_drewN | apply Kd.R_drew)); exact Kd.R_mono HO120.out (fun _ hk => ⟨hk.1.2, hk.2⟩))); (case aS => exact (below_size (by repeat (first | (with_reducible first | exact HB.out | apply below_alloc | apply pw_below_drewN | apply below_drew1 | refine below_set ?_ GE115.out) | exact HB.out)))); (case aL => have := LMc15.out; omega); intro v126 w26 ho hb hg hat; rw [← Ny125.out] at ho; have n0_ := Aside0.mk (Kd.R_after (ok := (fun k_ => k_ ≠ gb115)) (by (with_reducible repeat (first | apply Kd.R_alloc | apply Kd.R_drewN | apply Kd.R_drew)); exact HO_3.out) hg hat); have n1_ := Aside0.mk (blk_grown (g := gb115) (o := .cells #[.int .i64 ((rd_T32 l0 x11_1).f0), .int .i64 ((rd_T32 l0 x11_1).f1)] 32 (0, 0)) (by (with_reducible repeat (first | refine blk_drewN ?_ _ | refine blk_drew ?_ | refine blk_alloc ?_ _)); exact BK115.out) hg (Kd.R_away HO120.out (fun _ hk => hk.2))); have n2_ := Aside0.mk (hb); have n3_ := Aside0.mk ((show Kd.C k32 w26 (some ad116) y121.length y121 from by rw [Ny121.out]; exact Kd.C_take (m := (x6_2 : Int).toNat) ((Kd.R_reads' (Kd.R_after (ok := (fun k_ => k_ ≠ gb115)) (by (with_reducible repeat (first | apply Kd.R_alloc | apply Kd.R_drewN | apply Kd.R_drew)); exact HO_3.out) hg hat)).2.2) KL25.out)); have n4_ := Aside0.mk (ho); clear HO_3; clear BK115; clear HB; clear HR124; clear HO120; have HO_3 := n0_; have BK115 := n1_; have HB := n2_; have HR124 := n3_; have HO127 := n4_; clear n0_ n1_ n2_ n3_ n4_; clear ho hb hg hat; have hcz27_0 : w26.cell? ⟨gb115, 0, none⟩ = some (.int .i64 ((rd_T32 l0 x11_1).f0)) := (blk_cell BK115.out 0).trans rfl; have hcz27_1 : w26.cell? ⟨gb115, 1, none⟩ = some (.int .i64 ((rd_T32 l0 x11_1).f1)) := (blk_cell BK115.out 1).trans rfl; have hfz27_0 := blk_frozen BK115.out 0; have hfz27_1 := blk_frozen BK115.out 1) | ((with_reducible refine gate_builtin (b := .append) (xs := #[.tmp 36, .tmp 38]) rfl ?_); at_builtin; refine Kd.R_append k32 (w0 := w) w.heap.size rfl (.tmp 36) (.tmp 38) 22 32 (.agg #[(.int .i64 0), (.int .i64 0)]) 16 rfl Try.underlying22 info32 rfl (by decide) (by omega) v126 y125 (⟨((rd_T32 l0 x11_1).f0), ((rd_T32 l0 x11_1).f1)⟩ : S32) [.int .i64 ((rd_T32 l0 x11_1).f0), .int .i64 ((rd_T32 l0 x11_1).f1)] (fun k_ => some k_ ≠ (.slice (some ad116) x3_1.length co21 : Value).ownBlock ∧ k_ ≠ gb115) (fun _ => False) rfl rfl ?aP (fun _ hk => hk.elim) ?aF ?aO ?aB ?aS ?aL ?_; (case aP => exact k32_mkM _ _ _ (⟨((rd_T32 l0 x11_1).f0), ((rd_T32 l0 x11_1).f1)⟩ : S32)); (case aB => exact (by repeat (first | (with_reducible first | exact HB.out | apply below_alloc | apply pw_below_drewN | apply below_drew1 | refine below_set ?_ GE115.out) | exact HB.out))); (case aF => exact (fun k_ hk => ⟨Kd.fresh' (Kd.R_lt (by (with_reducible repeat (first | apply Kd.R_alloc | apply Kd.R_drewN | apply Kd.R_drew)); exact HO_3.out)) k_ hk, Kd.freshB (g := gb115) (o := .cells #[.int .i64 ((rd_T32 l0 x11_1).f0), .int .i64 ((rd_T32 l0 x11_1).f1)] 32 (0, 0)) (by (with_reducible repeat (first | refine blk_drewN ?_ _ | refine blk_drew ?_ | refine blk_alloc ?_ _)); exact BK115.out) k_ hk⟩)); (case aO => exact (by (with_reducible repeat (first | apply Kd.R_alloc | apply Kd.R_drewN | apply Kd.R_drew)); exact HO127.out)); (case aS => exact (below_size (by repeat (first | (with_reducible first | exact HB.out | apply below_alloc | apply pw_below_drewN | apply below_drew1 | refine below_set ?_ GE115.out) | exact HB.out)))); (case aL => have := LMc16.out; omega); intro v129 w28 ho hb hg hat; rw [← Ny128.out] at ho; have n0_ := Aside0.mk (Kd.R_after (ok := (fun k_ => k_ ≠ gb115)) (by (with_reducible repeat (first | apply Kd.R_alloc | apply Kd.R_drewN | apply Kd.R_drew)); exact HO_3.out) hg hat); have n1_ := Aside0.mk (blk_grown (g := gb115) (o := .cells #[.int .i64 ((rd_T32 l0 x11_1).f0), .int .i64 ((rd_T32 l0 x11_1).f1)] 32 (0, 0)) (by (with_reducible repeat (first | refine blk_drewN ?_ _ | refine blk_drew ?_ | refine blk_alloc ?_ _)); exact BK115.out) hg (Kd.R_away HO127.out (fun _ hk => hk.2))); have n2_ := Aside0.mk (hb); have n3_ := Aside0.mk ((show Kd.C k32 w28 (some ad116) y121.length y121 from by rw [Ny121.out]; exact Kd.C_take (m := (x6_2 : Int).toNat) ((Kd.R_reads' (Kd.R_after (ok := (fun k_ => k_ ≠ gb115)) (by (with_reducible repeat (first | apply Kd.R_alloc | apply Kd.R_drewN | apply Kd.R_drew)); exact HO_3.out) hg hat)).2.2) KL25.out)); have n4_ := Aside0.mk (ho); clear HO_3; clear BK115; clear HB; clear HR124; clear HO127; have HO_3 := n0_; have BK115 := n1_; have HB := n2_; have HR124 := n3_; have HO130 := n4_; clear n0_ n1_ n2_ n3_ n4_; clear ho hb hg hat; have q29 : (x6_2 : Int) ≤ ((x3_1.length : Int) : Int) := of_decide_eq_true (by first | (with_reducible assumption) | assumption); obtain ⟨i029, hi029, _, hsz29, _⟩ := info_parts info32; have hroom29 : x3_1.length ≤ co21 := (Kd.R_reads' HO_3.out).2.1; have hC29 : Kd.C k32 _ (some ad116) x3_1.length x3_1 := (Kd.R_reads' HO_3.out).2.2; have q029 : (0 : Int) ≤ (x6_2 : Int) := of_decide_eq_true (by first | (with_reducible assumption) | assumption); have hcut29 := cut_from (P := Try.prog) 22 32 .i64 Try.underlying22 hi029 2 hsz29 (some ad116) x3_1.length co21 x6_2 q029 q29; have hr29 := Kd.C_drop (m := (x6_2 : Int).toNat) (c := co21) hC29 (by omega) hroom29; obtain ⟨A29, hA29⟩ : ∃ A1, A1 = (if co21 = (x6_2 : Int).toNat then (some ad116) else ((some ad116) : Option Addr).map (·.add ((x6_2 : Int).toNat * 2))) := ⟨_, rfl⟩; obtain ⟨c29, hc29⟩ : ∃ c1, c1 = co21 - (x6_2 : Int).toNat := ⟨_, rfl⟩; have hy29 : y131.length = x3_1.length - (x6_2 : Int).toNat := (by rw [Ny131.out, List.length_drop] <;> omega); rw [show (x3_1).drop (x6_2 : Int).toNat = y131 from Ny131.out.symm] at hr29; replace hr29 : Kd.C k32 _ A29 y131.length y131 := (by rw [hA29]; exact hr29); rw [← hy29, ← hA29, ← hc29] at hcut29; have HR134 := Aside0.mk hr29; have HC134 := Aside0.mk (show y131.length ≤ c29 from by rw [hy29, hc29]; exact Nat.sub_le_sub_right hroom29 _); clear hr29 hC29 hroom29 hi029 hsz29 hc29; have KY29 := Aside0.mk hy29; have KA29 := Aside0.mk hA29; clear hy29 hA29; have KL29 := Aside0.mk (show (x6_2 : Int).toNat ≤ x3_1.length from by omega); replace q29 := eq_true q29) | ((with_reducible refine gate_builtin (b := .append) (xs := #[.tmp 40, .tmp 43]) rfl ?_); at_builtin; refine Kd.R_append_rows k32 (w0 := w) w.heap.size rfl (.tmp 40) (.tmp 43) 22 32 (.agg #[(.int .i64 0), (.int .i64 0)]) 16 rfl Try.underlying22 info32 rfl (by decide) (by omega) v129 y128 y131 _ _ _ (fun k_ => some k_ ≠ (.slice (some ad116) x3_1.length co21 : Value).ownBlock ∧ k_ ≠ gb115) (fun _ => False) rfl rfl ?aO ?aR (fun _ _ h => h) (fun _ h => h.elim) ?aF ?aB ?aS ?aL ?_; (case aR => repeat (first | exact (by repeat (first | (with_reducible exact HR134.out) | (with_reducible refine Kd.C_alloc ?_ _) | (with_reducible refine Kd.C_drewN ?_ _) | (with_reducible refine Kd.C_drew ?_) | exact HR134.out)) | (with_reducible refine Kd.C_alloc ?_ _) | (with_reducible refine Kd.C_drewN ?_ _) | (with_reducible refine Kd.C_drew ?_))); (case aB => exact (by repeat (first | (with_reducible first | exact HB.out | apply below_alloc | apply pw_below_drewN | apply below_drew1 | refine below_set ?_ GE115.out) | exact HB.out))); (case aF => exact (fun k_ hk => ⟨Kd.fresh' (Kd.R_lt (by (with_reducible repeat (first | apply Kd.R_alloc | apply Kd.R_drewN | apply Kd.R_drew)); exact HO_3.out)) k_ hk, Kd.freshB (g := gb115) (o := .cells #[.int .i64 ((rd_T32 l0 x11_1).f0), .int .i64 ((rd_T32 l0 x11_1).f1)] 32 (0, 0)) (by (with_reducible repeat (first | refine blk_drewN ?_ _ | refine blk_drew ?_ | refine blk_alloc ?_ _)); exact BK115.out) k_ hk⟩)); (case aO => exact (by (with_reducible repeat (first | apply Kd.R_alloc | apply Kd.R_drewN | apply Kd.R_drew)); exact HO130.out)); (case aS => exact (below_size (by repeat (first | (with_reducible first | exact HB.out | apply below_alloc | apply pw_below_drewN | apply below_drew1 | refine below_set ?_ GE115.out) | exact HB.out)))); (case aL => have := LMc19.out; omega); intro v136 w30 ho hb hg hat; rw [← Ny135.out] at ho; have n0_ := Aside0.mk (Kd.R_after (ok := (fun k_ => k_ ≠ gb115)) (by (with_reducible repeat (first | apply Kd.R_alloc | apply Kd.R_drewN | apply Kd.R_drew)); exact HO_3.out) hg hat); have n1_ := Aside0.mk (blk_grown (g := gb115) (o := .cells #[.int .i64 ((rd_T32 l0 x11_1).f0), .int .i64 ((rd_T32 l0 x11_1).f1)] 32 (0, 0)) (by (with_reducible repeat (first | refine blk_drewN ?_ _ | refine blk_drew ?_ | refine blk_alloc ?_ _)); exact BK115.out) hg (Kd.R_away HO130.out (fun _ hk => hk.2))); have n2_ := Aside0.mk (hb); have n3_ := Aside0.mk ((show Kd.C k32 w30 (some ad116) y121.length y121 from by rw [Ny121.out]; exact Kd.C_take (m := (x6_2 : Int).toNat) ((Kd.R_reads' (Kd.R_after (ok := (fun k_ => k_ ≠ gb115)) (by (with_reducible repeat (first | apply Kd.R_alloc | apply Kd.R_drewN | apply Kd.R_drew)); exact HO_3.out) hg hat)).2.2) KL25.out)); have n4_ := Aside0.mk ((show Kd.C k32 w30 A29 y131.length y131 from by rw [Ny131.out, KA29.out]; exact Kd.C_drop (m := (x6_2 : Int).toNat) (c := co21) ((Kd.R_reads' (Kd.R_after (ok := (fun k_ => k_ ≠ gb115)) (by (with_reducible repeat (first | apply Kd.R_alloc | apply Kd.R_drewN | apply Kd.R_drew)); exact HO_3.out) hg hat)).2.2) KL29.out ((Kd.R_reads' (Kd.R_after (ok := (fun k_ => k_ ≠ gb115)) (by (with_reducible repeat (first | apply Kd.R_alloc | apply Kd.R_drewN | apply Kd.R_drew)); exact HO_3.out) hg hat)).2.1))); have n5_ := Aside0.mk (ho); clear HO_3; clear BK115; clear HB; clear HR124; clear HR134; clear HO130; have HO_3 := n0_; have BK115 := n1_; have HB := n2_; have HR124 := n3_; have HR134 := n4_; have HO137 := n5_; clear n0_ n1_ n2_ n3_ n4_ n5_; clear ho hb hg hat))
                              go_roundg k2
                              case measure => have := HK1.out; have := HK2.out; omega
                              case rel => exact ⟨(y135), (wrap64 (x11_1 + 1)), (by first | rfl | (simp; done) | (simp [*]; done)), H', ⟨by have := HK1.out; have := HK2.out; omega⟩, ⟨by (with_reducible repeat (first | apply Kd.R_alloc | apply Kd.R_drewN | apply Kd.R_drew)); exact Kd.R_mono HO137.out (fun _ hk => trivial)⟩, ⟨by repeat (first | (with_reducible first | exact HB.out | apply below_alloc | apply pw_below_drewN | apply below_drew1 | refine below_set ?_ GE115.out) | exact HB.out)⟩⟩
                            · rw [if_neg c19] at H
                              exact absurd H (by simp)
                          · rw [if_neg c16] at H
                            exact absurd H (by simp)
                        · rw [if_neg c15] at H
                          exact absurd H (by simp)
                      · rw [if_neg c14] at H
                        exact absurd H (by simp)
                    · replace c12 := Bool.eq_false_iff.mpr c12
                      subst c12
                      have H1 : (foghornref09_Sorted.l1 k2 x3_1 (wrap64 (x6_2 + 1)) l0 (l0.length : Int) x11_1 ((rd_T32 l0 x11_1).f0) ((rd_T32 l0 x11_1).f1)) = some r := by rw [if_neg (show ¬ (false = true) by decide)] at H; exact H
                      clear H
                      have H := H1
                      clear H1
                      have H' := Aside0.mk H
                      clear H
                      try go_wp2
                      have n0_ := Aside0.mk (Kd.R_drew HO_3.out)
                      have n1_ := Aside0.mk (blk_drew BK115.out)
                      have n2_ := Aside0.mk (below_drew1 HB.out)
                      clear HO_3
                      clear BK115
                      clear HB
                      have HO_3 := n0_
                      have BK115 := n1_
                      have HB := n2_
                      clear n0_ n1_ n2_
                      obtain ⟨Ao32, co32, eo32⟩ := Kd.R_slice HO_3.out
                      (first | subst eo32 | (injection eo32 with f1_ f2_ f3_; have f4_ := f1_.symm; have f5_ := f3_.symm; clear f1_ f2_ f3_; subst f4_; subst f5_))
                      have p116 : 0 ≤ (x6_2 : Int) := of_decide_eq_true (by first | (with_reducible assumption) | assumption)
                      have q116 : x6_2 < (x3_1.length : Int) := of_decide_eq_true (by first | (with_reducible assumption) | assumption)
                      obtain ⟨ad116, e116, hx116_0, hx116_1⟩ := at_T32 (Kd.R_reads' HO_3.out).2.2 x6_2 p116 q116
                      cases e116
                      replace p116 := eq_true p116
                      replace q116 := eq_true q116
                      refine start_ (n := 13) (S := fun w' => w'.cell? ⟨gb115, 0, none⟩ = some (.int .i64 ((rd_T32 l0 x11_1).f0)) ∧ w'.cell? ⟨gb115, 1, none⟩ = some (.int .i64 ((rd_T32 l0 x11_1).f1)) ∧ w'.cell? (ad116.add ((x6_2).toNat * 2)) = some (.int .i64 ((rd_T32 x3_1 x6_2).f0)) ∧ w'.cell? ⟨(ad116.add ((x6_2).toNat * 2)).block, (ad116.add ((x6_2).toNat * 2)).off + 1, none⟩ = some (.int .i64 ((rd_T32 x3_1 x6_2).f1))) (ds := []) #[false, false, false, false, false, false, false, false, false, false, false, false, false] (by kernel_rfl) rfl rfl ⟨(blk_cell BK115.out 0).trans rfl, (blk_cell BK115.out 1).trans rfl, hx116_0, hx116_1⟩ (fun hHeld => ?_); refine with_tabW foghornref09_Sorted.tab6 foghornref09_Sorted.bits6 (fun HT_ HW_ => ?_)
                      generalize wr.drew = w31 at HO_3 BK115 HB hx116_0 hx116_1 hHeld ⊢
                      refine pure_ (i := 0) (N := some 15) (v := ?_) (a' := ?_) #[true, false, false, false, false, false, false, false, false, false, false, false, false] rfl rfl (any_of HT_.out (by kernel_rfl)) (fun _ _ _ h => h) (Or.inl ⟨by rfl, ?_⟩) ?_ ?_
                      rotate_left
                      · intro w'
                        go_simp
                        with_reducible rfl
                      rotate_left
                      · simp only [Act.put, List.setIfInBounds_toArray, List.set_cons_zero, List.set_cons_succ, i64_w, i32_w]
                        rfl
                      refine pure_ (i := 1) (N := some 16) (v := ?_) (a' := ?_) #[true, true, false, false, false, false, false, false, false, false, false, false, false] rfl rfl (any_of HT_.out (by kernel_rfl)) (fun _ _ _ h => h) (Or.inl ⟨by rfl, ?_⟩) ?_ ?_
                      rotate_left
                      · intro w'
                        go_simp
                        with_reducible rfl
                      rotate_left
                      · simp only [Act.put, List.setIfInBounds_toArray, List.set_cons_zero, List.set_cons_succ, i64_w, i32_w]
                        rfl
                      refine pure_ (i := 2) (N := some 17) (v := ?_) (a' := ?_) #[true, true, true, false, false, false, false, false, false, false, false, false, false] rfl rfl (any_of HT_.out (by kernel_rfl)) (fun _ _ _ h => h) (Or.inl ⟨by rfl, ?_⟩) ?_ ?_
                      rotate_left
                      · intro w'
                        go_simp
                        with_reducible rfl
                      rotate_left
                      · simp only [Act.put, List.setIfInBounds_toArray, List.set_cons_zero, List.set_cons_succ, i64_w, i32_w]
                        rfl
                      refine pure_ (i := 3) (N := some 18) (v := ?_) (a' := ?_) #[true, true, true, true, false, false, false, false, false, false, false, false, false] rfl rfl (any_of HT_.out (by kernel_rfl)) (fun _ _ _ h => h) (Or.inl ⟨by rfl, ?_⟩) ?_ ?_
                      rotate_left
                      · intro w'
                        go_simp
                        with_reducible rfl
                      rotate_left
                      · simp only [Act.put, List.setIfInBounds_toArray, List.set_cons_zero, List.set_cons_succ, i64_w, i32_w]
                        rfl
                      refine pure_ (i := 4) (N := some 19) (v := ?_) (a' := ?_) #[true, true, true, true, true, false, false, false, false, false, false, false, false] rfl rfl (any_of HT_.out (by kernel_rfl)) (fun _ _ _ h => h) (Or.inl ⟨by rfl, ?_⟩) ?_ ?_
                      rotate_left
                      · intro w'
                        go_simp
                        with_reducible rfl
                      rotate_left
                      · simp only [Act.put, List.setIfInBounds_toArray, List.set_cons_zero, List.set_cons_succ, i64_w, i32_w]
                        rfl
                      refine pure_ (i := 6) (N := some 21) (v := ?_) (a' := ?_) #[true, true, true, true, true, false, true, false, false, false, false, false, false] rfl rfl (any_of HT_.out (by kernel_rfl)) (fun _ _ _ h => h) (Or.inl ⟨by rfl, ?_⟩) ?_ ?_
                      rotate_left
                      · intro w'
                        go_simp
                        with_reducible rfl
                      rotate_left
                      · simp only [Act.put, List.setIfInBounds_toArray, List.set_cons_zero, List.set_cons_succ, i64_w, i32_w]
                        rfl
                      refine pure_ (i := 7) (N := some 22) (v := ?_) (a' := ?_) #[true, true, true, true, true, false, true, true, false, false, false, false, false] rfl rfl (any_of HT_.out (by kernel_rfl)) (fun _ _ _ h => h) (Or.inl ⟨by rfl, ?_⟩) ?_ ?_
                      rotate_left
                      · intro w'
                        go_simp
                        with_reducible rfl
                      rotate_left
                      · simp only [Act.put, List.setIfInBounds_toArray, List.set_cons_zero, List.set_cons_succ, i64_w, i32_w]
                        rfl
                      refine pure_ (i := 8) (N := some 23) (v := ?_) (a' := ?_) #[true, true, true, true, true, false, true, true, true, false, false, false, false] rfl rfl (any_of HT_.out (by kernel_rfl)) (fun _ _ _ h => h) (Or.inl ⟨by rfl, ?_⟩) ?_ ?_
                      rotate_left
                      · intro w'
                        go_simp
                        with_reducible rfl
                      rotate_left
                      · simp only [Act.put, List.setIfInBounds_toArray, List.set_cons_zero, List.set_cons_succ, i64_w, i32_w]
                        rfl
                      refine take_ (i := 5) (N := some 20) (v := ?_) (a' := ?_) #[true, true, true, true, true, true, true, true, true, false, false, false, false] rfl rfl (take_ofW HT_.out HW_.out (by kernel_rfl)) (fun _ _ _ h => h) (Or.inl ⟨by rfl, ?_⟩) hHeld ?_ ?_
                      rotate_left
                      · rintro w' ⟨s0, s1, s2, s3⟩
                        go_simp
                        with_reducible rfl
                      rotate_left
                      · simp only [Act.put, List.setIfInBounds_toArray, List.set_cons_zero, List.set_cons_succ, i64_w, i32_w]
                        rfl
                      refine take_ (i := 9) (N := some 24) (v := ?_) (a' := ?_) #[true, true, true, true, true, true, true, true, true, true, false, false, false] rfl rfl (take_ofW HT_.out HW_.out (by kernel_rfl)) (fun _ _ _ h => h) (Or.inl ⟨by rfl, ?_⟩) hHeld ?_ ?_
                      rotate_left
                      · rintro w' ⟨s0, s1, s2, s3⟩
                        go_simp
                        with_reducible rfl
                      rotate_left
                      · simp only [Act.put, List.setIfInBounds_toArray, List.set_cons_zero, List.set_cons_succ, i64_w, i32_w]
                        rfl
                      refine one_ (i := 10) (N := some 25) #[true, true, true, true, true, true, true, true, true, true, true, false, false] rfl rfl (one_of HT_.out (by kernel_rfl)) (by decide) (fun K hK => ?_)
                      refine goes_ Try.func18 (by kernel_rfl) rfl #[.agg #[.int .i64 ((rd_T32 l0 x11_1).f0), .int .i64 ((rd_T32 l0 x11_1).f1)], .agg #[.int .i64 ((rd_T32 x3_1 x6_2).f0), .int .i64 ((rd_T32 x3_1 x6_2).f1)]] (by rfl) rfl rfl (by (try simp only [List.map_toArray, List.map_cons, List.map_nil]); first | done | rfl | (simp only [List.length_drop, List.length_take]; rfl)) ?_
                      with_reducible refine (foghornref09_Ahead.calls ((rd_T32 l0 x11_1).f0) ((rd_T32 l0 x11_1).f1) ((rd_T32 x3_1 x6_2).f0) ((rd_T32 x3_1 x6_2).f1) false _ A11.out).mono ?_
                      rintro e w33 ⟨rfl, hb⟩
                      have HS2_ := (hb.cell (World.block_lt_of_cell? _ _ (hHeld.2.2.1))).trans (hHeld.2.2.1)
                      have HS3_ := (hb.cell (World.block_lt_of_cell? _ _ (hHeld.2.2.2))).trans (hHeld.2.2.2)
                      refine ⟨_, rfl, ?_⟩
                      have n0_ := Aside0.mk (Kd.R_below (by (with_reducible repeat (first | apply Kd.R_alloc | apply Kd.R_drewN | apply Kd.R_drew)); exact HO_3.out) hb)
                      have n1_ := Aside0.mk (blk_below (g := gb115) (o := .cells #[.int .i64 ((rd_T32 l0 x11_1).f0), .int .i64 ((rd_T32 l0 x11_1).f1)] 32 (0, 0)) (by (with_reducible repeat (first | refine blk_drewN ?_ _ | refine blk_drew ?_ | refine blk_alloc ?_ _)); exact BK115.out) hb)
                      have n2_ := Aside0.mk (below_step (by repeat (first | (with_reducible first | exact HB.out | apply below_alloc | apply pw_below_drewN | apply below_drew1 | refine below_set ?_ GE115.out) | exact HB.out)) hb)
                      clear HO_3
                      clear BK115
                      clear HB
                      have HO_3 := n0_
                      have BK115 := n1_
                      have HB := n2_
                      clear n0_ n1_ n2_
                      (try clear hb)
                      (try clear hb2)
                      (try clear hk)
                      (try clear hi)
                      refine hK.out _ _ ⟨(blk_cell BK115.out 0).trans rfl, (blk_cell BK115.out 1).trans rfl, HS2_, HS3_⟩ (fun hHeld => ?_)
                      clear hK K
                      refine norm_ (a' := ?_) ?_ ?_
                      rotate_left
                      · show Act.put _ (some 25) _ = _
                        simp only [Act.put, List.setIfInBounds_toArray, List.set_cons_zero, List.set_cons_succ, i64_w, i32_w]
                        rfl
                      refine pure_ (i := 11) (N := some 26) (v := ?_) (a' := ?_) #[true, true, true, true, true, true, true, true, true, true, true, true, false] rfl rfl (any_of HT_.out (by kernel_rfl)) (fun _ _ _ h => h) (Or.inl ⟨by rfl, ?_⟩) ?_ ?_
                      rotate_left
                      · intro w'
                        go_simp
                        with_reducible rfl
                      rotate_left
                      · simp only [Act.put, List.setIfInBounds_toArray, List.set_cons_zero, List.set_cons_succ, i64_w, i32_w]
                        rfl
                      refine pure_ (i := 12) (N := some 27) (v := ?_) (a' := ?_) #[true, true, true, true, true, true, true, true, true, true, true, true, true] rfl rfl (any_of HT_.out (by kernel_rfl)) (fun _ _ _ h => h) (Or.inl ⟨by rfl, ?_⟩) ?_ ?_
                      rotate_left
                      · intro w'
                        go_simp
                        with_reducible rfl
                      rotate_left
                      · simp only [Act.put, List.setIfInBounds_toArray, List.set_cons_zero, List.set_cons_succ, i64_w, i32_w]
                        rfl
                      refine done_ (done_of HT_.out (by kernel_rfl)) ?_
                      try go_wp2
                      go_roundg k2
                      case measure => have := HK1.out; have := HK2.out; omega
                      case rel => exact ⟨(wrap64 (x6_2 + 1)), (by first | rfl | (simp; done) | (simp [*]; done)), H', ⟨by have := HK1.out; have := HK2.out; omega⟩, ⟨by (with_reducible repeat (first | apply Kd.R_alloc | apply Kd.R_drewN | apply Kd.R_drew)); exact HO_3.out⟩, ⟨by (with_reducible repeat (first | refine blk_drewN ?_ _ | refine blk_drew ?_ | refine blk_alloc ?_ _)); exact BK115.out⟩, ⟨by repeat (first | (with_reducible first | exact HB.out | apply below_alloc | apply pw_below_drewN | apply below_drew1 | refine below_set ?_ GE115.out) | exact HB.out)⟩⟩
                  · rw [if_neg c10] at H
                    exact absurd H (by simp)
                · rw [if_neg c9] at H
                  have c9b0 : decide (x6_2 < (x3_1.length : Int)) = false := decide_eq_false c9
                  clear c9
                  obtain ⟨y138, hy138⟩ : ∃ y_ : List (S32), y_ = (([] : List (S32))) := ⟨_, rfl⟩
                  replace H : (if 0 ≤ x6_2 then (if x6_2 ≤ (x3_1.length : Int) then ((some (x3_1.take (x6_2 : Int).toNat : List (S32))).bind fun y141 => (if y138.length + y141.length < 8796093022208 then ((some (y138 ++ y141 : List (S32))).bind fun y145 => (if y145.length < 8796093022208 then ((some (y145 ++ [(⟨((rd_T32 l0 x11_1).f0), ((rd_T32 l0 x11_1).f1)⟩ : S32)] : List (S32))).bind fun y148 => ((some (x3_1.drop (x6_2 : Int).toNat : List (S32))).bind fun y151 => (if y148.length + y151.length < 8796093022208 then (foghornref09_Sorted.l0 k2 (y148 ++ y151) l0 (l0.length : Int) (wrap64 (x11_1 + 1))) else (none)))) else (none))) else (none))) else (none)) else (none)) = some r := by first | (rw [hy138]; with_reducible exact H) | (have H2_ := (Option.bind_some _ _).symm.trans H; rw [hy138]; with_reducible exact H2_) | (have H2_ := (Option.bind_some _ _).symm.trans H; with_reducible exact H2_) | with_reducible exact H | (rw [hy138]; exact H) | exact H
                  have Ny138 := Aside0.mk hy138
                  clear hy138
                  by_cases c34 : 0 ≤ x6_2
                  · rw [if_pos c34] at H
                    have c34b0 := eq_true c34
                    have c34b1 : decide (0 ≤ x6_2) = true := decide_eq_true c34
                    clear c34
                    by_cases c35 : x6_2 ≤ (x3_1.length : Int)
                    · rw [if_pos c35] at H
                      have c35b0 := eq_true c35
                      have c35b1 : decide (x6_2 ≤ (x3_1.length : Int)) = true := decide_eq_true c35
                      clear c35
                      obtain ⟨y141, hy141⟩ : ∃ y_ : List (S32), y_ = (x3_1.take (x6_2 : Int).toNat) := ⟨_, rfl⟩
                      replace H : (if y138.length + y141.length < 8796093022208 then ((some (y138 ++ y141 : List (S32))).bind fun y145 => (if y145.length < 8796093022208 then ((some (y145 ++ [(⟨((rd_T32 l0 x11_1).f0), ((rd_T32 l0 x11_1).f1)⟩ : S32)] : List (S32))).bind fun y148 => ((some (x3_1.drop (x6_2 : Int).toNat : List (S32))).bind fun y151 => (if y148.length + y151.length < 8796093022208 then (foghornref09_Sorted.l0 k2 (y148 ++ y151) l0 (l0.length : Int) (wrap64 (x11_1 + 1))) else (none)))) else (none))) else (none)) = some r := by first | (rw [hy141]; with_reducible exact H) | (have H2_ := (Option.bind_some _ _).symm.trans H; rw [hy141]; with_reducible exact H2_) | (have H2_ := (Option.bind_some _ _).symm.trans H; with_reducible exact H2_) | with_reducible exact H | (rw [hy141]; exact H) | exact H
                      have Ny141 := Aside0.mk hy141
                      clear hy141
                      by_cases c36 : y138.length + y141.length < 8796093022208
                      · rw [if_pos c36] at H
                        have LMc36 := Aside0.mk c36
                        clear c36
                        obtain ⟨y145, hy145⟩ : ∃ y_ : List (S32), y_ = (y138 ++ y141) := ⟨_, rfl⟩
                        replace H : (if y145.length < 8796093022208 then ((some (y145 ++ [(⟨((rd_T32 l0 x11_1).f0), ((rd_T32 l0 x11_1).f1)⟩ : S32)] : List (S32))).bind fun y148 => ((some (x3_1.drop (x6_2 : Int).toNat : List (S32))).bind fun y151 => (if y148.length + y151.length < 8796093022208 then (foghornref09_Sorted.l0 k2 (y148 ++ y151) l0 (l0.length : Int) (wrap64 (x11_1 + 1))) else (none)))) else (none)) = some r := by first | (rw [hy145]; with_reducible exact H) | (have H2_ := (Option.bind_some _ _).symm.trans H; rw [hy145]; with_reducible exact H2_) | (have H2_ := (Option.bind_some _ _).symm.trans H; with_reducible exact H2_) | with_reducible exact H | (rw [hy145]; exact H) | exact H
                        have Ny145 := Aside0.mk hy145
                        clear hy145
                        by_cases c37 : y145.length < 8796093022208
                        · rw [if_pos c37] at H
                          have LMc37 := Aside0.mk c37
                          clear c37
                          obtain ⟨y148, hy148⟩ : ∃ y_ : List (S32), y_ = (y145 ++ [(⟨((rd_T32 l0 x11_1).f0), ((rd_T32 l0 x11_1).f1)⟩ : S32)]) := ⟨_, rfl⟩
                          replace H : ((some (x3_1.drop (x6_2 : Int).toNat : List (S32))).bind fun y151 => (if y148.length + y151.length < 8796093022208 then (foghornref09_Sorted.l0 k2 (y148 ++ y151) l0 (l0.length : Int) (wrap64 (x11_1 + 1))) else (none))) = some r := by first | (rw [hy148]; with_reducible exact H) | (have H2_ := (Option.bind_some _ _).symm.trans H; rw [hy148]; with_reducible exact H2_) | (have H2_ := (Option.bind_some _ _).symm.trans H; with_reducible exact H2_) | with_reducible exact H | (rw [hy148]; exact H) | exact H
                          have Ny148 := Aside0.mk hy148
                          clear hy148
                          have c38b0 := eq_true (of_decide_eq_true (by first | (with_reducible assumption) | assumption) : 0 ≤ x6_2)
                          have c39b0 := eq_true (of_decide_eq_true (by first | (with_reducible assumption) | assumption) : x6_2 ≤ (x3_1.length : Int))
                          obtain ⟨y151, hy151⟩ : ∃ y_ : List (S32), y_ = (x3_1.drop (x6_2 : Int).toNat) := ⟨_, rfl⟩
                          replace H : (if y148.length + y151.length < 8796093022208 then (foghornref09_Sorted.l0 k2 (y148 ++ y151) l0 (l0.length : Int) (wrap64 (x11_1 + 1))) else (none)) = some r := by first | (rw [hy151]; with_reducible exact H) | (have H2_ := (Option.bind_some _ _).symm.trans H; rw [hy151]; with_reducible exact H2_) | (have H2_ := (Option.bind_some _ _).symm.trans H; with_reducible exact H2_) | with_reducible exact H | (rw [hy151]; exact H) | exact H
                          have Ny151 := Aside0.mk hy151
                          clear hy151
                          by_cases c40 : y148.length + y151.length < 8796093022208
                          · rw [if_pos c40] at H
                            have LMc40 := Aside0.mk c40
                            clear c40
                            obtain ⟨y155, hy155⟩ : ∃ y_ : List (S32), y_ = (y148 ++ y151) := ⟨_, rfl⟩
                            replace H : (foghornref09_Sorted.l0 k2 y155 l0 (l0.length : Int) (wrap64 (x11_1 + 1))) = some r := by first | (rw [hy155]; with_reducible exact H) | (have H2_ := (Option.bind_some _ _).symm.trans H; rw [hy155]; with_reducible exact H2_) | (have H2_ := (Option.bind_some _ _).symm.trans H; with_reducible exact H2_) | with_reducible exact H | (rw [hy155]; exact H) | exact H
                            have Ny155 := Aside0.mk hy155
                            clear hy155
                            have H' := Aside0.mk H
                            clear H
                            try go_wp2
                            have n0_ := Aside0.mk (Kd.R_drew HO_3.out)
                            have n1_ := Aside0.mk (blk_drew BK115.out)
                            have n2_ := Aside0.mk (below_drew1 HB.out)
                            clear HO_3
                            clear BK115
                            clear HB
                            have HO_3 := n0_
                            have BK115 := n1_
                            have HB := n2_
                            clear n0_ n1_ n2_
                            obtain ⟨Ao42, co42, eo42⟩ := Kd.R_slice HO_3.out
                            (first | subst eo42 | (injection eo42 with f1_ f2_ f3_; have f4_ := f1_.symm; have f5_ := f3_.symm; clear f1_ f2_ f3_; subst f4_; subst f5_))
                            refine start_ (n := 13) (S := fun w' => True) (ds := []) #[false, false, false, false, false, false, false, false, false, false, false, false, false] (by kernel_rfl) rfl rfl trivial (fun hHeld => ?_); refine with_tabW foghornref09_Sorted.tab6 foghornref09_Sorted.bits6 (fun HT_ HW_ => ?_)
                            generalize wr.drew = w41 at HO_3 BK115 HB hHeld ⊢
                            refine pure_ (i := 0) (N := some 15) (v := ?_) (a' := ?_) #[true, false, false, false, false, false, false, false, false, false, false, false, false] rfl rfl (any_of HT_.out (by kernel_rfl)) (fun _ _ _ h => h) (Or.inl ⟨by rfl, ?_⟩) ?_ ?_
                            rotate_left
                            · intro w'
                              go_simp
                              with_reducible rfl
                            rotate_left
                            · simp only [Act.put, List.setIfInBounds_toArray, List.set_cons_zero, List.set_cons_succ, i64_w, i32_w]
                              rfl
                            refine pure_ (i := 1) (N := some 16) (v := ?_) (a' := ?_) #[true, true, false, false, false, false, false, false, false, false, false, false, false] rfl rfl (any_of HT_.out (by kernel_rfl)) (fun _ _ _ h => h) (Or.inl ⟨by rfl, ?_⟩) ?_ ?_
                            rotate_left
                            · intro w'
                              go_simp
                              with_reducible rfl
                            rotate_left
                            · simp only [Act.put, List.setIfInBounds_toArray, List.set_cons_zero, List.set_cons_succ, i64_w, i32_w]
                              rfl
                            refine pure_ (i := 2) (N := some 17) (v := ?_) (a' := ?_) #[true, true, true, false, false, false, false, false, false, false, false, false, false] rfl rfl (any_of HT_.out (by kernel_rfl)) (fun _ _ _ h => h) (Or.inl ⟨by rfl, ?_⟩) ?_ ?_
                            rotate_left
                            · intro w'
                              go_simp
                              with_reducible rfl
                            rotate_left
                            · simp only [Act.put, List.setIfInBounds_toArray, List.set_cons_zero, List.set_cons_succ, i64_w, i32_w]
                              rfl
                            refine pure_ (i := 3) (N := some 18) (v := ?_) (a' := ?_) #[true, true, true, true, false, false, false, false, false, false, false, false, false] rfl rfl (any_of HT_.out (by kernel_rfl)) (fun _ _ _ h => h) (Or.inl ⟨by rfl, ?_⟩) ?_ ?_
                            rotate_left
                            · intro w'
                              go_simp
                              with_reducible rfl
                            rotate_left
                            · simp only [Act.put, List.setIfInBounds_toArray, List.set_cons_zero, List.set_cons_succ, i64_w, i32_w]
                              rfl
                            refine pure_ (i := 4) (N := some 19) (v := ?_) (a' := ?_) #[true, true, true, true, true, false, false, false, false, false, false, false, false] rfl rfl (any_of HT_.out (by kernel_rfl)) (fun _ _ _ h => h) (Or.inl ⟨by rfl, ?_⟩) ?_ ?_
                            rotate_left
                            · intro w'
                              go_simp
                              with_reducible rfl
                            rotate_left
                            · simp only [Act.put, List.setIfInBounds_toArray, List.set_cons_zero, List.set_cons_succ, i64_w, i32_w]
                              rfl
                            refine pure_ (i := 5) (N := some 20) (v := undef) (a' := ?_) #[true, true, true, true, true, true, false, false, false, false, false, false, false] rfl rfl (any_of HT_.out (by kernel_rfl)) (fun _ _ _ h => h) (Or.inr ⟨by rfl, rfl⟩) ?_ ?_
                            rotate_left
                            · simp only [Act.put, List.setIfInBounds_toArray, List.set_cons_zero, List.set_cons_succ, i64_w, i32_w]
                              rfl
                            refine pure_ (i := 6) (N := some 21) (v := undef) (a' := ?_) #[true, true, true, true, true, true, true, false, false, false, false, false, false] rfl rfl (any_of HT_.out (by kernel_rfl)) (fun _ _ _ h => h) (Or.inr ⟨by rfl, rfl⟩) ?_ ?_
                            rotate_left
                            · simp only [Act.put, List.setIfInBounds_toArray, List.set_cons_zero, List.set_cons_succ, i64_w, i32_w]
                              rfl
                            refine pure_ (i := 7) (N := some 22) (v := undef) (a' := ?_) #[true, true, true, true, true, true, true, true, false, false, false, false, false] rfl rfl (any_of HT_.out (by kernel_rfl)) (fun _ _ _ h => h) (Or.inr ⟨by rfl, rfl⟩) ?_ ?_
                            rotate_left
                            · simp only [Act.put, List.setIfInBounds_toArray, List.set_cons_zero, List.set_cons_succ, i64_w, i32_w]
                              rfl
                            refine pure_ (i := 8) (N := some 23) (v := undef) (a' := ?_) #[true, true, true, true, true, true, true, true, true, false, false, false, false] rfl rfl (any_of HT_.out (by kernel_rfl)) (fun _ _ _ h => h) (Or.inr ⟨by rfl, rfl⟩) ?_ ?_
                            rotate_left
                            · simp only [Act.put, List.setIfInBounds_toArray, List.set_cons_zero, List.set_cons_succ, i64_w, i32_w]
                              rfl
                            refine pure_ (i := 9) (N := some 24) (v := undef) (a' := ?_) #[true, true, true, true, true, true, true, true, true, true, false, false, false] rfl rfl (any_of HT_.out (by kernel_rfl)) (fun _ _ _ h => h) (Or.inr ⟨by rfl, rfl⟩) ?_ ?_
                            rotate_left
                            · simp only [Act.put, List.setIfInBounds_toArray, List.set_cons_zero, List.set_cons_succ, i64_w, i32_w]
                              rfl
                            refine pure_ (i := 10) (N := some 25) (v := undef) (a' := ?_) #[true, true, true, true, true, true, true, true, true, true, true, false, false] rfl rfl (any_of HT_.out (by kernel_rfl)) (fun _ _ _ h => h) (Or.inr ⟨by rfl, rfl⟩) ?_ ?_
                            rotate_left
                            · simp only [Act.put, List.setIfInBounds_toArray, List.set_cons_zero, List.set_cons_succ, i64_w, i32_w]
                              rfl
                            refine pure_ (i := 11) (N := some 26) (v := undef) (a' := ?_) #[true, true, true, true, true, true, true, true, true, true, true, true, false] rfl rfl (any_of HT_.out (by kernel_rfl)) (fun _ _ _ h => h) (Or.inr ⟨by rfl, rfl⟩) ?_ ?_
                            rotate_left
                            · simp only [Act.put, List.setIfInBounds_toArray, List.set_cons_zero, List.set_cons_succ, i64_w, i32_w]
                              rfl
                            refine pure_ (i := 12) (N := some 27) (v := ?_) (a' := ?_) #[true, true, true, true, true, true, true, true, true, true, true, true, true] rfl rfl (any_of HT_.out (by kernel_rfl)) (fun _ _ _ h => h) (Or.inl ⟨by rfl, ?_⟩) ?_ ?_
                            rotate_left
                            · intro w'
                              go_simp
                              with_reducible rfl
                            rotate_left
                            · simp only [Act.put, List.setIfInBounds_toArray, List.set_cons_zero, List.set_cons_succ, i64_w, i32_w]
                              rfl
                            refine done_ (done_of HT_.out (by kernel_rfl)) ?_
                            try go_wp2_with (first | ((with_reducible refine gate_dst (N := 30) rfl ?_); refine Kd.R_lit k32 _ 32 ?hg (N := 30) ?hd (xs := ([] : List (S32))) (inner := []) (ok := fun _ => True) (okp := fun _ => True) ?hr ?hp (fun _ hk => hk) trivial (Below.refl _ _) (Nat.le_refl _) (by simp) ?_; (case hd => rfl); (case hg => rfl); (case hr => first | (go_simp; done) | (go_simp; rfl)); (case hp => exact (Reps.none _ _)); intro v139 w43 ho44 hb hg_ hnew_; clear hg_ hnew_; (first | rw [← Ny138.out] at ho44 | (simp only [Int.reduceToNat] at ho44; rw [← Ny138.out] at ho44)); have n0_ := Aside0.mk (Kd.R_elder' (by (with_reducible repeat (first | apply Kd.R_alloc | apply Kd.R_drewN | apply Kd.R_drew)); exact HO_3.out) (Kd.R_base ho44) hb); have n1_ := Aside0.mk (Kd.R_lower (Kd.R_newB (Kd.R_new' ho44 (Kd.R_lt (by (with_reducible repeat (first | apply Kd.R_alloc | apply Kd.R_drewN | apply Kd.R_drew)); exact HO_3.out))) (g := gb115) (o := .cells #[.int .i64 ((rd_T32 l0 x11_1).f0), .int .i64 ((rd_T32 l0 x11_1).f1)] 32 (0, 0)) (by (with_reducible repeat (first | refine blk_drewN ?_ _ | refine blk_drew ?_ | refine blk_alloc ?_ _)); exact BK115.out)) (below_size (by repeat (first | (with_reducible first | exact HB.out | apply below_alloc | apply pw_below_drewN | apply below_drew1 | refine below_set ?_ GE115.out) | exact HB.out)))); have n2_ := Aside0.mk (blk_below (g := gb115) (o := .cells #[.int .i64 ((rd_T32 l0 x11_1).f0), .int .i64 ((rd_T32 l0 x11_1).f1)] 32 (0, 0)) (by (with_reducible repeat (first | refine blk_drewN ?_ _ | refine blk_drew ?_ | refine blk_alloc ?_ _)); exact BK115.out) hb); have n3_ := Aside0.mk (below_step (by repeat (first | (with_reducible first | exact HB.out | apply below_alloc | apply pw_below_drewN | apply below_drew1 | refine below_set ?_ GE115.out) | exact HB.out)) hb); clear HO_3; clear BK115; clear HB; have HO_3 := n0_; have HO140 := n1_; have BK115 := n2_; have HB := n3_; clear n0_ n1_ n2_ n3_; clear hb ho44; have q45 : (x6_2 : Int) ≤ ((x3_1.length : Int) : Int) := of_decide_eq_true (by first | (with_reducible assumption) | assumption); obtain ⟨i045, hi045, _, hsz45, _⟩ := info_parts info32; have hroom45 : x3_1.length ≤ co42 := (Kd.R_reads' HO_3.out).2.1; have hC45 : Kd.C k32 _ Ao42 x3_1.length x3_1 := (Kd.R_reads' HO_3.out).2.2; have hcut45 := cut_to (P := Try.prog) 22 32 .i64 Try.underlying22 hi045 Ao42 x3_1.length co42 x6_2 (of_decide_eq_true (by first | (with_reducible assumption) | assumption)) q45 hroom45; have hr45 := Kd.C_take (m := (x6_2 : Int).toNat) hC45 (by omega); have hy45 : y141.length = (x6_2 : Int).toNat := (by rw [Ny141.out, List.length_take]; omega); rw [← Ny141.out] at hr45; rw [← hy45] at hcut45; have HR144 := Aside0.mk hr45; have HC144 := Aside0.mk (show y141.length ≤ co42 from by omega); clear hr45 hC45 hroom45 hi045 hsz45; have KY45 := Aside0.mk hy45; clear hy45; have KL45 := Aside0.mk (show (x6_2 : Int).toNat ≤ x3_1.length from by omega); replace q45 := eq_true q45) | ((with_reducible refine gate_builtin (b := .append) (xs := #[.tmp 31, .tmp 34]) rfl ?_); at_builtin; refine Kd.R_append_rows k32 (w0 := w) w.heap.size rfl (.tmp 31) (.tmp 34) 22 32 (.agg #[(.int .i64 0), (.int .i64 0)]) 16 rfl Try.underlying22 info32 rfl (by decide) (by omega) v139 y138 y141 _ _ _ (fun k_ => some k_ ≠ (.slice Ao42 x3_1.length co42 : Value).ownBlock ∧ k_ ≠ gb115) (fun _ => False) rfl rfl ?aO ?aR (fun _ _ h => h) (fun _ h => h.elim) ?aF ?aB ?aS ?aL ?_; (case aR => repeat (first | exact (by repeat (first | (with_reducible exact HR144.out) | (with_reducible refine Kd.C_alloc ?_ _) | (with_reducible refine Kd.C_drewN ?_ _) | (with_reducible refine Kd.C_drew ?_) | exact HR144.out)) | (with_reducible refine Kd.C_alloc ?_ _) | (with_reducible refine Kd.C_drewN ?_ _) | (with_reducible refine Kd.C_drew ?_))); (case aB => exact (by repeat (first | (with_reducible first | exact HB.out | apply below_alloc | apply pw_below_drewN | apply below_drew1 | refine below_set ?_ GE115.out) | exact HB.out))); (case aF => exact (fun k_ hk => ⟨Kd.fresh' (Kd.R_lt (by (with_reducible repeat (first | apply Kd.R_alloc | apply Kd.R_drewN | apply Kd.R_drew)); exact HO_3.out)) k_ hk, Kd.freshB (g := gb115) (o := .cells #[.int .i64 ((rd_T32 l0 x11_1).f0), .int .i64 ((rd_T32 l0 x11_1).f1)] 32 (0, 0)) (by (with_reducible repeat (first | refine blk_drewN ?_ _ | refine blk_drew ?_ | refine blk_alloc ?_ _)); exact BK115.out) k_ hk⟩)); (case aO => exact (by (with_reducible repeat (first | apply Kd.R_alloc | apply Kd.R_drewN | apply Kd.R_drew)); exact Kd.R_mono HO140.out (fun _ hk => ⟨hk.1.2, hk.2⟩))); (case aS => exact (below_size (by repeat (first | (with_reducible first | exact HB.out | apply below_alloc | apply pw_below_drewN | apply below_drew1 | refine below_set ?_ GE115.out) | exact HB.out)))); (case aL => have := LMc36.out; omega); intro v146 w46 ho hb hg hat; rw [← Ny145.out] at ho; have n0_ := Aside0.mk (Kd.R_after (ok := (fun k_ => k_ ≠ gb115)) (by (with_reducible repeat (first | apply Kd.R_alloc | apply Kd.R_drewN | apply Kd.R_drew)); exact HO_3.out) hg hat); have n1_ := Aside0.mk (blk_grown (g := gb115) (o := .cells #[.int .i64 ((rd_T32 l0 x11_1).f0), .int .i64 ((rd_T32 l0 x11_1).f1)] 32 (0, 0)) (by (with_reducible repeat (first | refine blk_drewN ?_ _ | refine blk_drew ?_ | refine blk_alloc ?_ _)); exact BK115.out) hg (Kd.R_away HO140.out (fun _ hk => hk.2))); have n2_ := Aside0.mk (hb); have n3_ := Aside0.mk ((show Kd.C k32 w46 Ao42 y141.length y141 from by rw [Ny141.out]; exact Kd.C_take (m := (x6_2 : Int).toNat) ((Kd.R_reads' (Kd.R_after (ok := (fun k_ => k_ ≠ gb115)) (by (with_reducible repeat (first | apply Kd.R_alloc | apply Kd.R_drewN | apply Kd.R_drew)); exact HO_3.out) hg hat)).2.2) KL45.out)); have n4_ := Aside0.mk (ho); clear HO_3; clear BK115; clear HB; clear HR144; clear HO140; have HO_3 := n0_; have BK115 := n1_; have HB := n2_; have HR144 := n3_; have HO147 := n4_; clear n0_ n1_ n2_ n3_ n4_; clear ho hb hg hat; have hcz47_0 : w46.cell? ⟨gb115, 0, none⟩ = some (.int .i64 ((rd_T32 l0 x11_1).f0)) := (blk_cell BK115.out 0).trans rfl; have hcz47_1 : w46.cell? ⟨gb115, 1, none⟩ = some (.int .i64 ((rd_T32 l0 x11_1).f1)) := (blk_cell BK115.out 1).trans rfl; have hfz47_0 := blk_frozen BK115.out 0; have hfz47_1 := blk_frozen BK115.out 1) | ((with_reducible refine gate_builtin (b := .append) (xs := #[.tmp 36, .tmp 38]) rfl ?_); at_builtin; refine Kd.R_append k32 (w0 := w) w.heap.size rfl (.tmp 36) (.tmp 38) 22 32 (.agg #[(.int .i64 0), (.int .i64 0)]) 16 rfl Try.underlying22 info32 rfl (by decide) (by omega) v146 y145 (⟨((rd_T32 l0 x11_1).f0), ((rd_T32 l0 x11_1).f1)⟩ : S32) [.int .i64 ((rd_T32 l0 x11_1).f0), .int .i64 ((rd_T32 l0 x11_1).f1)] (fun k_ => some k_ ≠ (.slice Ao42 x3_1.length co42 : Value).ownBlock ∧ k_ ≠ gb115) (fun _ => False) rfl rfl ?aP (fun _ hk => hk.elim) ?aF ?aO ?aB ?aS ?aL ?_; (case aP => exact k32_mkM _ _ _ (⟨((rd_T32 l0 x11_1).f0), ((rd_T32 l0 x11_1).f1)⟩ : S32)); (case aB => exact (by repeat (first | (with_reducible first | exact HB.out | apply below_alloc | apply pw_below_drewN | apply below_drew1 | refine below_set ?_ GE115.out) | exact HB.out))); (case aF => exact (fun k_ hk => ⟨Kd.fresh' (Kd.R_lt (by (with_reducible repeat (first | apply Kd.R_alloc | apply Kd.R_drewN | apply Kd.R_drew)); exact HO_3.out)) k_ hk, Kd.freshB (g := gb115) (o := .cells #[.int .i64 ((rd_T32 l0 x11_1).f0), .int .i64 ((rd_T32 l0 x11_1).f1)] 32 (0, 0)) (by (with_reducible repeat (first | refine blk_drewN ?_ _ | refine blk_drew ?_ | refine blk_alloc ?_ _)); exact BK115.out) k_ hk⟩)); (case aO => exact (by (with_reducible repeat (first | apply Kd.R_alloc | apply Kd.R_drewN | apply Kd.R_drew)); exact HO147.out)); (case aS => exact (below_size (by repeat (first | (with_reducible first | exact HB.out | apply below_alloc | apply pw_below_drewN | apply below_drew1 | refine below_set ?_ GE115.out) | exact HB.out)))); (case aL => have := LMc37.out; omega); intro v149 w48 ho hb hg hat; rw [← Ny148.out] at ho; have n0_ := Aside0.mk (Kd.R_after (ok := (fun k_ => k_ ≠ gb115)) (by (with_reducible repeat (first | apply Kd.R_alloc | apply Kd.R_drewN | apply Kd.R_drew)); exact HO_3.out) hg hat); have n1_ := Aside0.mk (blk_grown (g := gb115) (o := .cells #[.int .i64 ((rd_T32 l0 x11_1).f0), .int .i64 ((rd_T32 l0 x11_1).f1)] 32 (0, 0)) (by (with_reducible repeat (first | refine blk_drewN ?_ _ | refine blk_drew ?_ | refine blk_alloc ?_ _)); exact BK115.out) hg (Kd.R_away HO147.out (fun _ hk => hk.2))); have n2_ := Aside0.mk (hb); have n3_ := Aside0.mk ((show Kd.C k32 w48 Ao42 y141.length y141 from by rw [Ny141.out]; exact Kd.C_take (m := (x6_2 : Int).toNat) ((Kd.R_reads' (Kd.R_after (ok := (fun k_ => k_ ≠ gb115)) (by (with_reducible repeat (first | apply Kd.R_alloc | apply Kd.R_drewN | apply Kd.R_drew)); exact HO_3.out) hg hat)).2.2) KL45.out)); have n4_ := Aside0.mk (ho); clear HO_3; clear BK115; clear HB; clear HR144; clear HO147; have HO_3 := n0_; have BK115 := n1_; have HB := n2_; have HR144 := n3_; have HO150 := n4_; clear n0_ n1_ n2_ n3_ n4_; clear ho hb hg hat; have q49 : (x6_2 : Int) ≤ ((x3_1.length : Int) : Int) := of_decide_eq_true (by first | (with_reducible assumption) | assumption); obtain ⟨i049, hi049, _, hsz49, _⟩ := info_parts info32; have hroom49 : x3_1.length ≤ co42 := (Kd.R_reads' HO_3.out).2.1; have hC49 : Kd.C k32 _ Ao42 x3_1.length x3_1 := (Kd.R_reads' HO_3.out).2.2; have q049 : (0 : Int) ≤ (x6_2 : Int) := of_decide_eq_true (by first | (with_reducible assumption) | assumption); have hcut49 := cut_from (P := Try.prog) 22 32 .i64 Try.underlying22 hi049 2 hsz49 Ao42 x3_1.length co42 x6_2 q049 q49; have hr49 := Kd.C_drop (m := (x6_2 : Int).toNat) (c := co42) hC49 (by omega) hroom49; obtain ⟨A49, hA49⟩ : ∃ A1, A1 = (if co42 = (x6_2 : Int).toNat then Ao42 else (Ao42 : Option Addr).map (·.add ((x6_2 : Int).toNat * 2))) := ⟨_, rfl⟩; obtain ⟨c49, hc49⟩ : ∃ c1, c1 = co42 - (x6_2 : Int).toNat := ⟨_, rfl⟩; have hy49 : y151.length = x3_1.length - (x6_2 : Int).toNat := (by rw [Ny151.out, List.length_drop] <;> omega); rw [show (x3_1).drop (x6_2 : Int).toNat = y151 from Ny151.out.symm] at hr49; replace hr49 : Kd.C k32 _ A49 y151.length y151 := (by rw [hA49]; exact hr49); rw [← hy49, ← hA49, ← hc49] at hcut49; have HR154 := Aside0.mk hr49; have HC154 := Aside0.mk (show y151.length ≤ c49 from by rw [hy49, hc49]; exact Nat.sub_le_sub_right hroom49 _); clear hr49 hC49 hroom49 hi049 hsz49 hc49; have KY49 := Aside0.mk hy49; have KA49 := Aside0.mk hA49; clear hy49 hA49; have KL49 := Aside0.mk (show (x6_2 : Int).toNat ≤ x3_1.length from by omega); replace q49 := eq_true q49) | ((with_reducible refine gate_builtin (b := .append) (xs := #[.tmp 40, .tmp 43]) rfl ?_); at_builtin; refine Kd.R_append_rows k32 (w0 := w) w.heap.size rfl (.tmp 40) (.tmp 43) 22 32 (.agg #[(.int .i64 0), (.int .i64 0)]) 16 rfl Try.underlying22 info32 rfl (by decide) (by omega) v149 y148 y151 _ _ _ (fun k_ => some k_ ≠ (.slice Ao42 x3_1.length co42 : Value).ownBlock ∧ k_ ≠ gb115) (fun _ => False) rfl rfl ?aO ?aR (fun _ _ h => h) (fun _ h => h.elim) ?aF ?aB ?aS ?aL ?_; (case aR => repeat (first | exact (by repeat (first | (with_reducible exact HR154.out) | (with_reducible refine Kd.C_alloc ?_ _) | (with_reducible refine Kd.C_drewN ?_ _) | (with_reducible refine Kd.C_drew ?_) | exact HR154.out)) | (with_reducible refine Kd.C_alloc ?_ _) | (with_reducible refine Kd.C_drewN ?_ _) | (with_reducible refine Kd.C_drew ?_))); (case aB => exact (by repeat (first | (with_reducible first | exact HB.out | apply below_alloc | apply pw_below_drewN | apply below_drew1 | refine below_set ?_ GE115.out) | exact HB.out))); (case aF => exact (fun k_ hk => ⟨Kd.fresh' (Kd.R_lt (by (with_reducible repeat (first | apply Kd.R_alloc | apply Kd.R_drewN | apply Kd.R_drew)); exact HO_3.out)) k_ hk, Kd.freshB (g := gb115) (o := .cells #[.int .i64 ((rd_T32 l0 x11_1).f0), .int .i64 ((rd_T32 l0 x11_1).f1)] 32 (0, 0)) (by (with_reducible repeat (first | refine blk_drewN ?_ _ | refine blk_drew ?_ | refine blk_alloc ?_ _)); exact BK115.out) k_ hk⟩)); (case aO => exact (by (with_reducible repeat (first | apply Kd.R_alloc | apply Kd.R_drewN | apply Kd.R_drew)); exact HO150.out)); (case aS => exact (below_size (by repeat (first | (with_reducible first | exact HB.out | apply below_alloc | apply pw_below_drewN | apply below_drew1 | refine below_set ?_ GE115.out) | exact HB.out)))); (case aL => have := LMc40.out; omega); intro v156 w50 ho hb hg hat; rw [← Ny155.out] at ho; have n0_ := Aside0.mk (Kd.R_after (ok := (fun k_ => k_ ≠ gb115)) (by (with_reducible repeat (first | apply Kd.R_alloc | apply Kd.R_drewN | apply Kd.R_drew)); exact HO_3.out) hg hat); have n1_ := Aside0.mk (blk_grown (g := gb115) (o := .cells #[.int .i64 ((rd_T32 l0 x11_1).f0), .int .i64 ((rd_T32 l0 x11_1).f1)] 32 (0, 0)) (by (with_reducible repeat (first | refine blk_drewN ?_ _ | refine blk_drew ?_ | refine blk_alloc ?_ _)); exact BK115.out) hg (Kd.R_away HO150.out (fun _ hk => hk.2))); have n2_ := Aside0.mk (hb); have n3_ := Aside0.mk ((show Kd.C k32 w50 Ao42 y141.length y141 from by rw [Ny141.out]; exact Kd.C_take (m := (x6_2 : Int).toNat) ((Kd.R_reads' (Kd.R_after (ok := (fun k_ => k_ ≠ gb115)) (by (with_reducible repeat (first | apply Kd.R_alloc | apply Kd.R_drewN | apply Kd.R_drew)); exact HO_3.out) hg hat)).2.2) KL45.out)); have n4_ := Aside0.mk ((show Kd.C k32 w50 A49 y151.length y151 from by rw [Ny151.out, KA49.out]; exact Kd.C_drop (m := (x6_2 : Int).toNat) (c := co42) ((Kd.R_reads' (Kd.R_after (ok := (fun k_ => k_ ≠ gb115)) (by (with_reducible repeat (first | apply Kd.R_alloc | apply Kd.R_drewN | apply Kd.R_drew)); exact HO_3.out) hg hat)).2.2) KL49.out ((Kd.R_reads' (Kd.R_after (ok := (fun k_ => k_ ≠ gb115)) (by (with_reducible repeat (first | apply Kd.R_alloc | apply Kd.R_drewN | apply Kd.R_drew)); exact HO_3.out) hg hat)).2.1))); have n5_ := Aside0.mk (ho); clear HO_3; clear BK115; clear HB; clear HR144; clear HR154; clear HO150; have HO_3 := n0_; have BK115 := n1_; have HB := n2_; have HR144 := n3_; have HR154 := n4_; have HO157 := n5_; clear n0_ n1_ n2_ n3_ n4_ n5_; clear ho hb hg hat))
                            go_roundg k2
                            case measure => have := HK1.out; have := HK2.out; omega
                            case rel => exact ⟨(y155), (wrap64 (x11_1 + 1)), (by first | rfl | (simp; done) | (simp [*]; done)), H', ⟨by have := HK1.out; have := HK2.out; omega⟩, ⟨by (with_reducible repeat (first | apply Kd.R_alloc | apply Kd.R_drewN | apply Kd.R_drew)); exact Kd.R_mono HO157.out (fun _ hk => trivial)⟩, ⟨by repeat (first | (with_reducible first | exact HB.out | apply below_alloc | apply pw_below_drewN | apply below_drew1 | refine below_set ?_ GE115.out) | exact HB.out)⟩⟩
                          · rw [if_neg c40] at H
                            exact absurd H (by simp)
                        · rw [if_neg c37] at H
                          exact absurd H (by simp)
                      · rw [if_neg c36] at H
                        exact absurd H (by simp)
                    · rw [if_neg c35] at H
                      exact absurd H (by simp)
                  · rw [if_neg c34] at H
                    exact absurd H (by simp)
          · rw [if_neg c6] at H
            exact absurd H (by simp)
        · rw [if_neg c5] at H
          exact absurd H (by simp)
      · rw [if_neg c4] at H
        have c4b0 : decide (x11_1 < (l0.length : Int)) = false := decide_eq_false c4
        clear c4
        obtain rfl := Option.some.inj H
        go_wp2
        go_ret
        exact ⟨_, by first | rfl | (simp [errW_none, errW_some] <;> rfl) | (simp [*, errW_none, errW_some] <;> rfl), by (with_reducible repeat (first | apply Kd.R_alloc | apply Kd.R_drewN | apply Kd.R_drew)); exact HO_3.out, by repeat (first | (with_reducible first | exact HB.out | apply below_alloc | apply pw_below_drewN | apply below_drew1) | exact HB.out)⟩
def foghornref05_Right.f (a0 : Int) : Option (Bool) := if a0 ≥ 0 then (some (decide (a0 ≤ 1099511627776))) else (some false)
set_option maxHeartbeats 8000000 in
set_option maxRecDepth 100000 in
theorem foghornref05_Right.calls (a0 : Int) (r : Bool) (w : World) (h : foghornref05_Right.f a0 = some r) :
    Calls Try.prog 15 #[.int .i64 a0] w fun e w' => e = .returned (.bool r) ∧ Drawn0 w w' := by
  have H : (if a0 ≥ 0 then (some (decide (a0 ≤ 1099511627776))) else (some false)) = some r := h
  clear h
  by_cases c2 : a0 ≥ 0
  · rw [if_pos c2] at H
    have c2b0 : decide (0 ≤ a0) = true := decide_eq_true c2
    clear c2
    obtain rfl := Option.some.inj H
    go_enter Try.func15, Try.ntmps15
    go_wp2
    go_ret
    exact ⟨by first | rfl | (simp; done) | (simp [*]; done), by repeat (first | exact Drawn0.refl _ | apply Drawn0.step)⟩
  · rw [if_neg c2] at H
    have c2b0 : decide (0 ≤ a0) = false := decide_eq_false c2
    clear c2
    obtain rfl := Option.some.inj H
    go_enter Try.func15, Try.ntmps15
    go_wp2
    go_ret
    exact ⟨by first | rfl | (simp; done) | (simp [*]; done), by repeat (first | exact Drawn0.refl _ | apply Drawn0.step)⟩
def foghornref09_Right.l0 : Nat → List (S32) → List (S32) → Int → Int → Option (Bool)
  | 0, _, _, _, _ => none
  | k + 1, x0, x5, x6, x7 => if x7 < x6 then (if 0 ≤ x7 then (if x7 < (x5.length : Int) then ((foghornref05_Right.f ((rd_T32 x5 x7).f0)).bind fun t175 => (if t175 = true then (foghornref09_Right.l0 k x0 x5 x6 (wrap64 (x7 + 1))) else (some false))) else (none)) else (none)) else (some (decide ((x0.length : Int) ≤ 64)))
def foghornref09_Right.f (k : Nat) (l0 : List (S32)) : Option (Bool) := foghornref09_Right.l0 k l0 l0 (l0.length : Int) 0
set_option maxHeartbeats 8000000 in
set_option maxRecDepth 100000 in
theorem foghornref09_Right.calls (k : Nat) (A0 : Option Addr) (c0 : Nat) (l0 : List (S32)) (r : Bool) (w : World) (hr0 : Kd.C k32 w A0 l0.length l0) (hc0 : l0.length ≤ c0) (h : foghornref09_Right.f k l0 = some r) :
    Calls Try.prog 14 #[.slice A0 l0.length c0] w fun e w' => e = .returned (.bool r) ∧ Below w.heap.size w w' := by
  have hu32 := Try.underlying32
  have HR0 := Aside0.mk hr0
  have HC0 := Aside0.mk hc0
  clear hr0 hc0
  have HB := Aside0.mk (Below.refl w.heap.size w)
  have H : (foghornref09_Right.l0 k l0 l0 (l0.length : Int) 0) = some r := h
  clear h
  have H' := Aside0.mk H
  clear H
  go_enter Try.func14, Try.ntmps14
  go_wp2
  go_loopg [7] k (fun kq v7 w' => ∃ (x7_1 : Int), v7 = .int .i64 x7_1 ∧ Aside0 (foghornref09_Right.l0 kq l0 l0 (l0.length : Int) x7_1 = some r) ∧ Aside0 (kq ≤ k) ∧ Aside0 (Below w.heap.size w w'))
  case atStart => exact ⟨(0), (by first | rfl | (simp; done) | (simp [*]; done)), H', ⟨Nat.le_refl _⟩, ⟨by repeat (first | (with_reducible first | exact HB.out | apply below_alloc | apply pw_below_drewN | apply below_drew1) | exact HB.out)⟩⟩
  case round =>
    clear H'
    try clear c1
    obtain ⟨x7_1, rfl, HA, HK1, HB⟩ := hrel
    cases gk with
    | zero => exact absurd HA.out (by simp [foghornref09_Right.l0])
    | succ k1 =>
      have H := HA.out
      clear HA
      simp only [foghornref09_Right.l0] at H
      by_cases c2 : x7_1 < (l0.length : Int)
      · rw [if_pos c2] at H
        have c2b0 : decide (x7_1 < (l0.length : Int)) = true := decide_eq_true c2
        clear c2
        by_cases c3 : 0 ≤ x7_1
        · rw [if_pos c3] at H
          have c3b0 : decide (0 ≤ x7_1) = true := decide_eq_true c3
          clear c3
          by_cases c4 : x7_1 < (l0.length : Int)
          · rw [if_pos c4] at H
            have c4b0 : decide (x7_1 < (l0.length : Int)) = true := decide_eq_true c4
            clear c4
            replace H := Option.bind_eq_some_iff.mp H
            obtain ⟨t175, A50, H⟩ := H
            replace H : (if t175 = true then (foghornref09_Right.l0 k1 l0 l0 (l0.length : Int) (wrap64 (x7_1 + 1))) else (some false)) = some r := H
            have A5 := Aside0.mk A50
            clear A50
            by_cases c6 : t175 = true
            · subst c6
              have H1 : (foghornref09_Right.l0 k1 l0 l0 (l0.length : Int) (wrap64 (x7_1 + 1))) = some r := by rw [if_pos rfl] at H; exact H
              clear H
              have H := H1
              clear H1
              have H' := Aside0.mk H
              clear H
              have p173 : 0 ≤ (x7_1 : Int) := of_decide_eq_true (by first | (with_reducible assumption) | assumption)
              have q173 : x7_1 < (l0.length : Int) := of_decide_eq_true (by first | (with_reducible assumption) | assumption)
              obtain ⟨ad173, e173, hx173_0, hx173_1⟩ := at_T32 HR0.out x7_1 p173 q173
              cases e173
              replace hx173_0 := (HB.out.cell (World.block_lt_of_cell? w _ hx173_0)).trans hx173_0
              replace hx173_1 := (HB.out.cell (World.block_lt_of_cell? w _ hx173_1)).trans hx173_1
              replace p173 := eq_true p173
              replace q173 := eq_true q173
              go_wp2_with (first | ((with_reducible refine gate_dst (N := 4) rfl ?_); refine box_event ?hg (N := 4) ?hd (cs := #[.int .i64 0, .int .i64 0]) (t := 32) ?hr ?_; (case hd => rfl); (case hg => rfl); (case hr => first | (go_simp; done) | (go_simp; rfl)); intro gb174 hg w7 hbox hb; have n0_ := Aside0.mk (below_step (by repeat (first | (with_reducible first | exact HB.out | apply below_alloc | apply pw_below_drewN | apply below_drew1) | exact HB.out)) hb); have n1_ := Aside0.mk (hbox); have n2_ := Aside0.mk ((by rw [hg]; exact (below_size (by repeat (first | (with_reducible first | exact HB.out | apply below_alloc | apply pw_below_drewN | apply below_drew1) | exact HB.out))) : w.heap.size ≤ gb174)); have n3_ := Aside0.mk ((by rw [hg]; exact (below_size (by repeat (first | (with_reducible first | exact HB.out | apply below_alloc | apply pw_below_drewN | apply below_drew1) | exact HB.out))) : w.heap.size ≤ gb174)); clear HB; have HB := n0_; have BK174 := n1_; have GW174 := n2_; have GE174 := n3_; clear n0_ n1_ n2_ n3_; clear hb hbox hg; have hcz8_0 : w7.cell? ⟨gb174, 0, none⟩ = some (.int .i64 0) := (blk_cell BK174.out 0).trans rfl; have hcz8_1 : w7.cell? ⟨gb174, 1, none⟩ = some (.int .i64 0) := (blk_cell BK174.out 1).trans rfl; have hfz8_0 := blk_frozen BK174.out 0; have hfz8_1 := blk_frozen BK174.out 1) | ((with_reducible refine gate_callee (f := 15) rfl ?_); refine goesL_ (some 13) rfl rfl Try.func15 (by kernel_rfl) rfl #[.int .i64 ((rd_T32 l0 x7_1).f0)] rfl (by (try simp only [List.map_toArray, List.map_cons, List.map_nil]); first | done | rfl | (simp only [List.length_drop, List.length_take]; rfl)) ?_; (with_reducible refine (foghornref05_Right.calls ((rd_T32 l0 x7_1).f0) true _ A5.out).mono ?_); rintro e w' ⟨rfl, ⟨nd, rfl⟩⟩; refine ⟨_, rfl, ?_⟩))
              go_roundg k1
              case measure => have := HK1.out; omega
              case rel => exact ⟨(wrap64 (x7_1 + 1)), (by first | rfl | (simp; done) | (simp [*]; done)), H', ⟨by have := HK1.out; omega⟩, ⟨by repeat (first | (with_reducible first | exact HB.out | apply below_alloc | apply pw_below_drewN | apply below_drew1 | refine below_set ?_ GE174.out) | exact HB.out)⟩⟩
            · replace c6 := Bool.eq_false_iff.mpr c6
              subst c6
              have H1 : (some false) = some r := by rw [if_neg (show ¬ (false = true) by decide)] at H; exact H
              clear H
              have H := H1
              clear H1
              obtain rfl := Option.some.inj H
              have p173 : 0 ≤ (x7_1 : Int) := of_decide_eq_true (by first | (with_reducible assumption) | assumption)
              have q173 : x7_1 < (l0.length : Int) := of_decide_eq_true (by first | (with_reducible assumption) | assumption)
              obtain ⟨ad173, e173, hx173_0, hx173_1⟩ := at_T32 HR0.out x7_1 p173 q173
              cases e173
              replace hx173_0 := (HB.out.cell (World.block_lt_of_cell? w _ hx173_0)).trans hx173_0
              replace hx173_1 := (HB.out.cell (World.block_lt_of_cell? w _ hx173_1)).trans hx173_1
              replace p173 := eq_true p173
              replace q173 := eq_true q173
              go_wp2_with (first | ((with_reducible refine gate_dst (N := 4) rfl ?_); refine box_event ?hg (N := 4) ?hd (cs := #[.int .i64 0, .int .i64 0]) (t := 32) ?hr ?_; (case hd => rfl); (case hg => rfl); (case hr => first | (go_simp; done) | (go_simp; rfl)); intro gb174 hg w9 hbox hb; have n0_ := Aside0.mk (below_step (by repeat (first | (with_reducible first | exact HB.out | apply below_alloc | apply pw_below_drewN | apply below_drew1) | exact HB.out)) hb); have n1_ := Aside0.mk (hbox); have n2_ := Aside0.mk ((by rw [hg]; exact (below_size (by repeat (first | (with_reducible first | exact HB.out | apply below_alloc | apply pw_below_drewN | apply below_drew1) | exact HB.out))) : w.heap.size ≤ gb174)); have n3_ := Aside0.mk ((by rw [hg]; exact (below_size (by repeat (first | (with_reducible first | exact HB.out | apply below_alloc | apply pw_below_drewN | apply below_drew1) | exact HB.out))) : w.heap.size ≤ gb174)); clear HB; have HB := n0_; have BK174 := n1_; have GW174 := n2_; have GE174 := n3_; clear n0_ n1_ n2_ n3_; clear hb hbox hg; have hcz10_0 : w9.cell? ⟨gb174, 0, none⟩ = some (.int .i64 0) := (blk_cell BK174.out 0).trans rfl; have hcz10_1 : w9.cell? ⟨gb174, 1, none⟩ = some (.int .i64 0) := (blk_cell BK174.out 1).trans rfl; have hfz10_0 := blk_frozen BK174.out 0; have hfz10_1 := blk_frozen BK174.out 1) | ((with_reducible refine gate_callee (f := 15) rfl ?_); refine goesL_ (some 13) rfl rfl Try.func15 (by kernel_rfl) rfl #[.int .i64 ((rd_T32 l0 x7_1).f0)] rfl (by (try simp only [List.map_toArray, List.map_cons, List.map_nil]); first | done | rfl | (simp only [List.length_drop, List.length_take]; rfl)) ?_; (with_reducible refine (foghornref05_Right.calls ((rd_T32 l0 x7_1).f0) false _ A5.out).mono ?_); rintro e w' ⟨rfl, ⟨nd, rfl⟩⟩; refine ⟨_, rfl, ?_⟩))
              go_ret
              exact ⟨by first | rfl | (simp [errW_none, errW_some] <;> rfl) | (simp [*, errW_none, errW_some] <;> rfl), by repeat (first | (with_reducible first | exact HB.out | apply below_alloc | apply pw_below_drewN | apply below_drew1 | refine below_set ?_ GE174.out) | exact HB.out)⟩
          · rw [if_neg c4] at H
            exact absurd H (by simp)
        · rw [if_neg c3] at H
          exact absurd H (by simp)
      · rw [if_neg c2] at H
        have c2b0 : decide (x7_1 < (l0.length : Int)) = false := decide_eq_false c2
        clear c2
        obtain rfl := Option.some.inj H
        go_wp2
        go_ret
        exact ⟨by first | rfl | (simp [errW_none, errW_some] <;> rfl) | (simp [*, errW_none, errW_some] <;> rfl), by repeat (first | (with_reducible first | exact HB.out | apply below_alloc | apply pw_below_drewN | apply below_drew1) | exact HB.out)⟩
end Go.Proofs.Ytlkaebnigmfphaa.G
