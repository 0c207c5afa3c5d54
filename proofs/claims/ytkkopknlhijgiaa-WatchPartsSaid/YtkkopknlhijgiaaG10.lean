/- Contracts of functions of the given program, each proved by a walk of its code: written by gprint.py, this session's program round the kit's print; texts of our own stand among the printed ones. No condition beyond each theorem's own premises. -/
import Derived.Test.YtkkopknlhijgiaaG0
namespace Go.Proofs.Ytkkopknlhijgiaa.G
open Go.RowKit Go.Proofs.YtkkopknlhijgiaaW.PrintWords Go.Proofs.YtkkopknlhijgiaaW.PrintLast Go.Proofs.YtkkopknlhijgiaaW.PrintMore
attribute [local go_sem] max2_int min2_int max_two min_two max_three min_three max_four min_four   -- for this text's walks alone
set_option linter.unusedVariables false
set_option linter.unusedSimpArgs false

/-! ### foghornlaw23_few: function 65 -/
def foghornlaw23_few.l0 : Nat → List (S51) → List (S51) → Int → Int → Option ((List (S51)))
  | 0, _, _, _, _ => none
  | k + 1, x3, x10, x11, x12 => if x12 < x11 then (if 0 ≤ x12 then (if x12 < (x10.length : Int) then (if 0 ≤ (mn (((rd_T51 x10 x12).f2).size : Int) 20) then (if (mn (((rd_T51 x10 x12).f2).size : Int) 20) ≤ (((rd_T51 x10 x12).f2).size : Int) then (if x3.length < 3518437208883 then (foghornlaw23_few.l0 k (x3 ++ [(⟨(rd_T51 x10 x12).f0, (rd_T51 x10 x12).f1, ((rd_T51 x10 x12).f2).extract 0 ((mn (((rd_T51 x10 x12).f2).size : Int) 20) : Int).toNat, (rd_T51 x10 x12).f3⟩ : S51)]) x10 x11 (wrap64 (x12 + 1))) else (none)) else (none)) else (none)) else (none)) else (none)) else (some x3)
def foghornlaw23_few.f (k : Nat) (l0 : List (S51)) : Option ((List (S51))) := if 0 ≤ (mn (l0.length : Int) 60) then (if (mn (l0.length : Int) 60) ≤ (l0.length : Int) then ((some (l0.take ((mn (l0.length : Int) 60) : Int).toNat : List (S51))).bind fun y126 => (foghornlaw23_few.l0 k ([] : List (S51)) y126 (y126.length : Int) 0)) else (none)) else (none)
theorem foghornlaw23_few.mono_l : ∀ k, (∀ y0 y1 y2 y3, LeO (foghornlaw23_few.l0 k y0 y1 y2 y3) (foghornlaw23_few.l0 (k + 1) y0 y1 y2 y3))
  | 0 => fun _ _ _ _ r h => by simp [foghornlaw23_few.l0] at h
  | k + 1 => by
    have ih0 := foghornlaw23_few.mono_l k
    · intro y0 y1 y2 y3
      unfold foghornlaw23_few.l0
      repeat' first
      | (with_reducible exact ih0 _ _ _ _)
      | (with_reducible exact LeO.refl _)
      | (with_reducible exact LeO.none _)
      | (with_reducible refine LeO.ite ?_ ?_)
      | (with_reducible refine LeO.bind ?_ (fun _ => ?_))
      | exact ih0 _ _ _ _
      | exact LeO.none _
      | refine LeO.ite ?_ ?_
      | refine LeO.bind ?_ (fun _ => ?_)
theorem foghornlaw23_few.mono : ∀ a0 k, LeO (foghornlaw23_few.f k a0) (foghornlaw23_few.f (k + 1) a0) := by
  intro a0 k
  have ih0 := foghornlaw23_few.mono_l k
  unfold foghornlaw23_few.f
  repeat' first
      | (with_reducible exact ih0 _ _ _ _)
      | (with_reducible exact LeO.refl _)
      | (with_reducible exact LeO.none _)
      | (with_reducible refine LeO.ite ?_ ?_)
      | (with_reducible refine LeO.bind ?_ (fun _ => ?_))
      | exact ih0 _ _ _ _
      | exact LeO.none _
      | refine LeO.ite ?_ ?_
      | refine LeO.bind ?_ (fun _ => ?_)
set_option maxHeartbeats 8000000 in
set_option maxRecDepth 100000 in
theorem foghornlaw23_few.calls (k : Nat) (A0 : Option Addr) (c0 : Nat) (l0 : List (S51)) (r : List (S51)) (w : World) (hr0 : Kd.C k51 w A0 l0.length l0) (hc0 : l0.length ≤ c0) (h : foghornlaw23_few.f k l0 = some r) :
    Calls Try.prog 65 #[.slice A0 l0.length c0] w fun e w' => ∃ v0_ : Value, e = .returned (v0_) ∧ Kd.R k51 51 w' w.heap.size (fun _ => True) v0_ r ∧ Below w.heap.size w w' := by
  have hu51 := Try.underlying51
  have HR0 := Aside0.mk hr0
  have HC0 := Aside0.mk hc0
  clear hr0 hc0
  have HB := Aside0.mk (Below.refl w.heap.size w)
  have H : (if 0 ≤ (mn (l0.length : Int) 60) then (if (mn (l0.length : Int) 60) ≤ (l0.length : Int) then ((some (l0.take ((mn (l0.length : Int) 60) : Int).toNat : List (S51))).bind fun y126 => (foghornlaw23_few.l0 k ([] : List (S51)) y126 (y126.length : Int) 0)) else (none)) else (none)) = some r := h
  clear h
  obtain ⟨ji2, hji2⟩ : ∃ j_ : Int, (mn (l0.length : Int) 60) = j_ := ⟨_, rfl⟩
  replace H : (if 0 ≤ (ji2) then (if (ji2) ≤ (l0.length : Int) then ((some (l0.take ((ji2) : Int).toNat : List (S51))).bind fun y126 => (foghornlaw23_few.l0 k ([] : List (S51)) y126 (y126.length : Int) 0)) else (none)) else (none)) = some r := by first | (rw [hji2] at H; exact H) | (simp only [hji2] at H ⊢; exact H)
  (try (have hji2h : ji2 ≤ 60 := by (rw [← hji2]; unfold mn; (repeat' split) <;> omega)))
  (try (have hji2g : ji2 ≤ 64 := by omega))
  (try (have hji2l : 0 ≤ ji2 := by (rw [← hji2]; unfold mn; (repeat' split) <;> omega)))
  (try (have hji2m : 0 ≤ ji2 := by omega))
  have hji2_ : (if 60 < (l0.length : Int) then 60 else (l0.length : Int)) = ji2 := hji2
  by_cases c3 : 0 ≤ (ji2)
  · rw [if_pos c3] at H
    have c3b0 := eq_true c3
    have c3b1 : decide (0 ≤ (ji2)) = true := decide_eq_true c3
    clear c3
    by_cases c4 : (ji2) ≤ (l0.length : Int)
    · rw [if_pos c4] at H
      have c4b0 := eq_true c4
      have c4b1 : decide ((ji2) ≤ (l0.length : Int)) = true := decide_eq_true c4
      clear c4
      obtain ⟨y126, hy126⟩ : ∃ y_ : List (S51), y_ = (l0.take ((ji2) : Int).toNat) := ⟨_, rfl⟩
      replace H : (foghornlaw23_few.l0 k ([] : List (S51)) y126 (y126.length : Int) 0) = some r := by first | (rw [hy126]; with_reducible exact H) | (have H2_ := (Option.bind_some _ _).symm.trans H; rw [hy126]; with_reducible exact H2_) | (have H2_ := (Option.bind_some _ _).symm.trans H; with_reducible exact H2_) | with_reducible exact H | (rw [hy126]; exact H) | exact H
      have Ny126 := Aside0.mk hy126
      clear hy126
      have H' := Aside0.mk H
      clear H
      have q5 : ((ji2) : Int) ≤ ((l0.length : Int) : Int) := of_decide_eq_true (by first | (with_reducible assumption) | assumption)
      obtain ⟨i05, hi05, _, hsz5, _⟩ := info_parts info51
      have hroom5 : l0.length ≤ c0 := HC0.out
      have hC5 : Kd.C k51 _ A0 l0.length l0 := HR0.out
      have hcut5 := cut_to (P := Try.prog) 49 51 .i64 Try.underlying49 hi05 A0 l0.length c0 (ji2) (of_decide_eq_true (by first | (with_reducible assumption) | assumption)) q5 hroom5
      have hr5 := Kd.C_take (m := ((ji2) : Int).toNat) hC5 (by omega)
      have hy5 : y126.length = ((ji2) : Int).toNat := (by rw [Ny126.out, List.length_take]; omega)
      rw [← Ny126.out] at hr5
      rw [← hy5] at hcut5
      have HR129 := Aside0.mk hr5
      have HC129 := Aside0.mk (show y126.length ≤ c0 from by omega)
      clear hr5 hC5 hroom5 hi05 hsz5
      have KY5 := Aside0.mk hy5
      clear hy5
      replace q5 := eq_true q5
      go_enter Try.func65, Try.ntmps65
      go_wp2
      go_loopg [3, 12] k (fun kq v3 v12 w' => ∃ (x3_1 : List (S51)) (x12_1 : Int), v12 = .int .i64 x12_1 ∧ Aside0 (foghornlaw23_few.l0 kq x3_1 y126 (y126.length : Int) x12_1 = some r) ∧ Aside0 (kq ≤ k) ∧ Aside0 (Kd.R k51 51 w' w.heap.size (fun _ => True) v3 x3_1) ∧ Aside0 (Below w.heap.size w w'))
      case atStart => exact ⟨(([] : List (S51))), (0), (by first | rfl | (simp; done) | (simp [*]; done)), H', ⟨Nat.le_refl _⟩, ⟨by first | exact Kd.R_nil _ _ _ _ _ | exact Kd.N_nil _ _ _ _ _ | exact Kd.V_nil _ _ _ _ _ | exact Kd.Q_nil _ _ _ _ _ | exact Kd.S_nil _ _ _ _ _⟩, ⟨by repeat (first | (with_reducible first | exact HB.out | apply below_alloc | apply pw_below_drewN | apply below_drew1) | exact HB.out)⟩⟩
      case round =>
        clear H'
        try clear p2
        try clear c3
        try clear c3b0
        try clear c3b1
        try clear c4
        try clear c4b0
        try clear c4b1
        try clear q5
        try clear q5
        obtain ⟨x3_1, x12_1, rfl, HA, HK1, HO_3, HB⟩ := hrel
        cases gk with
        | zero => exact absurd HA.out (by simp [foghornlaw23_few.l0])
        | succ k1 =>
          have H := HA.out
          clear HA
          simp only [foghornlaw23_few.l0] at H
          by_cases c6 : x12_1 < (y126.length : Int)
          · rw [if_pos c6] at H
            have c6b0 : decide (x12_1 < (y126.length : Int)) = true := decide_eq_true c6
            clear c6
            by_cases c7 : 0 ≤ x12_1
            · rw [if_pos c7] at H
              have c7b0 : decide (0 ≤ x12_1) = true := decide_eq_true c7
              clear c7
              by_cases c8 : x12_1 < (y126.length : Int)
              · rw [if_pos c8] at H
                have c8b0 : decide (x12_1 < (y126.length : Int)) = true := decide_eq_true c8
                clear c8
                obtain ⟨ji9, hji9⟩ : ∃ j_ : Int, (mn (((rd_T51 y126 x12_1).f2).size : Int) 20) = j_ := ⟨_, rfl⟩
                replace H : (if 0 ≤ (ji9) then (if (ji9) ≤ (((rd_T51 y126 x12_1).f2).size : Int) then (if x3_1.length < 3518437208883 then (foghornlaw23_few.l0 k1 (x3_1 ++ [(⟨(rd_T51 y126 x12_1).f0, (rd_T51 y126 x12_1).f1, ((rd_T51 y126 x12_1).f2).extract 0 ((ji9) : Int).toNat, (rd_T51 y126 x12_1).f3⟩ : S51)]) y126 (y126.length : Int) (wrap64 (x12_1 + 1))) else (none)) else (none)) else (none)) = some r := by first | (rw [hji9] at H; exact H) | (simp only [hji9] at H ⊢; exact H)
                have hji9_ : (if 20 < (((rd_T51 y126 x12_1).f2).size : Int) then 20 else (((rd_T51 y126 x12_1).f2).size : Int)) = ji9 := hji9
                by_cases c10 : 0 ≤ (ji9)
                · rw [if_pos c10] at H
                  have c10b0 := eq_true c10
                  have c10b1 : decide (0 ≤ (ji9)) = true := decide_eq_true c10
                  clear c10
                  by_cases c11 : (ji9) ≤ (((rd_T51 y126 x12_1).f2).size : Int)
                  · rw [if_pos c11] at H
                    have c11b0 := eq_true c11
                    have c11b1 : decide ((ji9) ≤ (((rd_T51 y126 x12_1).f2).size : Int)) = true := decide_eq_true c11
                    clear c11
                    by_cases c12 : x3_1.length < 3518437208883
                    · rw [if_pos c12] at H
                      have LMc12 := Aside0.mk c12
                      clear c12
                      obtain ⟨y132, hy132⟩ : ∃ y_ : List (S51), y_ = (x3_1 ++ [(⟨(rd_T51 y126 x12_1).f0, (rd_T51 y126 x12_1).f1, ((rd_T51 y126 x12_1).f2).extract 0 ((ji9) : Int).toNat, (rd_T51 y126 x12_1).f3⟩ : S51)]) := ⟨_, rfl⟩
                      replace H : (foghornlaw23_few.l0 k1 y132 y126 (y126.length : Int) (wrap64 (x12_1 + 1))) = some r := by first | (rw [hy132]; with_reducible exact H) | (have H2_ := (Option.bind_some _ _).symm.trans H; rw [hy132]; with_reducible exact H2_) | (have H2_ := (Option.bind_some _ _).symm.trans H; with_reducible exact H2_) | with_reducible exact H | (rw [hy132]; exact H) | exact H
                      have Ny132 := Aside0.mk hy132
                      clear hy132
                      have H' := Aside0.mk H
                      clear H
                      have p130 : 0 ≤ (x12_1 : Int) := of_decide_eq_true (by first | (with_reducible assumption) | assumption)
                      have q130 : x12_1 < (y126.length : Int) := of_decide_eq_true (by first | (with_reducible assumption) | assumption)
                      obtain ⟨ad130, e130, hx130_0, hx130_1, hx130_2, hx130_3⟩ := at_T51 HR129.out x12_1 p130 q130
                      cases e130
                      replace hx130_0 := (HB.out.cell (World.block_lt_of_cell? w _ hx130_0)).trans hx130_0
                      replace hx130_1 := (HB.out.cell (World.block_lt_of_cell? w _ hx130_1)).trans hx130_1
                      replace hx130_2 := (HB.out.cell (World.block_lt_of_cell? w _ hx130_2)).trans hx130_2
                      replace hx130_3 := (HB.out.cell (World.block_lt_of_cell? w _ hx130_3)).trans hx130_3
                      replace p130 := eq_true p130
                      replace q130 := eq_true q130
                      go_wp2_with (first | ((with_reducible refine gate_dst (N := 5) rfl ?_); refine box_event ?hg (N := 5) ?hd (cs := #[.int .i64 0, .int .i64 0, .string (⟨#[]⟩ : ByteArray), .bool false]) (t := 51) ?hr ?_; (case hd => rfl); (case hg => rfl); (case hr => first | (go_simp; done) | (go_simp; rfl)); intro gb131 hg w13 hbox hb; have n0_ := Aside0.mk (Kd.R_below (Kd.R_elderB (by (with_reducible repeat (first | apply Kd.R_alloc | apply Kd.R_drewN | apply Kd.R_drew)); exact HO_3.out) gb131 (Nat.le_of_eq hg.symm)) hb); have n1_ := Aside0.mk (below_step (by repeat (first | (with_reducible first | exact HB.out | apply below_alloc | apply pw_below_drewN | apply below_drew1) | exact HB.out)) hb); have n2_ := Aside0.mk (hbox); have n3_ := Aside0.mk ((by rw [hg]; exact (below_size (by repeat (first | (with_reducible first | exact HB.out | apply below_alloc | apply pw_below_drewN | apply below_drew1) | exact HB.out))) : w.heap.size ≤ gb131)); have n4_ := Aside0.mk ((by rw [hg]; exact (below_size (by repeat (first | (with_reducible first | exact HB.out | apply below_alloc | apply pw_below_drewN | apply below_drew1) | exact HB.out))) : w.heap.size ≤ gb131)); clear HO_3; clear HB; have HO_3 := n0_; have HB := n1_; have BK131 := n2_; have GW131 := n3_; have GE131 := n4_; clear n0_ n1_ n2_ n3_ n4_; clear hb hbox hg; have hcz14_0 : w13.cell? ⟨gb131, 0, none⟩ = some (.int .i64 0) := (blk_cell BK131.out 0).trans rfl; have hcz14_1 : w13.cell? ⟨gb131, 1, none⟩ = some (.int .i64 0) := (blk_cell BK131.out 1).trans rfl; have hcz14_2 : w13.cell? ⟨gb131, 2, none⟩ = some (.string (⟨#[]⟩ : ByteArray)) := (blk_cell BK131.out 2).trans rfl; have hcz14_3 : w13.cell? ⟨gb131, 3, none⟩ = some (.bool false) := (blk_cell BK131.out 3).trans rfl; have hfz14_0 := blk_frozen BK131.out 0; have hfz14_1 := blk_frozen BK131.out 1; have hfz14_2 := blk_frozen BK131.out 2; have hfz14_3 := blk_frozen BK131.out 3) | ((with_reducible refine gate_builtin (b := .append) (xs := #[.tmp 24, .tmp 26]) rfl ?_); at_builtin; refine Kd.R_append k51 (w0 := w) w.heap.size rfl (.tmp 24) (.tmp 26) 49 51 (.agg #[(.int .i64 0), (.int .i64 0), (.string ⟨#[]⟩), (.bool false)]) 40 rfl Try.underlying49 info51 rfl (by decide) (by omega) u3 x3_1 (⟨(rd_T51 y126 x12_1).f0, (rd_T51 y126 x12_1).f1, ((rd_T51 y126 x12_1).f2).extract 0 ((ji9) : Int).toNat, (rd_T51 y126 x12_1).f3⟩ : S51) [.int .i64 ((rd_T51 y126 x12_1).f0), .int .i64 ((rd_T51 y126 x12_1).f1), .string (((rd_T51 y126 x12_1).f2).extract 0 ((ji9) : Int).toNat), .bool ((rd_T51 y126 x12_1).f3)] (fun k_ => k_ ≠ gb131) (fun _ => False) rfl (by first | (go_simp; done) | (go_simp; rfl)) ?aP (fun _ hk => hk.elim) ?aF ?aO ?aB ?aS ?aL ?_; (case aP => exact k51_mkM _ _ _ (⟨(rd_T51 y126 x12_1).f0, (rd_T51 y126 x12_1).f1, ((rd_T51 y126 x12_1).f2).extract 0 ((ji9) : Int).toNat, (rd_T51 y126 x12_1).f3⟩ : S51)); (case aB => exact (by repeat (first | (with_reducible first | exact HB.out | apply below_alloc | apply pw_below_drewN | apply below_drew1 | refine below_set ?_ GE131.out) | exact HB.out))); (case aF => exact (fun k_ hk => Kd.freshB (g := gb131) (o := .cells #[.int .i64 ((rd_T51 y126 x12_1).f0), .int .i64 ((rd_T51 y126 x12_1).f1), .string (((rd_T51 y126 x12_1).f2).extract 0 ((ji9) : Int).toNat), .bool ((rd_T51 y126 x12_1).f3)] 51 (0, 0)) (by (with_reducible repeat (first | refine blk_drewN ?_ _ | refine blk_drew ?_ | refine blk_alloc ?_ _)); refine blk_put (cs := #[.int .i64 ((rd_T51 y126 x12_1).f0), .int .i64 ((rd_T51 y126 x12_1).f1), .string ((rd_T51 y126 x12_1).f2), .bool ((rd_T51 y126 x12_1).f3)]) ?_ 2 _ rfl; (with_reducible repeat (first | refine blk_drewN ?_ _ | refine blk_drew ?_ | refine blk_alloc ?_ _)); refine blk_put (cs := #[.int .i64 ((rd_T51 y126 x12_1).f0), .int .i64 ((rd_T51 y126 x12_1).f1), .string ((rd_T51 y126 x12_1).f2), .bool false]) ?_ 3 _ rfl; (with_reducible repeat (first | refine blk_drewN ?_ _ | refine blk_drew ?_ | refine blk_alloc ?_ _)); refine blk_put (cs := #[.int .i64 ((rd_T51 y126 x12_1).f0), .int .i64 ((rd_T51 y126 x12_1).f1), .string (⟨#[]⟩ : ByteArray), .bool false]) ?_ 2 _ rfl; (with_reducible repeat (first | refine blk_drewN ?_ _ | refine blk_drew ?_ | refine blk_alloc ?_ _)); refine blk_put (cs := #[.int .i64 ((rd_T51 y126 x12_1).f0), .int .i64 0, .string (⟨#[]⟩ : ByteArray), .bool false]) ?_ 1 _ rfl; (with_reducible repeat (first | refine blk_drewN ?_ _ | refine blk_drew ?_ | refine blk_alloc ?_ _)); refine blk_put (cs := #[.int .i64 0, .int .i64 0, .string (⟨#[]⟩ : ByteArray), .bool false]) ?_ 0 _ rfl; (with_reducible repeat (first | refine blk_drewN ?_ _ | refine blk_drew ?_ | refine blk_alloc ?_ _)); exact BK131.out) k_ hk)); (case aO => exact (by (with_reducible repeat (first | apply Kd.R_alloc | apply Kd.R_drewN | apply Kd.R_drew)); exact Kd.R_mono (Kd.R_far (p := ⟨gb131, 2, none⟩) (Kd.R_far (p := ⟨gb131, 3, none⟩) (Kd.R_far (p := ⟨gb131, 2, none⟩) (Kd.R_far (p := ⟨gb131, 1, none⟩) (Kd.R_far (p := ⟨gb131, 0, none⟩) (Kd.R_mono HO_3.out (fun k_ hk => (⟨hk, hk.2⟩ : _ ∧ k_ ≠ gb131))) (fun _ hk => hk.2) (.int .i64 ((rd_T51 y126 x12_1).f0))) (fun _ hk => hk.2) (.int .i64 ((rd_T51 y126 x12_1).f1))) (fun _ hk => hk.2) (.string ((rd_T51 y126 x12_1).f2))) (fun _ hk => hk.2) (.bool ((rd_T51 y126 x12_1).f3))) (fun _ hk => hk.2) (.string (((rd_T51 y126 x12_1).f2).extract 0 ((ji9) : Int).toNat))) (fun _ hk => hk.1.2))); (case aS => exact (below_size (by repeat (first | (with_reducible first | exact HB.out | apply below_alloc | apply pw_below_drewN | apply below_drew1 | refine below_set ?_ GE131.out) | exact HB.out)))); (case aL => have := LMc12.out; omega); intro v133 w15 ho hb hg hat; rw [← Ny132.out] at ho; have n0_ := Aside0.mk (blk_grown (g := gb131) (o := .cells #[.int .i64 ((rd_T51 y126 x12_1).f0), .int .i64 ((rd_T51 y126 x12_1).f1), .string (((rd_T51 y126 x12_1).f2).extract 0 ((ji9) : Int).toNat), .bool ((rd_T51 y126 x12_1).f3)] 51 (0, 0)) (by (with_reducible repeat (first | refine blk_drewN ?_ _ | refine blk_drew ?_ | refine blk_alloc ?_ _)); refine blk_put (cs := #[.int .i64 ((rd_T51 y126 x12_1).f0), .int .i64 ((rd_T51 y126 x12_1).f1), .string ((rd_T51 y126 x12_1).f2), .bool ((rd_T51 y126 x12_1).f3)]) ?_ 2 _ rfl; (with_reducible repeat (first | refine blk_drewN ?_ _ | refine blk_drew ?_ | refine blk_alloc ?_ _)); refine blk_put (cs := #[.int .i64 ((rd_T51 y126 x12_1).f0), .int .i64 ((rd_T51 y126 x12_1).f1), .string ((rd_T51 y126 x12_1).f2), .bool false]) ?_ 3 _ rfl; (with_reducible repeat (first | refine blk_drewN ?_ _ | refine blk_drew ?_ | refine blk_alloc ?_ _)); refine blk_put (cs := #[.int .i64 ((rd_T51 y126 x12_1).f0), .int .i64 ((rd_T51 y126 x12_1).f1), .string (⟨#[]⟩ : ByteArray), .bool false]) ?_ 2 _ rfl; (with_reducible repeat (first | refine blk_drewN ?_ _ | refine blk_drew ?_ | refine blk_alloc ?_ _)); refine blk_put (cs := #[.int .i64 ((rd_T51 y126 x12_1).f0), .int .i64 0, .string (⟨#[]⟩ : ByteArray), .bool false]) ?_ 1 _ rfl; (with_reducible repeat (first | refine blk_drewN ?_ _ | refine blk_drew ?_ | refine blk_alloc ?_ _)); refine blk_put (cs := #[.int .i64 0, .int .i64 0, .string (⟨#[]⟩ : ByteArray), .bool false]) ?_ 0 _ rfl; (with_reducible repeat (first | refine blk_drewN ?_ _ | refine blk_drew ?_ | refine blk_alloc ?_ _)); exact BK131.out) hg (Kd.R_away HO_3.out (fun _ hk => hk.2))); have n1_ := Aside0.mk (hb); have n2_ := Aside0.mk (ho); clear BK131; clear HB; clear HO_3; have BK131 := n0_; have HB := n1_; have HO134 := n2_; clear n0_ n1_ n2_; clear ho hb hg hat))
                      go_roundg k1
                      case measure => have := HK1.out; omega
                      case rel => exact ⟨(y132), (wrap64 (x12_1 + 1)), (by first | rfl | (simp; done) | (simp [*]; done)), H', ⟨by have := HK1.out; omega⟩, ⟨by (with_reducible repeat (first | apply Kd.R_alloc | apply Kd.R_drewN | apply Kd.R_drew)); exact Kd.R_mono HO134.out (fun _ hk => trivial)⟩, ⟨by repeat (first | (with_reducible first | exact HB.out | apply below_alloc | apply pw_below_drewN | apply below_drew1 | refine below_set ?_ GE131.out) | exact HB.out)⟩⟩
                    · rw [if_neg c12] at H
                      exact absurd H (by simp)
                  · rw [if_neg c11] at H
                    exact absurd H (by simp)
                · rw [if_neg c10] at H
                  exact absurd H (by simp)
              · rw [if_neg c8] at H
                exact absurd H (by simp)
            · rw [if_neg c7] at H
              exact absurd H (by simp)
          · rw [if_neg c6] at H
            have c6b0 : decide (x12_1 < (y126.length : Int)) = false := decide_eq_false c6
            clear c6
            obtain rfl := Option.some.inj H
            go_wp2
            go_ret
            exact ⟨_, by first | rfl | (simp [errW_none, errW_some] <;> rfl) | (simp only [← hji2]; first | rfl | (simp [errW_none, errW_some] <;> rfl)) | (simp [*, errW_none, errW_some] <;> rfl), by (with_reducible repeat (first | apply Kd.R_alloc | apply Kd.R_drewN | apply Kd.R_drew)); exact HO_3.out, by repeat (first | (with_reducible first | exact HB.out | apply below_alloc | apply pw_below_drewN | apply below_drew1) | exact HB.out)⟩
    · rw [if_neg c4] at H
      exact absurd H (by simp)
  · rw [if_neg c3] at H
    exact absurd H (by simp)

end Go.Proofs.Ytkkopknlhijgiaa.G
