/- Contracts of functions of the given program, and what they come to, for any arguments. No condition beyond each theorem's own premises. -/
import Derived.Test.YtlkaebnigmfphaaXDueTellsM0
import Derived.Test.YtlkaebnigmfphaaXDueTellsM1
import Derived.Maps.AppendAt
import Derived.Deep.AppendLies
namespace Go.Proofs.Ytlkaebnigmfphaa.G
open Go.RowKit Go.Proofs.YtlkaebnigmfphaaW.PrintWords Go.Proofs.YtlkaebnigmfphaaW.PrintLast Go.Proofs.YtlkaebnigmfphaaW.PrintMore
attribute [local go_sem] max2_int min2_int max_two min_two max_three min_three max_four min_four   -- for this text's walks alone
set_option linter.unusedVariables false
set_option linter.unusedSimpArgs false
def foghornref09_Until.l0 : Nat → Int → List (S32) → List (S32) → List (S32) → Int → Int → Option ((List (S32)) × (List (S32)))
  | 0, _, _, _, _, _, _ => none
  | k + 1, x1, x6, x7, x13, x14, x15 => if x15 < x14 then (if 0 ≤ x15 then (if x15 < (x13.length : Int) then (if ((rd_T32 x13 x15).f0) ≤ x1 then (if x6.length < 8796093022208 then (foghornref09_Until.l0 k x1 (x6 ++ [(⟨(rd_T32 x13 x15).f0, (rd_T32 x13 x15).f1⟩ : S32)]) x7 x13 x14 (wrap64 (x15 + 1))) else (none)) else (if x7.length < 8796093022208 then (foghornref09_Until.l0 k x1 x6 (x7 ++ [(⟨(rd_T32 x13 x15).f0, (rd_T32 x13 x15).f1⟩ : S32)]) x13 x14 (wrap64 (x15 + 1))) else (none))) else (none)) else (none)) else (some (x6, x7))
def foghornref09_Until.f (k : Nat) (l0 : List (S32)) (a1 : Int) : Option ((List (S32)) × (List (S32))) := (foghornref09_Sorted.f k l0).bind fun t182 => (foghornref09_Until.l0 k a1 (([] : List (S32))) (([] : List (S32))) t182 (t182.length : Int) 0)
set_option maxHeartbeats 8000000 in
set_option maxRecDepth 100000 in
theorem foghornref09_Until.calls (k : Nat) (A0 : Option Addr) (c0 : Nat) (l0 : List (S32)) (a1 : Int) (r1 : List (S32)) (r2 : List (S32)) (w : World) (hr0 : Kd.C k32 w A0 l0.length l0) (hc0 : l0.length ≤ c0) (h : foghornref09_Until.f k l0 a1 = some (r1, r2)) :
    Calls Try.prog 17 #[.slice A0 l0.length c0, .int .i64 a1] w fun e w' => ∃ v0_ v1_ : Value, e = .returned (.tuple #[v0_, v1_]) ∧ Kd.R k32 32 w' w.heap.size (fun k_ => some k_ ≠ (v1_ : Value).ownBlock) v0_ r1 ∧ Kd.R k32 32 w' w.heap.size (fun k_ => some k_ ≠ (v0_ : Value).ownBlock) v1_ r2 ∧ Below w.heap.size w w' := by
  have hu32 := Try.underlying32
  have HR0 := Aside0.mk hr0
  have HC0 := Aside0.mk hc0
  clear hr0 hc0
  have HB := Aside0.mk (Below.refl w.heap.size w)
  have H : ((foghornref09_Sorted.f k l0).bind fun t182 => (foghornref09_Until.l0 k a1 (([] : List (S32))) (([] : List (S32))) t182 (t182.length : Int) 0)) = some (r1, r2) := h
  clear h
  obtain ⟨y176, hy176⟩ : ∃ y_ : List (S32), y_ = (([] : List (S32))) := ⟨_, rfl⟩
  replace H : ((foghornref09_Sorted.f k l0).bind fun t182 => (foghornref09_Until.l0 k a1 y176 (([] : List (S32))) t182 (t182.length : Int) 0)) = some (r1, r2) := by first | (rw [hy176]; with_reducible exact H) | (have H2_ := (Option.bind_some _ _).symm.trans H; rw [hy176]; with_reducible exact H2_) | (have H2_ := (Option.bind_some _ _).symm.trans H; with_reducible exact H2_) | with_reducible exact H | (rw [hy176]; exact H) | exact H
  have Ny176 := Aside0.mk hy176
  clear hy176
  obtain ⟨y179, hy179⟩ : ∃ y_ : List (S32), y_ = (([] : List (S32))) := ⟨_, rfl⟩
  replace H : ((foghornref09_Sorted.f k l0).bind fun t182 => (foghornref09_Until.l0 k a1 y176 y179 t182 (t182.length : Int) 0)) = some (r1, r2) := by first | (rw [hy179]; with_reducible exact H) | (have H2_ := (Option.bind_some _ _).symm.trans H; rw [hy179]; with_reducible exact H2_) | (have H2_ := (Option.bind_some _ _).symm.trans H; with_reducible exact H2_) | with_reducible exact H | (rw [hy179]; exact H) | exact H
  have Ny179 := Aside0.mk hy179
  clear hy179
  replace H := Option.bind_eq_some_iff.mp H
  obtain ⟨t182, A30, H⟩ := H
  replace H : (foghornref09_Until.l0 k a1 y176 y179 t182 (t182.length : Int) 0) = some (r1, r2) := H
  have A3 := Aside0.mk A30
  clear A30
  have H' := Aside0.mk H
  clear H
  go_enter Try.func17, Try.ntmps17
  go_wp2_with (first | ((with_reducible refine gate_dst (N := 10) rfl ?_); refine Kd.R_lit k32 _ 32 ?hg (N := 10) ?hd (xs := ([] : List (S32))) (inner := []) (ok := fun _ => True) (okp := fun _ => True) ?hr ?hp (fun _ hk => hk) trivial (Below.refl _ _) (Nat.le_refl _) (by simp) ?_; (case hd => rfl); (case hg => rfl); (case hr => first | (go_simp; done) | (go_simp; rfl)); (case hp => exact (Reps.none _ _)); intro v177 w4 ho5 hb hg_ hnew_; clear hg_ hnew_; (first | rw [← Ny176.out] at ho5 | (simp only [Int.reduceToNat] at ho5; rw [← Ny176.out] at ho5)); have n0_ := Aside0.mk (Kd.R_lower ho5 (below_size (by repeat (first | (with_reducible first | exact HB.out | apply below_alloc | apply pw_below_drewN | apply below_drew1) | exact HB.out)))); have n1_ := Aside0.mk (below_step (by repeat (first | (with_reducible first | exact HB.out | apply below_alloc | apply pw_below_drewN | apply below_drew1) | exact HB.out)) hb); clear HB; have HO178 := n0_; have HB := n1_; clear n0_ n1_; clear hb ho5) | ((with_reducible refine gate_dst (N := 11) rfl ?_); refine Kd.R_lit k32 _ 32 ?hg (N := 11) ?hd (xs := ([] : List (S32))) (inner := []) (ok := fun _ => True) (okp := fun _ => True) ?hr ?hp (fun _ hk => hk) trivial (Below.refl _ _) (Nat.le_refl _) (by simp) ?_; (case hd => rfl); (case hg => rfl); (case hr => first | (go_simp; done) | (go_simp; rfl)); (case hp => exact (Reps.none _ _)); intro v180 w6 ho7 hb hg_ hnew_; clear hg_ hnew_; (first | rw [← Ny179.out] at ho7 | (simp only [Int.reduceToNat] at ho7; rw [← Ny179.out] at ho7)); have n0_ := Aside0.mk (Kd.R_elder' (by (with_reducible repeat (first | apply Kd.R_alloc | apply Kd.R_drewN | apply Kd.R_drew)); exact HO178.out) (Kd.R_base ho7) hb); have n1_ := Aside0.mk (Kd.R_lower (Kd.R_new' ho7 (Kd.R_lt (by (with_reducible repeat (first | apply Kd.R_alloc | apply Kd.R_drewN | apply Kd.R_drew)); exact HO178.out))) (below_size (by repeat (first | (with_reducible first | exact HB.out | apply below_alloc | apply pw_below_drewN | apply below_drew1) | exact HB.out)))); have n2_ := Aside0.mk (below_step (by repeat (first | (with_reducible first | exact HB.out | apply below_alloc | apply pw_below_drewN | apply below_drew1) | exact HB.out)) hb); clear HO178; clear HB; have HO178 := n0_; have HO181 := n1_; have HB := n2_; clear n0_ n1_ n2_; clear hb ho7) | ((with_reducible refine gate_callee (f := 16) rfl ?_); refine goesL_ (some 13) rfl rfl Try.func16 (by kernel_rfl) rfl #[.slice A0 l0.length c0] rfl (by (try simp only [List.map_toArray, List.map_cons, List.map_nil]); first | done | rfl | (simp only [List.length_drop, List.length_take]; rfl)) ?_; (with_reducible refine (foghornref09_Sorted.calls k _ _ l0 t182 _ ?side1 ?side2 A3.out).mono ?_); (case side1 => repeat (first | exact (Kd.C_below HR0.out HB.out) | (with_reducible refine Kd.C_alloc ?_ _) | (with_reducible refine Kd.C_drewN ?_ _) | (with_reducible refine Kd.C_drew ?_))); (case side2 => exact HC0.out); rintro e w8 ⟨v183, rfl, ho0, hb⟩; refine ⟨_, rfl, ?_⟩; have n0_ := Aside0.mk (Kd.R_elder' (by (with_reducible repeat (first | apply Kd.R_alloc | apply Kd.R_drewN | apply Kd.R_drew)); exact HO178.out) (Kd.R_base ho0) hb); have n1_ := Aside0.mk (Kd.R_elder' (by (with_reducible repeat (first | apply Kd.R_alloc | apply Kd.R_drewN | apply Kd.R_drew)); exact HO181.out) (Kd.R_base ho0) hb); have n2_ := Aside0.mk (Kd.R_lower (Kd.R_new' (Kd.R_new' ho0 (Kd.R_lt (by (with_reducible repeat (first | apply Kd.R_alloc | apply Kd.R_drewN | apply Kd.R_drew)); exact HO178.out))) (Kd.R_lt (by (with_reducible repeat (first | apply Kd.R_alloc | apply Kd.R_drewN | apply Kd.R_drew)); exact HO181.out))) (below_size (by repeat (first | (with_reducible first | exact HB.out | apply below_alloc | apply pw_below_drewN | apply below_drew1) | exact HB.out)))); have n3_ := Aside0.mk (below_step (by repeat (first | (with_reducible first | exact HB.out | apply below_alloc | apply pw_below_drewN | apply below_drew1) | exact HB.out)) hb); clear HO178; clear HO181; clear HB; have HO178 := n0_; have HO181 := n1_; have HO184 := n2_; have HB := n3_; clear n0_ n1_ n2_ n3_; (try clear hb); (try clear hb2); (try clear hk); (try clear hi); (try clear ho0); obtain ⟨Ao9, co9, eo9⟩ := Kd.R_slice HO184.out; subst eo9))
  go_loopg [6, 7, 15] k (fun kq v6 v7 v15 w' => ∃ (x6_1 : List (S32)) (x7_1 : List (S32)) (x15_1 : Int), v15 = .int .i64 x15_1 ∧ Aside0 (foghornref09_Until.l0 kq a1 x6_1 x7_1 t182 (t182.length : Int) x15_1 = some (r1, r2)) ∧ Aside0 (kq ≤ k) ∧ Aside0 (Kd.R k32 32 w' w.heap.size (fun k_ => some k_ ≠ (v7 : Value).ownBlock ∧ some k_ ≠ ((.slice Ao9 t182.length co9) : Value).ownBlock) v6 x6_1) ∧ Aside0 (Kd.R k32 32 w' w.heap.size (fun k_ => some k_ ≠ (v6 : Value).ownBlock ∧ some k_ ≠ ((.slice Ao9 t182.length co9) : Value).ownBlock) v7 x7_1) ∧ Aside0 (Kd.R k32 32 w' w.heap.size (fun k_ => some k_ ≠ (v6 : Value).ownBlock ∧ some k_ ≠ (v7 : Value).ownBlock) (.slice Ao9 t182.length co9) t182) ∧ Aside0 (Below w.heap.size w w'))
  case atStart => exact ⟨(y176), (y179), (0), (by first | rfl | (simp; done) | (simp [*]; done)), H', ⟨Nat.le_refl _⟩, ⟨by (with_reducible repeat (first | apply Kd.R_alloc | apply Kd.R_drewN | apply Kd.R_drew)); exact Kd.R_mono HO178.out (fun _ hk => ⟨hk.1.2, hk.2⟩)⟩, ⟨by (with_reducible repeat (first | apply Kd.R_alloc | apply Kd.R_drewN | apply Kd.R_drew)); exact Kd.R_mono HO181.out (fun _ hk => ⟨hk.1.2, hk.2⟩)⟩, ⟨by (with_reducible repeat (first | apply Kd.R_alloc | apply Kd.R_drewN | apply Kd.R_drew)); exact Kd.R_mono HO184.out (fun _ hk => ⟨hk.1.2, hk.2⟩)⟩, ⟨by repeat (first | (with_reducible first | exact HB.out | apply below_alloc | apply pw_below_drewN | apply below_drew1) | exact HB.out)⟩⟩
  case round =>
    clear H'
    try clear c1
    try clear p2
    obtain ⟨x6_1, x7_1, x15_1, rfl, HA, HK1, HO_6, HO_7, HO_13, HB⟩ := hrel
    cases gk with
    | zero => exact absurd HA.out (by simp [foghornref09_Until.l0])
    | succ k1 =>
      have H := HA.out
      clear HA
      simp only [foghornref09_Until.l0] at H
      by_cases c10 : x15_1 < (t182.length : Int)
      · rw [if_pos c10] at H
        have c10b0 : decide (x15_1 < (t182.length : Int)) = true := decide_eq_true c10
        clear c10
        by_cases c11 : 0 ≤ x15_1
        · rw [if_pos c11] at H
          have c11b0 : decide (0 ≤ x15_1) = true := decide_eq_true c11
          clear c11
          by_cases c12 : x15_1 < (t182.length : Int)
          · rw [if_pos c12] at H
            have c12b0 : decide (x15_1 < (t182.length : Int)) = true := decide_eq_true c12
            clear c12
            by_cases c13 : ((rd_T32 t182 x15_1).f0) ≤ a1
            · rw [if_pos c13] at H
              have c13b0 : decide (((rd_T32 t182 x15_1).f0) ≤ a1) = true := decide_eq_true c13
              clear c13
              by_cases c14 : x6_1.length < 8796093022208
              · rw [if_pos c14] at H
                have LMc14 := Aside0.mk c14
                clear c14
                obtain ⟨y187, hy187⟩ : ∃ y_ : List (S32), y_ = (x6_1 ++ [(⟨(rd_T32 t182 x15_1).f0, (rd_T32 t182 x15_1).f1⟩ : S32)]) := ⟨_, rfl⟩
                replace H : (foghornref09_Until.l0 k1 a1 y187 x7_1 t182 (t182.length : Int) (wrap64 (x15_1 + 1))) = some (r1, r2) := by first | (rw [hy187]; with_reducible exact H) | (have H2_ := (Option.bind_some _ _).symm.trans H; rw [hy187]; with_reducible exact H2_) | (have H2_ := (Option.bind_some _ _).symm.trans H; with_reducible exact H2_) | with_reducible exact H | (rw [hy187]; exact H) | exact H
                have Ny187 := Aside0.mk hy187
                clear hy187
                have H' := Aside0.mk H
                clear H
                have p185 : 0 ≤ (x15_1 : Int) := of_decide_eq_true (by first | (with_reducible assumption) | assumption)
                have q185 : x15_1 < (t182.length : Int) := of_decide_eq_true (by first | (with_reducible assumption) | assumption)
                obtain ⟨ad185, e185, hx185_0, hx185_1⟩ := at_T32 (Kd.R_reads' HO_13.out).2.2 x15_1 p185 q185
                cases e185
                replace p185 := eq_true p185
                replace q185 := eq_true q185
                go_wp2_with (first | ((with_reducible refine gate_dst (N := 9) rfl ?_); refine box_event ?hg (N := 9) ?hd (cs := #[.int .i64 0, .int .i64 0]) (t := 32) ?hr ?_; (case hd => rfl); (case hg => rfl); (case hr => first | (go_simp; done) | (go_simp; rfl)); intro gb186 hg w15 hbox hb; have n0_ := Aside0.mk (Kd.R_below (Kd.R_elderB (by (with_reducible repeat (first | apply Kd.R_alloc | apply Kd.R_drewN | apply Kd.R_drew)); exact HO_6.out) gb186 (Nat.le_of_eq hg.symm)) hb); have n1_ := Aside0.mk (Kd.R_below (Kd.R_elderB (by (with_reducible repeat (first | apply Kd.R_alloc | apply Kd.R_drewN | apply Kd.R_drew)); exact HO_7.out) gb186 (Nat.le_of_eq hg.symm)) hb); have n2_ := Aside0.mk (Kd.R_below (Kd.R_elderB (by (with_reducible repeat (first | apply Kd.R_alloc | apply Kd.R_drewN | apply Kd.R_drew)); exact HO_13.out) gb186 (Nat.le_of_eq hg.symm)) hb); have n3_ := Aside0.mk (below_step (by repeat (first | (with_reducible first | exact HB.out | apply below_alloc | apply pw_below_drewN | apply below_drew1) | exact HB.out)) hb); have n4_ := Aside0.mk (hbox); have n5_ := Aside0.mk ((by rw [hg]; exact (below_size (by repeat (first | (with_reducible first | exact HB.out | apply below_alloc | apply pw_below_drewN | apply below_drew1) | exact HB.out))) : w.heap.size ≤ gb186)); have n6_ := Aside0.mk ((by rw [hg]; exact (below_size (by repeat (first | (with_reducible first | exact HB.out | apply below_alloc | apply pw_below_drewN | apply below_drew1) | exact HB.out))) : w.heap.size ≤ gb186)); clear HO_6; clear HO_7; clear HO_13; clear HB; have HO_6 := n0_; have HO_7 := n1_; have HO_13 := n2_; have HB := n3_; have BK186 := n4_; have GW186 := n5_; have GE186 := n6_; clear n0_ n1_ n2_ n3_ n4_ n5_ n6_; clear hb hbox hg; have hcz16_0 : w15.cell? ⟨gb186, 0, none⟩ = some (.int .i64 0) := (blk_cell BK186.out 0).trans rfl; have hcz16_1 : w15.cell? ⟨gb186, 1, none⟩ = some (.int .i64 0) := (blk_cell BK186.out 1).trans rfl; have hfz16_0 := blk_frozen BK186.out 0; have hfz16_1 := blk_frozen BK186.out 1) | ((with_reducible refine gate_builtin (b := .append) (xs := #[.tmp 23, .tmp 25]) rfl ?_); at_builtin; refine Kd.R_append k32 (w0 := w) w.heap.size rfl (.tmp 23) (.tmp 25) 22 32 (.agg #[(.int .i64 0), (.int .i64 0)]) 16 rfl Try.underlying22 info32 rfl (by decide) (by omega) u6 x6_1 (⟨(rd_T32 t182 x15_1).f0, (rd_T32 t182 x15_1).f1⟩ : S32) [.int .i64 ((rd_T32 t182 x15_1).f0), .int .i64 ((rd_T32 t182 x15_1).f1)] (fun k_ => some k_ ≠ (u7 : Value).ownBlock ∧ some k_ ≠ (.slice (some ad185) t182.length co9 : Value).ownBlock ∧ k_ ≠ gb186) (fun _ => False) rfl (by first | (go_simp; done) | (go_simp; rfl)) ?aP (fun _ hk => hk.elim) ?aF ?aO ?aB ?aS ?aL ?_; (case aP => exact k32_mkM _ _ _ (⟨(rd_T32 t182 x15_1).f0, (rd_T32 t182 x15_1).f1⟩ : S32)); (case aB => exact (by repeat (first | (with_reducible first | exact HB.out | apply below_alloc | apply pw_below_drewN | apply below_drew1 | refine below_set ?_ GE186.out) | exact HB.out))); (case aF => exact (fun k_ hk => ⟨Kd.fresh' (Kd.R_lt (by (with_reducible repeat (first | apply Kd.R_alloc | apply Kd.R_drewN | apply Kd.R_drew)); exact (Kd.R_mono (Kd.R_far (p := ⟨gb186, 1, none⟩) (Kd.R_far (p := ⟨gb186, 0, none⟩) (Kd.R_mono HO_7.out (fun k_ hk => (⟨hk, hk.2⟩ : _ ∧ k_ ≠ gb186))) (fun _ hk => hk.2) (.int .i64 ((rd_T32 t182 x15_1).f0))) (fun _ hk => hk.2) (.int .i64 ((rd_T32 t182 x15_1).f1))) (fun _ h_ => h_.1)))) k_ hk, Kd.fresh' (Kd.R_lt (by (with_reducible repeat (first | apply Kd.R_alloc | apply Kd.R_drewN | apply Kd.R_drew)); exact (Kd.R_mono (Kd.R_far (p := ⟨gb186, 1, none⟩) (Kd.R_far (p := ⟨gb186, 0, none⟩) (Kd.R_mono HO_13.out (fun k_ hk => (⟨hk, hk.2⟩ : _ ∧ k_ ≠ gb186))) (fun _ hk => hk.2) (.int .i64 ((rd_T32 t182 x15_1).f0))) (fun _ hk => hk.2) (.int .i64 ((rd_T32 t182 x15_1).f1))) (fun _ h_ => h_.1)))) k_ hk, Kd.freshB (g := gb186) (o := .cells #[.int .i64 ((rd_T32 t182 x15_1).f0), .int .i64 ((rd_T32 t182 x15_1).f1)] 32 (0, 0)) (by (with_reducible repeat (first | refine blk_drewN ?_ _ | refine blk_drew ?_ | refine blk_alloc ?_ _)); refine blk_put (cs := #[.int .i64 ((rd_T32 t182 x15_1).f0), .int .i64 0]) ?_ 1 _ rfl; (with_reducible repeat (first | refine blk_drewN ?_ _ | refine blk_drew ?_ | refine blk_alloc ?_ _)); refine blk_put (cs := #[.int .i64 0, .int .i64 0]) ?_ 0 _ rfl; (with_reducible repeat (first | refine blk_drewN ?_ _ | refine blk_drew ?_ | refine blk_alloc ?_ _)); exact BK186.out) k_ hk⟩)); (case aO => exact (by (with_reducible repeat (first | apply Kd.R_alloc | apply Kd.R_drewN | apply Kd.R_drew)); exact Kd.R_mono (Kd.R_far (p := ⟨gb186, 1, none⟩) (Kd.R_far (p := ⟨gb186, 0, none⟩) (Kd.R_mono HO_6.out (fun k_ hk => (⟨hk, hk.2⟩ : _ ∧ k_ ≠ gb186))) (fun _ hk => hk.2) (.int .i64 ((rd_T32 t182 x15_1).f0))) (fun _ hk => hk.2) (.int .i64 ((rd_T32 t182 x15_1).f1))) (fun _ hk => ⟨hk.1.1.1, ⟨hk.1.1.2, hk.1.2⟩⟩))); (case aS => exact (below_size (by repeat (first | (with_reducible first | exact HB.out | apply below_alloc | apply pw_below_drewN | apply below_drew1 | refine below_set ?_ GE186.out) | exact HB.out)))); (case aL => have := LMc14.out; omega); intro v188 w17 ho hb hg hat; rw [← Ny187.out] at ho; have n0_ := Aside0.mk (Kd.R_after (ok := (fun k_ => some k_ ≠ (.slice (some ad185) t182.length co9 : Value).ownBlock ∧ k_ ≠ gb186)) (by (with_reducible repeat (first | apply Kd.R_alloc | apply Kd.R_drewN | apply Kd.R_drew)); exact Kd.R_mono (Kd.R_far (p := ⟨gb186, 1, none⟩) (Kd.R_far (p := ⟨gb186, 0, none⟩) (Kd.R_mono HO_7.out (fun k_ hk => (⟨hk, hk.2⟩ : _ ∧ k_ ≠ gb186))) (fun _ hk => hk.2) (.int .i64 ((rd_T32 t182 x15_1).f0))) (fun _ hk => hk.2) (.int .i64 ((rd_T32 t182 x15_1).f1))) (fun _ hk => ⟨⟨hk.1.1.2, hk.1.2⟩, hk.1.1.1⟩)) hg hat); have n1_ := Aside0.mk (Kd.R_after (ok := (fun k_ => some k_ ≠ (u7 : Value).ownBlock ∧ k_ ≠ gb186)) (by (with_reducible repeat (first | apply Kd.R_alloc | apply Kd.R_drewN | apply Kd.R_drew)); exact Kd.R_mono (Kd.R_far (p := ⟨gb186, 1, none⟩) (Kd.R_far (p := ⟨gb186, 0, none⟩) (Kd.R_mono HO_13.out (fun k_ hk => (⟨hk, hk.2⟩ : _ ∧ k_ ≠ gb186))) (fun _ hk => hk.2) (.int .i64 ((rd_T32 t182 x15_1).f0))) (fun _ hk => hk.2) (.int .i64 ((rd_T32 t182 x15_1).f1))) (fun _ hk => ⟨⟨hk.1.1.2, hk.1.2⟩, hk.1.1.1⟩)) hg hat); have n2_ := Aside0.mk (blk_grown (g := gb186) (o := .cells #[.int .i64 ((rd_T32 t182 x15_1).f0), .int .i64 ((rd_T32 t182 x15_1).f1)] 32 (0, 0)) (by (with_reducible repeat (first | refine blk_drewN ?_ _ | refine blk_drew ?_ | refine blk_alloc ?_ _)); refine blk_put (cs := #[.int .i64 ((rd_T32 t182 x15_1).f0), .int .i64 0]) ?_ 1 _ rfl; (with_reducible repeat (first | refine blk_drewN ?_ _ | refine blk_drew ?_ | refine blk_alloc ?_ _)); refine blk_put (cs := #[.int .i64 0, .int .i64 0]) ?_ 0 _ rfl; (with_reducible repeat (first | refine blk_drewN ?_ _ | refine blk_drew ?_ | refine blk_alloc ?_ _)); exact BK186.out) hg (Kd.R_away HO_6.out (fun _ hk => hk.2))); have n3_ := Aside0.mk (hb); have n4_ := Aside0.mk (ho); clear HO_7; clear HO_13; clear BK186; clear HB; clear HO_6; have HO_7 := n0_; have HO_13 := n1_; have BK186 := n2_; have HB := n3_; have HO189 := n4_; clear n0_ n1_ n2_ n3_ n4_; clear ho hb hg hat))
                go_roundg k1
                case measure => have := HK1.out; omega
                case rel => exact ⟨(y187), (x7_1), (wrap64 (x15_1 + 1)), (by first | rfl | (simp; done) | (simp [*]; done)), H', ⟨by have := HK1.out; omega⟩, ⟨by (with_reducible repeat (first | apply Kd.R_alloc | apply Kd.R_drewN | apply Kd.R_drew)); exact Kd.R_mono HO189.out (fun _ hk => ⟨hk.1, hk.2.1⟩)⟩, ⟨by (with_reducible repeat (first | apply Kd.R_alloc | apply Kd.R_drewN | apply Kd.R_drew)); exact Kd.R_mono HO_7.out (fun _ hk => ⟨hk.2, hk.1.1⟩)⟩, ⟨by (with_reducible repeat (first | apply Kd.R_alloc | apply Kd.R_drewN | apply Kd.R_drew)); exact Kd.R_mono HO_13.out (fun _ hk => ⟨hk.2, hk.1.1⟩)⟩, ⟨by repeat (first | (with_reducible first | exact HB.out | apply below_alloc | apply pw_below_drewN | apply below_drew1 | refine below_set ?_ GE186.out) | exact HB.out)⟩⟩
              · rw [if_neg c14] at H
                exact absurd H (by simp)
            · rw [if_neg c13] at H
              have c13b0 : decide (((rd_T32 t182 x15_1).f0) ≤ a1) = false := decide_eq_false c13
              clear c13
              by_cases c18 : x7_1.length < 8796093022208
              · rw [if_pos c18] at H
                have LMc18 := Aside0.mk c18
                clear c18
                obtain ⟨y190, hy190⟩ : ∃ y_ : List (S32), y_ = (x7_1 ++ [(⟨(rd_T32 t182 x15_1).f0, (rd_T32 t182 x15_1).f1⟩ : S32)]) := ⟨_, rfl⟩
                replace H : (foghornref09_Until.l0 k1 a1 x6_1 y190 t182 (t182.length : Int) (wrap64 (x15_1 + 1))) = some (r1, r2) := by first | (rw [hy190]; with_reducible exact H) | (have H2_ := (Option.bind_some _ _).symm.trans H; rw [hy190]; with_reducible exact H2_) | (have H2_ := (Option.bind_some _ _).symm.trans H; with_reducible exact H2_) | with_reducible exact H | (rw [hy190]; exact H) | exact H
                have Ny190 := Aside0.mk hy190
                clear hy190
                have H' := Aside0.mk H
                clear H
                have p185 : 0 ≤ (x15_1 : Int) := of_decide_eq_true (by first | (with_reducible assumption) | assumption)
                have q185 : x15_1 < (t182.length : Int) := of_decide_eq_true (by first | (with_reducible assumption) | assumption)
                obtain ⟨ad185, e185, hx185_0, hx185_1⟩ := at_T32 (Kd.R_reads' HO_13.out).2.2 x15_1 p185 q185
                cases e185
                replace p185 := eq_true p185
                replace q185 := eq_true q185
                go_wp2_with (first | ((with_reducible refine gate_dst (N := 9) rfl ?_); refine box_event ?hg (N := 9) ?hd (cs := #[.int .i64 0, .int .i64 0]) (t := 32) ?hr ?_; (case hd => rfl); (case hg => rfl); (case hr => first | (go_simp; done) | (go_simp; rfl)); intro gb186 hg w19 hbox hb; have n0_ := Aside0.mk (Kd.R_below (Kd.R_elderB (by (with_reducible repeat (first | apply Kd.R_alloc | apply Kd.R_drewN | apply Kd.R_drew)); exact HO_6.out) gb186 (Nat.le_of_eq hg.symm)) hb); have n1_ := Aside0.mk (Kd.R_below (Kd.R_elderB (by (with_reducible repeat (first | apply Kd.R_alloc | apply Kd.R_drewN | apply Kd.R_drew)); exact HO_7.out) gb186 (Nat.le_of_eq hg.symm)) hb); have n2_ := Aside0.mk (Kd.R_below (Kd.R_elderB (by (with_reducible repeat (first | apply Kd.R_alloc | apply Kd.R_drewN | apply Kd.R_drew)); exact HO_13.out) gb186 (Nat.le_of_eq hg.symm)) hb); have n3_ := Aside0.mk (below_step (by repeat (first | (with_reducible first | exact HB.out | apply below_alloc | apply pw_below_drewN | apply below_drew1) | exact HB.out)) hb); have n4_ := Aside0.mk (hbox); have n5_ := Aside0.mk ((by rw [hg]; exact (below_size (by repeat (first | (with_reducible first | exact HB.out | apply below_alloc | apply pw_below_drewN | apply below_drew1) | exact HB.out))) : w.heap.size ≤ gb186)); have n6_ := Aside0.mk ((by rw [hg]; exact (below_size (by repeat (first | (with_reducible first | exact HB.out | apply below_alloc | apply pw_below_drewN | apply below_drew1) | exact HB.out))) : w.heap.size ≤ gb186)); clear HO_6; clear HO_7; clear HO_13; clear HB; have HO_6 := n0_; have HO_7 := n1_; have HO_13 := n2_; have HB := n3_; have BK186 := n4_; have GW186 := n5_; have GE186 := n6_; clear n0_ n1_ n2_ n3_ n4_ n5_ n6_; clear hb hbox hg; have hcz20_0 : w19.cell? ⟨gb186, 0, none⟩ = some (.int .i64 0) := (blk_cell BK186.out 0).trans rfl; have hcz20_1 : w19.cell? ⟨gb186, 1, none⟩ = some (.int .i64 0) := (blk_cell BK186.out 1).trans rfl; have hfz20_0 := blk_frozen BK186.out 0; have hfz20_1 := blk_frozen BK186.out 1) | ((with_reducible refine gate_builtin (b := .append) (xs := #[.tmp 27, .tmp 29]) rfl ?_); at_builtin; refine Kd.R_append k32 (w0 := w) w.heap.size rfl (.tmp 27) (.tmp 29) 22 32 (.agg #[(.int .i64 0), (.int .i64 0)]) 16 rfl Try.underlying22 info32 rfl (by decide) (by omega) u7 x7_1 (⟨(rd_T32 t182 x15_1).f0, (rd_T32 t182 x15_1).f1⟩ : S32) [.int .i64 ((rd_T32 t182 x15_1).f0), .int .i64 ((rd_T32 t182 x15_1).f1)] (fun k_ => some k_ ≠ (u6 : Value).ownBlock ∧ some k_ ≠ (.slice (some ad185) t182.length co9 : Value).ownBlock ∧ k_ ≠ gb186) (fun _ => False) rfl (by first | (go_simp; done) | (go_simp; rfl)) ?aP (fun _ hk => hk.elim) ?aF ?aO ?aB ?aS ?aL ?_; (case aP => exact k32_mkM _ _ _ (⟨(rd_T32 t182 x15_1).f0, (rd_T32 t182 x15_1).f1⟩ : S32)); (case aB => exact (by repeat (first | (with_reducible first | exact HB.out | apply below_alloc | apply pw_below_drewN | apply below_drew1 | refine below_set ?_ GE186.out) | exact HB.out))); (case aF => exact (fun k_ hk => ⟨Kd.fresh' (Kd.R_lt (by (with_reducible repeat (first | apply Kd.R_alloc | apply Kd.R_drewN | apply Kd.R_drew)); exact (Kd.R_mono (Kd.R_far (p := ⟨gb186, 1, none⟩) (Kd.R_far (p := ⟨gb186, 0, none⟩) (Kd.R_mono HO_6.out (fun k_ hk => (⟨hk, hk.2⟩ : _ ∧ k_ ≠ gb186))) (fun _ hk => hk.2) (.int .i64 ((rd_T32 t182 x15_1).f0))) (fun _ hk => hk.2) (.int .i64 ((rd_T32 t182 x15_1).f1))) (fun _ h_ => h_.1)))) k_ hk, Kd.fresh' (Kd.R_lt (by (with_reducible repeat (first | apply Kd.R_alloc | apply Kd.R_drewN | apply Kd.R_drew)); exact (Kd.R_mono (Kd.R_far (p := ⟨gb186, 1, none⟩) (Kd.R_far (p := ⟨gb186, 0, none⟩) (Kd.R_mono HO_13.out (fun k_ hk => (⟨hk, hk.2⟩ : _ ∧ k_ ≠ gb186))) (fun _ hk => hk.2) (.int .i64 ((rd_T32 t182 x15_1).f0))) (fun _ hk => hk.2) (.int .i64 ((rd_T32 t182 x15_1).f1))) (fun _ h_ => h_.1)))) k_ hk, Kd.freshB (g := gb186) (o := .cells #[.int .i64 ((rd_T32 t182 x15_1).f0), .int .i64 ((rd_T32 t182 x15_1).f1)] 32 (0, 0)) (by (with_reducible repeat (first | refine blk_drewN ?_ _ | refine blk_drew ?_ | refine blk_alloc ?_ _)); refine blk_put (cs := #[.int .i64 ((rd_T32 t182 x15_1).f0), .int .i64 0]) ?_ 1 _ rfl; (with_reducible repeat (first | refine blk_drewN ?_ _ | refine blk_drew ?_ | refine blk_alloc ?_ _)); refine blk_put (cs := #[.int .i64 0, .int .i64 0]) ?_ 0 _ rfl; (with_reducible repeat (first | refine blk_drewN ?_ _ | refine blk_drew ?_ | refine blk_alloc ?_ _)); exact BK186.out) k_ hk⟩)); (case aO => exact (by (with_reducible repeat (first | apply Kd.R_alloc | apply Kd.R_drewN | apply Kd.R_drew)); exact Kd.R_mono (Kd.R_far (p := ⟨gb186, 1, none⟩) (Kd.R_far (p := ⟨gb186, 0, none⟩) (Kd.R_mono HO_7.out (fun k_ hk => (⟨hk, hk.2⟩ : _ ∧ k_ ≠ gb186))) (fun _ hk => hk.2) (.int .i64 ((rd_T32 t182 x15_1).f0))) (fun _ hk => hk.2) (.int .i64 ((rd_T32 t182 x15_1).f1))) (fun _ hk => ⟨hk.1.1.1, ⟨hk.1.1.2, hk.1.2⟩⟩))); (case aS => exact (below_size (by repeat (first | (with_reducible first | exact HB.out | apply below_alloc | apply pw_below_drewN | apply below_drew1 | refine below_set ?_ GE186.out) | exact HB.out)))); (case aL => have := LMc18.out; omega); intro v191 w21 ho hb hg hat; rw [← Ny190.out] at ho; have n0_ := Aside0.mk (Kd.R_after (ok := (fun k_ => some k_ ≠ (.slice (some ad185) t182.length co9 : Value).ownBlock ∧ k_ ≠ gb186)) (by (with_reducible repeat (first | apply Kd.R_alloc | apply Kd.R_drewN | apply Kd.R_drew)); exact Kd.R_mono (Kd.R_far (p := ⟨gb186, 1, none⟩) (Kd.R_far (p := ⟨gb186, 0, none⟩) (Kd.R_mono HO_6.out (fun k_ hk => (⟨hk, hk.2⟩ : _ ∧ k_ ≠ gb186))) (fun _ hk => hk.2) (.int .i64 ((rd_T32 t182 x15_1).f0))) (fun _ hk => hk.2) (.int .i64 ((rd_T32 t182 x15_1).f1))) (fun _ hk => ⟨⟨hk.1.1.2, hk.1.2⟩, hk.1.1.1⟩)) hg hat); have n1_ := Aside0.mk (Kd.R_after (ok := (fun k_ => some k_ ≠ (u6 : Value).ownBlock ∧ k_ ≠ gb186)) (by (with_reducible repeat (first | apply Kd.R_alloc | apply Kd.R_drewN | apply Kd.R_drew)); exact Kd.R_mono (Kd.R_far (p := ⟨gb186, 1, none⟩) (Kd.R_far (p := ⟨gb186, 0, none⟩) (Kd.R_mono HO_13.out (fun k_ hk => (⟨hk, hk.2⟩ : _ ∧ k_ ≠ gb186))) (fun _ hk => hk.2) (.int .i64 ((rd_T32 t182 x15_1).f0))) (fun _ hk => hk.2) (.int .i64 ((rd_T32 t182 x15_1).f1))) (fun _ hk => ⟨⟨hk.1.1.1, hk.1.2⟩, hk.1.1.2⟩)) hg hat); have n2_ := Aside0.mk (blk_grown (g := gb186) (o := .cells #[.int .i64 ((rd_T32 t182 x15_1).f0), .int .i64 ((rd_T32 t182 x15_1).f1)] 32 (0, 0)) (by (with_reducible repeat (first | refine blk_drewN ?_ _ | refine blk_drew ?_ | refine blk_alloc ?_ _)); refine blk_put (cs := #[.int .i64 ((rd_T32 t182 x15_1).f0), .int .i64 0]) ?_ 1 _ rfl; (with_reducible repeat (first | refine blk_drewN ?_ _ | refine blk_drew ?_ | refine blk_alloc ?_ _)); refine blk_put (cs := #[.int .i64 0, .int .i64 0]) ?_ 0 _ rfl; (with_reducible repeat (first | refine blk_drewN ?_ _ | refine blk_drew ?_ | refine blk_alloc ?_ _)); exact BK186.out) hg (Kd.R_away HO_7.out (fun _ hk => hk.2))); have n3_ := Aside0.mk (hb); have n4_ := Aside0.mk (ho); clear HO_6; clear HO_13; clear BK186; clear HB; clear HO_7; have HO_6 := n0_; have HO_13 := n1_; have BK186 := n2_; have HB := n3_; have HO192 := n4_; clear n0_ n1_ n2_ n3_ n4_; clear ho hb hg hat))
                go_roundg k1
                case measure => have := HK1.out; omega
                case rel => exact ⟨(x6_1), (y190), (wrap64 (x15_1 + 1)), (by first | rfl | (simp; done) | (simp [*]; done)), H', ⟨by have := HK1.out; omega⟩, ⟨by (with_reducible repeat (first | apply Kd.R_alloc | apply Kd.R_drewN | apply Kd.R_drew)); exact Kd.R_mono HO_6.out (fun _ hk => ⟨hk.2, hk.1.1⟩)⟩, ⟨by (with_reducible repeat (first | apply Kd.R_alloc | apply Kd.R_drewN | apply Kd.R_drew)); exact Kd.R_mono HO192.out (fun _ hk => ⟨hk.1, hk.2.1⟩)⟩, ⟨by (with_reducible repeat (first | apply Kd.R_alloc | apply Kd.R_drewN | apply Kd.R_drew)); exact Kd.R_mono HO_13.out (fun _ hk => ⟨hk.1.1, hk.2⟩)⟩, ⟨by repeat (first | (with_reducible first | exact HB.out | apply below_alloc | apply pw_below_drewN | apply below_drew1 | refine below_set ?_ GE186.out) | exact HB.out)⟩⟩
              · rw [if_neg c18] at H
                exact absurd H (by simp)
          · rw [if_neg c12] at H
            exact absurd H (by simp)
        · rw [if_neg c11] at H
          exact absurd H (by simp)
      · rw [if_neg c10] at H
        have c10b0 : decide (x15_1 < (t182.length : Int)) = false := decide_eq_false c10
        clear c10
        simp only [Option.some.injEq, Prod.mk.injEq] at H
        obtain ⟨rfl, rfl⟩ := H
        go_wp2
        go_ret2
        exact ⟨_, _, by first | rfl | (simp [errW_none, errW_some] <;> rfl) | (simp [*, errW_none, errW_some] <;> rfl), by (with_reducible repeat (first | apply Kd.R_alloc | apply Kd.R_drewN | apply Kd.R_drew)); exact Kd.R_mono HO_6.out (fun _ hk => hk.1), by (with_reducible repeat (first | apply Kd.R_alloc | apply Kd.R_drewN | apply Kd.R_drew)); exact Kd.R_mono HO_7.out (fun _ hk => hk.1), by repeat (first | (with_reducible first | exact HB.out | apply below_alloc | apply pw_below_drewN | apply below_drew1) | exact HB.out)⟩
end Go.Proofs.Ytlkaebnigmfphaa.G
namespace Go.Proofs.Ytlkaebnigmfphaa.Fr
open Go.RowKit Go.Proofs.YtlkaebnigmfphaaW.PrintWords
set_option linter.unusedVariables false
section
variable {P : Program}
theorem append_how (w : World) (base : Nat) (t ty e : TypeId) (i : TypeInfo) (z : Value) (ht : P.underlying t = some (.slice e)) (hi : P.info? e = some i) (hz : i.zero = some z)
    (v : Value) (n : Nat) (xs : List Value) (hown : w.ownsRow base e i.size v n xs)
    (a : Addr) (m c : Nat) (news : List Value) (hl : news.length = m * i.size) (hnews : ∀ j u, news[j]? = some u → w.cell? (a.add j) = some u) (h1 : ∀ u ∈ news, u.oneCell' = true)
    (h63 : n + m ≤ maxLen) (hbytes : (n + m) * i.bytes ≤ 140737488355328) (v1 : Value) (w1 : World) (hrun : (Builtin.append_ #[t, t] ty #[v, .slice (some a) m c]).run P w = .ok v1 w1) :
    (v = .slice none 0 0 ∧ n = 0) ∨ (∃ A cap, v = .slice A n cap ∧ v1 = .slice A (n + m) cap) ∨ ∀ k, k < w.heap.size → w1.heap[k]? = w.heap[k]? := by
  have hsmall : n + m ≤ 9223372036854775807 := by simp only [maxLen] at h63; omega
  rcases hown.2 with ⟨rfl, rfl⟩ | ⟨g, cap, cur, rfl, hbg, hg, hnc, hcm, hcs, htake⟩
  · exact .inl ⟨rfl, rfl⟩
  · refine .inr ?_
    by_cases hroom : n + m ≤ cap
    · have hfit : n * i.size + news.length ≤ cur.size := by rw [hl, hcs, ← Nat.add_mul]; exact Nat.mul_le_mul_right _ hroom
      have hr := run_append_room (P := P) w t ty e i ht hi g n cap cur hg a m c news hl hnews h1 hroom hfit
      rw [hr] at hrun
      injection hrun with e1 e2
      exact .inl ⟨_, cap, rfl, e1.symm⟩
    · have holds : ∀ j u, xs[j]? = some u → w.cell? ((⟨g, 0, none⟩ : Addr).add j) = some u := hown.cells (g := g) rfl
      have hr := run_append_grow (P := P) w t ty e i z ht hi hz ⟨g, 0, none⟩ n cap xs hown.1 holds a m c news hl hnews (by omega) (by omega) (growslice_fits (by omega) hbytes)
      rw [hr] at hrun
      injection hrun with e1 e2
      refine .inr fun k hk => ?_
      rw [← e2]
      exact heap_alloc_old w.drew _ hk
theorem R_append_keep {α : Type} (d : Kd α) {W : World} (base : Nat) (t ty e : TypeId) (z : Value) (bytes : Nat)
    (ht : P.underlying t = some (.slice e)) (hinfo : (P.info? e).map (fun i => (i.zero, i.size, i.bytes)) = some (some z, d.sz, bytes)) (hz : z.cells.size = d.sz) (hs0 : 0 < d.sz) (hb0 : 0 < bytes)
    {v : Value} {xs ps : List α} {cs : List Value} {ok : Nat → Prop} (HO : d.R e W base ok v xs) (hps : ∀ (w : World) (ok : Nat → Prop), Reps (d.M w base ok) d.sz ps cs) (hone : ∀ u ∈ cs, u.oneCell' = true) (ad : Addr) (m c : Nat) (hm : ps.length = m)
    (hnews : ∀ j u, cs[j]? = some u → W.cell? (ad.add j) = some u) (hl : (xs.length + m) * bytes ≤ 140737488355328) (hbase : base ≤ W.heap.size) (hfresh : ∀ k, W.heap.size ≤ k → ok k) :
    ∃ v1 w1, (Builtin.append_ #[t, t] ty #[v, .slice (some ad) m c]).run P W = .ok v1 w1 ∧ d.R e w1 base ok v1 (xs ++ ps) ∧ d.R e w1 base ok v xs ∧ W.grownBy w1 v.ownBlock := by
  obtain ⟨i0, hi, hzz⟩ := Option.map_eq_some_iff.1 hinfo
  simp only [Prod.mk.injEq] at hzz
  obtain ⟨hz0, hz1, hz2⟩ := hzz
  have HO0 := HO
  obtain ⟨hok, inner, hown, hr⟩ := HO
  have hlen : xs.length + m ≤ 140737488355328 := Nat.le_trans (Nat.le_mul_of_pos_right _ hb0) hl
  obtain ⟨v1, w1, hrun, h2, hg, _, hat⟩ := run_append_own_at (P := P) W base t ty e i0 z d.sz bytes ht hi hz0 hz1 hz2 hz hs0 v xs.length inner hown ad m c cs (by rw [← hm]; exact (hps W ok).1) hnews hone (by simp only [maxLen]; omega) hl hbase
  have hne : ∀ k, some k ≠ v.ownBlock → k < W.heap.size → some k ≠ v1.ownBlock := by
    intro k hk hlt
    rcases hat with hat | hat
    · rw [hat]; exact hk
    · rw [hat]
      intro he
      injection he with he
      omega
  have step : ∀ {q : α} {c : List Value} {o : Nat → Prop}, d.M W base o q c → (∀ k, o k → ok k ∧ some k ≠ v.ownBlock) → d.M w1 base (fun k => ok k ∧ some k ≠ v1.ownBlock) q c := by
    intro q c o hq ho
    have h1 := d.M_move (w1 := w1) (fun k hk => hg.block k hk.2.2.1 (ho k hk.1).2) (d.M_bound hq)
    exact d.M_mono (fun k hk => ⟨(ho k hk.1).1, hne k (ho k hk.1).2 hk.2.2.1⟩) h1
  have HR : d.R e w1 base ok v1 (xs ++ ps) := by
    refine ⟨fun k hk => ?_, inner ++ cs, by rw [List.length_append, hm]; exact h2, Kd.reps_append (hr.imp_ (fun _ _ hq => step hq (fun _ hk => hk))) (hps w1 _)⟩
    rcases hat with hat | hat
    · exact hok k (hat ▸ hk)
    · rw [hat] at hk
      injection hk with hk
      exact hfresh k (by omega)
  refine ⟨v1, w1, hrun, HR, ?_, hg⟩
  rcases append_how W base t ty e i0 z ht hi hz0 v xs.length inner (by rw [hz1]; exact hown) ad m c cs (by rw [hz1, ← hm]; exact (hps W ok).1) hnews hone (by simp only [maxLen]; omega) (by rw [hz2]; exact hl) v1 w1 hrun with ⟨rfl, h0⟩ | ⟨A, cap, rfl, rfl⟩ | hsame
  · rw [List.eq_nil_of_length_eq_zero h0]
    exact Kd.R_nil d e w1 base ok
  · have := Kd.R_take HR (m := xs.length) (by simp)
    rwa [List.take_left] at this
  · exact Kd.R_step HO0 (fun k _ hk => hsame k hk)
end
section
variable {P : Program} {ops : Array Oper} {rest : List Oper} {o : Oper} {a : Act} {Q : Exit → Act → World → Prop} {w0 W : World} {bs : List Blk}
theorem Frame.head {r : Row} {rs : List Row} {w : World} (h : Frame w0 w bs (r :: rs)) : Frame w0 w bs [r] := ⟨h.below, h.blk, h.nodup, fun r' hr => h.row r' (by rw [List.mem_singleton] at hr; subst hr; exact List.mem_cons_self)⟩
end
end Go.Proofs.Ytlkaebnigmfphaa.Fr
namespace Go.Proofs.Ytlkaebnigmfphaa.G
open Go.RowKit Go.Proofs.YtlkaebnigmfphaaW.PrintWords Go.Proofs.YtlkaebnigmfphaaW.PrintLast Go.Proofs.YtlkaebnigmfphaaW.PrintMore
attribute [local go_sem] max2_int min2_int max_two min_two max_three min_three max_four min_four
set_option linter.unusedVariables false
set_option linter.unusedSimpArgs false
theorem recv_of (s : String) (h : Nat) (v : Value) (w : World) (hc : w.cell? ⟨h, 0, none⟩ = some v) : (receiverAt 45 (.val (.pointer (some ⟨h, 0, none⟩))) false (some s)).run Try.prog w = .ok v w := by
  have e1 : (Place.get 45 (.val (.pointer (some ⟨h, 0, none⟩)))).run Try.prog w = .ok (.pointer (some ⟨h, 0, none⟩)) w := rfl
  have e2 : (Builtin.ssaWrapNilChk_ #[45] 45 #[.pointer (some ⟨h, 0, none⟩), strVal "", strVal s]).run Try.prog w = .ok (.pointer (some ⟨h, 0, none⟩)) w := rfl
  unfold receiverAt
  go_simp
theorem recv_at (h : Nat) (s : Option String) (w : World) : (receiverAt 45 (.val (.pointer (some ⟨h, 0, none⟩))) true s).run Try.prog w = .ok (.pointer (some ⟨h, 0, none⟩)) w := by
  have e1 : (Place.get 45 (.val (.pointer (some ⟨h, 0, none⟩)))).run Try.prog w = .ok (.pointer (some ⟨h, 0, none⟩)) w := rfl
  unfold receiverAt
  go_simp
theorem fnd_Len : Array.find? (fun x => x.name == "Len") Try.t45.methods = some ⟨"Len", 57, #[], some (46, false)⟩ := by kernel_rfl
theorem met_Len (h : Nat) (v : Value) (w : World) (hc : w.cell? ⟨h, 0, none⟩ = some v) : (method 181 45 (.pointer (some ⟨h, 0, none⟩)) "Len").run Try.prog w = .ok (46, v) w := by
  show Sem.run Try.prog (method (180+1) _ _ _) w = _
  unfold method
  have hf := fnd_Len
  have hr := fun s => recv_of s h v w hc
  go_simp
  unfold follow
  go_simp
theorem fnd_Less : Array.find? (fun x => x.name == "Less") Try.t45.methods = some ⟨"Less", 64, #[], some (47, false)⟩ := by kernel_rfl
theorem met_Less (h : Nat) (v : Value) (w : World) (hc : w.cell? ⟨h, 0, none⟩ = some v) : (method 181 45 (.pointer (some ⟨h, 0, none⟩)) "Less").run Try.prog w = .ok (47, v) w := by
  show Sem.run Try.prog (method (180+1) _ _ _) w = _
  unfold method
  have hf := fnd_Less
  have hr := fun s => recv_of s h v w hc
  go_simp
  unfold follow
  go_simp
theorem fnd_Swap : Array.find? (fun x => x.name == "Swap") Try.t45.methods = some ⟨"Swap", 58, #[], some (50, false)⟩ := by kernel_rfl
theorem met_Swap (h : Nat) (v : Value) (w : World) (hc : w.cell? ⟨h, 0, none⟩ = some v) : (method 181 45 (.pointer (some ⟨h, 0, none⟩)) "Swap").run Try.prog w = .ok (50, v) w := by
  show Sem.run Try.prog (method (180+1) _ _ _) w = _
  unfold method
  have hf := fnd_Swap
  have hr := fun s => recv_of s h v w hc
  go_simp
  unfold follow
  go_simp
theorem fnd_Pop : Array.find? (fun x => x.name == "Pop") Try.t45.methods = some ⟨"Pop", 60, #[], some (48, true)⟩ := by kernel_rfl
theorem met_Pop (h : Nat) (v : Value) (w : World) : (method 181 45 (.pointer (some ⟨h, 0, none⟩)) "Pop").run Try.prog w = .ok (48, .pointer (some ⟨h, 0, none⟩)) w := by
  show Sem.run Try.prog (method (180+1) _ _ _) w = _
  unfold method
  have hf := fnd_Pop
  have hr := fun s => recv_at h s w
  go_simp
  unfold follow
  go_simp
theorem fnd_Push : Array.find? (fun x => x.name == "Push") Try.t45.methods = some ⟨"Push", 61, #[], some (49, true)⟩ := by kernel_rfl
theorem met_Push (h : Nat) (v : Value) (w : World) : (method 181 45 (.pointer (some ⟨h, 0, none⟩)) "Push").run Try.prog w = .ok (49, .pointer (some ⟨h, 0, none⟩)) w := by
  show Sem.run Try.prog (method (180+1) _ _ _) w = _
  unfold method
  have hf := fnd_Push
  have hr := fun s => recv_at h s w
  go_simp
  unfold follow
  go_simp
def flat : List S32 → List Value
  | [] => []
  | x :: xs => .int .i64 x.f0 :: .int .i64 x.f1 :: flat xs
theorem flat_len : ∀ zs : List S32, (flat zs).length = 2 * zs.length
  | [] => rfl
  | _ :: xs => by rw [flat]; simp only [List.length_cons, flat_len xs]; omega
theorem flat_app : ∀ xs ys : List S32, flat (xs ++ ys) = flat xs ++ flat ys
  | [], _ => rfl
  | x :: xs, ys => by rw [List.cons_append, flat, flat, flat_app xs ys]; rfl
theorem flat_get : ∀ (zs : List S32) (i : Nat), i < zs.length → (flat zs)[i * 2]? = some (.int .i64 (zs.getD i z32).f0) ∧ (flat zs)[i * 2 + 1]? = some (.int .i64 (zs.getD i z32).f1)
  | x :: xs, 0, _ => ⟨rfl, rfl⟩
  | x :: xs, i + 1, h => by
    have ih := flat_get xs i (by simpa using h)
    rw [show (i + 1) * 2 = i * 2 + 2 by omega, show i * 2 + 2 + 1 = (i * 2 + 1) + 2 by omega]
    exact ih
theorem flat_patch : ∀ (zs : List S32) (i : Nat) (x : S32), i < zs.length → Fr.patch (flat zs) (i * 2) [.int .i64 x.f0, .int .i64 x.f1] = flat (zs.set i x)
  | z :: zs, 0, x, _ => rfl
  | z :: zs, i + 1, x, h => by
    have ih := flat_patch zs i x (by simpa using h)
    unfold Fr.patch at ih ⊢
    rw [show (i + 1) * 2 = i * 2 + 2 by omega, flat, List.set_cons_succ, flat, ← ih]
    simp [show i * 2 + 2 + 2 = (i * 2 + 2) + 2 by omega]
def lessB (x y : S32) : Bool := decide (x.f0 < y.f0) || (decide (x.f0 = y.f0) && decide (x.f1 < y.f1))
def swp (zs : List S32) (i k : Nat) : List S32 := (zs.set i (zs.getD k z32)).set k (zs.getD i z32)
theorem swp_len (zs : List S32) (i k : Nat) : (swp zs i k).length = zs.length := by simp [swp]
theorem K_flat (w : World) : ∀ zs : List S32, Reps (k32.K w) k32.sz zs (flat zs)
  | [] => Reps.none _ _
  | x :: xs => Reps.c2 (k32_mk w x) (K_flat w xs)
theorem C_blk {α : Type} {d : Kd α} {w : World} {g t : Nat} {cs : List Value} {xs : List α} (hb : w.heap[g]? = some (.cells cs.toArray t (0, 0))) (hr : Reps (d.K w) d.sz xs cs) (hl : xs.length ≤ 9223372036854775807) : Kd.C d w (some ⟨g, 0, none⟩) xs.length xs := by
  refine ⟨rfl, hl, fun _ => ⟨_, rfl, fun j p hj => ⟨_, d.K_len (hr.2 j p hj), hr.2 j p hj, fun i u hu => ?_⟩⟩⟩
  have h1 := blk_cell hb (j * d.sz + i)
  rw [show (⟨g, 0, none⟩ : Addr).add (j * d.sz + i) = ⟨g, j * d.sz + i, none⟩ by unfold Addr.add; split <;> simp_all, h1]
  have hi : i < d.sz := by have := (List.getElem?_eq_some_iff.1 hu).1; simp at this; omega
  simpa [List.getElem?_take, hi] using hu
theorem flat_C {w0 W : World} {bs : List Fr.Blk} {rs : List Fr.Row} {g : Nat} {xs : List S32} {tl : List Value} {t : TypeId} {f : List Value → List Fr.Blk} (hF : Fr.Frame w0 W bs rs) (hs : Fr.Spot g t bs (flat (xs) ++ tl) f) (hm : xs.length ≤ 9223372036854775807) : Kd.C k32 W (some ⟨g, 0, none⟩) xs.length xs := by
  have hr := K_flat W xs
  have hb := (hF.blk _ hs.mem).2
  refine ⟨rfl, hm, fun _ => ⟨_, rfl, fun j p hj => ⟨_, k32.K_len (hr.2 j p hj), hr.2 j p hj, fun i u hu => ?_⟩⟩⟩
  have h1 := blk_cell hb (j * k32.sz + i)
  rw [show (⟨g, 0, none⟩ : Addr).add (j * k32.sz + i) = ⟨g, j * k32.sz + i, none⟩ by unfold Addr.add; split <;> simp_all, h1]
  have hi : i < k32.sz := by have := (List.getElem?_eq_some_iff.1 hu).1; simp at this; omega
  have hu2 : (flat xs)[j * k32.sz + i]? = some u := by simpa [List.getElem?_take, hi] using hu
  have hlt := (List.getElem?_eq_some_iff.1 hu2).1
  simpa [List.getElem?_append_left hlt] using hu2
theorem flat_cell {w0 W : World} {bs : List Fr.Blk} {rs : List Fr.Row} {g : Nat} {zs : List S32} {tl : List Value} {t : TypeId} {f : List Value → List Fr.Blk} (hF : Fr.Frame w0 W bs rs) (hs : Fr.Spot g t bs (flat zs ++ tl) f) (i : Nat) (hi : i < zs.length) : W.cell? ⟨g, i * 2, none⟩ = some (.int .i64 (zs.getD i z32).f0) ∧ W.cell? ⟨g, i * 2 + 1, none⟩ = some (.int .i64 (zs.getD i z32).f1) := by
  have hb := (hF.blk _ hs.mem).2
  have h := flat_get zs i hi
  have hl := flat_len zs
  exact ⟨(blk_cell hb _).trans (by simpa [List.getElem?_append_left (show i * 2 < (flat zs).length by omega)] using h.1), (blk_cell hb _).trans (by simpa [List.getElem?_append_left (show i * 2 + 1 < (flat zs).length by omega)] using h.2)⟩
theorem flat_patch2 (zs : List S32) (tl : List Value) (i : Nat) (x : S32) (h : i < zs.length) : Fr.patch (flat zs ++ tl) (i * 2) [.int .i64 x.f0, .int .i64 x.f1] = flat (zs.set i x) ++ tl := by
  have hl := flat_len zs
  rw [← flat_patch zs i x h]
  unfold Fr.patch
  rw [List.take_append_of_le_length (by omega), List.drop_append_of_le_length (by simp; omega)]
  simp
theorem len46_calls (A : Option Addr) (n c : Nat) (w : World) : Calls Try.prog 46 #[.slice A n c] w fun e w' => e = .returned (.int .i64 n) ∧ w = w' := by
  go_enter Try.func46, Try.ntmps46
  go_wp2
  go_ret
  exact ⟨rfl, rfl⟩
theorem rd_getD (xs : List S32) (i : Nat) : rd_T32 xs (i : Int) = xs.getD i z32 := by simp [rd_T32]
set_option maxHeartbeats 2000000 in
set_option maxRecDepth 100000 in
theorem less47_calls (A : Option Addr) (c : Nat) (xs : List S32) (i k : Nat) (w : World) (hr : Kd.C k32 w A xs.length xs) (hi : i < xs.length) (hk : k < xs.length) : Calls Try.prog 47 #[.slice A xs.length c, .int .i64 i, .int .i64 k] w fun e w' => e = .returned (.bool (lessB (xs.getD i z32) (xs.getD k z32))) ∧ Below w.heap.size w w' := by
  have hii : (i : Int) < (xs.length : Int) := by omega
  have hki : (k : Int) < (xs.length : Int) := by omega
  obtain ⟨ad, e1, a0, a1⟩ := at_T32 hr (i : Int) (by omega) hii
  cases e1
  obtain ⟨ad2, e2, b0, b1⟩ := at_T32 hr (k : Int) (by omega) hki
  cases e2
  rw [Int.toNat_natCast, rd_getD] at a0 a1 b0 b1
  clear hr hi hk
  generalize xs.getD i z32 = x at *
  generalize xs.getD k z32 = y at *
  unfold lessB
  obtain ⟨x0, x1⟩ := x
  obtain ⟨y0, y1⟩ := y
  dsimp only at *
  have A0 := Aside0.mk a0
  have A1 := Aside0.mk a1
  have B0 := Aside0.mk b0
  have B1 := Aside0.mk b1
  have hF := Aside0.mk (Fr.Frame.start w)
  have HC : True := trivial
  have A0 := Aside0.mk a0
  have A1 := Aside0.mk a1
  have B0 := Aside0.mk b0
  have B1 := Aside0.mk b1
  have hF := Aside0.mk (Fr.Frame.start w)
  have HC : True := trivial
  by_cases h1 : x0 < y0
  · rw [decide_eq_true h1]
    have HT := Aside0.mk (decide_eq_true h1)
    clear h1
    go_enter Try.func47, Try.ntmps47
    go_wp2_with (first | ((with_reducible refine gate_store rfl ?_); apply Fr.fr_store hF.out rfl rfl rfl; (case hp => rfl); (case hx => first | (go_simp; rfl) | rfl); (case hu => (simp only [Value.cells]; rfl)); (case hs => (repeat (first | exact Fr.Spot.here _ _ | apply Fr.Spot.there))); (case ht => kernel_rfl); (case h1 => simp [Value.oneCell']); (case hfit => simp); intro W hF1; simp only [Fr.patch, List.take_zero, List.nil_append, List.drop, List.append_nil, List.take, List.cons_append, List.length_cons, List.length_nil, Nat.reduceAdd] at hF1; have HC1 := hF1.cells; simp only [Fr.Cells, List.length_cons, List.length_nil, Nat.reduceAdd, and_true] at HC1; clear hF HC; have HC := HC1; have hF := Aside0.mk hF1; clear hF1 HC1) | ((first | (with_reducible refine Fr.gate_alloc rfl ?_) | (with_reducible refine Fr.gate_box rfl ?_)); apply Fr.fr_box hF.out rfl; (case hrun => first | (go_simp; done) | (go_simp; rfl)); intro g W hF1; have HC1 := hF1.cells; simp only [Fr.Cells, List.length_cons, List.length_nil, Nat.reduceAdd, and_true] at HC1; clear hF HC; have HC := HC1; have hF := Aside0.mk hF1; clear hF1 HC1))
    refine Fr.fr_region (by kernel_rfl) (by kernel_rfl) hF.out ?_
    iterate 10 ((apply Fr.fr_q_val; (case hw => kernel_rfl); (case hv => intro W hF1; have q0 := (hF1.below.cell (World.block_lt_of_cell? _ _ A0.out)).trans A0.out; have q1 := (hF1.below.cell (World.block_lt_of_cell? _ _ A1.out)).trans A1.out; have q2 := (hF1.below.cell (World.block_lt_of_cell? _ _ B0.out)).trans B0.out; have q3 := (hF1.below.cell (World.block_lt_of_cell? _ _ B1.out)).trans B1.out; clear hF1; first | (go_simp; done) | (go_simp; rfl)); simp only [Act.put, List.setIfInBounds_toArray, List.set_cons_zero, List.set_cons_succ]))
    iterate 1 ((apply Fr.fr_q_val (v := .bool true); (case hw => first | rfl | (go_simp; done)); (case hv => intro W hF1; have HC1 := hF1.cells; simp only [Fr.Cells, List.length_cons, List.length_nil, Nat.reduceAdd, and_true] at HC1; clear hF1; have hd9 := HT.out; first | (go_simp; done) | (go_simp; rw [if_neg (of_decide_eq_false hd9)]) | (go_simp; rw [if_pos (of_decide_eq_true hd9)])); simp only [Act.put, List.setIfInBounds_toArray, List.set_cons_zero, List.set_cons_succ]))
    iterate 1 ((apply Fr.fr_q_val; (case hw => kernel_rfl); (case hv => intro W hF1; have q0 := (hF1.below.cell (World.block_lt_of_cell? _ _ A0.out)).trans A0.out; have q1 := (hF1.below.cell (World.block_lt_of_cell? _ _ A1.out)).trans A1.out; have q2 := (hF1.below.cell (World.block_lt_of_cell? _ _ B0.out)).trans B0.out; have q3 := (hF1.below.cell (World.block_lt_of_cell? _ _ B1.out)).trans B1.out; clear hF1; first | (go_simp; done) | (go_simp; rfl)); simp only [Act.put, List.setIfInBounds_toArray, List.set_cons_zero, List.set_cons_succ]))
    iterate 12 (((with_reducible refine Fr.fr_q_skip ?hw ?_); (case hw => kernel_rfl); simp only [Act.put, List.setIfInBounds_toArray, List.set_cons_zero, List.set_cons_succ]))
    iterate 11 (((with_reducible refine Fr.fr_q_skip ?hw ?_); (case hw => kernel_rfl); simp only [Act.put, List.setIfInBounds_toArray, List.set_cons_zero, List.set_cons_succ]))
    iterate 1 (((with_reducible refine Fr.fr_q_skip ?hw ?_); (case hw => kernel_rfl); simp only [Act.put, List.setIfInBounds_toArray, List.set_cons_zero, List.set_cons_succ]))
    iterate 2 ((apply Fr.fr_q_val; (case hw => kernel_rfl); (case hv => intro W hF1; have q0 := (hF1.below.cell (World.block_lt_of_cell? _ _ A0.out)).trans A0.out; have q1 := (hF1.below.cell (World.block_lt_of_cell? _ _ A1.out)).trans A1.out; have q2 := (hF1.below.cell (World.block_lt_of_cell? _ _ B0.out)).trans B0.out; have q3 := (hF1.below.cell (World.block_lt_of_cell? _ _ B1.out)).trans B1.out; clear hF1; first | (go_simp; done) | (go_simp; rfl)); simp only [Act.put, List.setIfInBounds_toArray, List.set_cons_zero, List.set_cons_succ]))
    refine wpQuiet_nil ?_; intro W hF1; have HC1 := hF1.cells; simp only [Fr.Cells, List.length_cons, List.length_nil, Nat.reduceAdd, and_true] at HC1; clear hF HC; have HC := HC1; have hF := Aside0.mk hF1; clear hF1 HC1
    go_wp2_with (first | ((with_reducible refine gate_store rfl ?_); apply Fr.fr_store hF.out rfl rfl rfl; (case hp => rfl); (case hx => first | (go_simp; rfl) | rfl); (case hu => (simp only [Value.cells]; rfl)); (case hs => (repeat (first | exact Fr.Spot.here _ _ | apply Fr.Spot.there))); (case ht => kernel_rfl); (case h1 => simp [Value.oneCell']); (case hfit => simp); intro W hF1; simp only [Fr.patch, List.take_zero, List.nil_append, List.drop, List.append_nil, List.take, List.cons_append, List.length_cons, List.length_nil, Nat.reduceAdd] at hF1; have HC1 := hF1.cells; simp only [Fr.Cells, List.length_cons, List.length_nil, Nat.reduceAdd, and_true] at HC1; clear hF HC; have HC := HC1; have hF := Aside0.mk hF1; clear hF1 HC1) | ((first | (with_reducible refine Fr.gate_alloc rfl ?_) | (with_reducible refine Fr.gate_box rfl ?_)); apply Fr.fr_box hF.out rfl; (case hrun => first | (go_simp; done) | (go_simp; rfl)); intro g W hF1; have HC1 := hF1.cells; simp only [Fr.Cells, List.length_cons, List.length_nil, Nat.reduceAdd, and_true] at HC1; clear hF HC; have HC := HC1; have hF := Aside0.mk hF1; clear hF1 HC1))
    go_ret
    exact ⟨by first | rfl | simp, hF.out.below⟩
  · by_cases h2 : x0 = y0
    · have HT := Aside0.mk (decide_eq_false h1)
      have HE := Aside0.mk (decide_eq_true h2)
      rw [decide_eq_false h1, decide_eq_true h2]
      clear h1
      subst h2
      by_cases h3 : x1 < y1
      · rw [decide_eq_true h3]
        have HU := Aside0.mk (decide_eq_true h3)
        clear h3
        go_enter Try.func47, Try.ntmps47
        go_wp2_with (first | ((with_reducible refine gate_store rfl ?_); apply Fr.fr_store hF.out rfl rfl rfl; (case hp => rfl); (case hx => first | (go_simp; rfl) | rfl); (case hu => (simp only [Value.cells]; rfl)); (case hs => (repeat (first | exact Fr.Spot.here _ _ | apply Fr.Spot.there))); (case ht => kernel_rfl); (case h1 => simp [Value.oneCell']); (case hfit => simp); intro W hF1; simp only [Fr.patch, List.take_zero, List.nil_append, List.drop, List.append_nil, List.take, List.cons_append, List.length_cons, List.length_nil, Nat.reduceAdd] at hF1; have HC1 := hF1.cells; simp only [Fr.Cells, List.length_cons, List.length_nil, Nat.reduceAdd, and_true] at HC1; clear hF HC; have HC := HC1; have hF := Aside0.mk hF1; clear hF1 HC1) | ((first | (with_reducible refine Fr.gate_alloc rfl ?_) | (with_reducible refine Fr.gate_box rfl ?_)); apply Fr.fr_box hF.out rfl; (case hrun => first | (go_simp; done) | (go_simp; rfl)); intro g W hF1; have HC1 := hF1.cells; simp only [Fr.Cells, List.length_cons, List.length_nil, Nat.reduceAdd, and_true] at HC1; clear hF HC; have HC := HC1; have hF := Aside0.mk hF1; clear hF1 HC1))
        refine Fr.fr_region (by kernel_rfl) (by kernel_rfl) hF.out ?_
        iterate 10 ((apply Fr.fr_q_val; (case hw => kernel_rfl); (case hv => intro W hF1; have q0 := (hF1.below.cell (World.block_lt_of_cell? _ _ A0.out)).trans A0.out; have q1 := (hF1.below.cell (World.block_lt_of_cell? _ _ A1.out)).trans A1.out; have q2 := (hF1.below.cell (World.block_lt_of_cell? _ _ B0.out)).trans B0.out; have q3 := (hF1.below.cell (World.block_lt_of_cell? _ _ B1.out)).trans B1.out; clear hF1; first | (go_simp; done) | (go_simp; rfl)); simp only [Act.put, List.setIfInBounds_toArray, List.set_cons_zero, List.set_cons_succ]))
        iterate 1 ((apply Fr.fr_q_val (v := .bool false); (case hw => first | rfl | (go_simp; done)); (case hv => intro W hF1; have HC1 := hF1.cells; simp only [Fr.Cells, List.length_cons, List.length_nil, Nat.reduceAdd, and_true] at HC1; clear hF1; have hd9 := HT.out; first | (go_simp; done) | (go_simp; rw [if_neg (of_decide_eq_false hd9)]) | (go_simp; rw [if_pos (of_decide_eq_true hd9)])); simp only [Act.put, List.setIfInBounds_toArray, List.set_cons_zero, List.set_cons_succ]))
        iterate 1 ((apply Fr.fr_q_val; (case hw => kernel_rfl); (case hv => intro W hF1; have q0 := (hF1.below.cell (World.block_lt_of_cell? _ _ A0.out)).trans A0.out; have q1 := (hF1.below.cell (World.block_lt_of_cell? _ _ A1.out)).trans A1.out; have q2 := (hF1.below.cell (World.block_lt_of_cell? _ _ B0.out)).trans B0.out; have q3 := (hF1.below.cell (World.block_lt_of_cell? _ _ B1.out)).trans B1.out; clear hF1; first | (go_simp; done) | (go_simp; rfl)); simp only [Act.put, List.setIfInBounds_toArray, List.set_cons_zero, List.set_cons_succ]))
        iterate 10 ((apply Fr.fr_q_val; (case hw => kernel_rfl); (case hv => intro W hF1; have q0 := (hF1.below.cell (World.block_lt_of_cell? _ _ A0.out)).trans A0.out; have q1 := (hF1.below.cell (World.block_lt_of_cell? _ _ A1.out)).trans A1.out; have q2 := (hF1.below.cell (World.block_lt_of_cell? _ _ B0.out)).trans B0.out; have q3 := (hF1.below.cell (World.block_lt_of_cell? _ _ B1.out)).trans B1.out; clear hF1; first | (go_simp; done) | (go_simp; rfl)); simp only [Act.put, List.setIfInBounds_toArray, List.set_cons_zero, List.set_cons_succ]))
        iterate 1 ((apply Fr.fr_q_val; (case hw => kernel_rfl); (case hv => intro W hF1; have q0 := (hF1.below.cell (World.block_lt_of_cell? _ _ A0.out)).trans A0.out; have q1 := (hF1.below.cell (World.block_lt_of_cell? _ _ A1.out)).trans A1.out; have q2 := (hF1.below.cell (World.block_lt_of_cell? _ _ B0.out)).trans B0.out; have q3 := (hF1.below.cell (World.block_lt_of_cell? _ _ B1.out)).trans B1.out; clear hF1; first | (go_simp; done) | (go_simp; rfl)); simp only [Act.put, List.setIfInBounds_toArray, List.set_cons_zero, List.set_cons_succ]))
        iterate 1 ((apply Fr.fr_q_val; (case hw => kernel_rfl); (case hv => intro W hF1; have q0 := (hF1.below.cell (World.block_lt_of_cell? _ _ A0.out)).trans A0.out; have q1 := (hF1.below.cell (World.block_lt_of_cell? _ _ A1.out)).trans A1.out; have q2 := (hF1.below.cell (World.block_lt_of_cell? _ _ B0.out)).trans B0.out; have q3 := (hF1.below.cell (World.block_lt_of_cell? _ _ B1.out)).trans B1.out; clear hF1; first | (go_simp; done) | (go_simp; rfl)); simp only [Act.put, List.setIfInBounds_toArray, List.set_cons_zero, List.set_cons_succ]))
        iterate 10 ((apply Fr.fr_q_val; (case hw => kernel_rfl); (case hv => intro W hF1; have q0 := (hF1.below.cell (World.block_lt_of_cell? _ _ A0.out)).trans A0.out; have q1 := (hF1.below.cell (World.block_lt_of_cell? _ _ A1.out)).trans A1.out; have q2 := (hF1.below.cell (World.block_lt_of_cell? _ _ B0.out)).trans B0.out; have q3 := (hF1.below.cell (World.block_lt_of_cell? _ _ B1.out)).trans B1.out; clear hF1; first | (go_simp; done) | (go_simp; rfl)); simp only [Act.put, List.setIfInBounds_toArray, List.set_cons_zero, List.set_cons_succ]))
        iterate 1 ((apply Fr.fr_q_val (v := .bool true); (case hw => first | rfl | (go_simp; done)); (case hv => intro W hF1; have HC1 := hF1.cells; simp only [Fr.Cells, List.length_cons, List.length_nil, Nat.reduceAdd, and_true] at HC1; clear hF1; have hd9 := HU.out; first | (go_simp; done) | (go_simp; rw [if_neg (of_decide_eq_false hd9)]) | (go_simp; rw [if_pos (of_decide_eq_true hd9)])); simp only [Act.put, List.setIfInBounds_toArray, List.set_cons_zero, List.set_cons_succ]))
        iterate 1 ((apply Fr.fr_q_val; (case hw => kernel_rfl); (case hv => intro W hF1; have q0 := (hF1.below.cell (World.block_lt_of_cell? _ _ A0.out)).trans A0.out; have q1 := (hF1.below.cell (World.block_lt_of_cell? _ _ A1.out)).trans A1.out; have q2 := (hF1.below.cell (World.block_lt_of_cell? _ _ B0.out)).trans B0.out; have q3 := (hF1.below.cell (World.block_lt_of_cell? _ _ B1.out)).trans B1.out; clear hF1; first | (go_simp; done) | (go_simp; rfl)); simp only [Act.put, List.setIfInBounds_toArray, List.set_cons_zero, List.set_cons_succ]))
        iterate 2 ((apply Fr.fr_q_val; (case hw => kernel_rfl); (case hv => intro W hF1; have q0 := (hF1.below.cell (World.block_lt_of_cell? _ _ A0.out)).trans A0.out; have q1 := (hF1.below.cell (World.block_lt_of_cell? _ _ A1.out)).trans A1.out; have q2 := (hF1.below.cell (World.block_lt_of_cell? _ _ B0.out)).trans B0.out; have q3 := (hF1.below.cell (World.block_lt_of_cell? _ _ B1.out)).trans B1.out; clear hF1; first | (go_simp; done) | (go_simp; rfl)); simp only [Act.put, List.setIfInBounds_toArray, List.set_cons_zero, List.set_cons_succ]))
        refine wpQuiet_nil ?_; intro W hF1; have HC1 := hF1.cells; simp only [Fr.Cells, List.length_cons, List.length_nil, Nat.reduceAdd, and_true] at HC1; clear hF HC; have HC := HC1; have hF := Aside0.mk hF1; clear hF1 HC1
        go_wp2_with (first | ((with_reducible refine gate_store rfl ?_); apply Fr.fr_store hF.out rfl rfl rfl; (case hp => rfl); (case hx => first | (go_simp; rfl) | rfl); (case hu => (simp only [Value.cells]; rfl)); (case hs => (repeat (first | exact Fr.Spot.here _ _ | apply Fr.Spot.there))); (case ht => kernel_rfl); (case h1 => simp [Value.oneCell']); (case hfit => simp); intro W hF1; simp only [Fr.patch, List.take_zero, List.nil_append, List.drop, List.append_nil, List.take, List.cons_append, List.length_cons, List.length_nil, Nat.reduceAdd] at hF1; have HC1 := hF1.cells; simp only [Fr.Cells, List.length_cons, List.length_nil, Nat.reduceAdd, and_true] at HC1; clear hF HC; have HC := HC1; have hF := Aside0.mk hF1; clear hF1 HC1) | ((first | (with_reducible refine Fr.gate_alloc rfl ?_) | (with_reducible refine Fr.gate_box rfl ?_)); apply Fr.fr_box hF.out rfl; (case hrun => first | (go_simp; done) | (go_simp; rfl)); intro g W hF1; have HC1 := hF1.cells; simp only [Fr.Cells, List.length_cons, List.length_nil, Nat.reduceAdd, and_true] at HC1; clear hF HC; have HC := HC1; have hF := Aside0.mk hF1; clear hF1 HC1))
        go_ret
        exact ⟨by first | rfl | simp, hF.out.below⟩
      · rw [decide_eq_false h3]
        have HU := Aside0.mk (decide_eq_false h3)
        clear h3
        go_enter Try.func47, Try.ntmps47
        go_wp2_with (first | ((with_reducible refine gate_store rfl ?_); apply Fr.fr_store hF.out rfl rfl rfl; (case hp => rfl); (case hx => first | (go_simp; rfl) | rfl); (case hu => (simp only [Value.cells]; rfl)); (case hs => (repeat (first | exact Fr.Spot.here _ _ | apply Fr.Spot.there))); (case ht => kernel_rfl); (case h1 => simp [Value.oneCell']); (case hfit => simp); intro W hF1; simp only [Fr.patch, List.take_zero, List.nil_append, List.drop, List.append_nil, List.take, List.cons_append, List.length_cons, List.length_nil, Nat.reduceAdd] at hF1; have HC1 := hF1.cells; simp only [Fr.Cells, List.length_cons, List.length_nil, Nat.reduceAdd, and_true] at HC1; clear hF HC; have HC := HC1; have hF := Aside0.mk hF1; clear hF1 HC1) | ((first | (with_reducible refine Fr.gate_alloc rfl ?_) | (with_reducible refine Fr.gate_box rfl ?_)); apply Fr.fr_box hF.out rfl; (case hrun => first | (go_simp; done) | (go_simp; rfl)); intro g W hF1; have HC1 := hF1.cells; simp only [Fr.Cells, List.length_cons, List.length_nil, Nat.reduceAdd, and_true] at HC1; clear hF HC; have HC := HC1; have hF := Aside0.mk hF1; clear hF1 HC1))
        refine Fr.fr_region (by kernel_rfl) (by kernel_rfl) hF.out ?_
        iterate 10 ((apply Fr.fr_q_val; (case hw => kernel_rfl); (case hv => intro W hF1; have q0 := (hF1.below.cell (World.block_lt_of_cell? _ _ A0.out)).trans A0.out; have q1 := (hF1.below.cell (World.block_lt_of_cell? _ _ A1.out)).trans A1.out; have q2 := (hF1.below.cell (World.block_lt_of_cell? _ _ B0.out)).trans B0.out; have q3 := (hF1.below.cell (World.block_lt_of_cell? _ _ B1.out)).trans B1.out; clear hF1; first | (go_simp; done) | (go_simp; rfl)); simp only [Act.put, List.setIfInBounds_toArray, List.set_cons_zero, List.set_cons_succ]))
        iterate 1 ((apply Fr.fr_q_val (v := .bool false); (case hw => first | rfl | (go_simp; done)); (case hv => intro W hF1; have HC1 := hF1.cells; simp only [Fr.Cells, List.length_cons, List.length_nil, Nat.reduceAdd, and_true] at HC1; clear hF1; have hd9 := HT.out; first | (go_simp; done) | (go_simp; rw [if_neg (of_decide_eq_false hd9)]) | (go_simp; rw [if_pos (of_decide_eq_true hd9)])); simp only [Act.put, List.setIfInBounds_toArray, List.set_cons_zero, List.set_cons_succ]))
        iterate 1 ((apply Fr.fr_q_val; (case hw => kernel_rfl); (case hv => intro W hF1; have q0 := (hF1.below.cell (World.block_lt_of_cell? _ _ A0.out)).trans A0.out; have q1 := (hF1.below.cell (World.block_lt_of_cell? _ _ A1.out)).trans A1.out; have q2 := (hF1.below.cell (World.block_lt_of_cell? _ _ B0.out)).trans B0.out; have q3 := (hF1.below.cell (World.block_lt_of_cell? _ _ B1.out)).trans B1.out; clear hF1; first | (go_simp; done) | (go_simp; rfl)); simp only [Act.put, List.setIfInBounds_toArray, List.set_cons_zero, List.set_cons_succ]))
        iterate 10 ((apply Fr.fr_q_val; (case hw => kernel_rfl); (case hv => intro W hF1; have q0 := (hF1.below.cell (World.block_lt_of_cell? _ _ A0.out)).trans A0.out; have q1 := (hF1.below.cell (World.block_lt_of_cell? _ _ A1.out)).trans A1.out; have q2 := (hF1.below.cell (World.block_lt_of_cell? _ _ B0.out)).trans B0.out; have q3 := (hF1.below.cell (World.block_lt_of_cell? _ _ B1.out)).trans B1.out; clear hF1; first | (go_simp; done) | (go_simp; rfl)); simp only [Act.put, List.setIfInBounds_toArray, List.set_cons_zero, List.set_cons_succ]))
        iterate 1 ((apply Fr.fr_q_val; (case hw => kernel_rfl); (case hv => intro W hF1; have q0 := (hF1.below.cell (World.block_lt_of_cell? _ _ A0.out)).trans A0.out; have q1 := (hF1.below.cell (World.block_lt_of_cell? _ _ A1.out)).trans A1.out; have q2 := (hF1.below.cell (World.block_lt_of_cell? _ _ B0.out)).trans B0.out; have q3 := (hF1.below.cell (World.block_lt_of_cell? _ _ B1.out)).trans B1.out; clear hF1; first | (go_simp; done) | (go_simp; rfl)); simp only [Act.put, List.setIfInBounds_toArray, List.set_cons_zero, List.set_cons_succ]))
        iterate 1 ((apply Fr.fr_q_val; (case hw => kernel_rfl); (case hv => intro W hF1; have q0 := (hF1.below.cell (World.block_lt_of_cell? _ _ A0.out)).trans A0.out; have q1 := (hF1.below.cell (World.block_lt_of_cell? _ _ A1.out)).trans A1.out; have q2 := (hF1.below.cell (World.block_lt_of_cell? _ _ B0.out)).trans B0.out; have q3 := (hF1.below.cell (World.block_lt_of_cell? _ _ B1.out)).trans B1.out; clear hF1; first | (go_simp; done) | (go_simp; rfl)); simp only [Act.put, List.setIfInBounds_toArray, List.set_cons_zero, List.set_cons_succ]))
        iterate 10 ((apply Fr.fr_q_val; (case hw => kernel_rfl); (case hv => intro W hF1; have q0 := (hF1.below.cell (World.block_lt_of_cell? _ _ A0.out)).trans A0.out; have q1 := (hF1.below.cell (World.block_lt_of_cell? _ _ A1.out)).trans A1.out; have q2 := (hF1.below.cell (World.block_lt_of_cell? _ _ B0.out)).trans B0.out; have q3 := (hF1.below.cell (World.block_lt_of_cell? _ _ B1.out)).trans B1.out; clear hF1; first | (go_simp; done) | (go_simp; rfl)); simp only [Act.put, List.setIfInBounds_toArray, List.set_cons_zero, List.set_cons_succ]))
        iterate 1 ((apply Fr.fr_q_val (v := .bool false); (case hw => first | rfl | (go_simp; done)); (case hv => intro W hF1; have HC1 := hF1.cells; simp only [Fr.Cells, List.length_cons, List.length_nil, Nat.reduceAdd, and_true] at HC1; clear hF1; have hd9 := HU.out; first | (go_simp; done) | (go_simp; rw [if_neg (of_decide_eq_false hd9)]) | (go_simp; rw [if_pos (of_decide_eq_true hd9)])); simp only [Act.put, List.setIfInBounds_toArray, List.set_cons_zero, List.set_cons_succ]))
        iterate 1 ((apply Fr.fr_q_val; (case hw => kernel_rfl); (case hv => intro W hF1; have q0 := (hF1.below.cell (World.block_lt_of_cell? _ _ A0.out)).trans A0.out; have q1 := (hF1.below.cell (World.block_lt_of_cell? _ _ A1.out)).trans A1.out; have q2 := (hF1.below.cell (World.block_lt_of_cell? _ _ B0.out)).trans B0.out; have q3 := (hF1.below.cell (World.block_lt_of_cell? _ _ B1.out)).trans B1.out; clear hF1; first | (go_simp; done) | (go_simp; rfl)); simp only [Act.put, List.setIfInBounds_toArray, List.set_cons_zero, List.set_cons_succ]))
        iterate 2 ((apply Fr.fr_q_val; (case hw => kernel_rfl); (case hv => intro W hF1; have q0 := (hF1.below.cell (World.block_lt_of_cell? _ _ A0.out)).trans A0.out; have q1 := (hF1.below.cell (World.block_lt_of_cell? _ _ A1.out)).trans A1.out; have q2 := (hF1.below.cell (World.block_lt_of_cell? _ _ B0.out)).trans B0.out; have q3 := (hF1.below.cell (World.block_lt_of_cell? _ _ B1.out)).trans B1.out; clear hF1; first | (go_simp; done) | (go_simp; rfl)); simp only [Act.put, List.setIfInBounds_toArray, List.set_cons_zero, List.set_cons_succ]))
        refine wpQuiet_nil ?_; intro W hF1; have HC1 := hF1.cells; simp only [Fr.Cells, List.length_cons, List.length_nil, Nat.reduceAdd, and_true] at HC1; clear hF HC; have HC := HC1; have hF := Aside0.mk hF1; clear hF1 HC1
        go_wp2_with (first | ((with_reducible refine gate_store rfl ?_); apply Fr.fr_store hF.out rfl rfl rfl; (case hp => rfl); (case hx => first | (go_simp; rfl) | rfl); (case hu => (simp only [Value.cells]; rfl)); (case hs => (repeat (first | exact Fr.Spot.here _ _ | apply Fr.Spot.there))); (case ht => kernel_rfl); (case h1 => simp [Value.oneCell']); (case hfit => simp); intro W hF1; simp only [Fr.patch, List.take_zero, List.nil_append, List.drop, List.append_nil, List.take, List.cons_append, List.length_cons, List.length_nil, Nat.reduceAdd] at hF1; have HC1 := hF1.cells; simp only [Fr.Cells, List.length_cons, List.length_nil, Nat.reduceAdd, and_true] at HC1; clear hF HC; have HC := HC1; have hF := Aside0.mk hF1; clear hF1 HC1) | ((first | (with_reducible refine Fr.gate_alloc rfl ?_) | (with_reducible refine Fr.gate_box rfl ?_)); apply Fr.fr_box hF.out rfl; (case hrun => first | (go_simp; done) | (go_simp; rfl)); intro g W hF1; have HC1 := hF1.cells; simp only [Fr.Cells, List.length_cons, List.length_nil, Nat.reduceAdd, and_true] at HC1; clear hF HC; have HC := HC1; have hF := Aside0.mk hF1; clear hF1 HC1))
        go_ret
        exact ⟨by first | rfl | simp, hF.out.below⟩
    · have h2b : (x0 == y0) = false := beq_false_of_ne h2
      have HT := Aside0.mk (decide_eq_false h1)
      rw [decide_eq_false h1, decide_eq_false h2]
      clear h1 h2
      go_enter Try.func47, Try.ntmps47
      go_wp2_with (first | ((with_reducible refine gate_store rfl ?_); apply Fr.fr_store hF.out rfl rfl rfl; (case hp => rfl); (case hx => first | (go_simp; rfl) | rfl); (case hu => (simp only [Value.cells]; rfl)); (case hs => (repeat (first | exact Fr.Spot.here _ _ | apply Fr.Spot.there))); (case ht => kernel_rfl); (case h1 => simp [Value.oneCell']); (case hfit => simp); intro W hF1; simp only [Fr.patch, List.take_zero, List.nil_append, List.drop, List.append_nil, List.take, List.cons_append, List.length_cons, List.length_nil, Nat.reduceAdd] at hF1; have HC1 := hF1.cells; simp only [Fr.Cells, List.length_cons, List.length_nil, Nat.reduceAdd, and_true] at HC1; clear hF HC; have HC := HC1; have hF := Aside0.mk hF1; clear hF1 HC1) | ((first | (with_reducible refine Fr.gate_alloc rfl ?_) | (with_reducible refine Fr.gate_box rfl ?_)); apply Fr.fr_box hF.out rfl; (case hrun => first | (go_simp; done) | (go_simp; rfl)); intro g W hF1; have HC1 := hF1.cells; simp only [Fr.Cells, List.length_cons, List.length_nil, Nat.reduceAdd, and_true] at HC1; clear hF HC; have HC := HC1; have hF := Aside0.mk hF1; clear hF1 HC1))
      refine Fr.fr_region (by kernel_rfl) (by kernel_rfl) hF.out ?_
      iterate 10 ((apply Fr.fr_q_val; (case hw => kernel_rfl); (case hv => intro W hF1; have q0 := (hF1.below.cell (World.block_lt_of_cell? _ _ A0.out)).trans A0.out; have q1 := (hF1.below.cell (World.block_lt_of_cell? _ _ A1.out)).trans A1.out; have q2 := (hF1.below.cell (World.block_lt_of_cell? _ _ B0.out)).trans B0.out; have q3 := (hF1.below.cell (World.block_lt_of_cell? _ _ B1.out)).trans B1.out; clear hF1; first | (go_simp; done) | (go_simp; rfl)); simp only [Act.put, List.setIfInBounds_toArray, List.set_cons_zero, List.set_cons_succ]))
      iterate 1 ((apply Fr.fr_q_val (v := .bool false); (case hw => first | rfl | (go_simp; done)); (case hv => intro W hF1; have HC1 := hF1.cells; simp only [Fr.Cells, List.length_cons, List.length_nil, Nat.reduceAdd, and_true] at HC1; clear hF1; have hd9 := HT.out; first | (go_simp; done) | (go_simp; rw [if_neg (of_decide_eq_false hd9)]) | (go_simp; rw [if_pos (of_decide_eq_true hd9)])); simp only [Act.put, List.setIfInBounds_toArray, List.set_cons_zero, List.set_cons_succ]))
      iterate 1 ((apply Fr.fr_q_val; (case hw => kernel_rfl); (case hv => intro W hF1; have q0 := (hF1.below.cell (World.block_lt_of_cell? _ _ A0.out)).trans A0.out; have q1 := (hF1.below.cell (World.block_lt_of_cell? _ _ A1.out)).trans A1.out; have q2 := (hF1.below.cell (World.block_lt_of_cell? _ _ B0.out)).trans B0.out; have q3 := (hF1.below.cell (World.block_lt_of_cell? _ _ B1.out)).trans B1.out; clear hF1; first | (go_simp; done) | (go_simp; rfl)); simp only [Act.put, List.setIfInBounds_toArray, List.set_cons_zero, List.set_cons_succ]))
      iterate 10 ((apply Fr.fr_q_val; (case hw => kernel_rfl); (case hv => intro W hF1; have q0 := (hF1.below.cell (World.block_lt_of_cell? _ _ A0.out)).trans A0.out; have q1 := (hF1.below.cell (World.block_lt_of_cell? _ _ A1.out)).trans A1.out; have q2 := (hF1.below.cell (World.block_lt_of_cell? _ _ B0.out)).trans B0.out; have q3 := (hF1.below.cell (World.block_lt_of_cell? _ _ B1.out)).trans B1.out; clear hF1; first | (go_simp; done) | (go_simp; rfl)); simp only [Act.put, List.setIfInBounds_toArray, List.set_cons_zero, List.set_cons_succ]))
      iterate 1 ((apply Fr.fr_q_val; (case hw => kernel_rfl); (case hv => intro W hF1; have q0 := (hF1.below.cell (World.block_lt_of_cell? _ _ A0.out)).trans A0.out; have q1 := (hF1.below.cell (World.block_lt_of_cell? _ _ A1.out)).trans A1.out; have q2 := (hF1.below.cell (World.block_lt_of_cell? _ _ B0.out)).trans B0.out; have q3 := (hF1.below.cell (World.block_lt_of_cell? _ _ B1.out)).trans B1.out; clear hF1; first | (go_simp; done) | (go_simp; rfl)); simp only [Act.put, List.setIfInBounds_toArray, List.set_cons_zero, List.set_cons_succ]))
      iterate 1 ((apply Fr.fr_q_val; (case hw => kernel_rfl); (case hv => intro W hF1; have q0 := (hF1.below.cell (World.block_lt_of_cell? _ _ A0.out)).trans A0.out; have q1 := (hF1.below.cell (World.block_lt_of_cell? _ _ A1.out)).trans A1.out; have q2 := (hF1.below.cell (World.block_lt_of_cell? _ _ B0.out)).trans B0.out; have q3 := (hF1.below.cell (World.block_lt_of_cell? _ _ B1.out)).trans B1.out; clear hF1; first | (go_simp; done) | (go_simp; rfl)); simp only [Act.put, List.setIfInBounds_toArray, List.set_cons_zero, List.set_cons_succ]))
      iterate 11 (((with_reducible refine Fr.fr_q_skip ?hw ?_); (case hw => kernel_rfl); simp only [Act.put, List.setIfInBounds_toArray, List.set_cons_zero, List.set_cons_succ]))
      iterate 1 ((apply Fr.fr_q_val; (case hw => kernel_rfl); (case hv => intro W hF1; have q0 := (hF1.below.cell (World.block_lt_of_cell? _ _ A0.out)).trans A0.out; have q1 := (hF1.below.cell (World.block_lt_of_cell? _ _ A1.out)).trans A1.out; have q2 := (hF1.below.cell (World.block_lt_of_cell? _ _ B0.out)).trans B0.out; have q3 := (hF1.below.cell (World.block_lt_of_cell? _ _ B1.out)).trans B1.out; clear hF1; first | (go_simp; done) | (go_simp; rfl)); simp only [Act.put, List.setIfInBounds_toArray, List.set_cons_zero, List.set_cons_succ]))
      iterate 2 ((apply Fr.fr_q_val; (case hw => kernel_rfl); (case hv => intro W hF1; have q0 := (hF1.below.cell (World.block_lt_of_cell? _ _ A0.out)).trans A0.out; have q1 := (hF1.below.cell (World.block_lt_of_cell? _ _ A1.out)).trans A1.out; have q2 := (hF1.below.cell (World.block_lt_of_cell? _ _ B0.out)).trans B0.out; have q3 := (hF1.below.cell (World.block_lt_of_cell? _ _ B1.out)).trans B1.out; clear hF1; first | (go_simp; done) | (go_simp; rfl)); simp only [Act.put, List.setIfInBounds_toArray, List.set_cons_zero, List.set_cons_succ]))
      refine wpQuiet_nil ?_; intro W hF1; have HC1 := hF1.cells; simp only [Fr.Cells, List.length_cons, List.length_nil, Nat.reduceAdd, and_true] at HC1; clear hF HC; have HC := HC1; have hF := Aside0.mk hF1; clear hF1 HC1
      go_wp2_with (first | ((with_reducible refine gate_store rfl ?_); apply Fr.fr_store hF.out rfl rfl rfl; (case hp => rfl); (case hx => first | (go_simp; rfl) | rfl); (case hu => (simp only [Value.cells]; rfl)); (case hs => (repeat (first | exact Fr.Spot.here _ _ | apply Fr.Spot.there))); (case ht => kernel_rfl); (case h1 => simp [Value.oneCell']); (case hfit => simp); intro W hF1; simp only [Fr.patch, List.take_zero, List.nil_append, List.drop, List.append_nil, List.take, List.cons_append, List.length_cons, List.length_nil, Nat.reduceAdd] at hF1; have HC1 := hF1.cells; simp only [Fr.Cells, List.length_cons, List.length_nil, Nat.reduceAdd, and_true] at HC1; clear hF HC; have HC := HC1; have hF := Aside0.mk hF1; clear hF1 HC1) | ((first | (with_reducible refine Fr.gate_alloc rfl ?_) | (with_reducible refine Fr.gate_box rfl ?_)); apply Fr.fr_box hF.out rfl; (case hrun => first | (go_simp; done) | (go_simp; rfl)); intro g W hF1; have HC1 := hF1.cells; simp only [Fr.Cells, List.length_cons, List.length_nil, Nat.reduceAdd, and_true] at HC1; clear hF HC; have HC := HC1; have hF := Aside0.mk hF1; clear hF1 HC1))
      go_ret
      exact ⟨by first | rfl | simp, hF.out.below⟩
theorem again {g : Nat} {t : TypeId} {bs : List Fr.Blk} {cs : List Value} {f : List Value → List Fr.Blk} (h : Fr.Spot g t bs cs f) (c : List Value) : Fr.Spot g t (f c) c f := by
  induction h with
  | here cs bs => exact .here c bs
  | there b _ ih => exact .there b ih
theorem swp_same {w0 W : World} {bs : List Fr.Blk} {rs : List Fr.Row} {g : Nat} {xs : List S32} {tl : List Value} {f : List Value → List Fr.Blk} {i k : Nat} (hF : Fr.Frame w0 W bs rs) (hs : Fr.Spot g 32 bs (flat (xs) ++ tl) f) (hi : i < xs.length) (hk : k < xs.length) :
    Fr.Frame w0 ((((W.setCell ⟨g, i * 2, none⟩ (.int .i64 (xs.getD k z32).f0)).setCell ⟨g, i * 2 + 1, none⟩ (.int .i64 (xs.getD k z32).f1)).setCell ⟨g, k * 2, none⟩ (.int .i64 (xs.getD i z32).f0)).setCell ⟨g, k * 2 + 1, none⟩ (.int .i64 (xs.getD i z32).f1)) (f (flat (swp xs i k) ++ tl)) rs := by
  have h1 := hF.put hs (i * 2) [.int .i64 (xs.getD k z32).f0, .int .i64 (xs.getD k z32).f1] (by rw [List.length_append, flat_len]; simp; omega)
  rw [flat_patch2 _ _ _ _ hi] at h1
  have h2 := h1.put (again hs _) (k * 2) [.int .i64 (xs.getD i z32).f0, .int .i64 (xs.getD i z32).f1] (by rw [List.length_append, flat_len]; simp; omega)
  rw [flat_patch2 _ _ _ _ (by simpa using hk)] at h2
  exact h2
set_option maxHeartbeats 2000000 in
set_option maxRecDepth 100000 in
theorem swap50_calls (c : Nat) (xs : List S32) (tl : List Value) (g i k : Nat) (w0 W : World) (bs : List Fr.Blk) (rs : List Fr.Row) (f : List Value → List Fr.Blk) (hF : Fr.Frame w0 W bs rs) (hs : Fr.Spot g 32 bs (flat (xs) ++ tl) f) (hi : i < xs.length) (hk : k < xs.length) : Calls Try.prog 50 #[.slice (some ⟨g, 0, none⟩) xs.length c, .int .i64 i, .int .i64 k] W fun e W' => e = .returned (.tuple #[]) ∧ Fr.Frame w0 W' (f (flat (swp xs i k) ++ tl)) rs := by
  have hii : (i : Int) < (xs.length : Int) := by omega
  have hki : (k : Int) < (xs.length : Int) := by omega
  have ha := flat_cell hF hs i hi
  have hb := flat_cell hF hs k hk
  have HQ := Aside0.mk (swp_same hF hs hi hk).drew
  obtain ⟨a0, a1⟩ := ha
  obtain ⟨b0, b1⟩ := hb
  generalize xs.getD i z32 = x at *
  generalize xs.getD k z32 = y at *
  obtain ⟨x0, x1⟩ := x
  obtain ⟨y0, y1⟩ := y
  dsimp only at *
  have fz := fun n => blk_frozen (hF.blk _ hs.mem).2 n
  dsimp only at fz
  obtain ⟨q0, hq0⟩ : ∃ q, ((W.setCell ⟨g, i * 2, none⟩ (.int .i64 y0)).setCell ⟨g, i * 2 + 1, none⟩ (.int .i64 y1)).cell? ⟨g, k * 2, none⟩ = some q := Option.isSome_iff_exists.1 (by rw [isSome_setCell, isSome_setCell, b0]; rfl)
  obtain ⟨q1, hq1⟩ : ∃ q, (((W.setCell ⟨g, i * 2, none⟩ (.int .i64 y0)).setCell ⟨g, i * 2 + 1, none⟩ (.int .i64 y1)).setCell ⟨g, k * 2, none⟩ (.int .i64 x0)).cell? ⟨g, k * 2 + 1, none⟩ = some q := Option.isSome_iff_exists.1 (by rw [isSome_setCell, isSome_setCell, isSome_setCell, b1]; rfl)
  clear hF hs hi hk
  go_enter Try.func50, Try.ntmps50
  go_wp2_with fail
  go_region_with (fail)
  all_goals (go_end0; exact ⟨rfl, HQ.out⟩)
theorem w64b {n : Int} (h : -9223372036854775808 ≤ n) (h' : n ≤ 9223372036854775807) : wrap64 n = n := by unfold wrap64; omega
def kid (xs : List S32) (i n : Nat) : Nat := if 2 * i + 2 < n ∧ lessB (xs.getD (2 * i + 2) z32) (xs.getD (2 * i + 1) z32) = true then 2 * i + 2 else 2 * i + 1
def downL : Nat → List S32 → Nat → Nat → List S32
  | 0, xs, _, _ => xs
  | k + 1, xs, i, n => if 2 * i + 1 < n then (if lessB (xs.getD (kid xs i n) z32) (xs.getD i z32) = true then downL k (swp xs i (kid xs i n)) (kid xs i n) n else xs) else xs
structure Lies (f : List Value → List Fr.Blk) (g h n c : Nat) : Prop where
  spot : ∀ cs, Fr.Spot g 32 (f cs) cs f
  ptr : ∀ cs, (h, [.slice (some ⟨g, 0, none⟩) n c], 48) ∈ f cs
theorem E46 : ∀ args w, (callFunc 46 args).run Try.prog w = .ok (.enter 46 args) w := enters_of Try.func46 (by kernel_rfl) rfl
theorem E47 : ∀ args w, (callFunc 47 args).run Try.prog w = .ok (.enter 47 args) w := enters_of Try.func47 (by kernel_rfl) rfl
theorem E50 : ∀ args w, (callFunc 50 args).run Try.prog w = .ok (.enter 50 args) w := enters_of Try.func50 (by kernel_rfl) rfl
theorem ptr_cell {f : List Value → List Fr.Blk} {g h n c : Nat} (hl : Lies f g h n c) {w0 W : World} {cs : List Value} {rs : List Fr.Row} (hF : Fr.Frame w0 W (f cs) rs) : W.cell? ⟨h, 0, none⟩ = some (.slice (some ⟨g, 0, none⟩) n c) := (blk_cell (hF.blk _ (hl.ptr cs)).2 0).trans rfl
theorem kid_in {xs : List S32} {i n : Nat} (h : 2 * i + 1 < n) : i < kid xs i n ∧ kid xs i n < n := by unfold kid; split <;> omega
theorem less47_int (c : Nat) (xs : List S32) (tl : List Value) (g nx i k : Nat) (a b : Int) (w0 W : World) (bs : List Fr.Blk) (rs : List Fr.Row) (f : List Value → List Fr.Blk) (hF : Fr.Frame w0 W bs rs) (hs : Fr.Spot g 32 bs (flat (xs) ++ tl) f) (hx : xs.length = nx) (hm : nx ≤ 1000) (ha : a = (i : Int)) (hb : b = (k : Int)) (hi : i < nx) (hk : k < nx) : Calls Try.prog 47 #[.slice (some ⟨g, 0, none⟩) nx c, .int .i64 a, .int .i64 b] W fun e w' => e = .returned (.bool (lessB (xs.getD i z32) (xs.getD k z32))) ∧ Fr.Frame w0 w' bs rs := by
  subst hx ha hb
  exact (less47_calls _ c xs i k W (flat_C hF hs (by omega)) hi hk).mono (fun e w' h => ⟨h.1, hF.call h.2⟩)
theorem swap50_int (c : Nat) (xs : List S32) (tl : List Value) (g nx i k : Nat) (a b : Int) (w0 W : World) (bs : List Fr.Blk) (rs : List Fr.Row) (f : List Value → List Fr.Blk) (hF : Fr.Frame w0 W bs rs) (hs : Fr.Spot g 32 bs (flat (xs) ++ tl) f) (hx : xs.length = nx) (ha : a = (i : Int)) (hb : b = (k : Int)) (hi : i < nx) (hk : k < nx) : Calls Try.prog 50 #[.slice (some ⟨g, 0, none⟩) nx c, .int .i64 a, .int .i64 b] W fun e W' => e = .returned (.tuple #[]) ∧ Fr.Frame w0 W' (f (flat (swp xs i k) ++ tl)) rs := by
  subst hx ha hb
  exact swap50_calls c xs tl g i k w0 W bs rs f hF hs hi hk
set_option maxHeartbeats 4000000 in
set_option maxRecDepth 100000 in
theorem down27_calls (c : Nat) (xs : List S32) (tl : List Value) (g h i n : Nat) (w0 W : World) (rs : List Fr.Row) (f : List Value → List Fr.Blk) (hl : Lies f g h xs.length c) (hF : Fr.Frame w0 W (f (flat (xs) ++ tl)) rs) (hn : n ≤ xs.length) (hi : i ≤ 1000) (hx : xs.length ≤ 1000) :
    Calls Try.prog 27 #[.iface 45 (.pointer (some ⟨h, 0, none⟩)), .int .i64 i, .int .i64 n] W fun e W' => (∃ v, e = .returned v) ∧ Fr.Frame w0 W' (f (flat (downL (n + 1) xs i n) ++ tl)) rs := by
  obtain ⟨R, hR⟩ : ∃ R, downL (n + 1) xs i n = R := ⟨_, rfl⟩
  obtain ⟨nx, hnx⟩ : ∃ nx, xs.length = nx := ⟨_, rfl⟩
  rw [hR]
  rw [hnx] at hl hn hx
  have HL := Aside0.mk hl
  have HF := Aside0.mk hF
  have HR := Aside0.mk hR
  have HX := Aside0.mk hx
  have hnb : n ≤ 1000 := by omega
  have HNX := Aside0.mk hnx
  have HN := Aside0.mk hn
  have mLess := fun (w : World) (hc : w.cell? ⟨h, 0, none⟩ = some (.slice (some ⟨g, 0, none⟩) nx c)) => met_Less h _ w hc
  have mSwap := fun (w : World) (hc : w.cell? ⟨h, 0, none⟩ = some (.slice (some ⟨g, 0, none⟩) nx c)) => met_Swap h _ w hc
  have eLess := E47
  have eSwap := E50
  clear hl hF hR hx hnx hn
  go_enter Try.func27, Try.ntmps27
  go_wp2_with fail
  go_loopg [7] n (fun kq v7 w' => ∃ (j k : Nat) (zs : List S32), v7 = .int .i64 j ∧ j ≤ 1000 ∧ n - j ≤ kq ∧ Aside0 (n - j < k) ∧ Aside0 (zs.length = nx) ∧ Aside0 (downL k zs j n = R) ∧ Aside0 (Fr.Frame w0 w' (f (flat (zs) ++ tl)) rs))
  case atStart => exact ⟨i, n + 1, xs, rfl, hi, by omega, ⟨by omega⟩, HNX, HR, HF⟩
  case round =>
    clear HF HR HNX
    obtain ⟨j, k, zs, rfl, hj, hg, HK, HZ, HR, HF⟩ := hrel
    obtain ⟨k, rfl⟩ : ∃ k', k = k' + 1 := ⟨k - 1, by have := HK.out; omega⟩
    have hc := ptr_cell HL.out HF.out
    have hr := HR.out
    rw [downL] at hr
    have hF := HF
    clear HF HR
    by_cases hlt : 2 * j + 1 < n
    · rw [if_pos hlt] at hr
      have hlti : 2 * (j : Int) + 1 < (n : Int) := by omega
      by_cases h2 : 2 * j + 2 < n
      · have h2i : 2 * (j : Int) + 1 + 1 < (n : Int) := by omega
        cases hL1 : lessB (zs.getD (2 * j + 2) z32) (zs.getD (2 * j + 1) z32) with
        | true =>
          have hk : kid zs j n = 2 * j + 2 := by unfold kid; rw [if_pos ⟨h2, hL1⟩]
          rw [hk] at hr
          have HRR := Aside0.mk hr
          clear hr hk
          go_wp2_with fail
          (with_reducible refine (less47_int c zs tl g nx (2 * j + 2) (2 * j + 1) _ _ w0 _ _ rs f hF.out (HL.out.spot _) HZ.out HX.out (by omega) (by omega) (by have := HN.out; omega) (by have := HN.out; omega)).mono ?_)
          rintro e W1 ⟨rfl, hF1⟩
          clear hF hc; have hF := Aside0.mk hF1; have hc := ptr_cell HL.out hF.out; clear hF1
          rw [hL1]
          go_wp2_with fail
          cases hL2 : lessB (zs.getD (2 * j + 2) z32) (zs.getD j z32) with
          | false =>
            (with_reducible refine (less47_int c zs tl g nx (2 * j + 2) (j) _ _ w0 _ _ rs f hF.out (HL.out.spot _) HZ.out HX.out (by omega) (by omega) (by have := HN.out; omega) (by have := HN.out; omega)).mono ?_)
            rintro e W1 ⟨rfl, hF1⟩
            clear hF hc; have hF := Aside0.mk hF1; have hc := ptr_cell HL.out hF.out; clear hF1
            rw [hL2]
            go_wp2_with fail
            go_ret
            have hr9 := HRR.out
            rw [hL2, if_neg (by decide)] at hr9
            exact ⟨⟨_, rfl⟩, by rw [← hr9]; exact hF.out⟩
          | true =>
            (with_reducible refine (less47_int c zs tl g nx (2 * j + 2) (j) _ _ w0 _ _ rs f hF.out (HL.out.spot _) HZ.out HX.out (by omega) (by omega) (by have := HN.out; omega) (by have := HN.out; omega)).mono ?_)
            rintro e W1 ⟨rfl, hF1⟩
            clear hF hc; have hF := Aside0.mk hF1; have hc := ptr_cell HL.out hF.out; clear hF1
            rw [hL2]
            go_wp2_with fail
            (with_reducible refine (swap50_int c zs tl g nx j (2 * j + 2) _ _ w0 _ _ rs f hF.out (HL.out.spot _) HZ.out (by omega) (by omega) (by have := HN.out; omega) (by have := HN.out; omega)).mono ?_)
            rintro e W3 ⟨rfl, hF3⟩
            have hr9 := HRR.out
            rw [hL2, if_pos rfl] at hr9
            go_wp2_with fail
            go_roundg (n - (2 * j + 2))
            case measure => omega
            case rel => exact ⟨2 * j + 2, k, swp zs j (2 * j + 2), by first | rfl | (congr 1; omega), by omega, by omega, ⟨by have := HK.out; omega⟩, ⟨by rw [swp_len]; exact HZ.out⟩, ⟨hr9⟩, ⟨hF3⟩⟩
        | false =>
          have hk : kid zs j n = 2 * j + 1 := by unfold kid; rw [if_neg (fun h => by rw [hL1] at h; exact absurd h.2 (by decide))]
          rw [hk] at hr
          have HRR := Aside0.mk hr
          clear hr hk
          go_wp2_with fail
          (with_reducible refine (less47_int c zs tl g nx (2 * j + 2) (2 * j + 1) _ _ w0 _ _ rs f hF.out (HL.out.spot _) HZ.out HX.out (by omega) (by omega) (by have := HN.out; omega) (by have := HN.out; omega)).mono ?_)
          rintro e W1 ⟨rfl, hF1⟩
          clear hF hc; have hF := Aside0.mk hF1; have hc := ptr_cell HL.out hF.out; clear hF1
          rw [hL1]
          go_wp2_with fail
          cases hL2 : lessB (zs.getD (2 * j + 1) z32) (zs.getD j z32) with
          | false =>
            (with_reducible refine (less47_int c zs tl g nx (2 * j + 1) (j) _ _ w0 _ _ rs f hF.out (HL.out.spot _) HZ.out HX.out (by omega) (by omega) (by have := HN.out; omega) (by have := HN.out; omega)).mono ?_)
            rintro e W1 ⟨rfl, hF1⟩
            clear hF hc; have hF := Aside0.mk hF1; have hc := ptr_cell HL.out hF.out; clear hF1
            rw [hL2]
            go_wp2_with fail
            go_ret
            have hr9 := HRR.out
            rw [hL2, if_neg (by decide)] at hr9
            exact ⟨⟨_, rfl⟩, by rw [← hr9]; exact hF.out⟩
          | true =>
            (with_reducible refine (less47_int c zs tl g nx (2 * j + 1) (j) _ _ w0 _ _ rs f hF.out (HL.out.spot _) HZ.out HX.out (by omega) (by omega) (by have := HN.out; omega) (by have := HN.out; omega)).mono ?_)
            rintro e W1 ⟨rfl, hF1⟩
            clear hF hc; have hF := Aside0.mk hF1; have hc := ptr_cell HL.out hF.out; clear hF1
            rw [hL2]
            go_wp2_with fail
            (with_reducible refine (swap50_int c zs tl g nx j (2 * j + 1) _ _ w0 _ _ rs f hF.out (HL.out.spot _) HZ.out (by omega) (by omega) (by have := HN.out; omega) (by have := HN.out; omega)).mono ?_)
            rintro e W3 ⟨rfl, hF3⟩
            have hr9 := HRR.out
            rw [hL2, if_pos rfl] at hr9
            go_wp2_with fail
            go_roundg (n - (2 * j + 1))
            case measure => omega
            case rel => exact ⟨2 * j + 1, k, swp zs j (2 * j + 1), by first | rfl | (congr 1; omega), by omega, by omega, ⟨by have := HK.out; omega⟩, ⟨by rw [swp_len]; exact HZ.out⟩, ⟨hr9⟩, ⟨hF3⟩⟩
      · have h2i : ¬ 2 * (j : Int) + 1 + 1 < (n : Int) := by omega
        have hk : kid zs j n = 2 * j + 1 := by unfold kid; rw [if_neg (fun h => h2 h.1)]
        rw [hk] at hr
        have HRR := Aside0.mk hr
        clear hr hk
        go_wp2_with fail
        cases hL2 : lessB (zs.getD (2 * j + 1) z32) (zs.getD j z32) with
        | false =>
          (with_reducible refine (less47_int c zs tl g nx (2 * j + 1) (j) _ _ w0 _ _ rs f hF.out (HL.out.spot _) HZ.out HX.out (by omega) (by omega) (by have := HN.out; omega) (by have := HN.out; omega)).mono ?_)
          rintro e W1 ⟨rfl, hF1⟩
          clear hF hc; have hF := Aside0.mk hF1; have hc := ptr_cell HL.out hF.out; clear hF1
          rw [hL2]
          go_wp2_with fail
          go_ret
          have hr9 := HRR.out
          rw [hL2, if_neg (by decide)] at hr9
          exact ⟨⟨_, rfl⟩, by rw [← hr9]; exact hF.out⟩
        | true =>
          (with_reducible refine (less47_int c zs tl g nx (2 * j + 1) (j) _ _ w0 _ _ rs f hF.out (HL.out.spot _) HZ.out HX.out (by omega) (by omega) (by have := HN.out; omega) (by have := HN.out; omega)).mono ?_)
          rintro e W1 ⟨rfl, hF1⟩
          clear hF hc; have hF := Aside0.mk hF1; have hc := ptr_cell HL.out hF.out; clear hF1
          rw [hL2]
          go_wp2_with fail
          (with_reducible refine (swap50_int c zs tl g nx j (2 * j + 1) _ _ w0 _ _ rs f hF.out (HL.out.spot _) HZ.out (by omega) (by omega) (by have := HN.out; omega) (by have := HN.out; omega)).mono ?_)
          rintro e W3 ⟨rfl, hF3⟩
          have hr9 := HRR.out
          rw [hL2, if_pos rfl] at hr9
          go_wp2_with fail
          go_roundg (n - (2 * j + 1))
          case measure => omega
          case rel => exact ⟨2 * j + 1, k, swp zs j (2 * j + 1), by first | rfl | (congr 1; omega), by omega, by omega, ⟨by have := HK.out; omega⟩, ⟨by rw [swp_len]; exact HZ.out⟩, ⟨hr9⟩, ⟨hF3⟩⟩
    · rw [if_neg hlt] at hr
      have HRR := Aside0.mk hr
      have hgei : ¬ 2 * (j : Int) + 1 < (n : Int) := by omega
      clear hr
      go_wp2_with fail
      go_ret
      exact ⟨⟨_, rfl⟩, by rw [← HRR.out]; exact hF.out⟩
def upL : Nat → List S32 → Nat → List S32
  | 0, xs, _ => xs
  | k + 1, xs, j => if j = 0 then xs else (if lessB (xs.getD j z32) (xs.getD ((j - 1) / 2) z32) = true then upL k (swp xs ((j - 1) / 2) j) ((j - 1) / 2) else xs)
def initL : Nat → List S32 → Nat → List S32
  | 0, xs, _ => xs
  | k + 1, xs, n => initL k (downL (n + 1) xs k n) n
theorem downL_len : ∀ (k : Nat) (xs : List S32) (i n : Nat), (downL k xs i n).length = xs.length
  | 0, _, _, _ => rfl
  | k + 1, xs, i, n => by
    rw [downL]
    split
    · split
      · rw [downL_len k, swp_len]
      · rfl
    · rfl
theorem upL_len : ∀ (k : Nat) (xs : List S32) (j : Nat), (upL k xs j).length = xs.length
  | 0, _, _ => rfl
  | k + 1, xs, j => by
    rw [upL]
    split
    · rfl
    · split
      · rw [upL_len k, swp_len]
      · rfl
theorem initL_len : ∀ (k : Nat) (xs : List S32) (n : Nat), (initL k xs n).length = xs.length
  | 0, _, _ => rfl
  | k + 1, xs, n => by rw [initL, initL_len k, downL_len]
set_option maxHeartbeats 4000000 in
set_option maxRecDepth 100000 in
theorem init26_calls (c : Nat) (xs : List S32) (tl : List Value) (g h : Nat) (w0 W : World) (rs : List Fr.Row) (f : List Value → List Fr.Blk) (hl : Lies f g h xs.length c) (hF : Fr.Frame w0 W (f (flat (xs) ++ tl)) rs) (hx : xs.length ≤ 1000) :
    Calls Try.prog 26 #[.iface 45 (.pointer (some ⟨h, 0, none⟩))] W fun e W' => e = .returned (.tuple #[]) ∧ Fr.Frame w0 W' (f (flat (initL (xs.length / 2) xs xs.length) ++ tl)) rs := by
  obtain ⟨R, hR⟩ : ∃ R, initL (xs.length / 2) xs xs.length = R := ⟨_, rfl⟩
  rw [hR]
  obtain ⟨nx, hnx⟩ : ∃ nx, xs.length = nx := ⟨_, rfl⟩
  rw [hnx] at hl hx hR
  have HL := Aside0.mk hl
  have HR := Aside0.mk hR
  have HX := Aside0.mk hx
  have hxb : nx ≤ 1000 := by omega
  have HNX := Aside0.mk hnx
  have mLen := fun (w : World) (hc : w.cell? ⟨h, 0, none⟩ = some (.slice (some ⟨g, 0, none⟩) nx c)) => met_Len h _ w hc
  have eLen := E46
  have hc := ptr_cell hl hF
  have hF := Aside0.mk hF
  clear hl hR hx hnx
  go_enter Try.func26, Try.ntmps26
  go_wp2_with fail
  (with_reducible refine (len46_calls (some ⟨g, 0, none⟩) nx c _).mono ?_)
  rintro e W1 ⟨rfl, rfl⟩
  have hq : Int.tdiv (nx : Int) 2 = ((nx / 2 : Nat) : Int) := by rw [Int.tdiv_eq_ediv_of_nonneg (by omega)]; omega
  have hq2 : (nx : Int) / 2 = ((nx / 2 : Nat) : Int) := by omega
  obtain ⟨m, hm⟩ : ∃ m, nx / 2 = m := ⟨_, rfl⟩
  rw [hm] at hq hq2 HR
  have hmb : m ≤ 1000 := by omega
  have HM := Aside0.mk hm
  clear hm
  go_wp2_with fail
  go_loopg [3] m (fun kq v3 w' => ∃ (k : Nat) (zs : List S32), v3 = .int .i64 ((k : Int) - 1) ∧ k ≤ kq ∧ k ≤ 1000 ∧ Aside0 (zs.length = nx) ∧ Aside0 (initL k zs nx = R) ∧ Aside0 (Fr.Frame w0 w' (f (flat (zs) ++ tl)) rs))
  case atStart => exact ⟨m, xs, by first | rfl | (congr 1; omega), Nat.le_refl _, hmb, HNX, HR, hF⟩
  case round =>
    clear hF HR HNX hc
    obtain ⟨k, zs, rfl, hg, hkb, HZ, HR, hF⟩ := hrel
    have hc := ptr_cell HL.out hF.out
    cases k with
    | zero =>
      have hr := HR.out
      rw [initL] at hr
      have HRR := Aside0.mk hr
      clear hr HR
      go_wp2_with fail
      go_end0
      exact ⟨rfl, by rw [← HRR.out]; exact hF.out⟩
    | succ k =>
      have hr := HR.out
      rw [initL] at hr
      have HRR := Aside0.mk hr
      clear hr HR
      have hk1 : ((k + 1 : Nat) : Int) - 1 = (k : Int) := by omega
      rw [hk1]
      have hk0 : (0 : Int) ≤ (k : Int) := by omega
      go_wp2_with fail
      (with_reducible refine (down27_calls c zs tl g h k nx w0 _ rs f (by rw [HZ.out]; exact HL.out) hF.out (by rw [HZ.out]; exact Nat.le_refl _) (by omega) (by rw [HZ.out]; exact HX.out)).mono ?_)
      rintro e W3 ⟨⟨v, rfl⟩, hF3⟩
      go_wp2_with fail
      go_roundg k
      case measure => omega
      case rel => exact ⟨k, downL (nx + 1) zs k nx, by first | rfl | (congr 1; omega), Nat.le_refl _, by omega, ⟨by rw [downL_len]; exact HZ.out⟩, HRR, ⟨hF3⟩⟩
set_option maxHeartbeats 4000000 in
set_option maxRecDepth 100000 in
theorem up28_calls (c : Nat) (xs : List S32) (tl : List Value) (g h i : Nat) (w0 W : World) (rs : List Fr.Row) (f : List Value → List Fr.Blk) (hl : Lies f g h xs.length c) (hF : Fr.Frame w0 W (f (flat (xs) ++ tl)) rs) (hi : i < xs.length) (hx : xs.length ≤ 1000) :
    Calls Try.prog 28 #[.iface 45 (.pointer (some ⟨h, 0, none⟩)), .int .i64 i] W fun e W' => e = .returned (.tuple #[]) ∧ Fr.Frame w0 W' (f (flat (upL (i + 1) xs i) ++ tl)) rs := by
  obtain ⟨R, hR⟩ : ∃ R, upL (i + 1) xs i = R := ⟨_, rfl⟩
  rw [hR]
  obtain ⟨nx, hnx⟩ : ∃ nx, xs.length = nx := ⟨_, rfl⟩
  rw [hnx] at hl hx hi
  have HL := Aside0.mk hl
  have HR := Aside0.mk hR
  have HX := Aside0.mk hx
  have hib : i ≤ 1000 := by omega
  have HI := Aside0.mk hi
  have HNX := Aside0.mk hnx
  have mLess := fun (w : World) (hc : w.cell? ⟨h, 0, none⟩ = some (.slice (some ⟨g, 0, none⟩) nx c)) => met_Less h _ w hc
  have mSwap := fun (w : World) (hc : w.cell? ⟨h, 0, none⟩ = some (.slice (some ⟨g, 0, none⟩) nx c)) => met_Swap h _ w hc
  have eLess := E47
  have eSwap := E50
  have hF := Aside0.mk hF
  clear hl hR hx hnx hi
  go_enter Try.func28, Try.ntmps28
  go_wp2_with fail
  go_loopg [1] i (fun kq v1 w' => ∃ (j k : Nat) (zs : List S32), v1 = .int .i64 j ∧ j ≤ kq ∧ Aside0 (j < nx) ∧ j ≤ 1000 ∧ Aside0 (j < k) ∧ Aside0 (zs.length = nx) ∧ Aside0 (upL k zs j = R) ∧ Aside0 (Fr.Frame w0 w' (f (flat (zs) ++ tl)) rs))
  case atStart => exact ⟨i, i + 1, xs, rfl, Nat.le_refl _, HI, hib, ⟨by omega⟩, HNX, HR, hF⟩
  case round =>
    clear hF HR HNX HI
    obtain ⟨j, k, zs, rfl, hg, HJ, hjb, HK, HZ, HR, hF⟩ := hrel
    have hc := ptr_cell HL.out hF.out
    obtain ⟨k, rfl⟩ : ∃ k', k = k' + 1 := ⟨k - 1, by have := HK.out; omega⟩
    have hr := HR.out
    rw [upL] at hr
    clear HR
    by_cases h0 : j = 0
    · rw [if_pos h0] at hr
      have HRR := Aside0.mk hr
      subst h0
      clear hr
      go_wp2_with fail
      go_end0
      exact ⟨rfl, by rw [← HRR.out]; exact hF.out⟩
    · rw [if_neg h0] at hr
      have hd : Int.tdiv ((j : Int) - 1) 2 = (((j - 1) / 2 : Nat) : Int) := by rw [Int.tdiv_eq_ediv_of_nonneg (by omega)]; omega
      have hd2 : ((j : Int) - 1) / 2 = (((j - 1) / 2 : Nat) : Int) := by omega
      have hp : (j - 1) / 2 < j := by omega
      obtain ⟨p, hpe⟩ : ∃ p, (j - 1) / 2 = p := ⟨_, rfl⟩
      rw [hpe] at hr hd hd2 hp
      have HRR := Aside0.mk hr
      have hpj : ¬ (p : Int) = (j : Int) := by omega
      have hpj2 : ¬ p = j := by omega
      have hj1 : (1 : Int) ≤ (j : Int) := by omega
      clear hr hpe
      go_wp2_with fail
      cases hL2 : lessB (zs.getD j z32) (zs.getD p z32) with
      | false =>
        (with_reducible refine (less47_int c zs tl g nx j p _ _ w0 _ _ rs f hF.out (HL.out.spot _) HZ.out HX.out (by omega) (by omega) HJ.out (by have := HJ.out; omega)).mono ?_)
        rintro e W1 ⟨rfl, hF1⟩
        clear hF hc; have hF := Aside0.mk hF1; have hc := ptr_cell HL.out hF.out; clear hF1
        rw [hL2]
        go_wp2_with fail
        go_end0
        have hr9 := HRR.out
        rw [hL2, if_neg (by decide)] at hr9
        exact ⟨rfl, by rw [← hr9]; exact hF.out⟩
      | true =>
        (with_reducible refine (less47_int c zs tl g nx j p _ _ w0 _ _ rs f hF.out (HL.out.spot _) HZ.out HX.out (by omega) (by omega) HJ.out (by have := HJ.out; omega)).mono ?_)
        rintro e W1 ⟨rfl, hF1⟩
        clear hF hc; have hF := Aside0.mk hF1; have hc := ptr_cell HL.out hF.out; clear hF1
        rw [hL2]
        go_wp2_with fail
        (with_reducible refine (swap50_int c zs tl g nx p j _ _ w0 _ _ rs f hF.out (HL.out.spot _) HZ.out (by omega) (by omega) (by have := HJ.out; omega) HJ.out).mono ?_)
        rintro e W3 ⟨rfl, hF3⟩
        have hr9 := HRR.out
        rw [hL2, if_pos rfl] at hr9
        go_wp2_with fail
        go_roundg p
        case measure => omega
        case rel => exact ⟨p, k, swp zs p j, rfl, by omega, ⟨by have := HJ.out; omega⟩, by omega, ⟨by have := HK.out; omega⟩, ⟨by rw [swp_len]; exact HZ.out⟩, ⟨hr9⟩, ⟨hF3⟩⟩
structure Lies2 (F : List Value → List Value → List Fr.Blk) (g h : Nat) : Prop where
  row : ∀ p cs, Fr.Spot g 32 (F p cs) cs (F p)
  ptr : ∀ p cs, Fr.Spot h 48 (F p cs) p (fun p' => F p' cs)
theorem Lies2.lies {F : List Value → List Value → List Fr.Blk} {g h n c : Nat} (H : Lies2 F g h) : Lies (F [.slice (some ⟨g, 0, none⟩) n c]) g h n c := ⟨fun cs => H.row _ cs, fun cs => (H.ptr _ cs).mem⟩
theorem ptr_cell2 {F : List Value → List Value → List Fr.Blk} {g h : Nat} (H : Lies2 F g h) {w0 W : World} {b : Fr.Blk} {v : Value} {cs : List Value} {rs : List Fr.Row} (hF : Fr.Frame w0 W (b :: F [v] cs) rs) : W.cell? ⟨h, 0, none⟩ = some v := (blk_cell (hF.blk _ (List.mem_cons_of_mem _ (H.ptr _ _).mem)).2 0).trans rfl
theorem row_cell2 {F : List Value → List Value → List Fr.Blk} {g h : Nat} (H : Lies2 F g h) {w0 W : World} {b : Fr.Blk} {p : List Value} {zs : List S32} {tl : List Value} {rs : List Fr.Row} (hF : Fr.Frame w0 W (b :: F p (flat zs ++ tl)) rs) (i : Nat) (hi : i < zs.length) : W.cell? ⟨g, i * 2, none⟩ = some (.int .i64 (zs.getD i z32).f0) ∧ W.cell? ⟨g, i * 2 + 1, none⟩ = some (.int .i64 (zs.getD i z32).f1) := flat_cell hF (.there _ (H.row _ _)) i hi
theorem E48 : ∀ args w, (callFunc 48 args).run Try.prog w = .ok (.enter 48 args) w := enters_of Try.func48 (by kernel_rfl) rfl
set_option maxHeartbeats 4000000 in
set_option maxRecDepth 100000 in
theorem pop48_calls (c n : Nat) (zs : List S32) (tl : List Value) (g h : Nat) (w0 W : World) (rs : List Fr.Row) (F : List Value → List Value → List Fr.Blk) (H : Lies2 F g h) (hF : Fr.Frame w0 W (F [.slice (some ⟨g, 0, none⟩) (n + 1) c] (flat zs ++ tl)) rs) (hn : n < zs.length) (hnc : n + 1 ≤ c) (hx : zs.length ≤ 1000) :
    Calls Try.prog 48 #[.pointer (some ⟨h, 0, none⟩)] W fun e W' => e = .returned (.iface 32 (.agg #[.int .i64 (zs.getD n z32).f0, .int .i64 (zs.getD n z32).f1])) ∧ Fr.Frame w0 W' (F [.slice (some ⟨g, 0, none⟩) n c] (flat zs ++ tl)) rs := by
  have HH := Aside0.mk H
  have HNX := Aside0.mk hn
  have hnb : n ≤ 1000 := by omega
  have hc := ptr_cell (c := c) H.lies hF
  obtain ⟨a0, a1⟩ := flat_cell hF (H.row _ _) n hn
  have HC : True := trivial
  have hF := Aside0.mk hF
  have hw : wrap64 (((n + 1 : Nat) : Int) - 1) = (n : Int) := by rw [w64b (by omega) (by omega)]; omega
  have hw2 : wrap64 ((n : Int) + 1 - 1) = (n : Int) := by rw [w64b (by omega) (by omega)]; omega
  have hnci : (n : Int) ≤ (c : Int) := by omega
  generalize hxe : zs.getD n z32 = x at a0 a1 ⊢
  have HXE := Aside0.mk hxe
  clear H hn hx hxe
  go_enter Try.func48, Try.ntmps48
  go_wp2_with (first | ((with_reducible refine gate_dst (N := 4) rfl ?_); apply Fr.fr_box hF.out rfl; (case hrun => first | (go_simp; done) | (go_simp; rfl)); intro g4 W hF1; clear hF hc a0 a1 HC; have hF := Aside0.mk hF1; clear hF1; have hc := ptr_cell2 HH.out hF.out; have a0 := (row_cell2 HH.out hF.out n HNX.out).1; have a1 := (row_cell2 HH.out hF.out n HNX.out).2; rw [HXE.out] at a0 a1; have HC1 := hF.out.cells; simp only [Fr.Cells, List.length_cons, List.length_nil, Nat.reduceAdd] at HC1; have HC := HC1; clear HC1) | ((with_reducible refine gate_store rfl ?_); apply Fr.fr_store hF.out rfl rfl rfl; (case hp => rfl); (case hx => first | (go_simp; rfl) | rfl); (case hu => (simp only [Value.cells]; rfl)); (case hs => first | exact Fr.Spot.here _ _ | exact Fr.Spot.there _ (HH.out.ptr _ _)); (case ht => kernel_rfl); (case h1 => simp [Value.oneCell']); (case hfit => simp); intro W hF1; simp only [Fr.patch, List.take_zero, List.nil_append, List.drop, List.append_nil, List.take, List.cons_append, List.length_cons, List.length_nil, Nat.reduceAdd] at hF1; clear hF hc a0 a1 HC; have hF := Aside0.mk hF1; clear hF1; have hc := ptr_cell2 HH.out hF.out; have a0 := (row_cell2 HH.out hF.out n HNX.out).1; have a1 := (row_cell2 HH.out hF.out n HNX.out).2; rw [HXE.out] at a0 a1; have HC1 := hF.out.cells; simp only [Fr.Cells, List.length_cons, List.length_nil, Nat.reduceAdd] at HC1; have HC := HC1; clear HC1))
  go_ret
  exact ⟨rfl, hF.out.drop⟩
theorem down27_int (c : Nat) (xs : List S32) (tl : List Value) (g h i n : Nat) (a : Int) (w0 W : World) (rs : List Fr.Row) (f : List Value → List Fr.Blk) (hl : Lies f g h xs.length c) (hF : Fr.Frame w0 W (f (flat (xs) ++ tl)) rs) (hn : n ≤ xs.length) (hi : i ≤ 1000) (hx : xs.length ≤ 1000) (ha : a = (i : Int)) :
    Calls Try.prog 27 #[.iface 45 (.pointer (some ⟨h, 0, none⟩)), .int .i64 a, .int .i64 n] W fun e W' => (∃ v, e = .returned v) ∧ Fr.Frame w0 W' (f (flat (downL (n + 1) xs i n) ++ tl)) rs := by
  subst ha
  exact down27_calls c xs tl g h i n w0 W rs f hl hF hn hi hx
def popL (xs : List S32) : List S32 := downL (xs.length - 1 + 1) (swp xs 0 (xs.length - 1)) 0 (xs.length - 1)
theorem popL_len (xs : List S32) : (popL xs).length = xs.length := by unfold popL; rw [downL_len, swp_len]
set_option maxHeartbeats 4000000 in
set_option maxRecDepth 100000 in
theorem pop21_calls (c n : Nat) (xs : List S32) (tl : List Value) (g h : Nat) (w0 W : World) (rs : List Fr.Row) (F : List Value → List Value → List Fr.Blk) (H : Lies2 F g h) (hF : Fr.Frame w0 W (F [.slice (some ⟨g, 0, none⟩) (n + 1) c] (flat (xs) ++ tl)) rs) (hn : xs.length = n + 1) (hnc : n + 1 ≤ c) (hx : xs.length ≤ 1000) :
    Calls Try.prog 21 #[.iface 45 (.pointer (some ⟨h, 0, none⟩))] W fun e W' => e = .returned (.iface 32 (.agg #[.int .i64 ((popL xs).getD n z32).f0, .int .i64 ((popL xs).getD n z32).f1])) ∧ Fr.Frame w0 W' (F [.slice (some ⟨g, 0, none⟩) n c] (flat (popL xs) ++ tl)) rs := by
  have hp : popL xs = downL (n + 1) (swp xs 0 n) 0 n := by unfold popL; rw [hn]; rfl
  have hpl := popL_len xs
  have HH := Aside0.mk H
  have HX := Aside0.mk hx
  have HN := Aside0.mk hn
  have hnb : n ≤ 1000 := by omega
  have mLen := fun (w : World) (v : Value) (hc : w.cell? ⟨h, 0, none⟩ = some v) => met_Len h _ w hc
  have mSwap := fun (w : World) (v : Value) (hc : w.cell? ⟨h, 0, none⟩ = some v) => met_Swap h _ w hc
  have mPop := fun (w : World) => met_Pop h undef w
  have eLen := E46
  have eSwap := E50
  have ePop := E48
  have hc := ptr_cell (c := c) H.lies hF
  have hF := Aside0.mk hF
  have hw : wrap64 (((n + 1 : Nat) : Int) - 1) = (n : Int) := by rw [w64b (by omega) (by omega)]; omega
  have hw2 : wrap64 ((n : Int) + 1 - 1) = (n : Int) := by rw [w64b (by omega) (by omega)]; omega
  have HP := Aside0.mk hp
  have HPL := Aside0.mk hpl
  have HNC := Aside0.mk hnc
  clear H hx hn hp hpl hnc
  go_enter Try.func21, Try.ntmps21
  go_wp2_with fail
  (with_reducible refine (len46_calls (some ⟨g, 0, none⟩) (n + 1) c _).mono ?_)
  rintro e W1 ⟨rfl, rfl⟩
  go_wp2_with fail
  (with_reducible refine (swap50_int c xs tl g (n + 1) 0 n _ _ w0 _ _ rs _ hF.out (HH.out.row _ _) HN.out (by omega) (by omega) (by omega) (by omega)).mono ?_)
  rintro e W2 ⟨rfl, hF2⟩
  clear hF hc
  have hF := Aside0.mk hF2
  have hc := ptr_cell (c := c) HH.out.lies hF2
  clear hF2
  go_wp2_with fail
  (with_reducible refine (down27_int c (swp xs 0 n) tl g h 0 n 0 w0 _ rs _ (by rw [swp_len, HN.out]; exact HH.out.lies) hF.out (by rw [swp_len, HN.out]; omega) (by omega) (by rw [swp_len]; exact HX.out) rfl).mono ?_)
  rintro e W3 ⟨⟨v3, rfl⟩, hF3⟩
  rw [← HP.out] at hF3
  clear hF hc
  have hF := Aside0.mk hF3
  clear hF3
  go_wp2_with fail
  (with_reducible refine (pop48_calls c n (popL xs) tl g h w0 _ rs F HH.out hF.out (by rw [HPL.out, HN.out]; omega) HNC.out (by rw [HPL.out]; exact HX.out)).mono ?_)
  rintro e W4 ⟨rfl, hF4⟩
  go_wp2_with fail
  go_ret
  exact ⟨rfl, hF4⟩
theorem less_iff (x y : S32) : lessB x y = true ↔ x.f0 < y.f0 ∨ (x.f0 = y.f0 ∧ x.f1 < y.f1) := by
  unfold lessB; simp
theorem less_no (x y : S32) : lessB x y = false ↔ ¬ (x.f0 < y.f0 ∨ (x.f0 = y.f0 ∧ x.f1 < y.f1)) := by
  rw [← less_iff]; simp
theorem no_tr {x y z : S32} (h1 : lessB y x = false) (h2 : lessB z y = false) : lessB z x = false := by
  rw [less_no] at *; omega
theorem no_of {x y : S32} (h : lessB x y = true) : lessB y x = false := by
  rw [less_iff] at h; rw [less_no]; omega
theorem no_self (x : S32) : lessB x x = false := by rw [less_no]; omega
theorem swp_at (xs : List S32) {i k : Nat} (hi : i < xs.length) (hk : k < xs.length) (j : Nat) : (swp xs i k).getD j z32 = if j = k then xs.getD i z32 else if j = i then xs.getD k z32 else xs.getD j z32 := by
  unfold swp
  simp only [List.getD_eq_getElem?_getD, List.getElem?_set, List.length_set]
  by_cases h1 : j = k
  · subst h1
    simp [hk]
  · have h1' : ¬ k = j := fun e => h1 e.symm
    by_cases h2 : j = i
    · subst h2
      simp [hi, h1, h1']
    · have h2' : ¬ i = j := fun e => h2 e.symm
      simp [h1, h1', h2, h2']
theorem swp_perm (xs : List S32) {i k : Nat} (hi : i < xs.length) (hk : k < xs.length) : (swp xs i k).Perm xs := by
  unfold swp
  rw [show xs.getD i z32 = xs[i] by simp [List.getD_eq_getElem?_getD, hi], show xs.getD k z32 = xs[k] by simp [List.getD_eq_getElem?_getD, hk]]
  exact List.set_set_perm hi hk
theorem kid_is {xs : List S32} {i n : Nat} (h : 2 * i + 1 < n) : (kid xs i n = 2 * i + 1 ∨ kid xs i n = 2 * i + 2) ∧ ∀ k, (k = 2 * i + 1 ∨ k = 2 * i + 2) → k < n → lessB (xs.getD k z32) (xs.getD (kid xs i n) z32) = false := by
  unfold kid
  by_cases hc : 2 * i + 2 < n ∧ lessB (xs.getD (2 * i + 2) z32) (xs.getD (2 * i + 1) z32) = true
  · rw [if_pos hc]
    refine ⟨.inr rfl, fun k hk _ => ?_⟩
    rcases hk with rfl | rfl
    · exact no_of hc.2
    · exact no_self _
  · rw [if_neg hc]
    refine ⟨.inl rfl, fun k hk hkn => ?_⟩
    rcases hk with rfl | rfl
    · exact no_self _
    · exact Bool.eq_false_iff.2 (fun e => hc ⟨hkn, e⟩)
def isH (xs : List S32) (n i0 : Nat) : Prop := ∀ k, 1 ≤ k → k < n → i0 ≤ (k - 1) / 2 → lessB (xs.getD k z32) (xs.getD ((k - 1) / 2) z32) = false
def isP (xs : List S32) (n i0 i : Nat) : Prop := (∀ k, 1 ≤ k → k < n → i0 ≤ (k - 1) / 2 → (k - 1) / 2 ≠ i → lessB (xs.getD k z32) (xs.getD ((k - 1) / 2) z32) = false) ∧ (∀ k, 1 ≤ k → k < n → (k - 1) / 2 = i → 1 ≤ i → i0 ≤ (i - 1) / 2 → lessB (xs.getD k z32) (xs.getD ((i - 1) / 2) z32) = false)
theorem down_heap : ∀ (fuel : Nat) (xs : List S32) (i n i0 : Nat), n ≤ xs.length → n - i < fuel → i0 ≤ i → isP xs n i0 i → isH (downL fuel xs i n) n i0
  | 0, _, _, _, _, _, hf, _, _ => by omega
  | fuel + 1, xs, i, n, i0, hn, hf, h0, hp => by
    rw [downL]
    by_cases hlt : 2 * i + 1 < n
    · rw [if_pos hlt]
      obtain ⟨hm, hmin⟩ := kid_is (xs := xs) hlt
      have hk := kid_in (xs := xs) hlt
      generalize kid xs i n = m at hm hmin hk ⊢
      by_cases hl : lessB (xs.getD m z32) (xs.getD i z32) = true
      · rw [if_pos hl]
        have hi : i < xs.length := by omega
        have hml : m < xs.length := by omega
        have hpm : (m - 1) / 2 = i := by omega
        refine down_heap fuel (swp xs i m) m n i0 (by rw [swp_len]; exact hn) (by omega) (by omega) ⟨fun k k1 k2 k3 k4 => ?_, fun k k1 k2 k3 k4 k5 => ?_⟩
        · rw [swp_at xs hi hml, swp_at xs hi hml]
          by_cases e1 : k = m
          · subst e1
            rw [if_pos rfl, hpm, if_neg (by omega), if_pos rfl]
            exact no_of hl
          · rw [if_neg e1]
            by_cases e2 : k = i
            · subst e2
              rw [if_pos rfl, if_neg (by omega), if_neg (by omega)]
              exact hp.2 m (by omega) hk.2 hpm k1 k3
            · rw [if_neg e2, if_neg k4]
              by_cases e3 : (k - 1) / 2 = i
              · rw [if_pos e3]
                exact hmin k (by omega) k2
              · rw [if_neg e3]
                exact hp.1 k k1 k2 k3 e3
        · rw [swp_at xs hi hml, swp_at xs hi hml, hpm, if_neg (by omega), if_neg (by omega), if_neg (by omega), if_pos rfl]
          have := hp.1 k k1 k2 (by omega) (by omega)
          rw [k3] at this
          exact this
      · rw [if_neg hl]
        have hl2 := Bool.eq_false_iff.2 hl
        intro k k1 k2 k3
        by_cases e : (k - 1) / 2 = i
        · rw [e]
          exact no_tr hl2 (hmin k (by omega) k2)
        · exact hp.1 k k1 k2 k3 e
    · rw [if_neg hlt]
      intro k k1 k2 k3
      exact hp.1 k k1 k2 k3 (by omega)
theorem down_perm : ∀ (fuel : Nat) (xs : List S32) (i n : Nat), n ≤ xs.length → (downL fuel xs i n).Perm xs
  | 0, _, _, _, _ => List.Perm.refl _
  | fuel + 1, xs, i, n, hn => by
    rw [downL]
    by_cases hlt : 2 * i + 1 < n
    · rw [if_pos hlt]
      have hk := kid_in (xs := xs) hlt
      split
      · exact (down_perm fuel (swp xs i (kid xs i n)) (kid xs i n) n (by rw [swp_len]; exact hn)).trans (swp_perm xs (by omega) (by omega))
      · exact List.Perm.refl _
    · rw [if_neg hlt]
theorem down_far : ∀ (fuel : Nat) (xs : List S32) (i n j : Nat), n ≤ xs.length → n ≤ j → (downL fuel xs i n).getD j z32 = xs.getD j z32
  | 0, _, _, _, _, _, _ => rfl
  | fuel + 1, xs, i, n, j, hn, hj => by
    rw [downL]
    by_cases hlt : 2 * i + 1 < n
    · rw [if_pos hlt]
      have hk := kid_in (xs := xs) hlt
      split
      · rw [down_far fuel _ _ _ _ (by rw [swp_len]; exact hn) hj, swp_at xs (by omega) (by omega), if_neg (by omega), if_neg (by omega)]
      · rfl
    · rw [if_neg hlt]
theorem init_perm : ∀ (k : Nat) (xs : List S32) (n : Nat), n ≤ xs.length → (initL k xs n).Perm xs
  | 0, _, _, _ => List.Perm.refl _
  | k + 1, xs, n, hn => by
    rw [initL]
    exact (init_perm k _ n (by rw [downL_len]; exact hn)).trans (down_perm _ _ _ _ hn)
theorem init_heap : ∀ (k : Nat) (xs : List S32) (n : Nat), n ≤ xs.length → isH xs n k → isH (initL k xs n) n 0
  | 0, _, _, _, h => h
  | k + 1, xs, n, hn, h => by
    rw [initL]
    refine init_heap k _ n (by rw [downL_len]; exact hn) (down_heap (n + 1) xs k n k hn (by omega) (Nat.le_refl _) ⟨fun j j1 j2 j3 j4 => h j j1 j2 (by omega), fun j _ _ _ _ j5 => by omega⟩)
theorem heap_is (xs : List S32) : isH (initL (xs.length / 2) xs xs.length) xs.length 0 ∧ (initL (xs.length / 2) xs xs.length).Perm xs :=
  ⟨init_heap _ _ _ (Nat.le_refl _) (fun k _ k2 k3 => by omega), init_perm _ _ _ (Nat.le_refl _)⟩
theorem heap_least {xs : List S32} {n : Nat} (h : isH xs n 0) : ∀ k, k < n → lessB (xs.getD k z32) (xs.getD 0 z32) = false := by
  intro k
  induction k using Nat.strongRecOn with
  | ind k ih =>
    intro hk
    by_cases h0 : k = 0
    · subst h0; exact no_self _
    · exact no_tr (ih ((k - 1) / 2) (by omega) (by omega)) (h k (by omega) hk (Nat.zero_le _))
theorem pop_heap {xs : List S32} {n : Nat} (hn : xs.length = n + 1) (h : isH xs (n + 1) 0) : isH (popL xs) n 0 ∧ (popL xs).Perm xs ∧ (popL xs).getD n z32 = xs.getD 0 z32 := by
  have hp : popL xs = downL (n + 1) (swp xs 0 n) 0 n := by unfold popL; rw [hn]; rfl
  rw [hp]
  have h0 : 0 < xs.length := by omega
  have hl : n < xs.length := by omega
  refine ⟨down_heap _ _ _ _ _ (by rw [swp_len]; omega) (by omega) (Nat.le_refl _) ⟨fun k k1 k2 _ k4 => ?_, fun k _ _ _ k4 _ => by omega⟩, (down_perm _ _ _ _ (by rw [swp_len]; omega)).trans (swp_perm xs h0 hl), ?_⟩
  · rw [swp_at xs h0 hl, swp_at xs h0 hl, if_neg (by omega), if_neg (by omega), if_neg (by omega), if_neg k4]
    exact h k k1 (by omega) (Nat.zero_le _)
  · rw [down_far _ _ _ _ _ (by rw [swp_len]; omega) (Nat.le_refl _), swp_at xs h0 hl, if_pos rfl]
theorem up_perm : ∀ (fuel : Nat) (xs : List S32) (j : Nat), j < xs.length → (upL fuel xs j).Perm xs
  | 0, _, _, _ => List.Perm.refl _
  | fuel + 1, xs, j, hj => by
    rw [upL]
    split
    · exact List.Perm.refl _
    · split
      · exact (up_perm fuel (swp xs ((j - 1) / 2) j) ((j - 1) / 2) (by rw [swp_len]; omega)).trans (swp_perm xs (by omega) hj)
      · exact List.Perm.refl _
end Go.Proofs.Ytlkaebnigmfphaa.G
