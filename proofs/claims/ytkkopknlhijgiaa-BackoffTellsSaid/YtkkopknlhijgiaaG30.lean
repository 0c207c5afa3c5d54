/- Contracts of functions of the given program, each proved by a walk of its code: written by gprint.py, this session's program round the kit's print; texts of our own stand among the printed ones. No condition beyond each theorem's own premises. -/
import Derived.Test.YtkkopknlhijgiaaG0
import Derived.Test.YtkkopknlhijgiaaG23
import Derived.Test.YtkkopknlhijgiaaG24
import Derived.Test.YtkkopknlhijgiaaG25
import Derived.Test.YtkkopknlhijgiaaG26
import Derived.Test.YtkkopknlhijgiaaG27
import Derived.Test.YtkkopknlhijgiaaG28
import Derived.Test.YtkkopknlhijgiaaG29
namespace Go.Proofs.Ytkkopknlhijgiaa.G
open Go.RowKit Go.Proofs.YtkkopknlhijgiaaW.PrintWords Go.Proofs.YtkkopknlhijgiaaW.PrintLast Go.Proofs.YtkkopknlhijgiaaW.PrintMore
attribute [local go_sem] max2_int min2_int max_two min_two max_three min_three max_four min_four   -- for this text's walks alone
set_option linter.unusedVariables false
set_option linter.unusedSimpArgs false

/-! ### foghornlaw06_BackoffTells: function 12 -/
mutual
def foghornlaw06_BackoffTells.j0 : Nat → Int → Int → Int → Int → Int → Int → Int → Int → Bool → Int → Int → Int → Option (Bool)
  | 0, _, _, _, _, _, _, _, _, _, _, _, _ => none
  | k + 1, x1, x2, x7, x8, x9, x10, x11, x12, x40, x424000, x424001, x424002 => if x40 = true then (some false) else ((foghornref06_Right.f x424000 x424001 x424002).bind fun t433 => (if t433 = true then (foghornlaw06_BackoffTells.j1 k x1 x2 x7 x8 x9 x10 x11 x12 (decide (x1 < 0)) x424000 x424001 x424002) else (foghornlaw06_BackoffTells.j1 k x1 x2 x7 x8 x9 x10 x11 x12 true x424000 x424001 x424002)))
def foghornlaw06_BackoffTells.j1 : Nat → Int → Int → Int → Int → Int → Int → Int → Int → Bool → Int → Int → Int → Option (Bool)
  | 0, _, _, _, _, _, _, _, _, _, _, _, _ => none
  | k + 1, x1, x2, x7, x8, x9, x10, x11, x12, x47, x424000, x424001, x424002 => if x47 = true then (if x8 = 1 then (if x10 = 1 then (if x12 = 1 then (if x7 = 0 then (if x9 = 0 then (some (x11 == 0)) else (some false)) else (some false)) else (some false)) else (some false)) else (some false)) else (if x8 = 0 then (if x10 = 0 then (if x12 = 0 then ((foghornref06_Step.f k x424000 x424001 x424002 x1).bind fun t434 => (if x7 = t434 then ((foghornref06_Wait.f k x424000 x424001 x424002 x1 x2).bind fun t435 => (if x9 = t435 then ((foghornref06_All.f k x424000 x424001 x424002 x1).bind fun t436 => (some (x11 == t436))) else (some false))) else (some false))) else (some false)) else (some false)) else (some false))
end
def foghornlaw06_BackoffTells.f (k : Nat) (a0_0 : Int) (a0_1 : Int) (a0_2 : Int) (a1 : Int) (a2 : Int) : Option (Bool) := (backoff_Step.f a0_0 a0_1 a0_2 a1).bind fun bt424 => ((backoff_Wait.f a0_0 a0_1 a0_2 a1 a2).bind fun bt426 => ((backoff_All.f a0_0 a0_1 a0_2 a1).bind fun bt428 => ((backoff_Right.f a0_0 a0_1 a0_2).bind fun t430 => ((foghornref06_Right.f a0_0 a0_1 a0_2).bind fun t431 => (if (t430 != t431) = true then (foghornlaw06_BackoffTells.j0 k a1 a2 bt424.1 bt424.2 bt426.1 bt426.2 bt428.1 bt428.2 true a0_0 a0_1 a0_2) else ((foghornlaw06_alive.f).bind fun t432 => (foghornlaw06_BackoffTells.j0 k a1 a2 bt424.1 bt424.2 bt426.1 bt426.2 bt428.1 bt428.2 (!t432) a0_0 a0_1 a0_2)))))))
theorem foghornlaw06_BackoffTells.mono_l : ∀ k, (∀ y0 y1 y2 y3 y4 y5 y6 y7 y8 y9 y10 y11, LeO (foghornlaw06_BackoffTells.j0 k y0 y1 y2 y3 y4 y5 y6 y7 y8 y9 y10 y11) (foghornlaw06_BackoffTells.j0 (k + 1) y0 y1 y2 y3 y4 y5 y6 y7 y8 y9 y10 y11)) ∧ (∀ y0 y1 y2 y3 y4 y5 y6 y7 y8 y9 y10 y11, LeO (foghornlaw06_BackoffTells.j1 k y0 y1 y2 y3 y4 y5 y6 y7 y8 y9 y10 y11) (foghornlaw06_BackoffTells.j1 (k + 1) y0 y1 y2 y3 y4 y5 y6 y7 y8 y9 y10 y11))
  | 0 => ⟨fun _ _ _ _ _ _ _ _ _ _ _ _ r h => by simp [foghornlaw06_BackoffTells.j0] at h, fun _ _ _ _ _ _ _ _ _ _ _ _ r h => by simp [foghornlaw06_BackoffTells.j1] at h⟩
  | k + 1 => by
    obtain ⟨ih0, ih1⟩ := foghornlaw06_BackoffTells.mono_l k
    refine ⟨?_, ?_⟩
    · intro y0 y1 y2 y3 y4 y5 y6 y7 y8 y9 y10 y11
      unfold foghornlaw06_BackoffTells.j0
      repeat' first
      | (with_reducible exact ih0 _ _ _ _ _ _ _ _ _ _ _ _)
      | (with_reducible exact ih1 _ _ _ _ _ _ _ _ _ _ _ _)
      | (with_reducible exact foghornref06_All.mono _ _ _ _ _)
      | (with_reducible exact foghornref06_Step.mono _ _ _ _ _)
      | (with_reducible exact foghornref06_Wait.mono _ _ _ _ _ _)
      | (with_reducible exact LeO.refl _)
      | (with_reducible exact LeO.none _)
      | (with_reducible refine LeO.ite ?_ ?_)
      | (with_reducible refine LeO.bind ?_ (fun _ => ?_))
      | exact ih0 _ _ _ _ _ _ _ _ _ _ _ _
      | exact ih1 _ _ _ _ _ _ _ _ _ _ _ _
      | exact foghornref06_All.mono _ _ _ _ _
      | exact foghornref06_Step.mono _ _ _ _ _
      | exact foghornref06_Wait.mono _ _ _ _ _ _
      | exact LeO.none _
      | refine LeO.ite ?_ ?_
      | refine LeO.bind ?_ (fun _ => ?_)
    · intro y0 y1 y2 y3 y4 y5 y6 y7 y8 y9 y10 y11
      unfold foghornlaw06_BackoffTells.j1
      repeat' first
      | (with_reducible exact ih0 _ _ _ _ _ _ _ _ _ _ _ _)
      | (with_reducible exact ih1 _ _ _ _ _ _ _ _ _ _ _ _)
      | (with_reducible exact foghornref06_All.mono _ _ _ _ _)
      | (with_reducible exact foghornref06_Step.mono _ _ _ _ _)
      | (with_reducible exact foghornref06_Wait.mono _ _ _ _ _ _)
      | (with_reducible exact LeO.refl _)
      | (with_reducible exact LeO.none _)
      | (with_reducible refine LeO.ite ?_ ?_)
      | (with_reducible refine LeO.bind ?_ (fun _ => ?_))
      | exact ih0 _ _ _ _ _ _ _ _ _ _ _ _
      | exact ih1 _ _ _ _ _ _ _ _ _ _ _ _
      | exact foghornref06_All.mono _ _ _ _ _
      | exact foghornref06_Step.mono _ _ _ _ _
      | exact foghornref06_Wait.mono _ _ _ _ _ _
      | exact LeO.none _
      | refine LeO.ite ?_ ?_
      | refine LeO.bind ?_ (fun _ => ?_)
theorem foghornlaw06_BackoffTells.mono : ∀ a0 a1 a2 a3 a4 k, LeO (foghornlaw06_BackoffTells.f k a0 a1 a2 a3 a4) (foghornlaw06_BackoffTells.f (k + 1) a0 a1 a2 a3 a4) := by
  intro a0 a1 a2 a3 a4 k
  obtain ⟨ih0, ih1⟩ := foghornlaw06_BackoffTells.mono_l k
  unfold foghornlaw06_BackoffTells.f
  repeat' first
      | (with_reducible exact ih0 _ _ _ _ _ _ _ _ _ _ _ _)
      | (with_reducible exact ih1 _ _ _ _ _ _ _ _ _ _ _ _)
      | (with_reducible exact foghornref06_All.mono _ _ _ _ _)
      | (with_reducible exact foghornref06_Step.mono _ _ _ _ _)
      | (with_reducible exact foghornref06_Wait.mono _ _ _ _ _ _)
      | (with_reducible exact LeO.refl _)
      | (with_reducible exact LeO.none _)
      | (with_reducible refine LeO.ite ?_ ?_)
      | (with_reducible refine LeO.bind ?_ (fun _ => ?_))
      | exact ih0 _ _ _ _ _ _ _ _ _ _ _ _
      | exact ih1 _ _ _ _ _ _ _ _ _ _ _ _
      | exact foghornref06_All.mono _ _ _ _ _
      | exact foghornref06_Step.mono _ _ _ _ _
      | exact foghornref06_Wait.mono _ _ _ _ _ _
      | exact LeO.none _
      | refine LeO.ite ?_ ?_
      | refine LeO.bind ?_ (fun _ => ?_)
def foghornlaw06_BackoffTells.T4 : Bool × List (List Nat × List Nat) := (true, [([], []), ([0], [0]), ([], []), ([2, 1], [2]), ([1, 3], [1, 3]), ([4, 3], [4]), ([5, 5], [5]), ([6, 5], [5, 6]), ([5, 7], [5, 7])])
def foghornlaw06_BackoffTells.B4 : List Nat := [0, 1, 0, 7, 15, 31, 63, 127, 255]
theorem foghornlaw06_BackoffTells.tab4 : rtab .any (opsOf Try.f12 4) = foghornlaw06_BackoffTells.T4 := by kernel_rfl
theorem foghornlaw06_BackoffTells.bits4 : waitsOk foghornlaw06_BackoffTells.T4.2 foghornlaw06_BackoffTells.B4 = true := by kernel_rfl
set_option maxHeartbeats 8000000 in
set_option maxRecDepth 100000 in
theorem foghornlaw06_BackoffTells.calls (k : Nat) (a0_0 : Int) (a0_1 : Int) (a0_2 : Int) (a1 : Int) (a2 : Int) (r : Bool) (w : World) (h : foghornlaw06_BackoffTells.f k a0_0 a0_1 a0_2 a1 a2 = some r) :
    Calls Try.prog 12 #[.agg #[.int .i64 a0_0, .int .i64 a0_1, .int .i64 a0_2], .int .i64 a1, .int .i64 a2] w fun e w' => e = .returned (.bool r) ∧ Below w.heap.size w w' := by
  have hu23 := Try.underlying23
  have HB := Aside0.mk (Below.refl w.heap.size w)
  have H : ((backoff_Step.f a0_0 a0_1 a0_2 a1).bind fun bt424 => ((backoff_Wait.f a0_0 a0_1 a0_2 a1 a2).bind fun bt426 => ((backoff_All.f a0_0 a0_1 a0_2 a1).bind fun bt428 => ((backoff_Right.f a0_0 a0_1 a0_2).bind fun t430 => ((foghornref06_Right.f a0_0 a0_1 a0_2).bind fun t431 => (if (t430 != t431) = true then (foghornlaw06_BackoffTells.j0 k a1 a2 bt424.1 bt424.2 bt426.1 bt426.2 bt428.1 bt428.2 true a0_0 a0_1 a0_2) else ((foghornlaw06_alive.f).bind fun t432 => (foghornlaw06_BackoffTells.j0 k a1 a2 bt424.1 bt424.2 bt426.1 bt426.2 bt428.1 bt428.2 (!t432) a0_0 a0_1 a0_2)))))))) = some r := h
  clear h
  replace H := Option.bind_eq_some_iff.mp H
  obtain ⟨⟨t424, t425⟩, A40, H⟩ := H
  replace H : ((backoff_Wait.f a0_0 a0_1 a0_2 a1 a2).bind fun bt426 => ((backoff_All.f a0_0 a0_1 a0_2 a1).bind fun bt428 => ((backoff_Right.f a0_0 a0_1 a0_2).bind fun t430 => ((foghornref06_Right.f a0_0 a0_1 a0_2).bind fun t431 => (if (t430 != t431) = true then (foghornlaw06_BackoffTells.j0 k a1 a2 t424 t425 bt426.1 bt426.2 bt428.1 bt428.2 true a0_0 a0_1 a0_2) else ((foghornlaw06_alive.f).bind fun t432 => (foghornlaw06_BackoffTells.j0 k a1 a2 t424 t425 bt426.1 bt426.2 bt428.1 bt428.2 (!t432) a0_0 a0_1 a0_2))))))) = some r := H
  have A4 := Aside0.mk A40
  clear A40
  replace H := Option.bind_eq_some_iff.mp H
  obtain ⟨⟨t426, t427⟩, A50, H⟩ := H
  replace H : ((backoff_All.f a0_0 a0_1 a0_2 a1).bind fun bt428 => ((backoff_Right.f a0_0 a0_1 a0_2).bind fun t430 => ((foghornref06_Right.f a0_0 a0_1 a0_2).bind fun t431 => (if (t430 != t431) = true then (foghornlaw06_BackoffTells.j0 k a1 a2 t424 t425 t426 t427 bt428.1 bt428.2 true a0_0 a0_1 a0_2) else ((foghornlaw06_alive.f).bind fun t432 => (foghornlaw06_BackoffTells.j0 k a1 a2 t424 t425 t426 t427 bt428.1 bt428.2 (!t432) a0_0 a0_1 a0_2)))))) = some r := H
  have A5 := Aside0.mk A50
  clear A50
  replace H := Option.bind_eq_some_iff.mp H
  obtain ⟨⟨t428, t429⟩, A60, H⟩ := H
  replace H : ((backoff_Right.f a0_0 a0_1 a0_2).bind fun t430 => ((foghornref06_Right.f a0_0 a0_1 a0_2).bind fun t431 => (if (t430 != t431) = true then (foghornlaw06_BackoffTells.j0 k a1 a2 t424 t425 t426 t427 t428 t429 true a0_0 a0_1 a0_2) else ((foghornlaw06_alive.f).bind fun t432 => (foghornlaw06_BackoffTells.j0 k a1 a2 t424 t425 t426 t427 t428 t429 (!t432) a0_0 a0_1 a0_2))))) = some r := H
  have A6 := Aside0.mk A60
  clear A60
  have HC7 := Aside0.mk H
  clear H
  go_enter Try.func12, Try.ntmps12
  go_upto_region 4 with (first | ((with_reducible refine gate_dst (N := 3) rfl ?_); refine box_event ?hg (N := 3) ?hd (cs := #[.int .i64 a0_0, .int .i64 a0_1, .int .i64 a0_2]) (t := 23) ?hr ?_; (case hd => rfl); (case hg => rfl); (case hr => first | (go_simp; done) | (go_simp; rfl)); intro gb423 hg w8 hbox hb; have n0_ := Aside0.mk (below_step (by repeat (first | (with_reducible first | exact HB.out | apply below_alloc | apply pw_below_drewN | apply below_drew1) | exact HB.out)) hb); have n1_ := Aside0.mk (hbox); have n2_ := Aside0.mk ((by rw [hg]; exact (below_size (by repeat (first | (with_reducible first | exact HB.out | apply below_alloc | apply pw_below_drewN | apply below_drew1) | exact HB.out))) : w.heap.size ≤ gb423)); have n3_ := Aside0.mk ((by rw [hg]; exact (below_size (by repeat (first | (with_reducible first | exact HB.out | apply below_alloc | apply pw_below_drewN | apply below_drew1) | exact HB.out))) : w.heap.size ≤ gb423)); clear HB; have HB := n0_; have BK423 := n1_; have GW423 := n2_; have GE423 := n3_; clear n0_ n1_ n2_ n3_; clear hb hbox hg; have hcz9_0 : w8.cell? ⟨gb423, 0, none⟩ = some (.int .i64 a0_0) := (blk_cell BK423.out 0).trans rfl; have hcz9_1 : w8.cell? ⟨gb423, 1, none⟩ = some (.int .i64 a0_1) := (blk_cell BK423.out 1).trans rfl; have hcz9_2 : w8.cell? ⟨gb423, 2, none⟩ = some (.int .i64 a0_2) := (blk_cell BK423.out 2).trans rfl; have hfz9_0 := blk_frozen BK423.out 0; have hfz9_1 := blk_frozen BK423.out 1; have hfz9_2 := blk_frozen BK423.out 2) | ((with_reducible refine gate_callee (f := 15) rfl ?_); refine goesL_ (some 16) rfl rfl Try.func15 (by kernel_rfl) rfl #[.agg #[.int .i64 a0_0, .int .i64 a0_1, .int .i64 a0_2], .int .i64 a1] rfl (by (try simp only [List.map_toArray, List.map_cons, List.map_nil]); first | done | rfl | (simp only [List.length_drop, List.length_take]; rfl)) ?_; (with_reducible refine (backoff_Step.calls a0_0 a0_1 a0_2 a1 t424 t425 _ A4.out).mono ?_); rintro e w10 ⟨rfl, hb⟩; refine ⟨_, rfl, ?_⟩; have n0_ := Aside0.mk (blk_below (g := gb423) (o := .cells #[.int .i64 a0_0, .int .i64 a0_1, .int .i64 a0_2] 23 (0, 0)) (by (with_reducible repeat (first | refine blk_drewN ?_ _ | refine blk_drew ?_ | refine blk_alloc ?_ _)); exact BK423.out) hb); have n1_ := Aside0.mk (below_step (by repeat (first | (with_reducible first | exact HB.out | apply below_alloc | apply pw_below_drewN | apply below_drew1 | refine below_set ?_ GE423.out) | exact HB.out)) hb); clear BK423; clear HB; have BK423 := n0_; have HB := n1_; clear n0_ n1_; (try clear hb); (try clear hb2); (try clear hk); (try clear hi); have hcz11_0 : w10.cell? ⟨gb423, 0, none⟩ = some (.int .i64 a0_0) := (blk_cell BK423.out 0).trans rfl; have hcz11_1 : w10.cell? ⟨gb423, 1, none⟩ = some (.int .i64 a0_1) := (blk_cell BK423.out 1).trans rfl; have hcz11_2 : w10.cell? ⟨gb423, 2, none⟩ = some (.int .i64 a0_2) := (blk_cell BK423.out 2).trans rfl; have hfz11_0 := blk_frozen BK423.out 0; have hfz11_1 := blk_frozen BK423.out 1; have hfz11_2 := blk_frozen BK423.out 2) | ((with_reducible refine gate_callee (f := 17) rfl ?_); refine goesL_ (some 23) rfl rfl Try.func17 (by kernel_rfl) rfl #[.agg #[.int .i64 a0_0, .int .i64 a0_1, .int .i64 a0_2], .int .i64 a1, .int .i64 a2] rfl (by (try simp only [List.map_toArray, List.map_cons, List.map_nil]); first | done | rfl | (simp only [List.length_drop, List.length_take]; rfl)) ?_; (with_reducible refine (backoff_Wait.calls a0_0 a0_1 a0_2 a1 a2 t426 t427 _ A5.out).mono ?_); rintro e w12 ⟨rfl, hb⟩; refine ⟨_, rfl, ?_⟩; have n0_ := Aside0.mk (blk_below (g := gb423) (o := .cells #[.int .i64 a0_0, .int .i64 a0_1, .int .i64 a0_2] 23 (0, 0)) (by (with_reducible repeat (first | refine blk_drewN ?_ _ | refine blk_drew ?_ | refine blk_alloc ?_ _)); exact BK423.out) hb); have n1_ := Aside0.mk (below_step (by repeat (first | (with_reducible first | exact HB.out | apply below_alloc | apply pw_below_drewN | apply below_drew1 | refine below_set ?_ GE423.out) | exact HB.out)) hb); clear BK423; clear HB; have BK423 := n0_; have HB := n1_; clear n0_ n1_; (try clear hb); (try clear hb2); (try clear hk); (try clear hi); have hcz13_0 : w12.cell? ⟨gb423, 0, none⟩ = some (.int .i64 a0_0) := (blk_cell BK423.out 0).trans rfl; have hcz13_1 : w12.cell? ⟨gb423, 1, none⟩ = some (.int .i64 a0_1) := (blk_cell BK423.out 1).trans rfl; have hcz13_2 : w12.cell? ⟨gb423, 2, none⟩ = some (.int .i64 a0_2) := (blk_cell BK423.out 2).trans rfl; have hfz13_0 := blk_frozen BK423.out 0; have hfz13_1 := blk_frozen BK423.out 1; have hfz13_2 := blk_frozen BK423.out 2) | ((with_reducible refine gate_callee (f := 43) rfl ?_); refine goesL_ (some 29) rfl rfl Try.func43 (by kernel_rfl) rfl #[.agg #[.int .i64 a0_0, .int .i64 a0_1, .int .i64 a0_2], .int .i64 a1] rfl (by (try simp only [List.map_toArray, List.map_cons, List.map_nil]); first | done | rfl | (simp only [List.length_drop, List.length_take]; rfl)) ?_; (with_reducible refine (backoff_All.calls a0_0 a0_1 a0_2 a1 t428 t429 _ A6.out).mono ?_); rintro e w14 ⟨rfl, hb⟩; refine ⟨_, rfl, ?_⟩; have n0_ := Aside0.mk (blk_below (g := gb423) (o := .cells #[.int .i64 a0_0, .int .i64 a0_1, .int .i64 a0_2] 23 (0, 0)) (by (with_reducible repeat (first | refine blk_drewN ?_ _ | refine blk_drew ?_ | refine blk_alloc ?_ _)); exact BK423.out) hb); have n1_ := Aside0.mk (below_step (by repeat (first | (with_reducible first | exact HB.out | apply below_alloc | apply pw_below_drewN | apply below_drew1 | refine below_set ?_ GE423.out) | exact HB.out)) hb); clear BK423; clear HB; have BK423 := n0_; have HB := n1_; clear n0_ n1_; (try clear hb); (try clear hb2); (try clear hk); (try clear hi)))
  (try simp only [Act.put, List.setIfInBounds_toArray, List.set_cons_zero, List.set_cons_succ])
  go_cut [40] (fun v40 wc => ∃ (kq : Nat) (x40_6 : Bool), v40 = .bool x40_6 ∧ Aside0 (foghornlaw06_BackoffTells.j0 kq a1 a2 t424 t425 t426 t427 t428 t429 x40_6 a0_0 a0_1 a0_2 = some r) ∧ Aside0 (kq ≤ k) ∧ Aside0 (wc.heap[gb423]? = some (.cells #[.int .i64 a0_0, .int .i64 a0_1, .int .i64 a0_2] 23 (0, 0))) ∧ Aside0 (Below w.heap.size w wc))
  case first =>
    have H := HC7.out
    clear HC7
    replace H := Option.bind_eq_some_iff.mp H
    obtain ⟨t430, A150, H⟩ := H
    replace H : ((foghornref06_Right.f a0_0 a0_1 a0_2).bind fun t431 => (if (t430 != t431) = true then (foghornlaw06_BackoffTells.j0 k a1 a2 t424 t425 t426 t427 t428 t429 true a0_0 a0_1 a0_2) else ((foghornlaw06_alive.f).bind fun t432 => (foghornlaw06_BackoffTells.j0 k a1 a2 t424 t425 t426 t427 t428 t429 (!t432) a0_0 a0_1 a0_2)))) = some r := H
    have A15 := Aside0.mk A150
    clear A150
    replace H := Option.bind_eq_some_iff.mp H
    obtain ⟨t431, A160, H⟩ := H
    replace H : (if (t430 != t431) = true then (foghornlaw06_BackoffTells.j0 k a1 a2 t424 t425 t426 t427 t428 t429 true a0_0 a0_1 a0_2) else ((foghornlaw06_alive.f).bind fun t432 => (foghornlaw06_BackoffTells.j0 k a1 a2 t424 t425 t426 t427 t428 t429 (!t432) a0_0 a0_1 a0_2))) = some r := H
    have A16 := Aside0.mk A160
    clear A160
    by_cases c17 : (t430 != t431) = true
    · rw [if_pos c17] at H
      have c17b0 : (t430 != t431) = true := c17
      (try (have c17b1 : decide (t430 = t431) = false := by simpa using c17))
      (try (have c17b2 : (t430 == t431) = false := by simpa using c17))
      (try (have c17b3 : ¬ (t430 = t431) := by simpa using c17))
      clear c17
      (first | rw [c17b0] | (simp only [i64_w, i32_w]; rw [c17b0]) | skip)
      have H' := Aside0.mk H
      clear H
      try go_wp2
      have n0_ := Aside0.mk (blk_drew BK423.out)
      have n1_ := Aside0.mk (below_drew1 HB.out)
      clear BK423
      clear HB
      have BK423 := n0_
      have HB := n1_
      clear n0_ n1_
      refine start_ (n := 9) (S := fun w' => w'.cell? ⟨gb423, 0, none⟩ = some (.int .i64 a0_0) ∧ w'.cell? ⟨gb423, 1, none⟩ = some (.int .i64 a0_1) ∧ w'.cell? ⟨gb423, 2, none⟩ = some (.int .i64 a0_2)) (ds := []) #[false, false, false, false, false, false, false, false, false] (by kernel_rfl) rfl rfl ⟨(blk_cell BK423.out 0).trans rfl, (blk_cell BK423.out 1).trans rfl, (blk_cell BK423.out 2).trans rfl⟩ (fun hHeld => ?_); refine with_tabW foghornlaw06_BackoffTells.tab4 foghornlaw06_BackoffTells.bits4 (fun HT_ HW_ => ?_)
      generalize w14.drew = w18 at BK423 HB hHeld ⊢
      refine take_ (i := 0) (N := some 32) (v := ?_) (a' := ?_) #[true, false, false, false, false, false, false, false, false] rfl rfl (take_ofW HT_.out HW_.out (by kernel_rfl)) (fun _ _ _ h => h) (Or.inl ⟨by rfl, ?_⟩) hHeld ?_ ?_
      rotate_left
      · rintro w' ⟨s0, s1, s2⟩
        go_simp
        with_reducible rfl
      rotate_left
      · simp only [Act.put, List.setIfInBounds_toArray, List.set_cons_zero, List.set_cons_succ, i64_w, i32_w]
        rfl
      refine take_ (i := 2) (N := some 34) (v := ?_) (a' := ?_) #[true, false, true, false, false, false, false, false, false] rfl rfl (take_ofW HT_.out HW_.out (by kernel_rfl)) (fun _ _ _ h => h) (Or.inl ⟨by rfl, ?_⟩) hHeld ?_ ?_
      rotate_left
      · rintro w' ⟨s0, s1, s2⟩
        go_simp
        with_reducible rfl
      rotate_left
      · simp only [Act.put, List.setIfInBounds_toArray, List.set_cons_zero, List.set_cons_succ, i64_w, i32_w]
        rfl
      refine one_ (i := 1) (N := some 33) #[true, true, true, false, false, false, false, false, false] rfl rfl (one_of HT_.out (by kernel_rfl)) (by decide) (fun K hK => ?_)
      refine goes_ Try.func44 (by kernel_rfl) rfl #[.agg #[.int .i64 a0_0, .int .i64 a0_1, .int .i64 a0_2]] (by rfl) rfl rfl (by (try simp only [List.map_toArray, List.map_cons, List.map_nil]); first | done | rfl | (simp only [List.length_drop, List.length_take]; rfl)) ?_
      with_reducible refine (backoff_Right.calls a0_0 a0_1 a0_2 t430 _ A15.out).mono ?_
      rintro e w19 ⟨rfl, hb⟩
      refine ⟨_, rfl, ?_⟩
      have n0_ := Aside0.mk (blk_below (g := gb423) (o := .cells #[.int .i64 a0_0, .int .i64 a0_1, .int .i64 a0_2] 23 (0, 0)) (by (with_reducible repeat (first | refine blk_drewN ?_ _ | refine blk_drew ?_ | refine blk_alloc ?_ _)); exact BK423.out) hb)
      have n1_ := Aside0.mk (below_step (by repeat (first | (with_reducible first | exact HB.out | apply below_alloc | apply pw_below_drewN | apply below_drew1 | refine below_set ?_ GE423.out) | exact HB.out)) hb)
      clear BK423
      clear HB
      have BK423 := n0_
      have HB := n1_
      clear n0_ n1_
      (try clear hb)
      (try clear hb2)
      (try clear hk)
      (try clear hi)
      refine hK.out _ _ ⟨(blk_cell BK423.out 0).trans rfl, (blk_cell BK423.out 1).trans rfl, (blk_cell BK423.out 2).trans rfl⟩ (fun hHeld => ?_)
      clear hK K
      refine norm_ (a' := ?_) ?_ ?_
      rotate_left
      · show Act.put _ (some 33) _ = _
        simp only [Act.put, List.setIfInBounds_toArray, List.set_cons_zero, List.set_cons_succ, i64_w, i32_w]
        rfl
      refine one_ (i := 3) (N := some 35) #[true, true, true, true, false, false, false, false, false] rfl rfl (one_of HT_.out (by kernel_rfl)) (by decide) (fun K hK => ?_)
      refine goes_ Try.func45 (by kernel_rfl) rfl #[.agg #[.int .i64 a0_0, .int .i64 a0_1, .int .i64 a0_2]] (by rfl) rfl rfl (by (try simp only [List.map_toArray, List.map_cons, List.map_nil]); first | done | rfl | (simp only [List.length_drop, List.length_take]; rfl)) ?_
      with_reducible refine (foghornref06_Right.calls a0_0 a0_1 a0_2 t431 _ A16.out).mono ?_
      rintro e w20 ⟨rfl, hb⟩
      refine ⟨_, rfl, ?_⟩
      have n0_ := Aside0.mk (blk_below (g := gb423) (o := .cells #[.int .i64 a0_0, .int .i64 a0_1, .int .i64 a0_2] 23 (0, 0)) (by (with_reducible repeat (first | refine blk_drewN ?_ _ | refine blk_drew ?_ | refine blk_alloc ?_ _)); exact BK423.out) hb)
      have n1_ := Aside0.mk (below_step (by repeat (first | (with_reducible first | exact HB.out | apply below_alloc | apply pw_below_drewN | apply below_drew1 | refine below_set ?_ GE423.out) | exact HB.out)) hb)
      clear BK423
      clear HB
      have BK423 := n0_
      have HB := n1_
      clear n0_ n1_
      (try clear hb)
      (try clear hb2)
      (try clear hk)
      (try clear hi)
      refine hK.out _ _ ⟨(blk_cell BK423.out 0).trans rfl, (blk_cell BK423.out 1).trans rfl, (blk_cell BK423.out 2).trans rfl⟩ (fun hHeld => ?_)
      clear hK K
      refine norm_ (a' := ?_) ?_ ?_
      rotate_left
      · show Act.put _ (some 35) _ = _
        simp only [Act.put, List.setIfInBounds_toArray, List.set_cons_zero, List.set_cons_succ, i64_w, i32_w]
        rfl
      refine pure_ (i := 4) (N := some 36) (v := ?_) (a' := ?_) #[true, true, true, true, true, false, false, false, false] rfl rfl (any_of HT_.out (by kernel_rfl)) (fun _ _ _ h => h) (Or.inl ⟨by rfl, ?_⟩) ?_ ?_
      rotate_left
      · intro w'
        go_simp
        with_reducible rfl
      rotate_left
      · simp only [Act.put, List.setIfInBounds_toArray, List.set_cons_zero, List.set_cons_succ, i64_w, i32_w]
        rfl
      refine pure_ (i := 5) (N := some 37) (v := ?_) (a' := ?_) #[true, true, true, true, true, true, false, false, false] rfl rfl (any_of HT_.out (by kernel_rfl)) (fun _ _ _ h => h) (Or.inl ⟨by rfl, ?_⟩) ?_ ?_
      rotate_left
      · intro w'
        go_simp
        with_reducible rfl
      rotate_left
      · simp only [Act.put, List.setIfInBounds_toArray, List.set_cons_zero, List.set_cons_succ, i64_w, i32_w]
        rfl
      refine pure_ (i := 6) (N := some 38) (v := undef) (a' := ?_) #[true, true, true, true, true, true, true, false, false] rfl rfl (any_of HT_.out (by kernel_rfl)) (fun _ _ _ h => h) (Or.inr ⟨by rfl, rfl⟩) ?_ ?_
      rotate_left
      · simp only [Act.put, List.setIfInBounds_toArray, List.set_cons_zero, List.set_cons_succ, i64_w, i32_w]
        rfl
      refine pure_ (i := 7) (N := some 39) (v := undef) (a' := ?_) #[true, true, true, true, true, true, true, true, false] rfl rfl (any_of HT_.out (by kernel_rfl)) (fun _ _ _ h => h) (Or.inr ⟨by rfl, rfl⟩) ?_ ?_
      rotate_left
      · simp only [Act.put, List.setIfInBounds_toArray, List.set_cons_zero, List.set_cons_succ, i64_w, i32_w]
        rfl
      refine pure_ (i := 8) (N := some 40) (v := ?_) (a' := ?_) #[true, true, true, true, true, true, true, true, true] rfl rfl (any_of HT_.out (by kernel_rfl)) (fun _ _ _ h => h) (Or.inl ⟨by rfl, ?_⟩) ?_ ?_
      rotate_left
      · intro w'
        go_simp
        with_reducible rfl
      rotate_left
      · simp only [Act.put, List.setIfInBounds_toArray, List.set_cons_zero, List.set_cons_succ, i64_w, i32_w]
        rfl
      refine done_ (done_of HT_.out (by kernel_rfl)) ?_
      try go_wp2
      go_meet
      case rel => exact ⟨_, (true), (by first | rfl | (simp; done) | (simp [*]; done)), H', ⟨by first | omega | exact Nat.le_refl _⟩, ⟨by (with_reducible repeat (first | refine blk_drewN ?_ _ | refine blk_drew ?_ | refine blk_alloc ?_ _)); exact BK423.out⟩, ⟨by repeat (first | (with_reducible first | exact HB.out | apply below_alloc | apply pw_below_drewN | apply below_drew1 | refine below_set ?_ GE423.out) | exact HB.out)⟩⟩
    · rw [if_neg c17] at H
      have c17b0 : (t430 != t431) = false := by simpa using c17
      (try (have c17b1 : decide (t430 = t431) = true := by simpa using c17))
      (try (have c17b2 : (t430 == t431) = true := by simpa using c17))
      clear c17
      (first | rw [c17b0] | (simp only [i64_w, i32_w]; rw [c17b0]) | skip)
      replace H := Option.bind_eq_some_iff.mp H
      obtain ⟨t432, A210, H⟩ := H
      replace H : (foghornlaw06_BackoffTells.j0 k a1 a2 t424 t425 t426 t427 t428 t429 (!t432) a0_0 a0_1 a0_2) = some r := H
      have A21 := Aside0.mk A210
      clear A210
      have H' := Aside0.mk H
      clear H
      try go_wp2
      have n0_ := Aside0.mk (blk_drew BK423.out)
      have n1_ := Aside0.mk (below_drew1 HB.out)
      clear BK423
      clear HB
      have BK423 := n0_
      have HB := n1_
      clear n0_ n1_
      refine start_ (n := 9) (S := fun w' => w'.cell? ⟨gb423, 0, none⟩ = some (.int .i64 a0_0) ∧ w'.cell? ⟨gb423, 1, none⟩ = some (.int .i64 a0_1) ∧ w'.cell? ⟨gb423, 2, none⟩ = some (.int .i64 a0_2)) (ds := []) #[false, false, false, false, false, false, false, false, false] (by kernel_rfl) rfl rfl ⟨(blk_cell BK423.out 0).trans rfl, (blk_cell BK423.out 1).trans rfl, (blk_cell BK423.out 2).trans rfl⟩ (fun hHeld => ?_); refine with_tabW foghornlaw06_BackoffTells.tab4 foghornlaw06_BackoffTells.bits4 (fun HT_ HW_ => ?_)
      generalize w14.drew = w22 at BK423 HB hHeld ⊢
      refine take_ (i := 0) (N := some 32) (v := ?_) (a' := ?_) #[true, false, false, false, false, false, false, false, false] rfl rfl (take_ofW HT_.out HW_.out (by kernel_rfl)) (fun _ _ _ h => h) (Or.inl ⟨by rfl, ?_⟩) hHeld ?_ ?_
      rotate_left
      · rintro w' ⟨s0, s1, s2⟩
        go_simp
        with_reducible rfl
      rotate_left
      · simp only [Act.put, List.setIfInBounds_toArray, List.set_cons_zero, List.set_cons_succ, i64_w, i32_w]
        rfl
      refine take_ (i := 2) (N := some 34) (v := ?_) (a' := ?_) #[true, false, true, false, false, false, false, false, false] rfl rfl (take_ofW HT_.out HW_.out (by kernel_rfl)) (fun _ _ _ h => h) (Or.inl ⟨by rfl, ?_⟩) hHeld ?_ ?_
      rotate_left
      · rintro w' ⟨s0, s1, s2⟩
        go_simp
        with_reducible rfl
      rotate_left
      · simp only [Act.put, List.setIfInBounds_toArray, List.set_cons_zero, List.set_cons_succ, i64_w, i32_w]
        rfl
      refine one_ (i := 1) (N := some 33) #[true, true, true, false, false, false, false, false, false] rfl rfl (one_of HT_.out (by kernel_rfl)) (by decide) (fun K hK => ?_)
      refine goes_ Try.func44 (by kernel_rfl) rfl #[.agg #[.int .i64 a0_0, .int .i64 a0_1, .int .i64 a0_2]] (by rfl) rfl rfl (by (try simp only [List.map_toArray, List.map_cons, List.map_nil]); first | done | rfl | (simp only [List.length_drop, List.length_take]; rfl)) ?_
      with_reducible refine (backoff_Right.calls a0_0 a0_1 a0_2 t430 _ A15.out).mono ?_
      rintro e w23 ⟨rfl, hb⟩
      refine ⟨_, rfl, ?_⟩
      have n0_ := Aside0.mk (blk_below (g := gb423) (o := .cells #[.int .i64 a0_0, .int .i64 a0_1, .int .i64 a0_2] 23 (0, 0)) (by (with_reducible repeat (first | refine blk_drewN ?_ _ | refine blk_drew ?_ | refine blk_alloc ?_ _)); exact BK423.out) hb)
      have n1_ := Aside0.mk (below_step (by repeat (first | (with_reducible first | exact HB.out | apply below_alloc | apply pw_below_drewN | apply below_drew1 | refine below_set ?_ GE423.out) | exact HB.out)) hb)
      clear BK423
      clear HB
      have BK423 := n0_
      have HB := n1_
      clear n0_ n1_
      (try clear hb)
      (try clear hb2)
      (try clear hk)
      (try clear hi)
      refine hK.out _ _ ⟨(blk_cell BK423.out 0).trans rfl, (blk_cell BK423.out 1).trans rfl, (blk_cell BK423.out 2).trans rfl⟩ (fun hHeld => ?_)
      clear hK K
      refine norm_ (a' := ?_) ?_ ?_
      rotate_left
      · show Act.put _ (some 33) _ = _
        simp only [Act.put, List.setIfInBounds_toArray, List.set_cons_zero, List.set_cons_succ, i64_w, i32_w]
        rfl
      refine one_ (i := 3) (N := some 35) #[true, true, true, true, false, false, false, false, false] rfl rfl (one_of HT_.out (by kernel_rfl)) (by decide) (fun K hK => ?_)
      refine goes_ Try.func45 (by kernel_rfl) rfl #[.agg #[.int .i64 a0_0, .int .i64 a0_1, .int .i64 a0_2]] (by rfl) rfl rfl (by (try simp only [List.map_toArray, List.map_cons, List.map_nil]); first | done | rfl | (simp only [List.length_drop, List.length_take]; rfl)) ?_
      with_reducible refine (foghornref06_Right.calls a0_0 a0_1 a0_2 t431 _ A16.out).mono ?_
      rintro e w24 ⟨rfl, hb⟩
      refine ⟨_, rfl, ?_⟩
      have n0_ := Aside0.mk (blk_below (g := gb423) (o := .cells #[.int .i64 a0_0, .int .i64 a0_1, .int .i64 a0_2] 23 (0, 0)) (by (with_reducible repeat (first | refine blk_drewN ?_ _ | refine blk_drew ?_ | refine blk_alloc ?_ _)); exact BK423.out) hb)
      have n1_ := Aside0.mk (below_step (by repeat (first | (with_reducible first | exact HB.out | apply below_alloc | apply pw_below_drewN | apply below_drew1 | refine below_set ?_ GE423.out) | exact HB.out)) hb)
      clear BK423
      clear HB
      have BK423 := n0_
      have HB := n1_
      clear n0_ n1_
      (try clear hb)
      (try clear hb2)
      (try clear hk)
      (try clear hi)
      refine hK.out _ _ ⟨(blk_cell BK423.out 0).trans rfl, (blk_cell BK423.out 1).trans rfl, (blk_cell BK423.out 2).trans rfl⟩ (fun hHeld => ?_)
      clear hK K
      refine norm_ (a' := ?_) ?_ ?_
      rotate_left
      · show Act.put _ (some 35) _ = _
        simp only [Act.put, List.setIfInBounds_toArray, List.set_cons_zero, List.set_cons_succ, i64_w, i32_w]
        rfl
      refine pure_ (i := 4) (N := some 36) (v := ?_) (a' := ?_) #[true, true, true, true, true, false, false, false, false] rfl rfl (any_of HT_.out (by kernel_rfl)) (fun _ _ _ h => h) (Or.inl ⟨by rfl, ?_⟩) ?_ ?_
      rotate_left
      · intro w'
        go_simp
        with_reducible rfl
      rotate_left
      · simp only [Act.put, List.setIfInBounds_toArray, List.set_cons_zero, List.set_cons_succ, i64_w, i32_w]
        rfl
      refine pure_ (i := 5) (N := some 37) (v := ?_) (a' := ?_) #[true, true, true, true, true, true, false, false, false] rfl rfl (any_of HT_.out (by kernel_rfl)) (fun _ _ _ h => h) (Or.inl ⟨by rfl, ?_⟩) ?_ ?_
      rotate_left
      · intro w'
        go_simp
        with_reducible rfl
      rotate_left
      · simp only [Act.put, List.setIfInBounds_toArray, List.set_cons_zero, List.set_cons_succ, i64_w, i32_w]
        rfl
      refine one_ (i := 6) (N := some 38) #[true, true, true, true, true, true, true, false, false] rfl rfl (one_of HT_.out (by kernel_rfl)) (by decide) (fun K hK => ?_)
      refine goes_ Try.func16 (by kernel_rfl) rfl #[] (by rfl) rfl rfl (by (try simp only [List.map_toArray, List.map_cons, List.map_nil]); first | done | rfl | (simp only [List.length_drop, List.length_take]; rfl)) ?_
      with_reducible refine (foghornlaw06_alive.calls  t432 _ A21.out).mono ?_
      rintro e w25 ⟨rfl, hb⟩
      refine ⟨_, rfl, ?_⟩
      have n0_ := Aside0.mk (blk_below (g := gb423) (o := .cells #[.int .i64 a0_0, .int .i64 a0_1, .int .i64 a0_2] 23 (0, 0)) (by (with_reducible repeat (first | refine blk_drewN ?_ _ | refine blk_drew ?_ | refine blk_alloc ?_ _)); exact BK423.out) hb)
      have n1_ := Aside0.mk (below_step (by repeat (first | (with_reducible first | exact HB.out | apply below_alloc | apply pw_below_drewN | apply below_drew1 | refine below_set ?_ GE423.out) | exact HB.out)) hb)
      clear BK423
      clear HB
      have BK423 := n0_
      have HB := n1_
      clear n0_ n1_
      (try clear hb)
      (try clear hb2)
      (try clear hk)
      (try clear hi)
      refine hK.out _ _ ⟨(blk_cell BK423.out 0).trans rfl, (blk_cell BK423.out 1).trans rfl, (blk_cell BK423.out 2).trans rfl⟩ (fun hHeld => ?_)
      clear hK K
      refine norm_ (a' := ?_) ?_ ?_
      rotate_left
      · show Act.put _ (some 38) _ = _
        simp only [Act.put, List.setIfInBounds_toArray, List.set_cons_zero, List.set_cons_succ, i64_w, i32_w]
        rfl
      refine pure_ (i := 7) (N := some 39) (v := ?_) (a' := ?_) #[true, true, true, true, true, true, true, true, false] rfl rfl (any_of HT_.out (by kernel_rfl)) (fun _ _ _ h => h) (Or.inl ⟨by rfl, ?_⟩) ?_ ?_
      rotate_left
      · intro w'
        go_simp
        with_reducible rfl
      rotate_left
      · simp only [Act.put, List.setIfInBounds_toArray, List.set_cons_zero, List.set_cons_succ, i64_w, i32_w]
        rfl
      refine pure_ (i := 8) (N := some 40) (v := ?_) (a' := ?_) #[true, true, true, true, true, true, true, true, true] rfl rfl (any_of HT_.out (by kernel_rfl)) (fun _ _ _ h => h) (Or.inl ⟨by rfl, ?_⟩) ?_ ?_
      rotate_left
      · intro w'
        go_simp
        with_reducible rfl
      rotate_left
      · simp only [Act.put, List.setIfInBounds_toArray, List.set_cons_zero, List.set_cons_succ, i64_w, i32_w]
        rfl
      refine done_ (done_of HT_.out (by kernel_rfl)) ?_
      try go_wp2
      go_meet
      case rel => exact ⟨_, (!t432), (by first | rfl | (simp; done) | (simp [*]; done)), H', ⟨by first | omega | exact Nat.le_refl _⟩, ⟨by (with_reducible repeat (first | refine blk_drewN ?_ _ | refine blk_drew ?_ | refine blk_alloc ?_ _)); exact BK423.out⟩, ⟨by repeat (first | (with_reducible first | exact HB.out | apply below_alloc | apply pw_below_drewN | apply below_drew1 | refine below_set ?_ GE423.out) | exact HB.out)⟩⟩
  case rest =>
    clear HC7
    try clear c1
    try clear p2
    try clear c4
    try clear c12
    try clear c15
    try clear c16
    try clear c17
    try clear c17b0
    try clear c17b1
    try clear c17b2
    try clear hcz11_0
    try clear hcz11_1
    try clear hcz11_2
    try clear hcz13_0
    try clear hcz13_1
    try clear hcz13_2
    try clear hcz9_0
    try clear hcz9_1
    try clear hcz9_2
    try clear hfz11_0
    try clear hfz11_1
    try clear hfz11_2
    try clear hfz13_0
    try clear hfz13_1
    try clear hfz13_2
    try clear hfz9_0
    try clear hfz9_1
    try clear hfz9_2
    obtain ⟨kq, x40_6, rfl, HA, HJ6, BK423, HB⟩ := hcut
    cases kq with
    | zero => exact absurd HA.out (by simp [foghornlaw06_BackoffTells.j0])
    | succ kj6 =>
      have H := HA.out
      clear HA
      simp only [foghornlaw06_BackoffTells.j0] at H
      by_cases c26 : x40_6 = true
      · subst c26
        have H1 : (some false) = some r := by rw [if_pos rfl] at H; exact H
        clear H
        have H := H1
        clear H1
        obtain rfl := Option.some.inj H
        go_wp2
        go_ret
        exact ⟨by first | rfl | (simp [errW_none, errW_some] <;> rfl) | (simp [*, errW_none, errW_some] <;> rfl), by repeat (first | (with_reducible first | exact HB.out | apply below_alloc | apply pw_below_drewN | apply below_drew1 | refine below_set ?_ GE423.out) | exact HB.out)⟩
      · replace c26 := Bool.eq_false_iff.mpr c26
        subst c26
        have H1 : ((foghornref06_Right.f a0_0 a0_1 a0_2).bind fun t433 => (if t433 = true then (foghornlaw06_BackoffTells.j1 kj6 a1 a2 t424 t425 t426 t427 t428 t429 (decide (a1 < 0)) a0_0 a0_1 a0_2) else (foghornlaw06_BackoffTells.j1 kj6 a1 a2 t424 t425 t426 t427 t428 t429 true a0_0 a0_1 a0_2))) = some r := by rw [if_neg (show ¬ (false = true) by decide)] at H; exact H
        clear H
        have H := H1
        clear H1
        have HC27 := Aside0.mk H
        clear H
        go_upto_region 6 with (fail)
        go_cut [47] (fun v47 wc => ∃ (kq : Nat) (x47_26 : Bool), v47 = .bool x47_26 ∧ Aside0 (foghornlaw06_BackoffTells.j1 kq a1 a2 t424 t425 t426 t427 t428 t429 x47_26 a0_0 a0_1 a0_2 = some r) ∧ Aside0 (kq ≤ kj6) ∧ Aside0 (wc.heap[gb423]? = some (.cells #[.int .i64 a0_0, .int .i64 a0_1, .int .i64 a0_2] 23 (0, 0))) ∧ Aside0 (Below w.heap.size w wc))
        case first =>
          have H := HC27.out
          clear HC27
          replace H := Option.bind_eq_some_iff.mp H
          obtain ⟨t433, A280, H⟩ := H
          replace H : (if t433 = true then (foghornlaw06_BackoffTells.j1 kj6 a1 a2 t424 t425 t426 t427 t428 t429 (decide (a1 < 0)) a0_0 a0_1 a0_2) else (foghornlaw06_BackoffTells.j1 kj6 a1 a2 t424 t425 t426 t427 t428 t429 true a0_0 a0_1 a0_2)) = some r := H
          have A28 := Aside0.mk A280
          clear A280
          by_cases c29 : t433 = true
          · subst c29
            have H1 : (foghornlaw06_BackoffTells.j1 kj6 a1 a2 t424 t425 t426 t427 t428 t429 (decide (a1 < 0)) a0_0 a0_1 a0_2) = some r := by rw [if_pos rfl] at H; exact H
            clear H
            have H := H1
            clear H1
            have H' := Aside0.mk H
            clear H
            have hcz30_0 : wc.cell? ⟨gb423, 0, none⟩ = some (.int .i64 a0_0) := (blk_cell BK423.out 0).trans rfl
            have hcz30_1 : wc.cell? ⟨gb423, 1, none⟩ = some (.int .i64 a0_1) := (blk_cell BK423.out 1).trans rfl
            have hcz30_2 : wc.cell? ⟨gb423, 2, none⟩ = some (.int .i64 a0_2) := (blk_cell BK423.out 2).trans rfl
            have hfz30_0 := blk_frozen BK423.out 0
            have hfz30_1 := blk_frozen BK423.out 1
            have hfz30_2 := blk_frozen BK423.out 2
            go_wp2_with (first | ((with_reducible refine gate_callee (f := 45) rfl ?_); refine goesL_ (some 42) rfl rfl Try.func45 (by kernel_rfl) rfl #[.agg #[.int .i64 a0_0, .int .i64 a0_1, .int .i64 a0_2]] rfl (by (try simp only [List.map_toArray, List.map_cons, List.map_nil]); first | done | rfl | (simp only [List.length_drop, List.length_take]; rfl)) ?_; (with_reducible refine (foghornref06_Right.calls a0_0 a0_1 a0_2 true _ A28.out).mono ?_); rintro e w31 ⟨rfl, hb⟩; refine ⟨_, rfl, ?_⟩; have n0_ := Aside0.mk (blk_below (g := gb423) (o := .cells #[.int .i64 a0_0, .int .i64 a0_1, .int .i64 a0_2] 23 (0, 0)) (by (with_reducible repeat (first | refine blk_drewN ?_ _ | refine blk_drew ?_ | refine blk_alloc ?_ _)); exact BK423.out) hb); have n1_ := Aside0.mk (below_step (by repeat (first | (with_reducible first | exact HB.out | apply below_alloc | apply pw_below_drewN | apply below_drew1 | refine below_set ?_ GE423.out) | exact HB.out)) hb); clear BK423; clear HB; have BK423 := n0_; have HB := n1_; clear n0_ n1_; (try clear hb); (try clear hb2); (try clear hk); (try clear hi)))
            go_meet
            case rel => exact ⟨_, (decide (a1 < 0)), (by first | rfl | (simp; done) | (simp [*]; done)), H', ⟨by have := HJ6.out; first | omega | exact Nat.le_refl _⟩, ⟨by (with_reducible repeat (first | refine blk_drewN ?_ _ | refine blk_drew ?_ | refine blk_alloc ?_ _)); exact BK423.out⟩, ⟨by repeat (first | (with_reducible first | exact HB.out | apply below_alloc | apply pw_below_drewN | apply below_drew1 | refine below_set ?_ GE423.out) | exact HB.out)⟩⟩
          · replace c29 := Bool.eq_false_iff.mpr c29
            subst c29
            have H1 : (foghornlaw06_BackoffTells.j1 kj6 a1 a2 t424 t425 t426 t427 t428 t429 true a0_0 a0_1 a0_2) = some r := by rw [if_neg (show ¬ (false = true) by decide)] at H; exact H
            clear H
            have H := H1
            clear H1
            have H' := Aside0.mk H
            clear H
            have hcz32_0 : wc.cell? ⟨gb423, 0, none⟩ = some (.int .i64 a0_0) := (blk_cell BK423.out 0).trans rfl
            have hcz32_1 : wc.cell? ⟨gb423, 1, none⟩ = some (.int .i64 a0_1) := (blk_cell BK423.out 1).trans rfl
            have hcz32_2 : wc.cell? ⟨gb423, 2, none⟩ = some (.int .i64 a0_2) := (blk_cell BK423.out 2).trans rfl
            have hfz32_0 := blk_frozen BK423.out 0
            have hfz32_1 := blk_frozen BK423.out 1
            have hfz32_2 := blk_frozen BK423.out 2
            go_wp2_with (first | ((with_reducible refine gate_callee (f := 45) rfl ?_); refine goesL_ (some 42) rfl rfl Try.func45 (by kernel_rfl) rfl #[.agg #[.int .i64 a0_0, .int .i64 a0_1, .int .i64 a0_2]] rfl (by (try simp only [List.map_toArray, List.map_cons, List.map_nil]); first | done | rfl | (simp only [List.length_drop, List.length_take]; rfl)) ?_; (with_reducible refine (foghornref06_Right.calls a0_0 a0_1 a0_2 false _ A28.out).mono ?_); rintro e w33 ⟨rfl, hb⟩; refine ⟨_, rfl, ?_⟩; have n0_ := Aside0.mk (blk_below (g := gb423) (o := .cells #[.int .i64 a0_0, .int .i64 a0_1, .int .i64 a0_2] 23 (0, 0)) (by (with_reducible repeat (first | refine blk_drewN ?_ _ | refine blk_drew ?_ | refine blk_alloc ?_ _)); exact BK423.out) hb); have n1_ := Aside0.mk (below_step (by repeat (first | (with_reducible first | exact HB.out | apply below_alloc | apply pw_below_drewN | apply below_drew1 | refine below_set ?_ GE423.out) | exact HB.out)) hb); clear BK423; clear HB; have BK423 := n0_; have HB := n1_; clear n0_ n1_; (try clear hb); (try clear hb2); (try clear hk); (try clear hi)))
            go_meet
            case rel => exact ⟨_, (true), (by first | rfl | (simp; done) | (simp [*]; done)), H', ⟨by have := HJ6.out; first | omega | exact Nat.le_refl _⟩, ⟨by (with_reducible repeat (first | refine blk_drewN ?_ _ | refine blk_drew ?_ | refine blk_alloc ?_ _)); exact BK423.out⟩, ⟨by repeat (first | (with_reducible first | exact HB.out | apply below_alloc | apply pw_below_drewN | apply below_drew1 | refine below_set ?_ GE423.out) | exact HB.out)⟩⟩
        case rest =>
          clear HC27
          try clear c1
          try clear c2
          try clear p2
          try clear c4
          try clear c12
          try clear c15
          try clear c16
          try clear c17
          try clear c17b0
          try clear c17b1
          try clear c17b2
          try clear c26
          try clear c29
          try clear hcz11_0
          try clear hcz11_1
          try clear hcz11_2
          try clear hcz13_0
          try clear hcz13_1
          try clear hcz13_2
          try clear hcz30_0
          try clear hcz30_1
          try clear hcz30_2
          try clear hcz32_0
          try clear hcz32_1
          try clear hcz32_2
          try clear hcz9_0
          try clear hcz9_1
          try clear hcz9_2
          try clear hfz11_0
          try clear hfz11_1
          try clear hfz11_2
          try clear hfz13_0
          try clear hfz13_1
          try clear hfz13_2
          try clear hfz30_0
          try clear hfz30_1
          try clear hfz30_2
          try clear hfz32_0
          try clear hfz32_1
          try clear hfz32_2
          try clear hfz9_0
          try clear hfz9_1
          try clear hfz9_2
          try clear p2
          obtain ⟨kq, x47_26, rfl, HA, HJ26, BK423, HB⟩ := hcut
          cases kq with
          | zero => exact absurd HA.out (by simp [foghornlaw06_BackoffTells.j1])
          | succ kj26 =>
            have H := HA.out
            clear HA
            simp only [foghornlaw06_BackoffTells.j1] at H
            by_cases c34 : x47_26 = true
            · subst c34
              have H1 : (if t425 = 1 then (if t427 = 1 then (if t429 = 1 then (if t424 = 0 then (if t426 = 0 then (some (t428 == 0)) else (some false)) else (some false)) else (some false)) else (some false)) else (some false)) = some r := by rw [if_pos rfl] at H; exact H
              clear H
              have H := H1
              clear H1
              by_cases c35 : t425 = 1
              · rw [if_pos c35] at H
                have c35b0 : (t425 == 1) = true := beq_iff_eq.mpr c35
                have c35b1 : (t425 != 1) = false := bne_eq_false_iff_eq.mpr c35
                clear c35
                by_cases c36 : t427 = 1
                · rw [if_pos c36] at H
                  have c36b0 : (t427 == 1) = true := beq_iff_eq.mpr c36
                  have c36b1 : (t427 != 1) = false := bne_eq_false_iff_eq.mpr c36
                  clear c36
                  by_cases c37 : t429 = 1
                  · rw [if_pos c37] at H
                    have c37b0 : (t429 == 1) = true := beq_iff_eq.mpr c37
                    have c37b1 : (t429 != 1) = false := bne_eq_false_iff_eq.mpr c37
                    clear c37
                    by_cases c38 : t424 = 0
                    · rw [if_pos c38] at H
                      have c38b0 : (t424 == 0) = true := beq_iff_eq.mpr c38
                      have c38b1 : (t424 != 0) = false := bne_eq_false_iff_eq.mpr c38
                      clear c38
                      by_cases c39 : t426 = 0
                      · rw [if_pos c39] at H
                        have c39b0 : (t426 == 0) = true := beq_iff_eq.mpr c39
                        have c39b1 : (t426 != 0) = false := bne_eq_false_iff_eq.mpr c39
                        clear c39
                        obtain rfl := Option.some.inj H
                        go_wp2
                        go_ret
                        exact ⟨by first | rfl | (simp [errW_none, errW_some] <;> rfl) | (simp [*, errW_none, errW_some] <;> rfl), by repeat (first | (with_reducible first | exact HB.out | apply below_alloc | apply pw_below_drewN | apply below_drew1 | refine below_set ?_ GE423.out) | exact HB.out)⟩
                      · rw [if_neg c39] at H
                        have c39b0 : (t426 == 0) = false := beq_eq_false_iff_ne.mpr c39
                        have c39b1 : (t426 != 0) = true := bne_iff_ne.mpr c39
                        obtain rfl := Option.some.inj H
                        go_wp2
                        go_ret
                        exact ⟨by first | rfl | (simp [errW_none, errW_some] <;> rfl) | (simp [*, errW_none, errW_some] <;> rfl), by repeat (first | (with_reducible first | exact HB.out | apply below_alloc | apply pw_below_drewN | apply below_drew1 | refine below_set ?_ GE423.out) | exact HB.out)⟩
                    · rw [if_neg c38] at H
                      have c38b0 : (t424 == 0) = false := beq_eq_false_iff_ne.mpr c38
                      have c38b1 : (t424 != 0) = true := bne_iff_ne.mpr c38
                      obtain rfl := Option.some.inj H
                      go_wp2
                      go_ret
                      exact ⟨by first | rfl | (simp [errW_none, errW_some] <;> rfl) | (simp [*, errW_none, errW_some] <;> rfl), by repeat (first | (with_reducible first | exact HB.out | apply below_alloc | apply pw_below_drewN | apply below_drew1 | refine below_set ?_ GE423.out) | exact HB.out)⟩
                  · rw [if_neg c37] at H
                    have c37b0 : (t429 == 1) = false := beq_eq_false_iff_ne.mpr c37
                    have c37b1 : (t429 != 1) = true := bne_iff_ne.mpr c37
                    obtain rfl := Option.some.inj H
                    go_wp2
                    go_ret
                    exact ⟨by first | rfl | (simp [errW_none, errW_some] <;> rfl) | (simp [*, errW_none, errW_some] <;> rfl), by repeat (first | (with_reducible first | exact HB.out | apply below_alloc | apply pw_below_drewN | apply below_drew1 | refine below_set ?_ GE423.out) | exact HB.out)⟩
                · rw [if_neg c36] at H
                  have c36b0 : (t427 == 1) = false := beq_eq_false_iff_ne.mpr c36
                  have c36b1 : (t427 != 1) = true := bne_iff_ne.mpr c36
                  obtain rfl := Option.some.inj H
                  go_wp2
                  go_ret
                  exact ⟨by first | rfl | (simp [errW_none, errW_some] <;> rfl) | (simp [*, errW_none, errW_some] <;> rfl), by repeat (first | (with_reducible first | exact HB.out | apply below_alloc | apply pw_below_drewN | apply below_drew1 | refine below_set ?_ GE423.out) | exact HB.out)⟩
              · rw [if_neg c35] at H
                have c35b0 : (t425 == 1) = false := beq_eq_false_iff_ne.mpr c35
                have c35b1 : (t425 != 1) = true := bne_iff_ne.mpr c35
                obtain rfl := Option.some.inj H
                go_wp2
                go_ret
                exact ⟨by first | rfl | (simp [errW_none, errW_some] <;> rfl) | (simp [*, errW_none, errW_some] <;> rfl), by repeat (first | (with_reducible first | exact HB.out | apply below_alloc | apply pw_below_drewN | apply below_drew1 | refine below_set ?_ GE423.out) | exact HB.out)⟩
            · replace c34 := Bool.eq_false_iff.mpr c34
              subst c34
              have H1 : (if t425 = 0 then (if t427 = 0 then (if t429 = 0 then ((foghornref06_Step.f kj26 a0_0 a0_1 a0_2 a1).bind fun t434 => (if t424 = t434 then ((foghornref06_Wait.f kj26 a0_0 a0_1 a0_2 a1 a2).bind fun t435 => (if t426 = t435 then ((foghornref06_All.f kj26 a0_0 a0_1 a0_2 a1).bind fun t436 => (some (t428 == t436))) else (some false))) else (some false))) else (some false)) else (some false)) else (some false)) = some r := by rw [if_neg (show ¬ (false = true) by decide)] at H; exact H
              clear H
              have H := H1
              clear H1
              by_cases c40 : t425 = 0
              · rw [if_pos c40] at H
                have c40b0 : (t425 == 0) = true := beq_iff_eq.mpr c40
                have c40b1 : (t425 != 0) = false := bne_eq_false_iff_eq.mpr c40
                clear c40
                by_cases c41 : t427 = 0
                · rw [if_pos c41] at H
                  have c41b0 : (t427 == 0) = true := beq_iff_eq.mpr c41
                  have c41b1 : (t427 != 0) = false := bne_eq_false_iff_eq.mpr c41
                  clear c41
                  by_cases c42 : t429 = 0
                  · rw [if_pos c42] at H
                    have c42b0 : (t429 == 0) = true := beq_iff_eq.mpr c42
                    have c42b1 : (t429 != 0) = false := bne_eq_false_iff_eq.mpr c42
                    clear c42
                    replace H := Option.bind_eq_some_iff.mp H
                    obtain ⟨t434, A430, H⟩ := H
                    replace H : (if t424 = t434 then ((foghornref06_Wait.f kj26 a0_0 a0_1 a0_2 a1 a2).bind fun t435 => (if t426 = t435 then ((foghornref06_All.f kj26 a0_0 a0_1 a0_2 a1).bind fun t436 => (some (t428 == t436))) else (some false))) else (some false)) = some r := H
                    have A43 := Aside0.mk A430
                    clear A430
                    by_cases c44 : t424 = t434
                    · rw [if_pos c44] at H
                      have c44b0 : (t424 == t434) = true := beq_iff_eq.mpr c44
                      have c44b1 : (t424 != t434) = false := bne_eq_false_iff_eq.mpr c44
                      clear c44
                      replace H := Option.bind_eq_some_iff.mp H
                      obtain ⟨t435, A450, H⟩ := H
                      replace H : (if t426 = t435 then ((foghornref06_All.f kj26 a0_0 a0_1 a0_2 a1).bind fun t436 => (some (t428 == t436))) else (some false)) = some r := H
                      have A45 := Aside0.mk A450
                      clear A450
                      by_cases c46 : t426 = t435
                      · rw [if_pos c46] at H
                        have c46b0 : (t426 == t435) = true := beq_iff_eq.mpr c46
                        have c46b1 : (t426 != t435) = false := bne_eq_false_iff_eq.mpr c46
                        clear c46
                        replace H := Option.bind_eq_some_iff.mp H
                        obtain ⟨t436, A470, H⟩ := H
                        replace H : (some (t428 == t436)) = some r := H
                        have A47 := Aside0.mk A470
                        clear A470
                        obtain rfl := Option.some.inj H
                        have hcz48_0 : wc.cell? ⟨gb423, 0, none⟩ = some (.int .i64 a0_0) := (blk_cell BK423.out 0).trans rfl
                        have hcz48_1 : wc.cell? ⟨gb423, 1, none⟩ = some (.int .i64 a0_1) := (blk_cell BK423.out 1).trans rfl
                        have hcz48_2 : wc.cell? ⟨gb423, 2, none⟩ = some (.int .i64 a0_2) := (blk_cell BK423.out 2).trans rfl
                        have hfz48_0 := blk_frozen BK423.out 0
                        have hfz48_1 := blk_frozen BK423.out 1
                        have hfz48_2 := blk_frozen BK423.out 2
                        go_wp2_with (first | (go_at_call 46; (with_reducible refine (foghornref06_Step.calls kj26 a0_0 a0_1 a0_2 a1 t434 _ A43.out).mono ?_); rintro e w49 ⟨rfl, hb⟩; have n0_ := Aside0.mk (blk_below (g := gb423) (o := .cells #[.int .i64 a0_0, .int .i64 a0_1, .int .i64 a0_2] 23 (0, 0)) (by (with_reducible repeat (first | refine blk_drewN ?_ _ | refine blk_drew ?_ | refine blk_alloc ?_ _)); exact BK423.out) hb); have n1_ := Aside0.mk (below_step (by repeat (first | (with_reducible first | exact HB.out | apply below_alloc | apply pw_below_drewN | apply below_drew1 | refine below_set ?_ GE423.out) | exact HB.out)) hb); clear BK423; clear HB; have BK423 := n0_; have HB := n1_; clear n0_ n1_; (try clear hb); (try clear hb2); (try clear hk); (try clear hi); have hcz50_0 : w49.cell? ⟨gb423, 0, none⟩ = some (.int .i64 a0_0) := (blk_cell BK423.out 0).trans rfl; have hcz50_1 : w49.cell? ⟨gb423, 1, none⟩ = some (.int .i64 a0_1) := (blk_cell BK423.out 1).trans rfl; have hcz50_2 : w49.cell? ⟨gb423, 2, none⟩ = some (.int .i64 a0_2) := (blk_cell BK423.out 2).trans rfl; have hfz50_0 := blk_frozen BK423.out 0; have hfz50_1 := blk_frozen BK423.out 1; have hfz50_2 := blk_frozen BK423.out 2) | (go_at_call 47; (with_reducible refine (foghornref06_Wait.calls kj26 a0_0 a0_1 a0_2 a1 a2 t435 _ A45.out).mono ?_); rintro e w51 ⟨rfl, hb⟩; have n0_ := Aside0.mk (blk_below (g := gb423) (o := .cells #[.int .i64 a0_0, .int .i64 a0_1, .int .i64 a0_2] 23 (0, 0)) (by (with_reducible repeat (first | refine blk_drewN ?_ _ | refine blk_drew ?_ | refine blk_alloc ?_ _)); exact BK423.out) hb); have n1_ := Aside0.mk (below_step (by repeat (first | (with_reducible first | exact HB.out | apply below_alloc | apply pw_below_drewN | apply below_drew1 | refine below_set ?_ GE423.out) | exact HB.out)) hb); clear BK423; clear HB; have BK423 := n0_; have HB := n1_; clear n0_ n1_; (try clear hb); (try clear hb2); (try clear hk); (try clear hi); have hcz52_0 : w51.cell? ⟨gb423, 0, none⟩ = some (.int .i64 a0_0) := (blk_cell BK423.out 0).trans rfl; have hcz52_1 : w51.cell? ⟨gb423, 1, none⟩ = some (.int .i64 a0_1) := (blk_cell BK423.out 1).trans rfl; have hcz52_2 : w51.cell? ⟨gb423, 2, none⟩ = some (.int .i64 a0_2) := (blk_cell BK423.out 2).trans rfl; have hfz52_0 := blk_frozen BK423.out 0; have hfz52_1 := blk_frozen BK423.out 1; have hfz52_2 := blk_frozen BK423.out 2) | (go_at_call 48; (with_reducible refine (foghornref06_All.calls kj26 a0_0 a0_1 a0_2 a1 t436 _ A47.out).mono ?_); rintro e w53 ⟨rfl, hb⟩; have n0_ := Aside0.mk (blk_below (g := gb423) (o := .cells #[.int .i64 a0_0, .int .i64 a0_1, .int .i64 a0_2] 23 (0, 0)) (by (with_reducible repeat (first | refine blk_drewN ?_ _ | refine blk_drew ?_ | refine blk_alloc ?_ _)); exact BK423.out) hb); have n1_ := Aside0.mk (below_step (by repeat (first | (with_reducible first | exact HB.out | apply below_alloc | apply pw_below_drewN | apply below_drew1 | refine below_set ?_ GE423.out) | exact HB.out)) hb); clear BK423; clear HB; have BK423 := n0_; have HB := n1_; clear n0_ n1_; (try clear hb); (try clear hb2); (try clear hk); (try clear hi)))
                        go_ret
                        exact ⟨by first | rfl | (simp [errW_none, errW_some] <;> rfl) | (simp [*, errW_none, errW_some] <;> rfl), by repeat (first | (with_reducible first | exact HB.out | apply below_alloc | apply pw_below_drewN | apply below_drew1 | refine below_set ?_ GE423.out) | exact HB.out)⟩
                      · rw [if_neg c46] at H
                        have c46b0 : (t426 == t435) = false := beq_eq_false_iff_ne.mpr c46
                        have c46b1 : (t426 != t435) = true := bne_iff_ne.mpr c46
                        obtain rfl := Option.some.inj H
                        have hcz54_0 : wc.cell? ⟨gb423, 0, none⟩ = some (.int .i64 a0_0) := (blk_cell BK423.out 0).trans rfl
                        have hcz54_1 : wc.cell? ⟨gb423, 1, none⟩ = some (.int .i64 a0_1) := (blk_cell BK423.out 1).trans rfl
                        have hcz54_2 : wc.cell? ⟨gb423, 2, none⟩ = some (.int .i64 a0_2) := (blk_cell BK423.out 2).trans rfl
                        have hfz54_0 := blk_frozen BK423.out 0
                        have hfz54_1 := blk_frozen BK423.out 1
                        have hfz54_2 := blk_frozen BK423.out 2
                        go_wp2_with (first | (go_at_call 46; (with_reducible refine (foghornref06_Step.calls kj26 a0_0 a0_1 a0_2 a1 t434 _ A43.out).mono ?_); rintro e w55 ⟨rfl, hb⟩; have n0_ := Aside0.mk (blk_below (g := gb423) (o := .cells #[.int .i64 a0_0, .int .i64 a0_1, .int .i64 a0_2] 23 (0, 0)) (by (with_reducible repeat (first | refine blk_drewN ?_ _ | refine blk_drew ?_ | refine blk_alloc ?_ _)); exact BK423.out) hb); have n1_ := Aside0.mk (below_step (by repeat (first | (with_reducible first | exact HB.out | apply below_alloc | apply pw_below_drewN | apply below_drew1 | refine below_set ?_ GE423.out) | exact HB.out)) hb); clear BK423; clear HB; have BK423 := n0_; have HB := n1_; clear n0_ n1_; (try clear hb); (try clear hb2); (try clear hk); (try clear hi); have hcz56_0 : w55.cell? ⟨gb423, 0, none⟩ = some (.int .i64 a0_0) := (blk_cell BK423.out 0).trans rfl; have hcz56_1 : w55.cell? ⟨gb423, 1, none⟩ = some (.int .i64 a0_1) := (blk_cell BK423.out 1).trans rfl; have hcz56_2 : w55.cell? ⟨gb423, 2, none⟩ = some (.int .i64 a0_2) := (blk_cell BK423.out 2).trans rfl; have hfz56_0 := blk_frozen BK423.out 0; have hfz56_1 := blk_frozen BK423.out 1; have hfz56_2 := blk_frozen BK423.out 2) | (go_at_call 47; (with_reducible refine (foghornref06_Wait.calls kj26 a0_0 a0_1 a0_2 a1 a2 t435 _ A45.out).mono ?_); rintro e w57 ⟨rfl, hb⟩; have n0_ := Aside0.mk (blk_below (g := gb423) (o := .cells #[.int .i64 a0_0, .int .i64 a0_1, .int .i64 a0_2] 23 (0, 0)) (by (with_reducible repeat (first | refine blk_drewN ?_ _ | refine blk_drew ?_ | refine blk_alloc ?_ _)); exact BK423.out) hb); have n1_ := Aside0.mk (below_step (by repeat (first | (with_reducible first | exact HB.out | apply below_alloc | apply pw_below_drewN | apply below_drew1 | refine below_set ?_ GE423.out) | exact HB.out)) hb); clear BK423; clear HB; have BK423 := n0_; have HB := n1_; clear n0_ n1_; (try clear hb); (try clear hb2); (try clear hk); (try clear hi)))
                        go_ret
                        exact ⟨by first | rfl | (simp [errW_none, errW_some] <;> rfl) | (simp [*, errW_none, errW_some] <;> rfl), by repeat (first | (with_reducible first | exact HB.out | apply below_alloc | apply pw_below_drewN | apply below_drew1 | refine below_set ?_ GE423.out) | exact HB.out)⟩
                    · rw [if_neg c44] at H
                      have c44b0 : (t424 == t434) = false := beq_eq_false_iff_ne.mpr c44
                      have c44b1 : (t424 != t434) = true := bne_iff_ne.mpr c44
                      obtain rfl := Option.some.inj H
                      have hcz58_0 : wc.cell? ⟨gb423, 0, none⟩ = some (.int .i64 a0_0) := (blk_cell BK423.out 0).trans rfl
                      have hcz58_1 : wc.cell? ⟨gb423, 1, none⟩ = some (.int .i64 a0_1) := (blk_cell BK423.out 1).trans rfl
                      have hcz58_2 : wc.cell? ⟨gb423, 2, none⟩ = some (.int .i64 a0_2) := (blk_cell BK423.out 2).trans rfl
                      have hfz58_0 := blk_frozen BK423.out 0
                      have hfz58_1 := blk_frozen BK423.out 1
                      have hfz58_2 := blk_frozen BK423.out 2
                      go_wp2_with (first | (go_at_call 46; (with_reducible refine (foghornref06_Step.calls kj26 a0_0 a0_1 a0_2 a1 t434 _ A43.out).mono ?_); rintro e w59 ⟨rfl, hb⟩; have n0_ := Aside0.mk (blk_below (g := gb423) (o := .cells #[.int .i64 a0_0, .int .i64 a0_1, .int .i64 a0_2] 23 (0, 0)) (by (with_reducible repeat (first | refine blk_drewN ?_ _ | refine blk_drew ?_ | refine blk_alloc ?_ _)); exact BK423.out) hb); have n1_ := Aside0.mk (below_step (by repeat (first | (with_reducible first | exact HB.out | apply below_alloc | apply pw_below_drewN | apply below_drew1 | refine below_set ?_ GE423.out) | exact HB.out)) hb); clear BK423; clear HB; have BK423 := n0_; have HB := n1_; clear n0_ n1_; (try clear hb); (try clear hb2); (try clear hk); (try clear hi)))
                      go_ret
                      exact ⟨by first | rfl | (simp [errW_none, errW_some] <;> rfl) | (simp [*, errW_none, errW_some] <;> rfl), by repeat (first | (with_reducible first | exact HB.out | apply below_alloc | apply pw_below_drewN | apply below_drew1 | refine below_set ?_ GE423.out) | exact HB.out)⟩
                  · rw [if_neg c42] at H
                    have c42b0 : (t429 == 0) = false := beq_eq_false_iff_ne.mpr c42
                    have c42b1 : (t429 != 0) = true := bne_iff_ne.mpr c42
                    obtain rfl := Option.some.inj H
                    go_wp2
                    go_ret
                    exact ⟨by first | rfl | (simp [errW_none, errW_some] <;> rfl) | (simp [*, errW_none, errW_some] <;> rfl), by repeat (first | (with_reducible first | exact HB.out | apply below_alloc | apply pw_below_drewN | apply below_drew1 | refine below_set ?_ GE423.out) | exact HB.out)⟩
                · rw [if_neg c41] at H
                  have c41b0 : (t427 == 0) = false := beq_eq_false_iff_ne.mpr c41
                  have c41b1 : (t427 != 0) = true := bne_iff_ne.mpr c41
                  obtain rfl := Option.some.inj H
                  go_wp2
                  go_ret
                  exact ⟨by first | rfl | (simp [errW_none, errW_some] <;> rfl) | (simp [*, errW_none, errW_some] <;> rfl), by repeat (first | (with_reducible first | exact HB.out | apply below_alloc | apply pw_below_drewN | apply below_drew1 | refine below_set ?_ GE423.out) | exact HB.out)⟩
              · rw [if_neg c40] at H
                have c40b0 : (t425 == 0) = false := beq_eq_false_iff_ne.mpr c40
                have c40b1 : (t425 != 0) = true := bne_iff_ne.mpr c40
                obtain rfl := Option.some.inj H
                go_wp2
                go_ret
                exact ⟨by first | rfl | (simp [errW_none, errW_some] <;> rfl) | (simp [*, errW_none, errW_some] <;> rfl), by repeat (first | (with_reducible first | exact HB.out | apply below_alloc | apply pw_below_drewN | apply below_drew1 | refine below_set ?_ GE423.out) | exact HB.out)⟩

end Go.Proofs.Ytkkopknlhijgiaa.G
