/- Contracts of functions of the given program, each proved by a walk of its code: written by gprint.py, this session's program round the kit's print; texts of our own stand among the printed ones. No condition beyond each theorem's own premises. -/
import Derived.Test.YtkkopknlhijgiaaG0
import Derived.Test.YtkkopknlhijgiaaG27
namespace Go.Proofs.Ytkkopknlhijgiaa.G
open Go.RowKit Go.Proofs.YtkkopknlhijgiaaW.PrintWords Go.Proofs.YtkkopknlhijgiaaW.PrintLast Go.Proofs.YtkkopknlhijgiaaW.PrintMore
attribute [local go_sem] max2_int min2_int max_two min_two max_three min_three max_four min_four   -- for this text's walks alone
set_option linter.unusedVariables false
set_option linter.unusedSimpArgs false

/-! ### foghornref06_Wait: function 47 -/
def foghornref06_Wait.f (k : Nat) (a0_0 : Int) (a0_1 : Int) (a0_2 : Int) (a1 : Int) (a2 : Int) : Option (Int) := (foghornref06_Step.f k a0_0 a0_1 a0_2 a1).bind fun t419 => (if (wrap64 (a0_2 + 1)) = 0 then (none) else (some (wrap64 (t419 + (Int.tmod (wrap64 ((Int.tmod a2 (wrap64 (a0_2 + 1))) + (wrap64 (a0_2 + 1)))) (wrap64 (a0_2 + 1)))))))
theorem foghornref06_Wait.mono : ∀ a0 a1 a2 a3 a4 k, LeO (foghornref06_Wait.f k a0 a1 a2 a3 a4) (foghornref06_Wait.f (k + 1) a0 a1 a2 a3 a4) := by
  intro a0 a1 a2 a3 a4 k
  unfold foghornref06_Wait.f
  repeat' first
      | (with_reducible exact foghornref06_Step.mono _ _ _ _ _)
      | (with_reducible exact LeO.refl _)
      | (with_reducible exact LeO.none _)
      | (with_reducible refine LeO.ite ?_ ?_)
      | (with_reducible refine LeO.bind ?_ (fun _ => ?_))
      | exact foghornref06_Step.mono _ _ _ _ _
      | exact LeO.none _
      | refine LeO.ite ?_ ?_
      | refine LeO.bind ?_ (fun _ => ?_)
def foghornref06_Wait.T2 : Bool × List (List Nat × List Nat) := (true, [([], []), ([], []), ([0, 1], [0, 1]), ([], []), ([], []), ([3, 4], [3, 4]), ([], []), ([5, 6], [5, 6]), ([], []), ([7, 8], [7, 8]), ([2, 9], [2, 9]), ([10, 2, 0, 1, 2, 3, 4, 5, 6, 7, 8, 9, 10], [10])])
def foghornref06_Wait.B2 : List Nat := [0, 0, 3, 0, 0, 24, 0, 120, 0, 504, 1023, 2047]
theorem foghornref06_Wait.tab2 : rtab .any (opsOf Try.f47 2) = foghornref06_Wait.T2 := by kernel_rfl
theorem foghornref06_Wait.bits2 : waitsOk foghornref06_Wait.T2.2 foghornref06_Wait.B2 = true := by kernel_rfl
set_option maxHeartbeats 8000000 in
set_option maxRecDepth 100000 in
theorem foghornref06_Wait.calls (k : Nat) (a0_0 : Int) (a0_1 : Int) (a0_2 : Int) (a1 : Int) (a2 : Int) (r : Int) (w : World) (h : foghornref06_Wait.f k a0_0 a0_1 a0_2 a1 a2 = some r) :
    Calls Try.prog 47 #[.agg #[.int .i64 a0_0, .int .i64 a0_1, .int .i64 a0_2], .int .i64 a1, .int .i64 a2] w fun e w' => e = .returned (.int .i64 r) ∧ Below w.heap.size w w' := by
  have hu23 := Try.underlying23
  have HB := Aside0.mk (Below.refl w.heap.size w)
  have H : ((foghornref06_Step.f k a0_0 a0_1 a0_2 a1).bind fun t419 => (if (wrap64 (a0_2 + 1)) = 0 then (none) else (some (wrap64 (t419 + (Int.tmod (wrap64 ((Int.tmod a2 (wrap64 (a0_2 + 1))) + (wrap64 (a0_2 + 1)))) (wrap64 (a0_2 + 1)))))))) = some r := h
  clear h
  replace H := Option.bind_eq_some_iff.mp H
  obtain ⟨t419, A40, H⟩ := H
  replace H : (if (wrap64 (a0_2 + 1)) = 0 then (none) else (some (wrap64 (t419 + (Int.tmod (wrap64 ((Int.tmod a2 (wrap64 (a0_2 + 1))) + (wrap64 (a0_2 + 1)))) (wrap64 (a0_2 + 1))))))) = some r := H
  have A4 := Aside0.mk A40
  clear A40
  by_cases c5 : (wrap64 (a0_2 + 1)) = 0
  · rw [if_pos c5] at H
    exact absurd H (by simp)
  · rw [if_neg c5] at H
    have c5b0 : ((wrap64 (a0_2 + 1)) == 0) = false := beq_eq_false_iff_ne.mpr c5
    have c5b1 : ((wrap64 (a0_2 + 1)) != 0) = true := bne_iff_ne.mpr c5
    obtain rfl := Option.some.inj H
    go_enter Try.func47, Try.ntmps47
    try go_wp2_with (first | ((with_reducible refine gate_dst (N := 3) rfl ?_); refine box_event ?hg (N := 3) ?hd (cs := #[.int .i64 a0_0, .int .i64 a0_1, .int .i64 a0_2]) (t := 23) ?hr ?_; (case hd => rfl); (case hg => rfl); (case hr => first | (go_simp; done) | (go_simp; rfl)); intro gb418 hg w6 hbox hb; have n0_ := Aside0.mk (below_step (by repeat (first | (with_reducible first | exact HB.out | apply below_alloc | apply pw_below_drewN | apply below_drew1) | exact HB.out)) hb); have n1_ := Aside0.mk (hbox); have n2_ := Aside0.mk ((by rw [hg]; exact (below_size (by repeat (first | (with_reducible first | exact HB.out | apply below_alloc | apply pw_below_drewN | apply below_drew1) | exact HB.out))) : w.heap.size ≤ gb418)); have n3_ := Aside0.mk ((by rw [hg]; exact (below_size (by repeat (first | (with_reducible first | exact HB.out | apply below_alloc | apply pw_below_drewN | apply below_drew1) | exact HB.out))) : w.heap.size ≤ gb418)); clear HB; have HB := n0_; have BK418 := n1_; have GW418 := n2_; have GE418 := n3_; clear n0_ n1_ n2_ n3_; clear hb hbox hg; have hcz7_0 : w6.cell? ⟨gb418, 0, none⟩ = some (.int .i64 a0_0) := (blk_cell BK418.out 0).trans rfl; have hcz7_1 : w6.cell? ⟨gb418, 1, none⟩ = some (.int .i64 a0_1) := (blk_cell BK418.out 1).trans rfl; have hcz7_2 : w6.cell? ⟨gb418, 2, none⟩ = some (.int .i64 a0_2) := (blk_cell BK418.out 2).trans rfl; have hfz7_0 := blk_frozen BK418.out 0; have hfz7_1 := blk_frozen BK418.out 1; have hfz7_2 := blk_frozen BK418.out 2))
    have n0_ := Aside0.mk (blk_drew BK418.out)
    have n1_ := Aside0.mk (below_drew1 HB.out)
    clear BK418
    clear HB
    have BK418 := n0_
    have HB := n1_
    clear n0_ n1_
    refine start_ (n := 12) (S := fun w' => w'.cell? ⟨gb418, 0, none⟩ = some (.int .i64 a0_0) ∧ w'.cell? ⟨gb418, 1, none⟩ = some (.int .i64 a0_1) ∧ w'.cell? ⟨gb418, 2, none⟩ = some (.int .i64 a0_2)) (ds := []) #[false, false, false, false, false, false, false, false, false, false, false, false] (by kernel_rfl) rfl rfl ⟨(blk_cell BK418.out 0).trans rfl, (blk_cell BK418.out 1).trans rfl, (blk_cell BK418.out 2).trans rfl⟩ (fun hHeld => ?_); refine with_tabW foghornref06_Wait.tab2 foghornref06_Wait.bits2 (fun HT_ HW_ => ?_)
    generalize w6.drew = w8 at BK418 HB hHeld ⊢
    refine pure_ (i := 1) (N := some 12) (v := ?_) (a' := ?_) #[false, true, false, false, false, false, false, false, false, false, false, false] rfl rfl (any_of HT_.out (by kernel_rfl)) (fun _ _ _ h => h) (Or.inl ⟨by rfl, ?_⟩) ?_ ?_
    rotate_left
    · intro w'
      go_simp
      with_reducible rfl
    rotate_left
    · simp only [Act.put, List.setIfInBounds_toArray, List.set_cons_zero, List.set_cons_succ, i64_w, i32_w]
      rfl
    refine pure_ (i := 3) (N := some 14) (v := ?_) (a' := ?_) #[false, true, false, true, false, false, false, false, false, false, false, false] rfl rfl (any_of HT_.out (by kernel_rfl)) (fun _ _ _ h => h) (Or.inl ⟨by rfl, ?_⟩) ?_ ?_
    rotate_left
    · intro w'
      go_simp
      with_reducible rfl
    rotate_left
    · simp only [Act.put, List.setIfInBounds_toArray, List.set_cons_zero, List.set_cons_succ, i64_w, i32_w]
      rfl
    refine pure_ (i := 4) (N := some 15) (v := ?_) (a' := ?_) #[false, true, false, true, true, false, false, false, false, false, false, false] rfl rfl (any_of HT_.out (by kernel_rfl)) (fun _ _ _ h => h) (Or.inl ⟨by rfl, ?_⟩) ?_ ?_
    rotate_left
    · intro w'
      go_simp
      with_reducible rfl
    rotate_left
    · simp only [Act.put, List.setIfInBounds_toArray, List.set_cons_zero, List.set_cons_succ, i64_w, i32_w]
      rfl
    refine pure_ (i := 5) (N := some 16) (v := ?_) (a' := ?_) #[false, true, false, true, true, true, false, false, false, false, false, false] rfl rfl (any_of HT_.out (by kernel_rfl)) (fun _ _ _ h => h) (Or.inl ⟨by rfl, ?_⟩) ?_ ?_
    rotate_left
    · intro w'
      go_simp
      with_reducible rfl
    rotate_left
    · simp only [Act.put, List.setIfInBounds_toArray, List.set_cons_zero, List.set_cons_succ, i64_w, i32_w]
      rfl
    refine pure_ (i := 6) (N := some 17) (v := ?_) (a' := ?_) #[false, true, false, true, true, true, true, false, false, false, false, false] rfl rfl (any_of HT_.out (by kernel_rfl)) (fun _ _ _ h => h) (Or.inl ⟨by rfl, ?_⟩) ?_ ?_
    rotate_left
    · intro w'
      go_simp
      with_reducible rfl
    rotate_left
    · simp only [Act.put, List.setIfInBounds_toArray, List.set_cons_zero, List.set_cons_succ, i64_w, i32_w]
      rfl
    refine pure_ (i := 7) (N := some 18) (v := ?_) (a' := ?_) #[false, true, false, true, true, true, true, true, false, false, false, false] rfl rfl (any_of HT_.out (by kernel_rfl)) (fun _ _ _ h => h) (Or.inl ⟨by rfl, ?_⟩) ?_ ?_
    rotate_left
    · intro w'
      go_simp
      with_reducible rfl
    rotate_left
    · simp only [Act.put, List.setIfInBounds_toArray, List.set_cons_zero, List.set_cons_succ, i64_w, i32_w]
      rfl
    refine pure_ (i := 8) (N := some 19) (v := ?_) (a' := ?_) #[false, true, false, true, true, true, true, true, true, false, false, false] rfl rfl (any_of HT_.out (by kernel_rfl)) (fun _ _ _ h => h) (Or.inl ⟨by rfl, ?_⟩) ?_ ?_
    rotate_left
    · intro w'
      go_simp
      with_reducible rfl
    rotate_left
    · simp only [Act.put, List.setIfInBounds_toArray, List.set_cons_zero, List.set_cons_succ, i64_w, i32_w]
      rfl
    refine pure_ (i := 9) (N := some 20) (v := ?_) (a' := ?_) #[false, true, false, true, true, true, true, true, true, true, false, false] rfl rfl (any_of HT_.out (by kernel_rfl)) (fun _ _ _ h => h) (Or.inl ⟨by rfl, ?_⟩) ?_ ?_
    rotate_left
    · intro w'
      go_simp
      with_reducible rfl
    rotate_left
    · simp only [Act.put, List.setIfInBounds_toArray, List.set_cons_zero, List.set_cons_succ, i64_w, i32_w]
      rfl
    refine take_ (i := 0) (N := some 11) (v := ?_) (a' := ?_) #[true, true, false, true, true, true, true, true, true, true, false, false] rfl rfl (take_ofW HT_.out HW_.out (by kernel_rfl)) (fun _ _ _ h => h) (Or.inl ⟨by rfl, ?_⟩) hHeld ?_ ?_
    rotate_left
    · rintro w' ⟨s0, s1, s2⟩
      go_simp
      with_reducible rfl
    rotate_left
    · simp only [Act.put, List.setIfInBounds_toArray, List.set_cons_zero, List.set_cons_succ, i64_w, i32_w]
      rfl
    refine one_ (i := 2) (N := some 13) #[true, true, true, true, true, true, true, true, true, true, false, false] rfl rfl (one_of HT_.out (by kernel_rfl)) (by decide) (fun K hK => ?_)
    refine goes_ Try.func46 (by kernel_rfl) rfl #[.agg #[.int .i64 a0_0, .int .i64 a0_1, .int .i64 a0_2], .int .i64 a1] (by rfl) rfl rfl (by (try simp only [List.map_toArray, List.map_cons, List.map_nil]); first | done | rfl | (simp only [List.length_drop, List.length_take]; rfl)) ?_
    with_reducible refine (foghornref06_Step.calls k a0_0 a0_1 a0_2 a1 t419 _ A4.out).mono ?_
    rintro e w9 ⟨rfl, hb⟩
    refine ⟨_, rfl, ?_⟩
    have n0_ := Aside0.mk (blk_below (g := gb418) (o := .cells #[.int .i64 a0_0, .int .i64 a0_1, .int .i64 a0_2] 23 (0, 0)) (by (with_reducible repeat (first | refine blk_drewN ?_ _ | refine blk_drew ?_ | refine blk_alloc ?_ _)); exact BK418.out) hb)
    have n1_ := Aside0.mk (below_step (by repeat (first | (with_reducible first | exact HB.out | apply below_alloc | apply pw_below_drewN | apply below_drew1 | refine below_set ?_ GE418.out) | exact HB.out)) hb)
    clear BK418
    clear HB
    have BK418 := n0_
    have HB := n1_
    clear n0_ n1_
    (try clear hb)
    (try clear hb2)
    (try clear hk)
    (try clear hi)
    refine hK.out _ _ ⟨(blk_cell BK418.out 0).trans rfl, (blk_cell BK418.out 1).trans rfl, (blk_cell BK418.out 2).trans rfl⟩ (fun hHeld => ?_)
    clear hK K
    refine norm_ (a' := ?_) ?_ ?_
    rotate_left
    · show Act.put _ (some 13) _ = _
      simp only [Act.put, List.setIfInBounds_toArray, List.set_cons_zero, List.set_cons_succ, i64_w, i32_w]
      rfl
    refine pure_ (i := 10) (N := some 21) (v := ?_) (a' := ?_) #[true, true, true, true, true, true, true, true, true, true, true, false] rfl rfl (any_of HT_.out (by kernel_rfl)) (fun _ _ _ h => h) (Or.inl ⟨by rfl, ?_⟩) ?_ ?_
    rotate_left
    · intro w'
      go_simp
      with_reducible rfl
    rotate_left
    · simp only [Act.put, List.setIfInBounds_toArray, List.set_cons_zero, List.set_cons_succ, i64_w, i32_w]
      rfl
    refine pure_ (i := 11) (N := some 6) (v := ?_) (a' := ?_) #[true, true, true, true, true, true, true, true, true, true, true, true] rfl rfl (any_of HT_.out (by kernel_rfl)) (fun _ _ _ h => h) (Or.inl ⟨by rfl, ?_⟩) ?_ ?_
    rotate_left
    · intro w'
      go_simp
      with_reducible rfl
    rotate_left
    · simp only [Act.put, List.setIfInBounds_toArray, List.set_cons_zero, List.set_cons_succ, i64_w, i32_w]
      rfl
    refine done_ (done_of HT_.out (by kernel_rfl)) ?_
    try go_wp2
    go_ret
    exact ⟨by first | rfl | (simp [errW_none, errW_some] <;> rfl) | (simp [*, errW_none, errW_some] <;> rfl), by repeat (first | (with_reducible first | exact HB.out | apply below_alloc | apply pw_below_drewN | apply below_drew1 | refine below_set ?_ GE418.out) | exact HB.out)⟩

end Go.Proofs.Ytkkopknlhijgiaa.G
