/- Contracts of functions of the given program, each proved by a walk of its code: written by gprint.py, this session's program round the kit's print; texts of our own stand among the printed ones. No condition beyond each theorem's own premises. -/
import Derived.Test.YtanhdljnbaojbaaG0
import Derived.Test.YtanhdljnbaojbaaG4
import Derived.Test.YtanhdljnbaojbaaG7
namespace Go.Proofs.Ytanhdljnbaojbaa.G
open Go.RowKit Go.Proofs.YtanhdljnbaojbaaW.PrintWords Go.Proofs.YtanhdljnbaojbaaW.PrintLast Go.Proofs.YtanhdljnbaojbaaW.PrintMore
attribute [local go_sem] max2_int min2_int max_two min_two max_three min_three max_four min_four   -- for this text's walks alone
set_option linter.unusedVariables false
set_option linter.unusedSimpArgs false

/-! ### bucket_in: function 90 -/
def bucket_in.f (a0 : Int) (a1 : Int) (a2 : Int) : Option (Bool) := if a0 ≥ a1 then (some (decide (a0 ≤ a2))) else (some false)
set_option maxHeartbeats 8000000 in
set_option maxRecDepth 100000 in
theorem bucket_in.calls (a0 : Int) (a1 : Int) (a2 : Int) (r : Bool) (w : World) (h : bucket_in.f a0 a1 a2 = some r) :
    Calls Try.prog 90 #[.int .i64 a0, .int .i64 a1, .int .i64 a2] w fun e w' => e = .returned (.bool r) ∧ Drawn0 w w' := by
  have H : (if a0 ≥ a1 then (some (decide (a0 ≤ a2))) else (some false)) = some r := h
  clear h
  by_cases c4 : a0 ≥ a1
  · rw [if_pos c4] at H
    have c4b0 : decide (a1 ≤ a0) = true := decide_eq_true c4
    clear c4
    obtain rfl := Option.some.inj H
    go_enter Try.func90, Try.ntmps90
    go_wp2
    go_ret
    exact ⟨by first | rfl | (simp; done) | (simp [*]; done), by repeat (first | exact Drawn0.refl _ | apply Drawn0.step)⟩
  · rw [if_neg c4] at H
    have c4b0 : decide (a1 ≤ a0) = false := decide_eq_false c4
    clear c4
    obtain rfl := Option.some.inj H
    go_enter Try.func90, Try.ntmps90
    go_wp2
    go_ret
    exact ⟨by first | rfl | (simp; done) | (simp [*]; done), by repeat (first | exact Drawn0.refl _ | apply Drawn0.step)⟩

/-! ### bucket_Right: function 63 -/
def bucket_Right.f (a0_0 : Int) (a0_1 : Int) (a0_2 : Int) (a0_3 : Int) : Option (Bool) := (bucket_in.f a0_0 1 100).bind fun t178 => (if t178 = true then ((bucket_in.f a0_1 1 1048576).bind fun t179 => (if t179 = true then ((bucket_in.f a0_2 0 a0_0).bind fun t180 => (if t180 = true then ((tick_Right.f a0_3).bind fun t181 => (some t181)) else (some false))) else (some false))) else (some false))
set_option maxHeartbeats 8000000 in
set_option maxRecDepth 100000 in
theorem bucket_Right.calls (a0_0 : Int) (a0_1 : Int) (a0_2 : Int) (a0_3 : Int) (r : Bool) (w : World) (h : bucket_Right.f a0_0 a0_1 a0_2 a0_3 = some r) :
    Calls Try.prog 63 #[.agg #[.int .i64 a0_0, .int .i64 a0_1, .int .i64 a0_2, .int .i64 a0_3]] w fun e w' => e = .returned (.bool r) ∧ Below w.heap.size w w' := by
  unfold bucket_Right.f at h
  have H := Aside0.mk h
  clear h
  have hF := Aside0.mk (Fr.Frame.start w)
  have HC : True := trivial
  go_enter Try.func63, Try.ntmps63
  go_wp2_with (first | (go_at_call 90; have h9 := H.out; (repeat (first | rw [if_pos (by first | rfl | assumption | exact Fr.nf (by assumption) | exact Fr.nef (by assumption) | exact Fr.eqt (by assumption) | exact of_decide_eq_true (by assumption) | exact Fr.pos2 (by assumption) | omega | exact decide_eq_true (by omega))] at h9 | rw [if_neg (by first | assumption | exact Fr.nt (by assumption) | exact Fr.ff (by assumption) | exact Fr.net (by assumption) | exact Fr.eqf (by assumption) | exact of_decide_eq_false (by assumption) | exact Fr.neg2 (by assumption) | omega | exact Fr.dneg (by omega) | decide)] at h9)); obtain ⟨t0, A, h2⟩ := Option.bind_eq_some_iff.mp h9; have HA := Aside0.mk A; clear H h9; have H := Aside0.mk h2; clear A h2; refine (bucket_in.calls _ _ _ _ _ HA.out).mono ?_; rintro e W ⟨rfl, hb⟩; have hF1 := hF.out.call hb.below; clear hb; have HC1 := hF1.cells; simp only [Fr.Cells, List.length_cons, List.length_nil, Nat.reduceAdd, and_true] at HC1; clear hF HC; have HC := HC1; have hF := Aside0.mk hF1; clear hF1 HC1) | (go_at_call 50; have h9 := H.out; (repeat (first | rw [if_pos (by first | rfl | assumption | exact Fr.nf (by assumption) | exact Fr.nef (by assumption) | exact Fr.eqt (by assumption) | exact of_decide_eq_true (by assumption) | exact Fr.pos2 (by assumption) | omega | exact decide_eq_true (by omega))] at h9 | rw [if_neg (by first | assumption | exact Fr.nt (by assumption) | exact Fr.ff (by assumption) | exact Fr.net (by assumption) | exact Fr.eqf (by assumption) | exact of_decide_eq_false (by assumption) | exact Fr.neg2 (by assumption) | omega | exact Fr.dneg (by omega) | decide)] at h9)); obtain ⟨t0, A, h2⟩ := Option.bind_eq_some_iff.mp h9; have HA := Aside0.mk A; clear H h9; have H := Aside0.mk h2; clear A h2; refine (tick_Right.calls _ _ _ HA.out).mono ?_; rintro e W ⟨rfl, hb⟩; have hF1 := hF.out.call hb.below; clear hb; have HC1 := hF1.cells; simp only [Fr.Cells, List.length_cons, List.length_nil, Nat.reduceAdd, and_true] at HC1; clear hF HC; have HC := HC1; have hF := Aside0.mk hF1; clear hF1 HC1) | ((with_reducible refine gate_store rfl ?_); apply Fr.fr_store hF.out rfl rfl rfl; (case hp => rfl); (case hx => first | (go_simp; rfl) | rfl); (case hu => (simp only [Value.cells]; rfl)); (case hs => (repeat (first | exact Fr.Spot.here _ _ | apply Fr.Spot.there))); (case ht => kernel_rfl); (case h1 => simp [Value.oneCell']); (case hfit => simp); intro W hF1; simp only [Fr.patch, List.take_zero, List.nil_append, List.drop, List.append_nil, List.take, List.cons_append, List.length_cons, List.length_nil, Nat.reduceAdd] at hF1; have HC1 := hF1.cells; simp only [Fr.Cells, List.length_cons, List.length_nil, Nat.reduceAdd, and_true] at HC1; clear hF HC; have HC := HC1; have hF := Aside0.mk hF1; clear hF1 HC1) | ((first | (with_reducible refine Fr.gate_alloc rfl ?_) | (with_reducible refine Fr.gate_box rfl ?_)); apply Fr.fr_box hF.out rfl; (case hrun => first | (go_simp; done) | (go_simp; rfl)); intro g W hF1; have HC1 := hF1.cells; simp only [Fr.Cells, List.length_cons, List.length_nil, Nat.reduceAdd, and_true] at HC1; clear hF HC; have HC := HC1; have hF := Aside0.mk hF1; clear hF1 HC1))
  all_goals (have h9 := H.out; (repeat (first | rw [if_pos (by first | rfl | assumption | exact Fr.nf (by assumption) | exact Fr.nef (by assumption) | exact Fr.eqt (by assumption) | exact of_decide_eq_true (by assumption) | exact Fr.pos2 (by assumption) | omega | exact decide_eq_true (by omega))] at h9 | rw [if_neg (by first | assumption | exact Fr.nt (by assumption) | exact Fr.ff (by assumption) | exact Fr.net (by assumption) | exact Fr.eqf (by assumption) | exact of_decide_eq_false (by assumption) | exact Fr.neg2 (by assumption) | omega | exact Fr.dneg (by omega) | decide)] at h9)); obtain rfl := Option.some.inj h9; refine bodyPost_ret ?_ rfl ⟨rfl, hF.out.below⟩; simp [results, Try.results63, go_sem, HC] <;> first | omega | (simp_all; done))

/-! ### gate_Right: function 30 -/
def gate_Right.f (k : Nat) (a0_0 : Int) (a0_1 : Int) (a0_2 : Int) (a0_3 : Int) (a0_4 : Int) (a0_5 : Int) (a0_6 : Int) (a0_7 : Int) (a0_8 : Int) : Option (Bool) := (breaker_Right.f k a0_0 a0_1 a0_2 a0_3 a0_4).bind fun t183 => (if t183 = true then ((bucket_Right.f a0_5 a0_6 a0_7 a0_8).bind fun t184 => (some t184)) else (some false))
theorem gate_Right.mono : ∀ a0 a1 a2 a3 a4 a5 a6 a7 a8 k, LeO (gate_Right.f k a0 a1 a2 a3 a4 a5 a6 a7 a8) (gate_Right.f (k + 1) a0 a1 a2 a3 a4 a5 a6 a7 a8) := by
  intro a0 a1 a2 a3 a4 a5 a6 a7 a8 k
  unfold gate_Right.f
  repeat' first
      | (with_reducible exact breaker_Right.mono _ _ _ _ _ _)
      | (with_reducible exact LeO.refl _)
      | (with_reducible exact LeO.none _)
      | (with_reducible refine LeO.ite ?_ ?_)
      | (with_reducible refine LeO.bind ?_ (fun _ => ?_))
      | exact breaker_Right.mono _ _ _ _ _ _
      | exact LeO.none _
      | refine LeO.ite ?_ ?_
      | refine LeO.bind ?_ (fun _ => ?_)
set_option maxHeartbeats 8000000 in
set_option maxRecDepth 100000 in
theorem gate_Right.calls (k : Nat) (a0_0 : Int) (a0_1 : Int) (a0_2 : Int) (a0_3 : Int) (a0_4 : Int) (a0_5 : Int) (a0_6 : Int) (a0_7 : Int) (a0_8 : Int) (r : Bool) (w : World) (h : gate_Right.f k a0_0 a0_1 a0_2 a0_3 a0_4 a0_5 a0_6 a0_7 a0_8 = some r) :
    Calls Try.prog 30 #[.agg #[.int .i64 a0_0, .int .i64 a0_1, .int .i64 a0_2, .int .i64 a0_3, .int .i64 a0_4, .int .i64 a0_5, .int .i64 a0_6, .int .i64 a0_7, .int .i64 a0_8]] w fun e w' => e = .returned (.bool r) ∧ Below w.heap.size w w' := by
  unfold gate_Right.f at h
  have H := Aside0.mk h
  clear h
  have hF := Aside0.mk (Fr.Frame.start w)
  have HC : True := trivial
  go_enter Try.func30, Try.ntmps30
  go_wp2_with (first | (go_at_call 62; have h9 := H.out; (repeat (first | rw [if_pos (by first | rfl | assumption | exact Fr.nf (by assumption) | exact Fr.nef (by assumption) | exact Fr.eqt (by assumption) | exact of_decide_eq_true (by assumption) | exact Fr.pos2 (by assumption) | omega | exact decide_eq_true (by omega))] at h9 | rw [if_neg (by first | assumption | exact Fr.nt (by assumption) | exact Fr.ff (by assumption) | exact Fr.net (by assumption) | exact Fr.eqf (by assumption) | exact of_decide_eq_false (by assumption) | exact Fr.neg2 (by assumption) | omega | exact Fr.dneg (by omega) | decide)] at h9)); obtain ⟨t0, A, h2⟩ := Option.bind_eq_some_iff.mp h9; have HA := Aside0.mk A; clear H h9; have H := Aside0.mk h2; clear A h2; refine (breaker_Right.calls _ _ _ _ _ _ _ _ HA.out).mono ?_; rintro e W ⟨rfl, hb⟩; have hF1 := hF.out.call hb; clear hb; have HC1 := hF1.cells; simp only [Fr.Cells, List.length_cons, List.length_nil, Nat.reduceAdd, and_true] at HC1; clear hF HC; have HC := HC1; have hF := Aside0.mk hF1; clear hF1 HC1) | (go_at_call 63; have h9 := H.out; (repeat (first | rw [if_pos (by first | rfl | assumption | exact Fr.nf (by assumption) | exact Fr.nef (by assumption) | exact Fr.eqt (by assumption) | exact of_decide_eq_true (by assumption) | exact Fr.pos2 (by assumption) | omega | exact decide_eq_true (by omega))] at h9 | rw [if_neg (by first | assumption | exact Fr.nt (by assumption) | exact Fr.ff (by assumption) | exact Fr.net (by assumption) | exact Fr.eqf (by assumption) | exact of_decide_eq_false (by assumption) | exact Fr.neg2 (by assumption) | omega | exact Fr.dneg (by omega) | decide)] at h9)); obtain ⟨t0, A, h2⟩ := Option.bind_eq_some_iff.mp h9; have HA := Aside0.mk A; clear H h9; have H := Aside0.mk h2; clear A h2; refine (bucket_Right.calls _ _ _ _ _ _ HA.out).mono ?_; rintro e W ⟨rfl, hb⟩; have hF1 := hF.out.call hb; clear hb; have HC1 := hF1.cells; simp only [Fr.Cells, List.length_cons, List.length_nil, Nat.reduceAdd, and_true] at HC1; clear hF HC; have HC := HC1; have hF := Aside0.mk hF1; clear hF1 HC1) | ((with_reducible refine gate_store rfl ?_); apply Fr.fr_store hF.out rfl rfl rfl; (case hp => rfl); (case hx => first | (go_simp; rfl) | rfl); (case hu => (simp only [Value.cells]; rfl)); (case hs => (repeat (first | exact Fr.Spot.here _ _ | apply Fr.Spot.there))); (case ht => kernel_rfl); (case h1 => simp [Value.oneCell']); (case hfit => simp); intro W hF1; simp only [Fr.patch, List.take_zero, List.nil_append, List.drop, List.append_nil, List.take, List.cons_append, List.length_cons, List.length_nil, Nat.reduceAdd] at hF1; have HC1 := hF1.cells; simp only [Fr.Cells, List.length_cons, List.length_nil, Nat.reduceAdd, and_true] at HC1; clear hF HC; have HC := HC1; have hF := Aside0.mk hF1; clear hF1 HC1) | ((first | (with_reducible refine Fr.gate_alloc rfl ?_) | (with_reducible refine Fr.gate_box rfl ?_)); apply Fr.fr_box hF.out rfl; (case hrun => first | (go_simp; done) | (go_simp; rfl)); intro g W hF1; have HC1 := hF1.cells; simp only [Fr.Cells, List.length_cons, List.length_nil, Nat.reduceAdd, and_true] at HC1; clear hF HC; have HC := HC1; have hF := Aside0.mk hF1; clear hF1 HC1))
  all_goals (have h9 := H.out; (repeat (first | rw [if_pos (by first | rfl | assumption | exact Fr.nf (by assumption) | exact Fr.nef (by assumption) | exact Fr.eqt (by assumption) | exact of_decide_eq_true (by assumption) | exact Fr.pos2 (by assumption) | omega | exact decide_eq_true (by omega))] at h9 | rw [if_neg (by first | assumption | exact Fr.nt (by assumption) | exact Fr.ff (by assumption) | exact Fr.net (by assumption) | exact Fr.eqf (by assumption) | exact of_decide_eq_false (by assumption) | exact Fr.neg2 (by assumption) | omega | exact Fr.dneg (by omega) | decide)] at h9)); obtain rfl := Option.some.inj h9; refine bodyPost_ret ?_ rfl ⟨rfl, hF.out.below⟩; simp [results, Try.results30, go_sem, HC] <;> first | omega | (simp_all; done))

/-! ### bucket_full: function 84 -/
def bucket_full.f (a0_0 : Int) (a0_1 : Int) (a0_2 : Int) (a0_3 : Int) (a1 : Int) : Option (Int × Int × Int × Int) := some (a0_0, a0_1, a0_0, a1)
set_option maxHeartbeats 8000000 in
set_option maxRecDepth 100000 in
theorem bucket_full.calls (a0_0 : Int) (a0_1 : Int) (a0_2 : Int) (a0_3 : Int) (a1 : Int) (r1 : Int) (r2 : Int) (r3 : Int) (r4 : Int) (w : World) (h : bucket_full.f a0_0 a0_1 a0_2 a0_3 a1 = some (r1, r2, r3, r4)) :
    Calls Try.prog 84 #[.agg #[.int .i64 a0_0, .int .i64 a0_1, .int .i64 a0_2, .int .i64 a0_3], .int .i64 a1] w fun e w' => e = .returned (.agg #[.int .i64 r1, .int .i64 r2, .int .i64 r3, .int .i64 r4]) ∧ Below w.heap.size w w' := by
  have hu34 := Try.underlying34
  have HB := Aside0.mk (Below.refl w.heap.size w)
  have H : (some (a0_0, a0_1, a0_0, a1)) = some (r1, r2, r3, r4) := h
  clear h
  simp only [Option.some.injEq, Prod.mk.injEq] at H
  obtain ⟨rfl, rfl, rfl, rfl⟩ := H
  go_enter Try.func84, Try.ntmps84
  go_wp2_with (first | ((with_reducible refine gate_dst (N := 2) rfl ?_); refine box_event ?hg (N := 2) ?hd (cs := #[.int .i64 a0_0, .int .i64 a0_1, .int .i64 a0_2, .int .i64 a0_3]) (t := 34) ?hr ?_; (case hd => rfl); (case hg => rfl); (case hr => first | (go_simp; done) | (go_simp; rfl)); intro gb185 hg w3 hbox hb; have n0_ := Aside0.mk (below_step (by repeat (first | (with_reducible first | exact HB.out | apply below_alloc | apply pw_below_drewN | apply below_drew1) | exact HB.out)) hb); have n1_ := Aside0.mk (hbox); have n2_ := Aside0.mk ((by rw [hg]; exact (below_size (by repeat (first | (with_reducible first | exact HB.out | apply below_alloc | apply pw_below_drewN | apply below_drew1) | exact HB.out))) : w.heap.size ≤ gb185)); have n3_ := Aside0.mk ((by rw [hg]; exact (below_size (by repeat (first | (with_reducible first | exact HB.out | apply below_alloc | apply pw_below_drewN | apply below_drew1) | exact HB.out))) : w.heap.size ≤ gb185)); clear HB; have HB := n0_; have BK185 := n1_; have GW185 := n2_; have GE185 := n3_; clear n0_ n1_ n2_ n3_; clear hb hbox hg) | ((with_reducible refine gate_dst (N := 4) rfl ?_); refine box_event ?hg (N := 4) ?hd (cs := #[.int .i64 0, .int .i64 0, .int .i64 0, .int .i64 0]) (t := 34) ?hr ?_; (case hd => rfl); (case hg => rfl); (case hr => first | (go_simp; done) | (go_simp; rfl)); intro gb186 hg w4 hbox hb; have n0_ := Aside0.mk (blk_below (g := gb185) (o := .cells #[.int .i64 a0_0, .int .i64 a0_1, .int .i64 a0_2, .int .i64 a0_3] 34 (0, 0)) (by (with_reducible repeat (first | refine blk_drewN ?_ _ | refine blk_drew ?_ | refine blk_alloc ?_ _)); exact BK185.out) hb); have n1_ := Aside0.mk (below_step (by repeat (first | (with_reducible first | exact HB.out | apply below_alloc | apply pw_below_drewN | apply below_drew1 | refine below_set ?_ GE185.out) | exact HB.out)) hb); have n2_ := Aside0.mk (hbox); have n3_ := Aside0.mk ((by rw [hg]; exact (below_size (by repeat (first | (with_reducible first | exact HB.out | apply below_alloc | apply pw_below_drewN | apply below_drew1 | refine below_set ?_ GE185.out) | exact HB.out))) : w.heap.size ≤ gb186)); have n4_ := Aside0.mk ((by rw [hg]; exact (below_size (by repeat (first | (with_reducible first | exact HB.out | apply below_alloc | apply pw_below_drewN | apply below_drew1 | refine below_set ?_ GE185.out) | exact HB.out))) : w.heap.size ≤ gb186)); have n5_ := Aside0.mk ((by rw [hg]; exact Nat.ne_of_lt (blk_lt (g := gb185) (o := .cells #[.int .i64 a0_0, .int .i64 a0_1, .int .i64 a0_2, .int .i64 a0_3] 34 (0, 0)) (by (with_reducible repeat (first | refine blk_drewN ?_ _ | refine blk_drew ?_ | refine blk_alloc ?_ _)); exact BK185.out)) : gb185 ≠ gb186)); have n6_ := Aside0.mk ((by rw [hg]; exact Nat.ne_of_gt (blk_lt (g := gb185) (o := .cells #[.int .i64 a0_0, .int .i64 a0_1, .int .i64 a0_2, .int .i64 a0_3] 34 (0, 0)) (by (with_reducible repeat (first | refine blk_drewN ?_ _ | refine blk_drew ?_ | refine blk_alloc ?_ _)); exact BK185.out)) : gb186 ≠ gb185)); clear BK185; clear HB; have BK185 := n0_; have HB := n1_; have BK186 := n2_; have GW186 := n3_; have GE186 := n4_; have NB185_186 := n5_; have NB186_185 := n6_; clear n0_ n1_ n2_ n3_ n4_ n5_ n6_; clear hb hbox hg; have hnb5 := NB185_186.out; have hnc5 := NB186_185.out; have hcz6_0 : w4.cell? ⟨gb185, 0, none⟩ = some (.int .i64 a0_0) := (blk_cell BK185.out 0).trans rfl; have hcz6_1 : w4.cell? ⟨gb185, 1, none⟩ = some (.int .i64 a0_1) := (blk_cell BK185.out 1).trans rfl; have hcz6_2 : w4.cell? ⟨gb185, 2, none⟩ = some (.int .i64 a0_2) := (blk_cell BK185.out 2).trans rfl; have hcz6_3 : w4.cell? ⟨gb185, 3, none⟩ = some (.int .i64 a0_3) := (blk_cell BK185.out 3).trans rfl; have hfz6_0 := blk_frozen BK185.out 0; have hfz6_1 := blk_frozen BK185.out 1; have hfz6_2 := blk_frozen BK185.out 2; have hfz6_3 := blk_frozen BK185.out 3; have hcz7_0 : w4.cell? ⟨gb186, 0, none⟩ = some (.int .i64 0) := (blk_cell BK186.out 0).trans rfl; have hcz7_1 : w4.cell? ⟨gb186, 1, none⟩ = some (.int .i64 0) := (blk_cell BK186.out 1).trans rfl; have hcz7_2 : w4.cell? ⟨gb186, 2, none⟩ = some (.int .i64 0) := (blk_cell BK186.out 2).trans rfl; have hcz7_3 : w4.cell? ⟨gb186, 3, none⟩ = some (.int .i64 0) := (blk_cell BK186.out 3).trans rfl; have hfz7_0 := blk_frozen BK186.out 0; have hfz7_1 := blk_frozen BK186.out 1; have hfz7_2 := blk_frozen BK186.out 2; have hfz7_3 := blk_frozen BK186.out 3))
  refine bodyPost_ret (results_cell_row rfl _ _ gb186 34 #[.int .i64 a0_0, .int .i64 a0_1, .int .i64 a0_0, .int .i64 a1] (0, 0) _ rfl (by (with_reducible repeat (first | refine blk_drewN ?_ _ | refine blk_drew ?_ | refine blk_alloc ?_ _)); refine blk_put (cs := #[.int .i64 a0_0, .int .i64 a0_1, .int .i64 a0_0, .int .i64 0]) ?_ 3 _ rfl; (with_reducible repeat (first | refine blk_drewN ?_ _ | refine blk_drew ?_ | refine blk_alloc ?_ _)); refine blk_put (cs := #[.int .i64 a0_0, .int .i64 a0_1, .int .i64 0, .int .i64 0]) ?_ 2 _ rfl; (with_reducible repeat (first | refine blk_drewN ?_ _ | refine blk_drew ?_ | refine blk_alloc ?_ _)); refine blk_put (cs := #[.int .i64 a0_0, .int .i64 0, .int .i64 0, .int .i64 0]) ?_ 1 _ rfl; (with_reducible repeat (first | refine blk_drewN ?_ _ | refine blk_drew ?_ | refine blk_alloc ?_ _)); refine blk_put (cs := #[.int .i64 0, .int .i64 0, .int .i64 0, .int .i64 0]) ?_ 0 _ rfl; (with_reducible repeat (first | refine blk_drewN ?_ _ | refine blk_drew ?_ | refine blk_alloc ?_ _)); exact BK186.out) Try.underlying34 rfl (by kernel_rfl)) rfl ?_
  exact ⟨by first | rfl | (simp [errW_none, errW_some] <;> rfl) | (simp [*, errW_none, errW_some] <;> rfl), by repeat (first | (with_reducible first | exact HB.out | apply below_alloc | apply pw_below_drewN | apply below_drew1 | refine below_set ?_ GE185.out | refine below_set ?_ GE186.out) | exact HB.out)⟩

end Go.Proofs.Ytanhdljnbaojbaa.G
