/- Contracts of functions of the given program, each proved by a walk of its code: written by gprint.py, this session's program round the kit's print; texts of our own stand among the printed ones. No condition beyond each theorem's own premises. -/
import Derived.Test.YtanhdljnbaojbaaG0
import Derived.Test.YtanhdljnbaojbaaG1
import Derived.Test.YtanhdljnbaojbaaG7
import Derived.Test.YtanhdljnbaojbaaG8
import Derived.Test.YtanhdljnbaojbaaG12
namespace Go.Proofs.Ytanhdljnbaojbaa.G
open Go.RowKit Go.Proofs.YtanhdljnbaojbaaW.PrintWords Go.Proofs.YtanhdljnbaojbaaW.PrintLast Go.Proofs.YtanhdljnbaojbaaW.PrintMore
attribute [local go_sem] max2_int min2_int max_two min_two max_three min_three max_four min_four   -- for this text's walks alone
set_option linter.unusedVariables false
set_option linter.unusedSimpArgs false

attribute [local go_sem high] eqA36
/-! ### breaker_New: function 59 -/
def breaker_New.f (k : Nat) (a0 : Int) (a1 : Int) : Option (Int × Int × Int × Int × Int × Int) := (breaker_Right.f k a0 a1 0 0 0).bind fun t207 => (if t207 = true then (some (a0, a1, 0, 0, 0, 0)) else (some (0, 0, 0, 0, 0, 1)))
theorem breaker_New.mono : ∀ a0 a1 k, LeO (breaker_New.f k a0 a1) (breaker_New.f (k + 1) a0 a1) := by
  intro a0 a1 k
  unfold breaker_New.f
  repeat' first
      | (with_reducible exact breaker_Right.mono _ _ _ _ _ _)
      | (with_reducible exact LeO.refl _)
      | (with_reducible exact LeO.none _)
      | (with_reducible refine LeO.ite ?_ ?_)
      | (with_reducible refine LeO.bind ?_ (fun _ => ?_))
      | exact breaker_Right.mono _ _ _ _ _ _
      | exact LeO.none _
      | refine LeO.ite ?_ ?_
      | refine LeO.bind ?_ (fun _ => ?_)
set_option maxHeartbeats 8000000 in
set_option maxRecDepth 100000 in
theorem breaker_New.calls (k : Nat) (a0 : Int) (a1 : Int) (r1 : Int) (r2 : Int) (r3 : Int) (r4 : Int) (r5 : Int) (r6 : Int) (w : World) (h : breaker_New.f k a0 a1 = some (r1, r2, r3, r4, r5, r6)) :
    Calls Try.prog 59 #[.int .i64 a0, .int .i64 a1] w fun e w' => e = .returned (.tuple #[.agg #[.int .i64 r1, .int .i64 r2, .int .i64 r3, .int .i64 r4, .int .i64 r5], .int .i64 r6]) ∧ Below w.heap.size w w' := by
  unfold breaker_New.f at h
  have H := Aside0.mk h
  clear h
  have hF := Aside0.mk (Fr.Frame.start w)
  have HC : True := trivial
  go_enter Try.func59, Try.ntmps59
  go_wp2_with (first | (go_at_call 62; have h9 := H.out; (repeat (first | rw [if_pos (by first | rfl | assumption | exact Fr.nf (by assumption) | exact Fr.nef (by assumption) | exact Fr.eqt (by assumption) | exact of_decide_eq_true (by assumption) | exact Fr.pos2 (by assumption) | omega | exact decide_eq_true (by omega))] at h9 | rw [if_neg (by first | assumption | exact Fr.nt (by assumption) | exact Fr.ff (by assumption) | exact Fr.net (by assumption) | exact Fr.eqf (by assumption) | exact of_decide_eq_false (by assumption) | exact Fr.neg2 (by assumption) | omega | exact Fr.dneg (by omega) | decide)] at h9)); obtain ⟨t0, A, h2⟩ := Option.bind_eq_some_iff.mp h9; have HA := Aside0.mk A; clear H h9; have H := Aside0.mk h2; clear A h2; refine (breaker_Right.calls _ _ _ _ _ _ _ _ HA.out).mono ?_; rintro e W ⟨rfl, hb⟩; have hF1 := hF.out.call hb; clear hb; have HC1 := hF1.cells; simp only [Fr.Cells, List.length_cons, List.length_nil, Nat.reduceAdd, and_true] at HC1; clear hF HC; have HC := HC1; have hF := Aside0.mk hF1; clear hF1 HC1) | ((with_reducible refine gate_store rfl ?_); apply Fr.fr_store hF.out rfl rfl rfl; (case hp => rfl); (case hx => first | (go_simp; rfl) | rfl); (case hu => (simp only [Value.cells]; rfl)); (case hs => (repeat (first | exact Fr.Spot.here _ _ | apply Fr.Spot.there))); (case ht => kernel_rfl); (case h1 => simp [Value.oneCell']); (case hfit => simp); intro W hF1; simp only [Fr.patch, List.take_zero, List.nil_append, List.drop, List.append_nil, List.take, List.cons_append, List.length_cons, List.length_nil, Nat.reduceAdd] at hF1; have HC1 := hF1.cells; simp only [Fr.Cells, List.length_cons, List.length_nil, Nat.reduceAdd, and_true] at HC1; clear hF HC; have HC := HC1; have hF := Aside0.mk hF1; clear hF1 HC1) | ((first | (with_reducible refine Fr.gate_alloc rfl ?_) | (with_reducible refine Fr.gate_box rfl ?_)); apply Fr.fr_box hF.out rfl; (case hrun => first | (go_simp; done) | (go_simp; rfl)); intro g W hF1; have HC1 := hF1.cells; simp only [Fr.Cells, List.length_cons, List.length_nil, Nat.reduceAdd, and_true] at HC1; clear hF HC; have HC := HC1; have hF := Aside0.mk hF1; clear hF1 HC1))
  all_goals (have h9 := H.out; (repeat (first | rw [if_pos (by first | rfl | assumption | exact Fr.nf (by assumption) | exact Fr.nef (by assumption) | exact Fr.eqt (by assumption) | exact of_decide_eq_true (by assumption) | exact Fr.pos2 (by assumption) | omega | exact decide_eq_true (by omega))] at h9 | rw [if_neg (by first | assumption | exact Fr.nt (by assumption) | exact Fr.ff (by assumption) | exact Fr.net (by assumption) | exact Fr.eqf (by assumption) | exact of_decide_eq_false (by assumption) | exact Fr.neg2 (by assumption) | omega | exact Fr.dneg (by omega) | decide)] at h9)); simp only [Option.some.injEq, Prod.mk.injEq] at h9; obtain ⟨rfl, rfl, rfl, rfl, rfl, rfl⟩ := h9; refine bodyPost_ret ?_ rfl ⟨rfl, hF.out.below⟩; simp [results, Try.results59, go_sem, HC] <;> first | omega | (simp_all; done))

/-! ### bucket_New: function 60 -/
def bucket_New.f (a0 : Int) (a1 : Int) (a2 : Int) (a3 : Int) : Option (Int × Int × Int × Int × Int) := (bucket_Right.f a0 a1 a2 a3).bind fun t210 => (if t210 = true then (some (a0, a1, a2, a3, 0)) else (some (0, 0, 0, 0, 1)))
set_option maxHeartbeats 8000000 in
set_option maxRecDepth 100000 in
theorem bucket_New.calls (a0 : Int) (a1 : Int) (a2 : Int) (a3 : Int) (r1 : Int) (r2 : Int) (r3 : Int) (r4 : Int) (r5 : Int) (w : World) (h : bucket_New.f a0 a1 a2 a3 = some (r1, r2, r3, r4, r5)) :
    Calls Try.prog 60 #[.int .i64 a0, .int .i64 a1, .int .i64 a2, .int .i64 a3] w fun e w' => e = .returned (.tuple #[.agg #[.int .i64 r1, .int .i64 r2, .int .i64 r3, .int .i64 r4], .int .i64 r5]) ∧ Below w.heap.size w w' := by
  unfold bucket_New.f at h
  have H := Aside0.mk h
  clear h
  have hF := Aside0.mk (Fr.Frame.start w)
  have HC : True := trivial
  go_enter Try.func60, Try.ntmps60
  go_wp2_with (first | (go_at_call 63; have h9 := H.out; (repeat (first | rw [if_pos (by first | rfl | assumption | exact Fr.nf (by assumption) | exact Fr.nef (by assumption) | exact Fr.eqt (by assumption) | exact of_decide_eq_true (by assumption) | exact Fr.pos2 (by assumption) | omega | exact decide_eq_true (by omega))] at h9 | rw [if_neg (by first | assumption | exact Fr.nt (by assumption) | exact Fr.ff (by assumption) | exact Fr.net (by assumption) | exact Fr.eqf (by assumption) | exact of_decide_eq_false (by assumption) | exact Fr.neg2 (by assumption) | omega | exact Fr.dneg (by omega) | decide)] at h9)); obtain ⟨t0, A, h2⟩ := Option.bind_eq_some_iff.mp h9; have HA := Aside0.mk A; clear H h9; have H := Aside0.mk h2; clear A h2; refine (bucket_Right.calls _ _ _ _ _ _ HA.out).mono ?_; rintro e W ⟨rfl, hb⟩; have hF1 := hF.out.call hb; clear hb; have HC1 := hF1.cells; simp only [Fr.Cells, List.length_cons, List.length_nil, Nat.reduceAdd, and_true] at HC1; clear hF HC; have HC := HC1; have hF := Aside0.mk hF1; clear hF1 HC1) | ((with_reducible refine gate_store rfl ?_); apply Fr.fr_store hF.out rfl rfl rfl; (case hp => rfl); (case hx => first | (go_simp; rfl) | rfl); (case hu => (simp only [Value.cells]; rfl)); (case hs => (repeat (first | exact Fr.Spot.here _ _ | apply Fr.Spot.there))); (case ht => kernel_rfl); (case h1 => simp [Value.oneCell']); (case hfit => simp); intro W hF1; simp only [Fr.patch, List.take_zero, List.nil_append, List.drop, List.append_nil, List.take, List.cons_append, List.length_cons, List.length_nil, Nat.reduceAdd] at hF1; have HC1 := hF1.cells; simp only [Fr.Cells, List.length_cons, List.length_nil, Nat.reduceAdd, and_true] at HC1; clear hF HC; have HC := HC1; have hF := Aside0.mk hF1; clear hF1 HC1) | ((first | (with_reducible refine Fr.gate_alloc rfl ?_) | (with_reducible refine Fr.gate_box rfl ?_)); apply Fr.fr_box hF.out rfl; (case hrun => first | (go_simp; done) | (go_simp; rfl)); intro g W hF1; have HC1 := hF1.cells; simp only [Fr.Cells, List.length_cons, List.length_nil, Nat.reduceAdd, and_true] at HC1; clear hF HC; have HC := HC1; have hF := Aside0.mk hF1; clear hF1 HC1))
  all_goals (have h9 := H.out; (repeat (first | rw [if_pos (by first | rfl | assumption | exact Fr.nf (by assumption) | exact Fr.nef (by assumption) | exact Fr.eqt (by assumption) | exact of_decide_eq_true (by assumption) | exact Fr.pos2 (by assumption) | omega | exact decide_eq_true (by omega))] at h9 | rw [if_neg (by first | assumption | exact Fr.nt (by assumption) | exact Fr.ff (by assumption) | exact Fr.net (by assumption) | exact Fr.eqf (by assumption) | exact of_decide_eq_false (by assumption) | exact Fr.neg2 (by assumption) | omega | exact Fr.dneg (by omega) | decide)] at h9)); simp only [Option.some.injEq, Prod.mk.injEq] at h9; obtain ⟨rfl, rfl, rfl, rfl, rfl⟩ := h9; refine bodyPost_ret ?_ rfl ⟨rfl, hF.out.below⟩; simp [results, Try.results60, go_sem, HC] <;> first | omega | (simp_all; done))

/-! ### gate_New: function 28 -/
def gate_New.f (k : Nat) (a0_0 : ByteArray) (a0_1 : Int) (a0_2 : Int) (a0_3 : Int) (a0_4 : Int) (a0_5 : Int) (a0_6 : Int) (a0_7 : Int) (a0_8 : Int) (a1 : Int) : Option (Int × Int × Int × Int × Int × Int × Int × Int × Int × Int) := (breaker_New.f k a0_5 a0_6).bind fun bt213 => ((bucket_New.f a0_7 a0_8 1 a1).bind fun bt220 => (if bt213.2.2.2.2.2 = 0 then (if bt220.2.2.2.2 = 0 then (some (bt213.1, bt213.2.1, bt213.2.2.1, bt213.2.2.2.1, bt213.2.2.2.2.1, bt220.1, bt220.2.1, bt220.2.2.1, bt220.2.2.2.1, 0)) else (some (0, 0, 0, 0, 0, 0, 0, 0, 0, 1))) else (some (0, 0, 0, 0, 0, 0, 0, 0, 0, 1))))
theorem gate_New.mono : ∀ a0 a1 a2 a3 a4 a5 a6 a7 a8 a9 k, LeO (gate_New.f k a0 a1 a2 a3 a4 a5 a6 a7 a8 a9) (gate_New.f (k + 1) a0 a1 a2 a3 a4 a5 a6 a7 a8 a9) := by
  intro a0 a1 a2 a3 a4 a5 a6 a7 a8 a9 k
  unfold gate_New.f
  repeat' first
      | (with_reducible exact breaker_New.mono _ _ _)
      | (with_reducible exact LeO.refl _)
      | (with_reducible exact LeO.none _)
      | (with_reducible refine LeO.ite ?_ ?_)
      | (with_reducible refine LeO.bind ?_ (fun _ => ?_))
      | exact breaker_New.mono _ _ _
      | exact LeO.none _
      | refine LeO.ite ?_ ?_
      | refine LeO.bind ?_ (fun _ => ?_)
set_option maxHeartbeats 8000000 in
set_option maxRecDepth 100000 in
theorem gate_New.calls (k : Nat) (a0_0 : ByteArray) (a0_1 : Int) (a0_2 : Int) (a0_3 : Int) (a0_4 : Int) (a0_5 : Int) (a0_6 : Int) (a0_7 : Int) (a0_8 : Int) (a1 : Int) (r1 : Int) (r2 : Int) (r3 : Int) (r4 : Int) (r5 : Int) (r6 : Int) (r7 : Int) (r8 : Int) (r9 : Int) (r10 : Int) (w : World) (h : gate_New.f k a0_0 a0_1 a0_2 a0_3 a0_4 a0_5 a0_6 a0_7 a0_8 a1 = some (r1, r2, r3, r4, r5, r6, r7, r8, r9, r10)) :
    Calls Try.prog 28 #[.agg #[.string a0_0, .int .i64 a0_1, .int .i64 a0_2, .int .i64 a0_3, .int .i64 a0_4, .int .i64 a0_5, .int .i64 a0_6, .int .i64 a0_7, .int .i64 a0_8], .int .i64 a1] w fun e w' => e = .returned (.tuple #[.agg #[.int .i64 r1, .int .i64 r2, .int .i64 r3, .int .i64 r4, .int .i64 r5, .int .i64 r6, .int .i64 r7, .int .i64 r8, .int .i64 r9], .int .i64 r10]) ∧ Below w.heap.size w w' := by
  unfold gate_New.f at h
  have H := Aside0.mk h
  clear h
  have hF := Aside0.mk (Fr.Frame.start w)
  have HC : True := trivial
  go_enter Try.func28, Try.ntmps28
  go_wp2_with (first | (go_at_call 59; have h9 := H.out; (repeat (first | rw [if_pos (by first | rfl | assumption | exact Fr.nf (by assumption) | exact Fr.nef (by assumption) | exact Fr.eqt (by assumption) | exact of_decide_eq_true (by assumption) | exact Fr.pos2 (by assumption) | omega | exact decide_eq_true (by omega))] at h9 | rw [if_neg (by first | assumption | exact Fr.nt (by assumption) | exact Fr.ff (by assumption) | exact Fr.net (by assumption) | exact Fr.eqf (by assumption) | exact of_decide_eq_false (by assumption) | exact Fr.neg2 (by assumption) | omega | exact Fr.dneg (by omega) | decide)] at h9)); obtain ⟨⟨t0, t1, t2, t3, t4, t5⟩, A, h2⟩ := Option.bind_eq_some_iff.mp h9; have HA := Aside0.mk A; clear H h9; have H := Aside0.mk h2; clear A h2; refine (breaker_New.calls _ _ _ _ _ _ _ _ _ _ HA.out).mono ?_; rintro e W ⟨rfl, hb⟩; have hF1 := hF.out.call hb; clear hb; have HC1 := hF1.cells; simp only [Fr.Cells, List.length_cons, List.length_nil, Nat.reduceAdd, and_true] at HC1; clear hF HC; have HC := HC1; have hF := Aside0.mk hF1; clear hF1 HC1) | (go_at_call 60; have h9 := H.out; (repeat (first | rw [if_pos (by first | rfl | assumption | exact Fr.nf (by assumption) | exact Fr.nef (by assumption) | exact Fr.eqt (by assumption) | exact of_decide_eq_true (by assumption) | exact Fr.pos2 (by assumption) | omega | exact decide_eq_true (by omega))] at h9 | rw [if_neg (by first | assumption | exact Fr.nt (by assumption) | exact Fr.ff (by assumption) | exact Fr.net (by assumption) | exact Fr.eqf (by assumption) | exact of_decide_eq_false (by assumption) | exact Fr.neg2 (by assumption) | omega | exact Fr.dneg (by omega) | decide)] at h9)); obtain ⟨⟨t0, t1, t2, t3, t4⟩, A, h2⟩ := Option.bind_eq_some_iff.mp h9; have HA := Aside0.mk A; clear H h9; have H := Aside0.mk h2; clear A h2; refine (bucket_New.calls _ _ _ _ _ _ _ _ _ _ HA.out).mono ?_; rintro e W ⟨rfl, hb⟩; have hF1 := hF.out.call hb; clear hb; have HC1 := hF1.cells; simp only [Fr.Cells, List.length_cons, List.length_nil, Nat.reduceAdd, and_true] at HC1; clear hF HC; have HC := HC1; have hF := Aside0.mk hF1; clear hF1 HC1) | ((with_reducible refine gate_store rfl ?_); apply Fr.fr_store hF.out rfl rfl rfl; (case hp => rfl); (case hx => first | (go_simp; rfl) | rfl); (case hu => (simp only [Value.cells]; rfl)); (case hs => (repeat (first | exact Fr.Spot.here _ _ | apply Fr.Spot.there))); (case ht => kernel_rfl); (case h1 => simp [Value.oneCell']); (case hfit => simp); intro W hF1; simp only [Fr.patch, List.take_zero, List.nil_append, List.drop, List.append_nil, List.take, List.cons_append, List.length_cons, List.length_nil, Nat.reduceAdd] at hF1; have HC1 := hF1.cells; simp only [Fr.Cells, List.length_cons, List.length_nil, Nat.reduceAdd, and_true] at HC1; clear hF HC; have HC := HC1; have hF := Aside0.mk hF1; clear hF1 HC1) | ((first | (with_reducible refine Fr.gate_alloc rfl ?_) | (with_reducible refine Fr.gate_box rfl ?_)); apply Fr.fr_box hF.out rfl; (case hrun => first | (go_simp; done) | (go_simp; rfl)); intro g W hF1; have HC1 := hF1.cells; simp only [Fr.Cells, List.length_cons, List.length_nil, Nat.reduceAdd, and_true] at HC1; clear hF HC; have HC := HC1; have hF := Aside0.mk hF1; clear hF1 HC1))
  all_goals (have h9 := H.out; (repeat (first | rw [if_pos (by first | rfl | assumption | exact Fr.nf (by assumption) | exact Fr.nef (by assumption) | exact Fr.eqt (by assumption) | exact of_decide_eq_true (by assumption) | exact Fr.pos2 (by assumption) | omega | exact decide_eq_true (by omega))] at h9 | rw [if_neg (by first | assumption | exact Fr.nt (by assumption) | exact Fr.ff (by assumption) | exact Fr.net (by assumption) | exact Fr.eqf (by assumption) | exact of_decide_eq_false (by assumption) | exact Fr.neg2 (by assumption) | omega | exact Fr.dneg (by omega) | decide)] at h9)); simp only [Option.some.injEq, Prod.mk.injEq] at h9; obtain ⟨rfl, rfl, rfl, rfl, rfl, rfl, rfl, rfl, rfl, rfl⟩ := h9; refine bodyPost_ret ?_ rfl ⟨rfl, hF.out.below⟩; simp [results, Try.results28, go_sem, HC] <;> first | omega | (simp_all; done))

/-! ### foghornlaw19_alive: function 19 -/
def foghornlaw19_alive.f (k : Nat)  : Option (Bool) := (gate_New.f k (⟨#[]⟩ : ByteArray) 0 0 0 0 1 9 2 5 0).bind fun bt226 => ((gate_Ask.f k bt226.1 bt226.2.1 bt226.2.2.1 bt226.2.2.2.1 bt226.2.2.2.2.1 bt226.2.2.2.2.2.1 bt226.2.2.2.2.2.2.1 bt226.2.2.2.2.2.2.2.1 bt226.2.2.2.2.2.2.2.2.1 0).bind fun bt237 => ((gate_Ask.f k bt237.1 bt237.2.1 bt237.2.2.1 bt237.2.2.2.1 bt237.2.2.2.2.1 bt237.2.2.2.2.2.1 bt237.2.2.2.2.2.2.1 bt237.2.2.2.2.2.2.2.1 bt237.2.2.2.2.2.2.2.2.1 0).bind fun bt248 => (if bt226.2.2.2.2.2.2.2.2.2 = 0 then (if bt237.2.2.2.2.2.2.2.2.2.2 = 0 then (if bt248.2.2.2.2.2.2.2.2.2.2 = 0 then (if bt237.2.2.2.2.2.2.2.2.2.1 = true then (some (!bt248.2.2.2.2.2.2.2.2.2.1)) else (some false)) else (some false)) else (some false)) else (some false))))
theorem foghornlaw19_alive.mono : ∀ k, LeO (foghornlaw19_alive.f k ) (foghornlaw19_alive.f (k + 1) ) := by
  intro  k
  unfold foghornlaw19_alive.f
  repeat' first
      | (with_reducible exact gate_Ask.mono _ _ _ _ _ _ _ _ _ _ _)
      | (with_reducible exact gate_New.mono _ _ _ _ _ _ _ _ _ _ _)
      | (with_reducible exact LeO.refl _)
      | (with_reducible exact LeO.none _)
      | (with_reducible refine LeO.ite ?_ ?_)
      | (with_reducible refine LeO.bind ?_ (fun _ => ?_))
      | exact gate_Ask.mono _ _ _ _ _ _ _ _ _ _ _
      | exact gate_New.mono _ _ _ _ _ _ _ _ _ _ _
      | exact LeO.none _
      | refine LeO.ite ?_ ?_
      | refine LeO.bind ?_ (fun _ => ?_)
set_option maxHeartbeats 8000000 in
set_option maxRecDepth 100000 in
theorem foghornlaw19_alive.calls (k : Nat)  (r : Bool) (w : World) (h : foghornlaw19_alive.f k  = some r) :
    Calls Try.prog 19 #[] w fun e w' => e = .returned (.bool r) ∧ Below w.heap.size w w' := by
  unfold foghornlaw19_alive.f at h
  have H := Aside0.mk h
  clear h
  have hF := Aside0.mk (Fr.Frame.start w)
  have HC : True := trivial
  go_enter Try.func19, Try.ntmps19
  go_wp2_with (first | (go_at_call 28; have h9 := H.out; (repeat (first | rw [if_pos (by first | rfl | assumption | exact Fr.nf (by assumption) | exact Fr.nef (by assumption) | exact Fr.eqt (by assumption) | exact of_decide_eq_true (by assumption) | exact Fr.pos2 (by assumption) | omega | exact decide_eq_true (by omega))] at h9 | rw [if_neg (by first | assumption | exact Fr.nt (by assumption) | exact Fr.ff (by assumption) | exact Fr.net (by assumption) | exact Fr.eqf (by assumption) | exact of_decide_eq_false (by assumption) | exact Fr.neg2 (by assumption) | omega | exact Fr.dneg (by omega) | decide)] at h9)); obtain ⟨⟨t0, t1, t2, t3, t4, t5, t6, t7, t8, t9⟩, A, h2⟩ := Option.bind_eq_some_iff.mp h9; have HA := Aside0.mk A; clear H h9; have H := Aside0.mk h2; clear A h2; refine (gate_New.calls _ _ _ _ _ _ _ _ _ _ _ _ _ _ _ _ _ _ _ _ _ _ HA.out).mono ?_; rintro e W ⟨rfl, hb⟩; have hF1 := hF.out.call hb; clear hb; have HC1 := hF1.cells; simp only [Fr.Cells, List.length_cons, List.length_nil, Nat.reduceAdd, and_true] at HC1; clear hF HC; have HC := HC1; have hF := Aside0.mk hF1; clear hF1 HC1) | (go_at_call 18; have h9 := H.out; (repeat (first | rw [if_pos (by first | rfl | assumption | exact Fr.nf (by assumption) | exact Fr.nef (by assumption) | exact Fr.eqt (by assumption) | exact of_decide_eq_true (by assumption) | exact Fr.pos2 (by assumption) | omega | exact decide_eq_true (by omega))] at h9 | rw [if_neg (by first | assumption | exact Fr.nt (by assumption) | exact Fr.ff (by assumption) | exact Fr.net (by assumption) | exact Fr.eqf (by assumption) | exact of_decide_eq_false (by assumption) | exact Fr.neg2 (by assumption) | omega | exact Fr.dneg (by omega) | decide)] at h9)); obtain ⟨⟨t0, t1, t2, t3, t4, t5, t6, t7, t8, t9, t10⟩, A, h2⟩ := Option.bind_eq_some_iff.mp h9; have HA := Aside0.mk A; clear H h9; have H := Aside0.mk h2; clear A h2; refine (gate_Ask.calls _ _ _ _ _ _ _ _ _ _ _ _ _ _ _ _ _ _ _ _ _ _ _ HA.out).mono ?_; rintro e W ⟨rfl, hb⟩; have hF1 := hF.out.call hb; clear hb; have HC1 := hF1.cells; simp only [Fr.Cells, List.length_cons, List.length_nil, Nat.reduceAdd, and_true] at HC1; clear hF HC; have HC := HC1; have hF := Aside0.mk hF1; clear hF1 HC1) | ((with_reducible refine gate_store rfl ?_); apply Fr.fr_store hF.out rfl rfl rfl; (case hp => rfl); (case hx => first | (go_simp; rfl) | rfl); (case hu => (simp only [Value.cells]; rfl)); (case hs => (repeat (first | exact Fr.Spot.here _ _ | apply Fr.Spot.there))); (case ht => kernel_rfl); (case h1 => simp [Value.oneCell']); (case hfit => simp); intro W hF1; simp only [Fr.patch, List.take_zero, List.nil_append, List.drop, List.append_nil, List.take, List.cons_append, List.length_cons, List.length_nil, Nat.reduceAdd] at hF1; have HC1 := hF1.cells; simp only [Fr.Cells, List.length_cons, List.length_nil, Nat.reduceAdd, and_true] at HC1; clear hF HC; have HC := HC1; have hF := Aside0.mk hF1; clear hF1 HC1) | ((first | (with_reducible refine Fr.gate_alloc rfl ?_) | (with_reducible refine Fr.gate_box rfl ?_)); apply Fr.fr_box hF.out rfl; (case hrun => first | (go_simp; done) | (go_simp; rfl)); intro g W hF1; have HC1 := hF1.cells; simp only [Fr.Cells, List.length_cons, List.length_nil, Nat.reduceAdd, and_true] at HC1; clear hF HC; have HC := HC1; have hF := Aside0.mk hF1; clear hF1 HC1))
  all_goals (have h9 := H.out; (repeat (first | rw [if_pos (by first | rfl | assumption | exact Fr.nf (by assumption) | exact Fr.nef (by assumption) | exact Fr.eqt (by assumption) | exact of_decide_eq_true (by assumption) | exact Fr.pos2 (by assumption) | omega | exact decide_eq_true (by omega))] at h9 | rw [if_neg (by first | assumption | exact Fr.nt (by assumption) | exact Fr.ff (by assumption) | exact Fr.net (by assumption) | exact Fr.eqf (by assumption) | exact of_decide_eq_false (by assumption) | exact Fr.neg2 (by assumption) | omega | exact Fr.dneg (by omega) | decide)] at h9)); obtain rfl := Option.some.inj h9; refine bodyPost_ret ?_ rfl ⟨rfl, hF.out.below⟩; simp [results, Try.results19, go_sem, HC] <;> first | omega | (simp_all; done))

/-! ### foghornlaw19_GateStill: function 4 -/
def foghornlaw19_GateStill.j0 : Nat → Int → Int → Int → Bool → Int → Int → Int → Int → Int → Int → Int → Int → Int → Int → Int → Int → Int → Int → Int → Int → Int → Int → Option (Bool)
  | 0, _, _, _, _, _, _, _, _, _, _, _, _, _, _, _, _, _, _, _, _, _, _ => none
  | k + 1, x1, x2, x9, x38, x261000, x261001, x261002, x261003, x261004, x261005, x261006, x261007, x261008, x273000, x273001, x273002, x273003, x273004, x273005, x273006, x273007, x273008 => if x38 = true then ((foghornlaw19_alive.f k).bind fun t273 => (if t273 = true then (if x9 = 0 then (some true) else (some ((x273000 == 0 && (x273001 == 0 && (x273002 == 0 && (x273003 == 0 && (x273004 == 0))))) && ((x273005 == 0 && (x273006 == 0 && (x273007 == 0 && (x273008 == 0)))))))) else (some false))) else ((gate_Ask.f k x273000 x273001 x273002 x273003 x273004 x273005 x273006 x273007 x273008 x1).bind fun bt274 => ((gate_Ask.f k x273000 x273001 x273002 x273003 x273004 x273005 x273006 x273007 x273008 (wrap64 (x1 + x2))).bind fun bt286 => ((gate_Ask.f k x261000 x261001 x261002 x261003 x261004 x261005 x261006 x261007 x261008 (wrap64 (x1 + x2))).bind fun bt298 => ((foghornlaw19_alive.f k).bind fun t310 => (if t310 = true then (if bt274.2.2.2.2.2.2.2.2.2.2 = 0 then (if bt274.2.2.2.2.2.2.2.2.2.1 = true then (some false) else (if bt286.2.2.2.2.2.2.2.2.2.2 = 0 then (if bt298.2.2.2.2.2.2.2.2.2.2 = 0 then (if (bt286.2.2.2.2.2.2.2.2.2.1 == bt298.2.2.2.2.2.2.2.2.2.1) = true then (some ((bt286.1 == bt298.1 && (bt286.2.1 == bt298.2.1 && (bt286.2.2.1 == bt298.2.2.1 && (bt286.2.2.2.1 == bt298.2.2.2.1 && (bt286.2.2.2.2.1 == bt298.2.2.2.2.1))))) && ((bt286.2.2.2.2.2.1 == bt298.2.2.2.2.2.1 && (bt286.2.2.2.2.2.2.1 == bt298.2.2.2.2.2.2.1 && (bt286.2.2.2.2.2.2.2.1 == bt298.2.2.2.2.2.2.2.1 && (bt286.2.2.2.2.2.2.2.2.1 == bt298.2.2.2.2.2.2.2.2.1))))))) else (some false)) else (some false)) else (some false))) else (some false)) else (some false))))))
def foghornlaw19_GateStill.f (k : Nat) (a0_0 : Int) (a0_1 : Int) (a0_2 : Int) (a0_3 : Int) (a0_4 : Int) (a0_5 : Int) (a0_6 : Int) (a0_7 : Int) (a0_8 : Int) (a1 : Int) (a2 : Int) : Option (Bool) := (gate_Ask.f k a0_0 a0_1 a0_2 a0_3 a0_4 a0_5 a0_6 a0_7 a0_8 a1).bind fun bt261 => (if bt261.2.2.2.2.2.2.2.2.2.2 = 0 then (if bt261.2.2.2.2.2.2.2.2.2.1 = true then (foghornlaw19_GateStill.j0 k a1 (Int.tmod (wrap64 ((Int.tmod a2 100) + 100)) 100) bt261.2.2.2.2.2.2.2.2.2.2 true a0_0 a0_1 a0_2 a0_3 a0_4 a0_5 a0_6 a0_7 a0_8 bt261.1 bt261.2.1 bt261.2.2.1 bt261.2.2.2.1 bt261.2.2.2.2.1 bt261.2.2.2.2.2.1 bt261.2.2.2.2.2.2.1 bt261.2.2.2.2.2.2.2.1 bt261.2.2.2.2.2.2.2.2.1) else (foghornlaw19_GateStill.j0 k a1 (Int.tmod (wrap64 ((Int.tmod a2 100) + 100)) 100) bt261.2.2.2.2.2.2.2.2.2.2 (decide (a1 > 1099511627676)) a0_0 a0_1 a0_2 a0_3 a0_4 a0_5 a0_6 a0_7 a0_8 bt261.1 bt261.2.1 bt261.2.2.1 bt261.2.2.2.1 bt261.2.2.2.2.1 bt261.2.2.2.2.2.1 bt261.2.2.2.2.2.2.1 bt261.2.2.2.2.2.2.2.1 bt261.2.2.2.2.2.2.2.2.1)) else (foghornlaw19_GateStill.j0 k a1 (Int.tmod (wrap64 ((Int.tmod a2 100) + 100)) 100) bt261.2.2.2.2.2.2.2.2.2.2 true a0_0 a0_1 a0_2 a0_3 a0_4 a0_5 a0_6 a0_7 a0_8 bt261.1 bt261.2.1 bt261.2.2.1 bt261.2.2.2.1 bt261.2.2.2.2.1 bt261.2.2.2.2.2.1 bt261.2.2.2.2.2.2.1 bt261.2.2.2.2.2.2.2.1 bt261.2.2.2.2.2.2.2.2.1))
theorem foghornlaw19_GateStill.mono_l : ∀ k, (∀ y0 y1 y2 y3 y4 y5 y6 y7 y8 y9 y10 y11 y12 y13 y14 y15 y16 y17 y18 y19 y20 y21, LeO (foghornlaw19_GateStill.j0 k y0 y1 y2 y3 y4 y5 y6 y7 y8 y9 y10 y11 y12 y13 y14 y15 y16 y17 y18 y19 y20 y21) (foghornlaw19_GateStill.j0 (k + 1) y0 y1 y2 y3 y4 y5 y6 y7 y8 y9 y10 y11 y12 y13 y14 y15 y16 y17 y18 y19 y20 y21))
  | 0 => fun _ _ _ _ _ _ _ _ _ _ _ _ _ _ _ _ _ _ _ _ _ _ r h => by simp [foghornlaw19_GateStill.j0] at h
  | k + 1 => by
    have ih0 := foghornlaw19_GateStill.mono_l k
    · intro y0 y1 y2 y3 y4 y5 y6 y7 y8 y9 y10 y11 y12 y13 y14 y15 y16 y17 y18 y19 y20 y21
      unfold foghornlaw19_GateStill.j0
      repeat' first
      | (with_reducible exact ih0 _ _ _ _ _ _ _ _ _ _ _ _ _ _ _ _ _ _ _ _ _ _)
      | (with_reducible exact foghornlaw19_alive.mono _)
      | (with_reducible exact gate_Ask.mono _ _ _ _ _ _ _ _ _ _ _)
      | (with_reducible exact LeO.refl _)
      | (with_reducible exact LeO.none _)
      | (with_reducible refine LeO.ite ?_ ?_)
      | (with_reducible refine LeO.bind ?_ (fun _ => ?_))
      | exact ih0 _ _ _ _ _ _ _ _ _ _ _ _ _ _ _ _ _ _ _ _ _ _
      | exact foghornlaw19_alive.mono _
      | exact gate_Ask.mono _ _ _ _ _ _ _ _ _ _ _
      | exact LeO.none _
      | refine LeO.ite ?_ ?_
      | refine LeO.bind ?_ (fun _ => ?_)
theorem foghornlaw19_GateStill.mono : ∀ a0 a1 a2 a3 a4 a5 a6 a7 a8 a9 a10 k, LeO (foghornlaw19_GateStill.f k a0 a1 a2 a3 a4 a5 a6 a7 a8 a9 a10) (foghornlaw19_GateStill.f (k + 1) a0 a1 a2 a3 a4 a5 a6 a7 a8 a9 a10) := by
  intro a0 a1 a2 a3 a4 a5 a6 a7 a8 a9 a10 k
  have ih0 := foghornlaw19_GateStill.mono_l k
  unfold foghornlaw19_GateStill.f
  repeat' first
      | (with_reducible exact ih0 _ _ _ _ _ _ _ _ _ _ _ _ _ _ _ _ _ _ _ _ _ _)
      | (with_reducible exact foghornlaw19_alive.mono _)
      | (with_reducible exact gate_Ask.mono _ _ _ _ _ _ _ _ _ _ _)
      | (with_reducible exact LeO.refl _)
      | (with_reducible exact LeO.none _)
      | (with_reducible refine LeO.ite ?_ ?_)
      | (with_reducible refine LeO.bind ?_ (fun _ => ?_))
      | exact ih0 _ _ _ _ _ _ _ _ _ _ _ _ _ _ _ _ _ _ _ _ _ _
      | exact foghornlaw19_alive.mono _
      | exact gate_Ask.mono _ _ _ _ _ _ _ _ _ _ _
      | exact LeO.none _
      | refine LeO.ite ?_ ?_
      | refine LeO.bind ?_ (fun _ => ?_)
theorem foghornlaw19_GateStill.j0_pos {k : Nat} {x0 x1 x2 x3 x4 x5 x6 x7 x8 x9 x10 x11 x12 x13 x14 x15 x16 x17 x18 x19 x20 x21 : _} {r : _} (h : foghornlaw19_GateStill.j0 k x0 x1 x2 x3 x4 x5 x6 x7 x8 x9 x10 x11 x12 x13 x14 x15 x16 x17 x18 x19 x20 x21 = some r) : ∃ m, k = m + 1 := by
  cases k with
  | zero => simp [foghornlaw19_GateStill.j0] at h
  | succ m => exact ⟨m, rfl⟩
set_option maxHeartbeats 8000000 in
set_option maxRecDepth 100000 in
theorem foghornlaw19_GateStill.calls (k : Nat) (a0_0 : Int) (a0_1 : Int) (a0_2 : Int) (a0_3 : Int) (a0_4 : Int) (a0_5 : Int) (a0_6 : Int) (a0_7 : Int) (a0_8 : Int) (a1 : Int) (a2 : Int) (r : Bool) (w : World) (h : foghornlaw19_GateStill.f k a0_0 a0_1 a0_2 a0_3 a0_4 a0_5 a0_6 a0_7 a0_8 a1 a2 = some r) :
    Calls Try.prog 4 #[.agg #[.int .i64 a0_0, .int .i64 a0_1, .int .i64 a0_2, .int .i64 a0_3, .int .i64 a0_4, .int .i64 a0_5, .int .i64 a0_6, .int .i64 a0_7, .int .i64 a0_8], .int .i64 a1, .int .i64 a2] w fun e w' => e = .returned (.bool r) ∧ Below w.heap.size w w' := by
  unfold foghornlaw19_GateStill.f at h
  have H := Aside0.mk h
  clear h
  have hF := Aside0.mk (Fr.Frame.start w)
  have HC : True := trivial
  go_enter Try.func4, Try.ntmps4
  go_wp2_with (first | (go_at_call 19; have h9 := H.out; (repeat (first | rw [if_pos (by first | rfl | assumption | exact Fr.nf (by assumption) | exact Fr.nef (by assumption) | exact Fr.eqt (by assumption) | exact of_decide_eq_true (by assumption) | exact Fr.pos2 (by assumption) | omega | exact decide_eq_true (by omega))] at h9 | rw [if_neg (by first | assumption | exact Fr.nt (by assumption) | exact Fr.ff (by assumption) | exact Fr.net (by assumption) | exact Fr.eqf (by assumption) | exact of_decide_eq_false (by assumption) | exact Fr.neg2 (by assumption) | omega | exact Fr.dneg (by omega) | decide)] at h9 | (obtain ⟨_, rfl⟩ := foghornlaw19_GateStill.j0_pos h9; rw [foghornlaw19_GateStill.j0] at h9))); obtain ⟨t0, A, h2⟩ := Option.bind_eq_some_iff.mp h9; have HA := Aside0.mk A; clear H h9; have H := Aside0.mk h2; clear A h2; refine (foghornlaw19_alive.calls _ _ _ HA.out).mono ?_; rintro e W ⟨rfl, hb⟩; have hF1 := hF.out.call hb; clear hb; have HC1 := hF1.cells; simp only [Fr.Cells, List.length_cons, List.length_nil, Nat.reduceAdd, and_true] at HC1; clear hF HC; have HC := HC1; have hF := Aside0.mk hF1; clear hF1 HC1) | (go_at_call 18; have h9 := H.out; (repeat (first | rw [if_pos (by first | rfl | assumption | exact Fr.nf (by assumption) | exact Fr.nef (by assumption) | exact Fr.eqt (by assumption) | exact of_decide_eq_true (by assumption) | exact Fr.pos2 (by assumption) | omega | exact decide_eq_true (by omega))] at h9 | rw [if_neg (by first | assumption | exact Fr.nt (by assumption) | exact Fr.ff (by assumption) | exact Fr.net (by assumption) | exact Fr.eqf (by assumption) | exact of_decide_eq_false (by assumption) | exact Fr.neg2 (by assumption) | omega | exact Fr.dneg (by omega) | decide)] at h9 | (obtain ⟨_, rfl⟩ := foghornlaw19_GateStill.j0_pos h9; rw [foghornlaw19_GateStill.j0] at h9))); obtain ⟨⟨t0, t1, t2, t3, t4, t5, t6, t7, t8, t9, t10⟩, A, h2⟩ := Option.bind_eq_some_iff.mp h9; have HA := Aside0.mk A; clear H h9; have H := Aside0.mk h2; clear A h2; refine (gate_Ask.calls _ _ _ _ _ _ _ _ _ _ _ _ _ _ _ _ _ _ _ _ _ _ _ HA.out).mono ?_; rintro e W ⟨rfl, hb⟩; have hF1 := hF.out.call hb; clear hb; have HC1 := hF1.cells; simp only [Fr.Cells, List.length_cons, List.length_nil, Nat.reduceAdd, and_true] at HC1; clear hF HC; have HC := HC1; have hF := Aside0.mk hF1; clear hF1 HC1) | ((with_reducible refine gate_store rfl ?_); apply Fr.fr_store hF.out rfl rfl rfl; (case hp => rfl); (case hx => first | (go_simp; rfl) | rfl); (case hu => (simp only [Value.cells]; rfl)); (case hs => (repeat (first | exact Fr.Spot.here _ _ | apply Fr.Spot.there))); (case ht => kernel_rfl); (case h1 => simp [Value.oneCell']); (case hfit => simp); intro W hF1; simp only [Fr.patch, List.take_zero, List.nil_append, List.drop, List.append_nil, List.take, List.cons_append, List.length_cons, List.length_nil, Nat.reduceAdd] at hF1; have HC1 := hF1.cells; simp only [Fr.Cells, List.length_cons, List.length_nil, Nat.reduceAdd, and_true] at HC1; clear hF HC; have HC := HC1; have hF := Aside0.mk hF1; clear hF1 HC1) | ((first | (with_reducible refine Fr.gate_alloc rfl ?_) | (with_reducible refine Fr.gate_box rfl ?_)); apply Fr.fr_box hF.out rfl; (case hrun => first | (go_simp; done) | (go_simp; rfl)); intro g W hF1; have HC1 := hF1.cells; simp only [Fr.Cells, List.length_cons, List.length_nil, Nat.reduceAdd, and_true] at HC1; clear hF HC; have HC := HC1; have hF := Aside0.mk hF1; clear hF1 HC1))
  all_goals (have h9 := H.out; (repeat (first | rw [if_pos (by first | rfl | assumption | exact Fr.nf (by assumption) | exact Fr.nef (by assumption) | exact Fr.eqt (by assumption) | exact of_decide_eq_true (by assumption) | exact Fr.pos2 (by assumption) | omega | exact decide_eq_true (by omega))] at h9 | rw [if_neg (by first | assumption | exact Fr.nt (by assumption) | exact Fr.ff (by assumption) | exact Fr.net (by assumption) | exact Fr.eqf (by assumption) | exact of_decide_eq_false (by assumption) | exact Fr.neg2 (by assumption) | omega | exact Fr.dneg (by omega) | decide)] at h9 | (obtain ⟨_, rfl⟩ := foghornlaw19_GateStill.j0_pos h9; rw [foghornlaw19_GateStill.j0] at h9))); obtain rfl := Option.some.inj h9; refine bodyPost_ret ?_ rfl ⟨rfl, hF.out.below⟩; simp [results, Try.results4, go_sem, HC] <;> first | omega | (simp_all; done))

-- NOT PRINTED: function 86 (heap_up)

-- NOT PRINTED: function 56 (heap_Push)

-- NOT PRINTED: function 20 (due_Push)

-- NOT PRINTED: function 21 (due_Pop)

/-! ### foghornref05_Right: function 24 -/
def foghornref05_Right.f (a0 : Int) : Option (Bool) := if a0 ≥ 0 then (some (decide (a0 ≤ 1099511627776))) else (some false)
set_option maxHeartbeats 8000000 in
set_option maxRecDepth 100000 in
theorem foghornref05_Right.calls (a0 : Int) (r : Bool) (w : World) (h : foghornref05_Right.f a0 = some r) :
    Calls Try.prog 24 #[.int .i64 a0] w fun e w' => e = .returned (.bool r) ∧ Drawn0 w w' := by
  have H : (if a0 ≥ 0 then (some (decide (a0 ≤ 1099511627776))) else (some false)) = some r := h
  clear h
  by_cases c2 : a0 ≥ 0
  · rw [if_pos c2] at H
    have c2b0 : decide (0 ≤ a0) = true := decide_eq_true c2
    clear c2
    obtain rfl := Option.some.inj H
    go_enter Try.func24, Try.ntmps24
    go_wp2
    go_ret
    exact ⟨by first | rfl | (simp; done) | (simp [*]; done), by repeat (first | exact Drawn0.refl _ | apply Drawn0.step)⟩
  · rw [if_neg c2] at H
    have c2b0 : decide (0 ≤ a0) = false := decide_eq_false c2
    clear c2
    obtain rfl := Option.some.inj H
    go_enter Try.func24, Try.ntmps24
    go_wp2
    go_ret
    exact ⟨by first | rfl | (simp; done) | (simp [*]; done), by repeat (first | exact Drawn0.refl _ | apply Drawn0.step)⟩

end Go.Proofs.Ytanhdljnbaojbaa.G
