/- Contracts of functions of the given program, each proved by a walk of its code: written by gprint.py, this session's program round the kit's print; texts of our own stand among the printed ones. No condition beyond each theorem's own premises. -/
import Derived.Test.YtanhdljnbaojbaaG0
import Derived.Test.YtanhdljnbaojbaaG8
import Derived.Test.YtanhdljnbaojbaaG9
import Derived.Test.YtanhdljnbaojbaaG10
import Derived.Test.YtanhdljnbaojbaaG11
namespace Go.Proofs.Ytanhdljnbaojbaa.G
open Go.RowKit Go.Proofs.YtanhdljnbaojbaaW.PrintWords Go.Proofs.YtanhdljnbaojbaaW.PrintLast Go.Proofs.YtanhdljnbaojbaaW.PrintMore
attribute [local go_sem] max2_int min2_int max_two min_two max_three min_three max_four min_four   -- for this text's walks alone
set_option linter.unusedVariables false
set_option linter.unusedSimpArgs false

/-! ### gate_Ask: function 18 -/
-- GIVEN OWN
open Go.Proofs.Ytanhdljnbaojbaa
def gate_Ask.f (k : Nat) (a0_0 : Int) (a0_1 : Int) (a0_2 : Int) (a0_3 : Int) (a0_4 : Int) (a0_5 : Int) (a0_6 : Int) (a0_7 : Int) (a0_8 : Int) (a1 : Int) : Option (Int × Int × Int × Int × Int × Int × Int × Int × Int × Bool × Int) := (gate_Right.f k a0_0 a0_1 a0_2 a0_3 a0_4 a0_5 a0_6 a0_7 a0_8).bind fun t207 => (if t207 = true then ((bucket_Fill.f a0_5 a0_6 a0_7 a0_8 a1).bind fun bt209 => (if bt209.2.2.2.2 = 0 then ((bucket_Take.f bt209.1 bt209.2.1 bt209.2.2.1 bt209.2.2.2.1 a1).bind fun bt215 => (if bt215.2.2.2.2.1 = true then ((breaker_Ask.f k a0_0 a0_1 a0_2 a0_3 a0_4 a1).bind fun bt222 => (if bt222.2.2.2.2.2.1 = true then (some (bt222.1, bt222.2.1, bt222.2.2.1, bt222.2.2.2.1, bt222.2.2.2.2.1, bt215.1, bt215.2.1, bt215.2.2.1, bt215.2.2.2.1, bt222.2.2.2.2.2.1, 0)) else (some (bt222.1, bt222.2.1, bt222.2.2.1, bt222.2.2.2.1, bt222.2.2.2.2.1, bt209.1, bt209.2.1, bt209.2.2.1, bt209.2.2.2.1, bt222.2.2.2.2.2.1, 0)))) else (some (a0_0, a0_1, a0_2, a0_3, a0_4, bt209.1, bt209.2.1, bt209.2.2.1, bt209.2.2.2.1, false, 0)))) else (some (0, 0, 0, 0, 0, 0, 0, 0, 0, false, bt209.2.2.2.2)))) else (some (0, 0, 0, 0, 0, 0, 0, 0, 0, false, 1)))
theorem gate_Ask.mono : ∀ a0 a1 a2 a3 a4 a5 a6 a7 a8 a9 k, LeO (gate_Ask.f k a0 a1 a2 a3 a4 a5 a6 a7 a8 a9) (gate_Ask.f (k + 1) a0 a1 a2 a3 a4 a5 a6 a7 a8 a9) := by
  intro a0 a1 a2 a3 a4 a5 a6 a7 a8 a9 k
  unfold gate_Ask.f
  repeat' first
      | (with_reducible exact breaker_Ask.mono _ _ _ _ _ _ _)
      | (with_reducible exact gate_Right.mono _ _ _ _ _ _ _ _ _ _)
      | (with_reducible exact LeO.refl _)
      | (with_reducible exact LeO.none _)
      | (with_reducible refine LeO.ite ?_ ?_)
      | (with_reducible refine LeO.bind ?_ (fun _ => ?_))
      | exact breaker_Ask.mono _ _ _ _ _ _ _
      | exact gate_Right.mono _ _ _ _ _ _ _ _ _ _
      | exact LeO.none _
      | refine LeO.ite ?_ ?_
      | refine LeO.bind ?_ (fun _ => ?_)
set_option maxHeartbeats 4000000 in
set_option maxRecDepth 100000 in
theorem gate_Ask.calls (k : Nat) (a0_0 a0_1 a0_2 a0_3 a0_4 a0_5 a0_6 a0_7 a0_8 a1 r1 r2 r3 r4 r5 r6 r7 r8 r9 : Int) (r10 : Bool) (r11 : Int) (w : World) (h : gate_Ask.f k a0_0 a0_1 a0_2 a0_3 a0_4 a0_5 a0_6 a0_7 a0_8 a1 = some (r1, r2, r3, r4, r5, r6, r7, r8, r9, r10, r11)) :
    Calls Try.prog 18 #[.agg #[.int .i64 a0_0, .int .i64 a0_1, .int .i64 a0_2, .int .i64 a0_3, .int .i64 a0_4, .int .i64 a0_5, .int .i64 a0_6, .int .i64 a0_7, .int .i64 a0_8], .int .i64 a1] w fun e w' => e = .returned (.tuple #[.agg #[.int .i64 r1, .int .i64 r2, .int .i64 r3, .int .i64 r4, .int .i64 r5, .int .i64 r6, .int .i64 r7, .int .i64 r8, .int .i64 r9], .bool r10, .int .i64 r11]) ∧ Below w.heap.size w w' := by
  unfold gate_Ask.f at h
  have H := Aside0.mk h
  clear h
  have hF := Aside0.mk (Fr.Frame.start w)
  have HC : True := trivial
  go_enter Try.func18, Try.ntmps18
  go_wp2_with (first | (go_at_call 30; obtain ⟨t, A, h2⟩ := Option.bind_eq_some_iff.mp H.out; have HA := Aside0.mk A; clear H; have H := Aside0.mk h2; clear A h2; refine (gate_Right.calls k _ _ _ _ _ _ _ _ _ t _ HA.out).mono ?_; rintro e W ⟨rfl, hb⟩; have hF1 := hF.out.call hb; clear hb; have HC1 := hF1.cells; simp only [Fr.Cells, List.length_cons, List.length_nil, Nat.reduceAdd, and_true] at HC1; clear hF HC; have HC := HC1; have hF := Aside0.mk hF1; clear hF1 HC1) | (go_at_call 53; obtain ⟨⟨t1, t2, t3, t4, t5⟩, A, h2⟩ := Option.bind_eq_some_iff.mp ((if_pos (by first | assumption | exact Fr.nf (by assumption) | exact Fr.nef (by assumption) | exact Fr.eqt (by assumption))).symm.trans H.out); have HA := Aside0.mk A; clear H; have H := Aside0.mk h2; clear A h2; refine (bucket_Fill.calls _ _ _ _ _ _ _ _ _ _ _ HA.out).mono ?_; rintro e W ⟨rfl, hb⟩; have hF1 := hF.out.call hb; clear hb; have HC1 := hF1.cells; simp only [Fr.Cells, List.length_cons, List.length_nil, Nat.reduceAdd, and_true] at HC1; clear hF HC; have HC := HC1; have hF := Aside0.mk hF1; clear hF1 HC1) | (go_at_call 54; obtain ⟨⟨p1, p2, p3, p4, p5, p6⟩, A, h2⟩ := Option.bind_eq_some_iff.mp ((if_pos (by first | assumption | exact Fr.nf (by assumption) | exact Fr.nef (by assumption) | exact Fr.eqt (by assumption))).symm.trans H.out); have HA := Aside0.mk A; clear H; have H := Aside0.mk h2; clear A h2; refine (bucket_Take.calls _ _ _ _ _ _ _ _ _ _ _ _ HA.out).mono ?_; rintro e W ⟨rfl, hb⟩; have hF1 := hF.out.call hb; clear hb; have HC1 := hF1.cells; simp only [Fr.Cells, List.length_cons, List.length_nil, Nat.reduceAdd, and_true] at HC1; clear hF HC; have HC := HC1; have hF := Aside0.mk hF1; clear hF1 HC1) | (go_at_call 55; obtain ⟨⟨b1, b2, b3, b4, b5, b6, b7⟩, A, h2⟩ := Option.bind_eq_some_iff.mp ((if_pos (by first | assumption | exact Fr.nf (by assumption) | exact Fr.nef (by assumption) | exact Fr.eqt (by assumption))).symm.trans H.out); have HA := Aside0.mk A; clear H; have H := Aside0.mk h2; clear A h2; refine (breaker_Ask.calls k _ _ _ _ _ _ _ _ _ _ _ _ _ _ HA.out).mono ?_; rintro e W ⟨rfl, hb⟩; have hF1 := hF.out.call hb; clear hb; have HC1 := hF1.cells; simp only [Fr.Cells, List.length_cons, List.length_nil, Nat.reduceAdd, and_true] at HC1; clear hF HC; have HC := HC1; have hF := Aside0.mk hF1; clear hF1 HC1) | ((with_reducible refine gate_store rfl ?_); apply Fr.fr_store hF.out rfl rfl rfl; (case hp => rfl); (case hx => first | (go_simp; rfl) | rfl); (case hu => (simp only [Value.cells]; rfl)); (case hs => repeat (first | exact Fr.Spot.here _ _ | apply Fr.Spot.there)); (case ht => kernel_rfl); (case h1 => simp [Value.oneCell']); (case hfit => simp); intro W hF1; simp only [Fr.patch, List.take_zero, List.nil_append, List.drop, List.append_nil, List.take, List.cons_append, List.length_cons, List.length_nil, Nat.reduceAdd] at hF1; have HC1 := hF1.cells; simp only [Fr.Cells, List.length_cons, List.length_nil, Nat.reduceAdd, and_true] at HC1; clear hF HC; have HC := HC1; have hF := Aside0.mk hF1; clear hF1 HC1) | ((first | (with_reducible refine Fr.gate_alloc rfl ?_) | (with_reducible refine Fr.gate_box rfl ?_)); apply Fr.fr_box hF.out rfl; (case hrun => first | (go_simp; done) | (go_simp; rfl)); intro g W hF1; have HC1 := hF1.cells; simp only [Fr.Cells, List.length_cons, List.length_nil, Nat.reduceAdd, and_true] at HC1; clear hF HC; have HC := HC1; have hF := Aside0.mk hF1; clear hF1 HC1))
  all_goals (have h9 := H.out; repeat (first | rw [if_pos (by first | assumption | exact Fr.nf (by assumption) | exact Fr.nef (by assumption) | exact Fr.eqt (by assumption))] at h9 | rw [if_neg (by first | assumption | exact Fr.nt (by assumption) | exact Fr.ff (by assumption) | exact Fr.net (by assumption) | exact Fr.eqf (by assumption))] at h9); simp only [Option.some.injEq, Prod.mk.injEq] at h9; obtain ⟨rfl, rfl, rfl, rfl, rfl, rfl, rfl, rfl, rfl, rfl, rfl⟩ := h9; refine bodyPost_ret ?_ rfl ⟨rfl, hF.out.below⟩; simp [results, Try.results18, go_sem, HC])


end Go.Proofs.Ytanhdljnbaojbaa.G
