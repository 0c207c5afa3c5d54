/- The statement DutyOrder of the given program holds: for every input the law returns true, and each argument reads behind the call as it read before. No condition. -/
import Derived.Test.YtkphinfijppkeaaRows
import Derived.Test.YtkphinfijppkeaaXDutyOrderM0
import Derived.Test.YtkphinfijppkeaaXDutyOrderM7
import Derived.WalkKit
import Derived.ProofKit
import Derived.OpenShut
import Derived.ShutString
import Derived.ChangeOld
import Derived.Below
import Derived.SizedLaws
import Derived.Lib.SmallJoins
namespace Go.Proofs.Ytkphinfijppkeaa.dutyOrder
open Go.ChangeShapes Go.WideShapes Go.ChangeAt Go.RowKit Go.Proofs.YtkphinfijppkeaaW.PrintWords Go.Proofs.Ytkphinfijppkeaa.G Go.Proofs.Ytkphinfijppkeaa.Op
set_option linter.unusedVariables false
theorem own : ownKnob Try.prog.godebug = none := by kernel_rfl
theorem laidOut : laidOutB Try.prog = true := by kernel_rfl
set_option maxRecDepth 100000 in
theorem lifted (os : Os) (started : os.Started) (H : Type) (enc : TypeId × Value → H) :
    ReturnsInHanded {} Try.checked os 13 .any (Rows.dutyOrderSpec.pre6 enc Try.prog Try.f13 Rows.dutyOrderRow.domain false) (Rows.dutyOrderSpec.post enc Try.prog Try.f13 false true false false) := by
  refine returnsInHanded_of_change_sized (C := Try.checked) own started (by kernel_rfl) Try.func13
    (ChangeSpec.witness6 (enc := enc) (C := Try.checked) false ⟨#[], #[.agg #[.slice none 0 0, .int .i64 0, .int .i64 0, .int .i64 0, .int .i64 0, .int .i64 0], .agg #[.slice none 0 0, .int .i64 0, .int .i64 0, .int .i64 0, .int .i64 0, .int .i64 0], .agg #[.slice none 0 0, .int .i64 0, .int .i64 0, .int .i64 0, .int .i64 0, .int .i64 0]], []⟩ 8 (by kernel_rfl) (by kernel_rfl) (by kernel_rfl) (by kernel_rfl)) ?_
  intro W base args ds gs before hval0 hW hcnd hsz0 _
  have hval : ∀ (j : Nat) t v, Try.f13.params[j]? = some t → args[j]? = some v → Value.okWide Try.prog W .any base t v := hval0
  have hW' := hW
  obtain ⟨p, q, hA0, hV, rfl, hfz, hnd⟩ := hW
  have hA : DataW.TrodAll enc Try.prog W 0 (fun _ => true) true Try.f13.params.toList args.toList ds p := hA0
  rw [Try.params13] at hA hval
  obtain ⟨v0, vs0, d0, ds0, p0, q0, hargs, rfl, rfl, h0, r0⟩ := trodAll_cons hA
  obtain ⟨v1, vs1, d1, ds1, p1, q1, rfl, rfl, rfl, h1, r1⟩ := trodAll_cons r0
  obtain ⟨v2, vs2, d2, ds2, p2, q2, rfl, rfl, rfl, h2, r2⟩ := trodAll_cons r1
  obtain ⟨rfl, rfl, rfl⟩ := trodAll_nil r2
  obtain rfl : args = #[v0, v1, v2] := by cases args; simp_all
  obtain ⟨rfl, rfl⟩ := trodVars_none hV
  have lt0 : ∀ x ∈ p0, x.block < W.heap.size := by obtain ⟨m, hm⟩ := h0; exact DataW.trod_lt m _ _ _ hm
  have lt1 : ∀ x ∈ p1, x.block < W.heap.size := by obtain ⟨m, hm⟩ := h1; exact DataW.trod_lt m _ _ _ hm
  have lt2 : ∀ x ∈ p2, x.block < W.heap.size := by obtain ⟨m, hm⟩ := h2; exact DataW.trod_lt m _ _ _ hm
  have kk0 := h0
  have kk1 := h1
  have kk2 := h2
  obtain ⟨⟨cs0⟩, rfl, _⟩ := okWide_struct Try.underlying69 (hval 0 69 v0 rfl rfl)
  obtain ⟨x0, k0, w0⟩ : ∃ z, k69.K W z cs0 ∧ (wf69 z) := by
    obtain ⟨fuel, hf⟩ := h0
    exact (op69 W) H enc _ _ _ _ _ _ hf
  obtain ⟨As0_0, cs0_0, e0, hl0_0, hs0_0⟩ := k69_open k0
  subst e0
  obtain ⟨⟨cs1⟩, rfl, _⟩ := okWide_struct Try.underlying69 (hval 1 69 v1 rfl rfl)
  obtain ⟨x1, k1, w1⟩ : ∃ z, k69.K W z cs1 ∧ (wf69 z) := by
    obtain ⟨fuel, hf⟩ := h1
    exact (op69 W) H enc _ _ _ _ _ _ hf
  obtain ⟨As1_0, cs1_0, e1, hl1_0, hs1_0⟩ := k69_open k1
  subst e1
  obtain ⟨⟨cs2⟩, rfl, _⟩ := okWide_struct Try.underlying69 (hval 2 69 v2 rfl rfl)
  obtain ⟨x2, k2, w2⟩ : ∃ z, k69.K W z cs2 ∧ (wf69 z) := by
    obtain ⟨fuel, hf⟩ := h2
    exact (op69 W) H enc _ _ _ _ _ _ hf
  obtain ⟨As2_0, cs2_0, e2, hl2_0, hs2_0⟩ := k69_open k2
  subst e2
  clear hA0 hval0 hsz0
  refine (DutyOrderR As0_0 cs0_0 x0.f0 x0.f1 x0.f2 x0.f3 x0.f4 x0.f5 As1_0 cs1_0 x1.f0 x1.f1 x1.f2 x1.f3 x1.f4 x1.f5 As2_0 cs2_0 x2.f0 x2.f1 x2.f2 x2.f3 x2.f4 x2.f5 W hs0_0 hl0_0 hs1_0 hl1_0 hs2_0 hl2_0).mono fun e W' ⟨he, bel⟩ => ?_
  subst he
  exact ⟨_, rfl, _, _, _, [], _, [], hW', trodAll_mk1 (shut_bool Try.underlying4 _), (trodAll_cons_mk (Below.trod laidOut (by kernel_rfl) (of_decide_eq_true (by kernel_rfl)) kk0 bel lt0) (trodAll_cons_mk (Below.trod laidOut (by kernel_rfl) (of_decide_eq_true (by kernel_rfl)) kk1 bel lt1) (trodAll_cons_mk (Below.trod laidOut (by kernel_rfl) (of_decide_eq_true (by kernel_rfl)) kk2 bel lt2) trodAll_mk0))), rfl, bel.frame _, fun h => by cases h⟩
theorem over : Rows.dutyOrderRow.holds Try.pinned (OpenSpec.ofChange Rows.dutyOrderSpec) :=
  OpenClaim.holds_of_wide 13 Try.f13 rfl rfl rfl rfl rfl rfl rfl ⟨rfl, rfl, rfl, rfl, rfl⟩ rfl rfl rfl rfl rfl (by kernel_rfl) Try.func13 (by kernel_rfl)
    (of_decide_eq_true (by kernel_rfl)) (by unfold Func.isWrapper; first | (rw [if_pos (by decide +kernel)]; kernel_rfl) | (rw [if_neg (by decide +kernel)]; exact ⟨rfl, rfl⟩))
    (fun os started H enc _ => lifted os started H enc)
theorem proved : Rows.DutyOrderSaid := over
#print axioms proved
end Go.Proofs.Ytkphinfijppkeaa.dutyOrder
namespace Go.Proofs.Ytkphinfijppkeaa
/-- The row, under a short name, for the claim. -/
theorem dutyOrder_holds : Rows.DutyOrderSaid := dutyOrder.proved
end Go.Proofs.Ytkphinfijppkeaa
