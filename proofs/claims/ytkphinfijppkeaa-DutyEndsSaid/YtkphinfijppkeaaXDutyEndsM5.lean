/- Contracts of functions of the given program, and what they come to, for any arguments. No condition beyond each theorem's own premises. -/
import Derived.Test.YtkphinfijppkeaaXDutyEndsM4
import Derived.Test.YtkphinfijppkeaaXDutyEndsM2
import Derived.Test.YtkphinfijppkeaaXDutyEndsM0
import Derived.Maps.Own
namespace Go.Proofs.Ytkphinfijppkeaa.G
open Go.RowKit Go.Proofs.YtkphinfijppkeaaW.PrintWords Go.Proofs.YtkphinfijppkeaaW.PrintLast Go.Proofs.YtkphinfijppkeaaW.PrintMore
attribute [local go_sem] max2_int min2_int max_two min_two max_three min_three max_four min_four
set_option linter.unusedVariables false
set_option linter.unusedSimpArgs false
def takesB (l : List S92) (x : S58) : Bool := x.f1.all fun m => allV [m] l
def takeI (ro : List S58) (l : List S92) : Int := idxP (takesB l) ro
def chooseE (c : Cf) (l : List S92) : Int := if (cfgB c && rightB l) = true then (if takeI c.ro l < 0 then 4 else 0) else 1
def chooseV (c : Cf) (l : List S92) : Int := if chooseE c l = 0 then takeI c.ro l else 0
theorem choose_bad {c : Cf} {l : List S92} (h : (cfgB c && rightB l) = false) : chooseE c l = 1 ∧ chooseV c l = 0 := by
  have h1 : chooseE c l = 1 := by unfold chooseE; rw [h]; rfl
  exact ⟨h1, by unfold chooseV; rw [h1]; rfl⟩
theorem choose_none {c : Cf} {l : List S92} (h1 : cfgB c = true) (h2 : rightB l = true) (h : takeI c.ro l = -1) : chooseE c l = 4 ∧ chooseV c l = 0 := by
  have h3 : chooseE c l = 4 := by unfold chooseE; rw [h1, h2, h]; rfl
  exact ⟨h3, by unfold chooseV; rw [h3]; rfl⟩
theorem choose_some {c : Cf} {l : List S92} (h1 : cfgB c = true) (h2 : rightB l = true) {k : Nat} (h : takeI c.ro l = k) : chooseE c l = 0 ∧ chooseV c l = k := by
  have h3 : chooseE c l = 0 := by unfold chooseE; rw [h1, h2, h]; rw [if_pos (by rfl), if_neg (by omega)]
  exact ⟨h3, by unfold chooseV; rw [if_pos h3, h]⟩
set_option maxHeartbeats 8000000 in
set_option maxRecDepth 100000 in
theorem choose_calls (c : Cf) (A0 : Option Addr) (c0 : Nat) (A1 : Option Addr) (c1 : Nat) (A2 : Option Addr) (c2 : Nat) (l : List S92) (w : World) (hr0 : Kd.C k76 w A0 c.rs.length c.rs) (hl0 : c.rs.length ≤ c0) (hr1 : Kd.C k58 w A1 c.ro.length c.ro) (hwf : ∀ x ∈ c.ro, WfR x) (hr2 : Kd.C k92 w A2 l.length l) :
    Calls Try.prog 32 #[.agg #[.slice A0 c.rs.length c0, .slice A1 c.ro.length c1, .int .i64 c.rep, .int .i64 c.beat], .slice A2 l.length c2] w fun e w' => e = .returned (.tuple #[.int .i64 (chooseV c l), .int .i64 (chooseE c l)]) ∧ Below w.heap.size w w' := by
  have HR1 := Aside0.mk hr1
  have HR2 := Aside0.mk hr2
  have HG := Aside0.mk (fun (W : World) (hb : Below w.heap.size w W) => cfgRight_calls c A0 c0 A1 c1 W (Kd.C_below hr0 hb) hl0 (Kd.C_below hr1 hb) hwf)
  have hll1 : c.ro.length ≤ 9223372036854775807 := hr1.2.1
  clear hr0 hl0 hr1 hwf hr2
  have hF := Aside0.mk (Fr.Frame.start w)
  have HC : True := trivial
  cases h1 : cfgB c with
  | false =>
    have HV := Aside0.mk (choose_bad (c := c) (l := l) (by rw [h1]; rfl))
    rw [h1] at HG
    clear h1
    go_enter Try.func32, Try.ntmps32
    go_wp2_with (first | ((with_reducible refine gate_store rfl ?_); apply Fr.fr_store hF.out rfl rfl rfl; (case hp => rfl); (case hx => first | (go_simp; rfl) | rfl); (case hu => (simp only [Value.cells]; rfl)); (case hs => (repeat (first | exact Fr.Spot.here _ _ | apply Fr.Spot.there))); (case ht => kernel_rfl); (case h1 => simp [Value.oneCell']); (case hfit => simp); intro W hF1; simp only [Fr.patch, List.take_zero, List.nil_append, List.drop, List.append_nil, List.take, List.cons_append, List.length_cons, List.length_nil, Nat.reduceAdd] at hF1; have HC1 := hF1.cells; simp only [Fr.Cells, List.length_cons, List.length_nil, Nat.reduceAdd, and_true] at HC1; clear hF HC; have HC := HC1; have hF := Aside0.mk hF1; clear hF1 HC1) | ((first | (with_reducible refine Fr.gate_alloc rfl ?_) | (with_reducible refine Fr.gate_box rfl ?_)); apply Fr.fr_box hF.out rfl; (case hrun => first | (go_simp; done) | (go_simp; rfl)); intro g W hF1; have HC1 := hF1.cells; simp only [Fr.Cells, List.length_cons, List.length_nil, Nat.reduceAdd, and_true] at HC1; clear hF HC; have HC := HC1; have hF := Aside0.mk hF1; clear hF1 HC1))
    go_step3
    go_wp2_with (first | ((with_reducible refine gate_store rfl ?_); apply Fr.fr_store hF.out rfl rfl rfl; (case hp => rfl); (case hx => first | (go_simp; rfl) | rfl); (case hu => (simp only [Value.cells]; rfl)); (case hs => (repeat (first | exact Fr.Spot.here _ _ | apply Fr.Spot.there))); (case ht => kernel_rfl); (case h1 => simp [Value.oneCell']); (case hfit => simp); intro W hF1; simp only [Fr.patch, List.take_zero, List.nil_append, List.drop, List.append_nil, List.take, List.cons_append, List.length_cons, List.length_nil, Nat.reduceAdd] at hF1; have HC1 := hF1.cells; simp only [Fr.Cells, List.length_cons, List.length_nil, Nat.reduceAdd, and_true] at HC1; clear hF HC; have HC := HC1; have hF := Aside0.mk hF1; clear hF1 HC1) | ((first | (with_reducible refine Fr.gate_alloc rfl ?_) | (with_reducible refine Fr.gate_box rfl ?_)); apply Fr.fr_box hF.out rfl; (case hrun => first | (go_simp; done) | (go_simp; rfl)); intro g W hF1; have HC1 := hF1.cells; simp only [Fr.Cells, List.length_cons, List.length_nil, Nat.reduceAdd, and_true] at HC1; clear hF HC; have HC := HC1; have hF := Aside0.mk hF1; clear hF1 HC1))
    (with_reducible refine (HG.out _ hF.out.below).mono ?_); rintro e W ⟨rfl, hb⟩; have hF1 := hF.out.call hb; clear hb; have HC1 := hF1.cells; simp only [Fr.Cells, List.length_cons, List.length_nil, Nat.reduceAdd, and_true] at HC1; clear hF HC; have HC := HC1; have hF := Aside0.mk hF1; clear hF1 HC1
    go_wp2_with (first | ((with_reducible refine gate_store rfl ?_); apply Fr.fr_store hF.out rfl rfl rfl; (case hp => rfl); (case hx => first | (go_simp; rfl) | rfl); (case hu => (simp only [Value.cells]; rfl)); (case hs => (repeat (first | exact Fr.Spot.here _ _ | apply Fr.Spot.there))); (case ht => kernel_rfl); (case h1 => simp [Value.oneCell']); (case hfit => simp); intro W hF1; simp only [Fr.patch, List.take_zero, List.nil_append, List.drop, List.append_nil, List.take, List.cons_append, List.length_cons, List.length_nil, Nat.reduceAdd] at hF1; have HC1 := hF1.cells; simp only [Fr.Cells, List.length_cons, List.length_nil, Nat.reduceAdd, and_true] at HC1; clear hF HC; have HC := HC1; have hF := Aside0.mk hF1; clear hF1 HC1) | ((first | (with_reducible refine Fr.gate_alloc rfl ?_) | (with_reducible refine Fr.gate_box rfl ?_)); apply Fr.fr_box hF.out rfl; (case hrun => first | (go_simp; done) | (go_simp; rfl)); intro g W hF1; have HC1 := hF1.cells; simp only [Fr.Cells, List.length_cons, List.length_nil, Nat.reduceAdd, and_true] at HC1; clear hF HC; have HC := HC1; have hF := Aside0.mk hF1; clear hF1 HC1))
    try rw [Exit.noGoto_ret]
    go_ret2
    exact ⟨by rw [HV.out.1, HV.out.2]; rfl, hF.out.below⟩
  | true =>
    rw [h1] at HG
    cases h2 : rightB l with
    | false =>
      have HV := Aside0.mk (choose_bad (c := c) (l := l) (by rw [h2, Bool.and_false]))
      have H2 := Aside0.mk h2
      clear h1 h2
      go_enter Try.func32, Try.ntmps32
      go_wp2_with (first | ((with_reducible refine gate_store rfl ?_); apply Fr.fr_store hF.out rfl rfl rfl; (case hp => rfl); (case hx => first | (go_simp; rfl) | rfl); (case hu => (simp only [Value.cells]; rfl)); (case hs => (repeat (first | exact Fr.Spot.here _ _ | apply Fr.Spot.there))); (case ht => kernel_rfl); (case h1 => simp [Value.oneCell']); (case hfit => simp); intro W hF1; simp only [Fr.patch, List.take_zero, List.nil_append, List.drop, List.append_nil, List.take, List.cons_append, List.length_cons, List.length_nil, Nat.reduceAdd] at hF1; have HC1 := hF1.cells; simp only [Fr.Cells, List.length_cons, List.length_nil, Nat.reduceAdd, and_true] at HC1; clear hF HC; have HC := HC1; have hF := Aside0.mk hF1; clear hF1 HC1) | ((first | (with_reducible refine Fr.gate_alloc rfl ?_) | (with_reducible refine Fr.gate_box rfl ?_)); apply Fr.fr_box hF.out rfl; (case hrun => first | (go_simp; done) | (go_simp; rfl)); intro g W hF1; have HC1 := hF1.cells; simp only [Fr.Cells, List.length_cons, List.length_nil, Nat.reduceAdd, and_true] at HC1; clear hF HC; have HC := HC1; have hF := Aside0.mk hF1; clear hF1 HC1))
      go_step3
      go_wp2_with (first | ((with_reducible refine gate_store rfl ?_); apply Fr.fr_store hF.out rfl rfl rfl; (case hp => rfl); (case hx => first | (go_simp; rfl) | rfl); (case hu => (simp only [Value.cells]; rfl)); (case hs => (repeat (first | exact Fr.Spot.here _ _ | apply Fr.Spot.there))); (case ht => kernel_rfl); (case h1 => simp [Value.oneCell']); (case hfit => simp); intro W hF1; simp only [Fr.patch, List.take_zero, List.nil_append, List.drop, List.append_nil, List.take, List.cons_append, List.length_cons, List.length_nil, Nat.reduceAdd] at hF1; have HC1 := hF1.cells; simp only [Fr.Cells, List.length_cons, List.length_nil, Nat.reduceAdd, and_true] at HC1; clear hF HC; have HC := HC1; have hF := Aside0.mk hF1; clear hF1 HC1) | ((first | (with_reducible refine Fr.gate_alloc rfl ?_) | (with_reducible refine Fr.gate_box rfl ?_)); apply Fr.fr_box hF.out rfl; (case hrun => first | (go_simp; done) | (go_simp; rfl)); intro g W hF1; have HC1 := hF1.cells; simp only [Fr.Cells, List.length_cons, List.length_nil, Nat.reduceAdd, and_true] at HC1; clear hF HC; have HC := HC1; have hF := Aside0.mk hF1; clear hF1 HC1))
      (with_reducible refine (HG.out _ hF.out.below).mono ?_); rintro e W ⟨rfl, hb⟩; have hF1 := hF.out.call hb; clear hb; have HC1 := hF1.cells; simp only [Fr.Cells, List.length_cons, List.length_nil, Nat.reduceAdd, and_true] at HC1; clear hF HC; have HC := HC1; have hF := Aside0.mk hF1; clear hF1 HC1
      go_wp2_with (first | ((with_reducible refine gate_store rfl ?_); apply Fr.fr_store hF.out rfl rfl rfl; (case hp => rfl); (case hx => first | (go_simp; rfl) | rfl); (case hu => (simp only [Value.cells]; rfl)); (case hs => (repeat (first | exact Fr.Spot.here _ _ | apply Fr.Spot.there))); (case ht => kernel_rfl); (case h1 => simp [Value.oneCell']); (case hfit => simp); intro W hF1; simp only [Fr.patch, List.take_zero, List.nil_append, List.drop, List.append_nil, List.take, List.cons_append, List.length_cons, List.length_nil, Nat.reduceAdd] at hF1; have HC1 := hF1.cells; simp only [Fr.Cells, List.length_cons, List.length_nil, Nat.reduceAdd, and_true] at HC1; clear hF HC; have HC := HC1; have hF := Aside0.mk hF1; clear hF1 HC1) | ((first | (with_reducible refine Fr.gate_alloc rfl ?_) | (with_reducible refine Fr.gate_box rfl ?_)); apply Fr.fr_box hF.out rfl; (case hrun => first | (go_simp; done) | (go_simp; rfl)); intro g W hF1; have HC1 := hF1.cells; simp only [Fr.Cells, List.length_cons, List.length_nil, Nat.reduceAdd, and_true] at HC1; clear hF HC; have HC := HC1; have hF := Aside0.mk hF1; clear hF1 HC1))
      (with_reducible refine (right_calls A2 c2 l _ (Kd.C_below HR2.out hF.out.below)).mono ?_); rintro e W ⟨rfl, hb⟩; have hF1 := hF.out.call hb; clear hb; have HC1 := hF1.cells; simp only [Fr.Cells, List.length_cons, List.length_nil, Nat.reduceAdd, and_true] at HC1; clear hF HC; have HC := HC1; have hF := Aside0.mk hF1; clear hF1 HC1
      simp only [H2.out]
      go_wp2_with (first | ((with_reducible refine gate_store rfl ?_); apply Fr.fr_store hF.out rfl rfl rfl; (case hp => rfl); (case hx => first | (go_simp; rfl) | rfl); (case hu => (simp only [Value.cells]; rfl)); (case hs => (repeat (first | exact Fr.Spot.here _ _ | apply Fr.Spot.there))); (case ht => kernel_rfl); (case h1 => simp [Value.oneCell']); (case hfit => simp); intro W hF1; simp only [Fr.patch, List.take_zero, List.nil_append, List.drop, List.append_nil, List.take, List.cons_append, List.length_cons, List.length_nil, Nat.reduceAdd] at hF1; have HC1 := hF1.cells; simp only [Fr.Cells, List.length_cons, List.length_nil, Nat.reduceAdd, and_true] at HC1; clear hF HC; have HC := HC1; have hF := Aside0.mk hF1; clear hF1 HC1) | ((first | (with_reducible refine Fr.gate_alloc rfl ?_) | (with_reducible refine Fr.gate_box rfl ?_)); apply Fr.fr_box hF.out rfl; (case hrun => first | (go_simp; done) | (go_simp; rfl)); intro g W hF1; have HC1 := hF1.cells; simp only [Fr.Cells, List.length_cons, List.length_nil, Nat.reduceAdd, and_true] at HC1; clear hF HC; have HC := HC1; have hF := Aside0.mk hF1; clear hF1 HC1))
      try rw [Exit.noGoto_ret]
      go_ret2
      exact ⟨by rw [HV.out.1, HV.out.2]; rfl, hF.out.below⟩
    | true =>
      have H1 := Aside0.mk h1
      have H2 := Aside0.mk h2
      clear h1 h2
      go_enter Try.func32, Try.ntmps32
      go_wp2_with (first | ((with_reducible refine gate_store rfl ?_); apply Fr.fr_store hF.out rfl rfl rfl; (case hp => rfl); (case hx => first | (go_simp; rfl) | rfl); (case hu => (simp only [Value.cells]; rfl)); (case hs => (repeat (first | exact Fr.Spot.here _ _ | apply Fr.Spot.there))); (case ht => kernel_rfl); (case h1 => simp [Value.oneCell']); (case hfit => simp); intro W hF1; simp only [Fr.patch, List.take_zero, List.nil_append, List.drop, List.append_nil, List.take, List.cons_append, List.length_cons, List.length_nil, Nat.reduceAdd] at hF1; have HC1 := hF1.cells; simp only [Fr.Cells, List.length_cons, List.length_nil, Nat.reduceAdd, and_true] at HC1; clear hF HC; have HC := HC1; have hF := Aside0.mk hF1; clear hF1 HC1) | ((with_reducible refine gate_dst (N := 2) rfl ?_); apply Fr.fr_box hF.out rfl; (case hrun => first | (go_simp; done) | (go_simp; rfl)); intro gb W hF1; have HC1 := hF1.cells; simp only [Fr.Cells, List.length_cons, List.length_nil, Nat.reduceAdd, and_true] at HC1; clear hF HC; have HC := HC1; have hF := Aside0.mk hF1; clear hF1 HC1) | ((first | (with_reducible refine Fr.gate_alloc rfl ?_) | (with_reducible refine Fr.gate_box rfl ?_)); apply Fr.fr_box hF.out rfl; (case hrun => first | (go_simp; done) | (go_simp; rfl)); intro g W hF1; have HC1 := hF1.cells; simp only [Fr.Cells, List.length_cons, List.length_nil, Nat.reduceAdd, and_true] at HC1; clear hF HC; have HC := HC1; have hF := Aside0.mk hF1; clear hF1 HC1))
      go_step3
      go_wp2_with (first | ((with_reducible refine gate_store rfl ?_); apply Fr.fr_store hF.out rfl rfl rfl; (case hp => rfl); (case hx => first | (go_simp; rfl) | rfl); (case hu => (simp only [Value.cells]; rfl)); (case hs => (repeat (first | exact Fr.Spot.here _ _ | apply Fr.Spot.there))); (case ht => kernel_rfl); (case h1 => simp [Value.oneCell']); (case hfit => simp); intro W hF1; simp only [Fr.patch, List.take_zero, List.nil_append, List.drop, List.append_nil, List.take, List.cons_append, List.length_cons, List.length_nil, Nat.reduceAdd] at hF1; have HC1 := hF1.cells; simp only [Fr.Cells, List.length_cons, List.length_nil, Nat.reduceAdd, and_true] at HC1; clear hF HC; have HC := HC1; have hF := Aside0.mk hF1; clear hF1 HC1) | ((first | (with_reducible refine Fr.gate_alloc rfl ?_) | (with_reducible refine Fr.gate_box rfl ?_)); apply Fr.fr_box hF.out rfl; (case hrun => first | (go_simp; done) | (go_simp; rfl)); intro g W hF1; have HC1 := hF1.cells; simp only [Fr.Cells, List.length_cons, List.length_nil, Nat.reduceAdd, and_true] at HC1; clear hF HC; have HC := HC1; have hF := Aside0.mk hF1; clear hF1 HC1))
      (with_reducible refine (HG.out _ hF.out.below).mono ?_); rintro e W ⟨rfl, hb⟩; have hF1 := hF.out.call hb; clear hb; have HC1 := hF1.cells; simp only [Fr.Cells, List.length_cons, List.length_nil, Nat.reduceAdd, and_true] at HC1; clear hF HC; have HC := HC1; have hF := Aside0.mk hF1; clear hF1 HC1
      go_wp2_with (first | ((with_reducible refine gate_store rfl ?_); apply Fr.fr_store hF.out rfl rfl rfl; (case hp => rfl); (case hx => first | (go_simp; rfl) | rfl); (case hu => (simp only [Value.cells]; rfl)); (case hs => (repeat (first | exact Fr.Spot.here _ _ | apply Fr.Spot.there))); (case ht => kernel_rfl); (case h1 => simp [Value.oneCell']); (case hfit => simp); intro W hF1; simp only [Fr.patch, List.take_zero, List.nil_append, List.drop, List.append_nil, List.take, List.cons_append, List.length_cons, List.length_nil, Nat.reduceAdd] at hF1; have HC1 := hF1.cells; simp only [Fr.Cells, List.length_cons, List.length_nil, Nat.reduceAdd, and_true] at HC1; clear hF HC; have HC := HC1; have hF := Aside0.mk hF1; clear hF1 HC1) | ((first | (with_reducible refine Fr.gate_alloc rfl ?_) | (with_reducible refine Fr.gate_box rfl ?_)); apply Fr.fr_box hF.out rfl; (case hrun => first | (go_simp; done) | (go_simp; rfl)); intro g W hF1; have HC1 := hF1.cells; simp only [Fr.Cells, List.length_cons, List.length_nil, Nat.reduceAdd, and_true] at HC1; clear hF HC; have HC := HC1; have hF := Aside0.mk hF1; clear hF1 HC1))
      (with_reducible refine (right_calls A2 c2 l _ (Kd.C_below HR2.out hF.out.below)).mono ?_); rintro e W ⟨rfl, hb⟩; have hF1 := hF.out.call hb; clear hb; have HC1 := hF1.cells; simp only [Fr.Cells, List.length_cons, List.length_nil, Nat.reduceAdd, and_true] at HC1; clear hF HC; have HC := HC1; have hF := Aside0.mk hF1; clear hF1 HC1
      simp only [H2.out]
      go_wp2_with (first | ((with_reducible refine gate_store rfl ?_); apply Fr.fr_store hF.out rfl rfl rfl; (case hp => rfl); (case hx => first | (go_simp; rfl) | rfl); (case hu => (simp only [Value.cells]; rfl)); (case hs => (repeat (first | exact Fr.Spot.here _ _ | apply Fr.Spot.there))); (case ht => kernel_rfl); (case h1 => simp [Value.oneCell']); (case hfit => simp); intro W hF1; simp only [Fr.patch, List.take_zero, List.nil_append, List.drop, List.append_nil, List.take, List.cons_append, List.length_cons, List.length_nil, Nat.reduceAdd] at hF1; have HC1 := hF1.cells; simp only [Fr.Cells, List.length_cons, List.length_nil, Nat.reduceAdd, and_true] at HC1; clear hF HC; have HC := HC1; have hF := Aside0.mk hF1; clear hF1 HC1) | ((first | (with_reducible refine Fr.gate_alloc rfl ?_) | (with_reducible refine Fr.gate_box rfl ?_)); apply Fr.fr_box hF.out rfl; (case hrun => first | (go_simp; done) | (go_simp; rfl)); intro g W hF1; have HC1 := hF1.cells; simp only [Fr.Cells, List.length_cons, List.length_nil, Nat.reduceAdd, and_true] at HC1; clear hF HC; have HC := HC1; have hF := Aside0.mk hF1; clear hF1 HC1))
      go_step3
      go_wp2_with (first | ((with_reducible refine gate_store rfl ?_); apply Fr.fr_store hF.out rfl rfl rfl; (case hp => rfl); (case hx => first | (go_simp; rfl) | rfl); (case hu => (simp only [Value.cells]; rfl)); (case hs => (repeat (first | exact Fr.Spot.here _ _ | apply Fr.Spot.there))); (case ht => kernel_rfl); (case h1 => simp [Value.oneCell']); (case hfit => simp); intro W hF1; simp only [Fr.patch, List.take_zero, List.nil_append, List.drop, List.append_nil, List.take, List.cons_append, List.length_cons, List.length_nil, Nat.reduceAdd] at hF1; have HC1 := hF1.cells; simp only [Fr.Cells, List.length_cons, List.length_nil, Nat.reduceAdd, and_true] at HC1; clear hF HC; have HC := HC1; have hF := Aside0.mk hF1; clear hF1 HC1) | ((first | (with_reducible refine Fr.gate_alloc rfl ?_) | (with_reducible refine Fr.gate_box rfl ?_)); apply Fr.fr_box hF.out rfl; (case hrun => first | (go_simp; done) | (go_simp; rfl)); intro g W hF1; have HC1 := hF1.cells; simp only [Fr.Cells, List.length_cons, List.length_nil, Nat.reduceAdd, and_true] at HC1; clear hF HC; have HC := HC1; have hF := Aside0.mk hF1; clear hF1 HC1))
      have hFb := hF
      go_loopg [23] c.ro.length (fun kq v23 w' => ∃ k : Nat, k ≤ c.ro.length ∧ c.ro.length - k ≤ kq ∧ v23 = .int .i64 k ∧ Aside0 (∀ i : Nat, i < k → takesB l (rd_T58 c.ro (i : Nat)) = false) ∧ Aside0 (Fr.Frame w w' [(gb, [.slice A0 c.rs.length c0, .slice A1 c.ro.length c1, .int .i64 c.rep, .int .i64 c.beat], 53)] []))
      case atStart => exact ⟨0, Nat.zero_le _, by omega, rfl, ⟨fun i hi => absurd hi (Nat.not_lt_zero _)⟩, ⟨hFb.out⟩⟩
      case round =>
        clear hF hFb HC
        obtain ⟨k, hk, hg, rfl, HA, hF⟩ := hrel
        have HC1 := hF.out.cells
        simp only [Fr.Cells, List.length_cons, List.length_nil, Nat.reduceAdd, and_true] at HC1
        have HC := HC1
        clear HC1
        by_cases hlt : k < c.ro.length
        · have hlti : (k : Int) < (c.ro.length : Int) := by omega
          obtain ⟨ad, B0, d0, B1, d1, e1, a0, a1, g0, g1, g2, g3⟩ := at_T58 HR1.out (k : Int) (by omega) hlti
          cases e1
          obtain ⟨x, hx⟩ : ∃ x, rd_T58 c.ro (k : Int) = x := ⟨_, rfl⟩
          rw [hx] at a0 a1 g0 g1 g2 g3
          have HX := Aside0.mk hx
          have G3 := Aside0.mk g3
          have hxl : x.f1.length ≤ 9223372036854775807 := g3.2.1
          clear hx g0 g1 g2 g3
          rw [Int.toNat_natCast] at a0 a1
          replace a0 := (hF.out.below.cell (World.block_lt_of_cell? w _ a0)).trans a0
          replace a1 := (hF.out.below.cell (World.block_lt_of_cell? w _ a1)).trans a1
          go_wp2_with (first | ((with_reducible refine gate_store rfl ?_); apply Fr.fr_store hF.out rfl rfl rfl; (case hp => rfl); (case hx => first | (go_simp; rfl) | rfl); (case hu => (simp only [Value.cells]; rfl)); (case hs => (repeat (first | exact Fr.Spot.here _ _ | apply Fr.Spot.there))); (case ht => kernel_rfl); (case h1 => simp [Value.oneCell']); (case hfit => simp); intro W hF1; simp only [Fr.patch, List.take_zero, List.nil_append, List.drop, List.append_nil, List.take, List.cons_append, List.length_cons, List.length_nil, Nat.reduceAdd] at hF1; have HC1 := hF1.cells; simp only [Fr.Cells, List.length_cons, List.length_nil, Nat.reduceAdd, and_true] at HC1; clear hF HC; have HC := HC1; have hF := Aside0.mk hF1; clear hF1 HC1) | ((with_reducible refine gate_dst (N := 7) rfl ?_); apply Fr.fr_box hF.out rfl; (case hrun => first | (go_simp; done) | (go_simp; rfl)); intro gr W hF1; have HC1 := hF1.cells; simp only [Fr.Cells, List.length_cons, List.length_nil, Nat.reduceAdd, and_true] at HC1; clear hF HC; have HC := HC1; have hF := Aside0.mk hF1; clear hF1 HC1) | ((first | (with_reducible refine Fr.gate_alloc rfl ?_) | (with_reducible refine Fr.gate_box rfl ?_)); apply Fr.fr_box hF.out rfl; (case hrun => first | (go_simp; done) | (go_simp; rfl)); intro g W hF1; have HC1 := hF1.cells; simp only [Fr.Cells, List.length_cons, List.length_nil, Nat.reduceAdd, and_true] at HC1; clear hF HC; have HC := HC1; have hF := Aside0.mk hF1; clear hF1 HC1))
          have hFc := hF
          go_loopg [31] x.f1.length (fun jq v31 w' => ∃ j : Nat, j ≤ x.f1.length ∧ x.f1.length - j ≤ jq ∧ v31 = .int .i64 j ∧ Aside0 (∀ i : Nat, i < j → allV [rd_T88 x.f1 (i : Nat)] l = true) ∧ Aside0 (Fr.Frame w w' [(gr, [.slice B0 x.f0.length d0, .slice B1 x.f1.length d1], 58), (gb, [.slice A0 c.rs.length c0, .slice (some ad) c.ro.length c1, .int .i64 c.rep, .int .i64 c.beat], 53)] []))
          case atStart => exact ⟨0, Nat.zero_le _, by omega, rfl, ⟨fun i hi => absurd hi (Nat.not_lt_zero _)⟩, ⟨hFc.out⟩⟩
          case round =>
            clear hF hFc HC
            obtain ⟨j, hj, hgj, rfl, HJ, hF⟩ := hrel
            have HC1 := hF.out.cells
            simp only [Fr.Cells, List.length_cons, List.length_nil, Nat.reduceAdd, and_true] at HC1
            have HC := HC1
            clear HC1
            by_cases hjt : j < x.f1.length
            · have hjti : (j : Int) < (x.f1.length : Int) := by omega
              obtain ⟨ad2, e2, b0, b1, b2⟩ := at_T88 G3.out (j : Int) (by omega) hjti
              cases e2
              rw [Int.toNat_natCast] at b0 b1 b2
              obtain ⟨m, hm⟩ : ∃ m, rd_T88 x.f1 (j : Int) = m := ⟨_, rfl⟩
              rw [hm] at b0 b1 b2
              have HM := Aside0.mk hm
              clear hm
              replace b0 := (hF.out.below.cell (World.block_lt_of_cell? w _ b0)).trans b0
              replace b1 := (hF.out.below.cell (World.block_lt_of_cell? w _ b1)).trans b1
              replace b2 := (hF.out.below.cell (World.block_lt_of_cell? w _ b2)).trans b2
              cases hv : allV [m] l with
              | false =>
                have HVV := Aside0.mk hv
                have HT := Aside0.mk (show takesB l x = false by
                  unfold takesB
                  rw [List.all_eq_false]
                  exact ⟨m, by rw [← HM.out, rd_get88 x.f1 j hjt]; exact List.getElem_mem _, by rw [hv]; simp⟩)
                clear hv
                go_wp2_with (first | ((with_reducible refine gate_store rfl ?_); apply Fr.fr_store hF.out rfl rfl rfl; (case hp => rfl); (case hx => first | (go_simp; rfl) | rfl); (case hu => (simp only [Value.cells]; rfl)); (case hs => (repeat (first | exact Fr.Spot.here _ _ | apply Fr.Spot.there))); (case ht => kernel_rfl); (case h1 => simp [Value.oneCell']); (case hfit => simp); intro W hF1; simp only [Fr.patch, List.take_zero, List.nil_append, List.drop, List.append_nil, List.take, List.cons_append, List.length_cons, List.length_nil, Nat.reduceAdd] at hF1; have HC1 := hF1.cells; simp only [Fr.Cells, List.length_cons, List.length_nil, Nat.reduceAdd, and_true] at HC1; clear hF HC; have HC := HC1; have hF := Aside0.mk hF1; clear hF1 HC1) | ((first | (with_reducible refine Fr.gate_alloc rfl ?_) | (with_reducible refine Fr.gate_box rfl ?_)); apply Fr.fr_box hF.out rfl; (case hrun => first | (go_simp; done) | (go_simp; rfl)); intro g W hF1; have HC1 := hF1.cells; simp only [Fr.Cells, List.length_cons, List.length_nil, Nat.reduceAdd, and_true] at HC1; clear hF HC; have HC := HC1; have hF := Aside0.mk hF1; clear hF1 HC1))
                have hF2 := hF.out.alloc [.int .i64 m.f0, .string m.f1, .string m.f2] 88
                have hh := all_calls (some ⟨W.heap.size, 0, none⟩) 1 [m] A2 c2 l _ (C_one hF2 (k88_mk _ m)) (Kd.C_below HR2.out hF2.below)
                simp only [List.length_cons, List.length_nil, Nat.reduceAdd, HVV.out] at hh
                (with_reducible refine hh.mono ?_)
                clear hh
                rintro e W ⟨rfl, hb⟩
                have hF1 := hF2.call hb
                clear hb hF2
                have HC1 := hF1.cells; simp only [Fr.Cells, List.length_cons, List.length_nil, Nat.reduceAdd, and_true] at HC1; clear hF HC; have HC := HC1; have hF := Aside0.mk hF1; clear hF1 HC1
                go_wp2_with (first | ((with_reducible refine gate_store rfl ?_); apply Fr.fr_store hF.out rfl rfl rfl; (case hp => rfl); (case hx => first | (go_simp; rfl) | rfl); (case hu => (simp only [Value.cells]; rfl)); (case hs => (repeat (first | exact Fr.Spot.here _ _ | apply Fr.Spot.there))); (case ht => kernel_rfl); (case h1 => simp [Value.oneCell']); (case hfit => simp); intro W hF1; simp only [Fr.patch, List.take_zero, List.nil_append, List.drop, List.append_nil, List.take, List.cons_append, List.length_cons, List.length_nil, Nat.reduceAdd] at hF1; have HC1 := hF1.cells; simp only [Fr.Cells, List.length_cons, List.length_nil, Nat.reduceAdd, and_true] at HC1; clear hF HC; have HC := HC1; have hF := Aside0.mk hF1; clear hF1 HC1) | ((first | (with_reducible refine Fr.gate_alloc rfl ?_) | (with_reducible refine Fr.gate_box rfl ?_)); apply Fr.fr_box hF.out rfl; (case hrun => first | (go_simp; done) | (go_simp; rfl)); intro g W hF1; have HC1 := hF1.cells; simp only [Fr.Cells, List.length_cons, List.length_nil, Nat.reduceAdd, and_true] at HC1; clear hF HC; have HC := HC1; have hF := Aside0.mk hF1; clear hF1 HC1))
                go_roundg (c.ro.length - (k + 1))
                case measure => omega
                case rel => exact ⟨k + 1, by omega, by omega, by go_num, ⟨fun i hi => by
                  by_cases e : i = k
                  · subst e; rw [HX.out]; exact HT.out
                  · exact HA.out i (by omega)⟩, ⟨hF.out.drop.drop.drop⟩⟩
              | true =>
                have HVV := Aside0.mk hv
                clear hv
                go_wp2_with (first | ((with_reducible refine gate_store rfl ?_); apply Fr.fr_store hF.out rfl rfl rfl; (case hp => rfl); (case hx => first | (go_simp; rfl) | rfl); (case hu => (simp only [Value.cells]; rfl)); (case hs => (repeat (first | exact Fr.Spot.here _ _ | apply Fr.Spot.there))); (case ht => kernel_rfl); (case h1 => simp [Value.oneCell']); (case hfit => simp); intro W hF1; simp only [Fr.patch, List.take_zero, List.nil_append, List.drop, List.append_nil, List.take, List.cons_append, List.length_cons, List.length_nil, Nat.reduceAdd] at hF1; have HC1 := hF1.cells; simp only [Fr.Cells, List.length_cons, List.length_nil, Nat.reduceAdd, and_true] at HC1; clear hF HC; have HC := HC1; have hF := Aside0.mk hF1; clear hF1 HC1) | ((first | (with_reducible refine Fr.gate_alloc rfl ?_) | (with_reducible refine Fr.gate_box rfl ?_)); apply Fr.fr_box hF.out rfl; (case hrun => first | (go_simp; done) | (go_simp; rfl)); intro g W hF1; have HC1 := hF1.cells; simp only [Fr.Cells, List.length_cons, List.length_nil, Nat.reduceAdd, and_true] at HC1; clear hF HC; have HC := HC1; have hF := Aside0.mk hF1; clear hF1 HC1))
                have hF2 := hF.out.alloc [.int .i64 m.f0, .string m.f1, .string m.f2] 88
                have hh := all_calls (some ⟨W.heap.size, 0, none⟩) 1 [m] A2 c2 l _ (C_one hF2 (k88_mk _ m)) (Kd.C_below HR2.out hF2.below)
                simp only [List.length_cons, List.length_nil, Nat.reduceAdd, HVV.out] at hh
                (with_reducible refine hh.mono ?_)
                clear hh
                rintro e W ⟨rfl, hb⟩
                have hF1 := hF2.call hb
                clear hb hF2
                have HC1 := hF1.cells; simp only [Fr.Cells, List.length_cons, List.length_nil, Nat.reduceAdd, and_true] at HC1; clear hF HC; have HC := HC1; have hF := Aside0.mk hF1; clear hF1 HC1
                go_wp2_with (first | ((with_reducible refine gate_store rfl ?_); apply Fr.fr_store hF.out rfl rfl rfl; (case hp => rfl); (case hx => first | (go_simp; rfl) | rfl); (case hu => (simp only [Value.cells]; rfl)); (case hs => (repeat (first | exact Fr.Spot.here _ _ | apply Fr.Spot.there))); (case ht => kernel_rfl); (case h1 => simp [Value.oneCell']); (case hfit => simp); intro W hF1; simp only [Fr.patch, List.take_zero, List.nil_append, List.drop, List.append_nil, List.take, List.cons_append, List.length_cons, List.length_nil, Nat.reduceAdd] at hF1; have HC1 := hF1.cells; simp only [Fr.Cells, List.length_cons, List.length_nil, Nat.reduceAdd, and_true] at HC1; clear hF HC; have HC := HC1; have hF := Aside0.mk hF1; clear hF1 HC1) | ((first | (with_reducible refine Fr.gate_alloc rfl ?_) | (with_reducible refine Fr.gate_box rfl ?_)); apply Fr.fr_box hF.out rfl; (case hrun => first | (go_simp; done) | (go_simp; rfl)); intro g W hF1; have HC1 := hF1.cells; simp only [Fr.Cells, List.length_cons, List.length_nil, Nat.reduceAdd, and_true] at HC1; clear hF HC; have HC := HC1; have hF := Aside0.mk hF1; clear hF1 HC1))
                go_roundg (x.f1.length - (j + 1))
                case measure => omega
                case rel => exact ⟨j + 1, by omega, by omega, by go_num, ⟨fun i hi => by
                  by_cases e : i = j
                  · subst e; rw [HM.out]; exact HVV.out
                  · exact HJ.out i (by omega)⟩, ⟨hF.out.drop.drop⟩⟩
            · obtain rfl : j = x.f1.length := by omega
              have HT := Aside0.mk (show takesB l (rd_T58 c.ro (k : Nat)) = true by
                rw [HX.out]
                unfold takesB
                rw [List.all_eq_true]
                intro m hm
                obtain ⟨i, hi, rfl⟩ := List.mem_iff_getElem.1 hm
                have := HJ.out i hi
                rwa [rd_get88 x.f1 i hi] at this)
              have HV := Aside0.mk (choose_some H1.out H2.out (idxR_hit58 (takesB l) c.ro k hlt HA.out HT.out).symm)
              have hjti : ¬ (x.f1.length : Int) < (x.f1.length : Int) := by omega
              go_wp2_with (first | ((with_reducible refine gate_store rfl ?_); apply Fr.fr_store hF.out rfl rfl rfl; (case hp => rfl); (case hx => first | (go_simp; rfl) | rfl); (case hu => (simp only [Value.cells]; rfl)); (case hs => (repeat (first | exact Fr.Spot.here _ _ | apply Fr.Spot.there))); (case ht => kernel_rfl); (case h1 => simp [Value.oneCell']); (case hfit => simp); intro W hF1; simp only [Fr.patch, List.take_zero, List.nil_append, List.drop, List.append_nil, List.take, List.cons_append, List.length_cons, List.length_nil, Nat.reduceAdd] at hF1; have HC1 := hF1.cells; simp only [Fr.Cells, List.length_cons, List.length_nil, Nat.reduceAdd, and_true] at HC1; clear hF HC; have HC := HC1; have hF := Aside0.mk hF1; clear hF1 HC1) | ((first | (with_reducible refine Fr.gate_alloc rfl ?_) | (with_reducible refine Fr.gate_box rfl ?_)); apply Fr.fr_box hF.out rfl; (case hrun => first | (go_simp; done) | (go_simp; rfl)); intro g W hF1; have HC1 := hF1.cells; simp only [Fr.Cells, List.length_cons, List.length_nil, Nat.reduceAdd, and_true] at HC1; clear hF HC; have HC := HC1; have hF := Aside0.mk hF1; clear hF1 HC1))
              try rw [Exit.noGoto_ret]
              go_ret2
              exact ⟨by rw [HV.out.1, HV.out.2]; rfl, hF.out.below⟩
        · obtain rfl : k = c.ro.length := by omega
          have HV := Aside0.mk (choose_none H1.out H2.out (idxR_miss58 (takesB l) c.ro HA.out).symm)
          have hlti : ¬ (c.ro.length : Int) < (c.ro.length : Int) := by omega
          go_wp2_with (first | ((with_reducible refine gate_store rfl ?_); apply Fr.fr_store hF.out rfl rfl rfl; (case hp => rfl); (case hx => first | (go_simp; rfl) | rfl); (case hu => (simp only [Value.cells]; rfl)); (case hs => (repeat (first | exact Fr.Spot.here _ _ | apply Fr.Spot.there))); (case ht => kernel_rfl); (case h1 => simp [Value.oneCell']); (case hfit => simp); intro W hF1; simp only [Fr.patch, List.take_zero, List.nil_append, List.drop, List.append_nil, List.take, List.cons_append, List.length_cons, List.length_nil, Nat.reduceAdd] at hF1; have HC1 := hF1.cells; simp only [Fr.Cells, List.length_cons, List.length_nil, Nat.reduceAdd, and_true] at HC1; clear hF HC; have HC := HC1; have hF := Aside0.mk hF1; clear hF1 HC1) | ((first | (with_reducible refine Fr.gate_alloc rfl ?_) | (with_reducible refine Fr.gate_box rfl ?_)); apply Fr.fr_box hF.out rfl; (case hrun => first | (go_simp; done) | (go_simp; rfl)); intro g W hF1; have HC1 := hF1.cells; simp only [Fr.Cells, List.length_cons, List.length_nil, Nat.reduceAdd, and_true] at HC1; clear hF HC; have HC := HC1; have hF := Aside0.mk hF1; clear hF1 HC1))
          try rw [Exit.noGoto_ret]
          go_ret2
          exact ⟨by rw [HV.out.1, HV.out.2]; rfl, hF.out.below⟩
theorem C_blk {α : Type} {d : Kd α} {w : World} {g t : Nat} {cs : List Value} {xs : List α} (hb : w.heap[g]? = some (.cells cs.toArray t (0, 0))) (hr : Reps (d.K w) d.sz xs cs) (hl : xs.length ≤ 9223372036854775807) : Kd.C d w (some ⟨g, 0, none⟩) xs.length xs := by
  refine ⟨rfl, hl, fun _ => ⟨_, rfl, fun j p hj => ⟨_, d.K_len (hr.2 j p hj), hr.2 j p hj, fun i u hu => ?_⟩⟩⟩
  have h1 := blk_cell hb (j * d.sz + i)
  rw [show (⟨g, 0, none⟩ : Addr).add (j * d.sz + i) = ⟨g, j * d.sz + i, none⟩ by unfold Addr.add; split <;> simp_all, h1]
  have hi : i < d.sz := by have := (List.getElem?_eq_some_iff.1 hu).1; simp at this; omega
  simpa [List.getElem?_take, hi] using hu
def cutC (c : Cf) : Cf := ⟨c.rs.take 6, c.ro.take 6, c.rep, c.beat⟩
theorem few_calls (g : Nat) (hg : g = 30 ∨ g = 41) (c : Cf) (A0 : Option Addr) (c0 : Nat) (A1 : Option Addr) (c1 : Nat) (w : World) (hl0 : c.rs.length ≤ c0) (hl1 : c.ro.length ≤ c1) (hm0 : c.rs.length ≤ 9223372036854775807) (hm1 : c.ro.length ≤ 9223372036854775807) :
    Calls Try.prog g #[.agg #[.slice A0 c.rs.length c0, .slice A1 c.ro.length c1, .int .i64 c.rep, .int .i64 c.beat]] w fun e w' => e = .returned (.agg #[.slice A0 (cutC c).rs.length c0, .slice A1 (cutC c).ro.length c1, .int .i64 (cutC c).rep, .int .i64 (cutC c).beat]) ∧ Below w.heap.size w w' := by
  show Calls Try.prog g #[.agg #[.slice A0 c.rs.length c0, .slice A1 c.ro.length c1, .int .i64 c.rep, .int .i64 c.beat]] w fun e w' => e = .returned (.agg #[.slice A0 (c.rs.take 6).length c0, .slice A1 (c.ro.take 6).length c1, .int .i64 c.rep, .int .i64 c.beat]) ∧ Below w.heap.size w w'
  obtain ⟨n, hn⟩ : ∃ n, (c.rs.take 6).length = n := ⟨_, rfl⟩
  have h1 : (if (6 : Int) < (c.rs.length : Int) then 6 else (c.rs.length : Int)) = (n : Int) := by rw [← hn, List.length_take]; split <;> omega
  have h2 : n ≤ c0 := by rw [← hn, List.length_take]; omega
  obtain ⟨m, hm⟩ : ∃ m, (c.ro.take 6).length = m := ⟨_, rfl⟩
  have h3 : (if (6 : Int) < (c.ro.length : Int) then 6 else (c.ro.length : Int)) = (m : Int) := by rw [← hm, List.length_take]; split <;> omega
  have h4 : m ≤ c1 := by rw [← hm, List.length_take]; omega
  rw [hn, hm]
  clear hn hm hl0 hl1
  have hF := Aside0.mk (Fr.Frame.start w)
  have HC : True := trivial
  rcases hg with rfl | rfl
  · go_enter Try.func30, Try.ntmps30
    go_wp2_with (first | ((with_reducible refine gate_store rfl ?_); apply Fr.fr_store hF.out rfl rfl rfl; (case hp => rfl); (case hx => first | (go_simp; rfl) | rfl); (case hu => (simp only [Value.cells]; rfl)); (case hs => (repeat (first | exact Fr.Spot.here _ _ | apply Fr.Spot.there))); (case ht => kernel_rfl); (case h1 => simp [Value.oneCell']); (case hfit => simp); intro W hF1; simp only [Fr.patch, List.take_zero, List.nil_append, List.drop, List.append_nil, List.take, List.cons_append, List.length_cons, List.length_nil, Nat.reduceAdd] at hF1; have HC1 := hF1.cells; simp only [Fr.Cells, List.length_cons, List.length_nil, Nat.reduceAdd, and_true] at HC1; clear hF HC; have HC := HC1; have hF := Aside0.mk hF1; clear hF1 HC1) | ((first | (with_reducible refine Fr.gate_alloc rfl ?_) | (with_reducible refine Fr.gate_box rfl ?_)); apply Fr.fr_box hF.out rfl; (case hrun => first | (go_simp; done) | (go_simp; rfl)); intro g W hF1; have HC1 := hF1.cells; simp only [Fr.Cells, List.length_cons, List.length_nil, Nat.reduceAdd, and_true] at HC1; clear hF HC; have HC := HC1; have hF := Aside0.mk hF1; clear hF1 HC1))
    refine bodyPost_ret ?_ rfl ⟨rfl, hF.out.below⟩
    simp [results, Try.results30, go_sem, HC]
  · go_enter Try.func41, Try.ntmps41
    go_wp2_with (first | ((with_reducible refine gate_store rfl ?_); apply Fr.fr_store hF.out rfl rfl rfl; (case hp => rfl); (case hx => first | (go_simp; rfl) | rfl); (case hu => (simp only [Value.cells]; rfl)); (case hs => (repeat (first | exact Fr.Spot.here _ _ | apply Fr.Spot.there))); (case ht => kernel_rfl); (case h1 => simp [Value.oneCell']); (case hfit => simp); intro W hF1; simp only [Fr.patch, List.take_zero, List.nil_append, List.drop, List.append_nil, List.take, List.cons_append, List.length_cons, List.length_nil, Nat.reduceAdd] at hF1; have HC1 := hF1.cells; simp only [Fr.Cells, List.length_cons, List.length_nil, Nat.reduceAdd, and_true] at HC1; clear hF HC; have HC := HC1; have hF := Aside0.mk hF1; clear hF1 HC1) | ((first | (with_reducible refine Fr.gate_alloc rfl ?_) | (with_reducible refine Fr.gate_box rfl ?_)); apply Fr.fr_box hF.out rfl; (case hrun => first | (go_simp; done) | (go_simp; rfl)); intro g W hF1; have HC1 := hF1.cells; simp only [Fr.Cells, List.length_cons, List.length_nil, Nat.reduceAdd, and_true] at HC1; clear hF HC; have HC := HC1; have hF := Aside0.mk hF1; clear hF1 HC1))
    refine bodyPost_ret ?_ rfl ⟨rfl, hF.out.below⟩
    simp [results, Try.results41, go_sem, HC]
theorem w64' {n : Int} (h : -9223372036854775808 ≤ n) (h' : n ≤ 9223372036854775807) : wrap64 n = n := by unfold wrap64; omega
theorem mn_is (a b : Int) : mn a b = if a < b then a else b := by unfold mn; split <;> split <;> omega
theorem tm_iff (t : Int) : tmB t = true ↔ 0 ≤ t ∧ t ≤ 1099511627776 := by unfold tmB; simp
theorem u64mod (a m : Int) (hm : 0 < m) : 0 ≤ Int.tmod (IntKind.u64.wrap a) m ∧ Int.tmod (IntKind.u64.wrap a) m < m := by
  have e : IntKind.u64.wrap a = a % 18446744073709551616 := by simp [IntKind.wrap, IntKind.signed, IntKind.bits]
  rw [e]
  have h0 := Int.emod_nonneg a (show (18446744073709551616 : Int) ≠ 0 by decide)
  rw [Int.tmod_eq_emod_of_nonneg h0]
  exact ⟨Int.emod_nonneg _ (by omega), Int.emod_lt_of_pos _ hm⟩
end Go.Proofs.Ytkphinfijppkeaa.G
namespace Go.Proofs.Ytkphinfijppkeaa.G
open Go.RowKit Go.Proofs.YtkphinfijppkeaaW.PrintWords Go.Proofs.YtkphinfijppkeaaW.PrintLast Go.Proofs.YtkphinfijppkeaaW.PrintMore
attribute [local go_sem] max2_int min2_int max_two min_two max_three min_three max_four min_four   -- for this text's walks alone
set_option linter.unusedVariables false
set_option linter.unusedSimpArgs false
theorem eqA88 (d : Nat) (w : World) (x0 y0 : Int) (x1 y1 : ByteArray) (x2 y2 : ByteArray) :
    (Op.equalIn (d + 2) 88 (.agg #[.int .i64 x0, .string x1, .string x2]) (.agg #[.int .i64 y0, .string y1, .string y2])).run Try.prog w = .ok (x0 == y0 && (x1.toList == y1.toList && (x2.toList == y2.toList))) w := by
  refine eqA_of Try.underlying88 (by kernel_rfl) ?_
  refine eqf_cons (by rfl) (by go_simp; rfl) (by go_simp; rfl) (by go_simp) ?_
  refine eqf_cons (by rfl) (by go_simp; rfl) (by go_simp; rfl) (by go_simp) ?_
  exact eqf_last (by rfl) (by go_simp; rfl) (by go_simp; rfl) (by go_simp)
end Go.Proofs.Ytkphinfijppkeaa.G
namespace Go.Proofs.Ytkphinfijppkeaa.G
open Go.RowKit Go.Proofs.YtkphinfijppkeaaW.PrintWords Go.Proofs.YtkphinfijppkeaaW.PrintLast Go.Proofs.YtkphinfijppkeaaW.PrintMore
attribute [local go_sem] max2_int min2_int max_two min_two max_three min_three max_four min_four   -- for this text's walks alone
set_option linter.unusedVariables false
set_option linter.unusedSimpArgs false
attribute [local go_sem high] eqA88
end Go.Proofs.Ytkphinfijppkeaa.G
namespace Go.Proofs.Ytkphinfijppkeaa.G
open Go.RowKit Go.Proofs.YtkphinfijppkeaaW.PrintWords Go.Proofs.YtkphinfijppkeaaW.PrintLast Go.Proofs.YtkphinfijppkeaaW.PrintMore
attribute [local go_sem] max2_int min2_int max_two min_two max_three min_three max_four min_four   -- for this text's walks alone
set_option linter.unusedVariables false
set_option linter.unusedSimpArgs false
end Go.Proofs.Ytkphinfijppkeaa.G
namespace Go.Proofs.Ytkphinfijppkeaa.G
open Go.RowKit Go.Proofs.YtkphinfijppkeaaW.PrintWords Go.Proofs.YtkphinfijppkeaaW.PrintLast Go.Proofs.YtkphinfijppkeaaW.PrintMore
attribute [local go_sem] max2_int min2_int max_two min_two max_three min_three max_four min_four
set_option linter.unusedVariables false
set_option linter.unusedSimpArgs false
end Go.Proofs.Ytkphinfijppkeaa.G
namespace Go.Proofs.Ytkphinfijppkeaa.G
open Go.RowKit Go.Proofs.YtkphinfijppkeaaW.PrintWords Go.Proofs.YtkphinfijppkeaaW.PrintLast Go.Proofs.YtkphinfijppkeaaW.PrintMore
attribute [local go_sem] max2_int min2_int max_two min_two max_three min_three max_four min_four   -- for this text's walks alone
set_option linter.unusedVariables false
set_option linter.unusedSimpArgs false
end Go.Proofs.Ytkphinfijppkeaa.G
namespace Go.Proofs.Ytkphinfijppkeaa.G
open Go.RowKit Go.Proofs.YtkphinfijppkeaaW.PrintWords Go.Proofs.YtkphinfijppkeaaW.PrintLast Go.Proofs.YtkphinfijppkeaaW.PrintMore
attribute [local go_sem] max2_int min2_int max_two min_two max_three min_three max_four min_four
set_option linter.unusedVariables false
set_option linter.unusedSimpArgs false
abbrev M63 : Nat := 9223372036854775807
def MOk (m : S88) : Prop := m.f1.size ≤ M63 ∧ m.f2.size ≤ M63
def ROk (x : S58) : Prop := x.f0.length ≤ M63 ∧ x.f1.length ≤ M63 ∧ ∀ m ∈ x.f1, MOk m
def CfOk (c : Cf) : Prop := c.rs.length ≤ M63 ∧ c.ro.length ≤ M63 ∧ (∀ r ∈ c.rs, r.f0.size ≤ M63) ∧ ∀ x ∈ c.ro, ROk x
theorem cfg_routes {c : Cf} (h : cfgB c = true) : ∀ x ∈ c.ro, routeB c.rs.length x = true := by
  unfold cfgB at h
  simp only [Bool.and_eq_true] at h
  exact List.all_eq_true.1 h.2.1
theorem take_C {α : Type} {d : Kd α} {w : World} {A : Option Addr} {l L : List α} (n : Nat) (hr : Kd.C d w A l.length l) (hL : l.take n = L) : Kd.C d w A L.length L := by
  have h := Kd.C_take (m := min n l.length) hr (by omega)
  have e : l.take (min n l.length) = L := by
    rw [← hL]
    rcases Nat.le_total l.length n with h | h
    · rw [Nat.min_eq_right h, List.take_length, List.take_of_length_le h]
    · rw [Nat.min_eq_left h]
  rwa [e] at h
def LOk (x : S92) : Prop := x.f0.size ≤ M63 ∧ x.f1.size ≤ M63
def W74 (x : S74) : Prop := ((Lit.int .i64 x.f0).wf = true) ∧ ((Lit.int .i64 x.f1).wf = true) ∧ ((Lit.int .i64 x.f2).wf = true)
def W76 (x : S76) : Prop := (x.f0.size ≤ maxLen) ∧ (W74 x.f1) ∧ ((Lit.int .i64 x.f2).wf = true) ∧ ((Lit.int .i64 x.f3).wf = true) ∧ ((Lit.int .i64 x.f4).wf = true) ∧ ((Lit.int .i64 x.f5).wf = true) ∧ ((Lit.int .i64 x.f6).wf = true)
def W88 (x : S88) : Prop := ((Lit.int .i64 x.f0).wf = true) ∧ (x.f1.size ≤ maxLen) ∧ (x.f2.size ≤ maxLen)
def W58 (x : S58) : Prop := (x.f0.length ≤ maxLen ∧ ∀ x_ ∈ x.f0, ((Lit.int .i64 x_).wf = true)) ∧ (x.f1.length ≤ maxLen ∧ ∀ x_ ∈ x.f1, (W88 x_))
def WCf (rs : List S76) (ro : List S58) (rep beat : Int) : Prop := (rs.length ≤ maxLen ∧ ∀ x_ ∈ rs, (W76 x_)) ∧ (ro.length ≤ maxLen ∧ ∀ x_ ∈ ro, (W58 x_)) ∧ ((Lit.int .i64 rep).wf = true) ∧ ((Lit.int .i64 beat).wf = true)
def WLs (l : List S92) : Prop := l.length ≤ maxLen ∧ ∀ z ∈ l, (z.f0.size ≤ maxLen) ∧ (z.f1.size ≤ maxLen)
theorem WCf.ok {rs : List S76} {ro : List S58} {rep beat : Int} (h : WCf rs ro rep beat) : CfOk ⟨rs, ro, rep, beat⟩ ∧ ∀ x ∈ ro, WfR x :=
  ⟨⟨h.1.1, h.2.1.1, fun r hr => (h.1.2 r hr).1, fun x hx => ⟨(h.2.1.2 x hx).1.1, (h.2.1.2 x hx).2.1, fun m hm => ⟨((h.2.1.2 x hx).2.2 m hm).2.1, ((h.2.1.2 x hx).2.2 m hm).2.2⟩⟩⟩, fun x hx k hk => (h.2.1.2 x hx).1.2 k hk⟩
theorem WLs.ok {l : List S92} (h : WLs l) : ∀ x ∈ l, LOk x := fun x hx => h.2 x hx
structure Dy where
  ls : List S92
  ro : Int
  pl : Int
  tr : Int
  due : Int
  st : Int
set_option maxHeartbeats 2000000 in
theorem turned_calls (A : Option Addr) (n c : Nat) (ro pl tr due st s t : Int) (w : World) : Calls Try.prog 122 #[.agg #[.slice A n c, .int .i64 ro, .int .i64 pl, .int .i64 tr, .int .i64 due, .int .i64 st], .int .i64 s, .int .i64 t] w fun e w' => e = .returned (.agg #[.slice A n c, .int .i64 ro, .int .i64 0, .int .i64 0, .int .i64 t, .int .i64 s]) ∧ Below w.heap.size w w' := by
  have hF := Aside0.mk (Fr.Frame.start w)
  have HC : True := trivial
  go_enter Try.func122, Try.ntmps122
  go_wp2_with (first | ((with_reducible refine gate_store rfl ?_); apply Fr.fr_store hF.out rfl rfl rfl; (case hp => rfl); (case hx => first | (go_simp; rfl) | rfl); (case hu => (simp only [Value.cells]; rfl)); (case hs => (repeat (first | exact Fr.Spot.here _ _ | apply Fr.Spot.there))); (case ht => kernel_rfl); (case h1 => simp [Value.oneCell']); (case hfit => simp); intro W hF1; simp only [Fr.patch, List.take_zero, List.nil_append, List.drop, List.append_nil, List.take, List.cons_append, List.length_cons, List.length_nil, Nat.reduceAdd] at hF1; have HC1 := hF1.cells; simp only [Fr.Cells, List.length_cons, List.length_nil, Nat.reduceAdd, and_true] at HC1; clear hF HC; have HC := HC1; have hF := Aside0.mk hF1; clear hF1 HC1) | ((first | (with_reducible refine Fr.gate_alloc rfl ?_) | (with_reducible refine Fr.gate_box rfl ?_)); apply Fr.fr_box hF.out rfl; (case hrun => first | (go_simp; done) | (go_simp; rfl)); intro g W hF1; have HC1 := hF1.cells; simp only [Fr.Cells, List.length_cons, List.length_nil, Nat.reduceAdd, and_true] at HC1; clear hF HC; have HC := HC1; have hF := Aside0.mk hF1; clear hF1 HC1))
  refine bodyPost_ret ?_ rfl ⟨rfl, hF.out.below⟩
  simp [results, Try.results122, go_sem, HC]
set_option maxHeartbeats 2000000 in
theorem told_calls (A : Option Addr) (n c : Nat) (ro pl tr due st t : Int) (w : World) : Calls Try.prog 124 #[.agg #[.slice A n c, .int .i64 ro, .int .i64 pl, .int .i64 tr, .int .i64 due, .int .i64 st], .int .i64 t] w fun e w' => e = .returned (.agg #[.slice A n c, .int .i64 ro, .int .i64 0, .int .i64 0, .int .i64 t, .int .i64 2]) ∧ Below w.heap.size w w' := by
  have hF := Aside0.mk (Fr.Frame.start w)
  have HC : True := trivial
  go_enter Try.func124, Try.ntmps124
  go_wp2_with (first | ((with_reducible refine gate_store rfl ?_); apply Fr.fr_store hF.out rfl rfl rfl; (case hp => rfl); (case hx => first | (go_simp; rfl) | rfl); (case hu => (simp only [Value.cells]; rfl)); (case hs => (repeat (first | exact Fr.Spot.here _ _ | apply Fr.Spot.there))); (case ht => kernel_rfl); (case h1 => simp [Value.oneCell']); (case hfit => simp); intro W hF1; simp only [Fr.patch, List.take_zero, List.nil_append, List.drop, List.append_nil, List.take, List.cons_append, List.length_cons, List.length_nil, Nat.reduceAdd] at hF1; have HC1 := hF1.cells; simp only [Fr.Cells, List.length_cons, List.length_nil, Nat.reduceAdd, and_true] at HC1; clear hF HC; have HC := HC1; have hF := Aside0.mk hF1; clear hF1 HC1) | ((first | (with_reducible refine Fr.gate_alloc rfl ?_) | (with_reducible refine Fr.gate_box rfl ?_)); apply Fr.fr_box hF.out rfl; (case hrun => first | (go_simp; done) | (go_simp; rfl)); intro g W hF1; have HC1 := hF1.cells; simp only [Fr.Cells, List.length_cons, List.length_nil, Nat.reduceAdd, and_true] at HC1; clear hF HC; have HC := HC1; have hF := Aside0.mk hF1; clear hF1 HC1))
  (with_reducible refine (turned_calls A n c ro pl tr due st 2 t _).mono ?_); rintro e W ⟨rfl, hb⟩; have hF1 := hF.out.call hb; clear hb; have HC1 := hF1.cells; simp only [Fr.Cells, List.length_cons, List.length_nil, Nat.reduceAdd, and_true] at HC1; clear hF HC; have HC := HC1; have hF := Aside0.mk hF1; clear hF1 HC1
  go_wp2_with (first | ((with_reducible refine gate_store rfl ?_); apply Fr.fr_store hF.out rfl rfl rfl; (case hp => rfl); (case hx => first | (go_simp; rfl) | rfl); (case hu => (simp only [Value.cells]; rfl)); (case hs => (repeat (first | exact Fr.Spot.here _ _ | apply Fr.Spot.there))); (case ht => kernel_rfl); (case h1 => simp [Value.oneCell']); (case hfit => simp); intro W hF1; simp only [Fr.patch, List.take_zero, List.nil_append, List.drop, List.append_nil, List.take, List.cons_append, List.length_cons, List.length_nil, Nat.reduceAdd] at hF1; have HC1 := hF1.cells; simp only [Fr.Cells, List.length_cons, List.length_nil, Nat.reduceAdd, and_true] at HC1; clear hF HC; have HC := HC1; have hF := Aside0.mk hF1; clear hF1 HC1) | ((first | (with_reducible refine Fr.gate_alloc rfl ?_) | (with_reducible refine Fr.gate_box rfl ?_)); apply Fr.fr_box hF.out rfl; (case hrun => first | (go_simp; done) | (go_simp; rfl)); intro g W hF1; have HC1 := hF1.cells; simp only [Fr.Cells, List.length_cons, List.length_nil, Nat.reduceAdd, and_true] at HC1; clear hF HC; have HC := HC1; have hF := Aside0.mk hF1; clear hF1 HC1))
  refine bodyPost_ret ?_ rfl ⟨rfl, hF.out.below⟩
  simp [results, Try.results124, go_sem, HC]
set_option maxHeartbeats 2000000 in
theorem gone_calls (A : Option Addr) (n c : Nat) (ro pl tr due st t : Int) (w : World) : Calls Try.prog 125 #[.agg #[.slice A n c, .int .i64 ro, .int .i64 pl, .int .i64 tr, .int .i64 due, .int .i64 st], .int .i64 t] w fun e w' => e = .returned (.agg #[.slice none 0 0, .int .i64 0, .int .i64 0, .int .i64 0, .int .i64 0, .int .i64 0]) ∧ Below w.heap.size w w' := by
  have hF := Aside0.mk (Fr.Frame.start w)
  have HC : True := trivial
  go_enter Try.func125, Try.ntmps125
  go_wp2_with (first | ((with_reducible refine gate_store rfl ?_); apply Fr.fr_store hF.out rfl rfl rfl; (case hp => rfl); (case hx => first | (go_simp; rfl) | rfl); (case hu => (simp only [Value.cells]; rfl)); (case hs => (repeat (first | exact Fr.Spot.here _ _ | apply Fr.Spot.there))); (case ht => kernel_rfl); (case h1 => simp [Value.oneCell']); (case hfit => simp); intro W hF1; simp only [Fr.patch, List.take_zero, List.nil_append, List.drop, List.append_nil, List.take, List.cons_append, List.length_cons, List.length_nil, Nat.reduceAdd] at hF1; have HC1 := hF1.cells; simp only [Fr.Cells, List.length_cons, List.length_nil, Nat.reduceAdd, and_true] at HC1; clear hF HC; have HC := HC1; have hF := Aside0.mk hF1; clear hF1 HC1) | ((first | (with_reducible refine Fr.gate_alloc rfl ?_) | (with_reducible refine Fr.gate_box rfl ?_)); apply Fr.fr_box hF.out rfl; (case hrun => first | (go_simp; done) | (go_simp; rfl)); intro g W hF1; have HC1 := hF1.cells; simp only [Fr.Cells, List.length_cons, List.length_nil, Nat.reduceAdd, and_true] at HC1; clear hF HC; have HC := HC1; have hF := Aside0.mk hF1; clear hF1 HC1))
  refine bodyPost_ret ?_ rfl ⟨rfl, hF.out.below⟩
  simp [results, Try.results125, go_sem, HC]
set_option maxHeartbeats 2000000 in
theorem off_calls (g : Nat) (m : Int) (hg : (g = 120 ∧ m = 0) ∨ (g = 123 ∧ m = 6)) (A : Option Addr) (n c : Nat) (ro pl tr due st t : Int) (w : World) : Calls Try.prog g #[.agg #[.slice A n c, .int .i64 ro, .int .i64 pl, .int .i64 tr, .int .i64 due, .int .i64 st], .int .i64 t] w fun e w' => e = .returned (.tuple #[.agg #[.slice none 0 0, .int .i64 0, .int .i64 0, .int .i64 0, .int .i64 0, .int .i64 0], .int .i64 m]) ∧ Below w.heap.size w w' := by
  have hF := Aside0.mk (Fr.Frame.start w)
  have HC : True := trivial
  rcases hg with ⟨rfl, rfl⟩ | ⟨rfl, rfl⟩
  · go_enter Try.func120, Try.ntmps120
    go_wp2_with (first | ((with_reducible refine gate_store rfl ?_); apply Fr.fr_store hF.out rfl rfl rfl; (case hp => rfl); (case hx => first | (go_simp; rfl) | rfl); (case hu => (simp only [Value.cells]; rfl)); (case hs => (repeat (first | exact Fr.Spot.here _ _ | apply Fr.Spot.there))); (case ht => kernel_rfl); (case h1 => simp [Value.oneCell']); (case hfit => simp); intro W hF1; simp only [Fr.patch, List.take_zero, List.nil_append, List.drop, List.append_nil, List.take, List.cons_append, List.length_cons, List.length_nil, Nat.reduceAdd] at hF1; have HC1 := hF1.cells; simp only [Fr.Cells, List.length_cons, List.length_nil, Nat.reduceAdd, and_true] at HC1; clear hF HC; have HC := HC1; have hF := Aside0.mk hF1; clear hF1 HC1) | ((first | (with_reducible refine Fr.gate_alloc rfl ?_) | (with_reducible refine Fr.gate_box rfl ?_)); apply Fr.fr_box hF.out rfl; (case hrun => first | (go_simp; done) | (go_simp; rfl)); intro g W hF1; have HC1 := hF1.cells; simp only [Fr.Cells, List.length_cons, List.length_nil, Nat.reduceAdd, and_true] at HC1; clear hF HC; have HC := HC1; have hF := Aside0.mk hF1; clear hF1 HC1))
    refine bodyPost_ret ?_ rfl ⟨rfl, hF.out.below⟩
    simp [results, Try.results120, go_sem, HC]
  · go_enter Try.func123, Try.ntmps123
    go_wp2_with (first | ((with_reducible refine gate_store rfl ?_); apply Fr.fr_store hF.out rfl rfl rfl; (case hp => rfl); (case hx => first | (go_simp; rfl) | rfl); (case hu => (simp only [Value.cells]; rfl)); (case hs => (repeat (first | exact Fr.Spot.here _ _ | apply Fr.Spot.there))); (case ht => kernel_rfl); (case h1 => simp [Value.oneCell']); (case hfit => simp); intro W hF1; simp only [Fr.patch, List.take_zero, List.nil_append, List.drop, List.append_nil, List.take, List.cons_append, List.length_cons, List.length_nil, Nat.reduceAdd] at hF1; have HC1 := hF1.cells; simp only [Fr.Cells, List.length_cons, List.length_nil, Nat.reduceAdd, and_true] at HC1; clear hF HC; have HC := HC1; have hF := Aside0.mk hF1; clear hF1 HC1) | ((first | (with_reducible refine Fr.gate_alloc rfl ?_) | (with_reducible refine Fr.gate_box rfl ?_)); apply Fr.fr_box hF.out rfl; (case hrun => first | (go_simp; done) | (go_simp; rfl)); intro g W hF1; have HC1 := hF1.cells; simp only [Fr.Cells, List.length_cons, List.length_nil, Nat.reduceAdd, and_true] at HC1; clear hF HC; have HC := HC1; have hF := Aside0.mk hF1; clear hF1 HC1))
    refine bodyPost_ret ?_ rfl ⟨rfl, hF.out.below⟩
    simp [results, Try.results123, go_sem, HC]
set_option maxHeartbeats 2000000 in
theorem notice_calls (A : Option Addr) (n c : Nat) (ro pl tr due st t : Int) (w : World) : Calls Try.prog 121 #[.agg #[.slice A n c, .int .i64 ro, .int .i64 pl, .int .i64 tr, .int .i64 due, .int .i64 st], .int .i64 t] w fun e w' => e = .returned (.tuple #[.agg #[.slice A n c, .int .i64 ro, .int .i64 0, .int .i64 0, .int .i64 t, .int .i64 3], .int .i64 0]) ∧ Below w.heap.size w w' := by
  have hF := Aside0.mk (Fr.Frame.start w)
  have HC : True := trivial
  go_enter Try.func121, Try.ntmps121
  go_wp2_with (first | ((with_reducible refine gate_store rfl ?_); apply Fr.fr_store hF.out rfl rfl rfl; (case hp => rfl); (case hx => first | (go_simp; rfl) | rfl); (case hu => (simp only [Value.cells]; rfl)); (case hs => (repeat (first | exact Fr.Spot.here _ _ | apply Fr.Spot.there))); (case ht => kernel_rfl); (case h1 => simp [Value.oneCell']); (case hfit => simp); intro W hF1; simp only [Fr.patch, List.take_zero, List.nil_append, List.drop, List.append_nil, List.take, List.cons_append, List.length_cons, List.length_nil, Nat.reduceAdd] at hF1; have HC1 := hF1.cells; simp only [Fr.Cells, List.length_cons, List.length_nil, Nat.reduceAdd, and_true] at HC1; clear hF HC; have HC := HC1; have hF := Aside0.mk hF1; clear hF1 HC1) | ((first | (with_reducible refine Fr.gate_alloc rfl ?_) | (with_reducible refine Fr.gate_box rfl ?_)); apply Fr.fr_box hF.out rfl; (case hrun => first | (go_simp; done) | (go_simp; rfl)); intro g W hF1; have HC1 := hF1.cells; simp only [Fr.Cells, List.length_cons, List.length_nil, Nat.reduceAdd, and_true] at HC1; clear hF HC; have HC := HC1; have hF := Aside0.mk hF1; clear hF1 HC1))
  (with_reducible refine (turned_calls A n c ro pl tr due st 3 t _).mono ?_); rintro e W ⟨rfl, hb⟩; have hF1 := hF.out.call hb; clear hb; have HC1 := hF1.cells; simp only [Fr.Cells, List.length_cons, List.length_nil, Nat.reduceAdd, and_true] at HC1; clear hF HC; have HC := HC1; have hF := Aside0.mk hF1; clear hF1 HC1
  go_wp2_with (first | ((with_reducible refine gate_store rfl ?_); apply Fr.fr_store hF.out rfl rfl rfl; (case hp => rfl); (case hx => first | (go_simp; rfl) | rfl); (case hu => (simp only [Value.cells]; rfl)); (case hs => (repeat (first | exact Fr.Spot.here _ _ | apply Fr.Spot.there))); (case ht => kernel_rfl); (case h1 => simp [Value.oneCell']); (case hfit => simp); intro W hF1; simp only [Fr.patch, List.take_zero, List.nil_append, List.drop, List.append_nil, List.take, List.cons_append, List.length_cons, List.length_nil, Nat.reduceAdd] at hF1; have HC1 := hF1.cells; simp only [Fr.Cells, List.length_cons, List.length_nil, Nat.reduceAdd, and_true] at HC1; clear hF HC; have HC := HC1; have hF := Aside0.mk hF1; clear hF1 HC1) | ((first | (with_reducible refine Fr.gate_alloc rfl ?_) | (with_reducible refine Fr.gate_box rfl ?_)); apply Fr.fr_box hF.out rfl; (case hrun => first | (go_simp; done) | (go_simp; rfl)); intro g W hF1; have HC1 := hF1.cells; simp only [Fr.Cells, List.length_cons, List.length_nil, Nat.reduceAdd, and_true] at HC1; clear hF HC; have HC := HC1; have hF := Aside0.mk hF1; clear hF1 HC1))
  refine bodyPost_ret ?_ rfl ⟨rfl, hF.out.below⟩
  simp [results, Try.results121, go_sem, HC]
def stV (a b : Nat) : Value := .agg #[.func (.func a) #[] #[], .func (.func b) #[] #[]]
def stM : Array MapEntry := #[⟨.int .i64 1, stV 124 120, 0⟩, ⟨.int .i64 2, stV 124 121, 1⟩, ⟨.int .i64 3, stV 125 123, 2⟩]
theorem chk3 (k : Int) (w : World) (e : Bool) : (Instr.checkKey e 10000 3 (.int .i64 k)).run Try.prog w = .ok () w := MapKept.run_checkKey (kt := 3) (d := .int .i64) Try.underlying3 (by simp [MapKept.IsKey]) e 9999
theorem run_ins {w : World} {g n : Nat} {es : Array MapEntry} {k : Int} {v : Value} (hg : w.heap[g]? = some (.map es n)) (hf : Instr.findNow (.int .i64) (.int .i64 k) es.toList 0 = some none) : (Instr.mapUpdate 114 (.map (some g)) (.int .i64 k) v).run Try.prog w = .ok () (ChangeMaps.setBlock w g (.map (es.push ⟨.int .i64 k, v, n⟩) (n + 1))) := by
  simp [Instr.mapUpdate, run_underlying Try.underlying114, MapKept.run_getObj_map hg, chk3, MapKept.run_findKey Try.underlying3 hf, MapKept.run_setObj_map _ hg, Result.andThen, ChangeMaps.setBlock]
theorem run_look {w : World} {g n : Nat} {es : Array MapEntry} {k : Int} {v : Value} {j : Nat} (hg : w.heap[g]? = some (.map es n)) (hf : Instr.findNow (.int .i64) (.int .i64 k) es.toList 0 = some (some (j, v))) : (Instr.lookup 114 (.map (some g)) (.int .i64 k) false).run Try.prog w = .ok v w := by
  simp [Instr.lookup, run_underlying Try.underlying114, MapKept.run_getObj_map hg, chk3, MapKept.run_findKey Try.underlying3 hf, Result.andThen]
theorem set_same {w : World} {g : Nat} {o o' : Obj} (hg : w.heap[g]? = some o') : (ChangeMaps.setBlock w g o).heap[g]? = some o := by
  have hl : g < w.heap.size := (Array.getElem?_eq_some_iff.1 hg).1
  simp [ChangeMaps.setBlock, hl]
theorem set_grown {w : World} {g : Nat} (o : Obj) : w.grownBy (ChangeMaps.setBlock w g o) (some g) := by
  refine ⟨rfl, rfl, rfl, by simp [ChangeMaps.setBlock], fun k _ hne => ?_⟩
  have : g ≠ k := fun e => hne (by rw [e])
  simp [ChangeMaps.setBlock, this]
theorem look_1 {w : World} {g : Nat} (hg : w.heap[g]? = some (.map stM 3)) : (Instr.lookup 114 (.map (some g)) (.int .i64 1) false).run Try.prog w = .ok (stV 124 120) w := run_look (j := 0) hg rfl
theorem look_2 {w : World} {g : Nat} (hg : w.heap[g]? = some (.map stM 3)) : (Instr.lookup 114 (.map (some g)) (.int .i64 2) false).run Try.prog w = .ok (stV 124 121) w := run_look (j := 1) hg rfl
theorem look_3 {w : World} {g : Nat} (hg : w.heap[g]? = some (.map stM 3)) : (Instr.lookup 114 (.map (some g)) (.int .i64 3) false).run Try.prog w = .ok (stV 125 123) w := run_look (j := 2) hg rfl
set_option maxHeartbeats 2000000 in
theorem steps83_calls (w : World) : Calls Try.prog 83 #[] w fun e w' => ∃ g, e = .returned (.map (some g)) ∧ w'.heap[g]? = some (.map stM 3) ∧ Below w.heap.size w w' := by
  have hmm := @run_makeMap Try.prog
  have hg0 : (w.alloc (.map #[] 0)).heap[w.heap.size]? = some (.map #[] 0) := heap_alloc_new w _
  have h1 := run_ins (k := 1) (v := stV 124 120) hg0 rfl
  have g1 := set_same (o := .map ((#[] : Array MapEntry).push ⟨.int .i64 1, stV 124 120, 0⟩) 1) hg0
  have b1 := set_grown (w := w.alloc (.map #[] 0)) (g := w.heap.size) (.map ((#[] : Array MapEntry).push ⟨.int .i64 1, stV 124 120, 0⟩) 1)
  obtain ⟨w1, hw1⟩ : ∃ w1, ChangeMaps.setBlock (w.alloc (.map #[] 0)) w.heap.size (.map ((#[] : Array MapEntry).push ⟨.int .i64 1, stV 124 120, 0⟩) 1) = w1 := ⟨_, rfl⟩
  rw [show (0 : Nat) + 1 = 1 from rfl, hw1] at h1
  rw [hw1] at g1 b1
  clear hw1
  have h2 := run_ins (k := 2) (v := stV 124 121) g1 rfl
  have g2 := set_same (o := .map (((#[] : Array MapEntry).push ⟨.int .i64 1, stV 124 120, 0⟩).push ⟨.int .i64 2, stV 124 121, 1⟩) 2) g1
  have b2 := set_grown (w := w1) (g := w.heap.size) (.map (((#[] : Array MapEntry).push ⟨.int .i64 1, stV 124 120, 0⟩).push ⟨.int .i64 2, stV 124 121, 1⟩) 2)
  obtain ⟨w2, hw2⟩ : ∃ w2, ChangeMaps.setBlock w1 w.heap.size (.map (((#[] : Array MapEntry).push ⟨.int .i64 1, stV 124 120, 0⟩).push ⟨.int .i64 2, stV 124 121, 1⟩) 2) = w2 := ⟨_, rfl⟩
  rw [show (1 : Nat) + 1 = 2 from rfl, hw2] at h2
  rw [hw2] at g2 b2
  clear hw2
  have h3 := run_ins (k := 3) (v := stV 125 123) g2 rfl
  have g3 := set_same (o := .map stM 3) g2
  have b3 := set_grown (w := w2) (g := w.heap.size) (.map stM 3)
  obtain ⟨w3, hw3⟩ : ∃ w3, ChangeMaps.setBlock w2 w.heap.size (.map stM 3) = w3 := ⟨_, rfl⟩
  have hw3' : ChangeMaps.setBlock w2 w.heap.size (.map ((((#[] : Array MapEntry).push ⟨.int .i64 1, stV 124 120, 0⟩).push ⟨.int .i64 2, stV 124 121, 1⟩).push ⟨.int .i64 3, stV 125 123, 2⟩) (2 + 1)) = w3 := hw3
  rw [hw3'] at h3
  rw [hw3] at g3 b3
  clear hw3 hw3'
  have hB0 : Below w.heap.size w (w.alloc (.map #[] 0)) := (Below.refl _ w).alloc (Nat.le_refl _) _
  have hB : Below w.heap.size w w3 := ((hB0.grown b1 (by simp) (fun k hk => by injection hk with hk; omega)).grown b2 (by have := b1.size; simp at this; omega) (fun k hk => by injection hk with hk; omega)).grown b3 (by have := b1.size; have := b2.size; simp at *; omega) (fun k hk => by injection hk with hk; omega)
  clear hg0 g1 b1 g2 b2 b3 hB0
  unfold stV at h1 h2 h3
  have HB := Aside0.mk hB
  have HG := Aside0.mk g3
  clear hB g3
  go_enter Try.func83, Try.ntmps83
  go_wp2
  go_ret
  exact ⟨_, rfl, HG.out, HB.out⟩
end Go.Proofs.Ytkphinfijppkeaa.G
