/- Contracts of functions of the given program, and what they come to, for any arguments. No condition beyond each theorem's own premises. -/
import Derived.Test.YtkphinfijppkeaaXHushTellsM5
import Derived.WalkSpells
import Derived.Deep.Slices
namespace Go.Proofs.Ytkphinfijppkeaa.G
open Go.RowKit Go.Proofs.YtkphinfijppkeaaW.PrintWords Go.Proofs.YtkphinfijppkeaaW.PrintLast Go.Proofs.YtkphinfijppkeaaW.PrintMore
attribute [local go_sem] max2_int min2_int max_two min_two max_three min_three max_four min_four
def tmB (t : Int) : Bool := decide (0 ≤ t) && decide (t ≤ 1099511627776)
def hushB (h : S25) : Bool := tmB h.f0 && (tmB h.f1 && (decide (h.f0 < h.f1) && (decide (1 ≤ h.f2.length) && (decide (h.f2.length ≤ 4) && h.f2.all matcherB))))
theorem E144 : ∀ args w, (callFunc 144 args).run Try.prog w = .ok (.enter 144 args) w := enters_of Try.func144 (by kernel_rfl) rfl
theorem tick_is (t : Int) : tick_Right.f t = some (tmB t) := by
  unfold tick_Right.f tmB
  by_cases h : 0 ≤ t
  · by_cases h2 : t ≤ 1099511627776 <;> simp [h, h2]
  · simp [h]
set_option maxHeartbeats 4000000 in
theorem wisHush_calls (a b : Int) (A : Option Addr) (c : Nat) (ms : List S88) (w : World) (hr : Kd.C k88 w A ms.length ms) : Calls Try.prog 128 #[.agg #[.int .i64 a, .int .i64 b, .slice A ms.length c]] w fun e w' => e = .returned (.bool (hushB ⟨a, b, ms⟩)) ∧ Below w.heap.size w w' := by
  have HR := Aside0.mk hr
  have hll : ms.length ≤ 9223372036854775807 := hr.2.1
  clear hr
  have hF := Aside0.mk (Fr.Frame.start w)
  have HC : True := trivial
  cases h1 : tmB a with
  | false =>
    have H1 := Aside0.mk h1
    have HV := Aside0.mk (show hushB ⟨a, b, ms⟩ = false by unfold hushB; simp [h1])
    clear h1
    go_enter Try.func128, Try.ntmps128
    go_wp2_with (first | ((with_reducible refine gate_store rfl ?_); apply Fr.fr_store hF.out rfl rfl rfl; (case hp => rfl); (case hx => first | (go_simp; rfl) | rfl); (case hu => (simp only [Value.cells]; rfl)); (case hs => (repeat (first | exact Fr.Spot.here _ _ | apply Fr.Spot.there))); (case ht => kernel_rfl); (case h1 => simp [Value.oneCell']); (case hfit => simp); intro W hF1; simp only [Fr.patch, List.take_zero, List.nil_append, List.drop, List.append_nil, List.take, List.cons_append, List.length_cons, List.length_nil, Nat.reduceAdd] at hF1; have HC1 := hF1.cells; simp only [Fr.Cells, List.length_cons, List.length_nil, Nat.reduceAdd, and_true] at HC1; clear hF HC; have HC := HC1; have hF := Aside0.mk hF1; clear hF1 HC1) | ((first | (with_reducible refine Fr.gate_alloc rfl ?_) | (with_reducible refine Fr.gate_box rfl ?_)); apply Fr.fr_box hF.out rfl; (case hrun => first | (go_simp; done) | (go_simp; rfl)); intro g W hF1; have HC1 := hF1.cells; simp only [Fr.Cells, List.length_cons, List.length_nil, Nat.reduceAdd, and_true] at HC1; clear hF HC; have HC := HC1; have hF := Aside0.mk hF1; clear hF1 HC1))
    (with_reducible refine (tick_Right.calls a _ _ (tick_is a)).mono ?_); rintro e W ⟨rfl, hb⟩; have hF1 := hF.out.call hb.below; clear hb; have HC1 := hF1.cells; simp only [Fr.Cells, List.length_cons, List.length_nil, Nat.reduceAdd, and_true] at HC1; clear hF HC; have HC := HC1; have hF := Aside0.mk hF1; clear hF1 HC1
    simp only [H1.out]
    go_wp2_with (first | ((with_reducible refine gate_store rfl ?_); apply Fr.fr_store hF.out rfl rfl rfl; (case hp => rfl); (case hx => first | (go_simp; rfl) | rfl); (case hu => (simp only [Value.cells]; rfl)); (case hs => (repeat (first | exact Fr.Spot.here _ _ | apply Fr.Spot.there))); (case ht => kernel_rfl); (case h1 => simp [Value.oneCell']); (case hfit => simp); intro W hF1; simp only [Fr.patch, List.take_zero, List.nil_append, List.drop, List.append_nil, List.take, List.cons_append, List.length_cons, List.length_nil, Nat.reduceAdd] at hF1; have HC1 := hF1.cells; simp only [Fr.Cells, List.length_cons, List.length_nil, Nat.reduceAdd, and_true] at HC1; clear hF HC; have HC := HC1; have hF := Aside0.mk hF1; clear hF1 HC1) | ((first | (with_reducible refine Fr.gate_alloc rfl ?_) | (with_reducible refine Fr.gate_box rfl ?_)); apply Fr.fr_box hF.out rfl; (case hrun => first | (go_simp; done) | (go_simp; rfl)); intro g W hF1; have HC1 := hF1.cells; simp only [Fr.Cells, List.length_cons, List.length_nil, Nat.reduceAdd, and_true] at HC1; clear hF HC; have HC := HC1; have hF := Aside0.mk hF1; clear hF1 HC1))
    go_ret
    exact ⟨by rw [HV.out]; rfl, hF.out.below⟩
  | true =>
    have H1 := Aside0.mk h1
    cases h2 : tmB b with
    | false =>
      have H2 := Aside0.mk h2
      have HV := Aside0.mk (show hushB ⟨a, b, ms⟩ = false by unfold hushB; simp [h2])
      clear h1 h2
      go_enter Try.func128, Try.ntmps128
      go_wp2_with (first | ((with_reducible refine gate_store rfl ?_); apply Fr.fr_store hF.out rfl rfl rfl; (case hp => rfl); (case hx => first | (go_simp; rfl) | rfl); (case hu => (simp only [Value.cells]; rfl)); (case hs => (repeat (first | exact Fr.Spot.here _ _ | apply Fr.Spot.there))); (case ht => kernel_rfl); (case h1 => simp [Value.oneCell']); (case hfit => simp); intro W hF1; simp only [Fr.patch, List.take_zero, List.nil_append, List.drop, List.append_nil, List.take, List.cons_append, List.length_cons, List.length_nil, Nat.reduceAdd] at hF1; have HC1 := hF1.cells; simp only [Fr.Cells, List.length_cons, List.length_nil, Nat.reduceAdd, and_true] at HC1; clear hF HC; have HC := HC1; have hF := Aside0.mk hF1; clear hF1 HC1) | ((first | (with_reducible refine Fr.gate_alloc rfl ?_) | (with_reducible refine Fr.gate_box rfl ?_)); apply Fr.fr_box hF.out rfl; (case hrun => first | (go_simp; done) | (go_simp; rfl)); intro g W hF1; have HC1 := hF1.cells; simp only [Fr.Cells, List.length_cons, List.length_nil, Nat.reduceAdd, and_true] at HC1; clear hF HC; have HC := HC1; have hF := Aside0.mk hF1; clear hF1 HC1))
      (with_reducible refine (tick_Right.calls a _ _ (tick_is a)).mono ?_); rintro e W ⟨rfl, hb⟩; have hF1 := hF.out.call hb.below; clear hb; have HC1 := hF1.cells; simp only [Fr.Cells, List.length_cons, List.length_nil, Nat.reduceAdd, and_true] at HC1; clear hF HC; have HC := HC1; have hF := Aside0.mk hF1; clear hF1 HC1
      simp only [H1.out]
      go_wp2_with (first | ((with_reducible refine gate_store rfl ?_); apply Fr.fr_store hF.out rfl rfl rfl; (case hp => rfl); (case hx => first | (go_simp; rfl) | rfl); (case hu => (simp only [Value.cells]; rfl)); (case hs => (repeat (first | exact Fr.Spot.here _ _ | apply Fr.Spot.there))); (case ht => kernel_rfl); (case h1 => simp [Value.oneCell']); (case hfit => simp); intro W hF1; simp only [Fr.patch, List.take_zero, List.nil_append, List.drop, List.append_nil, List.take, List.cons_append, List.length_cons, List.length_nil, Nat.reduceAdd] at hF1; have HC1 := hF1.cells; simp only [Fr.Cells, List.length_cons, List.length_nil, Nat.reduceAdd, and_true] at HC1; clear hF HC; have HC := HC1; have hF := Aside0.mk hF1; clear hF1 HC1) | ((first | (with_reducible refine Fr.gate_alloc rfl ?_) | (with_reducible refine Fr.gate_box rfl ?_)); apply Fr.fr_box hF.out rfl; (case hrun => first | (go_simp; done) | (go_simp; rfl)); intro g W hF1; have HC1 := hF1.cells; simp only [Fr.Cells, List.length_cons, List.length_nil, Nat.reduceAdd, and_true] at HC1; clear hF HC; have HC := HC1; have hF := Aside0.mk hF1; clear hF1 HC1))
      (with_reducible refine (tick_Right.calls b _ _ (tick_is b)).mono ?_); rintro e W ⟨rfl, hb⟩; have hF1 := hF.out.call hb.below; clear hb; have HC1 := hF1.cells; simp only [Fr.Cells, List.length_cons, List.length_nil, Nat.reduceAdd, and_true] at HC1; clear hF HC; have HC := HC1; have hF := Aside0.mk hF1; clear hF1 HC1
      simp only [H2.out]
      go_wp2_with (first | ((with_reducible refine gate_store rfl ?_); apply Fr.fr_store hF.out rfl rfl rfl; (case hp => rfl); (case hx => first | (go_simp; rfl) | rfl); (case hu => (simp only [Value.cells]; rfl)); (case hs => (repeat (first | exact Fr.Spot.here _ _ | apply Fr.Spot.there))); (case ht => kernel_rfl); (case h1 => simp [Value.oneCell']); (case hfit => simp); intro W hF1; simp only [Fr.patch, List.take_zero, List.nil_append, List.drop, List.append_nil, List.take, List.cons_append, List.length_cons, List.length_nil, Nat.reduceAdd] at hF1; have HC1 := hF1.cells; simp only [Fr.Cells, List.length_cons, List.length_nil, Nat.reduceAdd, and_true] at HC1; clear hF HC; have HC := HC1; have hF := Aside0.mk hF1; clear hF1 HC1) | ((first | (with_reducible refine Fr.gate_alloc rfl ?_) | (with_reducible refine Fr.gate_box rfl ?_)); apply Fr.fr_box hF.out rfl; (case hrun => first | (go_simp; done) | (go_simp; rfl)); intro g W hF1; have HC1 := hF1.cells; simp only [Fr.Cells, List.length_cons, List.length_nil, Nat.reduceAdd, and_true] at HC1; clear hF HC; have HC := HC1; have hF := Aside0.mk hF1; clear hF1 HC1))
      go_ret
      exact ⟨by rw [HV.out]; rfl, hF.out.below⟩
    | true =>
      have H2 := Aside0.mk h2
      by_cases h3 : a < b
      · by_cases h4 : 1 ≤ ms.length
        · by_cases h5 : ms.length ≤ 4
          · have HV := Aside0.mk (show hushB ⟨a, b, ms⟩ = ms.all matcherB by unfold hushB; simp [h1, h2, h3, h4, h5])
            have H3 := Aside0.mk (any_not_all matcherB ms)
            have h4i : (1 : Int) ≤ (ms.length : Int) := by omega
            have h5i : (ms.length : Int) ≤ 4 := by omega
            clear h1 h2
            go_enter Try.func128, Try.ntmps128
            go_wp2_with (first | ((with_reducible refine gate_store rfl ?_); apply Fr.fr_store hF.out rfl rfl rfl; (case hp => rfl); (case hx => first | (go_simp; rfl) | rfl); (case hu => (simp only [Value.cells]; rfl)); (case hs => (repeat (first | exact Fr.Spot.here _ _ | apply Fr.Spot.there))); (case ht => kernel_rfl); (case h1 => simp [Value.oneCell']); (case hfit => simp); intro W hF1; simp only [Fr.patch, List.take_zero, List.nil_append, List.drop, List.append_nil, List.take, List.cons_append, List.length_cons, List.length_nil, Nat.reduceAdd] at hF1; have HC1 := hF1.cells; simp only [Fr.Cells, List.length_cons, List.length_nil, Nat.reduceAdd, and_true] at HC1; clear hF HC; have HC := HC1; have hF := Aside0.mk hF1; clear hF1 HC1) | ((first | (with_reducible refine Fr.gate_alloc rfl ?_) | (with_reducible refine Fr.gate_box rfl ?_)); apply Fr.fr_box hF.out rfl; (case hrun => first | (go_simp; done) | (go_simp; rfl)); intro g W hF1; have HC1 := hF1.cells; simp only [Fr.Cells, List.length_cons, List.length_nil, Nat.reduceAdd, and_true] at HC1; clear hF HC; have HC := HC1; have hF := Aside0.mk hF1; clear hF1 HC1))
            (with_reducible refine (tick_Right.calls a _ _ (tick_is a)).mono ?_); rintro e W ⟨rfl, hb⟩; have hF1 := hF.out.call hb.below; clear hb; have HC1 := hF1.cells; simp only [Fr.Cells, List.length_cons, List.length_nil, Nat.reduceAdd, and_true] at HC1; clear hF HC; have HC := HC1; have hF := Aside0.mk hF1; clear hF1 HC1
            simp only [H1.out]
            go_wp2_with (first | ((with_reducible refine gate_store rfl ?_); apply Fr.fr_store hF.out rfl rfl rfl; (case hp => rfl); (case hx => first | (go_simp; rfl) | rfl); (case hu => (simp only [Value.cells]; rfl)); (case hs => (repeat (first | exact Fr.Spot.here _ _ | apply Fr.Spot.there))); (case ht => kernel_rfl); (case h1 => simp [Value.oneCell']); (case hfit => simp); intro W hF1; simp only [Fr.patch, List.take_zero, List.nil_append, List.drop, List.append_nil, List.take, List.cons_append, List.length_cons, List.length_nil, Nat.reduceAdd] at hF1; have HC1 := hF1.cells; simp only [Fr.Cells, List.length_cons, List.length_nil, Nat.reduceAdd, and_true] at HC1; clear hF HC; have HC := HC1; have hF := Aside0.mk hF1; clear hF1 HC1) | ((first | (with_reducible refine Fr.gate_alloc rfl ?_) | (with_reducible refine Fr.gate_box rfl ?_)); apply Fr.fr_box hF.out rfl; (case hrun => first | (go_simp; done) | (go_simp; rfl)); intro g W hF1; have HC1 := hF1.cells; simp only [Fr.Cells, List.length_cons, List.length_nil, Nat.reduceAdd, and_true] at HC1; clear hF HC; have HC := HC1; have hF := Aside0.mk hF1; clear hF1 HC1))
            (with_reducible refine (tick_Right.calls b _ _ (tick_is b)).mono ?_); rintro e W ⟨rfl, hb⟩; have hF1 := hF.out.call hb.below; clear hb; have HC1 := hF1.cells; simp only [Fr.Cells, List.length_cons, List.length_nil, Nat.reduceAdd, and_true] at HC1; clear hF HC; have HC := HC1; have hF := Aside0.mk hF1; clear hF1 HC1
            simp only [H2.out]
            go_wp2_with (first | ((with_reducible refine gate_store rfl ?_); apply Fr.fr_store hF.out rfl rfl rfl; (case hp => rfl); (case hx => first | (go_simp; rfl) | rfl); (case hu => (simp only [Value.cells]; rfl)); (case hs => (repeat (first | exact Fr.Spot.here _ _ | apply Fr.Spot.there))); (case ht => kernel_rfl); (case h1 => simp [Value.oneCell']); (case hfit => simp); intro W hF1; simp only [Fr.patch, List.take_zero, List.nil_append, List.drop, List.append_nil, List.take, List.cons_append, List.length_cons, List.length_nil, Nat.reduceAdd] at hF1; have HC1 := hF1.cells; simp only [Fr.Cells, List.length_cons, List.length_nil, Nat.reduceAdd, and_true] at HC1; clear hF HC; have HC := HC1; have hF := Aside0.mk hF1; clear hF1 HC1) | ((first | (with_reducible refine Fr.gate_alloc rfl ?_) | (with_reducible refine Fr.gate_box rfl ?_)); apply Fr.fr_box hF.out rfl; (case hrun => first | (go_simp; done) | (go_simp; rfl)); intro g W hF1; have HC1 := hF1.cells; simp only [Fr.Cells, List.length_cons, List.length_nil, Nat.reduceAdd, and_true] at HC1; clear hF HC; have HC := HC1; have hF := Aside0.mk hF1; clear hF1 HC1))
            (with_reducible refine (containsFunc_88 (fun _ => True) 144 #[] _ E144 A c ms _ (Kd.C_below HR.out hF.out.below) (fun _ _ => trivial) (notMatcher_pred 144 (.inr (.inl rfl)) _)).mono ?_); rintro e W ⟨rfl, hb⟩; have hF1 := hF.out.call hb; clear hb; have HC1 := hF1.cells; simp only [Fr.Cells, List.length_cons, List.length_nil, Nat.reduceAdd, and_true] at HC1; clear hF HC; have HC := HC1; have hF := Aside0.mk hF1; clear hF1 HC1
            simp only [H3.out]
            go_wp2_with (first | ((with_reducible refine gate_store rfl ?_); apply Fr.fr_store hF.out rfl rfl rfl; (case hp => rfl); (case hx => first | (go_simp; rfl) | rfl); (case hu => (simp only [Value.cells]; rfl)); (case hs => (repeat (first | exact Fr.Spot.here _ _ | apply Fr.Spot.there))); (case ht => kernel_rfl); (case h1 => simp [Value.oneCell']); (case hfit => simp); intro W hF1; simp only [Fr.patch, List.take_zero, List.nil_append, List.drop, List.append_nil, List.take, List.cons_append, List.length_cons, List.length_nil, Nat.reduceAdd] at hF1; have HC1 := hF1.cells; simp only [Fr.Cells, List.length_cons, List.length_nil, Nat.reduceAdd, and_true] at HC1; clear hF HC; have HC := HC1; have hF := Aside0.mk hF1; clear hF1 HC1) | ((first | (with_reducible refine Fr.gate_alloc rfl ?_) | (with_reducible refine Fr.gate_box rfl ?_)); apply Fr.fr_box hF.out rfl; (case hrun => first | (go_simp; done) | (go_simp; rfl)); intro g W hF1; have HC1 := hF1.cells; simp only [Fr.Cells, List.length_cons, List.length_nil, Nat.reduceAdd, and_true] at HC1; clear hF HC; have HC := HC1; have hF := Aside0.mk hF1; clear hF1 HC1))
            go_ret
            exact ⟨by rw [HV.out]; simp, hF.out.below⟩
          · have HV := Aside0.mk (show hushB ⟨a, b, ms⟩ = false by unfold hushB; simp [h5])
            have h4i : (1 : Int) ≤ (ms.length : Int) := by omega
            have h5i : 4 < (ms.length : Int) := by omega
            clear h1 h2
            go_enter Try.func128, Try.ntmps128
            go_wp2_with (first | ((with_reducible refine gate_store rfl ?_); apply Fr.fr_store hF.out rfl rfl rfl; (case hp => rfl); (case hx => first | (go_simp; rfl) | rfl); (case hu => (simp only [Value.cells]; rfl)); (case hs => (repeat (first | exact Fr.Spot.here _ _ | apply Fr.Spot.there))); (case ht => kernel_rfl); (case h1 => simp [Value.oneCell']); (case hfit => simp); intro W hF1; simp only [Fr.patch, List.take_zero, List.nil_append, List.drop, List.append_nil, List.take, List.cons_append, List.length_cons, List.length_nil, Nat.reduceAdd] at hF1; have HC1 := hF1.cells; simp only [Fr.Cells, List.length_cons, List.length_nil, Nat.reduceAdd, and_true] at HC1; clear hF HC; have HC := HC1; have hF := Aside0.mk hF1; clear hF1 HC1) | ((first | (with_reducible refine Fr.gate_alloc rfl ?_) | (with_reducible refine Fr.gate_box rfl ?_)); apply Fr.fr_box hF.out rfl; (case hrun => first | (go_simp; done) | (go_simp; rfl)); intro g W hF1; have HC1 := hF1.cells; simp only [Fr.Cells, List.length_cons, List.length_nil, Nat.reduceAdd, and_true] at HC1; clear hF HC; have HC := HC1; have hF := Aside0.mk hF1; clear hF1 HC1))
            (with_reducible refine (tick_Right.calls a _ _ (tick_is a)).mono ?_); rintro e W ⟨rfl, hb⟩; have hF1 := hF.out.call hb.below; clear hb; have HC1 := hF1.cells; simp only [Fr.Cells, List.length_cons, List.length_nil, Nat.reduceAdd, and_true] at HC1; clear hF HC; have HC := HC1; have hF := Aside0.mk hF1; clear hF1 HC1
            simp only [H1.out]
            go_wp2_with (first | ((with_reducible refine gate_store rfl ?_); apply Fr.fr_store hF.out rfl rfl rfl; (case hp => rfl); (case hx => first | (go_simp; rfl) | rfl); (case hu => (simp only [Value.cells]; rfl)); (case hs => (repeat (first | exact Fr.Spot.here _ _ | apply Fr.Spot.there))); (case ht => kernel_rfl); (case h1 => simp [Value.oneCell']); (case hfit => simp); intro W hF1; simp only [Fr.patch, List.take_zero, List.nil_append, List.drop, List.append_nil, List.take, List.cons_append, List.length_cons, List.length_nil, Nat.reduceAdd] at hF1; have HC1 := hF1.cells; simp only [Fr.Cells, List.length_cons, List.length_nil, Nat.reduceAdd, and_true] at HC1; clear hF HC; have HC := HC1; have hF := Aside0.mk hF1; clear hF1 HC1) | ((first | (with_reducible refine Fr.gate_alloc rfl ?_) | (with_reducible refine Fr.gate_box rfl ?_)); apply Fr.fr_box hF.out rfl; (case hrun => first | (go_simp; done) | (go_simp; rfl)); intro g W hF1; have HC1 := hF1.cells; simp only [Fr.Cells, List.length_cons, List.length_nil, Nat.reduceAdd, and_true] at HC1; clear hF HC; have HC := HC1; have hF := Aside0.mk hF1; clear hF1 HC1))
            (with_reducible refine (tick_Right.calls b _ _ (tick_is b)).mono ?_); rintro e W ⟨rfl, hb⟩; have hF1 := hF.out.call hb.below; clear hb; have HC1 := hF1.cells; simp only [Fr.Cells, List.length_cons, List.length_nil, Nat.reduceAdd, and_true] at HC1; clear hF HC; have HC := HC1; have hF := Aside0.mk hF1; clear hF1 HC1
            simp only [H2.out]
            go_wp2_with (first | ((with_reducible refine gate_store rfl ?_); apply Fr.fr_store hF.out rfl rfl rfl; (case hp => rfl); (case hx => first | (go_simp; rfl) | rfl); (case hu => (simp only [Value.cells]; rfl)); (case hs => (repeat (first | exact Fr.Spot.here _ _ | apply Fr.Spot.there))); (case ht => kernel_rfl); (case h1 => simp [Value.oneCell']); (case hfit => simp); intro W hF1; simp only [Fr.patch, List.take_zero, List.nil_append, List.drop, List.append_nil, List.take, List.cons_append, List.length_cons, List.length_nil, Nat.reduceAdd] at hF1; have HC1 := hF1.cells; simp only [Fr.Cells, List.length_cons, List.length_nil, Nat.reduceAdd, and_true] at HC1; clear hF HC; have HC := HC1; have hF := Aside0.mk hF1; clear hF1 HC1) | ((first | (with_reducible refine Fr.gate_alloc rfl ?_) | (with_reducible refine Fr.gate_box rfl ?_)); apply Fr.fr_box hF.out rfl; (case hrun => first | (go_simp; done) | (go_simp; rfl)); intro g W hF1; have HC1 := hF1.cells; simp only [Fr.Cells, List.length_cons, List.length_nil, Nat.reduceAdd, and_true] at HC1; clear hF HC; have HC := HC1; have hF := Aside0.mk hF1; clear hF1 HC1))
            go_ret
            exact ⟨by rw [HV.out]; rfl, hF.out.below⟩
        · have HV := Aside0.mk (show hushB ⟨a, b, ms⟩ = false by unfold hushB; simp [h4])
          have h4i : (ms.length : Int) < 1 := by omega
          clear h1 h2
          go_enter Try.func128, Try.ntmps128
          go_wp2_with (first | ((with_reducible refine gate_store rfl ?_); apply Fr.fr_store hF.out rfl rfl rfl; (case hp => rfl); (case hx => first | (go_simp; rfl) | rfl); (case hu => (simp only [Value.cells]; rfl)); (case hs => (repeat (first | exact Fr.Spot.here _ _ | apply Fr.Spot.there))); (case ht => kernel_rfl); (case h1 => simp [Value.oneCell']); (case hfit => simp); intro W hF1; simp only [Fr.patch, List.take_zero, List.nil_append, List.drop, List.append_nil, List.take, List.cons_append, List.length_cons, List.length_nil, Nat.reduceAdd] at hF1; have HC1 := hF1.cells; simp only [Fr.Cells, List.length_cons, List.length_nil, Nat.reduceAdd, and_true] at HC1; clear hF HC; have HC := HC1; have hF := Aside0.mk hF1; clear hF1 HC1) | ((first | (with_reducible refine Fr.gate_alloc rfl ?_) | (with_reducible refine Fr.gate_box rfl ?_)); apply Fr.fr_box hF.out rfl; (case hrun => first | (go_simp; done) | (go_simp; rfl)); intro g W hF1; have HC1 := hF1.cells; simp only [Fr.Cells, List.length_cons, List.length_nil, Nat.reduceAdd, and_true] at HC1; clear hF HC; have HC := HC1; have hF := Aside0.mk hF1; clear hF1 HC1))
          (with_reducible refine (tick_Right.calls a _ _ (tick_is a)).mono ?_); rintro e W ⟨rfl, hb⟩; have hF1 := hF.out.call hb.below; clear hb; have HC1 := hF1.cells; simp only [Fr.Cells, List.length_cons, List.length_nil, Nat.reduceAdd, and_true] at HC1; clear hF HC; have HC := HC1; have hF := Aside0.mk hF1; clear hF1 HC1
          simp only [H1.out]
          go_wp2_with (first | ((with_reducible refine gate_store rfl ?_); apply Fr.fr_store hF.out rfl rfl rfl; (case hp => rfl); (case hx => first | (go_simp; rfl) | rfl); (case hu => (simp only [Value.cells]; rfl)); (case hs => (repeat (first | exact Fr.Spot.here _ _ | apply Fr.Spot.there))); (case ht => kernel_rfl); (case h1 => simp [Value.oneCell']); (case hfit => simp); intro W hF1; simp only [Fr.patch, List.take_zero, List.nil_append, List.drop, List.append_nil, List.take, List.cons_append, List.length_cons, List.length_nil, Nat.reduceAdd] at hF1; have HC1 := hF1.cells; simp only [Fr.Cells, List.length_cons, List.length_nil, Nat.reduceAdd, and_true] at HC1; clear hF HC; have HC := HC1; have hF := Aside0.mk hF1; clear hF1 HC1) | ((first | (with_reducible refine Fr.gate_alloc rfl ?_) | (with_reducible refine Fr.gate_box rfl ?_)); apply Fr.fr_box hF.out rfl; (case hrun => first | (go_simp; done) | (go_simp; rfl)); intro g W hF1; have HC1 := hF1.cells; simp only [Fr.Cells, List.length_cons, List.length_nil, Nat.reduceAdd, and_true] at HC1; clear hF HC; have HC := HC1; have hF := Aside0.mk hF1; clear hF1 HC1))
          (with_reducible refine (tick_Right.calls b _ _ (tick_is b)).mono ?_); rintro e W ⟨rfl, hb⟩; have hF1 := hF.out.call hb.below; clear hb; have HC1 := hF1.cells; simp only [Fr.Cells, List.length_cons, List.length_nil, Nat.reduceAdd, and_true] at HC1; clear hF HC; have HC := HC1; have hF := Aside0.mk hF1; clear hF1 HC1
          simp only [H2.out]
          go_wp2_with (first | ((with_reducible refine gate_store rfl ?_); apply Fr.fr_store hF.out rfl rfl rfl; (case hp => rfl); (case hx => first | (go_simp; rfl) | rfl); (case hu => (simp only [Value.cells]; rfl)); (case hs => (repeat (first | exact Fr.Spot.here _ _ | apply Fr.Spot.there))); (case ht => kernel_rfl); (case h1 => simp [Value.oneCell']); (case hfit => simp); intro W hF1; simp only [Fr.patch, List.take_zero, List.nil_append, List.drop, List.append_nil, List.take, List.cons_append, List.length_cons, List.length_nil, Nat.reduceAdd] at hF1; have HC1 := hF1.cells; simp only [Fr.Cells, List.length_cons, List.length_nil, Nat.reduceAdd, and_true] at HC1; clear hF HC; have HC := HC1; have hF := Aside0.mk hF1; clear hF1 HC1) | ((first | (with_reducible refine Fr.gate_alloc rfl ?_) | (with_reducible refine Fr.gate_box rfl ?_)); apply Fr.fr_box hF.out rfl; (case hrun => first | (go_simp; done) | (go_simp; rfl)); intro g W hF1; have HC1 := hF1.cells; simp only [Fr.Cells, List.length_cons, List.length_nil, Nat.reduceAdd, and_true] at HC1; clear hF HC; have HC := HC1; have hF := Aside0.mk hF1; clear hF1 HC1))
          go_ret
          exact ⟨by rw [HV.out]; rfl, hF.out.below⟩
      · have HV := Aside0.mk (show hushB ⟨a, b, ms⟩ = false by unfold hushB; simp [h3])
        have h3i : b ≤ a := by omega
        clear h1 h2 h3
        go_enter Try.func128, Try.ntmps128
        go_wp2_with (first | ((with_reducible refine gate_store rfl ?_); apply Fr.fr_store hF.out rfl rfl rfl; (case hp => rfl); (case hx => first | (go_simp; rfl) | rfl); (case hu => (simp only [Value.cells]; rfl)); (case hs => (repeat (first | exact Fr.Spot.here _ _ | apply Fr.Spot.there))); (case ht => kernel_rfl); (case h1 => simp [Value.oneCell']); (case hfit => simp); intro W hF1; simp only [Fr.patch, List.take_zero, List.nil_append, List.drop, List.append_nil, List.take, List.cons_append, List.length_cons, List.length_nil, Nat.reduceAdd] at hF1; have HC1 := hF1.cells; simp only [Fr.Cells, List.length_cons, List.length_nil, Nat.reduceAdd, and_true] at HC1; clear hF HC; have HC := HC1; have hF := Aside0.mk hF1; clear hF1 HC1) | ((first | (with_reducible refine Fr.gate_alloc rfl ?_) | (with_reducible refine Fr.gate_box rfl ?_)); apply Fr.fr_box hF.out rfl; (case hrun => first | (go_simp; done) | (go_simp; rfl)); intro g W hF1; have HC1 := hF1.cells; simp only [Fr.Cells, List.length_cons, List.length_nil, Nat.reduceAdd, and_true] at HC1; clear hF HC; have HC := HC1; have hF := Aside0.mk hF1; clear hF1 HC1))
        (with_reducible refine (tick_Right.calls a _ _ (tick_is a)).mono ?_); rintro e W ⟨rfl, hb⟩; have hF1 := hF.out.call hb.below; clear hb; have HC1 := hF1.cells; simp only [Fr.Cells, List.length_cons, List.length_nil, Nat.reduceAdd, and_true] at HC1; clear hF HC; have HC := HC1; have hF := Aside0.mk hF1; clear hF1 HC1
        simp only [H1.out]
        go_wp2_with (first | ((with_reducible refine gate_store rfl ?_); apply Fr.fr_store hF.out rfl rfl rfl; (case hp => rfl); (case hx => first | (go_simp; rfl) | rfl); (case hu => (simp only [Value.cells]; rfl)); (case hs => (repeat (first | exact Fr.Spot.here _ _ | apply Fr.Spot.there))); (case ht => kernel_rfl); (case h1 => simp [Value.oneCell']); (case hfit => simp); intro W hF1; simp only [Fr.patch, List.take_zero, List.nil_append, List.drop, List.append_nil, List.take, List.cons_append, List.length_cons, List.length_nil, Nat.reduceAdd] at hF1; have HC1 := hF1.cells; simp only [Fr.Cells, List.length_cons, List.length_nil, Nat.reduceAdd, and_true] at HC1; clear hF HC; have HC := HC1; have hF := Aside0.mk hF1; clear hF1 HC1) | ((first | (with_reducible refine Fr.gate_alloc rfl ?_) | (with_reducible refine Fr.gate_box rfl ?_)); apply Fr.fr_box hF.out rfl; (case hrun => first | (go_simp; done) | (go_simp; rfl)); intro g W hF1; have HC1 := hF1.cells; simp only [Fr.Cells, List.length_cons, List.length_nil, Nat.reduceAdd, and_true] at HC1; clear hF HC; have HC := HC1; have hF := Aside0.mk hF1; clear hF1 HC1))
        (with_reducible refine (tick_Right.calls b _ _ (tick_is b)).mono ?_); rintro e W ⟨rfl, hb⟩; have hF1 := hF.out.call hb.below; clear hb; have HC1 := hF1.cells; simp only [Fr.Cells, List.length_cons, List.length_nil, Nat.reduceAdd, and_true] at HC1; clear hF HC; have HC := HC1; have hF := Aside0.mk hF1; clear hF1 HC1
        simp only [H2.out]
        go_wp2_with (first | ((with_reducible refine gate_store rfl ?_); apply Fr.fr_store hF.out rfl rfl rfl; (case hp => rfl); (case hx => first | (go_simp; rfl) | rfl); (case hu => (simp only [Value.cells]; rfl)); (case hs => (repeat (first | exact Fr.Spot.here _ _ | apply Fr.Spot.there))); (case ht => kernel_rfl); (case h1 => simp [Value.oneCell']); (case hfit => simp); intro W hF1; simp only [Fr.patch, List.take_zero, List.nil_append, List.drop, List.append_nil, List.take, List.cons_append, List.length_cons, List.length_nil, Nat.reduceAdd] at hF1; have HC1 := hF1.cells; simp only [Fr.Cells, List.length_cons, List.length_nil, Nat.reduceAdd, and_true] at HC1; clear hF HC; have HC := HC1; have hF := Aside0.mk hF1; clear hF1 HC1) | ((first | (with_reducible refine Fr.gate_alloc rfl ?_) | (with_reducible refine Fr.gate_box rfl ?_)); apply Fr.fr_box hF.out rfl; (case hrun => first | (go_simp; done) | (go_simp; rfl)); intro g W hF1; have HC1 := hF1.cells; simp only [Fr.Cells, List.length_cons, List.length_nil, Nat.reduceAdd, and_true] at HC1; clear hF HC; have HC := HC1; have hF := Aside0.mk hF1; clear hF1 HC1))
        go_ret
        exact ⟨by rw [HV.out]; rfl, hF.out.below⟩
set_option maxHeartbeats 4000000 in
theorem wireRight_calls (a b : Int) (A : Option Addr) (c : Nat) (ms : List S88) (w : World) (hr : Kd.C k88 w A ms.length ms) : Calls Try.prog 91 #[.agg #[.int .i64 2, .slice none 0 0, .int .i64 a, .int .i64 b, .slice A ms.length c]] w fun e w' => e = .returned (.bool (hushB ⟨a, b, ms⟩)) ∧ Below w.heap.size w w' := by
  have HR := Aside0.mk hr
  have hll : ms.length ≤ 9223372036854775807 := hr.2.1
  clear hr
  have hF := Aside0.mk (Fr.Frame.start w)
  have HC : True := trivial
  go_enter Try.func91, Try.ntmps91
  go_wp2_with (first | ((with_reducible refine gate_store rfl ?_); apply Fr.fr_store hF.out rfl rfl rfl; (case hp => rfl); (case hx => first | (go_simp; rfl) | rfl); (case hu => (simp only [Value.cells]; rfl)); (case hs => (repeat (first | exact Fr.Spot.here _ _ | apply Fr.Spot.there))); (case ht => kernel_rfl); (case h1 => simp [Value.oneCell']); (case hfit => simp); intro W hF1; simp only [Fr.patch, List.take_zero, List.nil_append, List.drop, List.append_nil, List.take, List.cons_append, List.length_cons, List.length_nil, Nat.reduceAdd] at hF1; have HC1 := hF1.cells; simp only [Fr.Cells, List.length_cons, List.length_nil, Nat.reduceAdd, and_true] at HC1; clear hF HC; have HC := HC1; have hF := Aside0.mk hF1; clear hF1 HC1) | ((first | (with_reducible refine Fr.gate_alloc rfl ?_) | (with_reducible refine Fr.gate_box rfl ?_)); apply Fr.fr_box hF.out rfl; (case hrun => first | (go_simp; done) | (go_simp; rfl)); intro g W hF1; have HC1 := hF1.cells; simp only [Fr.Cells, List.length_cons, List.length_nil, Nat.reduceAdd, and_true] at HC1; clear hF HC; have HC := HC1; have hF := Aside0.mk hF1; clear hF1 HC1))
  (with_reducible refine (wisHush_calls a b A c ms _ (Kd.C_below HR.out hF.out.below)).mono ?_); rintro e W ⟨rfl, hb⟩; have hF1 := hF.out.call hb; clear hb; have HC1 := hF1.cells; simp only [Fr.Cells, List.length_cons, List.length_nil, Nat.reduceAdd, and_true] at HC1; clear hF HC; have HC := HC1; have hF := Aside0.mk hF1; clear hF1 HC1
  go_wp2_with (first | ((with_reducible refine gate_store rfl ?_); apply Fr.fr_store hF.out rfl rfl rfl; (case hp => rfl); (case hx => first | (go_simp; rfl) | rfl); (case hu => (simp only [Value.cells]; rfl)); (case hs => (repeat (first | exact Fr.Spot.here _ _ | apply Fr.Spot.there))); (case ht => kernel_rfl); (case h1 => simp [Value.oneCell']); (case hfit => simp); intro W hF1; simp only [Fr.patch, List.take_zero, List.nil_append, List.drop, List.append_nil, List.take, List.cons_append, List.length_cons, List.length_nil, Nat.reduceAdd] at hF1; have HC1 := hF1.cells; simp only [Fr.Cells, List.length_cons, List.length_nil, Nat.reduceAdd, and_true] at HC1; clear hF HC; have HC := HC1; have hF := Aside0.mk hF1; clear hF1 HC1) | ((first | (with_reducible refine Fr.gate_alloc rfl ?_) | (with_reducible refine Fr.gate_box rfl ?_)); apply Fr.fr_box hF.out rfl; (case hrun => first | (go_simp; done) | (go_simp; rfl)); intro g W hF1; have HC1 := hF1.cells; simp only [Fr.Cells, List.length_cons, List.length_nil, Nat.reduceAdd, and_true] at HC1; clear hF HC; have HC := HC1; have hF := Aside0.mk hF1; clear hF1 HC1))
  go_ret
  exact ⟨rfl, hF.out.below⟩
set_option maxHeartbeats 4000000 in
theorem isHush_calls (h : S25) (A : Option Addr) (c : Nat) (w : World) (hr : Kd.C k88 w A h.f2.length h.f2) : Calls Try.prog 55 #[.agg #[.int .i64 h.f0, .int .i64 h.f1, .slice A h.f2.length c]] w fun e w' => e = .returned (.bool (hushB h)) ∧ Below w.heap.size w w' := by
  have HR := Aside0.mk hr
  have hll : h.f2.length ≤ 9223372036854775807 := hr.2.1
  clear hr
  have hF := Aside0.mk (Fr.Frame.start w)
  have HC : True := trivial
  go_enter Try.func55, Try.ntmps55
  go_wp2_with (first | ((with_reducible refine gate_store rfl ?_); apply Fr.fr_store hF.out rfl rfl rfl; (case hp => rfl); (case hx => first | (go_simp; rfl) | rfl); (case hu => (simp only [Value.cells]; rfl)); (case hs => (repeat (first | exact Fr.Spot.here _ _ | apply Fr.Spot.there))); (case ht => kernel_rfl); (case h1 => simp [Value.oneCell']); (case hfit => simp); intro W hF1; simp only [Fr.patch, List.take_zero, List.nil_append, List.drop, List.append_nil, List.take, List.cons_append, List.length_cons, List.length_nil, Nat.reduceAdd] at hF1; have HC1 := hF1.cells; simp only [Fr.Cells, List.length_cons, List.length_nil, Nat.reduceAdd, and_true] at HC1; clear hF HC; have HC := HC1; have hF := Aside0.mk hF1; clear hF1 HC1) | ((first | (with_reducible refine Fr.gate_alloc rfl ?_) | (with_reducible refine Fr.gate_box rfl ?_)); apply Fr.fr_box hF.out rfl; (case hrun => first | (go_simp; done) | (go_simp; rfl)); intro g W hF1; have HC1 := hF1.cells; simp only [Fr.Cells, List.length_cons, List.length_nil, Nat.reduceAdd, and_true] at HC1; clear hF HC; have HC := HC1; have hF := Aside0.mk hF1; clear hF1 HC1))
  (with_reducible refine (wireRight_calls h.f0 h.f1 A c h.f2 _ (Kd.C_below HR.out hF.out.below)).mono ?_); rintro e W ⟨rfl, hb⟩; have hF1 := hF.out.call hb; clear hb; have HC1 := hF1.cells; simp only [Fr.Cells, List.length_cons, List.length_nil, Nat.reduceAdd, and_true] at HC1; clear hF HC; have HC := HC1; have hF := Aside0.mk hF1; clear hF1 HC1
  go_wp2_with (first | ((with_reducible refine gate_store rfl ?_); apply Fr.fr_store hF.out rfl rfl rfl; (case hp => rfl); (case hx => first | (go_simp; rfl) | rfl); (case hu => (simp only [Value.cells]; rfl)); (case hs => (repeat (first | exact Fr.Spot.here _ _ | apply Fr.Spot.there))); (case ht => kernel_rfl); (case h1 => simp [Value.oneCell']); (case hfit => simp); intro W hF1; simp only [Fr.patch, List.take_zero, List.nil_append, List.drop, List.append_nil, List.take, List.cons_append, List.length_cons, List.length_nil, Nat.reduceAdd] at hF1; have HC1 := hF1.cells; simp only [Fr.Cells, List.length_cons, List.length_nil, Nat.reduceAdd, and_true] at HC1; clear hF HC; have HC := HC1; have hF := Aside0.mk hF1; clear hF1 HC1) | ((first | (with_reducible refine Fr.gate_alloc rfl ?_) | (with_reducible refine Fr.gate_box rfl ?_)); apply Fr.fr_box hF.out rfl; (case hrun => first | (go_simp; done) | (go_simp; rfl)); intro g W hF1; have HC1 := hF1.cells; simp only [Fr.Cells, List.length_cons, List.length_nil, Nat.reduceAdd, and_true] at HC1; clear hF HC; have HC := HC1; have hF := Aside0.mk hF1; clear hF1 HC1))
  go_ret
  exact ⟨rfl, hF.out.below⟩
theorem isHush_pred (w : World) : Pred25 (fun _ => True) 55 #[] hushB w := fun x A c W _ _ _ hr => isHush_calls x A c W hr
theorem E55 : ∀ args w, (callFunc 55 args).run Try.prog w = .ok (.enter 55 args) w := enters_of Try.func55 (by kernel_rfl) rfl
def hushesB (l : List S25) : Bool := decide (l.length ≤ 8) && l.all hushB
set_option maxHeartbeats 4000000 in
theorem hushRight_calls (A : Option Addr) (c : Nat) (l : List S25) (w : World) (hr : Kd.C k25 w A l.length l) : Calls Try.prog 20 #[.slice A l.length c] w fun e w' => e = .returned (.bool (hushesB l)) ∧ Below w.heap.size w w' := by
  have HR := Aside0.mk hr
  have hll : l.length ≤ 9223372036854775807 := hr.2.1
  clear hr
  have hF := Aside0.mk (Fr.Frame.start w)
  have HC : True := trivial
  by_cases h : l.length ≤ 8
  · have hi : (l.length : Int) ≤ 8 := by omega
    have HV := Aside0.mk (show hushesB l = l.all hushB by unfold hushesB; rw [decide_eq_true h]; rfl)
    go_enter Try.func20, Try.ntmps20
    go_wp2_with (first | ((with_reducible refine gate_store rfl ?_); apply Fr.fr_store hF.out rfl rfl rfl; (case hp => rfl); (case hx => first | (go_simp; rfl) | rfl); (case hu => (simp only [Value.cells]; rfl)); (case hs => (repeat (first | exact Fr.Spot.here _ _ | apply Fr.Spot.there))); (case ht => kernel_rfl); (case h1 => simp [Value.oneCell']); (case hfit => simp); intro W hF1; simp only [Fr.patch, List.take_zero, List.nil_append, List.drop, List.append_nil, List.take, List.cons_append, List.length_cons, List.length_nil, Nat.reduceAdd] at hF1; have HC1 := hF1.cells; simp only [Fr.Cells, List.length_cons, List.length_nil, Nat.reduceAdd, and_true] at HC1; clear hF HC; have HC := HC1; have hF := Aside0.mk hF1; clear hF1 HC1) | ((first | (with_reducible refine Fr.gate_alloc rfl ?_) | (with_reducible refine Fr.gate_box rfl ?_)); apply Fr.fr_box hF.out rfl; (case hrun => first | (go_simp; done) | (go_simp; rfl)); intro g W hF1; have HC1 := hF1.cells; simp only [Fr.Cells, List.length_cons, List.length_nil, Nat.reduceAdd, and_true] at HC1; clear hF HC; have HC := HC1; have hF := Aside0.mk hF1; clear hF1 HC1))
    (with_reducible refine (all_25 (fun _ => True) 55 #[] _ E55 A c l _ (Kd.C_below HR.out hF.out.below) (fun _ _ => trivial) (isHush_pred _)).mono ?_); rintro e W ⟨rfl, hb⟩; have hF1 := hF.out.call hb; clear hb; have HC1 := hF1.cells; simp only [Fr.Cells, List.length_cons, List.length_nil, Nat.reduceAdd, and_true] at HC1; clear hF HC; have HC := HC1; have hF := Aside0.mk hF1; clear hF1 HC1
    go_wp2_with (first | ((with_reducible refine gate_store rfl ?_); apply Fr.fr_store hF.out rfl rfl rfl; (case hp => rfl); (case hx => first | (go_simp; rfl) | rfl); (case hu => (simp only [Value.cells]; rfl)); (case hs => (repeat (first | exact Fr.Spot.here _ _ | apply Fr.Spot.there))); (case ht => kernel_rfl); (case h1 => simp [Value.oneCell']); (case hfit => simp); intro W hF1; simp only [Fr.patch, List.take_zero, List.nil_append, List.drop, List.append_nil, List.take, List.cons_append, List.length_cons, List.length_nil, Nat.reduceAdd] at hF1; have HC1 := hF1.cells; simp only [Fr.Cells, List.length_cons, List.length_nil, Nat.reduceAdd, and_true] at HC1; clear hF HC; have HC := HC1; have hF := Aside0.mk hF1; clear hF1 HC1) | ((first | (with_reducible refine Fr.gate_alloc rfl ?_) | (with_reducible refine Fr.gate_box rfl ?_)); apply Fr.fr_box hF.out rfl; (case hrun => first | (go_simp; done) | (go_simp; rfl)); intro g W hF1; have HC1 := hF1.cells; simp only [Fr.Cells, List.length_cons, List.length_nil, Nat.reduceAdd, and_true] at HC1; clear hF HC; have HC := HC1; have hF := Aside0.mk hF1; clear hF1 HC1))
    go_ret
    exact ⟨by rw [HV.out]; rfl, hF.out.below⟩
  · have hi : 8 < (l.length : Int) := by omega
    have HV := Aside0.mk (show hushesB l = false by unfold hushesB; rw [decide_eq_false h]; rfl)
    go_enter Try.func20, Try.ntmps20
    go_wp2_with (first | ((with_reducible refine gate_store rfl ?_); apply Fr.fr_store hF.out rfl rfl rfl; (case hp => rfl); (case hx => first | (go_simp; rfl) | rfl); (case hu => (simp only [Value.cells]; rfl)); (case hs => (repeat (first | exact Fr.Spot.here _ _ | apply Fr.Spot.there))); (case ht => kernel_rfl); (case h1 => simp [Value.oneCell']); (case hfit => simp); intro W hF1; simp only [Fr.patch, List.take_zero, List.nil_append, List.drop, List.append_nil, List.take, List.cons_append, List.length_cons, List.length_nil, Nat.reduceAdd] at hF1; have HC1 := hF1.cells; simp only [Fr.Cells, List.length_cons, List.length_nil, Nat.reduceAdd, and_true] at HC1; clear hF HC; have HC := HC1; have hF := Aside0.mk hF1; clear hF1 HC1) | ((first | (with_reducible refine Fr.gate_alloc rfl ?_) | (with_reducible refine Fr.gate_box rfl ?_)); apply Fr.fr_box hF.out rfl; (case hrun => first | (go_simp; done) | (go_simp; rfl)); intro g W hF1; have HC1 := hF1.cells; simp only [Fr.Cells, List.length_cons, List.length_nil, Nat.reduceAdd, and_true] at HC1; clear hF HC; have HC := HC1; have hF := Aside0.mk hF1; clear hF1 HC1))
    go_ret
    exact ⟨by rw [HV.out]; rfl, hF.out.below⟩
section
variable {P : Program} {ops : Array Oper} {rest : List Oper} {o : Oper} {a : Act} {Q : Exit → Act → World → Prop} {w0 W : World} {bs : List Fr.Blk} {rs : List Fr.Row}
end
theorem C_one {α : Type} {d : Kd α} {w0 w : World} {bs : List Fr.Blk} {rs : List Fr.Row} {g t : Nat} {cs : List Value} {x : α} (hF : Fr.Frame w0 w ((g, cs, t) :: bs) rs) (hK : d.K w x cs) : Kd.C d w (some ⟨g, 0, none⟩) [x].length [x] := by
  have hb := (hF.blk (g, cs, t) List.mem_cons_self).2
  refine ⟨rfl, by simp, fun _ => ⟨_, rfl, fun j p hj => ?_⟩⟩
  cases j with
  | zero =>
    obtain rfl : x = p := by simpa using hj
    refine ⟨cs, d.K_len hK, hK, fun i u hu => ?_⟩
    rw [Nat.zero_mul, Nat.zero_add]
    have := blk_cell hb i
    simp only at this
    rw [show (⟨g, 0, none⟩ : Addr).add i = ⟨g, i, none⟩ by unfold Addr.add; split <;> simp_all, this]
    simpa using hu
  | succ j => simp at hj
theorem cell_al {w : World} {a : Addr} {v : Value} (h : w.cell? a = some v) (o : Obj) : (w.alloc o).cell? a = some v := Go.cell_kept h (World.grownBy_alloc w o none) (fun r e => by cases e)
theorem one_pred (l : List S92) (A : Option Addr) (c : Nat) (B : Nat) (w : World) (h0 : w.cell? ⟨B, 0, none⟩ = some (.slice A l.length c)) (hr : Kd.C k92 w A l.length l) : Pred88 (fun _ => True) 93 #[.pointer (some ⟨B, 0, none⟩)] (fun m => allV [m] l) w := by
  intro x W0 _ hB
  have HR := Aside0.mk (Kd.C_below hr hB)
  have c1 := (hB.cell (World.block_lt_of_cell? w _ h0)).trans h0
  have HW := World.block_lt_of_cell? W0 _ c1
  have HCC := Aside0.mk (fun (W' : World) (hb : Below W0.heap.size W0 W') => (hb.cell (p := ⟨B, 0, none⟩) HW).trans c1)
  clear h0 hB hr c1 HW
  show Calls Try.prog 93 #[.agg #[.int .i64 x.f0, .string x.f1, .string x.f2], .pointer (some ⟨B, 0, none⟩)] W0 _
  have hF := Aside0.mk (Fr.Frame.start W0)
  have HC : True := trivial
  have cB := HCC.out _ (Below.refl _ _)
  have kcB := fun o => cell_al cB o
  go_enter Try.func93, Try.ntmps93
  go_wp2_with (first | ((with_reducible refine gate_store rfl ?_); apply Fr.fr_store hF.out rfl rfl rfl; (case hp => rfl); (case hx => first | (go_simp; rfl) | rfl); (case hu => (simp only [Value.cells]; rfl)); (case hs => (repeat (first | exact Fr.Spot.here _ _ | apply Fr.Spot.there))); (case ht => kernel_rfl); (case h1 => simp [Value.oneCell']); (case hfit => simp); intro W hF1; simp only [Fr.patch, List.take_zero, List.nil_append, List.drop, List.append_nil, List.take, List.cons_append, List.length_cons, List.length_nil, Nat.reduceAdd] at hF1; have HC1 := hF1.cells; simp only [Fr.Cells, List.length_cons, List.length_nil, Nat.reduceAdd, and_true] at HC1; clear hF HC; have HC := HC1; have hF := Aside0.mk hF1; clear hF1 HC1; clear cB kcB; have cB := HCC.out _ hF.out.below; have kcB := fun o => cell_al cB o) | ((first | (with_reducible refine Fr.gate_alloc rfl ?_) | (with_reducible refine Fr.gate_box rfl ?_)); apply Fr.fr_box hF.out rfl; (case hrun => first | (go_simp; done) | (go_simp; rfl)); intro g W hF1; have HC1 := hF1.cells; simp only [Fr.Cells, List.length_cons, List.length_nil, Nat.reduceAdd, and_true] at HC1; clear hF HC; have HC := HC1; have hF := Aside0.mk hF1; clear hF1 HC1; clear cB kcB; have cB := HCC.out _ hF.out.below; have kcB := fun o => cell_al cB o))
  have hF2 := hF.out.alloc [.int .i64 x.f0, .string x.f1, .string x.f2] 88
  have hh := all_calls (some ⟨W.heap.size, 0, none⟩) 1 [x] A c l _ (C_one hF2 (k88_mk _ x)) (Kd.C_below HR.out hF2.below)
  simp only [List.length_cons, List.length_nil, Nat.reduceAdd] at hh
  (with_reducible refine hh.mono ?_)
  clear hh
  rintro e W ⟨rfl, hb⟩
  have hF1 := hF2.call hb
  clear hb hF2
  have HC1 := hF1.cells; simp only [Fr.Cells, List.length_cons, List.length_nil, Nat.reduceAdd, and_true] at HC1; clear hF HC; have HC := HC1; have hF := Aside0.mk hF1; clear hF1 HC1; clear cB kcB; have cB := HCC.out _ hF.out.below; have kcB := fun o => cell_al cB o
  go_wp2_with (first | ((with_reducible refine gate_store rfl ?_); apply Fr.fr_store hF.out rfl rfl rfl; (case hp => rfl); (case hx => first | (go_simp; rfl) | rfl); (case hu => (simp only [Value.cells]; rfl)); (case hs => (repeat (first | exact Fr.Spot.here _ _ | apply Fr.Spot.there))); (case ht => kernel_rfl); (case h1 => simp [Value.oneCell']); (case hfit => simp); intro W hF1; simp only [Fr.patch, List.take_zero, List.nil_append, List.drop, List.append_nil, List.take, List.cons_append, List.length_cons, List.length_nil, Nat.reduceAdd] at hF1; have HC1 := hF1.cells; simp only [Fr.Cells, List.length_cons, List.length_nil, Nat.reduceAdd, and_true] at HC1; clear hF HC; have HC := HC1; have hF := Aside0.mk hF1; clear hF1 HC1; clear cB kcB; have cB := HCC.out _ hF.out.below; have kcB := fun o => cell_al cB o) | ((first | (with_reducible refine Fr.gate_alloc rfl ?_) | (with_reducible refine Fr.gate_box rfl ?_)); apply Fr.fr_box hF.out rfl; (case hrun => first | (go_simp; done) | (go_simp; rfl)); intro g W hF1; have HC1 := hF1.cells; simp only [Fr.Cells, List.length_cons, List.length_nil, Nat.reduceAdd, and_true] at HC1; clear hF HC; have HC := HC1; have hF := Aside0.mk hF1; clear hF1 HC1; clear cB kcB; have cB := HCC.out _ hF.out.below; have kcB := fun o => cell_al cB o))
  go_ret
  exact ⟨rfl, hF.out.below⟩
def hitB (l : List S92) (now : Int) (h : S25) : Bool := decide (h.f0 ≤ now) && (decide (now < h.f1) && h.f2.all fun m => allV [m] l)
def mxI (a b : Int) : Int := if a < b then b else a
def tillG (l : List S92) (now out : Int) (hs : List S25) : Int := hs.foldl (fun o h => if hitB l now h = true then mxI o h.f1 else o) out
theorem tillG_snoc (l : List S92) (now out : Int) (hs : List S25) (k : Nat) (hk : k < hs.length) : tillG l now out (hs.take (k + 1)) = if hitB l now (rd_T25 hs (k : Nat)) = true then mxI (tillG l now out (hs.take k)) (rd_T25 hs (k : Nat)).f1 else tillG l now out (hs.take k) := by
  rw [rd_get25 hs k hk, List.take_succ_eq_append_getElem hk]
  unfold tillG
  rw [List.foldl_append]
  rfl
theorem E93 : ∀ args w, (callFunc 93 args).run Try.prog w = .ok (.enter 93 args) w := enters_of Try.func93 (by kernel_rfl) rfl
set_option maxHeartbeats 4000000 in
set_option maxRecDepth 100000 in
theorem till_calls (A0 : Option Addr) (c0 : Nat) (hs : List S25) (A1 : Option Addr) (c1 : Nat) (l : List S92) (now : Int) (w : World) (hr0 : Kd.C k25 w A0 hs.length hs) (hr1 : Kd.C k92 w A1 l.length l) :
    Calls Try.prog 60 #[.slice A0 hs.length c0, .slice A1 l.length c1, .int .i64 now] w fun e w' => e = .returned (.int .i64 (tillG l now now hs)) ∧ Below w.heap.size w w' := by
  have HR0 := Aside0.mk hr0
  have HR1 := Aside0.mk hr1
  have hmf : ∀ (fn : Fn) (first cap : Array Value) (w : World), (Instr.makeFunc fn first cap).run Try.prog w = .ok (.func fn first cap) w := fun _ _ _ _ => rfl
  have hll : hs.length ≤ 9223372036854775807 := hr0.2.1
  clear hr0 hr1
  have hF := Aside0.mk (Fr.Frame.start w)
  have HC : True := trivial
  go_enter Try.func60, Try.ntmps60
  go_wp2_with (first | ((with_reducible refine gate_store rfl ?_); apply Fr.fr_store hF.out rfl rfl rfl; (case hp => rfl); (case hx => first | (go_simp; rfl) | rfl); (case hu => (simp only [Value.cells]; rfl)); (case hs => (repeat (first | exact Fr.Spot.here _ _ | apply Fr.Spot.there))); (case ht => kernel_rfl); (case h1 => simp [Value.oneCell']); (case hfit => simp); intro W hF1; simp only [Fr.patch, List.take_zero, List.nil_append, List.drop, List.append_nil, List.take, List.cons_append, List.length_cons, List.length_nil, Nat.reduceAdd] at hF1; have HC1 := hF1.cells; simp only [Fr.Cells, List.length_cons, List.length_nil, Nat.reduceAdd, and_true] at HC1; clear hF HC; have HC := HC1; have hF := Aside0.mk hF1; clear hF1 HC1) | ((with_reducible refine gate_dst (N := 4) rfl ?_); apply Fr.fr_box hF.out rfl; (case hrun => first | (go_simp; done) | (go_simp; rfl)); intro gl W hF1; have HC1 := hF1.cells; simp only [Fr.Cells, List.length_cons, List.length_nil, Nat.reduceAdd, and_true] at HC1; clear hF HC; have HC := HC1; have hF := Aside0.mk hF1; clear hF1 HC1) | ((first | (with_reducible refine Fr.gate_alloc rfl ?_) | (with_reducible refine Fr.gate_box rfl ?_)); apply Fr.fr_box hF.out rfl; (case hrun => first | (go_simp; done) | (go_simp; rfl)); intro g W hF1; have HC1 := hF1.cells; simp only [Fr.Cells, List.length_cons, List.length_nil, Nat.reduceAdd, and_true] at HC1; clear hF HC; have HC := HC1; have hF := Aside0.mk hF1; clear hF1 HC1))
  have hFb := hF
  go_loopg [7, 14] hs.length (fun kq v7 v14 w' => ∃ k : Nat, k ≤ hs.length ∧ hs.length - k ≤ kq ∧ v14 = .int .i64 k ∧ v7 = .int .i64 (tillG l now now (hs.take k)) ∧ Aside0 (Fr.Frame w w' [(gl, [.slice A1 l.length c1], 26)] []))
  case atStart => exact ⟨0, Nat.zero_le _, by omega, rfl, rfl, ⟨hFb.out⟩⟩
  case round =>
    clear hF hFb HC
    obtain ⟨k, hk, hg, rfl, rfl, hF⟩ := hrel
    have HC1 := hF.out.cells
    simp only [Fr.Cells, List.length_cons, List.length_nil, Nat.reduceAdd, and_true] at HC1
    have HC := HC1
    clear HC1
    obtain ⟨out, hout⟩ : ∃ o, tillG l now now (hs.take k) = o := ⟨_, rfl⟩
    rw [hout]
    have HO := Aside0.mk hout
    clear hout
    by_cases hlt : k < hs.length
    · have hlti : (k : Int) < (hs.length : Int) := by omega
      obtain ⟨ad, A2, c2, e1, a0, a1, a2, g0, g1⟩ := at_T25 HR0.out (k : Int) (by omega) hlti
      cases e1
      obtain ⟨x, hx⟩ : ∃ x, rd_T25 hs (k : Int) = x := ⟨_, rfl⟩
      rw [hx] at a0 a1 a2 g0 g1
      have HX := Aside0.mk hx
      clear hx
      replace a0 := (hF.out.below.cell (World.block_lt_of_cell? w _ a0)).trans a0
      replace a1 := (hF.out.below.cell (World.block_lt_of_cell? w _ a1)).trans a1
      replace a2 := (hF.out.below.cell (World.block_lt_of_cell? w _ a2)).trans a2
      rw [Int.toNat_natCast] at a0 a1 a2
      have G1 := Aside0.mk g1
      have hxl : x.f2.length ≤ 9223372036854775807 := g1.2.1
      clear g0 g1
      have HS := Aside0.mk (tillG_snoc l now now hs k hlt)
      have HP := Aside0.mk (fun (W : World) (hb : Below w.heap.size w W) h0 => all_88 (fun _ => True) 93 #[.pointer (some ⟨gl, 0, none⟩)] _ E93 A2 c2 x.f2 W (Kd.C_below G1.out hb) (fun _ _ => trivial) (one_pred l A1 c1 gl W h0 (Kd.C_below HR1.out hb)))
      by_cases h1 : x.f0 ≤ now
      · by_cases h2 : now < x.f1
        · cases h3 : x.f2.all fun m => allV [m] l with
          | true =>
            have H3 := Aside0.mk h3
            have HT := Aside0.mk (show hitB l now x = true by unfold hitB; rw [decide_eq_true h1, decide_eq_true h2, h3]; rfl)
            clear h3
            by_cases hm : out < x.f1
            · have HM := Aside0.mk (show mxI out x.f1 = x.f1 by unfold mxI; rw [if_pos hm])
              go_wp2_with (first | (go_at_call 94; (with_reducible refine (HP.out _ hF.out.below (by have := HC.2.1 0 (by decide); simpa using this)).mono ?_); rintro e W ⟨rfl, hb⟩; simp only [H3.out]; have hF1 := hF.out.call hb; clear hb; have HC1 := hF1.cells; simp only [Fr.Cells, List.length_cons, List.length_nil, Nat.reduceAdd, and_true] at HC1; clear hF HC; have HC := HC1; have hF := Aside0.mk hF1; clear hF1 HC1) | ((with_reducible refine gate_store rfl ?_); apply Fr.fr_store hF.out rfl rfl rfl; (case hp => rfl); (case hx => first | (go_simp; rfl) | rfl); (case hu => (simp only [Value.cells]; rfl)); (case hs => (repeat (first | exact Fr.Spot.here _ _ | apply Fr.Spot.there))); (case ht => kernel_rfl); (case h1 => simp [Value.oneCell']); (case hfit => simp); intro W hF1; simp only [Fr.patch, List.take_zero, List.nil_append, List.drop, List.append_nil, List.take, List.cons_append, List.length_cons, List.length_nil, Nat.reduceAdd] at hF1; have HC1 := hF1.cells; simp only [Fr.Cells, List.length_cons, List.length_nil, Nat.reduceAdd, and_true] at HC1; clear hF HC; have HC := HC1; have hF := Aside0.mk hF1; clear hF1 HC1) | ((first | (with_reducible refine Fr.gate_alloc rfl ?_) | (with_reducible refine Fr.gate_box rfl ?_)); apply Fr.fr_box hF.out rfl; (case hrun => first | (go_simp; done) | (go_simp; rfl)); intro g W hF1; have HC1 := hF1.cells; simp only [Fr.Cells, List.length_cons, List.length_nil, Nat.reduceAdd, and_true] at HC1; clear hF HC; have HC := HC1; have hF := Aside0.mk hF1; clear hF1 HC1))
              go_roundg (hs.length - (k + 1))
              case measure => omega
              case rel => exact ⟨k + 1, by omega, by omega, by go_num, by rw [HS.out, HX.out, if_pos HT.out, HO.out, HM.out], ⟨hF.out.drop⟩⟩
            · have HM := Aside0.mk (show mxI out x.f1 = out by unfold mxI; rw [if_neg hm])
              go_wp2_with (first | (go_at_call 94; (with_reducible refine (HP.out _ hF.out.below (by have := HC.2.1 0 (by decide); simpa using this)).mono ?_); rintro e W ⟨rfl, hb⟩; simp only [H3.out]; have hF1 := hF.out.call hb; clear hb; have HC1 := hF1.cells; simp only [Fr.Cells, List.length_cons, List.length_nil, Nat.reduceAdd, and_true] at HC1; clear hF HC; have HC := HC1; have hF := Aside0.mk hF1; clear hF1 HC1) | ((with_reducible refine gate_store rfl ?_); apply Fr.fr_store hF.out rfl rfl rfl; (case hp => rfl); (case hx => first | (go_simp; rfl) | rfl); (case hu => (simp only [Value.cells]; rfl)); (case hs => (repeat (first | exact Fr.Spot.here _ _ | apply Fr.Spot.there))); (case ht => kernel_rfl); (case h1 => simp [Value.oneCell']); (case hfit => simp); intro W hF1; simp only [Fr.patch, List.take_zero, List.nil_append, List.drop, List.append_nil, List.take, List.cons_append, List.length_cons, List.length_nil, Nat.reduceAdd] at hF1; have HC1 := hF1.cells; simp only [Fr.Cells, List.length_cons, List.length_nil, Nat.reduceAdd, and_true] at HC1; clear hF HC; have HC := HC1; have hF := Aside0.mk hF1; clear hF1 HC1) | ((first | (with_reducible refine Fr.gate_alloc rfl ?_) | (with_reducible refine Fr.gate_box rfl ?_)); apply Fr.fr_box hF.out rfl; (case hrun => first | (go_simp; done) | (go_simp; rfl)); intro g W hF1; have HC1 := hF1.cells; simp only [Fr.Cells, List.length_cons, List.length_nil, Nat.reduceAdd, and_true] at HC1; clear hF HC; have HC := HC1; have hF := Aside0.mk hF1; clear hF1 HC1))
              go_roundg (hs.length - (k + 1))
              case measure => omega
              case rel => exact ⟨k + 1, by omega, by omega, by go_num, by rw [HS.out, HX.out, if_pos HT.out, HO.out, HM.out], ⟨hF.out.drop⟩⟩
          | false =>
            have H3 := Aside0.mk h3
            have HT := Aside0.mk (show ¬ hitB l now x = true by unfold hitB; rw [h3]; simp)
            clear h3
            go_wp2_with (first | (go_at_call 94; (with_reducible refine (HP.out _ hF.out.below (by have := HC.2.1 0 (by decide); simpa using this)).mono ?_); rintro e W ⟨rfl, hb⟩; simp only [H3.out]; have hF1 := hF.out.call hb; clear hb; have HC1 := hF1.cells; simp only [Fr.Cells, List.length_cons, List.length_nil, Nat.reduceAdd, and_true] at HC1; clear hF HC; have HC := HC1; have hF := Aside0.mk hF1; clear hF1 HC1) | ((with_reducible refine gate_store rfl ?_); apply Fr.fr_store hF.out rfl rfl rfl; (case hp => rfl); (case hx => first | (go_simp; rfl) | rfl); (case hu => (simp only [Value.cells]; rfl)); (case hs => (repeat (first | exact Fr.Spot.here _ _ | apply Fr.Spot.there))); (case ht => kernel_rfl); (case h1 => simp [Value.oneCell']); (case hfit => simp); intro W hF1; simp only [Fr.patch, List.take_zero, List.nil_append, List.drop, List.append_nil, List.take, List.cons_append, List.length_cons, List.length_nil, Nat.reduceAdd] at hF1; have HC1 := hF1.cells; simp only [Fr.Cells, List.length_cons, List.length_nil, Nat.reduceAdd, and_true] at HC1; clear hF HC; have HC := HC1; have hF := Aside0.mk hF1; clear hF1 HC1) | ((first | (with_reducible refine Fr.gate_alloc rfl ?_) | (with_reducible refine Fr.gate_box rfl ?_)); apply Fr.fr_box hF.out rfl; (case hrun => first | (go_simp; done) | (go_simp; rfl)); intro g W hF1; have HC1 := hF1.cells; simp only [Fr.Cells, List.length_cons, List.length_nil, Nat.reduceAdd, and_true] at HC1; clear hF HC; have HC := HC1; have hF := Aside0.mk hF1; clear hF1 HC1))
            go_roundg (hs.length - (k + 1))
            case measure => omega
            case rel => exact ⟨k + 1, by omega, by omega, by go_num, by rw [HS.out, HX.out, if_neg HT.out, HO.out], ⟨hF.out.drop⟩⟩
        · have HT := Aside0.mk (show ¬ hitB l now x = true by unfold hitB; rw [decide_eq_false h2]; simp)
          have h2' : x.f1 ≤ now := by omega
          clear h2
          go_wp2_with (first | ((with_reducible refine gate_store rfl ?_); apply Fr.fr_store hF.out rfl rfl rfl; (case hp => rfl); (case hx => first | (go_simp; rfl) | rfl); (case hu => (simp only [Value.cells]; rfl)); (case hs => (repeat (first | exact Fr.Spot.here _ _ | apply Fr.Spot.there))); (case ht => kernel_rfl); (case h1 => simp [Value.oneCell']); (case hfit => simp); intro W hF1; simp only [Fr.patch, List.take_zero, List.nil_append, List.drop, List.append_nil, List.take, List.cons_append, List.length_cons, List.length_nil, Nat.reduceAdd] at hF1; have HC1 := hF1.cells; simp only [Fr.Cells, List.length_cons, List.length_nil, Nat.reduceAdd, and_true] at HC1; clear hF HC; have HC := HC1; have hF := Aside0.mk hF1; clear hF1 HC1) | ((first | (with_reducible refine Fr.gate_alloc rfl ?_) | (with_reducible refine Fr.gate_box rfl ?_)); apply Fr.fr_box hF.out rfl; (case hrun => first | (go_simp; done) | (go_simp; rfl)); intro g W hF1; have HC1 := hF1.cells; simp only [Fr.Cells, List.length_cons, List.length_nil, Nat.reduceAdd, and_true] at HC1; clear hF HC; have HC := HC1; have hF := Aside0.mk hF1; clear hF1 HC1))
          go_roundg (hs.length - (k + 1))
          case measure => omega
          case rel => exact ⟨k + 1, by omega, by omega, by go_num, by rw [HS.out, HX.out, if_neg HT.out, HO.out], ⟨hF.out.drop⟩⟩
      · have HT := Aside0.mk (show ¬ hitB l now x = true by unfold hitB; rw [decide_eq_false h1]; simp)
        have h1' : now < x.f0 := by omega
        clear h1
        go_wp2_with (first | ((with_reducible refine gate_store rfl ?_); apply Fr.fr_store hF.out rfl rfl rfl; (case hp => rfl); (case hx => first | (go_simp; rfl) | rfl); (case hu => (simp only [Value.cells]; rfl)); (case hs => (repeat (first | exact Fr.Spot.here _ _ | apply Fr.Spot.there))); (case ht => kernel_rfl); (case h1 => simp [Value.oneCell']); (case hfit => simp); intro W hF1; simp only [Fr.patch, List.take_zero, List.nil_append, List.drop, List.append_nil, List.take, List.cons_append, List.length_cons, List.length_nil, Nat.reduceAdd] at hF1; have HC1 := hF1.cells; simp only [Fr.Cells, List.length_cons, List.length_nil, Nat.reduceAdd, and_true] at HC1; clear hF HC; have HC := HC1; have hF := Aside0.mk hF1; clear hF1 HC1) | ((first | (with_reducible refine Fr.gate_alloc rfl ?_) | (with_reducible refine Fr.gate_box rfl ?_)); apply Fr.fr_box hF.out rfl; (case hrun => first | (go_simp; done) | (go_simp; rfl)); intro g W hF1; have HC1 := hF1.cells; simp only [Fr.Cells, List.length_cons, List.length_nil, Nat.reduceAdd, and_true] at HC1; clear hF HC; have HC := HC1; have hF := Aside0.mk hF1; clear hF1 HC1))
        go_roundg (hs.length - (k + 1))
        case measure => omega
        case rel => exact ⟨k + 1, by omega, by omega, by go_num, by rw [HS.out, HX.out, if_neg HT.out, HO.out], ⟨hF.out.drop⟩⟩
    · have hks : k = hs.length := by omega
      have HE := Aside0.mk (show tillG l now now hs = out by rw [← HO.out, hks, List.take_length])
      have hlti : ¬ (k : Int) < (hs.length : Int) := by omega
      clear hks
      go_wp2
      go_ret
      exact ⟨by rw [HE.out]; rfl, hF.out.below⟩
def mayB (hs : List S25) (l : List S92) (now : Int) : Bool := hushesB hs && (tmB now && rightB l)
set_option maxHeartbeats 2000000 in
theorem may_calls (A0 : Option Addr) (c0 : Nat) (hs : List S25) (A1 : Option Addr) (c1 : Nat) (l : List S92) (now : Int) (w : World) (hr0 : Kd.C k25 w A0 hs.length hs) (hr1 : Kd.C k92 w A1 l.length l) :
    Calls Try.prog 59 #[.slice A0 hs.length c0, .slice A1 l.length c1, .int .i64 now] w fun e w' => e = .returned (.bool (mayB hs l now)) ∧ Below w.heap.size w w' := by
  have HR0 := Aside0.mk hr0
  have HR1 := Aside0.mk hr1
  clear hr0 hr1
  have hF := Aside0.mk (Fr.Frame.start w)
  have HC : True := trivial
  cases h1 : hushesB hs with
  | false =>
    have H1 := Aside0.mk h1
    have HV := Aside0.mk (show mayB hs l now = false by unfold mayB; rw [h1]; rfl)
    clear h1
    go_enter Try.func59, Try.ntmps59
    go_wp2_with (first | ((with_reducible refine gate_store rfl ?_); apply Fr.fr_store hF.out rfl rfl rfl; (case hp => rfl); (case hx => first | (go_simp; rfl) | rfl); (case hu => (simp only [Value.cells]; rfl)); (case hs => (repeat (first | exact Fr.Spot.here _ _ | apply Fr.Spot.there))); (case ht => kernel_rfl); (case h1 => simp [Value.oneCell']); (case hfit => simp); intro W hF1; simp only [Fr.patch, List.take_zero, List.nil_append, List.drop, List.append_nil, List.take, List.cons_append, List.length_cons, List.length_nil, Nat.reduceAdd] at hF1; have HC1 := hF1.cells; simp only [Fr.Cells, List.length_cons, List.length_nil, Nat.reduceAdd, and_true] at HC1; clear hF HC; have HC := HC1; have hF := Aside0.mk hF1; clear hF1 HC1) | ((first | (with_reducible refine Fr.gate_alloc rfl ?_) | (with_reducible refine Fr.gate_box rfl ?_)); apply Fr.fr_box hF.out rfl; (case hrun => first | (go_simp; done) | (go_simp; rfl)); intro g W hF1; have HC1 := hF1.cells; simp only [Fr.Cells, List.length_cons, List.length_nil, Nat.reduceAdd, and_true] at HC1; clear hF HC; have HC := HC1; have hF := Aside0.mk hF1; clear hF1 HC1))
    (with_reducible refine (hushRight_calls A0 c0 hs _ (Kd.C_below HR0.out hF.out.below)).mono ?_); rintro e W ⟨rfl, hb⟩; have hF1 := hF.out.call hb; clear hb; have HC1 := hF1.cells; simp only [Fr.Cells, List.length_cons, List.length_nil, Nat.reduceAdd, and_true] at HC1; clear hF HC; have HC := HC1; have hF := Aside0.mk hF1; clear hF1 HC1
    simp only [H1.out]
    go_wp2_with (first | ((with_reducible refine gate_store rfl ?_); apply Fr.fr_store hF.out rfl rfl rfl; (case hp => rfl); (case hx => first | (go_simp; rfl) | rfl); (case hu => (simp only [Value.cells]; rfl)); (case hs => (repeat (first | exact Fr.Spot.here _ _ | apply Fr.Spot.there))); (case ht => kernel_rfl); (case h1 => simp [Value.oneCell']); (case hfit => simp); intro W hF1; simp only [Fr.patch, List.take_zero, List.nil_append, List.drop, List.append_nil, List.take, List.cons_append, List.length_cons, List.length_nil, Nat.reduceAdd] at hF1; have HC1 := hF1.cells; simp only [Fr.Cells, List.length_cons, List.length_nil, Nat.reduceAdd, and_true] at HC1; clear hF HC; have HC := HC1; have hF := Aside0.mk hF1; clear hF1 HC1) | ((first | (with_reducible refine Fr.gate_alloc rfl ?_) | (with_reducible refine Fr.gate_box rfl ?_)); apply Fr.fr_box hF.out rfl; (case hrun => first | (go_simp; done) | (go_simp; rfl)); intro g W hF1; have HC1 := hF1.cells; simp only [Fr.Cells, List.length_cons, List.length_nil, Nat.reduceAdd, and_true] at HC1; clear hF HC; have HC := HC1; have hF := Aside0.mk hF1; clear hF1 HC1))
    go_ret
    exact ⟨by rw [HV.out]; rfl, hF.out.below⟩
  | true =>
    have H1 := Aside0.mk h1
    cases h2 : tmB now with
    | false =>
      have H2 := Aside0.mk h2
      have HV := Aside0.mk (show mayB hs l now = false by unfold mayB; rw [h2]; simp)
      clear h1 h2
      go_enter Try.func59, Try.ntmps59
      go_wp2_with (first | ((with_reducible refine gate_store rfl ?_); apply Fr.fr_store hF.out rfl rfl rfl; (case hp => rfl); (case hx => first | (go_simp; rfl) | rfl); (case hu => (simp only [Value.cells]; rfl)); (case hs => (repeat (first | exact Fr.Spot.here _ _ | apply Fr.Spot.there))); (case ht => kernel_rfl); (case h1 => simp [Value.oneCell']); (case hfit => simp); intro W hF1; simp only [Fr.patch, List.take_zero, List.nil_append, List.drop, List.append_nil, List.take, List.cons_append, List.length_cons, List.length_nil, Nat.reduceAdd] at hF1; have HC1 := hF1.cells; simp only [Fr.Cells, List.length_cons, List.length_nil, Nat.reduceAdd, and_true] at HC1; clear hF HC; have HC := HC1; have hF := Aside0.mk hF1; clear hF1 HC1) | ((first | (with_reducible refine Fr.gate_alloc rfl ?_) | (with_reducible refine Fr.gate_box rfl ?_)); apply Fr.fr_box hF.out rfl; (case hrun => first | (go_simp; done) | (go_simp; rfl)); intro g W hF1; have HC1 := hF1.cells; simp only [Fr.Cells, List.length_cons, List.length_nil, Nat.reduceAdd, and_true] at HC1; clear hF HC; have HC := HC1; have hF := Aside0.mk hF1; clear hF1 HC1))
      (with_reducible refine (hushRight_calls A0 c0 hs _ (Kd.C_below HR0.out hF.out.below)).mono ?_); rintro e W ⟨rfl, hb⟩; have hF1 := hF.out.call hb; clear hb; have HC1 := hF1.cells; simp only [Fr.Cells, List.length_cons, List.length_nil, Nat.reduceAdd, and_true] at HC1; clear hF HC; have HC := HC1; have hF := Aside0.mk hF1; clear hF1 HC1
      simp only [H1.out]
      go_wp2_with (first | ((with_reducible refine gate_store rfl ?_); apply Fr.fr_store hF.out rfl rfl rfl; (case hp => rfl); (case hx => first | (go_simp; rfl) | rfl); (case hu => (simp only [Value.cells]; rfl)); (case hs => (repeat (first | exact Fr.Spot.here _ _ | apply Fr.Spot.there))); (case ht => kernel_rfl); (case h1 => simp [Value.oneCell']); (case hfit => simp); intro W hF1; simp only [Fr.patch, List.take_zero, List.nil_append, List.drop, List.append_nil, List.take, List.cons_append, List.length_cons, List.length_nil, Nat.reduceAdd] at hF1; have HC1 := hF1.cells; simp only [Fr.Cells, List.length_cons, List.length_nil, Nat.reduceAdd, and_true] at HC1; clear hF HC; have HC := HC1; have hF := Aside0.mk hF1; clear hF1 HC1) | ((first | (with_reducible refine Fr.gate_alloc rfl ?_) | (with_reducible refine Fr.gate_box rfl ?_)); apply Fr.fr_box hF.out rfl; (case hrun => first | (go_simp; done) | (go_simp; rfl)); intro g W hF1; have HC1 := hF1.cells; simp only [Fr.Cells, List.length_cons, List.length_nil, Nat.reduceAdd, and_true] at HC1; clear hF HC; have HC := HC1; have hF := Aside0.mk hF1; clear hF1 HC1))
      (with_reducible refine (tick_Right.calls now _ _ (tick_is now)).mono ?_); rintro e W ⟨rfl, hb⟩; have hF1 := hF.out.call hb.below; clear hb; have HC1 := hF1.cells; simp only [Fr.Cells, List.length_cons, List.length_nil, Nat.reduceAdd, and_true] at HC1; clear hF HC; have HC := HC1; have hF := Aside0.mk hF1; clear hF1 HC1
      simp only [H2.out]
      go_wp2_with (first | ((with_reducible refine gate_store rfl ?_); apply Fr.fr_store hF.out rfl rfl rfl; (case hp => rfl); (case hx => first | (go_simp; rfl) | rfl); (case hu => (simp only [Value.cells]; rfl)); (case hs => (repeat (first | exact Fr.Spot.here _ _ | apply Fr.Spot.there))); (case ht => kernel_rfl); (case h1 => simp [Value.oneCell']); (case hfit => simp); intro W hF1; simp only [Fr.patch, List.take_zero, List.nil_append, List.drop, List.append_nil, List.take, List.cons_append, List.length_cons, List.length_nil, Nat.reduceAdd] at hF1; have HC1 := hF1.cells; simp only [Fr.Cells, List.length_cons, List.length_nil, Nat.reduceAdd, and_true] at HC1; clear hF HC; have HC := HC1; have hF := Aside0.mk hF1; clear hF1 HC1) | ((first | (with_reducible refine Fr.gate_alloc rfl ?_) | (with_reducible refine Fr.gate_box rfl ?_)); apply Fr.fr_box hF.out rfl; (case hrun => first | (go_simp; done) | (go_simp; rfl)); intro g W hF1; have HC1 := hF1.cells; simp only [Fr.Cells, List.length_cons, List.length_nil, Nat.reduceAdd, and_true] at HC1; clear hF HC; have HC := HC1; have hF := Aside0.mk hF1; clear hF1 HC1))
      go_ret
      exact ⟨by rw [HV.out]; rfl, hF.out.below⟩
    | true =>
      have H2 := Aside0.mk h2
      have HV := Aside0.mk (show mayB hs l now = rightB l by unfold mayB; rw [h1, h2]; simp)
      clear h1 h2
      go_enter Try.func59, Try.ntmps59
      go_wp2_with (first | ((with_reducible refine gate_store rfl ?_); apply Fr.fr_store hF.out rfl rfl rfl; (case hp => rfl); (case hx => first | (go_simp; rfl) | rfl); (case hu => (simp only [Value.cells]; rfl)); (case hs => (repeat (first | exact Fr.Spot.here _ _ | apply Fr.Spot.there))); (case ht => kernel_rfl); (case h1 => simp [Value.oneCell']); (case hfit => simp); intro W hF1; simp only [Fr.patch, List.take_zero, List.nil_append, List.drop, List.append_nil, List.take, List.cons_append, List.length_cons, List.length_nil, Nat.reduceAdd] at hF1; have HC1 := hF1.cells; simp only [Fr.Cells, List.length_cons, List.length_nil, Nat.reduceAdd, and_true] at HC1; clear hF HC; have HC := HC1; have hF := Aside0.mk hF1; clear hF1 HC1) | ((first | (with_reducible refine Fr.gate_alloc rfl ?_) | (with_reducible refine Fr.gate_box rfl ?_)); apply Fr.fr_box hF.out rfl; (case hrun => first | (go_simp; done) | (go_simp; rfl)); intro g W hF1; have HC1 := hF1.cells; simp only [Fr.Cells, List.length_cons, List.length_nil, Nat.reduceAdd, and_true] at HC1; clear hF HC; have HC := HC1; have hF := Aside0.mk hF1; clear hF1 HC1))
      (with_reducible refine (hushRight_calls A0 c0 hs _ (Kd.C_below HR0.out hF.out.below)).mono ?_); rintro e W ⟨rfl, hb⟩; have hF1 := hF.out.call hb; clear hb; have HC1 := hF1.cells; simp only [Fr.Cells, List.length_cons, List.length_nil, Nat.reduceAdd, and_true] at HC1; clear hF HC; have HC := HC1; have hF := Aside0.mk hF1; clear hF1 HC1
      simp only [H1.out]
      go_wp2_with (first | ((with_reducible refine gate_store rfl ?_); apply Fr.fr_store hF.out rfl rfl rfl; (case hp => rfl); (case hx => first | (go_simp; rfl) | rfl); (case hu => (simp only [Value.cells]; rfl)); (case hs => (repeat (first | exact Fr.Spot.here _ _ | apply Fr.Spot.there))); (case ht => kernel_rfl); (case h1 => simp [Value.oneCell']); (case hfit => simp); intro W hF1; simp only [Fr.patch, List.take_zero, List.nil_append, List.drop, List.append_nil, List.take, List.cons_append, List.length_cons, List.length_nil, Nat.reduceAdd] at hF1; have HC1 := hF1.cells; simp only [Fr.Cells, List.length_cons, List.length_nil, Nat.reduceAdd, and_true] at HC1; clear hF HC; have HC := HC1; have hF := Aside0.mk hF1; clear hF1 HC1) | ((first | (with_reducible refine Fr.gate_alloc rfl ?_) | (with_reducible refine Fr.gate_box rfl ?_)); apply Fr.fr_box hF.out rfl; (case hrun => first | (go_simp; done) | (go_simp; rfl)); intro g W hF1; have HC1 := hF1.cells; simp only [Fr.Cells, List.length_cons, List.length_nil, Nat.reduceAdd, and_true] at HC1; clear hF HC; have HC := HC1; have hF := Aside0.mk hF1; clear hF1 HC1))
      (with_reducible refine (tick_Right.calls now _ _ (tick_is now)).mono ?_); rintro e W ⟨rfl, hb⟩; have hF1 := hF.out.call hb.below; clear hb; have HC1 := hF1.cells; simp only [Fr.Cells, List.length_cons, List.length_nil, Nat.reduceAdd, and_true] at HC1; clear hF HC; have HC := HC1; have hF := Aside0.mk hF1; clear hF1 HC1
      simp only [H2.out]
      go_wp2_with (first | ((with_reducible refine gate_store rfl ?_); apply Fr.fr_store hF.out rfl rfl rfl; (case hp => rfl); (case hx => first | (go_simp; rfl) | rfl); (case hu => (simp only [Value.cells]; rfl)); (case hs => (repeat (first | exact Fr.Spot.here _ _ | apply Fr.Spot.there))); (case ht => kernel_rfl); (case h1 => simp [Value.oneCell']); (case hfit => simp); intro W hF1; simp only [Fr.patch, List.take_zero, List.nil_append, List.drop, List.append_nil, List.take, List.cons_append, List.length_cons, List.length_nil, Nat.reduceAdd] at hF1; have HC1 := hF1.cells; simp only [Fr.Cells, List.length_cons, List.length_nil, Nat.reduceAdd, and_true] at HC1; clear hF HC; have HC := HC1; have hF := Aside0.mk hF1; clear hF1 HC1) | ((first | (with_reducible refine Fr.gate_alloc rfl ?_) | (with_reducible refine Fr.gate_box rfl ?_)); apply Fr.fr_box hF.out rfl; (case hrun => first | (go_simp; done) | (go_simp; rfl)); intro g W hF1; have HC1 := hF1.cells; simp only [Fr.Cells, List.length_cons, List.length_nil, Nat.reduceAdd, and_true] at HC1; clear hF HC; have HC := HC1; have hF := Aside0.mk hF1; clear hF1 HC1))
      (with_reducible refine (right_calls A1 c1 l _ (Kd.C_below HR1.out hF.out.below)).mono ?_); rintro e W ⟨rfl, hb⟩; have hF1 := hF.out.call hb; clear hb; have HC1 := hF1.cells; simp only [Fr.Cells, List.length_cons, List.length_nil, Nat.reduceAdd, and_true] at HC1; clear hF HC; have HC := HC1; have hF := Aside0.mk hF1; clear hF1 HC1
      go_wp2_with (first | ((with_reducible refine gate_store rfl ?_); apply Fr.fr_store hF.out rfl rfl rfl; (case hp => rfl); (case hx => first | (go_simp; rfl) | rfl); (case hu => (simp only [Value.cells]; rfl)); (case hs => (repeat (first | exact Fr.Spot.here _ _ | apply Fr.Spot.there))); (case ht => kernel_rfl); (case h1 => simp [Value.oneCell']); (case hfit => simp); intro W hF1; simp only [Fr.patch, List.take_zero, List.nil_append, List.drop, List.append_nil, List.take, List.cons_append, List.length_cons, List.length_nil, Nat.reduceAdd] at hF1; have HC1 := hF1.cells; simp only [Fr.Cells, List.length_cons, List.length_nil, Nat.reduceAdd, and_true] at HC1; clear hF HC; have HC := HC1; have hF := Aside0.mk hF1; clear hF1 HC1) | ((first | (with_reducible refine Fr.gate_alloc rfl ?_) | (with_reducible refine Fr.gate_box rfl ?_)); apply Fr.fr_box hF.out rfl; (case hrun => first | (go_simp; done) | (go_simp; rfl)); intro g W hF1; have HC1 := hF1.cells; simp only [Fr.Cells, List.length_cons, List.length_nil, Nat.reduceAdd, and_true] at HC1; clear hF HC; have HC := HC1; have hF := Aside0.mk hF1; clear hF1 HC1))
      go_ret
      exact ⟨by rw [HV.out]; rfl, hF.out.below⟩
def activeV (hs : List S25) (l : List S92) (now : Int) : Bool := mayB hs l now && decide (tillG l now now hs > now)
def mayE (hs : List S25) (l : List S92) (now : Int) : Int := if mayB hs l now = true then 0 else 1
theorem may_no {hs : List S25} {l : List S92} {now : Int} (h : mayB hs l now = false) : activeV hs l now = false ∧ mayE hs l now = 1 := by
  unfold activeV mayE; rw [h]; exact ⟨rfl, rfl⟩
theorem may_yes {hs : List S25} {l : List S92} {now : Int} (h : mayB hs l now = true) : activeV hs l now = decide (tillG l now now hs > now) ∧ mayE hs l now = 0 := by
  unfold activeV mayE; rw [h]; exact ⟨by rw [Bool.true_and], rfl⟩
set_option maxHeartbeats 2000000 in
theorem active_calls (A0 : Option Addr) (c0 : Nat) (hs : List S25) (A1 : Option Addr) (c1 : Nat) (l : List S92) (now : Int) (w : World) (hr0 : Kd.C k25 w A0 hs.length hs) (hr1 : Kd.C k92 w A1 l.length l) :
    Calls Try.prog 18 #[.slice A0 hs.length c0, .slice A1 l.length c1, .int .i64 now] w fun e w' => e = .returned (.tuple #[.bool (activeV hs l now), .int .i64 (mayE hs l now)]) ∧ Below w.heap.size w w' := by
  have HR0 := Aside0.mk hr0
  have HR1 := Aside0.mk hr1
  clear hr0 hr1
  have hF := Aside0.mk (Fr.Frame.start w)
  have HC : True := trivial
  cases h1 : mayB hs l now with
  | false =>
    have H1 := Aside0.mk h1
    have HV := Aside0.mk (may_no h1)
    clear h1
    go_enter Try.func18, Try.ntmps18
    go_wp2_with (first | ((with_reducible refine gate_store rfl ?_); apply Fr.fr_store hF.out rfl rfl rfl; (case hp => rfl); (case hx => first | (go_simp; rfl) | rfl); (case hu => (simp only [Value.cells]; rfl)); (case hs => (repeat (first | exact Fr.Spot.here _ _ | apply Fr.Spot.there))); (case ht => kernel_rfl); (case h1 => simp [Value.oneCell']); (case hfit => simp); intro W hF1; simp only [Fr.patch, List.take_zero, List.nil_append, List.drop, List.append_nil, List.take, List.cons_append, List.length_cons, List.length_nil, Nat.reduceAdd] at hF1; have HC1 := hF1.cells; simp only [Fr.Cells, List.length_cons, List.length_nil, Nat.reduceAdd, and_true] at HC1; clear hF HC; have HC := HC1; have hF := Aside0.mk hF1; clear hF1 HC1) | ((first | (with_reducible refine Fr.gate_alloc rfl ?_) | (with_reducible refine Fr.gate_box rfl ?_)); apply Fr.fr_box hF.out rfl; (case hrun => first | (go_simp; done) | (go_simp; rfl)); intro g W hF1; have HC1 := hF1.cells; simp only [Fr.Cells, List.length_cons, List.length_nil, Nat.reduceAdd, and_true] at HC1; clear hF HC; have HC := HC1; have hF := Aside0.mk hF1; clear hF1 HC1))
    (with_reducible refine (may_calls A0 c0 hs A1 c1 l now _ (Kd.C_below HR0.out hF.out.below) (Kd.C_below HR1.out hF.out.below)).mono ?_); rintro e W ⟨rfl, hb⟩; have hF1 := hF.out.call hb; clear hb; have HC1 := hF1.cells; simp only [Fr.Cells, List.length_cons, List.length_nil, Nat.reduceAdd, and_true] at HC1; clear hF HC; have HC := HC1; have hF := Aside0.mk hF1; clear hF1 HC1
    simp only [H1.out]
    go_wp2_with (first | ((with_reducible refine gate_store rfl ?_); apply Fr.fr_store hF.out rfl rfl rfl; (case hp => rfl); (case hx => first | (go_simp; rfl) | rfl); (case hu => (simp only [Value.cells]; rfl)); (case hs => (repeat (first | exact Fr.Spot.here _ _ | apply Fr.Spot.there))); (case ht => kernel_rfl); (case h1 => simp [Value.oneCell']); (case hfit => simp); intro W hF1; simp only [Fr.patch, List.take_zero, List.nil_append, List.drop, List.append_nil, List.take, List.cons_append, List.length_cons, List.length_nil, Nat.reduceAdd] at hF1; have HC1 := hF1.cells; simp only [Fr.Cells, List.length_cons, List.length_nil, Nat.reduceAdd, and_true] at HC1; clear hF HC; have HC := HC1; have hF := Aside0.mk hF1; clear hF1 HC1) | ((first | (with_reducible refine Fr.gate_alloc rfl ?_) | (with_reducible refine Fr.gate_box rfl ?_)); apply Fr.fr_box hF.out rfl; (case hrun => first | (go_simp; done) | (go_simp; rfl)); intro g W hF1; have HC1 := hF1.cells; simp only [Fr.Cells, List.length_cons, List.length_nil, Nat.reduceAdd, and_true] at HC1; clear hF HC; have HC := HC1; have hF := Aside0.mk hF1; clear hF1 HC1))
    go_ret2
    exact ⟨by rw [HV.out.1, HV.out.2]; rfl, hF.out.below⟩
  | true =>
    have H1 := Aside0.mk h1
    have HV := Aside0.mk (may_yes h1)
    clear h1
    go_enter Try.func18, Try.ntmps18
    go_wp2_with (first | ((with_reducible refine gate_store rfl ?_); apply Fr.fr_store hF.out rfl rfl rfl; (case hp => rfl); (case hx => first | (go_simp; rfl) | rfl); (case hu => (simp only [Value.cells]; rfl)); (case hs => (repeat (first | exact Fr.Spot.here _ _ | apply Fr.Spot.there))); (case ht => kernel_rfl); (case h1 => simp [Value.oneCell']); (case hfit => simp); intro W hF1; simp only [Fr.patch, List.take_zero, List.nil_append, List.drop, List.append_nil, List.take, List.cons_append, List.length_cons, List.length_nil, Nat.reduceAdd] at hF1; have HC1 := hF1.cells; simp only [Fr.Cells, List.length_cons, List.length_nil, Nat.reduceAdd, and_true] at HC1; clear hF HC; have HC := HC1; have hF := Aside0.mk hF1; clear hF1 HC1) | ((first | (with_reducible refine Fr.gate_alloc rfl ?_) | (with_reducible refine Fr.gate_box rfl ?_)); apply Fr.fr_box hF.out rfl; (case hrun => first | (go_simp; done) | (go_simp; rfl)); intro g W hF1; have HC1 := hF1.cells; simp only [Fr.Cells, List.length_cons, List.length_nil, Nat.reduceAdd, and_true] at HC1; clear hF HC; have HC := HC1; have hF := Aside0.mk hF1; clear hF1 HC1))
    (with_reducible refine (may_calls A0 c0 hs A1 c1 l now _ (Kd.C_below HR0.out hF.out.below) (Kd.C_below HR1.out hF.out.below)).mono ?_); rintro e W ⟨rfl, hb⟩; have hF1 := hF.out.call hb; clear hb; have HC1 := hF1.cells; simp only [Fr.Cells, List.length_cons, List.length_nil, Nat.reduceAdd, and_true] at HC1; clear hF HC; have HC := HC1; have hF := Aside0.mk hF1; clear hF1 HC1
    simp only [H1.out]
    go_wp2_with (first | ((with_reducible refine gate_store rfl ?_); apply Fr.fr_store hF.out rfl rfl rfl; (case hp => rfl); (case hx => first | (go_simp; rfl) | rfl); (case hu => (simp only [Value.cells]; rfl)); (case hs => (repeat (first | exact Fr.Spot.here _ _ | apply Fr.Spot.there))); (case ht => kernel_rfl); (case h1 => simp [Value.oneCell']); (case hfit => simp); intro W hF1; simp only [Fr.patch, List.take_zero, List.nil_append, List.drop, List.append_nil, List.take, List.cons_append, List.length_cons, List.length_nil, Nat.reduceAdd] at hF1; have HC1 := hF1.cells; simp only [Fr.Cells, List.length_cons, List.length_nil, Nat.reduceAdd, and_true] at HC1; clear hF HC; have HC := HC1; have hF := Aside0.mk hF1; clear hF1 HC1) | ((first | (with_reducible refine Fr.gate_alloc rfl ?_) | (with_reducible refine Fr.gate_box rfl ?_)); apply Fr.fr_box hF.out rfl; (case hrun => first | (go_simp; done) | (go_simp; rfl)); intro g W hF1; have HC1 := hF1.cells; simp only [Fr.Cells, List.length_cons, List.length_nil, Nat.reduceAdd, and_true] at HC1; clear hF HC; have HC := HC1; have hF := Aside0.mk hF1; clear hF1 HC1))
    (with_reducible refine (till_calls A0 c0 hs A1 c1 l now _ (Kd.C_below HR0.out hF.out.below) (Kd.C_below HR1.out hF.out.below)).mono ?_); rintro e W ⟨rfl, hb⟩; have hF1 := hF.out.call hb; clear hb; have HC1 := hF1.cells; simp only [Fr.Cells, List.length_cons, List.length_nil, Nat.reduceAdd, and_true] at HC1; clear hF HC; have HC := HC1; have hF := Aside0.mk hF1; clear hF1 HC1
    go_wp2_with (first | ((with_reducible refine gate_store rfl ?_); apply Fr.fr_store hF.out rfl rfl rfl; (case hp => rfl); (case hx => first | (go_simp; rfl) | rfl); (case hu => (simp only [Value.cells]; rfl)); (case hs => (repeat (first | exact Fr.Spot.here _ _ | apply Fr.Spot.there))); (case ht => kernel_rfl); (case h1 => simp [Value.oneCell']); (case hfit => simp); intro W hF1; simp only [Fr.patch, List.take_zero, List.nil_append, List.drop, List.append_nil, List.take, List.cons_append, List.length_cons, List.length_nil, Nat.reduceAdd] at hF1; have HC1 := hF1.cells; simp only [Fr.Cells, List.length_cons, List.length_nil, Nat.reduceAdd, and_true] at HC1; clear hF HC; have HC := HC1; have hF := Aside0.mk hF1; clear hF1 HC1) | ((first | (with_reducible refine Fr.gate_alloc rfl ?_) | (with_reducible refine Fr.gate_box rfl ?_)); apply Fr.fr_box hF.out rfl; (case hrun => first | (go_simp; done) | (go_simp; rfl)); intro g W hF1; have HC1 := hF1.cells; simp only [Fr.Cells, List.length_cons, List.length_nil, Nat.reduceAdd, and_true] at HC1; clear hF HC; have HC := HC1; have hF := Aside0.mk hF1; clear hF1 HC1))
    go_ret2
    exact ⟨by rw [HV.out.1, HV.out.2]; rfl, hF.out.below⟩
def cntH (hs : List S25) (now : Int) : Nat := hs.countP fun h => decide (now < h.f1)
theorem tillG_ge (l : List S92) (now : Int) : ∀ (hs : List S25) (out : Int), out ≤ tillG l now out hs
  | [], out => Int.le_refl _
  | h :: r, out => by
    show out ≤ tillG l now (if hitB l now h = true then mxI out h.f1 else out) r
    refine Int.le_trans ?_ (tillG_ge l now r _)
    split
    · unfold mxI; split <;> omega
    · exact Int.le_refl _
theorem tillG_mem (l : List S92) (now : Int) : ∀ (hs : List S25) (out : Int), tillG l now out hs = out ∨ ∃ h ∈ hs, hitB l now h = true ∧ tillG l now out hs = h.f1
  | [], out => .inl rfl
  | h :: r, out => by
    show tillG l now (if hitB l now h = true then mxI out h.f1 else out) r = out ∨ _
    have e : tillG l now out (h :: r) = tillG l now (if hitB l now h = true then mxI out h.f1 else out) r := rfl
    rw [e]
    rcases tillG_mem l now r (if hitB l now h = true then mxI out h.f1 else out) with h1 | ⟨x, hx, h1, h2⟩
    · rw [h1]
      by_cases c : hitB l now h = true
      · rw [if_pos c]
        unfold mxI
        by_cases d : out < h.f1
        · rw [if_pos d]; exact .inr ⟨h, by simp, c, rfl⟩
        · rw [if_neg d]; exact .inl rfl
      · rw [if_neg c]; exact .inl rfl
    · exact .inr ⟨x, by simp [hx], h1, h2⟩
theorem cnt_less (l : List S92) (hs : List S25) (now : Int) (h : ¬ tillG l now now hs = now) : cntH hs (tillG l now now hs) < cntH hs now := by
  have hg := tillG_ge l now hs now
  rcases tillG_mem l now hs now with h1 | ⟨x, hx, h1, h2⟩
  · exact absurd h1 h
  · rw [h2] at h hg ⊢
    unfold cntH
    have hle : ∀ (ks : List S25), ks.countP (fun h => decide (x.f1 < h.f1)) ≤ ks.countP (fun h => decide (now < h.f1)) := fun ks => List.countP_mono_left fun y _ hy => by simp at hy ⊢; omega
    obtain ⟨s, t, rfl⟩ := List.append_of_mem hx
    rw [List.countP_append, List.countP_append, List.countP_cons, List.countP_cons]
    have e1 := hle s
    have e2 := hle t
    have d1 : decide (now < x.f1) = true := decide_eq_true (by omega)
    have d2 : decide (x.f1 < x.f1) = false := decide_eq_false (by omega)
    simp only [d1, d2]
    simp
    omega
def freeG (hs : List S25) (l : List S92) : Nat → Int → Int
  | 0, now => now
  | k + 1, now => if tillG l now now hs = now then now else freeG hs l k (tillG l now now hs)
def freeV (hs : List S25) (l : List S92) (now : Int) : Int := if mayB hs l now = true then freeG hs l (hs.length + 1) now else 0
set_option maxHeartbeats 2000000 in
theorem free_calls (A0 : Option Addr) (c0 : Nat) (hs : List S25) (A1 : Option Addr) (c1 : Nat) (l : List S92) (now : Int) (w : World) (hr0 : Kd.C k25 w A0 hs.length hs) (hr1 : Kd.C k92 w A1 l.length l) :
    Calls Try.prog 19 #[.slice A0 hs.length c0, .slice A1 l.length c1, .int .i64 now] w fun e w' => e = .returned (.tuple #[.int .i64 (freeV hs l now), .int .i64 (mayE hs l now)]) ∧ Below w.heap.size w w' := by
  have HR0 := Aside0.mk hr0
  have HR1 := Aside0.mk hr1
  clear hr0 hr1
  have hF := Aside0.mk (Fr.Frame.start w)
  have HC : True := trivial
  cases h1 : mayB hs l now with
  | false =>
    have H1 := Aside0.mk h1
    have HV := Aside0.mk (And.intro (show freeV hs l now = 0 by unfold freeV; rw [h1]; rfl) (may_no h1).2)
    clear h1
    go_enter Try.func19, Try.ntmps19
    go_wp2_with (first | ((with_reducible refine gate_store rfl ?_); apply Fr.fr_store hF.out rfl rfl rfl; (case hp => rfl); (case hx => first | (go_simp; rfl) | rfl); (case hu => (simp only [Value.cells]; rfl)); (case hs => (repeat (first | exact Fr.Spot.here _ _ | apply Fr.Spot.there))); (case ht => kernel_rfl); (case h1 => simp [Value.oneCell']); (case hfit => simp); intro W hF1; simp only [Fr.patch, List.take_zero, List.nil_append, List.drop, List.append_nil, List.take, List.cons_append, List.length_cons, List.length_nil, Nat.reduceAdd] at hF1; have HC1 := hF1.cells; simp only [Fr.Cells, List.length_cons, List.length_nil, Nat.reduceAdd, and_true] at HC1; clear hF HC; have HC := HC1; have hF := Aside0.mk hF1; clear hF1 HC1) | ((first | (with_reducible refine Fr.gate_alloc rfl ?_) | (with_reducible refine Fr.gate_box rfl ?_)); apply Fr.fr_box hF.out rfl; (case hrun => first | (go_simp; done) | (go_simp; rfl)); intro g W hF1; have HC1 := hF1.cells; simp only [Fr.Cells, List.length_cons, List.length_nil, Nat.reduceAdd, and_true] at HC1; clear hF HC; have HC := HC1; have hF := Aside0.mk hF1; clear hF1 HC1))
    (with_reducible refine (may_calls A0 c0 hs A1 c1 l now _ (Kd.C_below HR0.out hF.out.below) (Kd.C_below HR1.out hF.out.below)).mono ?_); rintro e W ⟨rfl, hb⟩; have hF1 := hF.out.call hb; clear hb; have HC1 := hF1.cells; simp only [Fr.Cells, List.length_cons, List.length_nil, Nat.reduceAdd, and_true] at HC1; clear hF HC; have HC := HC1; have hF := Aside0.mk hF1; clear hF1 HC1
    simp only [H1.out]
    go_wp2_with (first | ((with_reducible refine gate_store rfl ?_); apply Fr.fr_store hF.out rfl rfl rfl; (case hp => rfl); (case hx => first | (go_simp; rfl) | rfl); (case hu => (simp only [Value.cells]; rfl)); (case hs => (repeat (first | exact Fr.Spot.here _ _ | apply Fr.Spot.there))); (case ht => kernel_rfl); (case h1 => simp [Value.oneCell']); (case hfit => simp); intro W hF1; simp only [Fr.patch, List.take_zero, List.nil_append, List.drop, List.append_nil, List.take, List.cons_append, List.length_cons, List.length_nil, Nat.reduceAdd] at hF1; have HC1 := hF1.cells; simp only [Fr.Cells, List.length_cons, List.length_nil, Nat.reduceAdd, and_true] at HC1; clear hF HC; have HC := HC1; have hF := Aside0.mk hF1; clear hF1 HC1) | ((first | (with_reducible refine Fr.gate_alloc rfl ?_) | (with_reducible refine Fr.gate_box rfl ?_)); apply Fr.fr_box hF.out rfl; (case hrun => first | (go_simp; done) | (go_simp; rfl)); intro g W hF1; have HC1 := hF1.cells; simp only [Fr.Cells, List.length_cons, List.length_nil, Nat.reduceAdd, and_true] at HC1; clear hF HC; have HC := HC1; have hF := Aside0.mk hF1; clear hF1 HC1))
    go_ret2
    exact ⟨by rw [HV.out.1, HV.out.2]; rfl, hF.out.below⟩
  | true =>
    have H1 := Aside0.mk h1
    have HV := Aside0.mk (And.intro (show freeV hs l now = freeG hs l (hs.length + 1) now by unfold freeV; rw [if_pos h1]) (may_yes h1).2)
    obtain ⟨R, hR⟩ : ∃ R, freeG hs l (hs.length + 1) now = R := ⟨_, rfl⟩
    rw [hR] at HV
    have HRR := Aside0.mk hR
    clear h1 hR
    go_enter Try.func19, Try.ntmps19
    go_wp2_with (first | ((with_reducible refine gate_store rfl ?_); apply Fr.fr_store hF.out rfl rfl rfl; (case hp => rfl); (case hx => first | (go_simp; rfl) | rfl); (case hu => (simp only [Value.cells]; rfl)); (case hs => (repeat (first | exact Fr.Spot.here _ _ | apply Fr.Spot.there))); (case ht => kernel_rfl); (case h1 => simp [Value.oneCell']); (case hfit => simp); intro W hF1; simp only [Fr.patch, List.take_zero, List.nil_append, List.drop, List.append_nil, List.take, List.cons_append, List.length_cons, List.length_nil, Nat.reduceAdd] at hF1; have HC1 := hF1.cells; simp only [Fr.Cells, List.length_cons, List.length_nil, Nat.reduceAdd, and_true] at HC1; clear hF HC; have HC := HC1; have hF := Aside0.mk hF1; clear hF1 HC1) | ((first | (with_reducible refine Fr.gate_alloc rfl ?_) | (with_reducible refine Fr.gate_box rfl ?_)); apply Fr.fr_box hF.out rfl; (case hrun => first | (go_simp; done) | (go_simp; rfl)); intro g W hF1; have HC1 := hF1.cells; simp only [Fr.Cells, List.length_cons, List.length_nil, Nat.reduceAdd, and_true] at HC1; clear hF HC; have HC := HC1; have hF := Aside0.mk hF1; clear hF1 HC1))
    (with_reducible refine (may_calls A0 c0 hs A1 c1 l now _ (Kd.C_below HR0.out hF.out.below) (Kd.C_below HR1.out hF.out.below)).mono ?_); rintro e W ⟨rfl, hb⟩; have hF1 := hF.out.call hb; clear hb; have HC1 := hF1.cells; simp only [Fr.Cells, List.length_cons, List.length_nil, Nat.reduceAdd, and_true] at HC1; clear hF HC; have HC := HC1; have hF := Aside0.mk hF1; clear hF1 HC1
    simp only [H1.out]
    go_wp2_with (first | ((with_reducible refine gate_store rfl ?_); apply Fr.fr_store hF.out rfl rfl rfl; (case hp => rfl); (case hx => first | (go_simp; rfl) | rfl); (case hu => (simp only [Value.cells]; rfl)); (case hs => (repeat (first | exact Fr.Spot.here _ _ | apply Fr.Spot.there))); (case ht => kernel_rfl); (case h1 => simp [Value.oneCell']); (case hfit => simp); intro W hF1; simp only [Fr.patch, List.take_zero, List.nil_append, List.drop, List.append_nil, List.take, List.cons_append, List.length_cons, List.length_nil, Nat.reduceAdd] at hF1; have HC1 := hF1.cells; simp only [Fr.Cells, List.length_cons, List.length_nil, Nat.reduceAdd, and_true] at HC1; clear hF HC; have HC := HC1; have hF := Aside0.mk hF1; clear hF1 HC1) | ((first | (with_reducible refine Fr.gate_alloc rfl ?_) | (with_reducible refine Fr.gate_box rfl ?_)); apply Fr.fr_box hF.out rfl; (case hrun => first | (go_simp; done) | (go_simp; rfl)); intro g W hF1; have HC1 := hF1.cells; simp only [Fr.Cells, List.length_cons, List.length_nil, Nat.reduceAdd, and_true] at HC1; clear hF HC; have HC := HC1; have hF := Aside0.mk hF1; clear hF1 HC1))
    have hFb := hF
    go_loopg [2] (hs.length + 1) (fun kq v2 w' => ∃ (k : Nat) (n : Int), k ≤ kq ∧ v2 = .int .i64 n ∧ Aside0 (freeG hs l k n = R ∧ cntH hs n < k) ∧ Aside0 (Fr.Frame w w' [] []))
    case atStart => exact ⟨hs.length + 1, now, Nat.le_refl _, rfl, ⟨HRR.out, by have := List.countP_le_length (p := fun h : S25 => decide (now < h.f1)) (l := hs); unfold cntH; omega⟩, ⟨hFb.out⟩⟩
    case round =>
      clear hF hFb HC
      obtain ⟨k, n, hk, rfl, HI, hF⟩ := hrel
      have HC : True := trivial
      obtain ⟨hi1, hi2⟩ := HI.out
      obtain ⟨k, rfl⟩ : ∃ m, k = m + 1 := ⟨k - 1, by omega⟩
      have hcl := cnt_less l hs n
      have HTL := Aside0.mk (till_calls A0 c0 hs A1 c1 l n _ (Kd.C_below HR0.out hF.out.below) (Kd.C_below HR1.out hF.out.below))
      obtain ⟨t, ht⟩ : ∃ t, tillG l n n hs = t := ⟨_, rfl⟩
      rw [freeG, ht] at hi1
      rw [ht] at HTL hcl
      clear HI ht
      by_cases he : t = n
      · rw [if_pos he] at hi1
        subst he
        have HE := Aside0.mk hi1
        have hb0 : (t == t) = true := by simp
        clear hi1 hi2 hcl
        go_wp2_with fail
        (with_reducible refine HTL.out.mono ?_)
        rintro e W ⟨rfl, hb⟩
        have hF1 := hF.out.call hb
        clear hb HTL
        have HC1 := hF1.cells; simp only [Fr.Cells, List.length_cons, List.length_nil, Nat.reduceAdd, and_true] at HC1; clear hF HC; have HC := HC1; have hF := Aside0.mk hF1; clear hF1 HC1
        go_wp2
        go_ret2
        exact ⟨by rw [HV.out.1, HV.out.2, ← HE.out]; rfl, hF.out.below⟩
      · rw [if_neg he] at hi1
        have HE := Aside0.mk (And.intro hi1 (show cntH hs t < k by have := hcl he; omega))
        have hb0 : (t == n) = false := beq_eq_false_iff_ne.2 he
        clear hi1 hi2 hcl he
        go_wp2_with fail
        (with_reducible refine HTL.out.mono ?_)
        rintro e W ⟨rfl, hb⟩
        have hF1 := hF.out.call hb
        clear hb HTL
        have HC1 := hF1.cells; simp only [Fr.Cells, List.length_cons, List.length_nil, Nat.reduceAdd, and_true] at HC1; clear hF HC; have HC := HC1; have hF := Aside0.mk hF1; clear hF1 HC1
        go_wp2
        go_roundg k
        case measure => omega
        case rel => exact ⟨k, t, by omega, rfl, HE, hF⟩
theorem rows_of {α : Type} {d : Kd α} {w : World} {A : Option Addr} {xs : List α} (h : Kd.C d w A xs.length xs) : ∃ rows : List (List Value), rows.length = xs.length ∧ (∀ (j : Nat) (x : α) (c : List Value), xs[j]? = some x → rows[j]? = some c → d.K w x c) ∧ Kd.C (Kd.raw d.sz) w A rows.length rows := by
  obtain ⟨h1, h2, h3⟩ := h
  by_cases hp : 0 < xs.length
  · obtain ⟨ad, rfl, h4⟩ := h3 hp
    have key : ∀ n, n ≤ xs.length → ∃ rows : List (List Value), rows.length = n ∧ ∀ (j : Nat) (x : α) (c : List Value), xs[j]? = some x → rows[j]? = some c → c.length = d.sz ∧ d.K w x c ∧ ∀ i u, c[i]? = some u → w.cell? (ad.add (j * d.sz + i)) = some u := by
      intro n
      induction n with
      | zero => exact fun _ => ⟨[], rfl, fun j x c _ hc => by simp at hc⟩
      | succ n ih =>
        intro hn
        obtain ⟨rows, hl, hr⟩ := ih (by omega)
        obtain ⟨c, hc⟩ := h4 n _ (List.getElem?_eq_getElem (show n < xs.length by omega))
        refine ⟨rows ++ [c], by simp [hl], fun j x c' hx hc' => ?_⟩
        by_cases e : j < n
        · rw [List.getElem?_append_left (by omega)] at hc'
          exact hr j x c' hx hc'
        · have ej : j = n := by
            have := (List.getElem?_eq_some_iff.1 hc').1
            simp at this; omega
          subst ej
          rw [List.getElem?_append_right (by omega), hl] at hc'
          simp at hc'
          subst hc'
          rw [List.getElem?_eq_getElem (by omega)] at hx
          injection hx with hx
          subst hx
          exact hc
    obtain ⟨rows, hl, hr⟩ := key xs.length (Nat.le_refl _)
    refine ⟨rows, hl, fun j x c hx hc => (hr j x c hx hc).2.1, rfl, by omega, fun _ => ⟨ad, rfl, fun j c hc => ?_⟩⟩
    have hj : j < xs.length := by have := (List.getElem?_eq_some_iff.1 hc).1; omega
    obtain ⟨k1, k2, k3⟩ := hr j _ c (List.getElem?_eq_getElem hj) hc
    exact ⟨c, k1, ⟨rfl, k1, d.K_one k2⟩, k3⟩
  · obtain rfl : xs = [] := List.eq_nil_of_length_eq_zero (by omega)
    exact ⟨[], rfl, fun j x c hx _ => by simp at hx, rfl, by simp, fun h => absurd h (by simp)⟩
theorem of_rows {α : Type} {d : Kd α} {w : World} {A : Option Addr} {xs : List α} {rows : List (List Value)} (hl : rows.length = xs.length) (hK : ∀ (j : Nat) (x : α) (c : List Value), xs[j]? = some x → rows[j]? = some c → d.K w x c) (h : Kd.C (Kd.raw d.sz) w A rows.length rows) : Kd.C d w A xs.length xs := by
  obtain ⟨h1, h2, h3⟩ := h
  refine ⟨rfl, by omega, fun hp => ?_⟩
  obtain ⟨ad, e, h4⟩ := h3 (by omega)
  refine ⟨ad, e, fun j x hx => ?_⟩
  have hj : j < rows.length := by have := (List.getElem?_eq_some_iff.1 hx).1; omega
  obtain ⟨c, k1, k2, k3⟩ := h4 j _ (List.getElem?_eq_getElem hj)
  refine ⟨c, k1, ?_, k3⟩
  rw [show c = rows[j] from k2.1]
  exact hK j x _ hx (List.getElem?_eq_getElem hj)
theorem flat_cells {sz : Nat} (hs : 0 < sz) {w : World} {ad : Addr} : ∀ {rows : List (List Value)}, (∀ c ∈ rows, c.length = sz) → (∀ j c, rows[j]? = some c → ∀ i u, c[i]? = some u → w.cell? (ad.add (j * sz + i)) = some u) → ∀ j u, rows.flatten[j]? = some u → w.cell? (ad.add j) = some u := by
  intro rows
  induction rows generalizing ad with
  | nil => intro _ _ j u hu; simp at hu
  | cons c r ih =>
    intro hl hc j u hu
    rw [List.flatten_cons] at hu
    have hcl := hl c (by simp)
    by_cases hj : j < sz
    · rw [List.getElem?_append_left (by omega)] at hu
      have := hc 0 c rfl j u hu
      simpa using this
    · rw [List.getElem?_append_right (by omega), hcl] at hu
      have := ih (ad := ad.add sz) (fun c' h => hl c' (by simp [h])) (fun j' c' h i' u' hu' => by
        have h9 := hc (j' + 1) c' (by simpa using h) i' u' hu'
        rw [Go.Deep.add_add]
        rw [show sz + (j' * sz + i') = (j' + 1) * sz + i' by rw [Nat.add_mul]; omega]
        exact h9) (j - sz) u hu
      rw [Go.Deep.add_add] at this
      rwa [show sz + (j - sz) = j by omega] at this
theorem reps_flat {sz : Nat} (w : World) (base : Nat) (ok : Nat → Prop) : ∀ {rows : List (List Value)}, (∀ c ∈ rows, c.length = sz ∧ ∀ u ∈ c, u.oneCell' = true) → Reps ((Kd.raw sz).M w base ok) (Kd.raw sz).sz rows rows.flatten := by
  intro rows
  induction rows with
  | nil => intro _; exact Reps.none _ _
  | cons c r ih =>
    intro h
    have h1 := (Reps.none ((Kd.raw sz).M w base ok) (Kd.raw sz).sz).snoc (p := c) (c := c) ⟨rfl, h c (by simp)⟩ (h c (by simp)).1
    have := Kd.reps_append h1 (ih (fun c' hc => h c' (by simp [hc])))
    simpa using this
section
variable {P : Program} {ops : Array Oper} {rest : List Oper} {o : Oper} {a : Act} {Q : Exit → Act → World → Prop} {w0 W : World} {bs : List Fr.Blk}
theorem fr_appendF {sz : Nat} {S : Nat → Prop} {v : Value} {xs : List (List Value)} (s x : Operand) (t e : TypeId) (z : Value) (bytes : Nat) (A : Option Addr) (c : Nat) (rows : List (List Value))
    (hF : Fr.Frame w0 W bs [Fr.rowR (Kd.raw sz) e w0.heap.size v xs S]) (hgd : o.guard = none) (ho : o.op = .call { callee := .builtin .append, args := #[s, x], argTypes := #[t, t] })
    (ht : P.underlying t = some (.slice e)) (hinfo : (P.info? e).map (fun i => (i.zero, i.size, i.bytes)) = some (some z, sz, bytes)) (hz : z.cells.size = sz) (hs0 : 0 < sz) (hb0 : 0 < bytes)
    (hs : a.eval s = v) (hx : a.eval x = .slice A rows.length c) (hC : Kd.C (Kd.raw sz) W A rows.length rows) (hp : 0 < rows.length) (hl : (xs.length + rows.length) * bytes ≤ 140737488355328)
    (h : ∀ v1 w1 S1, Fr.Frame w0 w1 bs [Fr.rowR (Kd.raw sz) e w0.heap.size v1 (xs ++ rows) S1] → wpList P ops Q rest (a.put o.dst v1) w1) : wpList P ops Q (o :: rest) a W := by
  have hr := hF.row (Fr.rowR (Kd.raw sz) e w0.heap.size v xs S) List.mem_cons_self
  have hRS : (Kd.raw sz).R e W w0.heap.size S v xs := hr.1
  have hdis : ∀ k, S k → ∀ b ∈ bs, k ≠ b.1 := fun k hk b hb he => hr.2.2 b hb (by subst he; exact hk)
  obtain ⟨ad, rfl, hcc⟩ := hC.2.2 hp
  have hall : ∀ c' ∈ rows, c'.length = sz ∧ ∀ u ∈ c', u.oneCell' = true := fun c' hc' => by
    obtain ⟨j, hj, rfl⟩ := List.mem_iff_getElem.1 hc'
    obtain ⟨c2, k1, k2, _⟩ := hcc j _ (List.getElem?_eq_getElem hj)
    have : c2 = rows[j] := k2.1
    rw [← this]
    exact ⟨k1, k2.2.2⟩
  have hnews : ∀ j u, rows.flatten[j]? = some u → W.cell? (ad.add j) = some u := flat_cells hs0 (fun c' h => (hall c' h).1) (fun j c' hj i u hu => by
    obtain ⟨c2, k1, k2, k3⟩ := hcc j c' hj
    have : c2 = c' := k2.1
    subst this
    exact k3 i u hu)
  obtain ⟨v1, w1, hrun, h1, h2, hg⟩ := Fr.R_append_keep (P := P) (Kd.raw sz) w0.heap.size t o.type e z bytes ht hinfo hz hs0 hb0 (Kd.R_mono hRS hdis) (fun w ok => reps_flat w _ ok hall) (fun u hu => by
    obtain ⟨c', hc', hu'⟩ := List.mem_flatten.1 hu
    exact (hall c' hc').2 u hu') ad rows.length c rfl hnews hl hF.below.size (fun k hk b hb he => by have := hF.lt hb; omega)
  have hF0 : Fr.Frame w0 W bs [] := hF.noRows
  have hF1 : Fr.Frame w0 w1 bs [] := ⟨hF0.below.grown hg hF.below.size (fun k hk => Kd.R_base hRS k hk), fun b hb => ⟨(hF0.blk b hb).1, blk_grown (hF0.blk b hb).2 hg (fun e1 => hdis b.1 (hRS.1 b.1 e1.symm) b hb rfl)⟩, hF0.nodup, by simp⟩
  obtain ⟨S1, hS1⟩ := hF1.rowIn h1 (fun k hk => hk)
  refine wpList_plain hgd fun K hK => ?_
  unfold Oper.wp execOp
  simp only [ho, resolve, invoke, builtin, Sem.run_bind, Sem.run_pure, Result.andThen_ok, List.map_toArray, List.map_cons, List.map_nil, hs, hx, hrun]
  exact hK _ _ (h v1 w1 S1 hS1)
end
theorem R_empty {α : Type} (d : Kd α) (e : Nat) (w : World) (base g : Nat) (ok : Nat → Prop) (hb : base ≤ g) (hg : w.heap[g]? = some (.cells #[] e (0, 0))) (hok : ok g) : d.R e w base ok (.slice (some ⟨g, 0, none⟩) 0 0) [] := by
  refine ⟨fun k hk => ?_, [], ⟨by simp, .inr ⟨g, 0, #[], rfl, hb, hg, Nat.le_refl _, by simp [maxLen], by simp, by simp⟩⟩, Reps.none _ _⟩
  have : g = k := by simpa [Value.ownBlock] using hk
  rw [← this]; exact hok
set_option maxHeartbeats 4000000 in
theorem clone_some (A : Option Addr) (c : Nat) (rows : List (List Value)) (w : World) (hr : Kd.C (Kd.raw 3) w A rows.length rows) (hp : 0 < rows.length) (hl : rows.length ≤ 1000) :
    Calls Try.prog 57 #[.slice A rows.length c] w fun e w' => ∃ v, e = .returned v ∧ (Kd.raw 3).R 25 w' w.heap.size (fun _ => True) v rows ∧ Below w.heap.size w w' := by
  obtain ⟨ad, rfl, _⟩ := hr.2.2 hp
  have HR := Aside0.mk hr
  clear hr
  have hnil : ∀ (w : World) (n c : Nat), (binOp .eql 22 (.slice (some ad) n c) (.slice none 0 0)).run Try.prog w = .ok (.bool false) w := fun w n c => by
    have := Lib.run_eql_slice_nil w 22 25 (some ad) n c 0 0 Try.underlying22
    simpa using this
  have hF0 : ∃ S, Fr.Frame w (w.alloc (.cells #[] 25)) [] [Fr.rowR (Kd.raw 3) 25 w.heap.size (.slice (some ⟨w.heap.size, 0, none⟩) 0 0) [] S] :=
    ((Fr.Frame.start w).call ((Below.refl _ w).alloc (Nat.le_refl _) _)).rowIn (R_empty (Kd.raw 3) 25 _ w.heap.size w.heap.size (fun _ => True) (Nat.le_refl _) (heap_alloc_new w _) trivial) (fun k _ b hb => by simp at hb)
  obtain ⟨S, hF0⟩ := hF0
  have hF := Aside0.mk hF0
  have HRA := Aside0.mk (Kd.C_below HR.out hF0.below)
  clear hF0
  go_enter Try.func57, Try.ntmps57
  go_wp2_with ((with_reducible refine gate_builtin (b := .append) (xs := #[.tmp 5, .tmp 6]) rfl ?_); refine fr_appendF (.tmp 5) (.tmp 6) 22 25 (.agg #[.int .i64 0, .int .i64 0, .slice none 0 0]) 40 (some ad) c rows hF.out rfl rfl Try.underlying22 (by kernel_rfl) rfl (by decide) (by omega) rfl rfl HRA.out hp (by simp; omega) ?_; intro v1 W2 S1 hF1; clear hF; have hF := Aside0.mk hF1; clear hF1)
  go_ret
  have h9 := hF.out.rowAt (r := Fr.rowR (Kd.raw 3) 25 w.heap.size v1 ([] ++ rows) S1) List.mem_cons_self
  exact ⟨v1, rfl, Kd.R_mono h9 (fun _ _ => trivial), hF.out.below⟩
def overP (now : Int) (x : S25) : Bool := decide (x.f1 ≤ now)
theorem over_pred (now : Int) (B : Nat) (w : World) (h0 : w.cell? ⟨B, 0, none⟩ = some (.int .i64 now)) : Pred25 (fun _ => True) 58 #[.pointer (some ⟨B, 0, none⟩)] (overP now) w := by
  intro x A c W _ hB hl hr
  have c1 := (hB.cell (World.block_lt_of_cell? w _ h0)).trans h0
  have k1 := fun o => cell_al c1 o
  clear h0 hB hl hr
  show Calls Try.prog 58 #[.agg #[.int .i64 x.f0, .int .i64 x.f1, .slice A x.f2.length c], .pointer (some ⟨B, 0, none⟩)] W _
  go_enter Try.func58, Try.ntmps58
  go_wp2
  go_ret
  exact ⟨rfl, (Below.refl _ W).alloc (Nat.le_refl _) _⟩
theorem E58 : ∀ args w, (callFunc 58 args).run Try.prog w = .ok (.enter 58 args) w := enters_of Try.func58 (by kernel_rfl) rfl
theorem idx25_none (p : S25 → Bool) (l : List S25) (h : ∀ x ∈ l, p x = false) : idxP p l = -1 := by
  unfold idxP
  have : l.findIdx? p = none := by
    rw [List.findIdx?_eq_none_iff]
    exact h
  rw [this]
theorem delete_none (gf : Nat) (cap : Array Value) (p : S25 → Bool) (eg : ∀ args w, (callFunc gf args).run Try.prog w = .ok (.enter gf args) w) (A : Option Addr) (c : Nat) (l : List S25) (w : World) (hr : Kd.C k25 w A l.length l) (hp : Pred25 (fun _ => True) gf cap p w) (hn : ∀ x ∈ l, p x = false) :
    Calls Try.prog 56 #[.slice A l.length c, .func (.func gf) #[] cap] w fun e w' => e = .returned (.slice A l.length c) ∧ Below w.heap.size w w' := by
  have HH := Aside0.mk (indexFunc_25 (fun _ => True) gf cap p eg A c l w hr (fun _ _ => trivial) hp)
  rw [idx25_none p l hn] at HH
  clear hr hp hn eg
  go_enter Try.func56, Try.ntmps56
  go_wp2_with (go_at_call 92; (with_reducible refine HH.out.mono ?_); rintro e w' ⟨rfl, hb⟩; have HB := Aside0.mk hb; clear hb)
  go_ret
  exact ⟨rfl, HB.out⟩
theorem hush_row {w0 w : World} {bs : List Fr.Blk} {rs : List Fr.Row} {v : Value} {rows : List (List Value)} {S : Nat → Prop} {l : List S25} (hF : Fr.Frame w0 w bs (Fr.rowR (Kd.raw 3) 25 w0.heap.size v rows S :: rs)) (hl : rows.length = l.length) (hK : ∀ (j : Nat) (x : S25) (c : List Value), l[j]? = some x → rows[j]? = some c → k25.K w0 x c) :
    ∃ A c, v = .slice A l.length c ∧ l.length ≤ c ∧ Kd.C k25 w A l.length l := by
  have h : (Kd.raw 3).R 25 w w0.heap.size S v rows := hF.rowAt List.mem_cons_self
  obtain ⟨A, c, rfl, hc, hC⟩ := Kd.R_reads h
  rw [hl] at hc ⊢
  exact ⟨A, c, rfl, hc, of_rows hl (fun j x cs h1 h2 => k25.K_below hF.below (hK j x cs h1 h2)) (by rw [hl]; rw [hl] at hC; exact hC)⟩
theorem callRB {α : Type} {d : Kd α} {e : Nat} {v : Value} {xs : List α} {ok : Nat → Prop} {w0 w w' : World} {bs : List Fr.Blk} {rs : List Fr.Row} (h : Fr.Frame w0 w bs rs) (hb : Below w.heap.size w w') (hR : d.R e w' w.heap.size ok v xs) :
    ∃ S, Fr.Frame w0 w' bs (Fr.rowR d e w0.heap.size v xs S :: rs) :=
  (h.call hb).rowIn (Kd.R_lower (Kd.R_bound hR) h.below.size) (fun k hk b hm he => by have := h.lt hm; have := hk.2.1; omega)
theorem snoc_rows {l : List S25} {rows : List (List Value)} {h : S25} {c : List Value} {w : World} (hl : rows.length = l.length) (hK : ∀ (j : Nat) (x : S25) (c : List Value), l[j]? = some x → rows[j]? = some c → k25.K w x c) (hc : k25.K w h c) :
    (rows ++ [c]).length = (l ++ [h]).length ∧ ∀ (j : Nat) (x : S25) (c' : List Value), (l ++ [h])[j]? = some x → (rows ++ [c])[j]? = some c' → k25.K w x c' := by
  refine ⟨by simp [hl], fun j x c' h1 h2 => ?_⟩
  by_cases e : j < l.length
  · rw [List.getElem?_append_left e] at h1
    rw [List.getElem?_append_left (by omega)] at h2
    exact hK j x c' h1 h2
  · have ej : j = l.length := by
      have := (List.getElem?_eq_some_iff.1 h1).1
      simp at this; omega
    subst ej
    rw [List.getElem?_append_right (Nat.le_refl _)] at h1
    rw [List.getElem?_append_right (by omega), hl] at h2
    simp at h1 h2
    subst h1 h2
    exact hc
set_option maxHeartbeats 4000000 in
set_option maxRecDepth 100000 in
theorem add_keep (A0 : Option Addr) (c0 : Nat) (l : List S25) (h : S25) (A2 : Option Addr) (c2 : Nat) (now : Int) (w : World) (hr : Kd.C k25 w A0 l.length l) (hr2 : Kd.C k88 w A2 h.f2.length h.f2) (hl2 : h.f2.length ≤ c2)
    (h1 : hushesB l = true) (h2 : tmB now = true) (h3 : hushB h = true) (h4 : now < h.f1) (h5 : ∀ x ∈ l, overP now x = false) (h6 : 0 < l.length) (h7 : l.length < 8) :
    Calls Try.prog 17 #[.slice A0 l.length c0, .agg #[.int .i64 h.f0, .int .i64 h.f1, .slice A2 h.f2.length c2], .int .i64 now] w fun e w' => ∃ A c, e = .returned (.tuple #[.slice A (l ++ [h]).length c, .int .i64 0]) ∧ (l ++ [h]).length ≤ c ∧ Kd.C k25 w' A (l ++ [h]).length (l ++ [h]) ∧ Below w.heap.size w w' := by
  obtain ⟨rows, hrl, hrk, hrC⟩ := rows_of hr
  have HR := Aside0.mk hr
  have HR2 := Aside0.mk hr2
  have HRC := Aside0.mk hrC
  have HRL := Aside0.mk hrl
  have HRK := Aside0.mk hrk
  have H1 := Aside0.mk h1
  have H2 := Aside0.mk h2
  have H3 := Aside0.mk h3
  have H5 := Aside0.mk h5
  have HL2 := Aside0.mk hl2
  have hx2 : h.f2.length ≤ 9223372036854775807 := hr2.2.1
  have hmf : ∀ (fn : Fn) (first cap : Array Value) (w : World), (Instr.makeFunc fn first cap).run Try.prog w = .ok (.func fn first cap) w := fun _ _ _ _ => rfl
  clear hr hr2 hrC hrl hrk h1 h2 h3 h5 hl2
  have hF := Aside0.mk (Fr.Frame.start w)
  have HC : True := trivial
  go_enter Try.func17, Try.ntmps17
  go_wp2_with (first | ((with_reducible refine gate_store rfl ?_); apply Fr.fr_store hF.out rfl rfl rfl; (case hp => rfl); (case hx => first | (go_simp; rfl) | rfl); (case hu => (simp only [Value.cells]; rfl)); (case hs => (repeat (first | exact Fr.Spot.here _ _ | apply Fr.Spot.there))); (case ht => kernel_rfl); (case h1 => simp [Value.oneCell']); (case hfit => simp); intro W hF1; simp only [Fr.patch, List.take_zero, List.nil_append, List.drop, List.append_nil, List.take, List.cons_append, List.length_cons, List.length_nil, Nat.reduceAdd] at hF1; have HC1 := hF1.cells; simp only [Fr.Cells, List.length_cons, List.length_nil, Nat.reduceAdd, and_true] at HC1; clear hF HC; have HC := HC1; have hF := Aside0.mk hF1; clear hF1 HC1) | ((with_reducible refine gate_dst (N := 4) rfl ?_); apply Fr.fr_box hF.out rfl; (case hrun => first | (go_simp; done) | (go_simp; rfl)); intro gh W hF1; have HC1 := hF1.cells; simp only [Fr.Cells, List.length_cons, List.length_nil, Nat.reduceAdd, and_true] at HC1; clear hF HC; have HC := HC1; have hF := Aside0.mk hF1; clear hF1 HC1) | ((with_reducible refine gate_dst (N := 5) rfl ?_); apply Fr.fr_box hF.out rfl; (case hrun => first | (go_simp; done) | (go_simp; rfl)); intro gn W hF1; have HC1 := hF1.cells; simp only [Fr.Cells, List.length_cons, List.length_nil, Nat.reduceAdd, and_true] at HC1; clear hF HC; have HC := HC1; have hF := Aside0.mk hF1; clear hF1 HC1) | ((first | (with_reducible refine Fr.gate_alloc rfl ?_) | (with_reducible refine Fr.gate_box rfl ?_)); apply Fr.fr_box hF.out rfl; (case hrun => first | (go_simp; done) | (go_simp; rfl)); intro g W hF1; have HC1 := hF1.cells; simp only [Fr.Cells, List.length_cons, List.length_nil, Nat.reduceAdd, and_true] at HC1; clear hF HC; have HC := HC1; have hF := Aside0.mk hF1; clear hF1 HC1))
  (with_reducible refine (hushRight_calls A0 c0 l _ (Kd.C_below HR.out hF.out.below)).mono ?_); rintro e W ⟨rfl, hb⟩; have hF1 := hF.out.call hb; clear hb; have HC1 := hF1.cells; simp only [Fr.Cells, List.length_cons, List.length_nil, Nat.reduceAdd, and_true] at HC1; clear hF HC; have HC := HC1; have hF := Aside0.mk hF1; clear hF1 HC1
  simp only [H1.out]
  go_wp2_with (first | ((with_reducible refine gate_store rfl ?_); apply Fr.fr_store hF.out rfl rfl rfl; (case hp => rfl); (case hx => first | (go_simp; rfl) | rfl); (case hu => (simp only [Value.cells]; rfl)); (case hs => (repeat (first | exact Fr.Spot.here _ _ | apply Fr.Spot.there))); (case ht => kernel_rfl); (case h1 => simp [Value.oneCell']); (case hfit => simp); intro W hF1; simp only [Fr.patch, List.take_zero, List.nil_append, List.drop, List.append_nil, List.take, List.cons_append, List.length_cons, List.length_nil, Nat.reduceAdd] at hF1; have HC1 := hF1.cells; simp only [Fr.Cells, List.length_cons, List.length_nil, Nat.reduceAdd, and_true] at HC1; clear hF HC; have HC := HC1; have hF := Aside0.mk hF1; clear hF1 HC1) | ((first | (with_reducible refine Fr.gate_alloc rfl ?_) | (with_reducible refine Fr.gate_box rfl ?_)); apply Fr.fr_box hF.out rfl; (case hrun => first | (go_simp; done) | (go_simp; rfl)); intro g W hF1; have HC1 := hF1.cells; simp only [Fr.Cells, List.length_cons, List.length_nil, Nat.reduceAdd, and_true] at HC1; clear hF HC; have HC := HC1; have hF := Aside0.mk hF1; clear hF1 HC1))
  (with_reducible refine (tick_Right.calls now _ _ (tick_is now)).mono ?_); rintro e W ⟨rfl, hb⟩; have hF1 := hF.out.call hb.below; clear hb; have HC1 := hF1.cells; simp only [Fr.Cells, List.length_cons, List.length_nil, Nat.reduceAdd, and_true] at HC1; clear hF HC; have HC := HC1; have hF := Aside0.mk hF1; clear hF1 HC1
  simp only [H2.out]
  go_wp2_with (first | ((with_reducible refine gate_store rfl ?_); apply Fr.fr_store hF.out rfl rfl rfl; (case hp => rfl); (case hx => first | (go_simp; rfl) | rfl); (case hu => (simp only [Value.cells]; rfl)); (case hs => (repeat (first | exact Fr.Spot.here _ _ | apply Fr.Spot.there))); (case ht => kernel_rfl); (case h1 => simp [Value.oneCell']); (case hfit => simp); intro W hF1; simp only [Fr.patch, List.take_zero, List.nil_append, List.drop, List.append_nil, List.take, List.cons_append, List.length_cons, List.length_nil, Nat.reduceAdd] at hF1; have HC1 := hF1.cells; simp only [Fr.Cells, List.length_cons, List.length_nil, Nat.reduceAdd, and_true] at HC1; clear hF HC; have HC := HC1; have hF := Aside0.mk hF1; clear hF1 HC1) | ((first | (with_reducible refine Fr.gate_alloc rfl ?_) | (with_reducible refine Fr.gate_box rfl ?_)); apply Fr.fr_box hF.out rfl; (case hrun => first | (go_simp; done) | (go_simp; rfl)); intro g W hF1; have HC1 := hF1.cells; simp only [Fr.Cells, List.length_cons, List.length_nil, Nat.reduceAdd, and_true] at HC1; clear hF HC; have HC := HC1; have hF := Aside0.mk hF1; clear hF1 HC1))
  (with_reducible refine (isHush_calls h A2 c2 _ (Kd.C_below HR2.out hF.out.below)).mono ?_); rintro e W ⟨rfl, hb⟩; have hF1 := hF.out.call hb; clear hb; have HC1 := hF1.cells; simp only [Fr.Cells, List.length_cons, List.length_nil, Nat.reduceAdd, and_true] at HC1; clear hF HC; have HC := HC1; have hF := Aside0.mk hF1; clear hF1 HC1
  simp only [H3.out]
  go_wp2_with (first | ((with_reducible refine gate_store rfl ?_); apply Fr.fr_store hF.out rfl rfl rfl; (case hp => rfl); (case hx => first | (go_simp; rfl) | rfl); (case hu => (simp only [Value.cells]; rfl)); (case hs => (repeat (first | exact Fr.Spot.here _ _ | apply Fr.Spot.there))); (case ht => kernel_rfl); (case h1 => simp [Value.oneCell']); (case hfit => simp); intro W hF1; simp only [Fr.patch, List.take_zero, List.nil_append, List.drop, List.append_nil, List.take, List.cons_append, List.length_cons, List.length_nil, Nat.reduceAdd] at hF1; have HC1 := hF1.cells; simp only [Fr.Cells, List.length_cons, List.length_nil, Nat.reduceAdd, and_true] at HC1; clear hF HC; have HC := HC1; have hF := Aside0.mk hF1; clear hF1 HC1) | ((first | (with_reducible refine Fr.gate_alloc rfl ?_) | (with_reducible refine Fr.gate_box rfl ?_)); apply Fr.fr_box hF.out rfl; (case hrun => first | (go_simp; done) | (go_simp; rfl)); intro g W hF1; have HC1 := hF1.cells; simp only [Fr.Cells, List.length_cons, List.length_nil, Nat.reduceAdd, and_true] at HC1; clear hF HC; have HC := HC1; have hF := Aside0.mk hF1; clear hF1 HC1))
  have hh := clone_some A0 c0 rows _ (Kd.C_below HRC.out hF.out.below) (by have := HRL.out; omega) (by have := HRL.out; omega)
  rw [HRL.out] at hh
  (with_reducible refine hh.mono ?_)
  clear hh
  rintro e W ⟨v, rfl, hR, hb⟩
  obtain ⟨S, hF1⟩ := callRB hF.out hb hR
  clear hR hb
  have HC1 := hF1.cells; simp only [Fr.Cells, List.length_cons, List.length_nil, Nat.reduceAdd, and_true] at HC1; clear hF HC; have HC := HC1; have hF := Aside0.mk hF1; clear hF1 HC1
  obtain ⟨A1, c1, rfl, hc1, hC1⟩ := hush_row hF.out HRL.out HRK.out
  have HC1 := Aside0.mk hC1
  have hgn := HC.1.1 0 (by decide)
  simp only [List.getElem?_cons_zero] at hgn
  have HD := Aside0.mk (delete_none 58 #[.pointer (some ⟨gn, 0, none⟩)] (overP now) E58 A1 c1 l _ hC1 (over_pred now gn _ hgn) H5.out)
  clear hC1 hgn hc1
  have h8 : ((l.length : Int) == 8) = false := by rw [beq_eq_false_iff_ne]; omega
  have HLA := Aside0.mk (show (rows.length + 1) * 40 ≤ 140737488355328 by have := HRL.out; omega)
  have HSN := Aside0.mk (snoc_rows HRL.out HRK.out (k25_mk w h HL2.out HR2.out))
  go_wp2_with fail
  (with_reducible refine HD.out.mono ?_)
  rintro e W ⟨rfl, hb⟩
  have hF1 := hF.out.call hb
  clear hb HD HC1
  have HC1 := hF1.cells; simp only [Fr.Cells, List.length_cons, List.length_nil, Nat.reduceAdd, and_true] at HC1; clear hF HC; have HC := HC1; have hF := Aside0.mk hF1; clear hF1 HC1
  go_wp2_with (first | ((with_reducible refine gate_builtin (b := .append) (xs := #[.tmp 34, .tmp 36]) rfl ?_); refine Fr.fr_append (Kd.raw 3) (.tmp 34) (.tmp 36) 22 25 (.agg #[.int .i64 0, .int .i64 0, .slice none 0 0]) 40 [.int .i64 h.f0, .int .i64 h.f1, .slice A2 h.f2.length c2] [.int .i64 h.f0, .int .i64 h.f1, .slice A2 h.f2.length c2] hF.out rfl rfl Try.underlying22 (by kernel_rfl) rfl (by decide) (by omega) rfl (by first | (go_simp; done) | (go_simp; rfl)) ⟨rfl, rfl, by simp [Value.oneCell']⟩ HLA.out ?_; intro v1 W2 S1 hF1; have HC1 := hF1.cells; simp only [Fr.Cells, List.length_cons, List.length_nil, Nat.reduceAdd, and_true] at HC1; clear hF HC; have HC := HC1; have hF := Aside0.mk hF1; clear hF1 HC1) | ((with_reducible refine gate_store rfl ?_); apply Fr.fr_store hF.out rfl rfl rfl; (case hp => rfl); (case hx => first | (go_simp; rfl) | rfl); (case hu => (simp only [Value.cells]; rfl)); (case hs => (repeat (first | exact Fr.Spot.here _ _ | apply Fr.Spot.there))); (case ht => kernel_rfl); (case h1 => simp [Value.oneCell']); (case hfit => simp); intro W hF1; simp only [Fr.patch, List.take_zero, List.nil_append, List.drop, List.append_nil, List.take, List.cons_append, List.length_cons, List.length_nil, Nat.reduceAdd] at hF1; have HC1 := hF1.cells; simp only [Fr.Cells, List.length_cons, List.length_nil, Nat.reduceAdd, and_true] at HC1; clear hF HC; have HC := HC1; have hF := Aside0.mk hF1; clear hF1 HC1) | ((first | (with_reducible refine Fr.gate_alloc rfl ?_) | (with_reducible refine Fr.gate_box rfl ?_)); apply Fr.fr_box hF.out rfl; (case hrun => first | (go_simp; done) | (go_simp; rfl)); intro g W hF1; have HC1 := hF1.cells; simp only [Fr.Cells, List.length_cons, List.length_nil, Nat.reduceAdd, and_true] at HC1; clear hF HC; have HC := HC1; have hF := Aside0.mk hF1; clear hF1 HC1))
  obtain ⟨A3, c3, rfl, hc3, hC3⟩ := hush_row hF.out HSN.out.1 HSN.out.2
  go_ret2
  exact ⟨A3, c3, rfl, hc3, hC3, hF.out.below⟩
end Go.Proofs.Ytkphinfijppkeaa.G
