/- Contracts of functions of the given program, and what they come to, for any arguments. No condition beyond each theorem's own premises. -/
import Derived.Test.YtkphinfijppkeaaXDutyLateM5
import Derived.Test.YtkphinfijppkeaaXDutyLateM0
import Derived.Test.YtkphinfijppkeaaXDutyLateM2
namespace Go.Proofs.Ytkphinfijppkeaa.G
open Go.RowKit Go.Proofs.YtkphinfijppkeaaW.PrintWords Go.Proofs.YtkphinfijppkeaaW.PrintLast Go.Proofs.YtkphinfijppkeaaW.PrintMore
attribute [local go_sem] max2_int min2_int max_two min_two max_three min_three max_four min_four
set_option linter.unusedVariables false
set_option linter.unusedSimpArgs false
def dutyB (c : Cf) (d : Dy) : Bool := decide (chainE c d.ro d.pl = 0) && (rightB d.ls && (tmB d.due && (decide (0 ≤ d.tr) && (decide (d.tr < (rd_T76 c.rs (recvV c d.ro d.pl)).f2) && (decide (1 ≤ d.st) && decide (d.st ≤ 3))))))
theorem chain_in {n : Int} {l : List Int} (h : chainB n l = true) {i : Nat} (hi : i < l.length) : 0 ≤ rd l (i : Nat) ∧ rd l (i : Nat) < n := by
  unfold chainB at h
  have h1 := List.all_eq_true.1 h i (List.mem_range.2 hi)
  simp only [Bool.and_eq_true, decide_eq_true_eq] at h1
  exact ⟨h1.1, h1.2.1⟩
theorem recv_in {c : Cf} {i p : Int} (h : chainE c i p = 0) : ∃ k : Nat, k < c.rs.length ∧ recvV c i p = (k : Int) := by
  obtain ⟨h1, h2, h3, h4, h5⟩ := chain_facts h
  have hx : routeB c.rs.length (rd_T58 c.ro i) = true := by
    have e := rd_get58 c.ro i.toNat (by omega)
    rw [Int.toNat_of_nonneg h2] at e
    rw [e]; exact cfg_routes h1 _ (List.getElem_mem _)
  unfold routeB at hx
  simp only [Bool.and_eq_true] at hx
  have := chain_in hx.1 (i := p.toNat) (by omega)
  rw [Int.toNat_of_nonneg h4] at this
  refine ⟨(recvV c i p).toNat, ?_, ?_⟩
  · unfold recvV; rw [if_pos h]; omega
  · unfold recvV; rw [if_pos h]; omega
set_option maxHeartbeats 8000000 in
set_option maxRecDepth 100000 in
theorem dutyRight_calls (c : Cf) (A0 : Option Addr) (c0 : Nat) (A1 : Option Addr) (c1 : Nat) (d : Dy) (A2 : Option Addr) (c2 : Nat) (w : World) (hr0 : Kd.C k76 w A0 c.rs.length c.rs) (hl0 : c.rs.length ≤ c0) (hr1 : Kd.C k58 w A1 c.ro.length c.ro) (hwf : ∀ x ∈ c.ro, WfR x) (hr2 : Kd.C k92 w A2 d.ls.length d.ls) :
    Calls Try.prog 46 #[.agg #[.slice A0 c.rs.length c0, .slice A1 c.ro.length c1, .int .i64 c.rep, .int .i64 c.beat], .agg #[.slice A2 d.ls.length c2, .int .i64 d.ro, .int .i64 d.pl, .int .i64 d.tr, .int .i64 d.due, .int .i64 d.st]] w fun e w' => e = .returned (.bool (dutyB c d)) ∧ Below w.heap.size w w' := by
  have HR0 := Aside0.mk hr0
  have HR2 := Aside0.mk hr2
  have HRV := Aside0.mk (fun W (hb : Below w.heap.size w W) => receiver_calls c A0 c0 A1 c1 d.ro d.pl W (Kd.C_below hr0 hb) hl0 (Kd.C_below hr1 hb) hwf)
  have hll0 : c.rs.length ≤ 9223372036854775807 := hr0.2.1
  clear hr0 hl0 hr1 hwf hr2
  have hF := Aside0.mk (Fr.Frame.start w)
  have HC : True := trivial
  by_cases h1 : chainE c d.ro d.pl = 0
  · obtain ⟨k, hk, hrk⟩ := recv_in h1
    rw [h1, hrk] at HRV
    have HE := Aside0.mk h1
    cases h2 : rightB d.ls with
    | false =>
      have H2 := Aside0.mk h2
      have HV := Aside0.mk (show dutyB c d = false by unfold dutyB; rw [h2]; simp)
      clear h1 h2
      go_enter Try.func46, Try.ntmps46
      go_wp2_with (first | ((with_reducible refine gate_store rfl ?_); apply Fr.fr_store hF.out rfl rfl rfl; (case hp => rfl); (case hx => first | (go_simp; rfl) | rfl); (case hu => (simp only [Value.cells]; rfl)); (case hs => (repeat (first | exact Fr.Spot.here _ _ | apply Fr.Spot.there))); (case ht => kernel_rfl); (case h1 => simp [Value.oneCell']); (case hfit => simp); intro W hF1; simp only [Fr.patch, List.take_zero, List.nil_append, List.drop, List.append_nil, List.take, List.cons_append, List.length_cons, List.length_nil, Nat.reduceAdd] at hF1; have HC1 := hF1.cells; simp only [Fr.Cells, List.length_cons, List.length_nil, Nat.reduceAdd, and_true] at HC1; clear hF HC; have HC := HC1; have hF := Aside0.mk hF1; clear hF1 HC1) | ((first | (with_reducible refine Fr.gate_alloc rfl ?_) | (with_reducible refine Fr.gate_box rfl ?_)); apply Fr.fr_box hF.out rfl; (case hrun => first | (go_simp; done) | (go_simp; rfl)); intro g W hF1; have HC1 := hF1.cells; simp only [Fr.Cells, List.length_cons, List.length_nil, Nat.reduceAdd, and_true] at HC1; clear hF HC; have HC := HC1; have hF := Aside0.mk hF1; clear hF1 HC1))
      (with_reducible refine (HRV.out _ hF.out.below).mono ?_); rintro e W ⟨rfl, hb⟩; have hF1 := hF.out.call hb; clear hb; have HC1 := hF1.cells; simp only [Fr.Cells, List.length_cons, List.length_nil, Nat.reduceAdd, and_true] at HC1; clear hF HC; have HC := HC1; have hF := Aside0.mk hF1; clear hF1 HC1
      go_wp2_with (first | ((with_reducible refine gate_store rfl ?_); apply Fr.fr_store hF.out rfl rfl rfl; (case hp => rfl); (case hx => first | (go_simp; rfl) | rfl); (case hu => (simp only [Value.cells]; rfl)); (case hs => (repeat (first | exact Fr.Spot.here _ _ | apply Fr.Spot.there))); (case ht => kernel_rfl); (case h1 => simp [Value.oneCell']); (case hfit => simp); intro W hF1; simp only [Fr.patch, List.take_zero, List.nil_append, List.drop, List.append_nil, List.take, List.cons_append, List.length_cons, List.length_nil, Nat.reduceAdd] at hF1; have HC1 := hF1.cells; simp only [Fr.Cells, List.length_cons, List.length_nil, Nat.reduceAdd, and_true] at HC1; clear hF HC; have HC := HC1; have hF := Aside0.mk hF1; clear hF1 HC1) | ((first | (with_reducible refine Fr.gate_alloc rfl ?_) | (with_reducible refine Fr.gate_box rfl ?_)); apply Fr.fr_box hF.out rfl; (case hrun => first | (go_simp; done) | (go_simp; rfl)); intro g W hF1; have HC1 := hF1.cells; simp only [Fr.Cells, List.length_cons, List.length_nil, Nat.reduceAdd, and_true] at HC1; clear hF HC; have HC := HC1; have hF := Aside0.mk hF1; clear hF1 HC1))
      (with_reducible refine (right_calls A2 c2 d.ls _ (Kd.C_below HR2.out hF.out.below)).mono ?_); rintro e W ⟨rfl, hb⟩; have hF1 := hF.out.call hb; clear hb; have HC1 := hF1.cells; simp only [Fr.Cells, List.length_cons, List.length_nil, Nat.reduceAdd, and_true] at HC1; clear hF HC; have HC := HC1; have hF := Aside0.mk hF1; clear hF1 HC1
      simp only [H2.out]
      go_wp2_with (first | ((with_reducible refine gate_store rfl ?_); apply Fr.fr_store hF.out rfl rfl rfl; (case hp => rfl); (case hx => first | (go_simp; rfl) | rfl); (case hu => (simp only [Value.cells]; rfl)); (case hs => (repeat (first | exact Fr.Spot.here _ _ | apply Fr.Spot.there))); (case ht => kernel_rfl); (case h1 => simp [Value.oneCell']); (case hfit => simp); intro W hF1; simp only [Fr.patch, List.take_zero, List.nil_append, List.drop, List.append_nil, List.take, List.cons_append, List.length_cons, List.length_nil, Nat.reduceAdd] at hF1; have HC1 := hF1.cells; simp only [Fr.Cells, List.length_cons, List.length_nil, Nat.reduceAdd, and_true] at HC1; clear hF HC; have HC := HC1; have hF := Aside0.mk hF1; clear hF1 HC1) | ((first | (with_reducible refine Fr.gate_alloc rfl ?_) | (with_reducible refine Fr.gate_box rfl ?_)); apply Fr.fr_box hF.out rfl; (case hrun => first | (go_simp; done) | (go_simp; rfl)); intro g W hF1; have HC1 := hF1.cells; simp only [Fr.Cells, List.length_cons, List.length_nil, Nat.reduceAdd, and_true] at HC1; clear hF HC; have HC := HC1; have hF := Aside0.mk hF1; clear hF1 HC1))
      go_ret
      exact ⟨by rw [HV.out]; rfl, hF.out.below⟩
    | true =>
      have H2 := Aside0.mk h2
      cases h3 : tmB d.due with
      | false =>
        have H3 := Aside0.mk h3
        have HV := Aside0.mk (show dutyB c d = false by unfold dutyB; rw [h3]; simp)
        clear h1 h2 h3
        go_enter Try.func46, Try.ntmps46
        go_wp2_with (first | ((with_reducible refine gate_store rfl ?_); apply Fr.fr_store hF.out rfl rfl rfl; (case hp => rfl); (case hx => first | (go_simp; rfl) | rfl); (case hu => (simp only [Value.cells]; rfl)); (case hs => (repeat (first | exact Fr.Spot.here _ _ | apply Fr.Spot.there))); (case ht => kernel_rfl); (case h1 => simp [Value.oneCell']); (case hfit => simp); intro W hF1; simp only [Fr.patch, List.take_zero, List.nil_append, List.drop, List.append_nil, List.take, List.cons_append, List.length_cons, List.length_nil, Nat.reduceAdd] at hF1; have HC1 := hF1.cells; simp only [Fr.Cells, List.length_cons, List.length_nil, Nat.reduceAdd, and_true] at HC1; clear hF HC; have HC := HC1; have hF := Aside0.mk hF1; clear hF1 HC1) | ((first | (with_reducible refine Fr.gate_alloc rfl ?_) | (with_reducible refine Fr.gate_box rfl ?_)); apply Fr.fr_box hF.out rfl; (case hrun => first | (go_simp; done) | (go_simp; rfl)); intro g W hF1; have HC1 := hF1.cells; simp only [Fr.Cells, List.length_cons, List.length_nil, Nat.reduceAdd, and_true] at HC1; clear hF HC; have HC := HC1; have hF := Aside0.mk hF1; clear hF1 HC1))
        (with_reducible refine (HRV.out _ hF.out.below).mono ?_); rintro e W ⟨rfl, hb⟩; have hF1 := hF.out.call hb; clear hb; have HC1 := hF1.cells; simp only [Fr.Cells, List.length_cons, List.length_nil, Nat.reduceAdd, and_true] at HC1; clear hF HC; have HC := HC1; have hF := Aside0.mk hF1; clear hF1 HC1
        go_wp2_with (first | ((with_reducible refine gate_store rfl ?_); apply Fr.fr_store hF.out rfl rfl rfl; (case hp => rfl); (case hx => first | (go_simp; rfl) | rfl); (case hu => (simp only [Value.cells]; rfl)); (case hs => (repeat (first | exact Fr.Spot.here _ _ | apply Fr.Spot.there))); (case ht => kernel_rfl); (case h1 => simp [Value.oneCell']); (case hfit => simp); intro W hF1; simp only [Fr.patch, List.take_zero, List.nil_append, List.drop, List.append_nil, List.take, List.cons_append, List.length_cons, List.length_nil, Nat.reduceAdd] at hF1; have HC1 := hF1.cells; simp only [Fr.Cells, List.length_cons, List.length_nil, Nat.reduceAdd, and_true] at HC1; clear hF HC; have HC := HC1; have hF := Aside0.mk hF1; clear hF1 HC1) | ((first | (with_reducible refine Fr.gate_alloc rfl ?_) | (with_reducible refine Fr.gate_box rfl ?_)); apply Fr.fr_box hF.out rfl; (case hrun => first | (go_simp; done) | (go_simp; rfl)); intro g W hF1; have HC1 := hF1.cells; simp only [Fr.Cells, List.length_cons, List.length_nil, Nat.reduceAdd, and_true] at HC1; clear hF HC; have HC := HC1; have hF := Aside0.mk hF1; clear hF1 HC1))
        (with_reducible refine (right_calls A2 c2 d.ls _ (Kd.C_below HR2.out hF.out.below)).mono ?_); rintro e W ⟨rfl, hb⟩; have hF1 := hF.out.call hb; clear hb; have HC1 := hF1.cells; simp only [Fr.Cells, List.length_cons, List.length_nil, Nat.reduceAdd, and_true] at HC1; clear hF HC; have HC := HC1; have hF := Aside0.mk hF1; clear hF1 HC1
        simp only [H2.out]
        go_wp2_with (first | ((with_reducible refine gate_store rfl ?_); apply Fr.fr_store hF.out rfl rfl rfl; (case hp => rfl); (case hx => first | (go_simp; rfl) | rfl); (case hu => (simp only [Value.cells]; rfl)); (case hs => (repeat (first | exact Fr.Spot.here _ _ | apply Fr.Spot.there))); (case ht => kernel_rfl); (case h1 => simp [Value.oneCell']); (case hfit => simp); intro W hF1; simp only [Fr.patch, List.take_zero, List.nil_append, List.drop, List.append_nil, List.take, List.cons_append, List.length_cons, List.length_nil, Nat.reduceAdd] at hF1; have HC1 := hF1.cells; simp only [Fr.Cells, List.length_cons, List.length_nil, Nat.reduceAdd, and_true] at HC1; clear hF HC; have HC := HC1; have hF := Aside0.mk hF1; clear hF1 HC1) | ((first | (with_reducible refine Fr.gate_alloc rfl ?_) | (with_reducible refine Fr.gate_box rfl ?_)); apply Fr.fr_box hF.out rfl; (case hrun => first | (go_simp; done) | (go_simp; rfl)); intro g W hF1; have HC1 := hF1.cells; simp only [Fr.Cells, List.length_cons, List.length_nil, Nat.reduceAdd, and_true] at HC1; clear hF HC; have HC := HC1; have hF := Aside0.mk hF1; clear hF1 HC1))
        (with_reducible refine (tick_Right.calls d.due _ _ (tick_is d.due)).mono ?_); rintro e W ⟨rfl, hb⟩; have hF1 := hF.out.call hb.below; clear hb; have HC1 := hF1.cells; simp only [Fr.Cells, List.length_cons, List.length_nil, Nat.reduceAdd, and_true] at HC1; clear hF HC; have HC := HC1; have hF := Aside0.mk hF1; clear hF1 HC1
        simp only [H3.out]
        go_wp2_with (first | ((with_reducible refine gate_store rfl ?_); apply Fr.fr_store hF.out rfl rfl rfl; (case hp => rfl); (case hx => first | (go_simp; rfl) | rfl); (case hu => (simp only [Value.cells]; rfl)); (case hs => (repeat (first | exact Fr.Spot.here _ _ | apply Fr.Spot.there))); (case ht => kernel_rfl); (case h1 => simp [Value.oneCell']); (case hfit => simp); intro W hF1; simp only [Fr.patch, List.take_zero, List.nil_append, List.drop, List.append_nil, List.take, List.cons_append, List.length_cons, List.length_nil, Nat.reduceAdd] at hF1; have HC1 := hF1.cells; simp only [Fr.Cells, List.length_cons, List.length_nil, Nat.reduceAdd, and_true] at HC1; clear hF HC; have HC := HC1; have hF := Aside0.mk hF1; clear hF1 HC1) | ((first | (with_reducible refine Fr.gate_alloc rfl ?_) | (with_reducible refine Fr.gate_box rfl ?_)); apply Fr.fr_box hF.out rfl; (case hrun => first | (go_simp; done) | (go_simp; rfl)); intro g W hF1; have HC1 := hF1.cells; simp only [Fr.Cells, List.length_cons, List.length_nil, Nat.reduceAdd, and_true] at HC1; clear hF HC; have HC := HC1; have hF := Aside0.mk hF1; clear hF1 HC1))
        go_ret
        exact ⟨by rw [HV.out]; rfl, hF.out.below⟩
      | true =>
        have H3 := Aside0.mk h3
        have hlti : (k : Int) < (c.rs.length : Int) := by omega
        obtain ⟨ad, e1, a0, a1, a2, a3, a4, a5, a6, a7, a8⟩ := at_T76 HR0.out (k : Int) (by omega) hlti
        cases e1
        rw [Int.toNat_natCast] at a4
        obtain ⟨x, hx⟩ : ∃ x, rd_T76 c.rs (k : Int) = x := ⟨_, rfl⟩
        rw [hx] at a4
        have A4 := Aside0.mk a4
        have g0 : (0 : Int) ≤ (k : Int) := by omega
        have g3 : IntKind.i64.wrap (k : Int) = k := by rw [IntKind.wrap_i64]; omega
        have HDB := Aside0.mk (show dutyB c d = (decide (0 ≤ d.tr) && (decide (d.tr < x.f2) && (decide (1 ≤ d.st) && decide (d.st ≤ 3)))) by unfold dutyB; rw [h2, h3, decide_eq_true h1, hrk, hx]; simp)
        clear h1 h2 h3 a0 a1 a2 a3 a4 a5 a6 a7 a8 hx hrk
        by_cases k1 : 0 ≤ d.tr
        · by_cases k2 : d.tr < x.f2
          · by_cases k3 : 1 ≤ d.st
            · have HV := Aside0.mk (show dutyB c d = decide (d.st ≤ 3) by rw [HDB.out, decide_eq_true k1, decide_eq_true k2, decide_eq_true k3]; rfl)
              go_enter Try.func46, Try.ntmps46
              go_wp2_with (first | ((with_reducible refine gate_store rfl ?_); apply Fr.fr_store hF.out rfl rfl rfl; (case hp => rfl); (case hx => first | (go_simp; rfl) | rfl); (case hu => (simp only [Value.cells]; rfl)); (case hs => (repeat (first | exact Fr.Spot.here _ _ | apply Fr.Spot.there))); (case ht => kernel_rfl); (case h1 => simp [Value.oneCell']); (case hfit => simp); intro W hF1; simp only [Fr.patch, List.take_zero, List.nil_append, List.drop, List.append_nil, List.take, List.cons_append, List.length_cons, List.length_nil, Nat.reduceAdd] at hF1; have HC1 := hF1.cells; simp only [Fr.Cells, List.length_cons, List.length_nil, Nat.reduceAdd, and_true] at HC1; clear hF HC; have HC := HC1; have hF := Aside0.mk hF1; clear hF1 HC1) | ((first | (with_reducible refine Fr.gate_alloc rfl ?_) | (with_reducible refine Fr.gate_box rfl ?_)); apply Fr.fr_box hF.out rfl; (case hrun => first | (go_simp; done) | (go_simp; rfl)); intro g W hF1; have HC1 := hF1.cells; simp only [Fr.Cells, List.length_cons, List.length_nil, Nat.reduceAdd, and_true] at HC1; clear hF HC; have HC := HC1; have hF := Aside0.mk hF1; clear hF1 HC1))
              (with_reducible refine (HRV.out _ hF.out.below).mono ?_); rintro e W ⟨rfl, hb⟩; have hF1 := hF.out.call hb; clear hb; have HC1 := hF1.cells; simp only [Fr.Cells, List.length_cons, List.length_nil, Nat.reduceAdd, and_true] at HC1; clear hF HC; have HC := HC1; have hF := Aside0.mk hF1; clear hF1 HC1
              go_wp2_with (first | ((with_reducible refine gate_store rfl ?_); apply Fr.fr_store hF.out rfl rfl rfl; (case hp => rfl); (case hx => first | (go_simp; rfl) | rfl); (case hu => (simp only [Value.cells]; rfl)); (case hs => (repeat (first | exact Fr.Spot.here _ _ | apply Fr.Spot.there))); (case ht => kernel_rfl); (case h1 => simp [Value.oneCell']); (case hfit => simp); intro W hF1; simp only [Fr.patch, List.take_zero, List.nil_append, List.drop, List.append_nil, List.take, List.cons_append, List.length_cons, List.length_nil, Nat.reduceAdd] at hF1; have HC1 := hF1.cells; simp only [Fr.Cells, List.length_cons, List.length_nil, Nat.reduceAdd, and_true] at HC1; clear hF HC; have HC := HC1; have hF := Aside0.mk hF1; clear hF1 HC1) | ((first | (with_reducible refine Fr.gate_alloc rfl ?_) | (with_reducible refine Fr.gate_box rfl ?_)); apply Fr.fr_box hF.out rfl; (case hrun => first | (go_simp; done) | (go_simp; rfl)); intro g W hF1; have HC1 := hF1.cells; simp only [Fr.Cells, List.length_cons, List.length_nil, Nat.reduceAdd, and_true] at HC1; clear hF HC; have HC := HC1; have hF := Aside0.mk hF1; clear hF1 HC1))
              (with_reducible refine (right_calls A2 c2 d.ls _ (Kd.C_below HR2.out hF.out.below)).mono ?_); rintro e W ⟨rfl, hb⟩; have hF1 := hF.out.call hb; clear hb; have HC1 := hF1.cells; simp only [Fr.Cells, List.length_cons, List.length_nil, Nat.reduceAdd, and_true] at HC1; clear hF HC; have HC := HC1; have hF := Aside0.mk hF1; clear hF1 HC1
              simp only [H2.out]
              go_wp2_with (first | ((with_reducible refine gate_store rfl ?_); apply Fr.fr_store hF.out rfl rfl rfl; (case hp => rfl); (case hx => first | (go_simp; rfl) | rfl); (case hu => (simp only [Value.cells]; rfl)); (case hs => (repeat (first | exact Fr.Spot.here _ _ | apply Fr.Spot.there))); (case ht => kernel_rfl); (case h1 => simp [Value.oneCell']); (case hfit => simp); intro W hF1; simp only [Fr.patch, List.take_zero, List.nil_append, List.drop, List.append_nil, List.take, List.cons_append, List.length_cons, List.length_nil, Nat.reduceAdd] at hF1; have HC1 := hF1.cells; simp only [Fr.Cells, List.length_cons, List.length_nil, Nat.reduceAdd, and_true] at HC1; clear hF HC; have HC := HC1; have hF := Aside0.mk hF1; clear hF1 HC1) | ((first | (with_reducible refine Fr.gate_alloc rfl ?_) | (with_reducible refine Fr.gate_box rfl ?_)); apply Fr.fr_box hF.out rfl; (case hrun => first | (go_simp; done) | (go_simp; rfl)); intro g W hF1; have HC1 := hF1.cells; simp only [Fr.Cells, List.length_cons, List.length_nil, Nat.reduceAdd, and_true] at HC1; clear hF HC; have HC := HC1; have hF := Aside0.mk hF1; clear hF1 HC1))
              (with_reducible refine (tick_Right.calls d.due _ _ (tick_is d.due)).mono ?_); rintro e W ⟨rfl, hb⟩; have hF1 := hF.out.call hb.below; clear hb; have HC1 := hF1.cells; simp only [Fr.Cells, List.length_cons, List.length_nil, Nat.reduceAdd, and_true] at HC1; clear hF HC; have HC := HC1; have hF := Aside0.mk hF1; clear hF1 HC1
              simp only [H3.out]
              go_wp2_with (first | ((with_reducible refine gate_store rfl ?_); apply Fr.fr_store hF.out rfl rfl rfl; (case hp => rfl); (case hx => first | (go_simp; rfl) | rfl); (case hu => (simp only [Value.cells]; rfl)); (case hs => (repeat (first | exact Fr.Spot.here _ _ | apply Fr.Spot.there))); (case ht => kernel_rfl); (case h1 => simp [Value.oneCell']); (case hfit => simp); intro W hF1; simp only [Fr.patch, List.take_zero, List.nil_append, List.drop, List.append_nil, List.take, List.cons_append, List.length_cons, List.length_nil, Nat.reduceAdd] at hF1; have HC1 := hF1.cells; simp only [Fr.Cells, List.length_cons, List.length_nil, Nat.reduceAdd, and_true] at HC1; clear hF HC; have HC := HC1; have hF := Aside0.mk hF1; clear hF1 HC1) | ((first | (with_reducible refine Fr.gate_alloc rfl ?_) | (with_reducible refine Fr.gate_box rfl ?_)); apply Fr.fr_box hF.out rfl; (case hrun => first | (go_simp; done) | (go_simp; rfl)); intro g W hF1; have HC1 := hF1.cells; simp only [Fr.Cells, List.length_cons, List.length_nil, Nat.reduceAdd, and_true] at HC1; clear hF HC; have HC := HC1; have hF := Aside0.mk hF1; clear hF1 HC1))
              refine Fr.fr_region (by kernel_rfl) (by kernel_rfl) hF.out ?_
              (apply Fr.fr_q_val; (case hw => first | rfl | (go_simp; done)); (case hv => intro W hF1; have HC1 := hF1.cells; simp only [Fr.Cells, List.length_cons, List.length_nil, Nat.reduceAdd, and_true] at HC1; clear hF1; first | (go_simp; done) | (go_simp; rfl)); simp only [Act.put, List.setIfInBounds_toArray, List.set_cons_zero, List.set_cons_succ])
              (apply Fr.fr_q_val; (case hw => first | rfl | (go_simp; done)); (case hv => intro W hF1; have HC1 := hF1.cells; simp only [Fr.Cells, List.length_cons, List.length_nil, Nat.reduceAdd, and_true] at HC1; clear hF1; first | (go_simp; done) | (go_simp; rfl)); simp only [Act.put, List.setIfInBounds_toArray, List.set_cons_zero, List.set_cons_succ])
              (apply Fr.fr_q_val; (case hw => first | rfl | (go_simp; done)); (case hv => intro W hF1; have HC1 := hF1.cells; simp only [Fr.Cells, List.length_cons, List.length_nil, Nat.reduceAdd, and_true] at HC1; clear hF1; first | (go_simp; done) | (go_simp; rfl)); simp only [Act.put, List.setIfInBounds_toArray, List.set_cons_zero, List.set_cons_succ])
              (apply Fr.fr_q_val; (case hw => first | rfl | (go_simp; done)); (case hv => intro W hF1; have HC1 := hF1.cells; simp only [Fr.Cells, List.length_cons, List.length_nil, Nat.reduceAdd, and_true] at HC1; clear hF1; first | (go_simp; done) | (go_simp; rfl)); simp only [Act.put, List.setIfInBounds_toArray, List.set_cons_zero, List.set_cons_succ])
              (apply Fr.fr_q_val; (case hw => first | rfl | (go_simp; done)); (case hv => intro W hF1; have HC1 := hF1.cells; simp only [Fr.Cells, List.length_cons, List.length_nil, Nat.reduceAdd, and_true] at HC1; clear hF1; first | (go_simp; done) | (go_simp; rfl)); simp only [Act.put, List.setIfInBounds_toArray, List.set_cons_zero, List.set_cons_succ])
              (apply Fr.fr_q_val; (case hw => first | rfl | (go_simp; done)); (case hv => intro W hF1; have HC1 := hF1.cells; simp only [Fr.Cells, List.length_cons, List.length_nil, Nat.reduceAdd, and_true] at HC1; clear hF1; first | (go_simp; done) | (go_simp; rfl)); simp only [Act.put, List.setIfInBounds_toArray, List.set_cons_zero, List.set_cons_succ])
              (apply Fr.fr_q_val; (case hw => first | rfl | (go_simp; done)); (case hv => intro W hF1; have HC1 := hF1.cells; simp only [Fr.Cells, List.length_cons, List.length_nil, Nat.reduceAdd, and_true] at HC1; clear hF1; first | (go_simp; done) | (go_simp; rfl)); simp only [Act.put, List.setIfInBounds_toArray, List.set_cons_zero, List.set_cons_succ])
              (apply Fr.fr_q_val; (case hw => first | rfl | (go_simp; done)); (case hv => intro W hF1; have HC1 := hF1.cells; simp only [Fr.Cells, List.length_cons, List.length_nil, Nat.reduceAdd, and_true] at HC1; clear hF1; first | (go_simp; done) | (go_simp; rfl)); simp only [Act.put, List.setIfInBounds_toArray, List.set_cons_zero, List.set_cons_succ])
              (apply Fr.fr_q_val; (case hw => first | rfl | (go_simp; done)); (case hv => intro W hF1; have HC1 := hF1.cells; simp only [Fr.Cells, List.length_cons, List.length_nil, Nat.reduceAdd, and_true] at HC1; clear hF1; first | (go_simp; done) | (go_simp; rfl)); simp only [Act.put, List.setIfInBounds_toArray, List.set_cons_zero, List.set_cons_succ])
              (apply Fr.fr_q_val; (case hw => first | rfl | (go_simp; done)); (case hv => intro W hF1; have HC1 := hF1.cells; simp only [Fr.Cells, List.length_cons, List.length_nil, Nat.reduceAdd, and_true] at HC1; clear hF1; first | (go_simp; done) | (go_simp; rfl)); simp only [Act.put, List.setIfInBounds_toArray, List.set_cons_zero, List.set_cons_succ])
              (apply Fr.fr_q_val; (case hw => first | rfl | (go_simp; done)); (case hv => intro W hF1; have HC1 := hF1.cells; simp only [Fr.Cells, List.length_cons, List.length_nil, Nat.reduceAdd, and_true] at HC1; clear hF1; first | (go_simp; done) | (go_simp; rfl)); simp only [Act.put, List.setIfInBounds_toArray, List.set_cons_zero, List.set_cons_succ])
              (apply Fr.fr_q_val; (case hw => first | rfl | (go_simp; done)); (case hv => intro W hF1; have q0 := (hF1.below.cell (World.block_lt_of_cell? _ _ A4.out)).trans A4.out; clear hF1; first | (go_simp; done) | (go_simp; rfl)); simp only [Act.put, List.setIfInBounds_toArray, List.set_cons_zero, List.set_cons_succ])
              (apply Fr.fr_q_val; (case hw => first | rfl | (go_simp; done)); (case hv => intro W hF1; have HC1 := hF1.cells; simp only [Fr.Cells, List.length_cons, List.length_nil, Nat.reduceAdd, and_true] at HC1; clear hF1; first | (go_simp; done) | (go_simp; rfl)); simp only [Act.put, List.setIfInBounds_toArray, List.set_cons_zero, List.set_cons_succ])
              (apply Fr.fr_q_val; (case hw => first | rfl | (go_simp; done)); (case hv => intro W hF1; have HC1 := hF1.cells; simp only [Fr.Cells, List.length_cons, List.length_nil, Nat.reduceAdd, and_true] at HC1; clear hF1; first | (go_simp; done) | (go_simp; rfl)); simp only [Act.put, List.setIfInBounds_toArray, List.set_cons_zero, List.set_cons_succ])
              (apply Fr.fr_q_val; (case hw => first | rfl | (go_simp; done)); (case hv => intro W hF1; have HC1 := hF1.cells; simp only [Fr.Cells, List.length_cons, List.length_nil, Nat.reduceAdd, and_true] at HC1; clear hF1; first | (go_simp; done) | (go_simp; rfl)); simp only [Act.put, List.setIfInBounds_toArray, List.set_cons_zero, List.set_cons_succ])
              (apply Fr.fr_q_val; (case hw => first | rfl | (go_simp; done)); (case hv => intro W hF1; have HC1 := hF1.cells; simp only [Fr.Cells, List.length_cons, List.length_nil, Nat.reduceAdd, and_true] at HC1; clear hF1; first | (go_simp; done) | (go_simp; rfl)); simp only [Act.put, List.setIfInBounds_toArray, List.set_cons_zero, List.set_cons_succ])
              (apply Fr.fr_q_val; (case hw => first | rfl | (go_simp; done)); (case hv => intro W hF1; have HC1 := hF1.cells; simp only [Fr.Cells, List.length_cons, List.length_nil, Nat.reduceAdd, and_true] at HC1; clear hF1; first | (go_simp; done) | (go_simp; rfl)); simp only [Act.put, List.setIfInBounds_toArray, List.set_cons_zero, List.set_cons_succ])
              (apply Fr.fr_q_val; (case hw => first | rfl | (go_simp; done)); (case hv => intro W hF1; have HC1 := hF1.cells; simp only [Fr.Cells, List.length_cons, List.length_nil, Nat.reduceAdd, and_true] at HC1; clear hF1; first | (go_simp; done) | (go_simp; rfl)); simp only [Act.put, List.setIfInBounds_toArray, List.set_cons_zero, List.set_cons_succ])
              (apply Fr.fr_q_val; (case hw => first | rfl | (go_simp; done)); (case hv => intro W hF1; have HC1 := hF1.cells; simp only [Fr.Cells, List.length_cons, List.length_nil, Nat.reduceAdd, and_true] at HC1; clear hF1; first | (go_simp; done) | (go_simp; rfl)); simp only [Act.put, List.setIfInBounds_toArray, List.set_cons_zero, List.set_cons_succ])
              (apply Fr.fr_q_val; (case hw => first | rfl | (go_simp; done)); (case hv => intro W hF1; have HC1 := hF1.cells; simp only [Fr.Cells, List.length_cons, List.length_nil, Nat.reduceAdd, and_true] at HC1; clear hF1; first | (go_simp; done) | (go_simp; rfl)); simp only [Act.put, List.setIfInBounds_toArray, List.set_cons_zero, List.set_cons_succ])
              (apply Fr.fr_q_val; (case hw => first | rfl | (go_simp; done)); (case hv => intro W hF1; have HC1 := hF1.cells; simp only [Fr.Cells, List.length_cons, List.length_nil, Nat.reduceAdd, and_true] at HC1; clear hF1; first | (go_simp; done) | (go_simp; rfl)); simp only [Act.put, List.setIfInBounds_toArray, List.set_cons_zero, List.set_cons_succ])
              (apply Fr.fr_q_val; (case hw => first | rfl | (go_simp; done)); (case hv => intro W hF1; have HC1 := hF1.cells; simp only [Fr.Cells, List.length_cons, List.length_nil, Nat.reduceAdd, and_true] at HC1; clear hF1; first | (go_simp; done) | (go_simp; rfl)); simp only [Act.put, List.setIfInBounds_toArray, List.set_cons_zero, List.set_cons_succ])
              (apply Fr.fr_q_val; (case hw => first | rfl | (go_simp; done)); (case hv => intro W hF1; have HC1 := hF1.cells; simp only [Fr.Cells, List.length_cons, List.length_nil, Nat.reduceAdd, and_true] at HC1; clear hF1; first | (go_simp; done) | (go_simp; rfl)); simp only [Act.put, List.setIfInBounds_toArray, List.set_cons_zero, List.set_cons_succ])
              (apply Fr.fr_q_val; (case hw => first | rfl | (go_simp; done)); (case hv => intro W hF1; have HC1 := hF1.cells; simp only [Fr.Cells, List.length_cons, List.length_nil, Nat.reduceAdd, and_true] at HC1; clear hF1; first | (go_simp; done) | (go_simp; rfl)); simp only [Act.put, List.setIfInBounds_toArray, List.set_cons_zero, List.set_cons_succ])
              (apply Fr.fr_q_val; (case hw => first | rfl | (go_simp; done)); (case hv => intro W hF1; have HC1 := hF1.cells; simp only [Fr.Cells, List.length_cons, List.length_nil, Nat.reduceAdd, and_true] at HC1; clear hF1; first | (go_simp; done) | (go_simp; rfl)); simp only [Act.put, List.setIfInBounds_toArray, List.set_cons_zero, List.set_cons_succ])
              refine wpQuiet_nil ?_; intro W hF1; have HC1 := hF1.cells; simp only [Fr.Cells, List.length_cons, List.length_nil, Nat.reduceAdd, and_true] at HC1; clear hF HC; have HC := HC1; have hF := Aside0.mk hF1; clear hF1 HC1
              go_wp2_with (first | ((with_reducible refine gate_store rfl ?_); apply Fr.fr_store hF.out rfl rfl rfl; (case hp => rfl); (case hx => first | (go_simp; rfl) | rfl); (case hu => (simp only [Value.cells]; rfl)); (case hs => (repeat (first | exact Fr.Spot.here _ _ | apply Fr.Spot.there))); (case ht => kernel_rfl); (case h1 => simp [Value.oneCell']); (case hfit => simp); intro W hF1; simp only [Fr.patch, List.take_zero, List.nil_append, List.drop, List.append_nil, List.take, List.cons_append, List.length_cons, List.length_nil, Nat.reduceAdd] at hF1; have HC1 := hF1.cells; simp only [Fr.Cells, List.length_cons, List.length_nil, Nat.reduceAdd, and_true] at HC1; clear hF HC; have HC := HC1; have hF := Aside0.mk hF1; clear hF1 HC1) | ((first | (with_reducible refine Fr.gate_alloc rfl ?_) | (with_reducible refine Fr.gate_box rfl ?_)); apply Fr.fr_box hF.out rfl; (case hrun => first | (go_simp; done) | (go_simp; rfl)); intro g W hF1; have HC1 := hF1.cells; simp only [Fr.Cells, List.length_cons, List.length_nil, Nat.reduceAdd, and_true] at HC1; clear hF HC; have HC := HC1; have hF := Aside0.mk hF1; clear hF1 HC1))
              go_ret
              exact ⟨by rw [HV.out]; rfl, hF.out.below⟩
            · have HV := Aside0.mk (show dutyB c d = false by rw [HDB.out, decide_eq_false k3]; simp)
              have k3' : d.st < 1 := by omega
              clear k3
              go_enter Try.func46, Try.ntmps46
              go_wp2_with (first | ((with_reducible refine gate_store rfl ?_); apply Fr.fr_store hF.out rfl rfl rfl; (case hp => rfl); (case hx => first | (go_simp; rfl) | rfl); (case hu => (simp only [Value.cells]; rfl)); (case hs => (repeat (first | exact Fr.Spot.here _ _ | apply Fr.Spot.there))); (case ht => kernel_rfl); (case h1 => simp [Value.oneCell']); (case hfit => simp); intro W hF1; simp only [Fr.patch, List.take_zero, List.nil_append, List.drop, List.append_nil, List.take, List.cons_append, List.length_cons, List.length_nil, Nat.reduceAdd] at hF1; have HC1 := hF1.cells; simp only [Fr.Cells, List.length_cons, List.length_nil, Nat.reduceAdd, and_true] at HC1; clear hF HC; have HC := HC1; have hF := Aside0.mk hF1; clear hF1 HC1) | ((first | (with_reducible refine Fr.gate_alloc rfl ?_) | (with_reducible refine Fr.gate_box rfl ?_)); apply Fr.fr_box hF.out rfl; (case hrun => first | (go_simp; done) | (go_simp; rfl)); intro g W hF1; have HC1 := hF1.cells; simp only [Fr.Cells, List.length_cons, List.length_nil, Nat.reduceAdd, and_true] at HC1; clear hF HC; have HC := HC1; have hF := Aside0.mk hF1; clear hF1 HC1))
              (with_reducible refine (HRV.out _ hF.out.below).mono ?_); rintro e W ⟨rfl, hb⟩; have hF1 := hF.out.call hb; clear hb; have HC1 := hF1.cells; simp only [Fr.Cells, List.length_cons, List.length_nil, Nat.reduceAdd, and_true] at HC1; clear hF HC; have HC := HC1; have hF := Aside0.mk hF1; clear hF1 HC1
              go_wp2_with (first | ((with_reducible refine gate_store rfl ?_); apply Fr.fr_store hF.out rfl rfl rfl; (case hp => rfl); (case hx => first | (go_simp; rfl) | rfl); (case hu => (simp only [Value.cells]; rfl)); (case hs => (repeat (first | exact Fr.Spot.here _ _ | apply Fr.Spot.there))); (case ht => kernel_rfl); (case h1 => simp [Value.oneCell']); (case hfit => simp); intro W hF1; simp only [Fr.patch, List.take_zero, List.nil_append, List.drop, List.append_nil, List.take, List.cons_append, List.length_cons, List.length_nil, Nat.reduceAdd] at hF1; have HC1 := hF1.cells; simp only [Fr.Cells, List.length_cons, List.length_nil, Nat.reduceAdd, and_true] at HC1; clear hF HC; have HC := HC1; have hF := Aside0.mk hF1; clear hF1 HC1) | ((first | (with_reducible refine Fr.gate_alloc rfl ?_) | (with_reducible refine Fr.gate_box rfl ?_)); apply Fr.fr_box hF.out rfl; (case hrun => first | (go_simp; done) | (go_simp; rfl)); intro g W hF1; have HC1 := hF1.cells; simp only [Fr.Cells, List.length_cons, List.length_nil, Nat.reduceAdd, and_true] at HC1; clear hF HC; have HC := HC1; have hF := Aside0.mk hF1; clear hF1 HC1))
              (with_reducible refine (right_calls A2 c2 d.ls _ (Kd.C_below HR2.out hF.out.below)).mono ?_); rintro e W ⟨rfl, hb⟩; have hF1 := hF.out.call hb; clear hb; have HC1 := hF1.cells; simp only [Fr.Cells, List.length_cons, List.length_nil, Nat.reduceAdd, and_true] at HC1; clear hF HC; have HC := HC1; have hF := Aside0.mk hF1; clear hF1 HC1
              simp only [H2.out]
              go_wp2_with (first | ((with_reducible refine gate_store rfl ?_); apply Fr.fr_store hF.out rfl rfl rfl; (case hp => rfl); (case hx => first | (go_simp; rfl) | rfl); (case hu => (simp only [Value.cells]; rfl)); (case hs => (repeat (first | exact Fr.Spot.here _ _ | apply Fr.Spot.there))); (case ht => kernel_rfl); (case h1 => simp [Value.oneCell']); (case hfit => simp); intro W hF1; simp only [Fr.patch, List.take_zero, List.nil_append, List.drop, List.append_nil, List.take, List.cons_append, List.length_cons, List.length_nil, Nat.reduceAdd] at hF1; have HC1 := hF1.cells; simp only [Fr.Cells, List.length_cons, List.length_nil, Nat.reduceAdd, and_true] at HC1; clear hF HC; have HC := HC1; have hF := Aside0.mk hF1; clear hF1 HC1) | ((first | (with_reducible refine Fr.gate_alloc rfl ?_) | (with_reducible refine Fr.gate_box rfl ?_)); apply Fr.fr_box hF.out rfl; (case hrun => first | (go_simp; done) | (go_simp; rfl)); intro g W hF1; have HC1 := hF1.cells; simp only [Fr.Cells, List.length_cons, List.length_nil, Nat.reduceAdd, and_true] at HC1; clear hF HC; have HC := HC1; have hF := Aside0.mk hF1; clear hF1 HC1))
              (with_reducible refine (tick_Right.calls d.due _ _ (tick_is d.due)).mono ?_); rintro e W ⟨rfl, hb⟩; have hF1 := hF.out.call hb.below; clear hb; have HC1 := hF1.cells; simp only [Fr.Cells, List.length_cons, List.length_nil, Nat.reduceAdd, and_true] at HC1; clear hF HC; have HC := HC1; have hF := Aside0.mk hF1; clear hF1 HC1
              simp only [H3.out]
              go_wp2_with (first | ((with_reducible refine gate_store rfl ?_); apply Fr.fr_store hF.out rfl rfl rfl; (case hp => rfl); (case hx => first | (go_simp; rfl) | rfl); (case hu => (simp only [Value.cells]; rfl)); (case hs => (repeat (first | exact Fr.Spot.here _ _ | apply Fr.Spot.there))); (case ht => kernel_rfl); (case h1 => simp [Value.oneCell']); (case hfit => simp); intro W hF1; simp only [Fr.patch, List.take_zero, List.nil_append, List.drop, List.append_nil, List.take, List.cons_append, List.length_cons, List.length_nil, Nat.reduceAdd] at hF1; have HC1 := hF1.cells; simp only [Fr.Cells, List.length_cons, List.length_nil, Nat.reduceAdd, and_true] at HC1; clear hF HC; have HC := HC1; have hF := Aside0.mk hF1; clear hF1 HC1) | ((first | (with_reducible refine Fr.gate_alloc rfl ?_) | (with_reducible refine Fr.gate_box rfl ?_)); apply Fr.fr_box hF.out rfl; (case hrun => first | (go_simp; done) | (go_simp; rfl)); intro g W hF1; have HC1 := hF1.cells; simp only [Fr.Cells, List.length_cons, List.length_nil, Nat.reduceAdd, and_true] at HC1; clear hF HC; have HC := HC1; have hF := Aside0.mk hF1; clear hF1 HC1))
              refine Fr.fr_region (by kernel_rfl) (by kernel_rfl) hF.out ?_
              (apply Fr.fr_q_val; (case hw => first | rfl | (go_simp; done)); (case hv => intro W hF1; have HC1 := hF1.cells; simp only [Fr.Cells, List.length_cons, List.length_nil, Nat.reduceAdd, and_true] at HC1; clear hF1; first | (go_simp; done) | (go_simp; rfl)); simp only [Act.put, List.setIfInBounds_toArray, List.set_cons_zero, List.set_cons_succ])
              (apply Fr.fr_q_val; (case hw => first | rfl | (go_simp; done)); (case hv => intro W hF1; have HC1 := hF1.cells; simp only [Fr.Cells, List.length_cons, List.length_nil, Nat.reduceAdd, and_true] at HC1; clear hF1; first | (go_simp; done) | (go_simp; rfl)); simp only [Act.put, List.setIfInBounds_toArray, List.set_cons_zero, List.set_cons_succ])
              (apply Fr.fr_q_val; (case hw => first | rfl | (go_simp; done)); (case hv => intro W hF1; have HC1 := hF1.cells; simp only [Fr.Cells, List.length_cons, List.length_nil, Nat.reduceAdd, and_true] at HC1; clear hF1; first | (go_simp; done) | (go_simp; rfl)); simp only [Act.put, List.setIfInBounds_toArray, List.set_cons_zero, List.set_cons_succ])
              (apply Fr.fr_q_val; (case hw => first | rfl | (go_simp; done)); (case hv => intro W hF1; have HC1 := hF1.cells; simp only [Fr.Cells, List.length_cons, List.length_nil, Nat.reduceAdd, and_true] at HC1; clear hF1; first | (go_simp; done) | (go_simp; rfl)); simp only [Act.put, List.setIfInBounds_toArray, List.set_cons_zero, List.set_cons_succ])
              (apply Fr.fr_q_val; (case hw => first | rfl | (go_simp; done)); (case hv => intro W hF1; have HC1 := hF1.cells; simp only [Fr.Cells, List.length_cons, List.length_nil, Nat.reduceAdd, and_true] at HC1; clear hF1; first | (go_simp; done) | (go_simp; rfl)); simp only [Act.put, List.setIfInBounds_toArray, List.set_cons_zero, List.set_cons_succ])
              (apply Fr.fr_q_val; (case hw => first | rfl | (go_simp; done)); (case hv => intro W hF1; have HC1 := hF1.cells; simp only [Fr.Cells, List.length_cons, List.length_nil, Nat.reduceAdd, and_true] at HC1; clear hF1; first | (go_simp; done) | (go_simp; rfl)); simp only [Act.put, List.setIfInBounds_toArray, List.set_cons_zero, List.set_cons_succ])
              (apply Fr.fr_q_val; (case hw => first | rfl | (go_simp; done)); (case hv => intro W hF1; have HC1 := hF1.cells; simp only [Fr.Cells, List.length_cons, List.length_nil, Nat.reduceAdd, and_true] at HC1; clear hF1; first | (go_simp; done) | (go_simp; rfl)); simp only [Act.put, List.setIfInBounds_toArray, List.set_cons_zero, List.set_cons_succ])
              (apply Fr.fr_q_val; (case hw => first | rfl | (go_simp; done)); (case hv => intro W hF1; have HC1 := hF1.cells; simp only [Fr.Cells, List.length_cons, List.length_nil, Nat.reduceAdd, and_true] at HC1; clear hF1; first | (go_simp; done) | (go_simp; rfl)); simp only [Act.put, List.setIfInBounds_toArray, List.set_cons_zero, List.set_cons_succ])
              (apply Fr.fr_q_val; (case hw => first | rfl | (go_simp; done)); (case hv => intro W hF1; have HC1 := hF1.cells; simp only [Fr.Cells, List.length_cons, List.length_nil, Nat.reduceAdd, and_true] at HC1; clear hF1; first | (go_simp; done) | (go_simp; rfl)); simp only [Act.put, List.setIfInBounds_toArray, List.set_cons_zero, List.set_cons_succ])
              (apply Fr.fr_q_val; (case hw => first | rfl | (go_simp; done)); (case hv => intro W hF1; have HC1 := hF1.cells; simp only [Fr.Cells, List.length_cons, List.length_nil, Nat.reduceAdd, and_true] at HC1; clear hF1; first | (go_simp; done) | (go_simp; rfl)); simp only [Act.put, List.setIfInBounds_toArray, List.set_cons_zero, List.set_cons_succ])
              (apply Fr.fr_q_val; (case hw => first | rfl | (go_simp; done)); (case hv => intro W hF1; have HC1 := hF1.cells; simp only [Fr.Cells, List.length_cons, List.length_nil, Nat.reduceAdd, and_true] at HC1; clear hF1; first | (go_simp; done) | (go_simp; rfl)); simp only [Act.put, List.setIfInBounds_toArray, List.set_cons_zero, List.set_cons_succ])
              (apply Fr.fr_q_val; (case hw => first | rfl | (go_simp; done)); (case hv => intro W hF1; have q0 := (hF1.below.cell (World.block_lt_of_cell? _ _ A4.out)).trans A4.out; clear hF1; first | (go_simp; done) | (go_simp; rfl)); simp only [Act.put, List.setIfInBounds_toArray, List.set_cons_zero, List.set_cons_succ])
              (apply Fr.fr_q_val; (case hw => first | rfl | (go_simp; done)); (case hv => intro W hF1; have HC1 := hF1.cells; simp only [Fr.Cells, List.length_cons, List.length_nil, Nat.reduceAdd, and_true] at HC1; clear hF1; first | (go_simp; done) | (go_simp; rfl)); simp only [Act.put, List.setIfInBounds_toArray, List.set_cons_zero, List.set_cons_succ])
              (apply Fr.fr_q_val; (case hw => first | rfl | (go_simp; done)); (case hv => intro W hF1; have HC1 := hF1.cells; simp only [Fr.Cells, List.length_cons, List.length_nil, Nat.reduceAdd, and_true] at HC1; clear hF1; first | (go_simp; done) | (go_simp; rfl)); simp only [Act.put, List.setIfInBounds_toArray, List.set_cons_zero, List.set_cons_succ])
              (apply Fr.fr_q_val; (case hw => first | rfl | (go_simp; done)); (case hv => intro W hF1; have HC1 := hF1.cells; simp only [Fr.Cells, List.length_cons, List.length_nil, Nat.reduceAdd, and_true] at HC1; clear hF1; first | (go_simp; done) | (go_simp; rfl)); simp only [Act.put, List.setIfInBounds_toArray, List.set_cons_zero, List.set_cons_succ])
              (apply Fr.fr_q_val; (case hw => first | rfl | (go_simp; done)); (case hv => intro W hF1; have HC1 := hF1.cells; simp only [Fr.Cells, List.length_cons, List.length_nil, Nat.reduceAdd, and_true] at HC1; clear hF1; first | (go_simp; done) | (go_simp; rfl)); simp only [Act.put, List.setIfInBounds_toArray, List.set_cons_zero, List.set_cons_succ])
              (apply Fr.fr_q_val; (case hw => first | rfl | (go_simp; done)); (case hv => intro W hF1; have HC1 := hF1.cells; simp only [Fr.Cells, List.length_cons, List.length_nil, Nat.reduceAdd, and_true] at HC1; clear hF1; first | (go_simp; done) | (go_simp; rfl)); simp only [Act.put, List.setIfInBounds_toArray, List.set_cons_zero, List.set_cons_succ])
              (apply Fr.fr_q_val; (case hw => first | rfl | (go_simp; done)); (case hv => intro W hF1; have HC1 := hF1.cells; simp only [Fr.Cells, List.length_cons, List.length_nil, Nat.reduceAdd, and_true] at HC1; clear hF1; first | (go_simp; done) | (go_simp; rfl)); simp only [Act.put, List.setIfInBounds_toArray, List.set_cons_zero, List.set_cons_succ])
              (apply Fr.fr_q_val; (case hw => first | rfl | (go_simp; done)); (case hv => intro W hF1; have HC1 := hF1.cells; simp only [Fr.Cells, List.length_cons, List.length_nil, Nat.reduceAdd, and_true] at HC1; clear hF1; first | (go_simp; done) | (go_simp; rfl)); simp only [Act.put, List.setIfInBounds_toArray, List.set_cons_zero, List.set_cons_succ])
              (apply Fr.fr_q_val; (case hw => first | rfl | (go_simp; done)); (case hv => intro W hF1; have HC1 := hF1.cells; simp only [Fr.Cells, List.length_cons, List.length_nil, Nat.reduceAdd, and_true] at HC1; clear hF1; first | (go_simp; done) | (go_simp; rfl)); simp only [Act.put, List.setIfInBounds_toArray, List.set_cons_zero, List.set_cons_succ])
              (apply Fr.fr_q_skip; (case hw => first | rfl | (go_simp; done)); simp only [Act.put, List.setIfInBounds_toArray, List.set_cons_zero, List.set_cons_succ])
              (apply Fr.fr_q_skip; (case hw => first | rfl | (go_simp; done)); simp only [Act.put, List.setIfInBounds_toArray, List.set_cons_zero, List.set_cons_succ])
              (apply Fr.fr_q_skip; (case hw => first | rfl | (go_simp; done)); simp only [Act.put, List.setIfInBounds_toArray, List.set_cons_zero, List.set_cons_succ])
              (apply Fr.fr_q_val; (case hw => first | rfl | (go_simp; done)); (case hv => intro W hF1; have HC1 := hF1.cells; simp only [Fr.Cells, List.length_cons, List.length_nil, Nat.reduceAdd, and_true] at HC1; clear hF1; first | (go_simp; done) | (go_simp; rfl)); simp only [Act.put, List.setIfInBounds_toArray, List.set_cons_zero, List.set_cons_succ])
              (apply Fr.fr_q_val; (case hw => first | rfl | (go_simp; done)); (case hv => intro W hF1; have HC1 := hF1.cells; simp only [Fr.Cells, List.length_cons, List.length_nil, Nat.reduceAdd, and_true] at HC1; clear hF1; first | (go_simp; done) | (go_simp; rfl)); simp only [Act.put, List.setIfInBounds_toArray, List.set_cons_zero, List.set_cons_succ])
              refine wpQuiet_nil ?_; intro W hF1; have HC1 := hF1.cells; simp only [Fr.Cells, List.length_cons, List.length_nil, Nat.reduceAdd, and_true] at HC1; clear hF HC; have HC := HC1; have hF := Aside0.mk hF1; clear hF1 HC1
              go_wp2_with (first | ((with_reducible refine gate_store rfl ?_); apply Fr.fr_store hF.out rfl rfl rfl; (case hp => rfl); (case hx => first | (go_simp; rfl) | rfl); (case hu => (simp only [Value.cells]; rfl)); (case hs => (repeat (first | exact Fr.Spot.here _ _ | apply Fr.Spot.there))); (case ht => kernel_rfl); (case h1 => simp [Value.oneCell']); (case hfit => simp); intro W hF1; simp only [Fr.patch, List.take_zero, List.nil_append, List.drop, List.append_nil, List.take, List.cons_append, List.length_cons, List.length_nil, Nat.reduceAdd] at hF1; have HC1 := hF1.cells; simp only [Fr.Cells, List.length_cons, List.length_nil, Nat.reduceAdd, and_true] at HC1; clear hF HC; have HC := HC1; have hF := Aside0.mk hF1; clear hF1 HC1) | ((first | (with_reducible refine Fr.gate_alloc rfl ?_) | (with_reducible refine Fr.gate_box rfl ?_)); apply Fr.fr_box hF.out rfl; (case hrun => first | (go_simp; done) | (go_simp; rfl)); intro g W hF1; have HC1 := hF1.cells; simp only [Fr.Cells, List.length_cons, List.length_nil, Nat.reduceAdd, and_true] at HC1; clear hF HC; have HC := HC1; have hF := Aside0.mk hF1; clear hF1 HC1))
              go_ret
              exact ⟨by rw [HV.out]; rfl, hF.out.below⟩
          · have HV := Aside0.mk (show dutyB c d = false by rw [HDB.out, decide_eq_false k2]; simp)
            have k2' : x.f2 ≤ d.tr := by omega
            have HD := Aside0.mk (decide_eq_false k2)
            clear k2
            go_enter Try.func46, Try.ntmps46
            go_wp2_with (first | ((with_reducible refine gate_store rfl ?_); apply Fr.fr_store hF.out rfl rfl rfl; (case hp => rfl); (case hx => first | (go_simp; rfl) | rfl); (case hu => (simp only [Value.cells]; rfl)); (case hs => (repeat (first | exact Fr.Spot.here _ _ | apply Fr.Spot.there))); (case ht => kernel_rfl); (case h1 => simp [Value.oneCell']); (case hfit => simp); intro W hF1; simp only [Fr.patch, List.take_zero, List.nil_append, List.drop, List.append_nil, List.take, List.cons_append, List.length_cons, List.length_nil, Nat.reduceAdd] at hF1; have HC1 := hF1.cells; simp only [Fr.Cells, List.length_cons, List.length_nil, Nat.reduceAdd, and_true] at HC1; clear hF HC; have HC := HC1; have hF := Aside0.mk hF1; clear hF1 HC1) | ((first | (with_reducible refine Fr.gate_alloc rfl ?_) | (with_reducible refine Fr.gate_box rfl ?_)); apply Fr.fr_box hF.out rfl; (case hrun => first | (go_simp; done) | (go_simp; rfl)); intro g W hF1; have HC1 := hF1.cells; simp only [Fr.Cells, List.length_cons, List.length_nil, Nat.reduceAdd, and_true] at HC1; clear hF HC; have HC := HC1; have hF := Aside0.mk hF1; clear hF1 HC1))
            (with_reducible refine (HRV.out _ hF.out.below).mono ?_); rintro e W ⟨rfl, hb⟩; have hF1 := hF.out.call hb; clear hb; have HC1 := hF1.cells; simp only [Fr.Cells, List.length_cons, List.length_nil, Nat.reduceAdd, and_true] at HC1; clear hF HC; have HC := HC1; have hF := Aside0.mk hF1; clear hF1 HC1
            go_wp2_with (first | ((with_reducible refine gate_store rfl ?_); apply Fr.fr_store hF.out rfl rfl rfl; (case hp => rfl); (case hx => first | (go_simp; rfl) | rfl); (case hu => (simp only [Value.cells]; rfl)); (case hs => (repeat (first | exact Fr.Spot.here _ _ | apply Fr.Spot.there))); (case ht => kernel_rfl); (case h1 => simp [Value.oneCell']); (case hfit => simp); intro W hF1; simp only [Fr.patch, List.take_zero, List.nil_append, List.drop, List.append_nil, List.take, List.cons_append, List.length_cons, List.length_nil, Nat.reduceAdd] at hF1; have HC1 := hF1.cells; simp only [Fr.Cells, List.length_cons, List.length_nil, Nat.reduceAdd, and_true] at HC1; clear hF HC; have HC := HC1; have hF := Aside0.mk hF1; clear hF1 HC1) | ((first | (with_reducible refine Fr.gate_alloc rfl ?_) | (with_reducible refine Fr.gate_box rfl ?_)); apply Fr.fr_box hF.out rfl; (case hrun => first | (go_simp; done) | (go_simp; rfl)); intro g W hF1; have HC1 := hF1.cells; simp only [Fr.Cells, List.length_cons, List.length_nil, Nat.reduceAdd, and_true] at HC1; clear hF HC; have HC := HC1; have hF := Aside0.mk hF1; clear hF1 HC1))
            (with_reducible refine (right_calls A2 c2 d.ls _ (Kd.C_below HR2.out hF.out.below)).mono ?_); rintro e W ⟨rfl, hb⟩; have hF1 := hF.out.call hb; clear hb; have HC1 := hF1.cells; simp only [Fr.Cells, List.length_cons, List.length_nil, Nat.reduceAdd, and_true] at HC1; clear hF HC; have HC := HC1; have hF := Aside0.mk hF1; clear hF1 HC1
            simp only [H2.out]
            go_wp2_with (first | ((with_reducible refine gate_store rfl ?_); apply Fr.fr_store hF.out rfl rfl rfl; (case hp => rfl); (case hx => first | (go_simp; rfl) | rfl); (case hu => (simp only [Value.cells]; rfl)); (case hs => (repeat (first | exact Fr.Spot.here _ _ | apply Fr.Spot.there))); (case ht => kernel_rfl); (case h1 => simp [Value.oneCell']); (case hfit => simp); intro W hF1; simp only [Fr.patch, List.take_zero, List.nil_append, List.drop, List.append_nil, List.take, List.cons_append, List.length_cons, List.length_nil, Nat.reduceAdd] at hF1; have HC1 := hF1.cells; simp only [Fr.Cells, List.length_cons, List.length_nil, Nat.reduceAdd, and_true] at HC1; clear hF HC; have HC := HC1; have hF := Aside0.mk hF1; clear hF1 HC1) | ((first | (with_reducible refine Fr.gate_alloc rfl ?_) | (with_reducible refine Fr.gate_box rfl ?_)); apply Fr.fr_box hF.out rfl; (case hrun => first | (go_simp; done) | (go_simp; rfl)); intro g W hF1; have HC1 := hF1.cells; simp only [Fr.Cells, List.length_cons, List.length_nil, Nat.reduceAdd, and_true] at HC1; clear hF HC; have HC := HC1; have hF := Aside0.mk hF1; clear hF1 HC1))
            (with_reducible refine (tick_Right.calls d.due _ _ (tick_is d.due)).mono ?_); rintro e W ⟨rfl, hb⟩; have hF1 := hF.out.call hb.below; clear hb; have HC1 := hF1.cells; simp only [Fr.Cells, List.length_cons, List.length_nil, Nat.reduceAdd, and_true] at HC1; clear hF HC; have HC := HC1; have hF := Aside0.mk hF1; clear hF1 HC1
            simp only [H3.out]
            go_wp2_with (first | ((with_reducible refine gate_store rfl ?_); apply Fr.fr_store hF.out rfl rfl rfl; (case hp => rfl); (case hx => first | (go_simp; rfl) | rfl); (case hu => (simp only [Value.cells]; rfl)); (case hs => (repeat (first | exact Fr.Spot.here _ _ | apply Fr.Spot.there))); (case ht => kernel_rfl); (case h1 => simp [Value.oneCell']); (case hfit => simp); intro W hF1; simp only [Fr.patch, List.take_zero, List.nil_append, List.drop, List.append_nil, List.take, List.cons_append, List.length_cons, List.length_nil, Nat.reduceAdd] at hF1; have HC1 := hF1.cells; simp only [Fr.Cells, List.length_cons, List.length_nil, Nat.reduceAdd, and_true] at HC1; clear hF HC; have HC := HC1; have hF := Aside0.mk hF1; clear hF1 HC1) | ((first | (with_reducible refine Fr.gate_alloc rfl ?_) | (with_reducible refine Fr.gate_box rfl ?_)); apply Fr.fr_box hF.out rfl; (case hrun => first | (go_simp; done) | (go_simp; rfl)); intro g W hF1; have HC1 := hF1.cells; simp only [Fr.Cells, List.length_cons, List.length_nil, Nat.reduceAdd, and_true] at HC1; clear hF HC; have HC := HC1; have hF := Aside0.mk hF1; clear hF1 HC1))
            refine Fr.fr_region (by kernel_rfl) (by kernel_rfl) hF.out ?_
            (apply Fr.fr_q_val; (case hw => first | rfl | (go_simp; done)); (case hv => intro W hF1; have HC1 := hF1.cells; simp only [Fr.Cells, List.length_cons, List.length_nil, Nat.reduceAdd, and_true] at HC1; clear hF1; first | (go_simp; done) | (go_simp; rfl)); simp only [Act.put, List.setIfInBounds_toArray, List.set_cons_zero, List.set_cons_succ])
            (apply Fr.fr_q_val; (case hw => first | rfl | (go_simp; done)); (case hv => intro W hF1; have HC1 := hF1.cells; simp only [Fr.Cells, List.length_cons, List.length_nil, Nat.reduceAdd, and_true] at HC1; clear hF1; first | (go_simp; done) | (go_simp; rfl)); simp only [Act.put, List.setIfInBounds_toArray, List.set_cons_zero, List.set_cons_succ])
            (apply Fr.fr_q_val; (case hw => first | rfl | (go_simp; done)); (case hv => intro W hF1; have HC1 := hF1.cells; simp only [Fr.Cells, List.length_cons, List.length_nil, Nat.reduceAdd, and_true] at HC1; clear hF1; first | (go_simp; done) | (go_simp; rfl)); simp only [Act.put, List.setIfInBounds_toArray, List.set_cons_zero, List.set_cons_succ])
            (apply Fr.fr_q_val; (case hw => first | rfl | (go_simp; done)); (case hv => intro W hF1; have HC1 := hF1.cells; simp only [Fr.Cells, List.length_cons, List.length_nil, Nat.reduceAdd, and_true] at HC1; clear hF1; first | (go_simp; done) | (go_simp; rfl)); simp only [Act.put, List.setIfInBounds_toArray, List.set_cons_zero, List.set_cons_succ])
            (apply Fr.fr_q_val; (case hw => first | rfl | (go_simp; done)); (case hv => intro W hF1; have HC1 := hF1.cells; simp only [Fr.Cells, List.length_cons, List.length_nil, Nat.reduceAdd, and_true] at HC1; clear hF1; first | (go_simp; done) | (go_simp; rfl)); simp only [Act.put, List.setIfInBounds_toArray, List.set_cons_zero, List.set_cons_succ])
            (apply Fr.fr_q_val; (case hw => first | rfl | (go_simp; done)); (case hv => intro W hF1; have HC1 := hF1.cells; simp only [Fr.Cells, List.length_cons, List.length_nil, Nat.reduceAdd, and_true] at HC1; clear hF1; first | (go_simp; done) | (go_simp; rfl)); simp only [Act.put, List.setIfInBounds_toArray, List.set_cons_zero, List.set_cons_succ])
            (apply Fr.fr_q_val; (case hw => first | rfl | (go_simp; done)); (case hv => intro W hF1; have HC1 := hF1.cells; simp only [Fr.Cells, List.length_cons, List.length_nil, Nat.reduceAdd, and_true] at HC1; clear hF1; first | (go_simp; done) | (go_simp; rfl)); simp only [Act.put, List.setIfInBounds_toArray, List.set_cons_zero, List.set_cons_succ])
            (apply Fr.fr_q_val; (case hw => first | rfl | (go_simp; done)); (case hv => intro W hF1; have HC1 := hF1.cells; simp only [Fr.Cells, List.length_cons, List.length_nil, Nat.reduceAdd, and_true] at HC1; clear hF1; first | (go_simp; done) | (go_simp; rfl)); simp only [Act.put, List.setIfInBounds_toArray, List.set_cons_zero, List.set_cons_succ])
            (apply Fr.fr_q_val; (case hw => first | rfl | (go_simp; done)); (case hv => intro W hF1; have HC1 := hF1.cells; simp only [Fr.Cells, List.length_cons, List.length_nil, Nat.reduceAdd, and_true] at HC1; clear hF1; first | (go_simp; done) | (go_simp; rfl)); simp only [Act.put, List.setIfInBounds_toArray, List.set_cons_zero, List.set_cons_succ])
            (apply Fr.fr_q_val; (case hw => first | rfl | (go_simp; done)); (case hv => intro W hF1; have HC1 := hF1.cells; simp only [Fr.Cells, List.length_cons, List.length_nil, Nat.reduceAdd, and_true] at HC1; clear hF1; first | (go_simp; done) | (go_simp; rfl)); simp only [Act.put, List.setIfInBounds_toArray, List.set_cons_zero, List.set_cons_succ])
            (apply Fr.fr_q_val; (case hw => first | rfl | (go_simp; done)); (case hv => intro W hF1; have HC1 := hF1.cells; simp only [Fr.Cells, List.length_cons, List.length_nil, Nat.reduceAdd, and_true] at HC1; clear hF1; first | (go_simp; done) | (go_simp; rfl)); simp only [Act.put, List.setIfInBounds_toArray, List.set_cons_zero, List.set_cons_succ])
            (apply Fr.fr_q_val; (case hw => first | rfl | (go_simp; done)); (case hv => intro W hF1; have q0 := (hF1.below.cell (World.block_lt_of_cell? _ _ A4.out)).trans A4.out; clear hF1; first | (go_simp; done) | (go_simp; rfl)); simp only [Act.put, List.setIfInBounds_toArray, List.set_cons_zero, List.set_cons_succ])
            (apply Fr.fr_q_val; (case hw => first | rfl | (go_simp; done)); (case hv => intro W hF1; have HC1 := hF1.cells; simp only [Fr.Cells, List.length_cons, List.length_nil, Nat.reduceAdd, and_true] at HC1; clear hF1; first | (go_simp; done) | (go_simp; rfl)); simp only [Act.put, List.setIfInBounds_toArray, List.set_cons_zero, List.set_cons_succ])
            (apply Fr.fr_q_val (v := .bool false); (case hw => first | rfl | (go_simp; done)); (case hv => intro W hF1; have HC1 := hF1.cells; simp only [Fr.Cells, List.length_cons, List.length_nil, Nat.reduceAdd, and_true] at HC1; clear hF1; have hd9 := HD.out; first | (go_simp; done) | (go_simp; rw [if_neg (of_decide_eq_false hd9)]) | (go_simp; rw [if_pos (of_decide_eq_true hd9)])); simp only [Act.put, List.setIfInBounds_toArray, List.set_cons_zero, List.set_cons_succ])
            (apply Fr.fr_q_val; (case hw => first | rfl | (go_simp; done)); (case hv => intro W hF1; have HC1 := hF1.cells; simp only [Fr.Cells, List.length_cons, List.length_nil, Nat.reduceAdd, and_true] at HC1; clear hF1; first | (go_simp; done) | (go_simp; rfl)); simp only [Act.put, List.setIfInBounds_toArray, List.set_cons_zero, List.set_cons_succ])
            (apply Fr.fr_q_skip; (case hw => first | rfl | (go_simp; done)); simp only [Act.put, List.setIfInBounds_toArray, List.set_cons_zero, List.set_cons_succ])
            (apply Fr.fr_q_skip; (case hw => first | rfl | (go_simp; done)); simp only [Act.put, List.setIfInBounds_toArray, List.set_cons_zero, List.set_cons_succ])
            (apply Fr.fr_q_skip; (case hw => first | rfl | (go_simp; done)); simp only [Act.put, List.setIfInBounds_toArray, List.set_cons_zero, List.set_cons_succ])
            (apply Fr.fr_q_val; (case hw => first | rfl | (go_simp; done)); (case hv => intro W hF1; have HC1 := hF1.cells; simp only [Fr.Cells, List.length_cons, List.length_nil, Nat.reduceAdd, and_true] at HC1; clear hF1; first | (go_simp; done) | (go_simp; rfl)); simp only [Act.put, List.setIfInBounds_toArray, List.set_cons_zero, List.set_cons_succ])
            (apply Fr.fr_q_val; (case hw => first | rfl | (go_simp; done)); (case hv => intro W hF1; have HC1 := hF1.cells; simp only [Fr.Cells, List.length_cons, List.length_nil, Nat.reduceAdd, and_true] at HC1; clear hF1; first | (go_simp; done) | (go_simp; rfl)); simp only [Act.put, List.setIfInBounds_toArray, List.set_cons_zero, List.set_cons_succ])
            (apply Fr.fr_q_skip; (case hw => first | rfl | (go_simp; done)); simp only [Act.put, List.setIfInBounds_toArray, List.set_cons_zero, List.set_cons_succ])
            (apply Fr.fr_q_skip; (case hw => first | rfl | (go_simp; done)); simp only [Act.put, List.setIfInBounds_toArray, List.set_cons_zero, List.set_cons_succ])
            (apply Fr.fr_q_skip; (case hw => first | rfl | (go_simp; done)); simp only [Act.put, List.setIfInBounds_toArray, List.set_cons_zero, List.set_cons_succ])
            (apply Fr.fr_q_val; (case hw => first | rfl | (go_simp; done)); (case hv => intro W hF1; have HC1 := hF1.cells; simp only [Fr.Cells, List.length_cons, List.length_nil, Nat.reduceAdd, and_true] at HC1; clear hF1; first | (go_simp; done) | (go_simp; rfl)); simp only [Act.put, List.setIfInBounds_toArray, List.set_cons_zero, List.set_cons_succ])
            (apply Fr.fr_q_val; (case hw => first | rfl | (go_simp; done)); (case hv => intro W hF1; have HC1 := hF1.cells; simp only [Fr.Cells, List.length_cons, List.length_nil, Nat.reduceAdd, and_true] at HC1; clear hF1; first | (go_simp; done) | (go_simp; rfl)); simp only [Act.put, List.setIfInBounds_toArray, List.set_cons_zero, List.set_cons_succ])
            refine wpQuiet_nil ?_; intro W hF1; have HC1 := hF1.cells; simp only [Fr.Cells, List.length_cons, List.length_nil, Nat.reduceAdd, and_true] at HC1; clear hF HC; have HC := HC1; have hF := Aside0.mk hF1; clear hF1 HC1
            go_wp2_with (first | ((with_reducible refine gate_store rfl ?_); apply Fr.fr_store hF.out rfl rfl rfl; (case hp => rfl); (case hx => first | (go_simp; rfl) | rfl); (case hu => (simp only [Value.cells]; rfl)); (case hs => (repeat (first | exact Fr.Spot.here _ _ | apply Fr.Spot.there))); (case ht => kernel_rfl); (case h1 => simp [Value.oneCell']); (case hfit => simp); intro W hF1; simp only [Fr.patch, List.take_zero, List.nil_append, List.drop, List.append_nil, List.take, List.cons_append, List.length_cons, List.length_nil, Nat.reduceAdd] at hF1; have HC1 := hF1.cells; simp only [Fr.Cells, List.length_cons, List.length_nil, Nat.reduceAdd, and_true] at HC1; clear hF HC; have HC := HC1; have hF := Aside0.mk hF1; clear hF1 HC1) | ((first | (with_reducible refine Fr.gate_alloc rfl ?_) | (with_reducible refine Fr.gate_box rfl ?_)); apply Fr.fr_box hF.out rfl; (case hrun => first | (go_simp; done) | (go_simp; rfl)); intro g W hF1; have HC1 := hF1.cells; simp only [Fr.Cells, List.length_cons, List.length_nil, Nat.reduceAdd, and_true] at HC1; clear hF HC; have HC := HC1; have hF := Aside0.mk hF1; clear hF1 HC1))
            go_ret
            exact ⟨by rw [HV.out]; rfl, hF.out.below⟩
        · have HV := Aside0.mk (show dutyB c d = false by rw [HDB.out, decide_eq_false k1]; simp)
          have k1' : d.tr < 0 := by omega
          have HD := Aside0.mk (decide_eq_false k1)
          clear k1
          go_enter Try.func46, Try.ntmps46
          go_wp2_with (first | ((with_reducible refine gate_store rfl ?_); apply Fr.fr_store hF.out rfl rfl rfl; (case hp => rfl); (case hx => first | (go_simp; rfl) | rfl); (case hu => (simp only [Value.cells]; rfl)); (case hs => (repeat (first | exact Fr.Spot.here _ _ | apply Fr.Spot.there))); (case ht => kernel_rfl); (case h1 => simp [Value.oneCell']); (case hfit => simp); intro W hF1; simp only [Fr.patch, List.take_zero, List.nil_append, List.drop, List.append_nil, List.take, List.cons_append, List.length_cons, List.length_nil, Nat.reduceAdd] at hF1; have HC1 := hF1.cells; simp only [Fr.Cells, List.length_cons, List.length_nil, Nat.reduceAdd, and_true] at HC1; clear hF HC; have HC := HC1; have hF := Aside0.mk hF1; clear hF1 HC1) | ((first | (with_reducible refine Fr.gate_alloc rfl ?_) | (with_reducible refine Fr.gate_box rfl ?_)); apply Fr.fr_box hF.out rfl; (case hrun => first | (go_simp; done) | (go_simp; rfl)); intro g W hF1; have HC1 := hF1.cells; simp only [Fr.Cells, List.length_cons, List.length_nil, Nat.reduceAdd, and_true] at HC1; clear hF HC; have HC := HC1; have hF := Aside0.mk hF1; clear hF1 HC1))
          (with_reducible refine (HRV.out _ hF.out.below).mono ?_); rintro e W ⟨rfl, hb⟩; have hF1 := hF.out.call hb; clear hb; have HC1 := hF1.cells; simp only [Fr.Cells, List.length_cons, List.length_nil, Nat.reduceAdd, and_true] at HC1; clear hF HC; have HC := HC1; have hF := Aside0.mk hF1; clear hF1 HC1
          go_wp2_with (first | ((with_reducible refine gate_store rfl ?_); apply Fr.fr_store hF.out rfl rfl rfl; (case hp => rfl); (case hx => first | (go_simp; rfl) | rfl); (case hu => (simp only [Value.cells]; rfl)); (case hs => (repeat (first | exact Fr.Spot.here _ _ | apply Fr.Spot.there))); (case ht => kernel_rfl); (case h1 => simp [Value.oneCell']); (case hfit => simp); intro W hF1; simp only [Fr.patch, List.take_zero, List.nil_append, List.drop, List.append_nil, List.take, List.cons_append, List.length_cons, List.length_nil, Nat.reduceAdd] at hF1; have HC1 := hF1.cells; simp only [Fr.Cells, List.length_cons, List.length_nil, Nat.reduceAdd, and_true] at HC1; clear hF HC; have HC := HC1; have hF := Aside0.mk hF1; clear hF1 HC1) | ((first | (with_reducible refine Fr.gate_alloc rfl ?_) | (with_reducible refine Fr.gate_box rfl ?_)); apply Fr.fr_box hF.out rfl; (case hrun => first | (go_simp; done) | (go_simp; rfl)); intro g W hF1; have HC1 := hF1.cells; simp only [Fr.Cells, List.length_cons, List.length_nil, Nat.reduceAdd, and_true] at HC1; clear hF HC; have HC := HC1; have hF := Aside0.mk hF1; clear hF1 HC1))
          (with_reducible refine (right_calls A2 c2 d.ls _ (Kd.C_below HR2.out hF.out.below)).mono ?_); rintro e W ⟨rfl, hb⟩; have hF1 := hF.out.call hb; clear hb; have HC1 := hF1.cells; simp only [Fr.Cells, List.length_cons, List.length_nil, Nat.reduceAdd, and_true] at HC1; clear hF HC; have HC := HC1; have hF := Aside0.mk hF1; clear hF1 HC1
          simp only [H2.out]
          go_wp2_with (first | ((with_reducible refine gate_store rfl ?_); apply Fr.fr_store hF.out rfl rfl rfl; (case hp => rfl); (case hx => first | (go_simp; rfl) | rfl); (case hu => (simp only [Value.cells]; rfl)); (case hs => (repeat (first | exact Fr.Spot.here _ _ | apply Fr.Spot.there))); (case ht => kernel_rfl); (case h1 => simp [Value.oneCell']); (case hfit => simp); intro W hF1; simp only [Fr.patch, List.take_zero, List.nil_append, List.drop, List.append_nil, List.take, List.cons_append, List.length_cons, List.length_nil, Nat.reduceAdd] at hF1; have HC1 := hF1.cells; simp only [Fr.Cells, List.length_cons, List.length_nil, Nat.reduceAdd, and_true] at HC1; clear hF HC; have HC := HC1; have hF := Aside0.mk hF1; clear hF1 HC1) | ((first | (with_reducible refine Fr.gate_alloc rfl ?_) | (with_reducible refine Fr.gate_box rfl ?_)); apply Fr.fr_box hF.out rfl; (case hrun => first | (go_simp; done) | (go_simp; rfl)); intro g W hF1; have HC1 := hF1.cells; simp only [Fr.Cells, List.length_cons, List.length_nil, Nat.reduceAdd, and_true] at HC1; clear hF HC; have HC := HC1; have hF := Aside0.mk hF1; clear hF1 HC1))
          (with_reducible refine (tick_Right.calls d.due _ _ (tick_is d.due)).mono ?_); rintro e W ⟨rfl, hb⟩; have hF1 := hF.out.call hb.below; clear hb; have HC1 := hF1.cells; simp only [Fr.Cells, List.length_cons, List.length_nil, Nat.reduceAdd, and_true] at HC1; clear hF HC; have HC := HC1; have hF := Aside0.mk hF1; clear hF1 HC1
          simp only [H3.out]
          go_wp2_with (first | ((with_reducible refine gate_store rfl ?_); apply Fr.fr_store hF.out rfl rfl rfl; (case hp => rfl); (case hx => first | (go_simp; rfl) | rfl); (case hu => (simp only [Value.cells]; rfl)); (case hs => (repeat (first | exact Fr.Spot.here _ _ | apply Fr.Spot.there))); (case ht => kernel_rfl); (case h1 => simp [Value.oneCell']); (case hfit => simp); intro W hF1; simp only [Fr.patch, List.take_zero, List.nil_append, List.drop, List.append_nil, List.take, List.cons_append, List.length_cons, List.length_nil, Nat.reduceAdd] at hF1; have HC1 := hF1.cells; simp only [Fr.Cells, List.length_cons, List.length_nil, Nat.reduceAdd, and_true] at HC1; clear hF HC; have HC := HC1; have hF := Aside0.mk hF1; clear hF1 HC1) | ((first | (with_reducible refine Fr.gate_alloc rfl ?_) | (with_reducible refine Fr.gate_box rfl ?_)); apply Fr.fr_box hF.out rfl; (case hrun => first | (go_simp; done) | (go_simp; rfl)); intro g W hF1; have HC1 := hF1.cells; simp only [Fr.Cells, List.length_cons, List.length_nil, Nat.reduceAdd, and_true] at HC1; clear hF HC; have HC := HC1; have hF := Aside0.mk hF1; clear hF1 HC1))
          refine Fr.fr_region (by kernel_rfl) (by kernel_rfl) hF.out ?_
          (apply Fr.fr_q_val; (case hw => first | rfl | (go_simp; done)); (case hv => intro W hF1; have HC1 := hF1.cells; simp only [Fr.Cells, List.length_cons, List.length_nil, Nat.reduceAdd, and_true] at HC1; clear hF1; first | (go_simp; done) | (go_simp; rfl)); simp only [Act.put, List.setIfInBounds_toArray, List.set_cons_zero, List.set_cons_succ])
          (apply Fr.fr_q_val; (case hw => first | rfl | (go_simp; done)); (case hv => intro W hF1; have HC1 := hF1.cells; simp only [Fr.Cells, List.length_cons, List.length_nil, Nat.reduceAdd, and_true] at HC1; clear hF1; first | (go_simp; done) | (go_simp; rfl)); simp only [Act.put, List.setIfInBounds_toArray, List.set_cons_zero, List.set_cons_succ])
          (apply Fr.fr_q_val; (case hw => first | rfl | (go_simp; done)); (case hv => intro W hF1; have HC1 := hF1.cells; simp only [Fr.Cells, List.length_cons, List.length_nil, Nat.reduceAdd, and_true] at HC1; clear hF1; first | (go_simp; done) | (go_simp; rfl)); simp only [Act.put, List.setIfInBounds_toArray, List.set_cons_zero, List.set_cons_succ])
          (apply Fr.fr_q_val; (case hw => first | rfl | (go_simp; done)); (case hv => intro W hF1; have HC1 := hF1.cells; simp only [Fr.Cells, List.length_cons, List.length_nil, Nat.reduceAdd, and_true] at HC1; clear hF1; first | (go_simp; done) | (go_simp; rfl)); simp only [Act.put, List.setIfInBounds_toArray, List.set_cons_zero, List.set_cons_succ])
          (apply Fr.fr_q_skip; (case hw => first | rfl | (go_simp; done)); simp only [Act.put, List.setIfInBounds_toArray, List.set_cons_zero, List.set_cons_succ])
          (apply Fr.fr_q_skip; (case hw => first | rfl | (go_simp; done)); simp only [Act.put, List.setIfInBounds_toArray, List.set_cons_zero, List.set_cons_succ])
          (apply Fr.fr_q_skip; (case hw => first | rfl | (go_simp; done)); simp only [Act.put, List.setIfInBounds_toArray, List.set_cons_zero, List.set_cons_succ])
          (apply Fr.fr_q_skip; (case hw => first | rfl | (go_simp; done)); simp only [Act.put, List.setIfInBounds_toArray, List.set_cons_zero, List.set_cons_succ])
          (apply Fr.fr_q_skip; (case hw => first | rfl | (go_simp; done)); simp only [Act.put, List.setIfInBounds_toArray, List.set_cons_zero, List.set_cons_succ])
          (apply Fr.fr_q_skip; (case hw => first | rfl | (go_simp; done)); simp only [Act.put, List.setIfInBounds_toArray, List.set_cons_zero, List.set_cons_succ])
          (apply Fr.fr_q_skip; (case hw => first | rfl | (go_simp; done)); simp only [Act.put, List.setIfInBounds_toArray, List.set_cons_zero, List.set_cons_succ])
          (apply Fr.fr_q_skip; (case hw => first | rfl | (go_simp; done)); simp only [Act.put, List.setIfInBounds_toArray, List.set_cons_zero, List.set_cons_succ])
          (apply Fr.fr_q_skip; (case hw => first | rfl | (go_simp; done)); simp only [Act.put, List.setIfInBounds_toArray, List.set_cons_zero, List.set_cons_succ])
          (apply Fr.fr_q_val (v := .bool false); (case hw => first | rfl | (go_simp; done)); (case hv => intro W hF1; have HC1 := hF1.cells; simp only [Fr.Cells, List.length_cons, List.length_nil, Nat.reduceAdd, and_true] at HC1; clear hF1; have hd9 := HD.out; first | (go_simp; done) | (go_simp; rw [if_neg (of_decide_eq_false hd9)]) | (go_simp; rw [if_pos (of_decide_eq_true hd9)])); simp only [Act.put, List.setIfInBounds_toArray, List.set_cons_zero, List.set_cons_succ])
          (apply Fr.fr_q_val; (case hw => first | rfl | (go_simp; done)); (case hv => intro W hF1; have HC1 := hF1.cells; simp only [Fr.Cells, List.length_cons, List.length_nil, Nat.reduceAdd, and_true] at HC1; clear hF1; first | (go_simp; done) | (go_simp; rfl)); simp only [Act.put, List.setIfInBounds_toArray, List.set_cons_zero, List.set_cons_succ])
          (apply Fr.fr_q_skip; (case hw => first | rfl | (go_simp; done)); simp only [Act.put, List.setIfInBounds_toArray, List.set_cons_zero, List.set_cons_succ])
          (apply Fr.fr_q_skip; (case hw => first | rfl | (go_simp; done)); simp only [Act.put, List.setIfInBounds_toArray, List.set_cons_zero, List.set_cons_succ])
          (apply Fr.fr_q_skip; (case hw => first | rfl | (go_simp; done)); simp only [Act.put, List.setIfInBounds_toArray, List.set_cons_zero, List.set_cons_succ])
          (apply Fr.fr_q_val; (case hw => first | rfl | (go_simp; done)); (case hv => intro W hF1; have HC1 := hF1.cells; simp only [Fr.Cells, List.length_cons, List.length_nil, Nat.reduceAdd, and_true] at HC1; clear hF1; first | (go_simp; done) | (go_simp; rfl)); simp only [Act.put, List.setIfInBounds_toArray, List.set_cons_zero, List.set_cons_succ])
          (apply Fr.fr_q_val; (case hw => first | rfl | (go_simp; done)); (case hv => intro W hF1; have HC1 := hF1.cells; simp only [Fr.Cells, List.length_cons, List.length_nil, Nat.reduceAdd, and_true] at HC1; clear hF1; first | (go_simp; done) | (go_simp; rfl)); simp only [Act.put, List.setIfInBounds_toArray, List.set_cons_zero, List.set_cons_succ])
          (apply Fr.fr_q_skip; (case hw => first | rfl | (go_simp; done)); simp only [Act.put, List.setIfInBounds_toArray, List.set_cons_zero, List.set_cons_succ])
          (apply Fr.fr_q_skip; (case hw => first | rfl | (go_simp; done)); simp only [Act.put, List.setIfInBounds_toArray, List.set_cons_zero, List.set_cons_succ])
          (apply Fr.fr_q_skip; (case hw => first | rfl | (go_simp; done)); simp only [Act.put, List.setIfInBounds_toArray, List.set_cons_zero, List.set_cons_succ])
          (apply Fr.fr_q_val; (case hw => first | rfl | (go_simp; done)); (case hv => intro W hF1; have HC1 := hF1.cells; simp only [Fr.Cells, List.length_cons, List.length_nil, Nat.reduceAdd, and_true] at HC1; clear hF1; first | (go_simp; done) | (go_simp; rfl)); simp only [Act.put, List.setIfInBounds_toArray, List.set_cons_zero, List.set_cons_succ])
          (apply Fr.fr_q_val; (case hw => first | rfl | (go_simp; done)); (case hv => intro W hF1; have HC1 := hF1.cells; simp only [Fr.Cells, List.length_cons, List.length_nil, Nat.reduceAdd, and_true] at HC1; clear hF1; first | (go_simp; done) | (go_simp; rfl)); simp only [Act.put, List.setIfInBounds_toArray, List.set_cons_zero, List.set_cons_succ])
          refine wpQuiet_nil ?_; intro W hF1; have HC1 := hF1.cells; simp only [Fr.Cells, List.length_cons, List.length_nil, Nat.reduceAdd, and_true] at HC1; clear hF HC; have HC := HC1; have hF := Aside0.mk hF1; clear hF1 HC1
          go_wp2_with (first | ((with_reducible refine gate_store rfl ?_); apply Fr.fr_store hF.out rfl rfl rfl; (case hp => rfl); (case hx => first | (go_simp; rfl) | rfl); (case hu => (simp only [Value.cells]; rfl)); (case hs => (repeat (first | exact Fr.Spot.here _ _ | apply Fr.Spot.there))); (case ht => kernel_rfl); (case h1 => simp [Value.oneCell']); (case hfit => simp); intro W hF1; simp only [Fr.patch, List.take_zero, List.nil_append, List.drop, List.append_nil, List.take, List.cons_append, List.length_cons, List.length_nil, Nat.reduceAdd] at hF1; have HC1 := hF1.cells; simp only [Fr.Cells, List.length_cons, List.length_nil, Nat.reduceAdd, and_true] at HC1; clear hF HC; have HC := HC1; have hF := Aside0.mk hF1; clear hF1 HC1) | ((first | (with_reducible refine Fr.gate_alloc rfl ?_) | (with_reducible refine Fr.gate_box rfl ?_)); apply Fr.fr_box hF.out rfl; (case hrun => first | (go_simp; done) | (go_simp; rfl)); intro g W hF1; have HC1 := hF1.cells; simp only [Fr.Cells, List.length_cons, List.length_nil, Nat.reduceAdd, and_true] at HC1; clear hF HC; have HC := HC1; have hF := Aside0.mk hF1; clear hF1 HC1))
          go_ret
          exact ⟨by rw [HV.out]; rfl, hF.out.below⟩
  · have HV := Aside0.mk (show dutyB c d = false by unfold dutyB; rw [decide_eq_false h1]; rfl)
    obtain ⟨ee, hee⟩ : ∃ ee, chainE c d.ro d.pl = ee := ⟨_, rfl⟩
    rw [hee] at HRV h1
    have hne : (ee != 0) = true := by rw [bne_iff_ne]; exact h1
    clear h1 hee
    go_enter Try.func46, Try.ntmps46
    go_wp2_with (first | ((with_reducible refine gate_store rfl ?_); apply Fr.fr_store hF.out rfl rfl rfl; (case hp => rfl); (case hx => first | (go_simp; rfl) | rfl); (case hu => (simp only [Value.cells]; rfl)); (case hs => (repeat (first | exact Fr.Spot.here _ _ | apply Fr.Spot.there))); (case ht => kernel_rfl); (case h1 => simp [Value.oneCell']); (case hfit => simp); intro W hF1; simp only [Fr.patch, List.take_zero, List.nil_append, List.drop, List.append_nil, List.take, List.cons_append, List.length_cons, List.length_nil, Nat.reduceAdd] at hF1; have HC1 := hF1.cells; simp only [Fr.Cells, List.length_cons, List.length_nil, Nat.reduceAdd, and_true] at HC1; clear hF HC; have HC := HC1; have hF := Aside0.mk hF1; clear hF1 HC1) | ((first | (with_reducible refine Fr.gate_alloc rfl ?_) | (with_reducible refine Fr.gate_box rfl ?_)); apply Fr.fr_box hF.out rfl; (case hrun => first | (go_simp; done) | (go_simp; rfl)); intro g W hF1; have HC1 := hF1.cells; simp only [Fr.Cells, List.length_cons, List.length_nil, Nat.reduceAdd, and_true] at HC1; clear hF HC; have HC := HC1; have hF := Aside0.mk hF1; clear hF1 HC1))
    (with_reducible refine (HRV.out _ hF.out.below).mono ?_); rintro e W ⟨rfl, hb⟩; have hF1 := hF.out.call hb; clear hb; have HC1 := hF1.cells; simp only [Fr.Cells, List.length_cons, List.length_nil, Nat.reduceAdd, and_true] at HC1; clear hF HC; have HC := HC1; have hF := Aside0.mk hF1; clear hF1 HC1
    go_wp2_with (first | ((with_reducible refine gate_store rfl ?_); apply Fr.fr_store hF.out rfl rfl rfl; (case hp => rfl); (case hx => first | (go_simp; rfl) | rfl); (case hu => (simp only [Value.cells]; rfl)); (case hs => (repeat (first | exact Fr.Spot.here _ _ | apply Fr.Spot.there))); (case ht => kernel_rfl); (case h1 => simp [Value.oneCell']); (case hfit => simp); intro W hF1; simp only [Fr.patch, List.take_zero, List.nil_append, List.drop, List.append_nil, List.take, List.cons_append, List.length_cons, List.length_nil, Nat.reduceAdd] at hF1; have HC1 := hF1.cells; simp only [Fr.Cells, List.length_cons, List.length_nil, Nat.reduceAdd, and_true] at HC1; clear hF HC; have HC := HC1; have hF := Aside0.mk hF1; clear hF1 HC1) | ((first | (with_reducible refine Fr.gate_alloc rfl ?_) | (with_reducible refine Fr.gate_box rfl ?_)); apply Fr.fr_box hF.out rfl; (case hrun => first | (go_simp; done) | (go_simp; rfl)); intro g W hF1; have HC1 := hF1.cells; simp only [Fr.Cells, List.length_cons, List.length_nil, Nat.reduceAdd, and_true] at HC1; clear hF HC; have HC := HC1; have hF := Aside0.mk hF1; clear hF1 HC1))
    go_ret
    exact ⟨by rw [HV.out]; rfl, hF.out.below⟩
def newE (c : Cf) (l : List S92) (now : Int) : Int := if (cfgB c && (rightB l && tmB now)) = true then chooseE c l else 1
theorem new_ok {c : Cf} {l : List S92} {now : Int} (h : newE c l now = 0) : cfgB c = true ∧ rightB l = true ∧ tmB now = true ∧ chooseE c l = 0 := by
  unfold newE at h
  cases h1 : (cfgB c && (rightB l && tmB now)) with
  | false => rw [h1] at h; simp at h
  | true =>
    rw [h1] at h
    simp only [Bool.and_eq_true] at h1
    exact ⟨h1.1, h1.2.1, h1.2.2, h⟩
set_option maxHeartbeats 8000000 in
set_option maxRecDepth 100000 in
theorem new_calls_ok (c : Cf) (A0 : Option Addr) (c0 : Nat) (A1 : Option Addr) (c1 : Nat) (A2 : Option Addr) (c2 : Nat) (l : List S92) (now : Int) (w : World) (hr0 : Kd.C k76 w A0 c.rs.length c.rs) (hl0 : c.rs.length ≤ c0) (hr1 : Kd.C k58 w A1 c.ro.length c.ro) (hwf : ∀ x ∈ c.ro, WfR x) (hr2 : Kd.C k92 w A2 l.length l) (he : newE c l now = 0) :
    Calls Try.prog 43 #[.agg #[.slice A0 c.rs.length c0, .slice A1 c.ro.length c1, .int .i64 c.rep, .int .i64 c.beat], .slice A2 l.length c2, .int .i64 now] w fun e w' => e = .returned (.tuple #[.agg #[.slice A2 l.length c2, .int .i64 (chooseV c l), .int .i64 0, .int .i64 0, .int .i64 now, .int .i64 1], .int .i64 0]) ∧ Below w.heap.size w w' := by
  have HR2 := Aside0.mk hr2
  have HCH := Aside0.mk (fun W (hb : Below w.heap.size w W) => choose_calls c A0 c0 A1 c1 A2 c2 l W (Kd.C_below hr0 hb) hl0 (Kd.C_below hr1 hb) hwf (Kd.C_below hr2 hb))
  have HG := Aside0.mk (fun (W : World) (hb : Below w.heap.size w W) => cfgRight_calls c A0 c0 A1 c1 W (Kd.C_below hr0 hb) hl0 (Kd.C_below hr1 hb) hwf)
  have hF := Aside0.mk (Fr.Frame.start w)
  have HC : True := trivial
  clear hr0 hl0 hr1 hwf hr2
  obtain ⟨h1, h2, h3, h4⟩ := new_ok he
  have H2 := Aside0.mk h2
  have H3 := Aside0.mk h3
  rw [h1] at HG
  rw [h4] at HCH
  clear h1 h2 h3 h4 he
  go_enter Try.func43, Try.ntmps43
  go_wp2_with (first | ((with_reducible refine gate_store rfl ?_); apply Fr.fr_store hF.out rfl rfl rfl; (case hp => rfl); (case hx => first | (go_simp; rfl) | rfl); (case hu => (simp only [Value.cells]; rfl)); (case hs => (repeat (first | exact Fr.Spot.here _ _ | apply Fr.Spot.there))); (case ht => kernel_rfl); (case h1 => simp [Value.oneCell']); (case hfit => simp); intro W hF1; simp only [Fr.patch, List.take_zero, List.nil_append, List.drop, List.append_nil, List.take, List.cons_append, List.length_cons, List.length_nil, Nat.reduceAdd] at hF1; have HC1 := hF1.cells; simp only [Fr.Cells, List.length_cons, List.length_nil, Nat.reduceAdd, and_true] at HC1; clear hF HC; have HC := HC1; have hF := Aside0.mk hF1; clear hF1 HC1) | ((first | (with_reducible refine Fr.gate_alloc rfl ?_) | (with_reducible refine Fr.gate_box rfl ?_)); apply Fr.fr_box hF.out rfl; (case hrun => first | (go_simp; done) | (go_simp; rfl)); intro g W hF1; have HC1 := hF1.cells; simp only [Fr.Cells, List.length_cons, List.length_nil, Nat.reduceAdd, and_true] at HC1; clear hF HC; have HC := HC1; have hF := Aside0.mk hF1; clear hF1 HC1))
  (with_reducible refine (HG.out _ hF.out.below).mono ?_); rintro e W ⟨rfl, hb⟩; have hF1 := hF.out.call hb; clear hb; have HC1 := hF1.cells; simp only [Fr.Cells, List.length_cons, List.length_nil, Nat.reduceAdd, and_true] at HC1; clear hF HC; have HC := HC1; have hF := Aside0.mk hF1; clear hF1 HC1
  go_wp2_with (first | ((with_reducible refine gate_store rfl ?_); apply Fr.fr_store hF.out rfl rfl rfl; (case hp => rfl); (case hx => first | (go_simp; rfl) | rfl); (case hu => (simp only [Value.cells]; rfl)); (case hs => (repeat (first | exact Fr.Spot.here _ _ | apply Fr.Spot.there))); (case ht => kernel_rfl); (case h1 => simp [Value.oneCell']); (case hfit => simp); intro W hF1; simp only [Fr.patch, List.take_zero, List.nil_append, List.drop, List.append_nil, List.take, List.cons_append, List.length_cons, List.length_nil, Nat.reduceAdd] at hF1; have HC1 := hF1.cells; simp only [Fr.Cells, List.length_cons, List.length_nil, Nat.reduceAdd, and_true] at HC1; clear hF HC; have HC := HC1; have hF := Aside0.mk hF1; clear hF1 HC1) | ((first | (with_reducible refine Fr.gate_alloc rfl ?_) | (with_reducible refine Fr.gate_box rfl ?_)); apply Fr.fr_box hF.out rfl; (case hrun => first | (go_simp; done) | (go_simp; rfl)); intro g W hF1; have HC1 := hF1.cells; simp only [Fr.Cells, List.length_cons, List.length_nil, Nat.reduceAdd, and_true] at HC1; clear hF HC; have HC := HC1; have hF := Aside0.mk hF1; clear hF1 HC1))
  (with_reducible refine (right_calls A2 c2 l _ (Kd.C_below HR2.out hF.out.below)).mono ?_); rintro e W ⟨rfl, hb⟩; have hF1 := hF.out.call hb; clear hb; have HC1 := hF1.cells; simp only [Fr.Cells, List.length_cons, List.length_nil, Nat.reduceAdd, and_true] at HC1; clear hF HC; have HC := HC1; have hF := Aside0.mk hF1; clear hF1 HC1
  simp only [H2.out]
  go_wp2_with (first | ((with_reducible refine gate_store rfl ?_); apply Fr.fr_store hF.out rfl rfl rfl; (case hp => rfl); (case hx => first | (go_simp; rfl) | rfl); (case hu => (simp only [Value.cells]; rfl)); (case hs => (repeat (first | exact Fr.Spot.here _ _ | apply Fr.Spot.there))); (case ht => kernel_rfl); (case h1 => simp [Value.oneCell']); (case hfit => simp); intro W hF1; simp only [Fr.patch, List.take_zero, List.nil_append, List.drop, List.append_nil, List.take, List.cons_append, List.length_cons, List.length_nil, Nat.reduceAdd] at hF1; have HC1 := hF1.cells; simp only [Fr.Cells, List.length_cons, List.length_nil, Nat.reduceAdd, and_true] at HC1; clear hF HC; have HC := HC1; have hF := Aside0.mk hF1; clear hF1 HC1) | ((first | (with_reducible refine Fr.gate_alloc rfl ?_) | (with_reducible refine Fr.gate_box rfl ?_)); apply Fr.fr_box hF.out rfl; (case hrun => first | (go_simp; done) | (go_simp; rfl)); intro g W hF1; have HC1 := hF1.cells; simp only [Fr.Cells, List.length_cons, List.length_nil, Nat.reduceAdd, and_true] at HC1; clear hF HC; have HC := HC1; have hF := Aside0.mk hF1; clear hF1 HC1))
  (with_reducible refine (tick_Right.calls now _ _ (tick_is now)).mono ?_); rintro e W ⟨rfl, hb⟩; have hF1 := hF.out.call hb.below; clear hb; have HC1 := hF1.cells; simp only [Fr.Cells, List.length_cons, List.length_nil, Nat.reduceAdd, and_true] at HC1; clear hF HC; have HC := HC1; have hF := Aside0.mk hF1; clear hF1 HC1
  simp only [H3.out]
  go_wp2_with (first | ((with_reducible refine gate_store rfl ?_); apply Fr.fr_store hF.out rfl rfl rfl; (case hp => rfl); (case hx => first | (go_simp; rfl) | rfl); (case hu => (simp only [Value.cells]; rfl)); (case hs => (repeat (first | exact Fr.Spot.here _ _ | apply Fr.Spot.there))); (case ht => kernel_rfl); (case h1 => simp [Value.oneCell']); (case hfit => simp); intro W hF1; simp only [Fr.patch, List.take_zero, List.nil_append, List.drop, List.append_nil, List.take, List.cons_append, List.length_cons, List.length_nil, Nat.reduceAdd] at hF1; have HC1 := hF1.cells; simp only [Fr.Cells, List.length_cons, List.length_nil, Nat.reduceAdd, and_true] at HC1; clear hF HC; have HC := HC1; have hF := Aside0.mk hF1; clear hF1 HC1) | ((first | (with_reducible refine Fr.gate_alloc rfl ?_) | (with_reducible refine Fr.gate_box rfl ?_)); apply Fr.fr_box hF.out rfl; (case hrun => first | (go_simp; done) | (go_simp; rfl)); intro g W hF1; have HC1 := hF1.cells; simp only [Fr.Cells, List.length_cons, List.length_nil, Nat.reduceAdd, and_true] at HC1; clear hF HC; have HC := HC1; have hF := Aside0.mk hF1; clear hF1 HC1))
  (with_reducible refine (HCH.out _ hF.out.below).mono ?_); rintro e W ⟨rfl, hb⟩; have hF1 := hF.out.call hb; clear hb; have HC1 := hF1.cells; simp only [Fr.Cells, List.length_cons, List.length_nil, Nat.reduceAdd, and_true] at HC1; clear hF HC; have HC := HC1; have hF := Aside0.mk hF1; clear hF1 HC1
  go_wp2_with (first | ((with_reducible refine gate_store rfl ?_); apply Fr.fr_store hF.out rfl rfl rfl; (case hp => rfl); (case hx => first | (go_simp; rfl) | rfl); (case hu => (simp only [Value.cells]; rfl)); (case hs => (repeat (first | exact Fr.Spot.here _ _ | apply Fr.Spot.there))); (case ht => kernel_rfl); (case h1 => simp [Value.oneCell']); (case hfit => simp); intro W hF1; simp only [Fr.patch, List.take_zero, List.nil_append, List.drop, List.append_nil, List.take, List.cons_append, List.length_cons, List.length_nil, Nat.reduceAdd] at hF1; have HC1 := hF1.cells; simp only [Fr.Cells, List.length_cons, List.length_nil, Nat.reduceAdd, and_true] at HC1; clear hF HC; have HC := HC1; have hF := Aside0.mk hF1; clear hF1 HC1) | ((first | (with_reducible refine Fr.gate_alloc rfl ?_) | (with_reducible refine Fr.gate_box rfl ?_)); apply Fr.fr_box hF.out rfl; (case hrun => first | (go_simp; done) | (go_simp; rfl)); intro g W hF1; have HC1 := hF1.cells; simp only [Fr.Cells, List.length_cons, List.length_nil, Nat.reduceAdd, and_true] at HC1; clear hF HC; have HC := HC1; have hF := Aside0.mk hF1; clear hF1 HC1))
  refine bodyPost_ret ?_ rfl ⟨rfl, hF.out.below⟩
  simp [results, Try.results43, go_sem, HC]
end Go.Proofs.Ytkphinfijppkeaa.G
namespace Go.Proofs.Ytkphinfijppkeaa.G
open Go.RowKit Go.Proofs.YtkphinfijppkeaaW.PrintWords Go.Proofs.YtkphinfijppkeaaW.PrintLast Go.Proofs.YtkphinfijppkeaaW.PrintMore
attribute [local go_sem] max2_int min2_int max_two min_two max_three min_three max_four min_four   -- for this text's walks alone
set_option linter.unusedVariables false
set_option linter.unusedSimpArgs false
attribute [local go_sem] Oper.semAt_some
open Go.Shelf
abbrev encIS (b0 : Int) (i : Nat) : Array Value := #[.int .i64 i, .int .i64 (b0 * 2 ^ i)]
def Doubles (b0 b1 : Int) (K : Nat) : Prop := 1 ≤ b0 ∧ b1 ≤ 1073741824 ∧ b0 ≤ b1 ∧ (∀ i, i < K → b0 * 2 ^ i < b1) ∧ ¬ b0 * 2 ^ K < b1
theorem Doubles.bound {b0 b1 : Int} {K : Nat} (h : Doubles b0 b1 K) (i : Nat) (hi : i ≤ K) : 1 ≤ b0 * 2 ^ i ∧ b0 * 2 ^ i ≤ 2147483648 := by
  obtain ⟨h1, h2, h3, h4, h5⟩ := h
  have hp : ∀ i : Nat, (1 : Int) ≤ 2 ^ i := fun i => by
    have := Int.pow_pos (n := 2) (m := i) (by omega)
    omega
  have hlo : 1 ≤ b0 * 2 ^ i := by
    have : 1 * 1 ≤ b0 * 2 ^ i := Int.mul_le_mul h1 (hp i) (by omega) (by omega)
    omega
  refine ⟨hlo, ?_⟩
  cases i with
  | zero => simp; omega
  | succ j =>
    have := h4 j (by omega)
    rw [Int.pow_succ, ← Int.mul_assoc]
    omega
theorem Doubles.le {b0 b1 : Int} {K : Nat} (h : Doubles b0 b1 K) : K ≤ 31 := by
  obtain ⟨h1, h2, h3, h4, h5⟩ := h
  rcases Nat.lt_or_ge 31 K with hk | hk
  · have := h4 31 hk
    have e : (2 : Int) ^ 31 = 2147483648 := by decide
    rw [e] at this
    omega
  · exact hk
def KeepB (Bb : Nat) (A B : World) : Prop := B.heap[Bb]? = A.heap[Bb]?
set_option maxHeartbeats 1000000 in
theorem steps_stopsB (F : Fence) (n : Nat) (hf : F.fn 118) (hro : F.round = none) (hn : 1 ≤ n) (Bb : Nat) (b0 b1 b2 : Int) (K : Nat) (hK : Doubles b0 b1 K) (w : World) (hlt : Bb < w.heap.size)
    (hb : w.heap[Bb]? = some (.cells #[.int .i64 b0, .int .i64 b1, .int .i64 b2] 74 (0, 0))) :
    SeqStopsK F n Try.prog 118 #[.pointer (some ⟨Bb, 0, none⟩)] (encIS b0) (KeepB Bb) (fun xs => xs = List.range K) (fun pre => ∃ m, 1 ≤ m ∧ m ≤ K ∧ pre = List.range m) K w := fun l J Jx W hW hJ hJx hY h0 => by
  have hbW : W.heap[Bb]? = some (.cells #[.int .i64 b0, .int .i64 b1, .int .i64 b2] 74 (0, 0)) := (hW.block Bb hlt).trans hb
  have hc0 : W.cell? ⟨Bb, 0, none⟩ = some (.int .i64 b0) := (blk_cell hbW 0).trans rfl
  have hc1 : W.cell? ⟨Bb, 1, none⟩ = some (.int .i64 b1) := (blk_cell hbW 1).trans rfl
  have HK := Aside0.mk hK
  have HW := Aside0.mk hbW
  clear hb hbW hW hK
  refine callsIn_of_wp Try.func118 rfl hf ?_ hro
  simp only [Try.ntmps118, List.size_toArray, List.length_cons, List.length_nil, Nat.reduceAdd, Nat.reduceSub, Array.replicate_succ, Array.replicate_zero, List.push_toArray, List.append_toArray, List.nil_append, List.cons_append]
  gi_wp2
  gi_region
  all_goals
    have h0' : J [] W.drew := by
      refine hJ _ _ _ none h0 ⟨rfl, rfl, rfl, Nat.le_refl _, fun _ _ _ => rfl⟩ (fun r e => by cases e)
    have HY := Aside0.mk hY
    clear hY h0
    gi_wp2
    gi_loopw [3, 4] (fun s3 s4 wr => ∃ i : Nat, i ≤ K ∧ s3 = .int .i64 i ∧ s4 = .int .i64 (b0 * 2 ^ i) ∧ J (List.range i) wr ∧ KeepB Bb W wr) (fun s3 _ _ => K - (intOf s3).toNat)
    case atStart => exact ⟨0, Nat.zero_le _, rfl, by simp, h0', rfl⟩
    case round =>
      obtain ⟨i, hi, rfl, rfl, hJs, hB⟩ := hrel
      have c1 : wr.cell? ⟨Bb, 1, none⟩ = some (.int .i64 b1) := (blk_cell (Eq.trans hB HW.out) 1).trans rfl
      obtain ⟨k1, k2⟩ := HK.out.bound i hi
      by_cases hlt2 : i < K
      · have h4 : b0 * 2 ^ i < b1 := HK.out.2.2.2.1 i hlt2
        obtain ⟨fn, tmps, assign, body, hy, hR⟩ := HY.out (List.range i) i wr hJs (by simp; exact hlt2)
        dsimp only [encIS] at hy
        obtain ⟨z, hz⟩ : ∃ z, b0 * 2 ^ i = z := ⟨_, rfl⟩
        have HZ := Aside0.mk hz
        rw [hz] at hy k1 k2 h4 ⊢
        clear hz
        have h31 : i ≤ 31 := Nat.le_trans hi HK.out.le
        gi_wp2
        refine hR.mono ?_
        rintro e W3 (⟨rfl, hJ3, hk3⟩ | ⟨rfl, hJx3⟩)
        · have c1' : W3.cell? ⟨Bb, 1, none⟩ = some (.int .i64 b1) := (blk_cell (Eq.trans hk3 (Eq.trans hB HW.out)) 1).trans rfl
          gi_wp2
          go_roundw
          case rel => exact ⟨i + 1, by omega, by go_num, by rw [Int.pow_succ, ← Int.mul_assoc, HZ.out]; congr 1; omega, by rw [List.range_succ]; exact hJ3, Eq.trans hk3 hB⟩
          case measure => simp [intOf]; omega
        · gi_wp2
          go_end0
          exact ⟨⟨_, rfl⟩, .inr ⟨_, ⟨i + 1, by omega, by omega, rfl⟩, by rw [List.range_succ]; exact hJx3⟩⟩
      · have : i = K := by omega
        subst this
        have h5 := HK.out.2.2.2.2
        have h5' : b1 ≤ b0 * 2 ^ i := by omega
        clear h5
        gi_wp2
        refine ⟨fun _ h => (by cases h), ?_⟩
        gi_wp2
        go_end0
        exact ⟨⟨_, rfl⟩, .inl ⟨_, rfl, hJs⟩⟩
theorem steps_stops (F : Fence) (n : Nat) (hf : F.fn 118) (hro : F.round = none) (hn : 1 ≤ n) (Bb n₀ : Nat) (b0 b1 b2 : Int) (K : Nat) (hK : Doubles b0 b1 K) (w : World) (hn₀ : n₀ ≤ w.heap.size) (hlt : Bb < n₀)
    (hb : w.heap[Bb]? = some (.cells #[.int .i64 b0, .int .i64 b1, .int .i64 b2] 74 (0, 0))) :
    SeqStopsK F n Try.prog 118 #[.pointer (some ⟨Bb, 0, none⟩)] (encIS b0) (Below n₀) (fun xs => xs = List.range K) (fun pre => ∃ m, 1 ≤ m ∧ m ≤ K ∧ pre = List.range m) K w :=
  fun l J Jx W hW hJ hJx hY h0 => steps_stopsB F n hf hro hn Bb b0 b1 b2 K hK w (by omega) hb l J Jx W hW hJ hJx (fun pre x W1 h1 h2 => (hY pre x W1 h1 h2).mono fun e W' h => h.imp (fun h => ⟨h.1, h.2.1, h.2.2.block Bb hlt⟩) id) h0
theorem Doubles.no {b0 b1 : Int} {K : Nat} (h : Doubles b0 b1 K) (i : Nat) (hi : K ≤ i) : ¬ b0 * 2 ^ i < b1 := by
  obtain ⟨h1, h2, h3, h4, h5⟩ := h
  induction hi with
  | refl => exact h5
  | step hi ih =>
    rename_i m
    rw [Int.pow_succ, ← Int.mul_assoc]
    have : 0 ≤ b0 * 2 ^ m := Int.mul_nonneg (by omega) (by have := Int.pow_pos (n := 2) (m := m) (by omega); omega)
    omega
theorem steps_calls (b0 b1 b2 : Int) (w : World) : Calls Try.prog 81 #[.agg #[.int .i64 b0, .int .i64 b1, .int .i64 b2]] w fun e w' => e = .returned (.func (.func 118) #[] #[.pointer (some ⟨w.heap.size, 0, none⟩)]) ∧ w.alloc (.cells #[.int .i64 b0, .int .i64 b1, .int .i64 b2] 74) = w' := by
  have hmf : ∀ (fn : Fn) (first cap : Array Value) (w : World), (Instr.makeFunc fn first cap).run Try.prog w = .ok (.func fn first cap) w := fun _ _ _ _ => rfl
  go_enter Try.func81, Try.ntmps81
  go_wp2
  go_ret
  exact ⟨rfl, rfl⟩
def BackMay (b0 b1 b2 : Int) : Prop := (1 ≤ b0 ∧ b0 ≤ 1048576) ∧ (b0 ≤ b1 ∧ b1 ≤ 1073741824) ∧ 0 ≤ b2 ∧ b2 ≤ 1048576
def kOf (b0 b1 : Int) : Nat := (List.range 40).findIdx fun i => decide (b1 ≤ b0 * 2 ^ i)
theorem kOf_doubles {b0 b1 b2 : Int} (h : BackMay b0 b1 b2) : Doubles b0 b1 (kOf b0 b1) := by
  obtain ⟨⟨h1, h2⟩, ⟨h3, h4⟩, h5, h6⟩ := h
  have hlt : kOf b0 b1 < (List.range 40).length := by
    unfold kOf
    rw [List.findIdx_lt_length]
    refine ⟨31, by simp, ?_⟩
    have : (2 : Int) ^ 31 = 2147483648 := by decide
    rw [decide_eq_true_eq, this]
    omega
  refine ⟨h1, h4, h3, fun i hi => ?_, ?_⟩
  · have := List.not_of_lt_findIdx (p := fun i => decide (b1 ≤ b0 * 2 ^ i)) (xs := List.range 40) (i := i) hi
    rw [List.getElem_range] at this
    simp only [Bool.not_eq_true, decide_eq_false_iff_not] at this
    omega
  · have hlt2 : (List.range 40).findIdx (fun i => decide (b1 ≤ b0 * 2 ^ i)) < (List.range 40).length := hlt
    have := List.findIdx_getElem (p := fun i => decide (b1 ≤ b0 * 2 ^ i)) (xs := List.range 40) (w := hlt2)
    simp only [List.getElem_range, decide_eq_true_eq] at this
    unfold kOf
    omega
instance (b0 b1 b2 : Int) : Decidable (BackMay b0 b1 b2) := by unfold BackMay; infer_instance
def stepI (b0 b1 n : Int) : Int := if b0 * 2 ^ n.toNat < b1 then b0 * 2 ^ n.toNat else b1
theorem step_facts (w w1 : World) (b0 b1 b2 n : Int)
    (hb : Below ((((w.alloc (.cells #[.int .i64 b0, .int .i64 b1, .int .i64 b2] 74)).alloc (.cells #[.int .i64 n] 3)).alloc (.cells #[.int .i64 0] 3)).alloc (.cells #[.int .i64 0] 30)).heap.size ((((w.alloc (.cells #[.int .i64 b0, .int .i64 b1, .int .i64 b2] 74)).alloc (.cells #[.int .i64 n] 3)).alloc (.cells #[.int .i64 0] 3)).alloc (.cells #[.int .i64 0] 30)) w1) :
    w1.cell? ⟨w.heap.size, 0, none⟩ = some (.int .i64 b0) ∧ w1.cell? ⟨w.heap.size, 1, none⟩ = some (.int .i64 b1) ∧ w1.cell? ⟨w.heap.size, 2, none⟩ = some (.int .i64 b2) ∧ w1.cell? ⟨w.heap.size + 1, 0, none⟩ = some (.int .i64 n) ∧
    w1.cell? ⟨w.heap.size + 1 + 1, 0, none⟩ = some (.int .i64 0) ∧ w1.cell? ⟨w.heap.size + 1 + 1 + 1, 0, none⟩ = some (.int .i64 0) ∧ w1.frozen? ⟨w.heap.size + 1 + 1, 0, none⟩ = false ∧ w1.frozen? ⟨w.heap.size + 1 + 1 + 1, 0, none⟩ = false ∧
    w.heap.size + 1 + 1 + 1 < w1.heap.size ∧ Below w.heap.size w w1 := by
  have hs := hb.size
  simp only [World.size_alloc] at hs
  refine ⟨?_, ?_, ?_, ?_, ?_, ?_, ?_, ?_, by omega, ?_⟩
  · exact (hb.cell (by simp [World.size_alloc]; try omega)).trans (by simp [go_sem])
  · exact (hb.cell (by simp [World.size_alloc]; try omega)).trans (by simp [go_sem])
  · exact (hb.cell (by simp [World.size_alloc]; try omega)).trans (by simp [go_sem])
  · exact (hb.cell (by simp [World.size_alloc]; try omega)).trans (by simp [go_sem])
  · exact (hb.cell (by simp [World.size_alloc]; try omega)).trans (by simp [go_sem])
  · exact (hb.cell (by simp [World.size_alloc]; try omega)).trans (by simp [go_sem])
  · exact (hb.frozen (by simp [World.size_alloc]; try omega)).trans (by simp [go_sem])
  · exact (hb.frozen (by simp [World.size_alloc]; try omega)).trans (by simp [go_sem])
  · exact ((((Below.refl _ w).alloc (Nat.le_refl _) _).alloc (by simp) _).alloc (by simp; omega) _).alloc (by simp; omega) _ |>.trans (hb.mono (by simp [World.size_alloc]; omega))
set_option maxHeartbeats 2000000 in
set_option maxRecDepth 100000 in
theorem step_yes (b0 b1 b2 n : Int) (w : World) (h : BackMay b0 b1 b2) (hn : 0 ≤ n) (K : Nat) (hK : Doubles b0 b1 K) :
    Calls Try.prog 47 #[.agg #[.int .i64 b0, .int .i64 b1, .int .i64 b2], .int .i64 n] w fun e w' => e = .returned (.tuple #[.int .i64 (stepI b0 b1 n), .int .i64 0]) ∧ Below w.heap.size w w' := by
  obtain ⟨⟨h1, h2⟩, ⟨h3, h4⟩, h5, h6⟩ := h
  have HK := Aside0.mk hK
  clear hK
  have hmf : ∀ (fn : Fn) (first cap : Array Value) (w : World), (Instr.makeFunc fn first cap).run Try.prog w = .ok (.func fn first cap) w := fun _ _ _ _ => rfl
  have HRt := Aside0.mk (show backoff_Right.f b0 b1 b2 = some true from by
    unfold backoff_Right.f backoff_in.f
    rw [if_pos (by omega), if_pos (by omega), if_pos (by omega)]
    simp [h2, h4, h6])
  refine (callsIn_wide (n := 6)).1 ?_
  refine callsIn_of_wp_marks Try.func47 rfl trivial ?_ rfl
  simp only [Try.ntmps47, List.size_toArray, List.length_cons, List.length_nil, Nat.reduceAdd, Nat.reduceSub, Array.replicate_succ, Array.replicate_zero, List.push_toArray, List.append_toArray, List.nil_append, List.cons_append]
  gi_wp2_with (first | (refine ⟨trivial, ?_⟩; gi_at_call 80; refine (callsIn_wide.2 (backoff_Right.calls b0 b1 b2 true _ HRt.out)).mono ?_; rintro e w1 ⟨rfl, hb1⟩; obtain ⟨q0, q1, q2, qn, qr1, qr2, qf1, qf2, qs, qB⟩ := step_facts w w1 b0 b1 b2 n hb1; clear hb1; clear HRt) | (refine ⟨trivial, ?_⟩; gi_at_call 81; refine (callsIn_wide.2 (steps_calls b0 b1 b2 _)).mono ?_; rintro e w2 ⟨rfl, rfl⟩))
  have hB0 : Below w.heap.size w (w1.alloc (.cells #[.int .i64 b0, .int .i64 b1, .int .i64 b2] 74)) := qB.alloc (by omega) _
  have hh := World.alloc_heap_new w1 (.cells #[.int .i64 b0, .int .i64 b1, .int .i64 b2] 74 (0, 0))
  obtain ⟨W0, hW0⟩ : ∃ W0, w1.alloc (.cells #[.int .i64 b0, .int .i64 b1, .int .i64 b2] 74) = W0 := ⟨_, rfl⟩
  have hsz : W0.heap.size = w1.heap.size + 1 := by rw [← hW0]; exact World.size_alloc _ _
  have p1 : W0.cell? ⟨w.heap.size, 1, none⟩ = some (.int .i64 b1) := by rw [← hW0]; exact Go.cell_kept q1 (World.grownBy_alloc w1 _ none) (fun r e => by cases e)
  have pn : W0.cell? ⟨w.heap.size + 1, 0, none⟩ = some (.int .i64 n) := by rw [← hW0]; exact Go.cell_kept qn (World.grownBy_alloc w1 _ none) (fun r e => by cases e)
  have pr1 : W0.cell? ⟨w.heap.size + 1 + 1, 0, none⟩ = some (.int .i64 0) := by rw [← hW0]; exact Go.cell_kept qr1 (World.grownBy_alloc w1 _ none) (fun r e => by cases e)
  have pr2 : W0.cell? ⟨w.heap.size + 1 + 1 + 1, 0, none⟩ = some (.int .i64 0) := by rw [← hW0]; exact Go.cell_kept qr2 (World.grownBy_alloc w1 _ none) (fun r e => by cases e)
  have pf1 : W0.frozen? ⟨w.heap.size + 1 + 1, 0, none⟩ = false := by rw [← hW0]; exact (Go.frozen_kept qr1 (World.grownBy_alloc w1 _ none) (fun r e => by cases e)).trans qf1
  have pf2 : W0.frozen? ⟨w.heap.size + 1 + 1 + 1, 0, none⟩ = false := by rw [← hW0]; exact (Go.frozen_kept qr2 (World.grownBy_alloc w1 _ none) (fun r e => by cases e)).trans qf2
  rw [hW0] at hB0 hh ⊢
  clear hW0 q0 q1 q2 qn qr1 qr2 qf1 qf2 hmf
  refine wpIn_rangeFunc_ownF rfl (by omega) (gf := 118) (lb := #[.pointer (some ⟨w1.heap.size, 0, none⟩)]) rfl trivial (enters_of Try.func118 (by kernel_rfl) rfl)
    (steps_stops Fence.wide 5 trivial rfl (by omega) w1.heap.size W0.heap.size b0 b1 b2 K HK.out W0 (Nat.le_refl _) (by omega) hh) belowK_t (belowK_b (Nat.le_refl _)) (Below.refl _ _) (fun _ => rfl)
    (fun pre W => ((∀ y ∈ pre, (y : Int) ≠ n) ∧ W.cell? ⟨w.heap.size, 1, none⟩ = some (.int .i64 b1) ∧ W.cell? ⟨w.heap.size + 1, 0, none⟩ = some (.int .i64 n) ∧ W.cell? ⟨w.heap.size + 1 + 1, 0, none⟩ = some (.int .i64 0) ∧ W.cell? ⟨w.heap.size + 1 + 1 + 1, 0, none⟩ = some (.int .i64 0) ∧ W.frozen? ⟨w.heap.size + 1 + 1, 0, none⟩ = false ∧ W.frozen? ⟨w.heap.size + 1 + 1 + 1, 0, none⟩ = false) ∧ Below w.heap.size w W)
    (fun c pre W => (c = .ret ∧ (∃ (p : List Nat) (i : Nat), pre = p ++ [i] ∧ (i : Int) = n ∧ W.cell? ⟨w.heap.size + 1 + 1, 0, none⟩ = some (.int .i64 (b0 * 2 ^ i))) ∧ W.cell? ⟨w.heap.size + 1 + 1 + 1, 0, none⟩ = some (.int .i64 0)) ∧ Below w.heap.size w W)
    (OwnFrom.and (Own.from (fun s A B row hs hg hr => ⟨hs.1, Go.cell_kept hs.2.1 hg hr, Go.cell_kept hs.2.2.1 hg hr, Go.cell_kept hs.2.2.2.1 hg hr, Go.cell_kept hs.2.2.2.2.1 hg hr, (Go.frozen_kept hs.2.2.2.1 hg hr).trans hs.2.2.2.2.2.1, (Go.frozen_kept hs.2.2.2.2.1 hg hr).trans hs.2.2.2.2.2.2⟩) _) (ownFrom_below (Nat.le_refl _) (by omega)))
    (fun c => OwnFrom.and (Own.from (fun s A B row hs hg hr => ⟨hs.1, (by obtain ⟨p, i, e1, e2, e3⟩ := hs.2.1; exact ⟨p, i, e1, e2, Go.cell_kept e3 hg hr⟩), Go.cell_kept hs.2.2 hg hr⟩) _) (ownFrom_below (Nat.le_refl _) (by omega)))
    ⟨⟨by simp, p1, pn, pr1, pr2, pf1, pf2⟩, hB0⟩
    (fun x => { tmps := #[.agg #[.int .i64 b0, .int .i64 b1, .int .i64 b2], .int .i64 n, .pointer (some ⟨w.heap.size, 0, none⟩), .pointer (some ⟨w.heap.size + 1, 0, none⟩), .pointer (some ⟨w.heap.size + 1 + 1, 0, none⟩), .pointer (some ⟨w.heap.size + 1 + 1 + 1, 0, none⟩), .int .i64 x, .int .i64 (b0 * 2 ^ x), .agg #[.int .i64 b0, .int .i64 b1, .int .i64 b2], .bool true, .bool false, .bool false, .int .i64 n, .bool (decide (n < 0)), .bool (decide (n < 0)), .agg #[.int .i64 b0, .int .i64 b1, .int .i64 b2], .func (.func 118) #[] #[.pointer (some ⟨w1.heap.size, 0, none⟩)], .int .i64 x, .int .i64 (b0 * 2 ^ x), undef, undef, undef, undef, undef, undef], defers := [] }) ?assign ?body ?done ?stop
  case assign =>
    intro l x W K hK
    gi_wp2
    exact hK
  case body =>
    rintro l pre x W ⟨⟨hp, c1, cn, r1, r2, f1, f2⟩, hB⟩ _
    obtain ⟨z, hz⟩ : ∃ z, b0 * 2 ^ x = z := ⟨_, rfl⟩
    by_cases hx : (x : Int) = n
    · have hxb : ((x : Int) == n) = true := by simp [hx]
      have HX := Aside0.mk hx
      have HZ := Aside0.mk hz
      rw [hz]
      clear hx hz
      gi_wp2
      refine ⟨(KeepsOthers.setCell _ _ _).trans (KeepsOthers.setCell _ _ _), ⟨rfl, ⟨pre, x, rfl, HX.out, ?_⟩, ?_⟩, (hB.setCell (p := ⟨w.heap.size + 1 + 1, 0, none⟩) (by simp; omega) _).setCell (p := ⟨w.heap.size + 1 + 1 + 1, 0, none⟩) (by simp; omega) _⟩
      · rw [HZ.out, World.cell?_setCell_other _ _ _ _ (by simp)]
        exact World.cell?_setCell_same' _ _ _ (by rw [r1]; rfl)
      · exact World.cell?_setCell_same' _ _ _ (by rw [isSome_setCell, r2]; rfl)
    · have hxb : ((x : Int) == n) = false := by simp [hx]
      have HX := Aside0.mk hx
      rw [hz]
      clear hx hz
      gi_wp2
      exact ⟨KeepsOthers.refl _, Below.refl _ _, ⟨fun y hy => (List.mem_append.1 hy).elim (hp y) (fun e => by simp at e; subst e; exact HX.out), c1, cn, r1, r2, f1, f2⟩, hB⟩
  case done =>
    rintro D ys W hD rfl ⟨⟨hne, c1, cn, r1, r2, f1, f2⟩, hB⟩ hKd
    have hge : (K : Int) ≤ n := by
      rcases Int.lt_or_le n K with hlt | hge
      · exact absurd (show ((n.toNat : Nat) : Int) = n by omega) (hne n.toNat (by rw [List.mem_range]; omega))
      · exact hge
    have hres : stepI b0 b1 n = b1 := by
      unfold stepI
      rw [if_neg (HK.out.no n.toNat (by omega))]
    have HR := Aside0.mk hres
    clear hres hne
    gi_wp2
    have hK1 := (KeepsOthers.setCell W ⟨w.heap.size + 1 + 1, 0, none⟩ (.int .i64 b1)).same D _ hKd rfl
    have hK2 := (KeepsOthers.setCell (W.setCell ⟨w.heap.size + 1 + 1, 0, none⟩ (.int .i64 b1)) ⟨w.heap.size + 1 + 1 + 1, 0, none⟩ (.int .i64 0)).same D _ hK1 rfl
    have hB2 := (hB.setCell (p := ⟨w.heap.size + 1 + 1, 0, none⟩) (by simp; omega) (.int .i64 b1)).setCell (p := ⟨w.heap.size + 1 + 1 + 1, 0, none⟩) (by simp; omega) (.int .i64 0)
    have d1 : ((W.setCell ⟨w.heap.size + 1 + 1, 0, none⟩ (.int .i64 b1)).setCell ⟨w.heap.size + 1 + 1 + 1, 0, none⟩ (.int .i64 0)).cell? ⟨w.heap.size + 1 + 1, 0, none⟩ = some (.int .i64 b1) := by
      rw [World.cell?_setCell_other _ _ _ _ (by simp)]
      exact World.cell?_setCell_same' _ _ _ (by rw [r1]; rfl)
    have d2 : ((W.setCell ⟨w.heap.size + 1 + 1, 0, none⟩ (.int .i64 b1)).setCell ⟨w.heap.size + 1 + 1 + 1, 0, none⟩ (.int .i64 0)).cell? ⟨w.heap.size + 1 + 1 + 1, 0, none⟩ = some (.int .i64 0) :=
      World.cell?_setCell_same' _ _ _ (by rw [isSome_setCell, r2]; rfl)
    have e1 := Go.cell_kept d1 (grownBy_putObj' _ D (.deferred none)) (fun r e => by cases e; exact ⟨_, hK2, rfl⟩)
    have e2 := Go.cell_kept d2 (grownBy_putObj' _ D (.deferred none)) (fun r e => by cases e; exact ⟨_, hK2, rfl⟩)
    refine ⟨by simp, .inl ⟨_, _, rfl, run_takeDeferred hK2, ?_⟩⟩
    refine ⟨.tuple #[.int .i64 b1, .int .i64 0], ?_, by rw [HR.out], hB2.trans (belowK_b (w := w) (Nat.le_refl _) _ D _ _ (by omega) hK2 rfl rfl)⟩
    simp [results, Try.f47, go_sem, e1, e2]
  case stop =>
    rintro D c pre W hD ⟨m, hm1, hm2, hpre⟩ ⟨⟨rfl, ⟨p, i, hpi, hin, hc1⟩, hc2⟩, hB⟩ hKd
    have him : i = m - 1 := by
      have : List.range m = List.range (m - 1) ++ [m - 1] := by rw [← List.range_succ]; congr 1; omega
      rw [hpi, this] at hpre
      have := List.append_inj_right' hpre rfl
      simpa using this
    have hres : stepI b0 b1 n = b0 * 2 ^ i := by
      unfold stepI
      rw [show n.toNat = i by omega, if_pos (HK.out.2.2.2.1 i (by omega))]
    have e1 := Go.cell_kept hc1 (grownBy_putObj' _ D (.deferred none)) (fun r e => by cases e; exact ⟨_, hKd, rfl⟩)
    have e2 := Go.cell_kept hc2 (grownBy_putObj' _ D (.deferred none)) (fun r e => by cases e; exact ⟨_, hKd, rfl⟩)
    have HR := Aside0.mk hres
    clear hres him hpi hin
    gi_wp2
    refine ⟨by simp, .inl ⟨_, _, rfl, run_takeDeferred hKd, ?_⟩⟩
    refine ⟨.tuple #[.int .i64 (b0 * 2 ^ i), .int .i64 0], ?_, by rw [HR.out], hB.trans (belowK_b (w := w) (Nat.le_refl _) _ D _ _ (by omega) hKd rfl rfl)⟩
    simp [results, Try.f47, go_sem, e1, e2]
set_option maxHeartbeats 2000000 in
set_option maxRecDepth 100000 in
theorem step_no (b0 b1 b2 n : Int) (w : World) (h : ¬ (BackMay b0 b1 b2 ∧ 0 ≤ n)) :
    Calls Try.prog 47 #[.agg #[.int .i64 b0, .int .i64 b1, .int .i64 b2], .int .i64 n] w fun e w' => e = .returned (.tuple #[.int .i64 0, .int .i64 1]) ∧ Below w.heap.size w w' := by
  have H := Aside0.mk h
  clear h
  by_cases c : 0 ≤ n
  all_goals by_cases c2 : b2 ≤ 1048576
  all_goals go_enter Try.func47, Try.ntmps47
  all_goals go_wp2
  all_goals first
    | (exfalso; exact H.out (by unfold BackMay; omega))
    | exact bodyPost_ret (v := .tuple #[.int .i64 0, .int .i64 1]) (by simp [results, Try.results47, go_sem]) rfl ⟨rfl, (by repeat (first | exact Below.refl _ _ | apply below_alloc | apply below_drew | apply pw_below_drewN | refine Below.setCell ?_ (by simp; omega) _))⟩
def backoff_Step.f (b0 b1 b2 n : Int) : Option (Int × Int) := if BackMay b0 b1 b2 ∧ 0 ≤ n then some (stepI b0 b1 n, 0) else some (0, 1)
theorem backoff_Step.calls (a0_0 a0_1 a0_2 a1 r1 r2 : Int) (w : World) (h : backoff_Step.f a0_0 a0_1 a0_2 a1 = some (r1, r2)) :
    Calls Try.prog 47 #[.agg #[.int .i64 a0_0, .int .i64 a0_1, .int .i64 a0_2], .int .i64 a1] w fun e w' => e = .returned (.tuple #[.int .i64 r1, .int .i64 r2]) ∧ Below w.heap.size w w' := by
  unfold backoff_Step.f at h
  by_cases hm : BackMay a0_0 a0_1 a0_2 ∧ 0 ≤ a1
  · rw [if_pos hm] at h
    simp only [Option.some.injEq, Prod.mk.injEq] at h
    obtain ⟨rfl, rfl⟩ := h
    exact step_yes _ _ _ _ w hm.1 hm.2 _ (kOf_doubles hm.1)
  · rw [if_neg hm] at h
    simp only [Option.some.injEq, Prod.mk.injEq] at h
    obtain ⟨rfl, rfl⟩ := h
    exact step_no _ _ _ _ w hm
end Go.Proofs.Ytkphinfijppkeaa.G
namespace Go.Proofs.Ytkphinfijppkeaa.G
open Go.RowKit Go.Proofs.YtkphinfijppkeaaW.PrintWords Go.Proofs.YtkphinfijppkeaaW.PrintLast Go.Proofs.YtkphinfijppkeaaW.PrintMore
attribute [local go_sem] max2_int min2_int max_two min_two max_three min_three max_four min_four   -- for this text's walks alone
set_option linter.unusedVariables false
set_option linter.unusedSimpArgs false
theorem eqA92 (d : Nat) (w : World) (x0 y0 : ByteArray) (x1 y1 : ByteArray) :
    (Op.equalIn (d + 2) 92 (.agg #[.string x0, .string x1]) (.agg #[.string y0, .string y1])).run Try.prog w = .ok (x0.toList == y0.toList && (x1.toList == y1.toList)) w := by
  refine eqA_of Try.underlying92 (by kernel_rfl) ?_
  refine eqf_cons (by rfl) (by go_simp; rfl) (by go_simp; rfl) (by go_simp) ?_
  exact eqf_last (by rfl) (by go_simp; rfl) (by go_simp; rfl) (by go_simp)
end Go.Proofs.Ytkphinfijppkeaa.G
