/- Contracts of functions of the given program, and what they come to, for any arguments. No condition beyond each theorem's own premises. -/
import Derived.Test.YtlkaebnigmfphaaXDueDrainsM1
import Derived.WalkSpells
import Derived.Deep.Slices
import Derived.Test.YtlkaebnigmfphaaXDueDrainsM0
import Derived.Conc.LoneSelect
namespace Go.Proofs.Ytlkaebnigmfphaa.G
open Go.RowKit Go.Proofs.YtlkaebnigmfphaaW.PrintWords Go.Proofs.YtlkaebnigmfphaaW.PrintLast Go.Proofs.YtlkaebnigmfphaaW.PrintMore
attribute [local go_sem] max2_int min2_int max_two min_two max_three min_three max_four min_four
set_option linter.unusedVariables false
set_option linter.unusedSimpArgs false
theorem rd_getD (xs : List S32) (i : Nat) : rd_T32 xs (i : Int) = xs.getD i z32 := by simp [rd_T32]
set_option maxHeartbeats 2000000 in
set_option maxRecDepth 100000 in
theorem less47_calls (A : Option Addr) (c : Nat) (xs : List S32) (i k : Nat) (w : World) (hr : Kd.C k32 w A xs.length xs) (hi : i < xs.length) (hk : k < xs.length) : Calls Try.prog 47 #[.slice A xs.length c, .int .i64 i, .int .i64 k] w fun e w' => e = .returned (.bool (lessB (xs.getD i z32) (xs.getD k z32))) ∧ Below w.heap.size w w' := by
  have hii : (i : Int) < (xs.length : Int) := by omega
  have hki : (k : Int) < (xs.length : Int) := by omega
  obtain ⟨ad, e1, a0, a1⟩ := at_T32 hr (i : Int) (by omega) hii
  cases e1
  obtain ⟨ad2, e2, b0, b1⟩ := at_T32 hr (k : Int) (by omega) hki
  cases e2
  rw [Int.toNat_natCast, rd_getD] at a0 a1 b0 b1
  clear hr hi hk
  generalize xs.getD i z32 = x at *
  generalize xs.getD k z32 = y at *
  unfold lessB
  obtain ⟨x0, x1⟩ := x
  obtain ⟨y0, y1⟩ := y
  dsimp only at *
  have A0 := Aside0.mk a0
  have A1 := Aside0.mk a1
  have B0 := Aside0.mk b0
  have B1 := Aside0.mk b1
  have hF := Aside0.mk (Fr.Frame.start w)
  have HC : True := trivial
  have A0 := Aside0.mk a0
  have A1 := Aside0.mk a1
  have B0 := Aside0.mk b0
  have B1 := Aside0.mk b1
  have hF := Aside0.mk (Fr.Frame.start w)
  have HC : True := trivial
  by_cases h1 : x0 < y0
  · rw [decide_eq_true h1]
    have HT := Aside0.mk (decide_eq_true h1)
    clear h1
    go_enter Try.func47, Try.ntmps47
    go_wp2_with (first | ((with_reducible refine gate_store rfl ?_); apply Fr.fr_store hF.out rfl rfl rfl; (case hp => rfl); (case hx => first | (go_simp; rfl) | rfl); (case hu => (simp only [Value.cells]; rfl)); (case hs => (repeat (first | exact Fr.Spot.here _ _ | apply Fr.Spot.there))); (case ht => kernel_rfl); (case h1 => simp [Value.oneCell']); (case hfit => simp); intro W hF1; simp only [Fr.patch, List.take_zero, List.nil_append, List.drop, List.append_nil, List.take, List.cons_append, List.length_cons, List.length_nil, Nat.reduceAdd] at hF1; have HC1 := hF1.cells; simp only [Fr.Cells, List.length_cons, List.length_nil, Nat.reduceAdd, and_true] at HC1; clear hF HC; have HC := HC1; have hF := Aside0.mk hF1; clear hF1 HC1) | ((first | (with_reducible refine Fr.gate_alloc rfl ?_) | (with_reducible refine Fr.gate_box rfl ?_)); apply Fr.fr_box hF.out rfl; (case hrun => first | (go_simp; done) | (go_simp; rfl)); intro g W hF1; have HC1 := hF1.cells; simp only [Fr.Cells, List.length_cons, List.length_nil, Nat.reduceAdd, and_true] at HC1; clear hF HC; have HC := HC1; have hF := Aside0.mk hF1; clear hF1 HC1))
    refine Fr.fr_region (by kernel_rfl) (by kernel_rfl) hF.out ?_
    iterate 10 ((apply Fr.fr_q_val; (case hw => kernel_rfl); (case hv => intro W hF1; have q0 := (hF1.below.cell (World.block_lt_of_cell? _ _ A0.out)).trans A0.out; have q1 := (hF1.below.cell (World.block_lt_of_cell? _ _ A1.out)).trans A1.out; have q2 := (hF1.below.cell (World.block_lt_of_cell? _ _ B0.out)).trans B0.out; have q3 := (hF1.below.cell (World.block_lt_of_cell? _ _ B1.out)).trans B1.out; clear hF1; first | (go_simp; done) | (go_simp; rfl)); simp only [Act.put, List.setIfInBounds_toArray, List.set_cons_zero, List.set_cons_succ]))
    iterate 1 ((apply Fr.fr_q_val (v := .bool true); (case hw => first | rfl | (go_simp; done)); (case hv => intro W hF1; have HC1 := hF1.cells; simp only [Fr.Cells, List.length_cons, List.length_nil, Nat.reduceAdd, and_true] at HC1; clear hF1; have hd9 := HT.out; first | (go_simp; done) | (go_simp; rw [if_neg (of_decide_eq_false hd9)]) | (go_simp; rw [if_pos (of_decide_eq_true hd9)])); simp only [Act.put, List.setIfInBounds_toArray, List.set_cons_zero, List.set_cons_succ]))
    iterate 1 ((apply Fr.fr_q_val; (case hw => kernel_rfl); (case hv => intro W hF1; have q0 := (hF1.below.cell (World.block_lt_of_cell? _ _ A0.out)).trans A0.out; have q1 := (hF1.below.cell (World.block_lt_of_cell? _ _ A1.out)).trans A1.out; have q2 := (hF1.below.cell (World.block_lt_of_cell? _ _ B0.out)).trans B0.out; have q3 := (hF1.below.cell (World.block_lt_of_cell? _ _ B1.out)).trans B1.out; clear hF1; first | (go_simp; done) | (go_simp; rfl)); simp only [Act.put, List.setIfInBounds_toArray, List.set_cons_zero, List.set_cons_succ]))
    iterate 12 (((with_reducible refine Fr.fr_q_skip ?hw ?_); (case hw => kernel_rfl); simp only [Act.put, List.setIfInBounds_toArray, List.set_cons_zero, List.set_cons_succ]))
    iterate 11 (((with_reducible refine Fr.fr_q_skip ?hw ?_); (case hw => kernel_rfl); simp only [Act.put, List.setIfInBounds_toArray, List.set_cons_zero, List.set_cons_succ]))
    iterate 1 (((with_reducible refine Fr.fr_q_skip ?hw ?_); (case hw => kernel_rfl); simp only [Act.put, List.setIfInBounds_toArray, List.set_cons_zero, List.set_cons_succ]))
    iterate 2 ((apply Fr.fr_q_val; (case hw => kernel_rfl); (case hv => intro W hF1; have q0 := (hF1.below.cell (World.block_lt_of_cell? _ _ A0.out)).trans A0.out; have q1 := (hF1.below.cell (World.block_lt_of_cell? _ _ A1.out)).trans A1.out; have q2 := (hF1.below.cell (World.block_lt_of_cell? _ _ B0.out)).trans B0.out; have q3 := (hF1.below.cell (World.block_lt_of_cell? _ _ B1.out)).trans B1.out; clear hF1; first | (go_simp; done) | (go_simp; rfl)); simp only [Act.put, List.setIfInBounds_toArray, List.set_cons_zero, List.set_cons_succ]))
    refine wpQuiet_nil ?_; intro W hF1; have HC1 := hF1.cells; simp only [Fr.Cells, List.length_cons, List.length_nil, Nat.reduceAdd, and_true] at HC1; clear hF HC; have HC := HC1; have hF := Aside0.mk hF1; clear hF1 HC1
    go_wp2_with (first | ((with_reducible refine gate_store rfl ?_); apply Fr.fr_store hF.out rfl rfl rfl; (case hp => rfl); (case hx => first | (go_simp; rfl) | rfl); (case hu => (simp only [Value.cells]; rfl)); (case hs => (repeat (first | exact Fr.Spot.here _ _ | apply Fr.Spot.there))); (case ht => kernel_rfl); (case h1 => simp [Value.oneCell']); (case hfit => simp); intro W hF1; simp only [Fr.patch, List.take_zero, List.nil_append, List.drop, List.append_nil, List.take, List.cons_append, List.length_cons, List.length_nil, Nat.reduceAdd] at hF1; have HC1 := hF1.cells; simp only [Fr.Cells, List.length_cons, List.length_nil, Nat.reduceAdd, and_true] at HC1; clear hF HC; have HC := HC1; have hF := Aside0.mk hF1; clear hF1 HC1) | ((first | (with_reducible refine Fr.gate_alloc rfl ?_) | (with_reducible refine Fr.gate_box rfl ?_)); apply Fr.fr_box hF.out rfl; (case hrun => first | (go_simp; done) | (go_simp; rfl)); intro g W hF1; have HC1 := hF1.cells; simp only [Fr.Cells, List.length_cons, List.length_nil, Nat.reduceAdd, and_true] at HC1; clear hF HC; have HC := HC1; have hF := Aside0.mk hF1; clear hF1 HC1))
    go_ret
    exact ⟨by first | rfl | simp, hF.out.below⟩
  · by_cases h2 : x0 = y0
    · have HT := Aside0.mk (decide_eq_false h1)
      have HE := Aside0.mk (decide_eq_true h2)
      rw [decide_eq_false h1, decide_eq_true h2]
      clear h1
      subst h2
      by_cases h3 : x1 < y1
      · rw [decide_eq_true h3]
        have HU := Aside0.mk (decide_eq_true h3)
        clear h3
        go_enter Try.func47, Try.ntmps47
        go_wp2_with (first | ((with_reducible refine gate_store rfl ?_); apply Fr.fr_store hF.out rfl rfl rfl; (case hp => rfl); (case hx => first | (go_simp; rfl) | rfl); (case hu => (simp only [Value.cells]; rfl)); (case hs => (repeat (first | exact Fr.Spot.here _ _ | apply Fr.Spot.there))); (case ht => kernel_rfl); (case h1 => simp [Value.oneCell']); (case hfit => simp); intro W hF1; simp only [Fr.patch, List.take_zero, List.nil_append, List.drop, List.append_nil, List.take, List.cons_append, List.length_cons, List.length_nil, Nat.reduceAdd] at hF1; have HC1 := hF1.cells; simp only [Fr.Cells, List.length_cons, List.length_nil, Nat.reduceAdd, and_true] at HC1; clear hF HC; have HC := HC1; have hF := Aside0.mk hF1; clear hF1 HC1) | ((first | (with_reducible refine Fr.gate_alloc rfl ?_) | (with_reducible refine Fr.gate_box rfl ?_)); apply Fr.fr_box hF.out rfl; (case hrun => first | (go_simp; done) | (go_simp; rfl)); intro g W hF1; have HC1 := hF1.cells; simp only [Fr.Cells, List.length_cons, List.length_nil, Nat.reduceAdd, and_true] at HC1; clear hF HC; have HC := HC1; have hF := Aside0.mk hF1; clear hF1 HC1))
        refine Fr.fr_region (by kernel_rfl) (by kernel_rfl) hF.out ?_
        iterate 10 ((apply Fr.fr_q_val; (case hw => kernel_rfl); (case hv => intro W hF1; have q0 := (hF1.below.cell (World.block_lt_of_cell? _ _ A0.out)).trans A0.out; have q1 := (hF1.below.cell (World.block_lt_of_cell? _ _ A1.out)).trans A1.out; have q2 := (hF1.below.cell (World.block_lt_of_cell? _ _ B0.out)).trans B0.out; have q3 := (hF1.below.cell (World.block_lt_of_cell? _ _ B1.out)).trans B1.out; clear hF1; first | (go_simp; done) | (go_simp; rfl)); simp only [Act.put, List.setIfInBounds_toArray, List.set_cons_zero, List.set_cons_succ]))
        iterate 1 ((apply Fr.fr_q_val (v := .bool false); (case hw => first | rfl | (go_simp; done)); (case hv => intro W hF1; have HC1 := hF1.cells; simp only [Fr.Cells, List.length_cons, List.length_nil, Nat.reduceAdd, and_true] at HC1; clear hF1; have hd9 := HT.out; first | (go_simp; done) | (go_simp; rw [if_neg (of_decide_eq_false hd9)]) | (go_simp; rw [if_pos (of_decide_eq_true hd9)])); simp only [Act.put, List.setIfInBounds_toArray, List.set_cons_zero, List.set_cons_succ]))
        iterate 1 ((apply Fr.fr_q_val; (case hw => kernel_rfl); (case hv => intro W hF1; have q0 := (hF1.below.cell (World.block_lt_of_cell? _ _ A0.out)).trans A0.out; have q1 := (hF1.below.cell (World.block_lt_of_cell? _ _ A1.out)).trans A1.out; have q2 := (hF1.below.cell (World.block_lt_of_cell? _ _ B0.out)).trans B0.out; have q3 := (hF1.below.cell (World.block_lt_of_cell? _ _ B1.out)).trans B1.out; clear hF1; first | (go_simp; done) | (go_simp; rfl)); simp only [Act.put, List.setIfInBounds_toArray, List.set_cons_zero, List.set_cons_succ]))
        iterate 10 ((apply Fr.fr_q_val; (case hw => kernel_rfl); (case hv => intro W hF1; have q0 := (hF1.below.cell (World.block_lt_of_cell? _ _ A0.out)).trans A0.out; have q1 := (hF1.below.cell (World.block_lt_of_cell? _ _ A1.out)).trans A1.out; have q2 := (hF1.below.cell (World.block_lt_of_cell? _ _ B0.out)).trans B0.out; have q3 := (hF1.below.cell (World.block_lt_of_cell? _ _ B1.out)).trans B1.out; clear hF1; first | (go_simp; done) | (go_simp; rfl)); simp only [Act.put, List.setIfInBounds_toArray, List.set_cons_zero, List.set_cons_succ]))
        iterate 1 ((apply Fr.fr_q_val; (case hw => kernel_rfl); (case hv => intro W hF1; have q0 := (hF1.below.cell (World.block_lt_of_cell? _ _ A0.out)).trans A0.out; have q1 := (hF1.below.cell (World.block_lt_of_cell? _ _ A1.out)).trans A1.out; have q2 := (hF1.below.cell (World.block_lt_of_cell? _ _ B0.out)).trans B0.out; have q3 := (hF1.below.cell (World.block_lt_of_cell? _ _ B1.out)).trans B1.out; clear hF1; first | (go_simp; done) | (go_simp; rfl)); simp only [Act.put, List.setIfInBounds_toArray, List.set_cons_zero, List.set_cons_succ]))
        iterate 1 ((apply Fr.fr_q_val; (case hw => kernel_rfl); (case hv => intro W hF1; have q0 := (hF1.below.cell (World.block_lt_of_cell? _ _ A0.out)).trans A0.out; have q1 := (hF1.below.cell (World.block_lt_of_cell? _ _ A1.out)).trans A1.out; have q2 := (hF1.below.cell (World.block_lt_of_cell? _ _ B0.out)).trans B0.out; have q3 := (hF1.below.cell (World.block_lt_of_cell? _ _ B1.out)).trans B1.out; clear hF1; first | (go_simp; done) | (go_simp; rfl)); simp only [Act.put, List.setIfInBounds_toArray, List.set_cons_zero, List.set_cons_succ]))
        iterate 10 ((apply Fr.fr_q_val; (case hw => kernel_rfl); (case hv => intro W hF1; have q0 := (hF1.below.cell (World.block_lt_of_cell? _ _ A0.out)).trans A0.out; have q1 := (hF1.below.cell (World.block_lt_of_cell? _ _ A1.out)).trans A1.out; have q2 := (hF1.below.cell (World.block_lt_of_cell? _ _ B0.out)).trans B0.out; have q3 := (hF1.below.cell (World.block_lt_of_cell? _ _ B1.out)).trans B1.out; clear hF1; first | (go_simp; done) | (go_simp; rfl)); simp only [Act.put, List.setIfInBounds_toArray, List.set_cons_zero, List.set_cons_succ]))
        iterate 1 ((apply Fr.fr_q_val (v := .bool true); (case hw => first | rfl | (go_simp; done)); (case hv => intro W hF1; have HC1 := hF1.cells; simp only [Fr.Cells, List.length_cons, List.length_nil, Nat.reduceAdd, and_true] at HC1; clear hF1; have hd9 := HU.out; first | (go_simp; done) | (go_simp; rw [if_neg (of_decide_eq_false hd9)]) | (go_simp; rw [if_pos (of_decide_eq_true hd9)])); simp only [Act.put, List.setIfInBounds_toArray, List.set_cons_zero, List.set_cons_succ]))
        iterate 1 ((apply Fr.fr_q_val; (case hw => kernel_rfl); (case hv => intro W hF1; have q0 := (hF1.below.cell (World.block_lt_of_cell? _ _ A0.out)).trans A0.out; have q1 := (hF1.below.cell (World.block_lt_of_cell? _ _ A1.out)).trans A1.out; have q2 := (hF1.below.cell (World.block_lt_of_cell? _ _ B0.out)).trans B0.out; have q3 := (hF1.below.cell (World.block_lt_of_cell? _ _ B1.out)).trans B1.out; clear hF1; first | (go_simp; done) | (go_simp; rfl)); simp only [Act.put, List.setIfInBounds_toArray, List.set_cons_zero, List.set_cons_succ]))
        iterate 2 ((apply Fr.fr_q_val; (case hw => kernel_rfl); (case hv => intro W hF1; have q0 := (hF1.below.cell (World.block_lt_of_cell? _ _ A0.out)).trans A0.out; have q1 := (hF1.below.cell (World.block_lt_of_cell? _ _ A1.out)).trans A1.out; have q2 := (hF1.below.cell (World.block_lt_of_cell? _ _ B0.out)).trans B0.out; have q3 := (hF1.below.cell (World.block_lt_of_cell? _ _ B1.out)).trans B1.out; clear hF1; first | (go_simp; done) | (go_simp; rfl)); simp only [Act.put, List.setIfInBounds_toArray, List.set_cons_zero, List.set_cons_succ]))
        refine wpQuiet_nil ?_; intro W hF1; have HC1 := hF1.cells; simp only [Fr.Cells, List.length_cons, List.length_nil, Nat.reduceAdd, and_true] at HC1; clear hF HC; have HC := HC1; have hF := Aside0.mk hF1; clear hF1 HC1
        go_wp2_with (first | ((with_reducible refine gate_store rfl ?_); apply Fr.fr_store hF.out rfl rfl rfl; (case hp => rfl); (case hx => first | (go_simp; rfl) | rfl); (case hu => (simp only [Value.cells]; rfl)); (case hs => (repeat (first | exact Fr.Spot.here _ _ | apply Fr.Spot.there))); (case ht => kernel_rfl); (case h1 => simp [Value.oneCell']); (case hfit => simp); intro W hF1; simp only [Fr.patch, List.take_zero, List.nil_append, List.drop, List.append_nil, List.take, List.cons_append, List.length_cons, List.length_nil, Nat.reduceAdd] at hF1; have HC1 := hF1.cells; simp only [Fr.Cells, List.length_cons, List.length_nil, Nat.reduceAdd, and_true] at HC1; clear hF HC; have HC := HC1; have hF := Aside0.mk hF1; clear hF1 HC1) | ((first | (with_reducible refine Fr.gate_alloc rfl ?_) | (with_reducible refine Fr.gate_box rfl ?_)); apply Fr.fr_box hF.out rfl; (case hrun => first | (go_simp; done) | (go_simp; rfl)); intro g W hF1; have HC1 := hF1.cells; simp only [Fr.Cells, List.length_cons, List.length_nil, Nat.reduceAdd, and_true] at HC1; clear hF HC; have HC := HC1; have hF := Aside0.mk hF1; clear hF1 HC1))
        go_ret
        exact ⟨by first | rfl | simp, hF.out.below⟩
      · rw [decide_eq_false h3]
        have HU := Aside0.mk (decide_eq_false h3)
        clear h3
        go_enter Try.func47, Try.ntmps47
        go_wp2_with (first | ((with_reducible refine gate_store rfl ?_); apply Fr.fr_store hF.out rfl rfl rfl; (case hp => rfl); (case hx => first | (go_simp; rfl) | rfl); (case hu => (simp only [Value.cells]; rfl)); (case hs => (repeat (first | exact Fr.Spot.here _ _ | apply Fr.Spot.there))); (case ht => kernel_rfl); (case h1 => simp [Value.oneCell']); (case hfit => simp); intro W hF1; simp only [Fr.patch, List.take_zero, List.nil_append, List.drop, List.append_nil, List.take, List.cons_append, List.length_cons, List.length_nil, Nat.reduceAdd] at hF1; have HC1 := hF1.cells; simp only [Fr.Cells, List.length_cons, List.length_nil, Nat.reduceAdd, and_true] at HC1; clear hF HC; have HC := HC1; have hF := Aside0.mk hF1; clear hF1 HC1) | ((first | (with_reducible refine Fr.gate_alloc rfl ?_) | (with_reducible refine Fr.gate_box rfl ?_)); apply Fr.fr_box hF.out rfl; (case hrun => first | (go_simp; done) | (go_simp; rfl)); intro g W hF1; have HC1 := hF1.cells; simp only [Fr.Cells, List.length_cons, List.length_nil, Nat.reduceAdd, and_true] at HC1; clear hF HC; have HC := HC1; have hF := Aside0.mk hF1; clear hF1 HC1))
        refine Fr.fr_region (by kernel_rfl) (by kernel_rfl) hF.out ?_
        iterate 10 ((apply Fr.fr_q_val; (case hw => kernel_rfl); (case hv => intro W hF1; have q0 := (hF1.below.cell (World.block_lt_of_cell? _ _ A0.out)).trans A0.out; have q1 := (hF1.below.cell (World.block_lt_of_cell? _ _ A1.out)).trans A1.out; have q2 := (hF1.below.cell (World.block_lt_of_cell? _ _ B0.out)).trans B0.out; have q3 := (hF1.below.cell (World.block_lt_of_cell? _ _ B1.out)).trans B1.out; clear hF1; first | (go_simp; done) | (go_simp; rfl)); simp only [Act.put, List.setIfInBounds_toArray, List.set_cons_zero, List.set_cons_succ]))
        iterate 1 ((apply Fr.fr_q_val (v := .bool false); (case hw => first | rfl | (go_simp; done)); (case hv => intro W hF1; have HC1 := hF1.cells; simp only [Fr.Cells, List.length_cons, List.length_nil, Nat.reduceAdd, and_true] at HC1; clear hF1; have hd9 := HT.out; first | (go_simp; done) | (go_simp; rw [if_neg (of_decide_eq_false hd9)]) | (go_simp; rw [if_pos (of_decide_eq_true hd9)])); simp only [Act.put, List.setIfInBounds_toArray, List.set_cons_zero, List.set_cons_succ]))
        iterate 1 ((apply Fr.fr_q_val; (case hw => kernel_rfl); (case hv => intro W hF1; have q0 := (hF1.below.cell (World.block_lt_of_cell? _ _ A0.out)).trans A0.out; have q1 := (hF1.below.cell (World.block_lt_of_cell? _ _ A1.out)).trans A1.out; have q2 := (hF1.below.cell (World.block_lt_of_cell? _ _ B0.out)).trans B0.out; have q3 := (hF1.below.cell (World.block_lt_of_cell? _ _ B1.out)).trans B1.out; clear hF1; first | (go_simp; done) | (go_simp; rfl)); simp only [Act.put, List.setIfInBounds_toArray, List.set_cons_zero, List.set_cons_succ]))
        iterate 10 ((apply Fr.fr_q_val; (case hw => kernel_rfl); (case hv => intro W hF1; have q0 := (hF1.below.cell (World.block_lt_of_cell? _ _ A0.out)).trans A0.out; have q1 := (hF1.below.cell (World.block_lt_of_cell? _ _ A1.out)).trans A1.out; have q2 := (hF1.below.cell (World.block_lt_of_cell? _ _ B0.out)).trans B0.out; have q3 := (hF1.below.cell (World.block_lt_of_cell? _ _ B1.out)).trans B1.out; clear hF1; first | (go_simp; done) | (go_simp; rfl)); simp only [Act.put, List.setIfInBounds_toArray, List.set_cons_zero, List.set_cons_succ]))
        iterate 1 ((apply Fr.fr_q_val; (case hw => kernel_rfl); (case hv => intro W hF1; have q0 := (hF1.below.cell (World.block_lt_of_cell? _ _ A0.out)).trans A0.out; have q1 := (hF1.below.cell (World.block_lt_of_cell? _ _ A1.out)).trans A1.out; have q2 := (hF1.below.cell (World.block_lt_of_cell? _ _ B0.out)).trans B0.out; have q3 := (hF1.below.cell (World.block_lt_of_cell? _ _ B1.out)).trans B1.out; clear hF1; first | (go_simp; done) | (go_simp; rfl)); simp only [Act.put, List.setIfInBounds_toArray, List.set_cons_zero, List.set_cons_succ]))
        iterate 1 ((apply Fr.fr_q_val; (case hw => kernel_rfl); (case hv => intro W hF1; have q0 := (hF1.below.cell (World.block_lt_of_cell? _ _ A0.out)).trans A0.out; have q1 := (hF1.below.cell (World.block_lt_of_cell? _ _ A1.out)).trans A1.out; have q2 := (hF1.below.cell (World.block_lt_of_cell? _ _ B0.out)).trans B0.out; have q3 := (hF1.below.cell (World.block_lt_of_cell? _ _ B1.out)).trans B1.out; clear hF1; first | (go_simp; done) | (go_simp; rfl)); simp only [Act.put, List.setIfInBounds_toArray, List.set_cons_zero, List.set_cons_succ]))
        iterate 10 ((apply Fr.fr_q_val; (case hw => kernel_rfl); (case hv => intro W hF1; have q0 := (hF1.below.cell (World.block_lt_of_cell? _ _ A0.out)).trans A0.out; have q1 := (hF1.below.cell (World.block_lt_of_cell? _ _ A1.out)).trans A1.out; have q2 := (hF1.below.cell (World.block_lt_of_cell? _ _ B0.out)).trans B0.out; have q3 := (hF1.below.cell (World.block_lt_of_cell? _ _ B1.out)).trans B1.out; clear hF1; first | (go_simp; done) | (go_simp; rfl)); simp only [Act.put, List.setIfInBounds_toArray, List.set_cons_zero, List.set_cons_succ]))
        iterate 1 ((apply Fr.fr_q_val (v := .bool false); (case hw => first | rfl | (go_simp; done)); (case hv => intro W hF1; have HC1 := hF1.cells; simp only [Fr.Cells, List.length_cons, List.length_nil, Nat.reduceAdd, and_true] at HC1; clear hF1; have hd9 := HU.out; first | (go_simp; done) | (go_simp; rw [if_neg (of_decide_eq_false hd9)]) | (go_simp; rw [if_pos (of_decide_eq_true hd9)])); simp only [Act.put, List.setIfInBounds_toArray, List.set_cons_zero, List.set_cons_succ]))
        iterate 1 ((apply Fr.fr_q_val; (case hw => kernel_rfl); (case hv => intro W hF1; have q0 := (hF1.below.cell (World.block_lt_of_cell? _ _ A0.out)).trans A0.out; have q1 := (hF1.below.cell (World.block_lt_of_cell? _ _ A1.out)).trans A1.out; have q2 := (hF1.below.cell (World.block_lt_of_cell? _ _ B0.out)).trans B0.out; have q3 := (hF1.below.cell (World.block_lt_of_cell? _ _ B1.out)).trans B1.out; clear hF1; first | (go_simp; done) | (go_simp; rfl)); simp only [Act.put, List.setIfInBounds_toArray, List.set_cons_zero, List.set_cons_succ]))
        iterate 2 ((apply Fr.fr_q_val; (case hw => kernel_rfl); (case hv => intro W hF1; have q0 := (hF1.below.cell (World.block_lt_of_cell? _ _ A0.out)).trans A0.out; have q1 := (hF1.below.cell (World.block_lt_of_cell? _ _ A1.out)).trans A1.out; have q2 := (hF1.below.cell (World.block_lt_of_cell? _ _ B0.out)).trans B0.out; have q3 := (hF1.below.cell (World.block_lt_of_cell? _ _ B1.out)).trans B1.out; clear hF1; first | (go_simp; done) | (go_simp; rfl)); simp only [Act.put, List.setIfInBounds_toArray, List.set_cons_zero, List.set_cons_succ]))
        refine wpQuiet_nil ?_; intro W hF1; have HC1 := hF1.cells; simp only [Fr.Cells, List.length_cons, List.length_nil, Nat.reduceAdd, and_true] at HC1; clear hF HC; have HC := HC1; have hF := Aside0.mk hF1; clear hF1 HC1
        go_wp2_with (first | ((with_reducible refine gate_store rfl ?_); apply Fr.fr_store hF.out rfl rfl rfl; (case hp => rfl); (case hx => first | (go_simp; rfl) | rfl); (case hu => (simp only [Value.cells]; rfl)); (case hs => (repeat (first | exact Fr.Spot.here _ _ | apply Fr.Spot.there))); (case ht => kernel_rfl); (case h1 => simp [Value.oneCell']); (case hfit => simp); intro W hF1; simp only [Fr.patch, List.take_zero, List.nil_append, List.drop, List.append_nil, List.take, List.cons_append, List.length_cons, List.length_nil, Nat.reduceAdd] at hF1; have HC1 := hF1.cells; simp only [Fr.Cells, List.length_cons, List.length_nil, Nat.reduceAdd, and_true] at HC1; clear hF HC; have HC := HC1; have hF := Aside0.mk hF1; clear hF1 HC1) | ((first | (with_reducible refine Fr.gate_alloc rfl ?_) | (with_reducible refine Fr.gate_box rfl ?_)); apply Fr.fr_box hF.out rfl; (case hrun => first | (go_simp; done) | (go_simp; rfl)); intro g W hF1; have HC1 := hF1.cells; simp only [Fr.Cells, List.length_cons, List.length_nil, Nat.reduceAdd, and_true] at HC1; clear hF HC; have HC := HC1; have hF := Aside0.mk hF1; clear hF1 HC1))
        go_ret
        exact ⟨by first | rfl | simp, hF.out.below⟩
    · have h2b : (x0 == y0) = false := beq_false_of_ne h2
      have HT := Aside0.mk (decide_eq_false h1)
      rw [decide_eq_false h1, decide_eq_false h2]
      clear h1 h2
      go_enter Try.func47, Try.ntmps47
      go_wp2_with (first | ((with_reducible refine gate_store rfl ?_); apply Fr.fr_store hF.out rfl rfl rfl; (case hp => rfl); (case hx => first | (go_simp; rfl) | rfl); (case hu => (simp only [Value.cells]; rfl)); (case hs => (repeat (first | exact Fr.Spot.here _ _ | apply Fr.Spot.there))); (case ht => kernel_rfl); (case h1 => simp [Value.oneCell']); (case hfit => simp); intro W hF1; simp only [Fr.patch, List.take_zero, List.nil_append, List.drop, List.append_nil, List.take, List.cons_append, List.length_cons, List.length_nil, Nat.reduceAdd] at hF1; have HC1 := hF1.cells; simp only [Fr.Cells, List.length_cons, List.length_nil, Nat.reduceAdd, and_true] at HC1; clear hF HC; have HC := HC1; have hF := Aside0.mk hF1; clear hF1 HC1) | ((first | (with_reducible refine Fr.gate_alloc rfl ?_) | (with_reducible refine Fr.gate_box rfl ?_)); apply Fr.fr_box hF.out rfl; (case hrun => first | (go_simp; done) | (go_simp; rfl)); intro g W hF1; have HC1 := hF1.cells; simp only [Fr.Cells, List.length_cons, List.length_nil, Nat.reduceAdd, and_true] at HC1; clear hF HC; have HC := HC1; have hF := Aside0.mk hF1; clear hF1 HC1))
      refine Fr.fr_region (by kernel_rfl) (by kernel_rfl) hF.out ?_
      iterate 10 ((apply Fr.fr_q_val; (case hw => kernel_rfl); (case hv => intro W hF1; have q0 := (hF1.below.cell (World.block_lt_of_cell? _ _ A0.out)).trans A0.out; have q1 := (hF1.below.cell (World.block_lt_of_cell? _ _ A1.out)).trans A1.out; have q2 := (hF1.below.cell (World.block_lt_of_cell? _ _ B0.out)).trans B0.out; have q3 := (hF1.below.cell (World.block_lt_of_cell? _ _ B1.out)).trans B1.out; clear hF1; first | (go_simp; done) | (go_simp; rfl)); simp only [Act.put, List.setIfInBounds_toArray, List.set_cons_zero, List.set_cons_succ]))
      iterate 1 ((apply Fr.fr_q_val (v := .bool false); (case hw => first | rfl | (go_simp; done)); (case hv => intro W hF1; have HC1 := hF1.cells; simp only [Fr.Cells, List.length_cons, List.length_nil, Nat.reduceAdd, and_true] at HC1; clear hF1; have hd9 := HT.out; first | (go_simp; done) | (go_simp; rw [if_neg (of_decide_eq_false hd9)]) | (go_simp; rw [if_pos (of_decide_eq_true hd9)])); simp only [Act.put, List.setIfInBounds_toArray, List.set_cons_zero, List.set_cons_succ]))
      iterate 1 ((apply Fr.fr_q_val; (case hw => kernel_rfl); (case hv => intro W hF1; have q0 := (hF1.below.cell (World.block_lt_of_cell? _ _ A0.out)).trans A0.out; have q1 := (hF1.below.cell (World.block_lt_of_cell? _ _ A1.out)).trans A1.out; have q2 := (hF1.below.cell (World.block_lt_of_cell? _ _ B0.out)).trans B0.out; have q3 := (hF1.below.cell (World.block_lt_of_cell? _ _ B1.out)).trans B1.out; clear hF1; first | (go_simp; done) | (go_simp; rfl)); simp only [Act.put, List.setIfInBounds_toArray, List.set_cons_zero, List.set_cons_succ]))
      iterate 10 ((apply Fr.fr_q_val; (case hw => kernel_rfl); (case hv => intro W hF1; have q0 := (hF1.below.cell (World.block_lt_of_cell? _ _ A0.out)).trans A0.out; have q1 := (hF1.below.cell (World.block_lt_of_cell? _ _ A1.out)).trans A1.out; have q2 := (hF1.below.cell (World.block_lt_of_cell? _ _ B0.out)).trans B0.out; have q3 := (hF1.below.cell (World.block_lt_of_cell? _ _ B1.out)).trans B1.out; clear hF1; first | (go_simp; done) | (go_simp; rfl)); simp only [Act.put, List.setIfInBounds_toArray, List.set_cons_zero, List.set_cons_succ]))
      iterate 1 ((apply Fr.fr_q_val; (case hw => kernel_rfl); (case hv => intro W hF1; have q0 := (hF1.below.cell (World.block_lt_of_cell? _ _ A0.out)).trans A0.out; have q1 := (hF1.below.cell (World.block_lt_of_cell? _ _ A1.out)).trans A1.out; have q2 := (hF1.below.cell (World.block_lt_of_cell? _ _ B0.out)).trans B0.out; have q3 := (hF1.below.cell (World.block_lt_of_cell? _ _ B1.out)).trans B1.out; clear hF1; first | (go_simp; done) | (go_simp; rfl)); simp only [Act.put, List.setIfInBounds_toArray, List.set_cons_zero, List.set_cons_succ]))
      iterate 1 ((apply Fr.fr_q_val; (case hw => kernel_rfl); (case hv => intro W hF1; have q0 := (hF1.below.cell (World.block_lt_of_cell? _ _ A0.out)).trans A0.out; have q1 := (hF1.below.cell (World.block_lt_of_cell? _ _ A1.out)).trans A1.out; have q2 := (hF1.below.cell (World.block_lt_of_cell? _ _ B0.out)).trans B0.out; have q3 := (hF1.below.cell (World.block_lt_of_cell? _ _ B1.out)).trans B1.out; clear hF1; first | (go_simp; done) | (go_simp; rfl)); simp only [Act.put, List.setIfInBounds_toArray, List.set_cons_zero, List.set_cons_succ]))
      iterate 11 (((with_reducible refine Fr.fr_q_skip ?hw ?_); (case hw => kernel_rfl); simp only [Act.put, List.setIfInBounds_toArray, List.set_cons_zero, List.set_cons_succ]))
      iterate 1 ((apply Fr.fr_q_val; (case hw => kernel_rfl); (case hv => intro W hF1; have q0 := (hF1.below.cell (World.block_lt_of_cell? _ _ A0.out)).trans A0.out; have q1 := (hF1.below.cell (World.block_lt_of_cell? _ _ A1.out)).trans A1.out; have q2 := (hF1.below.cell (World.block_lt_of_cell? _ _ B0.out)).trans B0.out; have q3 := (hF1.below.cell (World.block_lt_of_cell? _ _ B1.out)).trans B1.out; clear hF1; first | (go_simp; done) | (go_simp; rfl)); simp only [Act.put, List.setIfInBounds_toArray, List.set_cons_zero, List.set_cons_succ]))
      iterate 2 ((apply Fr.fr_q_val; (case hw => kernel_rfl); (case hv => intro W hF1; have q0 := (hF1.below.cell (World.block_lt_of_cell? _ _ A0.out)).trans A0.out; have q1 := (hF1.below.cell (World.block_lt_of_cell? _ _ A1.out)).trans A1.out; have q2 := (hF1.below.cell (World.block_lt_of_cell? _ _ B0.out)).trans B0.out; have q3 := (hF1.below.cell (World.block_lt_of_cell? _ _ B1.out)).trans B1.out; clear hF1; first | (go_simp; done) | (go_simp; rfl)); simp only [Act.put, List.setIfInBounds_toArray, List.set_cons_zero, List.set_cons_succ]))
      refine wpQuiet_nil ?_; intro W hF1; have HC1 := hF1.cells; simp only [Fr.Cells, List.length_cons, List.length_nil, Nat.reduceAdd, and_true] at HC1; clear hF HC; have HC := HC1; have hF := Aside0.mk hF1; clear hF1 HC1
      go_wp2_with (first | ((with_reducible refine gate_store rfl ?_); apply Fr.fr_store hF.out rfl rfl rfl; (case hp => rfl); (case hx => first | (go_simp; rfl) | rfl); (case hu => (simp only [Value.cells]; rfl)); (case hs => (repeat (first | exact Fr.Spot.here _ _ | apply Fr.Spot.there))); (case ht => kernel_rfl); (case h1 => simp [Value.oneCell']); (case hfit => simp); intro W hF1; simp only [Fr.patch, List.take_zero, List.nil_append, List.drop, List.append_nil, List.take, List.cons_append, List.length_cons, List.length_nil, Nat.reduceAdd] at hF1; have HC1 := hF1.cells; simp only [Fr.Cells, List.length_cons, List.length_nil, Nat.reduceAdd, and_true] at HC1; clear hF HC; have HC := HC1; have hF := Aside0.mk hF1; clear hF1 HC1) | ((first | (with_reducible refine Fr.gate_alloc rfl ?_) | (with_reducible refine Fr.gate_box rfl ?_)); apply Fr.fr_box hF.out rfl; (case hrun => first | (go_simp; done) | (go_simp; rfl)); intro g W hF1; have HC1 := hF1.cells; simp only [Fr.Cells, List.length_cons, List.length_nil, Nat.reduceAdd, and_true] at HC1; clear hF HC; have HC := HC1; have hF := Aside0.mk hF1; clear hF1 HC1))
      go_ret
      exact ⟨by first | rfl | simp, hF.out.below⟩
theorem again {g : Nat} {t : TypeId} {bs : List Fr.Blk} {cs : List Value} {f : List Value → List Fr.Blk} (h : Fr.Spot g t bs cs f) (c : List Value) : Fr.Spot g t (f c) c f := by
  induction h with
  | here cs bs => exact .here c bs
  | there b _ ih => exact .there b ih
theorem swp_same {w0 W : World} {bs : List Fr.Blk} {rs : List Fr.Row} {g : Nat} {xs : List S32} {tl : List Value} {f : List Value → List Fr.Blk} {i k : Nat} (hF : Fr.Frame w0 W bs rs) (hs : Fr.Spot g 32 bs (flat (xs) ++ tl) f) (hi : i < xs.length) (hk : k < xs.length) :
    Fr.Frame w0 ((((W.setCell ⟨g, i * 2, none⟩ (.int .i64 (xs.getD k z32).f0)).setCell ⟨g, i * 2 + 1, none⟩ (.int .i64 (xs.getD k z32).f1)).setCell ⟨g, k * 2, none⟩ (.int .i64 (xs.getD i z32).f0)).setCell ⟨g, k * 2 + 1, none⟩ (.int .i64 (xs.getD i z32).f1)) (f (flat (swp xs i k) ++ tl)) rs := by
  have h1 := hF.put hs (i * 2) [.int .i64 (xs.getD k z32).f0, .int .i64 (xs.getD k z32).f1] (by rw [List.length_append, flat_len]; simp; omega)
  rw [flat_patch2 _ _ _ _ hi] at h1
  have h2 := h1.put (again hs _) (k * 2) [.int .i64 (xs.getD i z32).f0, .int .i64 (xs.getD i z32).f1] (by rw [List.length_append, flat_len]; simp; omega)
  rw [flat_patch2 _ _ _ _ (by simpa using hk)] at h2
  exact h2
set_option maxHeartbeats 2000000 in
set_option maxRecDepth 100000 in
theorem swap50_calls (c : Nat) (xs : List S32) (tl : List Value) (g i k : Nat) (w0 W : World) (bs : List Fr.Blk) (rs : List Fr.Row) (f : List Value → List Fr.Blk) (hF : Fr.Frame w0 W bs rs) (hs : Fr.Spot g 32 bs (flat (xs) ++ tl) f) (hi : i < xs.length) (hk : k < xs.length) : Calls Try.prog 50 #[.slice (some ⟨g, 0, none⟩) xs.length c, .int .i64 i, .int .i64 k] W fun e W' => e = .returned (.tuple #[]) ∧ Fr.Frame w0 W' (f (flat (swp xs i k) ++ tl)) rs := by
  have hii : (i : Int) < (xs.length : Int) := by omega
  have hki : (k : Int) < (xs.length : Int) := by omega
  have ha := flat_cell hF hs i hi
  have hb := flat_cell hF hs k hk
  have HQ := Aside0.mk (swp_same hF hs hi hk).drew
  obtain ⟨a0, a1⟩ := ha
  obtain ⟨b0, b1⟩ := hb
  generalize xs.getD i z32 = x at *
  generalize xs.getD k z32 = y at *
  obtain ⟨x0, x1⟩ := x
  obtain ⟨y0, y1⟩ := y
  dsimp only at *
  have fz := fun n => blk_frozen (hF.blk _ hs.mem).2 n
  dsimp only at fz
  obtain ⟨q0, hq0⟩ : ∃ q, ((W.setCell ⟨g, i * 2, none⟩ (.int .i64 y0)).setCell ⟨g, i * 2 + 1, none⟩ (.int .i64 y1)).cell? ⟨g, k * 2, none⟩ = some q := Option.isSome_iff_exists.1 (by rw [isSome_setCell, isSome_setCell, b0]; rfl)
  obtain ⟨q1, hq1⟩ : ∃ q, (((W.setCell ⟨g, i * 2, none⟩ (.int .i64 y0)).setCell ⟨g, i * 2 + 1, none⟩ (.int .i64 y1)).setCell ⟨g, k * 2, none⟩ (.int .i64 x0)).cell? ⟨g, k * 2 + 1, none⟩ = some q := Option.isSome_iff_exists.1 (by rw [isSome_setCell, isSome_setCell, isSome_setCell, b1]; rfl)
  clear hF hs hi hk
  go_enter Try.func50, Try.ntmps50
  go_wp2_with fail
  go_region_with (fail)
  all_goals (go_end0; exact ⟨rfl, HQ.out⟩)
theorem w64b {n : Int} (h : -9223372036854775808 ≤ n) (h' : n ≤ 9223372036854775807) : wrap64 n = n := by unfold wrap64; omega
def kid (xs : List S32) (i n : Nat) : Nat := if 2 * i + 2 < n ∧ lessB (xs.getD (2 * i + 2) z32) (xs.getD (2 * i + 1) z32) = true then 2 * i + 2 else 2 * i + 1
def downL : Nat → List S32 → Nat → Nat → List S32
  | 0, xs, _, _ => xs
  | k + 1, xs, i, n => if 2 * i + 1 < n then (if lessB (xs.getD (kid xs i n) z32) (xs.getD i z32) = true then downL k (swp xs i (kid xs i n)) (kid xs i n) n else xs) else xs
structure Lies (f : List Value → List Fr.Blk) (g h n c : Nat) : Prop where
  spot : ∀ cs, Fr.Spot g 32 (f cs) cs f
  ptr : ∀ cs, (h, [.slice (some ⟨g, 0, none⟩) n c], 48) ∈ f cs
theorem E46 : ∀ args w, (callFunc 46 args).run Try.prog w = .ok (.enter 46 args) w := enters_of Try.func46 (by kernel_rfl) rfl
theorem E47 : ∀ args w, (callFunc 47 args).run Try.prog w = .ok (.enter 47 args) w := enters_of Try.func47 (by kernel_rfl) rfl
theorem E50 : ∀ args w, (callFunc 50 args).run Try.prog w = .ok (.enter 50 args) w := enters_of Try.func50 (by kernel_rfl) rfl
theorem ptr_cell {f : List Value → List Fr.Blk} {g h n c : Nat} (hl : Lies f g h n c) {w0 W : World} {cs : List Value} {rs : List Fr.Row} (hF : Fr.Frame w0 W (f cs) rs) : W.cell? ⟨h, 0, none⟩ = some (.slice (some ⟨g, 0, none⟩) n c) := (blk_cell (hF.blk _ (hl.ptr cs)).2 0).trans rfl
theorem kid_in {xs : List S32} {i n : Nat} (h : 2 * i + 1 < n) : i < kid xs i n ∧ kid xs i n < n := by unfold kid; split <;> omega
theorem less47_int (c : Nat) (xs : List S32) (tl : List Value) (g nx i k : Nat) (a b : Int) (w0 W : World) (bs : List Fr.Blk) (rs : List Fr.Row) (f : List Value → List Fr.Blk) (hF : Fr.Frame w0 W bs rs) (hs : Fr.Spot g 32 bs (flat (xs) ++ tl) f) (hx : xs.length = nx) (hm : nx ≤ 1000) (ha : a = (i : Int)) (hb : b = (k : Int)) (hi : i < nx) (hk : k < nx) : Calls Try.prog 47 #[.slice (some ⟨g, 0, none⟩) nx c, .int .i64 a, .int .i64 b] W fun e w' => e = .returned (.bool (lessB (xs.getD i z32) (xs.getD k z32))) ∧ Fr.Frame w0 w' bs rs := by
  subst hx ha hb
  exact (less47_calls _ c xs i k W (flat_C hF hs (by omega)) hi hk).mono (fun e w' h => ⟨h.1, hF.call h.2⟩)
theorem swap50_int (c : Nat) (xs : List S32) (tl : List Value) (g nx i k : Nat) (a b : Int) (w0 W : World) (bs : List Fr.Blk) (rs : List Fr.Row) (f : List Value → List Fr.Blk) (hF : Fr.Frame w0 W bs rs) (hs : Fr.Spot g 32 bs (flat (xs) ++ tl) f) (hx : xs.length = nx) (ha : a = (i : Int)) (hb : b = (k : Int)) (hi : i < nx) (hk : k < nx) : Calls Try.prog 50 #[.slice (some ⟨g, 0, none⟩) nx c, .int .i64 a, .int .i64 b] W fun e W' => e = .returned (.tuple #[]) ∧ Fr.Frame w0 W' (f (flat (swp xs i k) ++ tl)) rs := by
  subst hx ha hb
  exact swap50_calls c xs tl g i k w0 W bs rs f hF hs hi hk
set_option maxHeartbeats 4000000 in
set_option maxRecDepth 100000 in
theorem down27_calls (c : Nat) (xs : List S32) (tl : List Value) (g h i n : Nat) (w0 W : World) (rs : List Fr.Row) (f : List Value → List Fr.Blk) (hl : Lies f g h xs.length c) (hF : Fr.Frame w0 W (f (flat (xs) ++ tl)) rs) (hn : n ≤ xs.length) (hi : i ≤ 1000) (hx : xs.length ≤ 1000) :
    Calls Try.prog 27 #[.iface 45 (.pointer (some ⟨h, 0, none⟩)), .int .i64 i, .int .i64 n] W fun e W' => (∃ v, e = .returned v) ∧ Fr.Frame w0 W' (f (flat (downL (n + 1) xs i n) ++ tl)) rs := by
  obtain ⟨R, hR⟩ : ∃ R, downL (n + 1) xs i n = R := ⟨_, rfl⟩
  obtain ⟨nx, hnx⟩ : ∃ nx, xs.length = nx := ⟨_, rfl⟩
  rw [hR]
  rw [hnx] at hl hn hx
  have HL := Aside0.mk hl
  have HF := Aside0.mk hF
  have HR := Aside0.mk hR
  have HX := Aside0.mk hx
  have hnb : n ≤ 1000 := by omega
  have HNX := Aside0.mk hnx
  have HN := Aside0.mk hn
  have mLess := fun (w : World) (hc : w.cell? ⟨h, 0, none⟩ = some (.slice (some ⟨g, 0, none⟩) nx c)) => met_Less h _ w hc
  have mSwap := fun (w : World) (hc : w.cell? ⟨h, 0, none⟩ = some (.slice (some ⟨g, 0, none⟩) nx c)) => met_Swap h _ w hc
  have eLess := E47
  have eSwap := E50
  clear hl hF hR hx hnx hn
  go_enter Try.func27, Try.ntmps27
  go_wp2_with fail
  go_loopg [7] n (fun kq v7 w' => ∃ (j k : Nat) (zs : List S32), v7 = .int .i64 j ∧ j ≤ 1000 ∧ n - j ≤ kq ∧ Aside0 (n - j < k) ∧ Aside0 (zs.length = nx) ∧ Aside0 (downL k zs j n = R) ∧ Aside0 (Fr.Frame w0 w' (f (flat (zs) ++ tl)) rs))
  case atStart => exact ⟨i, n + 1, xs, rfl, hi, by omega, ⟨by omega⟩, HNX, HR, HF⟩
  case round =>
    clear HF HR HNX
    obtain ⟨j, k, zs, rfl, hj, hg, HK, HZ, HR, HF⟩ := hrel
    obtain ⟨k, rfl⟩ : ∃ k', k = k' + 1 := ⟨k - 1, by have := HK.out; omega⟩
    have hc := ptr_cell HL.out HF.out
    have hr := HR.out
    rw [downL] at hr
    have hF := HF
    clear HF HR
    by_cases hlt : 2 * j + 1 < n
    · rw [if_pos hlt] at hr
      have hlti : 2 * (j : Int) + 1 < (n : Int) := by omega
      by_cases h2 : 2 * j + 2 < n
      · have h2i : 2 * (j : Int) + 1 + 1 < (n : Int) := by omega
        cases hL1 : lessB (zs.getD (2 * j + 2) z32) (zs.getD (2 * j + 1) z32) with
        | true =>
          have hk : kid zs j n = 2 * j + 2 := by unfold kid; rw [if_pos ⟨h2, hL1⟩]
          rw [hk] at hr
          have HRR := Aside0.mk hr
          clear hr hk
          go_wp2_with fail
          (with_reducible refine (less47_int c zs tl g nx (2 * j + 2) (2 * j + 1) _ _ w0 _ _ rs f hF.out (HL.out.spot _) HZ.out HX.out (by omega) (by omega) (by have := HN.out; omega) (by have := HN.out; omega)).mono ?_)
          rintro e W1 ⟨rfl, hF1⟩
          clear hF hc; have hF := Aside0.mk hF1; have hc := ptr_cell HL.out hF.out; clear hF1
          rw [hL1]
          go_wp2_with fail
          cases hL2 : lessB (zs.getD (2 * j + 2) z32) (zs.getD j z32) with
          | false =>
            (with_reducible refine (less47_int c zs tl g nx (2 * j + 2) (j) _ _ w0 _ _ rs f hF.out (HL.out.spot _) HZ.out HX.out (by omega) (by omega) (by have := HN.out; omega) (by have := HN.out; omega)).mono ?_)
            rintro e W1 ⟨rfl, hF1⟩
            clear hF hc; have hF := Aside0.mk hF1; have hc := ptr_cell HL.out hF.out; clear hF1
            rw [hL2]
            go_wp2_with fail
            go_ret
            have hr9 := HRR.out
            rw [hL2, if_neg (by decide)] at hr9
            exact ⟨⟨_, rfl⟩, by rw [← hr9]; exact hF.out⟩
          | true =>
            (with_reducible refine (less47_int c zs tl g nx (2 * j + 2) (j) _ _ w0 _ _ rs f hF.out (HL.out.spot _) HZ.out HX.out (by omega) (by omega) (by have := HN.out; omega) (by have := HN.out; omega)).mono ?_)
            rintro e W1 ⟨rfl, hF1⟩
            clear hF hc; have hF := Aside0.mk hF1; have hc := ptr_cell HL.out hF.out; clear hF1
            rw [hL2]
            go_wp2_with fail
            (with_reducible refine (swap50_int c zs tl g nx j (2 * j + 2) _ _ w0 _ _ rs f hF.out (HL.out.spot _) HZ.out (by omega) (by omega) (by have := HN.out; omega) (by have := HN.out; omega)).mono ?_)
            rintro e W3 ⟨rfl, hF3⟩
            have hr9 := HRR.out
            rw [hL2, if_pos rfl] at hr9
            go_wp2_with fail
            go_roundg (n - (2 * j + 2))
            case measure => omega
            case rel => exact ⟨2 * j + 2, k, swp zs j (2 * j + 2), by first | rfl | (congr 1; omega), by omega, by omega, ⟨by have := HK.out; omega⟩, ⟨by rw [swp_len]; exact HZ.out⟩, ⟨hr9⟩, ⟨hF3⟩⟩
        | false =>
          have hk : kid zs j n = 2 * j + 1 := by unfold kid; rw [if_neg (fun h => by rw [hL1] at h; exact absurd h.2 (by decide))]
          rw [hk] at hr
          have HRR := Aside0.mk hr
          clear hr hk
          go_wp2_with fail
          (with_reducible refine (less47_int c zs tl g nx (2 * j + 2) (2 * j + 1) _ _ w0 _ _ rs f hF.out (HL.out.spot _) HZ.out HX.out (by omega) (by omega) (by have := HN.out; omega) (by have := HN.out; omega)).mono ?_)
          rintro e W1 ⟨rfl, hF1⟩
          clear hF hc; have hF := Aside0.mk hF1; have hc := ptr_cell HL.out hF.out; clear hF1
          rw [hL1]
          go_wp2_with fail
          cases hL2 : lessB (zs.getD (2 * j + 1) z32) (zs.getD j z32) with
          | false =>
            (with_reducible refine (less47_int c zs tl g nx (2 * j + 1) (j) _ _ w0 _ _ rs f hF.out (HL.out.spot _) HZ.out HX.out (by omega) (by omega) (by have := HN.out; omega) (by have := HN.out; omega)).mono ?_)
            rintro e W1 ⟨rfl, hF1⟩
            clear hF hc; have hF := Aside0.mk hF1; have hc := ptr_cell HL.out hF.out; clear hF1
            rw [hL2]
            go_wp2_with fail
            go_ret
            have hr9 := HRR.out
            rw [hL2, if_neg (by decide)] at hr9
            exact ⟨⟨_, rfl⟩, by rw [← hr9]; exact hF.out⟩
          | true =>
            (with_reducible refine (less47_int c zs tl g nx (2 * j + 1) (j) _ _ w0 _ _ rs f hF.out (HL.out.spot _) HZ.out HX.out (by omega) (by omega) (by have := HN.out; omega) (by have := HN.out; omega)).mono ?_)
            rintro e W1 ⟨rfl, hF1⟩
            clear hF hc; have hF := Aside0.mk hF1; have hc := ptr_cell HL.out hF.out; clear hF1
            rw [hL2]
            go_wp2_with fail
            (with_reducible refine (swap50_int c zs tl g nx j (2 * j + 1) _ _ w0 _ _ rs f hF.out (HL.out.spot _) HZ.out (by omega) (by omega) (by have := HN.out; omega) (by have := HN.out; omega)).mono ?_)
            rintro e W3 ⟨rfl, hF3⟩
            have hr9 := HRR.out
            rw [hL2, if_pos rfl] at hr9
            go_wp2_with fail
            go_roundg (n - (2 * j + 1))
            case measure => omega
            case rel => exact ⟨2 * j + 1, k, swp zs j (2 * j + 1), by first | rfl | (congr 1; omega), by omega, by omega, ⟨by have := HK.out; omega⟩, ⟨by rw [swp_len]; exact HZ.out⟩, ⟨hr9⟩, ⟨hF3⟩⟩
      · have h2i : ¬ 2 * (j : Int) + 1 + 1 < (n : Int) := by omega
        have hk : kid zs j n = 2 * j + 1 := by unfold kid; rw [if_neg (fun h => h2 h.1)]
        rw [hk] at hr
        have HRR := Aside0.mk hr
        clear hr hk
        go_wp2_with fail
        cases hL2 : lessB (zs.getD (2 * j + 1) z32) (zs.getD j z32) with
        | false =>
          (with_reducible refine (less47_int c zs tl g nx (2 * j + 1) (j) _ _ w0 _ _ rs f hF.out (HL.out.spot _) HZ.out HX.out (by omega) (by omega) (by have := HN.out; omega) (by have := HN.out; omega)).mono ?_)
          rintro e W1 ⟨rfl, hF1⟩
          clear hF hc; have hF := Aside0.mk hF1; have hc := ptr_cell HL.out hF.out; clear hF1
          rw [hL2]
          go_wp2_with fail
          go_ret
          have hr9 := HRR.out
          rw [hL2, if_neg (by decide)] at hr9
          exact ⟨⟨_, rfl⟩, by rw [← hr9]; exact hF.out⟩
        | true =>
          (with_reducible refine (less47_int c zs tl g nx (2 * j + 1) (j) _ _ w0 _ _ rs f hF.out (HL.out.spot _) HZ.out HX.out (by omega) (by omega) (by have := HN.out; omega) (by have := HN.out; omega)).mono ?_)
          rintro e W1 ⟨rfl, hF1⟩
          clear hF hc; have hF := Aside0.mk hF1; have hc := ptr_cell HL.out hF.out; clear hF1
          rw [hL2]
          go_wp2_with fail
          (with_reducible refine (swap50_int c zs tl g nx j (2 * j + 1) _ _ w0 _ _ rs f hF.out (HL.out.spot _) HZ.out (by omega) (by omega) (by have := HN.out; omega) (by have := HN.out; omega)).mono ?_)
          rintro e W3 ⟨rfl, hF3⟩
          have hr9 := HRR.out
          rw [hL2, if_pos rfl] at hr9
          go_wp2_with fail
          go_roundg (n - (2 * j + 1))
          case measure => omega
          case rel => exact ⟨2 * j + 1, k, swp zs j (2 * j + 1), by first | rfl | (congr 1; omega), by omega, by omega, ⟨by have := HK.out; omega⟩, ⟨by rw [swp_len]; exact HZ.out⟩, ⟨hr9⟩, ⟨hF3⟩⟩
    · rw [if_neg hlt] at hr
      have HRR := Aside0.mk hr
      have hgei : ¬ 2 * (j : Int) + 1 < (n : Int) := by omega
      clear hr
      go_wp2_with fail
      go_ret
      exact ⟨⟨_, rfl⟩, by rw [← HRR.out]; exact hF.out⟩
def upL : Nat → List S32 → Nat → List S32
  | 0, xs, _ => xs
  | k + 1, xs, j => if j = 0 then xs else (if lessB (xs.getD j z32) (xs.getD ((j - 1) / 2) z32) = true then upL k (swp xs ((j - 1) / 2) j) ((j - 1) / 2) else xs)
def initL : Nat → List S32 → Nat → List S32
  | 0, xs, _ => xs
  | k + 1, xs, n => initL k (downL (n + 1) xs k n) n
theorem downL_len : ∀ (k : Nat) (xs : List S32) (i n : Nat), (downL k xs i n).length = xs.length
  | 0, _, _, _ => rfl
  | k + 1, xs, i, n => by
    rw [downL]
    split
    · split
      · rw [downL_len k, swp_len]
      · rfl
    · rfl
theorem upL_len : ∀ (k : Nat) (xs : List S32) (j : Nat), (upL k xs j).length = xs.length
  | 0, _, _ => rfl
  | k + 1, xs, j => by
    rw [upL]
    split
    · rfl
    · split
      · rw [upL_len k, swp_len]
      · rfl
theorem initL_len : ∀ (k : Nat) (xs : List S32) (n : Nat), (initL k xs n).length = xs.length
  | 0, _, _ => rfl
  | k + 1, xs, n => by rw [initL, initL_len k, downL_len]
set_option maxHeartbeats 4000000 in
set_option maxRecDepth 100000 in
theorem init26_calls (c : Nat) (xs : List S32) (tl : List Value) (g h : Nat) (w0 W : World) (rs : List Fr.Row) (f : List Value → List Fr.Blk) (hl : Lies f g h xs.length c) (hF : Fr.Frame w0 W (f (flat (xs) ++ tl)) rs) (hx : xs.length ≤ 1000) :
    Calls Try.prog 26 #[.iface 45 (.pointer (some ⟨h, 0, none⟩))] W fun e W' => e = .returned (.tuple #[]) ∧ Fr.Frame w0 W' (f (flat (initL (xs.length / 2) xs xs.length) ++ tl)) rs := by
  obtain ⟨R, hR⟩ : ∃ R, initL (xs.length / 2) xs xs.length = R := ⟨_, rfl⟩
  rw [hR]
  obtain ⟨nx, hnx⟩ : ∃ nx, xs.length = nx := ⟨_, rfl⟩
  rw [hnx] at hl hx hR
  have HL := Aside0.mk hl
  have HR := Aside0.mk hR
  have HX := Aside0.mk hx
  have hxb : nx ≤ 1000 := by omega
  have HNX := Aside0.mk hnx
  have mLen := fun (w : World) (hc : w.cell? ⟨h, 0, none⟩ = some (.slice (some ⟨g, 0, none⟩) nx c)) => met_Len h _ w hc
  have eLen := E46
  have hc := ptr_cell hl hF
  have hF := Aside0.mk hF
  clear hl hR hx hnx
  go_enter Try.func26, Try.ntmps26
  go_wp2_with fail
  (with_reducible refine (len46_calls (some ⟨g, 0, none⟩) nx c _).mono ?_)
  rintro e W1 ⟨rfl, rfl⟩
  have hq : Int.tdiv (nx : Int) 2 = ((nx / 2 : Nat) : Int) := by rw [Int.tdiv_eq_ediv_of_nonneg (by omega)]; omega
  have hq2 : (nx : Int) / 2 = ((nx / 2 : Nat) : Int) := by omega
  obtain ⟨m, hm⟩ : ∃ m, nx / 2 = m := ⟨_, rfl⟩
  rw [hm] at hq hq2 HR
  have hmb : m ≤ 1000 := by omega
  have HM := Aside0.mk hm
  clear hm
  go_wp2_with fail
  go_loopg [3] m (fun kq v3 w' => ∃ (k : Nat) (zs : List S32), v3 = .int .i64 ((k : Int) - 1) ∧ k ≤ kq ∧ k ≤ 1000 ∧ Aside0 (zs.length = nx) ∧ Aside0 (initL k zs nx = R) ∧ Aside0 (Fr.Frame w0 w' (f (flat (zs) ++ tl)) rs))
  case atStart => exact ⟨m, xs, by first | rfl | (congr 1; omega), Nat.le_refl _, hmb, HNX, HR, hF⟩
  case round =>
    clear hF HR HNX hc
    obtain ⟨k, zs, rfl, hg, hkb, HZ, HR, hF⟩ := hrel
    have hc := ptr_cell HL.out hF.out
    cases k with
    | zero =>
      have hr := HR.out
      rw [initL] at hr
      have HRR := Aside0.mk hr
      clear hr HR
      go_wp2_with fail
      go_end0
      exact ⟨rfl, by rw [← HRR.out]; exact hF.out⟩
    | succ k =>
      have hr := HR.out
      rw [initL] at hr
      have HRR := Aside0.mk hr
      clear hr HR
      have hk1 : ((k + 1 : Nat) : Int) - 1 = (k : Int) := by omega
      rw [hk1]
      have hk0 : (0 : Int) ≤ (k : Int) := by omega
      go_wp2_with fail
      (with_reducible refine (down27_calls c zs tl g h k nx w0 _ rs f (by rw [HZ.out]; exact HL.out) hF.out (by rw [HZ.out]; exact Nat.le_refl _) (by omega) (by rw [HZ.out]; exact HX.out)).mono ?_)
      rintro e W3 ⟨⟨v, rfl⟩, hF3⟩
      go_wp2_with fail
      go_roundg k
      case measure => omega
      case rel => exact ⟨k, downL (nx + 1) zs k nx, by first | rfl | (congr 1; omega), Nat.le_refl _, by omega, ⟨by rw [downL_len]; exact HZ.out⟩, HRR, ⟨hF3⟩⟩
structure Lies2 (F : List Value → List Value → List Fr.Blk) (g h : Nat) : Prop where
  row : ∀ p cs, Fr.Spot g 32 (F p cs) cs (F p)
  ptr : ∀ p cs, Fr.Spot h 48 (F p cs) p (fun p' => F p' cs)
theorem Lies2.lies {F : List Value → List Value → List Fr.Blk} {g h n c : Nat} (H : Lies2 F g h) : Lies (F [.slice (some ⟨g, 0, none⟩) n c]) g h n c := ⟨fun cs => H.row _ cs, fun cs => (H.ptr _ cs).mem⟩
theorem ptr_cell2 {F : List Value → List Value → List Fr.Blk} {g h : Nat} (H : Lies2 F g h) {w0 W : World} {b : Fr.Blk} {v : Value} {cs : List Value} {rs : List Fr.Row} (hF : Fr.Frame w0 W (b :: F [v] cs) rs) : W.cell? ⟨h, 0, none⟩ = some v := (blk_cell (hF.blk _ (List.mem_cons_of_mem _ (H.ptr _ _).mem)).2 0).trans rfl
theorem row_cell2 {F : List Value → List Value → List Fr.Blk} {g h : Nat} (H : Lies2 F g h) {w0 W : World} {b : Fr.Blk} {p : List Value} {zs : List S32} {tl : List Value} {rs : List Fr.Row} (hF : Fr.Frame w0 W (b :: F p (flat zs ++ tl)) rs) (i : Nat) (hi : i < zs.length) : W.cell? ⟨g, i * 2, none⟩ = some (.int .i64 (zs.getD i z32).f0) ∧ W.cell? ⟨g, i * 2 + 1, none⟩ = some (.int .i64 (zs.getD i z32).f1) := flat_cell hF (.there _ (H.row _ _)) i hi
theorem E48 : ∀ args w, (callFunc 48 args).run Try.prog w = .ok (.enter 48 args) w := enters_of Try.func48 (by kernel_rfl) rfl
set_option maxHeartbeats 4000000 in
set_option maxRecDepth 100000 in
theorem pop48_calls (c n : Nat) (zs : List S32) (tl : List Value) (g h : Nat) (w0 W : World) (rs : List Fr.Row) (F : List Value → List Value → List Fr.Blk) (H : Lies2 F g h) (hF : Fr.Frame w0 W (F [.slice (some ⟨g, 0, none⟩) (n + 1) c] (flat zs ++ tl)) rs) (hn : n < zs.length) (hnc : n + 1 ≤ c) (hx : zs.length ≤ 1000) :
    Calls Try.prog 48 #[.pointer (some ⟨h, 0, none⟩)] W fun e W' => e = .returned (.iface 32 (.agg #[.int .i64 (zs.getD n z32).f0, .int .i64 (zs.getD n z32).f1])) ∧ Fr.Frame w0 W' (F [.slice (some ⟨g, 0, none⟩) n c] (flat zs ++ tl)) rs := by
  have HH := Aside0.mk H
  have HNX := Aside0.mk hn
  have hnb : n ≤ 1000 := by omega
  have hc := ptr_cell (c := c) H.lies hF
  obtain ⟨a0, a1⟩ := flat_cell hF (H.row _ _) n hn
  have HC : True := trivial
  have hF := Aside0.mk hF
  have hw : wrap64 (((n + 1 : Nat) : Int) - 1) = (n : Int) := by rw [w64b (by omega) (by omega)]; omega
  have hw2 : wrap64 ((n : Int) + 1 - 1) = (n : Int) := by rw [w64b (by omega) (by omega)]; omega
  have hnci : (n : Int) ≤ (c : Int) := by omega
  generalize hxe : zs.getD n z32 = x at a0 a1 ⊢
  have HXE := Aside0.mk hxe
  clear H hn hx hxe
  go_enter Try.func48, Try.ntmps48
  go_wp2_with (first | ((with_reducible refine gate_dst (N := 4) rfl ?_); apply Fr.fr_box hF.out rfl; (case hrun => first | (go_simp; done) | (go_simp; rfl)); intro g4 W hF1; clear hF hc a0 a1 HC; have hF := Aside0.mk hF1; clear hF1; have hc := ptr_cell2 HH.out hF.out; have a0 := (row_cell2 HH.out hF.out n HNX.out).1; have a1 := (row_cell2 HH.out hF.out n HNX.out).2; rw [HXE.out] at a0 a1; have HC1 := hF.out.cells; simp only [Fr.Cells, List.length_cons, List.length_nil, Nat.reduceAdd] at HC1; have HC := HC1; clear HC1) | ((with_reducible refine gate_store rfl ?_); apply Fr.fr_store hF.out rfl rfl rfl; (case hp => rfl); (case hx => first | (go_simp; rfl) | rfl); (case hu => (simp only [Value.cells]; rfl)); (case hs => first | exact Fr.Spot.here _ _ | exact Fr.Spot.there _ (HH.out.ptr _ _)); (case ht => kernel_rfl); (case h1 => simp [Value.oneCell']); (case hfit => simp); intro W hF1; simp only [Fr.patch, List.take_zero, List.nil_append, List.drop, List.append_nil, List.take, List.cons_append, List.length_cons, List.length_nil, Nat.reduceAdd] at hF1; clear hF hc a0 a1 HC; have hF := Aside0.mk hF1; clear hF1; have hc := ptr_cell2 HH.out hF.out; have a0 := (row_cell2 HH.out hF.out n HNX.out).1; have a1 := (row_cell2 HH.out hF.out n HNX.out).2; rw [HXE.out] at a0 a1; have HC1 := hF.out.cells; simp only [Fr.Cells, List.length_cons, List.length_nil, Nat.reduceAdd] at HC1; have HC := HC1; clear HC1))
  go_ret
  exact ⟨rfl, hF.out.drop⟩
theorem down27_int (c : Nat) (xs : List S32) (tl : List Value) (g h i n : Nat) (a : Int) (w0 W : World) (rs : List Fr.Row) (f : List Value → List Fr.Blk) (hl : Lies f g h xs.length c) (hF : Fr.Frame w0 W (f (flat (xs) ++ tl)) rs) (hn : n ≤ xs.length) (hi : i ≤ 1000) (hx : xs.length ≤ 1000) (ha : a = (i : Int)) :
    Calls Try.prog 27 #[.iface 45 (.pointer (some ⟨h, 0, none⟩)), .int .i64 a, .int .i64 n] W fun e W' => (∃ v, e = .returned v) ∧ Fr.Frame w0 W' (f (flat (downL (n + 1) xs i n) ++ tl)) rs := by
  subst ha
  exact down27_calls c xs tl g h i n w0 W rs f hl hF hn hi hx
def popL (xs : List S32) : List S32 := downL (xs.length - 1 + 1) (swp xs 0 (xs.length - 1)) 0 (xs.length - 1)
theorem popL_len (xs : List S32) : (popL xs).length = xs.length := by unfold popL; rw [downL_len, swp_len]
set_option maxHeartbeats 4000000 in
set_option maxRecDepth 100000 in
theorem pop21_calls (c n : Nat) (xs : List S32) (tl : List Value) (g h : Nat) (w0 W : World) (rs : List Fr.Row) (F : List Value → List Value → List Fr.Blk) (H : Lies2 F g h) (hF : Fr.Frame w0 W (F [.slice (some ⟨g, 0, none⟩) (n + 1) c] (flat (xs) ++ tl)) rs) (hn : xs.length = n + 1) (hnc : n + 1 ≤ c) (hx : xs.length ≤ 1000) :
    Calls Try.prog 21 #[.iface 45 (.pointer (some ⟨h, 0, none⟩))] W fun e W' => e = .returned (.iface 32 (.agg #[.int .i64 ((popL xs).getD n z32).f0, .int .i64 ((popL xs).getD n z32).f1])) ∧ Fr.Frame w0 W' (F [.slice (some ⟨g, 0, none⟩) n c] (flat (popL xs) ++ tl)) rs := by
  have hp : popL xs = downL (n + 1) (swp xs 0 n) 0 n := by unfold popL; rw [hn]; rfl
  have hpl := popL_len xs
  have HH := Aside0.mk H
  have HX := Aside0.mk hx
  have HN := Aside0.mk hn
  have hnb : n ≤ 1000 := by omega
  have mLen := fun (w : World) (v : Value) (hc : w.cell? ⟨h, 0, none⟩ = some v) => met_Len h _ w hc
  have mSwap := fun (w : World) (v : Value) (hc : w.cell? ⟨h, 0, none⟩ = some v) => met_Swap h _ w hc
  have mPop := fun (w : World) => met_Pop h undef w
  have eLen := E46
  have eSwap := E50
  have ePop := E48
  have hc := ptr_cell (c := c) H.lies hF
  have hF := Aside0.mk hF
  have hw : wrap64 (((n + 1 : Nat) : Int) - 1) = (n : Int) := by rw [w64b (by omega) (by omega)]; omega
  have hw2 : wrap64 ((n : Int) + 1 - 1) = (n : Int) := by rw [w64b (by omega) (by omega)]; omega
  have HP := Aside0.mk hp
  have HPL := Aside0.mk hpl
  have HNC := Aside0.mk hnc
  clear H hx hn hp hpl hnc
  go_enter Try.func21, Try.ntmps21
  go_wp2_with fail
  (with_reducible refine (len46_calls (some ⟨g, 0, none⟩) (n + 1) c _).mono ?_)
  rintro e W1 ⟨rfl, rfl⟩
  go_wp2_with fail
  (with_reducible refine (swap50_int c xs tl g (n + 1) 0 n _ _ w0 _ _ rs _ hF.out (HH.out.row _ _) HN.out (by omega) (by omega) (by omega) (by omega)).mono ?_)
  rintro e W2 ⟨rfl, hF2⟩
  clear hF hc
  have hF := Aside0.mk hF2
  have hc := ptr_cell (c := c) HH.out.lies hF2
  clear hF2
  go_wp2_with fail
  (with_reducible refine (down27_int c (swp xs 0 n) tl g h 0 n 0 w0 _ rs _ (by rw [swp_len, HN.out]; exact HH.out.lies) hF.out (by rw [swp_len, HN.out]; omega) (by omega) (by rw [swp_len]; exact HX.out) rfl).mono ?_)
  rintro e W3 ⟨⟨v3, rfl⟩, hF3⟩
  rw [← HP.out] at hF3
  clear hF hc
  have hF := Aside0.mk hF3
  clear hF3
  go_wp2_with fail
  (with_reducible refine (pop48_calls c n (popL xs) tl g h w0 _ rs F HH.out hF.out (by rw [HPL.out, HN.out]; omega) HNC.out (by rw [HPL.out]; exact HX.out)).mono ?_)
  rintro e W4 ⟨rfl, hF4⟩
  go_wp2_with fail
  go_ret
  exact ⟨rfl, hF4⟩
theorem less_iff (x y : S32) : lessB x y = true ↔ x.f0 < y.f0 ∨ (x.f0 = y.f0 ∧ x.f1 < y.f1) := by
  unfold lessB; simp
theorem less_no (x y : S32) : lessB x y = false ↔ ¬ (x.f0 < y.f0 ∨ (x.f0 = y.f0 ∧ x.f1 < y.f1)) := by
  rw [← less_iff]; simp
theorem no_tr {x y z : S32} (h1 : lessB y x = false) (h2 : lessB z y = false) : lessB z x = false := by
  rw [less_no] at *; omega
theorem no_of {x y : S32} (h : lessB x y = true) : lessB y x = false := by
  rw [less_iff] at h; rw [less_no]; omega
theorem no_self (x : S32) : lessB x x = false := by rw [less_no]; omega
theorem swp_at (xs : List S32) {i k : Nat} (hi : i < xs.length) (hk : k < xs.length) (j : Nat) : (swp xs i k).getD j z32 = if j = k then xs.getD i z32 else if j = i then xs.getD k z32 else xs.getD j z32 := by
  unfold swp
  simp only [List.getD_eq_getElem?_getD, List.getElem?_set, List.length_set]
  by_cases h1 : j = k
  · subst h1
    simp [hk]
  · have h1' : ¬ k = j := fun e => h1 e.symm
    by_cases h2 : j = i
    · subst h2
      simp [hi, h1, h1']
    · have h2' : ¬ i = j := fun e => h2 e.symm
      simp [h1, h1', h2, h2']
theorem swp_perm (xs : List S32) {i k : Nat} (hi : i < xs.length) (hk : k < xs.length) : (swp xs i k).Perm xs := by
  unfold swp
  rw [show xs.getD i z32 = xs[i] by simp [List.getD_eq_getElem?_getD, hi], show xs.getD k z32 = xs[k] by simp [List.getD_eq_getElem?_getD, hk]]
  exact List.set_set_perm hi hk
theorem kid_is {xs : List S32} {i n : Nat} (h : 2 * i + 1 < n) : (kid xs i n = 2 * i + 1 ∨ kid xs i n = 2 * i + 2) ∧ ∀ k, (k = 2 * i + 1 ∨ k = 2 * i + 2) → k < n → lessB (xs.getD k z32) (xs.getD (kid xs i n) z32) = false := by
  unfold kid
  by_cases hc : 2 * i + 2 < n ∧ lessB (xs.getD (2 * i + 2) z32) (xs.getD (2 * i + 1) z32) = true
  · rw [if_pos hc]
    refine ⟨.inr rfl, fun k hk _ => ?_⟩
    rcases hk with rfl | rfl
    · exact no_of hc.2
    · exact no_self _
  · rw [if_neg hc]
    refine ⟨.inl rfl, fun k hk hkn => ?_⟩
    rcases hk with rfl | rfl
    · exact no_self _
    · exact Bool.eq_false_iff.2 (fun e => hc ⟨hkn, e⟩)
def isH (xs : List S32) (n i0 : Nat) : Prop := ∀ k, 1 ≤ k → k < n → i0 ≤ (k - 1) / 2 → lessB (xs.getD k z32) (xs.getD ((k - 1) / 2) z32) = false
def isP (xs : List S32) (n i0 i : Nat) : Prop := (∀ k, 1 ≤ k → k < n → i0 ≤ (k - 1) / 2 → (k - 1) / 2 ≠ i → lessB (xs.getD k z32) (xs.getD ((k - 1) / 2) z32) = false) ∧ (∀ k, 1 ≤ k → k < n → (k - 1) / 2 = i → 1 ≤ i → i0 ≤ (i - 1) / 2 → lessB (xs.getD k z32) (xs.getD ((i - 1) / 2) z32) = false)
theorem down_heap : ∀ (fuel : Nat) (xs : List S32) (i n i0 : Nat), n ≤ xs.length → n - i < fuel → i0 ≤ i → isP xs n i0 i → isH (downL fuel xs i n) n i0
  | 0, _, _, _, _, _, hf, _, _ => by omega
  | fuel + 1, xs, i, n, i0, hn, hf, h0, hp => by
    rw [downL]
    by_cases hlt : 2 * i + 1 < n
    · rw [if_pos hlt]
      obtain ⟨hm, hmin⟩ := kid_is (xs := xs) hlt
      have hk := kid_in (xs := xs) hlt
      generalize kid xs i n = m at hm hmin hk ⊢
      by_cases hl : lessB (xs.getD m z32) (xs.getD i z32) = true
      · rw [if_pos hl]
        have hi : i < xs.length := by omega
        have hml : m < xs.length := by omega
        have hpm : (m - 1) / 2 = i := by omega
        refine down_heap fuel (swp xs i m) m n i0 (by rw [swp_len]; exact hn) (by omega) (by omega) ⟨fun k k1 k2 k3 k4 => ?_, fun k k1 k2 k3 k4 k5 => ?_⟩
        · rw [swp_at xs hi hml, swp_at xs hi hml]
          by_cases e1 : k = m
          · subst e1
            rw [if_pos rfl, hpm, if_neg (by omega), if_pos rfl]
            exact no_of hl
          · rw [if_neg e1]
            by_cases e2 : k = i
            · subst e2
              rw [if_pos rfl, if_neg (by omega), if_neg (by omega)]
              exact hp.2 m (by omega) hk.2 hpm k1 k3
            · rw [if_neg e2, if_neg k4]
              by_cases e3 : (k - 1) / 2 = i
              · rw [if_pos e3]
                exact hmin k (by omega) k2
              · rw [if_neg e3]
                exact hp.1 k k1 k2 k3 e3
        · rw [swp_at xs hi hml, swp_at xs hi hml, hpm, if_neg (by omega), if_neg (by omega), if_neg (by omega), if_pos rfl]
          have := hp.1 k k1 k2 (by omega) (by omega)
          rw [k3] at this
          exact this
      · rw [if_neg hl]
        have hl2 := Bool.eq_false_iff.2 hl
        intro k k1 k2 k3
        by_cases e : (k - 1) / 2 = i
        · rw [e]
          exact no_tr hl2 (hmin k (by omega) k2)
        · exact hp.1 k k1 k2 k3 e
    · rw [if_neg hlt]
      intro k k1 k2 k3
      exact hp.1 k k1 k2 k3 (by omega)
theorem down_perm : ∀ (fuel : Nat) (xs : List S32) (i n : Nat), n ≤ xs.length → (downL fuel xs i n).Perm xs
  | 0, _, _, _, _ => List.Perm.refl _
  | fuel + 1, xs, i, n, hn => by
    rw [downL]
    by_cases hlt : 2 * i + 1 < n
    · rw [if_pos hlt]
      have hk := kid_in (xs := xs) hlt
      split
      · exact (down_perm fuel (swp xs i (kid xs i n)) (kid xs i n) n (by rw [swp_len]; exact hn)).trans (swp_perm xs (by omega) (by omega))
      · exact List.Perm.refl _
    · rw [if_neg hlt]
theorem down_far : ∀ (fuel : Nat) (xs : List S32) (i n j : Nat), n ≤ xs.length → n ≤ j → (downL fuel xs i n).getD j z32 = xs.getD j z32
  | 0, _, _, _, _, _, _ => rfl
  | fuel + 1, xs, i, n, j, hn, hj => by
    rw [downL]
    by_cases hlt : 2 * i + 1 < n
    · rw [if_pos hlt]
      have hk := kid_in (xs := xs) hlt
      split
      · rw [down_far fuel _ _ _ _ (by rw [swp_len]; exact hn) hj, swp_at xs (by omega) (by omega), if_neg (by omega), if_neg (by omega)]
      · rfl
    · rw [if_neg hlt]
theorem init_perm : ∀ (k : Nat) (xs : List S32) (n : Nat), n ≤ xs.length → (initL k xs n).Perm xs
  | 0, _, _, _ => List.Perm.refl _
  | k + 1, xs, n, hn => by
    rw [initL]
    exact (init_perm k _ n (by rw [downL_len]; exact hn)).trans (down_perm _ _ _ _ hn)
theorem init_heap : ∀ (k : Nat) (xs : List S32) (n : Nat), n ≤ xs.length → isH xs n k → isH (initL k xs n) n 0
  | 0, _, _, _, h => h
  | k + 1, xs, n, hn, h => by
    rw [initL]
    refine init_heap k _ n (by rw [downL_len]; exact hn) (down_heap (n + 1) xs k n k hn (by omega) (Nat.le_refl _) ⟨fun j j1 j2 j3 j4 => h j j1 j2 (by omega), fun j _ _ _ _ j5 => by omega⟩)
theorem heap_is (xs : List S32) : isH (initL (xs.length / 2) xs xs.length) xs.length 0 ∧ (initL (xs.length / 2) xs xs.length).Perm xs :=
  ⟨init_heap _ _ _ (Nat.le_refl _) (fun k _ k2 k3 => by omega), init_perm _ _ _ (Nat.le_refl _)⟩
theorem heap_least {xs : List S32} {n : Nat} (h : isH xs n 0) : ∀ k, k < n → lessB (xs.getD k z32) (xs.getD 0 z32) = false := by
  intro k
  induction k using Nat.strongRecOn with
  | ind k ih =>
    intro hk
    by_cases h0 : k = 0
    · subst h0; exact no_self _
    · exact no_tr (ih ((k - 1) / 2) (by omega) (by omega)) (h k (by omega) hk (Nat.zero_le _))
theorem pop_heap {xs : List S32} {n : Nat} (hn : xs.length = n + 1) (h : isH xs (n + 1) 0) : isH (popL xs) n 0 ∧ (popL xs).Perm xs ∧ (popL xs).getD n z32 = xs.getD 0 z32 := by
  have hp : popL xs = downL (n + 1) (swp xs 0 n) 0 n := by unfold popL; rw [hn]; rfl
  rw [hp]
  have h0 : 0 < xs.length := by omega
  have hl : n < xs.length := by omega
  refine ⟨down_heap _ _ _ _ _ (by rw [swp_len]; omega) (by omega) (Nat.le_refl _) ⟨fun k k1 k2 _ k4 => ?_, fun k _ _ _ k4 _ => by omega⟩, (down_perm _ _ _ _ (by rw [swp_len]; omega)).trans (swp_perm xs h0 hl), ?_⟩
  · rw [swp_at xs h0 hl, swp_at xs h0 hl, if_neg (by omega), if_neg (by omega), if_neg (by omega), if_neg k4]
    exact h k k1 (by omega) (Nat.zero_le _)
  · rw [down_far _ _ _ _ _ (by rw [swp_len]; omega) (Nat.le_refl _), swp_at xs h0 hl, if_pos rfl]
theorem rows_of {α : Type} {d : Kd α} {w : World} {A : Option Addr} {xs : List α} (h : Kd.C d w A xs.length xs) : ∃ rows : List (List Value), rows.length = xs.length ∧ (∀ (j : Nat) (x : α) (c : List Value), xs[j]? = some x → rows[j]? = some c → d.K w x c) ∧ Kd.C (Kd.raw d.sz) w A rows.length rows := by
  obtain ⟨h1, h2, h3⟩ := h
  by_cases hp : 0 < xs.length
  · obtain ⟨ad, rfl, h4⟩ := h3 hp
    have key : ∀ n, n ≤ xs.length → ∃ rows : List (List Value), rows.length = n ∧ ∀ (j : Nat) (x : α) (c : List Value), xs[j]? = some x → rows[j]? = some c → c.length = d.sz ∧ d.K w x c ∧ ∀ i u, c[i]? = some u → w.cell? (ad.add (j * d.sz + i)) = some u := by
      intro n
      induction n with
      | zero => exact fun _ => ⟨[], rfl, fun j x c _ hc => by simp at hc⟩
      | succ n ih =>
        intro hn
        obtain ⟨rows, hl, hr⟩ := ih (by omega)
        obtain ⟨c, hc⟩ := h4 n _ (List.getElem?_eq_getElem (show n < xs.length by omega))
        refine ⟨rows ++ [c], by simp [hl], fun j x c' hx hc' => ?_⟩
        by_cases e : j < n
        · rw [List.getElem?_append_left (by omega)] at hc'
          exact hr j x c' hx hc'
        · have ej : j = n := by
            have := (List.getElem?_eq_some_iff.1 hc').1
            simp at this; omega
          subst ej
          rw [List.getElem?_append_right (by omega), hl] at hc'
          simp at hc'
          subst hc'
          rw [List.getElem?_eq_getElem (by omega)] at hx
          injection hx with hx
          subst hx
          exact hc
    obtain ⟨rows, hl, hr⟩ := key xs.length (Nat.le_refl _)
    refine ⟨rows, hl, fun j x c hx hc => (hr j x c hx hc).2.1, rfl, by omega, fun _ => ⟨ad, rfl, fun j c hc => ?_⟩⟩
    have hj : j < xs.length := by have := (List.getElem?_eq_some_iff.1 hc).1; omega
    obtain ⟨k1, k2, k3⟩ := hr j _ c (List.getElem?_eq_getElem hj) hc
    exact ⟨c, k1, ⟨rfl, k1, d.K_one k2⟩, k3⟩
  · obtain rfl : xs = [] := List.eq_nil_of_length_eq_zero (by omega)
    exact ⟨[], rfl, fun j x c hx _ => by simp at hx, rfl, by simp, fun h => absurd h (by simp)⟩
theorem flat_cells {sz : Nat} (hs : 0 < sz) {w : World} {ad : Addr} : ∀ {rows : List (List Value)}, (∀ c ∈ rows, c.length = sz) → (∀ j c, rows[j]? = some c → ∀ i u, c[i]? = some u → w.cell? (ad.add (j * sz + i)) = some u) → ∀ j u, rows.flatten[j]? = some u → w.cell? (ad.add j) = some u := by
  intro rows
  induction rows generalizing ad with
  | nil => intro _ _ j u hu; simp at hu
  | cons c r ih =>
    intro hl hc j u hu
    rw [List.flatten_cons] at hu
    have hcl := hl c (by simp)
    by_cases hj : j < sz
    · rw [List.getElem?_append_left (by omega)] at hu
      have := hc 0 c rfl j u hu
      simpa using this
    · rw [List.getElem?_append_right (by omega), hcl] at hu
      have := ih (ad := ad.add sz) (fun c' h => hl c' (by simp [h])) (fun j' c' h i' u' hu' => by
        have h9 := hc (j' + 1) c' (by simpa using h) i' u' hu'
        rw [Go.Deep.add_add]
        rw [show sz + (j' * sz + i') = (j' + 1) * sz + i' by rw [Nat.add_mul]; omega]
        exact h9) (j - sz) u hu
      rw [Go.Deep.add_add] at this
      rwa [show sz + (j - sz) = j by omega] at this
theorem reps_flat {sz : Nat} (w : World) (base : Nat) (ok : Nat → Prop) : ∀ {rows : List (List Value)}, (∀ c ∈ rows, c.length = sz ∧ ∀ u ∈ c, u.oneCell' = true) → Reps ((Kd.raw sz).M w base ok) (Kd.raw sz).sz rows rows.flatten := by
  intro rows
  induction rows with
  | nil => intro _; exact Reps.none _ _
  | cons c r ih =>
    intro h
    have h1 := (Reps.none ((Kd.raw sz).M w base ok) (Kd.raw sz).sz).snoc (p := c) (c := c) ⟨rfl, h c (by simp)⟩ (h c (by simp)).1
    have := Kd.reps_append h1 (ih (fun c' hc => h c' (by simp [hc])))
    simpa using this
section
variable {P : Program} {ops : Array Oper} {rest : List Oper} {o : Oper} {a : Act} {Q : Exit → Act → World → Prop} {w0 W : World} {bs : List Fr.Blk}
theorem fr_appendF {sz : Nat} {S : Nat → Prop} {v : Value} {xs : List (List Value)} (s x : Operand) (t e : TypeId) (z : Value) (bytes : Nat) (A : Option Addr) (c : Nat) (rows : List (List Value))
    (hF : Fr.Frame w0 W bs [Fr.rowR (Kd.raw sz) e w0.heap.size v xs S]) (hgd : o.guard = none) (ho : o.op = .call { callee := .builtin .append, args := #[s, x], argTypes := #[t, t] })
    (ht : P.underlying t = some (.slice e)) (hinfo : (P.info? e).map (fun i => (i.zero, i.size, i.bytes)) = some (some z, sz, bytes)) (hz : z.cells.size = sz) (hs0 : 0 < sz) (hb0 : 0 < bytes)
    (hs : a.eval s = v) (hx : a.eval x = .slice A rows.length c) (hC : Kd.C (Kd.raw sz) W A rows.length rows) (hp : 0 < rows.length) (hl : (xs.length + rows.length) * bytes ≤ 140737488355328)
    (h : ∀ v1 w1 S1, Fr.Frame w0 w1 bs [Fr.rowR (Kd.raw sz) e w0.heap.size v1 (xs ++ rows) S1] → wpList P ops Q rest (a.put o.dst v1) w1) : wpList P ops Q (o :: rest) a W := by
  have hr := hF.row (Fr.rowR (Kd.raw sz) e w0.heap.size v xs S) List.mem_cons_self
  have hRS : (Kd.raw sz).R e W w0.heap.size S v xs := hr.1
  have hdis : ∀ k, S k → ∀ b ∈ bs, k ≠ b.1 := fun k hk b hb he => hr.2.2 b hb (by subst he; exact hk)
  obtain ⟨ad, rfl, hcc⟩ := hC.2.2 hp
  have hall : ∀ c' ∈ rows, c'.length = sz ∧ ∀ u ∈ c', u.oneCell' = true := fun c' hc' => by
    obtain ⟨j, hj, rfl⟩ := List.mem_iff_getElem.1 hc'
    obtain ⟨c2, k1, k2, _⟩ := hcc j _ (List.getElem?_eq_getElem hj)
    have : c2 = rows[j] := k2.1
    rw [← this]
    exact ⟨k1, k2.2.2⟩
  have hnews : ∀ j u, rows.flatten[j]? = some u → W.cell? (ad.add j) = some u := flat_cells hs0 (fun c' h => (hall c' h).1) (fun j c' hj i u hu => by
    obtain ⟨c2, k1, k2, k3⟩ := hcc j c' hj
    have : c2 = c' := k2.1
    subst this
    exact k3 i u hu)
  obtain ⟨v1, w1, hrun, h1, h2, hg⟩ := Fr.R_append_keep (P := P) (Kd.raw sz) w0.heap.size t o.type e z bytes ht hinfo hz hs0 hb0 (Kd.R_mono hRS hdis) (fun w ok => reps_flat w _ ok hall) (fun u hu => by
    obtain ⟨c', hc', hu'⟩ := List.mem_flatten.1 hu
    exact (hall c' hc').2 u hu') ad rows.length c rfl hnews hl hF.below.size (fun k hk b hb he => by have := hF.lt hb; omega)
  have hF0 : Fr.Frame w0 W bs [] := hF.noRows
  have hF1 : Fr.Frame w0 w1 bs [] := ⟨hF0.below.grown hg hF.below.size (fun k hk => Kd.R_base hRS k hk), fun b hb => ⟨(hF0.blk b hb).1, blk_grown (hF0.blk b hb).2 hg (fun e1 => hdis b.1 (hRS.1 b.1 e1.symm) b hb rfl)⟩, hF0.nodup, by simp⟩
  obtain ⟨S1, hS1⟩ := hF1.rowIn h1 (fun k hk => hk)
  refine wpList_plain hgd fun K hK => ?_
  unfold Oper.wp execOp
  simp only [ho, resolve, invoke, builtin, Sem.run_bind, Sem.run_pure, Result.andThen_ok, List.map_toArray, List.map_cons, List.map_nil, hs, hx, hrun]
  exact hK _ _ (h v1 w1 S1 hS1)
end
theorem R_empty {α : Type} (d : Kd α) (e : Nat) (w : World) (base g : Nat) (ok : Nat → Prop) (hb : base ≤ g) (hg : w.heap[g]? = some (.cells #[] e (0, 0))) (hok : ok g) : d.R e w base ok (.slice (some ⟨g, 0, none⟩) 0 0) [] := by
  refine ⟨fun k hk => ?_, [], ⟨by simp, .inr ⟨g, 0, #[], rfl, hb, hg, Nat.le_refl _, by simp [maxLen], by simp, by simp⟩⟩, Reps.none _ _⟩
  have : g = k := by simpa [Value.ownBlock] using hk
  rw [← this]; exact hok
set_option maxHeartbeats 4000000 in
theorem clone_some (A : Option Addr) (c : Nat) (rows : List (List Value)) (w : World) (hr : Kd.C (Kd.raw 2) w A rows.length rows) (hp : 0 < rows.length) (hl : rows.length ≤ 1000) :
    Calls Try.prog 25 #[.slice A rows.length c] w fun e w' => ∃ v, e = .returned v ∧ (Kd.raw 2).R 32 w' w.heap.size (fun _ => True) v rows ∧ Below w.heap.size w w' := by
  obtain ⟨ad, rfl, _⟩ := hr.2.2 hp
  have HR := Aside0.mk hr
  clear hr
  have hnil : ∀ (w : World) (n c : Nat), (binOp .eql 22 (.slice (some ad) n c) (.slice none 0 0)).run Try.prog w = .ok (.bool false) w := fun w n c => by
    have := Lib.run_eql_slice_nil w 22 32 (some ad) n c 0 0 Try.underlying22
    simpa using this
  have hF0 : ∃ S, Fr.Frame w (w.alloc (.cells #[] 32)) [] [Fr.rowR (Kd.raw 2) 32 w.heap.size (.slice (some ⟨w.heap.size, 0, none⟩) 0 0) [] S] :=
    ((Fr.Frame.start w).call ((Below.refl _ w).alloc (Nat.le_refl _) _)).rowIn (R_empty (Kd.raw 2) 32 _ w.heap.size w.heap.size (fun _ => True) (Nat.le_refl _) (heap_alloc_new w _) trivial) (fun k _ b hb => by simp at hb)
  obtain ⟨S, hF0⟩ := hF0
  have hF := Aside0.mk hF0
  have HRA := Aside0.mk (Kd.C_below HR.out hF0.below)
  clear hF0
  go_enter Try.func25, Try.ntmps25
  go_wp2_with ((with_reducible refine gate_builtin (b := .append) (xs := #[.tmp 5, .tmp 6]) rfl ?_); refine fr_appendF (.tmp 5) (.tmp 6) 22 32 (.agg #[.int .i64 0, .int .i64 0]) 16 (some ad) c rows hF.out rfl rfl Try.underlying22 (by kernel_rfl) rfl (by decide) (by omega) rfl rfl HRA.out hp (by simp; omega) ?_; intro v1 W2 S1 hF1; clear hF; have hF := Aside0.mk hF1; clear hF1)
  go_ret
  have h9 := hF.out.rowAt (r := Fr.rowR (Kd.raw 2) 32 w.heap.size v1 ([] ++ rows) S1) List.mem_cons_self
  exact ⟨v1, rfl, Kd.R_mono h9 (fun _ _ => trivial), hF.out.below⟩
theorem reps_raw {sz : Nat} {w : World} {base : Nat} {ok : Nat → Prop} : ∀ {rows : List (List Value)} {inner : List Value}, Reps ((Kd.raw sz).M w base ok) sz rows inner → inner = rows.flatten ∧ ∀ r ∈ rows, r.length = sz ∧ ∀ u ∈ r, u.oneCell' = true
  | [], inner, h => ⟨by have := h.1; simpa using this, by simp⟩
  | c :: r, inner, h => by
    have h0 := h.2 0 c rfl
    rw [Nat.zero_mul, List.drop_zero] at h0
    have e0 : inner.take sz = c := h0.1
    have ih := reps_raw (sz := sz) (w := w) (base := base) (ok := ok) (rows := r) (inner := inner.drop sz) ⟨by rw [List.length_drop, h.1, List.length_cons, Nat.add_mul]; omega, fun j p hp => by
      have := h.2 (j + 1) p (by simpa using hp)
      rw [List.drop_drop]
      rwa [show sz + j * sz = (j + 1) * sz by rw [Nat.add_mul]; omega]⟩
    refine ⟨by rw [List.flatten_cons, ← ih.1, ← e0, List.take_append_drop], fun q hq => ?_⟩
    rcases List.mem_cons.1 hq with rfl | hq
    · have := h0.2
      rw [e0] at this
      exact this
    · exact ih.2 q hq
def Row2 (r : List Value) : Prop := r.length = 2 ∧ ∀ u ∈ r, u.oneCell' = true
section
variable {w0 W : World} {bs : List Fr.Blk}
theorem own_blk {S : Nat → Prop} {v : Value} {rows : List (List Value)} (hF : Fr.Frame w0 W bs [Fr.rowR (Kd.raw 2) 32 w0.heap.size v rows S]) (hp : 0 < rows.length) :
    ∃ g cap rest, v = .slice (some ⟨g, 0, none⟩) rows.length cap ∧ rows.length ≤ cap ∧ cap ≤ maxLen ∧ (rows.flatten ++ rest).length = cap * 2 ∧ (∀ r ∈ rows, Row2 r) ∧ Fr.Frame w0 W ((g, rows.flatten ++ rest, 32) :: bs) [] := by
  have hr := hF.row (Fr.rowR (Kd.raw 2) 32 w0.heap.size v rows S) List.mem_cons_self
  obtain ⟨h1, inner, ⟨h2, h3⟩, h4⟩ := (hr.1 : (Kd.raw 2).R 32 W w0.heap.size S v rows)
  obtain ⟨e, hall⟩ := reps_raw h4
  rcases h3 with ⟨_, h3⟩ | ⟨g, cap, cur, rfl, hg, hh, hn, hc, hs, ht⟩
  · omega
  · have e2 : rows.flatten ++ cur.toList.drop (rows.length * 2) = cur.toList := by
      rw [← e, ← ht]
      exact List.take_append_drop _ _
    refine ⟨g, cap, cur.toList.drop (rows.length * 2), rfl, hn, hc, by rw [e2, Array.length_toList]; exact hs, hall, hF.below, fun b hb => ?_, ?_, by simp⟩
    · rcases List.mem_cons.1 hb with rfl | hb
      · exact ⟨hg, by rw [e2]; exact hh⟩
      · exact hF.blk b hb
    · rw [List.map_cons, List.nodup_cons]
      refine ⟨fun hm => ?_, hF.nodup⟩
      obtain ⟨b, hb, e3⟩ := List.mem_map.1 hm
      exact hr.2.2 b hb (by rw [e3]; exact h1 g rfl)
end
theorem rows_flat : ∀ {xs : List S32} {rows : List (List Value)} {w : World}, rows.length = xs.length → (∀ (j : Nat) (x : S32) (c : List Value), xs[j]? = some x → rows[j]? = some c → k32.K w x c) → rows.flatten = flat xs
  | [], [], _, _, _ => rfl
  | x :: xs, r :: rows, w, hl, hK => by
    have h0 := k32_open (hK 0 x r rfl rfl)
    rw [List.flatten_cons, h0, rows_flat (xs := xs) (rows := rows) (w := w) (by simpa using hl) (fun j y c hy hc => hK (j + 1) y c (by simpa using hy) (by simpa using hc)), flat]
    rfl
theorem clone25_full (A : Option Addr) (c : Nat) (xs : List S32) (w : World) (hr : Kd.C k32 w A xs.length xs) (hp : 0 < xs.length) (hl : xs.length ≤ 1000) :
    Calls Try.prog 25 #[.slice A xs.length c] w fun e w' => ∃ g cap tl, e = .returned (.slice (some ⟨g, 0, none⟩) xs.length cap) ∧ (xs.length ≤ cap ∧ cap ≤ maxLen ∧ (flat xs ++ tl).length = cap * 2) ∧ Fr.Frame w w' [(g, flat xs ++ tl, 32)] [] := by
  obtain ⟨rows, hrl, hrk, hrc⟩ := rows_of hr
  have h := clone_some A c rows w hrc (by omega) (by omega)
  rw [hrl] at h
  refine h.mono ?_
  rintro e w' ⟨v, rfl, hR, hb⟩
  have hF0 : Fr.Frame w w' [] [] := (Fr.Frame.start w).call hb
  obtain ⟨S, hF⟩ := hF0.rowIn hR (fun k _ b hb => by simp at hb)
  obtain ⟨g, cap, rest, rfl, hcap, hm, hfl, _, hF1⟩ := own_blk hF (by omega)
  rw [rows_flat hrl hrk] at hF1 hfl
  rw [hrl]
  exact ⟨g, cap, rest, rfl, ⟨by omega, hm, hfl⟩, hF1⟩
theorem lies_pair (g h : Nat) : Lies2 (fun p cs => [(h, p, 48), (g, cs, 32)]) g h := ⟨fun p cs => .there _ (.here _ _), fun p cs => .here _ _⟩
set_option maxHeartbeats 2000000 in
set_option maxRecDepth 100000 in
theorem of20_full (A : Option Addr) (c : Nat) (xs : List S32) (w : World) (hr : Kd.C k32 w A xs.length xs) (hp : 0 < xs.length) (hl : xs.length ≤ 1000) :
    Calls Try.prog 20 #[.slice A xs.length c] w fun e w' => ∃ h g cap tl, e = .returned (.pointer (some ⟨h, 0, none⟩)) ∧ (xs.length ≤ cap ∧ cap ≤ maxLen ∧ (flat (initL (xs.length / 2) xs xs.length) ++ tl).length = cap * 2) ∧ Fr.Frame w w' [(h, [.slice (some ⟨g, 0, none⟩) xs.length cap], 48), (g, flat (initL (xs.length / 2) xs xs.length) ++ tl, 32)] [] := by
  have H25 := Aside0.mk (clone25_full A c xs w hr hp hl)
  have HI := Aside0.mk (fun (cap : Nat) (tl : List Value) (g h : Nat) (W : World) (hF : Fr.Frame w W [(h, [.slice (some ⟨g, 0, none⟩) xs.length cap], 48), (g, flat xs ++ tl, 32)] []) => init26_calls cap xs tl g h w W [] _ (lies_pair g h).lies hF hl)
  have hil : ∀ tl, (flat (initL (xs.length / 2) xs xs.length) ++ tl).length = (flat xs ++ tl).length := fun tl => by rw [List.length_append, List.length_append, flat_len, flat_len, initL_len]
  obtain ⟨ys, hys⟩ : ∃ ys, initL (xs.length / 2) xs xs.length = ys := ⟨_, rfl⟩
  rw [hys] at HI hil ⊢
  have HIL := Aside0.mk hil
  clear hil
  obtain ⟨n, hn⟩ : ∃ n, xs.length = n := ⟨_, rfl⟩
  rw [hn] at H25 HI hl ⊢
  clear hys hn hr hp
  go_enter Try.func20, Try.ntmps20
  go_wp2_with fail
  (with_reducible refine H25.out.mono ?_)
  rintro e W ⟨g, cap, tl, rfl, hcap, hF1⟩
  have HCP := Aside0.mk hcap
  clear hcap
  have hF : True := trivial
  have HC : True := trivial
  have HC1 := hF1.cells; simp only [Fr.Cells, List.length_cons, List.length_nil, Nat.reduceAdd, and_true] at HC1; clear hF HC; have HC := HC1; have hF := Aside0.mk hF1; clear hF1 HC1
  go_wp2_with (first | ((with_reducible refine gate_store rfl ?_); apply Fr.fr_store hF.out rfl rfl rfl; (case hp => rfl); (case hx => first | (go_simp; rfl) | rfl); (case hu => (simp only [Value.cells]; rfl)); (case hs => (repeat (first | exact Fr.Spot.here _ _ | apply Fr.Spot.there))); (case ht => kernel_rfl); (case h1 => simp [Value.oneCell']); (case hfit => simp); intro W hF1; simp only [Fr.patch, List.take_zero, List.nil_append, List.drop, List.append_nil, List.take, List.cons_append, List.length_cons, List.length_nil, Nat.reduceAdd] at hF1; have HC1 := hF1.cells; simp only [Fr.Cells, List.length_cons, List.length_nil, Nat.reduceAdd, and_true] at HC1; clear hF HC; have HC := HC1; have hF := Aside0.mk hF1; clear hF1 HC1) | ((with_reducible refine gate_dst (N := 3) rfl ?_); apply Fr.fr_box hF.out rfl; (case hrun => first | (go_simp; done) | (go_simp; rfl)); intro h W hF1; have HC1 := hF1.cells; simp only [Fr.Cells, List.length_cons, List.length_nil, Nat.reduceAdd, and_true] at HC1; clear hF HC; have HC := HC1; have hF := Aside0.mk hF1; clear hF1 HC1) | ((first | (with_reducible refine Fr.gate_alloc rfl ?_) | (with_reducible refine Fr.gate_box rfl ?_)); apply Fr.fr_box hF.out rfl; (case hrun => first | (go_simp; done) | (go_simp; rfl)); intro g W hF1; have HC1 := hF1.cells; simp only [Fr.Cells, List.length_cons, List.length_nil, Nat.reduceAdd, and_true] at HC1; clear hF HC; have HC := HC1; have hF := Aside0.mk hF1; clear hF1 HC1))
  (with_reducible refine (HI.out cap tl g h _ hF.out).mono ?_)
  rintro e W2 ⟨rfl, hF2⟩
  go_wp2_with fail
  go_ret
  exact ⟨h, g, cap, tl, rfl, ⟨HCP.out.1, HCP.out.2.1, by rw [HIL.out]; exact HCP.out.2.2⟩, hF2⟩
theorem of20_some (A : Option Addr) (c : Nat) (xs : List S32) (w : World) (hr : Kd.C k32 w A xs.length xs) (hp : 0 < xs.length) (hl : xs.length ≤ 1000) :
    Calls Try.prog 20 #[.slice A xs.length c] w fun e w' => ∃ h g cap tl, e = .returned (.pointer (some ⟨h, 0, none⟩)) ∧ xs.length ≤ cap ∧ Fr.Frame w w' [(h, [.slice (some ⟨g, 0, none⟩) xs.length cap], 48), (g, flat (initL (xs.length / 2) xs xs.length) ++ tl, 32)] [] :=
  (of20_full A c xs w hr hp hl).mono fun e w' ⟨h, g, cap, tl, h1, h2, h3⟩ => ⟨h, g, cap, tl, h1, h2.1, h3⟩
def M63 : Nat := 4611686018427387904
def Ev {α : Type} (f : Nat → Option α) (r : α) : Prop := ∃ n, ∀ k, n ≤ k → f k = some r
theorem Ev.now {α : Type} (r : α) : Ev (fun _ => some r) r := ⟨0, fun _ _ => rfl⟩
theorem Ev.step {α : Type} {g f : Nat → Option α} {r : α} (h : ∀ k, g (k + 1) = f k) (hf : Ev f r) : Ev g r := by
  obtain ⟨n, hn⟩ := hf
  refine ⟨n + 1, fun k hk => ?_⟩
  obtain ⟨m, rfl⟩ : ∃ m, k = m + 1 := ⟨k - 1, by omega⟩
  rw [h]
  exact hn m (by omega)
theorem Ev.bind {α β : Type} {f : Nat → Option α} {g : Nat → α → Option β} {a : α} {b : β} (hf : Ev f a) (hg : Ev (fun k => g k a) b) : Ev (fun k => (f k).bind (g k)) b := by
  obtain ⟨n, hn⟩ := hf
  obtain ⟨m, hm⟩ := hg
  refine ⟨max n m, fun k hk => ?_⟩
  show (f k).bind (g k) = some b
  rw [hn k (by omega)]
  exact hm k (by omega)
theorem Ev.of_eq {α : Type} {g f : Nat → Option α} {r : α} (h : ∀ k, g k = f k) (hf : Ev f r) : Ev g r := by
  obtain ⟨n, hn⟩ := hf
  exact ⟨n, fun k hk => by rw [h]; exact hn k hk⟩
def ins (x : S32) : List S32 → List S32
  | [] => [x]
  | y :: ys => if lessB x y = true then x :: y :: ys else y :: ins x ys
def srt (xs : List S32) : List S32 := xs.foldl (fun acc d => ins d acc) []
def inOrder (xs : List S32) : Prop := xs.Pairwise (fun x y => lessB y x = false)
theorem ins_perm (x : S32) : ∀ ys, (ins x ys).Perm (x :: ys)
  | [] => List.Perm.refl _
  | y :: ys => by
    rw [ins]
    split
    · exact List.Perm.refl _
    · exact ((ins_perm x ys).cons y).trans (List.Perm.swap x y ys)
theorem ins_order (x : S32) : ∀ ys, inOrder ys → inOrder (ins x ys)
  | [], _ => List.pairwise_singleton _ _
  | y :: ys, h => by
    obtain ⟨h1, h2⟩ := List.pairwise_cons.1 h
    rw [ins]
    split
    · rename_i hl
      refine List.pairwise_cons.2 ⟨fun z hz => ?_, h⟩
      rcases List.mem_cons.1 hz with rfl | hz
      · exact no_of hl
      · exact no_tr (no_of hl) (h1 z hz)
    · rename_i hl
      refine List.pairwise_cons.2 ⟨fun z hz => ?_, ins_order x ys h2⟩
      have := (ins_perm x ys).mem_iff.1 hz
      rcases List.mem_cons.1 this with rfl | hz
      · exact Bool.eq_false_iff.2 hl
      · exact h1 z hz
theorem srt_go : ∀ (xs acc : List S32), inOrder acc → inOrder (xs.foldl (fun acc d => ins d acc) acc) ∧ (xs.foldl (fun acc d => ins d acc) acc).Perm (acc ++ xs)
  | [], acc, h => ⟨h, by simp⟩
  | x :: xs, acc, h => by
    obtain ⟨h1, h2⟩ := srt_go xs (ins x acc) (ins_order x acc h)
    refine ⟨h1, h2.trans ?_⟩
    exact ((ins_perm x acc).append_right xs).trans (by simpa using (List.perm_middle (a := x) (l₁ := acc) (l₂ := xs)).symm)
theorem srt_order (xs : List S32) : inOrder (srt xs) := (srt_go xs [] List.Pairwise.nil).1
theorem srt_perm (xs : List S32) : (srt xs).Perm xs := (srt_go xs [] List.Pairwise.nil).2
theorem both_no {x y : S32} (h1 : lessB x y = false) (h2 : lessB y x = false) : x = y := by
  rw [less_no] at h1 h2
  obtain ⟨a, b⟩ := x
  obtain ⟨c, d⟩ := y
  simp only at h1 h2
  have : a = c := by omega
  have : b = d := by omega
  simp [*]
theorem order_one : ∀ {xs ys : List S32}, inOrder xs → inOrder ys → xs.Perm ys → xs = ys
  | [], ys, _, _, hp => by simpa using hp.symm.eq_nil.symm
  | x :: xs, [], _, _, hp => by simp at hp
  | x :: xs, y :: ys, hx, hy, hp => by
    obtain ⟨a1, a2⟩ := List.pairwise_cons.1 hx
    obtain ⟨b1, b2⟩ := List.pairwise_cons.1 hy
    have e : x = y := by
      have m1 : x ∈ y :: ys := hp.mem_iff.1 List.mem_cons_self
      have m2 : y ∈ x :: xs := hp.mem_iff.2 List.mem_cons_self
      rcases List.mem_cons.1 m1 with h | h
      · exact h
      · rcases List.mem_cons.1 m2 with h' | h'
        · exact h'.symm
        · exact both_no (b1 x h) (a1 y h')
    subst e
    rw [order_one a2 b2 (hp.cons_inv)]
theorem srt_of {xs ys : List S32} (h : inOrder ys) (hp : ys.Perm xs) : ys = srt xs := order_one h (srt_order xs) (hp.trans (srt_perm xs).symm)
theorem srt_eq {xs ys : List S32} (hp : xs.Perm ys) : srt xs = srt ys := srt_of (srt_order xs) ((srt_perm xs).trans hp)
theorem srt_len (xs : List S32) : (srt xs).length = xs.length := (srt_perm xs).length_eq
theorem ins_at (x : S32) : ∀ (ys : List S32) (i : Nat), i ≤ ys.length → (∀ j, (hj : j < ys.length) → j < i → lessB x ys[j] = false) → (∀ h : i < ys.length, lessB x ys[i] = true) → ins x ys = ys.take i ++ [x] ++ ys.drop i
  | [], i, hi, _, _ => by
    obtain rfl : i = 0 := by simpa using hi
    rfl
  | y :: ys, 0, _, _, h => by
    have h9 : lessB x y = true := h (by simp)
    rw [ins, if_pos h9]
    rfl
  | y :: ys, i + 1, hi, h1, h2 => by
    rw [ins, if_neg (by rw [show lessB x y = false from h1 0 (by simp) (by omega)]; decide), ins_at x ys i (by simpa using hi) (fun j hj hji => h1 (j + 1) (by simpa using hj) (by omega)) (fun h => h2 (by simpa using h))]
    rfl
theorem ahead_is (x y : S32) : foghornref09_Ahead.f x.f0 x.f1 y.f0 y.f1 = some (lessB x y) := by
  unfold foghornref09_Ahead.f lessB
  by_cases h : x.f0 < y.f0
  · simp [h]
  · by_cases h2 : x.f0 = y.f0
    · simp [h2]
    · simp [h, h2]
theorem rd_at (l : List S32) (i : Nat) (h : i < l.length) : rd_T32 l (i : Nat) = l[i] := by simp [rd_T32, List.getD_eq_getElem?_getD, h]
theorem w64i {i : Nat} (h : i < M63) : wrap64 ((i : Int) + 1) = ((i + 1 : Nat) : Int) := by unfold wrap64 M63 at *; omega
theorem sorted_e1 (l acc : List S32) (hl : acc.length + 1 < M63) (hm : acc.length ≤ 1000) (i : Nat) (hi : i < l.length) (hlm : l.length ≤ 1000) (R : List S32) (hR : Ev (fun k => foghornref09_Sorted.l0 k (ins l[i] acc) l (l.length : Int) ((i + 1 : Nat) : Int)) R) :
    ∀ (d j : Nat), j + d = acc.length → (∀ q, (hq : q < acc.length) → q < j → lessB l[i] acc[q] = false) → Ev (fun k => foghornref09_Sorted.l1 k acc (j : Int) l (l.length : Int) (i : Int) l[i].f0 l[i].f1) R
  | 0, j, hd, ha => by
    refine Ev.step (f := fun k => foghornref09_Sorted.l0 k (ins l[i] acc) l (l.length : Int) ((i + 1 : Nat) : Int)) (fun k => ?_) hR
    rw [foghornref09_Sorted.l1, if_neg (by omega)]
    rw [ins_at l[i] acc j (by omega) ha (fun h => by omega)]
    have h1 : (List.take j acc).length ≤ acc.length := by rw [List.length_take]; omega
    have h2 : (List.drop j acc).length ≤ acc.length := by rw [List.length_drop]; omega
    simp only [Option.bind_some, Int.toNat_natCast, List.nil_append, List.length_nil, List.length_append, List.length_cons, Nat.zero_add]
    rw [if_pos (by omega), if_pos (by omega), if_pos (by omega), if_pos (by omega), if_pos (by omega), w64i (by unfold M63; omega)]
  | d + 1, j, hd, ha => by
    have hj : j < acc.length := by omega
    cases hb : lessB l[i] acc[j] with
    | true =>
      refine Ev.step (f := fun k => foghornref09_Sorted.l0 k (ins l[i] acc) l (l.length : Int) ((i + 1 : Nat) : Int)) (fun k => ?_) hR
      rw [foghornref09_Sorted.l1, if_pos (by omega), if_pos (by omega), rd_at acc j hj, ahead_is, hb]
      rw [ins_at l[i] acc j (by omega) ha (fun h => hb)]
      have h1 : (List.take j acc).length ≤ acc.length := by rw [List.length_take]; omega
      have h2 : (List.drop j acc).length ≤ acc.length := by rw [List.length_drop]; omega
      simp only [Option.bind_some, if_true, Int.toNat_natCast, List.nil_append, List.length_nil, List.length_append, List.length_cons, Nat.zero_add]
      rw [if_pos (by omega), if_pos (by omega), if_pos (by omega), if_pos (by omega), w64i (by unfold M63; omega)]
    | false =>
      refine Ev.step (f := fun k => foghornref09_Sorted.l1 k acc ((j + 1 : Nat) : Int) l (l.length : Int) (i : Int) l[i].f0 l[i].f1) (fun k => ?_) (sorted_e1 l acc hl hm i hi hlm R hR d (j + 1) (by omega) (fun q hq hqj => ?_))
      · rw [foghornref09_Sorted.l1, if_pos (by omega), if_pos (by omega), rd_at acc j hj, ahead_is, hb]
        simp only [Option.bind_some, Bool.false_eq_true, if_false]
        rw [w64i (by unfold M63; omega)]
      · by_cases e : q = j
        · subst e; exact hb
        · exact ha q hq (by omega)
theorem sorted_e0 (l : List S32) (hlm : l.length ≤ 1000) : ∀ (d i : Nat) (acc : List S32), i + d = l.length → acc.length = i → Ev (fun k => foghornref09_Sorted.l0 k acc l (l.length : Int) (i : Int)) ((l.drop i).foldl (fun acc d => ins d acc) acc)
  | 0, i, acc, hd, ha => by
    refine Ev.step (f := fun _ => some acc) (fun k => ?_) ?_
    · rw [foghornref09_Sorted.l0, if_neg (by omega)]
    · rw [List.drop_eq_nil_of_le (by omega)]
      exact Ev.now _
  | d + 1, i, acc, hd, ha => by
    have hi : i < l.length := by omega
    refine Ev.step (f := fun k => foghornref09_Sorted.l1 k acc ((0 : Nat) : Int) l (l.length : Int) (i : Int) l[i].f0 l[i].f1) (fun k => ?_) ?_
    · rw [foghornref09_Sorted.l0, if_pos (by omega), if_pos (by omega), if_pos (by omega), rd_at l i hi]
      rfl
    · rw [List.drop_eq_getElem_cons hi, List.foldl_cons]
      exact sorted_e1 l acc (by unfold M63; omega) (by omega) i hi hlm _ (sorted_e0 l hlm d (i + 1) (ins l[i] acc) (by omega) (by rw [(ins_perm _ _).length_eq]; simp [ha])) acc.length 0 (by omega) (fun q hq h => absurd h (Nat.not_lt_zero _))
theorem sorted_ev (l : List S32) (h : l.length ≤ 1000) : Ev (fun k => foghornref09_Sorted.f k l) (srt l) := by
  have := sorted_e0 l h l.length 0 [] (by omega) rfl
  exact this
theorem rd_get32 (l : List S32) (i : Nat) (h : i < l.length) : rd_T32 l (i : Nat) = l[i] := by simp [rd_T32, List.getD_eq_getElem?_getD, h]
theorem idxR_hit32 (p : S32 → Bool) (l : List S32) (k : Nat) (hk : k < l.length) (h : ∀ j, j < k → p (rd_T32 l (j : Nat)) = false) (hp : p (rd_T32 l (k : Nat)) = true) : (k : Int) = idxP p l := by
  have e : l.findIdx? p = some k := by
    rw [List.findIdx?_eq_some_iff_getElem]
    refine ⟨hk, by rw [← rd_get32 l k hk]; exact hp, fun j hj => ?_⟩
    have := h j hj
    rw [rd_get32 l j (by omega)] at this
    simp [this]
  simp [idxP, e]
theorem idxR_miss32 (p : S32 → Bool) (l : List S32) (h : ∀ j, j < l.length → p (rd_T32 l (j : Nat)) = false) : -1 = idxP p l := by
  have e : l.findIdx? p = none := by
    rw [List.findIdx?_eq_none_iff]
    intro x hx
    obtain ⟨j, hj, rfl⟩ := List.mem_iff_getElem.1 hx
    have := h j hj
    rwa [rd_get32 l j hj] at this
  simp [idxP, e]
def Pred32 (ok : S32 → Prop) (g : Nat) (cap : Array Value) (p : S32 → Bool) (w : World) : Prop := ∀ (x : S32) (W : World), ok x → Below w.heap.size w W → Calls Try.prog g (#[.agg #[.int .i64 x.f0, .int .i64 x.f1]] ++ cap) W fun e W' => e = .returned (.bool (p x)) ∧ Below W.heap.size W W'
set_option maxHeartbeats 2000000 in
theorem indexFunc_32 (ok : S32 → Prop) (gf : Nat) (cap : Array Value) (p : S32 → Bool) (eg : ∀ args w, (callFunc gf args).run Try.prog w = .ok (.enter gf args) w) (A : Option Addr) (c : Nat) (l : List S32) (w : World) (hr : Kd.C k32 w A l.length l) (hok : ∀ j : Nat, j < l.length → ok (rd_T32 l (j : Nat))) (hp : Pred32 ok gf cap p w) :
    Calls Try.prog 29 #[.slice A l.length c, .func (.func gf) #[] cap] w fun e w' => e = .returned (.int .i64 (idxP p l)) ∧ Below w.heap.size w w' := by
  have HR := Aside0.mk hr
  have HP := Aside0.mk hp
  have HOK := Aside0.mk hok
  have hll : l.length ≤ 9223372036854775807 := hr.2.1
  clear hr hp hok
  go_enter Try.func29, Try.ntmps29
  go_wp2
  go_loopg [5, 8] l.length (fun kq v5 v8 w' => ∃ k : Nat, k ≤ l.length ∧ l.length - k ≤ kq ∧ v8 = .int .i64 k ∧ Aside0 (∀ j, j < k → p (rd_T32 l (j : Nat)) = false) ∧ Aside0 (Below w.heap.size w w'))
  case atStart => exact ⟨0, Nat.zero_le _, by omega, rfl, ⟨fun j hj => absurd hj (Nat.not_lt_zero _)⟩, ⟨Below.refl _ _⟩⟩
  case round =>
    obtain ⟨k, hk, hg, rfl, HA, HB⟩ := hrel
    by_cases hlt : k < l.length
    · have hlti : (k : Int) < (l.length : Int) := by omega
      obtain ⟨ad, e1, a0, a1⟩ := at_T32 HR.out (k : Int) (by omega) hlti
      cases e1
      replace a0 := (HB.out.cell (World.block_lt_of_cell? w _ a0)).trans a0
      replace a1 := (HB.out.cell (World.block_lt_of_cell? w _ a1)).trans a1
      rw [Int.toNat_natCast] at a0 a1
      cases hq : p (rd_T32 l k) with
      | true =>
        have HQ := Aside0.mk hq
        clear hq
        go_wp2_with (go_at_fn gf; refine (HP.out (rd_T32 l k) _ (HOK.out k hlt) HB.out ).mono ?_; rintro e W1 ⟨rfl, hb⟩; simp only [HQ.out]; have HB1 := Aside0.mk (below_then HB.out HB.out.size hb); clear hb HB; have HB := HB1; clear HB1)
        go_ret
        exact ⟨ret_int64 (idxR_hit32 p l k hlt HA.out HQ.out), HB.out⟩
      | false =>
        have HQ := Aside0.mk hq
        clear hq
        go_wp2_with (go_at_fn gf; refine (HP.out (rd_T32 l k) _ (HOK.out k hlt) HB.out ).mono ?_; rintro e W1 ⟨rfl, hb⟩; simp only [HQ.out]; have HB1 := Aside0.mk (below_then HB.out HB.out.size hb); clear hb HB; have HB := HB1; clear HB1)
        go_roundg (l.length - (k + 1))
        case measure => omega
        case rel => exact ⟨k + 1, by omega, by omega, by go_num, ⟨fun j hj => by
          by_cases e : j = k
          · subst e; exact HQ.out
          · exact HA.out j (by omega)⟩, HB⟩
    · have : k = l.length := by omega
      subst this
      go_wp2
      go_ret
      exact ⟨ret_int64 (idxR_miss32 p l HA.out), HB.out⟩
theorem containsFunc_32 (ok : S32 → Prop) (gf : Nat) (cap : Array Value) (p : S32 → Bool) (eg : ∀ args w, (callFunc gf args).run Try.prog w = .ok (.enter gf args) w) (A : Option Addr) (c : Nat) (l : List S32) (w : World) (hr : Kd.C k32 w A l.length l) (hok : ∀ j : Nat, j < l.length → ok (rd_T32 l (j : Nat))) (hp : Pred32 ok gf cap p w) :
    Calls Try.prog 23 #[.slice A l.length c, .func (.func gf) #[] cap] w fun e w' => e = .returned (.bool (l.any p)) ∧ Below w.heap.size w w' := by
  have HH := Aside0.mk (indexFunc_32 ok gf cap p eg A c l w hr hok hp)
  clear hr hp eg hok
  have EI := Aside0.mk (idxP_any p l)
  go_enter Try.func23, Try.ntmps23
  go_wp2_with (go_at_call 29; (with_reducible refine HH.out.mono ?_); rintro e w' ⟨rfl, hb⟩; have HB := Aside0.mk hb; clear hb)
  go_ret
  exact ⟨by rw [EI.out]; rfl, HB.out⟩
def tmB (t : Int) : Bool := decide (0 ≤ t) && decide (t ≤ 1099511627776)
theorem tick_is (t : Int) : tick_Right.f t = some (tmB t) := by
  unfold tick_Right.f tmB
  by_cases h : 0 ≤ t <;> simp [h]
theorem E24 : ∀ args w, (callFunc 24 args).run Try.prog w = .ok (.enter 24 args) w := enters_of Try.func24 (by kernel_rfl) rfl
set_option maxHeartbeats 2000000 in
theorem right24_calls (x : S32) (w : World) : Calls Try.prog 24 #[.agg #[.int .i64 x.f0, .int .i64 x.f1]] w fun e w' => e = .returned (.bool (!tmB x.f0)) ∧ Below w.heap.size w w' := by
  have hF := Aside0.mk (Fr.Frame.start w)
  have HC : True := trivial
  go_enter Try.func24, Try.ntmps24
  go_wp2_with (first | ((with_reducible refine gate_store rfl ?_); apply Fr.fr_store hF.out rfl rfl rfl; (case hp => rfl); (case hx => first | (go_simp; rfl) | rfl); (case hu => (simp only [Value.cells]; rfl)); (case hs => (repeat (first | exact Fr.Spot.here _ _ | apply Fr.Spot.there))); (case ht => kernel_rfl); (case h1 => simp [Value.oneCell']); (case hfit => simp); intro W hF1; simp only [Fr.patch, List.take_zero, List.nil_append, List.drop, List.append_nil, List.take, List.cons_append, List.length_cons, List.length_nil, Nat.reduceAdd] at hF1; have HC1 := hF1.cells; simp only [Fr.Cells, List.length_cons, List.length_nil, Nat.reduceAdd, and_true] at HC1; clear hF HC; have HC := HC1; have hF := Aside0.mk hF1; clear hF1 HC1) | ((first | (with_reducible refine Fr.gate_alloc rfl ?_) | (with_reducible refine Fr.gate_box rfl ?_)); apply Fr.fr_box hF.out rfl; (case hrun => first | (go_simp; done) | (go_simp; rfl)); intro g W hF1; have HC1 := hF1.cells; simp only [Fr.Cells, List.length_cons, List.length_nil, Nat.reduceAdd, and_true] at HC1; clear hF HC; have HC := HC1; have hF := Aside0.mk hF1; clear hF1 HC1))
  (with_reducible refine (tick_Right.calls x.f0 _ _ (tick_is x.f0)).mono ?_); rintro e W ⟨rfl, hb⟩; have hF1 := hF.out.call hb.below; clear hb; have HC1 := hF1.cells; simp only [Fr.Cells, List.length_cons, List.length_nil, Nat.reduceAdd, and_true] at HC1; clear hF HC; have HC := HC1; have hF := Aside0.mk hF1; clear hF1 HC1
  go_wp2_with (first | ((with_reducible refine gate_store rfl ?_); apply Fr.fr_store hF.out rfl rfl rfl; (case hp => rfl); (case hx => first | (go_simp; rfl) | rfl); (case hu => (simp only [Value.cells]; rfl)); (case hs => (repeat (first | exact Fr.Spot.here _ _ | apply Fr.Spot.there))); (case ht => kernel_rfl); (case h1 => simp [Value.oneCell']); (case hfit => simp); intro W hF1; simp only [Fr.patch, List.take_zero, List.nil_append, List.drop, List.append_nil, List.take, List.cons_append, List.length_cons, List.length_nil, Nat.reduceAdd] at hF1; have HC1 := hF1.cells; simp only [Fr.Cells, List.length_cons, List.length_nil, Nat.reduceAdd, and_true] at HC1; clear hF HC; have HC := HC1; have hF := Aside0.mk hF1; clear hF1 HC1) | ((first | (with_reducible refine Fr.gate_alloc rfl ?_) | (with_reducible refine Fr.gate_box rfl ?_)); apply Fr.fr_box hF.out rfl; (case hrun => first | (go_simp; done) | (go_simp; rfl)); intro g W hF1; have HC1 := hF1.cells; simp only [Fr.Cells, List.length_cons, List.length_nil, Nat.reduceAdd, and_true] at HC1; clear hF HC; have HC := HC1; have hF := Aside0.mk hF1; clear hF1 HC1))
  go_ret
  exact ⟨rfl, hF.out.below⟩
def duesB (l : List S32) : Bool := decide (l.length ≤ 64) && !l.any (fun x => !tmB x.f0)
set_option maxHeartbeats 2000000 in
theorem right13_calls (A : Option Addr) (c : Nat) (l : List S32) (w : World) (hr : Kd.C k32 w A l.length l) : Calls Try.prog 13 #[.slice A l.length c] w fun e w' => e = .returned (.bool (duesB l)) ∧ Below w.heap.size w w' := by
  have H23 := Aside0.mk (fun W (hb : Below w.heap.size w W) => containsFunc_32 (fun _ => True) 24 #[] (fun x => !tmB x.f0) E24 A c l W (Kd.C_below hr hb) (fun _ _ => trivial) (fun x W2 _ _ => right24_calls x W2))
  unfold duesB
  have hF := Aside0.mk (Fr.Frame.start w)
  have HC : True := trivial
  obtain ⟨r, hr2⟩ : ∃ r, l.any (fun x => !tmB x.f0) = r := ⟨_, rfl⟩
  rw [hr2] at H23 ⊢
  clear hr2 hr
  by_cases h : l.length ≤ 64
  · rw [decide_eq_true h]
    have hi : (l.length : Int) ≤ 64 := by omega
    go_enter Try.func13, Try.ntmps13
    go_wp2_with (first | ((with_reducible refine gate_store rfl ?_); apply Fr.fr_store hF.out rfl rfl rfl; (case hp => rfl); (case hx => first | (go_simp; rfl) | rfl); (case hu => (simp only [Value.cells]; rfl)); (case hs => (repeat (first | exact Fr.Spot.here _ _ | apply Fr.Spot.there))); (case ht => kernel_rfl); (case h1 => simp [Value.oneCell']); (case hfit => simp); intro W hF1; simp only [Fr.patch, List.take_zero, List.nil_append, List.drop, List.append_nil, List.take, List.cons_append, List.length_cons, List.length_nil, Nat.reduceAdd] at hF1; have HC1 := hF1.cells; simp only [Fr.Cells, List.length_cons, List.length_nil, Nat.reduceAdd, and_true] at HC1; clear hF HC; have HC := HC1; have hF := Aside0.mk hF1; clear hF1 HC1) | ((first | (with_reducible refine Fr.gate_alloc rfl ?_) | (with_reducible refine Fr.gate_box rfl ?_)); apply Fr.fr_box hF.out rfl; (case hrun => first | (go_simp; done) | (go_simp; rfl)); intro g W hF1; have HC1 := hF1.cells; simp only [Fr.Cells, List.length_cons, List.length_nil, Nat.reduceAdd, and_true] at HC1; clear hF HC; have HC := HC1; have hF := Aside0.mk hF1; clear hF1 HC1))
    (with_reducible refine (H23.out _ hF.out.below).mono ?_); rintro e W ⟨rfl, hb⟩; have hF1 := hF.out.call hb; clear hb; have HC1 := hF1.cells; simp only [Fr.Cells, List.length_cons, List.length_nil, Nat.reduceAdd, and_true] at HC1; clear hF HC; have HC := HC1; have hF := Aside0.mk hF1; clear hF1 HC1
    go_wp2_with (first | ((with_reducible refine gate_store rfl ?_); apply Fr.fr_store hF.out rfl rfl rfl; (case hp => rfl); (case hx => first | (go_simp; rfl) | rfl); (case hu => (simp only [Value.cells]; rfl)); (case hs => (repeat (first | exact Fr.Spot.here _ _ | apply Fr.Spot.there))); (case ht => kernel_rfl); (case h1 => simp [Value.oneCell']); (case hfit => simp); intro W hF1; simp only [Fr.patch, List.take_zero, List.nil_append, List.drop, List.append_nil, List.take, List.cons_append, List.length_cons, List.length_nil, Nat.reduceAdd] at hF1; have HC1 := hF1.cells; simp only [Fr.Cells, List.length_cons, List.length_nil, Nat.reduceAdd, and_true] at HC1; clear hF HC; have HC := HC1; have hF := Aside0.mk hF1; clear hF1 HC1) | ((first | (with_reducible refine Fr.gate_alloc rfl ?_) | (with_reducible refine Fr.gate_box rfl ?_)); apply Fr.fr_box hF.out rfl; (case hrun => first | (go_simp; done) | (go_simp; rfl)); intro g W hF1; have HC1 := hF1.cells; simp only [Fr.Cells, List.length_cons, List.length_nil, Nat.reduceAdd, and_true] at HC1; clear hF HC; have HC := HC1; have hF := Aside0.mk hF1; clear hF1 HC1))
    go_ret
    exact ⟨rfl, hF.out.below⟩
  · rw [decide_eq_false h]
    have hi : ¬ (l.length : Int) ≤ 64 := by omega
    go_enter Try.func13, Try.ntmps13
    go_wp2_with (first | ((with_reducible refine gate_store rfl ?_); apply Fr.fr_store hF.out rfl rfl rfl; (case hp => rfl); (case hx => first | (go_simp; rfl) | rfl); (case hu => (simp only [Value.cells]; rfl)); (case hs => (repeat (first | exact Fr.Spot.here _ _ | apply Fr.Spot.there))); (case ht => kernel_rfl); (case h1 => simp [Value.oneCell']); (case hfit => simp); intro W hF1; simp only [Fr.patch, List.take_zero, List.nil_append, List.drop, List.append_nil, List.take, List.cons_append, List.length_cons, List.length_nil, Nat.reduceAdd] at hF1; have HC1 := hF1.cells; simp only [Fr.Cells, List.length_cons, List.length_nil, Nat.reduceAdd, and_true] at HC1; clear hF HC; have HC := HC1; have hF := Aside0.mk hF1; clear hF1 HC1) | ((first | (with_reducible refine Fr.gate_alloc rfl ?_) | (with_reducible refine Fr.gate_box rfl ?_)); apply Fr.fr_box hF.out rfl; (case hrun => first | (go_simp; done) | (go_simp; rfl)); intro g W hF1; have HC1 := hF1.cells; simp only [Fr.Cells, List.length_cons, List.length_nil, Nat.reduceAdd, and_true] at HC1; clear hF HC; have HC := HC1; have hF := Aside0.mk hF1; clear hF1 HC1))
    go_ret
    exact ⟨rfl, hF.out.below⟩
theorem frame_join {w0 W W' : World} {bs bs2 : List Fr.Blk} (hF : Fr.Frame w0 W bs []) (h2 : Fr.Frame W W' bs2 []) : Fr.Frame w0 W' (bs2 ++ bs) [] := by
  have h1 := hF.call h2.below
  refine ⟨h1.below, fun b hb => ?_, ?_, by simp⟩
  · rcases List.mem_append.1 hb with hb | hb
    · exact ⟨Nat.le_trans hF.below.size (h2.blk b hb).1, (h2.blk b hb).2⟩
    · exact h1.blk b hb
  · rw [List.map_append, List.nodup_append]
    refine ⟨h2.nodup, h1.nodup, fun a ha b hb e => ?_⟩
    obtain ⟨x, hx, rfl⟩ := List.mem_map.1 ha
    obtain ⟨y, hy, rfl⟩ := List.mem_map.1 hb
    have e1 := (h2.blk x hx).1
    have e2 := hF.lt hy
    omega
theorem ta_due (x : Value) (w : World) : (Instr.typeAssert (.iface 32 x) 20 32 true).run Try.prog w = .ok (.tuple #[x, .bool true]) w := by kernel_rfl
theorem take_flat {w0 W : World} {bs : List Fr.Blk} {rs : List Fr.Row} {g : Nat} {zs : List S32} {tl : List Value} {t : TypeId} {f : List Value → List Fr.Blk} (hF : Fr.Frame w0 W bs rs) (hs : Fr.Spot g t bs (flat zs ++ tl) f) (n : Nat) (hn : n ≤ zs.length) (hm : n ≤ 9223372036854775807) : Kd.C k32 W (some ⟨g, 0, none⟩) n (zs.take n) := by
  have e : flat zs ++ tl = flat (zs.take n) ++ (flat (zs.drop n) ++ tl) := by rw [← List.append_assoc, ← flat_app, List.take_append_drop]
  rw [e] at hs
  have hl : (zs.take n).length = n := by rw [List.length_take]; omega
  have h := flat_C hF hs (by rw [hl]; exact hm)
  rw [hl] at h
  exact h
def heapL (xs : List S32) : List S32 := initL (xs.length / 2) xs xs.length
theorem heapL_len (xs : List S32) : (heapL xs).length = xs.length := initL_len _ _ _
section
variable {P : Program} {Q : Exit → Act → World → Prop} {a : Act} {w : World}
def wpN (P : Program) (c : Code) (Q : Exit → Act → World → Prop) (a : Act) (w : World) : Prop :=
  ∀ (b : Frame), b.kind ≠ .early → ∀ (k : List Item) (cs : List Frame), ∃ e a' w', Q e a' w' ∧ Arrives P (lone (b.at a (.code c :: k)) cs w) b k cs e a' w'
theorem wpN_of {c : Code} (h : c.wp P Q a w) : wpN P c Q a w := fun b _ k cs => h b k cs
theorem wpN_mono {c : Code} {Q' : Exit → Act → World → Prop} (h : wpN P c Q a w) (hq : ∀ e a w, Q e a w → Q' e a w) : wpN P c Q' a w := fun b hb k cs => by
  obtain ⟨e, a', w', q, r⟩ := h b hb k cs
  exact ⟨e, a', w', hq _ _ _ q, r⟩
theorem arr_over {m m₁ : Machine} {b : Frame} {x : Item} {k : List Item} {cs : List Frame} {e : Exit} (hx : x.plain = true) (he : e ≠ .normal) (hs : Steps P m m₁) (h : Arrives P m₁ b (x :: k) cs e a w) : Arrives P m b k cs e a w :=
  Arrives.of_steps hs (Arrives.pass (x := x) hx (fun _ _ => .inl he) h)
theorem wpN_seq {x y : Code} (h : wpN P x (Exit.then (fun a' w' => wpN P y Q a' w') Q) a w) : wpN P (Code.seq x y) Q a w := fun b hb k cs => by
  obtain ⟨e, a₁, w₁, hq, hr⟩ := h b hb (.code y :: k) cs
  by_cases he : e = .normal
  · subst he
    obtain ⟨e₂, a₂, w₂, hq₂, hr₂⟩ := (hq : wpN P y Q a₁ w₁) b hb k cs
    exact ⟨e₂, a₂, w₂, hq₂, .of_steps (.head step_seq hr) hr₂⟩
  · refine ⟨e, a₁, w₁, ?_, arr_over rfl he (.one step_seq) hr⟩
    cases e <;> first | exact absurd rfl he | exact hq
theorem wpN_block {id : Nat} {c : Code} (h : wpN P c (Exit.inBlock id Q) a w) : wpN P (Code.block id c) Q a w := fun b hb k cs => by
  obtain ⟨e, a₁, w₁, hq, hr⟩ := h b hb (.inBlock id :: k) cs
  cases e with
  | normal => exact ⟨.normal, a₁, w₁, hq, .head step_block (Steps.trans hr (.one step_inBlock))⟩
  | exit j =>
    by_cases hj : j = id
    · subst hj
      have hq' : Q .normal a₁ w₁ := by simpa [Exit.inBlock] using hq
      exact ⟨.normal, a₁, w₁, hq', .head step_block (hr k (by simp [exitTo]))⟩
    · have hq' : Q (.exit j) a₁ w₁ := by simpa [Exit.inBlock, hj] using hq
      have hne : (id == j) = false := by simpa using fun e => hj e.symm
      exact ⟨.exit j, a₁, w₁, hq', fun k' hk => .head step_block (hr k' (by simp [exitTo, hne, hk]))⟩
  | goto l => exact ⟨_, a₁, w₁, hq, fun k' hk => .head step_block (hr k' (by simp [gotoIn, hk]))⟩
  | ret => exact ⟨_, a₁, w₁, hq, .of_steps (.one step_block) hr⟩
  | panic ch => exact ⟨_, a₁, w₁, hq, .of_steps (.one step_block) hr⟩
  | outgrown => exact ⟨_, a₁, w₁, hq, .of_steps (b := b) (k := k) (cs := cs) (e := .outgrown) (.one step_block) hr⟩
theorem wpN_loop {c : Code} (J : Nat → Act → World → Prop) (round : ∀ n a w, J n a w → wpN P c (Exit.then (fun a' w' => ∃ m, m < n ∧ J m a' w') Q) a w) {n : Nat} (h₀ : J n a w) : wpN P (Code.loop c) Q a w := fun b hb k cs => by
  have key : ∀ n a w, J n a w → ∃ e a' w', Q e a' w' ∧ Arrives P (lone (b.at a (.code c :: .inLoop c :: k)) cs w) b k cs e a' w' := by
    intro n
    induction n using Nat.strongRecOn with
    | ind n ih =>
      intro a w hJ
      obtain ⟨e, a₁, w₁, hq, hr⟩ := round n a w hJ b hb (.inLoop c :: k) cs
      by_cases he : e = .normal
      · subst he
        obtain ⟨m, hm, hJ₁⟩ := (hq : ∃ m, m < n ∧ J m a₁ w₁)
        obtain ⟨e₂, a₂, w₂, hq₂, hr₂⟩ := ih m hm a₁ w₁ hJ₁
        exact ⟨e₂, a₂, w₂, hq₂, .of_steps (Steps.trans hr (.one step_inLoop)) hr₂⟩
      · refine ⟨e, a₁, w₁, ?_, arr_over rfl he (Steps.refl _ _) hr⟩
        cases e <;> first | exact absurd rfl he | exact hq
  obtain ⟨e, a', w', hq, hr⟩ := key n a w h₀
  exact ⟨e, a', w', hq, .of_steps (.one step_loop) hr⟩
theorem calls_of_wpN {f : FuncId} {fn : Func} {c : Code} {args : Array Value} {R : Ending → World → Prop} (hf : P.funcs[f]? = some fn) (hb : fn.body = some c)
    (h : wpN P c (bodyPost P fn R) { tmps := args ++ Array.replicate (fn.ntmps - args.size) undef, defers := [] } w) : Calls P f args w R := by
  intro cs
  have hk : ({ (default : Frame) with fn := f, kind := .normal } : Frame).kind ≠ .early := by simp
  obtain ⟨e, a', w', hq, hr⟩ := h { (default : Frame) with fn := f, kind := .normal } hk [] cs
  have he : Frame.enter P f args .normal = ({ (default : Frame) with fn := f, kind := .normal } : Frame).at { tmps := args ++ Array.replicate (fn.ntmps - args.size) undef, defers := [] } [.code c] := by
    simp [Frame.enter, Frame.at, hf, hb]
  rw [← he] at hr
  cases e with
  | normal =>
    obtain ⟨hd, v, hv, hR⟩ := hq
    exact ⟨.returned v, w', _, hR, Steps.trans hr (.one step_end), rfl, rfl, hd, rfl, fn, hf, hv⟩
  | ret =>
    obtain ⟨hd, v, hv, hR⟩ := hq
    obtain ⟨todo, hs⟩ := hr
    exact ⟨.returned v, w', _, hR, hs, rfl, rfl, hd, rfl, fn, hf, hv⟩
  | panic chain =>
    obtain ⟨hd, hR⟩ := hq
    obtain ⟨todo, hs⟩ := hr
    exact ⟨.panicked chain, w', _, hR, hs, rfl, rfl, hd, fn, hf⟩
  | exit id => exact hq.elim
  | goto l => exact hq.elim
  | outgrown => exact ⟨.outgrown, w', { (default : Frame) with fn := f, kind := .normal }, hq, hr.resolve_left hk, rfl, trivial⟩
theorem wpN_lone {c : Code} (a' : Act) (w' : World) (hq : Q .normal a' w') (h : ∀ (b : Frame), b.kind ≠ .early → ∀ (k : List Item) (cs : List Frame), Conc.LoneTo P (fun g w'' => g = Conc.G (b.at a' k) cs ∧ w'' = w') (Conc.G (b.at a (.code c :: k)) cs) w) : wpN P c Q a w := fun b hb k cs => by
  obtain ⟨g, w'', hs, rfl, rfl⟩ := h b hb k cs
  exact ⟨.normal, a', _, hq, hs⟩
end
end Go.Proofs.Ytlkaebnigmfphaa.G
