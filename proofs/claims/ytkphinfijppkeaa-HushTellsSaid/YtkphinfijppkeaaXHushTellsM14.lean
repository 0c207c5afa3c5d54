/- Contracts of functions of the given program, and what they come to, for any arguments. No condition beyond each theorem's own premises. -/
import Derived.Test.YtkphinfijppkeaaXHushTellsM9
import Derived.Test.YtkphinfijppkeaaXHushTellsM13
namespace Go.Proofs.Ytkphinfijppkeaa.G
open Go.RowKit Go.Proofs.YtkphinfijppkeaaW.PrintWords Go.Proofs.YtkphinfijppkeaaW.PrintLast Go.Proofs.YtkphinfijppkeaaW.PrintMore
attribute [local go_sem] max2_int min2_int max_two min_two max_three min_three max_four min_four
theorem kept_snoc (now : Int) (l : List S25) (j : Nat) (hj : j < l.length) : ((l.take (j + 1)).filter fun x => !overP now x) = ((l.take j).filter fun x => !overP now x) ++ (if overP now (rd_T25 l (j : Nat)) = true then [] else [rd_T25 l (j : Nat)]) := by
  rw [rd_get25 l j hj, List.take_succ_eq_append_getElem hj, List.filter_append]
  by_cases h : overP now l[j] = true <;> simp [h]
set_option maxHeartbeats 4000000 in
set_option maxRecDepth 100000 in
theorem kept_calls (A0 : Option Addr) (c0 : Nat) (l : List S25) (now : Int) (w : World) (hr : Kd.C k25 w A0 l.length l) (hl : l.length ≤ 1000) :
    Calls Try.prog 24 #[.slice A0 l.length c0, .int .i64 now] w fun e w' => ∃ v rows S, e = .returned v ∧ Fr.Frame w w' [] [Fr.rowR (Kd.raw 3) 25 w.heap.size v rows S] ∧ RowsOf w (l.filter fun x => !overP now x) rows := by
  have HR := Aside0.mk hr
  have HLL := Aside0.mk hl
  have hm : l.length ≤ 9223372036854775807 := by omega
  obtain ⟨S, hF0⟩ := ((Fr.Frame.start w).call ((Below.refl _ w).alloc (Nat.le_refl _) (.cells #[] 25))).rowIn (R_empty (Kd.raw 3) 25 _ w.heap.size w.heap.size (fun _ => True) (Nat.le_refl _) (heap_alloc_new w _) trivial) (fun k _ b hb => by simp at hb)
  have HF0 := Aside0.mk hF0
  clear hr hl hF0
  go_enter Try.func24, Try.ntmps24
  go_wp2
  go_loopg [5, 11] l.length (fun kq v5 v11 w' => ∃ (j : Nat) (rows : List (List Value)) (S : Nat → Prop), j ≤ l.length ∧ l.length - j ≤ kq ∧ v11 = .int .i64 j ∧ Aside0 (RowsOf w ((l.take j).filter fun x => !overP now x) rows) ∧ Aside0 (Fr.Frame w w' [] [Fr.rowR (Kd.raw 3) 25 w.heap.size v5 rows S]))
  case atStart => exact ⟨0, [], S, Nat.zero_le _, by omega, rfl, ⟨⟨rfl, fun j x c h1 _ => by simp at h1⟩⟩, HF0⟩
  case round =>
    clear HF0
    obtain ⟨j, rows, S1, hj, hg, rfl, HO, hF⟩ := hrel
    have HC : True := trivial
    by_cases hlt : j < l.length
    · have hltI : (j : Int) < (l.length : Int) := by omega
      obtain ⟨ad, A2, c2, e1, a0, a1, a2, g0, g1⟩ := at_T25 HR.out (j : Int) (by omega) hltI
      cases e1
      replace a0 := (hF.out.below.cell (World.block_lt_of_cell? w _ a0)).trans a0
      replace a1 := (hF.out.below.cell (World.block_lt_of_cell? w _ a1)).trans a1
      replace a2 := (hF.out.below.cell (World.block_lt_of_cell? w _ a2)).trans a2
      rw [Int.toNat_natCast] at a0 a1 a2
      have HK := Aside0.mk (k25_mk w (rd_T25 l (j : Nat)) g0 g1)
      have HSN := Aside0.mk (kept_snoc now l j hlt)
      have HLA := Aside0.mk (show (rows.length + 1) * 40 ≤ 140737488355328 by have h1 := HO.out.len; have h2 := HLL.out; have h3 := List.length_filter_le (fun x => !overP now x) (l.take j); have h4 := List.length_take_le j l; omega)
      clear g0 g1
      by_cases h : (rd_T25 l (j : Nat)).f1 > now
      · have HV := Aside0.mk (show overP now (rd_T25 l (j : Nat)) = false by unfold overP; rw [decide_eq_false_iff_not]; omega)
        have h' : now < (rd_T25 l (j : Nat)).f1 := h
        go_wp2_with (first | ((with_reducible refine gate_builtin (b := .append) (xs := #[.tmp 19, .tmp 21]) rfl ?_); refine Fr.fr_append (Kd.raw 3) (.tmp 19) (.tmp 21) 22 25 (.agg #[.int .i64 0, .int .i64 0, .slice none 0 0]) 40 [.int .i64 (rd_T25 l (j : Nat)).f0, .int .i64 (rd_T25 l (j : Nat)).f1, .slice A2 (rd_T25 l (j : Nat)).f2.length c2] [.int .i64 (rd_T25 l (j : Nat)).f0, .int .i64 (rd_T25 l (j : Nat)).f1, .slice A2 (rd_T25 l (j : Nat)).f2.length c2] hF.out rfl rfl Try.underlying22 (by kernel_rfl) rfl (by decide) (by omega) rfl (by first | (go_simp; done) | (go_simp; rfl)) ⟨rfl, rfl, by simp [Value.oneCell']⟩ HLA.out ?_; intro v1 W2 S1 hF1; have HC1 := hF1.cells; simp only [Fr.Cells, List.length_cons, List.length_nil, Nat.reduceAdd, and_true] at HC1; clear hF HC; have HC := HC1; have hF := Aside0.mk hF1; clear hF1 HC1) | ((with_reducible refine gate_store rfl ?_); apply Fr.fr_store hF.out rfl rfl rfl; (case hp => rfl); (case hx => first | (go_simp; rfl) | rfl); (case hu => (simp only [Value.cells]; rfl)); (case hs => (repeat (first | exact Fr.Spot.here _ _ | apply Fr.Spot.there))); (case ht => kernel_rfl); (case h1 => simp [Value.oneCell']); (case hfit => simp); intro W hF1; simp only [Fr.patch, List.take_zero, List.nil_append, List.drop, List.append_nil, List.take, List.cons_append, List.length_cons, List.length_nil, Nat.reduceAdd] at hF1; have HC1 := hF1.cells; simp only [Fr.Cells, List.length_cons, List.length_nil, Nat.reduceAdd, and_true] at HC1; clear hF HC; have HC := HC1; have hF := Aside0.mk hF1; clear hF1 HC1) | ((first | (with_reducible refine Fr.gate_alloc rfl ?_) | (with_reducible refine Fr.gate_box rfl ?_)); apply Fr.fr_box hF.out rfl; (case hrun => first | (go_simp; done) | (go_simp; rfl)); intro g W hF1; have HC1 := hF1.cells; simp only [Fr.Cells, List.length_cons, List.length_nil, Nat.reduceAdd, and_true] at HC1; clear hF HC; have HC := HC1; have hF := Aside0.mk hF1; clear hF1 HC1))
        go_roundg (l.length - (j + 1))
        case measure => omega
        case rel => exact ⟨j + 1, _, _, by omega, by omega, by go_num, ⟨by rw [HSN.out, if_neg (by rw [HV.out]; decide)]; exact HO.out.append (RowsOf.one HK.out)⟩, ⟨hF.out.drop⟩⟩
      · have HV := Aside0.mk (show overP now (rd_T25 l (j : Nat)) = true by unfold overP; rw [decide_eq_true_iff]; omega)
        have h' : (rd_T25 l (j : Nat)).f1 ≤ now := by omega
        go_wp2_with (first | ((with_reducible refine gate_store rfl ?_); apply Fr.fr_store hF.out rfl rfl rfl; (case hp => rfl); (case hx => first | (go_simp; rfl) | rfl); (case hu => (simp only [Value.cells]; rfl)); (case hs => (repeat (first | exact Fr.Spot.here _ _ | apply Fr.Spot.there))); (case ht => kernel_rfl); (case h1 => simp [Value.oneCell']); (case hfit => simp); intro W hF1; simp only [Fr.patch, List.take_zero, List.nil_append, List.drop, List.append_nil, List.take, List.cons_append, List.length_cons, List.length_nil, Nat.reduceAdd] at hF1; have HC1 := hF1.cells; simp only [Fr.Cells, List.length_cons, List.length_nil, Nat.reduceAdd, and_true] at HC1; clear hF HC; have HC := HC1; have hF := Aside0.mk hF1; clear hF1 HC1) | ((first | (with_reducible refine Fr.gate_alloc rfl ?_) | (with_reducible refine Fr.gate_box rfl ?_)); apply Fr.fr_box hF.out rfl; (case hrun => first | (go_simp; done) | (go_simp; rfl)); intro g W hF1; have HC1 := hF1.cells; simp only [Fr.Cells, List.length_cons, List.length_nil, Nat.reduceAdd, and_true] at HC1; clear hF HC; have HC := HC1; have hF := Aside0.mk hF1; clear hF1 HC1))
        go_roundg (l.length - (j + 1))
        case measure => omega
        case rel => exact ⟨j + 1, _, _, by omega, by omega, by go_num, ⟨by rw [HSN.out, if_pos HV.out, List.append_nil]; exact HO.out⟩, ⟨hF.out.drop⟩⟩
    · obtain rfl : j = l.length := by omega
      have HO2 := HO
      rw [List.take_length] at HO2
      go_wp2
      go_ret
      exact ⟨_, rows, S1, rfl, hF.out, HO2.out⟩
end Go.Proofs.Ytkphinfijppkeaa.G
