/- Contracts of functions of the given program, and what they come to, for any arguments. No condition beyond each theorem's own premises. -/
import Derived.Test.YtlkaebnigmfphaaXDueTellsM4
namespace Go.Proofs.Ytlkaebnigmfphaa.G
open Go.RowKit Go.Proofs.YtlkaebnigmfphaaW.PrintWords Go.Proofs.YtlkaebnigmfphaaW.PrintLast Go.Proofs.YtlkaebnigmfphaaW.PrintMore
attribute [local go_sem] max2_int min2_int max_two min_two max_three min_three max_four min_four
set_option linter.unusedVariables false
set_option linter.unusedSimpArgs false
theorem key5 {F : World → Prop} {G : Value → Value → Nat → Option Addr → Nat → World → Prop} {R : Prop} (h1 : Aside0 (∀ va vb gd Av cv W9, F W9 → G va vb gd Av cv W9) → R) (h2 : ∀ va vb gd Av cv W9, F W9 → G va vb gd Av cv W9) : R := h1 ⟨h2⟩
set_option maxHeartbeats 4000000 in
set_option maxRecDepth 100000 in
theorem tells4_ok (A : Option Addr) (c : Nat) (l : List S32) (d0 d1 now : Int) (w : World) (hr : Kd.C k32 w A l.length l) (hc : l.length ≤ c) (hd : duesB (l.take 70) = true) (hp : tmB d0 = true) (hp2 : (l.take 70).length < 64) : Calls Try.prog 4 #[.slice A l.length c, .agg #[.int .i64 d0, .int .i64 d1], .int .i64 now] w fun e w' => e = .returned (.bool true) ∧ Below w.heap.size w w' := by
  have hm := hr.2.1
  have H6 := Aside0.mk (fun W => few6_calls A l.length c W hc hm)
  have hL64 : (l.take 70).length ≤ 64 := by unfold duesB at hd; simp only [Bool.and_eq_true, decide_eq_true_eq] at hd; exact hd.1
  have hC := few_C hr
  have hFL := few_len l
  generalize l.take 70 = L at *
  obtain ⟨m, hmm⟩ : ∃ m, min l.length 70 = m := ⟨_, rfl⟩
  have hmc : m ≤ c := by omega
  rw [hmm] at hC hFL H6
  have hmb : m ≤ 70 := by omega
  have HCL := Aside0.mk hC
  have HL := Aside0.mk hFL
  have H11 := Aside0.mk (fun (W : World) (hC : Kd.C k32 W A L.length L) => push11_ok A c L (⟨d0, d1⟩ : S32) W hC hd hp hp2)
  have hpp := pushed L (⟨d0, d1⟩ : S32)
  have hxl := pushL_len (heapL L) (⟨d0, d1⟩ : S32)
  rw [heapL_len] at hxl
  generalize pushL (heapL L) (⟨d0, d1⟩ : S32) = X at H11 hpp hxl
  have HX := Aside0.mk (srt_eq hpp)
  obtain ⟨n1, hn1⟩ : ∃ n1, L.length + 1 = n1 := ⟨_, rfl⟩
  rw [hn1] at H11 hxl
  have HXL := Aside0.mk hxl
  have HLA := Aside0.mk (show (L ++ [(⟨d0, d1⟩ : S32)]).length = n1 by rw [List.length_append, ← hn1]; rfl)
  have HN1 := Aside0.mk (show n1 ≤ 64 by omega)
  rw [hFL] at H11
  have hn64 : ¬ m = 64 := by omega
  have hn64i : ¬ (m : Int) = 64 := by omega
  have H12 := Aside0.mk (fun (W : World) (hC : Kd.C k32 W A m L) => pop12_any m A c L hFL W hC hd)
  have H7 := Aside0.mk (fun (W : World) (hC : Kd.C k32 W A m L) => drain7_all m A c L now hFL W hC hd)
  have H17 := Aside0.mk (fun (W : World) (hC : Kd.C k32 W A m L) (a b : List S32) (ha : (srt L).filter (upTo now) = a) (hb : (srt L).filter (fun x => !upTo now x) = b) => until17_n m A c L now hFL W hC hmc (by omega) a b ha hb)
  have H16 := Aside0.mk (fun (W : World) (hC : Kd.C k32 W A m L) => sorted16_n m A c L hFL W hC hmc (by omega))
  have H15d := Aside0.mk (fun (W : World) => right15_n d0 W)
  rw [hp] at H15d
  have H15n := Aside0.mk (fun (W : World) => right15_n now W)
  have H13 := Aside0.mk (fun (W : World) (hC : Kd.C k32 W A m L) => right13_n m A c L hFL W hC)
  have H14 := Aside0.mk (fun (W : World) (hC : Kd.C k32 W A m L) => right14_n m A c L hFL W hC hmc (by omega))
  rw [hd] at H13 H14
  (try clear hr)
  (try clear hc)
  (try clear hd)
  (try clear hC)
  (try clear hFL)
  (try clear hmm)
  (try clear hm)
  (try clear hL64)
  (try clear hp)
  (try clear hq)
  (try clear hp2)
  (try clear hpp)
  (try clear hxl)
  (try clear hn1)
  have HB := Aside0.mk (Below.refl w.heap.size w)
  have hF := Aside0.mk (Fr.Frame.start w)
  have HC : True := trivial
  go_enter Try.func4, Try.ntmps4
  go_wp2_with (first | ((with_reducible refine gate_store rfl ?_); apply Fr.fr_store hF.out rfl rfl rfl; (case hp => rfl); (case hx => first | (go_simp; rfl) | rfl); (case hu => (simp only [Value.cells]; rfl)); (case hs => (repeat (first | exact Fr.Spot.here _ _ | apply Fr.Spot.there))); (case ht => kernel_rfl); (case h1 => simp [Value.oneCell']); (case hfit => simp); intro W hF1; simp only [Fr.patch, List.take_zero, List.nil_append, List.drop, List.append_nil, List.take, List.cons_append, List.length_cons, List.length_nil, Nat.reduceAdd] at hF1; have HC1 := hF1.cells; simp only [Fr.Cells, List.length_cons, List.length_nil, Nat.reduceAdd, and_true] at HC1; clear hF HC; have HC := HC1; have hF := Aside0.mk hF1; clear hF1 HC1) | ((with_reducible refine gate_dst (N := 4) rfl ?_); apply Fr.fr_box hF.out rfl; (case hrun => first | (go_simp; done) | (go_simp; rfl)); intro r4 W hF1; have HC1 := hF1.cells; simp only [Fr.Cells, List.length_cons, List.length_nil, Nat.reduceAdd, and_true] at HC1; clear hF HC; have HC := HC1; have hF := Aside0.mk hF1; clear hF1 HC1) | ((first | (with_reducible refine Fr.gate_alloc rfl ?_) | (with_reducible refine Fr.gate_box rfl ?_)); apply Fr.fr_box hF.out rfl; (case hrun => first | (go_simp; done) | (go_simp; rfl)); intro g W hF1; have HC1 := hF1.cells; simp only [Fr.Cells, List.length_cons, List.length_nil, Nat.reduceAdd, and_true] at HC1; clear hF HC; have HC := HC1; have hF := Aside0.mk hF1; clear hF1 HC1))
  (with_reducible refine (H6.out _).mono ?_)
  rintro e W9 ⟨rfl, rfl⟩
  go_wp2_with (first | ((with_reducible refine gate_store rfl ?_); apply Fr.fr_store hF.out rfl rfl rfl; (case hp => rfl); (case hx => first | (go_simp; rfl) | rfl); (case hu => (simp only [Value.cells]; rfl)); (case hs => (repeat (first | exact Fr.Spot.here _ _ | apply Fr.Spot.there))); (case ht => kernel_rfl); (case h1 => simp [Value.oneCell']); (case hfit => simp); intro W hF1; simp only [Fr.patch, List.take_zero, List.nil_append, List.drop, List.append_nil, List.take, List.cons_append, List.length_cons, List.length_nil, Nat.reduceAdd] at hF1; have HC1 := hF1.cells; simp only [Fr.Cells, List.length_cons, List.length_nil, Nat.reduceAdd, and_true] at HC1; clear hF HC; have HC := HC1; have hF := Aside0.mk hF1; clear hF1 HC1) | ((first | (with_reducible refine Fr.gate_alloc rfl ?_) | (with_reducible refine Fr.gate_box rfl ?_)); apply Fr.fr_box hF.out rfl; (case hrun => first | (go_simp; done) | (go_simp; rfl)); intro g W hF1; have HC1 := hF1.cells; simp only [Fr.Cells, List.length_cons, List.length_nil, Nat.reduceAdd, and_true] at HC1; clear hF HC; have HC := HC1; have hF := Aside0.mk hF1; clear hF1 HC1))
  obtain ⟨c40, c41⟩ := cells2 hF.out List.mem_cons_self
  have hb := hF.out.below
  have HCL9 := Aside0.mk (Kd.C_below HCL.out hb)
  clear HCL
  have HCL := HCL9
  clear HCL9
  have HB9 := Aside0.mk (below_then HB.out HB.out.size hb)
  clear HB
  have HB := HB9
  clear HB9
  clear hb hF HC
  (with_reducible refine (H11.out _ HCL.out).mono ?_)
  rintro e W ⟨ga, ca, rfl, hca, hCa, hb⟩
  have HCL9 := Aside0.mk (Kd.C_below HCL.out hb)
  clear HCL
  have HCL := HCL9
  clear HCL9
  replace c40 := (hb.cell (World.block_lt_of_cell? _ _ c40)).trans c40
  replace c41 := (hb.cell (World.block_lt_of_cell? _ _ c41)).trans c41
  have HB9 := Aside0.mk (below_then HB.out HB.out.size hb)
  clear HB
  have HB := HB9
  clear HB9
  have HCA := Aside0.mk hCa
  clear hCa
  have HCAC := Aside0.mk hca
  clear hca
  clear hb
  go_wp2_with fail
  (with_reducible refine (H12.out _ HCL.out).mono ?_)
  rintro e W ⟨Bb, nb, cb, x0, x1, eb, rfl, hpp, hb⟩
  have HCL9 := Aside0.mk (Kd.C_below HCL.out hb)
  clear HCL
  have HCL := HCL9
  clear HCL9
  have HCA9 := Aside0.mk (Kd.C_below HCA.out hb)
  clear HCA
  have HCA := HCA9
  clear HCA9
  replace c40 := (hb.cell (World.block_lt_of_cell? _ _ c40)).trans c40
  replace c41 := (hb.cell (World.block_lt_of_cell? _ _ c41)).trans c41
  have HB9 := Aside0.mk (below_then HB.out HB.out.size hb)
  clear HB
  have HB := HB9
  clear HB9
  have HPP := Aside0.mk hpp
  clear hpp
  clear hb
  have hF := Aside0.mk (Fr.Frame.start W)
  have HC : True := trivial
  go_wp2_with (first | ((with_reducible refine gate_store rfl ?_); apply Fr.fr_store hF.out rfl rfl rfl; (case hp => rfl); (case hx => first | (go_simp; rfl) | rfl); (case hu => (simp only [Value.cells]; rfl)); (case hs => (repeat (first | exact Fr.Spot.here _ _ | apply Fr.Spot.there))); (case ht => kernel_rfl); (case h1 => simp [Value.oneCell']); (case hfit => simp); intro W hF1; simp only [Fr.patch, List.take_zero, List.nil_append, List.drop, List.append_nil, List.take, List.cons_append, List.length_cons, List.length_nil, Nat.reduceAdd] at hF1; have HC1 := hF1.cells; simp only [Fr.Cells, List.length_cons, List.length_nil, Nat.reduceAdd, and_true] at HC1; clear hF HC; have HC := HC1; have hF := Aside0.mk hF1; clear hF1 HC1) | ((with_reducible refine gate_dst (N := 10) rfl ?_); apply Fr.fr_box hF.out rfl; (case hrun => first | (go_simp; done) | (go_simp; rfl)); intro r10 W hF1; have HC1 := hF1.cells; simp only [Fr.Cells, List.length_cons, List.length_nil, Nat.reduceAdd, and_true] at HC1; clear hF HC; have HC := HC1; have hF := Aside0.mk hF1; clear hF1 HC1) | ((first | (with_reducible refine Fr.gate_alloc rfl ?_) | (with_reducible refine Fr.gate_box rfl ?_)); apply Fr.fr_box hF.out rfl; (case hrun => first | (go_simp; done) | (go_simp; rfl)); intro g W hF1; have HC1 := hF1.cells; simp only [Fr.Cells, List.length_cons, List.length_nil, Nat.reduceAdd, and_true] at HC1; clear hF HC; have HC := HC1; have hF := Aside0.mk hF1; clear hF1 HC1))
  obtain ⟨c100, c101⟩ := cells2 hF.out List.mem_cons_self
  have hb := hF.out.below
  have HCL9 := Aside0.mk (Kd.C_below HCL.out hb)
  clear HCL
  have HCL := HCL9
  clear HCL9
  have HCA9 := Aside0.mk (Kd.C_below HCA.out hb)
  clear HCA
  have HCA := HCA9
  clear HCA9
  have HPP9 := Aside0.mk (HPP.out.mono hb)
  clear HPP
  have HPP := HPP9
  clear HPP9
  replace c40 := (hb.cell (World.block_lt_of_cell? _ _ c40)).trans c40
  replace c41 := (hb.cell (World.block_lt_of_cell? _ _ c41)).trans c41
  have HB9 := Aside0.mk (below_then HB.out HB.out.size hb)
  clear HB
  have HB := HB9
  clear HB9
  clear hb hF HC
  (with_reducible refine (H7.out _ HCL.out).mono ?_)
  rintro e W ⟨A1, k1, c1, Ao, no, co, g, rfl, hdp, hb⟩
  have HCL9 := Aside0.mk (Kd.C_below HCL.out hb)
  clear HCL
  have HCL := HCL9
  clear HCL9
  have HCA9 := Aside0.mk (Kd.C_below HCA.out hb)
  clear HCA
  have HCA := HCA9
  clear HCA9
  have HPP9 := Aside0.mk (HPP.out.mono hb)
  clear HPP
  have HPP := HPP9
  clear HPP9
  replace c40 := (hb.cell (World.block_lt_of_cell? _ _ c40)).trans c40
  replace c41 := (hb.cell (World.block_lt_of_cell? _ _ c41)).trans c41
  replace c100 := (hb.cell (World.block_lt_of_cell? _ _ c100)).trans c100
  replace c101 := (hb.cell (World.block_lt_of_cell? _ _ c101)).trans c101
  have HB9 := Aside0.mk (below_then HB.out HB.out.size hb)
  clear HB
  have HB := HB9
  clear HB9
  have HDP := Aside0.mk hdp
  clear hdp
  clear hb
  go_wp2_with fail
  (with_reducible refine (H13.out _ HCL.out).mono ?_)
  rintro e W ⟨rfl, hb⟩
  have HCL9 := Aside0.mk (Kd.C_below HCL.out hb)
  clear HCL
  have HCL := HCL9
  clear HCL9
  have HCA9 := Aside0.mk (Kd.C_below HCA.out hb)
  clear HCA
  have HCA := HCA9
  clear HCA9
  have HPP9 := Aside0.mk (HPP.out.mono hb)
  clear HPP
  have HPP := HPP9
  clear HPP9
  have HDP9 := Aside0.mk (HDP.out.mono hb)
  clear HDP
  have HDP := HDP9
  clear HDP9
  replace c40 := (hb.cell (World.block_lt_of_cell? _ _ c40)).trans c40
  replace c41 := (hb.cell (World.block_lt_of_cell? _ _ c41)).trans c41
  replace c100 := (hb.cell (World.block_lt_of_cell? _ _ c100)).trans c100
  replace c101 := (hb.cell (World.block_lt_of_cell? _ _ c101)).trans c101
  have HB9 := Aside0.mk (below_then HB.out HB.out.size hb)
  clear HB
  have HB := HB9
  clear HB9
  clear hb
  go_wp2_with fail
  (with_reducible refine (H14.out _ HCL.out).mono ?_)
  rintro e W ⟨rfl, hb⟩
  have HCL9 := Aside0.mk (Kd.C_below HCL.out hb)
  clear HCL
  have HCL := HCL9
  clear HCL9
  have HCA9 := Aside0.mk (Kd.C_below HCA.out hb)
  clear HCA
  have HCA := HCA9
  clear HCA9
  have HPP9 := Aside0.mk (HPP.out.mono hb)
  clear HPP
  have HPP := HPP9
  clear HPP9
  have HDP9 := Aside0.mk (HDP.out.mono hb)
  clear HDP
  have HDP := HDP9
  clear HDP9
  replace c40 := (hb.cell (World.block_lt_of_cell? _ _ c40)).trans c40
  replace c41 := (hb.cell (World.block_lt_of_cell? _ _ c41)).trans c41
  replace c100 := (hb.cell (World.block_lt_of_cell? _ _ c100)).trans c100
  replace c101 := (hb.cell (World.block_lt_of_cell? _ _ c101)).trans c101
  have HB9 := Aside0.mk (below_then HB.out HB.out.size hb)
  clear HB
  have HB := HB9
  clear HB9
  clear hb
  go_wp2_with fail
  (with_reducible refine (alive8_calls _).mono ?_)
  rintro e W ⟨rfl, hb⟩
  have HCL9 := Aside0.mk (Kd.C_below HCL.out hb)
  clear HCL
  have HCL := HCL9
  clear HCL9
  have HCA9 := Aside0.mk (Kd.C_below HCA.out hb)
  clear HCA
  have HCA := HCA9
  clear HCA9
  have HPP9 := Aside0.mk (HPP.out.mono hb)
  clear HPP
  have HPP := HPP9
  clear HPP9
  have HDP9 := Aside0.mk (HDP.out.mono hb)
  clear HDP
  have HDP := HDP9
  clear HDP9
  replace c40 := (hb.cell (World.block_lt_of_cell? _ _ c40)).trans c40
  replace c41 := (hb.cell (World.block_lt_of_cell? _ _ c41)).trans c41
  replace c100 := (hb.cell (World.block_lt_of_cell? _ _ c100)).trans c100
  replace c101 := (hb.cell (World.block_lt_of_cell? _ _ c101)).trans c101
  have HB9 := Aside0.mk (below_then HB.out HB.out.size hb)
  clear HB
  have HB := HB9
  clear HB9
  clear hb
  go_wp2_with fail
  (with_reducible refine (H14.out _ HCL.out).mono ?_)
  rintro e W ⟨rfl, hb⟩
  have HCL9 := Aside0.mk (Kd.C_below HCL.out hb)
  clear HCL
  have HCL := HCL9
  clear HCL9
  have HCA9 := Aside0.mk (Kd.C_below HCA.out hb)
  clear HCA
  have HCA := HCA9
  clear HCA9
  have HPP9 := Aside0.mk (HPP.out.mono hb)
  clear HPP
  have HPP := HPP9
  clear HPP9
  have HDP9 := Aside0.mk (HDP.out.mono hb)
  clear HDP
  have HDP := HDP9
  clear HDP9
  replace c40 := (hb.cell (World.block_lt_of_cell? _ _ c40)).trans c40
  replace c41 := (hb.cell (World.block_lt_of_cell? _ _ c41)).trans c41
  replace c100 := (hb.cell (World.block_lt_of_cell? _ _ c100)).trans c100
  replace c101 := (hb.cell (World.block_lt_of_cell? _ _ c101)).trans c101
  have HB9 := Aside0.mk (below_then HB.out HB.out.size hb)
  clear HB
  have HB := HB9
  clear HB9
  clear hb
  go_wp2_with fail
  (with_reducible refine (H15d.out _).mono ?_)
  rintro e W ⟨rfl, hb⟩
  have HCL9 := Aside0.mk (Kd.C_below HCL.out hb)
  clear HCL
  have HCL := HCL9
  clear HCL9
  have HCA9 := Aside0.mk (Kd.C_below HCA.out hb)
  clear HCA
  have HCA := HCA9
  clear HCA9
  have HPP9 := Aside0.mk (HPP.out.mono hb)
  clear HPP
  have HPP := HPP9
  clear HPP9
  have HDP9 := Aside0.mk (HDP.out.mono hb)
  clear HDP
  have HDP := HDP9
  clear HDP9
  replace c40 := (hb.cell (World.block_lt_of_cell? _ _ c40)).trans c40
  replace c41 := (hb.cell (World.block_lt_of_cell? _ _ c41)).trans c41
  replace c100 := (hb.cell (World.block_lt_of_cell? _ _ c100)).trans c100
  replace c101 := (hb.cell (World.block_lt_of_cell? _ _ c101)).trans c101
  have HB9 := Aside0.mk (below_then HB.out HB.out.size hb)
  clear HB
  have HB := HB9
  clear HB9
  clear hb
  go_wp2_with fail
  have A40 := Aside0.mk c40
  have A41 := Aside0.mk c41
  clear c40 c41
  apply key5 (F := fun W9 => Below W.heap.size W W9)
  · intro key
    have hF := Aside0.mk (Fr.Frame.start W)
    have c40 := A40.out
    have c41 := A41.out
    refine wp_region_any (by kernel_rfl) ?_
    change wpAny _ _ _ _ _ _ _ (World.drew _)
    have hF1 := hF.out.drew
    clear hF c40 c41; have c40 := (hF1.below.cell (World.block_lt_of_cell? _ _ A40.out)).trans A40.out; have c41 := (hF1.below.cell (World.block_lt_of_cell? _ _ A41.out)).trans A41.out; have hF := Aside0.mk hF1; clear hF1
    (refine wpAny_take (i := 0) (v := .int .i64 0) rfl (by kernel_rfl) (by kernel_rfl) (by kernel_rfl) (fun _ _ _ h => h) (Or.inl ⟨by rfl, by (intro w; first | (go_simp; done) | (go_simp; rfl))⟩) ?_; (try simp only [Act.put, List.setIfInBounds_toArray, List.set_cons_zero, List.set_cons_succ]))
    (refine wpAny_take (i := 1) (v := .bool false) rfl (by kernel_rfl) (by kernel_rfl) (by kernel_rfl) (fun _ _ _ h => h) (Or.inl ⟨by rfl, by (intro w; first | (go_simp; done) | (go_simp; rfl))⟩) ?_; (try simp only [Act.put, List.setIfInBounds_toArray, List.set_cons_zero, List.set_cons_succ]))
    (refine wpAny_take (i := 2) (v := .bool false) rfl (by kernel_rfl) (by kernel_rfl) (by kernel_rfl) (fun _ _ _ h => h) (Or.inl ⟨by rfl, by (intro w; first | (go_simp; done) | (go_simp; rfl))⟩) ?_; (try simp only [Act.put, List.setIfInBounds_toArray, List.set_cons_zero, List.set_cons_succ]))
    (refine wpAny_take (i := 3) (v := .slice (some ⟨ga, 0, none⟩) n1 ca) rfl (by kernel_rfl) (by kernel_rfl) (by kernel_rfl) (fun _ _ _ h => h) (Or.inl ⟨by rfl, by (intro w; first | (go_simp; done) | (go_simp; rfl))⟩) ?_; (try simp only [Act.put, List.setIfInBounds_toArray, List.set_cons_zero, List.set_cons_succ]))
    (refine wpAny_take (i := 5) (v := .slice A m c) rfl (by kernel_rfl) (by kernel_rfl) (by kernel_rfl) (fun _ _ _ h => h) (Or.inl ⟨by rfl, by (intro w; first | (go_simp; done) | (go_simp; rfl))⟩) ?_; (try simp only [Act.put, List.setIfInBounds_toArray, List.set_cons_zero, List.set_cons_succ]))
    refine wpAny_ready (rs := [4, 7]) (by kernel_rfl) (by simp) ?_
    refine AllReady.cons (o := _) rfl (fun K hK => ?_) ?_
    · (refine step_slice0 hF.out (by rfl) (by first | (go_simp; done) | (go_simp; rfl)) ?_; intro va W Sa hF1; refine hK _ _ ?_; clear hK K; (try simp only [Act.put, List.setIfInBounds_toArray, List.set_cons_zero, List.set_cons_succ]); clear hF c40 c41; have c40 := (hF1.below.cell (World.block_lt_of_cell? _ _ A40.out)).trans A40.out; have c41 := (hF1.below.cell (World.block_lt_of_cell? _ _ A41.out)).trans A41.out; have hF := Aside0.mk hF1; clear hF1)
      refine wpAny_ready (rs := [6, 7]) (by kernel_rfl) (by simp) ?_
      refine AllReady.cons (o := _) rfl (fun K hK => ?_) ?_
      · (refine step_rows (ys := L) (.tmp 78) (.tmp 79) 22 (.agg #[.int .i64 0, .int .i64 0]) 16 hF.out (by rfl) rfl Try.underlying22 (by kernel_rfl) rfl (by decide) rfl rfl (Kd.C_below HCL.out hF.out.below) (by simp; try omega) ?_; intro vb W Sb hF1; rw [List.nil_append] at hF1; refine hK _ _ ?_; clear hK K; (try simp only [Act.put, List.setIfInBounds_toArray, List.set_cons_zero, List.set_cons_succ]); clear hF c40 c41; have c40 := (hF1.below.cell (World.block_lt_of_cell? _ _ A40.out)).trans A40.out; have c41 := (hF1.below.cell (World.block_lt_of_cell? _ _ A41.out)).trans A41.out; have hF := Aside0.mk hF1; clear hF1)
        refine wpAny_ready (rs := [7]) (by kernel_rfl) (by simp) ?_
        refine AllReady.cons (o := _) rfl (fun K hK => ?_) AllReady.nil
        (go_simp; refine hK _ _ ?_; clear hK K; (try simp only [Act.put, List.setIfInBounds_toArray, List.set_cons_zero, List.set_cons_succ]))
        refine wpAny_ready (rs := [8]) (by kernel_rfl) (by simp) ?_
        refine AllReady.cons (o := _) rfl (fun K hK => ?_) AllReady.nil
        (refine step_slice (cs := [.int .i64 d0, .int .i64 d1]) (t := 32) (n := 1) hF.out (by rfl) (by first | (go_simp; done) | (go_simp; rfl)) ?_; intro gd W hF1; refine hK _ _ ?_; clear hK K; (try simp only [Act.put, List.setIfInBounds_toArray, List.set_cons_zero, List.set_cons_succ]); clear hF c40 c41; have c40 := (hF1.below.cell (World.block_lt_of_cell? _ _ A40.out)).trans A40.out; have c41 := (hF1.below.cell (World.block_lt_of_cell? _ _ A41.out)).trans A41.out; have hF := Aside0.mk hF1; clear hF1)
        refine wpAny_ready (rs := [9]) (by kernel_rfl) (by simp) ?_
        refine AllReady.cons (o := _) rfl (fun K hK => ?_) AllReady.nil
        (refine step_rows (ys := [(⟨d0, d1⟩ : S32)]) (.tmp 80) (.tmp 82) 22 (.agg #[.int .i64 0, .int .i64 0]) 16 hF.out (by rfl) rfl Try.underlying22 (by kernel_rfl) rfl (by decide) rfl rfl (blk_C hF.out (by simp)) (by rw [HL.out]; omega) ?_; intro vc W Sc hF1; obtain ⟨Av, cv, rfl, hcv, hCv⟩ := Kd.R_reads (hF1.rowAt (r := Fr.rowR k32 32 _ vc (L ++ [⟨d0, d1⟩]) Sc) List.mem_cons_self); have HCV := Aside0.mk hCv; have HCVC := Aside0.mk hcv; rw [HLA.out] at HCV HCVC ⊢; clear hCv hcv; refine hK _ _ ?_; clear hK K; (try simp only [Act.put, List.setIfInBounds_toArray, List.set_cons_zero, List.set_cons_succ]); clear hF c40 c41; have c40 := (hF1.below.cell (World.block_lt_of_cell? _ _ A40.out)).trans A40.out; have c41 := (hF1.below.cell (World.block_lt_of_cell? _ _ A41.out)).trans A41.out; have hF := Aside0.mk hF1; clear hF1)
        refine wpAny_ready (rs := [10]) (by kernel_rfl) (by simp) ?_
        refine AllReady.cons (o := _) rfl (fun K hK => ?_) AllReady.nil
        (go_simp; (with_reducible refine (alike10_n n1 n1 (some ⟨ga, 0, none⟩) ca X Av cv (L ++ [⟨d0, d1⟩]) HXL.out HLA.out _ (Kd.C_below HCA.out hF.out.below) HCAC.out HCV.out HCVC.out HX.out (by have := HN1.out; omega)).mono ?_); rintro e W ⟨rfl, hb⟩; have hF1 := hF.out.call hb; clear hb; refine hK _ _ ?_; clear hK K; (try simp only [Act.put, List.setIfInBounds_toArray, List.set_cons_zero, List.set_cons_succ]); clear hF c40 c41; have c40 := (hF1.below.cell (World.block_lt_of_cell? _ _ A40.out)).trans A40.out; have c41 := (hF1.below.cell (World.block_lt_of_cell? _ _ A41.out)).trans A41.out; have hF := Aside0.mk hF1; clear hF1)
        refine wpAny_ready (rs := [11]) (by kernel_rfl) (by simp) ?_
        refine AllReady.cons (o := _) rfl (fun K hK => ?_) AllReady.nil
        (go_simp; refine hK _ _ ?_; clear hK K; (try simp only [Act.put, List.setIfInBounds_toArray, List.set_cons_zero, List.set_cons_succ]))
        refine wpAny_ready (rs := [12]) (by kernel_rfl) (by simp) ?_
        refine AllReady.cons (o := _) rfl (fun K hK => ?_) AllReady.nil
        (go_simp; refine hK _ _ ?_; clear hK K; (try simp only [Act.put, List.setIfInBounds_toArray, List.set_cons_zero, List.set_cons_succ]))
        refine wpAny_done (by kernel_rfl) ?_ _
        exact key.out va vb gd Av cv W hF.out.below
      refine AllReady.cons (o := _) rfl (fun K hK => ?_) ?_
      · (go_simp; refine hK _ _ ?_; clear hK K; (try simp only [Act.put, List.setIfInBounds_toArray, List.set_cons_zero, List.set_cons_succ]))
        refine wpAny_ready (rs := [6, 8]) (by kernel_rfl) (by simp) ?_
        refine AllReady.cons (o := _) rfl (fun K hK => ?_) ?_
        · (refine step_rows (ys := L) (.tmp 78) (.tmp 79) 22 (.agg #[.int .i64 0, .int .i64 0]) 16 hF.out (by rfl) rfl Try.underlying22 (by kernel_rfl) rfl (by decide) rfl rfl (Kd.C_below HCL.out hF.out.below) (by simp; try omega) ?_; intro vb W Sb hF1; rw [List.nil_append] at hF1; refine hK _ _ ?_; clear hK K; (try simp only [Act.put, List.setIfInBounds_toArray, List.set_cons_zero, List.set_cons_succ]); clear hF c40 c41; have c40 := (hF1.below.cell (World.block_lt_of_cell? _ _ A40.out)).trans A40.out; have c41 := (hF1.below.cell (World.block_lt_of_cell? _ _ A41.out)).trans A41.out; have hF := Aside0.mk hF1; clear hF1)
          refine wpAny_ready (rs := [8]) (by kernel_rfl) (by simp) ?_
          refine AllReady.cons (o := _) rfl (fun K hK => ?_) AllReady.nil
          (refine step_slice (cs := [.int .i64 d0, .int .i64 d1]) (t := 32) (n := 1) hF.out (by rfl) (by first | (go_simp; done) | (go_simp; rfl)) ?_; intro gd W hF1; refine hK _ _ ?_; clear hK K; (try simp only [Act.put, List.setIfInBounds_toArray, List.set_cons_zero, List.set_cons_succ]); clear hF c40 c41; have c40 := (hF1.below.cell (World.block_lt_of_cell? _ _ A40.out)).trans A40.out; have c41 := (hF1.below.cell (World.block_lt_of_cell? _ _ A41.out)).trans A41.out; have hF := Aside0.mk hF1; clear hF1)
          refine wpAny_ready (rs := [9]) (by kernel_rfl) (by simp) ?_
          refine AllReady.cons (o := _) rfl (fun K hK => ?_) AllReady.nil
          (refine step_rows (ys := [(⟨d0, d1⟩ : S32)]) (.tmp 80) (.tmp 82) 22 (.agg #[.int .i64 0, .int .i64 0]) 16 hF.out (by rfl) rfl Try.underlying22 (by kernel_rfl) rfl (by decide) rfl rfl (blk_C hF.out (by simp)) (by rw [HL.out]; omega) ?_; intro vc W Sc hF1; obtain ⟨Av, cv, rfl, hcv, hCv⟩ := Kd.R_reads (hF1.rowAt (r := Fr.rowR k32 32 _ vc (L ++ [⟨d0, d1⟩]) Sc) List.mem_cons_self); have HCV := Aside0.mk hCv; have HCVC := Aside0.mk hcv; rw [HLA.out] at HCV HCVC ⊢; clear hCv hcv; refine hK _ _ ?_; clear hK K; (try simp only [Act.put, List.setIfInBounds_toArray, List.set_cons_zero, List.set_cons_succ]); clear hF c40 c41; have c40 := (hF1.below.cell (World.block_lt_of_cell? _ _ A40.out)).trans A40.out; have c41 := (hF1.below.cell (World.block_lt_of_cell? _ _ A41.out)).trans A41.out; have hF := Aside0.mk hF1; clear hF1)
          refine wpAny_ready (rs := [10]) (by kernel_rfl) (by simp) ?_
          refine AllReady.cons (o := _) rfl (fun K hK => ?_) AllReady.nil
          (go_simp; (with_reducible refine (alike10_n n1 n1 (some ⟨ga, 0, none⟩) ca X Av cv (L ++ [⟨d0, d1⟩]) HXL.out HLA.out _ (Kd.C_below HCA.out hF.out.below) HCAC.out HCV.out HCVC.out HX.out (by have := HN1.out; omega)).mono ?_); rintro e W ⟨rfl, hb⟩; have hF1 := hF.out.call hb; clear hb; refine hK _ _ ?_; clear hK K; (try simp only [Act.put, List.setIfInBounds_toArray, List.set_cons_zero, List.set_cons_succ]); clear hF c40 c41; have c40 := (hF1.below.cell (World.block_lt_of_cell? _ _ A40.out)).trans A40.out; have c41 := (hF1.below.cell (World.block_lt_of_cell? _ _ A41.out)).trans A41.out; have hF := Aside0.mk hF1; clear hF1)
          refine wpAny_ready (rs := [11]) (by kernel_rfl) (by simp) ?_
          refine AllReady.cons (o := _) rfl (fun K hK => ?_) AllReady.nil
          (go_simp; refine hK _ _ ?_; clear hK K; (try simp only [Act.put, List.setIfInBounds_toArray, List.set_cons_zero, List.set_cons_succ]))
          refine wpAny_ready (rs := [12]) (by kernel_rfl) (by simp) ?_
          refine AllReady.cons (o := _) rfl (fun K hK => ?_) AllReady.nil
          (go_simp; refine hK _ _ ?_; clear hK K; (try simp only [Act.put, List.setIfInBounds_toArray, List.set_cons_zero, List.set_cons_succ]))
          refine wpAny_done (by kernel_rfl) ?_ _
          exact key.out va vb gd Av cv W hF.out.below
        refine AllReady.cons (o := _) rfl (fun K hK => ?_) ?_
        · (refine step_slice (cs := [.int .i64 d0, .int .i64 d1]) (t := 32) (n := 1) hF.out (by rfl) (by first | (go_simp; done) | (go_simp; rfl)) ?_; intro gd W hF1; refine hK _ _ ?_; clear hK K; (try simp only [Act.put, List.setIfInBounds_toArray, List.set_cons_zero, List.set_cons_succ]); clear hF c40 c41; have c40 := (hF1.below.cell (World.block_lt_of_cell? _ _ A40.out)).trans A40.out; have c41 := (hF1.below.cell (World.block_lt_of_cell? _ _ A41.out)).trans A41.out; have hF := Aside0.mk hF1; clear hF1)
          refine wpAny_ready (rs := [6]) (by kernel_rfl) (by simp) ?_
          refine AllReady.cons (o := _) rfl (fun K hK => ?_) AllReady.nil
          (refine step_rows (ys := L) (.tmp 78) (.tmp 79) 22 (.agg #[.int .i64 0, .int .i64 0]) 16 hF.out (by rfl) rfl Try.underlying22 (by kernel_rfl) rfl (by decide) rfl rfl (Kd.C_below HCL.out hF.out.below) (by simp; try omega) ?_; intro vb W Sb hF1; rw [List.nil_append] at hF1; refine hK _ _ ?_; clear hK K; (try simp only [Act.put, List.setIfInBounds_toArray, List.set_cons_zero, List.set_cons_succ]); clear hF c40 c41; have c40 := (hF1.below.cell (World.block_lt_of_cell? _ _ A40.out)).trans A40.out; have c41 := (hF1.below.cell (World.block_lt_of_cell? _ _ A41.out)).trans A41.out; have hF := Aside0.mk hF1; clear hF1)
          refine wpAny_ready (rs := [9]) (by kernel_rfl) (by simp) ?_
          refine AllReady.cons (o := _) rfl (fun K hK => ?_) AllReady.nil
          (refine step_rows (ys := [(⟨d0, d1⟩ : S32)]) (.tmp 80) (.tmp 82) 22 (.agg #[.int .i64 0, .int .i64 0]) 16 hF.out (by rfl) rfl Try.underlying22 (by kernel_rfl) rfl (by decide) rfl rfl (blk_C hF.out (by simp)) (by rw [HL.out]; omega) ?_; intro vc W Sc hF1; obtain ⟨Av, cv, rfl, hcv, hCv⟩ := Kd.R_reads (hF1.rowAt (r := Fr.rowR k32 32 _ vc (L ++ [⟨d0, d1⟩]) Sc) List.mem_cons_self); have HCV := Aside0.mk hCv; have HCVC := Aside0.mk hcv; rw [HLA.out] at HCV HCVC ⊢; clear hCv hcv; refine hK _ _ ?_; clear hK K; (try simp only [Act.put, List.setIfInBounds_toArray, List.set_cons_zero, List.set_cons_succ]); clear hF c40 c41; have c40 := (hF1.below.cell (World.block_lt_of_cell? _ _ A40.out)).trans A40.out; have c41 := (hF1.below.cell (World.block_lt_of_cell? _ _ A41.out)).trans A41.out; have hF := Aside0.mk hF1; clear hF1)
          refine wpAny_ready (rs := [10]) (by kernel_rfl) (by simp) ?_
          refine AllReady.cons (o := _) rfl (fun K hK => ?_) AllReady.nil
          (go_simp; (with_reducible refine (alike10_n n1 n1 (some ⟨ga, 0, none⟩) ca X Av cv (L ++ [⟨d0, d1⟩]) HXL.out HLA.out _ (Kd.C_below HCA.out hF.out.below) HCAC.out HCV.out HCVC.out HX.out (by have := HN1.out; omega)).mono ?_); rintro e W ⟨rfl, hb⟩; have hF1 := hF.out.call hb; clear hb; refine hK _ _ ?_; clear hK K; (try simp only [Act.put, List.setIfInBounds_toArray, List.set_cons_zero, List.set_cons_succ]); clear hF c40 c41; have c40 := (hF1.below.cell (World.block_lt_of_cell? _ _ A40.out)).trans A40.out; have c41 := (hF1.below.cell (World.block_lt_of_cell? _ _ A41.out)).trans A41.out; have hF := Aside0.mk hF1; clear hF1)
          refine wpAny_ready (rs := [11]) (by kernel_rfl) (by simp) ?_
          refine AllReady.cons (o := _) rfl (fun K hK => ?_) AllReady.nil
          (go_simp; refine hK _ _ ?_; clear hK K; (try simp only [Act.put, List.setIfInBounds_toArray, List.set_cons_zero, List.set_cons_succ]))
          refine wpAny_ready (rs := [12]) (by kernel_rfl) (by simp) ?_
          refine AllReady.cons (o := _) rfl (fun K hK => ?_) AllReady.nil
          (go_simp; refine hK _ _ ?_; clear hK K; (try simp only [Act.put, List.setIfInBounds_toArray, List.set_cons_zero, List.set_cons_succ]))
          refine wpAny_done (by kernel_rfl) ?_ _
          exact key.out va vb gd Av cv W hF.out.below
        exact AllReady.nil
      exact AllReady.nil
    refine AllReady.cons (o := _) rfl (fun K hK => ?_) ?_
    · (go_simp; refine hK _ _ ?_; clear hK K; (try simp only [Act.put, List.setIfInBounds_toArray, List.set_cons_zero, List.set_cons_succ]))
      refine wpAny_ready (rs := [4, 8]) (by kernel_rfl) (by simp) ?_
      refine AllReady.cons (o := _) rfl (fun K hK => ?_) ?_
      · (refine step_slice0 hF.out (by rfl) (by first | (go_simp; done) | (go_simp; rfl)) ?_; intro va W Sa hF1; refine hK _ _ ?_; clear hK K; (try simp only [Act.put, List.setIfInBounds_toArray, List.set_cons_zero, List.set_cons_succ]); clear hF c40 c41; have c40 := (hF1.below.cell (World.block_lt_of_cell? _ _ A40.out)).trans A40.out; have c41 := (hF1.below.cell (World.block_lt_of_cell? _ _ A41.out)).trans A41.out; have hF := Aside0.mk hF1; clear hF1)
        refine wpAny_ready (rs := [6, 8]) (by kernel_rfl) (by simp) ?_
        refine AllReady.cons (o := _) rfl (fun K hK => ?_) ?_
        · (refine step_rows (ys := L) (.tmp 78) (.tmp 79) 22 (.agg #[.int .i64 0, .int .i64 0]) 16 hF.out (by rfl) rfl Try.underlying22 (by kernel_rfl) rfl (by decide) rfl rfl (Kd.C_below HCL.out hF.out.below) (by simp; try omega) ?_; intro vb W Sb hF1; rw [List.nil_append] at hF1; refine hK _ _ ?_; clear hK K; (try simp only [Act.put, List.setIfInBounds_toArray, List.set_cons_zero, List.set_cons_succ]); clear hF c40 c41; have c40 := (hF1.below.cell (World.block_lt_of_cell? _ _ A40.out)).trans A40.out; have c41 := (hF1.below.cell (World.block_lt_of_cell? _ _ A41.out)).trans A41.out; have hF := Aside0.mk hF1; clear hF1)
          refine wpAny_ready (rs := [8]) (by kernel_rfl) (by simp) ?_
          refine AllReady.cons (o := _) rfl (fun K hK => ?_) AllReady.nil
          (refine step_slice (cs := [.int .i64 d0, .int .i64 d1]) (t := 32) (n := 1) hF.out (by rfl) (by first | (go_simp; done) | (go_simp; rfl)) ?_; intro gd W hF1; refine hK _ _ ?_; clear hK K; (try simp only [Act.put, List.setIfInBounds_toArray, List.set_cons_zero, List.set_cons_succ]); clear hF c40 c41; have c40 := (hF1.below.cell (World.block_lt_of_cell? _ _ A40.out)).trans A40.out; have c41 := (hF1.below.cell (World.block_lt_of_cell? _ _ A41.out)).trans A41.out; have hF := Aside0.mk hF1; clear hF1)
          refine wpAny_ready (rs := [9]) (by kernel_rfl) (by simp) ?_
          refine AllReady.cons (o := _) rfl (fun K hK => ?_) AllReady.nil
          (refine step_rows (ys := [(⟨d0, d1⟩ : S32)]) (.tmp 80) (.tmp 82) 22 (.agg #[.int .i64 0, .int .i64 0]) 16 hF.out (by rfl) rfl Try.underlying22 (by kernel_rfl) rfl (by decide) rfl rfl (blk_C hF.out (by simp)) (by rw [HL.out]; omega) ?_; intro vc W Sc hF1; obtain ⟨Av, cv, rfl, hcv, hCv⟩ := Kd.R_reads (hF1.rowAt (r := Fr.rowR k32 32 _ vc (L ++ [⟨d0, d1⟩]) Sc) List.mem_cons_self); have HCV := Aside0.mk hCv; have HCVC := Aside0.mk hcv; rw [HLA.out] at HCV HCVC ⊢; clear hCv hcv; refine hK _ _ ?_; clear hK K; (try simp only [Act.put, List.setIfInBounds_toArray, List.set_cons_zero, List.set_cons_succ]); clear hF c40 c41; have c40 := (hF1.below.cell (World.block_lt_of_cell? _ _ A40.out)).trans A40.out; have c41 := (hF1.below.cell (World.block_lt_of_cell? _ _ A41.out)).trans A41.out; have hF := Aside0.mk hF1; clear hF1)
          refine wpAny_ready (rs := [10]) (by kernel_rfl) (by simp) ?_
          refine AllReady.cons (o := _) rfl (fun K hK => ?_) AllReady.nil
          (go_simp; (with_reducible refine (alike10_n n1 n1 (some ⟨ga, 0, none⟩) ca X Av cv (L ++ [⟨d0, d1⟩]) HXL.out HLA.out _ (Kd.C_below HCA.out hF.out.below) HCAC.out HCV.out HCVC.out HX.out (by have := HN1.out; omega)).mono ?_); rintro e W ⟨rfl, hb⟩; have hF1 := hF.out.call hb; clear hb; refine hK _ _ ?_; clear hK K; (try simp only [Act.put, List.setIfInBounds_toArray, List.set_cons_zero, List.set_cons_succ]); clear hF c40 c41; have c40 := (hF1.below.cell (World.block_lt_of_cell? _ _ A40.out)).trans A40.out; have c41 := (hF1.below.cell (World.block_lt_of_cell? _ _ A41.out)).trans A41.out; have hF := Aside0.mk hF1; clear hF1)
          refine wpAny_ready (rs := [11]) (by kernel_rfl) (by simp) ?_
          refine AllReady.cons (o := _) rfl (fun K hK => ?_) AllReady.nil
          (go_simp; refine hK _ _ ?_; clear hK K; (try simp only [Act.put, List.setIfInBounds_toArray, List.set_cons_zero, List.set_cons_succ]))
          refine wpAny_ready (rs := [12]) (by kernel_rfl) (by simp) ?_
          refine AllReady.cons (o := _) rfl (fun K hK => ?_) AllReady.nil
          (go_simp; refine hK _ _ ?_; clear hK K; (try simp only [Act.put, List.setIfInBounds_toArray, List.set_cons_zero, List.set_cons_succ]))
          refine wpAny_done (by kernel_rfl) ?_ _
          exact key.out va vb gd Av cv W hF.out.below
        refine AllReady.cons (o := _) rfl (fun K hK => ?_) ?_
        · (refine step_slice (cs := [.int .i64 d0, .int .i64 d1]) (t := 32) (n := 1) hF.out (by rfl) (by first | (go_simp; done) | (go_simp; rfl)) ?_; intro gd W hF1; refine hK _ _ ?_; clear hK K; (try simp only [Act.put, List.setIfInBounds_toArray, List.set_cons_zero, List.set_cons_succ]); clear hF c40 c41; have c40 := (hF1.below.cell (World.block_lt_of_cell? _ _ A40.out)).trans A40.out; have c41 := (hF1.below.cell (World.block_lt_of_cell? _ _ A41.out)).trans A41.out; have hF := Aside0.mk hF1; clear hF1)
          refine wpAny_ready (rs := [6]) (by kernel_rfl) (by simp) ?_
          refine AllReady.cons (o := _) rfl (fun K hK => ?_) AllReady.nil
          (refine step_rows (ys := L) (.tmp 78) (.tmp 79) 22 (.agg #[.int .i64 0, .int .i64 0]) 16 hF.out (by rfl) rfl Try.underlying22 (by kernel_rfl) rfl (by decide) rfl rfl (Kd.C_below HCL.out hF.out.below) (by simp; try omega) ?_; intro vb W Sb hF1; rw [List.nil_append] at hF1; refine hK _ _ ?_; clear hK K; (try simp only [Act.put, List.setIfInBounds_toArray, List.set_cons_zero, List.set_cons_succ]); clear hF c40 c41; have c40 := (hF1.below.cell (World.block_lt_of_cell? _ _ A40.out)).trans A40.out; have c41 := (hF1.below.cell (World.block_lt_of_cell? _ _ A41.out)).trans A41.out; have hF := Aside0.mk hF1; clear hF1)
          refine wpAny_ready (rs := [9]) (by kernel_rfl) (by simp) ?_
          refine AllReady.cons (o := _) rfl (fun K hK => ?_) AllReady.nil
          (refine step_rows (ys := [(⟨d0, d1⟩ : S32)]) (.tmp 80) (.tmp 82) 22 (.agg #[.int .i64 0, .int .i64 0]) 16 hF.out (by rfl) rfl Try.underlying22 (by kernel_rfl) rfl (by decide) rfl rfl (blk_C hF.out (by simp)) (by rw [HL.out]; omega) ?_; intro vc W Sc hF1; obtain ⟨Av, cv, rfl, hcv, hCv⟩ := Kd.R_reads (hF1.rowAt (r := Fr.rowR k32 32 _ vc (L ++ [⟨d0, d1⟩]) Sc) List.mem_cons_self); have HCV := Aside0.mk hCv; have HCVC := Aside0.mk hcv; rw [HLA.out] at HCV HCVC ⊢; clear hCv hcv; refine hK _ _ ?_; clear hK K; (try simp only [Act.put, List.setIfInBounds_toArray, List.set_cons_zero, List.set_cons_succ]); clear hF c40 c41; have c40 := (hF1.below.cell (World.block_lt_of_cell? _ _ A40.out)).trans A40.out; have c41 := (hF1.below.cell (World.block_lt_of_cell? _ _ A41.out)).trans A41.out; have hF := Aside0.mk hF1; clear hF1)
          refine wpAny_ready (rs := [10]) (by kernel_rfl) (by simp) ?_
          refine AllReady.cons (o := _) rfl (fun K hK => ?_) AllReady.nil
          (go_simp; (with_reducible refine (alike10_n n1 n1 (some ⟨ga, 0, none⟩) ca X Av cv (L ++ [⟨d0, d1⟩]) HXL.out HLA.out _ (Kd.C_below HCA.out hF.out.below) HCAC.out HCV.out HCVC.out HX.out (by have := HN1.out; omega)).mono ?_); rintro e W ⟨rfl, hb⟩; have hF1 := hF.out.call hb; clear hb; refine hK _ _ ?_; clear hK K; (try simp only [Act.put, List.setIfInBounds_toArray, List.set_cons_zero, List.set_cons_succ]); clear hF c40 c41; have c40 := (hF1.below.cell (World.block_lt_of_cell? _ _ A40.out)).trans A40.out; have c41 := (hF1.below.cell (World.block_lt_of_cell? _ _ A41.out)).trans A41.out; have hF := Aside0.mk hF1; clear hF1)
          refine wpAny_ready (rs := [11]) (by kernel_rfl) (by simp) ?_
          refine AllReady.cons (o := _) rfl (fun K hK => ?_) AllReady.nil
          (go_simp; refine hK _ _ ?_; clear hK K; (try simp only [Act.put, List.setIfInBounds_toArray, List.set_cons_zero, List.set_cons_succ]))
          refine wpAny_ready (rs := [12]) (by kernel_rfl) (by simp) ?_
          refine AllReady.cons (o := _) rfl (fun K hK => ?_) AllReady.nil
          (go_simp; refine hK _ _ ?_; clear hK K; (try simp only [Act.put, List.setIfInBounds_toArray, List.set_cons_zero, List.set_cons_succ]))
          refine wpAny_done (by kernel_rfl) ?_ _
          exact key.out va vb gd Av cv W hF.out.below
        exact AllReady.nil
      refine AllReady.cons (o := _) rfl (fun K hK => ?_) ?_
      · (refine step_slice (cs := [.int .i64 d0, .int .i64 d1]) (t := 32) (n := 1) hF.out (by rfl) (by first | (go_simp; done) | (go_simp; rfl)) ?_; intro gd W hF1; refine hK _ _ ?_; clear hK K; (try simp only [Act.put, List.setIfInBounds_toArray, List.set_cons_zero, List.set_cons_succ]); clear hF c40 c41; have c40 := (hF1.below.cell (World.block_lt_of_cell? _ _ A40.out)).trans A40.out; have c41 := (hF1.below.cell (World.block_lt_of_cell? _ _ A41.out)).trans A41.out; have hF := Aside0.mk hF1; clear hF1)
        refine wpAny_ready (rs := [4]) (by kernel_rfl) (by simp) ?_
        refine AllReady.cons (o := _) rfl (fun K hK => ?_) AllReady.nil
        (refine step_slice0 hF.out (by rfl) (by first | (go_simp; done) | (go_simp; rfl)) ?_; intro va W Sa hF1; refine hK _ _ ?_; clear hK K; (try simp only [Act.put, List.setIfInBounds_toArray, List.set_cons_zero, List.set_cons_succ]); clear hF c40 c41; have c40 := (hF1.below.cell (World.block_lt_of_cell? _ _ A40.out)).trans A40.out; have c41 := (hF1.below.cell (World.block_lt_of_cell? _ _ A41.out)).trans A41.out; have hF := Aside0.mk hF1; clear hF1)
        refine wpAny_ready (rs := [6]) (by kernel_rfl) (by simp) ?_
        refine AllReady.cons (o := _) rfl (fun K hK => ?_) AllReady.nil
        (refine step_rows (ys := L) (.tmp 78) (.tmp 79) 22 (.agg #[.int .i64 0, .int .i64 0]) 16 hF.out (by rfl) rfl Try.underlying22 (by kernel_rfl) rfl (by decide) rfl rfl (Kd.C_below HCL.out hF.out.below) (by simp; try omega) ?_; intro vb W Sb hF1; rw [List.nil_append] at hF1; refine hK _ _ ?_; clear hK K; (try simp only [Act.put, List.setIfInBounds_toArray, List.set_cons_zero, List.set_cons_succ]); clear hF c40 c41; have c40 := (hF1.below.cell (World.block_lt_of_cell? _ _ A40.out)).trans A40.out; have c41 := (hF1.below.cell (World.block_lt_of_cell? _ _ A41.out)).trans A41.out; have hF := Aside0.mk hF1; clear hF1)
        refine wpAny_ready (rs := [9]) (by kernel_rfl) (by simp) ?_
        refine AllReady.cons (o := _) rfl (fun K hK => ?_) AllReady.nil
        (refine step_rows (ys := [(⟨d0, d1⟩ : S32)]) (.tmp 80) (.tmp 82) 22 (.agg #[.int .i64 0, .int .i64 0]) 16 hF.out (by rfl) rfl Try.underlying22 (by kernel_rfl) rfl (by decide) rfl rfl (blk_C hF.out (by simp)) (by rw [HL.out]; omega) ?_; intro vc W Sc hF1; obtain ⟨Av, cv, rfl, hcv, hCv⟩ := Kd.R_reads (hF1.rowAt (r := Fr.rowR k32 32 _ vc (L ++ [⟨d0, d1⟩]) Sc) List.mem_cons_self); have HCV := Aside0.mk hCv; have HCVC := Aside0.mk hcv; rw [HLA.out] at HCV HCVC ⊢; clear hCv hcv; refine hK _ _ ?_; clear hK K; (try simp only [Act.put, List.setIfInBounds_toArray, List.set_cons_zero, List.set_cons_succ]); clear hF c40 c41; have c40 := (hF1.below.cell (World.block_lt_of_cell? _ _ A40.out)).trans A40.out; have c41 := (hF1.below.cell (World.block_lt_of_cell? _ _ A41.out)).trans A41.out; have hF := Aside0.mk hF1; clear hF1)
        refine wpAny_ready (rs := [10]) (by kernel_rfl) (by simp) ?_
        refine AllReady.cons (o := _) rfl (fun K hK => ?_) AllReady.nil
        (go_simp; (with_reducible refine (alike10_n n1 n1 (some ⟨ga, 0, none⟩) ca X Av cv (L ++ [⟨d0, d1⟩]) HXL.out HLA.out _ (Kd.C_below HCA.out hF.out.below) HCAC.out HCV.out HCVC.out HX.out (by have := HN1.out; omega)).mono ?_); rintro e W ⟨rfl, hb⟩; have hF1 := hF.out.call hb; clear hb; refine hK _ _ ?_; clear hK K; (try simp only [Act.put, List.setIfInBounds_toArray, List.set_cons_zero, List.set_cons_succ]); clear hF c40 c41; have c40 := (hF1.below.cell (World.block_lt_of_cell? _ _ A40.out)).trans A40.out; have c41 := (hF1.below.cell (World.block_lt_of_cell? _ _ A41.out)).trans A41.out; have hF := Aside0.mk hF1; clear hF1)
        refine wpAny_ready (rs := [11]) (by kernel_rfl) (by simp) ?_
        refine AllReady.cons (o := _) rfl (fun K hK => ?_) AllReady.nil
        (go_simp; refine hK _ _ ?_; clear hK K; (try simp only [Act.put, List.setIfInBounds_toArray, List.set_cons_zero, List.set_cons_succ]))
        refine wpAny_ready (rs := [12]) (by kernel_rfl) (by simp) ?_
        refine AllReady.cons (o := _) rfl (fun K hK => ?_) AllReady.nil
        (go_simp; refine hK _ _ ?_; clear hK K; (try simp only [Act.put, List.setIfInBounds_toArray, List.set_cons_zero, List.set_cons_succ]))
        refine wpAny_done (by kernel_rfl) ?_ _
        exact key.out va vb gd Av cv W hF.out.below
      exact AllReady.nil
    exact AllReady.nil
  intro va vb gd Av cv W hb
  have c40 := A40.out
  have c41 := A41.out
  have HCL9 := Aside0.mk (Kd.C_below HCL.out hb)
  clear HCL
  have HCL := HCL9
  clear HCL9
  have HCA9 := Aside0.mk (Kd.C_below HCA.out hb)
  clear HCA
  have HCA := HCA9
  clear HCA9
  have HPP9 := Aside0.mk (HPP.out.mono hb)
  clear HPP
  have HPP := HPP9
  clear HPP9
  have HDP9 := Aside0.mk (HDP.out.mono hb)
  clear HDP
  have HDP := HDP9
  clear HDP9
  replace c40 := (hb.cell (World.block_lt_of_cell? _ _ c40)).trans c40
  replace c41 := (hb.cell (World.block_lt_of_cell? _ _ c41)).trans c41
  replace c100 := (hb.cell (World.block_lt_of_cell? _ _ c100)).trans c100
  replace c101 := (hb.cell (World.block_lt_of_cell? _ _ c101)).trans c101
  have HB9 := Aside0.mk (below_then HB.out HB.out.size hb)
  clear HB
  have HB := HB9
  clear HB9
  clear hb
  go_wp2_with fail
  (with_reducible refine (H14.out _ HCL.out).mono ?_)
  rintro e W ⟨rfl, hb⟩
  have HCL9 := Aside0.mk (Kd.C_below HCL.out hb)
  clear HCL
  have HCL := HCL9
  clear HCL9
  have HCA9 := Aside0.mk (Kd.C_below HCA.out hb)
  clear HCA
  have HCA := HCA9
  clear HCA9
  have HPP9 := Aside0.mk (HPP.out.mono hb)
  clear HPP
  have HPP := HPP9
  clear HPP9
  have HDP9 := Aside0.mk (HDP.out.mono hb)
  clear HDP
  have HDP := HDP9
  clear HDP9
  replace c40 := (hb.cell (World.block_lt_of_cell? _ _ c40)).trans c40
  replace c41 := (hb.cell (World.block_lt_of_cell? _ _ c41)).trans c41
  replace c100 := (hb.cell (World.block_lt_of_cell? _ _ c100)).trans c100
  replace c101 := (hb.cell (World.block_lt_of_cell? _ _ c101)).trans c101
  have HB9 := Aside0.mk (below_then HB.out HB.out.size hb)
  clear HB
  have HB := HB9
  clear HB9
  clear hb
  go_wp2_with fail
  (with_reducible refine (H16.out _ HCL.out).mono ?_)
  rintro e W ⟨As, cs, rfl, hcs, hCs, hb⟩
  have HCL9 := Aside0.mk (Kd.C_below HCL.out hb)
  clear HCL
  have HCL := HCL9
  clear HCL9
  have HCA9 := Aside0.mk (Kd.C_below HCA.out hb)
  clear HCA
  have HCA := HCA9
  clear HCA9
  have HPP9 := Aside0.mk (HPP.out.mono hb)
  clear HPP
  have HPP := HPP9
  clear HPP9
  have HDP9 := Aside0.mk (HDP.out.mono hb)
  clear HDP
  have HDP := HDP9
  clear HDP9
  replace c40 := (hb.cell (World.block_lt_of_cell? _ _ c40)).trans c40
  replace c41 := (hb.cell (World.block_lt_of_cell? _ _ c41)).trans c41
  replace c100 := (hb.cell (World.block_lt_of_cell? _ _ c100)).trans c100
  replace c101 := (hb.cell (World.block_lt_of_cell? _ _ c101)).trans c101
  have HB9 := Aside0.mk (below_then HB.out HB.out.size hb)
  clear HB
  have HB := HB9
  clear HB9
  have HCS := Aside0.mk hCs
  clear hCs
  have HCSC := Aside0.mk hcs
  clear hcs
  clear hb
  rcases HPP.out with ⟨hm0, rfl, rfl, rfl, rfl⟩ | ⟨n, B, ss, hm1, rfl, rfl, hcb, hCb, hbl, hsl, hso, hs1⟩
  · subst hm0
    clear HPP
    go_wp2_with fail
    rcases HDP.out with ⟨htn, rfl, rfl, rfl⟩ | ⟨htn, rfl, k, a, rfl, rfl, hk2, ha2, hk1, ha1, hkc, hac, hC1, hCo⟩
    · clear HDP
      rw [htn] at H15n
      clear htn
      (with_reducible refine (H15n.out _).mono ?_)
      rintro e W ⟨rfl, hb⟩
      have HCL9 := Aside0.mk (Kd.C_below HCL.out hb)
      clear HCL
      have HCL := HCL9
      clear HCL9
      have HCA9 := Aside0.mk (Kd.C_below HCA.out hb)
      clear HCA
      have HCA := HCA9
      clear HCA9
      have HCS9 := Aside0.mk (Kd.C_below HCS.out hb)
      clear HCS
      have HCS := HCS9
      clear HCS9
      replace c40 := (hb.cell (World.block_lt_of_cell? _ _ c40)).trans c40
      replace c41 := (hb.cell (World.block_lt_of_cell? _ _ c41)).trans c41
      replace c100 := (hb.cell (World.block_lt_of_cell? _ _ c100)).trans c100
      replace c101 := (hb.cell (World.block_lt_of_cell? _ _ c101)).trans c101
      have HB9 := Aside0.mk (below_then HB.out HB.out.size hb)
      clear HB
      have HB := HB9
      clear HB9
      clear hb
      go_wp2_with fail
      go_ret
      exact ⟨rfl, HB.out⟩
    · clear HDP
      rw [htn] at H15n
      clear htn
      have HC1 := Aside0.mk hC1
      clear hC1
      have HCO := Aside0.mk hCo
      clear hCo
      have HKC := Aside0.mk hkc
      clear hkc
      have HAC := Aside0.mk hac
      clear hac
      have HK2 := Aside0.mk hk2
      clear hk2
      have HA2 := Aside0.mk ha2
      clear ha2
      have HA1 := Aside0.mk ha1
      clear ha1
      obtain ⟨b, hb9⟩ : ∃ b, (srt L).filter (fun x => !upTo now x) = b := ⟨_, rfl⟩
      have HK1 := Aside0.mk (hk1.trans hb9)
      have HB9b := Aside0.mk hb9
      have HBO := Aside0.mk (show srt b = b by rw [← hb9]; exact srt_self (filter_order (srt_order L)))
      clear hk1 hb9
      (with_reducible refine (H15n.out _).mono ?_)
      rintro e W ⟨rfl, hb⟩
      have HCL9 := Aside0.mk (Kd.C_below HCL.out hb)
      clear HCL
      have HCL := HCL9
      clear HCL9
      have HCA9 := Aside0.mk (Kd.C_below HCA.out hb)
      clear HCA
      have HCA := HCA9
      clear HCA9
      have HCS9 := Aside0.mk (Kd.C_below HCS.out hb)
      clear HCS
      have HCS := HCS9
      clear HCS9
      have HC19 := Aside0.mk (Kd.C_below HC1.out hb)
      clear HC1
      have HC1 := HC19
      clear HC19
      have HCO9 := Aside0.mk (Kd.C_below HCO.out hb)
      clear HCO
      have HCO := HCO9
      clear HCO9
      replace c40 := (hb.cell (World.block_lt_of_cell? _ _ c40)).trans c40
      replace c41 := (hb.cell (World.block_lt_of_cell? _ _ c41)).trans c41
      replace c100 := (hb.cell (World.block_lt_of_cell? _ _ c100)).trans c100
      replace c101 := (hb.cell (World.block_lt_of_cell? _ _ c101)).trans c101
      have HB9 := Aside0.mk (below_then HB.out HB.out.size hb)
      clear HB
      have HB := HB9
      clear HB9
      clear hb
      go_wp2_with fail
      (with_reducible refine (H17.out _ HCL.out a b HA1.out HB9b.out).mono ?_)
      rintro e W ⟨A3, c3, A4, c4, rfl, hc3, hc4, hC3, hC4, hb⟩
      have HCL9 := Aside0.mk (Kd.C_below HCL.out hb)
      clear HCL
      have HCL := HCL9
      clear HCL9
      have HCA9 := Aside0.mk (Kd.C_below HCA.out hb)
      clear HCA
      have HCA := HCA9
      clear HCA9
      have HCS9 := Aside0.mk (Kd.C_below HCS.out hb)
      clear HCS
      have HCS := HCS9
      clear HCS9
      have HC19 := Aside0.mk (Kd.C_below HC1.out hb)
      clear HC1
      have HC1 := HC19
      clear HC19
      have HCO9 := Aside0.mk (Kd.C_below HCO.out hb)
      clear HCO
      have HCO := HCO9
      clear HCO9
      replace c40 := (hb.cell (World.block_lt_of_cell? _ _ c40)).trans c40
      replace c41 := (hb.cell (World.block_lt_of_cell? _ _ c41)).trans c41
      replace c100 := (hb.cell (World.block_lt_of_cell? _ _ c100)).trans c100
      replace c101 := (hb.cell (World.block_lt_of_cell? _ _ c101)).trans c101
      have HB9 := Aside0.mk (below_then HB.out HB.out.size hb)
      clear HB
      have HB := HB9
      clear HB9
      have HC3 := Aside0.mk hC3
      clear hC3
      have HC4 := Aside0.mk hC4
      clear hC4
      have HC3C := Aside0.mk hc3
      clear hc3
      have HC4C := Aside0.mk hc4
      clear hc4
      clear hb
      go_wp2_with fail
      (with_reducible refine (same9_calls Ao co A3 c3 a _ a.length rfl HCO.out HAC.out HC3.out HC3C.out (by have := HA2.out; omega)).mono ?_)
      rintro e W ⟨rfl, hb⟩
      have HCL9 := Aside0.mk (Kd.C_below HCL.out hb)
      clear HCL
      have HCL := HCL9
      clear HCL9
      have HCA9 := Aside0.mk (Kd.C_below HCA.out hb)
      clear HCA
      have HCA := HCA9
      clear HCA9
      have HCS9 := Aside0.mk (Kd.C_below HCS.out hb)
      clear HCS
      have HCS := HCS9
      clear HCS9
      have HC19 := Aside0.mk (Kd.C_below HC1.out hb)
      clear HC1
      have HC1 := HC19
      clear HC19
      have HCO9 := Aside0.mk (Kd.C_below HCO.out hb)
      clear HCO
      have HCO := HCO9
      clear HCO9
      have HC39 := Aside0.mk (Kd.C_below HC3.out hb)
      clear HC3
      have HC3 := HC39
      clear HC39
      have HC49 := Aside0.mk (Kd.C_below HC4.out hb)
      clear HC4
      have HC4 := HC49
      clear HC49
      replace c40 := (hb.cell (World.block_lt_of_cell? _ _ c40)).trans c40
      replace c41 := (hb.cell (World.block_lt_of_cell? _ _ c41)).trans c41
      replace c100 := (hb.cell (World.block_lt_of_cell? _ _ c100)).trans c100
      replace c101 := (hb.cell (World.block_lt_of_cell? _ _ c101)).trans c101
      have HB9 := Aside0.mk (below_then HB.out HB.out.size hb)
      clear HB
      have HB := HB9
      clear HB9
      clear hb
      go_wp2_with fail
      (with_reducible refine (alike10_n k.length b.length A1 c1 k A4 c4 b rfl rfl _ HC1.out HKC.out HC4.out HC4C.out (by rw [HK1.out, HBO.out]) (by have := HK2.out; omega)).mono ?_)
      rintro e W ⟨rfl, hb⟩
      have HCL9 := Aside0.mk (Kd.C_below HCL.out hb)
      clear HCL
      have HCL := HCL9
      clear HCL9
      have HCA9 := Aside0.mk (Kd.C_below HCA.out hb)
      clear HCA
      have HCA := HCA9
      clear HCA9
      have HCS9 := Aside0.mk (Kd.C_below HCS.out hb)
      clear HCS
      have HCS := HCS9
      clear HCS9
      have HC19 := Aside0.mk (Kd.C_below HC1.out hb)
      clear HC1
      have HC1 := HC19
      clear HC19
      have HCO9 := Aside0.mk (Kd.C_below HCO.out hb)
      clear HCO
      have HCO := HCO9
      clear HCO9
      have HC39 := Aside0.mk (Kd.C_below HC3.out hb)
      clear HC3
      have HC3 := HC39
      clear HC39
      have HC49 := Aside0.mk (Kd.C_below HC4.out hb)
      clear HC4
      have HC4 := HC49
      clear HC49
      replace c40 := (hb.cell (World.block_lt_of_cell? _ _ c40)).trans c40
      replace c41 := (hb.cell (World.block_lt_of_cell? _ _ c41)).trans c41
      replace c100 := (hb.cell (World.block_lt_of_cell? _ _ c100)).trans c100
      replace c101 := (hb.cell (World.block_lt_of_cell? _ _ c101)).trans c101
      have HB9 := Aside0.mk (below_then HB.out HB.out.size hb)
      clear HB
      have HB := HB9
      clear HB9
      clear hb
      go_wp2_with fail
      go_ret
      exact ⟨rfl, HB.out⟩
  · subst hm1
    have hn0 : ¬ ((nb : Int) + 1) = 0 := by omega
    have HBL := Aside0.mk hbl
    have HSL := Aside0.mk hsl
    have HSO := Aside0.mk hso
    have HCB := Aside0.mk hCb
    have HCBC := Aside0.mk hcb
    clear HPP hCb hbl hsl hso hcb
    rw [hs1] at HCS
    clear hs1
    obtain ⟨ad, rfl, s0, s1⟩ := at_T32 HCS.out 0 (by decide) (by omega)
    rw [show rd_T32 ((⟨x0, x1⟩ : S32) :: ss) 0 = ⟨x0, x1⟩ from rfl, show (0 : Int).toNat * 2 = 0 from rfl] at s0 s1
    rw [show ad.add 0 = ad by unfold Addr.add; split <;> simp_all] at s0 s1
    have S0 := Aside0.mk s0
    have S1 := Aside0.mk s1
    have A100 := Aside0.mk c100
    have A101 := Aside0.mk c101
    clear s0 s1
    obtain ⟨i0, hi0, _, hsz0, _⟩ := info_parts info32
    have hcut := cut_from (P := Try.prog) 22 32 .i64 Try.underlying22 hi0 2 hsz0 (some ad) (nb + 1) cs 1 (by omega) (by omega)
    have hln : ((⟨x0, x1⟩ : S32) :: ss).length = (nb + 1) := by rw [List.length_cons, HSL.out]
    have hrd := Kd.C_drop (k := k32) (w := W) (A := some ad) (xs := (⟨x0, x1⟩ : S32) :: ss) (m := 1) (c := cs) (by rw [hln]; exact HCS.out) (by rw [hln]; omega) (by rw [hln]; exact HCSC.out)
    rw [show (1 : Int).toNat = 1 from rfl] at hcut
    simp only [List.drop_one, List.tail_cons, Nat.add_sub_cancel, Nat.reduceSub, Nat.one_mul] at hcut hrd
    obtain ⟨A9, hA9⟩ : ∃ A9, (if cs = 1 then some ad else (some ad : Option Addr).map (·.add k32.sz)) = A9 := ⟨_, rfl⟩
    have hA9' : (if cs = 1 then some ad else (some ad : Option Addr).map (·.add 2)) = A9 := hA9
    rw [hA9'] at hcut
    rw [hA9, HSL.out] at hrd
    have HRD := Aside0.mk hrd
    have HC9 := Aside0.mk (show nb ≤ cs - 1 by have := HCSC.out; omega)
    clear hrd hA9 hA9' hi0 hsz0 hln
    go_wp2_with fail
    have hF := Aside0.mk (Fr.Frame.start W)
    have HC : True := trivial
    clear c40 c41 c100 c101
    refine Fr.fr_region (by kernel_rfl) (by kernel_rfl) hF.out ?_
    iterate 13 ((apply Fr.fr_q_val; (case hw => first | rfl | (go_simp; done)); (case hv => intro W hF1; have q0 := (hF1.below.cell (World.block_lt_of_cell? _ _ A100.out)).trans A100.out; have q1 := (hF1.below.cell (World.block_lt_of_cell? _ _ A101.out)).trans A101.out; have q2 := (hF1.below.cell (World.block_lt_of_cell? _ _ S0.out)).trans S0.out; have q3 := (hF1.below.cell (World.block_lt_of_cell? _ _ S1.out)).trans S1.out; clear hF1; first | (go_simp; done) | (go_simp; rfl)); simp only [Act.put, List.setIfInBounds_toArray, List.set_cons_zero, List.set_cons_succ]))
    ((with_reducible refine Fr.gate_qcallee (f := 10) rfl ?_); apply Fr.fr_q_call; (case hw => first | rfl | (go_simp; done)); (case hv => intro W hF1; clear hF1; first | (go_simp; done) | (go_simp; rfl) | (go_simp; exact ⟨rfl, rfl⟩)); (case hc => intro W hF1; refine (alike10_n nb nb Bb cb B A9 (cs - 1) ss HBL.out HSL.out _ (Kd.C_below HCB.out hF1.below) HCBC.out (Kd.C_below HRD.out hF1.below) HC9.out HSO.out (by omega)).mono ?_; rintro e W' ⟨rfl, hb⟩; exact ⟨rfl, hb⟩); simp only [Act.put, List.setIfInBounds_toArray, List.set_cons_zero, List.set_cons_succ])
    iterate 2 ((apply Fr.fr_q_val; (case hw => first | rfl | (go_simp; done)); (case hv => intro W hF1; have q0 := (hF1.below.cell (World.block_lt_of_cell? _ _ A100.out)).trans A100.out; have q1 := (hF1.below.cell (World.block_lt_of_cell? _ _ A101.out)).trans A101.out; have q2 := (hF1.below.cell (World.block_lt_of_cell? _ _ S0.out)).trans S0.out; have q3 := (hF1.below.cell (World.block_lt_of_cell? _ _ S1.out)).trans S1.out; clear hF1; first | (go_simp; done) | (go_simp; rfl)); simp only [Act.put, List.setIfInBounds_toArray, List.set_cons_zero, List.set_cons_succ]))
    refine wpQuiet_nil ?_; intro W hF1; have HC1 := hF1.cells; simp only [Fr.Cells, List.length_cons, List.length_nil, Nat.reduceAdd, and_true] at HC1; clear hF HC; have HC := HC1; have hF := Aside0.mk hF1; clear hF1 HC1
    have hb := hF.out.below
    have HCL9 := Aside0.mk (Kd.C_below HCL.out hb)
    clear HCL
    have HCL := HCL9
    clear HCL9
    have HCA9 := Aside0.mk (Kd.C_below HCA.out hb)
    clear HCA
    have HCA := HCA9
    clear HCA9
    have HCS9 := Aside0.mk (Kd.C_below HCS.out hb)
    clear HCS
    have HCS := HCS9
    clear HCS9
    have HCB9 := Aside0.mk (Kd.C_below HCB.out hb)
    clear HCB
    have HCB := HCB9
    clear HCB9
    have HDP9 := Aside0.mk (HDP.out.mono hb)
    clear HDP
    have HDP := HDP9
    clear HDP9
    have HB9 := Aside0.mk (below_then HB.out HB.out.size hb)
    clear HB
    have HB := HB9
    clear HB9
    clear hb hF HC hcut
    go_wp2_with fail
    rcases HDP.out with ⟨htn, rfl, rfl, rfl⟩ | ⟨htn, rfl, k, a, rfl, rfl, hk2, ha2, hk1, ha1, hkc, hac, hC1, hCo⟩
    · clear HDP
      rw [htn] at H15n
      clear htn
      (with_reducible refine (H15n.out _).mono ?_)
      rintro e W ⟨rfl, hb⟩
      have HCL9 := Aside0.mk (Kd.C_below HCL.out hb)
      clear HCL
      have HCL := HCL9
      clear HCL9
      have HCA9 := Aside0.mk (Kd.C_below HCA.out hb)
      clear HCA
      have HCA := HCA9
      clear HCA9
      have HCS9 := Aside0.mk (Kd.C_below HCS.out hb)
      clear HCS
      have HCS := HCS9
      clear HCS9
      have HCB9 := Aside0.mk (Kd.C_below HCB.out hb)
      clear HCB
      have HCB := HCB9
      clear HCB9
      have HB9 := Aside0.mk (below_then HB.out HB.out.size hb)
      clear HB
      have HB := HB9
      clear HB9
      clear hb
      go_wp2_with fail
      go_ret
      exact ⟨rfl, HB.out⟩
    · clear HDP
      rw [htn] at H15n
      clear htn
      have HC1 := Aside0.mk hC1
      clear hC1
      have HCO := Aside0.mk hCo
      clear hCo
      have HKC := Aside0.mk hkc
      clear hkc
      have HAC := Aside0.mk hac
      clear hac
      have HK2 := Aside0.mk hk2
      clear hk2
      have HA2 := Aside0.mk ha2
      clear ha2
      have HA1 := Aside0.mk ha1
      clear ha1
      obtain ⟨b, hb9⟩ : ∃ b, (srt L).filter (fun x => !upTo now x) = b := ⟨_, rfl⟩
      have HK1 := Aside0.mk (hk1.trans hb9)
      have HB9b := Aside0.mk hb9
      have HBO := Aside0.mk (show srt b = b by rw [← hb9]; exact srt_self (filter_order (srt_order L)))
      clear hk1 hb9
      (with_reducible refine (H15n.out _).mono ?_)
      rintro e W ⟨rfl, hb⟩
      have HCL9 := Aside0.mk (Kd.C_below HCL.out hb)
      clear HCL
      have HCL := HCL9
      clear HCL9
      have HCA9 := Aside0.mk (Kd.C_below HCA.out hb)
      clear HCA
      have HCA := HCA9
      clear HCA9
      have HCS9 := Aside0.mk (Kd.C_below HCS.out hb)
      clear HCS
      have HCS := HCS9
      clear HCS9
      have HCB9 := Aside0.mk (Kd.C_below HCB.out hb)
      clear HCB
      have HCB := HCB9
      clear HCB9
      have HC19 := Aside0.mk (Kd.C_below HC1.out hb)
      clear HC1
      have HC1 := HC19
      clear HC19
      have HCO9 := Aside0.mk (Kd.C_below HCO.out hb)
      clear HCO
      have HCO := HCO9
      clear HCO9
      have HB9 := Aside0.mk (below_then HB.out HB.out.size hb)
      clear HB
      have HB := HB9
      clear HB9
      clear hb
      go_wp2_with fail
      (with_reducible refine (H17.out _ HCL.out a b HA1.out HB9b.out).mono ?_)
      rintro e W ⟨A3, c3, A4, c4, rfl, hc3, hc4, hC3, hC4, hb⟩
      have HCL9 := Aside0.mk (Kd.C_below HCL.out hb)
      clear HCL
      have HCL := HCL9
      clear HCL9
      have HCA9 := Aside0.mk (Kd.C_below HCA.out hb)
      clear HCA
      have HCA := HCA9
      clear HCA9
      have HCS9 := Aside0.mk (Kd.C_below HCS.out hb)
      clear HCS
      have HCS := HCS9
      clear HCS9
      have HCB9 := Aside0.mk (Kd.C_below HCB.out hb)
      clear HCB
      have HCB := HCB9
      clear HCB9
      have HC19 := Aside0.mk (Kd.C_below HC1.out hb)
      clear HC1
      have HC1 := HC19
      clear HC19
      have HCO9 := Aside0.mk (Kd.C_below HCO.out hb)
      clear HCO
      have HCO := HCO9
      clear HCO9
      have HB9 := Aside0.mk (below_then HB.out HB.out.size hb)
      clear HB
      have HB := HB9
      clear HB9
      have HC3 := Aside0.mk hC3
      clear hC3
      have HC4 := Aside0.mk hC4
      clear hC4
      have HC3C := Aside0.mk hc3
      clear hc3
      have HC4C := Aside0.mk hc4
      clear hc4
      clear hb
      go_wp2_with fail
      (with_reducible refine (same9_calls Ao co A3 c3 a _ a.length rfl HCO.out HAC.out HC3.out HC3C.out (by have := HA2.out; omega)).mono ?_)
      rintro e W ⟨rfl, hb⟩
      have HCL9 := Aside0.mk (Kd.C_below HCL.out hb)
      clear HCL
      have HCL := HCL9
      clear HCL9
      have HCA9 := Aside0.mk (Kd.C_below HCA.out hb)
      clear HCA
      have HCA := HCA9
      clear HCA9
      have HCS9 := Aside0.mk (Kd.C_below HCS.out hb)
      clear HCS
      have HCS := HCS9
      clear HCS9
      have HCB9 := Aside0.mk (Kd.C_below HCB.out hb)
      clear HCB
      have HCB := HCB9
      clear HCB9
      have HC19 := Aside0.mk (Kd.C_below HC1.out hb)
      clear HC1
      have HC1 := HC19
      clear HC19
      have HCO9 := Aside0.mk (Kd.C_below HCO.out hb)
      clear HCO
      have HCO := HCO9
      clear HCO9
      have HC39 := Aside0.mk (Kd.C_below HC3.out hb)
      clear HC3
      have HC3 := HC39
      clear HC39
      have HC49 := Aside0.mk (Kd.C_below HC4.out hb)
      clear HC4
      have HC4 := HC49
      clear HC49
      have HB9 := Aside0.mk (below_then HB.out HB.out.size hb)
      clear HB
      have HB := HB9
      clear HB9
      clear hb
      go_wp2_with fail
      (with_reducible refine (alike10_n k.length b.length A1 c1 k A4 c4 b rfl rfl _ HC1.out HKC.out HC4.out HC4C.out (by rw [HK1.out, HBO.out]) (by have := HK2.out; omega)).mono ?_)
      rintro e W ⟨rfl, hb⟩
      have HCL9 := Aside0.mk (Kd.C_below HCL.out hb)
      clear HCL
      have HCL := HCL9
      clear HCL9
      have HCA9 := Aside0.mk (Kd.C_below HCA.out hb)
      clear HCA
      have HCA := HCA9
      clear HCA9
      have HCS9 := Aside0.mk (Kd.C_below HCS.out hb)
      clear HCS
      have HCS := HCS9
      clear HCS9
      have HCB9 := Aside0.mk (Kd.C_below HCB.out hb)
      clear HCB
      have HCB := HCB9
      clear HCB9
      have HC19 := Aside0.mk (Kd.C_below HC1.out hb)
      clear HC1
      have HC1 := HC19
      clear HC19
      have HCO9 := Aside0.mk (Kd.C_below HCO.out hb)
      clear HCO
      have HCO := HCO9
      clear HCO9
      have HC39 := Aside0.mk (Kd.C_below HC3.out hb)
      clear HC3
      have HC3 := HC39
      clear HC39
      have HC49 := Aside0.mk (Kd.C_below HC4.out hb)
      clear HC4
      have HC4 := HC49
      clear HC49
      have HB9 := Aside0.mk (below_then HB.out HB.out.size hb)
      clear HB
      have HB := HB9
      clear HB9
      clear hb
      go_wp2_with fail
      go_ret
      exact ⟨rfl, HB.out⟩
end Go.Proofs.Ytlkaebnigmfphaa.G
