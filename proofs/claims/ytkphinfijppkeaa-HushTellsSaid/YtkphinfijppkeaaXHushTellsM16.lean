/- Contracts of functions of the given program, and what they come to, for any arguments. No condition beyond each theorem's own premises. -/
import Derived.Test.YtkphinfijppkeaaXHushTellsM14
namespace Go.Proofs.Ytkphinfijppkeaa.G
open Go.RowKit Go.Proofs.YtkphinfijppkeaaW.PrintWords Go.Proofs.YtkphinfijppkeaaW.PrintLast Go.Proofs.YtkphinfijppkeaaW.PrintMore
attribute [local go_sem] max2_int min2_int max_two min_two max_three min_three max_four min_four
set_option maxHeartbeats 8000000 in
set_option maxRecDepth 100000 in
theorem tells_c3_0 (k : Nat) (A0 : Option Addr) (c0 : Nat) (l0 : List S25) (h : S25) (A2 : Option Addr) (c2 : Nat) (A1 : Option Addr) (c1 : Nat) (l1 : List S92) (now : Int) (w : World) (hr0 : Kd.C k25 w A0 l0.length l0) (hc0 : l0.length ≤ c0) (hr2 : Kd.C k88 w A2 h.f2.length h.f2) (hc2 : h.f2.length ≤ c2) (hr1 : Kd.C k92 w A1 l1.length l1) (hc1 : l1.length ≤ c1)
    (q : List S25) (L : List S92) (b : S25) (hq : foghornlaw14_few.f k l0 = some q) (hL : l1.take 5 = L) (hb : cutH h = b) (hql : q.length ≤ 10)
    (K : Nat) (r1 : foghornref14_Right.f K q = some (hushesB q)) (r2 : foghornref12_Hush.f K b.f0 b.f1 b.f2 = some (hushB b)) (r3 : foghornref10_Right.f K L = some (rightB L)) (hA : ∀ (Aq : Option Addr) (cq : Nat) (A3 : Option Addr) (c3 : Nat) (W : World), Kd.C k25 W Aq q.length q → Kd.C k88 W A3 b.f2.length b.f2 → b.f2.length ≤ c3 → Calls Try.prog 17 #[.slice Aq q.length cq, .agg #[.int .i64 b.f0, .int .i64 b.f1, .slice A3 b.f2.length c3], .int .i64 now] W fun e w' => e = .returned (.tuple #[.slice none 0 0, .int .i64 1]) ∧ Below W.heap.size W w') (hg1 : hushesB q = true) (hg2 : tmB now = true) (hg5 : rightB L = false) (hm : mayE q L now = 1) (ha : activeV q L now = false) (ht : freeV q L now = 0) (hg3 : hushB b = false) :
    Calls Try.prog 3 #[.slice A0 l0.length c0, .agg #[.int .i64 h.f0, .int .i64 h.f1, .slice A2 h.f2.length c2], .slice A1 l1.length c1, .int .i64 now] w fun e w' => e = .returned (.bool true) ∧ Below w.heap.size w w' := by
  have HR0 := Aside0.mk hr0
  have HC0 := Aside0.mk hc0
  have HR2 := Aside0.mk hr2
  have HC2 := Aside0.mk hc2
  have HC1 := Aside0.mk hc1
  have HQL := Aside0.mk hql
  have HRX := Aside0.mk (take5 hr1 hL)
  have HM1 := Aside0.mk hr1.2.1
  have HQ := Aside0.mk hq
  have HLL := Aside0.mk (show (l1.take 5).length = L.length by rw [hL])
  have H15 := Aside0.mk (fun W (hw : Below w.heap.size w W) => cut15_R A2 c2 h W (Kd.C_below hr2 hw) hc2)
  rw [hb] at H15
  have H1 := Aside0.mk r1
  have H2 := Aside0.mk r2
  have H3 := Aside0.mk r3
  have HA := Aside0.mk hA
  have Hg1 := Aside0.mk hg1
  have Hg2 := Aside0.mk hg2
  have Hg5 := Aside0.mk hg5
  have Hm := Aside0.mk hm
  have Ha := Aside0.mk ha
  have Ht := Aside0.mk ht
  have Hg3 := Aside0.mk hg3
  clear hr0 hc0 hr2 hc2 hr1 hc1 hq hL hb hql r1 r2 r3 hA hg1 hg2 hg5 hm ha ht hg3
  have H16 := Aside0.mk (fun W => some16 A1 c1 l1 W HC1.out HM1.out)
  rw [HLL.out] at H16
  have H14 := Aside0.mk (fun W (hb : Below w.heap.size w W) => few14_R k A0 c0 l0 q W (Kd.C_below HR0.out hb) HC0.out HQ.out)
  have HF0 := Aside0.mk (((Fr.Frame.start w).alloc [.int .i64 h.f0, .int .i64 h.f1, .slice A2 h.f2.length c2] 25).drew)
  go_enter Try.func3, Try.ntmps3
  go_wp2
  go_region_with (first | (go_at_call 14; refine (H14.out _ HF0.out.below).mono ?_; rintro e W14 ⟨v, rfl, hR, hb⟩; obtain ⟨S, hF1⟩ := HF0.out.callR hb hR; have HF1 := Aside0.mk hF1; clear hF1 hb; obtain ⟨Aq, cq, rfl, hcq, hCq⟩ := Kd.R_reads hR; clear hR hcq hCq; have HD1 := HF1.out.cells; simp only [Fr.Cells, List.length_cons, List.length_nil, Nat.reduceAdd, and_true] at HD1) | (go_at_call 15; refine (H15.out _ HF1.out.below).mono ?_; rintro e W15 ⟨v, rfl, hR, hb⟩; obtain ⟨S2, hF1⟩ := HF1.out.callR hb hR; have HF2 := Aside0.mk hF1; clear hF1 hb HD1; obtain ⟨A3, c3, rfl, hc3, hC3⟩ := Kd.R_reads hR; clear hR hc3 hC3; have HD2 := HF2.out.cells; simp only [Fr.Cells, List.length_cons, List.length_nil, Nat.reduceAdd, and_true] at HD2) | (go_at_call 16; refine (H16.out _).mono ?_; rintro e W' ⟨rfl, rfl⟩))
  all_goals
    have HLC := Aside0.mk (show L.length ≤ c1 by rw [← HLL.out, List.length_take]; have := HC1.out; omega)
    have hF1 : Fr.Frame w (((W15.setCell ⟨w.heap.size, 0, none⟩ (.int .i64 b.f0)).setCell ⟨w.heap.size, 1, none⟩ (.int .i64 b.f1)).setCell ⟨w.heap.size, 2, none⟩ (.slice A3 b.f2.length c3)) [(w.heap.size, [.int .i64 b.f0, .int .i64 b.f1, .slice A3 b.f2.length c3], 25)] _ := HF2.out.put (Fr.Spot.here _ _) 0 [.int .i64 b.f0, .int .i64 b.f1, .slice A3 b.f2.length c3] (by simp)
    obtain ⟨Wf, hWf⟩ : ∃ Wf, (((W15.setCell ⟨w.heap.size, 0, none⟩ (.int .i64 b.f0)).setCell ⟨w.heap.size, 1, none⟩ (.int .i64 b.f1)).setCell ⟨w.heap.size, 2, none⟩ (.slice A3 b.f2.length c3)) = Wf := ⟨_, rfl⟩
    rw [hWf] at hF1 ⊢
    clear hWf HD2 HF1 HF2 HF0
    have hF : True := trivial
    have HC : True := trivial
    have HC1 := hF1.cells; simp only [Fr.Cells, List.length_cons, List.length_nil, Nat.reduceAdd, and_true] at HC1; clear hF HC; have HC := HC1; have hF := Aside0.mk hF1; clear hF1 HC1
    go_wp2_with (first | ((with_reducible refine gate_store rfl ?_); apply Fr.fr_store hF.out rfl rfl rfl; (case hp => rfl); (case hx => first | (go_simp; rfl) | rfl); (case hu => (simp only [Value.cells]; rfl)); (case hs => (repeat (first | exact Fr.Spot.here _ _ | apply Fr.Spot.there))); (case ht => kernel_rfl); (case h1 => simp [Value.oneCell']); (case hfit => simp); intro W hF1; simp only [Fr.patch, List.take_zero, List.nil_append, List.drop, List.append_nil, List.take, List.cons_append, List.length_cons, List.length_nil, Nat.reduceAdd] at hF1; have HC1 := hF1.cells; simp only [Fr.Cells, List.length_cons, List.length_nil, Nat.reduceAdd, and_true] at HC1; clear hF HC; have HC := HC1; have hF := Aside0.mk hF1; clear hF1 HC1) | ((first | (with_reducible refine Fr.gate_alloc rfl ?_) | (with_reducible refine Fr.gate_box rfl ?_)); apply Fr.fr_box hF.out rfl; (case hrun => first | (go_simp; done) | (go_simp; rfl)); intro g W hF1; have HC1 := hF1.cells; simp only [Fr.Cells, List.length_cons, List.length_nil, Nat.reduceAdd, and_true] at HC1; clear hF HC; have HC := HC1; have hF := Aside0.mk hF1; clear hF1 HC1))
    have HQC := Aside0.mk (row_C hF.out (List.mem_cons_of_mem _ List.mem_cons_self))
    have HBC := Aside0.mk (row_C hF.out List.mem_cons_self)
    (with_reducible refine (HA.out Aq cq A3 c3 _ HQC.out.2 HBC.out.2 HBC.out.1).mono ?_)
    rintro e W ⟨rfl, hb⟩
    have hF1 := hF.out.call hb
    clear hb
    have HC1 := hF1.cells; simp only [Fr.Cells, List.length_cons, List.length_nil, Nat.reduceAdd, and_true] at HC1; clear hF HC; have HC := HC1; have hF := Aside0.mk hF1; clear hF1 HC1
    iterate 8 (go_wp2_with (first | ((with_reducible refine gate_store rfl ?_); apply Fr.fr_store hF.out rfl rfl rfl; (case hp => rfl); (case hx => first | (go_simp; rfl) | rfl); (case hu => (simp only [Value.cells]; rfl)); (case hs => (repeat (first | exact Fr.Spot.here _ _ | apply Fr.Spot.there))); (case ht => kernel_rfl); (case h1 => simp [Value.oneCell']); (case hfit => simp); intro W hF1; simp only [Fr.patch, List.take_zero, List.nil_append, List.drop, List.append_nil, List.take, List.cons_append, List.length_cons, List.length_nil, Nat.reduceAdd] at hF1; have HC1 := hF1.cells; simp only [Fr.Cells, List.length_cons, List.length_nil, Nat.reduceAdd, and_true] at HC1; clear hF HC; have HC := HC1; have hF := Aside0.mk hF1; clear hF1 HC1) | ((first | (with_reducible refine Fr.gate_alloc rfl ?_) | (with_reducible refine Fr.gate_box rfl ?_)); apply Fr.fr_box hF.out rfl; (case hrun => first | (go_simp; done) | (go_simp; rfl)); intro g W hF1; have HC1 := hF1.cells; simp only [Fr.Cells, List.length_cons, List.length_nil, Nat.reduceAdd, and_true] at HC1; clear hF HC; have HC := HC1; have hF := Aside0.mk hF1; clear hF1 HC1)); try ((first | ((with_reducible refine (active_calls Aq cq q A1 c1 L now _ (row_C hF.out (List.mem_cons_of_mem _ List.mem_cons_self)).2 (Kd.C_below HRX.out hF.out.below)).mono ?_); rintro e W ⟨rfl, hb⟩; have hF1 := hF.out.call hb; clear hb; simp only [Hm.out, Ha.out]) | ((with_reducible refine (free_calls Aq cq q A1 c1 L now _ (row_C hF.out (List.mem_cons_of_mem _ List.mem_cons_self)).2 (Kd.C_below HRX.out hF.out.below)).mono ?_); rintro e W ⟨rfl, hb⟩; have hF1 := hF.out.call hb; clear hb; simp only [Hm.out, Ht.out]) | ((with_reducible refine (hushRight_calls Aq cq q _ (row_C hF.out (List.mem_cons_of_mem _ List.mem_cons_self)).2).mono ?_); rintro e W ⟨rfl, hb⟩; have hF1 := hF.out.call hb; clear hb) | ((with_reducible refine (foghornref14_Right.calls K Aq cq q (hushesB q) _ (row_C hF.out (List.mem_cons_of_mem _ List.mem_cons_self)).2 (row_C hF.out (List.mem_cons_of_mem _ List.mem_cons_self)).1 H1.out).mono ?_); rintro e W ⟨rfl, hb⟩; have hF1 := hF.out.call hb; clear hb; simp only [Hg1.out]) | ((with_reducible refine (alive_calls _).mono ?_); rintro e W ⟨rfl, hb⟩; have hF1 := hF.out.call hb; clear hb) | ((with_reducible refine (foghornref05_Right.calls now (tmB now) _ (tick_ref now)).mono ?_); rintro e W ⟨rfl, hb⟩; have hF1 := hF.out.call hb.below; clear hb; simp only [Hg2.out])); have HC1 := hF1.cells; simp only [Fr.Cells, List.length_cons, List.length_nil, Nat.reduceAdd, and_true] at HC1; clear hF HC; have HC := HC1; have hF := Aside0.mk hF1; clear hF1 HC1))
    (with_reducible refine (kept_calls Aq cq q now _ (row_C hF.out (List.mem_cons_of_mem _ List.mem_cons_self)).2 (by have := HQL.out; omega)).mono ?_)
    rintro e W ⟨v, rows, S9, rfl, hF9, hro⟩
    have hF1 := hF.out.call hF9.below
    clear hF9 hro
    have HC1 := hF1.cells; simp only [Fr.Cells, List.length_cons, List.length_nil, Nat.reduceAdd, and_true] at HC1; clear hF HC; have HC := HC1; have hF := Aside0.mk hF1; clear hF1 HC1
    iterate 3 (go_wp2_with (first | ((with_reducible refine gate_store rfl ?_); apply Fr.fr_store hF.out rfl rfl rfl; (case hp => rfl); (case hx => first | (go_simp; rfl) | rfl); (case hu => (simp only [Value.cells]; rfl)); (case hs => (repeat (first | exact Fr.Spot.here _ _ | apply Fr.Spot.there))); (case ht => kernel_rfl); (case h1 => simp [Value.oneCell']); (case hfit => simp); intro W hF1; simp only [Fr.patch, List.take_zero, List.nil_append, List.drop, List.append_nil, List.take, List.cons_append, List.length_cons, List.length_nil, Nat.reduceAdd] at hF1; have HC1 := hF1.cells; simp only [Fr.Cells, List.length_cons, List.length_nil, Nat.reduceAdd, and_true] at HC1; clear hF HC; have HC := HC1; have hF := Aside0.mk hF1; clear hF1 HC1) | ((first | (with_reducible refine Fr.gate_alloc rfl ?_) | (with_reducible refine Fr.gate_box rfl ?_)); apply Fr.fr_box hF.out rfl; (case hrun => first | (go_simp; done) | (go_simp; rfl)); intro g W hF1; have HC1 := hF1.cells; simp only [Fr.Cells, List.length_cons, List.length_nil, Nat.reduceAdd, and_true] at HC1; clear hF HC; have HC := HC1; have hF := Aside0.mk hF1; clear hF1 HC1)); try ((first | ((with_reducible refine (foghornref12_Hush.calls K b.f0 b.f1 A3 c3 b.f2 (hushB b) _ (row_C hF.out List.mem_cons_self).2 (row_C hF.out List.mem_cons_self).1 H2.out).mono ?_); rintro e W ⟨rfl, hb⟩; have hF1 := hF.out.call hb; clear hb; simp only [Hg3.out]) | ((with_reducible refine (foghornref10_Right.calls K A1 c1 L (rightB L) _ (Kd.C_below HRX.out hF.out.below) HLC.out H3.out).mono ?_); rintro e W ⟨rfl, hb⟩; have hF1 := hF.out.call hb; clear hb; simp only [Hg5.out])); have HC1 := hF1.cells; simp only [Fr.Cells, List.length_cons, List.length_nil, Nat.reduceAdd, and_true] at HC1; clear hF HC; have HC := HC1; have hF := Aside0.mk hF1; clear hF1 HC1))
    go_ret
    exact ⟨rfl, hF.out.below⟩
set_option maxHeartbeats 8000000 in
set_option maxRecDepth 100000 in
theorem tells_c4_0 (k : Nat) (A0 : Option Addr) (c0 : Nat) (l0 : List S25) (h : S25) (A2 : Option Addr) (c2 : Nat) (A1 : Option Addr) (c1 : Nat) (l1 : List S92) (now : Int) (w : World) (hr0 : Kd.C k25 w A0 l0.length l0) (hc0 : l0.length ≤ c0) (hr2 : Kd.C k88 w A2 h.f2.length h.f2) (hc2 : h.f2.length ≤ c2) (hr1 : Kd.C k92 w A1 l1.length l1) (hc1 : l1.length ≤ c1)
    (q : List S25) (L : List S92) (b : S25) (hq : foghornlaw14_few.f k l0 = some q) (hL : l1.take 5 = L) (hb : cutH h = b) (hql : q.length ≤ 10)
    (K : Nat) (r1 : foghornref14_Right.f K q = some (hushesB q)) (r2 : foghornref12_Hush.f K b.f0 b.f1 b.f2 = some (hushB b)) (r3 : foghornref10_Right.f K L = some (rightB L)) (hA : ∀ (Aq : Option Addr) (cq : Nat) (A3 : Option Addr) (c3 : Nat) (W : World), Kd.C k25 W Aq q.length q → Kd.C k88 W A3 b.f2.length b.f2 → b.f2.length ≤ c3 → Calls Try.prog 17 #[.slice Aq q.length cq, .agg #[.int .i64 b.f0, .int .i64 b.f1, .slice A3 b.f2.length c3], .int .i64 now] W fun e w' => e = .returned (.tuple #[.slice none 0 0, .int .i64 3]) ∧ Below W.heap.size W w') (hg1 : hushesB q = true) (hg2 : tmB now = true) (hg5 : rightB L = false) (hm : mayE q L now = 1) (ha : activeV q L now = false) (ht : freeV q L now = 0) (hg3 : hushB b = true) (hg4 : b.f1 ≤ now) :
    Calls Try.prog 3 #[.slice A0 l0.length c0, .agg #[.int .i64 h.f0, .int .i64 h.f1, .slice A2 h.f2.length c2], .slice A1 l1.length c1, .int .i64 now] w fun e w' => e = .returned (.bool true) ∧ Below w.heap.size w w' := by
  have HR0 := Aside0.mk hr0
  have HC0 := Aside0.mk hc0
  have HR2 := Aside0.mk hr2
  have HC2 := Aside0.mk hc2
  have HC1 := Aside0.mk hc1
  have HQL := Aside0.mk hql
  have HRX := Aside0.mk (take5 hr1 hL)
  have HM1 := Aside0.mk hr1.2.1
  have HQ := Aside0.mk hq
  have HLL := Aside0.mk (show (l1.take 5).length = L.length by rw [hL])
  have H15 := Aside0.mk (fun W (hw : Below w.heap.size w W) => cut15_R A2 c2 h W (Kd.C_below hr2 hw) hc2)
  rw [hb] at H15
  have H1 := Aside0.mk r1
  have H2 := Aside0.mk r2
  have H3 := Aside0.mk r3
  have HA := Aside0.mk hA
  have Hg1 := Aside0.mk hg1
  have Hg2 := Aside0.mk hg2
  have Hg5 := Aside0.mk hg5
  have Hm := Aside0.mk hm
  have Ha := Aside0.mk ha
  have Ht := Aside0.mk ht
  have Hg3 := Aside0.mk hg3
  clear hr0 hc0 hr2 hc2 hr1 hc1 hq hL hb hql r1 r2 r3 hA hg1 hg2 hg5 hm ha ht hg3
  have H16 := Aside0.mk (fun W => some16 A1 c1 l1 W HC1.out HM1.out)
  rw [HLL.out] at H16
  have H14 := Aside0.mk (fun W (hb : Below w.heap.size w W) => few14_R k A0 c0 l0 q W (Kd.C_below HR0.out hb) HC0.out HQ.out)
  have HF0 := Aside0.mk (((Fr.Frame.start w).alloc [.int .i64 h.f0, .int .i64 h.f1, .slice A2 h.f2.length c2] 25).drew)
  go_enter Try.func3, Try.ntmps3
  go_wp2
  go_region_with (first | (go_at_call 14; refine (H14.out _ HF0.out.below).mono ?_; rintro e W14 ⟨v, rfl, hR, hb⟩; obtain ⟨S, hF1⟩ := HF0.out.callR hb hR; have HF1 := Aside0.mk hF1; clear hF1 hb; obtain ⟨Aq, cq, rfl, hcq, hCq⟩ := Kd.R_reads hR; clear hR hcq hCq; have HD1 := HF1.out.cells; simp only [Fr.Cells, List.length_cons, List.length_nil, Nat.reduceAdd, and_true] at HD1) | (go_at_call 15; refine (H15.out _ HF1.out.below).mono ?_; rintro e W15 ⟨v, rfl, hR, hb⟩; obtain ⟨S2, hF1⟩ := HF1.out.callR hb hR; have HF2 := Aside0.mk hF1; clear hF1 hb HD1; obtain ⟨A3, c3, rfl, hc3, hC3⟩ := Kd.R_reads hR; clear hR hc3 hC3; have HD2 := HF2.out.cells; simp only [Fr.Cells, List.length_cons, List.length_nil, Nat.reduceAdd, and_true] at HD2) | (go_at_call 16; refine (H16.out _).mono ?_; rintro e W' ⟨rfl, rfl⟩))
  all_goals
    have HLC := Aside0.mk (show L.length ≤ c1 by rw [← HLL.out, List.length_take]; have := HC1.out; omega)
    have hF1 : Fr.Frame w (((W15.setCell ⟨w.heap.size, 0, none⟩ (.int .i64 b.f0)).setCell ⟨w.heap.size, 1, none⟩ (.int .i64 b.f1)).setCell ⟨w.heap.size, 2, none⟩ (.slice A3 b.f2.length c3)) [(w.heap.size, [.int .i64 b.f0, .int .i64 b.f1, .slice A3 b.f2.length c3], 25)] _ := HF2.out.put (Fr.Spot.here _ _) 0 [.int .i64 b.f0, .int .i64 b.f1, .slice A3 b.f2.length c3] (by simp)
    obtain ⟨Wf, hWf⟩ : ∃ Wf, (((W15.setCell ⟨w.heap.size, 0, none⟩ (.int .i64 b.f0)).setCell ⟨w.heap.size, 1, none⟩ (.int .i64 b.f1)).setCell ⟨w.heap.size, 2, none⟩ (.slice A3 b.f2.length c3)) = Wf := ⟨_, rfl⟩
    rw [hWf] at hF1 ⊢
    clear hWf HD2 HF1 HF2 HF0
    have hF : True := trivial
    have HC : True := trivial
    have HC1 := hF1.cells; simp only [Fr.Cells, List.length_cons, List.length_nil, Nat.reduceAdd, and_true] at HC1; clear hF HC; have HC := HC1; have hF := Aside0.mk hF1; clear hF1 HC1
    go_wp2_with (first | ((with_reducible refine gate_store rfl ?_); apply Fr.fr_store hF.out rfl rfl rfl; (case hp => rfl); (case hx => first | (go_simp; rfl) | rfl); (case hu => (simp only [Value.cells]; rfl)); (case hs => (repeat (first | exact Fr.Spot.here _ _ | apply Fr.Spot.there))); (case ht => kernel_rfl); (case h1 => simp [Value.oneCell']); (case hfit => simp); intro W hF1; simp only [Fr.patch, List.take_zero, List.nil_append, List.drop, List.append_nil, List.take, List.cons_append, List.length_cons, List.length_nil, Nat.reduceAdd] at hF1; have HC1 := hF1.cells; simp only [Fr.Cells, List.length_cons, List.length_nil, Nat.reduceAdd, and_true] at HC1; clear hF HC; have HC := HC1; have hF := Aside0.mk hF1; clear hF1 HC1) | ((first | (with_reducible refine Fr.gate_alloc rfl ?_) | (with_reducible refine Fr.gate_box rfl ?_)); apply Fr.fr_box hF.out rfl; (case hrun => first | (go_simp; done) | (go_simp; rfl)); intro g W hF1; have HC1 := hF1.cells; simp only [Fr.Cells, List.length_cons, List.length_nil, Nat.reduceAdd, and_true] at HC1; clear hF HC; have HC := HC1; have hF := Aside0.mk hF1; clear hF1 HC1))
    have HQC := Aside0.mk (row_C hF.out (List.mem_cons_of_mem _ List.mem_cons_self))
    have HBC := Aside0.mk (row_C hF.out List.mem_cons_self)
    (with_reducible refine (HA.out Aq cq A3 c3 _ HQC.out.2 HBC.out.2 HBC.out.1).mono ?_)
    rintro e W ⟨rfl, hb⟩
    have hF1 := hF.out.call hb
    clear hb
    have HC1 := hF1.cells; simp only [Fr.Cells, List.length_cons, List.length_nil, Nat.reduceAdd, and_true] at HC1; clear hF HC; have HC := HC1; have hF := Aside0.mk hF1; clear hF1 HC1
    iterate 8 (go_wp2_with (first | ((with_reducible refine gate_store rfl ?_); apply Fr.fr_store hF.out rfl rfl rfl; (case hp => rfl); (case hx => first | (go_simp; rfl) | rfl); (case hu => (simp only [Value.cells]; rfl)); (case hs => (repeat (first | exact Fr.Spot.here _ _ | apply Fr.Spot.there))); (case ht => kernel_rfl); (case h1 => simp [Value.oneCell']); (case hfit => simp); intro W hF1; simp only [Fr.patch, List.take_zero, List.nil_append, List.drop, List.append_nil, List.take, List.cons_append, List.length_cons, List.length_nil, Nat.reduceAdd] at hF1; have HC1 := hF1.cells; simp only [Fr.Cells, List.length_cons, List.length_nil, Nat.reduceAdd, and_true] at HC1; clear hF HC; have HC := HC1; have hF := Aside0.mk hF1; clear hF1 HC1) | ((first | (with_reducible refine Fr.gate_alloc rfl ?_) | (with_reducible refine Fr.gate_box rfl ?_)); apply Fr.fr_box hF.out rfl; (case hrun => first | (go_simp; done) | (go_simp; rfl)); intro g W hF1; have HC1 := hF1.cells; simp only [Fr.Cells, List.length_cons, List.length_nil, Nat.reduceAdd, and_true] at HC1; clear hF HC; have HC := HC1; have hF := Aside0.mk hF1; clear hF1 HC1)); try ((first | ((with_reducible refine (active_calls Aq cq q A1 c1 L now _ (row_C hF.out (List.mem_cons_of_mem _ List.mem_cons_self)).2 (Kd.C_below HRX.out hF.out.below)).mono ?_); rintro e W ⟨rfl, hb⟩; have hF1 := hF.out.call hb; clear hb; simp only [Hm.out, Ha.out]) | ((with_reducible refine (free_calls Aq cq q A1 c1 L now _ (row_C hF.out (List.mem_cons_of_mem _ List.mem_cons_self)).2 (Kd.C_below HRX.out hF.out.below)).mono ?_); rintro e W ⟨rfl, hb⟩; have hF1 := hF.out.call hb; clear hb; simp only [Hm.out, Ht.out]) | ((with_reducible refine (hushRight_calls Aq cq q _ (row_C hF.out (List.mem_cons_of_mem _ List.mem_cons_self)).2).mono ?_); rintro e W ⟨rfl, hb⟩; have hF1 := hF.out.call hb; clear hb) | ((with_reducible refine (foghornref14_Right.calls K Aq cq q (hushesB q) _ (row_C hF.out (List.mem_cons_of_mem _ List.mem_cons_self)).2 (row_C hF.out (List.mem_cons_of_mem _ List.mem_cons_self)).1 H1.out).mono ?_); rintro e W ⟨rfl, hb⟩; have hF1 := hF.out.call hb; clear hb; simp only [Hg1.out]) | ((with_reducible refine (alive_calls _).mono ?_); rintro e W ⟨rfl, hb⟩; have hF1 := hF.out.call hb; clear hb) | ((with_reducible refine (foghornref05_Right.calls now (tmB now) _ (tick_ref now)).mono ?_); rintro e W ⟨rfl, hb⟩; have hF1 := hF.out.call hb.below; clear hb; simp only [Hg2.out])); have HC1 := hF1.cells; simp only [Fr.Cells, List.length_cons, List.length_nil, Nat.reduceAdd, and_true] at HC1; clear hF HC; have HC := HC1; have hF := Aside0.mk hF1; clear hF1 HC1))
    (with_reducible refine (kept_calls Aq cq q now _ (row_C hF.out (List.mem_cons_of_mem _ List.mem_cons_self)).2 (by have := HQL.out; omega)).mono ?_)
    rintro e W ⟨v, rows, S9, rfl, hF9, hro⟩
    have hF1 := hF.out.call hF9.below
    clear hF9 hro
    have HC1 := hF1.cells; simp only [Fr.Cells, List.length_cons, List.length_nil, Nat.reduceAdd, and_true] at HC1; clear hF HC; have HC := HC1; have hF := Aside0.mk hF1; clear hF1 HC1
    iterate 3 (go_wp2_with (first | ((with_reducible refine gate_store rfl ?_); apply Fr.fr_store hF.out rfl rfl rfl; (case hp => rfl); (case hx => first | (go_simp; rfl) | rfl); (case hu => (simp only [Value.cells]; rfl)); (case hs => (repeat (first | exact Fr.Spot.here _ _ | apply Fr.Spot.there))); (case ht => kernel_rfl); (case h1 => simp [Value.oneCell']); (case hfit => simp); intro W hF1; simp only [Fr.patch, List.take_zero, List.nil_append, List.drop, List.append_nil, List.take, List.cons_append, List.length_cons, List.length_nil, Nat.reduceAdd] at hF1; have HC1 := hF1.cells; simp only [Fr.Cells, List.length_cons, List.length_nil, Nat.reduceAdd, and_true] at HC1; clear hF HC; have HC := HC1; have hF := Aside0.mk hF1; clear hF1 HC1) | ((first | (with_reducible refine Fr.gate_alloc rfl ?_) | (with_reducible refine Fr.gate_box rfl ?_)); apply Fr.fr_box hF.out rfl; (case hrun => first | (go_simp; done) | (go_simp; rfl)); intro g W hF1; have HC1 := hF1.cells; simp only [Fr.Cells, List.length_cons, List.length_nil, Nat.reduceAdd, and_true] at HC1; clear hF HC; have HC := HC1; have hF := Aside0.mk hF1; clear hF1 HC1)); try ((first | ((with_reducible refine (foghornref12_Hush.calls K b.f0 b.f1 A3 c3 b.f2 (hushB b) _ (row_C hF.out List.mem_cons_self).2 (row_C hF.out List.mem_cons_self).1 H2.out).mono ?_); rintro e W ⟨rfl, hb⟩; have hF1 := hF.out.call hb; clear hb; simp only [Hg3.out]) | ((with_reducible refine (foghornref10_Right.calls K A1 c1 L (rightB L) _ (Kd.C_below HRX.out hF.out.below) HLC.out H3.out).mono ?_); rintro e W ⟨rfl, hb⟩; have hF1 := hF.out.call hb; clear hb; simp only [Hg5.out])); have HC1 := hF1.cells; simp only [Fr.Cells, List.length_cons, List.length_nil, Nat.reduceAdd, and_true] at HC1; clear hF HC; have HC := HC1; have hF := Aside0.mk hF1; clear hF1 HC1))
    go_ret
    exact ⟨rfl, hF.out.below⟩
set_option maxHeartbeats 8000000 in
set_option maxRecDepth 100000 in
theorem tells_c5_0 (k : Nat) (A0 : Option Addr) (c0 : Nat) (l0 : List S25) (h : S25) (A2 : Option Addr) (c2 : Nat) (A1 : Option Addr) (c1 : Nat) (l1 : List S92) (now : Int) (w : World) (hr0 : Kd.C k25 w A0 l0.length l0) (hc0 : l0.length ≤ c0) (hr2 : Kd.C k88 w A2 h.f2.length h.f2) (hc2 : h.f2.length ≤ c2) (hr1 : Kd.C k92 w A1 l1.length l1) (hc1 : l1.length ≤ c1)
    (q : List S25) (L : List S92) (b : S25) (hq : foghornlaw14_few.f k l0 = some q) (hL : l1.take 5 = L) (hb : cutH h = b) (hql : q.length ≤ 10)
    (K : Nat) (r1 : foghornref14_Right.f K q = some (hushesB q)) (r2 : foghornref12_Hush.f K b.f0 b.f1 b.f2 = some (hushB b)) (r3 : foghornref10_Right.f K L = some (rightB L)) (hA : ∀ (Aq : Option Addr) (cq : Nat) (A3 : Option Addr) (c3 : Nat) (W : World), Kd.C k25 W Aq q.length q → Kd.C k88 W A3 b.f2.length b.f2 → b.f2.length ≤ c3 → Calls Try.prog 17 #[.slice Aq q.length cq, .agg #[.int .i64 b.f0, .int .i64 b.f1, .slice A3 b.f2.length c3], .int .i64 now] W fun e w' => e = .returned (.tuple #[.slice none 0 0, .int .i64 5]) ∧ Below W.heap.size W w') (hg1 : hushesB q = true) (hg2 : tmB now = true) (hg5 : rightB L = false) (hm : mayE q L now = 1) (ha : activeV q L now = false) (ht : freeV q L now = 0) (hg3 : hushB b = true) (hg4 : now < b.f1) (X : List S25) (hx : (q.filter fun x => !overP now x) = X) (h8 : ((X.length : Int) == 8) = true) :
    Calls Try.prog 3 #[.slice A0 l0.length c0, .agg #[.int .i64 h.f0, .int .i64 h.f1, .slice A2 h.f2.length c2], .slice A1 l1.length c1, .int .i64 now] w fun e w' => e = .returned (.bool true) ∧ Below w.heap.size w w' := by
  have HR0 := Aside0.mk hr0
  have HC0 := Aside0.mk hc0
  have HR2 := Aside0.mk hr2
  have HC2 := Aside0.mk hc2
  have HC1 := Aside0.mk hc1
  have HQL := Aside0.mk hql
  have HRX := Aside0.mk (take5 hr1 hL)
  have HM1 := Aside0.mk hr1.2.1
  have HQ := Aside0.mk hq
  have HLL := Aside0.mk (show (l1.take 5).length = L.length by rw [hL])
  have H15 := Aside0.mk (fun W (hw : Below w.heap.size w W) => cut15_R A2 c2 h W (Kd.C_below hr2 hw) hc2)
  rw [hb] at H15
  have H1 := Aside0.mk r1
  have H2 := Aside0.mk r2
  have H3 := Aside0.mk r3
  have HA := Aside0.mk hA
  have Hg1 := Aside0.mk hg1
  have Hg2 := Aside0.mk hg2
  have Hg5 := Aside0.mk hg5
  have Hm := Aside0.mk hm
  have Ha := Aside0.mk ha
  have Ht := Aside0.mk ht
  have Hg3 := Aside0.mk hg3
  have Hx := Aside0.mk hx
  clear hr0 hc0 hr2 hc2 hr1 hc1 hq hL hb hql r1 r2 r3 hA hg1 hg2 hg5 hm ha ht hg3 hx
  have H16 := Aside0.mk (fun W => some16 A1 c1 l1 W HC1.out HM1.out)
  rw [HLL.out] at H16
  have H14 := Aside0.mk (fun W (hb : Below w.heap.size w W) => few14_R k A0 c0 l0 q W (Kd.C_below HR0.out hb) HC0.out HQ.out)
  have HF0 := Aside0.mk (((Fr.Frame.start w).alloc [.int .i64 h.f0, .int .i64 h.f1, .slice A2 h.f2.length c2] 25).drew)
  go_enter Try.func3, Try.ntmps3
  go_wp2
  go_region_with (first | (go_at_call 14; refine (H14.out _ HF0.out.below).mono ?_; rintro e W14 ⟨v, rfl, hR, hb⟩; obtain ⟨S, hF1⟩ := HF0.out.callR hb hR; have HF1 := Aside0.mk hF1; clear hF1 hb; obtain ⟨Aq, cq, rfl, hcq, hCq⟩ := Kd.R_reads hR; clear hR hcq hCq; have HD1 := HF1.out.cells; simp only [Fr.Cells, List.length_cons, List.length_nil, Nat.reduceAdd, and_true] at HD1) | (go_at_call 15; refine (H15.out _ HF1.out.below).mono ?_; rintro e W15 ⟨v, rfl, hR, hb⟩; obtain ⟨S2, hF1⟩ := HF1.out.callR hb hR; have HF2 := Aside0.mk hF1; clear hF1 hb HD1; obtain ⟨A3, c3, rfl, hc3, hC3⟩ := Kd.R_reads hR; clear hR hc3 hC3; have HD2 := HF2.out.cells; simp only [Fr.Cells, List.length_cons, List.length_nil, Nat.reduceAdd, and_true] at HD2) | (go_at_call 16; refine (H16.out _).mono ?_; rintro e W' ⟨rfl, rfl⟩))
  all_goals
    have HLC := Aside0.mk (show L.length ≤ c1 by rw [← HLL.out, List.length_take]; have := HC1.out; omega)
    have hF1 : Fr.Frame w (((W15.setCell ⟨w.heap.size, 0, none⟩ (.int .i64 b.f0)).setCell ⟨w.heap.size, 1, none⟩ (.int .i64 b.f1)).setCell ⟨w.heap.size, 2, none⟩ (.slice A3 b.f2.length c3)) [(w.heap.size, [.int .i64 b.f0, .int .i64 b.f1, .slice A3 b.f2.length c3], 25)] _ := HF2.out.put (Fr.Spot.here _ _) 0 [.int .i64 b.f0, .int .i64 b.f1, .slice A3 b.f2.length c3] (by simp)
    obtain ⟨Wf, hWf⟩ : ∃ Wf, (((W15.setCell ⟨w.heap.size, 0, none⟩ (.int .i64 b.f0)).setCell ⟨w.heap.size, 1, none⟩ (.int .i64 b.f1)).setCell ⟨w.heap.size, 2, none⟩ (.slice A3 b.f2.length c3)) = Wf := ⟨_, rfl⟩
    rw [hWf] at hF1 ⊢
    clear hWf HD2 HF1 HF2 HF0
    have hF : True := trivial
    have HC : True := trivial
    have HC1 := hF1.cells; simp only [Fr.Cells, List.length_cons, List.length_nil, Nat.reduceAdd, and_true] at HC1; clear hF HC; have HC := HC1; have hF := Aside0.mk hF1; clear hF1 HC1
    go_wp2_with (first | ((with_reducible refine gate_store rfl ?_); apply Fr.fr_store hF.out rfl rfl rfl; (case hp => rfl); (case hx => first | (go_simp; rfl) | rfl); (case hu => (simp only [Value.cells]; rfl)); (case hs => (repeat (first | exact Fr.Spot.here _ _ | apply Fr.Spot.there))); (case ht => kernel_rfl); (case h1 => simp [Value.oneCell']); (case hfit => simp); intro W hF1; simp only [Fr.patch, List.take_zero, List.nil_append, List.drop, List.append_nil, List.take, List.cons_append, List.length_cons, List.length_nil, Nat.reduceAdd] at hF1; have HC1 := hF1.cells; simp only [Fr.Cells, List.length_cons, List.length_nil, Nat.reduceAdd, and_true] at HC1; clear hF HC; have HC := HC1; have hF := Aside0.mk hF1; clear hF1 HC1) | ((first | (with_reducible refine Fr.gate_alloc rfl ?_) | (with_reducible refine Fr.gate_box rfl ?_)); apply Fr.fr_box hF.out rfl; (case hrun => first | (go_simp; done) | (go_simp; rfl)); intro g W hF1; have HC1 := hF1.cells; simp only [Fr.Cells, List.length_cons, List.length_nil, Nat.reduceAdd, and_true] at HC1; clear hF HC; have HC := HC1; have hF := Aside0.mk hF1; clear hF1 HC1))
    have HQC := Aside0.mk (row_C hF.out (List.mem_cons_of_mem _ List.mem_cons_self))
    have HBC := Aside0.mk (row_C hF.out List.mem_cons_self)
    (with_reducible refine (HA.out Aq cq A3 c3 _ HQC.out.2 HBC.out.2 HBC.out.1).mono ?_)
    rintro e W ⟨rfl, hb⟩
    have hF1 := hF.out.call hb
    clear hb
    have HC1 := hF1.cells; simp only [Fr.Cells, List.length_cons, List.length_nil, Nat.reduceAdd, and_true] at HC1; clear hF HC; have HC := HC1; have hF := Aside0.mk hF1; clear hF1 HC1
    iterate 8 (go_wp2_with (first | ((with_reducible refine gate_store rfl ?_); apply Fr.fr_store hF.out rfl rfl rfl; (case hp => rfl); (case hx => first | (go_simp; rfl) | rfl); (case hu => (simp only [Value.cells]; rfl)); (case hs => (repeat (first | exact Fr.Spot.here _ _ | apply Fr.Spot.there))); (case ht => kernel_rfl); (case h1 => simp [Value.oneCell']); (case hfit => simp); intro W hF1; simp only [Fr.patch, List.take_zero, List.nil_append, List.drop, List.append_nil, List.take, List.cons_append, List.length_cons, List.length_nil, Nat.reduceAdd] at hF1; have HC1 := hF1.cells; simp only [Fr.Cells, List.length_cons, List.length_nil, Nat.reduceAdd, and_true] at HC1; clear hF HC; have HC := HC1; have hF := Aside0.mk hF1; clear hF1 HC1) | ((first | (with_reducible refine Fr.gate_alloc rfl ?_) | (with_reducible refine Fr.gate_box rfl ?_)); apply Fr.fr_box hF.out rfl; (case hrun => first | (go_simp; done) | (go_simp; rfl)); intro g W hF1; have HC1 := hF1.cells; simp only [Fr.Cells, List.length_cons, List.length_nil, Nat.reduceAdd, and_true] at HC1; clear hF HC; have HC := HC1; have hF := Aside0.mk hF1; clear hF1 HC1)); try ((first | ((with_reducible refine (active_calls Aq cq q A1 c1 L now _ (row_C hF.out (List.mem_cons_of_mem _ List.mem_cons_self)).2 (Kd.C_below HRX.out hF.out.below)).mono ?_); rintro e W ⟨rfl, hb⟩; have hF1 := hF.out.call hb; clear hb; simp only [Hm.out, Ha.out]) | ((with_reducible refine (free_calls Aq cq q A1 c1 L now _ (row_C hF.out (List.mem_cons_of_mem _ List.mem_cons_self)).2 (Kd.C_below HRX.out hF.out.below)).mono ?_); rintro e W ⟨rfl, hb⟩; have hF1 := hF.out.call hb; clear hb; simp only [Hm.out, Ht.out]) | ((with_reducible refine (hushRight_calls Aq cq q _ (row_C hF.out (List.mem_cons_of_mem _ List.mem_cons_self)).2).mono ?_); rintro e W ⟨rfl, hb⟩; have hF1 := hF.out.call hb; clear hb) | ((with_reducible refine (foghornref14_Right.calls K Aq cq q (hushesB q) _ (row_C hF.out (List.mem_cons_of_mem _ List.mem_cons_self)).2 (row_C hF.out (List.mem_cons_of_mem _ List.mem_cons_self)).1 H1.out).mono ?_); rintro e W ⟨rfl, hb⟩; have hF1 := hF.out.call hb; clear hb; simp only [Hg1.out]) | ((with_reducible refine (alive_calls _).mono ?_); rintro e W ⟨rfl, hb⟩; have hF1 := hF.out.call hb; clear hb) | ((with_reducible refine (foghornref05_Right.calls now (tmB now) _ (tick_ref now)).mono ?_); rintro e W ⟨rfl, hb⟩; have hF1 := hF.out.call hb.below; clear hb; simp only [Hg2.out])); have HC1 := hF1.cells; simp only [Fr.Cells, List.length_cons, List.length_nil, Nat.reduceAdd, and_true] at HC1; clear hF HC; have HC := HC1; have hF := Aside0.mk hF1; clear hF1 HC1))
    (with_reducible refine (kept_calls Aq cq q now _ (row_C hF.out (List.mem_cons_of_mem _ List.mem_cons_self)).2 (by have := HQL.out; omega)).mono ?_)
    rintro e W ⟨v, rows, S9, rfl, hF9, hro⟩
    have hF1 := hF.out.call hF9.below
    have hv := hush_row hF9 hro.len hro.at_
    rw [Hx.out] at hv
    obtain ⟨A9, c9, rfl, _, _⟩ := hv
    clear hF9 hro
    have HC1 := hF1.cells; simp only [Fr.Cells, List.length_cons, List.length_nil, Nat.reduceAdd, and_true] at HC1; clear hF HC; have HC := HC1; have hF := Aside0.mk hF1; clear hF1 HC1
    iterate 3 (go_wp2_with (first | ((with_reducible refine gate_store rfl ?_); apply Fr.fr_store hF.out rfl rfl rfl; (case hp => rfl); (case hx => first | (go_simp; rfl) | rfl); (case hu => (simp only [Value.cells]; rfl)); (case hs => (repeat (first | exact Fr.Spot.here _ _ | apply Fr.Spot.there))); (case ht => kernel_rfl); (case h1 => simp [Value.oneCell']); (case hfit => simp); intro W hF1; simp only [Fr.patch, List.take_zero, List.nil_append, List.drop, List.append_nil, List.take, List.cons_append, List.length_cons, List.length_nil, Nat.reduceAdd] at hF1; have HC1 := hF1.cells; simp only [Fr.Cells, List.length_cons, List.length_nil, Nat.reduceAdd, and_true] at HC1; clear hF HC; have HC := HC1; have hF := Aside0.mk hF1; clear hF1 HC1) | ((first | (with_reducible refine Fr.gate_alloc rfl ?_) | (with_reducible refine Fr.gate_box rfl ?_)); apply Fr.fr_box hF.out rfl; (case hrun => first | (go_simp; done) | (go_simp; rfl)); intro g W hF1; have HC1 := hF1.cells; simp only [Fr.Cells, List.length_cons, List.length_nil, Nat.reduceAdd, and_true] at HC1; clear hF HC; have HC := HC1; have hF := Aside0.mk hF1; clear hF1 HC1)); try ((first | ((with_reducible refine (foghornref12_Hush.calls K b.f0 b.f1 A3 c3 b.f2 (hushB b) _ (row_C hF.out List.mem_cons_self).2 (row_C hF.out List.mem_cons_self).1 H2.out).mono ?_); rintro e W ⟨rfl, hb⟩; have hF1 := hF.out.call hb; clear hb; simp only [Hg3.out]) | ((with_reducible refine (foghornref10_Right.calls K A1 c1 L (rightB L) _ (Kd.C_below HRX.out hF.out.below) HLC.out H3.out).mono ?_); rintro e W ⟨rfl, hb⟩; have hF1 := hF.out.call hb; clear hb; simp only [Hg5.out])); have HC1 := hF1.cells; simp only [Fr.Cells, List.length_cons, List.length_nil, Nat.reduceAdd, and_true] at HC1; clear hF HC; have HC := HC1; have hF := Aside0.mk hF1; clear hF1 HC1))
    go_ret
    exact ⟨rfl, hF.out.below⟩
end Go.Proofs.Ytkphinfijppkeaa.G
