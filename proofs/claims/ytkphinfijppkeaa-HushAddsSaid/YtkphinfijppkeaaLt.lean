/- Contracts of functions of the given program: what each comes to, for any arguments. No condition beyond each theorem's own premises. -/
import Derived.Test.YtkphinfijppkeaaLs
namespace Go.Proofs.Ytkphinfijppkeaa.G
open Go.RowKit Go.Proofs.YtkphinfijppkeaaW.PrintWords Go.Proofs.YtkphinfijppkeaaW.PrintLast Go.Proofs.YtkphinfijppkeaaW.PrintMore
attribute [local go_sem] max2_int min2_int max_two min_two max_three min_three max_four min_four
set_option linter.unusedVariables false
set_option linter.unusedSimpArgs false
theorem row_C {α : Type} {d : Kd α} {e n c base : Nat} {A : Option Addr} {xs : List α} {S : Nat → Prop} {w0 w : World} {bs : List Fr.Blk} {rs : List Fr.Row} (hF : Fr.Frame w0 w bs rs) (hm : Fr.rowR d e base (.slice A n c) xs S ∈ rs) : xs.length ≤ c ∧ Kd.C d w A xs.length xs := by
  have h : d.R e w base S (.slice A n c) xs := hF.rowAt hm
  obtain ⟨A', c', e1, hc, hC⟩ := Kd.R_reads h
  injection e1 with e2 e3 e4
  subst e2 e4
  exact ⟨hc, hC⟩
theorem few14_R (k : Nat) (A0 : Option Addr) (c0 : Nat) (l0 : List S25) (r : List S25) (w : World) (hr0 : Kd.C k25 w A0 l0.length l0) (hc0 : l0.length ≤ c0) (h : foghornlaw14_few.f k l0 = some r) :
    Calls Try.prog 14 #[.slice A0 l0.length c0] w fun e w' => ∃ v, e = .returned v ∧ Kd.R k25 25 w' w.heap.size (fun _ => True) v r ∧ Below w.heap.size w w' :=
  (foghornlaw14_few.calls k A0 c0 l0 r w hr0 hc0 h).mono fun e w' ⟨v, he, hS, hb⟩ => ⟨v, he, Kd.S_R hS, hb⟩
theorem cut15_R (A2 : Option Addr) (c2 : Nat) (h : S25) (w : World) (hr : Kd.C k88 w A2 h.f2.length h.f2) (hc : h.f2.length ≤ c2) :
    Calls Try.prog 15 #[.agg #[.int .i64 h.f0, .int .i64 h.f1, .slice A2 h.f2.length c2]] w fun e w' => ∃ v, e = .returned (.agg #[.int .i64 (cutH h).f0, .int .i64 (cutH h).f1, v]) ∧ Kd.R k88 88 w' w.heap.size (fun _ => True) v (cutH h).f2 ∧ Below w.heap.size w w' :=
  foghornlaw14_cut.calls 30 h.f0 h.f1 A2 c2 h.f2 h.f0 h.f1 ((h.f2.take 6).map cutM) w hr hc (cut_is 30 (by omega) h.f0 h.f1 h.f2)
set_option maxHeartbeats 8000000 in
set_option maxRecDepth 100000 in
theorem adds_no (k : Nat) (A0 : Option Addr) (c0 : Nat) (l0 : List S25) (h : S25) (A2 : Option Addr) (c2 : Nat) (A1 : Option Addr) (c1 : Nat) (l1 : List S92) (now lt : Int) (w : World) (hr0 : Kd.C k25 w A0 l0.length l0) (hc0 : l0.length ≤ c0) (hr2 : Kd.C k88 w A2 h.f2.length h.f2) (hc2 : h.f2.length ≤ c2) (hr1 : Kd.C k92 w A1 l1.length l1) (hc1 : l1.length ≤ c1)
    (q : List S25) (L : List S92) (b : S25) (hq : foghornlaw14_few.f k l0 = some q) (hL : l1.take 5 = L) (hb : cutH h = b) (hql : q.length ≤ 10)
    (E : Int) (hE1 : (E != 0) = true) (hE2 : (E == 0) = false) (hE3 : ¬ E = 0) (hA : ∀ (Aq : Option Addr) (cq : Nat) (A3 : Option Addr) (c3 : Nat) (W : World), Kd.C k25 W Aq q.length q → Kd.C k88 W A3 b.f2.length b.f2 → b.f2.length ≤ c3 → Calls Try.prog 17 #[.slice Aq q.length cq, .agg #[.int .i64 b.f0, .int .i64 b.f1, .slice A3 b.f2.length c3], .int .i64 now] W fun e w' => e = .returned (.tuple #[.slice none 0 0, .int .i64 E]) ∧ Below W.heap.size W w') :
    Calls Try.prog 5 #[.slice A0 l0.length c0, .agg #[.int .i64 h.f0, .int .i64 h.f1, .slice A2 h.f2.length c2], .slice A1 l1.length c1, .int .i64 now, .int .i64 lt] w fun e w' => e = .returned (.bool true) ∧ Below w.heap.size w w' := by
  have HR0 := Aside0.mk hr0
  have HC0 := Aside0.mk hc0
  have HR2 := Aside0.mk hr2
  have HC2 := Aside0.mk hc2
  have HC1 := Aside0.mk hc1
  have HQL := Aside0.mk hql
  have HRX := Aside0.mk (take5 hr1 hL)
  have HM1 := Aside0.mk hr1.2.1
  have HQ := Aside0.mk hq
  have HLL := Aside0.mk (show (l1.take 5).length = L.length by rw [hL])
  have H15 := Aside0.mk (fun W (hw : Below w.heap.size w W) => cut15_R A2 c2 h W (Kd.C_below hr2 hw) hc2)
  rw [hb] at H15
  have HA := Aside0.mk hA
  clear hr0 hc0 hr2 hc2 hr1 hc1 hq hL hb hql hA
  have H16 := Aside0.mk (fun W => some16 A1 c1 l1 W HC1.out HM1.out)
  rw [HLL.out] at H16
  have H14 := Aside0.mk (fun W (hb : Below w.heap.size w W) => few14_R k A0 c0 l0 q W (Kd.C_below HR0.out hb) HC0.out HQ.out)
  have HF0 := Aside0.mk (((Fr.Frame.start w).alloc [.int .i64 h.f0, .int .i64 h.f1, .slice A2 h.f2.length c2] 25).drew)
  go_enter Try.func5, Try.ntmps5
  go_wp2
  go_region_with (first | (go_at_call 14; refine (H14.out _ HF0.out.below).mono ?_; rintro e W14 ⟨v, rfl, hR, hb⟩; obtain ⟨S, hF1⟩ := HF0.out.callR hb hR; have HF1 := Aside0.mk hF1; clear hF1 hb; obtain ⟨Aq, cq, rfl, hcq, hCq⟩ := Kd.R_reads hR; clear hR hcq hCq; have HD1 := HF1.out.cells; simp only [Fr.Cells, List.length_cons, List.length_nil, Nat.reduceAdd, and_true] at HD1) | (go_at_call 15; refine (H15.out _ HF1.out.below).mono ?_; rintro e W15 ⟨v, rfl, hR, hb⟩; obtain ⟨S2, hF1⟩ := HF1.out.callR hb hR; have HF2 := Aside0.mk hF1; clear hF1 hb HD1; obtain ⟨A3, c3, rfl, hc3, hC3⟩ := Kd.R_reads hR; clear hR hc3 hC3; have HD2 := HF2.out.cells; simp only [Fr.Cells, List.length_cons, List.length_nil, Nat.reduceAdd, and_true] at HD2) | (go_at_call 16; refine (H16.out _).mono ?_; rintro e W' ⟨rfl, rfl⟩))
  all_goals
    have hF1 : Fr.Frame w (((W15.setCell ⟨w.heap.size, 0, none⟩ (.int .i64 b.f0)).setCell ⟨w.heap.size, 1, none⟩ (.int .i64 b.f1)).setCell ⟨w.heap.size, 2, none⟩ (.slice A3 b.f2.length c3)) [(w.heap.size, [.int .i64 b.f0, .int .i64 b.f1, .slice A3 b.f2.length c3], 25)] _ := HF2.out.put (Fr.Spot.here _ _) 0 [.int .i64 b.f0, .int .i64 b.f1, .slice A3 b.f2.length c3] (by simp)
    obtain ⟨Wf, hWf⟩ : ∃ Wf, (((W15.setCell ⟨w.heap.size, 0, none⟩ (.int .i64 b.f0)).setCell ⟨w.heap.size, 1, none⟩ (.int .i64 b.f1)).setCell ⟨w.heap.size, 2, none⟩ (.slice A3 b.f2.length c3)) = Wf := ⟨_, rfl⟩
    rw [hWf] at hF1 ⊢
    clear hWf HD2 HF1 HF2 HF0
    have hF : True := trivial
    have HC : True := trivial
    have HC1 := hF1.cells; simp only [Fr.Cells, List.length_cons, List.length_nil, Nat.reduceAdd, and_true] at HC1; clear hF HC; have HC := HC1; have hF := Aside0.mk hF1; clear hF1 HC1
    go_wp2_with (first | ((with_reducible refine gate_store rfl ?_); apply Fr.fr_store hF.out rfl rfl rfl; (case hp => rfl); (case hx => first | (go_simp; rfl) | rfl); (case hu => (simp only [Value.cells]; rfl)); (case hs => (repeat (first | exact Fr.Spot.here _ _ | apply Fr.Spot.there))); (case ht => kernel_rfl); (case h1 => simp [Value.oneCell']); (case hfit => simp); intro W hF1; simp only [Fr.patch, List.take_zero, List.nil_append, List.drop, List.append_nil, List.take, List.cons_append, List.length_cons, List.length_nil, Nat.reduceAdd] at hF1; have HC1 := hF1.cells; simp only [Fr.Cells, List.length_cons, List.length_nil, Nat.reduceAdd, and_true] at HC1; clear hF HC; have HC := HC1; have hF := Aside0.mk hF1; clear hF1 HC1) | ((first | (with_reducible refine Fr.gate_alloc rfl ?_) | (with_reducible refine Fr.gate_box rfl ?_)); apply Fr.fr_box hF.out rfl; (case hrun => first | (go_simp; done) | (go_simp; rfl)); intro g W hF1; have HC1 := hF1.cells; simp only [Fr.Cells, List.length_cons, List.length_nil, Nat.reduceAdd, and_true] at HC1; clear hF HC; have HC := HC1; have hF := Aside0.mk hF1; clear hF1 HC1))
    have HQC := Aside0.mk (row_C hF.out (List.mem_cons_of_mem _ List.mem_cons_self))
    have HBC := Aside0.mk (row_C hF.out List.mem_cons_self)
    (with_reducible refine (HA.out Aq cq A3 c3 _ HQC.out.2 HBC.out.2 HBC.out.1).mono ?_)
    rintro e W ⟨rfl, hb⟩
    have hF1 := hF.out.call hb
    clear hb
    have HC1 := hF1.cells; simp only [Fr.Cells, List.length_cons, List.length_nil, Nat.reduceAdd, and_true] at HC1; clear hF HC; have HC := HC1; have hF := Aside0.mk hF1; clear hF1 HC1
    go_wp2_with (first | ((with_reducible refine gate_store rfl ?_); apply Fr.fr_store hF.out rfl rfl rfl; (case hp => rfl); (case hx => first | (go_simp; rfl) | rfl); (case hu => (simp only [Value.cells]; rfl)); (case hs => (repeat (first | exact Fr.Spot.here _ _ | apply Fr.Spot.there))); (case ht => kernel_rfl); (case h1 => simp [Value.oneCell']); (case hfit => simp); intro W hF1; simp only [Fr.patch, List.take_zero, List.nil_append, List.drop, List.append_nil, List.take, List.cons_append, List.length_cons, List.length_nil, Nat.reduceAdd] at hF1; have HC1 := hF1.cells; simp only [Fr.Cells, List.length_cons, List.length_nil, Nat.reduceAdd, and_true] at HC1; clear hF HC; have HC := HC1; have hF := Aside0.mk hF1; clear hF1 HC1) | ((first | (with_reducible refine Fr.gate_alloc rfl ?_) | (with_reducible refine Fr.gate_box rfl ?_)); apply Fr.fr_box hF.out rfl; (case hrun => first | (go_simp; done) | (go_simp; rfl)); intro g W hF1; have HC1 := hF1.cells; simp only [Fr.Cells, List.length_cons, List.length_nil, Nat.reduceAdd, and_true] at HC1; clear hF HC; have HC := HC1; have hF := Aside0.mk hF1; clear hF1 HC1))
    (with_reducible refine (alive_calls _).mono ?_); rintro e W ⟨rfl, hb⟩; have hF1 := hF.out.call hb; clear hb; have HC1 := hF1.cells; simp only [Fr.Cells, List.length_cons, List.length_nil, Nat.reduceAdd, and_true] at HC1; clear hF HC; have HC := HC1; have hF := Aside0.mk hF1; clear hF1 HC1
    go_wp2_with (first | ((with_reducible refine gate_store rfl ?_); apply Fr.fr_store hF.out rfl rfl rfl; (case hp => rfl); (case hx => first | (go_simp; rfl) | rfl); (case hu => (simp only [Value.cells]; rfl)); (case hs => (repeat (first | exact Fr.Spot.here _ _ | apply Fr.Spot.there))); (case ht => kernel_rfl); (case h1 => simp [Value.oneCell']); (case hfit => simp); intro W hF1; simp only [Fr.patch, List.take_zero, List.nil_append, List.drop, List.append_nil, List.take, List.cons_append, List.length_cons, List.length_nil, Nat.reduceAdd] at hF1; have HC1 := hF1.cells; simp only [Fr.Cells, List.length_cons, List.length_nil, Nat.reduceAdd, and_true] at HC1; clear hF HC; have HC := HC1; have hF := Aside0.mk hF1; clear hF1 HC1) | ((first | (with_reducible refine Fr.gate_alloc rfl ?_) | (with_reducible refine Fr.gate_box rfl ?_)); apply Fr.fr_box hF.out rfl; (case hrun => first | (go_simp; done) | (go_simp; rfl)); intro g W hF1; have HC1 := hF1.cells; simp only [Fr.Cells, List.length_cons, List.length_nil, Nat.reduceAdd, and_true] at HC1; clear hF HC; have HC := HC1; have hF := Aside0.mk hF1; clear hF1 HC1))
    go_ret
    exact ⟨rfl, hF.out.below⟩
set_option maxHeartbeats 8000000 in
set_option maxRecDepth 100000 in
theorem adds_yes (k : Nat) (A0 : Option Addr) (c0 : Nat) (l0 : List S25) (h : S25) (A2 : Option Addr) (c2 : Nat) (A1 : Option Addr) (c1 : Nat) (l1 : List S92) (now lt : Int) (w : World) (hr0 : Kd.C k25 w A0 l0.length l0) (hc0 : l0.length ≤ c0) (hr2 : Kd.C k88 w A2 h.f2.length h.f2) (hc2 : h.f2.length ≤ c2) (hr1 : Kd.C k92 w A1 l1.length l1) (hc1 : l1.length ≤ c1)
    (q : List S25) (L : List S92) (b : S25) (hq : foghornlaw14_few.f k l0 = some q) (hL : l1.take 5 = L) (hb : cutH h = b) (hql : q.length ≤ 10)
    (T : List S25) (hA : ∀ (Aq : Option Addr) (cq : Nat) (A3 : Option Addr) (c3 : Nat) (W : World), Kd.C k25 W Aq q.length q → Kd.C k88 W A3 b.f2.length b.f2 → b.f2.length ≤ c3 → Calls Try.prog 17 #[.slice Aq q.length cq, .agg #[.int .i64 b.f0, .int .i64 b.f1, .slice A3 b.f2.length c3], .int .i64 now] W fun e w' => ∃ A c, e = .returned (.tuple #[.slice A T.length c, .int .i64 0]) ∧ T.length ≤ c ∧ Kd.C k25 w' A T.length T ∧ Below W.heap.size W w') (hn0 : 0 ≤ now) (hn1 : now ≤ 1099511627776) (u : Int) (hu : wrap64 (now + wrap64 (Int.tmod (IntKind.u64.wrap lt) (1099511627776 - now + 1))) = u) (hlen : T.length ≤ q.length + 1) (hright : hushesB T = true) (w2 : Bool) (hm1 : mayE q L u = 0) (hm2 : mayE [b] L u = 0) (hm3 : mayE T L u = 0) (ha1 : activeV q L u = true) (ha2 : activeV [b] L u = w2) (ha3 : activeV T L u = true) :
    Calls Try.prog 5 #[.slice A0 l0.length c0, .agg #[.int .i64 h.f0, .int .i64 h.f1, .slice A2 h.f2.length c2], .slice A1 l1.length c1, .int .i64 now, .int .i64 lt] w fun e w' => e = .returned (.bool true) ∧ Below w.heap.size w w' := by
  have HR0 := Aside0.mk hr0
  have HC0 := Aside0.mk hc0
  have HR2 := Aside0.mk hr2
  have HC2 := Aside0.mk hc2
  have HC1 := Aside0.mk hc1
  have HQL := Aside0.mk hql
  have HRX := Aside0.mk (take5 hr1 hL)
  have HM1 := Aside0.mk hr1.2.1
  have HQ := Aside0.mk hq
  have HLL := Aside0.mk (show (l1.take 5).length = L.length by rw [hL])
  have H15 := Aside0.mk (fun W (hw : Below w.heap.size w W) => cut15_R A2 c2 h W (Kd.C_below hr2 hw) hc2)
  rw [hb] at H15
  have HA := Aside0.mk hA
  have Hlen := Aside0.mk hlen
  have Hright := Aside0.mk hright
  have Hm1 := Aside0.mk hm1
  have Hm2 := Aside0.mk hm2
  have Hm3 := Aside0.mk hm3
  have Ha1 := Aside0.mk ha1
  have Ha2 := Aside0.mk ha2
  have Ha3 := Aside0.mk ha3
  clear hr0 hc0 hr2 hc2 hr1 hc1 hq hL hb hql hA hlen hright hm1 hm2 hm3 ha1 ha2 ha3
  have H16 := Aside0.mk (fun W => some16 A1 c1 l1 W HC1.out HM1.out)
  rw [HLL.out] at H16
  have H14 := Aside0.mk (fun W (hb : Below w.heap.size w W) => few14_R k A0 c0 l0 q W (Kd.C_below HR0.out hb) HC0.out HQ.out)
  have HF0 := Aside0.mk (((Fr.Frame.start w).alloc [.int .i64 h.f0, .int .i64 h.f1, .slice A2 h.f2.length c2] 25).drew)
  go_enter Try.func5, Try.ntmps5
  go_wp2
  go_region_with (first | (go_at_call 14; refine (H14.out _ HF0.out.below).mono ?_; rintro e W14 ⟨v, rfl, hR, hb⟩; obtain ⟨S, hF1⟩ := HF0.out.callR hb hR; have HF1 := Aside0.mk hF1; clear hF1 hb; obtain ⟨Aq, cq, rfl, hcq, hCq⟩ := Kd.R_reads hR; clear hR hcq hCq; have HD1 := HF1.out.cells; simp only [Fr.Cells, List.length_cons, List.length_nil, Nat.reduceAdd, and_true] at HD1) | (go_at_call 15; refine (H15.out _ HF1.out.below).mono ?_; rintro e W15 ⟨v, rfl, hR, hb⟩; obtain ⟨S2, hF1⟩ := HF1.out.callR hb hR; have HF2 := Aside0.mk hF1; clear hF1 hb HD1; obtain ⟨A3, c3, rfl, hc3, hC3⟩ := Kd.R_reads hR; clear hR hc3 hC3; have HD2 := HF2.out.cells; simp only [Fr.Cells, List.length_cons, List.length_nil, Nat.reduceAdd, and_true] at HD2) | (go_at_call 16; refine (H16.out _).mono ?_; rintro e W' ⟨rfl, rfl⟩))
  all_goals
    have hF1 : Fr.Frame w (((W15.setCell ⟨w.heap.size, 0, none⟩ (.int .i64 b.f0)).setCell ⟨w.heap.size, 1, none⟩ (.int .i64 b.f1)).setCell ⟨w.heap.size, 2, none⟩ (.slice A3 b.f2.length c3)) [(w.heap.size, [.int .i64 b.f0, .int .i64 b.f1, .slice A3 b.f2.length c3], 25)] _ := HF2.out.put (Fr.Spot.here _ _) 0 [.int .i64 b.f0, .int .i64 b.f1, .slice A3 b.f2.length c3] (by simp)
    obtain ⟨Wf, hWf⟩ : ∃ Wf, (((W15.setCell ⟨w.heap.size, 0, none⟩ (.int .i64 b.f0)).setCell ⟨w.heap.size, 1, none⟩ (.int .i64 b.f1)).setCell ⟨w.heap.size, 2, none⟩ (.slice A3 b.f2.length c3)) = Wf := ⟨_, rfl⟩
    rw [hWf] at hF1 ⊢
    clear hWf HD2 HF1 HF2 HF0
    have hF : True := trivial
    have HC : True := trivial
    have HC1 := hF1.cells; simp only [Fr.Cells, List.length_cons, List.length_nil, Nat.reduceAdd, and_true] at HC1; clear hF HC; have HC := HC1; have hF := Aside0.mk hF1; clear hF1 HC1
    go_wp2_with (first | ((with_reducible refine gate_store rfl ?_); apply Fr.fr_store hF.out rfl rfl rfl; (case hp => rfl); (case hx => first | (go_simp; rfl) | rfl); (case hu => (simp only [Value.cells]; rfl)); (case hs => (repeat (first | exact Fr.Spot.here _ _ | apply Fr.Spot.there))); (case ht => kernel_rfl); (case h1 => simp [Value.oneCell']); (case hfit => simp); intro W hF1; simp only [Fr.patch, List.take_zero, List.nil_append, List.drop, List.append_nil, List.take, List.cons_append, List.length_cons, List.length_nil, Nat.reduceAdd] at hF1; have HC1 := hF1.cells; simp only [Fr.Cells, List.length_cons, List.length_nil, Nat.reduceAdd, and_true] at HC1; clear hF HC; have HC := HC1; have hF := Aside0.mk hF1; clear hF1 HC1) | ((first | (with_reducible refine Fr.gate_alloc rfl ?_) | (with_reducible refine Fr.gate_box rfl ?_)); apply Fr.fr_box hF.out rfl; (case hrun => first | (go_simp; done) | (go_simp; rfl)); intro g W hF1; have HC1 := hF1.cells; simp only [Fr.Cells, List.length_cons, List.length_nil, Nat.reduceAdd, and_true] at HC1; clear hF HC; have HC := HC1; have hF := Aside0.mk hF1; clear hF1 HC1))
    have HQC := Aside0.mk (row_C hF.out (List.mem_cons_of_mem _ List.mem_cons_self))
    have HBC := Aside0.mk (row_C hF.out List.mem_cons_self)
    (with_reducible refine (HA.out Aq cq A3 c3 _ HQC.out.2 HBC.out.2 HBC.out.1).mono ?_)
    rintro e W ⟨A4, c4, rfl, hc4, hC4, hb⟩
    have hF1 := hF.out.call hb
    clear hb hc4
    have HT0 := Aside0.mk hC4
    clear hC4
    have HC1 := hF1.cells; simp only [Fr.Cells, List.length_cons, List.length_nil, Nat.reduceAdd, and_true] at HC1; clear hF HC; have HC := HC1; have hF := Aside0.mk hF1; clear hF1 HC1
    go_wp2_with (first | ((with_reducible refine gate_store rfl ?_); apply Fr.fr_store hF.out rfl rfl rfl; (case hp => rfl); (case hx => first | (go_simp; rfl) | rfl); (case hu => (simp only [Value.cells]; rfl)); (case hs => (repeat (first | exact Fr.Spot.here _ _ | apply Fr.Spot.there))); (case ht => kernel_rfl); (case h1 => simp [Value.oneCell']); (case hfit => simp); intro W hF1; simp only [Fr.patch, List.take_zero, List.nil_append, List.drop, List.append_nil, List.take, List.cons_append, List.length_cons, List.length_nil, Nat.reduceAdd] at hF1; have HC1 := hF1.cells; simp only [Fr.Cells, List.length_cons, List.length_nil, Nat.reduceAdd, and_true] at HC1; clear hF HC; have HC := HC1; have hF := Aside0.mk hF1; clear hF1 HC1) | ((first | (with_reducible refine Fr.gate_alloc rfl ?_) | (with_reducible refine Fr.gate_box rfl ?_)); apply Fr.fr_box hF.out rfl; (case hrun => first | (go_simp; done) | (go_simp; rfl)); intro g W hF1; have HC1 := hF1.cells; simp only [Fr.Cells, List.length_cons, List.length_nil, Nat.reduceAdd, and_true] at HC1; clear hF HC; have HC := HC1; have hF := Aside0.mk hF1; clear hF1 HC1))
    (try rw [hu])
    (with_reducible refine (active_calls Aq cq q A1 c1 L u _ (row_C hF.out (List.mem_cons_of_mem _ List.mem_cons_self)).2 (Kd.C_below HRX.out hF.out.below)).mono ?_)
    rintro e W ⟨rfl, hb⟩
    have hF1 := hF.out.call hb
    have HT1 := Aside0.mk (Kd.C_below HT0.out hb)
    clear hb HT0
    have HC1 := hF1.cells; simp only [Fr.Cells, List.length_cons, List.length_nil, Nat.reduceAdd, and_true] at HC1; clear hF HC; have HC := HC1; have hF := Aside0.mk hF1; clear hF1 HC1
    simp only [Hm1.out, Ha1.out]
    go_wp2_with fail
    have hF3 := hF.out.alloc [.int .i64 b.f0, .int .i64 b.f1, .slice A3 b.f2.length c3] 25
    have hO : Kd.C k25 _ (some ⟨W.heap.size, 0, none⟩) 1 [b] := C_mem hF3 List.mem_cons_self (k25_mk _ b HBC.out.1 (row_C hF3 List.mem_cons_self).2)
    have hh := active_calls (some ⟨W.heap.size, 0, none⟩) 1 [b] A1 c1 L u _ hO (Kd.C_below HRX.out hF3.below)
    simp only [List.length_cons, List.length_nil, Nat.zero_add, Nat.reduceAdd] at hh
    rw [Hm2.out, Ha2.out] at hh
    have HH := Aside0.mk hh
    have HT2 := Aside0.mk (Kd.C_below HT1.out ((Below.refl _ W).alloc (Nat.le_refl _) (.cells #[.int .i64 b.f0, .int .i64 b.f1, .slice A3 b.f2.length c3] 25)))
    have HF3 := Aside0.mk hF3
    clear hF3 hO hh HT1 hF
    (with_reducible refine HH.out.mono ?_)
    rintro e W2 ⟨rfl, hb⟩
    have hF1 := HF3.out.call hb
    have HT3 := Aside0.mk (Kd.C_below HT2.out hb)
    clear hb HT2 HH HF3
    have hF : True := trivial
    have HC1 := hF1.cells; simp only [Fr.Cells, List.length_cons, List.length_nil, Nat.reduceAdd, and_true] at HC1; clear hF HC; have HC := HC1; have hF := Aside0.mk hF1; clear hF1 HC1
    go_wp2_with (first | ((with_reducible refine gate_store rfl ?_); apply Fr.fr_store hF.out rfl rfl rfl; (case hp => rfl); (case hx => first | (go_simp; rfl) | rfl); (case hu => (simp only [Value.cells]; rfl)); (case hs => (repeat (first | exact Fr.Spot.here _ _ | apply Fr.Spot.there))); (case ht => kernel_rfl); (case h1 => simp [Value.oneCell']); (case hfit => simp); intro W hF1; simp only [Fr.patch, List.take_zero, List.nil_append, List.drop, List.append_nil, List.take, List.cons_append, List.length_cons, List.length_nil, Nat.reduceAdd] at hF1; have HC1 := hF1.cells; simp only [Fr.Cells, List.length_cons, List.length_nil, Nat.reduceAdd, and_true] at HC1; clear hF HC; have HC := HC1; have hF := Aside0.mk hF1; clear hF1 HC1) | ((first | (with_reducible refine Fr.gate_alloc rfl ?_) | (with_reducible refine Fr.gate_box rfl ?_)); apply Fr.fr_box hF.out rfl; (case hrun => first | (go_simp; done) | (go_simp; rfl)); intro g W hF1; have HC1 := hF1.cells; simp only [Fr.Cells, List.length_cons, List.length_nil, Nat.reduceAdd, and_true] at HC1; clear hF HC; have HC := HC1; have hF := Aside0.mk hF1; clear hF1 HC1))
    (with_reducible refine (active_calls A4 c4 T A1 c1 L u _ HT3.out (Kd.C_below HRX.out hF.out.below)).mono ?_)
    rintro e W3 ⟨rfl, hb⟩
    have hF1 := hF.out.call hb
    have HT4 := Aside0.mk (Kd.C_below HT3.out hb)
    clear hb HT3
    have HC1 := hF1.cells; simp only [Fr.Cells, List.length_cons, List.length_nil, Nat.reduceAdd, and_true] at HC1; clear hF HC; have HC := HC1; have hF := Aside0.mk hF1; clear hF1 HC1
    simp only [Hm3.out, Ha3.out]
    go_wp2_with (first | ((with_reducible refine gate_store rfl ?_); apply Fr.fr_store hF.out rfl rfl rfl; (case hp => rfl); (case hx => first | (go_simp; rfl) | rfl); (case hu => (simp only [Value.cells]; rfl)); (case hs => (repeat (first | exact Fr.Spot.here _ _ | apply Fr.Spot.there))); (case ht => kernel_rfl); (case h1 => simp [Value.oneCell']); (case hfit => simp); intro W hF1; simp only [Fr.patch, List.take_zero, List.nil_append, List.drop, List.append_nil, List.take, List.cons_append, List.length_cons, List.length_nil, Nat.reduceAdd] at hF1; have HC1 := hF1.cells; simp only [Fr.Cells, List.length_cons, List.length_nil, Nat.reduceAdd, and_true] at HC1; clear hF HC; have HC := HC1; have hF := Aside0.mk hF1; clear hF1 HC1) | ((first | (with_reducible refine Fr.gate_alloc rfl ?_) | (with_reducible refine Fr.gate_box rfl ?_)); apply Fr.fr_box hF.out rfl; (case hrun => first | (go_simp; done) | (go_simp; rfl)); intro g W hF1; have HC1 := hF1.cells; simp only [Fr.Cells, List.length_cons, List.length_nil, Nat.reduceAdd, and_true] at HC1; clear hF HC; have HC := HC1; have hF := Aside0.mk hF1; clear hF1 HC1))
    have hq10 := HQL.out
    have hlen := Hlen.out
    have hlenI : (T.length : Int) ≤ (q.length : Int) + 1 := by omega
    have hww : ∀ x : Bool, (x == x) = true := fun x => by cases x <;> rfl
    (with_reducible refine (alive_calls _).mono ?_)
    rintro e W4 ⟨rfl, hb⟩
    have hF1 := hF.out.call hb
    have HT5 := Aside0.mk (Kd.C_below HT4.out hb)
    clear hb HT4
    have HC1 := hF1.cells; simp only [Fr.Cells, List.length_cons, List.length_nil, Nat.reduceAdd, and_true] at HC1; clear hF HC; have HC := HC1; have hF := Aside0.mk hF1; clear hF1 HC1
    go_wp2_with (first | ((with_reducible refine gate_store rfl ?_); apply Fr.fr_store hF.out rfl rfl rfl; (case hp => rfl); (case hx => first | (go_simp; rfl) | rfl); (case hu => (simp only [Value.cells]; rfl)); (case hs => (repeat (first | exact Fr.Spot.here _ _ | apply Fr.Spot.there))); (case ht => kernel_rfl); (case h1 => simp [Value.oneCell']); (case hfit => simp); intro W hF1; simp only [Fr.patch, List.take_zero, List.nil_append, List.drop, List.append_nil, List.take, List.cons_append, List.length_cons, List.length_nil, Nat.reduceAdd] at hF1; have HC1 := hF1.cells; simp only [Fr.Cells, List.length_cons, List.length_nil, Nat.reduceAdd, and_true] at HC1; clear hF HC; have HC := HC1; have hF := Aside0.mk hF1; clear hF1 HC1) | ((first | (with_reducible refine Fr.gate_alloc rfl ?_) | (with_reducible refine Fr.gate_box rfl ?_)); apply Fr.fr_box hF.out rfl; (case hrun => first | (go_simp; done) | (go_simp; rfl)); intro g W hF1; have HC1 := hF1.cells; simp only [Fr.Cells, List.length_cons, List.length_nil, Nat.reduceAdd, and_true] at HC1; clear hF HC; have HC := HC1; have hF := Aside0.mk hF1; clear hF1 HC1))
    (with_reducible refine (hushRight_calls A4 c4 T _ HT5.out).mono ?_); rintro e W ⟨rfl, hb⟩; have hF1 := hF.out.call hb; clear hb; have HC1 := hF1.cells; simp only [Fr.Cells, List.length_cons, List.length_nil, Nat.reduceAdd, and_true] at HC1; clear hF HC; have HC := HC1; have hF := Aside0.mk hF1; clear hF1 HC1
    simp only [Hright.out]
    go_wp2_with (first | ((with_reducible refine gate_store rfl ?_); apply Fr.fr_store hF.out rfl rfl rfl; (case hp => rfl); (case hx => first | (go_simp; rfl) | rfl); (case hu => (simp only [Value.cells]; rfl)); (case hs => (repeat (first | exact Fr.Spot.here _ _ | apply Fr.Spot.there))); (case ht => kernel_rfl); (case h1 => simp [Value.oneCell']); (case hfit => simp); intro W hF1; simp only [Fr.patch, List.take_zero, List.nil_append, List.drop, List.append_nil, List.take, List.cons_append, List.length_cons, List.length_nil, Nat.reduceAdd] at hF1; have HC1 := hF1.cells; simp only [Fr.Cells, List.length_cons, List.length_nil, Nat.reduceAdd, and_true] at HC1; clear hF HC; have HC := HC1; have hF := Aside0.mk hF1; clear hF1 HC1) | ((first | (with_reducible refine Fr.gate_alloc rfl ?_) | (with_reducible refine Fr.gate_box rfl ?_)); apply Fr.fr_box hF.out rfl; (case hrun => first | (go_simp; done) | (go_simp; rfl)); intro g W hF1; have HC1 := hF1.cells; simp only [Fr.Cells, List.length_cons, List.length_nil, Nat.reduceAdd, and_true] at HC1; clear hF HC; have HC := HC1; have hF := Aside0.mk hF1; clear hF1 HC1))
    go_ret
    exact ⟨rfl, hF.out.below⟩
set_option maxHeartbeats 8000000 in
set_option maxRecDepth 100000 in
theorem adds_not (k : Nat) (A0 : Option Addr) (c0 : Nat) (l0 : List S25) (h : S25) (A2 : Option Addr) (c2 : Nat) (A1 : Option Addr) (c1 : Nat) (l1 : List S92) (now lt : Int) (w : World) (hr0 : Kd.C k25 w A0 l0.length l0) (hc0 : l0.length ≤ c0) (hr2 : Kd.C k88 w A2 h.f2.length h.f2) (hc2 : h.f2.length ≤ c2) (hr1 : Kd.C k92 w A1 l1.length l1) (hc1 : l1.length ≤ c1)
    (q : List S25) (L : List S92) (b : S25) (hq : foghornlaw14_few.f k l0 = some q) (hL : l1.take 5 = L) (hb : cutH h = b) (hql : q.length ≤ 10)
    (T : List S25) (hA : ∀ (Aq : Option Addr) (cq : Nat) (A3 : Option Addr) (c3 : Nat) (W : World), Kd.C k25 W Aq q.length q → Kd.C k88 W A3 b.f2.length b.f2 → b.f2.length ≤ c3 → Calls Try.prog 17 #[.slice Aq q.length cq, .agg #[.int .i64 b.f0, .int .i64 b.f1, .slice A3 b.f2.length c3], .int .i64 now] W fun e w' => ∃ A c, e = .returned (.tuple #[.slice A T.length c, .int .i64 0]) ∧ T.length ≤ c ∧ Kd.C k25 w' A T.length T ∧ Below W.heap.size W w') (hn0 : 0 ≤ now) (hn1 : now ≤ 1099511627776) (u : Int) (hu : wrap64 (now + wrap64 (Int.tmod (IntKind.u64.wrap lt) (1099511627776 - now + 1))) = u) (hlen : T.length ≤ q.length + 1) (hright : hushesB T = true) (w2 : Bool) (hm1 : mayE q L u = 0) (hm2 : mayE [b] L u = 0) (hm3 : mayE T L u = 0) (ha1 : activeV q L u = false) (ha2 : activeV [b] L u = w2) (ha3 : activeV T L u = w2) :
    Calls Try.prog 5 #[.slice A0 l0.length c0, .agg #[.int .i64 h.f0, .int .i64 h.f1, .slice A2 h.f2.length c2], .slice A1 l1.length c1, .int .i64 now, .int .i64 lt] w fun e w' => e = .returned (.bool true) ∧ Below w.heap.size w w' := by
  have HR0 := Aside0.mk hr0
  have HC0 := Aside0.mk hc0
  have HR2 := Aside0.mk hr2
  have HC2 := Aside0.mk hc2
  have HC1 := Aside0.mk hc1
  have HQL := Aside0.mk hql
  have HRX := Aside0.mk (take5 hr1 hL)
  have HM1 := Aside0.mk hr1.2.1
  have HQ := Aside0.mk hq
  have HLL := Aside0.mk (show (l1.take 5).length = L.length by rw [hL])
  have H15 := Aside0.mk (fun W (hw : Below w.heap.size w W) => cut15_R A2 c2 h W (Kd.C_below hr2 hw) hc2)
  rw [hb] at H15
  have HA := Aside0.mk hA
  have Hlen := Aside0.mk hlen
  have Hright := Aside0.mk hright
  have Hm1 := Aside0.mk hm1
  have Hm2 := Aside0.mk hm2
  have Hm3 := Aside0.mk hm3
  have Ha1 := Aside0.mk ha1
  have Ha2 := Aside0.mk ha2
  have Ha3 := Aside0.mk ha3
  clear hr0 hc0 hr2 hc2 hr1 hc1 hq hL hb hql hA hlen hright hm1 hm2 hm3 ha1 ha2 ha3
  have H16 := Aside0.mk (fun W => some16 A1 c1 l1 W HC1.out HM1.out)
  rw [HLL.out] at H16
  have H14 := Aside0.mk (fun W (hb : Below w.heap.size w W) => few14_R k A0 c0 l0 q W (Kd.C_below HR0.out hb) HC0.out HQ.out)
  have HF0 := Aside0.mk (((Fr.Frame.start w).alloc [.int .i64 h.f0, .int .i64 h.f1, .slice A2 h.f2.length c2] 25).drew)
  go_enter Try.func5, Try.ntmps5
  go_wp2
  go_region_with (first | (go_at_call 14; refine (H14.out _ HF0.out.below).mono ?_; rintro e W14 ⟨v, rfl, hR, hb⟩; obtain ⟨S, hF1⟩ := HF0.out.callR hb hR; have HF1 := Aside0.mk hF1; clear hF1 hb; obtain ⟨Aq, cq, rfl, hcq, hCq⟩ := Kd.R_reads hR; clear hR hcq hCq; have HD1 := HF1.out.cells; simp only [Fr.Cells, List.length_cons, List.length_nil, Nat.reduceAdd, and_true] at HD1) | (go_at_call 15; refine (H15.out _ HF1.out.below).mono ?_; rintro e W15 ⟨v, rfl, hR, hb⟩; obtain ⟨S2, hF1⟩ := HF1.out.callR hb hR; have HF2 := Aside0.mk hF1; clear hF1 hb HD1; obtain ⟨A3, c3, rfl, hc3, hC3⟩ := Kd.R_reads hR; clear hR hc3 hC3; have HD2 := HF2.out.cells; simp only [Fr.Cells, List.length_cons, List.length_nil, Nat.reduceAdd, and_true] at HD2) | (go_at_call 16; refine (H16.out _).mono ?_; rintro e W' ⟨rfl, rfl⟩))
  all_goals
    have hF1 : Fr.Frame w (((W15.setCell ⟨w.heap.size, 0, none⟩ (.int .i64 b.f0)).setCell ⟨w.heap.size, 1, none⟩ (.int .i64 b.f1)).setCell ⟨w.heap.size, 2, none⟩ (.slice A3 b.f2.length c3)) [(w.heap.size, [.int .i64 b.f0, .int .i64 b.f1, .slice A3 b.f2.length c3], 25)] _ := HF2.out.put (Fr.Spot.here _ _) 0 [.int .i64 b.f0, .int .i64 b.f1, .slice A3 b.f2.length c3] (by simp)
    obtain ⟨Wf, hWf⟩ : ∃ Wf, (((W15.setCell ⟨w.heap.size, 0, none⟩ (.int .i64 b.f0)).setCell ⟨w.heap.size, 1, none⟩ (.int .i64 b.f1)).setCell ⟨w.heap.size, 2, none⟩ (.slice A3 b.f2.length c3)) = Wf := ⟨_, rfl⟩
    rw [hWf] at hF1 ⊢
    clear hWf HD2 HF1 HF2 HF0
    have hF : True := trivial
    have HC : True := trivial
    have HC1 := hF1.cells; simp only [Fr.Cells, List.length_cons, List.length_nil, Nat.reduceAdd, and_true] at HC1; clear hF HC; have HC := HC1; have hF := Aside0.mk hF1; clear hF1 HC1
    go_wp2_with (first | ((with_reducible refine gate_store rfl ?_); apply Fr.fr_store hF.out rfl rfl rfl; (case hp => rfl); (case hx => first | (go_simp; rfl) | rfl); (case hu => (simp only [Value.cells]; rfl)); (case hs => (repeat (first | exact Fr.Spot.here _ _ | apply Fr.Spot.there))); (case ht => kernel_rfl); (case h1 => simp [Value.oneCell']); (case hfit => simp); intro W hF1; simp only [Fr.patch, List.take_zero, List.nil_append, List.drop, List.append_nil, List.take, List.cons_append, List.length_cons, List.length_nil, Nat.reduceAdd] at hF1; have HC1 := hF1.cells; simp only [Fr.Cells, List.length_cons, List.length_nil, Nat.reduceAdd, and_true] at HC1; clear hF HC; have HC := HC1; have hF := Aside0.mk hF1; clear hF1 HC1) | ((first | (with_reducible refine Fr.gate_alloc rfl ?_) | (with_reducible refine Fr.gate_box rfl ?_)); apply Fr.fr_box hF.out rfl; (case hrun => first | (go_simp; done) | (go_simp; rfl)); intro g W hF1; have HC1 := hF1.cells; simp only [Fr.Cells, List.length_cons, List.length_nil, Nat.reduceAdd, and_true] at HC1; clear hF HC; have HC := HC1; have hF := Aside0.mk hF1; clear hF1 HC1))
    have HQC := Aside0.mk (row_C hF.out (List.mem_cons_of_mem _ List.mem_cons_self))
    have HBC := Aside0.mk (row_C hF.out List.mem_cons_self)
    (with_reducible refine (HA.out Aq cq A3 c3 _ HQC.out.2 HBC.out.2 HBC.out.1).mono ?_)
    rintro e W ⟨A4, c4, rfl, hc4, hC4, hb⟩
    have hF1 := hF.out.call hb
    clear hb hc4
    have HT0 := Aside0.mk hC4
    clear hC4
    have HC1 := hF1.cells; simp only [Fr.Cells, List.length_cons, List.length_nil, Nat.reduceAdd, and_true] at HC1; clear hF HC; have HC := HC1; have hF := Aside0.mk hF1; clear hF1 HC1
    go_wp2_with (first | ((with_reducible refine gate_store rfl ?_); apply Fr.fr_store hF.out rfl rfl rfl; (case hp => rfl); (case hx => first | (go_simp; rfl) | rfl); (case hu => (simp only [Value.cells]; rfl)); (case hs => (repeat (first | exact Fr.Spot.here _ _ | apply Fr.Spot.there))); (case ht => kernel_rfl); (case h1 => simp [Value.oneCell']); (case hfit => simp); intro W hF1; simp only [Fr.patch, List.take_zero, List.nil_append, List.drop, List.append_nil, List.take, List.cons_append, List.length_cons, List.length_nil, Nat.reduceAdd] at hF1; have HC1 := hF1.cells; simp only [Fr.Cells, List.length_cons, List.length_nil, Nat.reduceAdd, and_true] at HC1; clear hF HC; have HC := HC1; have hF := Aside0.mk hF1; clear hF1 HC1) | ((first | (with_reducible refine Fr.gate_alloc rfl ?_) | (with_reducible refine Fr.gate_box rfl ?_)); apply Fr.fr_box hF.out rfl; (case hrun => first | (go_simp; done) | (go_simp; rfl)); intro g W hF1; have HC1 := hF1.cells; simp only [Fr.Cells, List.length_cons, List.length_nil, Nat.reduceAdd, and_true] at HC1; clear hF HC; have HC := HC1; have hF := Aside0.mk hF1; clear hF1 HC1))
    (try rw [hu])
    (with_reducible refine (active_calls Aq cq q A1 c1 L u _ (row_C hF.out (List.mem_cons_of_mem _ List.mem_cons_self)).2 (Kd.C_below HRX.out hF.out.below)).mono ?_)
    rintro e W ⟨rfl, hb⟩
    have hF1 := hF.out.call hb
    have HT1 := Aside0.mk (Kd.C_below HT0.out hb)
    clear hb HT0
    have HC1 := hF1.cells; simp only [Fr.Cells, List.length_cons, List.length_nil, Nat.reduceAdd, and_true] at HC1; clear hF HC; have HC := HC1; have hF := Aside0.mk hF1; clear hF1 HC1
    simp only [Hm1.out, Ha1.out]
    go_wp2_with fail
    have hF3 := hF.out.alloc [.int .i64 b.f0, .int .i64 b.f1, .slice A3 b.f2.length c3] 25
    have hO : Kd.C k25 _ (some ⟨W.heap.size, 0, none⟩) 1 [b] := C_mem hF3 List.mem_cons_self (k25_mk _ b HBC.out.1 (row_C hF3 List.mem_cons_self).2)
    have hh := active_calls (some ⟨W.heap.size, 0, none⟩) 1 [b] A1 c1 L u _ hO (Kd.C_below HRX.out hF3.below)
    simp only [List.length_cons, List.length_nil, Nat.zero_add, Nat.reduceAdd] at hh
    rw [Hm2.out, Ha2.out] at hh
    have HH := Aside0.mk hh
    have HT2 := Aside0.mk (Kd.C_below HT1.out ((Below.refl _ W).alloc (Nat.le_refl _) (.cells #[.int .i64 b.f0, .int .i64 b.f1, .slice A3 b.f2.length c3] 25)))
    have HF3 := Aside0.mk hF3
    clear hF3 hO hh HT1 hF
    (with_reducible refine HH.out.mono ?_)
    rintro e W2 ⟨rfl, hb⟩
    have hF1 := HF3.out.call hb
    have HT3 := Aside0.mk (Kd.C_below HT2.out hb)
    clear hb HT2 HH HF3
    have hF : True := trivial
    have HC1 := hF1.cells; simp only [Fr.Cells, List.length_cons, List.length_nil, Nat.reduceAdd, and_true] at HC1; clear hF HC; have HC := HC1; have hF := Aside0.mk hF1; clear hF1 HC1
    go_wp2_with (first | ((with_reducible refine gate_store rfl ?_); apply Fr.fr_store hF.out rfl rfl rfl; (case hp => rfl); (case hx => first | (go_simp; rfl) | rfl); (case hu => (simp only [Value.cells]; rfl)); (case hs => (repeat (first | exact Fr.Spot.here _ _ | apply Fr.Spot.there))); (case ht => kernel_rfl); (case h1 => simp [Value.oneCell']); (case hfit => simp); intro W hF1; simp only [Fr.patch, List.take_zero, List.nil_append, List.drop, List.append_nil, List.take, List.cons_append, List.length_cons, List.length_nil, Nat.reduceAdd] at hF1; have HC1 := hF1.cells; simp only [Fr.Cells, List.length_cons, List.length_nil, Nat.reduceAdd, and_true] at HC1; clear hF HC; have HC := HC1; have hF := Aside0.mk hF1; clear hF1 HC1) | ((first | (with_reducible refine Fr.gate_alloc rfl ?_) | (with_reducible refine Fr.gate_box rfl ?_)); apply Fr.fr_box hF.out rfl; (case hrun => first | (go_simp; done) | (go_simp; rfl)); intro g W hF1; have HC1 := hF1.cells; simp only [Fr.Cells, List.length_cons, List.length_nil, Nat.reduceAdd, and_true] at HC1; clear hF HC; have HC := HC1; have hF := Aside0.mk hF1; clear hF1 HC1))
    (with_reducible refine (active_calls A4 c4 T A1 c1 L u _ HT3.out (Kd.C_below HRX.out hF.out.below)).mono ?_)
    rintro e W3 ⟨rfl, hb⟩
    have hF1 := hF.out.call hb
    have HT4 := Aside0.mk (Kd.C_below HT3.out hb)
    clear hb HT3
    have HC1 := hF1.cells; simp only [Fr.Cells, List.length_cons, List.length_nil, Nat.reduceAdd, and_true] at HC1; clear hF HC; have HC := HC1; have hF := Aside0.mk hF1; clear hF1 HC1
    simp only [Hm3.out, Ha3.out]
    go_wp2_with (first | ((with_reducible refine gate_store rfl ?_); apply Fr.fr_store hF.out rfl rfl rfl; (case hp => rfl); (case hx => first | (go_simp; rfl) | rfl); (case hu => (simp only [Value.cells]; rfl)); (case hs => (repeat (first | exact Fr.Spot.here _ _ | apply Fr.Spot.there))); (case ht => kernel_rfl); (case h1 => simp [Value.oneCell']); (case hfit => simp); intro W hF1; simp only [Fr.patch, List.take_zero, List.nil_append, List.drop, List.append_nil, List.take, List.cons_append, List.length_cons, List.length_nil, Nat.reduceAdd] at hF1; have HC1 := hF1.cells; simp only [Fr.Cells, List.length_cons, List.length_nil, Nat.reduceAdd, and_true] at HC1; clear hF HC; have HC := HC1; have hF := Aside0.mk hF1; clear hF1 HC1) | ((first | (with_reducible refine Fr.gate_alloc rfl ?_) | (with_reducible refine Fr.gate_box rfl ?_)); apply Fr.fr_box hF.out rfl; (case hrun => first | (go_simp; done) | (go_simp; rfl)); intro g W hF1; have HC1 := hF1.cells; simp only [Fr.Cells, List.length_cons, List.length_nil, Nat.reduceAdd, and_true] at HC1; clear hF HC; have HC := HC1; have hF := Aside0.mk hF1; clear hF1 HC1))
    have hq10 := HQL.out
    have hlen := Hlen.out
    have hlenI : (T.length : Int) ≤ (q.length : Int) + 1 := by omega
    have hww : ∀ x : Bool, (x == x) = true := fun x => by cases x <;> rfl
    (with_reducible refine (alive_calls _).mono ?_)
    rintro e W4 ⟨rfl, hb⟩
    have hF1 := hF.out.call hb
    have HT5 := Aside0.mk (Kd.C_below HT4.out hb)
    clear hb HT4
    have HC1 := hF1.cells; simp only [Fr.Cells, List.length_cons, List.length_nil, Nat.reduceAdd, and_true] at HC1; clear hF HC; have HC := HC1; have hF := Aside0.mk hF1; clear hF1 HC1
    go_wp2_with (first | ((with_reducible refine gate_store rfl ?_); apply Fr.fr_store hF.out rfl rfl rfl; (case hp => rfl); (case hx => first | (go_simp; rfl) | rfl); (case hu => (simp only [Value.cells]; rfl)); (case hs => (repeat (first | exact Fr.Spot.here _ _ | apply Fr.Spot.there))); (case ht => kernel_rfl); (case h1 => simp [Value.oneCell']); (case hfit => simp); intro W hF1; simp only [Fr.patch, List.take_zero, List.nil_append, List.drop, List.append_nil, List.take, List.cons_append, List.length_cons, List.length_nil, Nat.reduceAdd] at hF1; have HC1 := hF1.cells; simp only [Fr.Cells, List.length_cons, List.length_nil, Nat.reduceAdd, and_true] at HC1; clear hF HC; have HC := HC1; have hF := Aside0.mk hF1; clear hF1 HC1) | ((first | (with_reducible refine Fr.gate_alloc rfl ?_) | (with_reducible refine Fr.gate_box rfl ?_)); apply Fr.fr_box hF.out rfl; (case hrun => first | (go_simp; done) | (go_simp; rfl)); intro g W hF1; have HC1 := hF1.cells; simp only [Fr.Cells, List.length_cons, List.length_nil, Nat.reduceAdd, and_true] at HC1; clear hF HC; have HC := HC1; have hF := Aside0.mk hF1; clear hF1 HC1))
    (with_reducible refine (hushRight_calls A4 c4 T _ HT5.out).mono ?_); rintro e W ⟨rfl, hb⟩; have hF1 := hF.out.call hb; clear hb; have HC1 := hF1.cells; simp only [Fr.Cells, List.length_cons, List.length_nil, Nat.reduceAdd, and_true] at HC1; clear hF HC; have HC := HC1; have hF := Aside0.mk hF1; clear hF1 HC1
    simp only [Hright.out]
    go_wp2_with (first | ((with_reducible refine gate_store rfl ?_); apply Fr.fr_store hF.out rfl rfl rfl; (case hp => rfl); (case hx => first | (go_simp; rfl) | rfl); (case hu => (simp only [Value.cells]; rfl)); (case hs => (repeat (first | exact Fr.Spot.here _ _ | apply Fr.Spot.there))); (case ht => kernel_rfl); (case h1 => simp [Value.oneCell']); (case hfit => simp); intro W hF1; simp only [Fr.patch, List.take_zero, List.nil_append, List.drop, List.append_nil, List.take, List.cons_append, List.length_cons, List.length_nil, Nat.reduceAdd] at hF1; have HC1 := hF1.cells; simp only [Fr.Cells, List.length_cons, List.length_nil, Nat.reduceAdd, and_true] at HC1; clear hF HC; have HC := HC1; have hF := Aside0.mk hF1; clear hF1 HC1) | ((first | (with_reducible refine Fr.gate_alloc rfl ?_) | (with_reducible refine Fr.gate_box rfl ?_)); apply Fr.fr_box hF.out rfl; (case hrun => first | (go_simp; done) | (go_simp; rfl)); intro g W hF1; have HC1 := hF1.cells; simp only [Fr.Cells, List.length_cons, List.length_nil, Nat.reduceAdd, and_true] at HC1; clear hF HC; have HC := HC1; have hF := Aside0.mk hF1; clear hF1 HC1))
    go_ret
    exact ⟨rfl, hF.out.below⟩
set_option maxHeartbeats 8000000 in
set_option maxRecDepth 100000 in
theorem adds_err (k : Nat) (A0 : Option Addr) (c0 : Nat) (l0 : List S25) (h : S25) (A2 : Option Addr) (c2 : Nat) (A1 : Option Addr) (c1 : Nat) (l1 : List S92) (now lt : Int) (w : World) (hr0 : Kd.C k25 w A0 l0.length l0) (hc0 : l0.length ≤ c0) (hr2 : Kd.C k88 w A2 h.f2.length h.f2) (hc2 : h.f2.length ≤ c2) (hr1 : Kd.C k92 w A1 l1.length l1) (hc1 : l1.length ≤ c1)
    (q : List S25) (L : List S92) (b : S25) (hq : foghornlaw14_few.f k l0 = some q) (hL : l1.take 5 = L) (hb : cutH h = b) (hql : q.length ≤ 10)
    (T : List S25) (hA : ∀ (Aq : Option Addr) (cq : Nat) (A3 : Option Addr) (c3 : Nat) (W : World), Kd.C k25 W Aq q.length q → Kd.C k88 W A3 b.f2.length b.f2 → b.f2.length ≤ c3 → Calls Try.prog 17 #[.slice Aq q.length cq, .agg #[.int .i64 b.f0, .int .i64 b.f1, .slice A3 b.f2.length c3], .int .i64 now] W fun e w' => ∃ A c, e = .returned (.tuple #[.slice A T.length c, .int .i64 0]) ∧ T.length ≤ c ∧ Kd.C k25 w' A T.length T ∧ Below W.heap.size W w') (hn0 : 0 ≤ now) (hn1 : now ≤ 1099511627776) (u : Int) (hu : wrap64 (now + wrap64 (Int.tmod (IntKind.u64.wrap lt) (1099511627776 - now + 1))) = u) (hlen : T.length ≤ q.length + 1) (hright : hushesB T = true) (w1 w2 w3 : Bool) (hm1 : mayE q L u = 1) (hm2 : mayE [b] L u = 1) (hm3 : mayE T L u = 1) (ha1 : activeV q L u = w1) (ha2 : activeV [b] L u = w2) (ha3 : activeV T L u = w3) :
    Calls Try.prog 5 #[.slice A0 l0.length c0, .agg #[.int .i64 h.f0, .int .i64 h.f1, .slice A2 h.f2.length c2], .slice A1 l1.length c1, .int .i64 now, .int .i64 lt] w fun e w' => e = .returned (.bool true) ∧ Below w.heap.size w w' := by
  have HR0 := Aside0.mk hr0
  have HC0 := Aside0.mk hc0
  have HR2 := Aside0.mk hr2
  have HC2 := Aside0.mk hc2
  have HC1 := Aside0.mk hc1
  have HQL := Aside0.mk hql
  have HRX := Aside0.mk (take5 hr1 hL)
  have HM1 := Aside0.mk hr1.2.1
  have HQ := Aside0.mk hq
  have HLL := Aside0.mk (show (l1.take 5).length = L.length by rw [hL])
  have H15 := Aside0.mk (fun W (hw : Below w.heap.size w W) => cut15_R A2 c2 h W (Kd.C_below hr2 hw) hc2)
  rw [hb] at H15
  have HA := Aside0.mk hA
  have Hlen := Aside0.mk hlen
  have Hright := Aside0.mk hright
  have Hm1 := Aside0.mk hm1
  have Hm2 := Aside0.mk hm2
  have Hm3 := Aside0.mk hm3
  have Ha1 := Aside0.mk ha1
  have Ha2 := Aside0.mk ha2
  have Ha3 := Aside0.mk ha3
  clear hr0 hc0 hr2 hc2 hr1 hc1 hq hL hb hql hA hlen hright hm1 hm2 hm3 ha1 ha2 ha3
  have H16 := Aside0.mk (fun W => some16 A1 c1 l1 W HC1.out HM1.out)
  rw [HLL.out] at H16
  have H14 := Aside0.mk (fun W (hb : Below w.heap.size w W) => few14_R k A0 c0 l0 q W (Kd.C_below HR0.out hb) HC0.out HQ.out)
  have HF0 := Aside0.mk (((Fr.Frame.start w).alloc [.int .i64 h.f0, .int .i64 h.f1, .slice A2 h.f2.length c2] 25).drew)
  go_enter Try.func5, Try.ntmps5
  go_wp2
  go_region_with (first | (go_at_call 14; refine (H14.out _ HF0.out.below).mono ?_; rintro e W14 ⟨v, rfl, hR, hb⟩; obtain ⟨S, hF1⟩ := HF0.out.callR hb hR; have HF1 := Aside0.mk hF1; clear hF1 hb; obtain ⟨Aq, cq, rfl, hcq, hCq⟩ := Kd.R_reads hR; clear hR hcq hCq; have HD1 := HF1.out.cells; simp only [Fr.Cells, List.length_cons, List.length_nil, Nat.reduceAdd, and_true] at HD1) | (go_at_call 15; refine (H15.out _ HF1.out.below).mono ?_; rintro e W15 ⟨v, rfl, hR, hb⟩; obtain ⟨S2, hF1⟩ := HF1.out.callR hb hR; have HF2 := Aside0.mk hF1; clear hF1 hb HD1; obtain ⟨A3, c3, rfl, hc3, hC3⟩ := Kd.R_reads hR; clear hR hc3 hC3; have HD2 := HF2.out.cells; simp only [Fr.Cells, List.length_cons, List.length_nil, Nat.reduceAdd, and_true] at HD2) | (go_at_call 16; refine (H16.out _).mono ?_; rintro e W' ⟨rfl, rfl⟩))
  all_goals
    have hF1 : Fr.Frame w (((W15.setCell ⟨w.heap.size, 0, none⟩ (.int .i64 b.f0)).setCell ⟨w.heap.size, 1, none⟩ (.int .i64 b.f1)).setCell ⟨w.heap.size, 2, none⟩ (.slice A3 b.f2.length c3)) [(w.heap.size, [.int .i64 b.f0, .int .i64 b.f1, .slice A3 b.f2.length c3], 25)] _ := HF2.out.put (Fr.Spot.here _ _) 0 [.int .i64 b.f0, .int .i64 b.f1, .slice A3 b.f2.length c3] (by simp)
    obtain ⟨Wf, hWf⟩ : ∃ Wf, (((W15.setCell ⟨w.heap.size, 0, none⟩ (.int .i64 b.f0)).setCell ⟨w.heap.size, 1, none⟩ (.int .i64 b.f1)).setCell ⟨w.heap.size, 2, none⟩ (.slice A3 b.f2.length c3)) = Wf := ⟨_, rfl⟩
    rw [hWf] at hF1 ⊢
    clear hWf HD2 HF1 HF2 HF0
    have hF : True := trivial
    have HC : True := trivial
    have HC1 := hF1.cells; simp only [Fr.Cells, List.length_cons, List.length_nil, Nat.reduceAdd, and_true] at HC1; clear hF HC; have HC := HC1; have hF := Aside0.mk hF1; clear hF1 HC1
    go_wp2_with (first | ((with_reducible refine gate_store rfl ?_); apply Fr.fr_store hF.out rfl rfl rfl; (case hp => rfl); (case hx => first | (go_simp; rfl) | rfl); (case hu => (simp only [Value.cells]; rfl)); (case hs => (repeat (first | exact Fr.Spot.here _ _ | apply Fr.Spot.there))); (case ht => kernel_rfl); (case h1 => simp [Value.oneCell']); (case hfit => simp); intro W hF1; simp only [Fr.patch, List.take_zero, List.nil_append, List.drop, List.append_nil, List.take, List.cons_append, List.length_cons, List.length_nil, Nat.reduceAdd] at hF1; have HC1 := hF1.cells; simp only [Fr.Cells, List.length_cons, List.length_nil, Nat.reduceAdd, and_true] at HC1; clear hF HC; have HC := HC1; have hF := Aside0.mk hF1; clear hF1 HC1) | ((first | (with_reducible refine Fr.gate_alloc rfl ?_) | (with_reducible refine Fr.gate_box rfl ?_)); apply Fr.fr_box hF.out rfl; (case hrun => first | (go_simp; done) | (go_simp; rfl)); intro g W hF1; have HC1 := hF1.cells; simp only [Fr.Cells, List.length_cons, List.length_nil, Nat.reduceAdd, and_true] at HC1; clear hF HC; have HC := HC1; have hF := Aside0.mk hF1; clear hF1 HC1))
    have HQC := Aside0.mk (row_C hF.out (List.mem_cons_of_mem _ List.mem_cons_self))
    have HBC := Aside0.mk (row_C hF.out List.mem_cons_self)
    (with_reducible refine (HA.out Aq cq A3 c3 _ HQC.out.2 HBC.out.2 HBC.out.1).mono ?_)
    rintro e W ⟨A4, c4, rfl, hc4, hC4, hb⟩
    have hF1 := hF.out.call hb
    clear hb hc4
    have HT0 := Aside0.mk hC4
    clear hC4
    have HC1 := hF1.cells; simp only [Fr.Cells, List.length_cons, List.length_nil, Nat.reduceAdd, and_true] at HC1; clear hF HC; have HC := HC1; have hF := Aside0.mk hF1; clear hF1 HC1
    go_wp2_with (first | ((with_reducible refine gate_store rfl ?_); apply Fr.fr_store hF.out rfl rfl rfl; (case hp => rfl); (case hx => first | (go_simp; rfl) | rfl); (case hu => (simp only [Value.cells]; rfl)); (case hs => (repeat (first | exact Fr.Spot.here _ _ | apply Fr.Spot.there))); (case ht => kernel_rfl); (case h1 => simp [Value.oneCell']); (case hfit => simp); intro W hF1; simp only [Fr.patch, List.take_zero, List.nil_append, List.drop, List.append_nil, List.take, List.cons_append, List.length_cons, List.length_nil, Nat.reduceAdd] at hF1; have HC1 := hF1.cells; simp only [Fr.Cells, List.length_cons, List.length_nil, Nat.reduceAdd, and_true] at HC1; clear hF HC; have HC := HC1; have hF := Aside0.mk hF1; clear hF1 HC1) | ((first | (with_reducible refine Fr.gate_alloc rfl ?_) | (with_reducible refine Fr.gate_box rfl ?_)); apply Fr.fr_box hF.out rfl; (case hrun => first | (go_simp; done) | (go_simp; rfl)); intro g W hF1; have HC1 := hF1.cells; simp only [Fr.Cells, List.length_cons, List.length_nil, Nat.reduceAdd, and_true] at HC1; clear hF HC; have HC := HC1; have hF := Aside0.mk hF1; clear hF1 HC1))
    (try rw [hu])
    (with_reducible refine (active_calls Aq cq q A1 c1 L u _ (row_C hF.out (List.mem_cons_of_mem _ List.mem_cons_self)).2 (Kd.C_below HRX.out hF.out.below)).mono ?_)
    rintro e W ⟨rfl, hb⟩
    have hF1 := hF.out.call hb
    have HT1 := Aside0.mk (Kd.C_below HT0.out hb)
    clear hb HT0
    have HC1 := hF1.cells; simp only [Fr.Cells, List.length_cons, List.length_nil, Nat.reduceAdd, and_true] at HC1; clear hF HC; have HC := HC1; have hF := Aside0.mk hF1; clear hF1 HC1
    simp only [Hm1.out, Ha1.out]
    go_wp2_with fail
    have hF3 := hF.out.alloc [.int .i64 b.f0, .int .i64 b.f1, .slice A3 b.f2.length c3] 25
    have hO : Kd.C k25 _ (some ⟨W.heap.size, 0, none⟩) 1 [b] := C_mem hF3 List.mem_cons_self (k25_mk _ b HBC.out.1 (row_C hF3 List.mem_cons_self).2)
    have hh := active_calls (some ⟨W.heap.size, 0, none⟩) 1 [b] A1 c1 L u _ hO (Kd.C_below HRX.out hF3.below)
    simp only [List.length_cons, List.length_nil, Nat.zero_add, Nat.reduceAdd] at hh
    rw [Hm2.out, Ha2.out] at hh
    have HH := Aside0.mk hh
    have HT2 := Aside0.mk (Kd.C_below HT1.out ((Below.refl _ W).alloc (Nat.le_refl _) (.cells #[.int .i64 b.f0, .int .i64 b.f1, .slice A3 b.f2.length c3] 25)))
    have HF3 := Aside0.mk hF3
    clear hF3 hO hh HT1 hF
    (with_reducible refine HH.out.mono ?_)
    rintro e W2 ⟨rfl, hb⟩
    have hF1 := HF3.out.call hb
    have HT3 := Aside0.mk (Kd.C_below HT2.out hb)
    clear hb HT2 HH HF3
    have hF : True := trivial
    have HC1 := hF1.cells; simp only [Fr.Cells, List.length_cons, List.length_nil, Nat.reduceAdd, and_true] at HC1; clear hF HC; have HC := HC1; have hF := Aside0.mk hF1; clear hF1 HC1
    go_wp2_with (first | ((with_reducible refine gate_store rfl ?_); apply Fr.fr_store hF.out rfl rfl rfl; (case hp => rfl); (case hx => first | (go_simp; rfl) | rfl); (case hu => (simp only [Value.cells]; rfl)); (case hs => (repeat (first | exact Fr.Spot.here _ _ | apply Fr.Spot.there))); (case ht => kernel_rfl); (case h1 => simp [Value.oneCell']); (case hfit => simp); intro W hF1; simp only [Fr.patch, List.take_zero, List.nil_append, List.drop, List.append_nil, List.take, List.cons_append, List.length_cons, List.length_nil, Nat.reduceAdd] at hF1; have HC1 := hF1.cells; simp only [Fr.Cells, List.length_cons, List.length_nil, Nat.reduceAdd, and_true] at HC1; clear hF HC; have HC := HC1; have hF := Aside0.mk hF1; clear hF1 HC1) | ((first | (with_reducible refine Fr.gate_alloc rfl ?_) | (with_reducible refine Fr.gate_box rfl ?_)); apply Fr.fr_box hF.out rfl; (case hrun => first | (go_simp; done) | (go_simp; rfl)); intro g W hF1; have HC1 := hF1.cells; simp only [Fr.Cells, List.length_cons, List.length_nil, Nat.reduceAdd, and_true] at HC1; clear hF HC; have HC := HC1; have hF := Aside0.mk hF1; clear hF1 HC1))
    (with_reducible refine (active_calls A4 c4 T A1 c1 L u _ HT3.out (Kd.C_below HRX.out hF.out.below)).mono ?_)
    rintro e W3 ⟨rfl, hb⟩
    have hF1 := hF.out.call hb
    have HT4 := Aside0.mk (Kd.C_below HT3.out hb)
    clear hb HT3
    have HC1 := hF1.cells; simp only [Fr.Cells, List.length_cons, List.length_nil, Nat.reduceAdd, and_true] at HC1; clear hF HC; have HC := HC1; have hF := Aside0.mk hF1; clear hF1 HC1
    simp only [Hm3.out, Ha3.out]
    go_wp2_with (first | ((with_reducible refine gate_store rfl ?_); apply Fr.fr_store hF.out rfl rfl rfl; (case hp => rfl); (case hx => first | (go_simp; rfl) | rfl); (case hu => (simp only [Value.cells]; rfl)); (case hs => (repeat (first | exact Fr.Spot.here _ _ | apply Fr.Spot.there))); (case ht => kernel_rfl); (case h1 => simp [Value.oneCell']); (case hfit => simp); intro W hF1; simp only [Fr.patch, List.take_zero, List.nil_append, List.drop, List.append_nil, List.take, List.cons_append, List.length_cons, List.length_nil, Nat.reduceAdd] at hF1; have HC1 := hF1.cells; simp only [Fr.Cells, List.length_cons, List.length_nil, Nat.reduceAdd, and_true] at HC1; clear hF HC; have HC := HC1; have hF := Aside0.mk hF1; clear hF1 HC1) | ((first | (with_reducible refine Fr.gate_alloc rfl ?_) | (with_reducible refine Fr.gate_box rfl ?_)); apply Fr.fr_box hF.out rfl; (case hrun => first | (go_simp; done) | (go_simp; rfl)); intro g W hF1; have HC1 := hF1.cells; simp only [Fr.Cells, List.length_cons, List.length_nil, Nat.reduceAdd, and_true] at HC1; clear hF HC; have HC := HC1; have hF := Aside0.mk hF1; clear hF1 HC1))
    have hq10 := HQL.out
    have hlen := Hlen.out
    have hlenI : (T.length : Int) ≤ (q.length : Int) + 1 := by omega
    have hww : ∀ x : Bool, (x == x) = true := fun x => by cases x <;> rfl
    (with_reducible refine (alive_calls _).mono ?_)
    rintro e W4 ⟨rfl, hb⟩
    have hF1 := hF.out.call hb
    have HT5 := Aside0.mk (Kd.C_below HT4.out hb)
    clear hb HT4
    have HC1 := hF1.cells; simp only [Fr.Cells, List.length_cons, List.length_nil, Nat.reduceAdd, and_true] at HC1; clear hF HC; have HC := HC1; have hF := Aside0.mk hF1; clear hF1 HC1
    go_wp2_with (first | ((with_reducible refine gate_store rfl ?_); apply Fr.fr_store hF.out rfl rfl rfl; (case hp => rfl); (case hx => first | (go_simp; rfl) | rfl); (case hu => (simp only [Value.cells]; rfl)); (case hs => (repeat (first | exact Fr.Spot.here _ _ | apply Fr.Spot.there))); (case ht => kernel_rfl); (case h1 => simp [Value.oneCell']); (case hfit => simp); intro W hF1; simp only [Fr.patch, List.take_zero, List.nil_append, List.drop, List.append_nil, List.take, List.cons_append, List.length_cons, List.length_nil, Nat.reduceAdd] at hF1; have HC1 := hF1.cells; simp only [Fr.Cells, List.length_cons, List.length_nil, Nat.reduceAdd, and_true] at HC1; clear hF HC; have HC := HC1; have hF := Aside0.mk hF1; clear hF1 HC1) | ((first | (with_reducible refine Fr.gate_alloc rfl ?_) | (with_reducible refine Fr.gate_box rfl ?_)); apply Fr.fr_box hF.out rfl; (case hrun => first | (go_simp; done) | (go_simp; rfl)); intro g W hF1; have HC1 := hF1.cells; simp only [Fr.Cells, List.length_cons, List.length_nil, Nat.reduceAdd, and_true] at HC1; clear hF HC; have HC := HC1; have hF := Aside0.mk hF1; clear hF1 HC1))
    (with_reducible refine (hushRight_calls A4 c4 T _ HT5.out).mono ?_); rintro e W ⟨rfl, hb⟩; have hF1 := hF.out.call hb; clear hb; have HC1 := hF1.cells; simp only [Fr.Cells, List.length_cons, List.length_nil, Nat.reduceAdd, and_true] at HC1; clear hF HC; have HC := HC1; have hF := Aside0.mk hF1; clear hF1 HC1
    simp only [Hright.out]
    go_wp2_with (first | ((with_reducible refine gate_store rfl ?_); apply Fr.fr_store hF.out rfl rfl rfl; (case hp => rfl); (case hx => first | (go_simp; rfl) | rfl); (case hu => (simp only [Value.cells]; rfl)); (case hs => (repeat (first | exact Fr.Spot.here _ _ | apply Fr.Spot.there))); (case ht => kernel_rfl); (case h1 => simp [Value.oneCell']); (case hfit => simp); intro W hF1; simp only [Fr.patch, List.take_zero, List.nil_append, List.drop, List.append_nil, List.take, List.cons_append, List.length_cons, List.length_nil, Nat.reduceAdd] at hF1; have HC1 := hF1.cells; simp only [Fr.Cells, List.length_cons, List.length_nil, Nat.reduceAdd, and_true] at HC1; clear hF HC; have HC := HC1; have hF := Aside0.mk hF1; clear hF1 HC1) | ((first | (with_reducible refine Fr.gate_alloc rfl ?_) | (with_reducible refine Fr.gate_box rfl ?_)); apply Fr.fr_box hF.out rfl; (case hrun => first | (go_simp; done) | (go_simp; rfl)); intro g W hF1; have HC1 := hF1.cells; simp only [Fr.Cells, List.length_cons, List.length_nil, Nat.reduceAdd, and_true] at HC1; clear hF HC; have HC := HC1; have hF := Aside0.mk hF1; clear hF1 HC1))
    go_ret
    exact ⟨rfl, hF.out.below⟩
end Go.Proofs.Ytkphinfijppkeaa.G
