/- Contracts of functions of the given program, and what they come to, for any arguments. No condition beyond each theorem's own premises. -/
import Derived.Test.YtkphinfijppkeaaXHushTellsM14
import Derived.Test.YtkphinfijppkeaaXHushTellsM13
import Derived.Test.YtkphinfijppkeaaXHushTellsM15
import Derived.Test.YtkphinfijppkeaaXHushTellsM16
import Derived.Test.YtkphinfijppkeaaXHushTellsM17
namespace Go.Proofs.Ytkphinfijppkeaa.G
open Go.RowKit Go.Proofs.YtkphinfijppkeaaW.PrintWords Go.Proofs.YtkphinfijppkeaaW.PrintLast Go.Proofs.YtkphinfijppkeaaW.PrintMore
attribute [local go_sem] max2_int min2_int max_two min_two max_three min_three max_four min_four
section
variable {P : Program} {ops : Array Oper} {rest : List Oper} {o : Oper} {a : Act} {Q : Exit → Act → World → Prop} {w0 W : World} {bs : List Fr.Blk}
theorem fr_appendG {α : Type} (d : Kd α) {S : Nat → Prop} {v : Value} {xs : List α} (s x : Operand) (t e : TypeId) (z : Value) (bytes : Nat) (p : α) (cs : List Value)
    (hF : Fr.Frame w0 W bs [Fr.rowR d e w0.heap.size v xs S]) (hw : Region.wanted o (yielded ops a.tmps) = true) (ho : o.op = .call { callee := .builtin .append, args := #[s, x], argTypes := #[t, t] })
    (ht : P.underlying t = some (.slice e)) (hinfo : (P.info? e).map (fun i => (i.zero, i.size, i.bytes)) = some (some z, d.sz, bytes)) (hz : z.cells.size = d.sz) (hs0 : 0 < d.sz) (hb0 : 0 < bytes)
    (hs : a.eval s = v) (hx : a.eval x = .slice (some ⟨W.heap.size, 0, none⟩) 1 1) (hp : d.M W w0.heap.size (fun _ => False) p cs) (hl : (xs.length + 1) * bytes ≤ 140737488355328)
    (h : ∀ v1 w1 S1, Fr.Frame w0 w1 bs [Fr.rowR d e w0.heap.size v1 (xs ++ [p]) S1] → wpList P ops Q rest (a.put o.dst v1) w1) : wpList P ops Q (o :: rest) a (W.alloc (.cells cs.toArray e)) := by
  have hr := hF.row (Fr.rowR d e w0.heap.size v xs S) List.mem_cons_self
  have hRS : d.R e W w0.heap.size S v xs := hr.1
  have hdis : ∀ k, S k → ∀ b ∈ bs, k ≠ b.1 := fun k hk b hb he => hr.2.2 b hb (by subst he; exact hk)
  refine wpList_step fun K hK => ?_
  have key := Kd.R_append_step (P := P) (Q := Q) (Kc := K) d (w0 := w0) w0.heap.size hw s x t e z bytes ho ht hinfo hz hs0 hb0 v xs p cs (fun k => ∀ b ∈ bs, k ≠ b.1) (fun _ => False) hs hx hp (fun _ hk => hk.elim) (fun k hk b hb he => by have := hF.lt hb; omega) (Kd.R_mono hRS hdis) hF.below hF.below.size hl (fun v1 w1 ho1 hb1 hg1 hat1 => by
    have hF1 : Fr.Frame w0 w1 bs [] := ⟨hb1, fun b hb => ⟨(hF.blk b hb).1, blk_grown (hF.blk b hb).2 hg1 (fun e1 => hdis b.1 (hRS.1 b.1 e1.symm) b hb rfl)⟩, hF.nodup, by simp⟩
    obtain ⟨S1, hS1⟩ := hF1.rowIn ho1 (fun k hk => hk)
    exact hK _ _ (h v1 w1 S1 hS1))
  rw [if_pos hw] at key ⊢
  exact key
end
set_option maxHeartbeats 8000000 in
set_option maxRecDepth 100000 in
theorem tells_c6_0 (k : Nat) (A0 : Option Addr) (c0 : Nat) (l0 : List S25) (h : S25) (A2 : Option Addr) (c2 : Nat) (A1 : Option Addr) (c1 : Nat) (l1 : List S92) (now : Int) (w : World) (hr0 : Kd.C k25 w A0 l0.length l0) (hc0 : l0.length ≤ c0) (hr2 : Kd.C k88 w A2 h.f2.length h.f2) (hc2 : h.f2.length ≤ c2) (hr1 : Kd.C k92 w A1 l1.length l1) (hc1 : l1.length ≤ c1)
    (q : List S25) (L : List S92) (b : S25) (hq : foghornlaw14_few.f k l0 = some q) (hL : l1.take 5 = L) (hb : cutH h = b) (hql : q.length ≤ 10)
    (X T : List S25) (K : Nat) (r1 : foghornref14_Right.f K q = some (hushesB q)) (r2 : foghornref12_Hush.f K b.f0 b.f1 b.f2 = some (hushB b)) (r3 : foghornref10_Right.f K L = some (rightB L)) (hA : ∀ (Aq : Option Addr) (cq : Nat) (A3 : Option Addr) (c3 : Nat) (W : World), Kd.C k25 W Aq q.length q → Kd.C k88 W A3 b.f2.length b.f2 → b.f2.length ≤ c3 → Calls Try.prog 17 #[.slice Aq q.length cq, .agg #[.int .i64 b.f0, .int .i64 b.f1, .slice A3 b.f2.length c3], .int .i64 now] W fun e w' => ∃ A c, e = .returned (.tuple #[.slice A T.length c, .int .i64 0]) ∧ T.length ≤ c ∧ Kd.C k25 w' A T.length T ∧ Below W.heap.size W w') (hg1 : hushesB q = true) (hg2 : tmB now = true) (hg5 : rightB L = false) (hm : mayE q L now = 1) (ha : activeV q L now = false) (ht : freeV q L now = 0) (hg3 : hushB b = true) (hg4 : now < b.f1) (hx : (q.filter fun x => !overP now x) = X) (h8 : ((X.length : Int) == 8) = false) (r6 : foghornref14_Same.f K T T = some true) (hxt : X ++ [b] = T) :
    Calls Try.prog 3 #[.slice A0 l0.length c0, .agg #[.int .i64 h.f0, .int .i64 h.f1, .slice A2 h.f2.length c2], .slice A1 l1.length c1, .int .i64 now] w fun e w' => e = .returned (.bool true) ∧ Below w.heap.size w w' := by
  have HR0 := Aside0.mk hr0
  have HC0 := Aside0.mk hc0
  have HR2 := Aside0.mk hr2
  have HC2 := Aside0.mk hc2
  have HC1 := Aside0.mk hc1
  have HQL := Aside0.mk hql
  have HRX := Aside0.mk (take5 hr1 hL)
  have HM1 := Aside0.mk hr1.2.1
  have HQ := Aside0.mk hq
  have HLL := Aside0.mk (show (l1.take 5).length = L.length by rw [hL])
  have H15 := Aside0.mk (fun W (hw : Below w.heap.size w W) => cut15_R A2 c2 h W (Kd.C_below hr2 hw) hc2)
  rw [hb] at H15
  have H1 := Aside0.mk r1
  have H2 := Aside0.mk r2
  have H3 := Aside0.mk r3
  have HA := Aside0.mk hA
  have Hg1 := Aside0.mk hg1
  have Hg2 := Aside0.mk hg2
  have Hg5 := Aside0.mk hg5
  have Hm := Aside0.mk hm
  have Ha := Aside0.mk ha
  have Ht := Aside0.mk ht
  have Hg3 := Aside0.mk hg3
  have Hx := Aside0.mk hx
  have H6 := Aside0.mk r6
  have Hxt := Aside0.mk hxt
  clear hr0 hc0 hr2 hc2 hr1 hc1 hq hL hb hql r1 r2 r3 hA hg1 hg2 hg5 hm ha ht hg3 hx r6 hxt
  have H16 := Aside0.mk (fun W => some16 A1 c1 l1 W HC1.out HM1.out)
  rw [HLL.out] at H16
  have H14 := Aside0.mk (fun W (hb : Below w.heap.size w W) => few14_R k A0 c0 l0 q W (Kd.C_below HR0.out hb) HC0.out HQ.out)
  have HF0 := Aside0.mk (((Fr.Frame.start w).alloc [.int .i64 h.f0, .int .i64 h.f1, .slice A2 h.f2.length c2] 25).drew)
  go_enter Try.func3, Try.ntmps3
  go_wp2
  go_region_with (first | (go_at_call 14; refine (H14.out _ HF0.out.below).mono ?_; rintro e W14 ⟨v, rfl, hR, hb⟩; obtain ⟨S, hF1⟩ := HF0.out.callR hb hR; have HF1 := Aside0.mk hF1; clear hF1 hb; obtain ⟨Aq, cq, rfl, hcq, hCq⟩ := Kd.R_reads hR; clear hR hcq hCq; have HD1 := HF1.out.cells; simp only [Fr.Cells, List.length_cons, List.length_nil, Nat.reduceAdd, and_true] at HD1) | (go_at_call 15; refine (H15.out _ HF1.out.below).mono ?_; rintro e W15 ⟨v, rfl, hR, hb⟩; obtain ⟨S2, hF1⟩ := HF1.out.callR hb hR; have HF2 := Aside0.mk hF1; clear hF1 hb HD1; obtain ⟨A3, c3, rfl, hc3, hC3⟩ := Kd.R_reads hR; clear hR hc3 hC3; have HD2 := HF2.out.cells; simp only [Fr.Cells, List.length_cons, List.length_nil, Nat.reduceAdd, and_true] at HD2) | (go_at_call 16; refine (H16.out _).mono ?_; rintro e W' ⟨rfl, rfl⟩))
  all_goals
    have HLC := Aside0.mk (show L.length ≤ c1 by rw [← HLL.out, List.length_take]; have := HC1.out; omega)
    have hF1 : Fr.Frame w (((W15.setCell ⟨w.heap.size, 0, none⟩ (.int .i64 b.f0)).setCell ⟨w.heap.size, 1, none⟩ (.int .i64 b.f1)).setCell ⟨w.heap.size, 2, none⟩ (.slice A3 b.f2.length c3)) [(w.heap.size, [.int .i64 b.f0, .int .i64 b.f1, .slice A3 b.f2.length c3], 25)] _ := HF2.out.put (Fr.Spot.here _ _) 0 [.int .i64 b.f0, .int .i64 b.f1, .slice A3 b.f2.length c3] (by simp)
    obtain ⟨Wf, hWf⟩ : ∃ Wf, (((W15.setCell ⟨w.heap.size, 0, none⟩ (.int .i64 b.f0)).setCell ⟨w.heap.size, 1, none⟩ (.int .i64 b.f1)).setCell ⟨w.heap.size, 2, none⟩ (.slice A3 b.f2.length c3)) = Wf := ⟨_, rfl⟩
    rw [hWf] at hF1 ⊢
    clear hWf HD2 HF1 HF2 HF0
    have hF : True := trivial
    have HC : True := trivial
    have HC1 := hF1.cells; simp only [Fr.Cells, List.length_cons, List.length_nil, Nat.reduceAdd, and_true] at HC1; clear hF HC; have HC := HC1; have hF := Aside0.mk hF1; clear hF1 HC1
    go_wp2_with (first | ((with_reducible refine gate_store rfl ?_); apply Fr.fr_store hF.out rfl rfl rfl; (case hp => rfl); (case hx => first | (go_simp; rfl) | rfl); (case hu => (simp only [Value.cells]; rfl)); (case hs => (repeat (first | exact Fr.Spot.here _ _ | apply Fr.Spot.there))); (case ht => kernel_rfl); (case h1 => simp [Value.oneCell']); (case hfit => simp); intro W hF1; simp only [Fr.patch, List.take_zero, List.nil_append, List.drop, List.append_nil, List.take, List.cons_append, List.length_cons, List.length_nil, Nat.reduceAdd] at hF1; have HC1 := hF1.cells; simp only [Fr.Cells, List.length_cons, List.length_nil, Nat.reduceAdd, and_true] at HC1; clear hF HC; have HC := HC1; have hF := Aside0.mk hF1; clear hF1 HC1) | ((first | (with_reducible refine Fr.gate_alloc rfl ?_) | (with_reducible refine Fr.gate_box rfl ?_)); apply Fr.fr_box hF.out rfl; (case hrun => first | (go_simp; done) | (go_simp; rfl)); intro g W hF1; have HC1 := hF1.cells; simp only [Fr.Cells, List.length_cons, List.length_nil, Nat.reduceAdd, and_true] at HC1; clear hF HC; have HC := HC1; have hF := Aside0.mk hF1; clear hF1 HC1))
    have HQC := Aside0.mk (row_C hF.out (List.mem_cons_of_mem _ List.mem_cons_self))
    have HBC := Aside0.mk (row_C hF.out List.mem_cons_self)
    (with_reducible refine (HA.out Aq cq A3 c3 _ HQC.out.2 HBC.out.2 HBC.out.1).mono ?_)
    rintro e W ⟨A4, c4, rfl, hc4, hC4, hb⟩
    have hF1 := hF.out.call hb
    have HBB := Aside0.mk hF1.below
    have HQ1 := Aside0.mk (row_C hF1 (List.mem_cons_of_mem _ List.mem_cons_self))
    have HB1 := Aside0.mk (row_C hF1 List.mem_cons_self)
    have HT1 := Aside0.mk hC4
    have HCT := Aside0.mk hc4
    have HL1 := Aside0.mk (Kd.C_below HRX.out hF1.below)
    have HC2 := hF1.cells
    simp only [Fr.Cells, List.length_cons, List.length_nil, Nat.reduceAdd, and_true] at HC2
    have K0 := Aside0.mk (show W.cell? ⟨w.heap.size, 0, none⟩ = some (.int .i64 b.f0) from HC2.1 0 (by decide))
    have K1 := Aside0.mk (show W.cell? ⟨w.heap.size, 1, none⟩ = some (.int .i64 b.f1) from HC2.1 1 (by decide))
    have K2 := Aside0.mk (show W.cell? ⟨w.heap.size, 2, none⟩ = some (.slice A3 b.f2.length c3) from HC2.1 2 (by decide))
    clear hb hC4 hc4 hF1 HC2 hF HC HQC HBC
    have hF := Aside0.mk (Fr.Frame.start W)
    have HC : True := trivial
    iterate 8 (go_wp2_with (first | ((with_reducible refine gate_store rfl ?_); apply Fr.fr_store hF.out rfl rfl rfl; (case hp => rfl); (case hx => first | (go_simp; rfl) | rfl); (case hu => (simp only [Value.cells]; rfl)); (case hs => (repeat (first | exact Fr.Spot.here _ _ | apply Fr.Spot.there))); (case ht => kernel_rfl); (case h1 => simp [Value.oneCell']); (case hfit => simp); intro W hF1; simp only [Fr.patch, List.take_zero, List.nil_append, List.drop, List.append_nil, List.take, List.cons_append, List.length_cons, List.length_nil, Nat.reduceAdd] at hF1; have HC1 := hF1.cells; simp only [Fr.Cells, List.length_cons, List.length_nil, Nat.reduceAdd, and_true] at HC1; clear hF HC; have HC := HC1; have hF := Aside0.mk hF1; clear hF1 HC1) | ((first | (with_reducible refine Fr.gate_alloc rfl ?_) | (with_reducible refine Fr.gate_box rfl ?_)); apply Fr.fr_box hF.out rfl; (case hrun => first | (go_simp; done) | (go_simp; rfl)); intro g W hF1; have HC1 := hF1.cells; simp only [Fr.Cells, List.length_cons, List.length_nil, Nat.reduceAdd, and_true] at HC1; clear hF HC; have HC := HC1; have hF := Aside0.mk hF1; clear hF1 HC1)); try ((first | ((with_reducible refine (active_calls Aq cq q A1 c1 L now _ (Kd.C_below HQ1.out.2 hF.out.below) (Kd.C_below HL1.out hF.out.below)).mono ?_); rintro e W ⟨rfl, hb⟩; have hF1 := hF.out.call hb; clear hb; simp only [Hm.out, Ha.out]) | ((with_reducible refine (free_calls Aq cq q A1 c1 L now _ (Kd.C_below HQ1.out.2 hF.out.below) (Kd.C_below HL1.out hF.out.below)).mono ?_); rintro e W ⟨rfl, hb⟩; have hF1 := hF.out.call hb; clear hb; simp only [Hm.out, Ht.out]) | ((with_reducible refine (hushRight_calls Aq cq q _ (Kd.C_below HQ1.out.2 hF.out.below)).mono ?_); rintro e W ⟨rfl, hb⟩; have hF1 := hF.out.call hb; clear hb) | ((with_reducible refine (foghornref14_Right.calls K Aq cq q (hushesB q) _ (Kd.C_below HQ1.out.2 hF.out.below) HQ1.out.1 H1.out).mono ?_); rintro e W ⟨rfl, hb⟩; have hF1 := hF.out.call hb; clear hb; simp only [Hg1.out]) | ((with_reducible refine (alive_calls _).mono ?_); rintro e W ⟨rfl, hb⟩; have hF1 := hF.out.call hb; clear hb) | ((with_reducible refine (foghornref05_Right.calls now (tmB now) _ (tick_ref now)).mono ?_); rintro e W ⟨rfl, hb⟩; have hF1 := hF.out.call hb.below; clear hb; simp only [Hg2.out])); have HC1 := hF1.cells; simp only [Fr.Cells, List.length_cons, List.length_nil, Nat.reduceAdd, and_true] at HC1; clear hF HC; have HC := HC1; have hF := Aside0.mk hF1; clear hF1 HC1))
    have HBB2 := Aside0.mk hF.out.below
    have HQ2 := Aside0.mk (Kd.C_below HQ1.out.2 hF.out.below)
    have HB2 := Aside0.mk (Kd.C_below HB1.out.2 hF.out.below)
    have HT2 := Aside0.mk (Kd.C_below HT1.out hF.out.below)
    have HL2 := Aside0.mk (Kd.C_below HL1.out hF.out.below)
    have J0 := Aside0.mk ((hF.out.below.cell (World.block_lt_of_cell? _ _ K0.out)).trans K0.out)
    have J1 := Aside0.mk ((hF.out.below.cell (World.block_lt_of_cell? _ _ K1.out)).trans K1.out)
    have J2 := Aside0.mk ((hF.out.below.cell (World.block_lt_of_cell? _ _ K2.out)).trans K2.out)
    clear HT1 HL1 K0 K1 K2 hF
    (with_reducible refine (kept_calls Aq cq q now _ HQ2.out (by have := HQL.out; omega)).mono ?_)
    rintro e W6 ⟨v, rows, S9, rfl, hF9, hro⟩
    rw [Hx.out] at hro
    have HRO := Aside0.mk hro
    have hF := Aside0.mk hF9
    clear hro hF9
    obtain ⟨A9, c9, rfl, _, _⟩ := hush_row hF.out HRO.out.len HRO.out.at_
    have k0 := (hF.out.below.cell (World.block_lt_of_cell? _ _ J0.out)).trans J0.out
    have k1 := (hF.out.below.cell (World.block_lt_of_cell? _ _ J1.out)).trans J1.out
    have k2 := (hF.out.below.cell (World.block_lt_of_cell? _ _ J2.out)).trans J2.out
    go_wp2_with (first | ((with_reducible refine gate_store rfl ?_); apply Fr.fr_store hF.out rfl rfl rfl; (case hp => rfl); (case hx => first | (go_simp; rfl) | rfl); (case hu => (simp only [Value.cells]; rfl)); (case hs => (repeat (first | exact Fr.Spot.here _ _ | apply Fr.Spot.there))); (case ht => kernel_rfl); (case h1 => simp [Value.oneCell']); (case hfit => simp); intro W hF1; simp only [Fr.patch, List.take_zero, List.nil_append, List.drop, List.append_nil, List.take, List.cons_append, List.length_cons, List.length_nil, Nat.reduceAdd] at hF1; have HC1 := hF1.cells; simp only [Fr.Cells, List.length_cons, List.length_nil, Nat.reduceAdd, and_true] at HC1; clear hF HC; have HC := HC1; have hF := Aside0.mk hF1; clear hF1 HC1) | ((first | (with_reducible refine Fr.gate_alloc rfl ?_) | (with_reducible refine Fr.gate_box rfl ?_)); apply Fr.fr_box hF.out rfl; (case hrun => first | (go_simp; done) | (go_simp; rfl)); intro g W hF1; have HC1 := hF1.cells; simp only [Fr.Cells, List.length_cons, List.length_nil, Nat.reduceAdd, and_true] at HC1; clear hF HC; have HC := HC1; have hF := Aside0.mk hF1; clear hF1 HC1))
    (with_reducible refine (foghornref12_Hush.calls K b.f0 b.f1 A3 c3 b.f2 (hushB b) _ (Kd.C_below HB2.out hF.out.below) HB1.out.1 H2.out).mono ?_)
    rintro e W7 ⟨rfl, hb⟩
    have hF1 := hF.out.call hb
    clear hb k0 k1 k2
    have HC1 := hF1.cells; simp only [Fr.Cells, List.length_cons, List.length_nil, Nat.reduceAdd, and_true] at HC1; clear hF HC; have HC := HC1; have hF := Aside0.mk hF1; clear hF1 HC1
    simp only [Hg3.out]
    have k0 := (hF.out.below.cell (World.block_lt_of_cell? _ _ J0.out)).trans J0.out
    have k1 := (hF.out.below.cell (World.block_lt_of_cell? _ _ J1.out)).trans J1.out
    have k2 := (hF.out.below.cell (World.block_lt_of_cell? _ _ J2.out)).trans J2.out
    have HLA := Aside0.mk (show (rows.length + 1) * 40 ≤ 140737488355328 by have h1 := HRO.out.len; have h2 := HQL.out; have h3 : X.length ≤ q.length := (by rw [← Hx.out]; exact List.length_filter_le _ _); omega)
    have HSN := Aside0.mk (HRO.out.append (RowsOf.one (k25_mk _ b HB1.out.1 HB2.out)))
    rw [Hxt.out] at HSN
    go_wp2_with (first | ((with_reducible refine gate_builtin (b := .append) (xs := #[.tmp 105, .tmp 107]) rfl ?_); refine fr_appendG (Kd.raw 3) (.tmp 105) (.tmp 107) 22 25 (.agg #[.int .i64 0, .int .i64 0, .slice none 0 0]) 40 [.int .i64 b.f0, .int .i64 b.f1, .slice A3 b.f2.length c3] [.int .i64 b.f0, .int .i64 b.f1, .slice A3 b.f2.length c3] hF.out (by first | rfl | (go_simp; done)) rfl Try.underlying22 (by kernel_rfl) rfl (by decide) (by omega) rfl (by first | (go_simp; done) | (go_simp; rfl)) ⟨rfl, rfl, by simp [Value.oneCell']⟩ HLA.out ?_; intro v1 W2 S1 hF1; clear k0 k1 k2; have HC1 := hF1.cells; simp only [Fr.Cells, List.length_cons, List.length_nil, Nat.reduceAdd, and_true] at HC1; clear hF HC; have HC := HC1; have hF := Aside0.mk hF1; clear hF1 HC1) | ((with_reducible refine gate_store rfl ?_); apply Fr.fr_store hF.out rfl rfl rfl; (case hp => rfl); (case hx => first | (go_simp; rfl) | rfl); (case hu => (simp only [Value.cells]; rfl)); (case hs => (repeat (first | exact Fr.Spot.here _ _ | apply Fr.Spot.there))); (case ht => kernel_rfl); (case h1 => simp [Value.oneCell']); (case hfit => simp); intro W hF1; simp only [Fr.patch, List.take_zero, List.nil_append, List.drop, List.append_nil, List.take, List.cons_append, List.length_cons, List.length_nil, Nat.reduceAdd] at hF1; have HC1 := hF1.cells; simp only [Fr.Cells, List.length_cons, List.length_nil, Nat.reduceAdd, and_true] at HC1; clear hF HC; have HC := HC1; have hF := Aside0.mk hF1; clear hF1 HC1) | ((first | (with_reducible refine Fr.gate_alloc rfl ?_) | (with_reducible refine Fr.gate_box rfl ?_)); apply Fr.fr_box hF.out rfl; (case hrun => first | (go_simp; done) | (go_simp; rfl)); intro g W hF1; have HC1 := hF1.cells; simp only [Fr.Cells, List.length_cons, List.length_nil, Nat.reduceAdd, and_true] at HC1; clear hF HC; have HC := HC1; have hF := Aside0.mk hF1; clear hF1 HC1))
    obtain ⟨A8, c8, rfl, hc8, hC8⟩ := hush_row hF.out HSN.out.len HSN.out.at_
    (with_reducible refine (foghornref14_Same.calls K A4 c4 T A8 c8 T true _ (Kd.C_below HT2.out hF.out.below) HCT.out hC8 hc8 H6.out).mono ?_)
    rintro e W8 ⟨rfl, hb⟩
    have hF1 := hF.out.call hb
    clear hb hc8 hC8
    have HC1 := hF1.cells; simp only [Fr.Cells, List.length_cons, List.length_nil, Nat.reduceAdd, and_true] at HC1; clear hF HC; have HC := HC1; have hF := Aside0.mk hF1; clear hF1 HC1
    go_wp2_with (first | ((with_reducible refine gate_store rfl ?_); apply Fr.fr_store hF.out rfl rfl rfl; (case hp => rfl); (case hx => first | (go_simp; rfl) | rfl); (case hu => (simp only [Value.cells]; rfl)); (case hs => (repeat (first | exact Fr.Spot.here _ _ | apply Fr.Spot.there))); (case ht => kernel_rfl); (case h1 => simp [Value.oneCell']); (case hfit => simp); intro W hF1; simp only [Fr.patch, List.take_zero, List.nil_append, List.drop, List.append_nil, List.take, List.cons_append, List.length_cons, List.length_nil, Nat.reduceAdd] at hF1; have HC1 := hF1.cells; simp only [Fr.Cells, List.length_cons, List.length_nil, Nat.reduceAdd, and_true] at HC1; clear hF HC; have HC := HC1; have hF := Aside0.mk hF1; clear hF1 HC1) | ((first | (with_reducible refine Fr.gate_alloc rfl ?_) | (with_reducible refine Fr.gate_box rfl ?_)); apply Fr.fr_box hF.out rfl; (case hrun => first | (go_simp; done) | (go_simp; rfl)); intro g W hF1; have HC1 := hF1.cells; simp only [Fr.Cells, List.length_cons, List.length_nil, Nat.reduceAdd, and_true] at HC1; clear hF HC; have HC := HC1; have hF := Aside0.mk hF1; clear hF1 HC1))
    (with_reducible refine (foghornref10_Right.calls K A1 c1 L (rightB L) _ (Kd.C_below HL2.out hF.out.below) HLC.out H3.out).mono ?_); rintro e W ⟨rfl, hb⟩; have hF1 := hF.out.call hb; clear hb; have HC1 := hF1.cells; simp only [Fr.Cells, List.length_cons, List.length_nil, Nat.reduceAdd, and_true] at HC1; clear hF HC; have HC := HC1; have hF := Aside0.mk hF1; clear hF1 HC1
    simp only [Hg5.out]
    go_wp2_with (first | ((with_reducible refine gate_store rfl ?_); apply Fr.fr_store hF.out rfl rfl rfl; (case hp => rfl); (case hx => first | (go_simp; rfl) | rfl); (case hu => (simp only [Value.cells]; rfl)); (case hs => (repeat (first | exact Fr.Spot.here _ _ | apply Fr.Spot.there))); (case ht => kernel_rfl); (case h1 => simp [Value.oneCell']); (case hfit => simp); intro W hF1; simp only [Fr.patch, List.take_zero, List.nil_append, List.drop, List.append_nil, List.take, List.cons_append, List.length_cons, List.length_nil, Nat.reduceAdd] at hF1; have HC1 := hF1.cells; simp only [Fr.Cells, List.length_cons, List.length_nil, Nat.reduceAdd, and_true] at HC1; clear hF HC; have HC := HC1; have hF := Aside0.mk hF1; clear hF1 HC1) | ((first | (with_reducible refine Fr.gate_alloc rfl ?_) | (with_reducible refine Fr.gate_box rfl ?_)); apply Fr.fr_box hF.out rfl; (case hrun => first | (go_simp; done) | (go_simp; rfl)); intro g W hF1; have HC1 := hF1.cells; simp only [Fr.Cells, List.length_cons, List.length_nil, Nat.reduceAdd, and_true] at HC1; clear hF HC; have HC := HC1; have hF := Aside0.mk hF1; clear hF1 HC1))
    go_ret
    exact ⟨rfl, HBB.out.trans ((HBB2.out.trans (hF.out.below.mono HBB2.out.size)).mono HBB.out.size)⟩
set_option maxHeartbeats 8000000 in
set_option maxRecDepth 100000 in
theorem tells_c6_1 (k : Nat) (A0 : Option Addr) (c0 : Nat) (l0 : List S25) (h : S25) (A2 : Option Addr) (c2 : Nat) (A1 : Option Addr) (c1 : Nat) (l1 : List S92) (now : Int) (w : World) (hr0 : Kd.C k25 w A0 l0.length l0) (hc0 : l0.length ≤ c0) (hr2 : Kd.C k88 w A2 h.f2.length h.f2) (hc2 : h.f2.length ≤ c2) (hr1 : Kd.C k92 w A1 l1.length l1) (hc1 : l1.length ≤ c1)
    (q : List S25) (L : List S92) (b : S25) (hq : foghornlaw14_few.f k l0 = some q) (hL : l1.take 5 = L) (hb : cutH h = b) (hql : q.length ≤ 10)
    (X T : List S25) (K : Nat) (r1 : foghornref14_Right.f K q = some (hushesB q)) (r2 : foghornref12_Hush.f K b.f0 b.f1 b.f2 = some (hushB b)) (r3 : foghornref10_Right.f K L = some (rightB L)) (hA : ∀ (Aq : Option Addr) (cq : Nat) (A3 : Option Addr) (c3 : Nat) (W : World), Kd.C k25 W Aq q.length q → Kd.C k88 W A3 b.f2.length b.f2 → b.f2.length ≤ c3 → Calls Try.prog 17 #[.slice Aq q.length cq, .agg #[.int .i64 b.f0, .int .i64 b.f1, .slice A3 b.f2.length c3], .int .i64 now] W fun e w' => ∃ A c, e = .returned (.tuple #[.slice A T.length c, .int .i64 0]) ∧ T.length ≤ c ∧ Kd.C k25 w' A T.length T ∧ Below W.heap.size W w') (aa : Bool) (tt : Int) (r4 : foghornref14_Active.f K q L now = some aa) (r5 : foghornref14_Free.f K q L now = some tt) (hg1 : hushesB q = true) (hg2 : tmB now = true) (hg5 : rightB L = true) (hm : mayE q L now = 0) (ha : activeV q L now = aa) (ht : freeV q L now = tt) (hg3 : hushB b = true) (hg4 : now < b.f1) (hx : (q.filter fun x => !overP now x) = X) (h8 : ((X.length : Int) == 8) = false) (r6 : foghornref14_Same.f K T T = some true) (hxt : X ++ [b] = T) :
    Calls Try.prog 3 #[.slice A0 l0.length c0, .agg #[.int .i64 h.f0, .int .i64 h.f1, .slice A2 h.f2.length c2], .slice A1 l1.length c1, .int .i64 now] w fun e w' => e = .returned (.bool true) ∧ Below w.heap.size w w' := by
  have HR0 := Aside0.mk hr0
  have HC0 := Aside0.mk hc0
  have HR2 := Aside0.mk hr2
  have HC2 := Aside0.mk hc2
  have HC1 := Aside0.mk hc1
  have HQL := Aside0.mk hql
  have HRX := Aside0.mk (take5 hr1 hL)
  have HM1 := Aside0.mk hr1.2.1
  have HQ := Aside0.mk hq
  have HLL := Aside0.mk (show (l1.take 5).length = L.length by rw [hL])
  have H15 := Aside0.mk (fun W (hw : Below w.heap.size w W) => cut15_R A2 c2 h W (Kd.C_below hr2 hw) hc2)
  rw [hb] at H15
  have H1 := Aside0.mk r1
  have H2 := Aside0.mk r2
  have H3 := Aside0.mk r3
  have H4 := Aside0.mk r4
  have H5 := Aside0.mk r5
  have HA := Aside0.mk hA
  have Hg1 := Aside0.mk hg1
  have Hg2 := Aside0.mk hg2
  have Hg5 := Aside0.mk hg5
  have Hm := Aside0.mk hm
  have Ha := Aside0.mk ha
  have Ht := Aside0.mk ht
  have Hg3 := Aside0.mk hg3
  have Hx := Aside0.mk hx
  have H6 := Aside0.mk r6
  have Hxt := Aside0.mk hxt
  clear hr0 hc0 hr2 hc2 hr1 hc1 hq hL hb hql r1 r2 r3 r4 r5 hA hg1 hg2 hg5 hm ha ht hg3 hx r6 hxt
  have H16 := Aside0.mk (fun W => some16 A1 c1 l1 W HC1.out HM1.out)
  rw [HLL.out] at H16
  have H14 := Aside0.mk (fun W (hb : Below w.heap.size w W) => few14_R k A0 c0 l0 q W (Kd.C_below HR0.out hb) HC0.out HQ.out)
  have HF0 := Aside0.mk (((Fr.Frame.start w).alloc [.int .i64 h.f0, .int .i64 h.f1, .slice A2 h.f2.length c2] 25).drew)
  go_enter Try.func3, Try.ntmps3
  go_wp2
  go_region_with (first | (go_at_call 14; refine (H14.out _ HF0.out.below).mono ?_; rintro e W14 ⟨v, rfl, hR, hb⟩; obtain ⟨S, hF1⟩ := HF0.out.callR hb hR; have HF1 := Aside0.mk hF1; clear hF1 hb; obtain ⟨Aq, cq, rfl, hcq, hCq⟩ := Kd.R_reads hR; clear hR hcq hCq; have HD1 := HF1.out.cells; simp only [Fr.Cells, List.length_cons, List.length_nil, Nat.reduceAdd, and_true] at HD1) | (go_at_call 15; refine (H15.out _ HF1.out.below).mono ?_; rintro e W15 ⟨v, rfl, hR, hb⟩; obtain ⟨S2, hF1⟩ := HF1.out.callR hb hR; have HF2 := Aside0.mk hF1; clear hF1 hb HD1; obtain ⟨A3, c3, rfl, hc3, hC3⟩ := Kd.R_reads hR; clear hR hc3 hC3; have HD2 := HF2.out.cells; simp only [Fr.Cells, List.length_cons, List.length_nil, Nat.reduceAdd, and_true] at HD2) | (go_at_call 16; refine (H16.out _).mono ?_; rintro e W' ⟨rfl, rfl⟩))
  all_goals
    have HLC := Aside0.mk (show L.length ≤ c1 by rw [← HLL.out, List.length_take]; have := HC1.out; omega)
    have haa : (aa == aa) = true := by cases aa <;> rfl
    have htt : (tt == tt) = true := by simp
    have hF1 : Fr.Frame w (((W15.setCell ⟨w.heap.size, 0, none⟩ (.int .i64 b.f0)).setCell ⟨w.heap.size, 1, none⟩ (.int .i64 b.f1)).setCell ⟨w.heap.size, 2, none⟩ (.slice A3 b.f2.length c3)) [(w.heap.size, [.int .i64 b.f0, .int .i64 b.f1, .slice A3 b.f2.length c3], 25)] _ := HF2.out.put (Fr.Spot.here _ _) 0 [.int .i64 b.f0, .int .i64 b.f1, .slice A3 b.f2.length c3] (by simp)
    obtain ⟨Wf, hWf⟩ : ∃ Wf, (((W15.setCell ⟨w.heap.size, 0, none⟩ (.int .i64 b.f0)).setCell ⟨w.heap.size, 1, none⟩ (.int .i64 b.f1)).setCell ⟨w.heap.size, 2, none⟩ (.slice A3 b.f2.length c3)) = Wf := ⟨_, rfl⟩
    rw [hWf] at hF1 ⊢
    clear hWf HD2 HF1 HF2 HF0
    have hF : True := trivial
    have HC : True := trivial
    have HC1 := hF1.cells; simp only [Fr.Cells, List.length_cons, List.length_nil, Nat.reduceAdd, and_true] at HC1; clear hF HC; have HC := HC1; have hF := Aside0.mk hF1; clear hF1 HC1
    go_wp2_with (first | ((with_reducible refine gate_store rfl ?_); apply Fr.fr_store hF.out rfl rfl rfl; (case hp => rfl); (case hx => first | (go_simp; rfl) | rfl); (case hu => (simp only [Value.cells]; rfl)); (case hs => (repeat (first | exact Fr.Spot.here _ _ | apply Fr.Spot.there))); (case ht => kernel_rfl); (case h1 => simp [Value.oneCell']); (case hfit => simp); intro W hF1; simp only [Fr.patch, List.take_zero, List.nil_append, List.drop, List.append_nil, List.take, List.cons_append, List.length_cons, List.length_nil, Nat.reduceAdd] at hF1; have HC1 := hF1.cells; simp only [Fr.Cells, List.length_cons, List.length_nil, Nat.reduceAdd, and_true] at HC1; clear hF HC; have HC := HC1; have hF := Aside0.mk hF1; clear hF1 HC1) | ((first | (with_reducible refine Fr.gate_alloc rfl ?_) | (with_reducible refine Fr.gate_box rfl ?_)); apply Fr.fr_box hF.out rfl; (case hrun => first | (go_simp; done) | (go_simp; rfl)); intro g W hF1; have HC1 := hF1.cells; simp only [Fr.Cells, List.length_cons, List.length_nil, Nat.reduceAdd, and_true] at HC1; clear hF HC; have HC := HC1; have hF := Aside0.mk hF1; clear hF1 HC1))
    have HQC := Aside0.mk (row_C hF.out (List.mem_cons_of_mem _ List.mem_cons_self))
    have HBC := Aside0.mk (row_C hF.out List.mem_cons_self)
    (with_reducible refine (HA.out Aq cq A3 c3 _ HQC.out.2 HBC.out.2 HBC.out.1).mono ?_)
    rintro e W ⟨A4, c4, rfl, hc4, hC4, hb⟩
    have hF1 := hF.out.call hb
    have HBB := Aside0.mk hF1.below
    have HQ1 := Aside0.mk (row_C hF1 (List.mem_cons_of_mem _ List.mem_cons_self))
    have HB1 := Aside0.mk (row_C hF1 List.mem_cons_self)
    have HT1 := Aside0.mk hC4
    have HCT := Aside0.mk hc4
    have HL1 := Aside0.mk (Kd.C_below HRX.out hF1.below)
    have HC2 := hF1.cells
    simp only [Fr.Cells, List.length_cons, List.length_nil, Nat.reduceAdd, and_true] at HC2
    have K0 := Aside0.mk (show W.cell? ⟨w.heap.size, 0, none⟩ = some (.int .i64 b.f0) from HC2.1 0 (by decide))
    have K1 := Aside0.mk (show W.cell? ⟨w.heap.size, 1, none⟩ = some (.int .i64 b.f1) from HC2.1 1 (by decide))
    have K2 := Aside0.mk (show W.cell? ⟨w.heap.size, 2, none⟩ = some (.slice A3 b.f2.length c3) from HC2.1 2 (by decide))
    clear hb hC4 hc4 hF1 HC2 hF HC HQC HBC
    have hF := Aside0.mk (Fr.Frame.start W)
    have HC : True := trivial
    iterate 8 (go_wp2_with (first | ((with_reducible refine gate_store rfl ?_); apply Fr.fr_store hF.out rfl rfl rfl; (case hp => rfl); (case hx => first | (go_simp; rfl) | rfl); (case hu => (simp only [Value.cells]; rfl)); (case hs => (repeat (first | exact Fr.Spot.here _ _ | apply Fr.Spot.there))); (case ht => kernel_rfl); (case h1 => simp [Value.oneCell']); (case hfit => simp); intro W hF1; simp only [Fr.patch, List.take_zero, List.nil_append, List.drop, List.append_nil, List.take, List.cons_append, List.length_cons, List.length_nil, Nat.reduceAdd] at hF1; have HC1 := hF1.cells; simp only [Fr.Cells, List.length_cons, List.length_nil, Nat.reduceAdd, and_true] at HC1; clear hF HC; have HC := HC1; have hF := Aside0.mk hF1; clear hF1 HC1) | ((first | (with_reducible refine Fr.gate_alloc rfl ?_) | (with_reducible refine Fr.gate_box rfl ?_)); apply Fr.fr_box hF.out rfl; (case hrun => first | (go_simp; done) | (go_simp; rfl)); intro g W hF1; have HC1 := hF1.cells; simp only [Fr.Cells, List.length_cons, List.length_nil, Nat.reduceAdd, and_true] at HC1; clear hF HC; have HC := HC1; have hF := Aside0.mk hF1; clear hF1 HC1)); try ((first | ((with_reducible refine (active_calls Aq cq q A1 c1 L now _ (Kd.C_below HQ1.out.2 hF.out.below) (Kd.C_below HL1.out hF.out.below)).mono ?_); rintro e W ⟨rfl, hb⟩; have hF1 := hF.out.call hb; clear hb; simp only [Hm.out, Ha.out]) | ((with_reducible refine (free_calls Aq cq q A1 c1 L now _ (Kd.C_below HQ1.out.2 hF.out.below) (Kd.C_below HL1.out hF.out.below)).mono ?_); rintro e W ⟨rfl, hb⟩; have hF1 := hF.out.call hb; clear hb; simp only [Hm.out, Ht.out]) | ((with_reducible refine (hushRight_calls Aq cq q _ (Kd.C_below HQ1.out.2 hF.out.below)).mono ?_); rintro e W ⟨rfl, hb⟩; have hF1 := hF.out.call hb; clear hb) | ((with_reducible refine (foghornref14_Right.calls K Aq cq q (hushesB q) _ (Kd.C_below HQ1.out.2 hF.out.below) HQ1.out.1 H1.out).mono ?_); rintro e W ⟨rfl, hb⟩; have hF1 := hF.out.call hb; clear hb; simp only [Hg1.out]) | ((with_reducible refine (alive_calls _).mono ?_); rintro e W ⟨rfl, hb⟩; have hF1 := hF.out.call hb; clear hb) | ((with_reducible refine (foghornref05_Right.calls now (tmB now) _ (tick_ref now)).mono ?_); rintro e W ⟨rfl, hb⟩; have hF1 := hF.out.call hb.below; clear hb; simp only [Hg2.out])); have HC1 := hF1.cells; simp only [Fr.Cells, List.length_cons, List.length_nil, Nat.reduceAdd, and_true] at HC1; clear hF HC; have HC := HC1; have hF := Aside0.mk hF1; clear hF1 HC1))
    have HBB2 := Aside0.mk hF.out.below
    have HQ2 := Aside0.mk (Kd.C_below HQ1.out.2 hF.out.below)
    have HB2 := Aside0.mk (Kd.C_below HB1.out.2 hF.out.below)
    have HT2 := Aside0.mk (Kd.C_below HT1.out hF.out.below)
    have HL2 := Aside0.mk (Kd.C_below HL1.out hF.out.below)
    have J0 := Aside0.mk ((hF.out.below.cell (World.block_lt_of_cell? _ _ K0.out)).trans K0.out)
    have J1 := Aside0.mk ((hF.out.below.cell (World.block_lt_of_cell? _ _ K1.out)).trans K1.out)
    have J2 := Aside0.mk ((hF.out.below.cell (World.block_lt_of_cell? _ _ K2.out)).trans K2.out)
    clear HT1 HL1 K0 K1 K2 hF
    (with_reducible refine (kept_calls Aq cq q now _ HQ2.out (by have := HQL.out; omega)).mono ?_)
    rintro e W6 ⟨v, rows, S9, rfl, hF9, hro⟩
    rw [Hx.out] at hro
    have HRO := Aside0.mk hro
    have hF := Aside0.mk hF9
    clear hro hF9
    obtain ⟨A9, c9, rfl, _, _⟩ := hush_row hF.out HRO.out.len HRO.out.at_
    have k0 := (hF.out.below.cell (World.block_lt_of_cell? _ _ J0.out)).trans J0.out
    have k1 := (hF.out.below.cell (World.block_lt_of_cell? _ _ J1.out)).trans J1.out
    have k2 := (hF.out.below.cell (World.block_lt_of_cell? _ _ J2.out)).trans J2.out
    go_wp2_with (first | ((with_reducible refine gate_store rfl ?_); apply Fr.fr_store hF.out rfl rfl rfl; (case hp => rfl); (case hx => first | (go_simp; rfl) | rfl); (case hu => (simp only [Value.cells]; rfl)); (case hs => (repeat (first | exact Fr.Spot.here _ _ | apply Fr.Spot.there))); (case ht => kernel_rfl); (case h1 => simp [Value.oneCell']); (case hfit => simp); intro W hF1; simp only [Fr.patch, List.take_zero, List.nil_append, List.drop, List.append_nil, List.take, List.cons_append, List.length_cons, List.length_nil, Nat.reduceAdd] at hF1; have HC1 := hF1.cells; simp only [Fr.Cells, List.length_cons, List.length_nil, Nat.reduceAdd, and_true] at HC1; clear hF HC; have HC := HC1; have hF := Aside0.mk hF1; clear hF1 HC1) | ((first | (with_reducible refine Fr.gate_alloc rfl ?_) | (with_reducible refine Fr.gate_box rfl ?_)); apply Fr.fr_box hF.out rfl; (case hrun => first | (go_simp; done) | (go_simp; rfl)); intro g W hF1; have HC1 := hF1.cells; simp only [Fr.Cells, List.length_cons, List.length_nil, Nat.reduceAdd, and_true] at HC1; clear hF HC; have HC := HC1; have hF := Aside0.mk hF1; clear hF1 HC1))
    (with_reducible refine (foghornref12_Hush.calls K b.f0 b.f1 A3 c3 b.f2 (hushB b) _ (Kd.C_below HB2.out hF.out.below) HB1.out.1 H2.out).mono ?_)
    rintro e W7 ⟨rfl, hb⟩
    have hF1 := hF.out.call hb
    clear hb k0 k1 k2
    have HC1 := hF1.cells; simp only [Fr.Cells, List.length_cons, List.length_nil, Nat.reduceAdd, and_true] at HC1; clear hF HC; have HC := HC1; have hF := Aside0.mk hF1; clear hF1 HC1
    simp only [Hg3.out]
    have k0 := (hF.out.below.cell (World.block_lt_of_cell? _ _ J0.out)).trans J0.out
    have k1 := (hF.out.below.cell (World.block_lt_of_cell? _ _ J1.out)).trans J1.out
    have k2 := (hF.out.below.cell (World.block_lt_of_cell? _ _ J2.out)).trans J2.out
    have HLA := Aside0.mk (show (rows.length + 1) * 40 ≤ 140737488355328 by have h1 := HRO.out.len; have h2 := HQL.out; have h3 : X.length ≤ q.length := (by rw [← Hx.out]; exact List.length_filter_le _ _); omega)
    have HSN := Aside0.mk (HRO.out.append (RowsOf.one (k25_mk _ b HB1.out.1 HB2.out)))
    rw [Hxt.out] at HSN
    go_wp2_with (first | ((with_reducible refine gate_builtin (b := .append) (xs := #[.tmp 105, .tmp 107]) rfl ?_); refine fr_appendG (Kd.raw 3) (.tmp 105) (.tmp 107) 22 25 (.agg #[.int .i64 0, .int .i64 0, .slice none 0 0]) 40 [.int .i64 b.f0, .int .i64 b.f1, .slice A3 b.f2.length c3] [.int .i64 b.f0, .int .i64 b.f1, .slice A3 b.f2.length c3] hF.out (by first | rfl | (go_simp; done)) rfl Try.underlying22 (by kernel_rfl) rfl (by decide) (by omega) rfl (by first | (go_simp; done) | (go_simp; rfl)) ⟨rfl, rfl, by simp [Value.oneCell']⟩ HLA.out ?_; intro v1 W2 S1 hF1; clear k0 k1 k2; have HC1 := hF1.cells; simp only [Fr.Cells, List.length_cons, List.length_nil, Nat.reduceAdd, and_true] at HC1; clear hF HC; have HC := HC1; have hF := Aside0.mk hF1; clear hF1 HC1) | ((with_reducible refine gate_store rfl ?_); apply Fr.fr_store hF.out rfl rfl rfl; (case hp => rfl); (case hx => first | (go_simp; rfl) | rfl); (case hu => (simp only [Value.cells]; rfl)); (case hs => (repeat (first | exact Fr.Spot.here _ _ | apply Fr.Spot.there))); (case ht => kernel_rfl); (case h1 => simp [Value.oneCell']); (case hfit => simp); intro W hF1; simp only [Fr.patch, List.take_zero, List.nil_append, List.drop, List.append_nil, List.take, List.cons_append, List.length_cons, List.length_nil, Nat.reduceAdd] at hF1; have HC1 := hF1.cells; simp only [Fr.Cells, List.length_cons, List.length_nil, Nat.reduceAdd, and_true] at HC1; clear hF HC; have HC := HC1; have hF := Aside0.mk hF1; clear hF1 HC1) | ((first | (with_reducible refine Fr.gate_alloc rfl ?_) | (with_reducible refine Fr.gate_box rfl ?_)); apply Fr.fr_box hF.out rfl; (case hrun => first | (go_simp; done) | (go_simp; rfl)); intro g W hF1; have HC1 := hF1.cells; simp only [Fr.Cells, List.length_cons, List.length_nil, Nat.reduceAdd, and_true] at HC1; clear hF HC; have HC := HC1; have hF := Aside0.mk hF1; clear hF1 HC1))
    obtain ⟨A8, c8, rfl, hc8, hC8⟩ := hush_row hF.out HSN.out.len HSN.out.at_
    (with_reducible refine (foghornref14_Same.calls K A4 c4 T A8 c8 T true _ (Kd.C_below HT2.out hF.out.below) HCT.out hC8 hc8 H6.out).mono ?_)
    rintro e W8 ⟨rfl, hb⟩
    have hF1 := hF.out.call hb
    clear hb hc8 hC8
    have HC1 := hF1.cells; simp only [Fr.Cells, List.length_cons, List.length_nil, Nat.reduceAdd, and_true] at HC1; clear hF HC; have HC := HC1; have hF := Aside0.mk hF1; clear hF1 HC1
    iterate 4 (go_wp2_with (first | ((with_reducible refine gate_store rfl ?_); apply Fr.fr_store hF.out rfl rfl rfl; (case hp => rfl); (case hx => first | (go_simp; rfl) | rfl); (case hu => (simp only [Value.cells]; rfl)); (case hs => (repeat (first | exact Fr.Spot.here _ _ | apply Fr.Spot.there))); (case ht => kernel_rfl); (case h1 => simp [Value.oneCell']); (case hfit => simp); intro W hF1; simp only [Fr.patch, List.take_zero, List.nil_append, List.drop, List.append_nil, List.take, List.cons_append, List.length_cons, List.length_nil, Nat.reduceAdd] at hF1; have HC1 := hF1.cells; simp only [Fr.Cells, List.length_cons, List.length_nil, Nat.reduceAdd, and_true] at HC1; clear hF HC; have HC := HC1; have hF := Aside0.mk hF1; clear hF1 HC1) | ((first | (with_reducible refine Fr.gate_alloc rfl ?_) | (with_reducible refine Fr.gate_box rfl ?_)); apply Fr.fr_box hF.out rfl; (case hrun => first | (go_simp; done) | (go_simp; rfl)); intro g W hF1; have HC1 := hF1.cells; simp only [Fr.Cells, List.length_cons, List.length_nil, Nat.reduceAdd, and_true] at HC1; clear hF HC; have HC := HC1; have hF := Aside0.mk hF1; clear hF1 HC1)); try ((first | ((with_reducible refine (foghornref10_Right.calls K A1 c1 L (rightB L) _ (Kd.C_below HL2.out hF.out.below) HLC.out H3.out).mono ?_); rintro e W ⟨rfl, hb⟩; have hF1 := hF.out.call hb; clear hb; simp only [Hg5.out]) | ((with_reducible refine (foghornref14_Active.calls K Aq cq q A1 c1 L now aa _ (Kd.C_below HQ2.out hF.out.below) HQ1.out.1 (Kd.C_below HL2.out hF.out.below) HLC.out H4.out).mono ?_); rintro e W ⟨rfl, hb⟩; have hF1 := hF.out.call hb; clear hb) | ((with_reducible refine (foghornref14_Free.calls K Aq cq q A1 c1 L now tt _ (Kd.C_below HQ2.out hF.out.below) HQ1.out.1 (Kd.C_below HL2.out hF.out.below) HLC.out H5.out).mono ?_); rintro e W ⟨rfl, hb⟩; have hF1 := hF.out.call hb; clear hb)); have HC1 := hF1.cells; simp only [Fr.Cells, List.length_cons, List.length_nil, Nat.reduceAdd, and_true] at HC1; clear hF HC; have HC := HC1; have hF := Aside0.mk hF1; clear hF1 HC1))
    go_ret
    exact ⟨rfl, HBB.out.trans ((HBB2.out.trans (hF.out.below.mono HBB2.out.size)).mono HBB.out.size)⟩
theorem may_of {hs : List S25} {L : List S92} {u : Int} (h : hushesB hs = true) (ht : tmB u = true) : mayB hs L u = rightB L := by
  unfold mayB
  rw [h, ht]; rfl
theorem cut_size {s : ByteArray} : (s.extract 0 (mn (s.size : Int) 12).toNat).size ≤ 12 := by
  rw [ByteArray.size_extract, mn_is]
  split <;> omega
theorem cut_HSz (h : S25) : HSz 13 (cutH h) := by
  unfold cutH HSz
  refine ⟨by have := List.length_take_le 6 h.f2; simp only [List.length_map]; omega, fun m hm => ?_⟩
  obtain ⟨x, _, rfl⟩ := List.mem_map.1 hm
  unfold cutM MSz
  have h1 := @cut_size x.f1
  have h2 := @cut_size x.f2
  exact ⟨Nat.lt_of_le_of_lt h1 (by omega), Nat.lt_of_le_of_lt h2 (by omega), Nat.le_trans h1 (by omega), Nat.le_trans h2 (by omega)⟩
theorem HushTells (A0 : Option Addr) (c0 : Nat) (l0 : List S25) (h0 h1 : Int) (A2 : Option Addr) (c2 : Nat) (l2 : List S88) (A1 : Option Addr) (c1 : Nat) (l1 : List S92) (now : Int) (w : World) (hr0 : Kd.C k25 w A0 l0.length l0) (hc0 : l0.length ≤ c0) (hr2 : Kd.C k88 w A2 l2.length l2) (hc2 : l2.length ≤ c2) (hr1 : Kd.C k92 w A1 l1.length l1) (hc1 : l1.length ≤ c1) (kz : Nat) (hz : ∀ x ∈ l1, LSz kz x) :
    Calls Try.prog 3 #[.slice A0 l0.length c0, .agg #[.int .i64 h0, .int .i64 h1, .slice A2 l2.length c2], .slice A1 l1.length c1, .int .i64 now] w fun e w' => e = .returned (.bool true) ∧ Below w.heap.size w w' := by
  have hq := few_is l0 30 (by omega)
  obtain ⟨q, hqq⟩ : ∃ q, (l0.take 10).map cutH = q := ⟨_, rfl⟩
  obtain ⟨L, hL⟩ : ∃ L, l1.take 5 = L := ⟨_, rfl⟩
  obtain ⟨b, hb⟩ : ∃ b, cutH ⟨h0, h1, l2⟩ = b := ⟨_, rfl⟩
  have hql : q.length ≤ 10 := by rw [← hqq, List.length_map]; exact List.length_take_le 10 l0
  have hLl : L.length ≤ 5 := by rw [← hL]; exact List.length_take_le 5 l1
  have hzq : ∀ h ∈ q, HSz 13 h := fun h hh => by
    rw [← hqq] at hh
    obtain ⟨x, _, rfl⟩ := List.mem_map.1 hh
    exact cut_HSz x
  have hzb : HSz 13 b := by rw [← hb]; exact cut_HSz _
  have hzL : ∀ x ∈ L, LSz kz x := fun x hx => hz x (List.mem_of_mem_take (by rw [hL]; exact hx))
  rw [hqq] at hq
  clear hqq
  obtain ⟨K, hK⟩ : ∃ K, K = kz + 10000 := ⟨_, rfl⟩
  have r1 : foghornref14_Right.f K q = some (hushesB q) := hushes_ref q (by omega) 13 K hzq (by omega)
  have r2 : foghornref12_Hush.f K b.f0 b.f1 b.f2 = some (hushB b) := hush_ref b 13 K hzb (by omega)
  have r3 : foghornref10_Right.f K L = some (rightB L) := right_ref L (by omega) kz K hzL (by omega)
  cases g1 : hushesB q with
  | false =>
    have hm : mayB q L now = false := by unfold mayB; rw [g1]; rfl
    exact tells_c1 30 A0 c0 l0 ⟨h0, h1, l2⟩ A2 c2 A1 c1 l1 now w hr0 hc0 hr2 hc2 hr1 hc1 q L b hq hL hb hql K r1 r2 r3 (fun Aq cq A3 c3 W k1 k2 k3 => add_no1 Aq cq q b A3 c3 now W k1 (by omega) k2 k3 g1) (may_no hm).2 (may_no hm).1 (by unfold freeV; rw [hm]; rfl) g1
  | true =>
    cases g2 : tmB now with
    | false =>
      have hm : mayB q L now = false := by unfold mayB; rw [g1, g2]; rfl
      exact tells_c2 30 A0 c0 l0 ⟨h0, h1, l2⟩ A2 c2 A1 c1 l1 now w hr0 hc0 hr2 hc2 hr1 hc1 q L b hq hL hb hql K r1 r2 r3 (fun Aq cq A3 c3 W k1 k2 k3 => add_no2 Aq cq q b A3 c3 now W k1 (by omega) k2 k3 g1 g2) (may_no hm).2 (may_no hm).1 (by unfold freeV; rw [hm]; rfl) g1 g2
    | true =>
      have hmR : mayB q L now = rightB L := may_of g1 g2
      have hall : ∀ h ∈ q, hushB h = true := by
        have := g1
        unfold hushesB at this
        simp only [Bool.and_eq_true] at this
        exact List.all_eq_true.1 this.2
      obtain ⟨X, hx⟩ : ∃ X, (q.filter fun x => !overP now x) = X := ⟨_, rfl⟩
      obtain ⟨T, hxt⟩ : ∃ T, X ++ [b] = T := ⟨_, rfl⟩
      have hXl : X.length ≤ q.length := by rw [← hx]; exact List.length_filter_le _ _
      have r6 : foghornref14_Same.f K T T = some true := by
        refine same_ref T (by rw [← hxt, List.length_append, List.length_singleton]; omega) (fun y hy => ?_) K (by omega)
        rw [← hxt] at hy
        rcases List.mem_append.1 hy with hy | hy
        · rw [← hx] at hy
          exact (hzq y (List.mem_filter.1 hy).1).1
        · rw [List.mem_singleton.1 hy]; exact hzb.1
      have NO := fun (g3 : hushB b = false) (Aq : Option Addr) (cq : Nat) (A3 : Option Addr) (c3 : Nat) (W : World) k1 k2 k3 => add_no3 Aq cq q b A3 c3 now W k1 (by omega) k2 k3 g1 g2 g3
      have LATE := fun (g3 : hushB b = true) (g4 : b.f1 ≤ now) (Aq : Option Addr) (cq : Nat) (A3 : Option Addr) (c3 : Nat) (W : World) k1 k2 k3 => add_late Aq cq q b A3 c3 now W k1 (by omega) k2 k3 g1 g2 g3 g4
      have FULL := fun (g3 : hushB b = true) (g4 : now < b.f1) (g8 : ((X.length : Int) == 8) = true) (Aq : Option Addr) (cq : Nat) (A3 : Option Addr) (c3 : Nat) (W : World) k1 k2 k3 => add_full Aq cq q b A3 c3 now W k1 (by omega) k2 k3 g1 g2 g3 g4 X hx g8
      have OK := fun (g3 : hushB b = true) (g4 : now < b.f1) (g8 : ((X.length : Int) == 8) = false) (Aq : Option Addr) (cq : Nat) (A3 : Option Addr) (c3 : Nat) (W : World) k1 k2 k3 => add_ok Aq cq q b A3 c3 now W k1 (by omega) k2 k3 g1 g2 g3 g4 X hx g8
      rw [hxt] at OK
      cases hR : rightB L with
      | false =>
        rw [hR] at hmR
        have hf : freeV q L now = 0 := by unfold freeV; rw [hmR]; rfl
        cases g3 : hushB b with
        | false => exact tells_c3_0 30 A0 c0 l0 ⟨h0, h1, l2⟩ A2 c2 A1 c1 l1 now w hr0 hc0 hr2 hc2 hr1 hc1 q L b hq hL hb hql K r1 r2 r3 (NO g3) g1 g2 hR (may_no hmR).2 (may_no hmR).1 hf g3
        | true =>
          by_cases g4 : b.f1 ≤ now
          · exact tells_c4_0 30 A0 c0 l0 ⟨h0, h1, l2⟩ A2 c2 A1 c1 l1 now w hr0 hc0 hr2 hc2 hr1 hc1 q L b hq hL hb hql K r1 r2 r3 (LATE g3 g4) g1 g2 hR (may_no hmR).2 (may_no hmR).1 hf g3 g4
          · have g5 : now < b.f1 := by omega
            cases g8 : ((X.length : Int) == 8) with
            | true => exact tells_c5_0 30 A0 c0 l0 ⟨h0, h1, l2⟩ A2 c2 A1 c1 l1 now w hr0 hc0 hr2 hc2 hr1 hc1 q L b hq hL hb hql K r1 r2 r3 (FULL g3 g5 g8) g1 g2 hR (may_no hmR).2 (may_no hmR).1 hf g3 g5 X hx g8
            | false => exact tells_c6_0 30 A0 c0 l0 ⟨h0, h1, l2⟩ A2 c2 A1 c1 l1 now w hr0 hc0 hr2 hc2 hr1 hc1 q L b hq hL hb hql X T K r1 r2 r3 (OK g3 g5 g8) g1 g2 hR (may_no hmR).2 (may_no hmR).1 hf g3 g5 hx g8 r6 hxt
      | true =>
        rw [hR] at hmR
        have r4 := active_ref q L hR (by omega) (by omega) hall now K (by omega)
        have r5 := free_ref q L hR (by omega) (by omega) hall now K (by omega)
        have hf : freeV q L now = freeG q L (q.length + 1) now := by unfold freeV; rw [if_pos hmR]
        have ha : activeV q L now = q.any (hitB L now) := by
          rw [(may_yes hmR).1, Bool.eq_iff_iff, any_hushed, decide_eq_true_iff]
          rfl
        cases g3 : hushB b with
        | false => exact tells_c3_1 30 A0 c0 l0 ⟨h0, h1, l2⟩ A2 c2 A1 c1 l1 now w hr0 hc0 hr2 hc2 hr1 hc1 q L b hq hL hb hql K r1 r2 r3 (NO g3) _ _ r4 r5 g1 g2 hR (may_yes hmR).2 ha hf g3
        | true =>
          by_cases g4 : b.f1 ≤ now
          · exact tells_c4_1 30 A0 c0 l0 ⟨h0, h1, l2⟩ A2 c2 A1 c1 l1 now w hr0 hc0 hr2 hc2 hr1 hc1 q L b hq hL hb hql K r1 r2 r3 (LATE g3 g4) _ _ r4 r5 g1 g2 hR (may_yes hmR).2 ha hf g3 g4
          · have g5 : now < b.f1 := by omega
            cases g8 : ((X.length : Int) == 8) with
            | true => exact tells_c5_1 30 A0 c0 l0 ⟨h0, h1, l2⟩ A2 c2 A1 c1 l1 now w hr0 hc0 hr2 hc2 hr1 hc1 q L b hq hL hb hql K r1 r2 r3 (FULL g3 g5 g8) _ _ r4 r5 g1 g2 hR (may_yes hmR).2 ha hf g3 g5 X hx g8
            | false => exact tells_c6_1 30 A0 c0 l0 ⟨h0, h1, l2⟩ A2 c2 A1 c1 l1 now w hr0 hc0 hr2 hc2 hr1 hc1 q L b hq hL hb hql X T K r1 r2 r3 (OK g3 g5 g8) _ _ r4 r5 g1 g2 hR (may_yes hmR).2 ha hf g3 g5 hx g8 r6 hxt
theorem HushTellsR {P0 P1 P3 : Prop} (A0 : Option Addr) (c0 : Nat) (l0 : List S25) (h0 h1 : Int) (A2 : Option Addr) (c2 : Nat) (l2 : List S88) (A1 : Option Addr) (c1 : Nat) (l1 : List S92) (now : Int) (w : World) (hr0 : Kd.C k25 w A0 l0.length l0) (hc0 : l0.length ≤ c0) (hr2 : Kd.C k88 w A2 l2.length l2) (hc2 : l2.length ≤ c2) (hr1 : Kd.C k92 w A1 l1.length l1) (hc1 : l1.length ≤ c1)
    (w0 : P0) (w1 : P1) (w2 : l1.length ≤ maxLen ∧ ∀ z ∈ l1, (z.f0.size ≤ maxLen) ∧ (z.f1.size ≤ maxLen)) (w3 : P3) :
    Calls Try.prog 3 #[.slice A0 l0.length c0, .agg #[.int .i64 h0, .int .i64 h1, .slice A2 l2.length c2], .slice A1 l1.length c1, .int .i64 now] w fun e w' => e = .returned (.bool true) ∧ Below w.heap.size w w' :=
  HushTells A0 c0 l0 h0 h1 A2 c2 l2 A1 c1 l1 now w hr0 hc0 hr2 hc2 hr1 hc1 (maxLen + 1) (fun x hx => ⟨Nat.lt_succ_of_le (w2.2 x hx).1, Nat.lt_succ_of_le (w2.2 x hx).2, (w2.2 x hx).1, (w2.2 x hx).2⟩)
end Go.Proofs.Ytkphinfijppkeaa.G
