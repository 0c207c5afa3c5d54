/- Contracts of functions of the given program: what each comes to, for any arguments. No condition beyond each theorem's own premises. -/
import Derived.Deep.RegionHeld3
import Derived.Test.YtkphinfijppkeaaLp
namespace Go.Proofs.Ytkphinfijppkeaa.G
open Go.RowKit Go.Proofs.YtkphinfijppkeaaW.PrintWords Go.Proofs.YtkphinfijppkeaaW.PrintLast Go.Proofs.YtkphinfijppkeaaW.PrintMore
attribute [local go_sem] max2_int min2_int max_two min_two max_three min_three max_four min_four
set_option linter.unusedVariables false
set_option linter.unusedSimpArgs false
/-- Hushes by their cells. -/
structure RowsOf (w : World) (l : List S25) (rows : List (List Value)) : Prop where
  len : rows.length = l.length
  at_ : ∀ (j : Nat) (x : S25) (c : List Value), l[j]? = some x → rows[j]? = some c → k25.K w x c
theorem RowsOf.append {w : World} {l l' : List S25} {r r' : List (List Value)} (h : RowsOf w l r) (h' : RowsOf w l' r') : RowsOf w (l ++ l') (r ++ r') := by
  refine ⟨by simp [h.len, h'.len], fun j x c h1 h2 => ?_⟩
  by_cases e : j < l.length
  · rw [List.getElem?_append_left e] at h1
    rw [List.getElem?_append_left (by have := h.len; omega)] at h2
    exact h.at_ j x c h1 h2
  · rw [List.getElem?_append_right (by omega)] at h1
    rw [List.getElem?_append_right (by have := h.len; omega), h.len] at h2
    exact h'.at_ _ x c h1 h2
theorem RowsOf.take {w : World} {l : List S25} {r : List (List Value)} (h : RowsOf w l r) (n : Nat) : RowsOf w (l.take n) (r.take n) := by
  refine ⟨by simp [h.len], fun j x c h1 h2 => ?_⟩
  rw [List.getElem?_take] at h1 h2
  split at h1
  · rename_i hj
    rw [if_pos hj] at h2
    exact h.at_ j x c h1 h2
  · cases h1
theorem RowsOf.drop {w : World} {l : List S25} {r : List (List Value)} (h : RowsOf w l r) (n : Nat) : RowsOf w (l.drop n) (r.drop n) := by
  refine ⟨by simp [h.len], fun j x c h1 h2 => ?_⟩
  rw [List.getElem?_drop] at h1 h2
  exact h.at_ _ x c h1 h2
theorem RowsOf.one {w : World} {x : S25} {c : List Value} (h : k25.K w x c) : RowsOf w [x] [c] := by
  refine ⟨rfl, fun j y c' h1 h2 => ?_⟩
  cases j with
  | zero => simp at h1 h2; subst h1 h2; exact h
  | succ j => simp at h1
section
variable {P : Program} {w0 W : World} {bs : List Fr.Blk}
/-- An append of a row that is not one's own to one's own: the run. -/
theorem run_appendF {sz : Nat} {S : Nat → Prop} {v : Value} {xs : List (List Value)} (t e ty : TypeId) (z : Value) (bytes : Nat) (ad : Addr) (c : Nat) (rows : List (List Value))
    (hF : Fr.Frame w0 W bs [Fr.rowR (Kd.raw sz) e w0.heap.size v xs S])
    (ht : P.underlying t = some (.slice e)) (hinfo : (P.info? e).map (fun i => (i.zero, i.size, i.bytes)) = some (some z, sz, bytes)) (hz : z.cells.size = sz) (hs0 : 0 < sz) (hb0 : 0 < bytes)
    (hC : Kd.C (Kd.raw sz) W (some ad) rows.length rows) (hl : (xs.length + rows.length) * bytes ≤ 140737488355328) :
    ∃ v1 w1, (Builtin.append_ #[t, t] ty #[v, .slice (some ad) rows.length c]).run P W = .ok v1 w1 ∧ ∃ S1, Fr.Frame w0 w1 bs [Fr.rowR (Kd.raw sz) e w0.heap.size v1 (xs ++ rows) S1] := by
  have hr := hF.row (Fr.rowR (Kd.raw sz) e w0.heap.size v xs S) List.mem_cons_self
  have hRS : (Kd.raw sz).R e W w0.heap.size S v xs := hr.1
  have hdis : ∀ k, S k → ∀ b ∈ bs, k ≠ b.1 := fun k hk b hb he => hr.2.2 b hb (by subst he; exact hk)
  have hcc : ∀ (j : Nat) (c' : List Value), rows[j]? = some c' → c'.length = sz ∧ (∀ u ∈ c', u.oneCell' = true) ∧ ∀ i u, c'[i]? = some u → W.cell? (ad.add (j * sz + i)) = some u := fun j c' hj => by
    have hp : 0 < rows.length := by have := (List.getElem?_eq_some_iff.1 hj).1; omega
    obtain ⟨ad', he, h4⟩ := hC.2.2 hp
    injection he with he
    subst he
    obtain ⟨c2, k1, k2, k3⟩ := h4 j c' hj
    have : c2 = c' := k2.1
    subst this
    exact ⟨k1, k2.2.2, k3⟩
  have hall : ∀ c' ∈ rows, c'.length = sz ∧ ∀ u ∈ c', u.oneCell' = true := fun c' hc' => by
    obtain ⟨j, hj, rfl⟩ := List.mem_iff_getElem.1 hc'
    have := hcc j _ (List.getElem?_eq_getElem hj)
    exact ⟨this.1, this.2.1⟩
  have hnews : ∀ j u, rows.flatten[j]? = some u → W.cell? (ad.add j) = some u := flat_cells hs0 (fun c' h => (hall c' h).1) (fun j c' hj i u hu => (hcc j c' hj).2.2 i u hu)
  obtain ⟨v1, w1, hrun, h1, h2, hg⟩ := Fr.R_append_keep (P := P) (Kd.raw sz) w0.heap.size t ty e z bytes ht hinfo hz hs0 hb0 (Kd.R_mono hRS hdis) (fun w ok => reps_flat w _ ok hall) (fun u hu => by
    obtain ⟨c', hc', hu'⟩ := List.mem_flatten.1 hu
    exact (hall c' hc').2 u hu') ad rows.length c rfl hnews hl hF.below.size (fun k hk b hb he => by have := hF.lt hb; omega)
  have hF0 : Fr.Frame w0 W bs [] := hF.noRows
  have hF1 : Fr.Frame w0 w1 bs [] := ⟨hF0.below.grown hg hF.below.size (fun k hk => Kd.R_base hRS k hk), fun b hb => ⟨(hF0.blk b hb).1, blk_grown (hF0.blk b hb).2 hg (fun e1 => hdis b.1 (hRS.1 b.1 e1.symm) b hb rfl)⟩, hF0.nodup, by simp⟩
  exact ⟨v1, w1, hrun, hF1.rowIn h1 (fun k hk => hk)⟩
theorem step_appendF {ops : Array Oper} {o : Oper} {a : Act} {K : Act → World → Prop} {Q : Exit → Act → World → Prop} {E : Prop} {sz : Nat} {S : Nat → Prop} {v : Value} {xs : List (List Value)} (s x : Operand) (t e : TypeId) (z : Value) (bytes : Nat) (ad : Addr) (c : Nat) (rows : List (List Value))
    (hF : Fr.Frame w0 W bs [Fr.rowR (Kd.raw sz) e w0.heap.size v xs S]) (hgd : o.guard = none) (ho : o.op = .call { callee := .builtin .append, args := #[s, x], argTypes := #[t, t] })
    (ht : P.underlying t = some (.slice e)) (hinfo : (P.info? e).map (fun i => (i.zero, i.size, i.bytes)) = some (some z, sz, bytes)) (hz : z.cells.size = sz) (hs0 : 0 < sz) (hb0 : 0 < bytes)
    (hs : a.eval s = v) (n : Nat) (hn : rows.length = n) (hx : a.eval x = .slice (some ad) n c) (hC : Kd.C (Kd.raw sz) W (some ad) n rows) (hl : (xs.length + rows.length) * bytes ≤ 140737488355328)
    (h : ∀ v1 w1 S1, Fr.Frame w0 w1 bs [Fr.rowR (Kd.raw sz) e w0.heap.size v1 (xs ++ rows) S1] → K (a.put o.dst v1) w1) :
    if Region.wanted o (yielded ops a.tmps) = true then Oper.wp P o a W K Q else E := by
  subst hn
  have hw : Region.wanted o (yielded ops a.tmps) = true := by simp [Region.wanted, hgd]
  rw [if_pos hw]
  obtain ⟨v1, w1, hrun, S1, hS1⟩ := run_appendF (P := P) t e o.type z bytes ad c rows hF ht hinfo hz hs0 hb0 hC hl
  unfold Oper.wp execOp
  simp only [ho, resolve, invoke, builtin, Sem.run_bind, Sem.run_pure, Result.andThen_ok, List.map_toArray, List.map_cons, List.map_nil, hs, hx, hrun]
  exact h v1 w1 S1 hS1
end
theorem E14w : True := trivial
set_option maxHeartbeats 8000000 in
set_option maxRecDepth 100000 in
theorem turns_no (k : Nat) (A0 : Option Addr) (c0 : Nat) (l0 : List S25) (A1 : Option Addr) (c1 : Nat) (l1 : List S92) (now tn : Int) (w : World) (hr0 : Kd.C k25 w A0 l0.length l0) (hc0 : l0.length ≤ c0) (hr1 : Kd.C k92 w A1 l1.length l1) (hc1 : l1.length ≤ c1)
    (q : List S25) (L : List S92) (hq : foghornlaw14_few.f k l0 = some q) (hL : l1.take 5 = L) (q7 : List S25) (hq7 : q.take q7.length = q7) (hqn : q7.length ≤ q.length) (hmn : (if (7 : Int) < (l0.length : Int) then 7 else (l0.length : Int)) = (q7.length : Int)) (hn8 : q7.length ≤ 7)
    (h1 : mayE q7 L now = 1) :
    Calls Try.prog 6 #[.slice A0 l0.length c0, .slice A1 l1.length c1, .int .i64 now, .int .i64 tn] w fun e w' => e = .returned (.bool true) ∧ Below w.heap.size w w' := by
  have HQ7 := Aside0.mk hq7
  have HQN := Aside0.mk hqn
  have HN8 := Aside0.mk hn8
  have HR0 := Aside0.mk hr0
  have HC0 := Aside0.mk hc0
  have HC1 := Aside0.mk hc1
  have HRX := Aside0.mk (take5 hr1 hL)
  have HM1 := Aside0.mk hr1.2.1
  have hm0 : l0.length ≤ 9223372036854775807 := hr0.2.1
  have HQ := Aside0.mk hq
  have HLL := Aside0.mk (show (l1.take 5).length = L.length by rw [hL])
  have H1 := Aside0.mk h1
  clear hr0 hc0 hr1 hc1 hq hL hq7 hqn hn8 h1
  have H16 := Aside0.mk (fun W => some16 A1 c1 l1 W HC1.out HM1.out)
  rw [HLL.out] at H16
  have H14 := Aside0.mk (fun W (hb : Below w.heap.size w W) => few14_calls k A0 c0 l0 q W (Kd.C_below HR0.out hb) HC0.out HQ.out)
  go_enter Try.func6, Try.ntmps6
  go_wp2
  go_region_with (first | (go_at_call 14; refine (H14.out _ (by first | exact Below.refl _ _ | exact below_drew (Below.refl _ _))).mono ?_; rintro e W ⟨Aq, cq, rfl, hcq, hCq, hb⟩; have hcc : q7.length ≤ cq := Nat.le_trans HQN.out hcq) | (go_at_call 16; refine (H16.out _).mono ?_; rintro e W' ⟨rfl, rfl⟩))
  all_goals
    have hb1 : Below w.heap.size w W := (below_drew (Below.refl _ w)).trans hb
    have HB0 := Aside0.mk hb1
    have hC7 : Kd.C k25 W Aq q7.length q7 := by
      have h := Kd.C_take (m := q7.length) hCq HQN.out
      rwa [HQ7.out] at h
    have HRL := Aside0.mk (Kd.C_below HRX.out hb1)
    have HC7 := Aside0.mk hC7
    have hF := Aside0.mk (Fr.Frame.start W)
    have HC : True := trivial
    clear hb hb1 hCq hC7 hcq
    go_wp2_with (first | ((with_reducible refine gate_store rfl ?_); apply Fr.fr_store hF.out rfl rfl rfl; (case hp => rfl); (case hx => first | (go_simp; rfl) | rfl); (case hu => (simp only [Value.cells]; rfl)); (case hs => (repeat (first | exact Fr.Spot.here _ _ | apply Fr.Spot.there))); (case ht => kernel_rfl); (case h1 => simp [Value.oneCell']); (case hfit => simp); intro W hF1; simp only [Fr.patch, List.take_zero, List.nil_append, List.drop, List.append_nil, List.take, List.cons_append, List.length_cons, List.length_nil, Nat.reduceAdd] at hF1; have HC1 := hF1.cells; simp only [Fr.Cells, List.length_cons, List.length_nil, Nat.reduceAdd, and_true] at HC1; clear hF HC; have HC := HC1; have hF := Aside0.mk hF1; clear hF1 HC1) | ((first | (with_reducible refine Fr.gate_alloc rfl ?_) | (with_reducible refine Fr.gate_box rfl ?_)); apply Fr.fr_box hF.out rfl; (case hrun => first | (go_simp; done) | (go_simp; rfl)); intro g W hF1; have HC1 := hF1.cells; simp only [Fr.Cells, List.length_cons, List.length_nil, Nat.reduceAdd, and_true] at HC1; clear hF HC; have HC := HC1; have hF := Aside0.mk hF1; clear hF1 HC1))
    (with_reducible refine (active_calls Aq cq q7 A1 c1 L now _ (Kd.C_below HC7.out hF.out.below) (Kd.C_below HRL.out hF.out.below)).mono ?_); rintro e W ⟨rfl, hb⟩; have hF1 := hF.out.call hb; clear hb; have HC1 := hF1.cells; simp only [Fr.Cells, List.length_cons, List.length_nil, Nat.reduceAdd, and_true] at HC1; clear hF HC; have HC := HC1; have hF := Aside0.mk hF1; clear hF1 HC1
    simp only [H1.out]
    go_wp2_with (first | ((with_reducible refine gate_store rfl ?_); apply Fr.fr_store hF.out rfl rfl rfl; (case hp => rfl); (case hx => first | (go_simp; rfl) | rfl); (case hu => (simp only [Value.cells]; rfl)); (case hs => (repeat (first | exact Fr.Spot.here _ _ | apply Fr.Spot.there))); (case ht => kernel_rfl); (case h1 => simp [Value.oneCell']); (case hfit => simp); intro W hF1; simp only [Fr.patch, List.take_zero, List.nil_append, List.drop, List.append_nil, List.take, List.cons_append, List.length_cons, List.length_nil, Nat.reduceAdd] at hF1; have HC1 := hF1.cells; simp only [Fr.Cells, List.length_cons, List.length_nil, Nat.reduceAdd, and_true] at HC1; clear hF HC; have HC := HC1; have hF := Aside0.mk hF1; clear hF1 HC1) | ((first | (with_reducible refine Fr.gate_alloc rfl ?_) | (with_reducible refine Fr.gate_box rfl ?_)); apply Fr.fr_box hF.out rfl; (case hrun => first | (go_simp; done) | (go_simp; rfl)); intro g W hF1; have HC1 := hF1.cells; simp only [Fr.Cells, List.length_cons, List.length_nil, Nat.reduceAdd, and_true] at HC1; clear hF HC; have HC := HC1; have hF := Aside0.mk hF1; clear hF1 HC1))
    (with_reducible refine (free_calls Aq cq q7 A1 c1 L now _ (Kd.C_below HC7.out hF.out.below) (Kd.C_below HRL.out hF.out.below)).mono ?_); rintro e W ⟨rfl, hb⟩; have hF1 := hF.out.call hb; clear hb; have HC1 := hF1.cells; simp only [Fr.Cells, List.length_cons, List.length_nil, Nat.reduceAdd, and_true] at HC1; clear hF HC; have HC := HC1; have hF := Aside0.mk hF1; clear hF1 HC1
    simp only [H1.out]
    go_wp2_with (first | ((with_reducible refine gate_store rfl ?_); apply Fr.fr_store hF.out rfl rfl rfl; (case hp => rfl); (case hx => first | (go_simp; rfl) | rfl); (case hu => (simp only [Value.cells]; rfl)); (case hs => (repeat (first | exact Fr.Spot.here _ _ | apply Fr.Spot.there))); (case ht => kernel_rfl); (case h1 => simp [Value.oneCell']); (case hfit => simp); intro W hF1; simp only [Fr.patch, List.take_zero, List.nil_append, List.drop, List.append_nil, List.take, List.cons_append, List.length_cons, List.length_nil, Nat.reduceAdd] at hF1; have HC1 := hF1.cells; simp only [Fr.Cells, List.length_cons, List.length_nil, Nat.reduceAdd, and_true] at HC1; clear hF HC; have HC := HC1; have hF := Aside0.mk hF1; clear hF1 HC1) | ((first | (with_reducible refine Fr.gate_alloc rfl ?_) | (with_reducible refine Fr.gate_box rfl ?_)); apply Fr.fr_box hF.out rfl; (case hrun => first | (go_simp; done) | (go_simp; rfl)); intro g W hF1; have HC1 := hF1.cells; simp only [Fr.Cells, List.length_cons, List.length_nil, Nat.reduceAdd, and_true] at HC1; clear hF HC; have HC := HC1; have hF := Aside0.mk hF1; clear hF1 HC1))
    (with_reducible refine (alive_calls _).mono ?_); rintro e W ⟨rfl, hb⟩; have hF1 := hF.out.call hb; clear hb; have HC1 := hF1.cells; simp only [Fr.Cells, List.length_cons, List.length_nil, Nat.reduceAdd, and_true] at HC1; clear hF HC; have HC := HC1; have hF := Aside0.mk hF1; clear hF1 HC1
    go_wp2_with (first | ((with_reducible refine gate_store rfl ?_); apply Fr.fr_store hF.out rfl rfl rfl; (case hp => rfl); (case hx => first | (go_simp; rfl) | rfl); (case hu => (simp only [Value.cells]; rfl)); (case hs => (repeat (first | exact Fr.Spot.here _ _ | apply Fr.Spot.there))); (case ht => kernel_rfl); (case h1 => simp [Value.oneCell']); (case hfit => simp); intro W hF1; simp only [Fr.patch, List.take_zero, List.nil_append, List.drop, List.append_nil, List.take, List.cons_append, List.length_cons, List.length_nil, Nat.reduceAdd] at hF1; have HC1 := hF1.cells; simp only [Fr.Cells, List.length_cons, List.length_nil, Nat.reduceAdd, and_true] at HC1; clear hF HC; have HC := HC1; have hF := Aside0.mk hF1; clear hF1 HC1) | ((first | (with_reducible refine Fr.gate_alloc rfl ?_) | (with_reducible refine Fr.gate_box rfl ?_)); apply Fr.fr_box hF.out rfl; (case hrun => first | (go_simp; done) | (go_simp; rfl)); intro g W hF1; have HC1 := hF1.cells; simp only [Fr.Cells, List.length_cons, List.length_nil, Nat.reduceAdd, and_true] at HC1; clear hF HC; have HC := HC1; have hF := Aside0.mk hF1; clear hF1 HC1))
    go_ret
    exact ⟨rfl, HB0.out.trans (hF.out.below.mono HB0.out.size)⟩
set_option maxHeartbeats 8000000 in
set_option maxRecDepth 100000 in
theorem turns_none (k : Nat) (A0 : Option Addr) (c0 : Nat) (l0 : List S25) (A1 : Option Addr) (c1 : Nat) (l1 : List S92) (now tn : Int) (w : World) (hr0 : Kd.C k25 w A0 l0.length l0) (hc0 : l0.length ≤ c0) (hr1 : Kd.C k92 w A1 l1.length l1) (hc1 : l1.length ≤ c1)
    (q : List S25) (L : List S92) (hq : foghornlaw14_few.f k l0 = some q) (hL : l1.take 5 = L) (q7 : List S25) (hq7 : q.take q7.length = q7) (hqn : q7.length ≤ q.length) (hmn : (if (7 : Int) < (l0.length : Int) then 7 else (l0.length : Int)) = (q7.length : Int)) (hn8 : q7.length ≤ 7)
    (h1 : mayE q7 L now = 0) (hz : ((q7.length : Int) == 0) = true) :
    Calls Try.prog 6 #[.slice A0 l0.length c0, .slice A1 l1.length c1, .int .i64 now, .int .i64 tn] w fun e w' => e = .returned (.bool true) ∧ Below w.heap.size w w' := by
  have HQ7 := Aside0.mk hq7
  have HQN := Aside0.mk hqn
  have HN8 := Aside0.mk hn8
  have HR0 := Aside0.mk hr0
  have HC0 := Aside0.mk hc0
  have HC1 := Aside0.mk hc1
  have HRX := Aside0.mk (take5 hr1 hL)
  have HM1 := Aside0.mk hr1.2.1
  have hm0 : l0.length ≤ 9223372036854775807 := hr0.2.1
  have HQ := Aside0.mk hq
  have HLL := Aside0.mk (show (l1.take 5).length = L.length by rw [hL])
  have H1 := Aside0.mk h1
  clear hr0 hc0 hr1 hc1 hq hL hq7 hqn hn8 h1
  have H16 := Aside0.mk (fun W => some16 A1 c1 l1 W HC1.out HM1.out)
  rw [HLL.out] at H16
  have H14 := Aside0.mk (fun W (hb : Below w.heap.size w W) => few14_calls k A0 c0 l0 q W (Kd.C_below HR0.out hb) HC0.out HQ.out)
  go_enter Try.func6, Try.ntmps6
  go_wp2
  go_region_with (first | (go_at_call 14; refine (H14.out _ (by first | exact Below.refl _ _ | exact below_drew (Below.refl _ _))).mono ?_; rintro e W ⟨Aq, cq, rfl, hcq, hCq, hb⟩; have hcc : q7.length ≤ cq := Nat.le_trans HQN.out hcq) | (go_at_call 16; refine (H16.out _).mono ?_; rintro e W' ⟨rfl, rfl⟩))
  all_goals
    have hb1 : Below w.heap.size w W := (below_drew (Below.refl _ w)).trans hb
    have HB0 := Aside0.mk hb1
    have hC7 : Kd.C k25 W Aq q7.length q7 := by
      have h := Kd.C_take (m := q7.length) hCq HQN.out
      rwa [HQ7.out] at h
    have HRL := Aside0.mk (Kd.C_below HRX.out hb1)
    have HC7 := Aside0.mk hC7
    have hF := Aside0.mk (Fr.Frame.start W)
    have HC : True := trivial
    clear hb hb1 hCq hC7 hcq
    go_wp2_with (first | ((with_reducible refine gate_store rfl ?_); apply Fr.fr_store hF.out rfl rfl rfl; (case hp => rfl); (case hx => first | (go_simp; rfl) | rfl); (case hu => (simp only [Value.cells]; rfl)); (case hs => (repeat (first | exact Fr.Spot.here _ _ | apply Fr.Spot.there))); (case ht => kernel_rfl); (case h1 => simp [Value.oneCell']); (case hfit => simp); intro W hF1; simp only [Fr.patch, List.take_zero, List.nil_append, List.drop, List.append_nil, List.take, List.cons_append, List.length_cons, List.length_nil, Nat.reduceAdd] at hF1; have HC1 := hF1.cells; simp only [Fr.Cells, List.length_cons, List.length_nil, Nat.reduceAdd, and_true] at HC1; clear hF HC; have HC := HC1; have hF := Aside0.mk hF1; clear hF1 HC1) | ((first | (with_reducible refine Fr.gate_alloc rfl ?_) | (with_reducible refine Fr.gate_box rfl ?_)); apply Fr.fr_box hF.out rfl; (case hrun => first | (go_simp; done) | (go_simp; rfl)); intro g W hF1; have HC1 := hF1.cells; simp only [Fr.Cells, List.length_cons, List.length_nil, Nat.reduceAdd, and_true] at HC1; clear hF HC; have HC := HC1; have hF := Aside0.mk hF1; clear hF1 HC1))
    (with_reducible refine (active_calls Aq cq q7 A1 c1 L now _ (Kd.C_below HC7.out hF.out.below) (Kd.C_below HRL.out hF.out.below)).mono ?_); rintro e W ⟨rfl, hb⟩; have hF1 := hF.out.call hb; clear hb; have HC1 := hF1.cells; simp only [Fr.Cells, List.length_cons, List.length_nil, Nat.reduceAdd, and_true] at HC1; clear hF HC; have HC := HC1; have hF := Aside0.mk hF1; clear hF1 HC1
    simp only [H1.out]
    go_wp2_with (first | ((with_reducible refine gate_store rfl ?_); apply Fr.fr_store hF.out rfl rfl rfl; (case hp => rfl); (case hx => first | (go_simp; rfl) | rfl); (case hu => (simp only [Value.cells]; rfl)); (case hs => (repeat (first | exact Fr.Spot.here _ _ | apply Fr.Spot.there))); (case ht => kernel_rfl); (case h1 => simp [Value.oneCell']); (case hfit => simp); intro W hF1; simp only [Fr.patch, List.take_zero, List.nil_append, List.drop, List.append_nil, List.take, List.cons_append, List.length_cons, List.length_nil, Nat.reduceAdd] at hF1; have HC1 := hF1.cells; simp only [Fr.Cells, List.length_cons, List.length_nil, Nat.reduceAdd, and_true] at HC1; clear hF HC; have HC := HC1; have hF := Aside0.mk hF1; clear hF1 HC1) | ((first | (with_reducible refine Fr.gate_alloc rfl ?_) | (with_reducible refine Fr.gate_box rfl ?_)); apply Fr.fr_box hF.out rfl; (case hrun => first | (go_simp; done) | (go_simp; rfl)); intro g W hF1; have HC1 := hF1.cells; simp only [Fr.Cells, List.length_cons, List.length_nil, Nat.reduceAdd, and_true] at HC1; clear hF HC; have HC := HC1; have hF := Aside0.mk hF1; clear hF1 HC1))
    (with_reducible refine (free_calls Aq cq q7 A1 c1 L now _ (Kd.C_below HC7.out hF.out.below) (Kd.C_below HRL.out hF.out.below)).mono ?_); rintro e W ⟨rfl, hb⟩; have hF1 := hF.out.call hb; clear hb; have HC1 := hF1.cells; simp only [Fr.Cells, List.length_cons, List.length_nil, Nat.reduceAdd, and_true] at HC1; clear hF HC; have HC := HC1; have hF := Aside0.mk hF1; clear hF1 HC1
    simp only [H1.out]
    go_wp2_with (first | ((with_reducible refine gate_store rfl ?_); apply Fr.fr_store hF.out rfl rfl rfl; (case hp => rfl); (case hx => first | (go_simp; rfl) | rfl); (case hu => (simp only [Value.cells]; rfl)); (case hs => (repeat (first | exact Fr.Spot.here _ _ | apply Fr.Spot.there))); (case ht => kernel_rfl); (case h1 => simp [Value.oneCell']); (case hfit => simp); intro W hF1; simp only [Fr.patch, List.take_zero, List.nil_append, List.drop, List.append_nil, List.take, List.cons_append, List.length_cons, List.length_nil, Nat.reduceAdd] at hF1; have HC1 := hF1.cells; simp only [Fr.Cells, List.length_cons, List.length_nil, Nat.reduceAdd, and_true] at HC1; clear hF HC; have HC := HC1; have hF := Aside0.mk hF1; clear hF1 HC1) | ((first | (with_reducible refine Fr.gate_alloc rfl ?_) | (with_reducible refine Fr.gate_box rfl ?_)); apply Fr.fr_box hF.out rfl; (case hrun => first | (go_simp; done) | (go_simp; rfl)); intro g W hF1; have HC1 := hF1.cells; simp only [Fr.Cells, List.length_cons, List.length_nil, Nat.reduceAdd, and_true] at HC1; clear hF HC; have HC := HC1; have hF := Aside0.mk hF1; clear hF1 HC1))
    (with_reducible refine (alive_calls _).mono ?_); rintro e W ⟨rfl, hb⟩; have hF1 := hF.out.call hb; clear hb; have HC1 := hF1.cells; simp only [Fr.Cells, List.length_cons, List.length_nil, Nat.reduceAdd, and_true] at HC1; clear hF HC; have HC := HC1; have hF := Aside0.mk hF1; clear hF1 HC1
    go_wp2_with (first | ((with_reducible refine gate_store rfl ?_); apply Fr.fr_store hF.out rfl rfl rfl; (case hp => rfl); (case hx => first | (go_simp; rfl) | rfl); (case hu => (simp only [Value.cells]; rfl)); (case hs => (repeat (first | exact Fr.Spot.here _ _ | apply Fr.Spot.there))); (case ht => kernel_rfl); (case h1 => simp [Value.oneCell']); (case hfit => simp); intro W hF1; simp only [Fr.patch, List.take_zero, List.nil_append, List.drop, List.append_nil, List.take, List.cons_append, List.length_cons, List.length_nil, Nat.reduceAdd] at hF1; have HC1 := hF1.cells; simp only [Fr.Cells, List.length_cons, List.length_nil, Nat.reduceAdd, and_true] at HC1; clear hF HC; have HC := HC1; have hF := Aside0.mk hF1; clear hF1 HC1) | ((first | (with_reducible refine Fr.gate_alloc rfl ?_) | (with_reducible refine Fr.gate_box rfl ?_)); apply Fr.fr_box hF.out rfl; (case hrun => first | (go_simp; done) | (go_simp; rfl)); intro g W hF1; have HC1 := hF1.cells; simp only [Fr.Cells, List.length_cons, List.length_nil, Nat.reduceAdd, and_true] at HC1; clear hF HC; have HC := HC1; have hF := Aside0.mk hF1; clear hF1 HC1))
    go_ret
    exact ⟨rfl, HB0.out.trans (hF.out.below.mono HB0.out.size)⟩
theorem Kd.C_drop25 {W : World} {ad : Addr} {rows : List (List Value)} {n : Nat} (h : Kd.C (Kd.raw 3) W (some ad) rows.length rows) (hn : rows.length = n) (k : Nat) (hk : k < n) : Kd.C (Kd.raw 3) W (some (ad.add (k * 3))) (n - k) (rows.drop k) := by
  obtain ⟨h1, h2, h3⟩ := h
  subst hn
  refine ⟨by simp, by omega, fun _ => ⟨_, rfl, fun j p hj => ?_⟩⟩
  obtain ⟨ad', e, h4⟩ := h3 (by omega)
  injection e with e
  subst e
  rw [List.getElem?_drop] at hj
  obtain ⟨cs, k1, k2, k3⟩ := h4 (k + j) p hj
  refine ⟨cs, k1, k2, fun i u hu => ?_⟩
  have := k3 i u hu
  rw [Addr.add_add, show k * 3 + (j * (Kd.raw 3).sz + i) = (k + j) * (Kd.raw 3).sz + i by show k * 3 + (j * 3 + i) = (k + j) * 3 + i; omega]
  exact this
set_option maxHeartbeats 8000000 in
set_option maxRecDepth 100000 in
theorem turns_yes (k : Nat) (A0 : Option Addr) (c0 : Nat) (l0 : List S25) (A1 : Option Addr) (c1 : Nat) (l1 : List S92) (now tn : Int) (w : World) (hr0 : Kd.C k25 w A0 l0.length l0) (hc0 : l0.length ≤ c0) (hr1 : Kd.C k92 w A1 l1.length l1) (hc1 : l1.length ≤ c1)
    (q : List S25) (L : List S92) (hq : foghornlaw14_few.f k l0 = some q) (hL : l1.take 5 = L) (q7 : List S25) (hq7 : q.take q7.length = q7) (hqn : q7.length ≤ q.length) (hmn : (if (7 : Int) < (l0.length : Int) then 7 else (l0.length : Int)) = (q7.length : Int)) (hn8 : q7.length ≤ 7)
    (h1 : mayE q7 L now = 0) (t : Int) (h2 : freeV q7 L now = t) (b : Bool) (h3 : activeV q7 L now = b) (kk : Nat) (hk : kk < q7.length) (hk1 : Int.tmod (wrap64 (wrap64 (Int.tmod tn q7.length) + q7.length)) q7.length = kk) (hk2 : Int.tmod (wrap64 (Int.tmod tn q7.length + q7.length)) q7.length = kk) (T : List S25) (hT : (q7.drop kk ++ q7.take kk) ++ [rd_T25 q7 kk] = T) (h4 : mayE T L now = 0) (h5 : freeV T L now = t) (h6 : activeV T L now = b) (h7 : (b == decide (t > now)) = true)
    (hz : ((q7.length : Int) == 0) = false) :
    Calls Try.prog 6 #[.slice A0 l0.length c0, .slice A1 l1.length c1, .int .i64 now, .int .i64 tn] w fun e w' => e = .returned (.bool true) ∧ Below w.heap.size w w' := by
  have HQ7 := Aside0.mk hq7
  have HQN := Aside0.mk hqn
  have HN8 := Aside0.mk hn8
  have HR0 := Aside0.mk hr0
  have HC0 := Aside0.mk hc0
  have HC1 := Aside0.mk hc1
  have HRX := Aside0.mk (take5 hr1 hL)
  have HM1 := Aside0.mk hr1.2.1
  have hm0 : l0.length ≤ 9223372036854775807 := hr0.2.1
  have HQ := Aside0.mk hq
  have HLL := Aside0.mk (show (l1.take 5).length = L.length by rw [hL])
  have H1 := Aside0.mk h1
  have H2 := Aside0.mk h2
  have H3 := Aside0.mk h3
  have Hk1 := Aside0.mk hk1
  have Hk2 := Aside0.mk hk2
  have HT := Aside0.mk hT
  have H4 := Aside0.mk h4
  have H5 := Aside0.mk h5
  have H6 := Aside0.mk h6
  have H7 := Aside0.mk h7
  clear hr0 hc0 hr1 hc1 hq hL hq7 hqn hn8 h1 h2 h3 hk1 hk2 hT h4 h5 h6 h7
  have H16 := Aside0.mk (fun W => some16 A1 c1 l1 W HC1.out HM1.out)
  rw [HLL.out] at H16
  have H14 := Aside0.mk (fun W (hb : Below w.heap.size w W) => few14_calls k A0 c0 l0 q W (Kd.C_below HR0.out hb) HC0.out HQ.out)
  go_enter Try.func6, Try.ntmps6
  go_wp2
  go_region_with (first | (go_at_call 14; refine (H14.out _ (by first | exact Below.refl _ _ | exact below_drew (Below.refl _ _))).mono ?_; rintro e W ⟨Aq, cq, rfl, hcq, hCq, hb⟩; have hcc : q7.length ≤ cq := Nat.le_trans HQN.out hcq) | (go_at_call 16; refine (H16.out _).mono ?_; rintro e W' ⟨rfl, rfl⟩))
  all_goals
    have hb1 : Below w.heap.size w W := (below_drew (Below.refl _ w)).trans hb
    have HB0 := Aside0.mk hb1
    have hC7 : Kd.C k25 W Aq q7.length q7 := by
      have h := Kd.C_take (m := q7.length) hCq HQN.out
      rwa [HQ7.out] at h
    have HRL := Aside0.mk (Kd.C_below HRX.out hb1)
    have HC7 := Aside0.mk hC7
    obtain ⟨rows, hrl, hrk, hrC⟩ := rows_of hC7
    obtain ⟨ad, A2, c2, e1, a0, a1, a2, g0, g1⟩ := at_T25 hC7 (kk : Int) (by omega) (by omega)
    cases e1
    rw [Int.toNat_natCast] at a0 a1 a2
    have HA0 := Aside0.mk a0
    have HA1 := Aside0.mk a1
    have HA2 := Aside0.mk a2
    have ho : RowsOf W q7 rows := ⟨hrl, hrk⟩
    have HRO := Aside0.mk (((ho.drop kk).append (ho.take kk)).append (RowsOf.one (k25_mk W (rd_T25 q7 kk) g0 g1)))
    have HRD := Aside0.mk (Kd.C_drop25 hrC hrl kk hk)
    have HRT := Aside0.mk (Kd.C_take (m := kk) hrC (by omega))
    have HLD := Aside0.mk (show (rows.drop kk).length = q7.length - kk by rw [List.length_drop, hrl])
    have HLT := Aside0.mk (show (rows.take kk).length = kk by rw [List.length_take, hrl]; omega)
    clear ho a0 a1 a2 g0 g1 hrl hrk hrC
    have hF := Aside0.mk (Fr.Frame.start W)
    have HC : True := trivial
    clear hb hb1 hCq hC7 hcq
    go_wp2_with (first | ((with_reducible refine gate_store rfl ?_); apply Fr.fr_store hF.out rfl rfl rfl; (case hp => rfl); (case hx => first | (go_simp; rfl) | rfl); (case hu => (simp only [Value.cells]; rfl)); (case hs => (repeat (first | exact Fr.Spot.here _ _ | apply Fr.Spot.there))); (case ht => kernel_rfl); (case h1 => simp [Value.oneCell']); (case hfit => simp); intro W hF1; simp only [Fr.patch, List.take_zero, List.nil_append, List.drop, List.append_nil, List.take, List.cons_append, List.length_cons, List.length_nil, Nat.reduceAdd] at hF1; have HC1 := hF1.cells; simp only [Fr.Cells, List.length_cons, List.length_nil, Nat.reduceAdd, and_true] at HC1; clear hF HC; have HC := HC1; have hF := Aside0.mk hF1; clear hF1 HC1) | ((first | (with_reducible refine Fr.gate_alloc rfl ?_) | (with_reducible refine Fr.gate_box rfl ?_)); apply Fr.fr_box hF.out rfl; (case hrun => first | (go_simp; done) | (go_simp; rfl)); intro g W hF1; have HC1 := hF1.cells; simp only [Fr.Cells, List.length_cons, List.length_nil, Nat.reduceAdd, and_true] at HC1; clear hF HC; have HC := HC1; have hF := Aside0.mk hF1; clear hF1 HC1))
    (with_reducible refine (active_calls (some ad) cq q7 A1 c1 L now _ (Kd.C_below HC7.out hF.out.below) (Kd.C_below HRL.out hF.out.below)).mono ?_); rintro e W ⟨rfl, hb⟩; have hF1 := hF.out.call hb; clear hb; have HC1 := hF1.cells; simp only [Fr.Cells, List.length_cons, List.length_nil, Nat.reduceAdd, and_true] at HC1; clear hF HC; have HC := HC1; have hF := Aside0.mk hF1; clear hF1 HC1
    simp only [H1.out, H3.out]
    go_wp2_with (first | ((with_reducible refine gate_store rfl ?_); apply Fr.fr_store hF.out rfl rfl rfl; (case hp => rfl); (case hx => first | (go_simp; rfl) | rfl); (case hu => (simp only [Value.cells]; rfl)); (case hs => (repeat (first | exact Fr.Spot.here _ _ | apply Fr.Spot.there))); (case ht => kernel_rfl); (case h1 => simp [Value.oneCell']); (case hfit => simp); intro W hF1; simp only [Fr.patch, List.take_zero, List.nil_append, List.drop, List.append_nil, List.take, List.cons_append, List.length_cons, List.length_nil, Nat.reduceAdd] at hF1; have HC1 := hF1.cells; simp only [Fr.Cells, List.length_cons, List.length_nil, Nat.reduceAdd, and_true] at HC1; clear hF HC; have HC := HC1; have hF := Aside0.mk hF1; clear hF1 HC1) | ((first | (with_reducible refine Fr.gate_alloc rfl ?_) | (with_reducible refine Fr.gate_box rfl ?_)); apply Fr.fr_box hF.out rfl; (case hrun => first | (go_simp; done) | (go_simp; rfl)); intro g W hF1; have HC1 := hF1.cells; simp only [Fr.Cells, List.length_cons, List.length_nil, Nat.reduceAdd, and_true] at HC1; clear hF HC; have HC := HC1; have hF := Aside0.mk hF1; clear hF1 HC1))
    (with_reducible refine (free_calls (some ad) cq q7 A1 c1 L now _ (Kd.C_below HC7.out hF.out.below) (Kd.C_below HRL.out hF.out.below)).mono ?_); rintro e W ⟨rfl, hb⟩; have hF1 := hF.out.call hb; clear hb; have HC1 := hF1.cells; simp only [Fr.Cells, List.length_cons, List.length_nil, Nat.reduceAdd, and_true] at HC1; clear hF HC; have HC := HC1; have hF := Aside0.mk hF1; clear hF1 HC1
    simp only [H1.out, H2.out]
    go_wp2_with (first | ((with_reducible refine gate_store rfl ?_); apply Fr.fr_store hF.out rfl rfl rfl; (case hp => rfl); (case hx => first | (go_simp; rfl) | rfl); (case hu => (simp only [Value.cells]; rfl)); (case hs => (repeat (first | exact Fr.Spot.here _ _ | apply Fr.Spot.there))); (case ht => kernel_rfl); (case h1 => simp [Value.oneCell']); (case hfit => simp); intro W hF1; simp only [Fr.patch, List.take_zero, List.nil_append, List.drop, List.append_nil, List.take, List.cons_append, List.length_cons, List.length_nil, Nat.reduceAdd] at hF1; have HC1 := hF1.cells; simp only [Fr.Cells, List.length_cons, List.length_nil, Nat.reduceAdd, and_true] at HC1; clear hF HC; have HC := HC1; have hF := Aside0.mk hF1; clear hF1 HC1) | ((first | (with_reducible refine Fr.gate_alloc rfl ?_) | (with_reducible refine Fr.gate_box rfl ?_)); apply Fr.fr_box hF.out rfl; (case hrun => first | (go_simp; done) | (go_simp; rfl)); intro g W hF1; have HC1 := hF1.cells; simp only [Fr.Cells, List.length_cons, List.length_nil, Nat.reduceAdd, and_true] at HC1; clear hF HC; have HC := HC1; have hF := Aside0.mk hF1; clear hF1 HC1))
    rw [Hk2.out]
    have hF0 := ((hF.out.call (below_drew (Below.refl _ W))).call ((Below.refl _ W.drew).alloc (Nat.le_refl _) (.cells #[] 25))).rowIn (R_empty (Kd.raw 3) 25 _ _ W.drew.heap.size (fun _ => True) hF.out.below.size (heap_alloc_new W.drew _) trivial) (fun k _ b hb => by simp at hb)
    obtain ⟨S, hF0⟩ := hF0
    have HF0 := Aside0.mk hF0
    have HRA := Aside0.mk (Kd.C_below HRD.out hF0.below)
    have HL1 := Aside0.mk (show (([] : List (List Value)).length + (rows.drop kk).length) * 40 ≤ 140737488355328 by rw [HLD.out]; have := HN8.out; simp only [List.length_nil]; omega)
    have HL2 := Aside0.mk (show ((rows.drop kk).length + (rows.take kk).length) * 40 ≤ 140737488355328 by rw [HLD.out, HLT.out]; have := HN8.out; omega)
    have HL3 := Aside0.mk (show ((rows.drop kk ++ rows.take kk).length + 1) * 40 ≤ 140737488355328 by rw [List.length_append, HLD.out, HLT.out]; have := HN8.out; omega)
    have HRT2 := Aside0.mk (show Kd.C (Kd.raw 3) _ (some ad) kk (rows.take kk) from HLT.out ▸ HRT.out)
    rw [HT.out] at HRO
    clear hF hF0
    have hk0 : kk ≤ q7.length := Nat.le_of_lt hk
    have hk3 : kk ≤ cq := Nat.le_trans hk0 hcc
    have hk4 : (kk : Int) < (q7.length : Int) := by omega
    have hk5 : (kk : Int) ≤ (q7.length : Int) := by omega
    have hk6 : (kk : Int) ≤ (cq : Int) := by omega
    have hk7 : (q7.length : Int) ≤ (cq : Int) := by omega
    have hk8 : ¬ cq - kk = 0 := by omega
    have hk9 : ¬ cq = kk := by omega
    go_region_held3 (fun _ => True) (trivial) (first | (refine step_appendF (.tmp 63) (.tmp 66) 22 25 (.agg #[.int .i64 0, .int .i64 0, .slice none 0 0]) 40 (ad.add (kk * 3)) (cq - kk) (rows.drop kk) HF0.out rfl rfl Try.underlying22 (by kernel_rfl) rfl (by decide) (by omega) rfl (q7.length - kk) HLD.out (by first | rfl | (go_simp; done) | (go_simp; rfl)) HRA.out HL1.out ?_; intro v1 W1 S1 hF1; rw [List.nil_append] at hF1; have HF1 := Aside0.mk hF1; clear hF1) | (refine step_appendF (.tmp 67) (.tmp 70) 22 25 (.agg #[.int .i64 0, .int .i64 0, .slice none 0 0]) 40 ad cq (rows.take kk) HF1.out rfl rfl Try.underlying22 (by kernel_rfl) rfl (by decide) (by omega) rfl kk HLT.out (by first | rfl | (go_simp; done) | (go_simp; rfl)) (Kd.C_below HRT2.out HF1.out.below) HL2.out ?_; intro v1 W1 S1 hF2; have hF := Aside0.mk hF2; clear hF2))
    have c0' := (hF.out.below.cell (World.block_lt_of_cell? _ _ HA0.out)).trans HA0.out
    have c1' := (hF.out.below.cell (World.block_lt_of_cell? _ _ HA1.out)).trans HA1.out
    have c2' := (hF.out.below.cell (World.block_lt_of_cell? _ _ HA2.out)).trans HA2.out
    clear HA0 HA1 HA2 HF1 HF0 HRA HRD HRT HRT2 HL1 HL2
    go_wp2_with (first | ((with_reducible refine gate_builtin (b := .append) (xs := #[.tmp 72, .tmp 77]) rfl ?_); refine Fr.fr_append (Kd.raw 3) (.tmp 72) (.tmp 77) 22 25 (.agg #[.int .i64 0, .int .i64 0, .slice none 0 0]) 40 [.int .i64 (rd_T25 q7 (kk : Int)).f0, .int .i64 (rd_T25 q7 (kk : Int)).f1, .slice A2 (rd_T25 q7 (kk : Int)).f2.length c2] [.int .i64 (rd_T25 q7 (kk : Int)).f0, .int .i64 (rd_T25 q7 (kk : Int)).f1, .slice A2 (rd_T25 q7 (kk : Int)).f2.length c2] hF.out rfl rfl Try.underlying22 (by kernel_rfl) rfl (by decide) (by omega) rfl (by first | (go_simp; done) | (go_simp; rfl)) ⟨rfl, rfl, by simp [Value.oneCell']⟩ HL3.out ?_; intro v1 W2 S1 hF1; clear c0' c1' c2'; have HC1 := hF1.cells; simp only [Fr.Cells, List.length_cons, List.length_nil, Nat.reduceAdd, and_true] at HC1; clear hF HC; have HC := HC1; have hF := Aside0.mk hF1; clear hF1 HC1) | ((with_reducible refine gate_store rfl ?_); apply Fr.fr_store hF.out rfl rfl rfl; (case hp => rfl); (case hx => first | (go_simp; rfl) | rfl); (case hu => (simp only [Value.cells]; rfl)); (case hs => (repeat (first | exact Fr.Spot.here _ _ | apply Fr.Spot.there))); (case ht => kernel_rfl); (case h1 => simp [Value.oneCell']); (case hfit => simp); intro W hF1; simp only [Fr.patch, List.take_zero, List.nil_append, List.drop, List.append_nil, List.take, List.cons_append, List.length_cons, List.length_nil, Nat.reduceAdd] at hF1; have HC1 := hF1.cells; simp only [Fr.Cells, List.length_cons, List.length_nil, Nat.reduceAdd, and_true] at HC1; clear hF HC; have HC := HC1; have hF := Aside0.mk hF1; clear hF1 HC1) | ((first | (with_reducible refine Fr.gate_alloc rfl ?_) | (with_reducible refine Fr.gate_box rfl ?_)); apply Fr.fr_box hF.out rfl; (case hrun => first | (go_simp; done) | (go_simp; rfl)); intro g W hF1; have HC1 := hF1.cells; simp only [Fr.Cells, List.length_cons, List.length_nil, Nat.reduceAdd, and_true] at HC1; clear hF HC; have HC := HC1; have hF := Aside0.mk hF1; clear hF1 HC1))
    obtain ⟨A3, c3, rfl, hc3, hC3⟩ := hush_row hF.out HRO.out.len HRO.out.at_
    have HC3 := Aside0.mk hC3
    clear hC3
    (with_reducible refine (active_calls A3 c3 T A1 c1 L now _ HC3.out (Kd.C_below HRL.out hF.out.below)).mono ?_)
    rintro e W ⟨rfl, hb⟩
    have HC4 := Aside0.mk (Kd.C_below HC3.out hb)
    have hF1 := hF.out.call hb
    clear hb HC3
    have HC1 := hF1.cells; simp only [Fr.Cells, List.length_cons, List.length_nil, Nat.reduceAdd, and_true] at HC1; clear hF HC; have HC := HC1; have hF := Aside0.mk hF1; clear hF1 HC1
    simp only [H4.out, H6.out]
    go_wp2_with (first | ((with_reducible refine gate_store rfl ?_); apply Fr.fr_store hF.out rfl rfl rfl; (case hp => rfl); (case hx => first | (go_simp; rfl) | rfl); (case hu => (simp only [Value.cells]; rfl)); (case hs => (repeat (first | exact Fr.Spot.here _ _ | apply Fr.Spot.there))); (case ht => kernel_rfl); (case h1 => simp [Value.oneCell']); (case hfit => simp); intro W hF1; simp only [Fr.patch, List.take_zero, List.nil_append, List.drop, List.append_nil, List.take, List.cons_append, List.length_cons, List.length_nil, Nat.reduceAdd] at hF1; have HC1 := hF1.cells; simp only [Fr.Cells, List.length_cons, List.length_nil, Nat.reduceAdd, and_true] at HC1; clear hF HC; have HC := HC1; have hF := Aside0.mk hF1; clear hF1 HC1) | ((first | (with_reducible refine Fr.gate_alloc rfl ?_) | (with_reducible refine Fr.gate_box rfl ?_)); apply Fr.fr_box hF.out rfl; (case hrun => first | (go_simp; done) | (go_simp; rfl)); intro g W hF1; have HC1 := hF1.cells; simp only [Fr.Cells, List.length_cons, List.length_nil, Nat.reduceAdd, and_true] at HC1; clear hF HC; have HC := HC1; have hF := Aside0.mk hF1; clear hF1 HC1))
    (with_reducible refine (free_calls A3 c3 T A1 c1 L now _ HC4.out (Kd.C_below HRL.out hF.out.below)).mono ?_)
    rintro e W ⟨rfl, hb⟩
    have hF1 := hF.out.call hb
    clear hb HC4
    have HC1 := hF1.cells; simp only [Fr.Cells, List.length_cons, List.length_nil, Nat.reduceAdd, and_true] at HC1; clear hF HC; have HC := HC1; have hF := Aside0.mk hF1; clear hF1 HC1
    simp only [H4.out, H5.out]
    have hbb : (b == b) = true := by cases b <;> rfl
    have htt : (t == t) = true := by simp
    have h7 := H7.out
    go_wp2_with (first | ((with_reducible refine gate_store rfl ?_); apply Fr.fr_store hF.out rfl rfl rfl; (case hp => rfl); (case hx => first | (go_simp; rfl) | rfl); (case hu => (simp only [Value.cells]; rfl)); (case hs => (repeat (first | exact Fr.Spot.here _ _ | apply Fr.Spot.there))); (case ht => kernel_rfl); (case h1 => simp [Value.oneCell']); (case hfit => simp); intro W hF1; simp only [Fr.patch, List.take_zero, List.nil_append, List.drop, List.append_nil, List.take, List.cons_append, List.length_cons, List.length_nil, Nat.reduceAdd] at hF1; have HC1 := hF1.cells; simp only [Fr.Cells, List.length_cons, List.length_nil, Nat.reduceAdd, and_true] at HC1; clear hF HC; have HC := HC1; have hF := Aside0.mk hF1; clear hF1 HC1) | ((first | (with_reducible refine Fr.gate_alloc rfl ?_) | (with_reducible refine Fr.gate_box rfl ?_)); apply Fr.fr_box hF.out rfl; (case hrun => first | (go_simp; done) | (go_simp; rfl)); intro g W hF1; have HC1 := hF1.cells; simp only [Fr.Cells, List.length_cons, List.length_nil, Nat.reduceAdd, and_true] at HC1; clear hF HC; have HC := HC1; have hF := Aside0.mk hF1; clear hF1 HC1))
    (with_reducible refine (alive_calls _).mono ?_); rintro e W ⟨rfl, hb⟩; have hF1 := hF.out.call hb; clear hb; have HC1 := hF1.cells; simp only [Fr.Cells, List.length_cons, List.length_nil, Nat.reduceAdd, and_true] at HC1; clear hF HC; have HC := HC1; have hF := Aside0.mk hF1; clear hF1 HC1
    go_wp2_with (first | ((with_reducible refine gate_store rfl ?_); apply Fr.fr_store hF.out rfl rfl rfl; (case hp => rfl); (case hx => first | (go_simp; rfl) | rfl); (case hu => (simp only [Value.cells]; rfl)); (case hs => (repeat (first | exact Fr.Spot.here _ _ | apply Fr.Spot.there))); (case ht => kernel_rfl); (case h1 => simp [Value.oneCell']); (case hfit => simp); intro W hF1; simp only [Fr.patch, List.take_zero, List.nil_append, List.drop, List.append_nil, List.take, List.cons_append, List.length_cons, List.length_nil, Nat.reduceAdd] at hF1; have HC1 := hF1.cells; simp only [Fr.Cells, List.length_cons, List.length_nil, Nat.reduceAdd, and_true] at HC1; clear hF HC; have HC := HC1; have hF := Aside0.mk hF1; clear hF1 HC1) | ((first | (with_reducible refine Fr.gate_alloc rfl ?_) | (with_reducible refine Fr.gate_box rfl ?_)); apply Fr.fr_box hF.out rfl; (case hrun => first | (go_simp; done) | (go_simp; rfl)); intro g W hF1; have HC1 := hF1.cells; simp only [Fr.Cells, List.length_cons, List.length_nil, Nat.reduceAdd, and_true] at HC1; clear hF HC; have HC := HC1; have hF := Aside0.mk hF1; clear hF1 HC1))
    go_ret
    exact ⟨rfl, HB0.out.trans (hF.out.below.mono HB0.out.size)⟩
theorem HushTurns (A0 : Option Addr) (c0 : Nat) (l0 : List S25) (A1 : Option Addr) (c1 : Nat) (l1 : List S92) (now tn : Int) (w : World) (hr0 : Kd.C k25 w A0 l0.length l0) (hc0 : l0.length ≤ c0) (hr1 : Kd.C k92 w A1 l1.length l1) (hc1 : l1.length ≤ c1) :
    Calls Try.prog 6 #[.slice A0 l0.length c0, .slice A1 l1.length c1, .int .i64 now, .int .i64 tn] w fun e w' => e = .returned (.bool true) ∧ Below w.heap.size w w' := by
  have hq := few_is l0 30 (by omega)
  obtain ⟨q, hqq⟩ : ∃ q, (l0.take 10).map cutH = q := ⟨_, rfl⟩
  obtain ⟨L, hL⟩ : ∃ L, l1.take 5 = L := ⟨_, rfl⟩
  obtain ⟨q7, hq7⟩ : ∃ q7, q.take 7 = q7 := ⟨_, rfl⟩
  have hql : q.length = min 10 l0.length := by rw [← hqq]; simp
  have h7l : q7.length = min 7 l0.length := by rw [← hq7, List.length_take, hql]; omega
  rw [hqq] at hq
  clear hqq
  have e7 : q.take q7.length = q7 := by
    rw [← hq7, List.length_take]
    rcases Nat.le_total q.length 7 with h | h
    · rw [Nat.min_eq_right h, List.take_length, List.take_of_length_le h]
    · rw [Nat.min_eq_left h]
  have hqn : q7.length ≤ q.length := by omega
  have hmn : (if (7 : Int) < (l0.length : Int) then 7 else (l0.length : Int)) = (q7.length : Int) := by split <;> omega
  have hn8 : q7.length ≤ 7 := by omega
  cases hm : mayB q7 L now with
  | false => exact turns_no 30 A0 c0 l0 A1 c1 l1 now tn w hr0 hc0 hr1 hc1 q L hq hL q7 e7 hqn hmn hn8 (may_no hm).2
  | true =>
    have hme := (may_yes hm).2
    by_cases hz : q7.length = 0
    · exact turns_none 30 A0 c0 l0 A1 c1 l1 now tn w hr0 hc0 hr1 hc1 q L hq hL q7 e7 hqn hmn hn8 hme (by rw [hz]; rfl)
    · obtain ⟨kk, hk, hk1, hk2⟩ := turn_k tn q7.length (by omega) hn8
      have hrd : rd_T25 q7 (kk : Int) = q7[kk] := rd_get25 q7 kk hk
      have hmem : ∀ x, x ∈ (q7.drop kk ++ q7.take kk) ++ [rd_T25 q7 kk] ↔ x ∈ q7 := fun x => by rw [hrd]; exact turn_mem q7 kk hk x
      have hTl : ((q7.drop kk ++ q7.take kk) ++ [rd_T25 q7 kk]).length ≤ 8 := by rw [hrd, turn_len q7 kk hk]; omega
      obtain ⟨f1, f2, f3⟩ := turned_free (L := L) hmem hTl hm
      exact turns_yes 30 A0 c0 l0 A1 c1 l1 now tn w hr0 hc0 hr1 hc1 q L hq hL q7 e7 hqn hmn hn8 hme (freeV q7 L now) rfl (activeV q7 L now) rfl kk hk hk1 hk2 _ rfl f3 f1 f2 (by rw [act_free hm]; simp) (beq_eq_false_iff_ne.2 (by omega))
end Go.Proofs.Ytkphinfijppkeaa.G
