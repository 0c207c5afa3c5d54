/- Contracts of functions of the given program, and what they come to, for any arguments. No condition beyond each theorem's own premises. -/
import Derived.Test.YtlkaebnigmfphaaXDueTellsM3
namespace Go.Proofs.Ytlkaebnigmfphaa.G
open Go.RowKit Go.Proofs.YtlkaebnigmfphaaW.PrintWords Go.Proofs.YtlkaebnigmfphaaW.PrintLast Go.Proofs.YtlkaebnigmfphaaW.PrintMore
attribute [local go_sem] max2_int min2_int max_two min_two max_three min_three max_four min_four
set_option linter.unusedVariables false
set_option linter.unusedSimpArgs false
section
variable {P : Program} {w0 W : World} {bs : List Fr.Blk}
theorem run_appendF {sz : Nat} {S : Nat → Prop} {v : Value} {xs : List (List Value)} (t e ty : TypeId) (z : Value) (bytes : Nat) (ad : Addr) (c : Nat) (rows : List (List Value))
    (hF : Fr.Frame w0 W bs [Fr.rowR (Kd.raw sz) e w0.heap.size v xs S])
    (ht : P.underlying t = some (.slice e)) (hinfo : (P.info? e).map (fun i => (i.zero, i.size, i.bytes)) = some (some z, sz, bytes)) (hz : z.cells.size = sz) (hs0 : 0 < sz) (hb0 : 0 < bytes)
    (hC : Kd.C (Kd.raw sz) W (some ad) rows.length rows) (hl : (xs.length + rows.length) * bytes ≤ 140737488355328) :
    ∃ v1 w1, (Builtin.append_ #[t, t] ty #[v, .slice (some ad) rows.length c]).run P W = .ok v1 w1 ∧ ∃ S1, Fr.Frame w0 w1 bs [Fr.rowR (Kd.raw sz) e w0.heap.size v1 (xs ++ rows) S1] := by
  have hr := hF.row (Fr.rowR (Kd.raw sz) e w0.heap.size v xs S) List.mem_cons_self
  have hRS : (Kd.raw sz).R e W w0.heap.size S v xs := hr.1
  have hdis : ∀ k, S k → ∀ b ∈ bs, k ≠ b.1 := fun k hk b hb he => hr.2.2 b hb (by subst he; exact hk)
  have hcc : ∀ (j : Nat) (c' : List Value), rows[j]? = some c' → c'.length = sz ∧ (∀ u ∈ c', u.oneCell' = true) ∧ ∀ i u, c'[i]? = some u → W.cell? (ad.add (j * sz + i)) = some u := fun j c' hj => by
    have hp : 0 < rows.length := by have := (List.getElem?_eq_some_iff.1 hj).1; omega
    obtain ⟨ad', he, h4⟩ := hC.2.2 hp
    injection he with he
    subst he
    obtain ⟨c2, k1, k2, k3⟩ := h4 j c' hj
    have : c2 = c' := k2.1
    subst this
    exact ⟨k1, k2.2.2, k3⟩
  have hall : ∀ c' ∈ rows, c'.length = sz ∧ ∀ u ∈ c', u.oneCell' = true := fun c' hc' => by
    obtain ⟨j, hj, rfl⟩ := List.mem_iff_getElem.1 hc'
    have := hcc j _ (List.getElem?_eq_getElem hj)
    exact ⟨this.1, this.2.1⟩
  have hnews : ∀ j u, rows.flatten[j]? = some u → W.cell? (ad.add j) = some u := flat_cells hs0 (fun c' h => (hall c' h).1) (fun j c' hj i u hu => (hcc j c' hj).2.2 i u hu)
  obtain ⟨v1, w1, hrun, h1, h2, hg⟩ := Fr.R_append_keep (P := P) (Kd.raw sz) w0.heap.size t ty e z bytes ht hinfo hz hs0 hb0 (Kd.R_mono hRS hdis) (fun w ok => reps_flat w _ ok hall) (fun u hu => by
    obtain ⟨c', hc', hu'⟩ := List.mem_flatten.1 hu
    exact (hall c' hc').2 u hu') ad rows.length c rfl hnews hl hF.below.size (fun k hk b hb he => by have := hF.lt hb; omega)
  have hF0 : Fr.Frame w0 W bs [] := hF.noRows
  have hF1 : Fr.Frame w0 w1 bs [] := ⟨hF0.below.grown hg hF.below.size (fun k hk => Kd.R_base hRS k hk), fun b hb => ⟨(hF0.blk b hb).1, blk_grown (hF0.blk b hb).2 hg (fun e1 => hdis b.1 (hRS.1 b.1 e1.symm) b hb rfl)⟩, hF0.nodup, by simp⟩
  exact ⟨v1, w1, hrun, hF1.rowIn h1 (fun k hk => hk)⟩
theorem step_appendF {ops : Array Oper} {o : Oper} {a : Act} {K : Act → World → Prop} {Q : Exit → Act → World → Prop} {E : Prop} {sz : Nat} {S : Nat → Prop} {v : Value} {xs : List (List Value)} (s x : Operand) (t e : TypeId) (z : Value) (bytes : Nat) (ad : Addr) (c : Nat) (rows : List (List Value))
    (hF : Fr.Frame w0 W bs [Fr.rowR (Kd.raw sz) e w0.heap.size v xs S]) (hgd : o.guard = none) (ho : o.op = .call { callee := .builtin .append, args := #[s, x], argTypes := #[t, t] })
    (ht : P.underlying t = some (.slice e)) (hinfo : (P.info? e).map (fun i => (i.zero, i.size, i.bytes)) = some (some z, sz, bytes)) (hz : z.cells.size = sz) (hs0 : 0 < sz) (hb0 : 0 < bytes)
    (hs : a.eval s = v) (n : Nat) (hn : rows.length = n) (hx : a.eval x = .slice (some ad) n c) (hC : Kd.C (Kd.raw sz) W (some ad) n rows) (hl : (xs.length + rows.length) * bytes ≤ 140737488355328)
    (h : ∀ v1 w1 S1, Fr.Frame w0 w1 bs [Fr.rowR (Kd.raw sz) e w0.heap.size v1 (xs ++ rows) S1] → K (a.put o.dst v1) w1) :
    if Region.wanted o (yielded ops a.tmps) = true then Oper.wp P o a W K Q else E := by
  subst hn
  have hw : Region.wanted o (yielded ops a.tmps) = true := by simp [Region.wanted, hgd]
  rw [if_pos hw]
  obtain ⟨v1, w1, hrun, S1, hS1⟩ := run_appendF (P := P) t e o.type z bytes ad c rows hF ht hinfo hz hs0 hb0 hC hl
  unfold Oper.wp execOp
  simp only [ho, resolve, invoke, builtin, Sem.run_bind, Sem.run_pure, Result.andThen_ok, List.map_toArray, List.map_cons, List.map_nil, hs, hx, hrun]
  exact h v1 w1 S1 hS1
end
theorem k2d (x : S32) : Row2 [.int .i64 x.f0, .int .i64 x.f1] := ⟨rfl, by simp [Value.oneCell']⟩
theorem one_C {g : Nat} {t : TypeId} {cs : List Value} {w : World} (h : w.heap[g]? = some (.cells cs.toArray t (0, 0))) (hr : Row2 cs) : Kd.C (Kd.raw 2) w (some ⟨g, 0, none⟩) 1 [cs] := by
  refine ⟨rfl, by simp, fun _ => ⟨_, rfl, fun j c hj => ?_⟩⟩
  cases j with
  | succ j => simp at hj
  | zero =>
    simp at hj
    subst hj
    refine ⟨_, hr.1, ⟨rfl, hr⟩, fun i u hu => ?_⟩
    rw [show (⟨g, 0, none⟩ : Addr).add (0 * (Kd.raw 2).sz + i) = ⟨g, i, none⟩ by unfold Addr.add; rw [Nat.zero_mul, Nat.zero_add]; split <;> simp_all, blk_cell h]
    simpa using hu
theorem put_ptr {w0 W : World} {bs : List Fr.Blk} {rs : List Fr.Row} {h : Nat} {t : TypeId} {v : Value} {f : List Value → List Fr.Blk} (hs : Fr.Spot h t bs [v] f) (hF : Fr.Frame w0 W bs rs) (v1 : Value) : Fr.Frame w0 (W.setCell ⟨h, 0, none⟩ v1) (f [v1]) rs := hF.put hs 0 [v1] (by simp)
set_option maxHeartbeats 4000000 in
set_option maxRecDepth 100000 in
theorem push49_calls (x : S32) (v : Value) (rows : List (List Value)) (S : Nat → Prop) (h : Nat) (w0 W : World) (bs : List Fr.Blk) (f : List Value → List Fr.Blk) (hs : Fr.Spot h 48 bs [v] f) (hF : Fr.Frame w0 W bs [Fr.rowR (Kd.raw 2) 32 w0.heap.size v rows S]) (hl : rows.length ≤ 1000) :
    Calls Try.prog 49 #[.pointer (some ⟨h, 0, none⟩), .iface 32 (.agg #[.int .i64 x.f0, .int .i64 x.f1])] W fun e W' => e = .returned (.tuple #[]) ∧ ∃ v1 S1, Fr.Frame w0 W' (f [v1]) [Fr.rowR (Kd.raw 2) 32 w0.heap.size v1 (rows ++ [[.int .i64 x.f0, .int .i64 x.f1]]) S1] := by
  have HS := Aside0.mk hs
  have HL := Aside0.mk (show (rows.length + 1) * 16 ≤ 140737488355328 by omega)
  have hta := ta_due
  have HC : True := trivial
  have hF := Aside0.mk hF
  clear hs hl
  go_enter Try.func49, Try.ntmps49
  go_wp2_with (first | ((with_reducible refine gate_store rfl ?_); apply Fr.fr_store hF.out rfl rfl rfl; (case hp => rfl); (case hx => first | (go_simp; rfl) | rfl); (case hu => (simp only [Value.cells]; rfl)); (case hs => (repeat (first | exact Fr.Spot.here _ _ | apply Fr.Spot.there))); (case ht => kernel_rfl); (case h1 => simp [Value.oneCell']); (case hfit => simp); intro W hF1; simp only [Fr.patch, List.take_zero, List.nil_append, List.drop, List.append_nil, List.take, List.cons_append, List.length_cons, List.length_nil, Nat.reduceAdd] at hF1; have HC1 := hF1.cells; simp only [Fr.Cells, List.length_cons, List.length_nil, Nat.reduceAdd, and_true] at HC1; clear hF HC; have HC := HC1; have hF := Aside0.mk hF1; clear hF1 HC1) | ((with_reducible refine gate_dst (N := 4) rfl ?_); apply Fr.fr_box hF.out rfl; (case hrun => first | (go_simp; done) | (go_simp; rfl)); intro g4 W hF1; have HC1 := hF1.cells; simp only [Fr.Cells, List.length_cons, List.length_nil, Nat.reduceAdd, and_true] at HC1; clear hF HC; have HC := HC1; have hF := Aside0.mk hF1; clear hF1 HC1) | ((first | (with_reducible refine Fr.gate_alloc rfl ?_) | (with_reducible refine Fr.gate_box rfl ?_)); apply Fr.fr_box hF.out rfl; (case hrun => first | (go_simp; done) | (go_simp; rfl)); intro g W hF1; have HC1 := hF1.cells; simp only [Fr.Cells, List.length_cons, List.length_nil, Nat.reduceAdd, and_true] at HC1; clear hF HC; have HC := HC1; have hF := Aside0.mk hF1; clear hF1 HC1))
  have HF0 := hF
  obtain ⟨A, c, rfl, hc0, hC0⟩ := Kd.R_reads (hF.out.rowAt (r := Fr.rowR (Kd.raw 2) 32 w0.heap.size v rows S) List.mem_cons_self)
  clear hc0 hC0
  have h0 := blk_cell (hF.out.blk _ (List.mem_cons_of_mem _ HS.out.mem)).2 0
  have hFa : Fr.Frame w0 (W.alloc (.cells #[.int .i64 x.f0, .int .i64 x.f1] 32)).drew ((W.heap.size, [.int .i64 x.f0, .int .i64 x.f1], 32) :: (g4, [.int .i64 x.f0, .int .i64 x.f1], 32) :: bs) [Fr.rowR (Kd.raw 2) 32 w0.heap.size (.slice A rows.length c) rows S] := (HF0.out.alloc [.int .i64 x.f0, .int .i64 x.f1] 32).drew
  have h2 := blk_cell (hFa.blk _ (List.mem_cons_of_mem _ (List.mem_cons_of_mem _ HS.out.mem))).2 0
  dsimp only at h0 h2
  simp only [List.getElem?_toArray, List.getElem?_cons_zero] at h0 h2
  have HFa := Aside0.mk hFa
  clear hF hFa HF0
  refine wp_region_any (by kernel_rfl) ?_
  change wpAny _ _ _ _ _ _ _ (World.drew _)
  (refine wpAny_take (i := 0) (v := .pointer (some ⟨h, 0, none⟩)) rfl (by kernel_rfl) (by kernel_rfl) (by kernel_rfl) (fun _ _ _ h => h) (Or.inl ⟨by rfl, by (intro w; first | (go_simp; done) | (go_simp; rfl))⟩) ?_; (try simp only [Act.put, List.setIfInBounds_toArray, List.set_cons_zero, List.set_cons_succ]))
  (refine wpAny_take (i := 1) (v := .pointer (some ⟨h, 0, none⟩)) rfl (by kernel_rfl) (by kernel_rfl) (by kernel_rfl) (fun _ _ _ h => h) (Or.inl ⟨by rfl, by (intro w; first | (go_simp; done) | (go_simp; rfl))⟩) ?_; (try simp only [Act.put, List.setIfInBounds_toArray, List.set_cons_zero, List.set_cons_succ]))
  (refine wpAny_take (i := 2) (v := .pointer (some ⟨h, 0, none⟩)) rfl (by kernel_rfl) (by kernel_rfl) (by kernel_rfl) (fun _ _ _ h => h) (Or.inl ⟨by rfl, by (intro w; first | (go_simp; done) | (go_simp; rfl))⟩) ?_; (try simp only [Act.put, List.setIfInBounds_toArray, List.set_cons_zero, List.set_cons_succ]))
  refine wpAny_ready (rs := [3, 4]) (by kernel_rfl) (by simp) ?_
  refine AllReady.cons (o := _) rfl (fun K hK => ?_) ?_
  · (go_simp; refine hK _ _ ?_; clear hK K; (try simp only [Act.put, List.setIfInBounds_toArray, List.set_cons_zero, List.set_cons_succ]))
    refine wpAny_ready (rs := [4]) (by kernel_rfl) (by simp) ?_
    refine AllReady.cons (o := _) rfl (fun K hK => ?_) ?_
    · (go_simp; refine hK _ _ ?_; clear hK K; (try simp only [Act.put, List.setIfInBounds_toArray, List.set_cons_zero, List.set_cons_succ]))
      refine wpAny_ready (rs := [5]) (by kernel_rfl) (by simp) ?_
      refine AllReady.cons (o := _) rfl (fun K hK => ?_) ?_
      · (go_simp; refine hK _ _ ?_; clear hK K; (try simp only [Act.put, List.setIfInBounds_toArray, List.set_cons_zero, List.set_cons_succ]))
        refine wpAny_ready (rs := [6]) (by kernel_rfl) (by simp) ?_
        refine AllReady.cons (o := _) rfl (fun K hK => ?_) ?_
        · (refine step_appendF (.tmp 15) (.tmp 17) 48 32 (.agg #[.int .i64 0, .int .i64 0]) 16 ⟨W.heap.size, 0, none⟩ 1 [[.int .i64 x.f0, .int .i64 x.f1]] HFa.out rfl rfl (by kernel_rfl) (by kernel_rfl) rfl (by decide) (by omega) rfl 1 rfl (by first | rfl | (go_simp; done) | (go_simp; rfl)) (one_C (HFa.out.blk _ List.mem_cons_self).2 (k2d x)) HL.out ?_; intro v1 W1 S1 hF1; refine hK _ _ ?_; clear hK K; have h1 := blk_cell (hF1.blk _ (List.mem_cons_of_mem _ (List.mem_cons_of_mem _ HS.out.mem))).2 0; have f1 := blk_frozen (hF1.blk _ (List.mem_cons_of_mem _ (List.mem_cons_of_mem _ HS.out.mem))).2 0; dsimp only at h1 f1; simp only [List.getElem?_toArray, List.getElem?_cons_zero] at h1; have HF1 := Aside0.mk hF1; obtain ⟨g1, cap1, rest1, rfl, _⟩ := own_blk hF1 (by simp); clear hF1; (try simp only [Act.put, List.setIfInBounds_toArray, List.set_cons_zero, List.set_cons_succ]))
          (refine wpAny_take (i := 7) (v := .pointer (some ⟨h, 0, none⟩)) rfl (by kernel_rfl) (by kernel_rfl) (by kernel_rfl) (fun _ _ _ h => h) (Or.inl ⟨by rfl, by (intro w; first | (go_simp; done) | (go_simp; rfl))⟩) ?_; (try simp only [Act.put, List.setIfInBounds_toArray, List.set_cons_zero, List.set_cons_succ]))
          refine wpAny_ready (rs := [8]) (by kernel_rfl) (by simp) ?_
          refine AllReady.cons (o := _) rfl (fun K hK => ?_) AllReady.nil
          (go_simp; refine hK _ _ ?_; clear hK K; (try simp only [Act.put, List.setIfInBounds_toArray, List.set_cons_zero, List.set_cons_succ]))
          refine wpAny_done (by kernel_rfl) ?_ _
          go_end0
          exact ⟨rfl, _, _, by have h9 := put_ptr HS.out HF1.out.drop.drop (Value.slice (some ⟨g1, 0, none⟩) (rows ++ [[Value.int .i64 x.f0, Value.int .i64 x.f1]]).length cap1); simpa using h9⟩
        exact AllReady.nil
      exact AllReady.nil
    exact AllReady.nil
  refine AllReady.cons (o := _) rfl (fun K hK => ?_) ?_
  · (go_simp; refine hK _ _ ?_; clear hK K; (try simp only [Act.put, List.setIfInBounds_toArray, List.set_cons_zero, List.set_cons_succ]))
    refine wpAny_ready (rs := [3, 5]) (by kernel_rfl) (by simp) ?_
    refine AllReady.cons (o := _) rfl (fun K hK => ?_) ?_
    · (go_simp; refine hK _ _ ?_; clear hK K; (try simp only [Act.put, List.setIfInBounds_toArray, List.set_cons_zero, List.set_cons_succ]))
      refine wpAny_ready (rs := [5]) (by kernel_rfl) (by simp) ?_
      refine AllReady.cons (o := _) rfl (fun K hK => ?_) ?_
      · (go_simp; refine hK _ _ ?_; clear hK K; (try simp only [Act.put, List.setIfInBounds_toArray, List.set_cons_zero, List.set_cons_succ]))
        refine wpAny_ready (rs := [6]) (by kernel_rfl) (by simp) ?_
        refine AllReady.cons (o := _) rfl (fun K hK => ?_) ?_
        · (refine step_appendF (.tmp 15) (.tmp 17) 48 32 (.agg #[.int .i64 0, .int .i64 0]) 16 ⟨W.heap.size, 0, none⟩ 1 [[.int .i64 x.f0, .int .i64 x.f1]] HFa.out rfl rfl (by kernel_rfl) (by kernel_rfl) rfl (by decide) (by omega) rfl 1 rfl (by first | rfl | (go_simp; done) | (go_simp; rfl)) (one_C (HFa.out.blk _ List.mem_cons_self).2 (k2d x)) HL.out ?_; intro v1 W1 S1 hF1; refine hK _ _ ?_; clear hK K; have h1 := blk_cell (hF1.blk _ (List.mem_cons_of_mem _ (List.mem_cons_of_mem _ HS.out.mem))).2 0; have f1 := blk_frozen (hF1.blk _ (List.mem_cons_of_mem _ (List.mem_cons_of_mem _ HS.out.mem))).2 0; dsimp only at h1 f1; simp only [List.getElem?_toArray, List.getElem?_cons_zero] at h1; have HF1 := Aside0.mk hF1; obtain ⟨g1, cap1, rest1, rfl, _⟩ := own_blk hF1 (by simp); clear hF1; (try simp only [Act.put, List.setIfInBounds_toArray, List.set_cons_zero, List.set_cons_succ]))
          (refine wpAny_take (i := 7) (v := .pointer (some ⟨h, 0, none⟩)) rfl (by kernel_rfl) (by kernel_rfl) (by kernel_rfl) (fun _ _ _ h => h) (Or.inl ⟨by rfl, by (intro w; first | (go_simp; done) | (go_simp; rfl))⟩) ?_; (try simp only [Act.put, List.setIfInBounds_toArray, List.set_cons_zero, List.set_cons_succ]))
          refine wpAny_ready (rs := [8]) (by kernel_rfl) (by simp) ?_
          refine AllReady.cons (o := _) rfl (fun K hK => ?_) AllReady.nil
          (go_simp; refine hK _ _ ?_; clear hK K; (try simp only [Act.put, List.setIfInBounds_toArray, List.set_cons_zero, List.set_cons_succ]))
          refine wpAny_done (by kernel_rfl) ?_ _
          go_end0
          exact ⟨rfl, _, _, by have h9 := put_ptr HS.out HF1.out.drop.drop (Value.slice (some ⟨g1, 0, none⟩) (rows ++ [[Value.int .i64 x.f0, Value.int .i64 x.f1]]).length cap1); simpa using h9⟩
        exact AllReady.nil
      exact AllReady.nil
    refine AllReady.cons (o := _) rfl (fun K hK => ?_) ?_
    · (go_simp; refine hK _ _ ?_; clear hK K; (try simp only [Act.put, List.setIfInBounds_toArray, List.set_cons_zero, List.set_cons_succ]))
      refine wpAny_ready (rs := [3]) (by kernel_rfl) (by simp) ?_
      refine AllReady.cons (o := _) rfl (fun K hK => ?_) ?_
      · (go_simp; refine hK _ _ ?_; clear hK K; (try simp only [Act.put, List.setIfInBounds_toArray, List.set_cons_zero, List.set_cons_succ]))
        refine wpAny_ready (rs := [6]) (by kernel_rfl) (by simp) ?_
        refine AllReady.cons (o := _) rfl (fun K hK => ?_) ?_
        · (refine step_appendF (.tmp 15) (.tmp 17) 48 32 (.agg #[.int .i64 0, .int .i64 0]) 16 ⟨W.heap.size, 0, none⟩ 1 [[.int .i64 x.f0, .int .i64 x.f1]] HFa.out rfl rfl (by kernel_rfl) (by kernel_rfl) rfl (by decide) (by omega) rfl 1 rfl (by first | rfl | (go_simp; done) | (go_simp; rfl)) (one_C (HFa.out.blk _ List.mem_cons_self).2 (k2d x)) HL.out ?_; intro v1 W1 S1 hF1; refine hK _ _ ?_; clear hK K; have h1 := blk_cell (hF1.blk _ (List.mem_cons_of_mem _ (List.mem_cons_of_mem _ HS.out.mem))).2 0; have f1 := blk_frozen (hF1.blk _ (List.mem_cons_of_mem _ (List.mem_cons_of_mem _ HS.out.mem))).2 0; dsimp only at h1 f1; simp only [List.getElem?_toArray, List.getElem?_cons_zero] at h1; have HF1 := Aside0.mk hF1; obtain ⟨g1, cap1, rest1, rfl, _⟩ := own_blk hF1 (by simp); clear hF1; (try simp only [Act.put, List.setIfInBounds_toArray, List.set_cons_zero, List.set_cons_succ]))
          (refine wpAny_take (i := 7) (v := .pointer (some ⟨h, 0, none⟩)) rfl (by kernel_rfl) (by kernel_rfl) (by kernel_rfl) (fun _ _ _ h => h) (Or.inl ⟨by rfl, by (intro w; first | (go_simp; done) | (go_simp; rfl))⟩) ?_; (try simp only [Act.put, List.setIfInBounds_toArray, List.set_cons_zero, List.set_cons_succ]))
          refine wpAny_ready (rs := [8]) (by kernel_rfl) (by simp) ?_
          refine AllReady.cons (o := _) rfl (fun K hK => ?_) AllReady.nil
          (go_simp; refine hK _ _ ?_; clear hK K; (try simp only [Act.put, List.setIfInBounds_toArray, List.set_cons_zero, List.set_cons_succ]))
          refine wpAny_done (by kernel_rfl) ?_ _
          go_end0
          exact ⟨rfl, _, _, by have h9 := put_ptr HS.out HF1.out.drop.drop (Value.slice (some ⟨g1, 0, none⟩) (rows ++ [[Value.int .i64 x.f0, Value.int .i64 x.f1]]).length cap1); simpa using h9⟩
        exact AllReady.nil
      exact AllReady.nil
    exact AllReady.nil
  exact AllReady.nil
def rowsOf (xs : List S32) : List (List Value) := xs.map (fun x : S32 => [Value.int .i64 x.f0, .int .i64 x.f1])
theorem rowsOf_flat : ∀ xs : List S32, (rowsOf xs).flatten = flat xs
  | [] => rfl
  | x :: xs => by
    have ih := rowsOf_flat xs
    unfold rowsOf at ih ⊢
    rw [List.map_cons, List.flatten_cons, ih, flat]
    rfl
theorem rowsOf_row2 (xs : List S32) : ∀ r ∈ rowsOf xs, Row2 r := fun r hr => by
  obtain ⟨x, _, rfl⟩ := List.mem_map.1 hr
  exact k2d x
theorem rowsOf_len (xs : List S32) : (rowsOf xs).length = xs.length := by simp [rowsOf]
theorem rowsOf_app (xs : List S32) (x : S32) : rowsOf (xs ++ [x]) = rowsOf xs ++ [[.int .i64 x.f0, .int .i64 x.f1]] := by simp [rowsOf]
set_option maxHeartbeats 2000000 in
theorem clone25_none (A : Option Addr) (c : Nat) (w : World) :
    Calls Try.prog 25 #[.slice A 0 c] w fun e w' => ∃ v S, e = .returned v ∧ Fr.Frame w w' [] [Fr.rowR (Kd.raw 2) 32 w.heap.size v [] S] := by
  have hnil := fun (w : World) (n c : Nat) => Lib.run_eql_slice_nil w 22 32 A n c 0 0 Try.underlying22
  cases A with
  | none =>
    go_enter Try.func25, Try.ntmps25
    go_wp2
    go_ret
    obtain ⟨S, hF⟩ := (Fr.Frame.start w).rowIn (Kd.R_nil (Kd.raw 2) 32 w w.heap.size (fun _ => False)) (fun k hk => hk.elim)
    exact ⟨_, S, rfl, hF⟩
  | some ad =>
    go_enter Try.func25, Try.ntmps25
    go_wp2
    go_ret
    obtain ⟨S, hF⟩ := ((Fr.Frame.start w).call ((Below.refl _ w).alloc (Nat.le_refl _) (.cells #[] 32))).rowIn (R_empty (Kd.raw 2) 32 _ w.heap.size w.heap.size (fun _ => True) (Nat.le_refl _) (heap_alloc_new w _) trivial) (fun k _ b hb => by simp at hb)
    exact ⟨_, S, rfl, hF⟩
set_option maxHeartbeats 2000000 in
theorem init26_none (A : Option Addr) (c h : Nat) (W : World) (hc : W.cell? ⟨h, 0, none⟩ = some (.slice A 0 c)) :
    Calls Try.prog 26 #[.iface 45 (.pointer (some ⟨h, 0, none⟩))] W fun e W' => e = .returned (.tuple #[]) ∧ W = W' := by
  have mLen := fun (w : World) (hc : w.cell? ⟨h, 0, none⟩ = some (.slice A 0 c)) => met_Len h _ w hc
  have eLen := E46
  go_enter Try.func26, Try.ntmps26
  go_wp2_with fail
  (with_reducible refine (len46_calls A 0 c _).mono ?_)
  rintro e W1 ⟨rfl, rfl⟩
  go_wp2_with fail
  go_loopg [3] 0 (fun kq v3 w' => v3 = .int .i64 (-1) ∧ W = w')
  case atStart => exact ⟨rfl, rfl⟩
  case round =>
    obtain ⟨rfl, rfl⟩ := hrel
    go_wp2_with fail
    go_end0
    exact ⟨rfl, rfl⟩
theorem row_new {w : World} {g cap h : Nat} {xs : List S32} {tl : List Value} {w' : World} {p : List Value} (hc : xs.length ≤ cap) (hm : cap ≤ maxLen) (hl : (flat xs ++ tl).length = cap * 2) (hF : Fr.Frame w w' [(h, p, 48), (g, flat xs ++ tl, 32)] []) :
    ∃ S, Fr.Frame w w' [(h, p, 48)] [Fr.rowR (Kd.raw 2) 32 w.heap.size (.slice (some ⟨g, 0, none⟩) xs.length cap) (rowsOf xs) S] := by
  have h1 : Fr.Frame w w' [(g, flat xs ++ tl, 32), (h, p, 48)] [] := by
    refine ⟨hF.below, fun b hb => hF.blk b ?_, ?_, by simp⟩
    · simp only [List.mem_cons, List.not_mem_nil, or_false] at hb ⊢
      exact hb.elim .inr .inl
    · have := hF.nodup
      simp only [List.map_cons, List.map_nil, List.nodup_cons, List.mem_cons, List.not_mem_nil, or_false, not_false_eq_true, List.nodup_nil, and_true] at this ⊢
      exact fun e => this e.symm
  rw [← rowsOf_flat] at h1 hl
  have := blk_own h1 (by rw [rowsOf_len]; exact hc) hm hl (rowsOf_row2 xs)
  rwa [rowsOf_len] at this
set_option maxHeartbeats 2000000 in
set_option maxRecDepth 100000 in
theorem of20_none (A : Option Addr) (c : Nat) (w : World) :
    Calls Try.prog 20 #[.slice A 0 c] w fun e w' => ∃ h v S, e = .returned (.pointer (some ⟨h, 0, none⟩)) ∧ Fr.Frame w w' [(h, [v], 48)] [Fr.rowR (Kd.raw 2) 32 w.heap.size v (rowsOf []) S] := by
  have H25 := Aside0.mk (clone25_none A c w)
  go_enter Try.func20, Try.ntmps20
  go_wp2_with fail
  (with_reducible refine H25.out.mono ?_)
  rintro e W ⟨v, S, rfl, hF1⟩
  obtain ⟨A1, c1, rfl, _, _⟩ := Kd.R_reads (hF1.rowAt (r := Fr.rowR (Kd.raw 2) 32 w.heap.size v [] S) List.mem_cons_self)
  rw [show ([] : List (List Value)).length = 0 from rfl] at hF1
  have hF : True := trivial
  have HC : True := trivial
  have HC1 := hF1.cells; simp only [Fr.Cells, List.length_cons, List.length_nil, Nat.reduceAdd, and_true] at HC1; clear hF HC; have HC := HC1; have hF := Aside0.mk hF1; clear hF1 HC1
  go_wp2_with (first | ((with_reducible refine gate_store rfl ?_); apply Fr.fr_store hF.out rfl rfl rfl; (case hp => rfl); (case hx => first | (go_simp; rfl) | rfl); (case hu => (simp only [Value.cells]; rfl)); (case hs => (repeat (first | exact Fr.Spot.here _ _ | apply Fr.Spot.there))); (case ht => kernel_rfl); (case h1 => simp [Value.oneCell']); (case hfit => simp); intro W hF1; simp only [Fr.patch, List.take_zero, List.nil_append, List.drop, List.append_nil, List.take, List.cons_append, List.length_cons, List.length_nil, Nat.reduceAdd] at hF1; have HC1 := hF1.cells; simp only [Fr.Cells, List.length_cons, List.length_nil, Nat.reduceAdd, and_true] at HC1; clear hF HC; have HC := HC1; have hF := Aside0.mk hF1; clear hF1 HC1) | ((with_reducible refine gate_dst (N := 3) rfl ?_); apply Fr.fr_box hF.out rfl; (case hrun => first | (go_simp; done) | (go_simp; rfl)); intro h W hF1; have HC1 := hF1.cells; simp only [Fr.Cells, List.length_cons, List.length_nil, Nat.reduceAdd, and_true] at HC1; clear hF HC; have HC := HC1; have hF := Aside0.mk hF1; clear hF1 HC1) | ((first | (with_reducible refine Fr.gate_alloc rfl ?_) | (with_reducible refine Fr.gate_box rfl ?_)); apply Fr.fr_box hF.out rfl; (case hrun => first | (go_simp; done) | (go_simp; rfl)); intro g W hF1; have HC1 := hF1.cells; simp only [Fr.Cells, List.length_cons, List.length_nil, Nat.reduceAdd, and_true] at HC1; clear hF HC; have HC := HC1; have hF := Aside0.mk hF1; clear hF1 HC1))
  have hc := blk_cell (hF.out.blk _ List.mem_cons_self).2 0
  (with_reducible refine (init26_none A1 c1 h _ hc).mono ?_)
  rintro e W2 ⟨rfl, rfl⟩
  go_wp2_with fail
  go_ret
  exact ⟨h, _, S, rfl, hF.out⟩
theorem of20_row (A : Option Addr) (c : Nat) (xs : List S32) (w : World) (hr : Kd.C k32 w A xs.length xs) (hl : xs.length ≤ 1000) :
    Calls Try.prog 20 #[.slice A xs.length c] w fun e w' => ∃ h v S, e = .returned (.pointer (some ⟨h, 0, none⟩)) ∧ Fr.Frame w w' [(h, [v], 48)] [Fr.rowR (Kd.raw 2) 32 w.heap.size v (rowsOf (heapL xs)) S] := by
  by_cases hp : 0 < xs.length
  · refine (of20_full A c xs w hr hp hl).mono ?_
    rintro e w' ⟨h, g, cap, tl, rfl, ⟨h1, h2, h3⟩, hF⟩
    have hh := heapL_len xs
    obtain ⟨S, hS⟩ := row_new (xs := heapL xs) (by rw [hh]; exact h1) h2 h3 hF
    rw [hh] at hS
    exact ⟨h, _, S, rfl, hS⟩
  · obtain rfl : xs = [] := List.eq_nil_of_length_eq_zero (by omega)
    exact of20_none A c w
def pushL (xs : List S32) (x : S32) : List S32 := upL (xs.length + 1) (xs ++ [x]) xs.length
theorem pushL_len (xs : List S32) (x : S32) : (pushL xs x).length = xs.length + 1 := by unfold pushL; rw [upL_len]; simp
theorem E49 : ∀ args w, (callFunc 49 args).run Try.prog w = .ok (.enter 49 args) w := enters_of Try.func49 (by kernel_rfl) rfl
theorem lies_own {h g n c : Nat} {bs : List Fr.Blk} {v : Value} {f : List Value → List Fr.Blk} (hs : Fr.Spot h 48 bs [v] f) : Lies (fun cs => (g, cs, 32) :: f [.slice (some ⟨g, 0, none⟩) n c]) g h n c := ⟨fun cs => .here _ _, fun cs => List.mem_cons_of_mem _ (again hs _).mem⟩
set_option maxHeartbeats 4000000 in
set_option maxRecDepth 100000 in
theorem push22_calls (x : S32) (xs : List S32) (v : Value) (S : Nat → Prop) (h : Nat) (w0 W : World) (bs : List Fr.Blk) (f : List Value → List Fr.Blk) (hs : Fr.Spot h 48 bs [v] f) (hF : Fr.Frame w0 W bs [Fr.rowR (Kd.raw 2) 32 w0.heap.size v (rowsOf xs) S]) (hl : xs.length ≤ 900) :
    Calls Try.prog 22 #[.iface 45 (.pointer (some ⟨h, 0, none⟩)), .iface 32 (.agg #[.int .i64 x.f0, .int .i64 x.f1])] W fun e W' => e = .returned (.tuple #[]) ∧ ∃ g cap tl, xs.length + 1 ≤ cap ∧ Fr.Frame w0 W' ((g, flat (pushL xs x) ++ tl, 32) :: f [.slice (some ⟨g, 0, none⟩) (xs.length + 1) cap]) [] := by
  have H49 := Aside0.mk (push49_calls x v (rowsOf xs) S h w0 W bs f hs hF (by rw [rowsOf_len]; omega))
  have HS := Aside0.mk hs
  have mLen := fun (w : World) (v : Value) (hc : w.cell? ⟨h, 0, none⟩ = some v) => met_Len h _ w hc
  have mPush := fun (w : World) => met_Push h undef w
  have eLen := E46
  have ePush := E49
  have hw : wrap64 (((xs.length + 1 : Nat) : Int) - 1) = (xs.length : Int) := by rw [w64b (by omega) (by omega)]; omega
  have hw2 : wrap64 ((xs.length : Int) + 1 - 1) = (xs.length : Int) := by rw [w64b (by omega) (by omega)]; omega
  have HUP := Aside0.mk (fun (g cap : Nat) (tl : List Value) (W : World) (hF : Fr.Frame w0 W ((g, flat (xs ++ [x]) ++ tl, 32) :: f [.slice (some ⟨g, 0, none⟩) (xs.length + 1) cap]) []) => up28_calls cap (xs ++ [x]) tl g h xs.length w0 W [] (fun cs => (g, cs, 32) :: f [.slice (some ⟨g, 0, none⟩) (xs.length + 1) cap]) (by simpa using lies_own hs) hF (by simp) (by simp; omega))
  have HX := Aside0.mk (rowsOf_app xs x)
  have HXL := Aside0.mk (show (rowsOf (xs ++ [x])).length = xs.length + 1 by rw [rowsOf_len]; simp)
  have HXF := Aside0.mk (rowsOf_flat (xs ++ [x]))
  have HR := Aside0.mk (show upL (xs.length + 1) (xs ++ [x]) xs.length = pushL xs x from rfl)
  clear hs hF
  go_enter Try.func22, Try.ntmps22
  go_wp2_with fail
  (with_reducible refine H49.out.mono ?_)
  rintro e W1 ⟨rfl, v1, S1, hF1⟩
  rw [← HX.out] at hF1
  obtain ⟨g, cap, tl, rfl, hcap, _, _, _, hF2⟩ := own_blk hF1 (by rw [HXL.out]; omega)
  rw [HXL.out] at hcap hF2
  rw [HXF.out] at hF2
  have hc := ptr_cell (lies_own (g := g) (n := xs.length + 1) (c := cap) HS.out) hF2
  have hF := Aside0.mk hF2
  clear hF1 hF2
  go_wp2_with fail
  (with_reducible refine (len46_calls (some ⟨g, 0, none⟩) (xs.length + 1) cap _).mono ?_)
  rintro e W2 ⟨rfl, rfl⟩
  go_wp2_with fail
  (with_reducible refine (HUP.out g cap tl _ hF.out).mono ?_)
  rintro e W3 ⟨rfl, hF3⟩
  rw [HR.out] at hF3
  go_wp2_with fail
  go_end0
  exact ⟨rfl, g, cap, tl, hcap, hF3⟩
theorem same_e0 (l : List S32) (hl : l.length ≤ 1000) : ∀ (d i : Nat), i + d = l.length → Ev (fun k => foghornref09_Same.l0 k l l (l.length : Int) (i : Int)) true
  | 0, i, hd => Ev.step (f := fun _ => some true) (fun k => by rw [foghornref09_Same.l0, if_neg (by omega)]) (Ev.now _)
  | d + 1, i, hd => Ev.step (f := fun k => foghornref09_Same.l0 k l l (l.length : Int) ((i + 1 : Nat) : Int)) (fun k => by
      rw [foghornref09_Same.l0, if_pos (by omega), if_pos (by omega), if_pos (by omega), if_pos (by omega), if_neg (by simp), w64i (by unfold M63; omega)]) (same_e0 l hl d (i + 1) (by omega))
theorem same_ev (l : List S32) (hl : l.length ≤ 1000) : Ev (fun k => foghornref09_Same.f k l l) true :=
  Ev.of_eq (fun k => by unfold foghornref09_Same.f; rw [if_pos rfl]; rfl) (same_e0 l hl l.length 0 (by omega))
theorem ref5_is (t : Int) : foghornref05_Right.f t = some (tmB t) := by
  unfold foghornref05_Right.f tmB
  by_cases h : 0 ≤ t <;> simp [h]
theorem right_e0 (l : List S32) (hl : l.length ≤ 1000) : ∀ (d i : Nat), i + d = l.length → (∀ j, (hj : j < l.length) → j < i → tmB l[j].f0 = true) → Ev (fun k => foghornref09_Right.l0 k l l (l.length : Int) (i : Int)) (duesB l)
  | 0, i, hd, ha => by
    refine Ev.step (f := fun _ => some (duesB l)) (fun k => ?_) (Ev.now _)
    rw [foghornref09_Right.l0, if_neg (by omega)]
    have h : l.any (fun x => !tmB x.f0) = false := by
      rw [List.any_eq_false]
      intro x hx
      obtain ⟨j, hj, rfl⟩ := List.mem_iff_getElem.1 hx
      rw [ha j hj (by omega)]; simp
    unfold duesB
    rw [h]
    by_cases h4 : l.length ≤ 64
    · rw [decide_eq_true h4, decide_eq_true (by omega)]; rfl
    · rw [decide_eq_false h4, decide_eq_false (by omega)]; rfl
  | d + 1, i, hd, ha => by
    have hi : i < l.length := by omega
    cases hb : tmB l[i].f0 with
    | true =>
      refine Ev.step (f := fun k => foghornref09_Right.l0 k l l (l.length : Int) ((i + 1 : Nat) : Int)) (fun k => ?_) (right_e0 l hl d (i + 1) (by omega) (fun j hj hji => ?_))
      · rw [foghornref09_Right.l0, if_pos (by omega), if_pos (by omega), if_pos (by omega), rd_at l i hi, ref5_is, hb]
        simp only [Option.bind_some, if_true]
        rw [w64i (by unfold M63; omega)]
      · by_cases e : j = i
        · subst e; exact hb
        · exact ha j hj (by omega)
    | false =>
      refine Ev.step (f := fun _ => some (duesB l)) (fun k => ?_) (Ev.now _)
      rw [foghornref09_Right.l0, if_pos (by omega), if_pos (by omega), if_pos (by omega), rd_at l i hi, ref5_is, hb]
      have h : l.any (fun x => !tmB x.f0) = true := List.any_eq_true.2 ⟨l[i], List.getElem_mem hi, by rw [hb]; rfl⟩
      unfold duesB
      rw [h]
      simp
theorem right_ev (l : List S32) (hl : l.length ≤ 1000) : Ev (fun k => foghornref09_Right.f k l) (duesB l) := right_e0 l hl l.length 0 (by omega) (fun j _ h => absurd h (Nat.not_lt_zero _))
def upTo (now : Int) (x : S32) : Bool := decide (x.f0 ≤ now)
theorem until_e0 (now : Int) (l : List S32) (hl : l.length ≤ 1000) : ∀ (d i : Nat) (a b : List S32), i + d = l.length → a.length ≤ i → b.length ≤ i → Ev (fun k => foghornref09_Until.l0 k now a b l (l.length : Int) (i : Int)) (a ++ (l.drop i).filter (upTo now), b ++ (l.drop i).filter (fun x => !upTo now x))
  | 0, i, a, b, hd, ha, hb => by
    refine Ev.step (f := fun _ => some (a, b)) (fun k => by rw [foghornref09_Until.l0, if_neg (by omega)]) ?_
    rw [List.drop_eq_nil_of_le (by omega)]
    simpa using Ev.now (a, b)
  | d + 1, i, a, b, hd, ha, hb => by
    have hi : i < l.length := by omega
    rw [List.drop_eq_getElem_cons hi]
    by_cases h : l[i].f0 ≤ now
    · have hu : upTo now l[i] = true := decide_eq_true h
      rw [List.filter_cons_of_pos hu, List.filter_cons_of_neg (by rw [hu]; decide)]
      refine Ev.step (f := fun k => foghornref09_Until.l0 k now (a ++ [l[i]]) b l (l.length : Int) ((i + 1 : Nat) : Int)) (fun k => ?_) ?_
      · rw [foghornref09_Until.l0, if_pos (by omega), if_pos (by omega), if_pos (by omega), rd_at l i hi, if_pos h, if_pos (by omega), w64i (by unfold M63; omega)]
      · have := until_e0 now l hl d (i + 1) (a ++ [l[i]]) b (by omega) (by simp; omega) (by omega)
        simpa using this
    · have hu : upTo now l[i] = false := decide_eq_false h
      rw [List.filter_cons_of_neg (by rw [hu]; decide), List.filter_cons_of_pos (by rw [hu]; rfl)]
      refine Ev.step (f := fun k => foghornref09_Until.l0 k now a (b ++ [l[i]]) l (l.length : Int) ((i + 1 : Nat) : Int)) (fun k => ?_) ?_
      · rw [foghornref09_Until.l0, if_pos (by omega), if_pos (by omega), if_pos (by omega), rd_at l i hi, if_neg h, if_pos (by omega), w64i (by unfold M63; omega)]
      · have := until_e0 now l hl d (i + 1) a (b ++ [l[i]]) (by omega) (by omega) (by simp; omega)
        simpa using this
theorem until_ev (now : Int) (l : List S32) (hl : l.length ≤ 1000) : Ev (fun k => foghornref09_Until.f k l now) ((srt l).filter (upTo now), (srt l).filter (fun x => !upTo now x)) := by
  unfold foghornref09_Until.f
  refine Ev.bind (g := fun k t => foghornref09_Until.l0 k now [] [] t (t.length : Int) 0) (sorted_ev l hl) ?_
  have := until_e0 now (srt l) (by rw [srt_len]; exact hl) (srt l).length 0 [] [] (by omega) (by simp) (by simp)
  simpa using this
theorem getD_take (l : List S32) (n k : Nat) (h : k < n) : (l.take n).getD k z32 = l.getD k z32 := by
  simp [List.getD_eq_getElem?_getD, List.getElem?_take, h]
theorem heap_take {l : List S32} {n : Nat} (h : isH l n 0) : isH (l.take n) n 0 := fun k k1 k2 _ => by
  rw [getD_take l n k k2, getD_take l n _ (by omega)]
  exact h k k1 k2 (Nat.zero_le _)
theorem mem_getD {l : List S32} {x : S32} (h : x ∈ l) : ∃ k, k < l.length ∧ l.getD k z32 = x := by
  obtain ⟨k, hk, rfl⟩ := List.mem_iff_getElem.1 h
  exact ⟨k, hk, by simp [List.getD_eq_getElem?_getD, hk]⟩
theorem take_last {l : List S32} {n : Nat} (h : l.length = n + 1) : (l.getD n z32 :: l.take n).Perm l := by
  have e : l = l.take n ++ [l.getD n z32] := by
    have h1 : l.getD n z32 = l[n] := by simp [List.getD_eq_getElem?_getD, show n < l.length by omega]
    rw [h1]
    have := List.take_append_getElem (l := l) (i := n) (by omega)
    rw [this, List.take_of_length_le (by omega)]
  have h2 : (l.getD n z32 :: l.take n).Perm (l.take n ++ [l.getD n z32]) := (List.perm_append_singleton _ _).symm
  rwa [← e] at h2
theorem drain_is (now : Int) : ∀ (k : Nat) (zs : List S32), isH zs zs.length 0 → zs.length ≤ k → inOrder (drainL k zs now).1 ∧ (∀ x ∈ (drainL k zs now).1, upTo now x = true) ∧ (∀ x ∈ (drainL k zs now).2, upTo now x = false) ∧ ((drainL k zs now).1 ++ (drainL k zs now).2).Perm zs
  | 0, zs, _, hl => by
    obtain rfl : zs = [] := List.eq_nil_of_length_eq_zero (by omega)
    exact ⟨List.Pairwise.nil, by simp [drainL], by simp [drainL], by simp [drainL]⟩
  | k + 1, zs, hh, hl => by
    rw [drainL]
    by_cases h : 0 < zs.length ∧ (zs.getD 0 z32).f0 ≤ now
    · rw [if_pos h]
      obtain ⟨n, hn⟩ : ∃ n, zs.length = n + 1 := ⟨zs.length - 1, by omega⟩
      have hleast := heap_least hh
      rw [hn] at hh
      obtain ⟨p1, p2, p3⟩ := pop_heap hn hh
      have e : zs.length - 1 = n := by omega
      rw [e, p3]
      have hpl : (popL zs).length = n + 1 := by rw [p2.length_eq, hn]
      have htl : ((popL zs).take n).length = n := by rw [List.length_take]; omega
      obtain ⟨q1, q2, q3, q4⟩ := drain_is now k ((popL zs).take n) (by rw [htl]; exact heap_take p1) (by omega)
      have hp : (zs.getD 0 z32 :: (popL zs).take n).Perm zs := by
        have := (take_last hpl).trans p2
        rwa [p3] at this
      have hm : ∀ x ∈ (drainL k ((popL zs).take n) now).1, lessB x (zs.getD 0 z32) = false := fun x hx => by
        have h1 : x ∈ (popL zs).take n := q4.mem_iff.1 (List.mem_append_left _ hx)
        obtain ⟨j, hj, rfl⟩ := mem_getD (hp.mem_iff.1 (List.mem_cons_of_mem _ h1))
        exact hleast j hj
      refine ⟨List.pairwise_cons.2 ⟨hm, q1⟩, fun x hx => ?_, q3, ?_⟩
      · rcases List.mem_cons.1 hx with rfl | hx
        · exact decide_eq_true h.2
        · exact q2 x hx
      · exact ((q4.cons _).trans hp)
    · rw [if_neg h]
      refine ⟨List.Pairwise.nil, by simp, fun x hx => ?_, by simp⟩
      obtain ⟨j, hj, rfl⟩ := mem_getD hx
      dsimp only at hj ⊢
      have h1 := heap_least hh j hj
      rw [less_no] at h1
      refine decide_eq_false (fun h2 => h ⟨by omega, ?_⟩)
      omega
theorem filter_order {p : S32 → Bool} {l : List S32} (h : inOrder l) : inOrder (l.filter p) := List.Pairwise.filter _ h
theorem srt_filter (p : S32 → Bool) (l : List S32) : (srt l).filter p = srt (l.filter p) := srt_of (filter_order (srt_order l)) ((srt_perm l).filter p)
theorem drained (xs : List S32) (now : Int) : (drainL xs.length (heapL xs) now).1 = (srt xs).filter (upTo now) ∧ srt (drainL xs.length (heapL xs) now).2 = (srt xs).filter (fun x => !upTo now x) ∧ (drainL xs.length (heapL xs) now).1.length + (drainL xs.length (heapL xs) now).2.length = xs.length := by
  obtain ⟨h1, h2⟩ := heap_is xs
  have hl := heapL_len xs
  obtain ⟨q1, q2, q3, q4⟩ := drain_is now xs.length (heapL xs) (by rw [hl]; exact h1) (by rw [hl]; exact Nat.le_refl _)
  have hp := q4.trans h2
  have f1 := hp.filter (upTo now)
  rw [List.filter_append, List.filter_eq_self.2 q2, List.filter_eq_nil_iff.2 (fun x hx => by rw [q3 x hx]; decide), List.append_nil] at f1
  have f2 := hp.filter (fun x => !upTo now x)
  rw [List.filter_append, List.filter_eq_nil_iff.2 (fun x hx => by rw [q2 x hx]; decide), List.filter_eq_self.2 (fun x hx => by rw [q3 x hx]; rfl), List.nil_append] at f2
  exact ⟨by rw [srt_filter]; exact srt_of q1 f1, by rw [srt_filter]; exact srt_eq f2, by have := hp.length_eq; simpa using this⟩
theorem popped (xs : List S32) (n : Nat) (hn : xs.length = n + 1) : ∃ r, srt xs = (popL (heapL xs)).getD n z32 :: r ∧ srt ((popL (heapL xs)).take n) = r := by
  obtain ⟨h1, h2⟩ := heap_is xs
  have hl := heapL_len xs
  rw [show initL (xs.length / 2) xs xs.length = heapL xs from rfl] at h1 h2
  have hleast := heap_least h1
  rw [hn] at h1
  obtain ⟨p1, p2, p3⟩ := pop_heap (by rw [hl, hn]) h1
  have hpl : (popL (heapL xs)).length = n + 1 := by rw [p2.length_eq, hl, hn]
  have hp := (take_last hpl).trans (p2.trans h2)
  rw [p3] at hp ⊢
  refine ⟨srt ((popL (heapL xs)).take n), ?_, rfl⟩
  refine (srt_of (List.pairwise_cons.2 ⟨fun x hx => ?_, srt_order _⟩) (((srt_perm _).cons _).trans hp)).symm
  have h3 : x ∈ (popL (heapL xs)).take n := (srt_perm _).mem_iff.1 hx
  have h4 : x ∈ heapL xs := p2.mem_iff.1 (List.mem_of_mem_take h3)
  obtain ⟨j, hj, rfl⟩ := mem_getD h4
  exact hleast j (by rw [← hl]; exact hj)
theorem pushed (xs : List S32) (x : S32) : (pushL (heapL xs) x).Perm (xs ++ [x]) := by
  obtain ⟨_, h2⟩ := heap_is xs
  unfold pushL
  exact (up_perm _ _ _ (by simp)).trans (h2.append_right [x])
set_option maxHeartbeats 2000000 in
set_option maxRecDepth 100000 in
theorem push11_bad (A : Option Addr) (c : Nat) (xs : List S32) (x : S32) (w : World) (hr : Kd.C k32 w A xs.length xs) (hb : (duesB xs && tmB x.f0) = false) :
    Calls Try.prog 11 #[.slice A xs.length c, .agg #[.int .i64 x.f0, .int .i64 x.f1]] w fun e w' => e = .returned (.tuple #[.slice none 0 0, .int .i64 1]) ∧ Below w.heap.size w w' := by
  have H13 := Aside0.mk (fun W (hb : Below w.heap.size w W) => right13_calls A c xs W (Kd.C_below hr hb))
  have H19 := Aside0.mk (fun W => tick_Right.calls x.f0 _ W (tick_is x.f0))
  clear hr
  have hF := Aside0.mk (Fr.Frame.start w)
  have HC : True := trivial
  generalize duesB xs = u at hb H13
  generalize tmB x.f0 = v at hb H19
  obtain ⟨x0, x1⟩ := x
  dsimp only at H19 ⊢
  cases u with
  | false =>
    clear hb
    go_enter Try.func11, Try.ntmps11
    go_wp2_with (first | ((with_reducible refine gate_store rfl ?_); apply Fr.fr_store hF.out rfl rfl rfl; (case hp => rfl); (case hx => first | (go_simp; rfl) | rfl); (case hu => (simp only [Value.cells]; rfl)); (case hs => (repeat (first | exact Fr.Spot.here _ _ | apply Fr.Spot.there))); (case ht => kernel_rfl); (case h1 => simp [Value.oneCell']); (case hfit => simp); intro W hF1; simp only [Fr.patch, List.take_zero, List.nil_append, List.drop, List.append_nil, List.take, List.cons_append, List.length_cons, List.length_nil, Nat.reduceAdd] at hF1; have HC1 := hF1.cells; simp only [Fr.Cells, List.length_cons, List.length_nil, Nat.reduceAdd, and_true] at HC1; clear hF HC; have HC := HC1; have hF := Aside0.mk hF1; clear hF1 HC1) | ((with_reducible refine gate_dst (N := 3) rfl ?_); apply Fr.fr_box hF.out rfl; (case hrun => first | (go_simp; done) | (go_simp; rfl)); intro r3 W hF1; have HC1 := hF1.cells; simp only [Fr.Cells, List.length_cons, List.length_nil, Nat.reduceAdd, and_true] at HC1; clear hF HC; have HC := HC1; have hF := Aside0.mk hF1; clear hF1 HC1) | ((first | (with_reducible refine Fr.gate_alloc rfl ?_) | (with_reducible refine Fr.gate_box rfl ?_)); apply Fr.fr_box hF.out rfl; (case hrun => first | (go_simp; done) | (go_simp; rfl)); intro g W hF1; have HC1 := hF1.cells; simp only [Fr.Cells, List.length_cons, List.length_nil, Nat.reduceAdd, and_true] at HC1; clear hF HC; have HC := HC1; have hF := Aside0.mk hF1; clear hF1 HC1))
    (with_reducible refine (H13.out _ hF.out.below).mono ?_); rintro e W ⟨rfl, hb⟩; have hF1 := hF.out.call hb; clear hb; have HC1 := hF1.cells; simp only [Fr.Cells, List.length_cons, List.length_nil, Nat.reduceAdd, and_true] at HC1; clear hF HC; have HC := HC1; have hF := Aside0.mk hF1; clear hF1 HC1
    go_wp2_with (first | ((with_reducible refine gate_store rfl ?_); apply Fr.fr_store hF.out rfl rfl rfl; (case hp => rfl); (case hx => first | (go_simp; rfl) | rfl); (case hu => (simp only [Value.cells]; rfl)); (case hs => (repeat (first | exact Fr.Spot.here _ _ | apply Fr.Spot.there))); (case ht => kernel_rfl); (case h1 => simp [Value.oneCell']); (case hfit => simp); intro W hF1; simp only [Fr.patch, List.take_zero, List.nil_append, List.drop, List.append_nil, List.take, List.cons_append, List.length_cons, List.length_nil, Nat.reduceAdd] at hF1; have HC1 := hF1.cells; simp only [Fr.Cells, List.length_cons, List.length_nil, Nat.reduceAdd, and_true] at HC1; clear hF HC; have HC := HC1; have hF := Aside0.mk hF1; clear hF1 HC1) | ((first | (with_reducible refine Fr.gate_alloc rfl ?_) | (with_reducible refine Fr.gate_box rfl ?_)); apply Fr.fr_box hF.out rfl; (case hrun => first | (go_simp; done) | (go_simp; rfl)); intro g W hF1; have HC1 := hF1.cells; simp only [Fr.Cells, List.length_cons, List.length_nil, Nat.reduceAdd, and_true] at HC1; clear hF HC; have HC := HC1; have hF := Aside0.mk hF1; clear hF1 HC1))
    refine bodyPost_ret ?_ rfl ⟨rfl, hF.out.below⟩
    simp [results, Try.results11, go_sem]
  | true =>
    obtain rfl : v = false := by simpa using hb
    clear hb
    go_enter Try.func11, Try.ntmps11
    go_wp2_with (first | ((with_reducible refine gate_store rfl ?_); apply Fr.fr_store hF.out rfl rfl rfl; (case hp => rfl); (case hx => first | (go_simp; rfl) | rfl); (case hu => (simp only [Value.cells]; rfl)); (case hs => (repeat (first | exact Fr.Spot.here _ _ | apply Fr.Spot.there))); (case ht => kernel_rfl); (case h1 => simp [Value.oneCell']); (case hfit => simp); intro W hF1; simp only [Fr.patch, List.take_zero, List.nil_append, List.drop, List.append_nil, List.take, List.cons_append, List.length_cons, List.length_nil, Nat.reduceAdd] at hF1; have HC1 := hF1.cells; simp only [Fr.Cells, List.length_cons, List.length_nil, Nat.reduceAdd, and_true] at HC1; clear hF HC; have HC := HC1; have hF := Aside0.mk hF1; clear hF1 HC1) | ((with_reducible refine gate_dst (N := 3) rfl ?_); apply Fr.fr_box hF.out rfl; (case hrun => first | (go_simp; done) | (go_simp; rfl)); intro r3 W hF1; have HC1 := hF1.cells; simp only [Fr.Cells, List.length_cons, List.length_nil, Nat.reduceAdd, and_true] at HC1; clear hF HC; have HC := HC1; have hF := Aside0.mk hF1; clear hF1 HC1) | ((first | (with_reducible refine Fr.gate_alloc rfl ?_) | (with_reducible refine Fr.gate_box rfl ?_)); apply Fr.fr_box hF.out rfl; (case hrun => first | (go_simp; done) | (go_simp; rfl)); intro g W hF1; have HC1 := hF1.cells; simp only [Fr.Cells, List.length_cons, List.length_nil, Nat.reduceAdd, and_true] at HC1; clear hF HC; have HC := HC1; have hF := Aside0.mk hF1; clear hF1 HC1))
    (with_reducible refine (H13.out _ hF.out.below).mono ?_); rintro e W ⟨rfl, hb⟩; have hF1 := hF.out.call hb; clear hb; have HC1 := hF1.cells; simp only [Fr.Cells, List.length_cons, List.length_nil, Nat.reduceAdd, and_true] at HC1; clear hF HC; have HC := HC1; have hF := Aside0.mk hF1; clear hF1 HC1
    go_wp2_with (first | ((with_reducible refine gate_store rfl ?_); apply Fr.fr_store hF.out rfl rfl rfl; (case hp => rfl); (case hx => first | (go_simp; rfl) | rfl); (case hu => (simp only [Value.cells]; rfl)); (case hs => (repeat (first | exact Fr.Spot.here _ _ | apply Fr.Spot.there))); (case ht => kernel_rfl); (case h1 => simp [Value.oneCell']); (case hfit => simp); intro W hF1; simp only [Fr.patch, List.take_zero, List.nil_append, List.drop, List.append_nil, List.take, List.cons_append, List.length_cons, List.length_nil, Nat.reduceAdd] at hF1; have HC1 := hF1.cells; simp only [Fr.Cells, List.length_cons, List.length_nil, Nat.reduceAdd, and_true] at HC1; clear hF HC; have HC := HC1; have hF := Aside0.mk hF1; clear hF1 HC1) | ((first | (with_reducible refine Fr.gate_alloc rfl ?_) | (with_reducible refine Fr.gate_box rfl ?_)); apply Fr.fr_box hF.out rfl; (case hrun => first | (go_simp; done) | (go_simp; rfl)); intro g W hF1; have HC1 := hF1.cells; simp only [Fr.Cells, List.length_cons, List.length_nil, Nat.reduceAdd, and_true] at HC1; clear hF HC; have HC := HC1; have hF := Aside0.mk hF1; clear hF1 HC1))
    (with_reducible refine (H19.out _).mono ?_); rintro e W ⟨rfl, hb⟩; have hF1 := hF.out.call hb.below; clear hb; have HC1 := hF1.cells; simp only [Fr.Cells, List.length_cons, List.length_nil, Nat.reduceAdd, and_true] at HC1; clear hF HC; have HC := HC1; have hF := Aside0.mk hF1; clear hF1 HC1
    go_wp2_with (first | ((with_reducible refine gate_store rfl ?_); apply Fr.fr_store hF.out rfl rfl rfl; (case hp => rfl); (case hx => first | (go_simp; rfl) | rfl); (case hu => (simp only [Value.cells]; rfl)); (case hs => (repeat (first | exact Fr.Spot.here _ _ | apply Fr.Spot.there))); (case ht => kernel_rfl); (case h1 => simp [Value.oneCell']); (case hfit => simp); intro W hF1; simp only [Fr.patch, List.take_zero, List.nil_append, List.drop, List.append_nil, List.take, List.cons_append, List.length_cons, List.length_nil, Nat.reduceAdd] at hF1; have HC1 := hF1.cells; simp only [Fr.Cells, List.length_cons, List.length_nil, Nat.reduceAdd, and_true] at HC1; clear hF HC; have HC := HC1; have hF := Aside0.mk hF1; clear hF1 HC1) | ((first | (with_reducible refine Fr.gate_alloc rfl ?_) | (with_reducible refine Fr.gate_box rfl ?_)); apply Fr.fr_box hF.out rfl; (case hrun => first | (go_simp; done) | (go_simp; rfl)); intro g W hF1; have HC1 := hF1.cells; simp only [Fr.Cells, List.length_cons, List.length_nil, Nat.reduceAdd, and_true] at HC1; clear hF HC; have HC := HC1; have hF := Aside0.mk hF1; clear hF1 HC1))
    refine bodyPost_ret ?_ rfl ⟨rfl, hF.out.below⟩
    simp [results, Try.results11, go_sem]
set_option maxHeartbeats 2000000 in
set_option maxRecDepth 100000 in
theorem push11_full (A : Option Addr) (c : Nat) (xs : List S32) (x : S32) (w : World) (hr : Kd.C k32 w A xs.length xs) (hb : duesB xs = true) (ht : tmB x.f0 = true) (hn : xs.length = 64) :
    Calls Try.prog 11 #[.slice A xs.length c, .agg #[.int .i64 x.f0, .int .i64 x.f1]] w fun e w' => e = .returned (.tuple #[.slice none 0 0, .int .i64 5]) ∧ Below w.heap.size w w' := by
  have H13 := Aside0.mk (fun W (hb : Below w.heap.size w W) => right13_calls A c xs W (Kd.C_below hr hb))
  have H19 := Aside0.mk (fun W => tick_Right.calls x.f0 _ W (tick_is x.f0))
  rw [hb] at H13
  rw [ht] at H19
  rw [hn] at H13 ⊢
  clear hr hb ht hn
  have hF := Aside0.mk (Fr.Frame.start w)
  have HC : True := trivial
  obtain ⟨x0, x1⟩ := x
  dsimp only at H19 ⊢
  go_enter Try.func11, Try.ntmps11
  go_wp2_with (first | ((with_reducible refine gate_store rfl ?_); apply Fr.fr_store hF.out rfl rfl rfl; (case hp => rfl); (case hx => first | (go_simp; rfl) | rfl); (case hu => (simp only [Value.cells]; rfl)); (case hs => (repeat (first | exact Fr.Spot.here _ _ | apply Fr.Spot.there))); (case ht => kernel_rfl); (case h1 => simp [Value.oneCell']); (case hfit => simp); intro W hF1; simp only [Fr.patch, List.take_zero, List.nil_append, List.drop, List.append_nil, List.take, List.cons_append, List.length_cons, List.length_nil, Nat.reduceAdd] at hF1; have HC1 := hF1.cells; simp only [Fr.Cells, List.length_cons, List.length_nil, Nat.reduceAdd, and_true] at HC1; clear hF HC; have HC := HC1; have hF := Aside0.mk hF1; clear hF1 HC1) | ((with_reducible refine gate_dst (N := 3) rfl ?_); apply Fr.fr_box hF.out rfl; (case hrun => first | (go_simp; done) | (go_simp; rfl)); intro r3 W hF1; have HC1 := hF1.cells; simp only [Fr.Cells, List.length_cons, List.length_nil, Nat.reduceAdd, and_true] at HC1; clear hF HC; have HC := HC1; have hF := Aside0.mk hF1; clear hF1 HC1) | ((first | (with_reducible refine Fr.gate_alloc rfl ?_) | (with_reducible refine Fr.gate_box rfl ?_)); apply Fr.fr_box hF.out rfl; (case hrun => first | (go_simp; done) | (go_simp; rfl)); intro g W hF1; have HC1 := hF1.cells; simp only [Fr.Cells, List.length_cons, List.length_nil, Nat.reduceAdd, and_true] at HC1; clear hF HC; have HC := HC1; have hF := Aside0.mk hF1; clear hF1 HC1))
  (with_reducible refine (H13.out _ hF.out.below).mono ?_); rintro e W ⟨rfl, hb⟩; have hF1 := hF.out.call hb; clear hb; have HC1 := hF1.cells; simp only [Fr.Cells, List.length_cons, List.length_nil, Nat.reduceAdd, and_true] at HC1; clear hF HC; have HC := HC1; have hF := Aside0.mk hF1; clear hF1 HC1
  go_wp2_with (first | ((with_reducible refine gate_store rfl ?_); apply Fr.fr_store hF.out rfl rfl rfl; (case hp => rfl); (case hx => first | (go_simp; rfl) | rfl); (case hu => (simp only [Value.cells]; rfl)); (case hs => (repeat (first | exact Fr.Spot.here _ _ | apply Fr.Spot.there))); (case ht => kernel_rfl); (case h1 => simp [Value.oneCell']); (case hfit => simp); intro W hF1; simp only [Fr.patch, List.take_zero, List.nil_append, List.drop, List.append_nil, List.take, List.cons_append, List.length_cons, List.length_nil, Nat.reduceAdd] at hF1; have HC1 := hF1.cells; simp only [Fr.Cells, List.length_cons, List.length_nil, Nat.reduceAdd, and_true] at HC1; clear hF HC; have HC := HC1; have hF := Aside0.mk hF1; clear hF1 HC1) | ((first | (with_reducible refine Fr.gate_alloc rfl ?_) | (with_reducible refine Fr.gate_box rfl ?_)); apply Fr.fr_box hF.out rfl; (case hrun => first | (go_simp; done) | (go_simp; rfl)); intro g W hF1; have HC1 := hF1.cells; simp only [Fr.Cells, List.length_cons, List.length_nil, Nat.reduceAdd, and_true] at HC1; clear hF HC; have HC := HC1; have hF := Aside0.mk hF1; clear hF1 HC1))
  (with_reducible refine (H19.out _).mono ?_); rintro e W ⟨rfl, hb⟩; have hF1 := hF.out.call hb.below; clear hb; have HC1 := hF1.cells; simp only [Fr.Cells, List.length_cons, List.length_nil, Nat.reduceAdd, and_true] at HC1; clear hF HC; have HC := HC1; have hF := Aside0.mk hF1; clear hF1 HC1
  go_wp2_with (first | ((with_reducible refine gate_store rfl ?_); apply Fr.fr_store hF.out rfl rfl rfl; (case hp => rfl); (case hx => first | (go_simp; rfl) | rfl); (case hu => (simp only [Value.cells]; rfl)); (case hs => (repeat (first | exact Fr.Spot.here _ _ | apply Fr.Spot.there))); (case ht => kernel_rfl); (case h1 => simp [Value.oneCell']); (case hfit => simp); intro W hF1; simp only [Fr.patch, List.take_zero, List.nil_append, List.drop, List.append_nil, List.take, List.cons_append, List.length_cons, List.length_nil, Nat.reduceAdd] at hF1; have HC1 := hF1.cells; simp only [Fr.Cells, List.length_cons, List.length_nil, Nat.reduceAdd, and_true] at HC1; clear hF HC; have HC := HC1; have hF := Aside0.mk hF1; clear hF1 HC1) | ((first | (with_reducible refine Fr.gate_alloc rfl ?_) | (with_reducible refine Fr.gate_box rfl ?_)); apply Fr.fr_box hF.out rfl; (case hrun => first | (go_simp; done) | (go_simp; rfl)); intro g W hF1; have HC1 := hF1.cells; simp only [Fr.Cells, List.length_cons, List.length_nil, Nat.reduceAdd, and_true] at HC1; clear hF HC; have HC := HC1; have hF := Aside0.mk hF1; clear hF1 HC1))
  refine bodyPost_ret ?_ rfl ⟨rfl, hF.out.below⟩
  simp [results, Try.results11, go_sem]
set_option maxHeartbeats 4000000 in
set_option maxRecDepth 100000 in
theorem push11_ok (A : Option Addr) (c : Nat) (xs : List S32) (x : S32) (w : World) (hr : Kd.C k32 w A xs.length xs) (hb : duesB xs = true) (ht : tmB x.f0 = true) (hn : xs.length < 64) :
    Calls Try.prog 11 #[.slice A xs.length c, .agg #[.int .i64 x.f0, .int .i64 x.f1]] w fun e w' => ∃ g cap, e = .returned (.tuple #[.slice (some ⟨g, 0, none⟩) (xs.length + 1) cap, .int .i64 0]) ∧ xs.length + 1 ≤ cap ∧ Kd.C k32 w' (some ⟨g, 0, none⟩) (xs.length + 1) (pushL (heapL xs) x) ∧ Below w.heap.size w w' := by
  have H13 := Aside0.mk (fun W (hb : Below w.heap.size w W) => right13_calls A c xs W (Kd.C_below hr hb))
  have H19 := Aside0.mk (fun W => tick_Right.calls x.f0 _ W (tick_is x.f0))
  have H20 := Aside0.mk (fun W (hb : Below w.heap.size w W) => of20_row A c xs W (Kd.C_below hr hb) (by omega))
  rw [hb] at H13
  rw [ht] at H19
  have hne : ¬ (xs.length : Int) = 64 := by omega
  have hne2 : ¬ xs.length = 64 := by omega
  have hhl := heapL_len xs
  have hpl := pushL_len (heapL xs) x
  rw [hhl] at hpl
  obtain ⟨ys, hys⟩ : ∃ ys, heapL xs = ys := ⟨_, rfl⟩
  rw [hys] at H20 hhl hpl ⊢
  obtain ⟨n, hnx⟩ : ∃ n, xs.length = n := ⟨_, rfl⟩
  rw [hnx] at H13 H20 hne hne2 hhl hpl hn ⊢
  have HPL := Aside0.mk hpl
  have HHL := Aside0.mk hhl
  have HN := Aside0.mk hn
  clear hr hb ht hys hnx hpl hn hhl
  have hF := Aside0.mk (Fr.Frame.start w)
  have HC : True := trivial
  go_enter Try.func11, Try.ntmps11
  go_wp2_with (first | ((with_reducible refine gate_store rfl ?_); apply Fr.fr_store hF.out rfl rfl rfl; (case hp => rfl); (case hx => first | (go_simp; rfl) | rfl); (case hu => (simp only [Value.cells]; rfl)); (case hs => (repeat (first | exact Fr.Spot.here _ _ | apply Fr.Spot.there))); (case ht => kernel_rfl); (case h1 => simp [Value.oneCell']); (case hfit => simp); intro W hF1; simp only [Fr.patch, List.take_zero, List.nil_append, List.drop, List.append_nil, List.take, List.cons_append, List.length_cons, List.length_nil, Nat.reduceAdd] at hF1; have HC1 := hF1.cells; simp only [Fr.Cells, List.length_cons, List.length_nil, Nat.reduceAdd, and_true] at HC1; clear hF HC; have HC := HC1; have hF := Aside0.mk hF1; clear hF1 HC1) | ((with_reducible refine gate_dst (N := 3) rfl ?_); apply Fr.fr_box hF.out rfl; (case hrun => first | (go_simp; done) | (go_simp; rfl)); intro r3 W hF1; have HC1 := hF1.cells; simp only [Fr.Cells, List.length_cons, List.length_nil, Nat.reduceAdd, and_true] at HC1; clear hF HC; have HC := HC1; have hF := Aside0.mk hF1; clear hF1 HC1) | ((first | (with_reducible refine Fr.gate_alloc rfl ?_) | (with_reducible refine Fr.gate_box rfl ?_)); apply Fr.fr_box hF.out rfl; (case hrun => first | (go_simp; done) | (go_simp; rfl)); intro g W hF1; have HC1 := hF1.cells; simp only [Fr.Cells, List.length_cons, List.length_nil, Nat.reduceAdd, and_true] at HC1; clear hF HC; have HC := HC1; have hF := Aside0.mk hF1; clear hF1 HC1))
  (with_reducible refine (H13.out _ hF.out.below).mono ?_); rintro e W ⟨rfl, hb⟩; have hF1 := hF.out.call hb; clear hb; have HC1 := hF1.cells; simp only [Fr.Cells, List.length_cons, List.length_nil, Nat.reduceAdd, and_true] at HC1; clear hF HC; have HC := HC1; have hF := Aside0.mk hF1; clear hF1 HC1
  go_wp2_with (first | ((with_reducible refine gate_store rfl ?_); apply Fr.fr_store hF.out rfl rfl rfl; (case hp => rfl); (case hx => first | (go_simp; rfl) | rfl); (case hu => (simp only [Value.cells]; rfl)); (case hs => (repeat (first | exact Fr.Spot.here _ _ | apply Fr.Spot.there))); (case ht => kernel_rfl); (case h1 => simp [Value.oneCell']); (case hfit => simp); intro W hF1; simp only [Fr.patch, List.take_zero, List.nil_append, List.drop, List.append_nil, List.take, List.cons_append, List.length_cons, List.length_nil, Nat.reduceAdd] at hF1; have HC1 := hF1.cells; simp only [Fr.Cells, List.length_cons, List.length_nil, Nat.reduceAdd, and_true] at HC1; clear hF HC; have HC := HC1; have hF := Aside0.mk hF1; clear hF1 HC1) | ((first | (with_reducible refine Fr.gate_alloc rfl ?_) | (with_reducible refine Fr.gate_box rfl ?_)); apply Fr.fr_box hF.out rfl; (case hrun => first | (go_simp; done) | (go_simp; rfl)); intro g W hF1; have HC1 := hF1.cells; simp only [Fr.Cells, List.length_cons, List.length_nil, Nat.reduceAdd, and_true] at HC1; clear hF HC; have HC := HC1; have hF := Aside0.mk hF1; clear hF1 HC1))
  (with_reducible refine (H19.out _).mono ?_); rintro e W ⟨rfl, hb⟩; have hF1 := hF.out.call hb.below; clear hb; have HC1 := hF1.cells; simp only [Fr.Cells, List.length_cons, List.length_nil, Nat.reduceAdd, and_true] at HC1; clear hF HC; have HC := HC1; have hF := Aside0.mk hF1; clear hF1 HC1
  go_wp2_with (first | ((with_reducible refine gate_store rfl ?_); apply Fr.fr_store hF.out rfl rfl rfl; (case hp => rfl); (case hx => first | (go_simp; rfl) | rfl); (case hu => (simp only [Value.cells]; rfl)); (case hs => (repeat (first | exact Fr.Spot.here _ _ | apply Fr.Spot.there))); (case ht => kernel_rfl); (case h1 => simp [Value.oneCell']); (case hfit => simp); intro W hF1; simp only [Fr.patch, List.take_zero, List.nil_append, List.drop, List.append_nil, List.take, List.cons_append, List.length_cons, List.length_nil, Nat.reduceAdd] at hF1; have HC1 := hF1.cells; simp only [Fr.Cells, List.length_cons, List.length_nil, Nat.reduceAdd, and_true] at HC1; clear hF HC; have HC := HC1; have hF := Aside0.mk hF1; clear hF1 HC1) | ((first | (with_reducible refine Fr.gate_alloc rfl ?_) | (with_reducible refine Fr.gate_box rfl ?_)); apply Fr.fr_box hF.out rfl; (case hrun => first | (go_simp; done) | (go_simp; rfl)); intro g W hF1; have HC1 := hF1.cells; simp only [Fr.Cells, List.length_cons, List.length_nil, Nat.reduceAdd, and_true] at HC1; clear hF HC; have HC := HC1; have hF := Aside0.mk hF1; clear hF1 HC1))
  (with_reducible refine (H20.out _ hF.out.below).mono ?_)
  rintro e W1 ⟨h, v, S, rfl, hF0⟩
  have HF0 := Aside0.mk hF0
  have HBW := Aside0.mk hF.out.below
  have hF1 := hF.out.call hF0.below
  have hc := blk_cell (hF0.blk _ List.mem_cons_self).2 0
  clear hF0
  have HC1 := hF1.cells; simp only [Fr.Cells, List.length_cons, List.length_nil, Nat.reduceAdd, and_true] at HC1; clear hF HC; have HC := HC1; have hF := Aside0.mk hF1; clear hF1 HC1
  go_wp2_with (first | ((with_reducible refine gate_store rfl ?_); apply Fr.fr_store hF.out rfl rfl rfl; (case hp => rfl); (case hx => first | (go_simp; rfl) | rfl); (case hu => (simp only [Value.cells]; rfl)); (case hs => (repeat (first | exact Fr.Spot.here _ _ | apply Fr.Spot.there))); (case ht => kernel_rfl); (case h1 => simp [Value.oneCell']); (case hfit => simp); intro W hF1; simp only [Fr.patch, List.take_zero, List.nil_append, List.drop, List.append_nil, List.take, List.cons_append, List.length_cons, List.length_nil, Nat.reduceAdd] at hF1; have HC1 := hF1.cells; simp only [Fr.Cells, List.length_cons, List.length_nil, Nat.reduceAdd, and_true] at HC1; clear hF HC; have HC := HC1; have hF := Aside0.mk hF1; clear hF1 HC1) | ((first | (with_reducible refine Fr.gate_alloc rfl ?_) | (with_reducible refine Fr.gate_box rfl ?_)); apply Fr.fr_box hF.out rfl; (case hrun => first | (go_simp; done) | (go_simp; rfl)); intro g W hF1; have HC1 := hF1.cells; simp only [Fr.Cells, List.length_cons, List.length_nil, Nat.reduceAdd, and_true] at HC1; clear hF HC; have HC := HC1; have hF := Aside0.mk hF1; clear hF1 HC1))
  (with_reducible refine (push22_calls x ys v S h _ _ [(h, [v], 48)] (fun c => [(h, c, 48)]) (.here _ _) HF0.out (by have := HHL.out; have := HN.out; omega)).mono ?_)
  rintro e W2 ⟨rfl, g, cap, tl, hcap, hF9⟩
  rw [HHL.out] at hcap hF9
  have hc2 := blk_cell (hF9.blk _ (List.mem_cons_of_mem _ List.mem_cons_self)).2 0
  have hC := flat_C hF9 (.here _ _) (by have := HPL.out; have := HN.out; omega)
  rw [HPL.out] at hC
  have HFIN := Aside0.mk (And.intro hcap (And.intro hC (below_then HBW.out HBW.out.size hF9.below)))
  clear hF9 hC hc hcap
  go_wp2_with (first | ((with_reducible refine gate_store rfl ?_); apply Fr.fr_store hF.out rfl rfl rfl; (case hp => rfl); (case hx => first | (go_simp; rfl) | rfl); (case hu => (simp only [Value.cells]; rfl)); (case hs => (repeat (first | exact Fr.Spot.here _ _ | apply Fr.Spot.there))); (case ht => kernel_rfl); (case h1 => simp [Value.oneCell']); (case hfit => simp); intro W hF1; simp only [Fr.patch, List.take_zero, List.nil_append, List.drop, List.append_nil, List.take, List.cons_append, List.length_cons, List.length_nil, Nat.reduceAdd] at hF1; have HC1 := hF1.cells; simp only [Fr.Cells, List.length_cons, List.length_nil, Nat.reduceAdd, and_true] at HC1; clear hF HC; have HC := HC1; have hF := Aside0.mk hF1; clear hF1 HC1) | ((first | (with_reducible refine Fr.gate_alloc rfl ?_) | (with_reducible refine Fr.gate_box rfl ?_)); apply Fr.fr_box hF.out rfl; (case hrun => first | (go_simp; done) | (go_simp; rfl)); intro g W hF1; have HC1 := hF1.cells; simp only [Fr.Cells, List.length_cons, List.length_nil, Nat.reduceAdd, and_true] at HC1; clear hF HC; have HC := HC1; have hF := Aside0.mk hF1; clear hF1 HC1))
  refine bodyPost_ret ?_ rfl ⟨g, cap, rfl, HFIN.out⟩
  simp [results, Try.results11, go_sem]
theorem wpN_loop_once {P : Program} {Q : Exit → Act → World → Prop} {a : Act} {w : World} {c : Code} (h : wpN P c (Exit.then (fun _ _ => False) Q) a w) : wpN P (Code.loop c) Q a w :=
  wpN_loop (fun _ a' w' => a' = a ∧ w' = w) (fun n a' w' hj => by
    obtain ⟨rfl, rfl⟩ := hj
    refine wpN_mono h fun e a2 w2 hq => ?_
    cases e <;> first | exact (hq : False).elim | exact hq) (n := 0) ⟨rfl, rfl⟩
set_option maxHeartbeats 4000000 in
set_option maxRecDepth 100000 in
theorem drain7_none (A : Option Addr) (c : Nat) (now : Int) (w : World) (ht : tmB now = true) :
    Calls Try.prog 7 #[.slice A 0 c, .int .i64 now] w fun e w' => ∃ (A1 : Option Addr) (c1 : Nat), e = .returned (.tuple #[.slice A1 0 c1, .slice none 0 0, .int .i64 0]) ∧ Below w.heap.size w w' := by
  have H13 := Aside0.mk (fun W => right13_calls A c [] W ⟨rfl, by simp, fun h => absurd h (by simp)⟩)
  rw [show duesB [] = true from rfl, show ([] : List S32).length = 0 from rfl] at H13
  have H19 := Aside0.mk (fun W => tick_Right.calls now _ W (tick_is now))
  rw [ht] at H19
  have H20 := Aside0.mk (fun W => of20_none A c W)
  have hmk := mk64
  have hF := Aside0.mk (Fr.Frame.start w)
  have HC : True := trivial
  clear ht
  refine calls_of_wpN Try.func7 rfl ?_
  simp only [Try.ntmps7, List.size_toArray, List.length_cons, List.length_nil, Nat.reduceAdd, Nat.reduceSub, Array.replicate_succ, Array.replicate_zero, List.push_toArray, List.append_toArray, List.nil_append, List.cons_append]
  refine wpN_seq (wpN_of ?_)
  go_wp2_with fail
  show wpN _ _ _ _ _
  refine wpN_seq (wpN_of ?_)
  go_wp2_with fail
  (with_reducible refine (H13.out _).mono ?_); rintro e W ⟨rfl, hb⟩; have hF1 := hF.out.call hb; clear hb; have HC1 := hF1.cells; simp only [Fr.Cells, List.length_cons, List.length_nil, Nat.reduceAdd, and_true] at HC1; clear hF HC; have HC := HC1; have hF := Aside0.mk hF1; clear hF1 HC1
  go_wp2_with (first | ((with_reducible refine gate_store rfl ?_); apply Fr.fr_store hF.out rfl rfl rfl; (case hp => rfl); (case hx => first | (go_simp; rfl) | rfl); (case hu => (simp only [Value.cells]; rfl)); (case hs => (repeat (first | exact Fr.Spot.here _ _ | apply Fr.Spot.there))); (case ht => kernel_rfl); (case h1 => simp [Value.oneCell']); (case hfit => simp); intro W hF1; simp only [Fr.patch, List.take_zero, List.nil_append, List.drop, List.append_nil, List.take, List.cons_append, List.length_cons, List.length_nil, Nat.reduceAdd] at hF1; have HC1 := hF1.cells; simp only [Fr.Cells, List.length_cons, List.length_nil, Nat.reduceAdd, and_true] at HC1; clear hF HC; have HC := HC1; have hF := Aside0.mk hF1; clear hF1 HC1) | ((first | (with_reducible refine Fr.gate_alloc rfl ?_) | (with_reducible refine Fr.gate_box rfl ?_)); apply Fr.fr_box hF.out rfl; (case hrun => first | (go_simp; done) | (go_simp; rfl)); intro g W hF1; have HC1 := hF1.cells; simp only [Fr.Cells, List.length_cons, List.length_nil, Nat.reduceAdd, and_true] at HC1; clear hF HC; have HC := HC1; have hF := Aside0.mk hF1; clear hF1 HC1))
  (with_reducible refine (H19.out _).mono ?_); rintro e W ⟨rfl, hb⟩; have hF1 := hF.out.call hb.below; clear hb; have HC1 := hF1.cells; simp only [Fr.Cells, List.length_cons, List.length_nil, Nat.reduceAdd, and_true] at HC1; clear hF HC; have HC := HC1; have hF := Aside0.mk hF1; clear hF1 HC1
  go_wp2_with (first | ((with_reducible refine gate_store rfl ?_); apply Fr.fr_store hF.out rfl rfl rfl; (case hp => rfl); (case hx => first | (go_simp; rfl) | rfl); (case hu => (simp only [Value.cells]; rfl)); (case hs => (repeat (first | exact Fr.Spot.here _ _ | apply Fr.Spot.there))); (case ht => kernel_rfl); (case h1 => simp [Value.oneCell']); (case hfit => simp); intro W hF1; simp only [Fr.patch, List.take_zero, List.nil_append, List.drop, List.append_nil, List.take, List.cons_append, List.length_cons, List.length_nil, Nat.reduceAdd] at hF1; have HC1 := hF1.cells; simp only [Fr.Cells, List.length_cons, List.length_nil, Nat.reduceAdd, and_true] at HC1; clear hF HC; have HC := HC1; have hF := Aside0.mk hF1; clear hF1 HC1) | ((first | (with_reducible refine Fr.gate_alloc rfl ?_) | (with_reducible refine Fr.gate_box rfl ?_)); apply Fr.fr_box hF.out rfl; (case hrun => first | (go_simp; done) | (go_simp; rfl)); intro g W hF1; have HC1 := hF1.cells; simp only [Fr.Cells, List.length_cons, List.length_nil, Nat.reduceAdd, and_true] at HC1; clear hF HC; have HC := HC1; have hF := Aside0.mk hF1; clear hF1 HC1))
  show wpN _ _ _ _ _
  refine wpN_seq (wpN_of ?_)
  go_wp2_with fail
  (with_reducible refine (H20.out _).mono ?_)
  rintro e W1 ⟨h, v, S, rfl, hF1⟩
  obtain ⟨A1, c1, rfl, _, _⟩ := Kd.R_reads (hF1.rowAt (r := Fr.rowR (Kd.raw 2) 32 _ v (rowsOf []) S) List.mem_cons_self)
  rw [show (rowsOf []).length = 0 from rfl] at hF1
  have hF1 := frame_join hF.out hF1.noRows
  simp only [List.cons_append, List.nil_append, List.append_nil] at hF1
  go_wp2_with fail
  show wpN _ _ _ _ _
  refine wpN_seq (wpN_of ?_)
  go_wp2_with fail
  have hF2 := frame_mkchan hF1
  generalize W1.heap.size = ch at hF2 ⊢
  clear HC hF hF1
  have hF := Aside0.mk hF2
  have hc := blk_cell (hF2.blk _ List.mem_cons_self).2 0
  have hch := hF2.rowAt (r := chanR ch [] 0 0) List.mem_cons_self
  dsimp only [chanR] at hch
  clear hF2 H13 H19 H20 hmk
  show wpN _ _ _ _ _
  refine wpN_seq (wpN_block (wpN_loop_once (wpN_seq (wpN_of ?_))))
  go_wp2_with fail
  show wpN _ _ _ _ _
  refine wpN_seq (wpN_of ?_)
  go_wp2_with fail
  show wpN _ _ _ _ _
  refine wpN_block (wpN_loop_once ?_)
  refine wpN_block (wpN_seq (wpN_of ?_))
  go_wp2_with fail
  show wpN _ _ _ _ _
  refine wpN_seq ?_
  apply wpN_lone
  case h =>
    intro b hb k2 cs
    refine Conc.LoneTo.goes (n := 6) ?_
    s_reg
    s_stop
    refine Conc.LoneTo.step (Conc.step_lone_select_default (c := ch) (cap := 64) (s := 0) (r := 0) (tm := false) (z := .agg #[.int .i64 0, .int .i64 0]) (Conc.stepG_comm (cases := #[Conc.rcase ch (.agg #[.int .i64 0, .int .i64 0])]) (blocking := false) (shape := .select) (w' := _) rfl rfl hb ?hrun) hch) ?_
    case hrun => go_simp; first | rfl | (unfold Conc.rcase; rfl)
    rw [Frame.finish_at]
    walk_nrm
    refine Conc.LoneTo.goes (n := 6) ?_
    (s_in; refine Conc.goes_oper_k rfl rfl hb (fun K hK => ?_); go_simp; refine hK _ _ ⟨trivial, ?_⟩; clear hK K)
    (s_in; refine Conc.goes_oper_k rfl rfl hb (fun K hK => ?_); go_simp; refine hK _ _ ⟨trivial, ?_⟩; clear hK K)
    s_c Conc.stepG_region_end
    s_stop
    exact Conc.LoneTo.done ⟨rfl, rfl⟩
  case hq =>
    show wpN _ _ _ _ _
    refine wpN_of ?_
    go_wp2_with fail
    go_ret3
    exact ⟨⟨A1, c1, rfl⟩, hF.out.below⟩
theorem drain7_any (A : Option Addr) (c : Nat) (xs : List S32) (now : Int) (w : World) (hr : Kd.C k32 w A xs.length xs) (hd : duesB xs = true) (ht : tmB now = true) :
    Calls Try.prog 7 #[.slice A xs.length c, .int .i64 now] w fun e w' => ∃ (A1 : Option Addr) (c1 : Nat) (Ao : Option Addr) (co : Nat), e = .returned (.tuple #[.slice A1 (drainL xs.length (heapL xs) now).2.length c1, .slice Ao (drainL xs.length (heapL xs) now).1.length co, .int .i64 0]) ∧ (drainL xs.length (heapL xs) now).2.length ≤ c1 ∧ (drainL xs.length (heapL xs) now).1.length ≤ co ∧ Kd.C k32 w' A1 (drainL xs.length (heapL xs) now).2.length (drainL xs.length (heapL xs) now).2 ∧ Kd.C k32 w' Ao (drainL xs.length (heapL xs) now).1.length (drainL xs.length (heapL xs) now).1 ∧ Below w.heap.size w w' := by
  by_cases hp : 0 < xs.length
  · refine (drain7_ok A c xs now w hr hp hd ht).mono ?_
    rintro e w' ⟨g, c1, Ao, co, h⟩
    exact ⟨_, c1, Ao, co, h⟩
  · obtain rfl : xs = [] := List.eq_nil_of_length_eq_zero (by omega)
    refine (drain7_none A c now w ht).mono ?_
    rintro e w' ⟨A1, c1, rfl, hb⟩
    exact ⟨A1, c1, none, 0, rfl, Nat.zero_le _, Nat.zero_le _, ⟨rfl, by simp [drainL, heapL, initL], fun h => absurd h (by simp [drainL, heapL, initL])⟩, ⟨rfl, by simp [drainL], fun h => absurd h (by simp [drainL])⟩, hb⟩
theorem few6_calls (A : Option Addr) (n c : Nat) (w : World) (hc : n ≤ c) (hm : n ≤ 9223372036854775807) : Calls Try.prog 6 #[.slice A n c] w fun e w' => e = .returned (.slice A (min n 70) c) ∧ w = w' := by
  obtain ⟨m, hn⟩ : ∃ m, min n 70 = m := ⟨_, rfl⟩
  have h1 : (if (70 : Int) < (n : Int) then 70 else (n : Int)) = (m : Int) := by rw [← hn]; split <;> omega
  have h2 : m ≤ c := by omega
  rw [hn]
  clear hn hc
  go_enter Try.func6, Try.ntmps6
  go_wp2
  go_ret
  exact ⟨rfl, rfl⟩
theorem few_len (l : List S32) : (l.take 70).length = min l.length 70 := by rw [List.length_take]; omega
theorem few_C {w : World} {A : Option Addr} {l : List S32} (hr : Kd.C k32 w A l.length l) : Kd.C k32 w A (min l.length 70) (l.take 70) := by
  have h := Kd.C_take (m := min l.length 70) hr (by omega)
  have e : l.take (min l.length 70) = l.take 70 := by
    rcases Nat.le_total l.length 70 with h | h
    · rw [Nat.min_eq_left h, List.take_length, List.take_of_length_le h]
    · rw [Nat.min_eq_right h]
  rwa [e, few_len] at h
theorem sorted16_calls (A : Option Addr) (c : Nat) (l : List S32) (w : World) (hr : Kd.C k32 w A l.length l) (hc : l.length ≤ c) (hl : l.length ≤ 1000) :
    Calls Try.prog 16 #[.slice A l.length c] w fun e w' => ∃ A1 c1, e = .returned (.slice A1 l.length c1) ∧ l.length ≤ c1 ∧ Kd.C k32 w' A1 l.length (srt l) ∧ Below w.heap.size w w' := by
  obtain ⟨k, hk⟩ := sorted_ev l hl
  refine (foghornref09_Sorted.calls k A c l _ w hr hc (hk k (Nat.le_refl _))).mono ?_
  rintro e w' ⟨v, rfl, hR, hb⟩
  obtain ⟨A1, c1, rfl, hc1, hC⟩ := Kd.R_reads hR
  rw [srt_len] at hc1 hC ⊢
  exact ⟨A1, c1, rfl, hc1, hC, hb⟩
theorem same9_calls (A0 : Option Addr) (c0 : Nat) (A1 : Option Addr) (c1 : Nat) (l : List S32) (w : World) (n : Nat) (hn : l.length = n) (hr0 : Kd.C k32 w A0 n l) (hc0 : n ≤ c0) (hr1 : Kd.C k32 w A1 n l) (hc1 : n ≤ c1) (hl : n ≤ 1000) :
    Calls Try.prog 9 #[.slice A0 n c0, .slice A1 n c1] w fun e w' => e = .returned (.bool true) ∧ Below w.heap.size w w' := by
  subst hn
  obtain ⟨k, hk⟩ := same_ev l hl
  exact (foghornref09_Same.calls k A0 c0 l A1 c1 l true w hr0 hc0 hr1 hc1 (hk k (Nat.le_refl _))).mono fun e w' ⟨he, hb⟩ => ⟨he, hb.below⟩
set_option maxHeartbeats 2000000 in
theorem alike10_calls (A0 : Option Addr) (c0 : Nat) (l0 : List S32) (A1 : Option Addr) (c1 : Nat) (l1 : List S32) (w : World) (hr0 : Kd.C k32 w A0 l0.length l0) (hc0 : l0.length ≤ c0) (hr1 : Kd.C k32 w A1 l1.length l1) (hc1 : l1.length ≤ c1) (hs : srt (l0.take 70) = srt (l1.take 70)) :
    Calls Try.prog 10 #[.slice A0 l0.length c0, .slice A1 l1.length c1] w fun e w' => e = .returned (.bool true) ∧ Below w.heap.size w w' := by
  have hq : min l0.length 70 = min l1.length 70 := by rw [← few_len, ← few_len, ← srt_len, hs, srt_len]
  have hm0 := hr0.2.1
  have hm1 := hr1.2.1
  have F0 := Aside0.mk (few_C hr0)
  have F1 := Aside0.mk (few_C hr1)
  obtain ⟨n, hn⟩ : ∃ n, min l1.length 70 = n := ⟨_, rfl⟩
  have H60 := Aside0.mk (fun W => few6_calls A0 l0.length c0 W hc0 hm0)
  have H61 := Aside0.mk (fun W => few6_calls A1 l1.length c1 W hc1 hm1)
  have k0 := few_len l0
  have k1 := few_len l1
  rw [hq, hn] at F0 H60 k0
  rw [hn] at F1 H61 k1
  have hnl : n ≤ 70 := by omega
  have hnc0 : n ≤ c0 := by omega
  have hnc1 : n ≤ c1 := by omega
  have S0 := Aside0.mk (fun (W : World) (hb : Below w.heap.size w W) => sorted16_calls A0 c0 (l0.take 70) W (by rw [k0]; exact Kd.C_below F0.out hb) (by omega) (by omega))
  have S1 := Aside0.mk (fun (W : World) (hb : Below w.heap.size w W) => sorted16_calls A1 c1 (l1.take 70) W (by rw [k1]; exact Kd.C_below F1.out hb) (by omega) (by omega))
  rw [k0, hs] at S0
  rw [k1] at S1
  have ks : (srt (l1.take 70)).length = n := by rw [srt_len, k1]
  generalize srt (l1.take 70) = s at S0 S1 ks
  have KS := Aside0.mk ks
  have HNL := Aside0.mk hnl
  clear hr0 hr1 hs F0 F1 k0 k1 hq hn hnl hnc0 hnc1 ks hm0 hm1
  go_enter Try.func10, Try.ntmps10
  go_wp2_with fail
  (with_reducible refine (H60.out _).mono ?_)
  rintro e W ⟨rfl, rfl⟩
  go_wp2_with fail
  (with_reducible refine (S0.out _ (Below.refl _ _)).mono ?_)
  rintro e W1 ⟨B0, d0, rfl, hd0, hC0, hb1⟩
  have HD0 := Aside0.mk hd0
  have HC0 := Aside0.mk hC0
  have HB1 := Aside0.mk hb1
  clear hd0 hC0 hb1
  go_wp2_with fail
  (with_reducible refine (H61.out _).mono ?_)
  rintro e W ⟨rfl, rfl⟩
  go_wp2_with fail
  (with_reducible refine (S1.out _ HB1.out).mono ?_)
  rintro e W2 ⟨B1, d1, rfl, hd1, hC1, hb2⟩
  have HD1 := Aside0.mk hd1
  have HC1 := Aside0.mk hC1
  have HC0' := Aside0.mk (Kd.C_below HC0.out hb2)
  have HB2 := Aside0.mk (below_then HB1.out HB1.out.size hb2)
  clear hd1 hC1 hb2
  go_wp2_with fail
  (with_reducible refine (same9_calls B0 d0 B1 d1 s _ n KS.out HC0'.out HD0.out HC1.out HD1.out (by have := HNL.out; omega)).mono ?_)
  rintro e W3 ⟨rfl, hb3⟩
  have HB3 := Aside0.mk (below_then HB2.out HB2.out.size hb3)
  clear hb3
  go_wp2_with fail
  go_ret
  exact ⟨rfl, HB3.out⟩
theorem add0 (p : Addr) : (p.add 0).block = p.block ∧ (p.add 0).off = p.off := by unfold Addr.add; split <;> simp
def three : List S32 := [⟨5, 1⟩, ⟨3, 9⟩, ⟨3, 2⟩]
theorem three_is : drainL three.length (heapL three) 4 = ([⟨3, 2⟩, ⟨3, 9⟩], [⟨5, 1⟩]) := by rfl
set_option maxHeartbeats 2000000 in
theorem alive8_calls (w : World) : Calls Try.prog 8 #[] w fun e w' => e = .returned (.bool true) ∧ Below w.heap.size w w' := by
  have H7 := Aside0.mk (fun (A : Option Addr) (W : World) (hr : Kd.C k32 W A 3 three) => drain7_any A 3 three 4 W hr (by decide) (by decide))
  rw [three_is, show three.length = 3 from rfl] at H7
  go_enter Try.func8, Try.ntmps8
  go_wp2_with fail
  have hF := (Fr.Frame.start w).alloc (flat three) 32
  have hC3 : Kd.C k32 (w.alloc (.cells #[.int .i64 5, .int .i64 1, .int .i64 3, .int .i64 9, .int .i64 3, .int .i64 2] 32)) (some ⟨w.heap.size, 0, none⟩) 3 three := C_blk (hF.blk _ List.mem_cons_self).2 (K_flat _ three) (by decide)
  (with_reducible refine (H7.out _ _ hC3).mono ?_)
  rintro e W ⟨A1, c1, Ao, co, rfl, _, _, hC1, hC2, hb⟩
  have hB := Aside0.mk (below_then hF.below hF.below.size hb)
  obtain ⟨p, rfl, _, p1⟩ := at_T32 hC1 0 (by decide) (by decide)
  obtain ⟨q, rfl, _, q1⟩ := at_T32 hC2 0 (by decide) (by decide)
  replace p1 : W.cell? ⟨p.block, p.off + 1, none⟩ = some (.int .i64 1) := by simpa [rd_T32, add0 p] using p1
  replace q1 : W.cell? ⟨q.block, q.off + 1, none⟩ = some (.int .i64 2) := by simpa [rd_T32, add0 q] using q1
  clear hF hb hC1 hC2
  simp only [List.length_cons, List.length_nil]
  go_wp2_with fail
  go_ret
  exact ⟨rfl, hB.out⟩
section
variable {P : Program} {ops : Array Oper} {rest : List Oper} {o : Oper} {a : Act} {Q : Exit → Act → World → Prop} {w0 W : World} {bs : List Fr.Blk}
end
section
variable {P : Program} {ops : Array Oper} {o : Oper} {a : Act} {K : Act → World → Prop} {Q : Exit → Act → World → Prop} {E : Prop} {w0 W : World} {bs : List Fr.Blk} {rs : List Fr.Row}
theorem step_slice (hF : Fr.Frame w0 W bs rs) {cs : List Value} {t : TypeId} {n : Nat} (hw : Region.wanted o (yielded ops a.tmps) = true)
    (hrun : (execOp a.eval o).run P W = .ok (.value (.slice (some ⟨W.heap.size, 0, none⟩) n n)) (W.alloc (.cells cs.toArray t (0, 0))))
    (h : ∀ g w1, Fr.Frame w0 w1 ((g, cs, t) :: bs) rs → K (a.put o.dst (.slice (some ⟨g, 0, none⟩) n n)) w1) : if Region.wanted o (yielded ops a.tmps) = true then Oper.wp P o a W K Q else E := by
  rw [if_pos hw]
  unfold Oper.wp
  rw [hrun]
  exact h _ _ (hF.alloc cs t)
theorem step_slice0 (hF : Fr.Frame w0 W bs []) (hw : Region.wanted o (yielded ops a.tmps) = true)
    (hrun : (execOp a.eval o).run P W = .ok (.value (.slice (some ⟨W.heap.size, 0, none⟩) 0 0)) (W.alloc (.cells #[] 32 (0, 0))))
    (h : ∀ v w1 S, Fr.Frame w0 w1 bs [Fr.rowR k32 32 w0.heap.size v [] S] → K (a.put o.dst v) w1) : if Region.wanted o (yielded ops a.tmps) = true then Oper.wp P o a W K Q else E := by
  rw [if_pos hw]
  unfold Oper.wp
  rw [hrun]
  have hF1 := hF.call ((Below.refl _ W).alloc (Nat.le_refl _) (.cells #[] 32 (0, 0)))
  obtain ⟨S, hS⟩ := hF1.rowIn (R_empty k32 32 _ w0.heap.size W.heap.size (fun k => k = W.heap.size) hF.below.size (heap_alloc_new W _) rfl) (fun k hk b hb he => by have := hF.lt hb; omega)
  exact h _ _ _ hS
theorem step_rows {S : Nat → Prop} {v : Value} {xs ys : List S32} (s x : Operand) (t : TypeId) (z : Value) (bytes : Nat) {A : Option Addr} {m c : Nat}
    (hF : Fr.Frame w0 W bs [Fr.rowR k32 32 w0.heap.size v xs S]) (hw : Region.wanted o (yielded ops a.tmps) = true) (ho : o.op = .call { callee := .builtin .append, args := #[s, x], argTypes := #[t, t] })
    (ht : P.underlying t = some (.slice 32)) (hinfo : (P.info? 32).map (fun i => (i.zero, i.size, i.bytes)) = some (some z, k32.sz, bytes)) (hz : z.cells.size = k32.sz) (hb0 : 0 < bytes)
    (hs : a.eval s = v) (hx : a.eval x = .slice A m c) (hC : Kd.C k32 W A m ys) (hl : (xs.length + m) * bytes ≤ 140737488355328)
    (h : ∀ v1 w1 S1, Fr.Frame w0 w1 bs [Fr.rowR k32 32 w0.heap.size v1 (xs ++ ys) S1] → K (a.put o.dst v1) w1) : if Region.wanted o (yielded ops a.tmps) = true then Oper.wp P o a W K Q else E := by
  have hr := hF.row (Fr.rowR k32 32 w0.heap.size v xs S) List.mem_cons_self
  have hRS : k32.R 32 W w0.heap.size S v xs := hr.1
  have hdis : ∀ k, S k → ∀ b ∈ bs, k ≠ b.1 := fun k hk b hb he => hr.2.2 b hb (by subst he; exact hk)
  have key := Kd.R_append_rows_step (P := P) (Q := Q) (Kc := K) k32 (Rr := k32.K W) (w0 := w0) w0.heap.size hw s x t 32 z bytes ho ht hinfo hz (by decide) hb0 v xs ys A m c (fun k => ∀ b ∈ bs, k ≠ b.1) (fun _ => False) hs hx (Kd.R_mono hRS hdis) hC (fun x cs hk => by rw [k32_open hk]; exact k32_mkM _ _ _ x) (fun _ hk => hk.elim) (fun k hk b hb he => by have := hF.lt hb; omega) hF.below hF.below.size hl (fun v1 w1 ho1 hb1 hg1 hat1 => by
    have hF1 : Fr.Frame w0 w1 bs [] := ⟨hb1, fun b hb => ⟨(hF.blk b hb).1, blk_grown (hF.blk b hb).2 hg1 (fun e1 => hdis b.1 (hRS.1 b.1 e1.symm) b hb rfl)⟩, hF.nodup, by simp⟩
    obtain ⟨S1, hS1⟩ := hF1.rowIn ho1 (fun k hk => hk)
    exact h v1 w1 S1 hS1)
  rw [if_pos hw] at key ⊢
  exact key
end
theorem blk_C {w0 W : World} {bs : List Fr.Blk} {rs : List Fr.Row} {g : Nat} {x0 x1 : Int} (hF : Fr.Frame w0 W bs rs) (hm : (g, [.int .i64 x0, .int .i64 x1], 32) ∈ bs) : Kd.C k32 W (some ⟨g, 0, none⟩) 1 [⟨x0, x1⟩] :=
  C_blk (xs := [(⟨x0, x1⟩ : S32)]) (cs := [.int .i64 x0, .int .i64 x1]) (hF.blk _ hm).2 (K_flat W [⟨x0, x1⟩]) (by simp)
theorem cells2 {w0 W : World} {bs : List Fr.Blk} {rs : List Fr.Row} {g : Nat} {u v : Value} {t : TypeId} (hF : Fr.Frame w0 W bs rs) (hm : (g, [u, v], t) ∈ bs) : W.cell? ⟨g, 0, none⟩ = some u ∧ W.cell? ⟨g, 1, none⟩ = some v :=
  ⟨(blk_cell (hF.blk _ hm).2 0).trans rfl, (blk_cell (hF.blk _ hm).2 1).trans rfl⟩
theorem alike10_n (n0 n1 : Nat) (A0 : Option Addr) (c0 : Nat) (l0 : List S32) (A1 : Option Addr) (c1 : Nat) (l1 : List S32) (h0 : l0.length = n0) (h1 : l1.length = n1) (w : World) (hr0 : Kd.C k32 w A0 n0 l0) (hc0 : n0 ≤ c0) (hr1 : Kd.C k32 w A1 n1 l1) (hc1 : n1 ≤ c1) (hs : srt l0 = srt l1) (hl : n0 ≤ 70) :
    Calls Try.prog 10 #[.slice A0 n0 c0, .slice A1 n1 c1] w fun e w' => e = .returned (.bool true) ∧ Below w.heap.size w w' := by
  subst h0 h1
  have hq : l0.length = l1.length := by rw [← srt_len, hs, srt_len]
  exact alike10_calls A0 c0 l0 A1 c1 l1 w hr0 hc0 hr1 hc1 (by rw [List.take_of_length_le (by omega), List.take_of_length_le (by omega), hs])
theorem srt_self {l : List S32} (h : inOrder l) : srt l = l := (srt_of h (List.Perm.refl _)).symm
theorem sorted16_n (n : Nat) (A : Option Addr) (c : Nat) (l : List S32) (hn : l.length = n) (w : World) (hr : Kd.C k32 w A n l) (hc : n ≤ c) (hl : n ≤ 1000) :
    Calls Try.prog 16 #[.slice A n c] w fun e w' => ∃ A1 c1, e = .returned (.slice A1 n c1) ∧ n ≤ c1 ∧ Kd.C k32 w' A1 n (srt l) ∧ Below w.heap.size w w' := by
  subst hn
  exact sorted16_calls A c l w hr hc hl
theorem until17_n (n : Nat) (A : Option Addr) (c : Nat) (l : List S32) (now : Int) (hn : l.length = n) (w : World) (hr : Kd.C k32 w A n l) (hc : n ≤ c) (hl : n ≤ 1000) (a b : List S32) (ha : (srt l).filter (upTo now) = a) (hb : (srt l).filter (fun x => !upTo now x) = b) :
    Calls Try.prog 17 #[.slice A n c, .int .i64 now] w fun e w' => ∃ A1 c1 A2 c2, e = .returned (.tuple #[.slice A1 a.length c1, .slice A2 b.length c2]) ∧ a.length ≤ c1 ∧ b.length ≤ c2 ∧ Kd.C k32 w' A1 a.length a ∧ Kd.C k32 w' A2 b.length b ∧ Below w.heap.size w w' := by
  subst hn ha hb
  obtain ⟨k, hk⟩ := until_ev now l hl
  refine (foghornref09_Until.calls k A c l now _ _ w hr hc (hk k (Nat.le_refl _))).mono ?_
  rintro e w' ⟨v0, v1, rfl, hR0, hR1, hB⟩
  obtain ⟨A1, c1, rfl, h1, hC1⟩ := Kd.R_reads hR0
  obtain ⟨A2, c2, rfl, h2, hC2⟩ := Kd.R_reads hR1
  exact ⟨A1, c1, A2, c2, rfl, h1, h2, hC1, hC2, hB⟩
theorem right13_n (n : Nat) (A : Option Addr) (c : Nat) (l : List S32) (hn : l.length = n) (w : World) (hr : Kd.C k32 w A n l) : Calls Try.prog 13 #[.slice A n c] w fun e w' => e = .returned (.bool (duesB l)) ∧ Below w.heap.size w w' := by
  subst hn
  exact right13_calls A c l w hr
theorem right14_n (n : Nat) (A : Option Addr) (c : Nat) (l : List S32) (hn : l.length = n) (w : World) (hr : Kd.C k32 w A n l) (hc : n ≤ c) (hl : n ≤ 1000) : Calls Try.prog 14 #[.slice A n c] w fun e w' => e = .returned (.bool (duesB l)) ∧ Below w.heap.size w w' := by
  subst hn
  obtain ⟨k, hk⟩ := right_ev l hl
  exact foghornref09_Right.calls k A c l _ w hr hc (hk k (Nat.le_refl _))
theorem right15_n (t : Int) (w : World) : Calls Try.prog 15 #[.int .i64 t] w fun e w' => e = .returned (.bool (tmB t)) ∧ Below w.heap.size w w' :=
  (foghornref05_Right.calls t _ w (ref5_is t)).mono fun e w' ⟨he, hb⟩ => ⟨he, hb.below⟩
theorem drain7_n (n : Nat) (A : Option Addr) (c : Nat) (l : List S32) (now : Int) (hn : l.length = n) (w : World) (hr : Kd.C k32 w A n l) (hd : duesB l = true) (ht : tmB now = true) (a : List S32) (ha : (srt l).filter (upTo now) = a) :
    Calls Try.prog 7 #[.slice A n c, .int .i64 now] w fun e w' => ∃ A1 c1 Ao co k, srt k = (srt l).filter (fun x => !upTo now x) ∧ k.length ≤ n ∧ e = .returned (.tuple #[.slice A1 k.length c1, .slice Ao a.length co, .int .i64 0]) ∧ k.length ≤ c1 ∧ a.length ≤ co ∧ Kd.C k32 w' A1 k.length k ∧ Kd.C k32 w' Ao a.length a ∧ Below w.heap.size w w' := by
  subst hn
  obtain ⟨h1, h2, h3⟩ := drained l now
  refine (drain7_any A c l now w hr hd ht).mono ?_
  rw [h1, ha]
  rw [h1, ha] at h3
  rintro e w' ⟨A1, c1, Ao, co, h⟩
  exact ⟨A1, c1, Ao, co, _, h2, by omega, h⟩
def PopP (L : List S32) (m : Nat) (W : World) (Bb : Option Addr) (nb cb : Nat) (x0 x1 eb : Int) : Prop :=
  (m = 0 ∧ nb = 0 ∧ x0 = 0 ∧ x1 = 0 ∧ eb = 4) ∨ ∃ (n : Nat) (B ss : List S32), m = n + 1 ∧ nb = n ∧ eb = 0 ∧ n ≤ cb ∧ Kd.C k32 W Bb n B ∧ B.length = n ∧ ss.length = n ∧ srt B = srt ss ∧ srt L = ⟨x0, x1⟩ :: ss
theorem PopP.mono {L : List S32} {m : Nat} {W W' : World} {Bb : Option Addr} {nb cb : Nat} {x0 x1 eb : Int} (h : PopP L m W Bb nb cb x0 x1 eb) (hb : Below W.heap.size W W') : PopP L m W' Bb nb cb x0 x1 eb := by
  rcases h with h | ⟨n, B, ss, h1, h2, h3, h4, h5, h6⟩
  · exact .inl h
  · exact .inr ⟨n, B, ss, h1, h2, h3, h4, Kd.C_below h5 hb, h6⟩
theorem pop12_any (m : Nat) (A : Option Addr) (c : Nat) (L : List S32) (hm : L.length = m) (w : World) (hr : Kd.C k32 w A m L) (hd : duesB L = true) :
    Calls Try.prog 12 #[.slice A m c] w fun e w' => ∃ Bb nb cb x0 x1 eb, e = .returned (.tuple #[.slice Bb nb cb, .agg #[.int .i64 x0, .int .i64 x1], .int .i64 eb]) ∧ PopP L m w' Bb nb cb x0 x1 eb ∧ Below w.heap.size w w' := by
  subst hm
  by_cases h0 : L.length = 0
  · refine (pop12_none A c L w hr h0).mono ?_
    rintro e w' ⟨rfl, hb⟩
    exact ⟨_, _, _, _, _, _, rfl, .inl ⟨h0, rfl, rfl, rfl, rfl⟩, hb⟩
  · obtain ⟨n, hn⟩ : ∃ n, L.length = n + 1 := ⟨L.length - 1, by omega⟩
    refine (pop12_ok A c n L w hr hn hd).mono ?_
    rintro e w' ⟨g, cap, rfl, hc, hC, hb⟩
    obtain ⟨ss, hs1, hs2⟩ := popped L n hn
    have hbl : ((popL (heapL L)).take n).length = n := by rw [List.length_take, popL_len, heapL_len]; omega
    exact ⟨_, _, _, _, _, _, rfl, .inr ⟨n, _, ss, hn, rfl, rfl, hc, hC, hbl, by rw [← hs2, srt_len, hbl], by rw [← hs2]; exact (srt_self (srt_order _)).symm, hs1⟩, hb⟩
def DrainP (L : List S32) (m : Nat) (now : Int) (W : World) (A1 : Option Addr) (n1 c1 : Nat) (Ao : Option Addr) (no co : Nat) (g : Int) : Prop :=
  (tmB now = false ∧ n1 = 0 ∧ no = 0 ∧ g = 1) ∨ (tmB now = true ∧ g = 0 ∧ ∃ k a : List S32, k.length = n1 ∧ a.length = no ∧ n1 ≤ m ∧ no ≤ m ∧ srt k = (srt L).filter (fun x => !upTo now x) ∧ (srt L).filter (upTo now) = a ∧ n1 ≤ c1 ∧ no ≤ co ∧ Kd.C k32 W A1 n1 k ∧ Kd.C k32 W Ao no a)
theorem DrainP.mono {L : List S32} {m : Nat} {now : Int} {W W' : World} {A1 : Option Addr} {n1 c1 : Nat} {Ao : Option Addr} {no co : Nat} {g : Int} (h : DrainP L m now W A1 n1 c1 Ao no co g) (hb : Below W.heap.size W W') : DrainP L m now W' A1 n1 c1 Ao no co g := by
  rcases h with h | ⟨h0, h1, k, a, h2, h3, h4, h5, h6, h7, h8, h9, h10, h11⟩
  · exact .inl h
  · exact .inr ⟨h0, h1, k, a, h2, h3, h4, h5, h6, h7, h8, h9, Kd.C_below h10 hb, Kd.C_below h11 hb⟩
theorem drain7_all (m : Nat) (A : Option Addr) (c : Nat) (L : List S32) (now : Int) (hm : L.length = m) (w : World) (hr : Kd.C k32 w A m L) (hd : duesB L = true) :
    Calls Try.prog 7 #[.slice A m c, .int .i64 now] w fun e w' => ∃ A1 n1 c1 Ao no co g, e = .returned (.tuple #[.slice A1 n1 c1, .slice Ao no co, .int .i64 g]) ∧ DrainP L m now w' A1 n1 c1 Ao no co g ∧ Below w.heap.size w w' := by
  subst hm
  cases ht : tmB now with
  | false =>
    refine (drain7_bad A c L now w hr (by rw [ht]; simp)).mono ?_
    rintro e w' ⟨rfl, hb⟩
    exact ⟨_, _, _, _, _, _, _, rfl, .inl ⟨ht, rfl, rfl, rfl⟩, hb⟩
  | true =>
    refine (drain7_n L.length A c L now rfl w hr hd ht _ rfl).mono ?_
    rintro e w' ⟨A1, c1, Ao, co, k, h1, h2, rfl, h3, h4, h5, h6, hb⟩
    have h7 := List.length_filter_le (upTo now) (srt L)
    rw [srt_len] at h7
    exact ⟨_, _, _, _, _, _, _, rfl, .inr ⟨ht, rfl, k, _, rfl, rfl, h2, h7, h1, rfl, h3, h4, h5, h6⟩, hb⟩
end Go.Proofs.Ytlkaebnigmfphaa.G
