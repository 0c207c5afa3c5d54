/- Contracts of functions of the given program, and what they come to, for any arguments. No condition beyond each theorem's own premises. -/
import Derived.Test.YtlkaebnigmfphaaXDueDrainsM2
namespace Go.Proofs.Ytlkaebnigmfphaa.G
open Go.RowKit Go.Proofs.YtlkaebnigmfphaaW.PrintWords Go.Proofs.YtlkaebnigmfphaaW.PrintLast Go.Proofs.YtlkaebnigmfphaaW.PrintMore
attribute [local go_sem] max2_int min2_int max_two min_two max_three min_three max_four min_four
set_option linter.unusedVariables false
set_option linter.unusedSimpArgs false
def chanR (ch : Nat) (buf : List Value) (s r : Nat) : Fr.Row := ⟨fun k => k = ch, fun w => w.heap[ch]? = some (.chan 64 buf.toArray false s r false), fun _ _ _ hb h => (hb ch rfl).trans h⟩
theorem frame_mkchan {w0 W : World} {bs : List Fr.Blk} (hF : Fr.Frame w0 W bs []) : Fr.Frame w0 (W.alloc (.chan 64 #[] false 0 0 false)) bs [chanR W.heap.size [] 0 0] := by
  have hF1 := hF.call ((Below.refl _ W).alloc (Nat.le_refl _) (.chan 64 #[] false 0 0 false))
  have hn := heap_alloc_new W (.chan 64 #[] false 0 0 false)
  exact hF1.add (chanR W.heap.size [] 0 0) hn (fun k hk => by cases hk; exact (Array.getElem?_eq_some_iff.1 hn).1) (fun b hb hk => by have := hF.lt hb; have hk' : b.1 = W.heap.size := hk; omega)
theorem frame_setchan {w0 W : World} {bs : List Fr.Blk} {ch s r s' r' : Nat} {buf buf' : List Value} (h0 : w0.heap.size ≤ ch) (hF : Fr.Frame w0 W bs [chanR ch buf s r]) : Fr.Frame w0 (W.setChan ch 64 buf'.toArray false s' r' false) bs [chanR ch buf' s' r'] := by
  have hr := hF.row (chanR ch buf s r) List.mem_cons_self
  have hlt : ch < W.heap.size := hr.2.1 ch rfl
  have hne : ∀ b ∈ bs, b.1 ≠ ch := fun b hb e => hr.2.2 b hb e
  have hset := Conc.heap_setChan W ch 64 buf'.toArray false s' r' false hlt
  have hF1 : Fr.Frame w0 (W.setChan ch 64 buf'.toArray false s' r' false) bs [] := ⟨Conc.below_setChan hF.below h0 _ _ _ _ _ _, fun b hb => ⟨(hF.blk b hb).1, by
    have h1 := (hF.blk b hb).2
    simp only [World.setChan]
    rw [Array.getElem?_setIfInBounds_ne (fun e => hne b hb e.symm)]
    exact h1⟩, hF.nodup, by simp⟩
  exact hF1.add (chanR ch buf' s' r') hset (fun k hk => by cases hk; rw [Conc.size_setChan]; exact hlt) (fun b hb hk => hne b hb hk)
set_option maxHeartbeats 2000000 in
set_option maxRecDepth 100000 in
theorem drain7_bad (A : Option Addr) (c : Nat) (xs : List S32) (now : Int) (w : World) (hr : Kd.C k32 w A xs.length xs) (hb : (duesB xs && tmB now) = false) :
    Calls Try.prog 7 #[.slice A xs.length c, .int .i64 now] w fun e w' => e = .returned (.tuple #[.slice none 0 0, .slice none 0 0, .int .i64 1]) ∧ Below w.heap.size w w' := by
  have H13 := Aside0.mk (fun W (hb : Below w.heap.size w W) => right13_calls A c xs W (Kd.C_below hr hb))
  have H19 := Aside0.mk (fun W => tick_Right.calls now _ W (tick_is now))
  clear hr
  have hF := Aside0.mk (Fr.Frame.start w)
  have HC : True := trivial
  generalize duesB xs = u at hb H13
  generalize tmB now = v at hb H19
  cases u with
  | false =>
    clear hb
    go_enter Try.func7, Try.ntmps7
    go_wp2_with (first | ((with_reducible refine gate_store rfl ?_); apply Fr.fr_store hF.out rfl rfl rfl; (case hp => rfl); (case hx => first | (go_simp; rfl) | rfl); (case hu => (simp only [Value.cells]; rfl)); (case hs => (repeat (first | exact Fr.Spot.here _ _ | apply Fr.Spot.there))); (case ht => kernel_rfl); (case h1 => simp [Value.oneCell']); (case hfit => simp); intro W hF1; simp only [Fr.patch, List.take_zero, List.nil_append, List.drop, List.append_nil, List.take, List.cons_append, List.length_cons, List.length_nil, Nat.reduceAdd] at hF1; have HC1 := hF1.cells; simp only [Fr.Cells, List.length_cons, List.length_nil, Nat.reduceAdd, and_true] at HC1; clear hF HC; have HC := HC1; have hF := Aside0.mk hF1; clear hF1 HC1) | ((first | (with_reducible refine Fr.gate_alloc rfl ?_) | (with_reducible refine Fr.gate_box rfl ?_)); apply Fr.fr_box hF.out rfl; (case hrun => first | (go_simp; done) | (go_simp; rfl)); intro g W hF1; have HC1 := hF1.cells; simp only [Fr.Cells, List.length_cons, List.length_nil, Nat.reduceAdd, and_true] at HC1; clear hF HC; have HC := HC1; have hF := Aside0.mk hF1; clear hF1 HC1))
    (with_reducible refine (H13.out _ hF.out.below).mono ?_); rintro e W ⟨rfl, hb⟩; have hF1 := hF.out.call hb; clear hb; have HC1 := hF1.cells; simp only [Fr.Cells, List.length_cons, List.length_nil, Nat.reduceAdd, and_true] at HC1; clear hF HC; have HC := HC1; have hF := Aside0.mk hF1; clear hF1 HC1
    go_wp2_with (first | ((with_reducible refine gate_store rfl ?_); apply Fr.fr_store hF.out rfl rfl rfl; (case hp => rfl); (case hx => first | (go_simp; rfl) | rfl); (case hu => (simp only [Value.cells]; rfl)); (case hs => (repeat (first | exact Fr.Spot.here _ _ | apply Fr.Spot.there))); (case ht => kernel_rfl); (case h1 => simp [Value.oneCell']); (case hfit => simp); intro W hF1; simp only [Fr.patch, List.take_zero, List.nil_append, List.drop, List.append_nil, List.take, List.cons_append, List.length_cons, List.length_nil, Nat.reduceAdd] at hF1; have HC1 := hF1.cells; simp only [Fr.Cells, List.length_cons, List.length_nil, Nat.reduceAdd, and_true] at HC1; clear hF HC; have HC := HC1; have hF := Aside0.mk hF1; clear hF1 HC1) | ((first | (with_reducible refine Fr.gate_alloc rfl ?_) | (with_reducible refine Fr.gate_box rfl ?_)); apply Fr.fr_box hF.out rfl; (case hrun => first | (go_simp; done) | (go_simp; rfl)); intro g W hF1; have HC1 := hF1.cells; simp only [Fr.Cells, List.length_cons, List.length_nil, Nat.reduceAdd, and_true] at HC1; clear hF HC; have HC := HC1; have hF := Aside0.mk hF1; clear hF1 HC1))
    go_ret3
    exact ⟨rfl, hF.out.below⟩
  | true =>
    obtain rfl : v = false := by simpa using hb
    clear hb
    go_enter Try.func7, Try.ntmps7
    go_wp2_with (first | ((with_reducible refine gate_store rfl ?_); apply Fr.fr_store hF.out rfl rfl rfl; (case hp => rfl); (case hx => first | (go_simp; rfl) | rfl); (case hu => (simp only [Value.cells]; rfl)); (case hs => (repeat (first | exact Fr.Spot.here _ _ | apply Fr.Spot.there))); (case ht => kernel_rfl); (case h1 => simp [Value.oneCell']); (case hfit => simp); intro W hF1; simp only [Fr.patch, List.take_zero, List.nil_append, List.drop, List.append_nil, List.take, List.cons_append, List.length_cons, List.length_nil, Nat.reduceAdd] at hF1; have HC1 := hF1.cells; simp only [Fr.Cells, List.length_cons, List.length_nil, Nat.reduceAdd, and_true] at HC1; clear hF HC; have HC := HC1; have hF := Aside0.mk hF1; clear hF1 HC1) | ((first | (with_reducible refine Fr.gate_alloc rfl ?_) | (with_reducible refine Fr.gate_box rfl ?_)); apply Fr.fr_box hF.out rfl; (case hrun => first | (go_simp; done) | (go_simp; rfl)); intro g W hF1; have HC1 := hF1.cells; simp only [Fr.Cells, List.length_cons, List.length_nil, Nat.reduceAdd, and_true] at HC1; clear hF HC; have HC := HC1; have hF := Aside0.mk hF1; clear hF1 HC1))
    (with_reducible refine (H13.out _ hF.out.below).mono ?_); rintro e W ⟨rfl, hb⟩; have hF1 := hF.out.call hb; clear hb; have HC1 := hF1.cells; simp only [Fr.Cells, List.length_cons, List.length_nil, Nat.reduceAdd, and_true] at HC1; clear hF HC; have HC := HC1; have hF := Aside0.mk hF1; clear hF1 HC1
    go_wp2_with (first | ((with_reducible refine gate_store rfl ?_); apply Fr.fr_store hF.out rfl rfl rfl; (case hp => rfl); (case hx => first | (go_simp; rfl) | rfl); (case hu => (simp only [Value.cells]; rfl)); (case hs => (repeat (first | exact Fr.Spot.here _ _ | apply Fr.Spot.there))); (case ht => kernel_rfl); (case h1 => simp [Value.oneCell']); (case hfit => simp); intro W hF1; simp only [Fr.patch, List.take_zero, List.nil_append, List.drop, List.append_nil, List.take, List.cons_append, List.length_cons, List.length_nil, Nat.reduceAdd] at hF1; have HC1 := hF1.cells; simp only [Fr.Cells, List.length_cons, List.length_nil, Nat.reduceAdd, and_true] at HC1; clear hF HC; have HC := HC1; have hF := Aside0.mk hF1; clear hF1 HC1) | ((first | (with_reducible refine Fr.gate_alloc rfl ?_) | (with_reducible refine Fr.gate_box rfl ?_)); apply Fr.fr_box hF.out rfl; (case hrun => first | (go_simp; done) | (go_simp; rfl)); intro g W hF1; have HC1 := hF1.cells; simp only [Fr.Cells, List.length_cons, List.length_nil, Nat.reduceAdd, and_true] at HC1; clear hF HC; have HC := HC1; have hF := Aside0.mk hF1; clear hF1 HC1))
    (with_reducible refine (H19.out _).mono ?_); rintro e W ⟨rfl, hb⟩; have hF1 := hF.out.call hb.below; clear hb; have HC1 := hF1.cells; simp only [Fr.Cells, List.length_cons, List.length_nil, Nat.reduceAdd, and_true] at HC1; clear hF HC; have HC := HC1; have hF := Aside0.mk hF1; clear hF1 HC1
    go_wp2_with (first | ((with_reducible refine gate_store rfl ?_); apply Fr.fr_store hF.out rfl rfl rfl; (case hp => rfl); (case hx => first | (go_simp; rfl) | rfl); (case hu => (simp only [Value.cells]; rfl)); (case hs => (repeat (first | exact Fr.Spot.here _ _ | apply Fr.Spot.there))); (case ht => kernel_rfl); (case h1 => simp [Value.oneCell']); (case hfit => simp); intro W hF1; simp only [Fr.patch, List.take_zero, List.nil_append, List.drop, List.append_nil, List.take, List.cons_append, List.length_cons, List.length_nil, Nat.reduceAdd] at hF1; have HC1 := hF1.cells; simp only [Fr.Cells, List.length_cons, List.length_nil, Nat.reduceAdd, and_true] at HC1; clear hF HC; have HC := HC1; have hF := Aside0.mk hF1; clear hF1 HC1) | ((first | (with_reducible refine Fr.gate_alloc rfl ?_) | (with_reducible refine Fr.gate_box rfl ?_)); apply Fr.fr_box hF.out rfl; (case hrun => first | (go_simp; done) | (go_simp; rfl)); intro g W hF1; have HC1 := hF1.cells; simp only [Fr.Cells, List.length_cons, List.length_nil, Nat.reduceAdd, and_true] at HC1; clear hF HC; have HC := HC1; have hF := Aside0.mk hF1; clear hF1 HC1))
    go_ret3
    exact ⟨rfl, hF.out.below⟩
section
variable {P : Program} {ops : Array Oper} {rest : List Oper} {o : Oper} {a : Act} {Q : Exit → Act → World → Prop} {w0 W : World} {bs : List Fr.Blk}
theorem fr_appendC {S : Nat → Prop} {v : Value} {xs : List S32} (s x : Operand) (z : Value) (bytes : Nat) (t : TypeId) {ch s0 r0 g5 : Nat} {buf : List Value} {p : S32}
    (hF : Fr.Frame w0 W bs [Fr.rowR k32 32 w0.heap.size v xs S, chanR ch buf s0 r0]) (hm : (g5, [.int .i64 p.f0, .int .i64 p.f1], 32) ∈ bs) (hgd : o.guard = none) (ho : o.op = .call { callee := .builtin .append, args := #[s, x], argTypes := #[t, t] })
    (ht : P.underlying t = some (.slice 32)) (hinfo : (P.info? 32).map (fun i => (i.zero, i.size, i.bytes)) = some (some z, k32.sz, bytes)) (hz : z.cells.size = k32.sz) (hb0 : 0 < bytes)
    (hs : a.eval s = v) (hx : a.eval x = .slice (some ⟨g5, 0, none⟩) 1 1) (hl : (xs.length + 1) * bytes ≤ 140737488355328)
    (h : ∀ v1 w1 S1, Fr.Frame w0 w1 bs [Fr.rowR k32 32 w0.heap.size v1 (xs ++ [p]) S1, chanR ch buf s0 r0] → wpList P ops Q rest (a.put o.dst v1) w1) : wpList P ops Q (o :: rest) a W := by
  have hr := hF.row (Fr.rowR k32 32 w0.heap.size v xs S) List.mem_cons_self
  have hc := hF.row (chanR ch buf s0 r0) (List.mem_cons_of_mem _ List.mem_cons_self)
  have hcc : W.heap[ch]? = some (.chan 64 buf.toArray false s0 r0 false) := hc.1
  have hRS : k32.R 32 W w0.heap.size S v xs := hr.1
  have hown : ∀ k, v.ownBlock = some k → (∀ b ∈ bs, k ≠ b.1) ∧ k ≠ ch := fun k hk => by
    refine ⟨fun b hb he => hr.2.2 b hb (by subst he; exact hRS.1 _ hk), fun he => ?_⟩
    obtain ⟨_, inner, ⟨_, h3⟩, _⟩ := hRS
    rcases h3 with ⟨h4, _⟩ | ⟨g, cap, cur, rfl, _, hh, _⟩
    · rw [h4] at hk; simp [Value.ownBlock] at hk
    · have : g = k := by simpa [Value.ownBlock] using hk
      rw [this, he, hcc] at hh
      exact absurd hh (by simp)
  have HO : k32.R 32 W w0.heap.size (fun k => (∀ b ∈ bs, k ≠ b.1) ∧ k ≠ ch) v xs := by
    obtain ⟨_, inner, h2, h4⟩ := hRS
    exact ⟨hown, inner, h2, h4.imp_ (fun q c hq => by rw [k32_openM hq]; exact k32_mkM _ _ _ q)⟩
  have hg5 := fun i => blk_cell (hF.blk _ hm).2 i
  obtain ⟨v1, w1, hrun, h1, _, hg⟩ := Fr.R_append_keep (P := P) k32 w0.heap.size t o.type 32 z bytes ht hinfo hz (by decide) hb0 HO (ps := [p]) (cs := [.int .i64 p.f0, .int .i64 p.f1]) (fun w ok => Reps.c2 (k32_mkM w _ ok p) (Reps.none _ _)) (by simp [Value.oneCell']) ⟨g5, 0, none⟩ 1 1 rfl (fun j u hj => by
    rw [show (⟨g5, 0, none⟩ : Addr).add j = ⟨g5, j, none⟩ by unfold Addr.add; split <;> simp_all, hg5]
    simpa using hj) hl hF.below.size (fun k hk => ⟨fun b hb he => by have := hF.lt hb; omega, fun he => by have := (Array.getElem?_eq_some_iff.1 hcc).1; omega⟩)
  have hF0 : Fr.Frame w0 W bs [] := hF.noRows
  have hF1 : Fr.Frame w0 w1 bs [] := ⟨hF0.below.grown hg hF.below.size (fun k hk => Kd.R_base hRS k hk), fun b hb => ⟨(hF0.blk b hb).1, blk_grown (hF0.blk b hb).2 hg (fun e1 => (hown b.1 e1.symm).1 b hb rfl)⟩, hF0.nodup, by simp⟩
  have hclt := (Array.getElem?_eq_some_iff.1 hcc).1
  have hc1 : w1.heap[ch]? = some (.chan 64 buf.toArray false s0 r0 false) := (hg.block ch hclt (fun e => (hown ch e.symm).2 rfl)).trans hcc
  have hF2 := hF1.add (chanR ch buf s0 r0) hc1 (fun k hk => by cases hk; exact (Array.getElem?_eq_some_iff.1 hc1).1) (fun b hb hk => hc.2.2 b hb hk)
  obtain ⟨S1, hS1⟩ := hF2.rowIn h1 (fun k hk => hk.1)
  refine wpList_plain hgd fun K hK => ?_
  unfold Oper.wp execOp
  simp only [ho, resolve, invoke, builtin, Sem.run_bind, Sem.run_pure, Result.andThen_ok, List.map_toArray, List.map_cons, List.map_nil, hs, hx, hrun]
  exact hK _ _ (h v1 w1 S1 hS1)
end
theorem frame_setchan2 {w0 W : World} {bs : List Fr.Blk} {ch s r s' r' : Nat} {buf buf' : List Value} {S : Nat → Prop} {v : Value} {xs : List S32} (h0 : w0.heap.size ≤ ch) (hF : Fr.Frame w0 W bs [Fr.rowR k32 32 w0.heap.size v xs S, chanR ch buf s r]) : ∃ S', Fr.Frame w0 (W.setChan ch 64 buf'.toArray false s' r' false) bs [Fr.rowR k32 32 w0.heap.size v xs S', chanR ch buf' s' r'] := by
  have hr := hF.row (Fr.rowR k32 32 w0.heap.size v xs S) List.mem_cons_self
  have hc := hF.row (chanR ch buf s r) (List.mem_cons_of_mem _ List.mem_cons_self)
  have hcc : W.heap[ch]? = some (.chan 64 buf.toArray false s r false) := hc.1
  have hRS : k32.R 32 W w0.heap.size S v xs := hr.1
  have hown : ∀ k, v.ownBlock = some k → (∀ b ∈ bs, k ≠ b.1) ∧ k ≠ ch := fun k hk => by
    refine ⟨fun b hb he => hr.2.2 b hb (by subst he; exact hRS.1 _ hk), fun he => ?_⟩
    obtain ⟨_, inner, ⟨_, h3⟩, _⟩ := hRS
    rcases h3 with ⟨h4, _⟩ | ⟨g, cap, cur, rfl, _, hh, _⟩
    · rw [h4] at hk; simp [Value.ownBlock] at hk
    · have : g = k := by simpa [Value.ownBlock] using hk
      rw [this, he, hcc] at hh
      exact absurd hh (by simp)
  have HO : k32.R 32 W w0.heap.size (fun k => (∀ b ∈ bs, k ≠ b.1) ∧ k ≠ ch) v xs := by
    obtain ⟨_, inner, h2, h4⟩ := hRS
    exact ⟨hown, inner, h2, h4.imp_ (fun q c hq => by rw [k32_openM hq]; exact k32_mkM _ _ _ q)⟩
  have hFc : Fr.Frame w0 W bs [chanR ch buf s r] := hF.noRows.add (chanR ch buf s r) hcc (fun k hk => by cases hk; exact (Array.getElem?_eq_some_iff.1 hcc).1) (fun b hb hk => hc.2.2 b hb hk)
  have hF2 := frame_setchan (buf' := buf') (s' := s') (r' := r') h0 hFc
  have hR2 : k32.R 32 (W.setChan ch 64 buf'.toArray false s' r' false) w0.heap.size (fun k => (∀ b ∈ bs, k ≠ b.1) ∧ k ≠ ch) v xs :=
    (Fr.rowR k32 32 w0.heap.size v xs (fun k => (∀ b ∈ bs, k ≠ b.1) ∧ k ≠ ch)).dep W _ (by rw [Conc.size_setChan]; exact Nat.le_refl _) (fun k hk => by
      have hk2 : (∀ b ∈ bs, k ≠ b.1) ∧ k ≠ ch := hk
      simp only [World.setChan]
      rw [Array.getElem?_setIfInBounds_ne (fun e => hk2.2 e.symm)]) HO
  exact hF2.rowIn hR2 (fun k hk => hk.1)
section
variable {P : Program} {ops : Array Oper} {rest : List Oper} {o : Oper} {a : Act} {Q : Exit → Act → World → Prop} {w0 W : World} {bs : List Fr.Blk} {rs : List Fr.Row}
theorem fr_slice (hF : Fr.Frame w0 W bs rs) (hgd : o.guard = none) {cs : List Value} {t : TypeId} {n : Nat}
    (hrun : (execOp a.eval o).run P W = .ok (.value (.slice (some ⟨W.heap.size, 0, none⟩) n n)) (W.alloc (.cells cs.toArray t (0, 0))))
    (h : ∀ g w1, Fr.Frame w0 w1 ((g, cs, t) :: bs) rs → wpList P ops Q rest (a.put o.dst (.slice (some ⟨g, 0, none⟩) n n)) w1) : wpList P ops Q (o :: rest) a W :=
  Kd.event_run hgd hrun (h _ _ (hF.alloc cs t))
theorem gate_bslice {t : TypeId} {n : Nat} {ps : Array (Nat × Operand)} (_ho : o.op = .buildSlice t n ps) (h : wpList P ops Q (o :: rest) a W) : wpList P ops Q (o :: rest) a W := h
end
def drainL : Nat → List S32 → Int → List S32 × List S32
  | 0, zs, _ => ([], zs)
  | k + 1, zs, now => if 0 < zs.length ∧ (zs.getD 0 z32).f0 ≤ now then (((popL zs).getD (zs.length - 1) z32) :: (drainL k ((popL zs).take (zs.length - 1)) now).1, (drainL k ((popL zs).take (zs.length - 1)) now).2) else ([], zs)
def dueV (x : S32) : Value := .agg #[.int .i64 x.f0, .int .i64 x.f1]
theorem bytes32 : ∃ i, Try.prog.info? 32 = some i ∧ i.bytes = 16 := by
  have h : (Try.prog.info? 32).map (·.bytes) = some 16 := by kernel_rfl
  obtain ⟨i, hi, hb⟩ := Option.map_eq_some_iff.1 h
  exact ⟨i, hi, hb⟩
theorem mk64 (w : World) : (Instr.makeChan 47 (.int .i64 64)).run Try.prog w = .ok (.chan (some w.heap.size)) (w.alloc (.chan 64 #[] false 0 0 false)) := by
  obtain ⟨i, hi, hb⟩ := bytes32
  simpa using Conc.run_makeChan (P := Try.prog) (w := w) Try.underlying47 hi .i64 64 (by omega) (by rw [hb]; omega)
def drK (A : Option Addr) (nx c : Nat) (now : Int) (h ch g cap : Nat) (R : List S32 × List S32) (w : World) (k : Nat) (a : Act) (W : World) : Prop := ∃ (u9 u10  u12 u13 u14 u15 u16 u17 u18 u19 u20 u21 u22 u23 u24 u25 u26 u27 u28 u29 u30 u31 u32 u33 u34 u35 u36 u37 u38 u39 u40 u41 u42 u43 u44 u45 u46 u47 u48 u49 u50 u51 u52 u53 u54 u55 u56 u57 u58 u59 u60 v : Value) (zs : List S32) (tl : List Value) (ys qs : List S32) (s0 r0 : Nat) (S : Nat → Prop), a = ⟨#[.slice A nx c, .int .i64 now, undef, undef, .slice none 0 0, .slice none 0 0, .int .i64 0, .pointer (some ⟨h, 0, none⟩), .chan (some ch), u9, u10, v, u12, u13, u14, u15, u16, u17, u18, u19, u20, u21, u22, u23, u24, u25, u26, u27, u28, u29, u30, u31, u32, u33, u34, u35, u36, u37, u38, u39, u40, u41, u42, u43, u44, u45, u46, u47, u48, u49, u50, u51, u52, u53, u54, u55, u56, u57, u58, u59, u60], []⟩ ∧ qs.length ≤ k ∧ Aside0 (zs.length ≤ nx) ∧ Aside0 (zs = R.2) ∧ Aside0 (ys ++ qs = R.1) ∧ Aside0 (ys.length + qs.length ≤ 64) ∧ Aside0 (Fr.Frame w W [(h, [.slice (some ⟨g, 0, none⟩) zs.length cap], 48), (g, flat zs ++ tl, 32)] [Fr.rowR k32 32 w.heap.size v ys S, chanR ch (qs.map dueV) s0 r0])
def drX (A : Option Addr) (nx c : Nat) (now : Int) (h ch g cap : Nat) (R : List S32 × List S32) (w : World) (a : Act) (W : World) : Prop := ∃ (u9 u10 u11 u12 u13 u14 u15 u16 u17 u18 u19 u20 u21 u22 u23 u24 u25 u26 u27 u28 u29 u30 u31 u32 u33 u34 u35 u36 u37 u38 u39 u40 u41 u42 u43 u44 u45 u46 u47 u48 u49 u50 u51 u52 u53 u54 u55 u56 u57 u58 u59 u60 : Value) (zs : List S32) (tl : List Value) (os : List S32), a = ⟨#[.slice A nx c, .int .i64 now, undef, undef, .slice none 0 0, .slice none 0 0, .int .i64 0, .pointer (some ⟨h, 0, none⟩), .chan (some ch), u9, u10, u11, u12, u13, u14, u15, u16, u17, u18, u19, u20, u21, u22, u23, u24, u25, u26, u27, u28, u29, u30, u31, u32, u33, u34, u35, u36, u37, u38, u39, u40, u41, u42, u43, u44, u45, u46, u47, u48, u49, u50, u51, u52, u53, u54, u55, u56, u57, u58, u59, u60], []⟩ ∧ zs.length ≤ nx ∧ os.length ≤ 64 ∧ os = R.1 ∧ zs = R.2 ∧ Aside0 (Fr.Frame w W [(h, [.slice (some ⟨g, 0, none⟩) zs.length cap], 48), (g, flat zs ++ tl, 32)] [chanR ch (os.map dueV) os.length 0])
def drJ (A : Option Addr) (nx c : Nat) (now : Int) (h ch g cap : Nat) (R : List S32 × List S32) (w : World) (k : Nat) (a : Act) (W : World) : Prop := ∃ (u9 u10 u11 u12 u13 u14 u15 u16 u17 u18 u19 u20 u21 u22 u23 u24 u25 u26 u27 u28 u29 u30 u31 u32 u33 u34 u35 u36 u37 u38 u39 u40 u41 u42 u43 u44 u45 u46 u47 u48 u49 u50 u51 u52 u53 u54 u55 u56 u57 u58 u59 u60 : Value) (zs : List S32) (tl : List Value) (os : List S32), a = ⟨#[.slice A nx c, .int .i64 now, undef, undef, .slice none 0 0, .slice none 0 0, .int .i64 0, .pointer (some ⟨h, 0, none⟩), .chan (some ch), u9, u10, u11, u12, u13, u14, u15, u16, u17, u18, u19, u20, u21, u22, u23, u24, u25, u26, u27, u28, u29, u30, u31, u32, u33, u34, u35, u36, u37, u38, u39, u40, u41, u42, u43, u44, u45, u46, u47, u48, u49, u50, u51, u52, u53, u54, u55, u56, u57, u58, u59, u60], []⟩ ∧ zs.length ≤ k ∧ Aside0 (os.length + zs.length ≤ 64) ∧ Aside0 (zs.length ≤ nx) ∧ Aside0 (os ++ (drainL zs.length zs now).1 = R.1 ∧ (drainL zs.length zs now).2 = R.2) ∧ Aside0 (Fr.Frame w W [(h, [.slice (some ⟨g, 0, none⟩) zs.length cap], 48), (g, flat zs ++ tl, 32)] [chanR ch (os.map dueV) os.length 0])
set_option maxHeartbeats 4000000 in
set_option maxRecDepth 100000 in
theorem drain7_ok (A : Option Addr) (c : Nat) (xs : List S32) (now : Int) (w : World) (hr : Kd.C k32 w A xs.length xs) (hp : 0 < xs.length) (hd : duesB xs = true) (ht : tmB now = true) :
    Calls Try.prog 7 #[.slice A xs.length c, .int .i64 now] w fun e w' => ∃ (g cap : Nat) (Ao : Option Addr) (co : Nat), e = .returned (.tuple #[.slice (some ⟨g, 0, none⟩) (drainL xs.length (heapL xs) now).2.length cap, .slice Ao (drainL xs.length (heapL xs) now).1.length co, .int .i64 0]) ∧ (drainL xs.length (heapL xs) now).2.length ≤ cap ∧ (drainL xs.length (heapL xs) now).1.length ≤ co ∧ Kd.C k32 w' (some ⟨g, 0, none⟩) (drainL xs.length (heapL xs) now).2.length (drainL xs.length (heapL xs) now).2 ∧ Kd.C k32 w' Ao (drainL xs.length (heapL xs) now).1.length (drainL xs.length (heapL xs) now).1 ∧ Below w.heap.size w w' := by
  obtain ⟨R, hR⟩ : ∃ R, drainL xs.length (heapL xs) now = R := ⟨_, rfl⟩
  rw [hR]
  have hR0 := Aside0.mk hR
  clear hR
  have hl : xs.length ≤ 64 := by unfold duesB at hd; simp at hd; exact hd.1
  have H13 := Aside0.mk (fun W (hb : Below w.heap.size w W) => right13_calls A c xs W (Kd.C_below hr hb))
  rw [hd] at H13
  have H19 := Aside0.mk (fun W => tick_Right.calls now _ W (tick_is now))
  rw [ht] at H19
  have H20 := Aside0.mk (fun W (hb : Below w.heap.size w W) => of20_some A c xs W (Kd.C_below hr hb) (by omega) (by omega))
  have hmk := mk64
  have hta := ta_due
  have hF := Aside0.mk (Fr.Frame.start w)
  have HC : True := trivial
  clear hr
  refine calls_of_wpN Try.func7 rfl ?_
  simp only [Try.ntmps7, List.size_toArray, List.length_cons, List.length_nil, Nat.reduceAdd, Nat.reduceSub, Array.replicate_succ, Array.replicate_zero, List.push_toArray, List.append_toArray, List.nil_append, List.cons_append]
  refine wpN_seq (wpN_of ?_)
  go_wp2_with fail
  show wpN _ _ _ _ _
  refine wpN_seq (wpN_of ?_)
  go_wp2_with fail
  (with_reducible refine (H13.out _ hF.out.below).mono ?_); rintro e W ⟨rfl, hb⟩; have hF1 := hF.out.call hb; clear hb; have HC1 := hF1.cells; simp only [Fr.Cells, List.length_cons, List.length_nil, Nat.reduceAdd, and_true] at HC1; clear hF HC; have HC := HC1; have hF := Aside0.mk hF1; clear hF1 HC1
  go_wp2_with (first | ((with_reducible refine gate_store rfl ?_); apply Fr.fr_store hF.out rfl rfl rfl; (case hp => rfl); (case hx => first | (go_simp; rfl) | rfl); (case hu => (simp only [Value.cells]; rfl)); (case hs => (repeat (first | exact Fr.Spot.here _ _ | apply Fr.Spot.there))); (case ht => kernel_rfl); (case h1 => simp [Value.oneCell']); (case hfit => simp); intro W hF1; simp only [Fr.patch, List.take_zero, List.nil_append, List.drop, List.append_nil, List.take, List.cons_append, List.length_cons, List.length_nil, Nat.reduceAdd] at hF1; have HC1 := hF1.cells; simp only [Fr.Cells, List.length_cons, List.length_nil, Nat.reduceAdd, and_true] at HC1; clear hF HC; have HC := HC1; have hF := Aside0.mk hF1; clear hF1 HC1) | ((first | (with_reducible refine Fr.gate_alloc rfl ?_) | (with_reducible refine Fr.gate_box rfl ?_)); apply Fr.fr_box hF.out rfl; (case hrun => first | (go_simp; done) | (go_simp; rfl)); intro g W hF1; have HC1 := hF1.cells; simp only [Fr.Cells, List.length_cons, List.length_nil, Nat.reduceAdd, and_true] at HC1; clear hF HC; have HC := HC1; have hF := Aside0.mk hF1; clear hF1 HC1))
  (with_reducible refine (H19.out _).mono ?_); rintro e W ⟨rfl, hb⟩; have hF1 := hF.out.call hb.below; clear hb; have HC1 := hF1.cells; simp only [Fr.Cells, List.length_cons, List.length_nil, Nat.reduceAdd, and_true] at HC1; clear hF HC; have HC := HC1; have hF := Aside0.mk hF1; clear hF1 HC1
  go_wp2_with (first | ((with_reducible refine gate_store rfl ?_); apply Fr.fr_store hF.out rfl rfl rfl; (case hp => rfl); (case hx => first | (go_simp; rfl) | rfl); (case hu => (simp only [Value.cells]; rfl)); (case hs => (repeat (first | exact Fr.Spot.here _ _ | apply Fr.Spot.there))); (case ht => kernel_rfl); (case h1 => simp [Value.oneCell']); (case hfit => simp); intro W hF1; simp only [Fr.patch, List.take_zero, List.nil_append, List.drop, List.append_nil, List.take, List.cons_append, List.length_cons, List.length_nil, Nat.reduceAdd] at hF1; have HC1 := hF1.cells; simp only [Fr.Cells, List.length_cons, List.length_nil, Nat.reduceAdd, and_true] at HC1; clear hF HC; have HC := HC1; have hF := Aside0.mk hF1; clear hF1 HC1) | ((first | (with_reducible refine Fr.gate_alloc rfl ?_) | (with_reducible refine Fr.gate_box rfl ?_)); apply Fr.fr_box hF.out rfl; (case hrun => first | (go_simp; done) | (go_simp; rfl)); intro g W hF1; have HC1 := hF1.cells; simp only [Fr.Cells, List.length_cons, List.length_nil, Nat.reduceAdd, and_true] at HC1; clear hF HC; have HC := HC1; have hF := Aside0.mk hF1; clear hF1 HC1))
  show wpN _ _ _ _ _
  refine wpN_seq (wpN_of ?_)
  go_wp2_with fail
  (with_reducible refine (H20.out _ hF.out.below).mono ?_)
  rintro e W1 ⟨h, g, cap, tl, rfl, hcap, hF1⟩
  replace hF1 := frame_join hF.out hF1
  simp only [List.cons_append, List.nil_append, List.append_nil] at hF1
  go_wp2_with fail
  show wpN _ _ _ _ _
  refine wpN_seq (wpN_of ?_)
  go_wp2_with fail
  have hF2 := frame_mkchan hF1
  have hg0 : w.heap.size ≤ W1.heap.size := hF1.below.size
  generalize W1.heap.size = ch at hF2 hg0 ⊢
  have HG := Aside0.mk hg0
  have hll := heapL_len xs
  obtain ⟨ys, hys⟩ : ∃ ys, heapL xs = ys := ⟨_, rfl⟩
  rw [show initL (xs.length / 2) xs xs.length = ys from hys] at hF2
  rw [hys] at hll
  have hlm : ys.length ≤ 64 := by omega
  have hR := hR0.out
  rw [hys] at hR
  rw [← hll] at hR
  clear hR0
  obtain ⟨nx, hnx⟩ : ∃ nx, xs.length = nx := ⟨_, rfl⟩
  rw [hnx] at hF2 hcap hl ⊢
  have HNB := Aside0.mk hl
  rw [hnx] at hll
  rw [← hll] at hF2
  have HF2 := Aside0.mk hF2
  have HCAP := Aside0.mk hcap
  have HR := Aside0.mk hR
  have HLL := Aside0.mk hll
  clear hF2 hg0 hys hR hnx hF1 hF HC hd ht hp hl hcap hll H13 H19 H20 hmk
  show wpN _ _ _ _ _
  refine wpN_seq (wpN_mono (Q := fun e a W => e = .normal ∧ drX A nx c now h ch g cap R w a W) ?loop ?rest)
  case loop =>
    refine wpN_block (wpN_loop (drJ A nx c now h ch g cap R w) ?round (n := ys.length) ?start)
    case start => unfold drJ; exact ⟨_, _, _, _, _, _, _, _, _, _, _, _, _, _, _, _, _, _, _, _, _, _, _, _, _, _, _, _, _, _, _, _, _, _, _, _, _, _, _, _, _, _, _, _, _, _, _, _, _, _, _, _, ys, tl, [], rfl, Nat.le_refl _, ⟨by simpa using hlm⟩, ⟨by have := HLL.out; omega⟩, ⟨by rw [HR.out]; exact ⟨rfl, rfl⟩⟩, HF2⟩
    case round =>
      intro k a W hJ
      unfold drJ at hJ
      obtain ⟨u9, u10, u11, u12, u13, u14, u15, u16, u17, u18, u19, u20, u21, u22, u23, u24, u25, u26, u27, u28, u29, u30, u31, u32, u33, u34, u35, u36, u37, u38, u39, u40, u41, u42, u43, u44, u45, u46, u47, u48, u49, u50, u51, u52, u53, u54, u55, u56, u57, u58, u59, u60, zs, tl, os, rfl, hk, HO, HZ, HD, HF⟩ := hJ
      clear HF2 HR HLL hlm
      have hc := ptr_cell (c := cap) (lies_pair g h).lies HF.out
      cases hm : zs.length with
      | zero =>
        have hd := HD.out
        rw [hm, drainL] at hd
        obtain ⟨hd1, hd2⟩ := hd
        rw [List.append_nil] at hd1
        have HX := Aside0.mk (And.intro hd1 hd2)
        have hF := Aside0.mk HF.out
        have HO2 := Aside0.mk (show os.length ≤ 64 by have := HO.out; omega)
        have HM := Aside0.mk hm
        rw [hm] at hc
        clear HD hd1 hd2 hm HF
        refine wpN_seq (wpN_of ?_)
        go_wp2_with fail
        unfold drX
        exact ⟨_, _, _, _, _, _, _, _, _, _, _, _, _, _, _, _, _, _, _, _, _, _, _, _, _, _, _, _, _, _, _, _, _, _, _, _, _, _, _, _, _, _, _, _, _, _, _, _, _, _, _, _, zs, tl, os, rfl, HZ.out, HO2.out, HX.out.1, HX.out.2, hF⟩
      | succ m =>
        obtain ⟨z0, z1⟩ := flat_cell HF.out (.there _ (.here _ _)) 0 (by omega)
        rw [Nat.zero_mul] at z0
        have hd := HD.out
        rw [hm, drainL, hm] at hd
        by_cases hle : (zs.getD 0 z32).f0 ≤ now
        · rw [if_pos ⟨by omega, hle⟩, Nat.add_sub_cancel] at hd
          have hpl := popL_len zs
          rw [hm] at hpl
          have H21 := Aside0.mk (fun (W9 : World) (h9 : Fr.Frame w W9 [(h, [.slice (some ⟨g, 0, none⟩) (m + 1) cap], 48), (g, flat zs ++ tl, 32)] [chanR ch (os.map dueV) os.length 0]) => pop21_calls cap m zs tl g h w W9 _ (fun p cs => [(h, p, 48), (g, cs, 32)]) (lies_pair g h) h9 hm (by have := HZ.out; have := HCAP.out; omega) (by have := HO.out; omega))
          have hF := Aside0.mk HF.out
          rw [hm] at hc hF
          have HO2 := Aside0.mk (show os.length + (m + 1) ≤ 64 by have := HO.out; omega)
          have HZ2 := Aside0.mk (show m + 1 ≤ nx by have := HZ.out; omega)
          have hkm : m + 1 ≤ k := by omega
          generalize (zs.getD 0 z32).f0 = x0 at hle z0
          obtain ⟨ps, hps⟩ : ∃ ps, popL zs = ps := ⟨_, rfl⟩
          rw [hps] at hd hpl H21
          obtain ⟨x, hx⟩ : ∃ x, ps.getD m z32 = x := ⟨_, rfl⟩
          rw [hx] at hd H21
          have HD2 := Aside0.mk hd
          have HPL := Aside0.mk hpl
          clear HD hd hm HF z1 HO HZ hk hps hx hpl
          refine wpN_seq (wpN_of ?_)
          go_wp2_with fail
          show wpN _ _ _ _ _
          refine wpN_block (wpN_seq (wpN_of ?_))
          go_wp2_with fail
          (with_reducible refine (H21.out _ hF.out).mono ?_)
          rintro e W2 ⟨rfl, hF1⟩
          have HC : True := trivial
          have HC1 := hF1.cells; simp only [Fr.Cells, List.length_cons, List.length_nil, Nat.reduceAdd, and_true] at HC1; clear hF HC; have HC := HC1; have hF := Aside0.mk hF1; clear hF1 HC1
          clear z0 hc H21
          go_wp2_with (first | ((with_reducible refine gate_store rfl ?_); apply Fr.fr_store hF.out rfl rfl rfl; (case hp => rfl); (case hx => first | (go_simp; rfl) | rfl); (case hu => (simp only [Value.cells]; rfl)); (case hs => (repeat (first | exact Fr.Spot.here _ _ | apply Fr.Spot.there))); (case ht => kernel_rfl); (case h1 => simp [Value.oneCell']); (case hfit => simp); intro W hF1; simp only [Fr.patch, List.take_zero, List.nil_append, List.drop, List.append_nil, List.take, List.cons_append, List.length_cons, List.length_nil, Nat.reduceAdd] at hF1; have HC1 := hF1.cells; simp only [Fr.Cells, List.length_cons, List.length_nil, Nat.reduceAdd, and_true] at HC1; clear hF HC; have HC := HC1; have hF := Aside0.mk hF1; clear hF1 HC1) | ((with_reducible refine gate_dst (N := 9) rfl ?_); apply Fr.fr_box hF.out rfl; (case hrun => first | (go_simp; done) | (go_simp; rfl)); intro g9 W hF1; have HC1 := hF1.cells; simp only [Fr.Cells, List.length_cons, List.length_nil, Nat.reduceAdd, and_true] at HC1; clear hF HC; have HC := HC1; have hF := Aside0.mk hF1; clear hF1 HC1) | ((first | (with_reducible refine Fr.gate_alloc rfl ?_) | (with_reducible refine Fr.gate_box rfl ?_)); apply Fr.fr_box hF.out rfl; (case hrun => first | (go_simp; done) | (go_simp; rfl)); intro g W hF1; have HC1 := hF1.cells; simp only [Fr.Cells, List.length_cons, List.length_nil, Nat.reduceAdd, and_true] at HC1; clear hF HC; have HC := HC1; have hF := Aside0.mk hF1; clear hF1 HC1))
          show wpN _ _ _ _ _
          have hch : W.heap[ch]? = some (.chan 64 (os.map dueV).toArray false os.length 0 false) := hF.out.rowAt (r := chanR ch (os.map dueV) os.length 0) List.mem_cons_self
          apply wpN_lone
          case h =>
            intro b hb k2 cs
            refine Conc.LoneTo.goes (n := 6) ?_
            s_reg
            (s_in; refine Conc.goes_oper_k rfl rfl hb (fun K hK => ?_); go_simp; refine hK _ _ ⟨trivial, ?_⟩; clear hK K)
            (s_in; refine Conc.goes_oper_k rfl rfl hb (fun K hK => ?_); go_simp; refine hK _ _ ⟨trivial, ?_⟩; clear hK K)
            s_stop
            refine Conc.LoneTo.step (Conc.step_lone_send_room (c := ch) (cap := 64) (buf := (os.map dueV).toArray) (s := os.length) (r := 0) (tm := false) (Conc.stepG_comm (cases := #[Conc.scase ch (dueV x) (.tuple #[])]) (blocking := true) (shape := .send) (w' := W) rfl rfl hb (by simp [execOp, Conc.scase, Act.eval, dueV])) hch (by have := HO2.out; simp; omega)) ?_
            rw [Frame.finish_at]
            walk_nrm
            refine Conc.LoneTo.goes (n := 1) ?_
            s_c Conc.stepG_region_end
            s_stop
            exact Conc.LoneTo.done ⟨rfl, rfl⟩
          case hq =>
            have hl1 : (ps.take m).length = m := by rw [List.length_take]; have := HPL.out; omega
            have hF3 := frame_setchan (buf' := (os ++ [x]).map dueV) (s' := os.length + 1) (r' := 0) HG.out hF.out.drop
            rw [show ((os ++ [x]).map dueV).toArray = (os.map dueV ++ [dueV x]).toArray by simp] at hF3
            rw [show flat ps ++ tl = flat (ps.take m) ++ (flat (ps.drop m) ++ tl) by rw [← List.append_assoc, ← flat_app, List.take_append_drop]] at hF3
            show ∃ m', m' < k ∧ drJ A nx c now h ch g cap R w m' _ _
            refine ⟨m, by omega, ?_⟩
            unfold drJ
            refine ⟨_, _, _, _, _, _, _, _, _, _, _, _, _, _, _, _, _, _, _, _, _, _, _, _, _, _, _, _, _, _, _, _, _, _, _, _, _, _, _, _, _, _, _, _, _, _, _, _, _, _, _, _, ps.take m, flat (ps.drop m) ++ tl, os ++ [x], rfl, by omega, ⟨by rw [List.length_append, hl1]; have := HO2.out; simp; omega⟩, ⟨by rw [hl1]; have := HZ2.out; omega⟩, ⟨?_⟩, ⟨?_⟩⟩
            · rw [hl1, List.append_assoc]
              exact HD2.out
            · rw [hl1, List.length_append]
              exact hF3
        · rw [if_neg (fun e => hle e.2)] at hd
          obtain ⟨hd1, hd2⟩ := hd
          rw [List.append_nil] at hd1
          have HX := Aside0.mk (And.intro hd1 hd2)
          have hF := Aside0.mk HF.out
          have HO2 := Aside0.mk (show os.length ≤ 64 by have := HO.out; omega)
          rw [hm] at hc
          generalize (zs.getD 0 z32).f0 = x0 at hle z0
          clear HD hd1 hd2 hm HF z1
          refine wpN_seq (wpN_of ?_)
          go_wp2_with fail
          unfold drX
          exact ⟨_, _, _, _, _, _, _, _, _, _, _, _, _, _, _, _, _, _, _, _, _, _, _, _, _, _, _, _, _, _, _, _, _, _, _, _, _, _, _, _, _, _, _, _, _, _, _, _, _, _, _, _, zs, tl, os, rfl, HZ.out, HO2.out, HX.out.1, HX.out.2, hF⟩
  case rest =>
    rintro e a W ⟨rfl, hX⟩
    clear HF2 HR HLL hlm
    unfold drX at hX
    obtain ⟨u9, u10, u11, u12, u13, u14, u15, u16, u17, u18, u19, u20, u21, u22, u23, u24, u25, u26, u27, u28, u29, u30, u31, u32, u33, u34, u35, u36, u37, u38, u39, u40, u41, u42, u43, u44, u45, u46, u47, u48, u49, u50, u51, u52, u53, u54, u55, u56, u57, u58, u59, u60, zs, tl, os, rfl, hz, ho, hR1, hR2, HF⟩ := hX
    have HZ := Aside0.mk hz
    have HO := Aside0.mk ho
    have HR1 := Aside0.mk hR1
    have HR2 := Aside0.mk hR2
    clear hz ho hR1 hR2
    show wpN _ _ _ _ _
    refine wpN_seq (wpN_of ?_)
    go_wp2_with fail
    show wpN _ _ _ _ _
    refine wpN_block (wpN_loop (drK A nx c now h ch g cap R w) ?round2 (n := os.length) ?start2)
    case start2 =>
      obtain ⟨S, hS⟩ := HF.out.rowIn (Kd.R_nil k32 32 W w.heap.size (fun _ => False)) (fun k hk => hk.elim)
      unfold drK
      exact ⟨_, _, _, _, _, _, _, _, _, _, _, _, _, _, _, _, _, _, _, _, _, _, _, _, _, _, _, _, _, _, _, _, _, _, _, _, _, _, _, _, _, _, _, _, _, _, _, _, _, _, _, _, zs, tl, [], os, _, _, S, rfl, Nat.le_refl _, HZ, HR2, ⟨HR1.out⟩, ⟨by simpa using HO.out⟩, ⟨hS⟩⟩
    case round2 =>
      clear HF HZ HO HR1 HR2 tl os zs
      intro k a W hJ
      unfold drK at hJ
      obtain ⟨u9, u10, u12, u13, u14, u15, u16, u17, u18, u19, u20, u21, u22, u23, u24, u25, u26, u27, u28, u29, u30, u31, u32, u33, u34, u35, u36, u37, u38, u39, u40, u41, u42, u43, u44, u45, u46, u47, u48, u49, u50, u51, u52, u53, u54, u55, u56, u57, u58, u59, u60, v, zs, tl, ys, qs, s0, r0, S, rfl, hk, HZ, HR2, HR1, HO, HF⟩ := hJ
      refine wpN_block (wpN_seq (wpN_of ?_))
      go_wp2_with fail
      show wpN _ _ _ _ _
      have hch : W.heap[ch]? = some (.chan 64 (qs.map dueV).toArray false s0 r0 false) := HF.out.rowAt (r := chanR ch (qs.map dueV) s0 r0) (List.mem_cons_of_mem _ List.mem_cons_self)
      refine wpN_seq ?_
      cases qs with
      | nil =>
        apply wpN_lone
        case h =>
          intro b hb k2 cs
          refine Conc.LoneTo.goes (n := 6) ?_
          s_reg
          s_stop
          refine Conc.LoneTo.step (Conc.step_lone_select_default (c := ch) (cap := 64) (s := s0) (r := r0) (tm := false) (z := .agg #[.int .i64 0, .int .i64 0]) (Conc.stepG_comm (cases := #[Conc.rcase ch (.agg #[.int .i64 0, .int .i64 0])]) (blocking := false) (shape := .select) (w' := W) rfl rfl hb ?hrun) hch) ?_
          case hrun => go_simp; first | rfl | (unfold Conc.rcase; rfl)
          rw [Frame.finish_at]
          walk_nrm
          refine Conc.LoneTo.goes (n := 6) ?_
          (s_in; refine Conc.goes_oper_k rfl rfl hb (fun K hK => ?_); go_simp; refine hK _ _ ⟨trivial, ?_⟩; clear hK K)
          (s_in; refine Conc.goes_oper_k rfl rfl hb (fun K hK => ?_); go_simp; refine hK _ _ ⟨trivial, ?_⟩; clear hK K)
          s_c Conc.stepG_region_end
          s_stop
          exact Conc.LoneTo.done ⟨rfl, rfl⟩
        case hq =>
          show wpN _ _ _ _ _
          have hc := ptr_cell (c := cap) (lies_pair g h).lies (Fr.Frame.noRows HF.out)
          obtain ⟨Ao, co, rfl, hco, hCo⟩ := Kd.R_reads (HF.out.rowAt (r := Fr.rowR k32 32 w.heap.size v ys S) List.mem_cons_self)
          have hCz := take_flat HF.out (.there _ (.here _ _)) zs.length (Nat.le_refl _) (by have := HZ.out; have := HNB.out; omega)
          rw [List.take_length] at hCz
          have hB := HF.out.below
          have hr1 := HR1.out
          rw [List.append_nil] at hr1
          have hr2 := HR2.out
          subst hr1
          subst hr2
          have HFIN := Aside0.mk (And.intro (show R.2.length ≤ cap by have := HZ.out; have := HCAP.out; omega) (And.intro hco (And.intro hCz (And.intro hCo hB))))
          clear hco hCo hCz hB HF HZ HR1 HR2 HO hch
          refine wpN_of ?_
          go_wp2_with fail
          go_ret3
          exact ⟨g, cap, Ao, co, rfl, HFIN.out⟩
      | cons q qs =>
        apply wpN_lone
        case h =>
          intro b hb k2 cs
          refine Conc.LoneTo.goes (n := 6) ?_
          s_reg
          s_stop
          refine Conc.LoneTo.step (Conc.step_lone_select_recv_buf (c := ch) (cap := 64) (s := s0) (r := r0) (tm := false) (z := .agg #[.int .i64 0, .int .i64 0]) (Conc.stepG_comm (cases := #[Conc.rcase ch (.agg #[.int .i64 0, .int .i64 0])]) (blocking := false) (shape := .select) (w' := W) rfl rfl hb ?hrun) hch (by simp)) ?_
          case hrun => go_simp; first | rfl | (unfold Conc.rcase; rfl)
          rw [Frame.finish_at]
          walk_nrm
          refine Conc.LoneTo.goes (n := 6) ?_
          (s_in; refine Conc.goes_oper_k rfl rfl hb (fun K hK => ?_); go_simp; refine hK _ _ ⟨trivial, ?_⟩; clear hK K)
          (s_in; refine Conc.goes_oper_k rfl rfl hb (fun K hK => ?_); go_simp; refine hK _ _ ⟨trivial, ?_⟩; clear hK K)
          s_c Conc.stepG_region_end
          s_stop
          exact Conc.LoneTo.done ⟨rfl, rfl⟩
        case hq =>
          show wpN _ _ _ _ _
          obtain ⟨S2, hF2⟩ := frame_setchan2 (buf' := qs.map dueV) (s' := s0) (r' := r0 + 1) HG.out HF.out
          rw [show List.take qs.length (List.map dueV qs) = List.map dueV qs from List.take_of_length_le (by simp)]
          have hyl : ys.length ≤ 64 := by have := HO.out; omega
          have HYQ := Aside0.mk (show (ys ++ [q]).length + qs.length ≤ 64 by have := HO.out; simp only [List.length_append, List.length_cons, List.length_nil] at this ⊢; omega)
          have HYR := Aside0.mk (show (ys ++ [q]) ++ qs = R.1 by rw [List.append_assoc]; exact HR1.out)
          have HKK := Aside0.mk (show qs.length < k by simp only [List.length_cons] at hk; omega)
          generalize W.setChan ch 64 (List.map dueV qs).toArray false s0 (r0 + 1) false = W6 at hF2 ⊢
          have hF := Aside0.mk hF2
          have HC : True := trivial
          clear HF hch hF2 HO HR1 hk
          simp only [dueV]
          refine wpN_of ?_
          go_wp2_with (first | ((with_reducible refine gate_builtin (b := .append) (xs := #[.tmp 57, .tmp 59]) rfl ?_); refine fr_appendC (xs := ys) (p := q) (.tmp 57) (.tmp 59) (.agg #[.int .i64 0, .int .i64 0]) 16 22 (hF.out.alloc [.int .i64 q.f0, .int .i64 q.f1] 32) List.mem_cons_self rfl rfl Try.underlying22 (by kernel_rfl) rfl (by decide) rfl rfl (by omega) ?_; intro v1 W5 S5 hF1; have HC1 := hF1.cells; simp only [Fr.Cells, List.length_cons, List.length_nil, Nat.reduceAdd, and_true] at HC1; clear hF HC; have HC := HC1; have hF := Aside0.mk hF1; clear hF1 HC1) | ((with_reducible refine gate_bslice rfl ?_); apply fr_slice hF.out rfl; (case hrun => first | (go_simp; done) | (go_simp; rfl)); intro g5 W hF1; have HC1 := hF1.cells; simp only [Fr.Cells, List.length_cons, List.length_nil, Nat.reduceAdd, and_true] at HC1; clear hF HC; have HC := HC1; have hF := Aside0.mk hF1; clear hF1 HC1) | ((with_reducible refine gate_dst (N := 12) rfl ?_); apply Fr.fr_box hF.out rfl; (case hrun => first | (go_simp; done) | (go_simp; rfl)); intro g12 W hF1; have HC1 := hF1.cells; simp only [Fr.Cells, List.length_cons, List.length_nil, Nat.reduceAdd, and_true] at HC1; clear hF HC; have HC := HC1; have hF := Aside0.mk hF1; clear hF1 HC1) | ((with_reducible refine gate_store rfl ?_); apply Fr.fr_store hF.out rfl rfl rfl; (case hp => rfl); (case hx => first | (go_simp; rfl) | rfl); (case hu => (simp only [Value.cells]; rfl)); (case hs => (repeat (first | exact Fr.Spot.here _ _ | apply Fr.Spot.there))); (case ht => kernel_rfl); (case h1 => simp [Value.oneCell']); (case hfit => simp); intro W hF1; simp only [Fr.patch, List.take_zero, List.nil_append, List.drop, List.append_nil, List.take, List.cons_append, List.length_cons, List.length_nil, Nat.reduceAdd] at hF1; have HC1 := hF1.cells; simp only [Fr.Cells, List.length_cons, List.length_nil, Nat.reduceAdd, and_true] at HC1; clear hF HC; have HC := HC1; have hF := Aside0.mk hF1; clear hF1 HC1) | ((first | (with_reducible refine Fr.gate_alloc rfl ?_) | (with_reducible refine Fr.gate_box rfl ?_)); apply Fr.fr_box hF.out rfl; (case hrun => first | (go_simp; done) | (go_simp; rfl)); intro g W hF1; have HC1 := hF1.cells; simp only [Fr.Cells, List.length_cons, List.length_nil, Nat.reduceAdd, and_true] at HC1; clear hF HC; have HC := HC1; have hF := Aside0.mk hF1; clear hF1 HC1))
          show ∃ m', m' < k ∧ drK A nx c now h ch g cap R w m' _ _
          refine ⟨qs.length, HKK.out, ?_⟩
          unfold drK
          exact ⟨_, _, _, _, _, _, _, _, _, _, _, _, _, _, _, _, _, _, _, _, _, _, _, _, _, _, _, _, _, _, _, _, _, _, _, _, _, _, _, _, _, _, _, _, _, _, _, _, _, _, _, v1, zs, tl, ys ++ [q], qs, s0, r0 + 1, S5, rfl, Nat.le_refl _, HZ, HR2, HYR, HYQ, ⟨hF.out.drop.drop⟩⟩
section
variable {P : Program} {w0 W : World} {bs : List Fr.Blk}
end
def rowsOf (xs : List S32) : List (List Value) := xs.map (fun x : S32 => [Value.int .i64 x.f0, .int .i64 x.f1])
set_option maxHeartbeats 2000000 in
theorem clone25_none (A : Option Addr) (c : Nat) (w : World) :
    Calls Try.prog 25 #[.slice A 0 c] w fun e w' => ∃ v S, e = .returned v ∧ Fr.Frame w w' [] [Fr.rowR (Kd.raw 2) 32 w.heap.size v [] S] := by
  have hnil := fun (w : World) (n c : Nat) => Lib.run_eql_slice_nil w 22 32 A n c 0 0 Try.underlying22
  cases A with
  | none =>
    go_enter Try.func25, Try.ntmps25
    go_wp2
    go_ret
    obtain ⟨S, hF⟩ := (Fr.Frame.start w).rowIn (Kd.R_nil (Kd.raw 2) 32 w w.heap.size (fun _ => False)) (fun k hk => hk.elim)
    exact ⟨_, S, rfl, hF⟩
  | some ad =>
    go_enter Try.func25, Try.ntmps25
    go_wp2
    go_ret
    obtain ⟨S, hF⟩ := ((Fr.Frame.start w).call ((Below.refl _ w).alloc (Nat.le_refl _) (.cells #[] 32))).rowIn (R_empty (Kd.raw 2) 32 _ w.heap.size w.heap.size (fun _ => True) (Nat.le_refl _) (heap_alloc_new w _) trivial) (fun k _ b hb => by simp at hb)
    exact ⟨_, S, rfl, hF⟩
set_option maxHeartbeats 2000000 in
theorem init26_none (A : Option Addr) (c h : Nat) (W : World) (hc : W.cell? ⟨h, 0, none⟩ = some (.slice A 0 c)) :
    Calls Try.prog 26 #[.iface 45 (.pointer (some ⟨h, 0, none⟩))] W fun e W' => e = .returned (.tuple #[]) ∧ W = W' := by
  have mLen := fun (w : World) (hc : w.cell? ⟨h, 0, none⟩ = some (.slice A 0 c)) => met_Len h _ w hc
  have eLen := E46
  go_enter Try.func26, Try.ntmps26
  go_wp2_with fail
  (with_reducible refine (len46_calls A 0 c _).mono ?_)
  rintro e W1 ⟨rfl, rfl⟩
  go_wp2_with fail
  go_loopg [3] 0 (fun kq v3 w' => v3 = .int .i64 (-1) ∧ W = w')
  case atStart => exact ⟨rfl, rfl⟩
  case round =>
    obtain ⟨rfl, rfl⟩ := hrel
    go_wp2_with fail
    go_end0
    exact ⟨rfl, rfl⟩
set_option maxHeartbeats 2000000 in
set_option maxRecDepth 100000 in
theorem of20_none (A : Option Addr) (c : Nat) (w : World) :
    Calls Try.prog 20 #[.slice A 0 c] w fun e w' => ∃ h v S, e = .returned (.pointer (some ⟨h, 0, none⟩)) ∧ Fr.Frame w w' [(h, [v], 48)] [Fr.rowR (Kd.raw 2) 32 w.heap.size v (rowsOf []) S] := by
  have H25 := Aside0.mk (clone25_none A c w)
  go_enter Try.func20, Try.ntmps20
  go_wp2_with fail
  (with_reducible refine H25.out.mono ?_)
  rintro e W ⟨v, S, rfl, hF1⟩
  obtain ⟨A1, c1, rfl, _, _⟩ := Kd.R_reads (hF1.rowAt (r := Fr.rowR (Kd.raw 2) 32 w.heap.size v [] S) List.mem_cons_self)
  rw [show ([] : List (List Value)).length = 0 from rfl] at hF1
  have hF : True := trivial
  have HC : True := trivial
  have HC1 := hF1.cells; simp only [Fr.Cells, List.length_cons, List.length_nil, Nat.reduceAdd, and_true] at HC1; clear hF HC; have HC := HC1; have hF := Aside0.mk hF1; clear hF1 HC1
  go_wp2_with (first | ((with_reducible refine gate_store rfl ?_); apply Fr.fr_store hF.out rfl rfl rfl; (case hp => rfl); (case hx => first | (go_simp; rfl) | rfl); (case hu => (simp only [Value.cells]; rfl)); (case hs => (repeat (first | exact Fr.Spot.here _ _ | apply Fr.Spot.there))); (case ht => kernel_rfl); (case h1 => simp [Value.oneCell']); (case hfit => simp); intro W hF1; simp only [Fr.patch, List.take_zero, List.nil_append, List.drop, List.append_nil, List.take, List.cons_append, List.length_cons, List.length_nil, Nat.reduceAdd] at hF1; have HC1 := hF1.cells; simp only [Fr.Cells, List.length_cons, List.length_nil, Nat.reduceAdd, and_true] at HC1; clear hF HC; have HC := HC1; have hF := Aside0.mk hF1; clear hF1 HC1) | ((with_reducible refine gate_dst (N := 3) rfl ?_); apply Fr.fr_box hF.out rfl; (case hrun => first | (go_simp; done) | (go_simp; rfl)); intro h W hF1; have HC1 := hF1.cells; simp only [Fr.Cells, List.length_cons, List.length_nil, Nat.reduceAdd, and_true] at HC1; clear hF HC; have HC := HC1; have hF := Aside0.mk hF1; clear hF1 HC1) | ((first | (with_reducible refine Fr.gate_alloc rfl ?_) | (with_reducible refine Fr.gate_box rfl ?_)); apply Fr.fr_box hF.out rfl; (case hrun => first | (go_simp; done) | (go_simp; rfl)); intro g W hF1; have HC1 := hF1.cells; simp only [Fr.Cells, List.length_cons, List.length_nil, Nat.reduceAdd, and_true] at HC1; clear hF HC; have HC := HC1; have hF := Aside0.mk hF1; clear hF1 HC1))
  have hc := blk_cell (hF.out.blk _ List.mem_cons_self).2 0
  (with_reducible refine (init26_none A1 c1 h _ hc).mono ?_)
  rintro e W2 ⟨rfl, rfl⟩
  go_wp2_with fail
  go_ret
  exact ⟨h, _, S, rfl, hF.out⟩
theorem same_e0 (l : List S32) (hl : l.length ≤ 1000) : ∀ (d i : Nat), i + d = l.length → Ev (fun k => foghornref09_Same.l0 k l l (l.length : Int) (i : Int)) true
  | 0, i, hd => Ev.step (f := fun _ => some true) (fun k => by rw [foghornref09_Same.l0, if_neg (by omega)]) (Ev.now _)
  | d + 1, i, hd => Ev.step (f := fun k => foghornref09_Same.l0 k l l (l.length : Int) ((i + 1 : Nat) : Int)) (fun k => by
      rw [foghornref09_Same.l0, if_pos (by omega), if_pos (by omega), if_pos (by omega), if_pos (by omega), if_neg (by simp), w64i (by unfold M63; omega)]) (same_e0 l hl d (i + 1) (by omega))
theorem same_ev (l : List S32) (hl : l.length ≤ 1000) : Ev (fun k => foghornref09_Same.f k l l) true :=
  Ev.of_eq (fun k => by unfold foghornref09_Same.f; rw [if_pos rfl]; rfl) (same_e0 l hl l.length 0 (by omega))
def upTo (now : Int) (x : S32) : Bool := decide (x.f0 ≤ now)
theorem getD_take (l : List S32) (n k : Nat) (h : k < n) : (l.take n).getD k z32 = l.getD k z32 := by
  simp [List.getD_eq_getElem?_getD, List.getElem?_take, h]
theorem heap_take {l : List S32} {n : Nat} (h : isH l n 0) : isH (l.take n) n 0 := fun k k1 k2 _ => by
  rw [getD_take l n k k2, getD_take l n _ (by omega)]
  exact h k k1 k2 (Nat.zero_le _)
theorem mem_getD {l : List S32} {x : S32} (h : x ∈ l) : ∃ k, k < l.length ∧ l.getD k z32 = x := by
  obtain ⟨k, hk, rfl⟩ := List.mem_iff_getElem.1 h
  exact ⟨k, hk, by simp [List.getD_eq_getElem?_getD, hk]⟩
theorem take_last {l : List S32} {n : Nat} (h : l.length = n + 1) : (l.getD n z32 :: l.take n).Perm l := by
  have e : l = l.take n ++ [l.getD n z32] := by
    have h1 : l.getD n z32 = l[n] := by simp [List.getD_eq_getElem?_getD, show n < l.length by omega]
    rw [h1]
    have := List.take_append_getElem (l := l) (i := n) (by omega)
    rw [this, List.take_of_length_le (by omega)]
  have h2 : (l.getD n z32 :: l.take n).Perm (l.take n ++ [l.getD n z32]) := (List.perm_append_singleton _ _).symm
  rwa [← e] at h2
theorem drain_is (now : Int) : ∀ (k : Nat) (zs : List S32), isH zs zs.length 0 → zs.length ≤ k → inOrder (drainL k zs now).1 ∧ (∀ x ∈ (drainL k zs now).1, upTo now x = true) ∧ (∀ x ∈ (drainL k zs now).2, upTo now x = false) ∧ ((drainL k zs now).1 ++ (drainL k zs now).2).Perm zs
  | 0, zs, _, hl => by
    obtain rfl : zs = [] := List.eq_nil_of_length_eq_zero (by omega)
    exact ⟨List.Pairwise.nil, by simp [drainL], by simp [drainL], by simp [drainL]⟩
  | k + 1, zs, hh, hl => by
    rw [drainL]
    by_cases h : 0 < zs.length ∧ (zs.getD 0 z32).f0 ≤ now
    · rw [if_pos h]
      obtain ⟨n, hn⟩ : ∃ n, zs.length = n + 1 := ⟨zs.length - 1, by omega⟩
      have hleast := heap_least hh
      rw [hn] at hh
      obtain ⟨p1, p2, p3⟩ := pop_heap hn hh
      have e : zs.length - 1 = n := by omega
      rw [e, p3]
      have hpl : (popL zs).length = n + 1 := by rw [p2.length_eq, hn]
      have htl : ((popL zs).take n).length = n := by rw [List.length_take]; omega
      obtain ⟨q1, q2, q3, q4⟩ := drain_is now k ((popL zs).take n) (by rw [htl]; exact heap_take p1) (by omega)
      have hp : (zs.getD 0 z32 :: (popL zs).take n).Perm zs := by
        have := (take_last hpl).trans p2
        rwa [p3] at this
      have hm : ∀ x ∈ (drainL k ((popL zs).take n) now).1, lessB x (zs.getD 0 z32) = false := fun x hx => by
        have h1 : x ∈ (popL zs).take n := q4.mem_iff.1 (List.mem_append_left _ hx)
        obtain ⟨j, hj, rfl⟩ := mem_getD (hp.mem_iff.1 (List.mem_cons_of_mem _ h1))
        exact hleast j hj
      refine ⟨List.pairwise_cons.2 ⟨hm, q1⟩, fun x hx => ?_, q3, ?_⟩
      · rcases List.mem_cons.1 hx with rfl | hx
        · exact decide_eq_true h.2
        · exact q2 x hx
      · exact ((q4.cons _).trans hp)
    · rw [if_neg h]
      refine ⟨List.Pairwise.nil, by simp, fun x hx => ?_, by simp⟩
      obtain ⟨j, hj, rfl⟩ := mem_getD hx
      dsimp only at hj ⊢
      have h1 := heap_least hh j hj
      rw [less_no] at h1
      refine decide_eq_false (fun h2 => h ⟨by omega, ?_⟩)
      omega
theorem filter_order {p : S32 → Bool} {l : List S32} (h : inOrder l) : inOrder (l.filter p) := List.Pairwise.filter _ h
theorem srt_filter (p : S32 → Bool) (l : List S32) : (srt l).filter p = srt (l.filter p) := srt_of (filter_order (srt_order l)) ((srt_perm l).filter p)
theorem drained (xs : List S32) (now : Int) : (drainL xs.length (heapL xs) now).1 = (srt xs).filter (upTo now) ∧ srt (drainL xs.length (heapL xs) now).2 = (srt xs).filter (fun x => !upTo now x) ∧ (drainL xs.length (heapL xs) now).1.length + (drainL xs.length (heapL xs) now).2.length = xs.length := by
  obtain ⟨h1, h2⟩ := heap_is xs
  have hl := heapL_len xs
  obtain ⟨q1, q2, q3, q4⟩ := drain_is now xs.length (heapL xs) (by rw [hl]; exact h1) (by rw [hl]; exact Nat.le_refl _)
  have hp := q4.trans h2
  have f1 := hp.filter (upTo now)
  rw [List.filter_append, List.filter_eq_self.2 q2, List.filter_eq_nil_iff.2 (fun x hx => by rw [q3 x hx]; decide), List.append_nil] at f1
  have f2 := hp.filter (fun x => !upTo now x)
  rw [List.filter_append, List.filter_eq_nil_iff.2 (fun x hx => by rw [q2 x hx]; decide), List.filter_eq_self.2 (fun x hx => by rw [q3 x hx]; rfl), List.nil_append] at f2
  exact ⟨by rw [srt_filter]; exact srt_of q1 f1, by rw [srt_filter]; exact srt_eq f2, by have := hp.length_eq; simpa using this⟩
theorem wpN_loop_once {P : Program} {Q : Exit → Act → World → Prop} {a : Act} {w : World} {c : Code} (h : wpN P c (Exit.then (fun _ _ => False) Q) a w) : wpN P (Code.loop c) Q a w :=
  wpN_loop (fun _ a' w' => a' = a ∧ w' = w) (fun n a' w' hj => by
    obtain ⟨rfl, rfl⟩ := hj
    refine wpN_mono h fun e a2 w2 hq => ?_
    cases e <;> first | exact (hq : False).elim | exact hq) (n := 0) ⟨rfl, rfl⟩
set_option maxHeartbeats 4000000 in
set_option maxRecDepth 100000 in
theorem drain7_none (A : Option Addr) (c : Nat) (now : Int) (w : World) (ht : tmB now = true) :
    Calls Try.prog 7 #[.slice A 0 c, .int .i64 now] w fun e w' => ∃ (A1 : Option Addr) (c1 : Nat), e = .returned (.tuple #[.slice A1 0 c1, .slice none 0 0, .int .i64 0]) ∧ Below w.heap.size w w' := by
  have H13 := Aside0.mk (fun W => right13_calls A c [] W ⟨rfl, by simp, fun h => absurd h (by simp)⟩)
  rw [show duesB [] = true from rfl, show ([] : List S32).length = 0 from rfl] at H13
  have H19 := Aside0.mk (fun W => tick_Right.calls now _ W (tick_is now))
  rw [ht] at H19
  have H20 := Aside0.mk (fun W => of20_none A c W)
  have hmk := mk64
  have hF := Aside0.mk (Fr.Frame.start w)
  have HC : True := trivial
  clear ht
  refine calls_of_wpN Try.func7 rfl ?_
  simp only [Try.ntmps7, List.size_toArray, List.length_cons, List.length_nil, Nat.reduceAdd, Nat.reduceSub, Array.replicate_succ, Array.replicate_zero, List.push_toArray, List.append_toArray, List.nil_append, List.cons_append]
  refine wpN_seq (wpN_of ?_)
  go_wp2_with fail
  show wpN _ _ _ _ _
  refine wpN_seq (wpN_of ?_)
  go_wp2_with fail
  (with_reducible refine (H13.out _).mono ?_); rintro e W ⟨rfl, hb⟩; have hF1 := hF.out.call hb; clear hb; have HC1 := hF1.cells; simp only [Fr.Cells, List.length_cons, List.length_nil, Nat.reduceAdd, and_true] at HC1; clear hF HC; have HC := HC1; have hF := Aside0.mk hF1; clear hF1 HC1
  go_wp2_with (first | ((with_reducible refine gate_store rfl ?_); apply Fr.fr_store hF.out rfl rfl rfl; (case hp => rfl); (case hx => first | (go_simp; rfl) | rfl); (case hu => (simp only [Value.cells]; rfl)); (case hs => (repeat (first | exact Fr.Spot.here _ _ | apply Fr.Spot.there))); (case ht => kernel_rfl); (case h1 => simp [Value.oneCell']); (case hfit => simp); intro W hF1; simp only [Fr.patch, List.take_zero, List.nil_append, List.drop, List.append_nil, List.take, List.cons_append, List.length_cons, List.length_nil, Nat.reduceAdd] at hF1; have HC1 := hF1.cells; simp only [Fr.Cells, List.length_cons, List.length_nil, Nat.reduceAdd, and_true] at HC1; clear hF HC; have HC := HC1; have hF := Aside0.mk hF1; clear hF1 HC1) | ((first | (with_reducible refine Fr.gate_alloc rfl ?_) | (with_reducible refine Fr.gate_box rfl ?_)); apply Fr.fr_box hF.out rfl; (case hrun => first | (go_simp; done) | (go_simp; rfl)); intro g W hF1; have HC1 := hF1.cells; simp only [Fr.Cells, List.length_cons, List.length_nil, Nat.reduceAdd, and_true] at HC1; clear hF HC; have HC := HC1; have hF := Aside0.mk hF1; clear hF1 HC1))
  (with_reducible refine (H19.out _).mono ?_); rintro e W ⟨rfl, hb⟩; have hF1 := hF.out.call hb.below; clear hb; have HC1 := hF1.cells; simp only [Fr.Cells, List.length_cons, List.length_nil, Nat.reduceAdd, and_true] at HC1; clear hF HC; have HC := HC1; have hF := Aside0.mk hF1; clear hF1 HC1
  go_wp2_with (first | ((with_reducible refine gate_store rfl ?_); apply Fr.fr_store hF.out rfl rfl rfl; (case hp => rfl); (case hx => first | (go_simp; rfl) | rfl); (case hu => (simp only [Value.cells]; rfl)); (case hs => (repeat (first | exact Fr.Spot.here _ _ | apply Fr.Spot.there))); (case ht => kernel_rfl); (case h1 => simp [Value.oneCell']); (case hfit => simp); intro W hF1; simp only [Fr.patch, List.take_zero, List.nil_append, List.drop, List.append_nil, List.take, List.cons_append, List.length_cons, List.length_nil, Nat.reduceAdd] at hF1; have HC1 := hF1.cells; simp only [Fr.Cells, List.length_cons, List.length_nil, Nat.reduceAdd, and_true] at HC1; clear hF HC; have HC := HC1; have hF := Aside0.mk hF1; clear hF1 HC1) | ((first | (with_reducible refine Fr.gate_alloc rfl ?_) | (with_reducible refine Fr.gate_box rfl ?_)); apply Fr.fr_box hF.out rfl; (case hrun => first | (go_simp; done) | (go_simp; rfl)); intro g W hF1; have HC1 := hF1.cells; simp only [Fr.Cells, List.length_cons, List.length_nil, Nat.reduceAdd, and_true] at HC1; clear hF HC; have HC := HC1; have hF := Aside0.mk hF1; clear hF1 HC1))
  show wpN _ _ _ _ _
  refine wpN_seq (wpN_of ?_)
  go_wp2_with fail
  (with_reducible refine (H20.out _).mono ?_)
  rintro e W1 ⟨h, v, S, rfl, hF1⟩
  obtain ⟨A1, c1, rfl, _, _⟩ := Kd.R_reads (hF1.rowAt (r := Fr.rowR (Kd.raw 2) 32 _ v (rowsOf []) S) List.mem_cons_self)
  rw [show (rowsOf []).length = 0 from rfl] at hF1
  have hF1 := frame_join hF.out hF1.noRows
  simp only [List.cons_append, List.nil_append, List.append_nil] at hF1
  go_wp2_with fail
  show wpN _ _ _ _ _
  refine wpN_seq (wpN_of ?_)
  go_wp2_with fail
  have hF2 := frame_mkchan hF1
  generalize W1.heap.size = ch at hF2 ⊢
  clear HC hF hF1
  have hF := Aside0.mk hF2
  have hc := blk_cell (hF2.blk _ List.mem_cons_self).2 0
  have hch := hF2.rowAt (r := chanR ch [] 0 0) List.mem_cons_self
  dsimp only [chanR] at hch
  clear hF2 H13 H19 H20 hmk
  show wpN _ _ _ _ _
  refine wpN_seq (wpN_block (wpN_loop_once (wpN_seq (wpN_of ?_))))
  go_wp2_with fail
  show wpN _ _ _ _ _
  refine wpN_seq (wpN_of ?_)
  go_wp2_with fail
  show wpN _ _ _ _ _
  refine wpN_block (wpN_loop_once ?_)
  refine wpN_block (wpN_seq (wpN_of ?_))
  go_wp2_with fail
  show wpN _ _ _ _ _
  refine wpN_seq ?_
  apply wpN_lone
  case h =>
    intro b hb k2 cs
    refine Conc.LoneTo.goes (n := 6) ?_
    s_reg
    s_stop
    refine Conc.LoneTo.step (Conc.step_lone_select_default (c := ch) (cap := 64) (s := 0) (r := 0) (tm := false) (z := .agg #[.int .i64 0, .int .i64 0]) (Conc.stepG_comm (cases := #[Conc.rcase ch (.agg #[.int .i64 0, .int .i64 0])]) (blocking := false) (shape := .select) (w' := _) rfl rfl hb ?hrun) hch) ?_
    case hrun => go_simp; first | rfl | (unfold Conc.rcase; rfl)
    rw [Frame.finish_at]
    walk_nrm
    refine Conc.LoneTo.goes (n := 6) ?_
    (s_in; refine Conc.goes_oper_k rfl rfl hb (fun K hK => ?_); go_simp; refine hK _ _ ⟨trivial, ?_⟩; clear hK K)
    (s_in; refine Conc.goes_oper_k rfl rfl hb (fun K hK => ?_); go_simp; refine hK _ _ ⟨trivial, ?_⟩; clear hK K)
    s_c Conc.stepG_region_end
    s_stop
    exact Conc.LoneTo.done ⟨rfl, rfl⟩
  case hq =>
    show wpN _ _ _ _ _
    refine wpN_of ?_
    go_wp2_with fail
    go_ret3
    exact ⟨⟨A1, c1, rfl⟩, hF.out.below⟩
theorem drain7_any (A : Option Addr) (c : Nat) (xs : List S32) (now : Int) (w : World) (hr : Kd.C k32 w A xs.length xs) (hd : duesB xs = true) (ht : tmB now = true) :
    Calls Try.prog 7 #[.slice A xs.length c, .int .i64 now] w fun e w' => ∃ (A1 : Option Addr) (c1 : Nat) (Ao : Option Addr) (co : Nat), e = .returned (.tuple #[.slice A1 (drainL xs.length (heapL xs) now).2.length c1, .slice Ao (drainL xs.length (heapL xs) now).1.length co, .int .i64 0]) ∧ (drainL xs.length (heapL xs) now).2.length ≤ c1 ∧ (drainL xs.length (heapL xs) now).1.length ≤ co ∧ Kd.C k32 w' A1 (drainL xs.length (heapL xs) now).2.length (drainL xs.length (heapL xs) now).2 ∧ Kd.C k32 w' Ao (drainL xs.length (heapL xs) now).1.length (drainL xs.length (heapL xs) now).1 ∧ Below w.heap.size w w' := by
  by_cases hp : 0 < xs.length
  · refine (drain7_ok A c xs now w hr hp hd ht).mono ?_
    rintro e w' ⟨g, c1, Ao, co, h⟩
    exact ⟨_, c1, Ao, co, h⟩
  · obtain rfl : xs = [] := List.eq_nil_of_length_eq_zero (by omega)
    refine (drain7_none A c now w ht).mono ?_
    rintro e w' ⟨A1, c1, rfl, hb⟩
    exact ⟨A1, c1, none, 0, rfl, Nat.zero_le _, Nat.zero_le _, ⟨rfl, by simp [drainL, heapL, initL], fun h => absurd h (by simp [drainL, heapL, initL])⟩, ⟨rfl, by simp [drainL], fun h => absurd h (by simp [drainL])⟩, hb⟩
theorem few6_calls (A : Option Addr) (n c : Nat) (w : World) (hc : n ≤ c) (hm : n ≤ 9223372036854775807) : Calls Try.prog 6 #[.slice A n c] w fun e w' => e = .returned (.slice A (min n 70) c) ∧ w = w' := by
  obtain ⟨m, hn⟩ : ∃ m, min n 70 = m := ⟨_, rfl⟩
  have h1 : (if (70 : Int) < (n : Int) then 70 else (n : Int)) = (m : Int) := by rw [← hn]; split <;> omega
  have h2 : m ≤ c := by omega
  rw [hn]
  clear hn hc
  go_enter Try.func6, Try.ntmps6
  go_wp2
  go_ret
  exact ⟨rfl, rfl⟩
theorem few_len (l : List S32) : (l.take 70).length = min l.length 70 := by rw [List.length_take]; omega
theorem few_C {w : World} {A : Option Addr} {l : List S32} (hr : Kd.C k32 w A l.length l) : Kd.C k32 w A (min l.length 70) (l.take 70) := by
  have h := Kd.C_take (m := min l.length 70) hr (by omega)
  have e : l.take (min l.length 70) = l.take 70 := by
    rcases Nat.le_total l.length 70 with h | h
    · rw [Nat.min_eq_left h, List.take_length, List.take_of_length_le h]
    · rw [Nat.min_eq_right h]
  rwa [e, few_len] at h
theorem sorted16_calls (A : Option Addr) (c : Nat) (l : List S32) (w : World) (hr : Kd.C k32 w A l.length l) (hc : l.length ≤ c) (hl : l.length ≤ 1000) :
    Calls Try.prog 16 #[.slice A l.length c] w fun e w' => ∃ A1 c1, e = .returned (.slice A1 l.length c1) ∧ l.length ≤ c1 ∧ Kd.C k32 w' A1 l.length (srt l) ∧ Below w.heap.size w w' := by
  obtain ⟨k, hk⟩ := sorted_ev l hl
  refine (foghornref09_Sorted.calls k A c l _ w hr hc (hk k (Nat.le_refl _))).mono ?_
  rintro e w' ⟨v, rfl, hR, hb⟩
  obtain ⟨A1, c1, rfl, hc1, hC⟩ := Kd.R_reads hR
  rw [srt_len] at hc1 hC ⊢
  exact ⟨A1, c1, rfl, hc1, hC, hb⟩
theorem same9_calls (A0 : Option Addr) (c0 : Nat) (A1 : Option Addr) (c1 : Nat) (l : List S32) (w : World) (n : Nat) (hn : l.length = n) (hr0 : Kd.C k32 w A0 n l) (hc0 : n ≤ c0) (hr1 : Kd.C k32 w A1 n l) (hc1 : n ≤ c1) (hl : n ≤ 1000) :
    Calls Try.prog 9 #[.slice A0 n c0, .slice A1 n c1] w fun e w' => e = .returned (.bool true) ∧ Below w.heap.size w w' := by
  subst hn
  obtain ⟨k, hk⟩ := same_ev l hl
  exact (foghornref09_Same.calls k A0 c0 l A1 c1 l true w hr0 hc0 hr1 hc1 (hk k (Nat.le_refl _))).mono fun e w' ⟨he, hb⟩ => ⟨he, hb.below⟩
set_option maxHeartbeats 2000000 in
theorem alike10_calls (A0 : Option Addr) (c0 : Nat) (l0 : List S32) (A1 : Option Addr) (c1 : Nat) (l1 : List S32) (w : World) (hr0 : Kd.C k32 w A0 l0.length l0) (hc0 : l0.length ≤ c0) (hr1 : Kd.C k32 w A1 l1.length l1) (hc1 : l1.length ≤ c1) (hs : srt (l0.take 70) = srt (l1.take 70)) :
    Calls Try.prog 10 #[.slice A0 l0.length c0, .slice A1 l1.length c1] w fun e w' => e = .returned (.bool true) ∧ Below w.heap.size w w' := by
  have hq : min l0.length 70 = min l1.length 70 := by rw [← few_len, ← few_len, ← srt_len, hs, srt_len]
  have hm0 := hr0.2.1
  have hm1 := hr1.2.1
  have F0 := Aside0.mk (few_C hr0)
  have F1 := Aside0.mk (few_C hr1)
  obtain ⟨n, hn⟩ : ∃ n, min l1.length 70 = n := ⟨_, rfl⟩
  have H60 := Aside0.mk (fun W => few6_calls A0 l0.length c0 W hc0 hm0)
  have H61 := Aside0.mk (fun W => few6_calls A1 l1.length c1 W hc1 hm1)
  have k0 := few_len l0
  have k1 := few_len l1
  rw [hq, hn] at F0 H60 k0
  rw [hn] at F1 H61 k1
  have hnl : n ≤ 70 := by omega
  have hnc0 : n ≤ c0 := by omega
  have hnc1 : n ≤ c1 := by omega
  have S0 := Aside0.mk (fun (W : World) (hb : Below w.heap.size w W) => sorted16_calls A0 c0 (l0.take 70) W (by rw [k0]; exact Kd.C_below F0.out hb) (by omega) (by omega))
  have S1 := Aside0.mk (fun (W : World) (hb : Below w.heap.size w W) => sorted16_calls A1 c1 (l1.take 70) W (by rw [k1]; exact Kd.C_below F1.out hb) (by omega) (by omega))
  rw [k0, hs] at S0
  rw [k1] at S1
  have ks : (srt (l1.take 70)).length = n := by rw [srt_len, k1]
  generalize srt (l1.take 70) = s at S0 S1 ks
  have KS := Aside0.mk ks
  have HNL := Aside0.mk hnl
  clear hr0 hr1 hs F0 F1 k0 k1 hq hn hnl hnc0 hnc1 ks hm0 hm1
  go_enter Try.func10, Try.ntmps10
  go_wp2_with fail
  (with_reducible refine (H60.out _).mono ?_)
  rintro e W ⟨rfl, rfl⟩
  go_wp2_with fail
  (with_reducible refine (S0.out _ (Below.refl _ _)).mono ?_)
  rintro e W1 ⟨B0, d0, rfl, hd0, hC0, hb1⟩
  have HD0 := Aside0.mk hd0
  have HC0 := Aside0.mk hC0
  have HB1 := Aside0.mk hb1
  clear hd0 hC0 hb1
  go_wp2_with fail
  (with_reducible refine (H61.out _).mono ?_)
  rintro e W ⟨rfl, rfl⟩
  go_wp2_with fail
  (with_reducible refine (S1.out _ HB1.out).mono ?_)
  rintro e W2 ⟨B1, d1, rfl, hd1, hC1, hb2⟩
  have HD1 := Aside0.mk hd1
  have HC1 := Aside0.mk hC1
  have HC0' := Aside0.mk (Kd.C_below HC0.out hb2)
  have HB2 := Aside0.mk (below_then HB1.out HB1.out.size hb2)
  clear hd1 hC1 hb2
  go_wp2_with fail
  (with_reducible refine (same9_calls B0 d0 B1 d1 s _ n KS.out HC0'.out HD0.out HC1.out HD1.out (by have := HNL.out; omega)).mono ?_)
  rintro e W3 ⟨rfl, hb3⟩
  have HB3 := Aside0.mk (below_then HB2.out HB2.out.size hb3)
  clear hb3
  go_wp2_with fail
  go_ret
  exact ⟨rfl, HB3.out⟩
theorem add0 (p : Addr) : (p.add 0).block = p.block ∧ (p.add 0).off = p.off := by unfold Addr.add; split <;> simp
def three : List S32 := [⟨5, 1⟩, ⟨3, 9⟩, ⟨3, 2⟩]
theorem three_is : drainL three.length (heapL three) 4 = ([⟨3, 2⟩, ⟨3, 9⟩], [⟨5, 1⟩]) := by rfl
set_option maxHeartbeats 2000000 in
theorem alive8_calls (w : World) : Calls Try.prog 8 #[] w fun e w' => e = .returned (.bool true) ∧ Below w.heap.size w w' := by
  have H7 := Aside0.mk (fun (A : Option Addr) (W : World) (hr : Kd.C k32 W A 3 three) => drain7_any A 3 three 4 W hr (by decide) (by decide))
  rw [three_is, show three.length = 3 from rfl] at H7
  go_enter Try.func8, Try.ntmps8
  go_wp2_with fail
  have hF := (Fr.Frame.start w).alloc (flat three) 32
  have hC3 : Kd.C k32 (w.alloc (.cells #[.int .i64 5, .int .i64 1, .int .i64 3, .int .i64 9, .int .i64 3, .int .i64 2] 32)) (some ⟨w.heap.size, 0, none⟩) 3 three := C_blk (hF.blk _ List.mem_cons_self).2 (K_flat _ three) (by decide)
  (with_reducible refine (H7.out _ _ hC3).mono ?_)
  rintro e W ⟨A1, c1, Ao, co, rfl, _, _, hC1, hC2, hb⟩
  have hB := Aside0.mk (below_then hF.below hF.below.size hb)
  obtain ⟨p, rfl, _, p1⟩ := at_T32 hC1 0 (by decide) (by decide)
  obtain ⟨q, rfl, _, q1⟩ := at_T32 hC2 0 (by decide) (by decide)
  replace p1 : W.cell? ⟨p.block, p.off + 1, none⟩ = some (.int .i64 1) := by simpa [rd_T32, add0 p] using p1
  replace q1 : W.cell? ⟨q.block, q.off + 1, none⟩ = some (.int .i64 2) := by simpa [rd_T32, add0 q] using q1
  clear hF hb hC1 hC2
  simp only [List.length_cons, List.length_nil]
  go_wp2_with fail
  go_ret
  exact ⟨rfl, hB.out⟩
section
variable {P : Program} {ops : Array Oper} {rest : List Oper} {o : Oper} {a : Act} {Q : Exit → Act → World → Prop} {w0 W : World} {bs : List Fr.Blk}
theorem fr_rowsG {S : Nat → Prop} {v : Value} {xs ys : List S32} (s x : Operand) (t : TypeId) (z : Value) (bytes : Nat) {A : Option Addr} {m c : Nat}
    (hF : Fr.Frame w0 W bs [Fr.rowR k32 32 w0.heap.size v xs S]) (hw : Region.wanted o (yielded ops a.tmps) = true) (ho : o.op = .call { callee := .builtin .append, args := #[s, x], argTypes := #[t, t] })
    (ht : P.underlying t = some (.slice 32)) (hinfo : (P.info? 32).map (fun i => (i.zero, i.size, i.bytes)) = some (some z, k32.sz, bytes)) (hz : z.cells.size = k32.sz) (hb0 : 0 < bytes)
    (hs : a.eval s = v) (hx : a.eval x = .slice A m c) (hC : Kd.C k32 W A m ys) (hl : (xs.length + m) * bytes ≤ 140737488355328)
    (h : ∀ v1 w1 S1, Fr.Frame w0 w1 bs [Fr.rowR k32 32 w0.heap.size v1 (xs ++ ys) S1] → wpList P ops Q rest (a.put o.dst v1) w1) : wpList P ops Q (o :: rest) a W := by
  have hr := hF.row (Fr.rowR k32 32 w0.heap.size v xs S) List.mem_cons_self
  have hRS : k32.R 32 W w0.heap.size S v xs := hr.1
  have hdis : ∀ k, S k → ∀ b ∈ bs, k ≠ b.1 := fun k hk b hb he => hr.2.2 b hb (by subst he; exact hk)
  refine wpList_step fun K hK => ?_
  have key := Kd.R_append_rows_step (P := P) (Q := Q) (Kc := K) k32 (Rr := k32.K W) (w0 := w0) w0.heap.size hw s x t 32 z bytes ho ht hinfo hz (by decide) hb0 v xs ys A m c (fun k => ∀ b ∈ bs, k ≠ b.1) (fun _ => False) hs hx (Kd.R_mono hRS hdis) hC (fun x cs hk => by rw [k32_open hk]; exact k32_mkM _ _ _ x) (fun _ hk => hk.elim) (fun k hk b hb he => by have := hF.lt hb; omega) hF.below hF.below.size hl (fun v1 w1 ho1 hb1 hg1 hat1 => by
    have hF1 : Fr.Frame w0 w1 bs [] := ⟨hb1, fun b hb => ⟨(hF.blk b hb).1, blk_grown (hF.blk b hb).2 hg1 (fun e1 => hdis b.1 (hRS.1 b.1 e1.symm) b hb rfl)⟩, hF.nodup, by simp⟩
    obtain ⟨S1, hS1⟩ := hF1.rowIn ho1 (fun k hk => hk)
    exact hK _ _ (h v1 w1 S1 hS1))
  rw [if_pos hw] at key ⊢
  exact key
theorem empty_row (w : World) : ∃ S, Fr.Frame w (w.alloc (.cells #[] 32)) [] [Fr.rowR k32 32 w.heap.size (.slice (some ⟨w.heap.size, 0, none⟩) 0 0) [] S] :=
  ((Fr.Frame.start w).call ((Below.refl _ w).alloc (Nat.le_refl _) (.cells #[] 32))).rowIn (R_empty k32 32 _ w.heap.size w.heap.size (fun _ => True) (Nat.le_refl _) (heap_alloc_new w _) trivial) (fun k _ b hb => by simp at hb)
end
theorem upto_more {xs : List S32} (h : inOrder xs) {now n2 : Int} (hle : now ≤ n2) : xs.filter (upTo now) ++ (xs.filter (fun x => !upTo now x)).filter (upTo n2) = xs.filter (upTo n2) := by
  refine order_one ?_ (filter_order h) ?_
  · refine List.pairwise_append.2 ⟨filter_order h, filter_order (filter_order h), fun x hx y hy => ?_⟩
    have h1 := (List.mem_filter.1 hx).2
    have h2 := (List.mem_filter.1 (List.mem_filter.1 hy).1).2
    unfold upTo at h1 h2
    simp at h1 h2
    rw [less_no]
    omega
  · have e : (xs.filter (upTo n2)).filter (upTo now) = xs.filter (upTo now) := by
      rw [List.filter_filter]
      exact List.filter_congr (fun x _ => by unfold upTo; by_cases h1 : x.f0 ≤ now <;> simp [h1]; omega)
    have e2 : (xs.filter (fun x => !upTo now x)).filter (upTo n2) = (xs.filter (upTo n2)).filter (fun x => !upTo now x) := by
      rw [List.filter_filter, List.filter_filter]
      exact List.filter_congr (fun x _ => Bool.and_comm _ _)
    rw [← e, e2]
    exact List.filter_append_perm _ _
theorem nowN_ok (now : Int) : 0 ≤ wrap64 ((IntKind.u64.wrap now).tmod 1099511626776) ∧ wrap64 ((IntKind.u64.wrap now).tmod 1099511626776) < 1099511626776 := by
  have h1 : 0 ≤ IntKind.u64.wrap now := by unfold IntKind.wrap; simp [IntKind.bits, IntKind.signed]; omega
  generalize IntKind.u64.wrap now = x at h1 ⊢
  rw [Int.tmod_eq_emod_of_nonneg h1]
  unfold wrap64
  omega
theorem moreN_ok (more : Int) : 0 ≤ (wrap64 (more.tmod 1000 + 1000)).tmod 1000 ∧ (wrap64 (more.tmod 1000 + 1000)).tmod 1000 < 1000 := by
  have h1 : -1000 < more.tmod 1000 ∧ more.tmod 1000 < 1000 := ⟨Int.lt_tmod_of_pos more (by omega), Int.tmod_lt_of_pos more (by omega)⟩
  generalize more.tmod 1000 = x at h1 ⊢
  have h2 : wrap64 (x + 1000) = x + 1000 := by unfold wrap64; omega
  rw [h2, Int.tmod_eq_emod_of_nonneg (by omega)]
  omega
set_option maxHeartbeats 2000000 in
set_option maxRecDepth 100000 in
theorem drains3_bad (A : Option Addr) (c : Nat) (l : List S32) (now more : Int) (w : World) (hr : Kd.C k32 w A l.length l) (hc : l.length ≤ c) (hd : duesB (l.take 70) = false) : Calls Try.prog 3 #[.slice A l.length c, .int .i64 now, .int .i64 more] w fun e w' => e = .returned (.bool true) ∧ Below w.heap.size w w' := by
  have hm := hr.2.1
  have H6 := Aside0.mk (fun W => few6_calls A l.length c W hc hm)
  have H7 := Aside0.mk (fun (n : Int) => drain7_bad A c (l.take 70) n w (by rw [few_len]; exact few_C hr) (by rw [hd]; rfl))
  rw [few_len] at H7
  clear hr hc hd
  go_enter Try.func3, Try.ntmps3
  go_wp2_with fail
  (with_reducible refine (H6.out _).mono ?_)
  rintro e W ⟨rfl, rfl⟩
  go_wp2_with fail
  generalize wrap64 ((IntKind.u64.wrap now).tmod 1099511626776) = n1
  generalize (wrap64 (more.tmod 1000 + 1000)).tmod 1000 = n2
  (with_reducible refine (H7.out n1).mono ?_)
  rintro e W ⟨rfl, hb⟩
  have HB := Aside0.mk hb
  clear hb
  go_wp2_with fail
  (with_reducible refine (alive8_calls _).mono ?_)
  rintro e W1 ⟨rfl, hb⟩
  have HB1 := Aside0.mk (below_then HB.out HB.out.size hb)
  clear hb
  go_wp2_with fail
  go_ret
  exact ⟨rfl, HB1.out⟩
theorem dues_sub {L ys : List S32} (h : duesB L = true) (hm : ∀ x ∈ ys, x ∈ L) (hl : ys.length ≤ L.length) : duesB ys = true := by
  unfold duesB at h ⊢
  simp only [Bool.and_eq_true, decide_eq_true_eq, Bool.not_eq_true', List.any_eq_false] at h ⊢
  exact ⟨by omega, fun x hx => h.2 x (hm x hx)⟩
theorem drained_sub {L : List S32} (h : duesB L = true) (now : Int) : duesB (drainL L.length (heapL L) now).2 = true := by
  obtain ⟨_, h2, h3⟩ := drained L now
  refine dues_sub h (fun x hx => ?_) (by omega)
  have h4 : x ∈ srt (drainL L.length (heapL L) now).2 := (srt_perm _).mem_iff.2 hx
  rw [h2] at h4
  exact (srt_perm _).mem_iff.1 (List.mem_filter.1 h4).1
theorem drained_twice (L : List S32) {n1 n2 : Int} (hle : n1 ≤ n2) :
    (drainL L.length (heapL L) n1).1 ++ (drainL (drainL L.length (heapL L) n1).2.length (heapL (drainL L.length (heapL L) n1).2) n2).1 = (drainL L.length (heapL L) n2).1 ∧
    srt (drainL (drainL L.length (heapL L) n1).2.length (heapL (drainL L.length (heapL L) n1).2) n2).2 = srt (drainL L.length (heapL L) n2).2 := by
  obtain ⟨a1, a2, a3⟩ := drained L n1
  obtain ⟨b1, b2, b3⟩ := drained L n2
  obtain ⟨c1, c2, c3⟩ := drained (drainL L.length (heapL L) n1).2 n2
  rw [c1, a1, a2, b1, upto_more (srt_order L) hle, c2, a2, b2]
  refine ⟨rfl, ?_⟩
  rw [List.filter_filter]
  refine List.filter_congr fun x _ => ?_
  unfold upTo
  by_cases h1 : x.f0 ≤ n1
  · simp [h1]; omega
  · simp [h1]
set_option maxHeartbeats 4000000 in
set_option maxRecDepth 100000 in
theorem drains3_ok (A : Option Addr) (c : Nat) (l : List S32) (now more : Int) (w : World) (hr : Kd.C k32 w A l.length l) (hc : l.length ≤ c) (hd : duesB (l.take 70) = true) : Calls Try.prog 3 #[.slice A l.length c, .int .i64 now, .int .i64 more] w fun e w' => e = .returned (.bool true) ∧ Below w.heap.size w w' := by
  have hm := hr.2.1
  have H6 := Aside0.mk (fun W => few6_calls A l.length c W hc hm)
  obtain ⟨b0, b1⟩ := nowN_ok now
  obtain ⟨b2, b3⟩ := moreN_ok more
  have hL64 : (l.take 70).length ≤ 64 := by unfold duesB at hd; simp only [Bool.and_eq_true, decide_eq_true_eq] at hd; exact hd.1
  generalize hn1 : wrap64 ((IntKind.u64.wrap now).tmod 1099511626776) = n1 at b0 b1
  generalize hn2 : (wrap64 (more.tmod 1000 + 1000)).tmod 1000 = n2 at b2 b3
  have t1 : tmB n1 = true := by unfold tmB; rw [decide_eq_true b0, decide_eq_true (by omega)]; rfl
  have t2 : tmB (n1 + n2) = true := by unfold tmB; rw [decide_eq_true (by omega), decide_eq_true (by omega)]; rfl
  have hC := few_C hr
  have hFL := few_len l
  generalize l.take 70 = L at hd hC hL64 hFL
  obtain ⟨m, hmm⟩ : ∃ m, min l.length 70 = m := ⟨_, rfl⟩
  have hmc : m ≤ c := by omega
  rw [hmm] at hC hFL H6
  subst hFL
  have tw := drained_twice L (show n1 ≤ n1 + n2 by omega)
  have d1 := drained_sub hd n1
  have e1 := (drained L n1).2.2
  have e2 := (drained L (n1 + n2)).2.2
  have e3 := (drained (drainL L.length (heapL L) n1).2 (n1 + n2)).2.2
  have H71 := Aside0.mk (drain7_any A c L n1 w hC hd t1)
  have H73 := Aside0.mk (fun (W : World) (hb : Below w.heap.size w W) => drain7_any A c L (n1 + n2) W (Kd.C_below hC hb) hd t2)
  have H72 := Aside0.mk (fun (A1 : Option Addr) (c1 : Nat) (W : World) (hC1 : Kd.C k32 W A1 (drainL L.length (heapL L) n1).2.length (drainL L.length (heapL L) n1).2) => drain7_any A1 c1 (drainL L.length (heapL L) n1).2 (n1 + n2) W hC1 d1 t2)
  generalize drainL L.length (heapL L) n1 = R1 at tw d1 e1 e3 H71 H72
  generalize drainL R1.2.length (heapL R1.2) (n1 + n2) = R2 at tw e3 H72
  generalize drainL L.length (heapL L) (n1 + n2) = R3 at tw e2 H73
  obtain ⟨o1, k1⟩ := R1
  obtain ⟨o2, k2⟩ := R2
  obtain ⟨o3, k3⟩ := R3
  dsimp only at tw d1 e1 e2 e3 H71 H72 H73
  obtain ⟨tw1, tw2⟩ := tw
  subst tw1
  have HO := Aside0.mk (And.intro e1 (And.intro e2 (And.intro e3 hL64)))
  have HAL := Aside0.mk (show srt (k2.take 70) = srt (k3.take 70) by rw [List.take_of_length_le (by omega), List.take_of_length_le (by omega), tw2])
  have hsum : ((o1 ++ o2).length : Int) + (k3.length : Int) = (L.length : Int) := by omega
  have hap : (o1 ++ o2).length = o1.length + o2.length := List.length_append
  have HAP := Aside0.mk hap
  clear hr hc hd hm hC t1 t2 d1 e1 e2 e3 tw2 hmm hap
  obtain ⟨n3, hn3⟩ : ∃ n3, (o1 ++ o2).length = n3 := ⟨_, rfl⟩
  rw [hn3] at hsum HAP H73
  have HN3 := Aside0.mk hn3
  obtain ⟨m, hmL⟩ : ∃ m, L.length = m := ⟨_, rfl⟩
  rw [hmL] at hsum H71 H73 HO hmc H6
  clear hn3 hL64 hmL
  go_enter Try.func3, Try.ntmps3
  go_wp2_with fail
  (with_reducible refine (H6.out _).mono ?_)
  rintro e W ⟨rfl, rfl⟩
  go_wp2_with fail
  rw [hn1]
  (with_reducible refine H71.out.mono ?_)
  rintro e W1 ⟨B1, c1, Bo, co, rfl, hc1, hco, hC1, hCo, hb1⟩
  have HC1 := Aside0.mk hC1
  have HCo := Aside0.mk hCo
  have HB1 := Aside0.mk hb1
  clear hC1 hCo hb1 hn1 hn2 H6 H71
  go_wp2_with fail
  (with_reducible refine (H72.out B1 c1 _ HC1.out).mono ?_)
  rintro e W2 ⟨B2, c2, Bp, cp, rfl, hc2, hcp, hC2, hCp, hb2⟩
  have HC2 := Aside0.mk hC2
  have HCp := Aside0.mk hCp
  have HCo2 := Aside0.mk (Kd.C_below HCo.out hb2)
  have HB2 := Aside0.mk (below_then HB1.out HB1.out.size hb2)
  clear hC2 hCp hb2 H72 HCo HC1
  go_wp2_with fail
  (with_reducible refine (H73.out _ HB2.out).mono ?_)
  rintro e W3 ⟨B3, c3, Bq, cq, rfl, hc3, hcq, hC3, hCq, hb3⟩
  have HC3 := Aside0.mk hC3
  have HCq := Aside0.mk hCq
  have HC23 := Aside0.mk (Kd.C_below HC2.out hb3)
  have HCp3 := Aside0.mk (Kd.C_below HCp.out hb3)
  have HCo3 := Aside0.mk (Kd.C_below HCo2.out hb3)
  have HB3 := Aside0.mk (below_then HB2.out HB2.out.size hb3)
  clear hC3 hCq hb3 H73 HCo2 HC2 HCp
  go_wp2_with fail
  (with_reducible refine (alive8_calls _).mono ?_)
  rintro e W4 ⟨rfl, hb4⟩
  have HC4 := Aside0.mk (Kd.C_below HC3.out hb4)
  have HCq4 := Aside0.mk (Kd.C_below HCq.out hb4)
  have HC24 := Aside0.mk (Kd.C_below HC23.out hb4)
  have HCp4 := Aside0.mk (Kd.C_below HCp3.out hb4)
  have HCo4 := Aside0.mk (Kd.C_below HCo3.out hb4)
  have HB4 := Aside0.mk (below_then HB3.out HB3.out.size hb4)
  obtain ⟨S0, hE⟩ := empty_row W4
  have HE := Aside0.mk hE
  clear hb4 HC3 HCq HC23 HCp3 HCo3 hE
  go_wp2_with (first | ((with_reducible refine gate_builtin (b := .append) (xs := #[.tmp 74, .tmp 75]) rfl ?_); refine fr_rowsG (ys := o1) (.tmp 74) (.tmp 75) 22 (.agg #[.int .i64 0, .int .i64 0]) 16 HE.out (by rfl) rfl Try.underlying22 (by kernel_rfl) rfl (by decide) rfl rfl (Kd.C_below HCo4.out HE.out.below) (by have := HO.out; simp; omega) ?_; intro v1 W5 S1 hF1; rw [List.nil_append] at hF1; clear HE; have HE := Aside0.mk hF1; clear hF1) | ((with_reducible refine gate_builtin (b := .append) (xs := #[.tmp 76, .tmp 77]) rfl ?_); refine fr_rowsG (ys := o2) (.tmp 76) (.tmp 77) 22 (.agg #[.int .i64 0, .int .i64 0]) 16 HE.out (by rfl) rfl Try.underlying22 (by kernel_rfl) rfl (by decide) rfl rfl (Kd.C_below HCp4.out HE.out.below) (by have := HO.out; omega) ?_; intro v2 W6 S2 hF1; clear HE; obtain ⟨Av, cv, rfl, hcv, hCv⟩ := Kd.R_reads (hF1.rowAt (r := Fr.rowR k32 32 _ v2 (o1 ++ o2) S2) List.mem_cons_self); have HE := Aside0.mk hF1; rw [HN3.out] at hcv hCv; have HCv := Aside0.mk hCv; have HCVC := Aside0.mk hcv; rw [HN3.out]; clear hF1 hcv hCv))
  (with_reducible refine (same9_calls Av cv Bq cq (o1 ++ o2) _ n3 HN3.out HCv.out HCVC.out (Kd.C_below HCq4.out HE.out.below) hcq (by have := HO.out; have := HAP.out; omega)).mono ?_)
  rintro e W7 ⟨rfl, hb7⟩
  have HB5 := Aside0.mk (below_then HE.out.below HE.out.below.size hb7)
  have HB6 := Aside0.mk (below_then HB4.out HB4.out.size HB5.out)
  clear hb7
  go_wp2_with fail
  (with_reducible refine (alike10_calls B2 c2 k2 B3 c3 k3 _ (Kd.C_below HC24.out HB5.out) hc2 (Kd.C_below HC4.out HB5.out) hc3 HAL.out).mono ?_)
  rintro e W8 ⟨rfl, hb8⟩
  have HB7 := Aside0.mk (below_then HB6.out HB6.out.size hb8)
  clear hb8
  go_wp2_with fail
  go_ret
  have hwm : wrap64 (m : Int) = (m : Int) := by have := HO.out; unfold wrap64; omega
  exact ⟨by show Ending.returned (.bool (wrap64 (m : Int) == (m : Int))) = _; rw [hwm]; simp, HB7.out⟩
theorem drains3_calls (A : Option Addr) (c : Nat) (l : List S32) (now more : Int) (w : World) (hr : Kd.C k32 w A l.length l) (hc : l.length ≤ c) : Calls Try.prog 3 #[.slice A l.length c, .int .i64 now, .int .i64 more] w fun e w' => e = .returned (.bool true) ∧ Below w.heap.size w w' := by
  cases hd : duesB (l.take 70) with
  | true => exact drains3_ok A c l now more w hr hc hd
  | false => exact drains3_bad A c l now more w hr hc hd
end Go.Proofs.Ytlkaebnigmfphaa.G
