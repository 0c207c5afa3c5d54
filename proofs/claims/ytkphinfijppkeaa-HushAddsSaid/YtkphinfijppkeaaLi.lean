/- Contracts of functions of the given program: what each comes to, for any arguments. No condition beyond each theorem's own premises. -/
import Derived.WalkSpells
import Derived.Deep.Slices
import Derived.Test.YtkphinfijppkeaaLh
namespace Go.Proofs.Ytkphinfijppkeaa.G
open Go.RowKit Go.Proofs.YtkphinfijppkeaaW.PrintWords Go.Proofs.YtkphinfijppkeaaW.PrintLast Go.Proofs.YtkphinfijppkeaaW.PrintMore
attribute [local go_sem] max2_int min2_int max_two min_two max_three min_three max_four min_four
set_option linter.unusedVariables false
set_option linter.unusedSimpArgs false
/-! Rows by their cells. -/
theorem rows_of {α : Type} {d : Kd α} {w : World} {A : Option Addr} {xs : List α} (h : Kd.C d w A xs.length xs) : ∃ rows : List (List Value), rows.length = xs.length ∧ (∀ (j : Nat) (x : α) (c : List Value), xs[j]? = some x → rows[j]? = some c → d.K w x c) ∧ Kd.C (Kd.raw d.sz) w A rows.length rows := by
  obtain ⟨h1, h2, h3⟩ := h
  by_cases hp : 0 < xs.length
  · obtain ⟨ad, rfl, h4⟩ := h3 hp
    have key : ∀ n, n ≤ xs.length → ∃ rows : List (List Value), rows.length = n ∧ ∀ (j : Nat) (x : α) (c : List Value), xs[j]? = some x → rows[j]? = some c → c.length = d.sz ∧ d.K w x c ∧ ∀ i u, c[i]? = some u → w.cell? (ad.add (j * d.sz + i)) = some u := by
      intro n
      induction n with
      | zero => exact fun _ => ⟨[], rfl, fun j x c _ hc => by simp at hc⟩
      | succ n ih =>
        intro hn
        obtain ⟨rows, hl, hr⟩ := ih (by omega)
        obtain ⟨c, hc⟩ := h4 n _ (List.getElem?_eq_getElem (show n < xs.length by omega))
        refine ⟨rows ++ [c], by simp [hl], fun j x c' hx hc' => ?_⟩
        by_cases e : j < n
        · rw [List.getElem?_append_left (by omega)] at hc'
          exact hr j x c' hx hc'
        · have ej : j = n := by
            have := (List.getElem?_eq_some_iff.1 hc').1
            simp at this; omega
          subst ej
          rw [List.getElem?_append_right (by omega), hl] at hc'
          simp at hc'
          subst hc'
          rw [List.getElem?_eq_getElem (by omega)] at hx
          injection hx with hx
          subst hx
          exact hc
    obtain ⟨rows, hl, hr⟩ := key xs.length (Nat.le_refl _)
    refine ⟨rows, hl, fun j x c hx hc => (hr j x c hx hc).2.1, rfl, by omega, fun _ => ⟨ad, rfl, fun j c hc => ?_⟩⟩
    have hj : j < xs.length := by have := (List.getElem?_eq_some_iff.1 hc).1; omega
    obtain ⟨k1, k2, k3⟩ := hr j _ c (List.getElem?_eq_getElem hj) hc
    exact ⟨c, k1, ⟨rfl, k1, d.K_one k2⟩, k3⟩
  · obtain rfl : xs = [] := List.eq_nil_of_length_eq_zero (by omega)
    exact ⟨[], rfl, fun j x c hx _ => by simp at hx, rfl, by simp, fun h => absurd h (by simp)⟩
theorem of_rows {α : Type} {d : Kd α} {w : World} {A : Option Addr} {xs : List α} {rows : List (List Value)} (hl : rows.length = xs.length) (hK : ∀ (j : Nat) (x : α) (c : List Value), xs[j]? = some x → rows[j]? = some c → d.K w x c) (h : Kd.C (Kd.raw d.sz) w A rows.length rows) : Kd.C d w A xs.length xs := by
  obtain ⟨h1, h2, h3⟩ := h
  refine ⟨rfl, by omega, fun hp => ?_⟩
  obtain ⟨ad, e, h4⟩ := h3 (by omega)
  refine ⟨ad, e, fun j x hx => ?_⟩
  have hj : j < rows.length := by have := (List.getElem?_eq_some_iff.1 hx).1; omega
  obtain ⟨c, k1, k2, k3⟩ := h4 j _ (List.getElem?_eq_getElem hj)
  refine ⟨c, k1, ?_, k3⟩
  rw [show c = rows[j] from k2.1]
  exact hK j x _ hx (List.getElem?_eq_getElem hj)
/-- The cells of rows, one behind the other. -/
theorem flat_cells {sz : Nat} (hs : 0 < sz) {w : World} {ad : Addr} : ∀ {rows : List (List Value)}, (∀ c ∈ rows, c.length = sz) → (∀ j c, rows[j]? = some c → ∀ i u, c[i]? = some u → w.cell? (ad.add (j * sz + i)) = some u) → ∀ j u, rows.flatten[j]? = some u → w.cell? (ad.add j) = some u := by
  intro rows
  induction rows generalizing ad with
  | nil => intro _ _ j u hu; simp at hu
  | cons c r ih =>
    intro hl hc j u hu
    rw [List.flatten_cons] at hu
    have hcl := hl c (by simp)
    by_cases hj : j < sz
    · rw [List.getElem?_append_left (by omega)] at hu
      have := hc 0 c rfl j u hu
      simpa using this
    · rw [List.getElem?_append_right (by omega), hcl] at hu
      have := ih (ad := ad.add sz) (fun c' h => hl c' (by simp [h])) (fun j' c' h i' u' hu' => by
        have h9 := hc (j' + 1) c' (by simpa using h) i' u' hu'
        rw [Go.Deep.add_add]
        rw [show sz + (j' * sz + i') = (j' + 1) * sz + i' by rw [Nat.add_mul]; omega]
        exact h9) (j - sz) u hu
      rw [Go.Deep.add_add] at this
      rwa [show sz + (j - sz) = j by omega] at this
theorem reps_flat {sz : Nat} (w : World) (base : Nat) (ok : Nat → Prop) : ∀ {rows : List (List Value)}, (∀ c ∈ rows, c.length = sz ∧ ∀ u ∈ c, u.oneCell' = true) → Reps ((Kd.raw sz).M w base ok) (Kd.raw sz).sz rows rows.flatten := by
  intro rows
  induction rows with
  | nil => intro _; exact Reps.none _ _
  | cons c r ih =>
    intro h
    have h1 := (Reps.none ((Kd.raw sz).M w base ok) (Kd.raw sz).sz).snoc (p := c) (c := c) ⟨rfl, h c (by simp)⟩ (h c (by simp)).1
    have := Kd.reps_append h1 (ih (fun c' hc => h c' (by simp [hc])))
    simpa using this
section
variable {P : Program} {ops : Array Oper} {rest : List Oper} {o : Oper} {a : Act} {Q : Exit → Act → World → Prop} {w0 W : World} {bs : List Fr.Blk}
/-- 'append(out, l...)': a row that is not one's own, of one element at least, by its cells. -/
theorem fr_appendF {sz : Nat} {S : Nat → Prop} {v : Value} {xs : List (List Value)} (s x : Operand) (t e : TypeId) (z : Value) (bytes : Nat) (A : Option Addr) (c : Nat) (rows : List (List Value))
    (hF : Fr.Frame w0 W bs [Fr.rowR (Kd.raw sz) e w0.heap.size v xs S]) (hgd : o.guard = none) (ho : o.op = .call { callee := .builtin .append, args := #[s, x], argTypes := #[t, t] })
    (ht : P.underlying t = some (.slice e)) (hinfo : (P.info? e).map (fun i => (i.zero, i.size, i.bytes)) = some (some z, sz, bytes)) (hz : z.cells.size = sz) (hs0 : 0 < sz) (hb0 : 0 < bytes)
    (hs : a.eval s = v) (hx : a.eval x = .slice A rows.length c) (hC : Kd.C (Kd.raw sz) W A rows.length rows) (hp : 0 < rows.length) (hl : (xs.length + rows.length) * bytes ≤ 140737488355328)
    (h : ∀ v1 w1 S1, Fr.Frame w0 w1 bs [Fr.rowR (Kd.raw sz) e w0.heap.size v1 (xs ++ rows) S1] → wpList P ops Q rest (a.put o.dst v1) w1) : wpList P ops Q (o :: rest) a W := by
  have hr := hF.row (Fr.rowR (Kd.raw sz) e w0.heap.size v xs S) List.mem_cons_self
  have hRS : (Kd.raw sz).R e W w0.heap.size S v xs := hr.1
  have hdis : ∀ k, S k → ∀ b ∈ bs, k ≠ b.1 := fun k hk b hb he => hr.2.2 b hb (by subst he; exact hk)
  obtain ⟨ad, rfl, hcc⟩ := hC.2.2 hp
  have hall : ∀ c' ∈ rows, c'.length = sz ∧ ∀ u ∈ c', u.oneCell' = true := fun c' hc' => by
    obtain ⟨j, hj, rfl⟩ := List.mem_iff_getElem.1 hc'
    obtain ⟨c2, k1, k2, _⟩ := hcc j _ (List.getElem?_eq_getElem hj)
    have : c2 = rows[j] := k2.1
    rw [← this]
    exact ⟨k1, k2.2.2⟩
  have hnews : ∀ j u, rows.flatten[j]? = some u → W.cell? (ad.add j) = some u := flat_cells hs0 (fun c' h => (hall c' h).1) (fun j c' hj i u hu => by
    obtain ⟨c2, k1, k2, k3⟩ := hcc j c' hj
    have : c2 = c' := k2.1
    subst this
    exact k3 i u hu)
  obtain ⟨v1, w1, hrun, h1, h2, hg⟩ := Fr.R_append_keep (P := P) (Kd.raw sz) w0.heap.size t o.type e z bytes ht hinfo hz hs0 hb0 (Kd.R_mono hRS hdis) (fun w ok => reps_flat w _ ok hall) (fun u hu => by
    obtain ⟨c', hc', hu'⟩ := List.mem_flatten.1 hu
    exact (hall c' hc').2 u hu') ad rows.length c rfl hnews hl hF.below.size (fun k hk b hb he => by have := hF.lt hb; omega)
  have hF0 : Fr.Frame w0 W bs [] := hF.noRows
  have hF1 : Fr.Frame w0 w1 bs [] := ⟨hF0.below.grown hg hF.below.size (fun k hk => Kd.R_base hRS k hk), fun b hb => ⟨(hF0.blk b hb).1, blk_grown (hF0.blk b hb).2 hg (fun e1 => hdis b.1 (hRS.1 b.1 e1.symm) b hb rfl)⟩, hF0.nodup, by simp⟩
  obtain ⟨S1, hS1⟩ := hF1.rowIn h1 (fun k hk => hk)
  refine wpList_plain hgd fun K hK => ?_
  unfold Oper.wp execOp
  simp only [ho, resolve, invoke, builtin, Sem.run_bind, Sem.run_pure, Result.andThen_ok, List.map_toArray, List.map_cons, List.map_nil, hs, hx, hrun]
  exact hK _ _ (h v1 w1 S1 hS1)
end
theorem R_empty {α : Type} (d : Kd α) (e : Nat) (w : World) (base g : Nat) (ok : Nat → Prop) (hb : base ≤ g) (hg : w.heap[g]? = some (.cells #[] e (0, 0))) (hok : ok g) : d.R e w base ok (.slice (some ⟨g, 0, none⟩) 0 0) [] := by
  refine ⟨fun k hk => ?_, [], ⟨by simp, .inr ⟨g, 0, #[], rfl, hb, hg, Nat.le_refl _, by simp [maxLen], by simp, by simp⟩⟩, Reps.none _ _⟩
  have : g = k := by simpa [Value.ownBlock] using hk
  rw [← this]; exact hok
set_option maxHeartbeats 4000000 in
theorem clone_some (A : Option Addr) (c : Nat) (rows : List (List Value)) (w : World) (hr : Kd.C (Kd.raw 3) w A rows.length rows) (hp : 0 < rows.length) (hl : rows.length ≤ 1000) :
    Calls Try.prog 57 #[.slice A rows.length c] w fun e w' => ∃ v, e = .returned v ∧ (Kd.raw 3).R 25 w' w.heap.size (fun _ => True) v rows ∧ Below w.heap.size w w' := by
  obtain ⟨ad, rfl, _⟩ := hr.2.2 hp
  have HR := Aside0.mk hr
  clear hr
  have hnil : ∀ (w : World) (n c : Nat), (binOp .eql 22 (.slice (some ad) n c) (.slice none 0 0)).run Try.prog w = .ok (.bool false) w := fun w n c => by
    have := Lib.run_eql_slice_nil w 22 25 (some ad) n c 0 0 Try.underlying22
    simpa using this
  have hF0 : ∃ S, Fr.Frame w (w.alloc (.cells #[] 25)) [] [Fr.rowR (Kd.raw 3) 25 w.heap.size (.slice (some ⟨w.heap.size, 0, none⟩) 0 0) [] S] :=
    ((Fr.Frame.start w).call ((Below.refl _ w).alloc (Nat.le_refl _) _)).rowIn (R_empty (Kd.raw 3) 25 _ w.heap.size w.heap.size (fun _ => True) (Nat.le_refl _) (heap_alloc_new w _) trivial) (fun k _ b hb => by simp at hb)
  obtain ⟨S, hF0⟩ := hF0
  have hF := Aside0.mk hF0
  have HRA := Aside0.mk (Kd.C_below HR.out hF0.below)
  clear hF0
  go_enter Try.func57, Try.ntmps57
  go_wp2_with ((with_reducible refine gate_builtin (b := .append) (xs := #[.tmp 5, .tmp 6]) rfl ?_); refine fr_appendF (.tmp 5) (.tmp 6) 22 25 (.agg #[.int .i64 0, .int .i64 0, .slice none 0 0]) 40 (some ad) c rows hF.out rfl rfl Try.underlying22 (by kernel_rfl) rfl (by decide) (by omega) rfl rfl HRA.out hp (by simp; omega) ?_; intro v1 W2 S1 hF1; clear hF; have hF := Aside0.mk hF1; clear hF1)
  go_ret
  have h9 := hF.out.rowAt (r := Fr.rowR (Kd.raw 3) 25 w.heap.size v1 ([] ++ rows) S1) List.mem_cons_self
  exact ⟨v1, rfl, Kd.R_mono h9 (fun _ _ => trivial), hF.out.below⟩
end Go.Proofs.Ytkphinfijppkeaa.G
