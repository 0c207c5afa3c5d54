/- Contracts of functions of the given program, and what they come to, for any arguments. No condition beyond each theorem's own premises. -/
import Derived.Test.YtlkaebnigmfphaaXDueOrderM0
import Derived.WalkSpells
import Derived.Deep.Slices
import Derived.Conc.LoneSelect
namespace Go.Proofs.Ytlkaebnigmfphaa.G
open Go.RowKit Go.Proofs.YtlkaebnigmfphaaW.PrintWords Go.Proofs.YtlkaebnigmfphaaW.PrintLast Go.Proofs.YtlkaebnigmfphaaW.PrintMore
attribute [local go_sem] max2_int min2_int max_two min_two max_three min_three max_four min_four
set_option linter.unusedVariables false
set_option linter.unusedSimpArgs false
theorem less_iff (x y : S32) : lessB x y = true ↔ x.f0 < y.f0 ∨ (x.f0 = y.f0 ∧ x.f1 < y.f1) := by
  unfold lessB; simp
theorem less_no (x y : S32) : lessB x y = false ↔ ¬ (x.f0 < y.f0 ∨ (x.f0 = y.f0 ∧ x.f1 < y.f1)) := by
  rw [← less_iff]; simp
theorem no_tr {x y z : S32} (h1 : lessB y x = false) (h2 : lessB z y = false) : lessB z x = false := by
  rw [less_no] at *; omega
theorem no_of {x y : S32} (h : lessB x y = true) : lessB y x = false := by
  rw [less_iff] at h; rw [less_no]; omega
theorem no_self (x : S32) : lessB x x = false := by rw [less_no]; omega
theorem swp_at (xs : List S32) {i k : Nat} (hi : i < xs.length) (hk : k < xs.length) (j : Nat) : (swp xs i k).getD j z32 = if j = k then xs.getD i z32 else if j = i then xs.getD k z32 else xs.getD j z32 := by
  unfold swp
  simp only [List.getD_eq_getElem?_getD, List.getElem?_set, List.length_set]
  by_cases h1 : j = k
  · subst h1
    simp [hk]
  · have h1' : ¬ k = j := fun e => h1 e.symm
    by_cases h2 : j = i
    · subst h2
      simp [hi, h1, h1']
    · have h2' : ¬ i = j := fun e => h2 e.symm
      simp [h1, h1', h2, h2']
theorem swp_perm (xs : List S32) {i k : Nat} (hi : i < xs.length) (hk : k < xs.length) : (swp xs i k).Perm xs := by
  unfold swp
  rw [show xs.getD i z32 = xs[i] by simp [List.getD_eq_getElem?_getD, hi], show xs.getD k z32 = xs[k] by simp [List.getD_eq_getElem?_getD, hk]]
  exact List.set_set_perm hi hk
theorem kid_is {xs : List S32} {i n : Nat} (h : 2 * i + 1 < n) : (kid xs i n = 2 * i + 1 ∨ kid xs i n = 2 * i + 2) ∧ ∀ k, (k = 2 * i + 1 ∨ k = 2 * i + 2) → k < n → lessB (xs.getD k z32) (xs.getD (kid xs i n) z32) = false := by
  unfold kid
  by_cases hc : 2 * i + 2 < n ∧ lessB (xs.getD (2 * i + 2) z32) (xs.getD (2 * i + 1) z32) = true
  · rw [if_pos hc]
    refine ⟨.inr rfl, fun k hk _ => ?_⟩
    rcases hk with rfl | rfl
    · exact no_of hc.2
    · exact no_self _
  · rw [if_neg hc]
    refine ⟨.inl rfl, fun k hk hkn => ?_⟩
    rcases hk with rfl | rfl
    · exact no_self _
    · exact Bool.eq_false_iff.2 (fun e => hc ⟨hkn, e⟩)
def isH (xs : List S32) (n i0 : Nat) : Prop := ∀ k, 1 ≤ k → k < n → i0 ≤ (k - 1) / 2 → lessB (xs.getD k z32) (xs.getD ((k - 1) / 2) z32) = false
def isP (xs : List S32) (n i0 i : Nat) : Prop := (∀ k, 1 ≤ k → k < n → i0 ≤ (k - 1) / 2 → (k - 1) / 2 ≠ i → lessB (xs.getD k z32) (xs.getD ((k - 1) / 2) z32) = false) ∧ (∀ k, 1 ≤ k → k < n → (k - 1) / 2 = i → 1 ≤ i → i0 ≤ (i - 1) / 2 → lessB (xs.getD k z32) (xs.getD ((i - 1) / 2) z32) = false)
theorem down_heap : ∀ (fuel : Nat) (xs : List S32) (i n i0 : Nat), n ≤ xs.length → n - i < fuel → i0 ≤ i → isP xs n i0 i → isH (downL fuel xs i n) n i0
  | 0, _, _, _, _, _, hf, _, _ => by omega
  | fuel + 1, xs, i, n, i0, hn, hf, h0, hp => by
    rw [downL]
    by_cases hlt : 2 * i + 1 < n
    · rw [if_pos hlt]
      obtain ⟨hm, hmin⟩ := kid_is (xs := xs) hlt
      have hk := kid_in (xs := xs) hlt
      generalize kid xs i n = m at hm hmin hk ⊢
      by_cases hl : lessB (xs.getD m z32) (xs.getD i z32) = true
      · rw [if_pos hl]
        have hi : i < xs.length := by omega
        have hml : m < xs.length := by omega
        have hpm : (m - 1) / 2 = i := by omega
        refine down_heap fuel (swp xs i m) m n i0 (by rw [swp_len]; exact hn) (by omega) (by omega) ⟨fun k k1 k2 k3 k4 => ?_, fun k k1 k2 k3 k4 k5 => ?_⟩
        · rw [swp_at xs hi hml, swp_at xs hi hml]
          by_cases e1 : k = m
          · subst e1
            rw [if_pos rfl, hpm, if_neg (by omega), if_pos rfl]
            exact no_of hl
          · rw [if_neg e1]
            by_cases e2 : k = i
            · subst e2
              rw [if_pos rfl, if_neg (by omega), if_neg (by omega)]
              exact hp.2 m (by omega) hk.2 hpm k1 k3
            · rw [if_neg e2, if_neg k4]
              by_cases e3 : (k - 1) / 2 = i
              · rw [if_pos e3]
                exact hmin k (by omega) k2
              · rw [if_neg e3]
                exact hp.1 k k1 k2 k3 e3
        · rw [swp_at xs hi hml, swp_at xs hi hml, hpm, if_neg (by omega), if_neg (by omega), if_neg (by omega), if_pos rfl]
          have := hp.1 k k1 k2 (by omega) (by omega)
          rw [k3] at this
          exact this
      · rw [if_neg hl]
        have hl2 := Bool.eq_false_iff.2 hl
        intro k k1 k2 k3
        by_cases e : (k - 1) / 2 = i
        · rw [e]
          exact no_tr hl2 (hmin k (by omega) k2)
        · exact hp.1 k k1 k2 k3 e
    · rw [if_neg hlt]
      intro k k1 k2 k3
      exact hp.1 k k1 k2 k3 (by omega)
theorem down_perm : ∀ (fuel : Nat) (xs : List S32) (i n : Nat), n ≤ xs.length → (downL fuel xs i n).Perm xs
  | 0, _, _, _, _ => List.Perm.refl _
  | fuel + 1, xs, i, n, hn => by
    rw [downL]
    by_cases hlt : 2 * i + 1 < n
    · rw [if_pos hlt]
      have hk := kid_in (xs := xs) hlt
      split
      · exact (down_perm fuel (swp xs i (kid xs i n)) (kid xs i n) n (by rw [swp_len]; exact hn)).trans (swp_perm xs (by omega) (by omega))
      · exact List.Perm.refl _
    · rw [if_neg hlt]
theorem down_far : ∀ (fuel : Nat) (xs : List S32) (i n j : Nat), n ≤ xs.length → n ≤ j → (downL fuel xs i n).getD j z32 = xs.getD j z32
  | 0, _, _, _, _, _, _ => rfl
  | fuel + 1, xs, i, n, j, hn, hj => by
    rw [downL]
    by_cases hlt : 2 * i + 1 < n
    · rw [if_pos hlt]
      have hk := kid_in (xs := xs) hlt
      split
      · rw [down_far fuel _ _ _ _ (by rw [swp_len]; exact hn) hj, swp_at xs (by omega) (by omega), if_neg (by omega), if_neg (by omega)]
      · rfl
    · rw [if_neg hlt]
theorem init_perm : ∀ (k : Nat) (xs : List S32) (n : Nat), n ≤ xs.length → (initL k xs n).Perm xs
  | 0, _, _, _ => List.Perm.refl _
  | k + 1, xs, n, hn => by
    rw [initL]
    exact (init_perm k _ n (by rw [downL_len]; exact hn)).trans (down_perm _ _ _ _ hn)
theorem init_heap : ∀ (k : Nat) (xs : List S32) (n : Nat), n ≤ xs.length → isH xs n k → isH (initL k xs n) n 0
  | 0, _, _, _, h => h
  | k + 1, xs, n, hn, h => by
    rw [initL]
    refine init_heap k _ n (by rw [downL_len]; exact hn) (down_heap (n + 1) xs k n k hn (by omega) (Nat.le_refl _) ⟨fun j j1 j2 j3 j4 => h j j1 j2 (by omega), fun j _ _ _ _ j5 => by omega⟩)
theorem heap_is (xs : List S32) : isH (initL (xs.length / 2) xs xs.length) xs.length 0 ∧ (initL (xs.length / 2) xs xs.length).Perm xs :=
  ⟨init_heap _ _ _ (Nat.le_refl _) (fun k _ k2 k3 => by omega), init_perm _ _ _ (Nat.le_refl _)⟩
theorem heap_least {xs : List S32} {n : Nat} (h : isH xs n 0) : ∀ k, k < n → lessB (xs.getD k z32) (xs.getD 0 z32) = false := by
  intro k
  induction k using Nat.strongRecOn with
  | ind k ih =>
    intro hk
    by_cases h0 : k = 0
    · subst h0; exact no_self _
    · exact no_tr (ih ((k - 1) / 2) (by omega) (by omega)) (h k (by omega) hk (Nat.zero_le _))
theorem pop_heap {xs : List S32} {n : Nat} (hn : xs.length = n + 1) (h : isH xs (n + 1) 0) : isH (popL xs) n 0 ∧ (popL xs).Perm xs ∧ (popL xs).getD n z32 = xs.getD 0 z32 := by
  have hp : popL xs = downL (n + 1) (swp xs 0 n) 0 n := by unfold popL; rw [hn]; rfl
  rw [hp]
  have h0 : 0 < xs.length := by omega
  have hl : n < xs.length := by omega
  refine ⟨down_heap _ _ _ _ _ (by rw [swp_len]; omega) (by omega) (Nat.le_refl _) ⟨fun k k1 k2 _ k4 => ?_, fun k _ _ _ k4 _ => by omega⟩, (down_perm _ _ _ _ (by rw [swp_len]; omega)).trans (swp_perm xs h0 hl), ?_⟩
  · rw [swp_at xs h0 hl, swp_at xs h0 hl, if_neg (by omega), if_neg (by omega), if_neg (by omega), if_neg k4]
    exact h k k1 (by omega) (Nat.zero_le _)
  · rw [down_far _ _ _ _ _ (by rw [swp_len]; omega) (Nat.le_refl _), swp_at xs h0 hl, if_pos rfl]
theorem up_perm : ∀ (fuel : Nat) (xs : List S32) (j : Nat), j < xs.length → (upL fuel xs j).Perm xs
  | 0, _, _, _ => List.Perm.refl _
  | fuel + 1, xs, j, hj => by
    rw [upL]
    split
    · exact List.Perm.refl _
    · split
      · exact (up_perm fuel (swp xs ((j - 1) / 2) j) ((j - 1) / 2) (by rw [swp_len]; omega)).trans (swp_perm xs (by omega) hj)
      · exact List.Perm.refl _
theorem rows_of {α : Type} {d : Kd α} {w : World} {A : Option Addr} {xs : List α} (h : Kd.C d w A xs.length xs) : ∃ rows : List (List Value), rows.length = xs.length ∧ (∀ (j : Nat) (x : α) (c : List Value), xs[j]? = some x → rows[j]? = some c → d.K w x c) ∧ Kd.C (Kd.raw d.sz) w A rows.length rows := by
  obtain ⟨h1, h2, h3⟩ := h
  by_cases hp : 0 < xs.length
  · obtain ⟨ad, rfl, h4⟩ := h3 hp
    have key : ∀ n, n ≤ xs.length → ∃ rows : List (List Value), rows.length = n ∧ ∀ (j : Nat) (x : α) (c : List Value), xs[j]? = some x → rows[j]? = some c → c.length = d.sz ∧ d.K w x c ∧ ∀ i u, c[i]? = some u → w.cell? (ad.add (j * d.sz + i)) = some u := by
      intro n
      induction n with
      | zero => exact fun _ => ⟨[], rfl, fun j x c _ hc => by simp at hc⟩
      | succ n ih =>
        intro hn
        obtain ⟨rows, hl, hr⟩ := ih (by omega)
        obtain ⟨c, hc⟩ := h4 n _ (List.getElem?_eq_getElem (show n < xs.length by omega))
        refine ⟨rows ++ [c], by simp [hl], fun j x c' hx hc' => ?_⟩
        by_cases e : j < n
        · rw [List.getElem?_append_left (by omega)] at hc'
          exact hr j x c' hx hc'
        · have ej : j = n := by
            have := (List.getElem?_eq_some_iff.1 hc').1
            simp at this; omega
          subst ej
          rw [List.getElem?_append_right (by omega), hl] at hc'
          simp at hc'
          subst hc'
          rw [List.getElem?_eq_getElem (by omega)] at hx
          injection hx with hx
          subst hx
          exact hc
    obtain ⟨rows, hl, hr⟩ := key xs.length (Nat.le_refl _)
    refine ⟨rows, hl, fun j x c hx hc => (hr j x c hx hc).2.1, rfl, by omega, fun _ => ⟨ad, rfl, fun j c hc => ?_⟩⟩
    have hj : j < xs.length := by have := (List.getElem?_eq_some_iff.1 hc).1; omega
    obtain ⟨k1, k2, k3⟩ := hr j _ c (List.getElem?_eq_getElem hj) hc
    exact ⟨c, k1, ⟨rfl, k1, d.K_one k2⟩, k3⟩
  · obtain rfl : xs = [] := List.eq_nil_of_length_eq_zero (by omega)
    exact ⟨[], rfl, fun j x c hx _ => by simp at hx, rfl, by simp, fun h => absurd h (by simp)⟩
theorem flat_cells {sz : Nat} (hs : 0 < sz) {w : World} {ad : Addr} : ∀ {rows : List (List Value)}, (∀ c ∈ rows, c.length = sz) → (∀ j c, rows[j]? = some c → ∀ i u, c[i]? = some u → w.cell? (ad.add (j * sz + i)) = some u) → ∀ j u, rows.flatten[j]? = some u → w.cell? (ad.add j) = some u := by
  intro rows
  induction rows generalizing ad with
  | nil => intro _ _ j u hu; simp at hu
  | cons c r ih =>
    intro hl hc j u hu
    rw [List.flatten_cons] at hu
    have hcl := hl c (by simp)
    by_cases hj : j < sz
    · rw [List.getElem?_append_left (by omega)] at hu
      have := hc 0 c rfl j u hu
      simpa using this
    · rw [List.getElem?_append_right (by omega), hcl] at hu
      have := ih (ad := ad.add sz) (fun c' h => hl c' (by simp [h])) (fun j' c' h i' u' hu' => by
        have h9 := hc (j' + 1) c' (by simpa using h) i' u' hu'
        rw [Go.Deep.add_add]
        rw [show sz + (j' * sz + i') = (j' + 1) * sz + i' by rw [Nat.add_mul]; omega]
        exact h9) (j - sz) u hu
      rw [Go.Deep.add_add] at this
      rwa [show sz + (j - sz) = j by omega] at this
theorem reps_flat {sz : Nat} (w : World) (base : Nat) (ok : Nat → Prop) : ∀ {rows : List (List Value)}, (∀ c ∈ rows, c.length = sz ∧ ∀ u ∈ c, u.oneCell' = true) → Reps ((Kd.raw sz).M w base ok) (Kd.raw sz).sz rows rows.flatten := by
  intro rows
  induction rows with
  | nil => intro _; exact Reps.none _ _
  | cons c r ih =>
    intro h
    have h1 := (Reps.none ((Kd.raw sz).M w base ok) (Kd.raw sz).sz).snoc (p := c) (c := c) ⟨rfl, h c (by simp)⟩ (h c (by simp)).1
    have := Kd.reps_append h1 (ih (fun c' hc => h c' (by simp [hc])))
    simpa using this
section
variable {P : Program} {ops : Array Oper} {rest : List Oper} {o : Oper} {a : Act} {Q : Exit → Act → World → Prop} {w0 W : World} {bs : List Fr.Blk}
theorem fr_appendF {sz : Nat} {S : Nat → Prop} {v : Value} {xs : List (List Value)} (s x : Operand) (t e : TypeId) (z : Value) (bytes : Nat) (A : Option Addr) (c : Nat) (rows : List (List Value))
    (hF : Fr.Frame w0 W bs [Fr.rowR (Kd.raw sz) e w0.heap.size v xs S]) (hgd : o.guard = none) (ho : o.op = .call { callee := .builtin .append, args := #[s, x], argTypes := #[t, t] })
    (ht : P.underlying t = some (.slice e)) (hinfo : (P.info? e).map (fun i => (i.zero, i.size, i.bytes)) = some (some z, sz, bytes)) (hz : z.cells.size = sz) (hs0 : 0 < sz) (hb0 : 0 < bytes)
    (hs : a.eval s = v) (hx : a.eval x = .slice A rows.length c) (hC : Kd.C (Kd.raw sz) W A rows.length rows) (hp : 0 < rows.length) (hl : (xs.length + rows.length) * bytes ≤ 140737488355328)
    (h : ∀ v1 w1 S1, Fr.Frame w0 w1 bs [Fr.rowR (Kd.raw sz) e w0.heap.size v1 (xs ++ rows) S1] → wpList P ops Q rest (a.put o.dst v1) w1) : wpList P ops Q (o :: rest) a W := by
  have hr := hF.row (Fr.rowR (Kd.raw sz) e w0.heap.size v xs S) List.mem_cons_self
  have hRS : (Kd.raw sz).R e W w0.heap.size S v xs := hr.1
  have hdis : ∀ k, S k → ∀ b ∈ bs, k ≠ b.1 := fun k hk b hb he => hr.2.2 b hb (by subst he; exact hk)
  obtain ⟨ad, rfl, hcc⟩ := hC.2.2 hp
  have hall : ∀ c' ∈ rows, c'.length = sz ∧ ∀ u ∈ c', u.oneCell' = true := fun c' hc' => by
    obtain ⟨j, hj, rfl⟩ := List.mem_iff_getElem.1 hc'
    obtain ⟨c2, k1, k2, _⟩ := hcc j _ (List.getElem?_eq_getElem hj)
    have : c2 = rows[j] := k2.1
    rw [← this]
    exact ⟨k1, k2.2.2⟩
  have hnews : ∀ j u, rows.flatten[j]? = some u → W.cell? (ad.add j) = some u := flat_cells hs0 (fun c' h => (hall c' h).1) (fun j c' hj i u hu => by
    obtain ⟨c2, k1, k2, k3⟩ := hcc j c' hj
    have : c2 = c' := k2.1
    subst this
    exact k3 i u hu)
  obtain ⟨v1, w1, hrun, h1, h2, hg⟩ := Fr.R_append_keep (P := P) (Kd.raw sz) w0.heap.size t o.type e z bytes ht hinfo hz hs0 hb0 (Kd.R_mono hRS hdis) (fun w ok => reps_flat w _ ok hall) (fun u hu => by
    obtain ⟨c', hc', hu'⟩ := List.mem_flatten.1 hu
    exact (hall c' hc').2 u hu') ad rows.length c rfl hnews hl hF.below.size (fun k hk b hb he => by have := hF.lt hb; omega)
  have hF0 : Fr.Frame w0 W bs [] := hF.noRows
  have hF1 : Fr.Frame w0 w1 bs [] := ⟨hF0.below.grown hg hF.below.size (fun k hk => Kd.R_base hRS k hk), fun b hb => ⟨(hF0.blk b hb).1, blk_grown (hF0.blk b hb).2 hg (fun e1 => hdis b.1 (hRS.1 b.1 e1.symm) b hb rfl)⟩, hF0.nodup, by simp⟩
  obtain ⟨S1, hS1⟩ := hF1.rowIn h1 (fun k hk => hk)
  refine wpList_plain hgd fun K hK => ?_
  unfold Oper.wp execOp
  simp only [ho, resolve, invoke, builtin, Sem.run_bind, Sem.run_pure, Result.andThen_ok, List.map_toArray, List.map_cons, List.map_nil, hs, hx, hrun]
  exact hK _ _ (h v1 w1 S1 hS1)
end
theorem R_empty {α : Type} (d : Kd α) (e : Nat) (w : World) (base g : Nat) (ok : Nat → Prop) (hb : base ≤ g) (hg : w.heap[g]? = some (.cells #[] e (0, 0))) (hok : ok g) : d.R e w base ok (.slice (some ⟨g, 0, none⟩) 0 0) [] := by
  refine ⟨fun k hk => ?_, [], ⟨by simp, .inr ⟨g, 0, #[], rfl, hb, hg, Nat.le_refl _, by simp [maxLen], by simp, by simp⟩⟩, Reps.none _ _⟩
  have : g = k := by simpa [Value.ownBlock] using hk
  rw [← this]; exact hok
set_option maxHeartbeats 4000000 in
theorem clone_some (A : Option Addr) (c : Nat) (rows : List (List Value)) (w : World) (hr : Kd.C (Kd.raw 2) w A rows.length rows) (hp : 0 < rows.length) (hl : rows.length ≤ 1000) :
    Calls Try.prog 25 #[.slice A rows.length c] w fun e w' => ∃ v, e = .returned v ∧ (Kd.raw 2).R 32 w' w.heap.size (fun _ => True) v rows ∧ Below w.heap.size w w' := by
  obtain ⟨ad, rfl, _⟩ := hr.2.2 hp
  have HR := Aside0.mk hr
  clear hr
  have hnil : ∀ (w : World) (n c : Nat), (binOp .eql 22 (.slice (some ad) n c) (.slice none 0 0)).run Try.prog w = .ok (.bool false) w := fun w n c => by
    have := Lib.run_eql_slice_nil w 22 32 (some ad) n c 0 0 Try.underlying22
    simpa using this
  have hF0 : ∃ S, Fr.Frame w (w.alloc (.cells #[] 32)) [] [Fr.rowR (Kd.raw 2) 32 w.heap.size (.slice (some ⟨w.heap.size, 0, none⟩) 0 0) [] S] :=
    ((Fr.Frame.start w).call ((Below.refl _ w).alloc (Nat.le_refl _) _)).rowIn (R_empty (Kd.raw 2) 32 _ w.heap.size w.heap.size (fun _ => True) (Nat.le_refl _) (heap_alloc_new w _) trivial) (fun k _ b hb => by simp at hb)
  obtain ⟨S, hF0⟩ := hF0
  have hF := Aside0.mk hF0
  have HRA := Aside0.mk (Kd.C_below HR.out hF0.below)
  clear hF0
  go_enter Try.func25, Try.ntmps25
  go_wp2_with ((with_reducible refine gate_builtin (b := .append) (xs := #[.tmp 5, .tmp 6]) rfl ?_); refine fr_appendF (.tmp 5) (.tmp 6) 22 32 (.agg #[.int .i64 0, .int .i64 0]) 16 (some ad) c rows hF.out rfl rfl Try.underlying22 (by kernel_rfl) rfl (by decide) (by omega) rfl rfl HRA.out hp (by simp; omega) ?_; intro v1 W2 S1 hF1; clear hF; have hF := Aside0.mk hF1; clear hF1)
  go_ret
  have h9 := hF.out.rowAt (r := Fr.rowR (Kd.raw 2) 32 w.heap.size v1 ([] ++ rows) S1) List.mem_cons_self
  exact ⟨v1, rfl, Kd.R_mono h9 (fun _ _ => trivial), hF.out.below⟩
theorem reps_raw {sz : Nat} {w : World} {base : Nat} {ok : Nat → Prop} : ∀ {rows : List (List Value)} {inner : List Value}, Reps ((Kd.raw sz).M w base ok) sz rows inner → inner = rows.flatten ∧ ∀ r ∈ rows, r.length = sz ∧ ∀ u ∈ r, u.oneCell' = true
  | [], inner, h => ⟨by have := h.1; simpa using this, by simp⟩
  | c :: r, inner, h => by
    have h0 := h.2 0 c rfl
    rw [Nat.zero_mul, List.drop_zero] at h0
    have e0 : inner.take sz = c := h0.1
    have ih := reps_raw (sz := sz) (w := w) (base := base) (ok := ok) (rows := r) (inner := inner.drop sz) ⟨by rw [List.length_drop, h.1, List.length_cons, Nat.add_mul]; omega, fun j p hp => by
      have := h.2 (j + 1) p (by simpa using hp)
      rw [List.drop_drop]
      rwa [show sz + j * sz = (j + 1) * sz by rw [Nat.add_mul]; omega]⟩
    refine ⟨by rw [List.flatten_cons, ← ih.1, ← e0, List.take_append_drop], fun q hq => ?_⟩
    rcases List.mem_cons.1 hq with rfl | hq
    · have := h0.2
      rw [e0] at this
      exact this
    · exact ih.2 q hq
def Row2 (r : List Value) : Prop := r.length = 2 ∧ ∀ u ∈ r, u.oneCell' = true
theorem flat2_len : ∀ {rs : List (List Value)}, (∀ r ∈ rs, Row2 r) → rs.flatten.length = rs.length * 2
  | [], _ => rfl
  | c :: r, h => by
    rw [List.flatten_cons, List.length_append, flat2_len (fun q hq => h q (List.mem_cons_of_mem _ hq)), (h c List.mem_cons_self).1, List.length_cons]; omega
section
variable {w0 W : World} {bs : List Fr.Blk}
theorem own_blk {S : Nat → Prop} {v : Value} {rows : List (List Value)} (hF : Fr.Frame w0 W bs [Fr.rowR (Kd.raw 2) 32 w0.heap.size v rows S]) (hp : 0 < rows.length) :
    ∃ g cap rest, v = .slice (some ⟨g, 0, none⟩) rows.length cap ∧ rows.length ≤ cap ∧ cap ≤ maxLen ∧ (rows.flatten ++ rest).length = cap * 2 ∧ (∀ r ∈ rows, Row2 r) ∧ Fr.Frame w0 W ((g, rows.flatten ++ rest, 32) :: bs) [] := by
  have hr := hF.row (Fr.rowR (Kd.raw 2) 32 w0.heap.size v rows S) List.mem_cons_self
  obtain ⟨h1, inner, ⟨h2, h3⟩, h4⟩ := (hr.1 : (Kd.raw 2).R 32 W w0.heap.size S v rows)
  obtain ⟨e, hall⟩ := reps_raw h4
  rcases h3 with ⟨_, h3⟩ | ⟨g, cap, cur, rfl, hg, hh, hn, hc, hs, ht⟩
  · omega
  · have e2 : rows.flatten ++ cur.toList.drop (rows.length * 2) = cur.toList := by
      rw [← e, ← ht]
      exact List.take_append_drop _ _
    refine ⟨g, cap, cur.toList.drop (rows.length * 2), rfl, hn, hc, by rw [e2, Array.length_toList]; exact hs, hall, hF.below, fun b hb => ?_, ?_, by simp⟩
    · rcases List.mem_cons.1 hb with rfl | hb
      · exact ⟨hg, by rw [e2]; exact hh⟩
      · exact hF.blk b hb
    · rw [List.map_cons, List.nodup_cons]
      refine ⟨fun hm => ?_, hF.nodup⟩
      obtain ⟨b, hb, e3⟩ := List.mem_map.1 hm
      exact hr.2.2 b hb (by rw [e3]; exact h1 g rfl)
theorem blk_own {g cap : Nat} {rows : List (List Value)} {rest : List Value} (hF : Fr.Frame w0 W ((g, rows.flatten ++ rest, 32) :: bs) []) (hn : rows.length ≤ cap) (hc : cap ≤ maxLen) (hl : (rows.flatten ++ rest).length = cap * 2) (hall : ∀ r ∈ rows, Row2 r) :
    ∃ S, Fr.Frame w0 W bs [Fr.rowR (Kd.raw 2) 32 w0.heap.size (.slice (some ⟨g, 0, none⟩) rows.length cap) rows S] := by
  obtain ⟨hg, hh⟩ := hF.blk _ List.mem_cons_self
  refine (Fr.Frame.drop hF).rowIn (ok := fun k => k = g) ⟨fun k hk => ?_, rows.flatten, ⟨flat2_len hall, .inr ⟨g, cap, (rows.flatten ++ rest).toArray, rfl, hg, hh, hn, hc, by rw [List.size_toArray]; exact hl, ?_⟩⟩, reps_flat _ _ _ hall⟩ (fun k hk b hb e => ?_)
  · have : g = k := by simpa [Value.ownBlock] using hk
    exact this.symm
  · show List.take (rows.length * 2) _ = _
    rw [← flat2_len hall]
    simp
  · subst hk
    have := (List.nodup_cons.1 hF.nodup).1
    exact this (List.mem_map.2 ⟨b, hb, e.symm⟩)
end
theorem rows_flat : ∀ {xs : List S32} {rows : List (List Value)} {w : World}, rows.length = xs.length → (∀ (j : Nat) (x : S32) (c : List Value), xs[j]? = some x → rows[j]? = some c → k32.K w x c) → rows.flatten = flat xs
  | [], [], _, _, _ => rfl
  | x :: xs, r :: rows, w, hl, hK => by
    have h0 := k32_open (hK 0 x r rfl rfl)
    rw [List.flatten_cons, h0, rows_flat (xs := xs) (rows := rows) (w := w) (by simpa using hl) (fun j y c hy hc => hK (j + 1) y c (by simpa using hy) (by simpa using hc)), flat]
    rfl
theorem clone25_full (A : Option Addr) (c : Nat) (xs : List S32) (w : World) (hr : Kd.C k32 w A xs.length xs) (hp : 0 < xs.length) (hl : xs.length ≤ 1000) :
    Calls Try.prog 25 #[.slice A xs.length c] w fun e w' => ∃ g cap tl, e = .returned (.slice (some ⟨g, 0, none⟩) xs.length cap) ∧ (xs.length ≤ cap ∧ cap ≤ maxLen ∧ (flat xs ++ tl).length = cap * 2) ∧ Fr.Frame w w' [(g, flat xs ++ tl, 32)] [] := by
  obtain ⟨rows, hrl, hrk, hrc⟩ := rows_of hr
  have h := clone_some A c rows w hrc (by omega) (by omega)
  rw [hrl] at h
  refine h.mono ?_
  rintro e w' ⟨v, rfl, hR, hb⟩
  have hF0 : Fr.Frame w w' [] [] := (Fr.Frame.start w).call hb
  obtain ⟨S, hF⟩ := hF0.rowIn hR (fun k _ b hb => by simp at hb)
  obtain ⟨g, cap, rest, rfl, hcap, hm, hfl, _, hF1⟩ := own_blk hF (by omega)
  rw [rows_flat hrl hrk] at hF1 hfl
  rw [hrl]
  exact ⟨g, cap, rest, rfl, ⟨by omega, hm, hfl⟩, hF1⟩
theorem lies_pair (g h : Nat) : Lies2 (fun p cs => [(h, p, 48), (g, cs, 32)]) g h := ⟨fun p cs => .there _ (.here _ _), fun p cs => .here _ _⟩
set_option maxHeartbeats 2000000 in
set_option maxRecDepth 100000 in
theorem of20_full (A : Option Addr) (c : Nat) (xs : List S32) (w : World) (hr : Kd.C k32 w A xs.length xs) (hp : 0 < xs.length) (hl : xs.length ≤ 1000) :
    Calls Try.prog 20 #[.slice A xs.length c] w fun e w' => ∃ h g cap tl, e = .returned (.pointer (some ⟨h, 0, none⟩)) ∧ (xs.length ≤ cap ∧ cap ≤ maxLen ∧ (flat (initL (xs.length / 2) xs xs.length) ++ tl).length = cap * 2) ∧ Fr.Frame w w' [(h, [.slice (some ⟨g, 0, none⟩) xs.length cap], 48), (g, flat (initL (xs.length / 2) xs xs.length) ++ tl, 32)] [] := by
  have H25 := Aside0.mk (clone25_full A c xs w hr hp hl)
  have HI := Aside0.mk (fun (cap : Nat) (tl : List Value) (g h : Nat) (W : World) (hF : Fr.Frame w W [(h, [.slice (some ⟨g, 0, none⟩) xs.length cap], 48), (g, flat xs ++ tl, 32)] []) => init26_calls cap xs tl g h w W [] _ (lies_pair g h).lies hF hl)
  have hil : ∀ tl, (flat (initL (xs.length / 2) xs xs.length) ++ tl).length = (flat xs ++ tl).length := fun tl => by rw [List.length_append, List.length_append, flat_len, flat_len, initL_len]
  obtain ⟨ys, hys⟩ : ∃ ys, initL (xs.length / 2) xs xs.length = ys := ⟨_, rfl⟩
  rw [hys] at HI hil ⊢
  have HIL := Aside0.mk hil
  clear hil
  obtain ⟨n, hn⟩ : ∃ n, xs.length = n := ⟨_, rfl⟩
  rw [hn] at H25 HI hl ⊢
  clear hys hn hr hp
  go_enter Try.func20, Try.ntmps20
  go_wp2_with fail
  (with_reducible refine H25.out.mono ?_)
  rintro e W ⟨g, cap, tl, rfl, hcap, hF1⟩
  have HCP := Aside0.mk hcap
  clear hcap
  have hF : True := trivial
  have HC : True := trivial
  have HC1 := hF1.cells; simp only [Fr.Cells, List.length_cons, List.length_nil, Nat.reduceAdd, and_true] at HC1; clear hF HC; have HC := HC1; have hF := Aside0.mk hF1; clear hF1 HC1
  go_wp2_with (first | ((with_reducible refine gate_store rfl ?_); apply Fr.fr_store hF.out rfl rfl rfl; (case hp => rfl); (case hx => first | (go_simp; rfl) | rfl); (case hu => (simp only [Value.cells]; rfl)); (case hs => (repeat (first | exact Fr.Spot.here _ _ | apply Fr.Spot.there))); (case ht => kernel_rfl); (case h1 => simp [Value.oneCell']); (case hfit => simp); intro W hF1; simp only [Fr.patch, List.take_zero, List.nil_append, List.drop, List.append_nil, List.take, List.cons_append, List.length_cons, List.length_nil, Nat.reduceAdd] at hF1; have HC1 := hF1.cells; simp only [Fr.Cells, List.length_cons, List.length_nil, Nat.reduceAdd, and_true] at HC1; clear hF HC; have HC := HC1; have hF := Aside0.mk hF1; clear hF1 HC1) | ((with_reducible refine gate_dst (N := 3) rfl ?_); apply Fr.fr_box hF.out rfl; (case hrun => first | (go_simp; done) | (go_simp; rfl)); intro h W hF1; have HC1 := hF1.cells; simp only [Fr.Cells, List.length_cons, List.length_nil, Nat.reduceAdd, and_true] at HC1; clear hF HC; have HC := HC1; have hF := Aside0.mk hF1; clear hF1 HC1) | ((first | (with_reducible refine Fr.gate_alloc rfl ?_) | (with_reducible refine Fr.gate_box rfl ?_)); apply Fr.fr_box hF.out rfl; (case hrun => first | (go_simp; done) | (go_simp; rfl)); intro g W hF1; have HC1 := hF1.cells; simp only [Fr.Cells, List.length_cons, List.length_nil, Nat.reduceAdd, and_true] at HC1; clear hF HC; have HC := HC1; have hF := Aside0.mk hF1; clear hF1 HC1))
  (with_reducible refine (HI.out cap tl g h _ hF.out).mono ?_)
  rintro e W2 ⟨rfl, hF2⟩
  go_wp2_with fail
  go_ret
  exact ⟨h, g, cap, tl, rfl, ⟨HCP.out.1, HCP.out.2.1, by rw [HIL.out]; exact HCP.out.2.2⟩, hF2⟩
theorem of20_some (A : Option Addr) (c : Nat) (xs : List S32) (w : World) (hr : Kd.C k32 w A xs.length xs) (hp : 0 < xs.length) (hl : xs.length ≤ 1000) :
    Calls Try.prog 20 #[.slice A xs.length c] w fun e w' => ∃ h g cap tl, e = .returned (.pointer (some ⟨h, 0, none⟩)) ∧ xs.length ≤ cap ∧ Fr.Frame w w' [(h, [.slice (some ⟨g, 0, none⟩) xs.length cap], 48), (g, flat (initL (xs.length / 2) xs xs.length) ++ tl, 32)] [] :=
  (of20_full A c xs w hr hp hl).mono fun e w' ⟨h, g, cap, tl, h1, h2, h3⟩ => ⟨h, g, cap, tl, h1, h2.1, h3⟩
def M63 : Nat := 4611686018427387904
def Ev {α : Type} (f : Nat → Option α) (r : α) : Prop := ∃ n, ∀ k, n ≤ k → f k = some r
theorem Ev.now {α : Type} (r : α) : Ev (fun _ => some r) r := ⟨0, fun _ _ => rfl⟩
theorem Ev.step {α : Type} {g f : Nat → Option α} {r : α} (h : ∀ k, g (k + 1) = f k) (hf : Ev f r) : Ev g r := by
  obtain ⟨n, hn⟩ := hf
  refine ⟨n + 1, fun k hk => ?_⟩
  obtain ⟨m, rfl⟩ : ∃ m, k = m + 1 := ⟨k - 1, by omega⟩
  rw [h]
  exact hn m (by omega)
theorem Ev.bind {α β : Type} {f : Nat → Option α} {g : Nat → α → Option β} {a : α} {b : β} (hf : Ev f a) (hg : Ev (fun k => g k a) b) : Ev (fun k => (f k).bind (g k)) b := by
  obtain ⟨n, hn⟩ := hf
  obtain ⟨m, hm⟩ := hg
  refine ⟨max n m, fun k hk => ?_⟩
  show (f k).bind (g k) = some b
  rw [hn k (by omega)]
  exact hm k (by omega)
theorem Ev.of_eq {α : Type} {g f : Nat → Option α} {r : α} (h : ∀ k, g k = f k) (hf : Ev f r) : Ev g r := by
  obtain ⟨n, hn⟩ := hf
  exact ⟨n, fun k hk => by rw [h]; exact hn k hk⟩
def ins (x : S32) : List S32 → List S32
  | [] => [x]
  | y :: ys => if lessB x y = true then x :: y :: ys else y :: ins x ys
def srt (xs : List S32) : List S32 := xs.foldl (fun acc d => ins d acc) []
def inOrder (xs : List S32) : Prop := xs.Pairwise (fun x y => lessB y x = false)
theorem ins_perm (x : S32) : ∀ ys, (ins x ys).Perm (x :: ys)
  | [] => List.Perm.refl _
  | y :: ys => by
    rw [ins]
    split
    · exact List.Perm.refl _
    · exact ((ins_perm x ys).cons y).trans (List.Perm.swap x y ys)
theorem ins_order (x : S32) : ∀ ys, inOrder ys → inOrder (ins x ys)
  | [], _ => List.pairwise_singleton _ _
  | y :: ys, h => by
    obtain ⟨h1, h2⟩ := List.pairwise_cons.1 h
    rw [ins]
    split
    · rename_i hl
      refine List.pairwise_cons.2 ⟨fun z hz => ?_, h⟩
      rcases List.mem_cons.1 hz with rfl | hz
      · exact no_of hl
      · exact no_tr (no_of hl) (h1 z hz)
    · rename_i hl
      refine List.pairwise_cons.2 ⟨fun z hz => ?_, ins_order x ys h2⟩
      have := (ins_perm x ys).mem_iff.1 hz
      rcases List.mem_cons.1 this with rfl | hz
      · exact Bool.eq_false_iff.2 hl
      · exact h1 z hz
theorem srt_go : ∀ (xs acc : List S32), inOrder acc → inOrder (xs.foldl (fun acc d => ins d acc) acc) ∧ (xs.foldl (fun acc d => ins d acc) acc).Perm (acc ++ xs)
  | [], acc, h => ⟨h, by simp⟩
  | x :: xs, acc, h => by
    obtain ⟨h1, h2⟩ := srt_go xs (ins x acc) (ins_order x acc h)
    refine ⟨h1, h2.trans ?_⟩
    exact ((ins_perm x acc).append_right xs).trans (by simpa using (List.perm_middle (a := x) (l₁ := acc) (l₂ := xs)).symm)
theorem srt_order (xs : List S32) : inOrder (srt xs) := (srt_go xs [] List.Pairwise.nil).1
theorem srt_perm (xs : List S32) : (srt xs).Perm xs := (srt_go xs [] List.Pairwise.nil).2
theorem both_no {x y : S32} (h1 : lessB x y = false) (h2 : lessB y x = false) : x = y := by
  rw [less_no] at h1 h2
  obtain ⟨a, b⟩ := x
  obtain ⟨c, d⟩ := y
  simp only at h1 h2
  have : a = c := by omega
  have : b = d := by omega
  simp [*]
theorem order_one : ∀ {xs ys : List S32}, inOrder xs → inOrder ys → xs.Perm ys → xs = ys
  | [], ys, _, _, hp => by simpa using hp.symm.eq_nil.symm
  | x :: xs, [], _, _, hp => by simp at hp
  | x :: xs, y :: ys, hx, hy, hp => by
    obtain ⟨a1, a2⟩ := List.pairwise_cons.1 hx
    obtain ⟨b1, b2⟩ := List.pairwise_cons.1 hy
    have e : x = y := by
      have m1 : x ∈ y :: ys := hp.mem_iff.1 List.mem_cons_self
      have m2 : y ∈ x :: xs := hp.mem_iff.2 List.mem_cons_self
      rcases List.mem_cons.1 m1 with h | h
      · exact h
      · rcases List.mem_cons.1 m2 with h' | h'
        · exact h'.symm
        · exact both_no (b1 x h) (a1 y h')
    subst e
    rw [order_one a2 b2 (hp.cons_inv)]
theorem srt_of {xs ys : List S32} (h : inOrder ys) (hp : ys.Perm xs) : ys = srt xs := order_one h (srt_order xs) (hp.trans (srt_perm xs).symm)
theorem srt_eq {xs ys : List S32} (hp : xs.Perm ys) : srt xs = srt ys := srt_of (srt_order xs) ((srt_perm xs).trans hp)
theorem srt_len (xs : List S32) : (srt xs).length = xs.length := (srt_perm xs).length_eq
theorem ahead_is (x y : S32) : foghornref09_Ahead.f x.f0 x.f1 y.f0 y.f1 = some (lessB x y) := by
  unfold foghornref09_Ahead.f lessB
  by_cases h : x.f0 < y.f0
  · simp [h]
  · by_cases h2 : x.f0 = y.f0
    · simp [h2]
    · simp [h, h2]
theorem w64i {i : Nat} (h : i < M63) : wrap64 ((i : Int) + 1) = ((i + 1 : Nat) : Int) := by unfold wrap64 M63 at *; omega
theorem rd_get32 (l : List S32) (i : Nat) (h : i < l.length) : rd_T32 l (i : Nat) = l[i] := by simp [rd_T32, List.getD_eq_getElem?_getD, h]
theorem idxR_hit32 (p : S32 → Bool) (l : List S32) (k : Nat) (hk : k < l.length) (h : ∀ j, j < k → p (rd_T32 l (j : Nat)) = false) (hp : p (rd_T32 l (k : Nat)) = true) : (k : Int) = idxP p l := by
  have e : l.findIdx? p = some k := by
    rw [List.findIdx?_eq_some_iff_getElem]
    refine ⟨hk, by rw [← rd_get32 l k hk]; exact hp, fun j hj => ?_⟩
    have := h j hj
    rw [rd_get32 l j (by omega)] at this
    simp [this]
  simp [idxP, e]
theorem idxR_miss32 (p : S32 → Bool) (l : List S32) (h : ∀ j, j < l.length → p (rd_T32 l (j : Nat)) = false) : -1 = idxP p l := by
  have e : l.findIdx? p = none := by
    rw [List.findIdx?_eq_none_iff]
    intro x hx
    obtain ⟨j, hj, rfl⟩ := List.mem_iff_getElem.1 hx
    have := h j hj
    rwa [rd_get32 l j hj] at this
  simp [idxP, e]
def Pred32 (ok : S32 → Prop) (g : Nat) (cap : Array Value) (p : S32 → Bool) (w : World) : Prop := ∀ (x : S32) (W : World), ok x → Below w.heap.size w W → Calls Try.prog g (#[.agg #[.int .i64 x.f0, .int .i64 x.f1]] ++ cap) W fun e W' => e = .returned (.bool (p x)) ∧ Below W.heap.size W W'
set_option maxHeartbeats 2000000 in
theorem indexFunc_32 (ok : S32 → Prop) (gf : Nat) (cap : Array Value) (p : S32 → Bool) (eg : ∀ args w, (callFunc gf args).run Try.prog w = .ok (.enter gf args) w) (A : Option Addr) (c : Nat) (l : List S32) (w : World) (hr : Kd.C k32 w A l.length l) (hok : ∀ j : Nat, j < l.length → ok (rd_T32 l (j : Nat))) (hp : Pred32 ok gf cap p w) :
    Calls Try.prog 29 #[.slice A l.length c, .func (.func gf) #[] cap] w fun e w' => e = .returned (.int .i64 (idxP p l)) ∧ Below w.heap.size w w' := by
  have HR := Aside0.mk hr
  have HP := Aside0.mk hp
  have HOK := Aside0.mk hok
  have hll : l.length ≤ 9223372036854775807 := hr.2.1
  clear hr hp hok
  go_enter Try.func29, Try.ntmps29
  go_wp2
  go_loopg [5, 8] l.length (fun kq v5 v8 w' => ∃ k : Nat, k ≤ l.length ∧ l.length - k ≤ kq ∧ v8 = .int .i64 k ∧ Aside0 (∀ j, j < k → p (rd_T32 l (j : Nat)) = false) ∧ Aside0 (Below w.heap.size w w'))
  case atStart => exact ⟨0, Nat.zero_le _, by omega, rfl, ⟨fun j hj => absurd hj (Nat.not_lt_zero _)⟩, ⟨Below.refl _ _⟩⟩
  case round =>
    obtain ⟨k, hk, hg, rfl, HA, HB⟩ := hrel
    by_cases hlt : k < l.length
    · have hlti : (k : Int) < (l.length : Int) := by omega
      obtain ⟨ad, e1, a0, a1⟩ := at_T32 HR.out (k : Int) (by omega) hlti
      cases e1
      replace a0 := (HB.out.cell (World.block_lt_of_cell? w _ a0)).trans a0
      replace a1 := (HB.out.cell (World.block_lt_of_cell? w _ a1)).trans a1
      rw [Int.toNat_natCast] at a0 a1
      cases hq : p (rd_T32 l k) with
      | true =>
        have HQ := Aside0.mk hq
        clear hq
        go_wp2_with (go_at_fn gf; refine (HP.out (rd_T32 l k) _ (HOK.out k hlt) HB.out ).mono ?_; rintro e W1 ⟨rfl, hb⟩; simp only [HQ.out]; have HB1 := Aside0.mk (below_then HB.out HB.out.size hb); clear hb HB; have HB := HB1; clear HB1)
        go_ret
        exact ⟨ret_int64 (idxR_hit32 p l k hlt HA.out HQ.out), HB.out⟩
      | false =>
        have HQ := Aside0.mk hq
        clear hq
        go_wp2_with (go_at_fn gf; refine (HP.out (rd_T32 l k) _ (HOK.out k hlt) HB.out ).mono ?_; rintro e W1 ⟨rfl, hb⟩; simp only [HQ.out]; have HB1 := Aside0.mk (below_then HB.out HB.out.size hb); clear hb HB; have HB := HB1; clear HB1)
        go_roundg (l.length - (k + 1))
        case measure => omega
        case rel => exact ⟨k + 1, by omega, by omega, by go_num, ⟨fun j hj => by
          by_cases e : j = k
          · subst e; exact HQ.out
          · exact HA.out j (by omega)⟩, HB⟩
    · have : k = l.length := by omega
      subst this
      go_wp2
      go_ret
      exact ⟨ret_int64 (idxR_miss32 p l HA.out), HB.out⟩
theorem containsFunc_32 (ok : S32 → Prop) (gf : Nat) (cap : Array Value) (p : S32 → Bool) (eg : ∀ args w, (callFunc gf args).run Try.prog w = .ok (.enter gf args) w) (A : Option Addr) (c : Nat) (l : List S32) (w : World) (hr : Kd.C k32 w A l.length l) (hok : ∀ j : Nat, j < l.length → ok (rd_T32 l (j : Nat))) (hp : Pred32 ok gf cap p w) :
    Calls Try.prog 23 #[.slice A l.length c, .func (.func gf) #[] cap] w fun e w' => e = .returned (.bool (l.any p)) ∧ Below w.heap.size w w' := by
  have HH := Aside0.mk (indexFunc_32 ok gf cap p eg A c l w hr hok hp)
  clear hr hp eg hok
  have EI := Aside0.mk (idxP_any p l)
  go_enter Try.func23, Try.ntmps23
  go_wp2_with (go_at_call 29; (with_reducible refine HH.out.mono ?_); rintro e w' ⟨rfl, hb⟩; have HB := Aside0.mk hb; clear hb)
  go_ret
  exact ⟨by rw [EI.out]; rfl, HB.out⟩
def tmB (t : Int) : Bool := decide (0 ≤ t) && decide (t ≤ 1099511627776)
theorem tick_is (t : Int) : tick_Right.f t = some (tmB t) := by
  unfold tick_Right.f tmB
  by_cases h : 0 ≤ t <;> simp [h]
theorem E24 : ∀ args w, (callFunc 24 args).run Try.prog w = .ok (.enter 24 args) w := enters_of Try.func24 (by kernel_rfl) rfl
set_option maxHeartbeats 2000000 in
theorem right24_calls (x : S32) (w : World) : Calls Try.prog 24 #[.agg #[.int .i64 x.f0, .int .i64 x.f1]] w fun e w' => e = .returned (.bool (!tmB x.f0)) ∧ Below w.heap.size w w' := by
  have hF := Aside0.mk (Fr.Frame.start w)
  have HC : True := trivial
  go_enter Try.func24, Try.ntmps24
  go_wp2_with (first | ((with_reducible refine gate_store rfl ?_); apply Fr.fr_store hF.out rfl rfl rfl; (case hp => rfl); (case hx => first | (go_simp; rfl) | rfl); (case hu => (simp only [Value.cells]; rfl)); (case hs => (repeat (first | exact Fr.Spot.here _ _ | apply Fr.Spot.there))); (case ht => kernel_rfl); (case h1 => simp [Value.oneCell']); (case hfit => simp); intro W hF1; simp only [Fr.patch, List.take_zero, List.nil_append, List.drop, List.append_nil, List.take, List.cons_append, List.length_cons, List.length_nil, Nat.reduceAdd] at hF1; have HC1 := hF1.cells; simp only [Fr.Cells, List.length_cons, List.length_nil, Nat.reduceAdd, and_true] at HC1; clear hF HC; have HC := HC1; have hF := Aside0.mk hF1; clear hF1 HC1) | ((first | (with_reducible refine Fr.gate_alloc rfl ?_) | (with_reducible refine Fr.gate_box rfl ?_)); apply Fr.fr_box hF.out rfl; (case hrun => first | (go_simp; done) | (go_simp; rfl)); intro g W hF1; have HC1 := hF1.cells; simp only [Fr.Cells, List.length_cons, List.length_nil, Nat.reduceAdd, and_true] at HC1; clear hF HC; have HC := HC1; have hF := Aside0.mk hF1; clear hF1 HC1))
  (with_reducible refine (tick_Right.calls x.f0 _ _ (tick_is x.f0)).mono ?_); rintro e W ⟨rfl, hb⟩; have hF1 := hF.out.call hb.below; clear hb; have HC1 := hF1.cells; simp only [Fr.Cells, List.length_cons, List.length_nil, Nat.reduceAdd, and_true] at HC1; clear hF HC; have HC := HC1; have hF := Aside0.mk hF1; clear hF1 HC1
  go_wp2_with (first | ((with_reducible refine gate_store rfl ?_); apply Fr.fr_store hF.out rfl rfl rfl; (case hp => rfl); (case hx => first | (go_simp; rfl) | rfl); (case hu => (simp only [Value.cells]; rfl)); (case hs => (repeat (first | exact Fr.Spot.here _ _ | apply Fr.Spot.there))); (case ht => kernel_rfl); (case h1 => simp [Value.oneCell']); (case hfit => simp); intro W hF1; simp only [Fr.patch, List.take_zero, List.nil_append, List.drop, List.append_nil, List.take, List.cons_append, List.length_cons, List.length_nil, Nat.reduceAdd] at hF1; have HC1 := hF1.cells; simp only [Fr.Cells, List.length_cons, List.length_nil, Nat.reduceAdd, and_true] at HC1; clear hF HC; have HC := HC1; have hF := Aside0.mk hF1; clear hF1 HC1) | ((first | (with_reducible refine Fr.gate_alloc rfl ?_) | (with_reducible refine Fr.gate_box rfl ?_)); apply Fr.fr_box hF.out rfl; (case hrun => first | (go_simp; done) | (go_simp; rfl)); intro g W hF1; have HC1 := hF1.cells; simp only [Fr.Cells, List.length_cons, List.length_nil, Nat.reduceAdd, and_true] at HC1; clear hF HC; have HC := HC1; have hF := Aside0.mk hF1; clear hF1 HC1))
  go_ret
  exact ⟨rfl, hF.out.below⟩
def duesB (l : List S32) : Bool := decide (l.length ≤ 64) && !l.any (fun x => !tmB x.f0)
set_option maxHeartbeats 2000000 in
theorem right13_calls (A : Option Addr) (c : Nat) (l : List S32) (w : World) (hr : Kd.C k32 w A l.length l) : Calls Try.prog 13 #[.slice A l.length c] w fun e w' => e = .returned (.bool (duesB l)) ∧ Below w.heap.size w w' := by
  have H23 := Aside0.mk (fun W (hb : Below w.heap.size w W) => containsFunc_32 (fun _ => True) 24 #[] (fun x => !tmB x.f0) E24 A c l W (Kd.C_below hr hb) (fun _ _ => trivial) (fun x W2 _ _ => right24_calls x W2))
  unfold duesB
  have hF := Aside0.mk (Fr.Frame.start w)
  have HC : True := trivial
  obtain ⟨r, hr2⟩ : ∃ r, l.any (fun x => !tmB x.f0) = r := ⟨_, rfl⟩
  rw [hr2] at H23 ⊢
  clear hr2 hr
  by_cases h : l.length ≤ 64
  · rw [decide_eq_true h]
    have hi : (l.length : Int) ≤ 64 := by omega
    go_enter Try.func13, Try.ntmps13
    go_wp2_with (first | ((with_reducible refine gate_store rfl ?_); apply Fr.fr_store hF.out rfl rfl rfl; (case hp => rfl); (case hx => first | (go_simp; rfl) | rfl); (case hu => (simp only [Value.cells]; rfl)); (case hs => (repeat (first | exact Fr.Spot.here _ _ | apply Fr.Spot.there))); (case ht => kernel_rfl); (case h1 => simp [Value.oneCell']); (case hfit => simp); intro W hF1; simp only [Fr.patch, List.take_zero, List.nil_append, List.drop, List.append_nil, List.take, List.cons_append, List.length_cons, List.length_nil, Nat.reduceAdd] at hF1; have HC1 := hF1.cells; simp only [Fr.Cells, List.length_cons, List.length_nil, Nat.reduceAdd, and_true] at HC1; clear hF HC; have HC := HC1; have hF := Aside0.mk hF1; clear hF1 HC1) | ((first | (with_reducible refine Fr.gate_alloc rfl ?_) | (with_reducible refine Fr.gate_box rfl ?_)); apply Fr.fr_box hF.out rfl; (case hrun => first | (go_simp; done) | (go_simp; rfl)); intro g W hF1; have HC1 := hF1.cells; simp only [Fr.Cells, List.length_cons, List.length_nil, Nat.reduceAdd, and_true] at HC1; clear hF HC; have HC := HC1; have hF := Aside0.mk hF1; clear hF1 HC1))
    (with_reducible refine (H23.out _ hF.out.below).mono ?_); rintro e W ⟨rfl, hb⟩; have hF1 := hF.out.call hb; clear hb; have HC1 := hF1.cells; simp only [Fr.Cells, List.length_cons, List.length_nil, Nat.reduceAdd, and_true] at HC1; clear hF HC; have HC := HC1; have hF := Aside0.mk hF1; clear hF1 HC1
    go_wp2_with (first | ((with_reducible refine gate_store rfl ?_); apply Fr.fr_store hF.out rfl rfl rfl; (case hp => rfl); (case hx => first | (go_simp; rfl) | rfl); (case hu => (simp only [Value.cells]; rfl)); (case hs => (repeat (first | exact Fr.Spot.here _ _ | apply Fr.Spot.there))); (case ht => kernel_rfl); (case h1 => simp [Value.oneCell']); (case hfit => simp); intro W hF1; simp only [Fr.patch, List.take_zero, List.nil_append, List.drop, List.append_nil, List.take, List.cons_append, List.length_cons, List.length_nil, Nat.reduceAdd] at hF1; have HC1 := hF1.cells; simp only [Fr.Cells, List.length_cons, List.length_nil, Nat.reduceAdd, and_true] at HC1; clear hF HC; have HC := HC1; have hF := Aside0.mk hF1; clear hF1 HC1) | ((first | (with_reducible refine Fr.gate_alloc rfl ?_) | (with_reducible refine Fr.gate_box rfl ?_)); apply Fr.fr_box hF.out rfl; (case hrun => first | (go_simp; done) | (go_simp; rfl)); intro g W hF1; have HC1 := hF1.cells; simp only [Fr.Cells, List.length_cons, List.length_nil, Nat.reduceAdd, and_true] at HC1; clear hF HC; have HC := HC1; have hF := Aside0.mk hF1; clear hF1 HC1))
    go_ret
    exact ⟨rfl, hF.out.below⟩
  · rw [decide_eq_false h]
    have hi : ¬ (l.length : Int) ≤ 64 := by omega
    go_enter Try.func13, Try.ntmps13
    go_wp2_with (first | ((with_reducible refine gate_store rfl ?_); apply Fr.fr_store hF.out rfl rfl rfl; (case hp => rfl); (case hx => first | (go_simp; rfl) | rfl); (case hu => (simp only [Value.cells]; rfl)); (case hs => (repeat (first | exact Fr.Spot.here _ _ | apply Fr.Spot.there))); (case ht => kernel_rfl); (case h1 => simp [Value.oneCell']); (case hfit => simp); intro W hF1; simp only [Fr.patch, List.take_zero, List.nil_append, List.drop, List.append_nil, List.take, List.cons_append, List.length_cons, List.length_nil, Nat.reduceAdd] at hF1; have HC1 := hF1.cells; simp only [Fr.Cells, List.length_cons, List.length_nil, Nat.reduceAdd, and_true] at HC1; clear hF HC; have HC := HC1; have hF := Aside0.mk hF1; clear hF1 HC1) | ((first | (with_reducible refine Fr.gate_alloc rfl ?_) | (with_reducible refine Fr.gate_box rfl ?_)); apply Fr.fr_box hF.out rfl; (case hrun => first | (go_simp; done) | (go_simp; rfl)); intro g W hF1; have HC1 := hF1.cells; simp only [Fr.Cells, List.length_cons, List.length_nil, Nat.reduceAdd, and_true] at HC1; clear hF HC; have HC := HC1; have hF := Aside0.mk hF1; clear hF1 HC1))
    go_ret
    exact ⟨rfl, hF.out.below⟩
theorem frame_join {w0 W W' : World} {bs bs2 : List Fr.Blk} (hF : Fr.Frame w0 W bs []) (h2 : Fr.Frame W W' bs2 []) : Fr.Frame w0 W' (bs2 ++ bs) [] := by
  have h1 := hF.call h2.below
  refine ⟨h1.below, fun b hb => ?_, ?_, by simp⟩
  · rcases List.mem_append.1 hb with hb | hb
    · exact ⟨Nat.le_trans hF.below.size (h2.blk b hb).1, (h2.blk b hb).2⟩
    · exact h1.blk b hb
  · rw [List.map_append, List.nodup_append]
    refine ⟨h2.nodup, h1.nodup, fun a ha b hb e => ?_⟩
    obtain ⟨x, hx, rfl⟩ := List.mem_map.1 ha
    obtain ⟨y, hy, rfl⟩ := List.mem_map.1 hb
    have e1 := (h2.blk x hx).1
    have e2 := hF.lt hy
    omega
theorem ta_due (x : Value) (w : World) : (Instr.typeAssert (.iface 32 x) 20 32 true).run Try.prog w = .ok (.tuple #[x, .bool true]) w := by kernel_rfl
theorem take_flat {w0 W : World} {bs : List Fr.Blk} {rs : List Fr.Row} {g : Nat} {zs : List S32} {tl : List Value} {t : TypeId} {f : List Value → List Fr.Blk} (hF : Fr.Frame w0 W bs rs) (hs : Fr.Spot g t bs (flat zs ++ tl) f) (n : Nat) (hn : n ≤ zs.length) (hm : n ≤ 9223372036854775807) : Kd.C k32 W (some ⟨g, 0, none⟩) n (zs.take n) := by
  have e : flat zs ++ tl = flat (zs.take n) ++ (flat (zs.drop n) ++ tl) := by rw [← List.append_assoc, ← flat_app, List.take_append_drop]
  rw [e] at hs
  have hl : (zs.take n).length = n := by rw [List.length_take]; omega
  have h := flat_C hF hs (by rw [hl]; exact hm)
  rw [hl] at h
  exact h
def heapL (xs : List S32) : List S32 := initL (xs.length / 2) xs xs.length
theorem heapL_len (xs : List S32) : (heapL xs).length = xs.length := initL_len _ _ _
theorem frame_sub {w0 w : World} {bs bs' : List Fr.Blk} {rs : List Fr.Row} (h : Fr.Frame w0 w bs rs) (hs : bs'.Sublist bs) : Fr.Frame w0 w bs' rs :=
  ⟨h.below, fun b hb => h.blk b (hs.subset hb), h.nodup.sublist (hs.map _), fun r hr => ⟨(h.row r hr).1, (h.row r hr).2.1, fun b hb => (h.row r hr).2.2 b (hs.subset hb)⟩⟩
theorem frame_join_r {w0 W W' : World} {bs bs2 : List Fr.Blk} {rs : List Fr.Row} (hF : Fr.Frame w0 W bs rs) (h2 : Fr.Frame W W' bs2 []) : Fr.Frame w0 W' (bs2 ++ bs) rs := by
  have h1 := hF.call h2.below
  have h3 := frame_join hF.noRows h2
  refine ⟨h1.below, h3.blk, h3.nodup, fun r hr => ⟨(h1.row r hr).1, (h1.row r hr).2.1, fun b hb => ?_⟩⟩
  rcases List.mem_append.1 hb with hb | hb
  · intro hk
    have := (hF.row r hr).2.1 _ hk
    have := (h2.blk b hb).1
    omega
  · exact (h1.row r hr).2.2 b hb
set_option maxHeartbeats 4000000 in
set_option maxRecDepth 100000 in
theorem pop12_F (A : Option Addr) (c n : Nat) (xs : List S32) (w : World) (hr : Kd.C k32 w A xs.length xs) (hn : xs.length = n + 1) (hd : duesB xs = true) :
    Calls Try.prog 12 #[.slice A xs.length c] w fun e w' => ∃ g cap, e = .returned (.tuple #[.slice (some ⟨g, 0, none⟩) n cap, .agg #[.int .i64 ((popL (heapL xs)).getD n z32).f0, .int .i64 ((popL (heapL xs)).getD n z32).f1], .int .i64 0]) ∧ n ≤ cap ∧ ∃ tl, Fr.Frame w w' [(g, flat (popL (heapL xs)) ++ tl, 32)] [] := by
  have hl : xs.length ≤ 64 := by unfold duesB at hd; simp at hd; exact hd.1
  have H13 := Aside0.mk (fun W (hb : Below w.heap.size w W) => right13_calls A c xs W (Kd.C_below hr hb))
  rw [hd] at H13
  have H20 := Aside0.mk (fun W (hb : Below w.heap.size w W) => of20_some A c xs W (Kd.C_below hr hb) (by omega) (by omega))
  have hhl := heapL_len xs
  have hpl := popL_len (heapL xs)
  have H21 := Aside0.mk (fun (cap : Nat) (tl : List Value) (g h : Nat) (bs : List Fr.Blk) (W : World) (hcap : xs.length ≤ cap) (hF : Fr.Frame w W ((h, [.slice (some ⟨g, 0, none⟩) xs.length cap], 48) :: (g, flat (heapL xs) ++ tl, 32) :: bs) []) => (pop21_calls cap n (heapL xs) tl g h w W [] (fun p cs => (h, p, 48) :: (g, cs, 32) :: bs) ⟨fun p cs => .there _ (.here _ _), fun p cs => .here _ _⟩ (by rw [← hn]; exact hF) (by omega) (by omega) (by omega)))
  obtain ⟨ys, hys⟩ : ∃ ys, heapL xs = ys := ⟨_, rfl⟩
  unfold heapL at hys
  rw [hys] at H20
  rw [show heapL xs = ys from hys] at H21 hhl hpl ⊢
  obtain ⟨zs, hzs⟩ : ∃ zs, popL ys = zs := ⟨_, rfl⟩
  rw [hzs] at H21 hpl ⊢
  obtain ⟨x, hxe⟩ : ∃ x, zs.getD n z32 = x := ⟨_, rfl⟩
  rw [hxe] at H21 ⊢
  obtain ⟨nx, hnx⟩ : ∃ nx, xs.length = nx := ⟨_, rfl⟩
  rw [hnx] at H13 H20 H21 hn hl hhl ⊢
  subst hn
  have HZ := Aside0.mk (show zs.length = n + 1 by omega)
  have hne : ¬ n + 1 = 0 := by omega
  clear hr hd hys hzs hxe hnx hhl hpl
  have hta := ta_due
  have hF := Aside0.mk (Fr.Frame.start w)
  have HC : True := trivial
  go_enter Try.func12, Try.ntmps12
  go_wp2_with (first | ((with_reducible refine gate_store rfl ?_); apply Fr.fr_store hF.out rfl rfl rfl; (case hp => rfl); (case hx => first | (go_simp; rfl) | rfl); (case hu => (simp only [Value.cells]; rfl)); (case hs => (repeat (first | exact Fr.Spot.here _ _ | apply Fr.Spot.there))); (case ht => kernel_rfl); (case h1 => simp [Value.oneCell']); (case hfit => simp); intro W hF1; simp only [Fr.patch, List.take_zero, List.nil_append, List.drop, List.append_nil, List.take, List.cons_append, List.length_cons, List.length_nil, Nat.reduceAdd] at hF1; have HC1 := hF1.cells; simp only [Fr.Cells, List.length_cons, List.length_nil, Nat.reduceAdd, and_true] at HC1; clear hF HC; have HC := HC1; have hF := Aside0.mk hF1; clear hF1 HC1) | ((with_reducible refine gate_dst (N := 3) rfl ?_); apply Fr.fr_box hF.out rfl; (case hrun => first | (go_simp; done) | (go_simp; rfl)); intro r3 W hF1; have HC1 := hF1.cells; simp only [Fr.Cells, List.length_cons, List.length_nil, Nat.reduceAdd, and_true] at HC1; clear hF HC; have HC := HC1; have hF := Aside0.mk hF1; clear hF1 HC1) | ((first | (with_reducible refine Fr.gate_alloc rfl ?_) | (with_reducible refine Fr.gate_box rfl ?_)); apply Fr.fr_box hF.out rfl; (case hrun => first | (go_simp; done) | (go_simp; rfl)); intro g W hF1; have HC1 := hF1.cells; simp only [Fr.Cells, List.length_cons, List.length_nil, Nat.reduceAdd, and_true] at HC1; clear hF HC; have HC := HC1; have hF := Aside0.mk hF1; clear hF1 HC1))
  (with_reducible refine (H13.out _ hF.out.below).mono ?_); rintro e W ⟨rfl, hb⟩; have hF1 := hF.out.call hb; clear hb; have HC1 := hF1.cells; simp only [Fr.Cells, List.length_cons, List.length_nil, Nat.reduceAdd, and_true] at HC1; clear hF HC; have HC := HC1; have hF := Aside0.mk hF1; clear hF1 HC1
  go_wp2_with (first | ((with_reducible refine gate_store rfl ?_); apply Fr.fr_store hF.out rfl rfl rfl; (case hp => rfl); (case hx => first | (go_simp; rfl) | rfl); (case hu => (simp only [Value.cells]; rfl)); (case hs => (repeat (first | exact Fr.Spot.here _ _ | apply Fr.Spot.there))); (case ht => kernel_rfl); (case h1 => simp [Value.oneCell']); (case hfit => simp); intro W hF1; simp only [Fr.patch, List.take_zero, List.nil_append, List.drop, List.append_nil, List.take, List.cons_append, List.length_cons, List.length_nil, Nat.reduceAdd] at hF1; have HC1 := hF1.cells; simp only [Fr.Cells, List.length_cons, List.length_nil, Nat.reduceAdd, and_true] at HC1; clear hF HC; have HC := HC1; have hF := Aside0.mk hF1; clear hF1 HC1) | ((first | (with_reducible refine Fr.gate_alloc rfl ?_) | (with_reducible refine Fr.gate_box rfl ?_)); apply Fr.fr_box hF.out rfl; (case hrun => first | (go_simp; done) | (go_simp; rfl)); intro g W hF1; have HC1 := hF1.cells; simp only [Fr.Cells, List.length_cons, List.length_nil, Nat.reduceAdd, and_true] at HC1; clear hF HC; have HC := HC1; have hF := Aside0.mk hF1; clear hF1 HC1))
  (with_reducible refine (H20.out _ hF.out.below).mono ?_)
  rintro e W1 ⟨h, g, cap, tl, rfl, hcap, hF1⟩
  replace hF1 := frame_join hF.out hF1
  simp only [List.cons_append, List.nil_append] at hF1
  have HC1 := hF1.cells; simp only [Fr.Cells, List.length_cons, List.length_nil, Nat.reduceAdd, and_true] at HC1; clear hF HC; have HC := HC1; have hF := Aside0.mk hF1; clear hF1 HC1
  go_wp2_with (first | ((with_reducible refine gate_store rfl ?_); apply Fr.fr_store hF.out rfl rfl rfl; (case hp => rfl); (case hx => first | (go_simp; rfl) | rfl); (case hu => (simp only [Value.cells]; rfl)); (case hs => (repeat (first | exact Fr.Spot.here _ _ | apply Fr.Spot.there))); (case ht => kernel_rfl); (case h1 => simp [Value.oneCell']); (case hfit => simp); intro W hF1; simp only [Fr.patch, List.take_zero, List.nil_append, List.drop, List.append_nil, List.take, List.cons_append, List.length_cons, List.length_nil, Nat.reduceAdd] at hF1; have HC1 := hF1.cells; simp only [Fr.Cells, List.length_cons, List.length_nil, Nat.reduceAdd, and_true] at HC1; clear hF HC; have HC := HC1; have hF := Aside0.mk hF1; clear hF1 HC1) | ((first | (with_reducible refine Fr.gate_alloc rfl ?_) | (with_reducible refine Fr.gate_box rfl ?_)); apply Fr.fr_box hF.out rfl; (case hrun => first | (go_simp; done) | (go_simp; rfl)); intro g W hF1; have HC1 := hF1.cells; simp only [Fr.Cells, List.length_cons, List.length_nil, Nat.reduceAdd, and_true] at HC1; clear hF HC; have HC := HC1; have hF := Aside0.mk hF1; clear hF1 HC1))
  (with_reducible refine (H21.out cap tl g h _ _ hcap hF.out).mono ?_)
  rintro e W2 ⟨rfl, hF1⟩
  have HC1 := hF1.cells; simp only [Fr.Cells, List.length_cons, List.length_nil, Nat.reduceAdd, and_true] at HC1; clear hF HC; have HC := HC1; have hF := Aside0.mk hF1; clear hF1 HC1
  go_wp2_with (first | ((with_reducible refine gate_store rfl ?_); apply Fr.fr_store hF.out rfl rfl rfl; (case hp => rfl); (case hx => first | (go_simp; rfl) | rfl); (case hu => (simp only [Value.cells]; rfl)); (case hs => (repeat (first | exact Fr.Spot.here _ _ | apply Fr.Spot.there))); (case ht => kernel_rfl); (case h1 => simp [Value.oneCell']); (case hfit => simp); intro W hF1; simp only [Fr.patch, List.take_zero, List.nil_append, List.drop, List.append_nil, List.take, List.cons_append, List.length_cons, List.length_nil, Nat.reduceAdd] at hF1; have HC1 := hF1.cells; simp only [Fr.Cells, List.length_cons, List.length_nil, Nat.reduceAdd, and_true] at HC1; clear hF HC; have HC := HC1; have hF := Aside0.mk hF1; clear hF1 HC1) | ((with_reducible refine gate_dst (N := 6) rfl ?_); apply Fr.fr_box hF.out rfl; (case hrun => first | (go_simp; done) | (go_simp; rfl)); intro r6 W hF1; have HC1 := hF1.cells; simp only [Fr.Cells, List.length_cons, List.length_nil, Nat.reduceAdd, and_true] at HC1; clear hF HC; have HC := HC1; have hF := Aside0.mk hF1; clear hF1 HC1) | ((first | (with_reducible refine Fr.gate_alloc rfl ?_) | (with_reducible refine Fr.gate_box rfl ?_)); apply Fr.fr_box hF.out rfl; (case hrun => first | (go_simp; done) | (go_simp; rfl)); intro g W hF1; have HC1 := hF1.cells; simp only [Fr.Cells, List.length_cons, List.length_nil, Nat.reduceAdd, and_true] at HC1; clear hF HC; have HC := HC1; have hF := Aside0.mk hF1; clear hF1 HC1))
  have HF0 := hF
  have hnd := hF.out.nodup
  simp only [List.map_cons, List.map_nil, List.nodup_cons, List.mem_cons, List.not_mem_nil, or_false, not_or, not_false_eq_true, List.nodup_nil, and_true] at hnd
  obtain ⟨⟨e1, e2, e3⟩, ⟨e4, e5⟩, e6⟩ := hnd
  have e7 := fun h => e3 (Eq.symm h)
  have e8 := fun h => e5 (Eq.symm h)
  clear hF hta H21 H20 H13
  first | go_region_with (fail) | fail
  all_goals
    go_wp2_with fail
    have HFe := Fr.Frame.drew (HF0.out.put (Fr.Spot.there _ (Fr.Spot.there _ (Fr.Spot.there _ (Fr.Spot.here _ _)))) 0 [.int .i64 x.f0, .int .i64 x.f1] (by simp))
    have HCe : Fr.Frame w (((W.setCell ⟨r3, 0, none⟩ (.int .i64 x.f0)).setCell ⟨r3, 1, none⟩ (.int .i64 x.f1)).drew) [(r6, [.int .i64 x.f0, .int .i64 x.f1], 32), (h, [.slice (some ⟨g, 0, none⟩) n cap], 48), (g, flat zs ++ tl, 32), (r3, [.int .i64 x.f0, .int .i64 x.f1], 32)] [] := HFe
    clear HFe
    have HC2 := HCe.cells
    simp only [Fr.Cells, List.length_cons, List.length_nil, Nat.reduceAdd, and_true] at HC2
    have hS := frame_sub HCe (bs' := [(g, flat zs ++ tl, 32)]) (.cons _ (.cons _ (List.Sublist.cons_cons _ (.cons _ (.refl _)))))
    clear HC
    refine bodyPost_ret ?_ rfl ⟨g, cap, rfl, by omega, tl, hS⟩
    clear hS
    simp [results, Try.results12, go_sem, HC2]
set_option maxHeartbeats 2000000 in
set_option maxRecDepth 100000 in
theorem pop12_none (A : Option Addr) (c : Nat) (xs : List S32) (w : World) (hr : Kd.C k32 w A xs.length xs) (hn : xs.length = 0) :
    Calls Try.prog 12 #[.slice A xs.length c] w fun e w' => e = .returned (.tuple #[.slice none 0 0, .agg #[.int .i64 0, .int .i64 0], .int .i64 4]) ∧ Below w.heap.size w w' := by
  have H13 := Aside0.mk (fun W (hb : Below w.heap.size w W) => right13_calls A c xs W (Kd.C_below hr hb))
  rw [show duesB xs = true by rw [List.eq_nil_of_length_eq_zero hn]; rfl] at H13
  rw [hn] at H13 ⊢
  clear hn
  clear hr
  have hF := Aside0.mk (Fr.Frame.start w)
  have HC : True := trivial
  go_enter Try.func12, Try.ntmps12
  go_wp2_with (first | ((with_reducible refine gate_store rfl ?_); apply Fr.fr_store hF.out rfl rfl rfl; (case hp => rfl); (case hx => first | (go_simp; rfl) | rfl); (case hu => (simp only [Value.cells]; rfl)); (case hs => (repeat (first | exact Fr.Spot.here _ _ | apply Fr.Spot.there))); (case ht => kernel_rfl); (case h1 => simp [Value.oneCell']); (case hfit => simp); intro W hF1; simp only [Fr.patch, List.take_zero, List.nil_append, List.drop, List.append_nil, List.take, List.cons_append, List.length_cons, List.length_nil, Nat.reduceAdd] at hF1; have HC1 := hF1.cells; simp only [Fr.Cells, List.length_cons, List.length_nil, Nat.reduceAdd, and_true] at HC1; clear hF HC; have HC := HC1; have hF := Aside0.mk hF1; clear hF1 HC1) | ((with_reducible refine gate_dst (N := 3) rfl ?_); apply Fr.fr_box hF.out rfl; (case hrun => first | (go_simp; done) | (go_simp; rfl)); intro r3 W hF1; have HC1 := hF1.cells; simp only [Fr.Cells, List.length_cons, List.length_nil, Nat.reduceAdd, and_true] at HC1; clear hF HC; have HC := HC1; have hF := Aside0.mk hF1; clear hF1 HC1) | ((first | (with_reducible refine Fr.gate_alloc rfl ?_) | (with_reducible refine Fr.gate_box rfl ?_)); apply Fr.fr_box hF.out rfl; (case hrun => first | (go_simp; done) | (go_simp; rfl)); intro g W hF1; have HC1 := hF1.cells; simp only [Fr.Cells, List.length_cons, List.length_nil, Nat.reduceAdd, and_true] at HC1; clear hF HC; have HC := HC1; have hF := Aside0.mk hF1; clear hF1 HC1))
  (with_reducible refine (H13.out _ hF.out.below).mono ?_); rintro e W ⟨rfl, hb⟩; have hF1 := hF.out.call hb; clear hb; have HC1 := hF1.cells; simp only [Fr.Cells, List.length_cons, List.length_nil, Nat.reduceAdd, and_true] at HC1; clear hF HC; have HC := HC1; have hF := Aside0.mk hF1; clear hF1 HC1
  go_wp2_with (first | ((with_reducible refine gate_store rfl ?_); apply Fr.fr_store hF.out rfl rfl rfl; (case hp => rfl); (case hx => first | (go_simp; rfl) | rfl); (case hu => (simp only [Value.cells]; rfl)); (case hs => (repeat (first | exact Fr.Spot.here _ _ | apply Fr.Spot.there))); (case ht => kernel_rfl); (case h1 => simp [Value.oneCell']); (case hfit => simp); intro W hF1; simp only [Fr.patch, List.take_zero, List.nil_append, List.drop, List.append_nil, List.take, List.cons_append, List.length_cons, List.length_nil, Nat.reduceAdd] at hF1; have HC1 := hF1.cells; simp only [Fr.Cells, List.length_cons, List.length_nil, Nat.reduceAdd, and_true] at HC1; clear hF HC; have HC := HC1; have hF := Aside0.mk hF1; clear hF1 HC1) | ((first | (with_reducible refine Fr.gate_alloc rfl ?_) | (with_reducible refine Fr.gate_box rfl ?_)); apply Fr.fr_box hF.out rfl; (case hrun => first | (go_simp; done) | (go_simp; rfl)); intro g W hF1; have HC1 := hF1.cells; simp only [Fr.Cells, List.length_cons, List.length_nil, Nat.reduceAdd, and_true] at HC1; clear hF HC; have HC := HC1; have hF := Aside0.mk hF1; clear hF1 HC1))
  refine bodyPost_ret ?_ rfl ⟨rfl, hF.out.below⟩
  simp [results, Try.results12, go_sem, HC]
section
variable {P : Program} {Q : Exit → Act → World → Prop} {a : Act} {w : World}
def wpN (P : Program) (c : Code) (Q : Exit → Act → World → Prop) (a : Act) (w : World) : Prop :=
  ∀ (b : Frame), b.kind ≠ .early → ∀ (k : List Item) (cs : List Frame), ∃ e a' w', Q e a' w' ∧ Arrives P (lone (b.at a (.code c :: k)) cs w) b k cs e a' w'
theorem wpN_of {c : Code} (h : c.wp P Q a w) : wpN P c Q a w := fun b _ k cs => h b k cs
theorem wpN_mono {c : Code} {Q' : Exit → Act → World → Prop} (h : wpN P c Q a w) (hq : ∀ e a w, Q e a w → Q' e a w) : wpN P c Q' a w := fun b hb k cs => by
  obtain ⟨e, a', w', q, r⟩ := h b hb k cs
  exact ⟨e, a', w', hq _ _ _ q, r⟩
theorem arr_over {m m₁ : Machine} {b : Frame} {x : Item} {k : List Item} {cs : List Frame} {e : Exit} (hx : x.plain = true) (he : e ≠ .normal) (hs : Steps P m m₁) (h : Arrives P m₁ b (x :: k) cs e a w) : Arrives P m b k cs e a w :=
  Arrives.of_steps hs (Arrives.pass (x := x) hx (fun _ _ => .inl he) h)
theorem wpN_seq {x y : Code} (h : wpN P x (Exit.then (fun a' w' => wpN P y Q a' w') Q) a w) : wpN P (Code.seq x y) Q a w := fun b hb k cs => by
  obtain ⟨e, a₁, w₁, hq, hr⟩ := h b hb (.code y :: k) cs
  by_cases he : e = .normal
  · subst he
    obtain ⟨e₂, a₂, w₂, hq₂, hr₂⟩ := (hq : wpN P y Q a₁ w₁) b hb k cs
    exact ⟨e₂, a₂, w₂, hq₂, .of_steps (.head step_seq hr) hr₂⟩
  · refine ⟨e, a₁, w₁, ?_, arr_over rfl he (.one step_seq) hr⟩
    cases e <;> first | exact absurd rfl he | exact hq
theorem wpN_block {id : Nat} {c : Code} (h : wpN P c (Exit.inBlock id Q) a w) : wpN P (Code.block id c) Q a w := fun b hb k cs => by
  obtain ⟨e, a₁, w₁, hq, hr⟩ := h b hb (.inBlock id :: k) cs
  cases e with
  | normal => exact ⟨.normal, a₁, w₁, hq, .head step_block (Steps.trans hr (.one step_inBlock))⟩
  | exit j =>
    by_cases hj : j = id
    · subst hj
      have hq' : Q .normal a₁ w₁ := by simpa [Exit.inBlock] using hq
      exact ⟨.normal, a₁, w₁, hq', .head step_block (hr k (by simp [exitTo]))⟩
    · have hq' : Q (.exit j) a₁ w₁ := by simpa [Exit.inBlock, hj] using hq
      have hne : (id == j) = false := by simpa using fun e => hj e.symm
      exact ⟨.exit j, a₁, w₁, hq', fun k' hk => .head step_block (hr k' (by simp [exitTo, hne, hk]))⟩
  | goto l => exact ⟨_, a₁, w₁, hq, fun k' hk => .head step_block (hr k' (by simp [gotoIn, hk]))⟩
  | ret => exact ⟨_, a₁, w₁, hq, .of_steps (.one step_block) hr⟩
  | panic ch => exact ⟨_, a₁, w₁, hq, .of_steps (.one step_block) hr⟩
  | outgrown => exact ⟨_, a₁, w₁, hq, .of_steps (b := b) (k := k) (cs := cs) (e := .outgrown) (.one step_block) hr⟩
theorem wpN_loop {c : Code} (J : Nat → Act → World → Prop) (round : ∀ n a w, J n a w → wpN P c (Exit.then (fun a' w' => ∃ m, m < n ∧ J m a' w') Q) a w) {n : Nat} (h₀ : J n a w) : wpN P (Code.loop c) Q a w := fun b hb k cs => by
  have key : ∀ n a w, J n a w → ∃ e a' w', Q e a' w' ∧ Arrives P (lone (b.at a (.code c :: .inLoop c :: k)) cs w) b k cs e a' w' := by
    intro n
    induction n using Nat.strongRecOn with
    | ind n ih =>
      intro a w hJ
      obtain ⟨e, a₁, w₁, hq, hr⟩ := round n a w hJ b hb (.inLoop c :: k) cs
      by_cases he : e = .normal
      · subst he
        obtain ⟨m, hm, hJ₁⟩ := (hq : ∃ m, m < n ∧ J m a₁ w₁)
        obtain ⟨e₂, a₂, w₂, hq₂, hr₂⟩ := ih m hm a₁ w₁ hJ₁
        exact ⟨e₂, a₂, w₂, hq₂, .of_steps (Steps.trans hr (.one step_inLoop)) hr₂⟩
      · refine ⟨e, a₁, w₁, ?_, arr_over rfl he (Steps.refl _ _) hr⟩
        cases e <;> first | exact absurd rfl he | exact hq
  obtain ⟨e, a', w', hq, hr⟩ := key n a w h₀
  exact ⟨e, a', w', hq, .of_steps (.one step_loop) hr⟩
theorem calls_of_wpN {f : FuncId} {fn : Func} {c : Code} {args : Array Value} {R : Ending → World → Prop} (hf : P.funcs[f]? = some fn) (hb : fn.body = some c)
    (h : wpN P c (bodyPost P fn R) { tmps := args ++ Array.replicate (fn.ntmps - args.size) undef, defers := [] } w) : Calls P f args w R := by
  intro cs
  have hk : ({ (default : Frame) with fn := f, kind := .normal } : Frame).kind ≠ .early := by simp
  obtain ⟨e, a', w', hq, hr⟩ := h { (default : Frame) with fn := f, kind := .normal } hk [] cs
  have he : Frame.enter P f args .normal = ({ (default : Frame) with fn := f, kind := .normal } : Frame).at { tmps := args ++ Array.replicate (fn.ntmps - args.size) undef, defers := [] } [.code c] := by
    simp [Frame.enter, Frame.at, hf, hb]
  rw [← he] at hr
  cases e with
  | normal =>
    obtain ⟨hd, v, hv, hR⟩ := hq
    exact ⟨.returned v, w', _, hR, Steps.trans hr (.one step_end), rfl, rfl, hd, rfl, fn, hf, hv⟩
  | ret =>
    obtain ⟨hd, v, hv, hR⟩ := hq
    obtain ⟨todo, hs⟩ := hr
    exact ⟨.returned v, w', _, hR, hs, rfl, rfl, hd, rfl, fn, hf, hv⟩
  | panic chain =>
    obtain ⟨hd, hR⟩ := hq
    obtain ⟨todo, hs⟩ := hr
    exact ⟨.panicked chain, w', _, hR, hs, rfl, rfl, hd, fn, hf⟩
  | exit id => exact hq.elim
  | goto l => exact hq.elim
  | outgrown => exact ⟨.outgrown, w', { (default : Frame) with fn := f, kind := .normal }, hq, hr.resolve_left hk, rfl, trivial⟩
theorem wpN_lone {c : Code} (a' : Act) (w' : World) (hq : Q .normal a' w') (h : ∀ (b : Frame), b.kind ≠ .early → ∀ (k : List Item) (cs : List Frame), Conc.LoneTo P (fun g w'' => g = Conc.G (b.at a' k) cs ∧ w'' = w') (Conc.G (b.at a (.code c :: k)) cs) w) : wpN P c Q a w := fun b hb k cs => by
  obtain ⟨g, w'', hs, rfl, rfl⟩ := h b hb k cs
  exact ⟨.normal, a', _, hq, hs⟩
end
def chanR (ch : Nat) (buf : List Value) (s r : Nat) : Fr.Row := ⟨fun k => k = ch, fun w => w.heap[ch]? = some (.chan 64 buf.toArray false s r false), fun _ _ _ hb h => (hb ch rfl).trans h⟩
theorem frame_mkchan {w0 W : World} {bs : List Fr.Blk} (hF : Fr.Frame w0 W bs []) : Fr.Frame w0 (W.alloc (.chan 64 #[] false 0 0 false)) bs [chanR W.heap.size [] 0 0] := by
  have hF1 := hF.call ((Below.refl _ W).alloc (Nat.le_refl _) (.chan 64 #[] false 0 0 false))
  have hn := heap_alloc_new W (.chan 64 #[] false 0 0 false)
  exact hF1.add (chanR W.heap.size [] 0 0) hn (fun k hk => by cases hk; exact (Array.getElem?_eq_some_iff.1 hn).1) (fun b hb hk => by have := hF.lt hb; have hk' : b.1 = W.heap.size := hk; omega)
theorem frame_setchan {w0 W : World} {bs : List Fr.Blk} {ch s r s' r' : Nat} {buf buf' : List Value} (h0 : w0.heap.size ≤ ch) (hF : Fr.Frame w0 W bs [chanR ch buf s r]) : Fr.Frame w0 (W.setChan ch 64 buf'.toArray false s' r' false) bs [chanR ch buf' s' r'] := by
  have hr := hF.row (chanR ch buf s r) List.mem_cons_self
  have hlt : ch < W.heap.size := hr.2.1 ch rfl
  have hne : ∀ b ∈ bs, b.1 ≠ ch := fun b hb e => hr.2.2 b hb e
  have hset := Conc.heap_setChan W ch 64 buf'.toArray false s' r' false hlt
  have hF1 : Fr.Frame w0 (W.setChan ch 64 buf'.toArray false s' r' false) bs [] := ⟨Conc.below_setChan hF.below h0 _ _ _ _ _ _, fun b hb => ⟨(hF.blk b hb).1, by
    have h1 := (hF.blk b hb).2
    simp only [World.setChan]
    rw [Array.getElem?_setIfInBounds_ne (fun e => hne b hb e.symm)]
    exact h1⟩, hF.nodup, by simp⟩
  exact hF1.add (chanR ch buf' s' r') hset (fun k hk => by cases hk; rw [Conc.size_setChan]; exact hlt) (fun b hb hk => hne b hb hk)
section
variable {P : Program} {ops : Array Oper} {rest : List Oper} {o : Oper} {a : Act} {Q : Exit → Act → World → Prop} {w0 W : World} {bs : List Fr.Blk}
theorem fr_appendC {S : Nat → Prop} {v : Value} {xs : List S32} (s x : Operand) (z : Value) (bytes : Nat) (t : TypeId) {ch s0 r0 g5 : Nat} {buf : List Value} {p : S32}
    (hF : Fr.Frame w0 W bs [Fr.rowR k32 32 w0.heap.size v xs S, chanR ch buf s0 r0]) (hm : (g5, [.int .i64 p.f0, .int .i64 p.f1], 32) ∈ bs) (hgd : o.guard = none) (ho : o.op = .call { callee := .builtin .append, args := #[s, x], argTypes := #[t, t] })
    (ht : P.underlying t = some (.slice 32)) (hinfo : (P.info? 32).map (fun i => (i.zero, i.size, i.bytes)) = some (some z, k32.sz, bytes)) (hz : z.cells.size = k32.sz) (hb0 : 0 < bytes)
    (hs : a.eval s = v) (hx : a.eval x = .slice (some ⟨g5, 0, none⟩) 1 1) (hl : (xs.length + 1) * bytes ≤ 140737488355328)
    (h : ∀ v1 w1 S1, Fr.Frame w0 w1 bs [Fr.rowR k32 32 w0.heap.size v1 (xs ++ [p]) S1, chanR ch buf s0 r0] → wpList P ops Q rest (a.put o.dst v1) w1) : wpList P ops Q (o :: rest) a W := by
  have hr := hF.row (Fr.rowR k32 32 w0.heap.size v xs S) List.mem_cons_self
  have hc := hF.row (chanR ch buf s0 r0) (List.mem_cons_of_mem _ List.mem_cons_self)
  have hcc : W.heap[ch]? = some (.chan 64 buf.toArray false s0 r0 false) := hc.1
  have hRS : k32.R 32 W w0.heap.size S v xs := hr.1
  have hown : ∀ k, v.ownBlock = some k → (∀ b ∈ bs, k ≠ b.1) ∧ k ≠ ch := fun k hk => by
    refine ⟨fun b hb he => hr.2.2 b hb (by subst he; exact hRS.1 _ hk), fun he => ?_⟩
    obtain ⟨_, inner, ⟨_, h3⟩, _⟩ := hRS
    rcases h3 with ⟨h4, _⟩ | ⟨g, cap, cur, rfl, _, hh, _⟩
    · rw [h4] at hk; simp [Value.ownBlock] at hk
    · have : g = k := by simpa [Value.ownBlock] using hk
      rw [this, he, hcc] at hh
      exact absurd hh (by simp)
  have HO : k32.R 32 W w0.heap.size (fun k => (∀ b ∈ bs, k ≠ b.1) ∧ k ≠ ch) v xs := by
    obtain ⟨_, inner, h2, h4⟩ := hRS
    exact ⟨hown, inner, h2, h4.imp_ (fun q c hq => by rw [k32_openM hq]; exact k32_mkM _ _ _ q)⟩
  have hg5 := fun i => blk_cell (hF.blk _ hm).2 i
  obtain ⟨v1, w1, hrun, h1, _, hg⟩ := Fr.R_append_keep (P := P) k32 w0.heap.size t o.type 32 z bytes ht hinfo hz (by decide) hb0 HO (ps := [p]) (cs := [.int .i64 p.f0, .int .i64 p.f1]) (fun w ok => Reps.c2 (k32_mkM w _ ok p) (Reps.none _ _)) (by simp [Value.oneCell']) ⟨g5, 0, none⟩ 1 1 rfl (fun j u hj => by
    rw [show (⟨g5, 0, none⟩ : Addr).add j = ⟨g5, j, none⟩ by unfold Addr.add; split <;> simp_all, hg5]
    simpa using hj) hl hF.below.size (fun k hk => ⟨fun b hb he => by have := hF.lt hb; omega, fun he => by have := (Array.getElem?_eq_some_iff.1 hcc).1; omega⟩)
  have hF0 : Fr.Frame w0 W bs [] := hF.noRows
  have hF1 : Fr.Frame w0 w1 bs [] := ⟨hF0.below.grown hg hF.below.size (fun k hk => Kd.R_base hRS k hk), fun b hb => ⟨(hF0.blk b hb).1, blk_grown (hF0.blk b hb).2 hg (fun e1 => (hown b.1 e1.symm).1 b hb rfl)⟩, hF0.nodup, by simp⟩
  have hclt := (Array.getElem?_eq_some_iff.1 hcc).1
  have hc1 : w1.heap[ch]? = some (.chan 64 buf.toArray false s0 r0 false) := (hg.block ch hclt (fun e => (hown ch e.symm).2 rfl)).trans hcc
  have hF2 := hF1.add (chanR ch buf s0 r0) hc1 (fun k hk => by cases hk; exact (Array.getElem?_eq_some_iff.1 hc1).1) (fun b hb hk => hc.2.2 b hb hk)
  obtain ⟨S1, hS1⟩ := hF2.rowIn h1 (fun k hk => hk.1)
  refine wpList_plain hgd fun K hK => ?_
  unfold Oper.wp execOp
  simp only [ho, resolve, invoke, builtin, Sem.run_bind, Sem.run_pure, Result.andThen_ok, List.map_toArray, List.map_cons, List.map_nil, hs, hx, hrun]
  exact hK _ _ (h v1 w1 S1 hS1)
end
theorem frame_setchan2 {w0 W : World} {bs : List Fr.Blk} {ch s r s' r' : Nat} {buf buf' : List Value} {S : Nat → Prop} {v : Value} {xs : List S32} (h0 : w0.heap.size ≤ ch) (hF : Fr.Frame w0 W bs [Fr.rowR k32 32 w0.heap.size v xs S, chanR ch buf s r]) : ∃ S', Fr.Frame w0 (W.setChan ch 64 buf'.toArray false s' r' false) bs [Fr.rowR k32 32 w0.heap.size v xs S', chanR ch buf' s' r'] := by
  have hr := hF.row (Fr.rowR k32 32 w0.heap.size v xs S) List.mem_cons_self
  have hc := hF.row (chanR ch buf s r) (List.mem_cons_of_mem _ List.mem_cons_self)
  have hcc : W.heap[ch]? = some (.chan 64 buf.toArray false s r false) := hc.1
  have hRS : k32.R 32 W w0.heap.size S v xs := hr.1
  have hown : ∀ k, v.ownBlock = some k → (∀ b ∈ bs, k ≠ b.1) ∧ k ≠ ch := fun k hk => by
    refine ⟨fun b hb he => hr.2.2 b hb (by subst he; exact hRS.1 _ hk), fun he => ?_⟩
    obtain ⟨_, inner, ⟨_, h3⟩, _⟩ := hRS
    rcases h3 with ⟨h4, _⟩ | ⟨g, cap, cur, rfl, _, hh, _⟩
    · rw [h4] at hk; simp [Value.ownBlock] at hk
    · have : g = k := by simpa [Value.ownBlock] using hk
      rw [this, he, hcc] at hh
      exact absurd hh (by simp)
  have HO : k32.R 32 W w0.heap.size (fun k => (∀ b ∈ bs, k ≠ b.1) ∧ k ≠ ch) v xs := by
    obtain ⟨_, inner, h2, h4⟩ := hRS
    exact ⟨hown, inner, h2, h4.imp_ (fun q c hq => by rw [k32_openM hq]; exact k32_mkM _ _ _ q)⟩
  have hFc : Fr.Frame w0 W bs [chanR ch buf s r] := hF.noRows.add (chanR ch buf s r) hcc (fun k hk => by cases hk; exact (Array.getElem?_eq_some_iff.1 hcc).1) (fun b hb hk => hc.2.2 b hb hk)
  have hF2 := frame_setchan (buf' := buf') (s' := s') (r' := r') h0 hFc
  have hR2 : k32.R 32 (W.setChan ch 64 buf'.toArray false s' r' false) w0.heap.size (fun k => (∀ b ∈ bs, k ≠ b.1) ∧ k ≠ ch) v xs :=
    (Fr.rowR k32 32 w0.heap.size v xs (fun k => (∀ b ∈ bs, k ≠ b.1) ∧ k ≠ ch)).dep W _ (by rw [Conc.size_setChan]; exact Nat.le_refl _) (fun k hk => by
      have hk2 : (∀ b ∈ bs, k ≠ b.1) ∧ k ≠ ch := hk
      simp only [World.setChan]
      rw [Array.getElem?_setIfInBounds_ne (fun e => hk2.2 e.symm)]) HO
  exact hF2.rowIn hR2 (fun k hk => hk.1)
section
variable {P : Program} {ops : Array Oper} {rest : List Oper} {o : Oper} {a : Act} {Q : Exit → Act → World → Prop} {w0 W : World} {bs : List Fr.Blk} {rs : List Fr.Row}
theorem fr_slice (hF : Fr.Frame w0 W bs rs) (hgd : o.guard = none) {cs : List Value} {t : TypeId} {n : Nat}
    (hrun : (execOp a.eval o).run P W = .ok (.value (.slice (some ⟨W.heap.size, 0, none⟩) n n)) (W.alloc (.cells cs.toArray t (0, 0))))
    (h : ∀ g w1, Fr.Frame w0 w1 ((g, cs, t) :: bs) rs → wpList P ops Q rest (a.put o.dst (.slice (some ⟨g, 0, none⟩) n n)) w1) : wpList P ops Q (o :: rest) a W :=
  Kd.event_run hgd hrun (h _ _ (hF.alloc cs t))
theorem gate_bslice {t : TypeId} {n : Nat} {ps : Array (Nat × Operand)} (_ho : o.op = .buildSlice t n ps) (h : wpList P ops Q (o :: rest) a W) : wpList P ops Q (o :: rest) a W := h
end
def drainL : Nat → List S32 → Int → List S32 × List S32
  | 0, zs, _ => ([], zs)
  | k + 1, zs, now => if 0 < zs.length ∧ (zs.getD 0 z32).f0 ≤ now then (((popL zs).getD (zs.length - 1) z32) :: (drainL k ((popL zs).take (zs.length - 1)) now).1, (drainL k ((popL zs).take (zs.length - 1)) now).2) else ([], zs)
def dueV (x : S32) : Value := .agg #[.int .i64 x.f0, .int .i64 x.f1]
theorem bytes32 : ∃ i, Try.prog.info? 32 = some i ∧ i.bytes = 16 := by
  have h : (Try.prog.info? 32).map (·.bytes) = some 16 := by kernel_rfl
  obtain ⟨i, hi, hb⟩ := Option.map_eq_some_iff.1 h
  exact ⟨i, hi, hb⟩
theorem mk64 (w : World) : (Instr.makeChan 47 (.int .i64 64)).run Try.prog w = .ok (.chan (some w.heap.size)) (w.alloc (.chan 64 #[] false 0 0 false)) := by
  obtain ⟨i, hi, hb⟩ := bytes32
  simpa using Conc.run_makeChan (P := Try.prog) (w := w) Try.underlying47 hi .i64 64 (by omega) (by rw [hb]; omega)
def drK (A : Option Addr) (nx c : Nat) (now : Int) (h ch g cap : Nat) (R : List S32 × List S32) (w : World) (k : Nat) (a : Act) (W : World) : Prop := ∃ (u9 u10  u12 u13 u14 u15 u16 u17 u18 u19 u20 u21 u22 u23 u24 u25 u26 u27 u28 u29 u30 u31 u32 u33 u34 u35 u36 u37 u38 u39 u40 u41 u42 u43 u44 u45 u46 u47 u48 u49 u50 u51 u52 u53 u54 u55 u56 u57 u58 u59 u60 v : Value) (zs : List S32) (tl : List Value) (ys qs : List S32) (s0 r0 : Nat) (S : Nat → Prop), a = ⟨#[.slice A nx c, .int .i64 now, undef, undef, .slice none 0 0, .slice none 0 0, .int .i64 0, .pointer (some ⟨h, 0, none⟩), .chan (some ch), u9, u10, v, u12, u13, u14, u15, u16, u17, u18, u19, u20, u21, u22, u23, u24, u25, u26, u27, u28, u29, u30, u31, u32, u33, u34, u35, u36, u37, u38, u39, u40, u41, u42, u43, u44, u45, u46, u47, u48, u49, u50, u51, u52, u53, u54, u55, u56, u57, u58, u59, u60], []⟩ ∧ qs.length ≤ k ∧ Aside0 (zs.length ≤ nx) ∧ Aside0 (zs = R.2) ∧ Aside0 (ys ++ qs = R.1) ∧ Aside0 (ys.length + qs.length ≤ 64) ∧ Aside0 (Fr.Frame w W [(h, [.slice (some ⟨g, 0, none⟩) zs.length cap], 48), (g, flat zs ++ tl, 32)] [Fr.rowR k32 32 w.heap.size v ys S, chanR ch (qs.map dueV) s0 r0])
def drX (A : Option Addr) (nx c : Nat) (now : Int) (h ch g cap : Nat) (R : List S32 × List S32) (w : World) (a : Act) (W : World) : Prop := ∃ (u9 u10 u11 u12 u13 u14 u15 u16 u17 u18 u19 u20 u21 u22 u23 u24 u25 u26 u27 u28 u29 u30 u31 u32 u33 u34 u35 u36 u37 u38 u39 u40 u41 u42 u43 u44 u45 u46 u47 u48 u49 u50 u51 u52 u53 u54 u55 u56 u57 u58 u59 u60 : Value) (zs : List S32) (tl : List Value) (os : List S32), a = ⟨#[.slice A nx c, .int .i64 now, undef, undef, .slice none 0 0, .slice none 0 0, .int .i64 0, .pointer (some ⟨h, 0, none⟩), .chan (some ch), u9, u10, u11, u12, u13, u14, u15, u16, u17, u18, u19, u20, u21, u22, u23, u24, u25, u26, u27, u28, u29, u30, u31, u32, u33, u34, u35, u36, u37, u38, u39, u40, u41, u42, u43, u44, u45, u46, u47, u48, u49, u50, u51, u52, u53, u54, u55, u56, u57, u58, u59, u60], []⟩ ∧ zs.length ≤ nx ∧ os.length ≤ 64 ∧ os = R.1 ∧ zs = R.2 ∧ Aside0 (Fr.Frame w W [(h, [.slice (some ⟨g, 0, none⟩) zs.length cap], 48), (g, flat zs ++ tl, 32)] [chanR ch (os.map dueV) os.length 0])
def drJ (A : Option Addr) (nx c : Nat) (now : Int) (h ch g cap : Nat) (R : List S32 × List S32) (w : World) (k : Nat) (a : Act) (W : World) : Prop := ∃ (u9 u10 u11 u12 u13 u14 u15 u16 u17 u18 u19 u20 u21 u22 u23 u24 u25 u26 u27 u28 u29 u30 u31 u32 u33 u34 u35 u36 u37 u38 u39 u40 u41 u42 u43 u44 u45 u46 u47 u48 u49 u50 u51 u52 u53 u54 u55 u56 u57 u58 u59 u60 : Value) (zs : List S32) (tl : List Value) (os : List S32), a = ⟨#[.slice A nx c, .int .i64 now, undef, undef, .slice none 0 0, .slice none 0 0, .int .i64 0, .pointer (some ⟨h, 0, none⟩), .chan (some ch), u9, u10, u11, u12, u13, u14, u15, u16, u17, u18, u19, u20, u21, u22, u23, u24, u25, u26, u27, u28, u29, u30, u31, u32, u33, u34, u35, u36, u37, u38, u39, u40, u41, u42, u43, u44, u45, u46, u47, u48, u49, u50, u51, u52, u53, u54, u55, u56, u57, u58, u59, u60], []⟩ ∧ zs.length ≤ k ∧ Aside0 (os.length + zs.length ≤ 64) ∧ Aside0 (zs.length ≤ nx) ∧ Aside0 (os ++ (drainL zs.length zs now).1 = R.1 ∧ (drainL zs.length zs now).2 = R.2) ∧ Aside0 (Fr.Frame w W [(h, [.slice (some ⟨g, 0, none⟩) zs.length cap], 48), (g, flat zs ++ tl, 32)] [chanR ch (os.map dueV) os.length 0])
set_option maxHeartbeats 4000000 in
set_option maxRecDepth 100000 in
theorem drain7_ok (A : Option Addr) (c : Nat) (xs : List S32) (now : Int) (w : World) (hr : Kd.C k32 w A xs.length xs) (hp : 0 < xs.length) (hd : duesB xs = true) (ht : tmB now = true) :
    Calls Try.prog 7 #[.slice A xs.length c, .int .i64 now] w fun e w' => ∃ (g cap : Nat) (Ao : Option Addr) (co : Nat), e = .returned (.tuple #[.slice (some ⟨g, 0, none⟩) (drainL xs.length (heapL xs) now).2.length cap, .slice Ao (drainL xs.length (heapL xs) now).1.length co, .int .i64 0]) ∧ (drainL xs.length (heapL xs) now).2.length ≤ cap ∧ (drainL xs.length (heapL xs) now).1.length ≤ co ∧ Kd.C k32 w' (some ⟨g, 0, none⟩) (drainL xs.length (heapL xs) now).2.length (drainL xs.length (heapL xs) now).2 ∧ Kd.C k32 w' Ao (drainL xs.length (heapL xs) now).1.length (drainL xs.length (heapL xs) now).1 ∧ Below w.heap.size w w' := by
  obtain ⟨R, hR⟩ : ∃ R, drainL xs.length (heapL xs) now = R := ⟨_, rfl⟩
  rw [hR]
  have hR0 := Aside0.mk hR
  clear hR
  have hl : xs.length ≤ 64 := by unfold duesB at hd; simp at hd; exact hd.1
  have H13 := Aside0.mk (fun W (hb : Below w.heap.size w W) => right13_calls A c xs W (Kd.C_below hr hb))
  rw [hd] at H13
  have H19 := Aside0.mk (fun W => tick_Right.calls now _ W (tick_is now))
  rw [ht] at H19
  have H20 := Aside0.mk (fun W (hb : Below w.heap.size w W) => of20_some A c xs W (Kd.C_below hr hb) (by omega) (by omega))
  have hmk := mk64
  have hta := ta_due
  have hF := Aside0.mk (Fr.Frame.start w)
  have HC : True := trivial
  clear hr
  refine calls_of_wpN Try.func7 rfl ?_
  simp only [Try.ntmps7, List.size_toArray, List.length_cons, List.length_nil, Nat.reduceAdd, Nat.reduceSub, Array.replicate_succ, Array.replicate_zero, List.push_toArray, List.append_toArray, List.nil_append, List.cons_append]
  refine wpN_seq (wpN_of ?_)
  go_wp2_with fail
  show wpN _ _ _ _ _
  refine wpN_seq (wpN_of ?_)
  go_wp2_with fail
  (with_reducible refine (H13.out _ hF.out.below).mono ?_); rintro e W ⟨rfl, hb⟩; have hF1 := hF.out.call hb; clear hb; have HC1 := hF1.cells; simp only [Fr.Cells, List.length_cons, List.length_nil, Nat.reduceAdd, and_true] at HC1; clear hF HC; have HC := HC1; have hF := Aside0.mk hF1; clear hF1 HC1
  go_wp2_with (first | ((with_reducible refine gate_store rfl ?_); apply Fr.fr_store hF.out rfl rfl rfl; (case hp => rfl); (case hx => first | (go_simp; rfl) | rfl); (case hu => (simp only [Value.cells]; rfl)); (case hs => (repeat (first | exact Fr.Spot.here _ _ | apply Fr.Spot.there))); (case ht => kernel_rfl); (case h1 => simp [Value.oneCell']); (case hfit => simp); intro W hF1; simp only [Fr.patch, List.take_zero, List.nil_append, List.drop, List.append_nil, List.take, List.cons_append, List.length_cons, List.length_nil, Nat.reduceAdd] at hF1; have HC1 := hF1.cells; simp only [Fr.Cells, List.length_cons, List.length_nil, Nat.reduceAdd, and_true] at HC1; clear hF HC; have HC := HC1; have hF := Aside0.mk hF1; clear hF1 HC1) | ((first | (with_reducible refine Fr.gate_alloc rfl ?_) | (with_reducible refine Fr.gate_box rfl ?_)); apply Fr.fr_box hF.out rfl; (case hrun => first | (go_simp; done) | (go_simp; rfl)); intro g W hF1; have HC1 := hF1.cells; simp only [Fr.Cells, List.length_cons, List.length_nil, Nat.reduceAdd, and_true] at HC1; clear hF HC; have HC := HC1; have hF := Aside0.mk hF1; clear hF1 HC1))
  (with_reducible refine (H19.out _).mono ?_); rintro e W ⟨rfl, hb⟩; have hF1 := hF.out.call hb.below; clear hb; have HC1 := hF1.cells; simp only [Fr.Cells, List.length_cons, List.length_nil, Nat.reduceAdd, and_true] at HC1; clear hF HC; have HC := HC1; have hF := Aside0.mk hF1; clear hF1 HC1
  go_wp2_with (first | ((with_reducible refine gate_store rfl ?_); apply Fr.fr_store hF.out rfl rfl rfl; (case hp => rfl); (case hx => first | (go_simp; rfl) | rfl); (case hu => (simp only [Value.cells]; rfl)); (case hs => (repeat (first | exact Fr.Spot.here _ _ | apply Fr.Spot.there))); (case ht => kernel_rfl); (case h1 => simp [Value.oneCell']); (case hfit => simp); intro W hF1; simp only [Fr.patch, List.take_zero, List.nil_append, List.drop, List.append_nil, List.take, List.cons_append, List.length_cons, List.length_nil, Nat.reduceAdd] at hF1; have HC1 := hF1.cells; simp only [Fr.Cells, List.length_cons, List.length_nil, Nat.reduceAdd, and_true] at HC1; clear hF HC; have HC := HC1; have hF := Aside0.mk hF1; clear hF1 HC1) | ((first | (with_reducible refine Fr.gate_alloc rfl ?_) | (with_reducible refine Fr.gate_box rfl ?_)); apply Fr.fr_box hF.out rfl; (case hrun => first | (go_simp; done) | (go_simp; rfl)); intro g W hF1; have HC1 := hF1.cells; simp only [Fr.Cells, List.length_cons, List.length_nil, Nat.reduceAdd, and_true] at HC1; clear hF HC; have HC := HC1; have hF := Aside0.mk hF1; clear hF1 HC1))
  show wpN _ _ _ _ _
  refine wpN_seq (wpN_of ?_)
  go_wp2_with fail
  (with_reducible refine (H20.out _ hF.out.below).mono ?_)
  rintro e W1 ⟨h, g, cap, tl, rfl, hcap, hF1⟩
  replace hF1 := frame_join hF.out hF1
  simp only [List.cons_append, List.nil_append, List.append_nil] at hF1
  go_wp2_with fail
  show wpN _ _ _ _ _
  refine wpN_seq (wpN_of ?_)
  go_wp2_with fail
  have hF2 := frame_mkchan hF1
  have hg0 : w.heap.size ≤ W1.heap.size := hF1.below.size
  generalize W1.heap.size = ch at hF2 hg0 ⊢
  have HG := Aside0.mk hg0
  have hll := heapL_len xs
  obtain ⟨ys, hys⟩ : ∃ ys, heapL xs = ys := ⟨_, rfl⟩
  rw [show initL (xs.length / 2) xs xs.length = ys from hys] at hF2
  rw [hys] at hll
  have hlm : ys.length ≤ 64 := by omega
  have hR := hR0.out
  rw [hys] at hR
  rw [← hll] at hR
  clear hR0
  obtain ⟨nx, hnx⟩ : ∃ nx, xs.length = nx := ⟨_, rfl⟩
  rw [hnx] at hF2 hcap hl ⊢
  have HNB := Aside0.mk hl
  rw [hnx] at hll
  rw [← hll] at hF2
  have HF2 := Aside0.mk hF2
  have HCAP := Aside0.mk hcap
  have HR := Aside0.mk hR
  have HLL := Aside0.mk hll
  clear hF2 hg0 hys hR hnx hF1 hF HC hd ht hp hl hcap hll H13 H19 H20 hmk
  show wpN _ _ _ _ _
  refine wpN_seq (wpN_mono (Q := fun e a W => e = .normal ∧ drX A nx c now h ch g cap R w a W) ?loop ?rest)
  case loop =>
    refine wpN_block (wpN_loop (drJ A nx c now h ch g cap R w) ?round (n := ys.length) ?start)
    case start => unfold drJ; exact ⟨_, _, _, _, _, _, _, _, _, _, _, _, _, _, _, _, _, _, _, _, _, _, _, _, _, _, _, _, _, _, _, _, _, _, _, _, _, _, _, _, _, _, _, _, _, _, _, _, _, _, _, _, ys, tl, [], rfl, Nat.le_refl _, ⟨by simpa using hlm⟩, ⟨by have := HLL.out; omega⟩, ⟨by rw [HR.out]; exact ⟨rfl, rfl⟩⟩, HF2⟩
    case round =>
      intro k a W hJ
      unfold drJ at hJ
      obtain ⟨u9, u10, u11, u12, u13, u14, u15, u16, u17, u18, u19, u20, u21, u22, u23, u24, u25, u26, u27, u28, u29, u30, u31, u32, u33, u34, u35, u36, u37, u38, u39, u40, u41, u42, u43, u44, u45, u46, u47, u48, u49, u50, u51, u52, u53, u54, u55, u56, u57, u58, u59, u60, zs, tl, os, rfl, hk, HO, HZ, HD, HF⟩ := hJ
      clear HF2 HR HLL hlm
      have hc := ptr_cell (c := cap) (lies_pair g h).lies HF.out
      cases hm : zs.length with
      | zero =>
        have hd := HD.out
        rw [hm, drainL] at hd
        obtain ⟨hd1, hd2⟩ := hd
        rw [List.append_nil] at hd1
        have HX := Aside0.mk (And.intro hd1 hd2)
        have hF := Aside0.mk HF.out
        have HO2 := Aside0.mk (show os.length ≤ 64 by have := HO.out; omega)
        have HM := Aside0.mk hm
        rw [hm] at hc
        clear HD hd1 hd2 hm HF
        refine wpN_seq (wpN_of ?_)
        go_wp2_with fail
        unfold drX
        exact ⟨_, _, _, _, _, _, _, _, _, _, _, _, _, _, _, _, _, _, _, _, _, _, _, _, _, _, _, _, _, _, _, _, _, _, _, _, _, _, _, _, _, _, _, _, _, _, _, _, _, _, _, _, zs, tl, os, rfl, HZ.out, HO2.out, HX.out.1, HX.out.2, hF⟩
      | succ m =>
        obtain ⟨z0, z1⟩ := flat_cell HF.out (.there _ (.here _ _)) 0 (by omega)
        rw [Nat.zero_mul] at z0
        have hd := HD.out
        rw [hm, drainL, hm] at hd
        by_cases hle : (zs.getD 0 z32).f0 ≤ now
        · rw [if_pos ⟨by omega, hle⟩, Nat.add_sub_cancel] at hd
          have hpl := popL_len zs
          rw [hm] at hpl
          have H21 := Aside0.mk (fun (W9 : World) (h9 : Fr.Frame w W9 [(h, [.slice (some ⟨g, 0, none⟩) (m + 1) cap], 48), (g, flat zs ++ tl, 32)] [chanR ch (os.map dueV) os.length 0]) => pop21_calls cap m zs tl g h w W9 _ (fun p cs => [(h, p, 48), (g, cs, 32)]) (lies_pair g h) h9 hm (by have := HZ.out; have := HCAP.out; omega) (by have := HO.out; omega))
          have hF := Aside0.mk HF.out
          rw [hm] at hc hF
          have HO2 := Aside0.mk (show os.length + (m + 1) ≤ 64 by have := HO.out; omega)
          have HZ2 := Aside0.mk (show m + 1 ≤ nx by have := HZ.out; omega)
          have hkm : m + 1 ≤ k := by omega
          generalize (zs.getD 0 z32).f0 = x0 at hle z0
          obtain ⟨ps, hps⟩ : ∃ ps, popL zs = ps := ⟨_, rfl⟩
          rw [hps] at hd hpl H21
          obtain ⟨x, hx⟩ : ∃ x, ps.getD m z32 = x := ⟨_, rfl⟩
          rw [hx] at hd H21
          have HD2 := Aside0.mk hd
          have HPL := Aside0.mk hpl
          clear HD hd hm HF z1 HO HZ hk hps hx hpl
          refine wpN_seq (wpN_of ?_)
          go_wp2_with fail
          show wpN _ _ _ _ _
          refine wpN_block (wpN_seq (wpN_of ?_))
          go_wp2_with fail
          (with_reducible refine (H21.out _ hF.out).mono ?_)
          rintro e W2 ⟨rfl, hF1⟩
          have HC : True := trivial
          have HC1 := hF1.cells; simp only [Fr.Cells, List.length_cons, List.length_nil, Nat.reduceAdd, and_true] at HC1; clear hF HC; have HC := HC1; have hF := Aside0.mk hF1; clear hF1 HC1
          clear z0 hc H21
          go_wp2_with (first | ((with_reducible refine gate_store rfl ?_); apply Fr.fr_store hF.out rfl rfl rfl; (case hp => rfl); (case hx => first | (go_simp; rfl) | rfl); (case hu => (simp only [Value.cells]; rfl)); (case hs => (repeat (first | exact Fr.Spot.here _ _ | apply Fr.Spot.there))); (case ht => kernel_rfl); (case h1 => simp [Value.oneCell']); (case hfit => simp); intro W hF1; simp only [Fr.patch, List.take_zero, List.nil_append, List.drop, List.append_nil, List.take, List.cons_append, List.length_cons, List.length_nil, Nat.reduceAdd] at hF1; have HC1 := hF1.cells; simp only [Fr.Cells, List.length_cons, List.length_nil, Nat.reduceAdd, and_true] at HC1; clear hF HC; have HC := HC1; have hF := Aside0.mk hF1; clear hF1 HC1) | ((with_reducible refine gate_dst (N := 9) rfl ?_); apply Fr.fr_box hF.out rfl; (case hrun => first | (go_simp; done) | (go_simp; rfl)); intro g9 W hF1; have HC1 := hF1.cells; simp only [Fr.Cells, List.length_cons, List.length_nil, Nat.reduceAdd, and_true] at HC1; clear hF HC; have HC := HC1; have hF := Aside0.mk hF1; clear hF1 HC1) | ((first | (with_reducible refine Fr.gate_alloc rfl ?_) | (with_reducible refine Fr.gate_box rfl ?_)); apply Fr.fr_box hF.out rfl; (case hrun => first | (go_simp; done) | (go_simp; rfl)); intro g W hF1; have HC1 := hF1.cells; simp only [Fr.Cells, List.length_cons, List.length_nil, Nat.reduceAdd, and_true] at HC1; clear hF HC; have HC := HC1; have hF := Aside0.mk hF1; clear hF1 HC1))
          show wpN _ _ _ _ _
          have hch : W.heap[ch]? = some (.chan 64 (os.map dueV).toArray false os.length 0 false) := hF.out.rowAt (r := chanR ch (os.map dueV) os.length 0) List.mem_cons_self
          apply wpN_lone
          case h =>
            intro b hb k2 cs
            refine Conc.LoneTo.goes (n := 6) ?_
            s_reg
            (s_in; refine Conc.goes_oper_k rfl rfl hb (fun K hK => ?_); go_simp; refine hK _ _ ⟨trivial, ?_⟩; clear hK K)
            (s_in; refine Conc.goes_oper_k rfl rfl hb (fun K hK => ?_); go_simp; refine hK _ _ ⟨trivial, ?_⟩; clear hK K)
            s_stop
            refine Conc.LoneTo.step (Conc.step_lone_send_room (c := ch) (cap := 64) (buf := (os.map dueV).toArray) (s := os.length) (r := 0) (tm := false) (Conc.stepG_comm (cases := #[Conc.scase ch (dueV x) (.tuple #[])]) (blocking := true) (shape := .send) (w' := W) rfl rfl hb (by simp [execOp, Conc.scase, Act.eval, dueV])) hch (by have := HO2.out; simp; omega)) ?_
            rw [Frame.finish_at]
            walk_nrm
            refine Conc.LoneTo.goes (n := 1) ?_
            s_c Conc.stepG_region_end
            s_stop
            exact Conc.LoneTo.done ⟨rfl, rfl⟩
          case hq =>
            have hl1 : (ps.take m).length = m := by rw [List.length_take]; have := HPL.out; omega
            have hF3 := frame_setchan (buf' := (os ++ [x]).map dueV) (s' := os.length + 1) (r' := 0) HG.out hF.out.drop
            rw [show ((os ++ [x]).map dueV).toArray = (os.map dueV ++ [dueV x]).toArray by simp] at hF3
            rw [show flat ps ++ tl = flat (ps.take m) ++ (flat (ps.drop m) ++ tl) by rw [← List.append_assoc, ← flat_app, List.take_append_drop]] at hF3
            show ∃ m', m' < k ∧ drJ A nx c now h ch g cap R w m' _ _
            refine ⟨m, by omega, ?_⟩
            unfold drJ
            refine ⟨_, _, _, _, _, _, _, _, _, _, _, _, _, _, _, _, _, _, _, _, _, _, _, _, _, _, _, _, _, _, _, _, _, _, _, _, _, _, _, _, _, _, _, _, _, _, _, _, _, _, _, _, ps.take m, flat (ps.drop m) ++ tl, os ++ [x], rfl, by omega, ⟨by rw [List.length_append, hl1]; have := HO2.out; simp; omega⟩, ⟨by rw [hl1]; have := HZ2.out; omega⟩, ⟨?_⟩, ⟨?_⟩⟩
            · rw [hl1, List.append_assoc]
              exact HD2.out
            · rw [hl1, List.length_append]
              exact hF3
        · rw [if_neg (fun e => hle e.2)] at hd
          obtain ⟨hd1, hd2⟩ := hd
          rw [List.append_nil] at hd1
          have HX := Aside0.mk (And.intro hd1 hd2)
          have hF := Aside0.mk HF.out
          have HO2 := Aside0.mk (show os.length ≤ 64 by have := HO.out; omega)
          rw [hm] at hc
          generalize (zs.getD 0 z32).f0 = x0 at hle z0
          clear HD hd1 hd2 hm HF z1
          refine wpN_seq (wpN_of ?_)
          go_wp2_with fail
          unfold drX
          exact ⟨_, _, _, _, _, _, _, _, _, _, _, _, _, _, _, _, _, _, _, _, _, _, _, _, _, _, _, _, _, _, _, _, _, _, _, _, _, _, _, _, _, _, _, _, _, _, _, _, _, _, _, _, zs, tl, os, rfl, HZ.out, HO2.out, HX.out.1, HX.out.2, hF⟩
  case rest =>
    rintro e a W ⟨rfl, hX⟩
    clear HF2 HR HLL hlm
    unfold drX at hX
    obtain ⟨u9, u10, u11, u12, u13, u14, u15, u16, u17, u18, u19, u20, u21, u22, u23, u24, u25, u26, u27, u28, u29, u30, u31, u32, u33, u34, u35, u36, u37, u38, u39, u40, u41, u42, u43, u44, u45, u46, u47, u48, u49, u50, u51, u52, u53, u54, u55, u56, u57, u58, u59, u60, zs, tl, os, rfl, hz, ho, hR1, hR2, HF⟩ := hX
    have HZ := Aside0.mk hz
    have HO := Aside0.mk ho
    have HR1 := Aside0.mk hR1
    have HR2 := Aside0.mk hR2
    clear hz ho hR1 hR2
    show wpN _ _ _ _ _
    refine wpN_seq (wpN_of ?_)
    go_wp2_with fail
    show wpN _ _ _ _ _
    refine wpN_block (wpN_loop (drK A nx c now h ch g cap R w) ?round2 (n := os.length) ?start2)
    case start2 =>
      obtain ⟨S, hS⟩ := HF.out.rowIn (Kd.R_nil k32 32 W w.heap.size (fun _ => False)) (fun k hk => hk.elim)
      unfold drK
      exact ⟨_, _, _, _, _, _, _, _, _, _, _, _, _, _, _, _, _, _, _, _, _, _, _, _, _, _, _, _, _, _, _, _, _, _, _, _, _, _, _, _, _, _, _, _, _, _, _, _, _, _, _, _, zs, tl, [], os, _, _, S, rfl, Nat.le_refl _, HZ, HR2, ⟨HR1.out⟩, ⟨by simpa using HO.out⟩, ⟨hS⟩⟩
    case round2 =>
      clear HF HZ HO HR1 HR2 tl os zs
      intro k a W hJ
      unfold drK at hJ
      obtain ⟨u9, u10, u12, u13, u14, u15, u16, u17, u18, u19, u20, u21, u22, u23, u24, u25, u26, u27, u28, u29, u30, u31, u32, u33, u34, u35, u36, u37, u38, u39, u40, u41, u42, u43, u44, u45, u46, u47, u48, u49, u50, u51, u52, u53, u54, u55, u56, u57, u58, u59, u60, v, zs, tl, ys, qs, s0, r0, S, rfl, hk, HZ, HR2, HR1, HO, HF⟩ := hJ
      refine wpN_block (wpN_seq (wpN_of ?_))
      go_wp2_with fail
      show wpN _ _ _ _ _
      have hch : W.heap[ch]? = some (.chan 64 (qs.map dueV).toArray false s0 r0 false) := HF.out.rowAt (r := chanR ch (qs.map dueV) s0 r0) (List.mem_cons_of_mem _ List.mem_cons_self)
      refine wpN_seq ?_
      cases qs with
      | nil =>
        apply wpN_lone
        case h =>
          intro b hb k2 cs
          refine Conc.LoneTo.goes (n := 6) ?_
          s_reg
          s_stop
          refine Conc.LoneTo.step (Conc.step_lone_select_default (c := ch) (cap := 64) (s := s0) (r := r0) (tm := false) (z := .agg #[.int .i64 0, .int .i64 0]) (Conc.stepG_comm (cases := #[Conc.rcase ch (.agg #[.int .i64 0, .int .i64 0])]) (blocking := false) (shape := .select) (w' := W) rfl rfl hb ?hrun) hch) ?_
          case hrun => go_simp; first | rfl | (unfold Conc.rcase; rfl)
          rw [Frame.finish_at]
          walk_nrm
          refine Conc.LoneTo.goes (n := 6) ?_
          (s_in; refine Conc.goes_oper_k rfl rfl hb (fun K hK => ?_); go_simp; refine hK _ _ ⟨trivial, ?_⟩; clear hK K)
          (s_in; refine Conc.goes_oper_k rfl rfl hb (fun K hK => ?_); go_simp; refine hK _ _ ⟨trivial, ?_⟩; clear hK K)
          s_c Conc.stepG_region_end
          s_stop
          exact Conc.LoneTo.done ⟨rfl, rfl⟩
        case hq =>
          show wpN _ _ _ _ _
          have hc := ptr_cell (c := cap) (lies_pair g h).lies (Fr.Frame.noRows HF.out)
          obtain ⟨Ao, co, rfl, hco, hCo⟩ := Kd.R_reads (HF.out.rowAt (r := Fr.rowR k32 32 w.heap.size v ys S) List.mem_cons_self)
          have hCz := take_flat HF.out (.there _ (.here _ _)) zs.length (Nat.le_refl _) (by have := HZ.out; have := HNB.out; omega)
          rw [List.take_length] at hCz
          have hB := HF.out.below
          have hr1 := HR1.out
          rw [List.append_nil] at hr1
          have hr2 := HR2.out
          subst hr1
          subst hr2
          have HFIN := Aside0.mk (And.intro (show R.2.length ≤ cap by have := HZ.out; have := HCAP.out; omega) (And.intro hco (And.intro hCz (And.intro hCo hB))))
          clear hco hCo hCz hB HF HZ HR1 HR2 HO hch
          refine wpN_of ?_
          go_wp2_with fail
          go_ret3
          exact ⟨g, cap, Ao, co, rfl, HFIN.out⟩
      | cons q qs =>
        apply wpN_lone
        case h =>
          intro b hb k2 cs
          refine Conc.LoneTo.goes (n := 6) ?_
          s_reg
          s_stop
          refine Conc.LoneTo.step (Conc.step_lone_select_recv_buf (c := ch) (cap := 64) (s := s0) (r := r0) (tm := false) (z := .agg #[.int .i64 0, .int .i64 0]) (Conc.stepG_comm (cases := #[Conc.rcase ch (.agg #[.int .i64 0, .int .i64 0])]) (blocking := false) (shape := .select) (w' := W) rfl rfl hb ?hrun) hch (by simp)) ?_
          case hrun => go_simp; first | rfl | (unfold Conc.rcase; rfl)
          rw [Frame.finish_at]
          walk_nrm
          refine Conc.LoneTo.goes (n := 6) ?_
          (s_in; refine Conc.goes_oper_k rfl rfl hb (fun K hK => ?_); go_simp; refine hK _ _ ⟨trivial, ?_⟩; clear hK K)
          (s_in; refine Conc.goes_oper_k rfl rfl hb (fun K hK => ?_); go_simp; refine hK _ _ ⟨trivial, ?_⟩; clear hK K)
          s_c Conc.stepG_region_end
          s_stop
          exact Conc.LoneTo.done ⟨rfl, rfl⟩
        case hq =>
          show wpN _ _ _ _ _
          obtain ⟨S2, hF2⟩ := frame_setchan2 (buf' := qs.map dueV) (s' := s0) (r' := r0 + 1) HG.out HF.out
          rw [show List.take qs.length (List.map dueV qs) = List.map dueV qs from List.take_of_length_le (by simp)]
          have hyl : ys.length ≤ 64 := by have := HO.out; omega
          have HYQ := Aside0.mk (show (ys ++ [q]).length + qs.length ≤ 64 by have := HO.out; simp only [List.length_append, List.length_cons, List.length_nil] at this ⊢; omega)
          have HYR := Aside0.mk (show (ys ++ [q]) ++ qs = R.1 by rw [List.append_assoc]; exact HR1.out)
          have HKK := Aside0.mk (show qs.length < k by simp only [List.length_cons] at hk; omega)
          generalize W.setChan ch 64 (List.map dueV qs).toArray false s0 (r0 + 1) false = W6 at hF2 ⊢
          have hF := Aside0.mk hF2
          have HC : True := trivial
          clear HF hch hF2 HO HR1 hk
          simp only [dueV]
          refine wpN_of ?_
          go_wp2_with (first | ((with_reducible refine gate_builtin (b := .append) (xs := #[.tmp 57, .tmp 59]) rfl ?_); refine fr_appendC (xs := ys) (p := q) (.tmp 57) (.tmp 59) (.agg #[.int .i64 0, .int .i64 0]) 16 22 (hF.out.alloc [.int .i64 q.f0, .int .i64 q.f1] 32) List.mem_cons_self rfl rfl Try.underlying22 (by kernel_rfl) rfl (by decide) rfl rfl (by omega) ?_; intro v1 W5 S5 hF1; have HC1 := hF1.cells; simp only [Fr.Cells, List.length_cons, List.length_nil, Nat.reduceAdd, and_true] at HC1; clear hF HC; have HC := HC1; have hF := Aside0.mk hF1; clear hF1 HC1) | ((with_reducible refine gate_bslice rfl ?_); apply fr_slice hF.out rfl; (case hrun => first | (go_simp; done) | (go_simp; rfl)); intro g5 W hF1; have HC1 := hF1.cells; simp only [Fr.Cells, List.length_cons, List.length_nil, Nat.reduceAdd, and_true] at HC1; clear hF HC; have HC := HC1; have hF := Aside0.mk hF1; clear hF1 HC1) | ((with_reducible refine gate_dst (N := 12) rfl ?_); apply Fr.fr_box hF.out rfl; (case hrun => first | (go_simp; done) | (go_simp; rfl)); intro g12 W hF1; have HC1 := hF1.cells; simp only [Fr.Cells, List.length_cons, List.length_nil, Nat.reduceAdd, and_true] at HC1; clear hF HC; have HC := HC1; have hF := Aside0.mk hF1; clear hF1 HC1) | ((with_reducible refine gate_store rfl ?_); apply Fr.fr_store hF.out rfl rfl rfl; (case hp => rfl); (case hx => first | (go_simp; rfl) | rfl); (case hu => (simp only [Value.cells]; rfl)); (case hs => (repeat (first | exact Fr.Spot.here _ _ | apply Fr.Spot.there))); (case ht => kernel_rfl); (case h1 => simp [Value.oneCell']); (case hfit => simp); intro W hF1; simp only [Fr.patch, List.take_zero, List.nil_append, List.drop, List.append_nil, List.take, List.cons_append, List.length_cons, List.length_nil, Nat.reduceAdd] at hF1; have HC1 := hF1.cells; simp only [Fr.Cells, List.length_cons, List.length_nil, Nat.reduceAdd, and_true] at HC1; clear hF HC; have HC := HC1; have hF := Aside0.mk hF1; clear hF1 HC1) | ((first | (with_reducible refine Fr.gate_alloc rfl ?_) | (with_reducible refine Fr.gate_box rfl ?_)); apply Fr.fr_box hF.out rfl; (case hrun => first | (go_simp; done) | (go_simp; rfl)); intro g W hF1; have HC1 := hF1.cells; simp only [Fr.Cells, List.length_cons, List.length_nil, Nat.reduceAdd, and_true] at HC1; clear hF HC; have HC := HC1; have hF := Aside0.mk hF1; clear hF1 HC1))
          show ∃ m', m' < k ∧ drK A nx c now h ch g cap R w m' _ _
          refine ⟨qs.length, HKK.out, ?_⟩
          unfold drK
          exact ⟨_, _, _, _, _, _, _, _, _, _, _, _, _, _, _, _, _, _, _, _, _, _, _, _, _, _, _, _, _, _, _, _, _, _, _, _, _, _, _, _, _, _, _, _, _, _, _, _, _, _, _, v1, zs, tl, ys ++ [q], qs, s0, r0 + 1, S5, rfl, Nat.le_refl _, HZ, HR2, HYR, HYQ, ⟨hF.out.drop.drop⟩⟩
section
variable {P : Program} {w0 W : World} {bs : List Fr.Blk}
theorem run_appendF {sz : Nat} {S : Nat → Prop} {v : Value} {xs : List (List Value)} (t e ty : TypeId) (z : Value) (bytes : Nat) (ad : Addr) (c : Nat) (rows : List (List Value))
    (hF : Fr.Frame w0 W bs [Fr.rowR (Kd.raw sz) e w0.heap.size v xs S])
    (ht : P.underlying t = some (.slice e)) (hinfo : (P.info? e).map (fun i => (i.zero, i.size, i.bytes)) = some (some z, sz, bytes)) (hz : z.cells.size = sz) (hs0 : 0 < sz) (hb0 : 0 < bytes)
    (hC : Kd.C (Kd.raw sz) W (some ad) rows.length rows) (hl : (xs.length + rows.length) * bytes ≤ 140737488355328) :
    ∃ v1 w1, (Builtin.append_ #[t, t] ty #[v, .slice (some ad) rows.length c]).run P W = .ok v1 w1 ∧ ∃ S1, Fr.Frame w0 w1 bs [Fr.rowR (Kd.raw sz) e w0.heap.size v1 (xs ++ rows) S1] := by
  have hr := hF.row (Fr.rowR (Kd.raw sz) e w0.heap.size v xs S) List.mem_cons_self
  have hRS : (Kd.raw sz).R e W w0.heap.size S v xs := hr.1
  have hdis : ∀ k, S k → ∀ b ∈ bs, k ≠ b.1 := fun k hk b hb he => hr.2.2 b hb (by subst he; exact hk)
  have hcc : ∀ (j : Nat) (c' : List Value), rows[j]? = some c' → c'.length = sz ∧ (∀ u ∈ c', u.oneCell' = true) ∧ ∀ i u, c'[i]? = some u → W.cell? (ad.add (j * sz + i)) = some u := fun j c' hj => by
    have hp : 0 < rows.length := by have := (List.getElem?_eq_some_iff.1 hj).1; omega
    obtain ⟨ad', he, h4⟩ := hC.2.2 hp
    injection he with he
    subst he
    obtain ⟨c2, k1, k2, k3⟩ := h4 j c' hj
    have : c2 = c' := k2.1
    subst this
    exact ⟨k1, k2.2.2, k3⟩
  have hall : ∀ c' ∈ rows, c'.length = sz ∧ ∀ u ∈ c', u.oneCell' = true := fun c' hc' => by
    obtain ⟨j, hj, rfl⟩ := List.mem_iff_getElem.1 hc'
    have := hcc j _ (List.getElem?_eq_getElem hj)
    exact ⟨this.1, this.2.1⟩
  have hnews : ∀ j u, rows.flatten[j]? = some u → W.cell? (ad.add j) = some u := flat_cells hs0 (fun c' h => (hall c' h).1) (fun j c' hj i u hu => (hcc j c' hj).2.2 i u hu)
  obtain ⟨v1, w1, hrun, h1, h2, hg⟩ := Fr.R_append_keep (P := P) (Kd.raw sz) w0.heap.size t ty e z bytes ht hinfo hz hs0 hb0 (Kd.R_mono hRS hdis) (fun w ok => reps_flat w _ ok hall) (fun u hu => by
    obtain ⟨c', hc', hu'⟩ := List.mem_flatten.1 hu
    exact (hall c' hc').2 u hu') ad rows.length c rfl hnews hl hF.below.size (fun k hk b hb he => by have := hF.lt hb; omega)
  have hF0 : Fr.Frame w0 W bs [] := hF.noRows
  have hF1 : Fr.Frame w0 w1 bs [] := ⟨hF0.below.grown hg hF.below.size (fun k hk => Kd.R_base hRS k hk), fun b hb => ⟨(hF0.blk b hb).1, blk_grown (hF0.blk b hb).2 hg (fun e1 => hdis b.1 (hRS.1 b.1 e1.symm) b hb rfl)⟩, hF0.nodup, by simp⟩
  exact ⟨v1, w1, hrun, hF1.rowIn h1 (fun k hk => hk)⟩
theorem step_appendF {ops : Array Oper} {o : Oper} {a : Act} {K : Act → World → Prop} {Q : Exit → Act → World → Prop} {E : Prop} {sz : Nat} {S : Nat → Prop} {v : Value} {xs : List (List Value)} (s x : Operand) (t e : TypeId) (z : Value) (bytes : Nat) (ad : Addr) (c : Nat) (rows : List (List Value))
    (hF : Fr.Frame w0 W bs [Fr.rowR (Kd.raw sz) e w0.heap.size v xs S]) (hgd : o.guard = none) (ho : o.op = .call { callee := .builtin .append, args := #[s, x], argTypes := #[t, t] })
    (ht : P.underlying t = some (.slice e)) (hinfo : (P.info? e).map (fun i => (i.zero, i.size, i.bytes)) = some (some z, sz, bytes)) (hz : z.cells.size = sz) (hs0 : 0 < sz) (hb0 : 0 < bytes)
    (hs : a.eval s = v) (n : Nat) (hn : rows.length = n) (hx : a.eval x = .slice (some ad) n c) (hC : Kd.C (Kd.raw sz) W (some ad) n rows) (hl : (xs.length + rows.length) * bytes ≤ 140737488355328)
    (h : ∀ v1 w1 S1, Fr.Frame w0 w1 bs [Fr.rowR (Kd.raw sz) e w0.heap.size v1 (xs ++ rows) S1] → K (a.put o.dst v1) w1) :
    if Region.wanted o (yielded ops a.tmps) = true then Oper.wp P o a W K Q else E := by
  subst hn
  have hw : Region.wanted o (yielded ops a.tmps) = true := by simp [Region.wanted, hgd]
  rw [if_pos hw]
  obtain ⟨v1, w1, hrun, S1, hS1⟩ := run_appendF (P := P) t e o.type z bytes ad c rows hF ht hinfo hz hs0 hb0 hC hl
  unfold Oper.wp execOp
  simp only [ho, resolve, invoke, builtin, Sem.run_bind, Sem.run_pure, Result.andThen_ok, List.map_toArray, List.map_cons, List.map_nil, hs, hx, hrun]
  exact h v1 w1 S1 hS1
end
theorem k2d (x : S32) : Row2 [.int .i64 x.f0, .int .i64 x.f1] := ⟨rfl, by simp [Value.oneCell']⟩
theorem one_C {g : Nat} {t : TypeId} {cs : List Value} {w : World} (h : w.heap[g]? = some (.cells cs.toArray t (0, 0))) (hr : Row2 cs) : Kd.C (Kd.raw 2) w (some ⟨g, 0, none⟩) 1 [cs] := by
  refine ⟨rfl, by simp, fun _ => ⟨_, rfl, fun j c hj => ?_⟩⟩
  cases j with
  | succ j => simp at hj
  | zero =>
    simp at hj
    subst hj
    refine ⟨_, hr.1, ⟨rfl, hr⟩, fun i u hu => ?_⟩
    rw [show (⟨g, 0, none⟩ : Addr).add (0 * (Kd.raw 2).sz + i) = ⟨g, i, none⟩ by unfold Addr.add; rw [Nat.zero_mul, Nat.zero_add]; split <;> simp_all, blk_cell h]
    simpa using hu
theorem put_ptr {w0 W : World} {bs : List Fr.Blk} {rs : List Fr.Row} {h : Nat} {t : TypeId} {v : Value} {f : List Value → List Fr.Blk} (hs : Fr.Spot h t bs [v] f) (hF : Fr.Frame w0 W bs rs) (v1 : Value) : Fr.Frame w0 (W.setCell ⟨h, 0, none⟩ v1) (f [v1]) rs := hF.put hs 0 [v1] (by simp)
set_option maxHeartbeats 4000000 in
set_option maxRecDepth 100000 in
theorem push49_calls (x : S32) (v : Value) (rows : List (List Value)) (S : Nat → Prop) (h : Nat) (w0 W : World) (bs : List Fr.Blk) (f : List Value → List Fr.Blk) (hs : Fr.Spot h 48 bs [v] f) (hF : Fr.Frame w0 W bs [Fr.rowR (Kd.raw 2) 32 w0.heap.size v rows S]) (hl : rows.length ≤ 1000) :
    Calls Try.prog 49 #[.pointer (some ⟨h, 0, none⟩), .iface 32 (.agg #[.int .i64 x.f0, .int .i64 x.f1])] W fun e W' => e = .returned (.tuple #[]) ∧ ∃ v1 S1, Fr.Frame w0 W' (f [v1]) [Fr.rowR (Kd.raw 2) 32 w0.heap.size v1 (rows ++ [[.int .i64 x.f0, .int .i64 x.f1]]) S1] := by
  have HS := Aside0.mk hs
  have HL := Aside0.mk (show (rows.length + 1) * 16 ≤ 140737488355328 by omega)
  have hta := ta_due
  have HC : True := trivial
  have hF := Aside0.mk hF
  clear hs hl
  go_enter Try.func49, Try.ntmps49
  go_wp2_with (first | ((with_reducible refine gate_store rfl ?_); apply Fr.fr_store hF.out rfl rfl rfl; (case hp => rfl); (case hx => first | (go_simp; rfl) | rfl); (case hu => (simp only [Value.cells]; rfl)); (case hs => (repeat (first | exact Fr.Spot.here _ _ | apply Fr.Spot.there))); (case ht => kernel_rfl); (case h1 => simp [Value.oneCell']); (case hfit => simp); intro W hF1; simp only [Fr.patch, List.take_zero, List.nil_append, List.drop, List.append_nil, List.take, List.cons_append, List.length_cons, List.length_nil, Nat.reduceAdd] at hF1; have HC1 := hF1.cells; simp only [Fr.Cells, List.length_cons, List.length_nil, Nat.reduceAdd, and_true] at HC1; clear hF HC; have HC := HC1; have hF := Aside0.mk hF1; clear hF1 HC1) | ((with_reducible refine gate_dst (N := 4) rfl ?_); apply Fr.fr_box hF.out rfl; (case hrun => first | (go_simp; done) | (go_simp; rfl)); intro g4 W hF1; have HC1 := hF1.cells; simp only [Fr.Cells, List.length_cons, List.length_nil, Nat.reduceAdd, and_true] at HC1; clear hF HC; have HC := HC1; have hF := Aside0.mk hF1; clear hF1 HC1) | ((first | (with_reducible refine Fr.gate_alloc rfl ?_) | (with_reducible refine Fr.gate_box rfl ?_)); apply Fr.fr_box hF.out rfl; (case hrun => first | (go_simp; done) | (go_simp; rfl)); intro g W hF1; have HC1 := hF1.cells; simp only [Fr.Cells, List.length_cons, List.length_nil, Nat.reduceAdd, and_true] at HC1; clear hF HC; have HC := HC1; have hF := Aside0.mk hF1; clear hF1 HC1))
  have HF0 := hF
  obtain ⟨A, c, rfl, hc0, hC0⟩ := Kd.R_reads (hF.out.rowAt (r := Fr.rowR (Kd.raw 2) 32 w0.heap.size v rows S) List.mem_cons_self)
  clear hc0 hC0
  have h0 := blk_cell (hF.out.blk _ (List.mem_cons_of_mem _ HS.out.mem)).2 0
  have hFa : Fr.Frame w0 (W.alloc (.cells #[.int .i64 x.f0, .int .i64 x.f1] 32)).drew ((W.heap.size, [.int .i64 x.f0, .int .i64 x.f1], 32) :: (g4, [.int .i64 x.f0, .int .i64 x.f1], 32) :: bs) [Fr.rowR (Kd.raw 2) 32 w0.heap.size (.slice A rows.length c) rows S] := (HF0.out.alloc [.int .i64 x.f0, .int .i64 x.f1] 32).drew
  have h2 := blk_cell (hFa.blk _ (List.mem_cons_of_mem _ (List.mem_cons_of_mem _ HS.out.mem))).2 0
  dsimp only at h0 h2
  simp only [List.getElem?_toArray, List.getElem?_cons_zero] at h0 h2
  have HFa := Aside0.mk hFa
  clear hF hFa HF0
  refine wp_region_any (by kernel_rfl) ?_
  change wpAny _ _ _ _ _ _ _ (World.drew _)
  (refine wpAny_take (i := 0) (v := .pointer (some ⟨h, 0, none⟩)) rfl (by kernel_rfl) (by kernel_rfl) (by kernel_rfl) (fun _ _ _ h => h) (Or.inl ⟨by rfl, by (intro w; first | (go_simp; done) | (go_simp; rfl))⟩) ?_; (try simp only [Act.put, List.setIfInBounds_toArray, List.set_cons_zero, List.set_cons_succ]))
  (refine wpAny_take (i := 1) (v := .pointer (some ⟨h, 0, none⟩)) rfl (by kernel_rfl) (by kernel_rfl) (by kernel_rfl) (fun _ _ _ h => h) (Or.inl ⟨by rfl, by (intro w; first | (go_simp; done) | (go_simp; rfl))⟩) ?_; (try simp only [Act.put, List.setIfInBounds_toArray, List.set_cons_zero, List.set_cons_succ]))
  (refine wpAny_take (i := 2) (v := .pointer (some ⟨h, 0, none⟩)) rfl (by kernel_rfl) (by kernel_rfl) (by kernel_rfl) (fun _ _ _ h => h) (Or.inl ⟨by rfl, by (intro w; first | (go_simp; done) | (go_simp; rfl))⟩) ?_; (try simp only [Act.put, List.setIfInBounds_toArray, List.set_cons_zero, List.set_cons_succ]))
  refine wpAny_ready (rs := [3, 4]) (by kernel_rfl) (by simp) ?_
  refine AllReady.cons (o := _) rfl (fun K hK => ?_) ?_
  · (go_simp; refine hK _ _ ?_; clear hK K; (try simp only [Act.put, List.setIfInBounds_toArray, List.set_cons_zero, List.set_cons_succ]))
    refine wpAny_ready (rs := [4]) (by kernel_rfl) (by simp) ?_
    refine AllReady.cons (o := _) rfl (fun K hK => ?_) ?_
    · (go_simp; refine hK _ _ ?_; clear hK K; (try simp only [Act.put, List.setIfInBounds_toArray, List.set_cons_zero, List.set_cons_succ]))
      refine wpAny_ready (rs := [5]) (by kernel_rfl) (by simp) ?_
      refine AllReady.cons (o := _) rfl (fun K hK => ?_) ?_
      · (go_simp; refine hK _ _ ?_; clear hK K; (try simp only [Act.put, List.setIfInBounds_toArray, List.set_cons_zero, List.set_cons_succ]))
        refine wpAny_ready (rs := [6]) (by kernel_rfl) (by simp) ?_
        refine AllReady.cons (o := _) rfl (fun K hK => ?_) ?_
        · (refine step_appendF (.tmp 15) (.tmp 17) 48 32 (.agg #[.int .i64 0, .int .i64 0]) 16 ⟨W.heap.size, 0, none⟩ 1 [[.int .i64 x.f0, .int .i64 x.f1]] HFa.out rfl rfl (by kernel_rfl) (by kernel_rfl) rfl (by decide) (by omega) rfl 1 rfl (by first | rfl | (go_simp; done) | (go_simp; rfl)) (one_C (HFa.out.blk _ List.mem_cons_self).2 (k2d x)) HL.out ?_; intro v1 W1 S1 hF1; refine hK _ _ ?_; clear hK K; have h1 := blk_cell (hF1.blk _ (List.mem_cons_of_mem _ (List.mem_cons_of_mem _ HS.out.mem))).2 0; have f1 := blk_frozen (hF1.blk _ (List.mem_cons_of_mem _ (List.mem_cons_of_mem _ HS.out.mem))).2 0; dsimp only at h1 f1; simp only [List.getElem?_toArray, List.getElem?_cons_zero] at h1; have HF1 := Aside0.mk hF1; obtain ⟨g1, cap1, rest1, rfl, _⟩ := own_blk hF1 (by simp); clear hF1; (try simp only [Act.put, List.setIfInBounds_toArray, List.set_cons_zero, List.set_cons_succ]))
          (refine wpAny_take (i := 7) (v := .pointer (some ⟨h, 0, none⟩)) rfl (by kernel_rfl) (by kernel_rfl) (by kernel_rfl) (fun _ _ _ h => h) (Or.inl ⟨by rfl, by (intro w; first | (go_simp; done) | (go_simp; rfl))⟩) ?_; (try simp only [Act.put, List.setIfInBounds_toArray, List.set_cons_zero, List.set_cons_succ]))
          refine wpAny_ready (rs := [8]) (by kernel_rfl) (by simp) ?_
          refine AllReady.cons (o := _) rfl (fun K hK => ?_) AllReady.nil
          (go_simp; refine hK _ _ ?_; clear hK K; (try simp only [Act.put, List.setIfInBounds_toArray, List.set_cons_zero, List.set_cons_succ]))
          refine wpAny_done (by kernel_rfl) ?_ _
          go_end0
          exact ⟨rfl, _, _, by have h9 := put_ptr HS.out HF1.out.drop.drop (Value.slice (some ⟨g1, 0, none⟩) (rows ++ [[Value.int .i64 x.f0, Value.int .i64 x.f1]]).length cap1); simpa using h9⟩
        exact AllReady.nil
      exact AllReady.nil
    exact AllReady.nil
  refine AllReady.cons (o := _) rfl (fun K hK => ?_) ?_
  · (go_simp; refine hK _ _ ?_; clear hK K; (try simp only [Act.put, List.setIfInBounds_toArray, List.set_cons_zero, List.set_cons_succ]))
    refine wpAny_ready (rs := [3, 5]) (by kernel_rfl) (by simp) ?_
    refine AllReady.cons (o := _) rfl (fun K hK => ?_) ?_
    · (go_simp; refine hK _ _ ?_; clear hK K; (try simp only [Act.put, List.setIfInBounds_toArray, List.set_cons_zero, List.set_cons_succ]))
      refine wpAny_ready (rs := [5]) (by kernel_rfl) (by simp) ?_
      refine AllReady.cons (o := _) rfl (fun K hK => ?_) ?_
      · (go_simp; refine hK _ _ ?_; clear hK K; (try simp only [Act.put, List.setIfInBounds_toArray, List.set_cons_zero, List.set_cons_succ]))
        refine wpAny_ready (rs := [6]) (by kernel_rfl) (by simp) ?_
        refine AllReady.cons (o := _) rfl (fun K hK => ?_) ?_
        · (refine step_appendF (.tmp 15) (.tmp 17) 48 32 (.agg #[.int .i64 0, .int .i64 0]) 16 ⟨W.heap.size, 0, none⟩ 1 [[.int .i64 x.f0, .int .i64 x.f1]] HFa.out rfl rfl (by kernel_rfl) (by kernel_rfl) rfl (by decide) (by omega) rfl 1 rfl (by first | rfl | (go_simp; done) | (go_simp; rfl)) (one_C (HFa.out.blk _ List.mem_cons_self).2 (k2d x)) HL.out ?_; intro v1 W1 S1 hF1; refine hK _ _ ?_; clear hK K; have h1 := blk_cell (hF1.blk _ (List.mem_cons_of_mem _ (List.mem_cons_of_mem _ HS.out.mem))).2 0; have f1 := blk_frozen (hF1.blk _ (List.mem_cons_of_mem _ (List.mem_cons_of_mem _ HS.out.mem))).2 0; dsimp only at h1 f1; simp only [List.getElem?_toArray, List.getElem?_cons_zero] at h1; have HF1 := Aside0.mk hF1; obtain ⟨g1, cap1, rest1, rfl, _⟩ := own_blk hF1 (by simp); clear hF1; (try simp only [Act.put, List.setIfInBounds_toArray, List.set_cons_zero, List.set_cons_succ]))
          (refine wpAny_take (i := 7) (v := .pointer (some ⟨h, 0, none⟩)) rfl (by kernel_rfl) (by kernel_rfl) (by kernel_rfl) (fun _ _ _ h => h) (Or.inl ⟨by rfl, by (intro w; first | (go_simp; done) | (go_simp; rfl))⟩) ?_; (try simp only [Act.put, List.setIfInBounds_toArray, List.set_cons_zero, List.set_cons_succ]))
          refine wpAny_ready (rs := [8]) (by kernel_rfl) (by simp) ?_
          refine AllReady.cons (o := _) rfl (fun K hK => ?_) AllReady.nil
          (go_simp; refine hK _ _ ?_; clear hK K; (try simp only [Act.put, List.setIfInBounds_toArray, List.set_cons_zero, List.set_cons_succ]))
          refine wpAny_done (by kernel_rfl) ?_ _
          go_end0
          exact ⟨rfl, _, _, by have h9 := put_ptr HS.out HF1.out.drop.drop (Value.slice (some ⟨g1, 0, none⟩) (rows ++ [[Value.int .i64 x.f0, Value.int .i64 x.f1]]).length cap1); simpa using h9⟩
        exact AllReady.nil
      exact AllReady.nil
    refine AllReady.cons (o := _) rfl (fun K hK => ?_) ?_
    · (go_simp; refine hK _ _ ?_; clear hK K; (try simp only [Act.put, List.setIfInBounds_toArray, List.set_cons_zero, List.set_cons_succ]))
      refine wpAny_ready (rs := [3]) (by kernel_rfl) (by simp) ?_
      refine AllReady.cons (o := _) rfl (fun K hK => ?_) ?_
      · (go_simp; refine hK _ _ ?_; clear hK K; (try simp only [Act.put, List.setIfInBounds_toArray, List.set_cons_zero, List.set_cons_succ]))
        refine wpAny_ready (rs := [6]) (by kernel_rfl) (by simp) ?_
        refine AllReady.cons (o := _) rfl (fun K hK => ?_) ?_
        · (refine step_appendF (.tmp 15) (.tmp 17) 48 32 (.agg #[.int .i64 0, .int .i64 0]) 16 ⟨W.heap.size, 0, none⟩ 1 [[.int .i64 x.f0, .int .i64 x.f1]] HFa.out rfl rfl (by kernel_rfl) (by kernel_rfl) rfl (by decide) (by omega) rfl 1 rfl (by first | rfl | (go_simp; done) | (go_simp; rfl)) (one_C (HFa.out.blk _ List.mem_cons_self).2 (k2d x)) HL.out ?_; intro v1 W1 S1 hF1; refine hK _ _ ?_; clear hK K; have h1 := blk_cell (hF1.blk _ (List.mem_cons_of_mem _ (List.mem_cons_of_mem _ HS.out.mem))).2 0; have f1 := blk_frozen (hF1.blk _ (List.mem_cons_of_mem _ (List.mem_cons_of_mem _ HS.out.mem))).2 0; dsimp only at h1 f1; simp only [List.getElem?_toArray, List.getElem?_cons_zero] at h1; have HF1 := Aside0.mk hF1; obtain ⟨g1, cap1, rest1, rfl, _⟩ := own_blk hF1 (by simp); clear hF1; (try simp only [Act.put, List.setIfInBounds_toArray, List.set_cons_zero, List.set_cons_succ]))
          (refine wpAny_take (i := 7) (v := .pointer (some ⟨h, 0, none⟩)) rfl (by kernel_rfl) (by kernel_rfl) (by kernel_rfl) (fun _ _ _ h => h) (Or.inl ⟨by rfl, by (intro w; first | (go_simp; done) | (go_simp; rfl))⟩) ?_; (try simp only [Act.put, List.setIfInBounds_toArray, List.set_cons_zero, List.set_cons_succ]))
          refine wpAny_ready (rs := [8]) (by kernel_rfl) (by simp) ?_
          refine AllReady.cons (o := _) rfl (fun K hK => ?_) AllReady.nil
          (go_simp; refine hK _ _ ?_; clear hK K; (try simp only [Act.put, List.setIfInBounds_toArray, List.set_cons_zero, List.set_cons_succ]))
          refine wpAny_done (by kernel_rfl) ?_ _
          go_end0
          exact ⟨rfl, _, _, by have h9 := put_ptr HS.out HF1.out.drop.drop (Value.slice (some ⟨g1, 0, none⟩) (rows ++ [[Value.int .i64 x.f0, Value.int .i64 x.f1]]).length cap1); simpa using h9⟩
        exact AllReady.nil
      exact AllReady.nil
    exact AllReady.nil
  exact AllReady.nil
end Go.Proofs.Ytlkaebnigmfphaa.G
