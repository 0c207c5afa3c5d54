/- Contracts of functions of the given program: what each comes to, for any arguments. No condition beyond each theorem's own premises. -/
import Derived.Test.YtkphinfijppkeaaLk
namespace Go.Proofs.Ytkphinfijppkeaa.G
open Go.RowKit Go.Proofs.YtkphinfijppkeaaW.PrintWords Go.Proofs.YtkphinfijppkeaaW.PrintLast Go.Proofs.YtkphinfijppkeaaW.PrintMore
attribute [local go_sem] max2_int min2_int max_two min_two max_three min_three max_four min_four
set_option linter.unusedVariables false
set_option linter.unusedSimpArgs false
/-! slices.DeleteFunc on a row of one's own. -/
theorem reps_raw {sz : Nat} {w : World} {base : Nat} {ok : Nat → Prop} : ∀ {rows : List (List Value)} {inner : List Value}, Reps ((Kd.raw sz).M w base ok) sz rows inner → inner = rows.flatten ∧ ∀ r ∈ rows, r.length = sz ∧ ∀ u ∈ r, u.oneCell' = true
  | [], inner, h => ⟨by have := h.1; simpa using this, by simp⟩
  | c :: r, inner, h => by
    have h0 := h.2 0 c rfl
    rw [Nat.zero_mul, List.drop_zero] at h0
    have e0 : inner.take sz = c := h0.1
    have ih := reps_raw (sz := sz) (w := w) (base := base) (ok := ok) (rows := r) (inner := inner.drop sz) ⟨by rw [List.length_drop, h.1, List.length_cons, Nat.add_mul]; omega, fun j p hp => by
      have := h.2 (j + 1) p (by simpa using hp)
      rw [List.drop_drop]
      rwa [show sz + j * sz = (j + 1) * sz by rw [Nat.add_mul]; omega]⟩
    refine ⟨by rw [List.flatten_cons, ← ih.1, ← e0, List.take_append_drop], fun q hq => ?_⟩
    rcases List.mem_cons.1 hq with rfl | hq
    · have := h0.2
      rw [e0] at this
      exact this
    · exact ih.2 q hq
def Row3 (r : List Value) : Prop := r.length = 3 ∧ ∀ u ∈ r, u.oneCell' = true
theorem flat3_len : ∀ {rs : List (List Value)}, (∀ r ∈ rs, Row3 r) → rs.flatten.length = rs.length * 3
  | [], _ => rfl
  | c :: r, h => by
    rw [List.flatten_cons, List.length_append, flat3_len (fun q hq => h q (List.mem_cons_of_mem _ hq)), (h c List.mem_cons_self).1, List.length_cons]; omega
theorem flat3_get {rest : List Value} : ∀ {rs : List (List Value)} {j : Nat} {r : List Value} {t : Nat} {u : Value}, (∀ r ∈ rs, Row3 r) → rs[j]? = some r → r[t]? = some u → (rs.flatten ++ rest)[j * 3 + t]? = some u
  | [], j, r, t, u, _, hj, _ => by simp at hj
  | c :: rs, 0, r, t, u, h, hj, ht => by
    simp at hj
    subst hj
    rw [Nat.zero_mul, Nat.zero_add, List.flatten_cons, List.append_assoc, List.getElem?_append_left (List.getElem?_eq_some_iff.1 ht).1]
    exact ht
  | c :: rs, j + 1, r, t, u, h, hj, ht => by
    have hc := (h c List.mem_cons_self).1
    rw [List.flatten_cons, List.append_assoc, List.getElem?_append_right (by omega), hc, show (j + 1) * 3 + t - 3 = j * 3 + t by omega]
    exact flat3_get (fun q hq => h q (List.mem_cons_of_mem _ hq)) (by simpa using hj) ht
theorem flat3_patch {rest x : List Value} (hx : x.length = 3) : ∀ {rs : List (List Value)} {i : Nat}, (∀ r ∈ rs, Row3 r) → i < rs.length → Fr.patch (rs.flatten ++ rest) (i * 3) x = (rs.set i x).flatten ++ rest
  | [], i, _, hi => by simp at hi
  | c :: rs, 0, h, _ => by
    have hc := (h c List.mem_cons_self).1
    unfold Fr.patch
    rw [Nat.zero_mul, List.take_zero, List.nil_append, Nat.zero_add, hx, List.flatten_cons, List.append_assoc, List.drop_append_of_le_length (by omega), List.drop_of_length_le (by omega)]
    simp
  | c :: rs, i + 1, h, hi => by
    have hc := (h c List.mem_cons_self).1
    have ih := flat3_patch (rest := rest) hx (rs := rs) (i := i) (fun q hq => h q (List.mem_cons_of_mem _ hq)) (by simpa using hi)
    unfold Fr.patch at ih ⊢
    rw [List.set_cons_succ, List.flatten_cons, List.flatten_cons, List.append_assoc c rs.flatten rest, List.append_assoc c (rs.set i x).flatten rest, ← ih]
    rw [List.take_append, List.take_of_length_le (by omega), hc, show (i + 1) * 3 - 3 = i * 3 by omega]
    rw [List.drop_append, List.drop_of_length_le (by omega), hc, show (i + 1) * 3 + x.length - 3 = i * 3 + x.length by omega]
    simp
section
variable {w0 W : World} {bs : List Fr.Blk}
theorem own_blk {S : Nat → Prop} {v : Value} {rows : List (List Value)} (hF : Fr.Frame w0 W bs [Fr.rowR (Kd.raw 3) 25 w0.heap.size v rows S]) (hp : 0 < rows.length) :
    ∃ g cap rest, v = .slice (some ⟨g, 0, none⟩) rows.length cap ∧ rows.length ≤ cap ∧ cap ≤ maxLen ∧ (rows.flatten ++ rest).length = cap * 3 ∧ (∀ r ∈ rows, Row3 r) ∧ Fr.Frame w0 W ((g, rows.flatten ++ rest, 25) :: bs) [] := by
  have hr := hF.row (Fr.rowR (Kd.raw 3) 25 w0.heap.size v rows S) List.mem_cons_self
  obtain ⟨h1, inner, ⟨h2, h3⟩, h4⟩ := (hr.1 : (Kd.raw 3).R 25 W w0.heap.size S v rows)
  obtain ⟨e, hall⟩ := reps_raw h4
  rcases h3 with ⟨_, h3⟩ | ⟨g, cap, cur, rfl, hg, hh, hn, hc, hs, ht⟩
  · omega
  · have e2 : rows.flatten ++ cur.toList.drop (rows.length * 3) = cur.toList := by
      rw [← e, ← ht]
      exact List.take_append_drop _ _
    refine ⟨g, cap, cur.toList.drop (rows.length * 3), rfl, hn, hc, by rw [e2, Array.length_toList]; exact hs, hall, hF.below, fun b hb => ?_, ?_, by simp⟩
    · rcases List.mem_cons.1 hb with rfl | hb
      · exact ⟨hg, by rw [e2]; exact hh⟩
      · exact hF.blk b hb
    · rw [List.map_cons, List.nodup_cons]
      refine ⟨fun hm => ?_, hF.nodup⟩
      obtain ⟨b, hb, e3⟩ := List.mem_map.1 hm
      exact hr.2.2 b hb (by rw [e3]; exact h1 g rfl)
theorem blk_own {g cap : Nat} {rows : List (List Value)} {rest : List Value} (hF : Fr.Frame w0 W ((g, rows.flatten ++ rest, 25) :: bs) []) (hn : rows.length ≤ cap) (hc : cap ≤ maxLen) (hl : (rows.flatten ++ rest).length = cap * 3) (hall : ∀ r ∈ rows, Row3 r) :
    ∃ S, Fr.Frame w0 W bs [Fr.rowR (Kd.raw 3) 25 w0.heap.size (.slice (some ⟨g, 0, none⟩) rows.length cap) rows S] := by
  obtain ⟨hg, hh⟩ := hF.blk _ List.mem_cons_self
  refine (Fr.Frame.drop hF).rowIn (ok := fun k => k = g) ⟨fun k hk => ?_, rows.flatten, ⟨flat3_len hall, .inr ⟨g, cap, (rows.flatten ++ rest).toArray, rfl, hg, hh, hn, hc, by rw [List.size_toArray]; exact hl, ?_⟩⟩, reps_flat _ _ _ hall⟩ (fun k hk b hb e => ?_)
  · have : g = k := by simpa [Value.ownBlock] using hk
    exact this.symm
  · show List.take (rows.length * 3) _ = _
    rw [← flat3_len hall]
    simp
  · subst hk
    have := (List.nodup_cons.1 hF.nodup).1
    exact this (List.mem_map.2 ⟨b, hb, e.symm⟩)
theorem row3_cells {g j : Nat} {ad : Addr} {rs : List (List Value)} {rest : List Value} {x0 x1 x2 : Value} (hF : Fr.Frame w0 W ((g, rs.flatten ++ rest, 25) :: bs) []) (hga : ∀ m, ad.add m = ⟨g, m, none⟩) (hall : ∀ r ∈ rs, Row3 r) (hj : rs[j]? = some [x0, x1, x2]) :
    W.cell? (ad.add (j * 3)) = some x0 ∧ W.cell? ⟨(ad.add (j * 3)).block, (ad.add (j * 3)).off + 1, none⟩ = some x1 ∧ W.cell? ⟨(ad.add (j * 3)).block, (ad.add (j * 3)).off + 2, none⟩ = some x2 := by
  have hc := fun i => blk_cell (hF.blk _ List.mem_cons_self).2 i
  rw [hga]
  refine ⟨?_, ?_, ?_⟩
  · rw [hc]; have := flat3_get (rest := rest) hall hj (t := 0) rfl; simpa using this
  · rw [hc]; have := flat3_get (rest := rest) hall hj (t := 1) rfl; simpa using this
  · rw [hc]; have := flat3_get (rest := rest) hall hj (t := 2) rfl; simpa using this
end
/-! What is kept. -/
abbrev RowZ := List (S25 × List Value)
def keepZ (now : Int) (z : RowZ) : RowZ := z.filter fun p => !overP now p.1
structure DI (now : Int) (z : RowZ) (i j : Nat) (rs : List (List Value)) : Prop where
  len : rs.length = z.length
  all : ∀ r ∈ rs, Row3 r
  kept : rs.take i = (keepZ now (z.take j)).map (·.2)
  at_ : i = (keepZ now (z.take j)).length
  rest : rs.drop j = (z.drop j).map (·.2)
  lt : i < j
theorem keepZ_snoc (now : Int) (z : RowZ) (j : Nat) (hj : j < z.length) : keepZ now (z.take (j + 1)) = keepZ now (z.take j) ++ (if overP now z[j].1 = true then [] else [z[j]]) := by
  unfold keepZ
  rw [List.take_succ_eq_append_getElem hj, List.filter_append]
  by_cases h : overP now z[j].1 = true <;> simp [h]
theorem DI.row {now : Int} {z : RowZ} {i j : Nat} {rs : List (List Value)} (h : DI now z i j rs) (hj : j < z.length) : rs[j]? = some z[j].2 := by
  have h1 : (rs.drop j)[0]? = ((z.drop j).map (·.2))[0]? := by rw [h.rest]
  rw [List.getElem?_drop, List.getElem?_map, List.getElem?_drop] at h1
  rw [Nat.add_zero] at h1
  rw [h1, List.getElem?_eq_getElem hj]
  rfl
theorem DI.skip {now : Int} {z : RowZ} {i j : Nat} {rs : List (List Value)} (h : DI now z i j rs) (hj : j < z.length) (ho : overP now z[j].1 = true) : DI now z i (j + 1) rs := by
  have e := keepZ_snoc now z j hj
  rw [if_pos ho, List.append_nil] at e
  refine ⟨h.len, h.all, by rw [e]; exact h.kept, by rw [e]; exact h.at_, ?_, by have := h.lt; omega⟩
  rw [← List.drop_drop, ← List.drop_drop, h.rest]
  simp only [List.map_drop]
theorem DI.move {now : Int} {z : RowZ} {i j : Nat} {rs : List (List Value)} (h : DI now z i j rs) (hj : j < z.length) (ho : overP now z[j].1 = false) (h3 : Row3 z[j].2) : DI now z (i + 1) (j + 1) (rs.set i z[j].2) := by
  have e := keepZ_snoc now z j hj
  rw [if_neg (by simp [ho])] at e
  have hl := h.lt
  have hi : i < rs.length := by rw [h.len]; omega
  refine ⟨by simp [h.len], fun r hr => ?_, ?_, by rw [e, List.length_append, ← h.at_]; rfl, ?_, by omega⟩
  · rcases List.mem_or_eq_of_mem_set hr with hr | rfl
    · exact h.all r hr
    · exact h3
  · rw [e, List.map_append, ← h.kept, List.take_succ_eq_append_getElem (by simpa using hi), List.take_set_of_le (Nat.le_refl _)]
    simp
  · rw [List.drop_set_of_lt (by omega), ← List.drop_drop, h.rest]
    simp only [List.map_drop, List.drop_drop]
theorem DI.start {now : Int} {z : RowZ} {i : Nat} (hi : i < z.length) (hh : overP now z[i].1 = true) (hb : ∀ j (hj : j < i), overP now (z[j]'(by omega)).1 = false) (h3 : ∀ p ∈ z, Row3 p.2) : DI now z i (i + 1) (z.map (·.2)) := by
  have e := keepZ_snoc now z i hi
  rw [if_pos hh, List.append_nil] at e
  have e2 : keepZ now (z.take i) = z.take i := by
    unfold keepZ
    rw [List.filter_eq_self]
    intro p hp
    obtain ⟨j, hj, rfl⟩ := List.mem_iff_getElem.1 hp
    rw [List.length_take] at hj
    rw [List.getElem_take, hb j (by omega)]
    rfl
  refine ⟨by simp, fun r hr => ?_, by rw [e, e2, List.map_take], by rw [e, e2, List.length_take]; omega, by rw [List.map_drop], by omega⟩
  obtain ⟨p, hp, rfl⟩ := List.mem_map.1 hr
  exact h3 p hp
theorem DI.done {now : Int} {z : RowZ} {i j : Nat} {rs : List (List Value)} (h : DI now z i j rs) (hj : z.length ≤ j) : rs.take i = (keepZ now z).map (·.2) ∧ i = (keepZ now z).length := by
  have h1 := h.kept
  have h2 := h.at_
  rw [List.take_of_length_le hj] at h1 h2
  exact ⟨h1, h2⟩
end Go.Proofs.Ytkphinfijppkeaa.G
