/- Contracts of functions of the given program: what each comes to, for any arguments. No condition beyond each theorem's own premises. -/
import Derived.Test.YtkphinfijppkeaaLi
namespace Go.Proofs.Ytkphinfijppkeaa.G
open Go.RowKit Go.Proofs.YtkphinfijppkeaaW.PrintWords Go.Proofs.YtkphinfijppkeaaW.PrintLast Go.Proofs.YtkphinfijppkeaaW.PrintMore
attribute [local go_sem] max2_int min2_int max_two min_two max_three min_three max_four min_four
set_option linter.unusedVariables false
set_option linter.unusedSimpArgs false
/-! slices.DeleteFunc where nothing is deleted; hush.Add there. -/
def overP (now : Int) (x : S25) : Bool := decide (x.f1 ≤ now)
theorem over_pred (now : Int) (B : Nat) (w : World) (h0 : w.cell? ⟨B, 0, none⟩ = some (.int .i64 now)) : Pred25 (fun _ => True) 58 #[.pointer (some ⟨B, 0, none⟩)] (overP now) w := by
  intro x A c W _ hB hl hr
  have c1 := (hB.cell (World.block_lt_of_cell? w _ h0)).trans h0
  have k1 := fun o => cell_al c1 o
  clear h0 hB hl hr
  show Calls Try.prog 58 #[.agg #[.int .i64 x.f0, .int .i64 x.f1, .slice A x.f2.length c], .pointer (some ⟨B, 0, none⟩)] W _
  go_enter Try.func58, Try.ntmps58
  go_wp2
  go_ret
  exact ⟨rfl, (Below.refl _ W).alloc (Nat.le_refl _) _⟩
theorem E58 : ∀ args w, (callFunc 58 args).run Try.prog w = .ok (.enter 58 args) w := enters_of Try.func58 (by kernel_rfl) rfl
theorem idx25_none (p : S25 → Bool) (l : List S25) (h : ∀ x ∈ l, p x = false) : idxP p l = -1 := by
  unfold idxP
  have : l.findIdx? p = none := by
    rw [List.findIdx?_eq_none_iff]
    exact h
  rw [this]
theorem delete_none (gf : Nat) (cap : Array Value) (p : S25 → Bool) (eg : ∀ args w, (callFunc gf args).run Try.prog w = .ok (.enter gf args) w) (A : Option Addr) (c : Nat) (l : List S25) (w : World) (hr : Kd.C k25 w A l.length l) (hp : Pred25 (fun _ => True) gf cap p w) (hn : ∀ x ∈ l, p x = false) :
    Calls Try.prog 56 #[.slice A l.length c, .func (.func gf) #[] cap] w fun e w' => e = .returned (.slice A l.length c) ∧ Below w.heap.size w w' := by
  have HH := Aside0.mk (indexFunc_25 (fun _ => True) gf cap p eg A c l w hr (fun _ _ => trivial) hp)
  rw [idx25_none p l hn] at HH
  clear hr hp hn eg
  go_enter Try.func56, Try.ntmps56
  go_wp2_with (go_at_call 92; (with_reducible refine HH.out.mono ?_); rintro e w' ⟨rfl, hb⟩; have HB := Aside0.mk hb; clear hb)
  go_ret
  exact ⟨rfl, HB.out⟩
/-- A row of hushes by its cells. -/
theorem hush_row {w0 w : World} {bs : List Fr.Blk} {rs : List Fr.Row} {v : Value} {rows : List (List Value)} {S : Nat → Prop} {l : List S25} (hF : Fr.Frame w0 w bs (Fr.rowR (Kd.raw 3) 25 w0.heap.size v rows S :: rs)) (hl : rows.length = l.length) (hK : ∀ (j : Nat) (x : S25) (c : List Value), l[j]? = some x → rows[j]? = some c → k25.K w0 x c) :
    ∃ A c, v = .slice A l.length c ∧ l.length ≤ c ∧ Kd.C k25 w A l.length l := by
  have h : (Kd.raw 3).R 25 w w0.heap.size S v rows := hF.rowAt List.mem_cons_self
  obtain ⟨A, c, rfl, hc, hC⟩ := Kd.R_reads h
  rw [hl] at hc ⊢
  exact ⟨A, c, rfl, hc, of_rows hl (fun j x cs h1 h2 => k25.K_below hF.below (hK j x cs h1 h2)) (by rw [hl]; rw [hl] at hC; exact hC)⟩
theorem callRB {α : Type} {d : Kd α} {e : Nat} {v : Value} {xs : List α} {ok : Nat → Prop} {w0 w w' : World} {bs : List Fr.Blk} {rs : List Fr.Row} (h : Fr.Frame w0 w bs rs) (hb : Below w.heap.size w w') (hR : d.R e w' w.heap.size ok v xs) :
    ∃ S, Fr.Frame w0 w' bs (Fr.rowR d e w0.heap.size v xs S :: rs) :=
  (h.call hb).rowIn (Kd.R_lower (Kd.R_bound hR) h.below.size) (fun k hk b hm he => by have := h.lt hm; have := hk.2.1; omega)
theorem snoc_rows {l : List S25} {rows : List (List Value)} {h : S25} {c : List Value} {w : World} (hl : rows.length = l.length) (hK : ∀ (j : Nat) (x : S25) (c : List Value), l[j]? = some x → rows[j]? = some c → k25.K w x c) (hc : k25.K w h c) :
    (rows ++ [c]).length = (l ++ [h]).length ∧ ∀ (j : Nat) (x : S25) (c' : List Value), (l ++ [h])[j]? = some x → (rows ++ [c])[j]? = some c' → k25.K w x c' := by
  refine ⟨by simp [hl], fun j x c' h1 h2 => ?_⟩
  by_cases e : j < l.length
  · rw [List.getElem?_append_left e] at h1
    rw [List.getElem?_append_left (by omega)] at h2
    exact hK j x c' h1 h2
  · have ej : j = l.length := by
      have := (List.getElem?_eq_some_iff.1 h1).1
      simp at this; omega
    subst ej
    rw [List.getElem?_append_right (Nat.le_refl _)] at h1
    rw [List.getElem?_append_right (by omega), hl] at h2
    simp at h1 h2
    subst h1 h2
    exact hc
set_option maxHeartbeats 4000000 in
set_option maxRecDepth 100000 in
theorem add_keep (A0 : Option Addr) (c0 : Nat) (l : List S25) (h : S25) (A2 : Option Addr) (c2 : Nat) (now : Int) (w : World) (hr : Kd.C k25 w A0 l.length l) (hr2 : Kd.C k88 w A2 h.f2.length h.f2) (hl2 : h.f2.length ≤ c2)
    (h1 : hushesB l = true) (h2 : tmB now = true) (h3 : hushB h = true) (h4 : now < h.f1) (h5 : ∀ x ∈ l, overP now x = false) (h6 : 0 < l.length) (h7 : l.length < 8) :
    Calls Try.prog 17 #[.slice A0 l.length c0, .agg #[.int .i64 h.f0, .int .i64 h.f1, .slice A2 h.f2.length c2], .int .i64 now] w fun e w' => ∃ A c, e = .returned (.tuple #[.slice A (l ++ [h]).length c, .int .i64 0]) ∧ (l ++ [h]).length ≤ c ∧ Kd.C k25 w' A (l ++ [h]).length (l ++ [h]) ∧ Below w.heap.size w w' := by
  obtain ⟨rows, hrl, hrk, hrC⟩ := rows_of hr
  have HR := Aside0.mk hr
  have HR2 := Aside0.mk hr2
  have HRC := Aside0.mk hrC
  have HRL := Aside0.mk hrl
  have HRK := Aside0.mk hrk
  have H1 := Aside0.mk h1
  have H2 := Aside0.mk h2
  have H3 := Aside0.mk h3
  have H5 := Aside0.mk h5
  have HL2 := Aside0.mk hl2
  have hx2 : h.f2.length ≤ 9223372036854775807 := hr2.2.1
  have hmf : ∀ (fn : Fn) (first cap : Array Value) (w : World), (Instr.makeFunc fn first cap).run Try.prog w = .ok (.func fn first cap) w := fun _ _ _ _ => rfl
  clear hr hr2 hrC hrl hrk h1 h2 h3 h5 hl2
  have hF := Aside0.mk (Fr.Frame.start w)
  have HC : True := trivial
  go_enter Try.func17, Try.ntmps17
  go_wp2_with (first | ((with_reducible refine gate_store rfl ?_); apply Fr.fr_store hF.out rfl rfl rfl; (case hp => rfl); (case hx => first | (go_simp; rfl) | rfl); (case hu => (simp only [Value.cells]; rfl)); (case hs => (repeat (first | exact Fr.Spot.here _ _ | apply Fr.Spot.there))); (case ht => kernel_rfl); (case h1 => simp [Value.oneCell']); (case hfit => simp); intro W hF1; simp only [Fr.patch, List.take_zero, List.nil_append, List.drop, List.append_nil, List.take, List.cons_append, List.length_cons, List.length_nil, Nat.reduceAdd] at hF1; have HC1 := hF1.cells; simp only [Fr.Cells, List.length_cons, List.length_nil, Nat.reduceAdd, and_true] at HC1; clear hF HC; have HC := HC1; have hF := Aside0.mk hF1; clear hF1 HC1) | ((with_reducible refine gate_dst (N := 4) rfl ?_); apply Fr.fr_box hF.out rfl; (case hrun => first | (go_simp; done) | (go_simp; rfl)); intro gh W hF1; have HC1 := hF1.cells; simp only [Fr.Cells, List.length_cons, List.length_nil, Nat.reduceAdd, and_true] at HC1; clear hF HC; have HC := HC1; have hF := Aside0.mk hF1; clear hF1 HC1) | ((with_reducible refine gate_dst (N := 5) rfl ?_); apply Fr.fr_box hF.out rfl; (case hrun => first | (go_simp; done) | (go_simp; rfl)); intro gn W hF1; have HC1 := hF1.cells; simp only [Fr.Cells, List.length_cons, List.length_nil, Nat.reduceAdd, and_true] at HC1; clear hF HC; have HC := HC1; have hF := Aside0.mk hF1; clear hF1 HC1) | ((first | (with_reducible refine Fr.gate_alloc rfl ?_) | (with_reducible refine Fr.gate_box rfl ?_)); apply Fr.fr_box hF.out rfl; (case hrun => first | (go_simp; done) | (go_simp; rfl)); intro g W hF1; have HC1 := hF1.cells; simp only [Fr.Cells, List.length_cons, List.length_nil, Nat.reduceAdd, and_true] at HC1; clear hF HC; have HC := HC1; have hF := Aside0.mk hF1; clear hF1 HC1))
  (with_reducible refine (hushRight_calls A0 c0 l _ (Kd.C_below HR.out hF.out.below)).mono ?_); rintro e W ⟨rfl, hb⟩; have hF1 := hF.out.call hb; clear hb; have HC1 := hF1.cells; simp only [Fr.Cells, List.length_cons, List.length_nil, Nat.reduceAdd, and_true] at HC1; clear hF HC; have HC := HC1; have hF := Aside0.mk hF1; clear hF1 HC1
  simp only [H1.out]
  go_wp2_with (first | ((with_reducible refine gate_store rfl ?_); apply Fr.fr_store hF.out rfl rfl rfl; (case hp => rfl); (case hx => first | (go_simp; rfl) | rfl); (case hu => (simp only [Value.cells]; rfl)); (case hs => (repeat (first | exact Fr.Spot.here _ _ | apply Fr.Spot.there))); (case ht => kernel_rfl); (case h1 => simp [Value.oneCell']); (case hfit => simp); intro W hF1; simp only [Fr.patch, List.take_zero, List.nil_append, List.drop, List.append_nil, List.take, List.cons_append, List.length_cons, List.length_nil, Nat.reduceAdd] at hF1; have HC1 := hF1.cells; simp only [Fr.Cells, List.length_cons, List.length_nil, Nat.reduceAdd, and_true] at HC1; clear hF HC; have HC := HC1; have hF := Aside0.mk hF1; clear hF1 HC1) | ((first | (with_reducible refine Fr.gate_alloc rfl ?_) | (with_reducible refine Fr.gate_box rfl ?_)); apply Fr.fr_box hF.out rfl; (case hrun => first | (go_simp; done) | (go_simp; rfl)); intro g W hF1; have HC1 := hF1.cells; simp only [Fr.Cells, List.length_cons, List.length_nil, Nat.reduceAdd, and_true] at HC1; clear hF HC; have HC := HC1; have hF := Aside0.mk hF1; clear hF1 HC1))
  (with_reducible refine (tick_Right.calls now _ _ (tick_is now)).mono ?_); rintro e W ⟨rfl, hb⟩; have hF1 := hF.out.call hb.below; clear hb; have HC1 := hF1.cells; simp only [Fr.Cells, List.length_cons, List.length_nil, Nat.reduceAdd, and_true] at HC1; clear hF HC; have HC := HC1; have hF := Aside0.mk hF1; clear hF1 HC1
  simp only [H2.out]
  go_wp2_with (first | ((with_reducible refine gate_store rfl ?_); apply Fr.fr_store hF.out rfl rfl rfl; (case hp => rfl); (case hx => first | (go_simp; rfl) | rfl); (case hu => (simp only [Value.cells]; rfl)); (case hs => (repeat (first | exact Fr.Spot.here _ _ | apply Fr.Spot.there))); (case ht => kernel_rfl); (case h1 => simp [Value.oneCell']); (case hfit => simp); intro W hF1; simp only [Fr.patch, List.take_zero, List.nil_append, List.drop, List.append_nil, List.take, List.cons_append, List.length_cons, List.length_nil, Nat.reduceAdd] at hF1; have HC1 := hF1.cells; simp only [Fr.Cells, List.length_cons, List.length_nil, Nat.reduceAdd, and_true] at HC1; clear hF HC; have HC := HC1; have hF := Aside0.mk hF1; clear hF1 HC1) | ((first | (with_reducible refine Fr.gate_alloc rfl ?_) | (with_reducible refine Fr.gate_box rfl ?_)); apply Fr.fr_box hF.out rfl; (case hrun => first | (go_simp; done) | (go_simp; rfl)); intro g W hF1; have HC1 := hF1.cells; simp only [Fr.Cells, List.length_cons, List.length_nil, Nat.reduceAdd, and_true] at HC1; clear hF HC; have HC := HC1; have hF := Aside0.mk hF1; clear hF1 HC1))
  (with_reducible refine (isHush_calls h A2 c2 _ (Kd.C_below HR2.out hF.out.below)).mono ?_); rintro e W ⟨rfl, hb⟩; have hF1 := hF.out.call hb; clear hb; have HC1 := hF1.cells; simp only [Fr.Cells, List.length_cons, List.length_nil, Nat.reduceAdd, and_true] at HC1; clear hF HC; have HC := HC1; have hF := Aside0.mk hF1; clear hF1 HC1
  simp only [H3.out]
  go_wp2_with (first | ((with_reducible refine gate_store rfl ?_); apply Fr.fr_store hF.out rfl rfl rfl; (case hp => rfl); (case hx => first | (go_simp; rfl) | rfl); (case hu => (simp only [Value.cells]; rfl)); (case hs => (repeat (first | exact Fr.Spot.here _ _ | apply Fr.Spot.there))); (case ht => kernel_rfl); (case h1 => simp [Value.oneCell']); (case hfit => simp); intro W hF1; simp only [Fr.patch, List.take_zero, List.nil_append, List.drop, List.append_nil, List.take, List.cons_append, List.length_cons, List.length_nil, Nat.reduceAdd] at hF1; have HC1 := hF1.cells; simp only [Fr.Cells, List.length_cons, List.length_nil, Nat.reduceAdd, and_true] at HC1; clear hF HC; have HC := HC1; have hF := Aside0.mk hF1; clear hF1 HC1) | ((first | (with_reducible refine Fr.gate_alloc rfl ?_) | (with_reducible refine Fr.gate_box rfl ?_)); apply Fr.fr_box hF.out rfl; (case hrun => first | (go_simp; done) | (go_simp; rfl)); intro g W hF1; have HC1 := hF1.cells; simp only [Fr.Cells, List.length_cons, List.length_nil, Nat.reduceAdd, and_true] at HC1; clear hF HC; have HC := HC1; have hF := Aside0.mk hF1; clear hF1 HC1))
  have hh := clone_some A0 c0 rows _ (Kd.C_below HRC.out hF.out.below) (by have := HRL.out; omega) (by have := HRL.out; omega)
  rw [HRL.out] at hh
  (with_reducible refine hh.mono ?_)
  clear hh
  rintro e W ⟨v, rfl, hR, hb⟩
  obtain ⟨S, hF1⟩ := callRB hF.out hb hR
  clear hR hb
  have HC1 := hF1.cells; simp only [Fr.Cells, List.length_cons, List.length_nil, Nat.reduceAdd, and_true] at HC1; clear hF HC; have HC := HC1; have hF := Aside0.mk hF1; clear hF1 HC1
  obtain ⟨A1, c1, rfl, hc1, hC1⟩ := hush_row hF.out HRL.out HRK.out
  have HC1 := Aside0.mk hC1
  have hgn := HC.1.1 0 (by decide)
  simp only [List.getElem?_cons_zero] at hgn
  have HD := Aside0.mk (delete_none 58 #[.pointer (some ⟨gn, 0, none⟩)] (overP now) E58 A1 c1 l _ hC1 (over_pred now gn _ hgn) H5.out)
  clear hC1 hgn hc1
  have h8 : ((l.length : Int) == 8) = false := by rw [beq_eq_false_iff_ne]; omega
  have HLA := Aside0.mk (show (rows.length + 1) * 40 ≤ 140737488355328 by have := HRL.out; omega)
  have HSN := Aside0.mk (snoc_rows HRL.out HRK.out (k25_mk w h HL2.out HR2.out))
  go_wp2_with fail
  (with_reducible refine HD.out.mono ?_)
  rintro e W ⟨rfl, hb⟩
  have hF1 := hF.out.call hb
  clear hb HD HC1
  have HC1 := hF1.cells; simp only [Fr.Cells, List.length_cons, List.length_nil, Nat.reduceAdd, and_true] at HC1; clear hF HC; have HC := HC1; have hF := Aside0.mk hF1; clear hF1 HC1
  go_wp2_with (first | ((with_reducible refine gate_builtin (b := .append) (xs := #[.tmp 34, .tmp 36]) rfl ?_); refine Fr.fr_append (Kd.raw 3) (.tmp 34) (.tmp 36) 22 25 (.agg #[.int .i64 0, .int .i64 0, .slice none 0 0]) 40 [.int .i64 h.f0, .int .i64 h.f1, .slice A2 h.f2.length c2] [.int .i64 h.f0, .int .i64 h.f1, .slice A2 h.f2.length c2] hF.out rfl rfl Try.underlying22 (by kernel_rfl) rfl (by decide) (by omega) rfl (by first | (go_simp; done) | (go_simp; rfl)) ⟨rfl, rfl, by simp [Value.oneCell']⟩ HLA.out ?_; intro v1 W2 S1 hF1; have HC1 := hF1.cells; simp only [Fr.Cells, List.length_cons, List.length_nil, Nat.reduceAdd, and_true] at HC1; clear hF HC; have HC := HC1; have hF := Aside0.mk hF1; clear hF1 HC1) | ((with_reducible refine gate_store rfl ?_); apply Fr.fr_store hF.out rfl rfl rfl; (case hp => rfl); (case hx => first | (go_simp; rfl) | rfl); (case hu => (simp only [Value.cells]; rfl)); (case hs => (repeat (first | exact Fr.Spot.here _ _ | apply Fr.Spot.there))); (case ht => kernel_rfl); (case h1 => simp [Value.oneCell']); (case hfit => simp); intro W hF1; simp only [Fr.patch, List.take_zero, List.nil_append, List.drop, List.append_nil, List.take, List.cons_append, List.length_cons, List.length_nil, Nat.reduceAdd] at hF1; have HC1 := hF1.cells; simp only [Fr.Cells, List.length_cons, List.length_nil, Nat.reduceAdd, and_true] at HC1; clear hF HC; have HC := HC1; have hF := Aside0.mk hF1; clear hF1 HC1) | ((first | (with_reducible refine Fr.gate_alloc rfl ?_) | (with_reducible refine Fr.gate_box rfl ?_)); apply Fr.fr_box hF.out rfl; (case hrun => first | (go_simp; done) | (go_simp; rfl)); intro g W hF1; have HC1 := hF1.cells; simp only [Fr.Cells, List.length_cons, List.length_nil, Nat.reduceAdd, and_true] at HC1; clear hF HC; have HC := HC1; have hF := Aside0.mk hF1; clear hF1 HC1))
  obtain ⟨A3, c3, rfl, hc3, hC3⟩ := hush_row hF.out HSN.out.1 HSN.out.2
  go_ret2
  exact ⟨A3, c3, rfl, hc3, hC3, hF.out.below⟩
end Go.Proofs.Ytkphinfijppkeaa.G
