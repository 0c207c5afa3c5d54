/- Contracts of functions of the given program, and what they come to, for any arguments. No condition beyond each theorem's own premises. -/
import Derived.Maps.OwnOps
import Derived.Maps.Views
import Derived.LoopIn
import Derived.LoopNIn
import Derived.Test.YtkphinfijppkeaaXRouteTellsM4
namespace Go.Proofs.Ytkphinfijppkeaa.G
open Go.RowKit Go.Proofs.YtkphinfijppkeaaW.PrintWords Go.Proofs.YtkphinfijppkeaaW.PrintLast Go.Proofs.YtkphinfijppkeaaW.PrintMore
attribute [local go_sem] max2_int min2_int max_two min_two max_three min_three max_four min_four
set_option linter.unusedVariables false
set_option linter.unusedSimpArgs false
open Go.Maps
theorem law3 : Keyed Try.prog 3 := int_keyed Try.underlying3
theorem zero3 (w : World) : (zeroValue 3).run Try.prog w = .ok (.int .i64 0) w := by kernel_rfl
def mapR (g n : Nat) (D : DataW Unit) : Fr.Row := ⟨fun k => k = g, fun w => w.ownsMap Try.prog 3 (plainElem (H := Unit) Try.prog 3) g n D, fun w w' _ hb h => by
  obtain ⟨es, clock, h1, h2⟩ := h
  exact ⟨es, clock, (hb g rfl).trans h1, h2⟩⟩
section
variable {P : Program} {ops : Array Oper} {rest : List Oper} {o : Oper} {a : Act} {Q : Exit → Act → World → Prop} {w0 W : World} {bs : List Fr.Blk} {rs : List Fr.Row}
theorem gate_makeMap {t : TypeId} {x : Option Operand} (_ho : o.op = .makeMap t x) (h : wpList P ops Q (o :: rest) a W) : wpList P ops Q (o :: rest) a W := h
theorem frame_map (hF : Fr.Frame w0 W bs rs) : Fr.Frame w0 (W.alloc (.map #[] 0)) bs (mapR W.heap.size 0 (.map []) :: rs) :=
  (hF.call (below_alloc (Below.refl W.heap.size W) _)).add _ (World.ownsMap_made _ _ _ _) (fun k hk => by cases hk; simp) (fun b hb hk => by have h1 := hF.lt hb; have h2 : b.1 = W.heap.size := hk; omega)
theorem fr_map (hF : Fr.Frame w0 W bs rs) (hgd : o.guard = none)
    (hrun : (execOp a.eval o).run P W = .ok (.value (.map (some W.heap.size))) (W.alloc (.map #[] 0)))
    (h : ∀ g w1, Fr.Frame w0 w1 bs (mapR g 0 (.map []) :: rs) → w0.heap.size ≤ g → wpList P ops Q rest (a.put o.dst (.map (some g))) w1) : wpList P ops Q (o :: rest) a W :=
  Kd.event_run hgd hrun (h _ _ (frame_map hF) hF.below.size)
theorem frame_put {g n n' : Nat} {D D' : DataW Unit} {W1 : World} (hF : Fr.Frame w0 W bs [mapR g n D]) (hg0 : w0.heap.size ≤ g) (hg : W.grownBy W1 (some g)) (hown : W1.ownsMap Try.prog 3 (plainElem (H := Unit) Try.prog 3) g n' D') : Fr.Frame w0 W1 bs [mapR g n' D'] := by
  have hr := hF.row (mapR g n D) List.mem_cons_self
  have hne : ∀ b ∈ bs, b.1 ≠ g := fun b hb e => hr.2.2 b hb e
  have hF1 : Fr.Frame w0 W1 bs [] := ⟨hF.below.grown hg hF.below.size (fun k hk => by injection hk with hk; omega), fun b hb => ⟨(hF.blk b hb).1, blk_grown (hF.blk b hb).2 hg (fun e1 => hne b hb (by injection e1))⟩, hF.nodup, by simp⟩
  exact hF1.add (mapR g n' D') hown (fun k hk => by cases hk; exact hown.lt) (fun b hb hk => hne b hb hk)
end
def mD (l : List Int) : DataW Unit := l.foldl (fun D x => D.put (.int .i64 x) (.lit (.int .i64 1))) (.map [])
theorem mD_snoc (l : List Int) (x : Int) : mD (l ++ [x]) = (mD l).put (.int .i64 x) (.lit (.int .i64 1)) := by simp [mD, List.foldl_append]
theorem mD_map : ∀ (l : List Int), IsMap (mD l) := fun l => by
  unfold mD
  have : ∀ (l : List Int) (D : DataW Unit), IsMap D → IsMap (l.foldl (fun D x => D.put (.int .i64 x) (.lit (.int .i64 1))) D) := by
    intro l
    induction l with
    | nil => intro D h; exact h
    | cons x r ih => intro D h; exact ih _ (h.put _ _)
  exact this l _ isMap_empty
theorem snocRec {p : List Int → Prop} (h0 : p []) (h1 : ∀ l x, p l → p (l ++ [x])) : ∀ (n : Nat) (l : List Int), l.length = n → p l := by
  intro n
  induction n with
  | zero => intro l hl; rw [List.eq_nil_of_length_eq_zero hl]; exact h0
  | succ n ih =>
    intro l hl
    rcases List.eq_nil_or_concat l with rfl | ⟨r, x, rfl⟩
    · simp at hl
    · rw [List.concat_eq_append]; exact h1 r x (ih r (by simp at hl; omega))
theorem key_int (q : IntKind) (a : Int) : WideAt.IsKeyLit (.int q a) := by simp [WideAt.IsKeyLit]
theorem mD_no (x : Int) (z : DataW Unit) (l : List Int) : x ∉ l → (mD l).atKey (.int .i64 x) z = z := by
  refine snocRec (p := fun l => x ∉ l → (mD l).atKey (.int .i64 x) z = z) (fun _ => rfl) (fun l y ih h => ?_) l.length l rfl
  rw [mD_snoc, atKey_put_other (by intro e; injection e with e1 e2; subst e2; exact h (by simp))]
  exact ih (fun hm => h (by simp [hm]))
theorem mD_yes (x : Int) (z : DataW Unit) (l : List Int) : x ∈ l → (mD l).atKey (.int .i64 x) z = .lit (.int .i64 1) := by
  refine snocRec (p := fun l => x ∈ l → (mD l).atKey (.int .i64 x) z = .lit (.int .i64 1)) (fun h => by simp at h) (fun l y ih h => ?_) l.length l rfl
  rw [mD_snoc]
  by_cases e : x = y
  · subst e; exact atKey_put_same (mD_map l) (by simp [WideAt.IsKeyLit]) _ _
  · rw [atKey_put_other (by intro e1; injection e1 with e1 e2; exact e e2)]
    exact ih (by simpa [e] using h)
def chainB (n : Int) (l : List Int) : Bool := (List.range l.length).all fun i => decide (0 ≤ rd l (i : Nat)) && (decide (rd l (i : Nat) < n) && !(l.take i).contains (rd l (i : Nat)))
def routeB (n : Int) (x : S58) : Bool := chainB n x.f0 && (decide (1 ≤ x.f0.length) && (decide (x.f0.length ≤ 4) && (decide (x.f1.length ≤ 4) && x.f1.all matcherB)))
theorem chain_no {n : Int} {l : List Int} {i : Nat} (h : i < l.length) (hb : ¬ (0 ≤ rd l (i : Nat) ∧ rd l (i : Nat) < n ∧ rd l (i : Nat) ∉ l.take i)) : chainB n l = false := by
  unfold chainB
  rw [List.all_eq_false]
  refine ⟨i, List.mem_range.2 h, fun hc => hb ?_⟩
  simp only [Bool.and_eq_true, decide_eq_true_eq, Bool.not_eq_true', ← Bool.not_eq_true, List.contains_iff_mem] at hc
  exact ⟨hc.1, hc.2.1, hc.2.2⟩
theorem chain_yes {n : Int} {l : List Int} (h : ∀ i : Nat, i < l.length → 0 ≤ rd l (i : Nat) ∧ rd l (i : Nat) < n ∧ rd l (i : Nat) ∉ l.take i) : chainB n l = true := by
  unfold chainB
  rw [List.all_eq_true]
  intro i hi
  have := h i (List.mem_range.1 hi)
  simp only [Bool.and_eq_true, decide_eq_true_eq, Bool.not_eq_true', ← Bool.not_eq_true, List.contains_iff_mem]
  exact ⟨this.1, this.2.1, this.2.2⟩
theorem take_snoc (l : List Int) (i : Nat) (h : i < l.length) : l.take (i + 1) = l.take i ++ [rd l (i : Nat)] := by
  rw [List.take_succ_eq_append_getElem h]
  simp [rd, List.getD_eq_getElem?_getD, h]
theorem E134 : ∀ args w, (callFunc 134 args).run Try.prog w = .ok (.enter 134 args) w := enters_of Try.func134 (by kernel_rfl) rfl
set_option maxHeartbeats 8000000 in
set_option maxRecDepth 100000 in
theorem isRoute_calls (x : S58) (n : Int) (A0 : Option Addr) (c0 : Nat) (A1 : Option Addr) (c1 : Nat) (w : World) (hr0 : Kd.C (Kd.int .i64) w A0 x.f0.length x.f0) (hr1 : Kd.C k88 w A1 x.f1.length x.f1) (hwf : ∀ k ∈ x.f0, (Lit.int .i64 k).wf = true) :
    Calls Try.prog 104 #[.agg #[.slice A0 x.f0.length c0, .slice A1 x.f1.length c1], .int .i64 n] w fun e w' => e = .returned (.bool (routeB n x)) ∧ Below w.heap.size w w' := by
  have HR0 := Aside0.mk hr0
  have HR1 := Aside0.mk hr1
  have HWF := Aside0.mk hwf
  have hl0 : x.f0.length ≤ 9223372036854775807 := hr0.2.1
  have hl1 : x.f1.length ≤ 9223372036854775807 := hr1.2.1
  have hmm := @run_makeMap Try.prog
  have hmf : ∀ (fn : Fn) (first cap : Array Value) (w : World), (Instr.makeFunc fn first cap).run Try.prog w = .ok (.func fn first cap) w := fun _ _ _ _ => rfl
  clear hr0 hr1 hwf
  have hF := Aside0.mk (Fr.Frame.start w)
  have HC : True := trivial
  go_enter Try.func104, Try.ntmps104
  go_wp2_with (first | ((with_reducible refine gate_dst (N := 2) rfl ?_); apply Fr.fr_box hF.out rfl; (case hrun => first | (go_simp; done) | (go_simp; rfl)); intro gb W hF1; have HC1 := hF1.cells; simp only [Fr.Cells, List.length_cons, List.length_nil, Nat.reduceAdd, and_true] at HC1; clear hF HC; have HC := HC1; have hF := Aside0.mk hF1; clear hF1 HC1) | ((with_reducible refine gate_makeMap rfl ?_); apply fr_map hF.out rfl; (case hrun => first | (go_simp; done) | (go_simp; rfl)); intro gm W hF1 hgm; have HC1 := hF1.cells; simp only [Fr.Cells, List.length_cons, List.length_nil, Nat.reduceAdd, and_true] at HC1; clear hF HC; have HC := HC1; have hF := Aside0.mk hF1; clear hF1 HC1) | ((with_reducible refine gate_store rfl ?_); apply Fr.fr_store hF.out rfl rfl rfl; (case hp => rfl); (case hx => first | (go_simp; rfl) | rfl); (case hu => (simp only [Value.cells]; rfl)); (case hs => (repeat (first | exact Fr.Spot.here _ _ | apply Fr.Spot.there))); (case ht => kernel_rfl); (case h1 => simp [Value.oneCell']); (case hfit => simp); intro W hF1; simp only [Fr.patch, List.take_zero, List.nil_append, List.drop, List.append_nil, List.take, List.cons_append, List.length_cons, List.length_nil, Nat.reduceAdd] at hF1; have HC1 := hF1.cells; simp only [Fr.Cells, List.length_cons, List.length_nil, Nat.reduceAdd, and_true] at HC1; clear hF HC; have HC := HC1; have hF := Aside0.mk hF1; clear hF1 HC1) | ((first | (with_reducible refine Fr.gate_alloc rfl ?_) | (with_reducible refine Fr.gate_box rfl ?_)); apply Fr.fr_box hF.out rfl; (case hrun => first | (go_simp; done) | (go_simp; rfl)); intro g W hF1; have HC1 := hF1.cells; simp only [Fr.Cells, List.length_cons, List.length_nil, Nat.reduceAdd, and_true] at HC1; clear hF HC; have HC := HC1; have hF := Aside0.mk hF1; clear hF1 HC1))
  have hFb := hF
  go_loopg [13] x.f0.length (fun kq v13 w' => ∃ k : Nat, k ≤ x.f0.length ∧ x.f0.length - k ≤ kq ∧ v13 = .int .i64 k ∧ Aside0 (∀ i : Nat, i < k → 0 ≤ rd x.f0 (i : Nat) ∧ rd x.f0 (i : Nat) < n ∧ rd x.f0 (i : Nat) ∉ x.f0.take i) ∧ Aside0 (Fr.Frame w w' [(gb, [.slice A0 x.f0.length c0, .slice A1 x.f1.length c1], 58)] [mapR gm k (mD (x.f0.take k))]))
  case atStart => exact ⟨0, Nat.zero_le _, by omega, rfl, ⟨fun i hi => absurd hi (Nat.not_lt_zero _)⟩, ⟨hFb.out⟩⟩
  case round =>
    clear hF hFb HC
    obtain ⟨k, hk, hg, rfl, HA, hF⟩ := hrel
    have HC1 := hF.out.cells
    simp only [Fr.Cells, List.length_cons, List.length_nil, Nat.reduceAdd, and_true] at HC1
    have HC := HC1
    clear HC1
    by_cases hlt : k < x.f0.length
    · have hlti : (k : Int) < (x.f0.length : Int) := by omega
      obtain ⟨ad, e1, a0⟩ := Kd.at_int HR0.out (k : Int) (by omega) hlti
      cases e1
      rw [Int.toNat_natCast] at a0
      replace a0 := (hF.out.below.cell (World.block_lt_of_cell? w _ a0)).trans a0
      have HTS := Aside0.mk (take_snoc x.f0 k hlt)
      have hmem : rd x.f0 (k : Int) ∈ x.f0 := by rw [show rd x.f0 (k : Int) = x.f0[k] by simp [rd, List.getD_eq_getElem?_getD, hlt]]; exact List.getElem_mem _
      have HCN := Aside0.mk (fun hb => chain_no (n := n) hlt hb)
      obtain ⟨y, hy⟩ : ∃ y, rd x.f0 (k : Int) = y := ⟨_, rfl⟩
      rw [hy] at a0 HTS hmem HCN
      have HY := Aside0.mk hy
      have HKEY := Aside0.mk (keyOf_int_mk (P := Try.prog) (k := 3) Try.underlying3 (HWF.out y hmem))
      have HK := Aside0.mk (show k < maxLen by unfold maxLen; omega)
      clear hy hmem
      by_cases hin : y ∈ x.f0.take k
      · have HD := Aside0.mk (mD_yes y (.lit (.int .i64 0)) _ hin)
        have HV := Aside0.mk (show routeB n x = false by unfold routeB; rw [HCN.out (fun h => h.2.2 hin)]; rfl)
        have HM := Aside0.mk (mD_map (x.f0.take k))
        clear hin
        go_wp2_with (first | ((at_lookup; refine wpList_lookup_own_int _ rfl _ _ 67 rfl 3 3 .i64 law3 Try.underlying67 Try.underlying3 (zero3 _) gm _ _ rfl (hF.out.rowAt (r := mapR gm _ _) List.mem_cons_self) _ _ rfl HKEY.out ?_; intro cc hat hwc; have h9 := hat.symm.trans HD.out; simp only [DataW.lit.injEq, Lit.int.injEq, true_and] at h9; subst h9; clear hat hwc)) | (at_mapUpdate; refine wpList_mapUpdate_own _ rfl _ _ _ 67 rfl 3 3 law3 Try.underlying67 _ gm _ _ rfl (hF.out.rowAt (r := mapR gm _ _) List.mem_cons_self) HK.out _ _ _ rfl rfl HKEY.out _ [] (plainElem_int Try.underlying3 (by decide)) ?_; intro w1 hown1 hgrow1; have hF1 := frame_put hF.out hgm hgrow1 hown1; clear hown1 hgrow1; have HC1 := hF1.cells; simp only [Fr.Cells, List.length_cons, List.length_nil, Nat.reduceAdd, and_true] at HC1; clear hF HC; have HC := HC1; have hF := Aside0.mk hF1; clear hF1 HC1) | ((at_lookup; refine wpList_lookup_own_int _ rfl _ _ 67 rfl 3 3 .i64 law3 Try.underlying67 Try.underlying3 (zero3 _) gm _ _ rfl (hF.out.rowAt (r := mapR gm _ _) List.mem_cons_self) _ _ rfl HKEY.out ?_; intro cc hat hwc; have h9 := hat; rw [atKey_put_same HM.out (key_int _ _)] at h9; simp only [DataW.lit.injEq, Lit.int.injEq, true_and] at h9; subst h9; clear hat hwc)) | ((with_reducible refine gate_store rfl ?_); apply Fr.fr_store hF.out rfl rfl rfl; (case hp => rfl); (case hx => first | (go_simp; rfl) | rfl); (case hu => (simp only [Value.cells]; rfl)); (case hs => (repeat (first | exact Fr.Spot.here _ _ | apply Fr.Spot.there))); (case ht => kernel_rfl); (case h1 => simp [Value.oneCell']); (case hfit => simp); intro W hF1; simp only [Fr.patch, List.take_zero, List.nil_append, List.drop, List.append_nil, List.take, List.cons_append, List.length_cons, List.length_nil, Nat.reduceAdd] at hF1; have HC1 := hF1.cells; simp only [Fr.Cells, List.length_cons, List.length_nil, Nat.reduceAdd, and_true] at HC1; clear hF HC; have HC := HC1; have hF := Aside0.mk hF1; clear hF1 HC1) | ((first | (with_reducible refine Fr.gate_alloc rfl ?_) | (with_reducible refine Fr.gate_box rfl ?_)); apply Fr.fr_box hF.out rfl; (case hrun => first | (go_simp; done) | (go_simp; rfl)); intro g W hF1; have HC1 := hF1.cells; simp only [Fr.Cells, List.length_cons, List.length_nil, Nat.reduceAdd, and_true] at HC1; clear hF HC; have HC := HC1; have hF := Aside0.mk hF1; clear hF1 HC1))
        go_ret
        exact ⟨by rw [HV.out]; rfl, hF.out.below⟩
      · have HD := Aside0.mk (mD_no y (.lit (.int .i64 0)) _ hin)
        have HM := Aside0.mk (mD_map (x.f0.take k))
        have HIN := Aside0.mk hin
        clear hin
        by_cases k1 : 0 ≤ y
        · by_cases k2 : y < n
          · clear HCN
            go_wp2_with (first | ((at_lookup; refine wpList_lookup_own_int _ rfl _ _ 67 rfl 3 3 .i64 law3 Try.underlying67 Try.underlying3 (zero3 _) gm _ _ rfl (hF.out.rowAt (r := mapR gm _ _) List.mem_cons_self) _ _ rfl HKEY.out ?_; intro cc hat hwc; have h9 := hat.symm.trans HD.out; simp only [DataW.lit.injEq, Lit.int.injEq, true_and] at h9; subst h9; clear hat hwc)) | (at_mapUpdate; refine wpList_mapUpdate_own _ rfl _ _ _ 67 rfl 3 3 law3 Try.underlying67 _ gm _ _ rfl (hF.out.rowAt (r := mapR gm _ _) List.mem_cons_self) HK.out _ _ _ rfl rfl HKEY.out _ [] (plainElem_int Try.underlying3 (by decide)) ?_; intro w1 hown1 hgrow1; have hF1 := frame_put hF.out hgm hgrow1 hown1; clear hown1 hgrow1; have HC1 := hF1.cells; simp only [Fr.Cells, List.length_cons, List.length_nil, Nat.reduceAdd, and_true] at HC1; clear hF HC; have HC := HC1; have hF := Aside0.mk hF1; clear hF1 HC1) | ((at_lookup; refine wpList_lookup_own_int _ rfl _ _ 67 rfl 3 3 .i64 law3 Try.underlying67 Try.underlying3 (zero3 _) gm _ _ rfl (hF.out.rowAt (r := mapR gm _ _) List.mem_cons_self) _ _ rfl HKEY.out ?_; intro cc hat hwc; have h9 := hat; rw [atKey_put_same HM.out (key_int _ _)] at h9; simp only [DataW.lit.injEq, Lit.int.injEq, true_and] at h9; subst h9; clear hat hwc)) | ((with_reducible refine gate_store rfl ?_); apply Fr.fr_store hF.out rfl rfl rfl; (case hp => rfl); (case hx => first | (go_simp; rfl) | rfl); (case hu => (simp only [Value.cells]; rfl)); (case hs => (repeat (first | exact Fr.Spot.here _ _ | apply Fr.Spot.there))); (case ht => kernel_rfl); (case h1 => simp [Value.oneCell']); (case hfit => simp); intro W hF1; simp only [Fr.patch, List.take_zero, List.nil_append, List.drop, List.append_nil, List.take, List.cons_append, List.length_cons, List.length_nil, Nat.reduceAdd] at hF1; have HC1 := hF1.cells; simp only [Fr.Cells, List.length_cons, List.length_nil, Nat.reduceAdd, and_true] at HC1; clear hF HC; have HC := HC1; have hF := Aside0.mk hF1; clear hF1 HC1) | ((first | (with_reducible refine Fr.gate_alloc rfl ?_) | (with_reducible refine Fr.gate_box rfl ?_)); apply Fr.fr_box hF.out rfl; (case hrun => first | (go_simp; done) | (go_simp; rfl)); intro g W hF1; have HC1 := hF1.cells; simp only [Fr.Cells, List.length_cons, List.length_nil, Nat.reduceAdd, and_true] at HC1; clear hF HC; have HC := HC1; have hF := Aside0.mk hF1; clear hF1 HC1))
            go_roundg (x.f0.length - (k + 1))
            case measure => omega
            case rel => exact ⟨k + 1, by omega, by omega, by go_num, ⟨fun i hi => by
              by_cases e : i = k
              · subst e; rw [HY.out]; exact ⟨k1, k2, HIN.out⟩
              · exact HA.out i (by omega)⟩, ⟨by rw [HTS.out, mD_snoc]; exact hF.out⟩⟩
          · have HV := Aside0.mk (show routeB n x = false by unfold routeB; rw [HCN.out (fun h => k2 h.2.1)]; rfl)
            have k2' : n ≤ y := by omega
            clear k2
            go_wp2_with (first | ((at_lookup; refine wpList_lookup_own_int _ rfl _ _ 67 rfl 3 3 .i64 law3 Try.underlying67 Try.underlying3 (zero3 _) gm _ _ rfl (hF.out.rowAt (r := mapR gm _ _) List.mem_cons_self) _ _ rfl HKEY.out ?_; intro cc hat hwc; have h9 := hat.symm.trans HD.out; simp only [DataW.lit.injEq, Lit.int.injEq, true_and] at h9; subst h9; clear hat hwc)) | (at_mapUpdate; refine wpList_mapUpdate_own _ rfl _ _ _ 67 rfl 3 3 law3 Try.underlying67 _ gm _ _ rfl (hF.out.rowAt (r := mapR gm _ _) List.mem_cons_self) HK.out _ _ _ rfl rfl HKEY.out _ [] (plainElem_int Try.underlying3 (by decide)) ?_; intro w1 hown1 hgrow1; have hF1 := frame_put hF.out hgm hgrow1 hown1; clear hown1 hgrow1; have HC1 := hF1.cells; simp only [Fr.Cells, List.length_cons, List.length_nil, Nat.reduceAdd, and_true] at HC1; clear hF HC; have HC := HC1; have hF := Aside0.mk hF1; clear hF1 HC1) | ((at_lookup; refine wpList_lookup_own_int _ rfl _ _ 67 rfl 3 3 .i64 law3 Try.underlying67 Try.underlying3 (zero3 _) gm _ _ rfl (hF.out.rowAt (r := mapR gm _ _) List.mem_cons_self) _ _ rfl HKEY.out ?_; intro cc hat hwc; have h9 := hat; rw [atKey_put_same HM.out (key_int _ _)] at h9; simp only [DataW.lit.injEq, Lit.int.injEq, true_and] at h9; subst h9; clear hat hwc)) | ((with_reducible refine gate_store rfl ?_); apply Fr.fr_store hF.out rfl rfl rfl; (case hp => rfl); (case hx => first | (go_simp; rfl) | rfl); (case hu => (simp only [Value.cells]; rfl)); (case hs => (repeat (first | exact Fr.Spot.here _ _ | apply Fr.Spot.there))); (case ht => kernel_rfl); (case h1 => simp [Value.oneCell']); (case hfit => simp); intro W hF1; simp only [Fr.patch, List.take_zero, List.nil_append, List.drop, List.append_nil, List.take, List.cons_append, List.length_cons, List.length_nil, Nat.reduceAdd] at hF1; have HC1 := hF1.cells; simp only [Fr.Cells, List.length_cons, List.length_nil, Nat.reduceAdd, and_true] at HC1; clear hF HC; have HC := HC1; have hF := Aside0.mk hF1; clear hF1 HC1) | ((first | (with_reducible refine Fr.gate_alloc rfl ?_) | (with_reducible refine Fr.gate_box rfl ?_)); apply Fr.fr_box hF.out rfl; (case hrun => first | (go_simp; done) | (go_simp; rfl)); intro g W hF1; have HC1 := hF1.cells; simp only [Fr.Cells, List.length_cons, List.length_nil, Nat.reduceAdd, and_true] at HC1; clear hF HC; have HC := HC1; have hF := Aside0.mk hF1; clear hF1 HC1))
            go_ret
            exact ⟨by rw [HV.out]; rfl, hF.out.below⟩
        · have HV := Aside0.mk (show routeB n x = false by unfold routeB; rw [HCN.out (fun h => k1 h.1)]; rfl)
          have k1' : y < 0 := by omega
          clear k1
          go_wp2_with (first | ((at_lookup; refine wpList_lookup_own_int _ rfl _ _ 67 rfl 3 3 .i64 law3 Try.underlying67 Try.underlying3 (zero3 _) gm _ _ rfl (hF.out.rowAt (r := mapR gm _ _) List.mem_cons_self) _ _ rfl HKEY.out ?_; intro cc hat hwc; have h9 := hat.symm.trans HD.out; simp only [DataW.lit.injEq, Lit.int.injEq, true_and] at h9; subst h9; clear hat hwc)) | (at_mapUpdate; refine wpList_mapUpdate_own _ rfl _ _ _ 67 rfl 3 3 law3 Try.underlying67 _ gm _ _ rfl (hF.out.rowAt (r := mapR gm _ _) List.mem_cons_self) HK.out _ _ _ rfl rfl HKEY.out _ [] (plainElem_int Try.underlying3 (by decide)) ?_; intro w1 hown1 hgrow1; have hF1 := frame_put hF.out hgm hgrow1 hown1; clear hown1 hgrow1; have HC1 := hF1.cells; simp only [Fr.Cells, List.length_cons, List.length_nil, Nat.reduceAdd, and_true] at HC1; clear hF HC; have HC := HC1; have hF := Aside0.mk hF1; clear hF1 HC1) | ((at_lookup; refine wpList_lookup_own_int _ rfl _ _ 67 rfl 3 3 .i64 law3 Try.underlying67 Try.underlying3 (zero3 _) gm _ _ rfl (hF.out.rowAt (r := mapR gm _ _) List.mem_cons_self) _ _ rfl HKEY.out ?_; intro cc hat hwc; have h9 := hat; rw [atKey_put_same HM.out (key_int _ _)] at h9; simp only [DataW.lit.injEq, Lit.int.injEq, true_and] at h9; subst h9; clear hat hwc)) | ((with_reducible refine gate_store rfl ?_); apply Fr.fr_store hF.out rfl rfl rfl; (case hp => rfl); (case hx => first | (go_simp; rfl) | rfl); (case hu => (simp only [Value.cells]; rfl)); (case hs => (repeat (first | exact Fr.Spot.here _ _ | apply Fr.Spot.there))); (case ht => kernel_rfl); (case h1 => simp [Value.oneCell']); (case hfit => simp); intro W hF1; simp only [Fr.patch, List.take_zero, List.nil_append, List.drop, List.append_nil, List.take, List.cons_append, List.length_cons, List.length_nil, Nat.reduceAdd] at hF1; have HC1 := hF1.cells; simp only [Fr.Cells, List.length_cons, List.length_nil, Nat.reduceAdd, and_true] at HC1; clear hF HC; have HC := HC1; have hF := Aside0.mk hF1; clear hF1 HC1) | ((first | (with_reducible refine Fr.gate_alloc rfl ?_) | (with_reducible refine Fr.gate_box rfl ?_)); apply Fr.fr_box hF.out rfl; (case hrun => first | (go_simp; done) | (go_simp; rfl)); intro g W hF1; have HC1 := hF1.cells; simp only [Fr.Cells, List.length_cons, List.length_nil, Nat.reduceAdd, and_true] at HC1; clear hF HC; have HC := HC1; have hF := Aside0.mk hF1; clear hF1 HC1))
          go_ret
          exact ⟨by rw [HV.out]; rfl, hF.out.below⟩
    · obtain rfl : k = x.f0.length := by omega
      have HCH := Aside0.mk (chain_yes (n := n) (fun i hi => HA.out i hi))
      have hlti : ¬ (x.f0.length : Int) < (x.f0.length : Int) := by omega
      have HAM := Aside0.mk (show (x.f1.any fun m => !matcherB m) = !x.f1.all matcherB from any_not_all matcherB x.f1)
      have hFd := Aside0.mk hF.out.noRows
      clear hF HA
      have hF := hFd
      clear hFd
      by_cases h1 : 1 ≤ x.f0.length
      · by_cases h2 : x.f0.length ≤ 4
        · by_cases h3 : x.f1.length ≤ 4
          · have HV := Aside0.mk (show routeB n x = x.f1.all matcherB by unfold routeB; rw [HCH.out, decide_eq_true h1, decide_eq_true h2, decide_eq_true h3]; rfl)
            have i1 : (1 : Int) ≤ (x.f0.length : Int) := by omega
            have i2 : (x.f0.length : Int) ≤ 4 := by omega
            have i3 : (x.f1.length : Int) ≤ 4 := by omega
            go_wp2_with (first | ((with_reducible refine gate_store rfl ?_); apply Fr.fr_store hF.out rfl rfl rfl; (case hp => rfl); (case hx => first | (go_simp; rfl) | rfl); (case hu => (simp only [Value.cells]; rfl)); (case hs => (repeat (first | exact Fr.Spot.here _ _ | apply Fr.Spot.there))); (case ht => kernel_rfl); (case h1 => simp [Value.oneCell']); (case hfit => simp); intro W hF1; simp only [Fr.patch, List.take_zero, List.nil_append, List.drop, List.append_nil, List.take, List.cons_append, List.length_cons, List.length_nil, Nat.reduceAdd] at hF1; have HC1 := hF1.cells; simp only [Fr.Cells, List.length_cons, List.length_nil, Nat.reduceAdd, and_true] at HC1; clear hF HC; have HC := HC1; have hF := Aside0.mk hF1; clear hF1 HC1) | ((first | (with_reducible refine Fr.gate_alloc rfl ?_) | (with_reducible refine Fr.gate_box rfl ?_)); apply Fr.fr_box hF.out rfl; (case hrun => first | (go_simp; done) | (go_simp; rfl)); intro g W hF1; have HC1 := hF1.cells; simp only [Fr.Cells, List.length_cons, List.length_nil, Nat.reduceAdd, and_true] at HC1; clear hF HC; have HC := HC1; have hF := Aside0.mk hF1; clear hF1 HC1))
            (with_reducible refine (containsFunc_88 (fun _ => True) 134 #[] _ E134 A1 c1 x.f1 _ (Kd.C_below HR1.out hF.out.below) (fun _ _ => trivial) (notMatcher_pred 134 (.inr (.inr rfl)) _)).mono ?_); rintro e W ⟨rfl, hb⟩; have hF1 := hF.out.call hb; clear hb; have HC1 := hF1.cells; simp only [Fr.Cells, List.length_cons, List.length_nil, Nat.reduceAdd, and_true] at HC1; clear hF HC; have HC := HC1; have hF := Aside0.mk hF1; clear hF1 HC1
            simp only [HAM.out]
            go_wp2_with (first | ((with_reducible refine gate_store rfl ?_); apply Fr.fr_store hF.out rfl rfl rfl; (case hp => rfl); (case hx => first | (go_simp; rfl) | rfl); (case hu => (simp only [Value.cells]; rfl)); (case hs => (repeat (first | exact Fr.Spot.here _ _ | apply Fr.Spot.there))); (case ht => kernel_rfl); (case h1 => simp [Value.oneCell']); (case hfit => simp); intro W hF1; simp only [Fr.patch, List.take_zero, List.nil_append, List.drop, List.append_nil, List.take, List.cons_append, List.length_cons, List.length_nil, Nat.reduceAdd] at hF1; have HC1 := hF1.cells; simp only [Fr.Cells, List.length_cons, List.length_nil, Nat.reduceAdd, and_true] at HC1; clear hF HC; have HC := HC1; have hF := Aside0.mk hF1; clear hF1 HC1) | ((first | (with_reducible refine Fr.gate_alloc rfl ?_) | (with_reducible refine Fr.gate_box rfl ?_)); apply Fr.fr_box hF.out rfl; (case hrun => first | (go_simp; done) | (go_simp; rfl)); intro g W hF1; have HC1 := hF1.cells; simp only [Fr.Cells, List.length_cons, List.length_nil, Nat.reduceAdd, and_true] at HC1; clear hF HC; have HC := HC1; have hF := Aside0.mk hF1; clear hF1 HC1))
            go_ret
            exact ⟨by rw [HV.out]; simp, hF.out.below⟩
          · have HV := Aside0.mk (show routeB n x = false by unfold routeB; rw [decide_eq_false h3]; simp)
            have i1 : (1 : Int) ≤ (x.f0.length : Int) := by omega
            have i2 : (x.f0.length : Int) ≤ 4 := by omega
            have i3 : 4 < (x.f1.length : Int) := by omega
            go_wp2_with (first | ((with_reducible refine gate_store rfl ?_); apply Fr.fr_store hF.out rfl rfl rfl; (case hp => rfl); (case hx => first | (go_simp; rfl) | rfl); (case hu => (simp only [Value.cells]; rfl)); (case hs => (repeat (first | exact Fr.Spot.here _ _ | apply Fr.Spot.there))); (case ht => kernel_rfl); (case h1 => simp [Value.oneCell']); (case hfit => simp); intro W hF1; simp only [Fr.patch, List.take_zero, List.nil_append, List.drop, List.append_nil, List.take, List.cons_append, List.length_cons, List.length_nil, Nat.reduceAdd] at hF1; have HC1 := hF1.cells; simp only [Fr.Cells, List.length_cons, List.length_nil, Nat.reduceAdd, and_true] at HC1; clear hF HC; have HC := HC1; have hF := Aside0.mk hF1; clear hF1 HC1) | ((first | (with_reducible refine Fr.gate_alloc rfl ?_) | (with_reducible refine Fr.gate_box rfl ?_)); apply Fr.fr_box hF.out rfl; (case hrun => first | (go_simp; done) | (go_simp; rfl)); intro g W hF1; have HC1 := hF1.cells; simp only [Fr.Cells, List.length_cons, List.length_nil, Nat.reduceAdd, and_true] at HC1; clear hF HC; have HC := HC1; have hF := Aside0.mk hF1; clear hF1 HC1))
            (with_reducible refine (containsFunc_88 (fun _ => True) 134 #[] _ E134 A1 c1 x.f1 _ (Kd.C_below HR1.out hF.out.below) (fun _ _ => trivial) (notMatcher_pred 134 (.inr (.inr rfl)) _)).mono ?_); rintro e W ⟨rfl, hb⟩; have hF1 := hF.out.call hb; clear hb; have HC1 := hF1.cells; simp only [Fr.Cells, List.length_cons, List.length_nil, Nat.reduceAdd, and_true] at HC1; clear hF HC; have HC := HC1; have hF := Aside0.mk hF1; clear hF1 HC1
            go_wp2_with (first | ((with_reducible refine gate_store rfl ?_); apply Fr.fr_store hF.out rfl rfl rfl; (case hp => rfl); (case hx => first | (go_simp; rfl) | rfl); (case hu => (simp only [Value.cells]; rfl)); (case hs => (repeat (first | exact Fr.Spot.here _ _ | apply Fr.Spot.there))); (case ht => kernel_rfl); (case h1 => simp [Value.oneCell']); (case hfit => simp); intro W hF1; simp only [Fr.patch, List.take_zero, List.nil_append, List.drop, List.append_nil, List.take, List.cons_append, List.length_cons, List.length_nil, Nat.reduceAdd] at hF1; have HC1 := hF1.cells; simp only [Fr.Cells, List.length_cons, List.length_nil, Nat.reduceAdd, and_true] at HC1; clear hF HC; have HC := HC1; have hF := Aside0.mk hF1; clear hF1 HC1) | ((first | (with_reducible refine Fr.gate_alloc rfl ?_) | (with_reducible refine Fr.gate_box rfl ?_)); apply Fr.fr_box hF.out rfl; (case hrun => first | (go_simp; done) | (go_simp; rfl)); intro g W hF1; have HC1 := hF1.cells; simp only [Fr.Cells, List.length_cons, List.length_nil, Nat.reduceAdd, and_true] at HC1; clear hF HC; have HC := HC1; have hF := Aside0.mk hF1; clear hF1 HC1))
            go_ret
            exact ⟨by rw [HV.out]; rfl, hF.out.below⟩
        · have HV := Aside0.mk (show routeB n x = false by unfold routeB; rw [decide_eq_false h2]; simp)
          have i1 : (1 : Int) ≤ (x.f0.length : Int) := by omega
          have i2 : 4 < (x.f0.length : Int) := by omega
          go_wp2_with (first | ((with_reducible refine gate_store rfl ?_); apply Fr.fr_store hF.out rfl rfl rfl; (case hp => rfl); (case hx => first | (go_simp; rfl) | rfl); (case hu => (simp only [Value.cells]; rfl)); (case hs => (repeat (first | exact Fr.Spot.here _ _ | apply Fr.Spot.there))); (case ht => kernel_rfl); (case h1 => simp [Value.oneCell']); (case hfit => simp); intro W hF1; simp only [Fr.patch, List.take_zero, List.nil_append, List.drop, List.append_nil, List.take, List.cons_append, List.length_cons, List.length_nil, Nat.reduceAdd] at hF1; have HC1 := hF1.cells; simp only [Fr.Cells, List.length_cons, List.length_nil, Nat.reduceAdd, and_true] at HC1; clear hF HC; have HC := HC1; have hF := Aside0.mk hF1; clear hF1 HC1) | ((first | (with_reducible refine Fr.gate_alloc rfl ?_) | (with_reducible refine Fr.gate_box rfl ?_)); apply Fr.fr_box hF.out rfl; (case hrun => first | (go_simp; done) | (go_simp; rfl)); intro g W hF1; have HC1 := hF1.cells; simp only [Fr.Cells, List.length_cons, List.length_nil, Nat.reduceAdd, and_true] at HC1; clear hF HC; have HC := HC1; have hF := Aside0.mk hF1; clear hF1 HC1))
          (with_reducible refine (containsFunc_88 (fun _ => True) 134 #[] _ E134 A1 c1 x.f1 _ (Kd.C_below HR1.out hF.out.below) (fun _ _ => trivial) (notMatcher_pred 134 (.inr (.inr rfl)) _)).mono ?_); rintro e W ⟨rfl, hb⟩; have hF1 := hF.out.call hb; clear hb; have HC1 := hF1.cells; simp only [Fr.Cells, List.length_cons, List.length_nil, Nat.reduceAdd, and_true] at HC1; clear hF HC; have HC := HC1; have hF := Aside0.mk hF1; clear hF1 HC1
          go_wp2_with (first | ((with_reducible refine gate_store rfl ?_); apply Fr.fr_store hF.out rfl rfl rfl; (case hp => rfl); (case hx => first | (go_simp; rfl) | rfl); (case hu => (simp only [Value.cells]; rfl)); (case hs => (repeat (first | exact Fr.Spot.here _ _ | apply Fr.Spot.there))); (case ht => kernel_rfl); (case h1 => simp [Value.oneCell']); (case hfit => simp); intro W hF1; simp only [Fr.patch, List.take_zero, List.nil_append, List.drop, List.append_nil, List.take, List.cons_append, List.length_cons, List.length_nil, Nat.reduceAdd] at hF1; have HC1 := hF1.cells; simp only [Fr.Cells, List.length_cons, List.length_nil, Nat.reduceAdd, and_true] at HC1; clear hF HC; have HC := HC1; have hF := Aside0.mk hF1; clear hF1 HC1) | ((first | (with_reducible refine Fr.gate_alloc rfl ?_) | (with_reducible refine Fr.gate_box rfl ?_)); apply Fr.fr_box hF.out rfl; (case hrun => first | (go_simp; done) | (go_simp; rfl)); intro g W hF1; have HC1 := hF1.cells; simp only [Fr.Cells, List.length_cons, List.length_nil, Nat.reduceAdd, and_true] at HC1; clear hF HC; have HC := HC1; have hF := Aside0.mk hF1; clear hF1 HC1))
          go_ret
          exact ⟨by rw [HV.out]; rfl, hF.out.below⟩
      · have HV := Aside0.mk (show routeB n x = false by unfold routeB; rw [decide_eq_false h1]; simp)
        have i1 : (x.f0.length : Int) < 1 := by omega
        go_wp2_with (first | ((with_reducible refine gate_store rfl ?_); apply Fr.fr_store hF.out rfl rfl rfl; (case hp => rfl); (case hx => first | (go_simp; rfl) | rfl); (case hu => (simp only [Value.cells]; rfl)); (case hs => (repeat (first | exact Fr.Spot.here _ _ | apply Fr.Spot.there))); (case ht => kernel_rfl); (case h1 => simp [Value.oneCell']); (case hfit => simp); intro W hF1; simp only [Fr.patch, List.take_zero, List.nil_append, List.drop, List.append_nil, List.take, List.cons_append, List.length_cons, List.length_nil, Nat.reduceAdd] at hF1; have HC1 := hF1.cells; simp only [Fr.Cells, List.length_cons, List.length_nil, Nat.reduceAdd, and_true] at HC1; clear hF HC; have HC := HC1; have hF := Aside0.mk hF1; clear hF1 HC1) | ((first | (with_reducible refine Fr.gate_alloc rfl ?_) | (with_reducible refine Fr.gate_box rfl ?_)); apply Fr.fr_box hF.out rfl; (case hrun => first | (go_simp; done) | (go_simp; rfl)); intro g W hF1; have HC1 := hF1.cells; simp only [Fr.Cells, List.length_cons, List.length_nil, Nat.reduceAdd, and_true] at HC1; clear hF HC; have HC := HC1; have hF := Aside0.mk hF1; clear hF1 HC1))
        (with_reducible refine (containsFunc_88 (fun _ => True) 134 #[] _ E134 A1 c1 x.f1 _ (Kd.C_below HR1.out hF.out.below) (fun _ _ => trivial) (notMatcher_pred 134 (.inr (.inr rfl)) _)).mono ?_); rintro e W ⟨rfl, hb⟩; have hF1 := hF.out.call hb; clear hb; have HC1 := hF1.cells; simp only [Fr.Cells, List.length_cons, List.length_nil, Nat.reduceAdd, and_true] at HC1; clear hF HC; have HC := HC1; have hF := Aside0.mk hF1; clear hF1 HC1
        go_wp2_with (first | ((with_reducible refine gate_store rfl ?_); apply Fr.fr_store hF.out rfl rfl rfl; (case hp => rfl); (case hx => first | (go_simp; rfl) | rfl); (case hu => (simp only [Value.cells]; rfl)); (case hs => (repeat (first | exact Fr.Spot.here _ _ | apply Fr.Spot.there))); (case ht => kernel_rfl); (case h1 => simp [Value.oneCell']); (case hfit => simp); intro W hF1; simp only [Fr.patch, List.take_zero, List.nil_append, List.drop, List.append_nil, List.take, List.cons_append, List.length_cons, List.length_nil, Nat.reduceAdd] at hF1; have HC1 := hF1.cells; simp only [Fr.Cells, List.length_cons, List.length_nil, Nat.reduceAdd, and_true] at HC1; clear hF HC; have HC := HC1; have hF := Aside0.mk hF1; clear hF1 HC1) | ((first | (with_reducible refine Fr.gate_alloc rfl ?_) | (with_reducible refine Fr.gate_box rfl ?_)); apply Fr.fr_box hF.out rfl; (case hrun => first | (go_simp; done) | (go_simp; rfl)); intro g W hF1; have HC1 := hF1.cells; simp only [Fr.Cells, List.length_cons, List.length_nil, Nat.reduceAdd, and_true] at HC1; clear hF HC; have HC := HC1; have hF := Aside0.mk hF1; clear hF1 HC1))
        go_ret
        exact ⟨by rw [HV.out]; rfl, hF.out.below⟩
end Go.Proofs.Ytkphinfijppkeaa.G
