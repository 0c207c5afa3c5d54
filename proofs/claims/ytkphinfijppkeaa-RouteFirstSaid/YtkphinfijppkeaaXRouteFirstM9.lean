/- Contracts of functions of the given program, and what they come to, for any arguments. No condition beyond each theorem's own premises. -/
import Derived.Test.YtkphinfijppkeaaXRouteFirstM8
import Derived.Test.YtkphinfijppkeaaXRouteFirstM7
namespace Go.Proofs.Ytkphinfijppkeaa.G
open Go.RowKit Go.Proofs.YtkphinfijppkeaaW.PrintWords Go.Proofs.YtkphinfijppkeaaW.PrintLast Go.Proofs.YtkphinfijppkeaaW.PrintMore
attribute [local go_sem] max2_int min2_int max_two min_two max_three min_three max_four min_four
set_option linter.unusedVariables false
set_option linter.unusedSimpArgs false
def LOk (x : S92) : Prop := x.f0.size ≤ M63 ∧ x.f1.size ≤ M63
def W74 (x : S74) : Prop := ((Lit.int .i64 x.f0).wf = true) ∧ ((Lit.int .i64 x.f1).wf = true) ∧ ((Lit.int .i64 x.f2).wf = true)
def W76 (x : S76) : Prop := (x.f0.size ≤ maxLen) ∧ (W74 x.f1) ∧ ((Lit.int .i64 x.f2).wf = true) ∧ ((Lit.int .i64 x.f3).wf = true) ∧ ((Lit.int .i64 x.f4).wf = true) ∧ ((Lit.int .i64 x.f5).wf = true) ∧ ((Lit.int .i64 x.f6).wf = true)
def W88 (x : S88) : Prop := ((Lit.int .i64 x.f0).wf = true) ∧ (x.f1.size ≤ maxLen) ∧ (x.f2.size ≤ maxLen)
def W58 (x : S58) : Prop := (x.f0.length ≤ maxLen ∧ ∀ x_ ∈ x.f0, ((Lit.int .i64 x_).wf = true)) ∧ (x.f1.length ≤ maxLen ∧ ∀ x_ ∈ x.f1, (W88 x_))
def WCf (rs : List S76) (ro : List S58) (rep beat : Int) : Prop := (rs.length ≤ maxLen ∧ ∀ x_ ∈ rs, (W76 x_)) ∧ (ro.length ≤ maxLen ∧ ∀ x_ ∈ ro, (W58 x_)) ∧ ((Lit.int .i64 rep).wf = true) ∧ ((Lit.int .i64 beat).wf = true)
def WLs (l : List S92) : Prop := l.length ≤ maxLen ∧ ∀ z ∈ l, (z.f0.size ≤ maxLen) ∧ (z.f1.size ≤ maxLen)
theorem WCf.ok {rs : List S76} {ro : List S58} {rep beat : Int} (h : WCf rs ro rep beat) : CfOk ⟨rs, ro, rep, beat⟩ ∧ ∀ x ∈ ro, WfR x :=
  ⟨⟨h.1.1, h.2.1.1, fun r hr => (h.1.2 r hr).1, fun x hx => ⟨(h.2.1.2 x hx).1.1, (h.2.1.2 x hx).2.1, fun m hm => ⟨((h.2.1.2 x hx).2.2 m hm).2.1, ((h.2.1.2 x hx).2.2 m hm).2.2⟩⟩⟩, fun x hx k hk => (h.2.1.2 x hx).1.2 k hk⟩
theorem WLs.ok {l : List S92} (h : WLs l) : ∀ x ∈ l, LOk x := fun x hx => h.2 x hx
theorem rowC {α : Type} {d : Kd α} {e n c base : Nat} {A : Option Addr} {xs : List α} {S : Nat → Prop} {w0 w : World} {bs : List Fr.Blk} {rs : List Fr.Row} (hF : Fr.Frame w0 w bs rs) (hm : Fr.rowR d e base (.slice A n c) xs S ∈ rs) : xs.length ≤ c ∧ Kd.C d w A xs.length xs := by
  have h : d.R e w base S (.slice A n c) xs := hF.rowAt hm
  obtain ⟨A', c', e1, hc, hC⟩ := Kd.R_reads h
  injection e1 with e2 e3 e4
  subst e2 e4
  exact ⟨hc, hC⟩
theorem blk_row {sz e g : Nat} {cs : List Value} {w0 W : World} {bs : List Fr.Blk} (hF : Fr.Frame w0 W ((g, cs, e) :: bs) []) (hl : cs.length = sz) (h1 : ∀ u ∈ cs, u.oneCell' = true) :
    ∃ S, Fr.Frame w0 W bs [Fr.rowR (Kd.raw sz) e w0.heap.size (.slice (some ⟨g, 0, none⟩) 1 1) [cs] S] := by
  obtain ⟨hg, hh⟩ := hF.blk _ List.mem_cons_self
  refine (Fr.Frame.drop hF).rowIn (ok := fun k => k = g) ⟨fun k hk => ?_, cs, ⟨by simp [Kd.raw, hl], .inr ⟨g, 1, cs.toArray, rfl, hg, hh, Nat.le_refl _, by decide, by simp [Kd.raw, hl], ?_⟩⟩, ?_⟩ (fun k hk b hb e => ?_)
  · have : g = k := by simpa [Value.ownBlock] using hk
    exact this.symm
  · show List.take (1 * sz) cs = cs
    rw [Nat.one_mul, ← hl, List.take_length]
  · have := reps_flat (sz := sz) W w0.heap.size (fun k => (fun k => k = g) k ∧ some k ≠ (Value.slice (some ⟨g, 0, none⟩) 1 1).ownBlock) (rows := [cs]) (fun c hc => by rw [List.mem_singleton.1 hc]; exact ⟨hl, h1⟩)
    simpa using this
  · subst hk
    have := (List.nodup_cons.1 hF.nodup).1
    exact this (List.mem_map.2 ⟨b, hb, e.symm⟩)
abbrev newR : S58 := ⟨[0], []⟩
def withR (q : Cf) : Cf := ⟨q.rs, newR :: q.ro.take 3, q.rep, q.beat⟩
theorem newR_ok (n : Nat) (h : 1 ≤ n) : routeB n newR = true := by
  unfold routeB
  have hc : chainB n newR.f0 = true := chain_yes fun i hi => by
    have : i = 0 := by simp at hi; omega
    subst this
    refine ⟨by decide, ?_, by simp⟩
    show (0 : Int) < n
    omega
  rw [hc]; rfl
theorem withR_cfg {q : Cf} (h : cfgB q = true) : cfgB (withR q) = true := by
  have hr := cfg_routes h
  unfold cfgB at h ⊢
  simp only [Bool.and_eq_true, decide_eq_true_eq] at h ⊢
  obtain ⟨h1, h2, h3, h4, h5, h6, h7, h8⟩ := h
  refine ⟨h1, ?_, h3, h4, ?_, ?_, h7, h8⟩
  · rw [List.all_eq_true]
    intro x hx
    rcases List.mem_cons.1 hx with rfl | hx
    · exact newR_ok _ h3
    · exact hr x (List.mem_of_mem_take hx)
  · show 1 ≤ (newR :: q.ro.take 3).length
    simp
  · show (newR :: q.ro.take 3).length ≤ 4
    simp only [List.length_cons, List.length_take]; omega
theorem withR_choose {q : Cf} {L : List S92} (h : cfgB q = true) (hR : rightB L = true) : chooseE (withR q) L = 0 ∧ chooseV (withR q) L = 0 := by
  have h1 := withR_cfg h
  have hk : takeI (withR q).ro L = ((0 : Nat) : Int) := (idxR_hit58 (takesB L) (withR q).ro 0 (by show 0 < (newR :: q.ro.take 3).length; simp) (fun j hj => absurd hj (Nat.not_lt_zero _)) rfl).symm
  exact choose_some h1 hR hk
theorem takes_all {q : Cf} {L : List S92} (h : cfgB q = true) (hR : rightB L = true) {i : Nat} (hi : i < q.ro.length) : allV (rd_T58 q.ro (i : Nat)).f1 L = takesB L (rd_T58 q.ro (i : Nat)) ∧ allE (rd_T58 q.ro (i : Nat)).f1 L = 0 := by
  have hx := cfg_routes h _ (List.getElem_mem hi)
  rw [← rd_get58 q.ro i hi] at hx
  have hk := route_kinds hx
  have hx2 := hx
  unfold routeB at hx2
  simp only [Bool.and_eq_true, decide_eq_true_eq] at hx2
  have hok : allOk (rd_T58 q.ro (i : Nat)).f1 L = true := by
    unfold allOk
    rw [hR, decide_eq_true hx2.2.2.2.1, hx2.2.2.2.2]; rfl
  have := all_yes hok
  exact ⟨by rw [this.1, takes_is hR hx]; rfl, this.2⟩
set_option maxHeartbeats 8000000 in
set_option maxRecDepth 100000 in
theorem rfirst_0 (c : Cf) (A0 : Option Addr) (c0 : Nat) (A1 : Option Addr) (c1 : Nat) (A2 : Option Addr) (c2 : Nat) (l : List S92) (w : World) (hr0 : Kd.C k76 w A0 c.rs.length c.rs) (hl0 : c.rs.length ≤ c0) (hr1 : Kd.C k58 w A1 c.ro.length c.ro) (hl1 : c.ro.length ≤ c1) (hr2 : Kd.C k92 w A2 l.length l) (hl2 : l.length ≤ c2) (hwf : ∀ x ∈ c.ro, WfR x)
    (q : Cf) (hq : cutC c = q) (L : List S92) (hL : l.take 5 = L) (e2 : chooseE q L = 1) (e1 : chooseV q L = 0) :
    Calls Try.prog 7 #[.agg #[.slice A0 c.rs.length c0, .slice A1 c.ro.length c1, .int .i64 c.rep, .int .i64 c.beat], .slice A2 l.length c2] w fun e w' => e = .returned (.bool true) ∧ Below w.heap.size w w' := by
  have hm0 := hr0.2.1
  have hm1 := hr1.2.1
  have hm2 := hr2.2.1
  have hq0 : Kd.C k76 w A0 q.rs.length q.rs := take_C 6 hr0 (by rw [← hq]; rfl)
  have hq1 : Kd.C k58 w A1 q.ro.length q.ro := take_C 6 hr1 (by rw [← hq]; rfl)
  have hqL : Kd.C k92 w A2 L.length L := take_C 5 hr2 hL
  have hq0l : q.rs.length ≤ c0 := by rw [← hq]; show (c.rs.take 6).length ≤ c0; rw [List.length_take]; omega
  have hq1l : q.ro.length ≤ c1 := by rw [← hq]; show (c.ro.take 6).length ≤ c1; rw [List.length_take]; omega
  have hqwf : ∀ x ∈ q.ro, WfR x := fun x hx => hwf x (by rw [← hq] at hx; exact List.mem_of_mem_take hx)
  have H30 := Aside0.mk (fun W => few_calls 30 (.inl rfl) c A0 c0 A1 c1 W hl0 hl1 hm0 hm1)
  rw [hq] at H30
  have H31 := Aside0.mk (fun W => some31 A2 c2 l W hl2 hm2)
  rw [hL] at H31
  have HCH := Aside0.mk (fun W (hb : Below w.heap.size w W) => choose_calls q A0 c0 A1 c1 A2 c2 L W (Kd.C_below hq0 hb) hq0l (Kd.C_below hq1 hb) hqwf (Kd.C_below hqL hb))
  have HQ0 := Aside0.mk hq0
  have HQ1 := Aside0.mk hq1
  have HQL := Aside0.mk hqL
  have HQ0L := Aside0.mk hq0l
  have HQ1L := Aside0.mk hq1l
  have HQW := Aside0.mk hqwf
  have hrm := hq1.2.1
  have Xe1 := Aside0.mk e1
  have Xe2 := Aside0.mk e2
  clear hr0 hl0 hr1 hl1 hr2 hl2 hwf hq hL hm0 hm1 hm2 hq0 hq1 hqL hq0l hq1l hqwf e1 e2
  have hF := Aside0.mk (Fr.Frame.start w)
  have HC : True := trivial
  go_enter Try.func7, Try.ntmps7
  go_wp2_with (first | ((with_reducible refine gate_store rfl ?_); apply Fr.fr_store hF.out rfl rfl rfl; (case hp => rfl); (case hx => first | (go_simp; rfl) | rfl); (case hu => (simp only [Value.cells]; rfl)); (case hs => (repeat (first | exact Fr.Spot.here _ _ | apply Fr.Spot.there))); (case ht => kernel_rfl); (case h1 => simp [Value.oneCell']); (case hfit => simp); intro W hF1; simp only [Fr.patch, List.take_zero, List.nil_append, List.drop, List.append_nil, List.take, List.cons_append, List.length_cons, List.length_nil, Nat.reduceAdd] at hF1; have HC1 := hF1.cells; simp only [Fr.Cells, List.length_cons, List.length_nil, Nat.reduceAdd, and_true] at HC1; clear hF HC; have HC := HC1; have hF := Aside0.mk hF1; clear hF1 HC1) | ((with_reducible refine gate_dst (N := 2) rfl ?_); apply Fr.fr_box hF.out rfl; (case hrun => first | (go_simp; done) | (go_simp; rfl)); intro gb W hF1; have HC1 := hF1.cells; simp only [Fr.Cells, List.length_cons, List.length_nil, Nat.reduceAdd, and_true] at HC1; clear hF HC; have HC := HC1; have hF := Aside0.mk hF1; clear hF1 HC1) | ((first | (with_reducible refine Fr.gate_alloc rfl ?_) | (with_reducible refine Fr.gate_box rfl ?_)); apply Fr.fr_box hF.out rfl; (case hrun => first | (go_simp; done) | (go_simp; rfl)); intro g W hF1; have HC1 := hF1.cells; simp only [Fr.Cells, List.length_cons, List.length_nil, Nat.reduceAdd, and_true] at HC1; clear hF HC; have HC := HC1; have hF := Aside0.mk hF1; clear hF1 HC1))
  (with_reducible refine (H30.out _).mono ?_); rintro e W ⟨rfl, hb⟩; have hF1 := hF.out.call hb; clear hb; have HC1 := hF1.cells; simp only [Fr.Cells, List.length_cons, List.length_nil, Nat.reduceAdd, and_true] at HC1; clear hF HC; have HC := HC1; have hF := Aside0.mk hF1; clear hF1 HC1
  go_wp2_with (first | ((with_reducible refine gate_store rfl ?_); apply Fr.fr_store hF.out rfl rfl rfl; (case hp => rfl); (case hx => first | (go_simp; rfl) | rfl); (case hu => (simp only [Value.cells]; rfl)); (case hs => (repeat (first | exact Fr.Spot.here _ _ | apply Fr.Spot.there))); (case ht => kernel_rfl); (case h1 => simp [Value.oneCell']); (case hfit => simp); intro W hF1; simp only [Fr.patch, List.take_zero, List.nil_append, List.drop, List.append_nil, List.take, List.cons_append, List.length_cons, List.length_nil, Nat.reduceAdd] at hF1; have HC1 := hF1.cells; simp only [Fr.Cells, List.length_cons, List.length_nil, Nat.reduceAdd, and_true] at HC1; clear hF HC; have HC := HC1; have hF := Aside0.mk hF1; clear hF1 HC1) | ((first | (with_reducible refine Fr.gate_alloc rfl ?_) | (with_reducible refine Fr.gate_box rfl ?_)); apply Fr.fr_box hF.out rfl; (case hrun => first | (go_simp; done) | (go_simp; rfl)); intro g W hF1; have HC1 := hF1.cells; simp only [Fr.Cells, List.length_cons, List.length_nil, Nat.reduceAdd, and_true] at HC1; clear hF HC; have HC := HC1; have hF := Aside0.mk hF1; clear hF1 HC1))
  (with_reducible refine (H31.out _).mono ?_)
  rintro e W' ⟨rfl, rfl⟩
  go_wp2_with (first | ((with_reducible refine gate_store rfl ?_); apply Fr.fr_store hF.out rfl rfl rfl; (case hp => rfl); (case hx => first | (go_simp; rfl) | rfl); (case hu => (simp only [Value.cells]; rfl)); (case hs => (repeat (first | exact Fr.Spot.here _ _ | apply Fr.Spot.there))); (case ht => kernel_rfl); (case h1 => simp [Value.oneCell']); (case hfit => simp); intro W hF1; simp only [Fr.patch, List.take_zero, List.nil_append, List.drop, List.append_nil, List.take, List.cons_append, List.length_cons, List.length_nil, Nat.reduceAdd] at hF1; have HC1 := hF1.cells; simp only [Fr.Cells, List.length_cons, List.length_nil, Nat.reduceAdd, and_true] at HC1; clear hF HC; have HC := HC1; have hF := Aside0.mk hF1; clear hF1 HC1) | ((first | (with_reducible refine Fr.gate_alloc rfl ?_) | (with_reducible refine Fr.gate_box rfl ?_)); apply Fr.fr_box hF.out rfl; (case hrun => first | (go_simp; done) | (go_simp; rfl)); intro g W hF1; have HC1 := hF1.cells; simp only [Fr.Cells, List.length_cons, List.length_nil, Nat.reduceAdd, and_true] at HC1; clear hF HC; have HC := HC1; have hF := Aside0.mk hF1; clear hF1 HC1))
  (with_reducible refine (HCH.out _ hF.out.below).mono ?_); rintro e W ⟨rfl, hb⟩; have hF1 := hF.out.call hb; clear hb; have HC1 := hF1.cells; simp only [Fr.Cells, List.length_cons, List.length_nil, Nat.reduceAdd, and_true] at HC1; clear hF HC; have HC := HC1; have hF := Aside0.mk hF1; clear hF1 HC1
  simp only [Xe1.out, Xe2.out]
  go_wp2_with (first | ((with_reducible refine gate_store rfl ?_); apply Fr.fr_store hF.out rfl rfl rfl; (case hp => rfl); (case hx => first | (go_simp; rfl) | rfl); (case hu => (simp only [Value.cells]; rfl)); (case hs => (repeat (first | exact Fr.Spot.here _ _ | apply Fr.Spot.there))); (case ht => kernel_rfl); (case h1 => simp [Value.oneCell']); (case hfit => simp); intro W hF1; simp only [Fr.patch, List.take_zero, List.nil_append, List.drop, List.append_nil, List.take, List.cons_append, List.length_cons, List.length_nil, Nat.reduceAdd] at hF1; have HC1 := hF1.cells; simp only [Fr.Cells, List.length_cons, List.length_nil, Nat.reduceAdd, and_true] at HC1; clear hF HC; have HC := HC1; have hF := Aside0.mk hF1; clear hF1 HC1) | ((first | (with_reducible refine Fr.gate_alloc rfl ?_) | (with_reducible refine Fr.gate_box rfl ?_)); apply Fr.fr_box hF.out rfl; (case hrun => first | (go_simp; done) | (go_simp; rfl)); intro g W hF1; have HC1 := hF1.cells; simp only [Fr.Cells, List.length_cons, List.length_nil, Nat.reduceAdd, and_true] at HC1; clear hF HC; have HC := HC1; have hF := Aside0.mk hF1; clear hF1 HC1))
  (with_reducible refine (alive33_calls _).mono ?_); rintro e W ⟨rfl, hb⟩; have hF1 := hF.out.call hb; clear hb; have HC1 := hF1.cells; simp only [Fr.Cells, List.length_cons, List.length_nil, Nat.reduceAdd, and_true] at HC1; clear hF HC; have HC := HC1; have hF := Aside0.mk hF1; clear hF1 HC1
  go_wp2_with (first | ((with_reducible refine gate_store rfl ?_); apply Fr.fr_store hF.out rfl rfl rfl; (case hp => rfl); (case hx => first | (go_simp; rfl) | rfl); (case hu => (simp only [Value.cells]; rfl)); (case hs => (repeat (first | exact Fr.Spot.here _ _ | apply Fr.Spot.there))); (case ht => kernel_rfl); (case h1 => simp [Value.oneCell']); (case hfit => simp); intro W hF1; simp only [Fr.patch, List.take_zero, List.nil_append, List.drop, List.append_nil, List.take, List.cons_append, List.length_cons, List.length_nil, Nat.reduceAdd] at hF1; have HC1 := hF1.cells; simp only [Fr.Cells, List.length_cons, List.length_nil, Nat.reduceAdd, and_true] at HC1; clear hF HC; have HC := HC1; have hF := Aside0.mk hF1; clear hF1 HC1) | ((first | (with_reducible refine Fr.gate_alloc rfl ?_) | (with_reducible refine Fr.gate_box rfl ?_)); apply Fr.fr_box hF.out rfl; (case hrun => first | (go_simp; done) | (go_simp; rfl)); intro g W hF1; have HC1 := hF1.cells; simp only [Fr.Cells, List.length_cons, List.length_nil, Nat.reduceAdd, and_true] at HC1; clear hF HC; have HC := HC1; have hF := Aside0.mk hF1; clear hF1 HC1))
  go_ret
  exact ⟨rfl, hF.out.below⟩
theorem cfg_facts {c : Cf} (h : cfgB c = true) : 1 ≤ c.rs.length ∧ c.rs.length ≤ 4 ∧ 1 ≤ c.ro.length ∧ c.ro.length ≤ 4 := by
  unfold cfgB at h
  simp only [Bool.and_eq_true, decide_eq_true_eq] at h
  exact ⟨h.2.2.1, h.2.2.2.1, h.2.2.2.2.1, h.2.2.2.2.2.1⟩
set_option maxHeartbeats 8000000 in
set_option maxRecDepth 100000 in
theorem rfirst_n (c : Cf) (A0 : Option Addr) (c0 : Nat) (A1 : Option Addr) (c1 : Nat) (A2 : Option Addr) (c2 : Nat) (l : List S92) (w : World) (hr0 : Kd.C k76 w A0 c.rs.length c.rs) (hl0 : c.rs.length ≤ c0) (hr1 : Kd.C k58 w A1 c.ro.length c.ro) (hl1 : c.ro.length ≤ c1) (hr2 : Kd.C k92 w A2 l.length l) (hl2 : l.length ≤ c2) (hwf : ∀ x ∈ c.ro, WfR x)
    (q : Cf) (hq : cutC c = q) (L : List S92) (hL : l.take 5 = L) (e2 : chooseE q L = 4) (e1 : chooseV q L = 0) (cf : cfgB q = true) (rl : rightB L = true) (no : ∀ i : Nat, i < q.ro.length → takesB L (rd_T58 q.ro (i : Nat)) = false) :
    Calls Try.prog 7 #[.agg #[.slice A0 c.rs.length c0, .slice A1 c.ro.length c1, .int .i64 c.rep, .int .i64 c.beat], .slice A2 l.length c2] w fun e w' => e = .returned (.bool true) ∧ Below w.heap.size w w' := by
  have hm0 := hr0.2.1
  have hm1 := hr1.2.1
  have hm2 := hr2.2.1
  have hq0 : Kd.C k76 w A0 q.rs.length q.rs := take_C 6 hr0 (by rw [← hq]; rfl)
  have hq1 : Kd.C k58 w A1 q.ro.length q.ro := take_C 6 hr1 (by rw [← hq]; rfl)
  have hqL : Kd.C k92 w A2 L.length L := take_C 5 hr2 hL
  have hq0l : q.rs.length ≤ c0 := by rw [← hq]; show (c.rs.take 6).length ≤ c0; rw [List.length_take]; omega
  have hq1l : q.ro.length ≤ c1 := by rw [← hq]; show (c.ro.take 6).length ≤ c1; rw [List.length_take]; omega
  have hqwf : ∀ x ∈ q.ro, WfR x := fun x hx => hwf x (by rw [← hq] at hx; exact List.mem_of_mem_take hx)
  have H30 := Aside0.mk (fun W => few_calls 30 (.inl rfl) c A0 c0 A1 c1 W hl0 hl1 hm0 hm1)
  rw [hq] at H30
  have H31 := Aside0.mk (fun W => some31 A2 c2 l W hl2 hm2)
  rw [hL] at H31
  have HCH := Aside0.mk (fun W (hb : Below w.heap.size w W) => choose_calls q A0 c0 A1 c1 A2 c2 L W (Kd.C_below hq0 hb) hq0l (Kd.C_below hq1 hb) hqwf (Kd.C_below hqL hb))
  have HQ0 := Aside0.mk hq0
  have HQ1 := Aside0.mk hq1
  have HQL := Aside0.mk hqL
  have HQ0L := Aside0.mk hq0l
  have HQ1L := Aside0.mk hq1l
  have HQW := Aside0.mk hqwf
  have hrm := hq1.2.1
  have Xe1 := Aside0.mk e1
  have Xe2 := Aside0.mk e2
  have Xcf := Aside0.mk cf
  have Xrl := Aside0.mk rl
  have Xno := Aside0.mk no
  clear hr0 hl0 hr1 hl1 hr2 hl2 hwf hq hL hm0 hm1 hm2 hq0 hq1 hqL hq0l hq1l hqwf e1 e2 cf rl no
  have hF := Aside0.mk (Fr.Frame.start w)
  have HC : True := trivial
  go_enter Try.func7, Try.ntmps7
  go_wp2_with (first | ((with_reducible refine gate_store rfl ?_); apply Fr.fr_store hF.out rfl rfl rfl; (case hp => rfl); (case hx => first | (go_simp; rfl) | rfl); (case hu => (simp only [Value.cells]; rfl)); (case hs => (repeat (first | exact Fr.Spot.here _ _ | apply Fr.Spot.there))); (case ht => kernel_rfl); (case h1 => simp [Value.oneCell']); (case hfit => simp); intro W hF1; simp only [Fr.patch, List.take_zero, List.nil_append, List.drop, List.append_nil, List.take, List.cons_append, List.length_cons, List.length_nil, Nat.reduceAdd] at hF1; have HC1 := hF1.cells; simp only [Fr.Cells, List.length_cons, List.length_nil, Nat.reduceAdd, and_true] at HC1; clear hF HC; have HC := HC1; have hF := Aside0.mk hF1; clear hF1 HC1) | ((with_reducible refine gate_dst (N := 2) rfl ?_); apply Fr.fr_box hF.out rfl; (case hrun => first | (go_simp; done) | (go_simp; rfl)); intro gb W hF1; have HC1 := hF1.cells; simp only [Fr.Cells, List.length_cons, List.length_nil, Nat.reduceAdd, and_true] at HC1; clear hF HC; have HC := HC1; have hF := Aside0.mk hF1; clear hF1 HC1) | ((first | (with_reducible refine Fr.gate_alloc rfl ?_) | (with_reducible refine Fr.gate_box rfl ?_)); apply Fr.fr_box hF.out rfl; (case hrun => first | (go_simp; done) | (go_simp; rfl)); intro g W hF1; have HC1 := hF1.cells; simp only [Fr.Cells, List.length_cons, List.length_nil, Nat.reduceAdd, and_true] at HC1; clear hF HC; have HC := HC1; have hF := Aside0.mk hF1; clear hF1 HC1))
  (with_reducible refine (H30.out _).mono ?_); rintro e W ⟨rfl, hb⟩; have hF1 := hF.out.call hb; clear hb; have HC1 := hF1.cells; simp only [Fr.Cells, List.length_cons, List.length_nil, Nat.reduceAdd, and_true] at HC1; clear hF HC; have HC := HC1; have hF := Aside0.mk hF1; clear hF1 HC1
  go_wp2_with (first | ((with_reducible refine gate_store rfl ?_); apply Fr.fr_store hF.out rfl rfl rfl; (case hp => rfl); (case hx => first | (go_simp; rfl) | rfl); (case hu => (simp only [Value.cells]; rfl)); (case hs => (repeat (first | exact Fr.Spot.here _ _ | apply Fr.Spot.there))); (case ht => kernel_rfl); (case h1 => simp [Value.oneCell']); (case hfit => simp); intro W hF1; simp only [Fr.patch, List.take_zero, List.nil_append, List.drop, List.append_nil, List.take, List.cons_append, List.length_cons, List.length_nil, Nat.reduceAdd] at hF1; have HC1 := hF1.cells; simp only [Fr.Cells, List.length_cons, List.length_nil, Nat.reduceAdd, and_true] at HC1; clear hF HC; have HC := HC1; have hF := Aside0.mk hF1; clear hF1 HC1) | ((first | (with_reducible refine Fr.gate_alloc rfl ?_) | (with_reducible refine Fr.gate_box rfl ?_)); apply Fr.fr_box hF.out rfl; (case hrun => first | (go_simp; done) | (go_simp; rfl)); intro g W hF1; have HC1 := hF1.cells; simp only [Fr.Cells, List.length_cons, List.length_nil, Nat.reduceAdd, and_true] at HC1; clear hF HC; have HC := HC1; have hF := Aside0.mk hF1; clear hF1 HC1))
  (with_reducible refine (H31.out _).mono ?_)
  rintro e W' ⟨rfl, rfl⟩
  go_wp2_with (first | ((with_reducible refine gate_store rfl ?_); apply Fr.fr_store hF.out rfl rfl rfl; (case hp => rfl); (case hx => first | (go_simp; rfl) | rfl); (case hu => (simp only [Value.cells]; rfl)); (case hs => (repeat (first | exact Fr.Spot.here _ _ | apply Fr.Spot.there))); (case ht => kernel_rfl); (case h1 => simp [Value.oneCell']); (case hfit => simp); intro W hF1; simp only [Fr.patch, List.take_zero, List.nil_append, List.drop, List.append_nil, List.take, List.cons_append, List.length_cons, List.length_nil, Nat.reduceAdd] at hF1; have HC1 := hF1.cells; simp only [Fr.Cells, List.length_cons, List.length_nil, Nat.reduceAdd, and_true] at HC1; clear hF HC; have HC := HC1; have hF := Aside0.mk hF1; clear hF1 HC1) | ((first | (with_reducible refine Fr.gate_alloc rfl ?_) | (with_reducible refine Fr.gate_box rfl ?_)); apply Fr.fr_box hF.out rfl; (case hrun => first | (go_simp; done) | (go_simp; rfl)); intro g W hF1; have HC1 := hF1.cells; simp only [Fr.Cells, List.length_cons, List.length_nil, Nat.reduceAdd, and_true] at HC1; clear hF HC; have HC := HC1; have hF := Aside0.mk hF1; clear hF1 HC1))
  (with_reducible refine (HCH.out _ hF.out.below).mono ?_); rintro e W ⟨rfl, hb⟩; have hF1 := hF.out.call hb; clear hb; have HC1 := hF1.cells; simp only [Fr.Cells, List.length_cons, List.length_nil, Nat.reduceAdd, and_true] at HC1; clear hF HC; have HC := HC1; have hF := Aside0.mk hF1; clear hF1 HC1
  simp only [Xe1.out, Xe2.out]
  go_wp2_with (first | ((with_reducible refine gate_store rfl ?_); apply Fr.fr_store hF.out rfl rfl rfl; (case hp => rfl); (case hx => first | (go_simp; rfl) | rfl); (case hu => (simp only [Value.cells]; rfl)); (case hs => (repeat (first | exact Fr.Spot.here _ _ | apply Fr.Spot.there))); (case ht => kernel_rfl); (case h1 => simp [Value.oneCell']); (case hfit => simp); intro W hF1; simp only [Fr.patch, List.take_zero, List.nil_append, List.drop, List.append_nil, List.take, List.cons_append, List.length_cons, List.length_nil, Nat.reduceAdd] at hF1; have HC1 := hF1.cells; simp only [Fr.Cells, List.length_cons, List.length_nil, Nat.reduceAdd, and_true] at HC1; clear hF HC; have HC := HC1; have hF := Aside0.mk hF1; clear hF1 HC1) | ((first | (with_reducible refine Fr.gate_alloc rfl ?_) | (with_reducible refine Fr.gate_box rfl ?_)); apply Fr.fr_box hF.out rfl; (case hrun => first | (go_simp; done) | (go_simp; rfl)); intro g W hF1; have HC1 := hF1.cells; simp only [Fr.Cells, List.length_cons, List.length_nil, Nat.reduceAdd, and_true] at HC1; clear hF HC; have HC := HC1; have hF := Aside0.mk hF1; clear hF1 HC1))
  have HTA := Aside0.mk (fun (i : Nat) (hi : i < q.ro.length) => takes_all Xcf.out Xrl.out hi)
  have XW := Aside0.mk (withR_choose Xcf.out Xrl.out)
  obtain ⟨rows, hrl, hrk, hrw⟩ := rows_of (take_C 3 HQ1.out rfl)
  have HRK := Aside0.mk hrk
  have HRW := Aside0.mk hrw
  have h4 := cfg_facts Xcf.out
  have HRP := Aside0.mk (show 0 < rows.length by rw [hrl, List.length_take]; omega)
  have HRB := Aside0.mk (show ([[Value.slice (some ⟨0, 0, none⟩) 1 1, Value.slice none 0 0]].length + rows.length) * 48 ≤ 140737488355328 by rw [hrl, List.length_take]; simp; omega)
  have hmin : (if (3 : Int) < (q.ro.length : Int) then 3 else (q.ro.length : Int)) = (rows.length : Int) := by rw [hrl, List.length_take]; split <;> omega
  have hrc : rows.length ≤ c1 := by rw [hrl, List.length_take]; have := HQ1L.out; omega
  obtain ⟨n9, hn9⟩ : ∃ n9, rows.length + 1 = n9 := ⟨_, rfl⟩
  have HLN := Aside0.mk (fun (s0 : Nat) => show ([[Value.slice (some ⟨s0, 0, none⟩) 1 1, Value.slice none 0 0]] ++ rows).length = n9 by rw [List.length_append, ← hn9]; simp; omega)
  have HRN := Aside0.mk (show n9 = (withR q).ro.length by rw [← hn9, hrl]; rfl)
  have h14 := h4
  clear hrl hrk hrw hn9 h4
  have hFb := hF
  go_loopg [33] q.ro.length (fun kq v33 w' => ∃ k : Nat, k ≤ q.ro.length ∧ q.ro.length - k ≤ kq ∧ v33 = .int .i64 k ∧ Aside0 (Fr.Frame w w' [(gb, [.slice A0 q.rs.length c0, .slice A1 q.ro.length c1, .int .i64 q.rep, .int .i64 q.beat], 53)] []))
  case atStart => exact ⟨0, Nat.zero_le _, by omega, rfl, ⟨hFb.out⟩⟩
  case round =>
    clear hF hFb HC
    obtain ⟨k, hk, hg, rfl, hF⟩ := hrel
    have HC1 := hF.out.cells
    simp only [Fr.Cells, List.length_cons, List.length_nil, Nat.reduceAdd, and_true] at HC1
    have HC := HC1
    clear HC1
    by_cases hlt : k < q.ro.length
    · have hlti : (k : Int) < (q.ro.length : Int) := by omega
      have hta := HTA.out k (by omega)
      obtain ⟨ad, B0, d0, B1, d1, e1, a0, a1, g0, g1, g2, g3⟩ := at_T58 HQ1.out (k : Int) (by omega) hlti
      cases e1
      obtain ⟨x, hx⟩ : ∃ x, rd_T58 q.ro (k : Int) = x := ⟨_, rfl⟩
      rw [hx] at a0 a1 g0 g1 g2 g3 hta
      have HX := Aside0.mk hx
      have G3 := Aside0.mk g3
      have HA := Aside0.mk (fun W (hb : Below w.heap.size w W) => all_calls B1 d1 x.f1 A2 c2 L W (Kd.C_below G3.out hb) (Kd.C_below HQL.out hb))
      have hxl : x.f1.length ≤ 9223372036854775807 := g3.2.1
      have htk : takesB L x = false := by rw [← HX.out]; exact Xno.out k hlt
      rw [htk] at hta
      clear htk
      rw [hta.1, hta.2] at HA
      clear hx g0 g1 g2 g3 hta
      rw [Int.toNat_natCast] at a0 a1
      replace a0 := (hF.out.below.cell (World.block_lt_of_cell? w _ a0)).trans a0
      replace a1 := (hF.out.below.cell (World.block_lt_of_cell? w _ a1)).trans a1
      by_cases hlast : (k : Int) = (q.ro.length : Int) - 1
      · have hlast2 : ((k : Int) == (q.ro.length : Int) - 1) = true := by rw [beq_iff_eq]; exact hlast
        clear hlast
        go_wp2_with (first | ((with_reducible refine gate_store rfl ?_); apply Fr.fr_store hF.out rfl rfl rfl; (case hp => rfl); (case hx => first | (go_simp; rfl) | rfl); (case hu => (simp only [Value.cells]; rfl)); (case hs => (repeat (first | exact Fr.Spot.here _ _ | apply Fr.Spot.there))); (case ht => kernel_rfl); (case h1 => simp [Value.oneCell']); (case hfit => simp); intro W hF1; simp only [Fr.patch, List.take_zero, List.nil_append, List.drop, List.append_nil, List.take, List.cons_append, List.length_cons, List.length_nil, Nat.reduceAdd] at hF1; have HC1 := hF1.cells; simp only [Fr.Cells, List.length_cons, List.length_nil, Nat.reduceAdd, and_true] at HC1; clear hF HC; have HC := HC1; have hF := Aside0.mk hF1; clear hF1 HC1) | ((first | (with_reducible refine Fr.gate_alloc rfl ?_) | (with_reducible refine Fr.gate_box rfl ?_)); apply Fr.fr_box hF.out rfl; (case hrun => first | (go_simp; done) | (go_simp; rfl)); intro g W hF1; have HC1 := hF1.cells; simp only [Fr.Cells, List.length_cons, List.length_nil, Nat.reduceAdd, and_true] at HC1; clear hF HC; have HC := HC1; have hF := Aside0.mk hF1; clear hF1 HC1))
        (with_reducible refine (HA.out _ hF.out.below).mono ?_); rintro e W ⟨rfl, hb⟩; have hF1 := hF.out.call hb; clear hb; have HC1 := hF1.cells; simp only [Fr.Cells, List.length_cons, List.length_nil, Nat.reduceAdd, and_true] at HC1; clear hF HC; have HC := HC1; have hF := Aside0.mk hF1; clear hF1 HC1
        go_wp2_with (first | ((with_reducible refine gate_store rfl ?_); apply Fr.fr_store hF.out rfl rfl rfl; (case hp => rfl); (case hx => first | (go_simp; rfl) | rfl); (case hu => (simp only [Value.cells]; rfl)); (case hs => (repeat (first | exact Fr.Spot.here _ _ | apply Fr.Spot.there))); (case ht => kernel_rfl); (case h1 => simp [Value.oneCell']); (case hfit => simp); intro W hF1; simp only [Fr.patch, List.take_zero, List.nil_append, List.drop, List.append_nil, List.take, List.cons_append, List.length_cons, List.length_nil, Nat.reduceAdd] at hF1; have HC1 := hF1.cells; simp only [Fr.Cells, List.length_cons, List.length_nil, Nat.reduceAdd, and_true] at HC1; clear hF HC; have HC := HC1; have hF := Aside0.mk hF1; clear hF1 HC1) | ((first | (with_reducible refine Fr.gate_alloc rfl ?_) | (with_reducible refine Fr.gate_box rfl ?_)); apply Fr.fr_box hF.out rfl; (case hrun => first | (go_simp; done) | (go_simp; rfl)); intro g W hF1; have HC1 := hF1.cells; simp only [Fr.Cells, List.length_cons, List.length_nil, Nat.reduceAdd, and_true] at HC1; clear hF HC; have HC := HC1; have hF := Aside0.mk hF1; clear hF1 HC1))
        go_roundg (q.ro.length - (k + 1))
        case measure => omega
        case rel => exact ⟨k + 1, by omega, by omega, by go_num, ⟨hF.out.drop⟩⟩
      · have hlast2 : ((k : Int) == (q.ro.length : Int) - 1) = false := by rw [beq_eq_false_iff_ne]; exact hlast
        go_wp2_with (first | ((with_reducible refine gate_store rfl ?_); apply Fr.fr_store hF.out rfl rfl rfl; (case hp => rfl); (case hx => first | (go_simp; rfl) | rfl); (case hu => (simp only [Value.cells]; rfl)); (case hs => (repeat (first | exact Fr.Spot.here _ _ | apply Fr.Spot.there))); (case ht => kernel_rfl); (case h1 => simp [Value.oneCell']); (case hfit => simp); intro W hF1; simp only [Fr.patch, List.take_zero, List.nil_append, List.drop, List.append_nil, List.take, List.cons_append, List.length_cons, List.length_nil, Nat.reduceAdd] at hF1; have HC1 := hF1.cells; simp only [Fr.Cells, List.length_cons, List.length_nil, Nat.reduceAdd, and_true] at HC1; clear hF HC; have HC := HC1; have hF := Aside0.mk hF1; clear hF1 HC1) | ((first | (with_reducible refine Fr.gate_alloc rfl ?_) | (with_reducible refine Fr.gate_box rfl ?_)); apply Fr.fr_box hF.out rfl; (case hrun => first | (go_simp; done) | (go_simp; rfl)); intro g W hF1; have HC1 := hF1.cells; simp only [Fr.Cells, List.length_cons, List.length_nil, Nat.reduceAdd, and_true] at HC1; clear hF HC; have HC := HC1; have hF := Aside0.mk hF1; clear hF1 HC1))
        (with_reducible refine (HA.out _ hF.out.below).mono ?_); rintro e W ⟨rfl, hb⟩; have hF1 := hF.out.call hb; clear hb; have HC1 := hF1.cells; simp only [Fr.Cells, List.length_cons, List.length_nil, Nat.reduceAdd, and_true] at HC1; clear hF HC; have HC := HC1; have hF := Aside0.mk hF1; clear hF1 HC1
        go_wp2_with (first | ((with_reducible refine gate_store rfl ?_); apply Fr.fr_store hF.out rfl rfl rfl; (case hp => rfl); (case hx => first | (go_simp; rfl) | rfl); (case hu => (simp only [Value.cells]; rfl)); (case hs => (repeat (first | exact Fr.Spot.here _ _ | apply Fr.Spot.there))); (case ht => kernel_rfl); (case h1 => simp [Value.oneCell']); (case hfit => simp); intro W hF1; simp only [Fr.patch, List.take_zero, List.nil_append, List.drop, List.append_nil, List.take, List.cons_append, List.length_cons, List.length_nil, Nat.reduceAdd] at hF1; have HC1 := hF1.cells; simp only [Fr.Cells, List.length_cons, List.length_nil, Nat.reduceAdd, and_true] at HC1; clear hF HC; have HC := HC1; have hF := Aside0.mk hF1; clear hF1 HC1) | ((first | (with_reducible refine Fr.gate_alloc rfl ?_) | (with_reducible refine Fr.gate_box rfl ?_)); apply Fr.fr_box hF.out rfl; (case hrun => first | (go_simp; done) | (go_simp; rfl)); intro g W hF1; have HC1 := hF1.cells; simp only [Fr.Cells, List.length_cons, List.length_nil, Nat.reduceAdd, and_true] at HC1; clear hF HC; have HC := HC1; have hF := Aside0.mk hF1; clear hF1 HC1))
        go_roundg (q.ro.length - (k + 1))
        case measure => omega
        case rel => exact ⟨k + 1, by omega, by omega, by go_num, ⟨hF.out.drop⟩⟩
    · obtain rfl : k = q.ro.length := by omega
      have hlti : ¬ (q.ro.length : Int) < (q.ro.length : Int) := by omega
      have hgb1 : wr.cell? ⟨gb, 1, none⟩ = some (.slice A1 q.ro.length c1) := by have := HC.1 1 (by decide); simpa using this
      have kgb1 := fun o o' => cell_al (cell_al hgb1 o) o'
      clear hgb1
      go_wp2_with (first | ((with_reducible refine gate_builtin (b := .append) (xs := #[.tmp 68, .tmp 75]) rfl ?_); have hX := (hF.out.alloc [.int .i64 0] 3).alloc [.slice (some ⟨wr.heap.size, 0, none⟩) 1 1, .slice none 0 0] 58; simp only [World.size_alloc] at hX; obtain ⟨S0, hX2⟩ := blk_row (sz := 2) hX rfl (by simp [Value.oneCell']); refine fr_appendF (sz := 2) (.tmp 68) (.tmp 75) 51 58 (.agg #[.slice none 0 0, .slice none 0 0]) 48 A1 c1 rows hX2 rfl rfl Try.underlying51 (by kernel_rfl) rfl (by decide) (by omega) rfl rfl (Kd.C_below HRW.out hX2.below) HRP.out HRB.out ?_; clear hX hX2; intro v1 W2 S1 hF1; obtain ⟨s0, hs0⟩ : ∃ s0, wr.heap.size = s0 := ⟨_, rfl⟩; rw [hs0] at hF1; obtain ⟨A9, c9, e9, hc9, hC9⟩ := Kd.R_reads (hF1.rowAt (r := Fr.rowR (Kd.raw 2) 58 w.heap.size v1 ([[.slice (some ⟨s0, 0, none⟩) 1 1, .slice none 0 0]] ++ rows) S1) List.mem_cons_self); subst e9; rw [HLN.out s0] at hF1 hc9 hC9 ⊢; have HF2 := Aside0.mk hF1; have HC1 := hF1.cells; simp only [Fr.Cells, List.length_cons, List.length_nil, Nat.reduceAdd, and_true] at HC1; clear hF HC; have HC := HC1; have hF := Aside0.mk hF1; clear hF1 HC1) | ((with_reducible refine gate_store rfl ?_); apply Fr.fr_store hF.out rfl rfl rfl; (case hp => rfl); (case hx => first | (go_simp; rfl) | rfl); (case hu => (simp only [Value.cells]; rfl)); (case hs => (repeat (first | exact Fr.Spot.here _ _ | apply Fr.Spot.there))); (case ht => kernel_rfl); (case h1 => simp [Value.oneCell']); (case hfit => simp); intro W hF1; simp only [Fr.patch, List.take_zero, List.nil_append, List.drop, List.append_nil, List.take, List.cons_append, List.length_cons, List.length_nil, Nat.reduceAdd] at hF1; have HC1 := hF1.cells; simp only [Fr.Cells, List.length_cons, List.length_nil, Nat.reduceAdd, and_true] at HC1; clear hF HC; have HC := HC1; have hF := Aside0.mk hF1; clear hF1 HC1) | ((first | (with_reducible refine Fr.gate_alloc rfl ?_) | (with_reducible refine Fr.gate_box rfl ?_)); apply Fr.fr_box hF.out rfl; (case hrun => first | (go_simp; done) | (go_simp; rfl)); intro g W hF1; have HC1 := hF1.cells; simp only [Fr.Cells, List.length_cons, List.length_nil, Nat.reduceAdd, and_true] at HC1; clear hF HC; have HC := HC1; have hF := Aside0.mk hF1; clear hF1 HC1))
      have hro := rowC hF.out List.mem_cons_self
      have hint : Kd.C (Kd.int .i64) _ (some ⟨s0, 0, none⟩) 1 [0] := C_blk (hF.out.blk (s0, [.int .i64 0], 3) (by repeat (first | exact List.mem_cons_self | apply List.mem_cons_of_mem))).2 ((Reps.none _ _).snoc (p := (0 : Int)) (c := [.int .i64 0]) rfl rfl) (by decide)
      have hnil : Kd.C k88 W none 0 [] := ⟨rfl, by decide, fun h => absurd h (by decide)⟩
      have hnew := k58_mk W newR (A0 := some ⟨s0, 0, none⟩) (c0 := 1) (by decide) hint (A1 := none) (c1 := 0) (by decide) hnil
      have hall : Kd.C k58 W A9 (withR q).ro.length (withR q).ro := by
        refine of_rows (rows := ([[Value.slice (some ⟨s0, 0, none⟩) 1 1, Value.slice none 0 0]] ++ rows : List (List Value))) ?_ (fun j x cs hx hcs => ?_) hro.2
        · rw [HLN.out s0, HRN.out]
        · cases j with
          | zero =>
            obtain rfl : newR = x := by simpa [withR] using hx
            obtain rfl : [.slice (some ⟨s0, 0, none⟩) 1 1, .slice none 0 0] = cs := by simpa using hcs
            exact hnew
          | succ j => exact k58.K_below hF.out.below (HRK.out j x cs (by simpa [withR] using hx) (by simpa using hcs))
      have hh := choose_calls (withR q) A0 c0 A9 c9 A2 c2 L _ (Kd.C_below HQ0.out hF.out.below) HQ0L.out hall (fun x hx => by
        rcases List.mem_cons.1 hx with rfl | hx
        · intro k hk; rw [List.mem_singleton.1 hk]; decide
        · exact HQW.out x (List.mem_of_mem_take hx)) (Kd.C_below HQL.out hF.out.below)
      rw [XW.out.1, XW.out.2, ← HRN.out] at hh
      have hh2 : Calls Try.prog 32 #[.agg #[.slice A0 q.rs.length c0, .slice A9 n9 c9, .int .i64 q.rep, .int .i64 q.beat], .slice A2 L.length c2] W _ := hh
      (with_reducible refine hh2.mono ?_)
      clear hh hh2 hall hnew hnil hint hro
      rintro e W ⟨rfl, hb⟩
      have hF1 := hF.out.call hb
      clear hb
      have HC1 := hF1.cells; simp only [Fr.Cells, List.length_cons, List.length_nil, Nat.reduceAdd, and_true] at HC1; clear hF HC; have HC := HC1; have hF := Aside0.mk hF1; clear hF1 HC1
      go_wp2_with (first | ((with_reducible refine gate_store rfl ?_); apply Fr.fr_store hF.out rfl rfl rfl; (case hp => rfl); (case hx => first | (go_simp; rfl) | rfl); (case hu => (simp only [Value.cells]; rfl)); (case hs => (repeat (first | exact Fr.Spot.here _ _ | apply Fr.Spot.there))); (case ht => kernel_rfl); (case h1 => simp [Value.oneCell']); (case hfit => simp); intro W hF1; simp only [Fr.patch, List.take_zero, List.nil_append, List.drop, List.append_nil, List.take, List.cons_append, List.length_cons, List.length_nil, Nat.reduceAdd] at hF1; have HC1 := hF1.cells; simp only [Fr.Cells, List.length_cons, List.length_nil, Nat.reduceAdd, and_true] at HC1; clear hF HC; have HC := HC1; have hF := Aside0.mk hF1; clear hF1 HC1) | ((first | (with_reducible refine Fr.gate_alloc rfl ?_) | (with_reducible refine Fr.gate_box rfl ?_)); apply Fr.fr_box hF.out rfl; (case hrun => first | (go_simp; done) | (go_simp; rfl)); intro g W hF1; have HC1 := hF1.cells; simp only [Fr.Cells, List.length_cons, List.length_nil, Nat.reduceAdd, and_true] at HC1; clear hF HC; have HC := HC1; have hF := Aside0.mk hF1; clear hF1 HC1))
      (with_reducible refine (alive33_calls _).mono ?_); rintro e W ⟨rfl, hb⟩; have hF1 := hF.out.call hb; clear hb; have HC1 := hF1.cells; simp only [Fr.Cells, List.length_cons, List.length_nil, Nat.reduceAdd, and_true] at HC1; clear hF HC; have HC := HC1; have hF := Aside0.mk hF1; clear hF1 HC1
      go_wp2_with (first | ((with_reducible refine gate_store rfl ?_); apply Fr.fr_store hF.out rfl rfl rfl; (case hp => rfl); (case hx => first | (go_simp; rfl) | rfl); (case hu => (simp only [Value.cells]; rfl)); (case hs => (repeat (first | exact Fr.Spot.here _ _ | apply Fr.Spot.there))); (case ht => kernel_rfl); (case h1 => simp [Value.oneCell']); (case hfit => simp); intro W hF1; simp only [Fr.patch, List.take_zero, List.nil_append, List.drop, List.append_nil, List.take, List.cons_append, List.length_cons, List.length_nil, Nat.reduceAdd] at hF1; have HC1 := hF1.cells; simp only [Fr.Cells, List.length_cons, List.length_nil, Nat.reduceAdd, and_true] at HC1; clear hF HC; have HC := HC1; have hF := Aside0.mk hF1; clear hF1 HC1) | ((first | (with_reducible refine Fr.gate_alloc rfl ?_) | (with_reducible refine Fr.gate_box rfl ?_)); apply Fr.fr_box hF.out rfl; (case hrun => first | (go_simp; done) | (go_simp; rfl)); intro g W hF1; have HC1 := hF1.cells; simp only [Fr.Cells, List.length_cons, List.length_nil, Nat.reduceAdd, and_true] at HC1; clear hF HC; have HC := HC1; have hF := Aside0.mk hF1; clear hF1 HC1))
      go_ret
      exact ⟨rfl, hF.out.below⟩
set_option maxHeartbeats 8000000 in
set_option maxRecDepth 100000 in
theorem rfirst_k (c : Cf) (A0 : Option Addr) (c0 : Nat) (A1 : Option Addr) (c1 : Nat) (A2 : Option Addr) (c2 : Nat) (l : List S92) (w : World) (hr0 : Kd.C k76 w A0 c.rs.length c.rs) (hl0 : c.rs.length ≤ c0) (hr1 : Kd.C k58 w A1 c.ro.length c.ro) (hl1 : c.ro.length ≤ c1) (hr2 : Kd.C k92 w A2 l.length l) (hl2 : l.length ≤ c2) (hwf : ∀ x ∈ c.ro, WfR x)
    (q : Cf) (hq : cutC c = q) (L : List S92) (hL : l.take 5 = L) (kk : Nat) (hkk : kk < q.ro.length) (e2 : chooseE q L = 0) (e1 : chooseV q L = (kk : Int)) (cf : cfgB q = true) (rl : rightB L = true) (no : ∀ i : Nat, i < kk → takesB L (rd_T58 q.ro (i : Nat)) = false) (yes : takesB L (rd_T58 q.ro (kk : Nat)) = true) :
    Calls Try.prog 7 #[.agg #[.slice A0 c.rs.length c0, .slice A1 c.ro.length c1, .int .i64 c.rep, .int .i64 c.beat], .slice A2 l.length c2] w fun e w' => e = .returned (.bool true) ∧ Below w.heap.size w w' := by
  have hm0 := hr0.2.1
  have hm1 := hr1.2.1
  have hm2 := hr2.2.1
  have hq0 : Kd.C k76 w A0 q.rs.length q.rs := take_C 6 hr0 (by rw [← hq]; rfl)
  have hq1 : Kd.C k58 w A1 q.ro.length q.ro := take_C 6 hr1 (by rw [← hq]; rfl)
  have hqL : Kd.C k92 w A2 L.length L := take_C 5 hr2 hL
  have hq0l : q.rs.length ≤ c0 := by rw [← hq]; show (c.rs.take 6).length ≤ c0; rw [List.length_take]; omega
  have hq1l : q.ro.length ≤ c1 := by rw [← hq]; show (c.ro.take 6).length ≤ c1; rw [List.length_take]; omega
  have hqwf : ∀ x ∈ q.ro, WfR x := fun x hx => hwf x (by rw [← hq] at hx; exact List.mem_of_mem_take hx)
  have H30 := Aside0.mk (fun W => few_calls 30 (.inl rfl) c A0 c0 A1 c1 W hl0 hl1 hm0 hm1)
  rw [hq] at H30
  have H31 := Aside0.mk (fun W => some31 A2 c2 l W hl2 hm2)
  rw [hL] at H31
  have HCH := Aside0.mk (fun W (hb : Below w.heap.size w W) => choose_calls q A0 c0 A1 c1 A2 c2 L W (Kd.C_below hq0 hb) hq0l (Kd.C_below hq1 hb) hqwf (Kd.C_below hqL hb))
  have HQ0 := Aside0.mk hq0
  have HQ1 := Aside0.mk hq1
  have HQL := Aside0.mk hqL
  have HQ0L := Aside0.mk hq0l
  have HQ1L := Aside0.mk hq1l
  have HQW := Aside0.mk hqwf
  have hrm := hq1.2.1
  have Xe1 := Aside0.mk e1
  have Xe2 := Aside0.mk e2
  have Xcf := Aside0.mk cf
  have Xrl := Aside0.mk rl
  have Xno := Aside0.mk no
  have Xyes := Aside0.mk yes
  have Xhkk := Aside0.mk hkk
  clear hr0 hl0 hr1 hl1 hr2 hl2 hwf hq hL hm0 hm1 hm2 hq0 hq1 hqL hq0l hq1l hqwf e1 e2 cf rl no yes hkk
  have hF := Aside0.mk (Fr.Frame.start w)
  have HC : True := trivial
  go_enter Try.func7, Try.ntmps7
  go_wp2_with (first | ((with_reducible refine gate_store rfl ?_); apply Fr.fr_store hF.out rfl rfl rfl; (case hp => rfl); (case hx => first | (go_simp; rfl) | rfl); (case hu => (simp only [Value.cells]; rfl)); (case hs => (repeat (first | exact Fr.Spot.here _ _ | apply Fr.Spot.there))); (case ht => kernel_rfl); (case h1 => simp [Value.oneCell']); (case hfit => simp); intro W hF1; simp only [Fr.patch, List.take_zero, List.nil_append, List.drop, List.append_nil, List.take, List.cons_append, List.length_cons, List.length_nil, Nat.reduceAdd] at hF1; have HC1 := hF1.cells; simp only [Fr.Cells, List.length_cons, List.length_nil, Nat.reduceAdd, and_true] at HC1; clear hF HC; have HC := HC1; have hF := Aside0.mk hF1; clear hF1 HC1) | ((with_reducible refine gate_dst (N := 2) rfl ?_); apply Fr.fr_box hF.out rfl; (case hrun => first | (go_simp; done) | (go_simp; rfl)); intro gb W hF1; have HC1 := hF1.cells; simp only [Fr.Cells, List.length_cons, List.length_nil, Nat.reduceAdd, and_true] at HC1; clear hF HC; have HC := HC1; have hF := Aside0.mk hF1; clear hF1 HC1) | ((first | (with_reducible refine Fr.gate_alloc rfl ?_) | (with_reducible refine Fr.gate_box rfl ?_)); apply Fr.fr_box hF.out rfl; (case hrun => first | (go_simp; done) | (go_simp; rfl)); intro g W hF1; have HC1 := hF1.cells; simp only [Fr.Cells, List.length_cons, List.length_nil, Nat.reduceAdd, and_true] at HC1; clear hF HC; have HC := HC1; have hF := Aside0.mk hF1; clear hF1 HC1))
  (with_reducible refine (H30.out _).mono ?_); rintro e W ⟨rfl, hb⟩; have hF1 := hF.out.call hb; clear hb; have HC1 := hF1.cells; simp only [Fr.Cells, List.length_cons, List.length_nil, Nat.reduceAdd, and_true] at HC1; clear hF HC; have HC := HC1; have hF := Aside0.mk hF1; clear hF1 HC1
  go_wp2_with (first | ((with_reducible refine gate_store rfl ?_); apply Fr.fr_store hF.out rfl rfl rfl; (case hp => rfl); (case hx => first | (go_simp; rfl) | rfl); (case hu => (simp only [Value.cells]; rfl)); (case hs => (repeat (first | exact Fr.Spot.here _ _ | apply Fr.Spot.there))); (case ht => kernel_rfl); (case h1 => simp [Value.oneCell']); (case hfit => simp); intro W hF1; simp only [Fr.patch, List.take_zero, List.nil_append, List.drop, List.append_nil, List.take, List.cons_append, List.length_cons, List.length_nil, Nat.reduceAdd] at hF1; have HC1 := hF1.cells; simp only [Fr.Cells, List.length_cons, List.length_nil, Nat.reduceAdd, and_true] at HC1; clear hF HC; have HC := HC1; have hF := Aside0.mk hF1; clear hF1 HC1) | ((first | (with_reducible refine Fr.gate_alloc rfl ?_) | (with_reducible refine Fr.gate_box rfl ?_)); apply Fr.fr_box hF.out rfl; (case hrun => first | (go_simp; done) | (go_simp; rfl)); intro g W hF1; have HC1 := hF1.cells; simp only [Fr.Cells, List.length_cons, List.length_nil, Nat.reduceAdd, and_true] at HC1; clear hF HC; have HC := HC1; have hF := Aside0.mk hF1; clear hF1 HC1))
  (with_reducible refine (H31.out _).mono ?_)
  rintro e W' ⟨rfl, rfl⟩
  go_wp2_with (first | ((with_reducible refine gate_store rfl ?_); apply Fr.fr_store hF.out rfl rfl rfl; (case hp => rfl); (case hx => first | (go_simp; rfl) | rfl); (case hu => (simp only [Value.cells]; rfl)); (case hs => (repeat (first | exact Fr.Spot.here _ _ | apply Fr.Spot.there))); (case ht => kernel_rfl); (case h1 => simp [Value.oneCell']); (case hfit => simp); intro W hF1; simp only [Fr.patch, List.take_zero, List.nil_append, List.drop, List.append_nil, List.take, List.cons_append, List.length_cons, List.length_nil, Nat.reduceAdd] at hF1; have HC1 := hF1.cells; simp only [Fr.Cells, List.length_cons, List.length_nil, Nat.reduceAdd, and_true] at HC1; clear hF HC; have HC := HC1; have hF := Aside0.mk hF1; clear hF1 HC1) | ((first | (with_reducible refine Fr.gate_alloc rfl ?_) | (with_reducible refine Fr.gate_box rfl ?_)); apply Fr.fr_box hF.out rfl; (case hrun => first | (go_simp; done) | (go_simp; rfl)); intro g W hF1; have HC1 := hF1.cells; simp only [Fr.Cells, List.length_cons, List.length_nil, Nat.reduceAdd, and_true] at HC1; clear hF HC; have HC := HC1; have hF := Aside0.mk hF1; clear hF1 HC1))
  (with_reducible refine (HCH.out _ hF.out.below).mono ?_); rintro e W ⟨rfl, hb⟩; have hF1 := hF.out.call hb; clear hb; have HC1 := hF1.cells; simp only [Fr.Cells, List.length_cons, List.length_nil, Nat.reduceAdd, and_true] at HC1; clear hF HC; have HC := HC1; have hF := Aside0.mk hF1; clear hF1 HC1
  simp only [Xe1.out, Xe2.out]
  go_wp2_with (first | ((with_reducible refine gate_store rfl ?_); apply Fr.fr_store hF.out rfl rfl rfl; (case hp => rfl); (case hx => first | (go_simp; rfl) | rfl); (case hu => (simp only [Value.cells]; rfl)); (case hs => (repeat (first | exact Fr.Spot.here _ _ | apply Fr.Spot.there))); (case ht => kernel_rfl); (case h1 => simp [Value.oneCell']); (case hfit => simp); intro W hF1; simp only [Fr.patch, List.take_zero, List.nil_append, List.drop, List.append_nil, List.take, List.cons_append, List.length_cons, List.length_nil, Nat.reduceAdd] at hF1; have HC1 := hF1.cells; simp only [Fr.Cells, List.length_cons, List.length_nil, Nat.reduceAdd, and_true] at HC1; clear hF HC; have HC := HC1; have hF := Aside0.mk hF1; clear hF1 HC1) | ((first | (with_reducible refine Fr.gate_alloc rfl ?_) | (with_reducible refine Fr.gate_box rfl ?_)); apply Fr.fr_box hF.out rfl; (case hrun => first | (go_simp; done) | (go_simp; rfl)); intro g W hF1; have HC1 := hF1.cells; simp only [Fr.Cells, List.length_cons, List.length_nil, Nat.reduceAdd, and_true] at HC1; clear hF HC; have HC := HC1; have hF := Aside0.mk hF1; clear hF1 HC1))
  have hkk := Xhkk.out
  have HTA := Aside0.mk (fun (i : Nat) (hi : i < q.ro.length) => takes_all Xcf.out Xrl.out hi)
  have XW := Aside0.mk (withR_choose Xcf.out Xrl.out)
  obtain ⟨rows, hrl, hrk, hrw⟩ := rows_of (take_C 3 HQ1.out rfl)
  have HRK := Aside0.mk hrk
  have HRW := Aside0.mk hrw
  have h4 := cfg_facts Xcf.out
  have HRP := Aside0.mk (show 0 < rows.length by rw [hrl, List.length_take]; omega)
  have HRB := Aside0.mk (show ([[Value.slice (some ⟨0, 0, none⟩) 1 1, Value.slice none 0 0]].length + rows.length) * 48 ≤ 140737488355328 by rw [hrl, List.length_take]; simp; omega)
  have hmin : (if (3 : Int) < (q.ro.length : Int) then 3 else (q.ro.length : Int)) = (rows.length : Int) := by rw [hrl, List.length_take]; split <;> omega
  have hrc : rows.length ≤ c1 := by rw [hrl, List.length_take]; have := HQ1L.out; omega
  obtain ⟨n9, hn9⟩ : ∃ n9, rows.length + 1 = n9 := ⟨_, rfl⟩
  have HLN := Aside0.mk (fun (s0 : Nat) => show ([[Value.slice (some ⟨s0, 0, none⟩) 1 1, Value.slice none 0 0]] ++ rows).length = n9 by rw [List.length_append, ← hn9]; simp; omega)
  have HRN := Aside0.mk (show n9 = (withR q).ro.length by rw [← hn9, hrl]; rfl)
  have h14 := h4
  clear hrl hrk hrw hn9 h4
  have hFb := hF
  go_loopg [33] q.ro.length (fun kq v33 w' => ∃ k : Nat, k ≤ kk ∧ q.ro.length - k ≤ kq ∧ v33 = .int .i64 k ∧ Aside0 (Fr.Frame w w' [(gb, [.slice A0 q.rs.length c0, .slice A1 q.ro.length c1, .int .i64 q.rep, .int .i64 q.beat], 53)] []))
  case atStart => exact ⟨0, Nat.zero_le _, by omega, rfl, ⟨hFb.out⟩⟩
  case round =>
    clear hF hFb HC
    obtain ⟨k, hk, hg, rfl, hF⟩ := hrel
    have HC1 := hF.out.cells
    simp only [Fr.Cells, List.length_cons, List.length_nil, Nat.reduceAdd, and_true] at HC1
    have HC := HC1
    clear HC1
    have hlti : (k : Int) < (q.ro.length : Int) := by omega
    have hta := HTA.out k (by omega)
    obtain ⟨ad, B0, d0, B1, d1, e1, a0, a1, g0, g1, g2, g3⟩ := at_T58 HQ1.out (k : Int) (by omega) hlti
    cases e1
    obtain ⟨x, hx⟩ : ∃ x, rd_T58 q.ro (k : Int) = x := ⟨_, rfl⟩
    rw [hx] at a0 a1 g0 g1 g2 g3 hta
    have HX := Aside0.mk hx
    have G3 := Aside0.mk g3
    have HA := Aside0.mk (fun W (hb : Below w.heap.size w W) => all_calls B1 d1 x.f1 A2 c2 L W (Kd.C_below G3.out hb) (Kd.C_below HQL.out hb))
    have hxl : x.f1.length ≤ 9223372036854775807 := g3.2.1
    by_cases hlt : k < kk
    · have htk : takesB L x = false := by rw [← HX.out]; exact Xno.out k hlt
      rw [htk] at hta
      clear htk
      rw [hta.1, hta.2] at HA
      clear hx g0 g1 g2 g3 hta
      rw [Int.toNat_natCast] at a0 a1
      replace a0 := (hF.out.below.cell (World.block_lt_of_cell? w _ a0)).trans a0
      replace a1 := (hF.out.below.cell (World.block_lt_of_cell? w _ a1)).trans a1
      by_cases hlast : (k : Int) = (q.ro.length : Int) - 1
      · omega
      · have hlast2 : ((k : Int) == (q.ro.length : Int) - 1) = false := by rw [beq_eq_false_iff_ne]; exact hlast
        go_wp2_with (first | ((with_reducible refine gate_store rfl ?_); apply Fr.fr_store hF.out rfl rfl rfl; (case hp => rfl); (case hx => first | (go_simp; rfl) | rfl); (case hu => (simp only [Value.cells]; rfl)); (case hs => (repeat (first | exact Fr.Spot.here _ _ | apply Fr.Spot.there))); (case ht => kernel_rfl); (case h1 => simp [Value.oneCell']); (case hfit => simp); intro W hF1; simp only [Fr.patch, List.take_zero, List.nil_append, List.drop, List.append_nil, List.take, List.cons_append, List.length_cons, List.length_nil, Nat.reduceAdd] at hF1; have HC1 := hF1.cells; simp only [Fr.Cells, List.length_cons, List.length_nil, Nat.reduceAdd, and_true] at HC1; clear hF HC; have HC := HC1; have hF := Aside0.mk hF1; clear hF1 HC1) | ((first | (with_reducible refine Fr.gate_alloc rfl ?_) | (with_reducible refine Fr.gate_box rfl ?_)); apply Fr.fr_box hF.out rfl; (case hrun => first | (go_simp; done) | (go_simp; rfl)); intro g W hF1; have HC1 := hF1.cells; simp only [Fr.Cells, List.length_cons, List.length_nil, Nat.reduceAdd, and_true] at HC1; clear hF HC; have HC := HC1; have hF := Aside0.mk hF1; clear hF1 HC1))
        (with_reducible refine (HA.out _ hF.out.below).mono ?_); rintro e W ⟨rfl, hb⟩; have hF1 := hF.out.call hb; clear hb; have HC1 := hF1.cells; simp only [Fr.Cells, List.length_cons, List.length_nil, Nat.reduceAdd, and_true] at HC1; clear hF HC; have HC := HC1; have hF := Aside0.mk hF1; clear hF1 HC1
        go_wp2_with (first | ((with_reducible refine gate_store rfl ?_); apply Fr.fr_store hF.out rfl rfl rfl; (case hp => rfl); (case hx => first | (go_simp; rfl) | rfl); (case hu => (simp only [Value.cells]; rfl)); (case hs => (repeat (first | exact Fr.Spot.here _ _ | apply Fr.Spot.there))); (case ht => kernel_rfl); (case h1 => simp [Value.oneCell']); (case hfit => simp); intro W hF1; simp only [Fr.patch, List.take_zero, List.nil_append, List.drop, List.append_nil, List.take, List.cons_append, List.length_cons, List.length_nil, Nat.reduceAdd] at hF1; have HC1 := hF1.cells; simp only [Fr.Cells, List.length_cons, List.length_nil, Nat.reduceAdd, and_true] at HC1; clear hF HC; have HC := HC1; have hF := Aside0.mk hF1; clear hF1 HC1) | ((first | (with_reducible refine Fr.gate_alloc rfl ?_) | (with_reducible refine Fr.gate_box rfl ?_)); apply Fr.fr_box hF.out rfl; (case hrun => first | (go_simp; done) | (go_simp; rfl)); intro g W hF1; have HC1 := hF1.cells; simp only [Fr.Cells, List.length_cons, List.length_nil, Nat.reduceAdd, and_true] at HC1; clear hF HC; have HC := HC1; have hF := Aside0.mk hF1; clear hF1 HC1))
        go_roundg (q.ro.length - (k + 1))
        case measure => omega
        case rel => exact ⟨k + 1, by omega, by omega, by go_num, ⟨hF.out.drop⟩⟩
    · obtain rfl : k = kk := by omega
      have htk : takesB L x = true := by rw [← HX.out]; exact Xyes.out
      rw [htk] at hta
      clear htk
      rw [hta.1, hta.2] at HA
      clear hx g0 g1 g2 g3 hta
      rw [Int.toNat_natCast] at a0 a1
      replace a0 := (hF.out.below.cell (World.block_lt_of_cell? w _ a0)).trans a0
      replace a1 := (hF.out.below.cell (World.block_lt_of_cell? w _ a1)).trans a1
      go_wp2_with (first | ((with_reducible refine gate_store rfl ?_); apply Fr.fr_store hF.out rfl rfl rfl; (case hp => rfl); (case hx => first | (go_simp; rfl) | rfl); (case hu => (simp only [Value.cells]; rfl)); (case hs => (repeat (first | exact Fr.Spot.here _ _ | apply Fr.Spot.there))); (case ht => kernel_rfl); (case h1 => simp [Value.oneCell']); (case hfit => simp); intro W hF1; simp only [Fr.patch, List.take_zero, List.nil_append, List.drop, List.append_nil, List.take, List.cons_append, List.length_cons, List.length_nil, Nat.reduceAdd] at hF1; have HC1 := hF1.cells; simp only [Fr.Cells, List.length_cons, List.length_nil, Nat.reduceAdd, and_true] at HC1; clear hF HC; have HC := HC1; have hF := Aside0.mk hF1; clear hF1 HC1) | ((first | (with_reducible refine Fr.gate_alloc rfl ?_) | (with_reducible refine Fr.gate_box rfl ?_)); apply Fr.fr_box hF.out rfl; (case hrun => first | (go_simp; done) | (go_simp; rfl)); intro g W hF1; have HC1 := hF1.cells; simp only [Fr.Cells, List.length_cons, List.length_nil, Nat.reduceAdd, and_true] at HC1; clear hF HC; have HC := HC1; have hF := Aside0.mk hF1; clear hF1 HC1))
      (with_reducible refine (HA.out _ hF.out.below).mono ?_); rintro e W ⟨rfl, hb⟩; have hF1 := hF.out.call hb; clear hb; have HC1 := hF1.cells; simp only [Fr.Cells, List.length_cons, List.length_nil, Nat.reduceAdd, and_true] at HC1; clear hF HC; have HC := HC1; have hF := Aside0.mk hF1; clear hF1 HC1
      have hgb1 : W.cell? ⟨gb, 1, none⟩ = some (.slice (some ad) q.ro.length c1) := by have := HC.2.1 1 (by decide); simpa using this
      have kgb1 := fun o o' => cell_al (cell_al hgb1 o) o'
      clear hgb1
      go_wp2_with (first | ((with_reducible refine gate_builtin (b := .append) (xs := #[.tmp 68, .tmp 75]) rfl ?_); have hX := (hF.out.alloc [.int .i64 0] 3).alloc [.slice (some ⟨W.heap.size, 0, none⟩) 1 1, .slice none 0 0] 58; simp only [World.size_alloc] at hX; obtain ⟨S0, hX2⟩ := blk_row (sz := 2) hX rfl (by simp [Value.oneCell']); refine fr_appendF (sz := 2) (.tmp 68) (.tmp 75) 51 58 (.agg #[.slice none 0 0, .slice none 0 0]) 48 (some ad) c1 rows hX2 rfl rfl Try.underlying51 (by kernel_rfl) rfl (by decide) (by omega) rfl rfl (Kd.C_below HRW.out hX2.below) HRP.out HRB.out ?_; clear hX hX2; intro v1 W2 S1 hF1; obtain ⟨s0, hs0⟩ : ∃ s0, W.heap.size = s0 := ⟨_, rfl⟩; rw [hs0] at hF1; obtain ⟨A9, c9, e9, hc9, hC9⟩ := Kd.R_reads (hF1.rowAt (r := Fr.rowR (Kd.raw 2) 58 w.heap.size v1 ([[.slice (some ⟨s0, 0, none⟩) 1 1, .slice none 0 0]] ++ rows) S1) List.mem_cons_self); subst e9; rw [HLN.out s0] at hF1 hc9 hC9 ⊢; have HF2 := Aside0.mk hF1; have HC1 := hF1.cells; simp only [Fr.Cells, List.length_cons, List.length_nil, Nat.reduceAdd, and_true] at HC1; clear hF HC; have HC := HC1; have hF := Aside0.mk hF1; clear hF1 HC1) | ((with_reducible refine gate_store rfl ?_); apply Fr.fr_store hF.out rfl rfl rfl; (case hp => rfl); (case hx => first | (go_simp; rfl) | rfl); (case hu => (simp only [Value.cells]; rfl)); (case hs => (repeat (first | exact Fr.Spot.here _ _ | apply Fr.Spot.there))); (case ht => kernel_rfl); (case h1 => simp [Value.oneCell']); (case hfit => simp); intro W hF1; simp only [Fr.patch, List.take_zero, List.nil_append, List.drop, List.append_nil, List.take, List.cons_append, List.length_cons, List.length_nil, Nat.reduceAdd] at hF1; have HC1 := hF1.cells; simp only [Fr.Cells, List.length_cons, List.length_nil, Nat.reduceAdd, and_true] at HC1; clear hF HC; have HC := HC1; have hF := Aside0.mk hF1; clear hF1 HC1) | ((first | (with_reducible refine Fr.gate_alloc rfl ?_) | (with_reducible refine Fr.gate_box rfl ?_)); apply Fr.fr_box hF.out rfl; (case hrun => first | (go_simp; done) | (go_simp; rfl)); intro g W hF1; have HC1 := hF1.cells; simp only [Fr.Cells, List.length_cons, List.length_nil, Nat.reduceAdd, and_true] at HC1; clear hF HC; have HC := HC1; have hF := Aside0.mk hF1; clear hF1 HC1))
      have hro := rowC hF.out List.mem_cons_self
      have hint : Kd.C (Kd.int .i64) _ (some ⟨s0, 0, none⟩) 1 [0] := C_blk (hF.out.blk (s0, [.int .i64 0], 3) (by repeat (first | exact List.mem_cons_self | apply List.mem_cons_of_mem))).2 ((Reps.none _ _).snoc (p := (0 : Int)) (c := [.int .i64 0]) rfl rfl) (by decide)
      have hnil : Kd.C k88 W none 0 [] := ⟨rfl, by decide, fun h => absurd h (by decide)⟩
      have hnew := k58_mk W newR (A0 := some ⟨s0, 0, none⟩) (c0 := 1) (by decide) hint (A1 := none) (c1 := 0) (by decide) hnil
      have hall : Kd.C k58 W A9 (withR q).ro.length (withR q).ro := by
        refine of_rows (rows := ([[Value.slice (some ⟨s0, 0, none⟩) 1 1, Value.slice none 0 0]] ++ rows : List (List Value))) ?_ (fun j x cs hx hcs => ?_) hro.2
        · rw [HLN.out s0, HRN.out]
        · cases j with
          | zero =>
            obtain rfl : newR = x := by simpa [withR] using hx
            obtain rfl : [.slice (some ⟨s0, 0, none⟩) 1 1, .slice none 0 0] = cs := by simpa using hcs
            exact hnew
          | succ j => exact k58.K_below hF.out.below (HRK.out j x cs (by simpa [withR] using hx) (by simpa using hcs))
      have hh := choose_calls (withR q) A0 c0 A9 c9 A2 c2 L _ (Kd.C_below HQ0.out hF.out.below) HQ0L.out hall (fun x hx => by
        rcases List.mem_cons.1 hx with rfl | hx
        · intro k hk; rw [List.mem_singleton.1 hk]; decide
        · exact HQW.out x (List.mem_of_mem_take hx)) (Kd.C_below HQL.out hF.out.below)
      rw [XW.out.1, XW.out.2, ← HRN.out] at hh
      have hh2 : Calls Try.prog 32 #[.agg #[.slice A0 q.rs.length c0, .slice A9 n9 c9, .int .i64 q.rep, .int .i64 q.beat], .slice A2 L.length c2] W _ := hh
      (with_reducible refine hh2.mono ?_)
      clear hh hh2 hall hnew hnil hint hro
      rintro e W ⟨rfl, hb⟩
      have hF1 := hF.out.call hb
      clear hb
      have HC1 := hF1.cells; simp only [Fr.Cells, List.length_cons, List.length_nil, Nat.reduceAdd, and_true] at HC1; clear hF HC; have HC := HC1; have hF := Aside0.mk hF1; clear hF1 HC1
      go_wp2_with (first | ((with_reducible refine gate_store rfl ?_); apply Fr.fr_store hF.out rfl rfl rfl; (case hp => rfl); (case hx => first | (go_simp; rfl) | rfl); (case hu => (simp only [Value.cells]; rfl)); (case hs => (repeat (first | exact Fr.Spot.here _ _ | apply Fr.Spot.there))); (case ht => kernel_rfl); (case h1 => simp [Value.oneCell']); (case hfit => simp); intro W hF1; simp only [Fr.patch, List.take_zero, List.nil_append, List.drop, List.append_nil, List.take, List.cons_append, List.length_cons, List.length_nil, Nat.reduceAdd] at hF1; have HC1 := hF1.cells; simp only [Fr.Cells, List.length_cons, List.length_nil, Nat.reduceAdd, and_true] at HC1; clear hF HC; have HC := HC1; have hF := Aside0.mk hF1; clear hF1 HC1) | ((first | (with_reducible refine Fr.gate_alloc rfl ?_) | (with_reducible refine Fr.gate_box rfl ?_)); apply Fr.fr_box hF.out rfl; (case hrun => first | (go_simp; done) | (go_simp; rfl)); intro g W hF1; have HC1 := hF1.cells; simp only [Fr.Cells, List.length_cons, List.length_nil, Nat.reduceAdd, and_true] at HC1; clear hF HC; have HC := HC1; have hF := Aside0.mk hF1; clear hF1 HC1))
      (with_reducible refine (alive33_calls _).mono ?_); rintro e W ⟨rfl, hb⟩; have hF1 := hF.out.call hb; clear hb; have HC1 := hF1.cells; simp only [Fr.Cells, List.length_cons, List.length_nil, Nat.reduceAdd, and_true] at HC1; clear hF HC; have HC := HC1; have hF := Aside0.mk hF1; clear hF1 HC1
      go_wp2_with (first | ((with_reducible refine gate_store rfl ?_); apply Fr.fr_store hF.out rfl rfl rfl; (case hp => rfl); (case hx => first | (go_simp; rfl) | rfl); (case hu => (simp only [Value.cells]; rfl)); (case hs => (repeat (first | exact Fr.Spot.here _ _ | apply Fr.Spot.there))); (case ht => kernel_rfl); (case h1 => simp [Value.oneCell']); (case hfit => simp); intro W hF1; simp only [Fr.patch, List.take_zero, List.nil_append, List.drop, List.append_nil, List.take, List.cons_append, List.length_cons, List.length_nil, Nat.reduceAdd] at hF1; have HC1 := hF1.cells; simp only [Fr.Cells, List.length_cons, List.length_nil, Nat.reduceAdd, and_true] at HC1; clear hF HC; have HC := HC1; have hF := Aside0.mk hF1; clear hF1 HC1) | ((first | (with_reducible refine Fr.gate_alloc rfl ?_) | (with_reducible refine Fr.gate_box rfl ?_)); apply Fr.fr_box hF.out rfl; (case hrun => first | (go_simp; done) | (go_simp; rfl)); intro g W hF1; have HC1 := hF1.cells; simp only [Fr.Cells, List.length_cons, List.length_nil, Nat.reduceAdd, and_true] at HC1; clear hF HC; have HC := HC1; have hF := Aside0.mk hF1; clear hF1 HC1))
      go_ret
      exact ⟨rfl, hF.out.below⟩
theorem first_none {L : List S92} {ro : List S58} (h : takeI ro L = -1) : ∀ i : Nat, i < ro.length → takesB L (rd_T58 ro (i : Nat)) = false := by
  intro i hi
  unfold takeI idxP at h
  cases e : ro.findIdx? (takesB L) with
  | none => rw [rd_get58 ro i hi]; exact List.findIdx?_eq_none_iff.1 e _ (List.getElem_mem _)
  | some k => rw [e] at h; simp at h
theorem first_some {L : List S92} {ro : List S58} {k : Nat} (h : takeI ro L = (k : Int)) : k < ro.length ∧ (∀ i : Nat, i < k → takesB L (rd_T58 ro (i : Nat)) = false) ∧ takesB L (rd_T58 ro (k : Nat)) = true := by
  unfold takeI idxP at h
  cases e : ro.findIdx? (takesB L) with
  | none => rw [e] at h; simp at h
  | some j =>
    rw [e] at h
    obtain rfl : j = k := by have h' : (j : Int) = k := h; omega
    obtain ⟨h1, h2, h3⟩ := List.findIdx?_eq_some_iff_getElem.1 e
    refine ⟨h1, fun i hi => ?_, by rw [rd_get58 ro j h1]; exact h2⟩
    rw [rd_get58 ro i (by omega)]
    have := h3 i hi
    simpa using this
theorem RouteFirst (c : Cf) (A0 : Option Addr) (c0 : Nat) (A1 : Option Addr) (c1 : Nat) (A2 : Option Addr) (c2 : Nat) (l : List S92) (w : World) (hr0 : Kd.C k76 w A0 c.rs.length c.rs) (hl0 : c.rs.length ≤ c0) (hr1 : Kd.C k58 w A1 c.ro.length c.ro) (hl1 : c.ro.length ≤ c1) (hr2 : Kd.C k92 w A2 l.length l) (hl2 : l.length ≤ c2) (hwf : ∀ x ∈ c.ro, WfR x) :
    Calls Try.prog 7 #[.agg #[.slice A0 c.rs.length c0, .slice A1 c.ro.length c1, .int .i64 c.rep, .int .i64 c.beat], .slice A2 l.length c2] w fun e w' => e = .returned (.bool true) ∧ Below w.heap.size w w' := by
  obtain ⟨q, hq⟩ : ∃ q, cutC c = q := ⟨_, rfl⟩
  obtain ⟨L, hL⟩ : ∃ L, l.take 5 = L := ⟨_, rfl⟩
  cases h1 : cfgB q with
  | false =>
    have hb := choose_bad (c := q) (l := L) (by rw [h1]; rfl)
    exact rfirst_0 c A0 c0 A1 c1 A2 c2 l w hr0 hl0 hr1 hl1 hr2 hl2 hwf q hq L hL hb.1 hb.2
  | true =>
    cases hR : rightB L with
    | false =>
      have hb := choose_bad (c := q) (l := L) (by rw [hR, Bool.and_false])
      exact rfirst_0 c A0 c0 A1 c1 A2 c2 l w hr0 hl0 hr1 hl1 hr2 hl2 hwf q hq L hL hb.1 hb.2
    | true =>
      have hk : takeI q.ro L = -1 ∨ ∃ kk : Nat, takeI q.ro L = kk := by
        unfold takeI idxP
        cases q.ro.findIdx? (takesB L) with
        | none => exact .inl rfl
        | some k => exact .inr ⟨k, rfl⟩
      rcases hk with hk | ⟨kk, hk⟩
      · have hb := choose_none h1 hR hk
        exact rfirst_n c A0 c0 A1 c1 A2 c2 l w hr0 hl0 hr1 hl1 hr2 hl2 hwf q hq L hL hb.1 hb.2 h1 hR (first_none hk)
      · have hb := choose_some h1 hR hk
        have hf := first_some hk
        exact rfirst_k c A0 c0 A1 c1 A2 c2 l w hr0 hl0 hr1 hl1 hr2 hl2 hwf q hq L hL kk hf.1 hb.1 hb.2 h1 hR hf.2.1 hf.2.2
theorem RouteFirstR {P1 : Prop} (A0 : Option Addr) (c0 : Nat) (l0 : List S76) (A1 : Option Addr) (c1 : Nat) (l1 : List S58) (rep beat : Int) (A2 : Option Addr) (c2 : Nat) (l : List S92) (w : World) (hr0 : Kd.C k76 w A0 l0.length l0) (hl0 : l0.length ≤ c0) (hr1 : Kd.C k58 w A1 l1.length l1) (hl1 : l1.length ≤ c1) (hr2 : Kd.C k92 w A2 l.length l) (hl2 : l.length ≤ c2)
    (w0 : WCf l0 l1 rep beat) (w1 : P1) :
    Calls Try.prog 7 #[.agg #[.slice A0 l0.length c0, .slice A1 l1.length c1, .int .i64 rep, .int .i64 beat], .slice A2 l.length c2] w fun e w' => e = .returned (.bool true) ∧ Below w.heap.size w w' :=
  RouteFirst ⟨l0, l1, rep, beat⟩ A0 c0 A1 c1 A2 c2 l w hr0 hl0 hr1 hl1 hr2 hl2 w0.ok.2
end Go.Proofs.Ytkphinfijppkeaa.G
