/- Contracts of functions of the given program, and what they come to, for any arguments. No condition beyond each theorem's own premises. -/
import Derived.Test.YtkphinfijppkeaaXRouteTellsM10
namespace Go.Proofs.Ytkphinfijppkeaa.G
open Go.RowKit Go.Proofs.YtkphinfijppkeaaW.PrintWords Go.Proofs.YtkphinfijppkeaaW.PrintLast Go.Proofs.YtkphinfijppkeaaW.PrintMore
attribute [local go_sem] max2_int min2_int max_two min_two max_three min_three max_four min_four
set_option linter.unusedVariables false
set_option linter.unusedSimpArgs false
theorem route_kinds {n : Int} {x : S58} (h : routeB n x = true) : x.f1.length ≤ 1000 ∧ (∀ m ∈ x.f1, matcherB m = true) ∧ ∀ m ∈ x.f1, 0 ≤ m.f0 ∧ m.f0 ≤ 3 := by
  unfold routeB at h
  simp only [Bool.and_eq_true, decide_eq_true_eq] at h
  have hm := List.all_eq_true.1 h.2.2.2.2
  refine ⟨by omega, hm, fun m hx => ?_⟩
  have := hm m hx
  unfold matcherB at this
  simp only [Bool.and_eq_true, decide_eq_true_eq] at this
  exact ⟨this.1, this.2.1⟩
theorem cfg_routes {c : Cf} (h : cfgB c = true) : ∀ x ∈ c.ro, routeB c.rs.length x = true := by
  unfold cfgB at h
  simp only [Bool.and_eq_true] at h
  exact List.all_eq_true.1 h.2.1
theorem takes_is {n : Int} {x : S58} {L : List S92} (hR : rightB L = true) (h : routeB n x = true) : takesB L x = x.f1.all fun m => matchB m L := by
  have hm := (route_kinds h).2.1
  unfold takesB
  rw [Bool.eq_iff_iff, List.all_eq_true, List.all_eq_true]
  constructor
  · intro k m hx
    have := k m hx
    rwa [allV_one hR (hm m hx)] at this
  · intro k m hx
    rw [allV_one hR (hm m hx)]
    exact k m hx
theorem choose_e0 (c : Cf) (L : List S92) (hc : cfgB c = true) (hR : rightB L = true) (hL : L.length ≤ 1000) (hz : c.ro.length ≤ M63) : ∀ (d i : Nat), i + d = c.ro.length → (∀ j : Nat, j < i → takesB L (rd_T58 c.ro (j : Nat)) = false) → Ev (fun k => foghornref15_Choose.l0 k L c.ro (c.ro.length : Int) (i : Int)) (takeI c.ro L)
  | 0, i, hd, ha => by
    refine Ev.step (f := fun _ => some (takeI c.ro L)) (fun k => ?_) (Ev.now _)
    rw [foghornref15_Choose.l0, if_neg (by omega)]
    unfold takeI
    rw [← idxR_miss58 (takesB L) c.ro (fun j hj => ha j (by omega))]
  | d + 1, i, hd, ha => by
    have hi : i < c.ro.length := by omega
    have hx := cfg_routes hc _ (List.getElem_mem hi)
    rw [← rd_get58 c.ro i hi] at hx
    have hk := route_kinds hx
    refine Ev.step (f := fun k => (foghornref10_All.f k (rd_T58 c.ro (i : Nat)).f1 L).bind fun t => if t = true then some ((i : Nat) : Int) else foghornref15_Choose.l0 k L c.ro (c.ro.length : Int) ((i + 1 : Nat) : Int)) (fun k => ?_) ?_
    · rw [foghornref15_Choose.l0, if_pos (by omega), if_pos (by omega), if_pos (by omega), w64n (by omega)]
    · refine Ev.bind (a := takesB L (rd_T58 c.ro (i : Nat))) ⟨2003, fun k hk2 => ?_⟩ ?_
      · exact (all_ref _ hk.1 hk.2.2 L hL k (by omega)).trans (by rw [takes_is hR hx])
      · cases h : takesB L (rd_T58 c.ro (i : Nat)) with
        | true =>
          unfold takeI
          rw [← idxR_hit58 (takesB L) c.ro i hi ha h]
          exact Ev.now _
        | false =>
          refine choose_e0 c L hc hR hL hz d (i + 1) (by omega) (fun j hj => ?_)
          by_cases e : j = i
          · subst e; exact h
          · exact ha j (by omega)
theorem choose_ev (c : Cf) (L : List S92) (hc : cfgB c = true) (hR : rightB L = true) (hL : L.length ≤ 1000) (hz : c.ro.length ≤ M63) : Ev (fun k => foghornref15_Choose.f k c.rs c.ro c.rep c.beat L) (takeI c.ro L) :=
  choose_e0 c L hc hR hL hz c.ro.length 0 (by omega) (fun j hj => absurd hj (Nat.not_lt_zero _))
theorem has_is (c : Cf) (i p : Int) : foghornref15_Has.f c.rs c.ro c.rep c.beat i p = some (hasB c i p) := by
  unfold foghornref15_Has.f hasB
  by_cases h1 : i ≥ 0
  · rw [if_pos h1, decide_eq_true (show 0 ≤ i by omega)]
    by_cases h2 : i < (c.ro.length : Int)
    · rw [if_pos h2, decide_eq_true h2]
      by_cases h3 : p ≥ 0
      · rw [if_pos h3, if_pos (by omega), decide_eq_true (show 0 ≤ p by omega)]; rfl
      · rw [if_neg h3, decide_eq_false (show ¬ 0 ≤ p by omega)]; rfl
    · rw [if_neg h2, decide_eq_false h2]; rfl
  · rw [if_neg h1, decide_eq_false (show ¬ 0 ≤ i by omega)]; rfl
theorem after_is (c : Cf) (i p : Int) (h : chainE c i p = 0) (hz : (rd_T58 c.ro i).f0.length ≤ M63) : foghornref15_After.f c.rs c.ro c.rep c.beat i p = some (afterV c i p) := by
  obtain ⟨_, h1, h2, h3, h4⟩ := chain_facts h
  unfold foghornref15_After.f afterV
  rw [if_pos h1, if_pos h2, if_pos h, w64' (by omega) (by simp only [M63] at hz; omega)]
  by_cases he : p + 1 = ((rd_T58 c.ro i).f0.length : Int)
  · rw [if_pos he, he, Int.emod_self]
  · rw [if_neg he, Int.emod_eq_of_lt (by omega) (by omega)]
theorem take_C {α : Type} {d : Kd α} {w : World} {A : Option Addr} {l L : List α} (n : Nat) (hr : Kd.C d w A l.length l) (hL : l.take n = L) : Kd.C d w A L.length L := by
  have h := Kd.C_take (m := min n l.length) hr (by omega)
  have e : l.take (min n l.length) = L := by
    rw [← hL]
    rcases Nat.le_total l.length n with h | h
    · rw [Nat.min_eq_right h, List.take_length, List.take_of_length_le h]
    · rw [Nat.min_eq_left h]
  rwa [e] at h
set_option maxHeartbeats 8000000 in
set_option maxRecDepth 100000 in
theorem rtells_0 (c : Cf) (A0 : Option Addr) (c0 : Nat) (A1 : Option Addr) (c1 : Nat) (A2 : Option Addr) (c2 : Nat) (l : List S92) (i p : Int) (w : World) (hr0 : Kd.C k76 w A0 c.rs.length c.rs) (hl0 : c.rs.length ≤ c0) (hr1 : Kd.C k58 w A1 c.ro.length c.ro) (hl1 : c.ro.length ≤ c1) (hr2 : Kd.C k92 w A2 l.length l) (hl2 : l.length ≤ c2) (hwf : ∀ x ∈ c.ro, WfR x)
    (q : Cf) (hq : cutC c = q) (L : List S92) (hL : l.take 5 = L) (K : Nat) (e2 : chooseE q L = 1) (e1 : chooseV q L = 0) (e4 : chainE q i p = 1) (e3 : recvV q i p = 0) (e5 : afterV q i p = 0) (r1 : foghornref13_Right.f K q.rs q.ro q.rep q.beat = some false)  :
    Calls Try.prog 8 #[.agg #[.slice A0 c.rs.length c0, .slice A1 c.ro.length c1, .int .i64 c.rep, .int .i64 c.beat], .slice A2 l.length c2, .int .i64 i, .int .i64 p] w fun e w' => e = .returned (.bool true) ∧ Below w.heap.size w w' := by
  have hm0 := hr0.2.1
  have hm1 := hr1.2.1
  have hm2 := hr2.2.1
  have hq0 : Kd.C k76 w A0 q.rs.length q.rs := take_C 6 hr0 (by rw [← hq]; rfl)
  have hq1 : Kd.C k58 w A1 q.ro.length q.ro := take_C 6 hr1 (by rw [← hq]; rfl)
  have hqL : Kd.C k92 w A2 L.length L := take_C 5 hr2 hL
  have hq0l : q.rs.length ≤ c0 := by rw [← hq]; have := List.length_take_le 6 c.rs; show (c.rs.take 6).length ≤ c0; rw [List.length_take]; omega
  have hq1l : q.ro.length ≤ c1 := by rw [← hq]; show (c.ro.take 6).length ≤ c1; rw [List.length_take]; omega
  have hqLl : L.length ≤ c2 := by rw [← hL]; rw [List.length_take]; omega
  have hqwf : ∀ x ∈ q.ro, WfR x := fun x hx => hwf x (by rw [← hq] at hx; exact List.mem_of_mem_take hx)
  have H30 := Aside0.mk (fun W => few_calls 30 (.inl rfl) c A0 c0 A1 c1 W hl0 hl1 hm0 hm1)
  rw [hq] at H30
  have H31 := Aside0.mk (fun W => some31 A2 c2 l W hl2 hm2)
  rw [hL] at H31
  have HCH := Aside0.mk (fun W (hb : Below w.heap.size w W) => choose_calls q A0 c0 A1 c1 A2 c2 L W (Kd.C_below hq0 hb) hq0l (Kd.C_below hq1 hb) hqwf (Kd.C_below hqL hb))
  have HRV := Aside0.mk (fun W (hb : Below w.heap.size w W) => receiver_calls q A0 c0 A1 c1 i p W (Kd.C_below hq0 hb) hq0l (Kd.C_below hq1 hb) hqwf)
  have HAF := Aside0.mk (fun W (hb : Below w.heap.size w W) => after_calls q A0 c0 A1 c1 i p W (Kd.C_below hq0 hb) hq0l (Kd.C_below hq1 hb) hqwf)
  have HQ0 := Aside0.mk hq0
  have HQ1 := Aside0.mk hq1
  have HQL := Aside0.mk hqL
  have HQ0L := Aside0.mk hq0l
  have HQ1L := Aside0.mk hq1l
  have HQLL := Aside0.mk hqLl
  have Xe1 := Aside0.mk e1
  have Xe2 := Aside0.mk e2
  have Xe3 := Aside0.mk e3
  have Xe4 := Aside0.mk e4
  have Xe5 := Aside0.mk e5
  have Xr1 := Aside0.mk r1
  clear hr0 hl0 hr1 hl1 hr2 hl2 hwf hq hL hm0 hm1 hm2 hq0 hq1 hqL hq0l hq1l hqLl hqwf e1 e2 e3 e4 e5 r1
  have hF := Aside0.mk (Fr.Frame.start w)
  have HC : True := trivial
  go_enter Try.func8, Try.ntmps8
  go_wp2_with (first | ((with_reducible refine gate_store rfl ?_); apply Fr.fr_store hF.out rfl rfl rfl; (case hp => rfl); (case hx => first | (go_simp; rfl) | rfl); (case hu => (simp only [Value.cells]; rfl)); (case hs => (repeat (first | exact Fr.Spot.here _ _ | apply Fr.Spot.there))); (case ht => kernel_rfl); (case h1 => simp [Value.oneCell']); (case hfit => simp); intro W hF1; simp only [Fr.patch, List.take_zero, List.nil_append, List.drop, List.append_nil, List.take, List.cons_append, List.length_cons, List.length_nil, Nat.reduceAdd] at hF1; have HC1 := hF1.cells; simp only [Fr.Cells, List.length_cons, List.length_nil, Nat.reduceAdd, and_true] at HC1; clear hF HC; have HC := HC1; have hF := Aside0.mk hF1; clear hF1 HC1) | ((first | (with_reducible refine Fr.gate_alloc rfl ?_) | (with_reducible refine Fr.gate_box rfl ?_)); apply Fr.fr_box hF.out rfl; (case hrun => first | (go_simp; done) | (go_simp; rfl)); intro g W hF1; have HC1 := hF1.cells; simp only [Fr.Cells, List.length_cons, List.length_nil, Nat.reduceAdd, and_true] at HC1; clear hF HC; have HC := HC1; have hF := Aside0.mk hF1; clear hF1 HC1))
  (with_reducible refine (H30.out _).mono ?_); rintro e W ⟨rfl, hb⟩; have hF1 := hF.out.call hb; clear hb; have HC1 := hF1.cells; simp only [Fr.Cells, List.length_cons, List.length_nil, Nat.reduceAdd, and_true] at HC1; clear hF HC; have HC := HC1; have hF := Aside0.mk hF1; clear hF1 HC1
  go_wp2_with (first | ((with_reducible refine gate_store rfl ?_); apply Fr.fr_store hF.out rfl rfl rfl; (case hp => rfl); (case hx => first | (go_simp; rfl) | rfl); (case hu => (simp only [Value.cells]; rfl)); (case hs => (repeat (first | exact Fr.Spot.here _ _ | apply Fr.Spot.there))); (case ht => kernel_rfl); (case h1 => simp [Value.oneCell']); (case hfit => simp); intro W hF1; simp only [Fr.patch, List.take_zero, List.nil_append, List.drop, List.append_nil, List.take, List.cons_append, List.length_cons, List.length_nil, Nat.reduceAdd] at hF1; have HC1 := hF1.cells; simp only [Fr.Cells, List.length_cons, List.length_nil, Nat.reduceAdd, and_true] at HC1; clear hF HC; have HC := HC1; have hF := Aside0.mk hF1; clear hF1 HC1) | ((first | (with_reducible refine Fr.gate_alloc rfl ?_) | (with_reducible refine Fr.gate_box rfl ?_)); apply Fr.fr_box hF.out rfl; (case hrun => first | (go_simp; done) | (go_simp; rfl)); intro g W hF1; have HC1 := hF1.cells; simp only [Fr.Cells, List.length_cons, List.length_nil, Nat.reduceAdd, and_true] at HC1; clear hF HC; have HC := HC1; have hF := Aside0.mk hF1; clear hF1 HC1))
  (with_reducible refine (H31.out _).mono ?_)
  rintro e W' ⟨rfl, rfl⟩
  iterate 6 (go_wp2_with (first | ((with_reducible refine gate_store rfl ?_); apply Fr.fr_store hF.out rfl rfl rfl; (case hp => rfl); (case hx => first | (go_simp; rfl) | rfl); (case hu => (simp only [Value.cells]; rfl)); (case hs => (repeat (first | exact Fr.Spot.here _ _ | apply Fr.Spot.there))); (case ht => kernel_rfl); (case h1 => simp [Value.oneCell']); (case hfit => simp); intro W hF1; simp only [Fr.patch, List.take_zero, List.nil_append, List.drop, List.append_nil, List.take, List.cons_append, List.length_cons, List.length_nil, Nat.reduceAdd] at hF1; have HC1 := hF1.cells; simp only [Fr.Cells, List.length_cons, List.length_nil, Nat.reduceAdd, and_true] at HC1; clear hF HC; have HC := HC1; have hF := Aside0.mk hF1; clear hF1 HC1) | ((first | (with_reducible refine Fr.gate_alloc rfl ?_) | (with_reducible refine Fr.gate_box rfl ?_)); apply Fr.fr_box hF.out rfl; (case hrun => first | (go_simp; done) | (go_simp; rfl)); intro g W hF1; have HC1 := hF1.cells; simp only [Fr.Cells, List.length_cons, List.length_nil, Nat.reduceAdd, and_true] at HC1; clear hF HC; have HC := HC1; have hF := Aside0.mk hF1; clear hF1 HC1)); try ((first | ((with_reducible refine (HCH.out _ hF.out.below).mono ?_); rintro e W ⟨rfl, hb⟩; have hF1 := hF.out.call hb; clear hb; simp only [Xe1.out, Xe2.out]) | ((with_reducible refine (HRV.out _ hF.out.below).mono ?_); rintro e W ⟨rfl, hb⟩; have hF1 := hF.out.call hb; clear hb; simp only [Xe3.out, Xe4.out]) | ((with_reducible refine (HAF.out _ hF.out.below).mono ?_); rintro e W ⟨rfl, hb⟩; have hF1 := hF.out.call hb; clear hb; simp only [Xe5.out, Xe4.out]) | ((with_reducible refine (alive33_calls _).mono ?_); rintro e W ⟨rfl, hb⟩; have hF1 := hF.out.call hb; clear hb) | ((with_reducible refine (foghornref13_Right.calls K A0 c0 q.rs A1 c1 q.ro q.rep q.beat _ _ (Kd.C_below HQ0.out hF.out.below) HQ0L.out (Kd.C_below HQ1.out hF.out.below) HQ1L.out Xr1.out).mono ?_); rintro e W ⟨rfl, hb⟩; have hF1 := hF.out.call hb; clear hb)); have HC1 := hF1.cells; simp only [Fr.Cells, List.length_cons, List.length_nil, Nat.reduceAdd, and_true] at HC1; clear hF HC; have HC := HC1; have hF := Aside0.mk hF1; clear hF1 HC1))
  go_ret
  exact ⟨rfl, hF.out.below⟩
set_option maxHeartbeats 8000000 in
set_option maxRecDepth 100000 in
theorem rtells_a3 (c : Cf) (A0 : Option Addr) (c0 : Nat) (A1 : Option Addr) (c1 : Nat) (A2 : Option Addr) (c2 : Nat) (l : List S92) (i p : Int) (w : World) (hr0 : Kd.C k76 w A0 c.rs.length c.rs) (hl0 : c.rs.length ≤ c0) (hr1 : Kd.C k58 w A1 c.ro.length c.ro) (hl1 : c.ro.length ≤ c1) (hr2 : Kd.C k92 w A2 l.length l) (hl2 : l.length ≤ c2) (hwf : ∀ x ∈ c.ro, WfR x)
    (q : Cf) (hq : cutC c = q) (L : List S92) (hL : l.take 5 = L) (K : Nat) (e2 : chooseE q L = 1) (e1 : chooseV q L = 0) (e4 : chainE q i p = 3) (e3 : recvV q i p = 0) (e5 : afterV q i p = 0) (r1 : foghornref13_Right.f K q.rs q.ro q.rep q.beat = some true) (r2 : foghornref10_Right.f K L = some false) (r4 : foghornref15_Has.f q.rs q.ro q.rep q.beat i p = some false)  :
    Calls Try.prog 8 #[.agg #[.slice A0 c.rs.length c0, .slice A1 c.ro.length c1, .int .i64 c.rep, .int .i64 c.beat], .slice A2 l.length c2, .int .i64 i, .int .i64 p] w fun e w' => e = .returned (.bool true) ∧ Below w.heap.size w w' := by
  have hm0 := hr0.2.1
  have hm1 := hr1.2.1
  have hm2 := hr2.2.1
  have hq0 : Kd.C k76 w A0 q.rs.length q.rs := take_C 6 hr0 (by rw [← hq]; rfl)
  have hq1 : Kd.C k58 w A1 q.ro.length q.ro := take_C 6 hr1 (by rw [← hq]; rfl)
  have hqL : Kd.C k92 w A2 L.length L := take_C 5 hr2 hL
  have hq0l : q.rs.length ≤ c0 := by rw [← hq]; have := List.length_take_le 6 c.rs; show (c.rs.take 6).length ≤ c0; rw [List.length_take]; omega
  have hq1l : q.ro.length ≤ c1 := by rw [← hq]; show (c.ro.take 6).length ≤ c1; rw [List.length_take]; omega
  have hqLl : L.length ≤ c2 := by rw [← hL]; rw [List.length_take]; omega
  have hqwf : ∀ x ∈ q.ro, WfR x := fun x hx => hwf x (by rw [← hq] at hx; exact List.mem_of_mem_take hx)
  have H30 := Aside0.mk (fun W => few_calls 30 (.inl rfl) c A0 c0 A1 c1 W hl0 hl1 hm0 hm1)
  rw [hq] at H30
  have H31 := Aside0.mk (fun W => some31 A2 c2 l W hl2 hm2)
  rw [hL] at H31
  have HCH := Aside0.mk (fun W (hb : Below w.heap.size w W) => choose_calls q A0 c0 A1 c1 A2 c2 L W (Kd.C_below hq0 hb) hq0l (Kd.C_below hq1 hb) hqwf (Kd.C_below hqL hb))
  have HRV := Aside0.mk (fun W (hb : Below w.heap.size w W) => receiver_calls q A0 c0 A1 c1 i p W (Kd.C_below hq0 hb) hq0l (Kd.C_below hq1 hb) hqwf)
  have HAF := Aside0.mk (fun W (hb : Below w.heap.size w W) => after_calls q A0 c0 A1 c1 i p W (Kd.C_below hq0 hb) hq0l (Kd.C_below hq1 hb) hqwf)
  have HQ0 := Aside0.mk hq0
  have HQ1 := Aside0.mk hq1
  have HQL := Aside0.mk hqL
  have HQ0L := Aside0.mk hq0l
  have HQ1L := Aside0.mk hq1l
  have HQLL := Aside0.mk hqLl
  have Xe1 := Aside0.mk e1
  have Xe2 := Aside0.mk e2
  have Xe3 := Aside0.mk e3
  have Xe4 := Aside0.mk e4
  have Xe5 := Aside0.mk e5
  have Xr1 := Aside0.mk r1
  have Xr2 := Aside0.mk r2
  have Xr4 := Aside0.mk r4
  clear hr0 hl0 hr1 hl1 hr2 hl2 hwf hq hL hm0 hm1 hm2 hq0 hq1 hqL hq0l hq1l hqLl hqwf e1 e2 e3 e4 e5 r1 r2 r4
  have hF := Aside0.mk (Fr.Frame.start w)
  have HC : True := trivial
  go_enter Try.func8, Try.ntmps8
  go_wp2_with (first | ((with_reducible refine gate_store rfl ?_); apply Fr.fr_store hF.out rfl rfl rfl; (case hp => rfl); (case hx => first | (go_simp; rfl) | rfl); (case hu => (simp only [Value.cells]; rfl)); (case hs => (repeat (first | exact Fr.Spot.here _ _ | apply Fr.Spot.there))); (case ht => kernel_rfl); (case h1 => simp [Value.oneCell']); (case hfit => simp); intro W hF1; simp only [Fr.patch, List.take_zero, List.nil_append, List.drop, List.append_nil, List.take, List.cons_append, List.length_cons, List.length_nil, Nat.reduceAdd] at hF1; have HC1 := hF1.cells; simp only [Fr.Cells, List.length_cons, List.length_nil, Nat.reduceAdd, and_true] at HC1; clear hF HC; have HC := HC1; have hF := Aside0.mk hF1; clear hF1 HC1) | ((first | (with_reducible refine Fr.gate_alloc rfl ?_) | (with_reducible refine Fr.gate_box rfl ?_)); apply Fr.fr_box hF.out rfl; (case hrun => first | (go_simp; done) | (go_simp; rfl)); intro g W hF1; have HC1 := hF1.cells; simp only [Fr.Cells, List.length_cons, List.length_nil, Nat.reduceAdd, and_true] at HC1; clear hF HC; have HC := HC1; have hF := Aside0.mk hF1; clear hF1 HC1))
  (with_reducible refine (H30.out _).mono ?_); rintro e W ⟨rfl, hb⟩; have hF1 := hF.out.call hb; clear hb; have HC1 := hF1.cells; simp only [Fr.Cells, List.length_cons, List.length_nil, Nat.reduceAdd, and_true] at HC1; clear hF HC; have HC := HC1; have hF := Aside0.mk hF1; clear hF1 HC1
  go_wp2_with (first | ((with_reducible refine gate_store rfl ?_); apply Fr.fr_store hF.out rfl rfl rfl; (case hp => rfl); (case hx => first | (go_simp; rfl) | rfl); (case hu => (simp only [Value.cells]; rfl)); (case hs => (repeat (first | exact Fr.Spot.here _ _ | apply Fr.Spot.there))); (case ht => kernel_rfl); (case h1 => simp [Value.oneCell']); (case hfit => simp); intro W hF1; simp only [Fr.patch, List.take_zero, List.nil_append, List.drop, List.append_nil, List.take, List.cons_append, List.length_cons, List.length_nil, Nat.reduceAdd] at hF1; have HC1 := hF1.cells; simp only [Fr.Cells, List.length_cons, List.length_nil, Nat.reduceAdd, and_true] at HC1; clear hF HC; have HC := HC1; have hF := Aside0.mk hF1; clear hF1 HC1) | ((first | (with_reducible refine Fr.gate_alloc rfl ?_) | (with_reducible refine Fr.gate_box rfl ?_)); apply Fr.fr_box hF.out rfl; (case hrun => first | (go_simp; done) | (go_simp; rfl)); intro g W hF1; have HC1 := hF1.cells; simp only [Fr.Cells, List.length_cons, List.length_nil, Nat.reduceAdd, and_true] at HC1; clear hF HC; have HC := HC1; have hF := Aside0.mk hF1; clear hF1 HC1))
  (with_reducible refine (H31.out _).mono ?_)
  rintro e W' ⟨rfl, rfl⟩
  iterate 8 (go_wp2_with (first | ((with_reducible refine gate_store rfl ?_); apply Fr.fr_store hF.out rfl rfl rfl; (case hp => rfl); (case hx => first | (go_simp; rfl) | rfl); (case hu => (simp only [Value.cells]; rfl)); (case hs => (repeat (first | exact Fr.Spot.here _ _ | apply Fr.Spot.there))); (case ht => kernel_rfl); (case h1 => simp [Value.oneCell']); (case hfit => simp); intro W hF1; simp only [Fr.patch, List.take_zero, List.nil_append, List.drop, List.append_nil, List.take, List.cons_append, List.length_cons, List.length_nil, Nat.reduceAdd] at hF1; have HC1 := hF1.cells; simp only [Fr.Cells, List.length_cons, List.length_nil, Nat.reduceAdd, and_true] at HC1; clear hF HC; have HC := HC1; have hF := Aside0.mk hF1; clear hF1 HC1) | ((first | (with_reducible refine Fr.gate_alloc rfl ?_) | (with_reducible refine Fr.gate_box rfl ?_)); apply Fr.fr_box hF.out rfl; (case hrun => first | (go_simp; done) | (go_simp; rfl)); intro g W hF1; have HC1 := hF1.cells; simp only [Fr.Cells, List.length_cons, List.length_nil, Nat.reduceAdd, and_true] at HC1; clear hF HC; have HC := HC1; have hF := Aside0.mk hF1; clear hF1 HC1)); try ((first | ((with_reducible refine (HCH.out _ hF.out.below).mono ?_); rintro e W ⟨rfl, hb⟩; have hF1 := hF.out.call hb; clear hb; simp only [Xe1.out, Xe2.out]) | ((with_reducible refine (HRV.out _ hF.out.below).mono ?_); rintro e W ⟨rfl, hb⟩; have hF1 := hF.out.call hb; clear hb; simp only [Xe3.out, Xe4.out]) | ((with_reducible refine (HAF.out _ hF.out.below).mono ?_); rintro e W ⟨rfl, hb⟩; have hF1 := hF.out.call hb; clear hb; simp only [Xe5.out, Xe4.out]) | ((with_reducible refine (alive33_calls _).mono ?_); rintro e W ⟨rfl, hb⟩; have hF1 := hF.out.call hb; clear hb) | ((with_reducible refine (foghornref13_Right.calls K A0 c0 q.rs A1 c1 q.ro q.rep q.beat _ _ (Kd.C_below HQ0.out hF.out.below) HQ0L.out (Kd.C_below HQ1.out hF.out.below) HQ1L.out Xr1.out).mono ?_); rintro e W ⟨rfl, hb⟩; have hF1 := hF.out.call hb; clear hb) | ((with_reducible refine (foghornref10_Right.calls K A2 c2 L _ _ (Kd.C_below HQL.out hF.out.below) HQLL.out Xr2.out).mono ?_); rintro e W ⟨rfl, hb⟩; have hF1 := hF.out.call hb; clear hb) | ((with_reducible refine (foghornref15_Has.calls A0 c0 q.rs A1 c1 q.ro q.rep q.beat i p _ _ (Kd.C_below HQ0.out hF.out.below) HQ0L.out (Kd.C_below HQ1.out hF.out.below) HQ1L.out Xr4.out).mono ?_); rintro e W ⟨rfl, hb⟩; have hF1 := hF.out.call hb; clear hb)); have HC1 := hF1.cells; simp only [Fr.Cells, List.length_cons, List.length_nil, Nat.reduceAdd, and_true] at HC1; clear hF HC; have HC := HC1; have hF := Aside0.mk hF1; clear hF1 HC1))
  go_ret
  exact ⟨rfl, hF.out.below⟩
set_option maxHeartbeats 8000000 in
set_option maxRecDepth 100000 in
theorem rtells_a0 (c : Cf) (A0 : Option Addr) (c0 : Nat) (A1 : Option Addr) (c1 : Nat) (A2 : Option Addr) (c2 : Nat) (l : List S92) (i p : Int) (w : World) (hr0 : Kd.C k76 w A0 c.rs.length c.rs) (hl0 : c.rs.length ≤ c0) (hr1 : Kd.C k58 w A1 c.ro.length c.ro) (hl1 : c.ro.length ≤ c1) (hr2 : Kd.C k92 w A2 l.length l) (hl2 : l.length ≤ c2) (hwf : ∀ x ∈ c.ro, WfR x)
    (q : Cf) (hq : cutC c = q) (L : List S92) (hL : l.take 5 = L) (K : Nat) (av : Int) (e2 : chooseE q L = 1) (e1 : chooseV q L = 0) (e4 : chainE q i p = 0) (e3 : recvV q i p = rd (rd_T58 q.ro i).f0 p) (e5 : afterV q i p = av) (k1 : 0 ≤ i) (k2 : i < (q.ro.length : Int)) (k3 : 0 ≤ p) (k4 : p < ((rd_T58 q.ro i).f0.length : Int)) (r1 : foghornref13_Right.f K q.rs q.ro q.rep q.beat = some true) (r2 : foghornref10_Right.f K L = some false) (r4 : foghornref15_Has.f q.rs q.ro q.rep q.beat i p = some true) (r5 : foghornref15_After.f q.rs q.ro q.rep q.beat i p = some av)  :
    Calls Try.prog 8 #[.agg #[.slice A0 c.rs.length c0, .slice A1 c.ro.length c1, .int .i64 c.rep, .int .i64 c.beat], .slice A2 l.length c2, .int .i64 i, .int .i64 p] w fun e w' => e = .returned (.bool true) ∧ Below w.heap.size w w' := by
  have hm0 := hr0.2.1
  have hm1 := hr1.2.1
  have hm2 := hr2.2.1
  have hq0 : Kd.C k76 w A0 q.rs.length q.rs := take_C 6 hr0 (by rw [← hq]; rfl)
  have hq1 : Kd.C k58 w A1 q.ro.length q.ro := take_C 6 hr1 (by rw [← hq]; rfl)
  have hqL : Kd.C k92 w A2 L.length L := take_C 5 hr2 hL
  have hq0l : q.rs.length ≤ c0 := by rw [← hq]; have := List.length_take_le 6 c.rs; show (c.rs.take 6).length ≤ c0; rw [List.length_take]; omega
  have hq1l : q.ro.length ≤ c1 := by rw [← hq]; show (c.ro.take 6).length ≤ c1; rw [List.length_take]; omega
  have hqLl : L.length ≤ c2 := by rw [← hL]; rw [List.length_take]; omega
  have hqwf : ∀ x ∈ q.ro, WfR x := fun x hx => hwf x (by rw [← hq] at hx; exact List.mem_of_mem_take hx)
  have H30 := Aside0.mk (fun W => few_calls 30 (.inl rfl) c A0 c0 A1 c1 W hl0 hl1 hm0 hm1)
  rw [hq] at H30
  have H31 := Aside0.mk (fun W => some31 A2 c2 l W hl2 hm2)
  rw [hL] at H31
  have HCH := Aside0.mk (fun W (hb : Below w.heap.size w W) => choose_calls q A0 c0 A1 c1 A2 c2 L W (Kd.C_below hq0 hb) hq0l (Kd.C_below hq1 hb) hqwf (Kd.C_below hqL hb))
  have HRV := Aside0.mk (fun W (hb : Below w.heap.size w W) => receiver_calls q A0 c0 A1 c1 i p W (Kd.C_below hq0 hb) hq0l (Kd.C_below hq1 hb) hqwf)
  have HAF := Aside0.mk (fun W (hb : Below w.heap.size w W) => after_calls q A0 c0 A1 c1 i p W (Kd.C_below hq0 hb) hq0l (Kd.C_below hq1 hb) hqwf)
  have HQ0 := Aside0.mk hq0
  have HQ1 := Aside0.mk hq1
  have HQL := Aside0.mk hqL
  have HQ0L := Aside0.mk hq0l
  have HQ1L := Aside0.mk hq1l
  have HQLL := Aside0.mk hqLl
  have Xe1 := Aside0.mk e1
  have Xe2 := Aside0.mk e2
  have Xe3 := Aside0.mk e3
  have Xe4 := Aside0.mk e4
  have Xe5 := Aside0.mk e5
  have Xk1 := Aside0.mk k1
  have Xk2 := Aside0.mk k2
  have Xk3 := Aside0.mk k3
  have Xk4 := Aside0.mk k4
  have Xr1 := Aside0.mk r1
  have Xr2 := Aside0.mk r2
  have Xr4 := Aside0.mk r4
  have Xr5 := Aside0.mk r5
  clear hr0 hl0 hr1 hl1 hr2 hl2 hwf hq hL hm0 hm1 hm2 hq0 hq1 hqL hq0l hq1l hqLl hqwf e1 e2 e3 e4 e5 k1 k2 k3 k4 r1 r2 r4 r5
  have hF := Aside0.mk (Fr.Frame.start w)
  have HC : True := trivial
  go_enter Try.func8, Try.ntmps8
  go_wp2_with (first | ((with_reducible refine gate_store rfl ?_); apply Fr.fr_store hF.out rfl rfl rfl; (case hp => rfl); (case hx => first | (go_simp; rfl) | rfl); (case hu => (simp only [Value.cells]; rfl)); (case hs => (repeat (first | exact Fr.Spot.here _ _ | apply Fr.Spot.there))); (case ht => kernel_rfl); (case h1 => simp [Value.oneCell']); (case hfit => simp); intro W hF1; simp only [Fr.patch, List.take_zero, List.nil_append, List.drop, List.append_nil, List.take, List.cons_append, List.length_cons, List.length_nil, Nat.reduceAdd] at hF1; have HC1 := hF1.cells; simp only [Fr.Cells, List.length_cons, List.length_nil, Nat.reduceAdd, and_true] at HC1; clear hF HC; have HC := HC1; have hF := Aside0.mk hF1; clear hF1 HC1) | ((first | (with_reducible refine Fr.gate_alloc rfl ?_) | (with_reducible refine Fr.gate_box rfl ?_)); apply Fr.fr_box hF.out rfl; (case hrun => first | (go_simp; done) | (go_simp; rfl)); intro g W hF1; have HC1 := hF1.cells; simp only [Fr.Cells, List.length_cons, List.length_nil, Nat.reduceAdd, and_true] at HC1; clear hF HC; have HC := HC1; have hF := Aside0.mk hF1; clear hF1 HC1))
  (with_reducible refine (H30.out _).mono ?_); rintro e W ⟨rfl, hb⟩; have hF1 := hF.out.call hb; clear hb; have HC1 := hF1.cells; simp only [Fr.Cells, List.length_cons, List.length_nil, Nat.reduceAdd, and_true] at HC1; clear hF HC; have HC := HC1; have hF := Aside0.mk hF1; clear hF1 HC1
  go_wp2_with (first | ((with_reducible refine gate_store rfl ?_); apply Fr.fr_store hF.out rfl rfl rfl; (case hp => rfl); (case hx => first | (go_simp; rfl) | rfl); (case hu => (simp only [Value.cells]; rfl)); (case hs => (repeat (first | exact Fr.Spot.here _ _ | apply Fr.Spot.there))); (case ht => kernel_rfl); (case h1 => simp [Value.oneCell']); (case hfit => simp); intro W hF1; simp only [Fr.patch, List.take_zero, List.nil_append, List.drop, List.append_nil, List.take, List.cons_append, List.length_cons, List.length_nil, Nat.reduceAdd] at hF1; have HC1 := hF1.cells; simp only [Fr.Cells, List.length_cons, List.length_nil, Nat.reduceAdd, and_true] at HC1; clear hF HC; have HC := HC1; have hF := Aside0.mk hF1; clear hF1 HC1) | ((first | (with_reducible refine Fr.gate_alloc rfl ?_) | (with_reducible refine Fr.gate_box rfl ?_)); apply Fr.fr_box hF.out rfl; (case hrun => first | (go_simp; done) | (go_simp; rfl)); intro g W hF1; have HC1 := hF1.cells; simp only [Fr.Cells, List.length_cons, List.length_nil, Nat.reduceAdd, and_true] at HC1; clear hF HC; have HC := HC1; have hF := Aside0.mk hF1; clear hF1 HC1))
  (with_reducible refine (H31.out _).mono ?_)
  rintro e W' ⟨rfl, rfl⟩
  iterate 7 (go_wp2_with (first | ((with_reducible refine gate_store rfl ?_); apply Fr.fr_store hF.out rfl rfl rfl; (case hp => rfl); (case hx => first | (go_simp; rfl) | rfl); (case hu => (simp only [Value.cells]; rfl)); (case hs => (repeat (first | exact Fr.Spot.here _ _ | apply Fr.Spot.there))); (case ht => kernel_rfl); (case h1 => simp [Value.oneCell']); (case hfit => simp); intro W hF1; simp only [Fr.patch, List.take_zero, List.nil_append, List.drop, List.append_nil, List.take, List.cons_append, List.length_cons, List.length_nil, Nat.reduceAdd] at hF1; have HC1 := hF1.cells; simp only [Fr.Cells, List.length_cons, List.length_nil, Nat.reduceAdd, and_true] at HC1; clear hF HC; have HC := HC1; have hF := Aside0.mk hF1; clear hF1 HC1) | ((first | (with_reducible refine Fr.gate_alloc rfl ?_) | (with_reducible refine Fr.gate_box rfl ?_)); apply Fr.fr_box hF.out rfl; (case hrun => first | (go_simp; done) | (go_simp; rfl)); intro g W hF1; have HC1 := hF1.cells; simp only [Fr.Cells, List.length_cons, List.length_nil, Nat.reduceAdd, and_true] at HC1; clear hF HC; have HC := HC1; have hF := Aside0.mk hF1; clear hF1 HC1)); try ((first | ((with_reducible refine (HCH.out _ hF.out.below).mono ?_); rintro e W ⟨rfl, hb⟩; have hF1 := hF.out.call hb; clear hb; simp only [Xe1.out, Xe2.out]) | ((with_reducible refine (HRV.out _ hF.out.below).mono ?_); rintro e W ⟨rfl, hb⟩; have hF1 := hF.out.call hb; clear hb; simp only [Xe3.out, Xe4.out]) | ((with_reducible refine (HAF.out _ hF.out.below).mono ?_); rintro e W ⟨rfl, hb⟩; have hF1 := hF.out.call hb; clear hb; simp only [Xe5.out, Xe4.out]) | ((with_reducible refine (alive33_calls _).mono ?_); rintro e W ⟨rfl, hb⟩; have hF1 := hF.out.call hb; clear hb) | ((with_reducible refine (foghornref13_Right.calls K A0 c0 q.rs A1 c1 q.ro q.rep q.beat _ _ (Kd.C_below HQ0.out hF.out.below) HQ0L.out (Kd.C_below HQ1.out hF.out.below) HQ1L.out Xr1.out).mono ?_); rintro e W ⟨rfl, hb⟩; have hF1 := hF.out.call hb; clear hb) | ((with_reducible refine (foghornref10_Right.calls K A2 c2 L _ _ (Kd.C_below HQL.out hF.out.below) HQLL.out Xr2.out).mono ?_); rintro e W ⟨rfl, hb⟩; have hF1 := hF.out.call hb; clear hb)); have HC1 := hF1.cells; simp only [Fr.Cells, List.length_cons, List.length_nil, Nat.reduceAdd, and_true] at HC1; clear hF HC; have HC := HC1; have hF := Aside0.mk hF1; clear hF1 HC1))
  (with_reducible refine (foghornref15_Has.calls A0 c0 q.rs A1 c1 q.ro q.rep q.beat i p _ _ (Kd.C_below HQ0.out hF.out.below) HQ0L.out (Kd.C_below HQ1.out hF.out.below) HQ1L.out Xr4.out).mono ?_); rintro e W ⟨rfl, hb⟩; have hF1 := hF.out.call hb; clear hb; have HC1 := hF1.cells; simp only [Fr.Cells, List.length_cons, List.length_nil, Nat.reduceAdd, and_true] at HC1; clear hF HC; have HC := HC1; have hF := Aside0.mk hF1; clear hF1 HC1
  obtain ⟨ad, B0, d0, B1, d1, ee1, a0, a1, g0, g1, g2, g3⟩ := at_T58 (Kd.C_below HQ1.out hF.out.below) i Xk1.out Xk2.out
  cases ee1
  obtain ⟨ad2, ee2, b0⟩ := Kd.at_int g1 p Xk3.out Xk4.out
  cases ee2
  have hxl : (rd_T58 q.ro i).f0.length ≤ 9223372036854775807 := g1.2.1
  have hk1 := Xk1.out
  have hk2 := Xk2.out
  have hk3 := Xk3.out
  have hk4 := Xk4.out
  clear g0 g1 g2 g3
  go_wp2_with (first | ((with_reducible refine gate_store rfl ?_); apply Fr.fr_store hF.out rfl rfl rfl; (case hp => rfl); (case hx => first | (go_simp; rfl) | rfl); (case hu => (simp only [Value.cells]; rfl)); (case hs => (repeat (first | exact Fr.Spot.here _ _ | apply Fr.Spot.there))); (case ht => kernel_rfl); (case h1 => simp [Value.oneCell']); (case hfit => simp); intro W hF1; simp only [Fr.patch, List.take_zero, List.nil_append, List.drop, List.append_nil, List.take, List.cons_append, List.length_cons, List.length_nil, Nat.reduceAdd] at hF1; have HC1 := hF1.cells; simp only [Fr.Cells, List.length_cons, List.length_nil, Nat.reduceAdd, and_true] at HC1; clear hF HC; have HC := HC1; have hF := Aside0.mk hF1; clear hF1 HC1) | ((first | (with_reducible refine Fr.gate_alloc rfl ?_) | (with_reducible refine Fr.gate_box rfl ?_)); apply Fr.fr_box hF.out rfl; (case hrun => first | (go_simp; done) | (go_simp; rfl)); intro g W hF1; have HC1 := hF1.cells; simp only [Fr.Cells, List.length_cons, List.length_nil, Nat.reduceAdd, and_true] at HC1; clear hF HC; have HC := HC1; have hF := Aside0.mk hF1; clear hF1 HC1))
  (with_reducible refine (foghornref15_After.calls A0 c0 q.rs (some ad) c1 q.ro q.rep q.beat i p _ _ (Kd.C_below HQ0.out hF.out.below) HQ0L.out (Kd.C_below HQ1.out hF.out.below) HQ1L.out Xr5.out).mono ?_); rintro e W ⟨rfl, hb⟩; have hF1 := hF.out.call hb; clear hb; have HC1 := hF1.cells; simp only [Fr.Cells, List.length_cons, List.length_nil, Nat.reduceAdd, and_true] at HC1; clear hF HC; have HC := HC1; have hF := Aside0.mk hF1; clear hF1 HC1
  go_wp2_with (first | ((with_reducible refine gate_store rfl ?_); apply Fr.fr_store hF.out rfl rfl rfl; (case hp => rfl); (case hx => first | (go_simp; rfl) | rfl); (case hu => (simp only [Value.cells]; rfl)); (case hs => (repeat (first | exact Fr.Spot.here _ _ | apply Fr.Spot.there))); (case ht => kernel_rfl); (case h1 => simp [Value.oneCell']); (case hfit => simp); intro W hF1; simp only [Fr.patch, List.take_zero, List.nil_append, List.drop, List.append_nil, List.take, List.cons_append, List.length_cons, List.length_nil, Nat.reduceAdd] at hF1; have HC1 := hF1.cells; simp only [Fr.Cells, List.length_cons, List.length_nil, Nat.reduceAdd, and_true] at HC1; clear hF HC; have HC := HC1; have hF := Aside0.mk hF1; clear hF1 HC1) | ((first | (with_reducible refine Fr.gate_alloc rfl ?_) | (with_reducible refine Fr.gate_box rfl ?_)); apply Fr.fr_box hF.out rfl; (case hrun => first | (go_simp; done) | (go_simp; rfl)); intro g W hF1; have HC1 := hF1.cells; simp only [Fr.Cells, List.length_cons, List.length_nil, Nat.reduceAdd, and_true] at HC1; clear hF HC; have HC := HC1; have hF := Aside0.mk hF1; clear hF1 HC1))
  go_ret
  exact ⟨rfl, hF.out.below⟩
set_option maxHeartbeats 8000000 in
set_option maxRecDepth 100000 in
theorem rtells_b3 (c : Cf) (A0 : Option Addr) (c0 : Nat) (A1 : Option Addr) (c1 : Nat) (A2 : Option Addr) (c2 : Nat) (l : List S92) (i p : Int) (w : World) (hr0 : Kd.C k76 w A0 c.rs.length c.rs) (hl0 : c.rs.length ≤ c0) (hr1 : Kd.C k58 w A1 c.ro.length c.ro) (hl1 : c.ro.length ≤ c1) (hr2 : Kd.C k92 w A2 l.length l) (hl2 : l.length ≤ c2) (hwf : ∀ x ∈ c.ro, WfR x)
    (q : Cf) (hq : cutC c = q) (L : List S92) (hL : l.take 5 = L) (K : Nat) (e2 : chooseE q L = 4) (e1 : chooseV q L = 0) (e4 : chainE q i p = 3) (e3 : recvV q i p = 0) (e5 : afterV q i p = 0) (r1 : foghornref13_Right.f K q.rs q.ro q.rep q.beat = some true) (r2 : foghornref10_Right.f K L = some true) (r3 : foghornref15_Choose.f K q.rs q.ro q.rep q.beat L = some (-1)) (r4 : foghornref15_Has.f q.rs q.ro q.rep q.beat i p = some false)  :
    Calls Try.prog 8 #[.agg #[.slice A0 c.rs.length c0, .slice A1 c.ro.length c1, .int .i64 c.rep, .int .i64 c.beat], .slice A2 l.length c2, .int .i64 i, .int .i64 p] w fun e w' => e = .returned (.bool true) ∧ Below w.heap.size w w' := by
  have hm0 := hr0.2.1
  have hm1 := hr1.2.1
  have hm2 := hr2.2.1
  have hq0 : Kd.C k76 w A0 q.rs.length q.rs := take_C 6 hr0 (by rw [← hq]; rfl)
  have hq1 : Kd.C k58 w A1 q.ro.length q.ro := take_C 6 hr1 (by rw [← hq]; rfl)
  have hqL : Kd.C k92 w A2 L.length L := take_C 5 hr2 hL
  have hq0l : q.rs.length ≤ c0 := by rw [← hq]; have := List.length_take_le 6 c.rs; show (c.rs.take 6).length ≤ c0; rw [List.length_take]; omega
  have hq1l : q.ro.length ≤ c1 := by rw [← hq]; show (c.ro.take 6).length ≤ c1; rw [List.length_take]; omega
  have hqLl : L.length ≤ c2 := by rw [← hL]; rw [List.length_take]; omega
  have hqwf : ∀ x ∈ q.ro, WfR x := fun x hx => hwf x (by rw [← hq] at hx; exact List.mem_of_mem_take hx)
  have H30 := Aside0.mk (fun W => few_calls 30 (.inl rfl) c A0 c0 A1 c1 W hl0 hl1 hm0 hm1)
  rw [hq] at H30
  have H31 := Aside0.mk (fun W => some31 A2 c2 l W hl2 hm2)
  rw [hL] at H31
  have HCH := Aside0.mk (fun W (hb : Below w.heap.size w W) => choose_calls q A0 c0 A1 c1 A2 c2 L W (Kd.C_below hq0 hb) hq0l (Kd.C_below hq1 hb) hqwf (Kd.C_below hqL hb))
  have HRV := Aside0.mk (fun W (hb : Below w.heap.size w W) => receiver_calls q A0 c0 A1 c1 i p W (Kd.C_below hq0 hb) hq0l (Kd.C_below hq1 hb) hqwf)
  have HAF := Aside0.mk (fun W (hb : Below w.heap.size w W) => after_calls q A0 c0 A1 c1 i p W (Kd.C_below hq0 hb) hq0l (Kd.C_below hq1 hb) hqwf)
  have HQ0 := Aside0.mk hq0
  have HQ1 := Aside0.mk hq1
  have HQL := Aside0.mk hqL
  have HQ0L := Aside0.mk hq0l
  have HQ1L := Aside0.mk hq1l
  have HQLL := Aside0.mk hqLl
  have Xe1 := Aside0.mk e1
  have Xe2 := Aside0.mk e2
  have Xe3 := Aside0.mk e3
  have Xe4 := Aside0.mk e4
  have Xe5 := Aside0.mk e5
  have Xr1 := Aside0.mk r1
  have Xr2 := Aside0.mk r2
  have Xr3 := Aside0.mk r3
  have Xr4 := Aside0.mk r4
  clear hr0 hl0 hr1 hl1 hr2 hl2 hwf hq hL hm0 hm1 hm2 hq0 hq1 hqL hq0l hq1l hqLl hqwf e1 e2 e3 e4 e5 r1 r2 r3 r4
  have hF := Aside0.mk (Fr.Frame.start w)
  have HC : True := trivial
  go_enter Try.func8, Try.ntmps8
  go_wp2_with (first | ((with_reducible refine gate_store rfl ?_); apply Fr.fr_store hF.out rfl rfl rfl; (case hp => rfl); (case hx => first | (go_simp; rfl) | rfl); (case hu => (simp only [Value.cells]; rfl)); (case hs => (repeat (first | exact Fr.Spot.here _ _ | apply Fr.Spot.there))); (case ht => kernel_rfl); (case h1 => simp [Value.oneCell']); (case hfit => simp); intro W hF1; simp only [Fr.patch, List.take_zero, List.nil_append, List.drop, List.append_nil, List.take, List.cons_append, List.length_cons, List.length_nil, Nat.reduceAdd] at hF1; have HC1 := hF1.cells; simp only [Fr.Cells, List.length_cons, List.length_nil, Nat.reduceAdd, and_true] at HC1; clear hF HC; have HC := HC1; have hF := Aside0.mk hF1; clear hF1 HC1) | ((first | (with_reducible refine Fr.gate_alloc rfl ?_) | (with_reducible refine Fr.gate_box rfl ?_)); apply Fr.fr_box hF.out rfl; (case hrun => first | (go_simp; done) | (go_simp; rfl)); intro g W hF1; have HC1 := hF1.cells; simp only [Fr.Cells, List.length_cons, List.length_nil, Nat.reduceAdd, and_true] at HC1; clear hF HC; have HC := HC1; have hF := Aside0.mk hF1; clear hF1 HC1))
  (with_reducible refine (H30.out _).mono ?_); rintro e W ⟨rfl, hb⟩; have hF1 := hF.out.call hb; clear hb; have HC1 := hF1.cells; simp only [Fr.Cells, List.length_cons, List.length_nil, Nat.reduceAdd, and_true] at HC1; clear hF HC; have HC := HC1; have hF := Aside0.mk hF1; clear hF1 HC1
  go_wp2_with (first | ((with_reducible refine gate_store rfl ?_); apply Fr.fr_store hF.out rfl rfl rfl; (case hp => rfl); (case hx => first | (go_simp; rfl) | rfl); (case hu => (simp only [Value.cells]; rfl)); (case hs => (repeat (first | exact Fr.Spot.here _ _ | apply Fr.Spot.there))); (case ht => kernel_rfl); (case h1 => simp [Value.oneCell']); (case hfit => simp); intro W hF1; simp only [Fr.patch, List.take_zero, List.nil_append, List.drop, List.append_nil, List.take, List.cons_append, List.length_cons, List.length_nil, Nat.reduceAdd] at hF1; have HC1 := hF1.cells; simp only [Fr.Cells, List.length_cons, List.length_nil, Nat.reduceAdd, and_true] at HC1; clear hF HC; have HC := HC1; have hF := Aside0.mk hF1; clear hF1 HC1) | ((first | (with_reducible refine Fr.gate_alloc rfl ?_) | (with_reducible refine Fr.gate_box rfl ?_)); apply Fr.fr_box hF.out rfl; (case hrun => first | (go_simp; done) | (go_simp; rfl)); intro g W hF1; have HC1 := hF1.cells; simp only [Fr.Cells, List.length_cons, List.length_nil, Nat.reduceAdd, and_true] at HC1; clear hF HC; have HC := HC1; have hF := Aside0.mk hF1; clear hF1 HC1))
  (with_reducible refine (H31.out _).mono ?_)
  rintro e W' ⟨rfl, rfl⟩
  iterate 9 (go_wp2_with (first | ((with_reducible refine gate_store rfl ?_); apply Fr.fr_store hF.out rfl rfl rfl; (case hp => rfl); (case hx => first | (go_simp; rfl) | rfl); (case hu => (simp only [Value.cells]; rfl)); (case hs => (repeat (first | exact Fr.Spot.here _ _ | apply Fr.Spot.there))); (case ht => kernel_rfl); (case h1 => simp [Value.oneCell']); (case hfit => simp); intro W hF1; simp only [Fr.patch, List.take_zero, List.nil_append, List.drop, List.append_nil, List.take, List.cons_append, List.length_cons, List.length_nil, Nat.reduceAdd] at hF1; have HC1 := hF1.cells; simp only [Fr.Cells, List.length_cons, List.length_nil, Nat.reduceAdd, and_true] at HC1; clear hF HC; have HC := HC1; have hF := Aside0.mk hF1; clear hF1 HC1) | ((first | (with_reducible refine Fr.gate_alloc rfl ?_) | (with_reducible refine Fr.gate_box rfl ?_)); apply Fr.fr_box hF.out rfl; (case hrun => first | (go_simp; done) | (go_simp; rfl)); intro g W hF1; have HC1 := hF1.cells; simp only [Fr.Cells, List.length_cons, List.length_nil, Nat.reduceAdd, and_true] at HC1; clear hF HC; have HC := HC1; have hF := Aside0.mk hF1; clear hF1 HC1)); try ((first | ((with_reducible refine (HCH.out _ hF.out.below).mono ?_); rintro e W ⟨rfl, hb⟩; have hF1 := hF.out.call hb; clear hb; simp only [Xe1.out, Xe2.out]) | ((with_reducible refine (HRV.out _ hF.out.below).mono ?_); rintro e W ⟨rfl, hb⟩; have hF1 := hF.out.call hb; clear hb; simp only [Xe3.out, Xe4.out]) | ((with_reducible refine (HAF.out _ hF.out.below).mono ?_); rintro e W ⟨rfl, hb⟩; have hF1 := hF.out.call hb; clear hb; simp only [Xe5.out, Xe4.out]) | ((with_reducible refine (alive33_calls _).mono ?_); rintro e W ⟨rfl, hb⟩; have hF1 := hF.out.call hb; clear hb) | ((with_reducible refine (foghornref13_Right.calls K A0 c0 q.rs A1 c1 q.ro q.rep q.beat _ _ (Kd.C_below HQ0.out hF.out.below) HQ0L.out (Kd.C_below HQ1.out hF.out.below) HQ1L.out Xr1.out).mono ?_); rintro e W ⟨rfl, hb⟩; have hF1 := hF.out.call hb; clear hb) | ((with_reducible refine (foghornref10_Right.calls K A2 c2 L _ _ (Kd.C_below HQL.out hF.out.below) HQLL.out Xr2.out).mono ?_); rintro e W ⟨rfl, hb⟩; have hF1 := hF.out.call hb; clear hb) | ((with_reducible refine (foghornref15_Choose.calls K A0 c0 q.rs A1 c1 q.ro q.rep q.beat A2 c2 L _ _ (Kd.C_below HQ0.out hF.out.below) HQ0L.out (Kd.C_below HQ1.out hF.out.below) HQ1L.out (Kd.C_below HQL.out hF.out.below) HQLL.out Xr3.out).mono ?_); rintro e W ⟨rfl, hb⟩; have hF1 := hF.out.call hb; clear hb) | ((with_reducible refine (foghornref15_Has.calls A0 c0 q.rs A1 c1 q.ro q.rep q.beat i p _ _ (Kd.C_below HQ0.out hF.out.below) HQ0L.out (Kd.C_below HQ1.out hF.out.below) HQ1L.out Xr4.out).mono ?_); rintro e W ⟨rfl, hb⟩; have hF1 := hF.out.call hb; clear hb)); have HC1 := hF1.cells; simp only [Fr.Cells, List.length_cons, List.length_nil, Nat.reduceAdd, and_true] at HC1; clear hF HC; have HC := HC1; have hF := Aside0.mk hF1; clear hF1 HC1))
  go_ret
  exact ⟨rfl, hF.out.below⟩
set_option maxHeartbeats 8000000 in
set_option maxRecDepth 100000 in
theorem rtells_b0 (c : Cf) (A0 : Option Addr) (c0 : Nat) (A1 : Option Addr) (c1 : Nat) (A2 : Option Addr) (c2 : Nat) (l : List S92) (i p : Int) (w : World) (hr0 : Kd.C k76 w A0 c.rs.length c.rs) (hl0 : c.rs.length ≤ c0) (hr1 : Kd.C k58 w A1 c.ro.length c.ro) (hl1 : c.ro.length ≤ c1) (hr2 : Kd.C k92 w A2 l.length l) (hl2 : l.length ≤ c2) (hwf : ∀ x ∈ c.ro, WfR x)
    (q : Cf) (hq : cutC c = q) (L : List S92) (hL : l.take 5 = L) (K : Nat) (av : Int) (e2 : chooseE q L = 4) (e1 : chooseV q L = 0) (e4 : chainE q i p = 0) (e3 : recvV q i p = rd (rd_T58 q.ro i).f0 p) (e5 : afterV q i p = av) (k1 : 0 ≤ i) (k2 : i < (q.ro.length : Int)) (k3 : 0 ≤ p) (k4 : p < ((rd_T58 q.ro i).f0.length : Int)) (r1 : foghornref13_Right.f K q.rs q.ro q.rep q.beat = some true) (r2 : foghornref10_Right.f K L = some true) (r3 : foghornref15_Choose.f K q.rs q.ro q.rep q.beat L = some (-1)) (r4 : foghornref15_Has.f q.rs q.ro q.rep q.beat i p = some true) (r5 : foghornref15_After.f q.rs q.ro q.rep q.beat i p = some av)  :
    Calls Try.prog 8 #[.agg #[.slice A0 c.rs.length c0, .slice A1 c.ro.length c1, .int .i64 c.rep, .int .i64 c.beat], .slice A2 l.length c2, .int .i64 i, .int .i64 p] w fun e w' => e = .returned (.bool true) ∧ Below w.heap.size w w' := by
  have hm0 := hr0.2.1
  have hm1 := hr1.2.1
  have hm2 := hr2.2.1
  have hq0 : Kd.C k76 w A0 q.rs.length q.rs := take_C 6 hr0 (by rw [← hq]; rfl)
  have hq1 : Kd.C k58 w A1 q.ro.length q.ro := take_C 6 hr1 (by rw [← hq]; rfl)
  have hqL : Kd.C k92 w A2 L.length L := take_C 5 hr2 hL
  have hq0l : q.rs.length ≤ c0 := by rw [← hq]; have := List.length_take_le 6 c.rs; show (c.rs.take 6).length ≤ c0; rw [List.length_take]; omega
  have hq1l : q.ro.length ≤ c1 := by rw [← hq]; show (c.ro.take 6).length ≤ c1; rw [List.length_take]; omega
  have hqLl : L.length ≤ c2 := by rw [← hL]; rw [List.length_take]; omega
  have hqwf : ∀ x ∈ q.ro, WfR x := fun x hx => hwf x (by rw [← hq] at hx; exact List.mem_of_mem_take hx)
  have H30 := Aside0.mk (fun W => few_calls 30 (.inl rfl) c A0 c0 A1 c1 W hl0 hl1 hm0 hm1)
  rw [hq] at H30
  have H31 := Aside0.mk (fun W => some31 A2 c2 l W hl2 hm2)
  rw [hL] at H31
  have HCH := Aside0.mk (fun W (hb : Below w.heap.size w W) => choose_calls q A0 c0 A1 c1 A2 c2 L W (Kd.C_below hq0 hb) hq0l (Kd.C_below hq1 hb) hqwf (Kd.C_below hqL hb))
  have HRV := Aside0.mk (fun W (hb : Below w.heap.size w W) => receiver_calls q A0 c0 A1 c1 i p W (Kd.C_below hq0 hb) hq0l (Kd.C_below hq1 hb) hqwf)
  have HAF := Aside0.mk (fun W (hb : Below w.heap.size w W) => after_calls q A0 c0 A1 c1 i p W (Kd.C_below hq0 hb) hq0l (Kd.C_below hq1 hb) hqwf)
  have HQ0 := Aside0.mk hq0
  have HQ1 := Aside0.mk hq1
  have HQL := Aside0.mk hqL
  have HQ0L := Aside0.mk hq0l
  have HQ1L := Aside0.mk hq1l
  have HQLL := Aside0.mk hqLl
  have Xe1 := Aside0.mk e1
  have Xe2 := Aside0.mk e2
  have Xe3 := Aside0.mk e3
  have Xe4 := Aside0.mk e4
  have Xe5 := Aside0.mk e5
  have Xk1 := Aside0.mk k1
  have Xk2 := Aside0.mk k2
  have Xk3 := Aside0.mk k3
  have Xk4 := Aside0.mk k4
  have Xr1 := Aside0.mk r1
  have Xr2 := Aside0.mk r2
  have Xr3 := Aside0.mk r3
  have Xr4 := Aside0.mk r4
  have Xr5 := Aside0.mk r5
  clear hr0 hl0 hr1 hl1 hr2 hl2 hwf hq hL hm0 hm1 hm2 hq0 hq1 hqL hq0l hq1l hqLl hqwf e1 e2 e3 e4 e5 k1 k2 k3 k4 r1 r2 r3 r4 r5
  have hF := Aside0.mk (Fr.Frame.start w)
  have HC : True := trivial
  go_enter Try.func8, Try.ntmps8
  go_wp2_with (first | ((with_reducible refine gate_store rfl ?_); apply Fr.fr_store hF.out rfl rfl rfl; (case hp => rfl); (case hx => first | (go_simp; rfl) | rfl); (case hu => (simp only [Value.cells]; rfl)); (case hs => (repeat (first | exact Fr.Spot.here _ _ | apply Fr.Spot.there))); (case ht => kernel_rfl); (case h1 => simp [Value.oneCell']); (case hfit => simp); intro W hF1; simp only [Fr.patch, List.take_zero, List.nil_append, List.drop, List.append_nil, List.take, List.cons_append, List.length_cons, List.length_nil, Nat.reduceAdd] at hF1; have HC1 := hF1.cells; simp only [Fr.Cells, List.length_cons, List.length_nil, Nat.reduceAdd, and_true] at HC1; clear hF HC; have HC := HC1; have hF := Aside0.mk hF1; clear hF1 HC1) | ((first | (with_reducible refine Fr.gate_alloc rfl ?_) | (with_reducible refine Fr.gate_box rfl ?_)); apply Fr.fr_box hF.out rfl; (case hrun => first | (go_simp; done) | (go_simp; rfl)); intro g W hF1; have HC1 := hF1.cells; simp only [Fr.Cells, List.length_cons, List.length_nil, Nat.reduceAdd, and_true] at HC1; clear hF HC; have HC := HC1; have hF := Aside0.mk hF1; clear hF1 HC1))
  (with_reducible refine (H30.out _).mono ?_); rintro e W ⟨rfl, hb⟩; have hF1 := hF.out.call hb; clear hb; have HC1 := hF1.cells; simp only [Fr.Cells, List.length_cons, List.length_nil, Nat.reduceAdd, and_true] at HC1; clear hF HC; have HC := HC1; have hF := Aside0.mk hF1; clear hF1 HC1
  go_wp2_with (first | ((with_reducible refine gate_store rfl ?_); apply Fr.fr_store hF.out rfl rfl rfl; (case hp => rfl); (case hx => first | (go_simp; rfl) | rfl); (case hu => (simp only [Value.cells]; rfl)); (case hs => (repeat (first | exact Fr.Spot.here _ _ | apply Fr.Spot.there))); (case ht => kernel_rfl); (case h1 => simp [Value.oneCell']); (case hfit => simp); intro W hF1; simp only [Fr.patch, List.take_zero, List.nil_append, List.drop, List.append_nil, List.take, List.cons_append, List.length_cons, List.length_nil, Nat.reduceAdd] at hF1; have HC1 := hF1.cells; simp only [Fr.Cells, List.length_cons, List.length_nil, Nat.reduceAdd, and_true] at HC1; clear hF HC; have HC := HC1; have hF := Aside0.mk hF1; clear hF1 HC1) | ((first | (with_reducible refine Fr.gate_alloc rfl ?_) | (with_reducible refine Fr.gate_box rfl ?_)); apply Fr.fr_box hF.out rfl; (case hrun => first | (go_simp; done) | (go_simp; rfl)); intro g W hF1; have HC1 := hF1.cells; simp only [Fr.Cells, List.length_cons, List.length_nil, Nat.reduceAdd, and_true] at HC1; clear hF HC; have HC := HC1; have hF := Aside0.mk hF1; clear hF1 HC1))
  (with_reducible refine (H31.out _).mono ?_)
  rintro e W' ⟨rfl, rfl⟩
  iterate 8 (go_wp2_with (first | ((with_reducible refine gate_store rfl ?_); apply Fr.fr_store hF.out rfl rfl rfl; (case hp => rfl); (case hx => first | (go_simp; rfl) | rfl); (case hu => (simp only [Value.cells]; rfl)); (case hs => (repeat (first | exact Fr.Spot.here _ _ | apply Fr.Spot.there))); (case ht => kernel_rfl); (case h1 => simp [Value.oneCell']); (case hfit => simp); intro W hF1; simp only [Fr.patch, List.take_zero, List.nil_append, List.drop, List.append_nil, List.take, List.cons_append, List.length_cons, List.length_nil, Nat.reduceAdd] at hF1; have HC1 := hF1.cells; simp only [Fr.Cells, List.length_cons, List.length_nil, Nat.reduceAdd, and_true] at HC1; clear hF HC; have HC := HC1; have hF := Aside0.mk hF1; clear hF1 HC1) | ((first | (with_reducible refine Fr.gate_alloc rfl ?_) | (with_reducible refine Fr.gate_box rfl ?_)); apply Fr.fr_box hF.out rfl; (case hrun => first | (go_simp; done) | (go_simp; rfl)); intro g W hF1; have HC1 := hF1.cells; simp only [Fr.Cells, List.length_cons, List.length_nil, Nat.reduceAdd, and_true] at HC1; clear hF HC; have HC := HC1; have hF := Aside0.mk hF1; clear hF1 HC1)); try ((first | ((with_reducible refine (HCH.out _ hF.out.below).mono ?_); rintro e W ⟨rfl, hb⟩; have hF1 := hF.out.call hb; clear hb; simp only [Xe1.out, Xe2.out]) | ((with_reducible refine (HRV.out _ hF.out.below).mono ?_); rintro e W ⟨rfl, hb⟩; have hF1 := hF.out.call hb; clear hb; simp only [Xe3.out, Xe4.out]) | ((with_reducible refine (HAF.out _ hF.out.below).mono ?_); rintro e W ⟨rfl, hb⟩; have hF1 := hF.out.call hb; clear hb; simp only [Xe5.out, Xe4.out]) | ((with_reducible refine (alive33_calls _).mono ?_); rintro e W ⟨rfl, hb⟩; have hF1 := hF.out.call hb; clear hb) | ((with_reducible refine (foghornref13_Right.calls K A0 c0 q.rs A1 c1 q.ro q.rep q.beat _ _ (Kd.C_below HQ0.out hF.out.below) HQ0L.out (Kd.C_below HQ1.out hF.out.below) HQ1L.out Xr1.out).mono ?_); rintro e W ⟨rfl, hb⟩; have hF1 := hF.out.call hb; clear hb) | ((with_reducible refine (foghornref10_Right.calls K A2 c2 L _ _ (Kd.C_below HQL.out hF.out.below) HQLL.out Xr2.out).mono ?_); rintro e W ⟨rfl, hb⟩; have hF1 := hF.out.call hb; clear hb) | ((with_reducible refine (foghornref15_Choose.calls K A0 c0 q.rs A1 c1 q.ro q.rep q.beat A2 c2 L _ _ (Kd.C_below HQ0.out hF.out.below) HQ0L.out (Kd.C_below HQ1.out hF.out.below) HQ1L.out (Kd.C_below HQL.out hF.out.below) HQLL.out Xr3.out).mono ?_); rintro e W ⟨rfl, hb⟩; have hF1 := hF.out.call hb; clear hb)); have HC1 := hF1.cells; simp only [Fr.Cells, List.length_cons, List.length_nil, Nat.reduceAdd, and_true] at HC1; clear hF HC; have HC := HC1; have hF := Aside0.mk hF1; clear hF1 HC1))
  (with_reducible refine (foghornref15_Has.calls A0 c0 q.rs A1 c1 q.ro q.rep q.beat i p _ _ (Kd.C_below HQ0.out hF.out.below) HQ0L.out (Kd.C_below HQ1.out hF.out.below) HQ1L.out Xr4.out).mono ?_); rintro e W ⟨rfl, hb⟩; have hF1 := hF.out.call hb; clear hb; have HC1 := hF1.cells; simp only [Fr.Cells, List.length_cons, List.length_nil, Nat.reduceAdd, and_true] at HC1; clear hF HC; have HC := HC1; have hF := Aside0.mk hF1; clear hF1 HC1
  obtain ⟨ad, B0, d0, B1, d1, ee1, a0, a1, g0, g1, g2, g3⟩ := at_T58 (Kd.C_below HQ1.out hF.out.below) i Xk1.out Xk2.out
  cases ee1
  obtain ⟨ad2, ee2, b0⟩ := Kd.at_int g1 p Xk3.out Xk4.out
  cases ee2
  have hxl : (rd_T58 q.ro i).f0.length ≤ 9223372036854775807 := g1.2.1
  have hk1 := Xk1.out
  have hk2 := Xk2.out
  have hk3 := Xk3.out
  have hk4 := Xk4.out
  clear g0 g1 g2 g3
  go_wp2_with (first | ((with_reducible refine gate_store rfl ?_); apply Fr.fr_store hF.out rfl rfl rfl; (case hp => rfl); (case hx => first | (go_simp; rfl) | rfl); (case hu => (simp only [Value.cells]; rfl)); (case hs => (repeat (first | exact Fr.Spot.here _ _ | apply Fr.Spot.there))); (case ht => kernel_rfl); (case h1 => simp [Value.oneCell']); (case hfit => simp); intro W hF1; simp only [Fr.patch, List.take_zero, List.nil_append, List.drop, List.append_nil, List.take, List.cons_append, List.length_cons, List.length_nil, Nat.reduceAdd] at hF1; have HC1 := hF1.cells; simp only [Fr.Cells, List.length_cons, List.length_nil, Nat.reduceAdd, and_true] at HC1; clear hF HC; have HC := HC1; have hF := Aside0.mk hF1; clear hF1 HC1) | ((first | (with_reducible refine Fr.gate_alloc rfl ?_) | (with_reducible refine Fr.gate_box rfl ?_)); apply Fr.fr_box hF.out rfl; (case hrun => first | (go_simp; done) | (go_simp; rfl)); intro g W hF1; have HC1 := hF1.cells; simp only [Fr.Cells, List.length_cons, List.length_nil, Nat.reduceAdd, and_true] at HC1; clear hF HC; have HC := HC1; have hF := Aside0.mk hF1; clear hF1 HC1))
  (with_reducible refine (foghornref15_After.calls A0 c0 q.rs (some ad) c1 q.ro q.rep q.beat i p _ _ (Kd.C_below HQ0.out hF.out.below) HQ0L.out (Kd.C_below HQ1.out hF.out.below) HQ1L.out Xr5.out).mono ?_); rintro e W ⟨rfl, hb⟩; have hF1 := hF.out.call hb; clear hb; have HC1 := hF1.cells; simp only [Fr.Cells, List.length_cons, List.length_nil, Nat.reduceAdd, and_true] at HC1; clear hF HC; have HC := HC1; have hF := Aside0.mk hF1; clear hF1 HC1
  go_wp2_with (first | ((with_reducible refine gate_store rfl ?_); apply Fr.fr_store hF.out rfl rfl rfl; (case hp => rfl); (case hx => first | (go_simp; rfl) | rfl); (case hu => (simp only [Value.cells]; rfl)); (case hs => (repeat (first | exact Fr.Spot.here _ _ | apply Fr.Spot.there))); (case ht => kernel_rfl); (case h1 => simp [Value.oneCell']); (case hfit => simp); intro W hF1; simp only [Fr.patch, List.take_zero, List.nil_append, List.drop, List.append_nil, List.take, List.cons_append, List.length_cons, List.length_nil, Nat.reduceAdd] at hF1; have HC1 := hF1.cells; simp only [Fr.Cells, List.length_cons, List.length_nil, Nat.reduceAdd, and_true] at HC1; clear hF HC; have HC := HC1; have hF := Aside0.mk hF1; clear hF1 HC1) | ((first | (with_reducible refine Fr.gate_alloc rfl ?_) | (with_reducible refine Fr.gate_box rfl ?_)); apply Fr.fr_box hF.out rfl; (case hrun => first | (go_simp; done) | (go_simp; rfl)); intro g W hF1; have HC1 := hF1.cells; simp only [Fr.Cells, List.length_cons, List.length_nil, Nat.reduceAdd, and_true] at HC1; clear hF HC; have HC := HC1; have hF := Aside0.mk hF1; clear hF1 HC1))
  go_ret
  exact ⟨rfl, hF.out.below⟩
set_option maxHeartbeats 8000000 in
set_option maxRecDepth 100000 in
theorem rtells_c3 (c : Cf) (A0 : Option Addr) (c0 : Nat) (A1 : Option Addr) (c1 : Nat) (A2 : Option Addr) (c2 : Nat) (l : List S92) (i p : Int) (w : World) (hr0 : Kd.C k76 w A0 c.rs.length c.rs) (hl0 : c.rs.length ≤ c0) (hr1 : Kd.C k58 w A1 c.ro.length c.ro) (hl1 : c.ro.length ≤ c1) (hr2 : Kd.C k92 w A2 l.length l) (hl2 : l.length ≤ c2) (hwf : ∀ x ∈ c.ro, WfR x)
    (q : Cf) (hq : cutC c = q) (L : List S92) (hL : l.take 5 = L) (K : Nat) (kk : Nat) (e2 : chooseE q L = 0) (e1 : chooseV q L = (kk : Int)) (e4 : chainE q i p = 3) (e3 : recvV q i p = 0) (e5 : afterV q i p = 0) (r1 : foghornref13_Right.f K q.rs q.ro q.rep q.beat = some true) (r2 : foghornref10_Right.f K L = some true) (r3 : foghornref15_Choose.f K q.rs q.ro q.rep q.beat L = some (kk : Int)) (r4 : foghornref15_Has.f q.rs q.ro q.rep q.beat i p = some false)  :
    Calls Try.prog 8 #[.agg #[.slice A0 c.rs.length c0, .slice A1 c.ro.length c1, .int .i64 c.rep, .int .i64 c.beat], .slice A2 l.length c2, .int .i64 i, .int .i64 p] w fun e w' => e = .returned (.bool true) ∧ Below w.heap.size w w' := by
  have hm0 := hr0.2.1
  have hm1 := hr1.2.1
  have hm2 := hr2.2.1
  have hq0 : Kd.C k76 w A0 q.rs.length q.rs := take_C 6 hr0 (by rw [← hq]; rfl)
  have hq1 : Kd.C k58 w A1 q.ro.length q.ro := take_C 6 hr1 (by rw [← hq]; rfl)
  have hqL : Kd.C k92 w A2 L.length L := take_C 5 hr2 hL
  have hq0l : q.rs.length ≤ c0 := by rw [← hq]; have := List.length_take_le 6 c.rs; show (c.rs.take 6).length ≤ c0; rw [List.length_take]; omega
  have hq1l : q.ro.length ≤ c1 := by rw [← hq]; show (c.ro.take 6).length ≤ c1; rw [List.length_take]; omega
  have hqLl : L.length ≤ c2 := by rw [← hL]; rw [List.length_take]; omega
  have hqwf : ∀ x ∈ q.ro, WfR x := fun x hx => hwf x (by rw [← hq] at hx; exact List.mem_of_mem_take hx)
  have H30 := Aside0.mk (fun W => few_calls 30 (.inl rfl) c A0 c0 A1 c1 W hl0 hl1 hm0 hm1)
  rw [hq] at H30
  have H31 := Aside0.mk (fun W => some31 A2 c2 l W hl2 hm2)
  rw [hL] at H31
  have HCH := Aside0.mk (fun W (hb : Below w.heap.size w W) => choose_calls q A0 c0 A1 c1 A2 c2 L W (Kd.C_below hq0 hb) hq0l (Kd.C_below hq1 hb) hqwf (Kd.C_below hqL hb))
  have HRV := Aside0.mk (fun W (hb : Below w.heap.size w W) => receiver_calls q A0 c0 A1 c1 i p W (Kd.C_below hq0 hb) hq0l (Kd.C_below hq1 hb) hqwf)
  have HAF := Aside0.mk (fun W (hb : Below w.heap.size w W) => after_calls q A0 c0 A1 c1 i p W (Kd.C_below hq0 hb) hq0l (Kd.C_below hq1 hb) hqwf)
  have HQ0 := Aside0.mk hq0
  have HQ1 := Aside0.mk hq1
  have HQL := Aside0.mk hqL
  have HQ0L := Aside0.mk hq0l
  have HQ1L := Aside0.mk hq1l
  have HQLL := Aside0.mk hqLl
  have Xe1 := Aside0.mk e1
  have Xe2 := Aside0.mk e2
  have Xe3 := Aside0.mk e3
  have Xe4 := Aside0.mk e4
  have Xe5 := Aside0.mk e5
  have Xr1 := Aside0.mk r1
  have Xr2 := Aside0.mk r2
  have Xr3 := Aside0.mk r3
  have Xr4 := Aside0.mk r4
  clear hr0 hl0 hr1 hl1 hr2 hl2 hwf hq hL hm0 hm1 hm2 hq0 hq1 hqL hq0l hq1l hqLl hqwf e1 e2 e3 e4 e5 r1 r2 r3 r4
  have hF := Aside0.mk (Fr.Frame.start w)
  have HC : True := trivial
  go_enter Try.func8, Try.ntmps8
  go_wp2_with (first | ((with_reducible refine gate_store rfl ?_); apply Fr.fr_store hF.out rfl rfl rfl; (case hp => rfl); (case hx => first | (go_simp; rfl) | rfl); (case hu => (simp only [Value.cells]; rfl)); (case hs => (repeat (first | exact Fr.Spot.here _ _ | apply Fr.Spot.there))); (case ht => kernel_rfl); (case h1 => simp [Value.oneCell']); (case hfit => simp); intro W hF1; simp only [Fr.patch, List.take_zero, List.nil_append, List.drop, List.append_nil, List.take, List.cons_append, List.length_cons, List.length_nil, Nat.reduceAdd] at hF1; have HC1 := hF1.cells; simp only [Fr.Cells, List.length_cons, List.length_nil, Nat.reduceAdd, and_true] at HC1; clear hF HC; have HC := HC1; have hF := Aside0.mk hF1; clear hF1 HC1) | ((first | (with_reducible refine Fr.gate_alloc rfl ?_) | (with_reducible refine Fr.gate_box rfl ?_)); apply Fr.fr_box hF.out rfl; (case hrun => first | (go_simp; done) | (go_simp; rfl)); intro g W hF1; have HC1 := hF1.cells; simp only [Fr.Cells, List.length_cons, List.length_nil, Nat.reduceAdd, and_true] at HC1; clear hF HC; have HC := HC1; have hF := Aside0.mk hF1; clear hF1 HC1))
  (with_reducible refine (H30.out _).mono ?_); rintro e W ⟨rfl, hb⟩; have hF1 := hF.out.call hb; clear hb; have HC1 := hF1.cells; simp only [Fr.Cells, List.length_cons, List.length_nil, Nat.reduceAdd, and_true] at HC1; clear hF HC; have HC := HC1; have hF := Aside0.mk hF1; clear hF1 HC1
  go_wp2_with (first | ((with_reducible refine gate_store rfl ?_); apply Fr.fr_store hF.out rfl rfl rfl; (case hp => rfl); (case hx => first | (go_simp; rfl) | rfl); (case hu => (simp only [Value.cells]; rfl)); (case hs => (repeat (first | exact Fr.Spot.here _ _ | apply Fr.Spot.there))); (case ht => kernel_rfl); (case h1 => simp [Value.oneCell']); (case hfit => simp); intro W hF1; simp only [Fr.patch, List.take_zero, List.nil_append, List.drop, List.append_nil, List.take, List.cons_append, List.length_cons, List.length_nil, Nat.reduceAdd] at hF1; have HC1 := hF1.cells; simp only [Fr.Cells, List.length_cons, List.length_nil, Nat.reduceAdd, and_true] at HC1; clear hF HC; have HC := HC1; have hF := Aside0.mk hF1; clear hF1 HC1) | ((first | (with_reducible refine Fr.gate_alloc rfl ?_) | (with_reducible refine Fr.gate_box rfl ?_)); apply Fr.fr_box hF.out rfl; (case hrun => first | (go_simp; done) | (go_simp; rfl)); intro g W hF1; have HC1 := hF1.cells; simp only [Fr.Cells, List.length_cons, List.length_nil, Nat.reduceAdd, and_true] at HC1; clear hF HC; have HC := HC1; have hF := Aside0.mk hF1; clear hF1 HC1))
  (with_reducible refine (H31.out _).mono ?_)
  rintro e W' ⟨rfl, rfl⟩
  iterate 10 (go_wp2_with (first | ((with_reducible refine gate_store rfl ?_); apply Fr.fr_store hF.out rfl rfl rfl; (case hp => rfl); (case hx => first | (go_simp; rfl) | rfl); (case hu => (simp only [Value.cells]; rfl)); (case hs => (repeat (first | exact Fr.Spot.here _ _ | apply Fr.Spot.there))); (case ht => kernel_rfl); (case h1 => simp [Value.oneCell']); (case hfit => simp); intro W hF1; simp only [Fr.patch, List.take_zero, List.nil_append, List.drop, List.append_nil, List.take, List.cons_append, List.length_cons, List.length_nil, Nat.reduceAdd] at hF1; have HC1 := hF1.cells; simp only [Fr.Cells, List.length_cons, List.length_nil, Nat.reduceAdd, and_true] at HC1; clear hF HC; have HC := HC1; have hF := Aside0.mk hF1; clear hF1 HC1) | ((first | (with_reducible refine Fr.gate_alloc rfl ?_) | (with_reducible refine Fr.gate_box rfl ?_)); apply Fr.fr_box hF.out rfl; (case hrun => first | (go_simp; done) | (go_simp; rfl)); intro g W hF1; have HC1 := hF1.cells; simp only [Fr.Cells, List.length_cons, List.length_nil, Nat.reduceAdd, and_true] at HC1; clear hF HC; have HC := HC1; have hF := Aside0.mk hF1; clear hF1 HC1)); try ((first | ((with_reducible refine (HCH.out _ hF.out.below).mono ?_); rintro e W ⟨rfl, hb⟩; have hF1 := hF.out.call hb; clear hb; simp only [Xe1.out, Xe2.out]) | ((with_reducible refine (HRV.out _ hF.out.below).mono ?_); rintro e W ⟨rfl, hb⟩; have hF1 := hF.out.call hb; clear hb; simp only [Xe3.out, Xe4.out]) | ((with_reducible refine (HAF.out _ hF.out.below).mono ?_); rintro e W ⟨rfl, hb⟩; have hF1 := hF.out.call hb; clear hb; simp only [Xe5.out, Xe4.out]) | ((with_reducible refine (alive33_calls _).mono ?_); rintro e W ⟨rfl, hb⟩; have hF1 := hF.out.call hb; clear hb) | ((with_reducible refine (foghornref13_Right.calls K A0 c0 q.rs A1 c1 q.ro q.rep q.beat _ _ (Kd.C_below HQ0.out hF.out.below) HQ0L.out (Kd.C_below HQ1.out hF.out.below) HQ1L.out Xr1.out).mono ?_); rintro e W ⟨rfl, hb⟩; have hF1 := hF.out.call hb; clear hb) | ((with_reducible refine (foghornref10_Right.calls K A2 c2 L _ _ (Kd.C_below HQL.out hF.out.below) HQLL.out Xr2.out).mono ?_); rintro e W ⟨rfl, hb⟩; have hF1 := hF.out.call hb; clear hb) | ((with_reducible refine (foghornref15_Choose.calls K A0 c0 q.rs A1 c1 q.ro q.rep q.beat A2 c2 L _ _ (Kd.C_below HQ0.out hF.out.below) HQ0L.out (Kd.C_below HQ1.out hF.out.below) HQ1L.out (Kd.C_below HQL.out hF.out.below) HQLL.out Xr3.out).mono ?_); rintro e W ⟨rfl, hb⟩; have hF1 := hF.out.call hb; clear hb) | ((with_reducible refine (foghornref15_Has.calls A0 c0 q.rs A1 c1 q.ro q.rep q.beat i p _ _ (Kd.C_below HQ0.out hF.out.below) HQ0L.out (Kd.C_below HQ1.out hF.out.below) HQ1L.out Xr4.out).mono ?_); rintro e W ⟨rfl, hb⟩; have hF1 := hF.out.call hb; clear hb)); have HC1 := hF1.cells; simp only [Fr.Cells, List.length_cons, List.length_nil, Nat.reduceAdd, and_true] at HC1; clear hF HC; have HC := HC1; have hF := Aside0.mk hF1; clear hF1 HC1))
  go_ret
  exact ⟨rfl, hF.out.below⟩
set_option maxHeartbeats 8000000 in
set_option maxRecDepth 100000 in
theorem rtells_c0 (c : Cf) (A0 : Option Addr) (c0 : Nat) (A1 : Option Addr) (c1 : Nat) (A2 : Option Addr) (c2 : Nat) (l : List S92) (i p : Int) (w : World) (hr0 : Kd.C k76 w A0 c.rs.length c.rs) (hl0 : c.rs.length ≤ c0) (hr1 : Kd.C k58 w A1 c.ro.length c.ro) (hl1 : c.ro.length ≤ c1) (hr2 : Kd.C k92 w A2 l.length l) (hl2 : l.length ≤ c2) (hwf : ∀ x ∈ c.ro, WfR x)
    (q : Cf) (hq : cutC c = q) (L : List S92) (hL : l.take 5 = L) (K : Nat) (kk : Nat) (av : Int) (e2 : chooseE q L = 0) (e1 : chooseV q L = (kk : Int)) (e4 : chainE q i p = 0) (e3 : recvV q i p = rd (rd_T58 q.ro i).f0 p) (e5 : afterV q i p = av) (k1 : 0 ≤ i) (k2 : i < (q.ro.length : Int)) (k3 : 0 ≤ p) (k4 : p < ((rd_T58 q.ro i).f0.length : Int)) (r1 : foghornref13_Right.f K q.rs q.ro q.rep q.beat = some true) (r2 : foghornref10_Right.f K L = some true) (r3 : foghornref15_Choose.f K q.rs q.ro q.rep q.beat L = some (kk : Int)) (r4 : foghornref15_Has.f q.rs q.ro q.rep q.beat i p = some true) (r5 : foghornref15_After.f q.rs q.ro q.rep q.beat i p = some av)  :
    Calls Try.prog 8 #[.agg #[.slice A0 c.rs.length c0, .slice A1 c.ro.length c1, .int .i64 c.rep, .int .i64 c.beat], .slice A2 l.length c2, .int .i64 i, .int .i64 p] w fun e w' => e = .returned (.bool true) ∧ Below w.heap.size w w' := by
  have hm0 := hr0.2.1
  have hm1 := hr1.2.1
  have hm2 := hr2.2.1
  have hq0 : Kd.C k76 w A0 q.rs.length q.rs := take_C 6 hr0 (by rw [← hq]; rfl)
  have hq1 : Kd.C k58 w A1 q.ro.length q.ro := take_C 6 hr1 (by rw [← hq]; rfl)
  have hqL : Kd.C k92 w A2 L.length L := take_C 5 hr2 hL
  have hq0l : q.rs.length ≤ c0 := by rw [← hq]; have := List.length_take_le 6 c.rs; show (c.rs.take 6).length ≤ c0; rw [List.length_take]; omega
  have hq1l : q.ro.length ≤ c1 := by rw [← hq]; show (c.ro.take 6).length ≤ c1; rw [List.length_take]; omega
  have hqLl : L.length ≤ c2 := by rw [← hL]; rw [List.length_take]; omega
  have hqwf : ∀ x ∈ q.ro, WfR x := fun x hx => hwf x (by rw [← hq] at hx; exact List.mem_of_mem_take hx)
  have H30 := Aside0.mk (fun W => few_calls 30 (.inl rfl) c A0 c0 A1 c1 W hl0 hl1 hm0 hm1)
  rw [hq] at H30
  have H31 := Aside0.mk (fun W => some31 A2 c2 l W hl2 hm2)
  rw [hL] at H31
  have HCH := Aside0.mk (fun W (hb : Below w.heap.size w W) => choose_calls q A0 c0 A1 c1 A2 c2 L W (Kd.C_below hq0 hb) hq0l (Kd.C_below hq1 hb) hqwf (Kd.C_below hqL hb))
  have HRV := Aside0.mk (fun W (hb : Below w.heap.size w W) => receiver_calls q A0 c0 A1 c1 i p W (Kd.C_below hq0 hb) hq0l (Kd.C_below hq1 hb) hqwf)
  have HAF := Aside0.mk (fun W (hb : Below w.heap.size w W) => after_calls q A0 c0 A1 c1 i p W (Kd.C_below hq0 hb) hq0l (Kd.C_below hq1 hb) hqwf)
  have HQ0 := Aside0.mk hq0
  have HQ1 := Aside0.mk hq1
  have HQL := Aside0.mk hqL
  have HQ0L := Aside0.mk hq0l
  have HQ1L := Aside0.mk hq1l
  have HQLL := Aside0.mk hqLl
  have Xe1 := Aside0.mk e1
  have Xe2 := Aside0.mk e2
  have Xe3 := Aside0.mk e3
  have Xe4 := Aside0.mk e4
  have Xe5 := Aside0.mk e5
  have Xk1 := Aside0.mk k1
  have Xk2 := Aside0.mk k2
  have Xk3 := Aside0.mk k3
  have Xk4 := Aside0.mk k4
  have Xr1 := Aside0.mk r1
  have Xr2 := Aside0.mk r2
  have Xr3 := Aside0.mk r3
  have Xr4 := Aside0.mk r4
  have Xr5 := Aside0.mk r5
  clear hr0 hl0 hr1 hl1 hr2 hl2 hwf hq hL hm0 hm1 hm2 hq0 hq1 hqL hq0l hq1l hqLl hqwf e1 e2 e3 e4 e5 k1 k2 k3 k4 r1 r2 r3 r4 r5
  have hF := Aside0.mk (Fr.Frame.start w)
  have HC : True := trivial
  go_enter Try.func8, Try.ntmps8
  go_wp2_with (first | ((with_reducible refine gate_store rfl ?_); apply Fr.fr_store hF.out rfl rfl rfl; (case hp => rfl); (case hx => first | (go_simp; rfl) | rfl); (case hu => (simp only [Value.cells]; rfl)); (case hs => (repeat (first | exact Fr.Spot.here _ _ | apply Fr.Spot.there))); (case ht => kernel_rfl); (case h1 => simp [Value.oneCell']); (case hfit => simp); intro W hF1; simp only [Fr.patch, List.take_zero, List.nil_append, List.drop, List.append_nil, List.take, List.cons_append, List.length_cons, List.length_nil, Nat.reduceAdd] at hF1; have HC1 := hF1.cells; simp only [Fr.Cells, List.length_cons, List.length_nil, Nat.reduceAdd, and_true] at HC1; clear hF HC; have HC := HC1; have hF := Aside0.mk hF1; clear hF1 HC1) | ((first | (with_reducible refine Fr.gate_alloc rfl ?_) | (with_reducible refine Fr.gate_box rfl ?_)); apply Fr.fr_box hF.out rfl; (case hrun => first | (go_simp; done) | (go_simp; rfl)); intro g W hF1; have HC1 := hF1.cells; simp only [Fr.Cells, List.length_cons, List.length_nil, Nat.reduceAdd, and_true] at HC1; clear hF HC; have HC := HC1; have hF := Aside0.mk hF1; clear hF1 HC1))
  (with_reducible refine (H30.out _).mono ?_); rintro e W ⟨rfl, hb⟩; have hF1 := hF.out.call hb; clear hb; have HC1 := hF1.cells; simp only [Fr.Cells, List.length_cons, List.length_nil, Nat.reduceAdd, and_true] at HC1; clear hF HC; have HC := HC1; have hF := Aside0.mk hF1; clear hF1 HC1
  go_wp2_with (first | ((with_reducible refine gate_store rfl ?_); apply Fr.fr_store hF.out rfl rfl rfl; (case hp => rfl); (case hx => first | (go_simp; rfl) | rfl); (case hu => (simp only [Value.cells]; rfl)); (case hs => (repeat (first | exact Fr.Spot.here _ _ | apply Fr.Spot.there))); (case ht => kernel_rfl); (case h1 => simp [Value.oneCell']); (case hfit => simp); intro W hF1; simp only [Fr.patch, List.take_zero, List.nil_append, List.drop, List.append_nil, List.take, List.cons_append, List.length_cons, List.length_nil, Nat.reduceAdd] at hF1; have HC1 := hF1.cells; simp only [Fr.Cells, List.length_cons, List.length_nil, Nat.reduceAdd, and_true] at HC1; clear hF HC; have HC := HC1; have hF := Aside0.mk hF1; clear hF1 HC1) | ((first | (with_reducible refine Fr.gate_alloc rfl ?_) | (with_reducible refine Fr.gate_box rfl ?_)); apply Fr.fr_box hF.out rfl; (case hrun => first | (go_simp; done) | (go_simp; rfl)); intro g W hF1; have HC1 := hF1.cells; simp only [Fr.Cells, List.length_cons, List.length_nil, Nat.reduceAdd, and_true] at HC1; clear hF HC; have HC := HC1; have hF := Aside0.mk hF1; clear hF1 HC1))
  (with_reducible refine (H31.out _).mono ?_)
  rintro e W' ⟨rfl, rfl⟩
  iterate 9 (go_wp2_with (first | ((with_reducible refine gate_store rfl ?_); apply Fr.fr_store hF.out rfl rfl rfl; (case hp => rfl); (case hx => first | (go_simp; rfl) | rfl); (case hu => (simp only [Value.cells]; rfl)); (case hs => (repeat (first | exact Fr.Spot.here _ _ | apply Fr.Spot.there))); (case ht => kernel_rfl); (case h1 => simp [Value.oneCell']); (case hfit => simp); intro W hF1; simp only [Fr.patch, List.take_zero, List.nil_append, List.drop, List.append_nil, List.take, List.cons_append, List.length_cons, List.length_nil, Nat.reduceAdd] at hF1; have HC1 := hF1.cells; simp only [Fr.Cells, List.length_cons, List.length_nil, Nat.reduceAdd, and_true] at HC1; clear hF HC; have HC := HC1; have hF := Aside0.mk hF1; clear hF1 HC1) | ((first | (with_reducible refine Fr.gate_alloc rfl ?_) | (with_reducible refine Fr.gate_box rfl ?_)); apply Fr.fr_box hF.out rfl; (case hrun => first | (go_simp; done) | (go_simp; rfl)); intro g W hF1; have HC1 := hF1.cells; simp only [Fr.Cells, List.length_cons, List.length_nil, Nat.reduceAdd, and_true] at HC1; clear hF HC; have HC := HC1; have hF := Aside0.mk hF1; clear hF1 HC1)); try ((first | ((with_reducible refine (HCH.out _ hF.out.below).mono ?_); rintro e W ⟨rfl, hb⟩; have hF1 := hF.out.call hb; clear hb; simp only [Xe1.out, Xe2.out]) | ((with_reducible refine (HRV.out _ hF.out.below).mono ?_); rintro e W ⟨rfl, hb⟩; have hF1 := hF.out.call hb; clear hb; simp only [Xe3.out, Xe4.out]) | ((with_reducible refine (HAF.out _ hF.out.below).mono ?_); rintro e W ⟨rfl, hb⟩; have hF1 := hF.out.call hb; clear hb; simp only [Xe5.out, Xe4.out]) | ((with_reducible refine (alive33_calls _).mono ?_); rintro e W ⟨rfl, hb⟩; have hF1 := hF.out.call hb; clear hb) | ((with_reducible refine (foghornref13_Right.calls K A0 c0 q.rs A1 c1 q.ro q.rep q.beat _ _ (Kd.C_below HQ0.out hF.out.below) HQ0L.out (Kd.C_below HQ1.out hF.out.below) HQ1L.out Xr1.out).mono ?_); rintro e W ⟨rfl, hb⟩; have hF1 := hF.out.call hb; clear hb) | ((with_reducible refine (foghornref10_Right.calls K A2 c2 L _ _ (Kd.C_below HQL.out hF.out.below) HQLL.out Xr2.out).mono ?_); rintro e W ⟨rfl, hb⟩; have hF1 := hF.out.call hb; clear hb) | ((with_reducible refine (foghornref15_Choose.calls K A0 c0 q.rs A1 c1 q.ro q.rep q.beat A2 c2 L _ _ (Kd.C_below HQ0.out hF.out.below) HQ0L.out (Kd.C_below HQ1.out hF.out.below) HQ1L.out (Kd.C_below HQL.out hF.out.below) HQLL.out Xr3.out).mono ?_); rintro e W ⟨rfl, hb⟩; have hF1 := hF.out.call hb; clear hb)); have HC1 := hF1.cells; simp only [Fr.Cells, List.length_cons, List.length_nil, Nat.reduceAdd, and_true] at HC1; clear hF HC; have HC := HC1; have hF := Aside0.mk hF1; clear hF1 HC1))
  (with_reducible refine (foghornref15_Has.calls A0 c0 q.rs A1 c1 q.ro q.rep q.beat i p _ _ (Kd.C_below HQ0.out hF.out.below) HQ0L.out (Kd.C_below HQ1.out hF.out.below) HQ1L.out Xr4.out).mono ?_); rintro e W ⟨rfl, hb⟩; have hF1 := hF.out.call hb; clear hb; have HC1 := hF1.cells; simp only [Fr.Cells, List.length_cons, List.length_nil, Nat.reduceAdd, and_true] at HC1; clear hF HC; have HC := HC1; have hF := Aside0.mk hF1; clear hF1 HC1
  obtain ⟨ad, B0, d0, B1, d1, ee1, a0, a1, g0, g1, g2, g3⟩ := at_T58 (Kd.C_below HQ1.out hF.out.below) i Xk1.out Xk2.out
  cases ee1
  obtain ⟨ad2, ee2, b0⟩ := Kd.at_int g1 p Xk3.out Xk4.out
  cases ee2
  have hxl : (rd_T58 q.ro i).f0.length ≤ 9223372036854775807 := g1.2.1
  have hk1 := Xk1.out
  have hk2 := Xk2.out
  have hk3 := Xk3.out
  have hk4 := Xk4.out
  clear g0 g1 g2 g3
  go_wp2_with (first | ((with_reducible refine gate_store rfl ?_); apply Fr.fr_store hF.out rfl rfl rfl; (case hp => rfl); (case hx => first | (go_simp; rfl) | rfl); (case hu => (simp only [Value.cells]; rfl)); (case hs => (repeat (first | exact Fr.Spot.here _ _ | apply Fr.Spot.there))); (case ht => kernel_rfl); (case h1 => simp [Value.oneCell']); (case hfit => simp); intro W hF1; simp only [Fr.patch, List.take_zero, List.nil_append, List.drop, List.append_nil, List.take, List.cons_append, List.length_cons, List.length_nil, Nat.reduceAdd] at hF1; have HC1 := hF1.cells; simp only [Fr.Cells, List.length_cons, List.length_nil, Nat.reduceAdd, and_true] at HC1; clear hF HC; have HC := HC1; have hF := Aside0.mk hF1; clear hF1 HC1) | ((first | (with_reducible refine Fr.gate_alloc rfl ?_) | (with_reducible refine Fr.gate_box rfl ?_)); apply Fr.fr_box hF.out rfl; (case hrun => first | (go_simp; done) | (go_simp; rfl)); intro g W hF1; have HC1 := hF1.cells; simp only [Fr.Cells, List.length_cons, List.length_nil, Nat.reduceAdd, and_true] at HC1; clear hF HC; have HC := HC1; have hF := Aside0.mk hF1; clear hF1 HC1))
  (with_reducible refine (foghornref15_After.calls A0 c0 q.rs (some ad) c1 q.ro q.rep q.beat i p _ _ (Kd.C_below HQ0.out hF.out.below) HQ0L.out (Kd.C_below HQ1.out hF.out.below) HQ1L.out Xr5.out).mono ?_); rintro e W ⟨rfl, hb⟩; have hF1 := hF.out.call hb; clear hb; have HC1 := hF1.cells; simp only [Fr.Cells, List.length_cons, List.length_nil, Nat.reduceAdd, and_true] at HC1; clear hF HC; have HC := HC1; have hF := Aside0.mk hF1; clear hF1 HC1
  go_wp2_with (first | ((with_reducible refine gate_store rfl ?_); apply Fr.fr_store hF.out rfl rfl rfl; (case hp => rfl); (case hx => first | (go_simp; rfl) | rfl); (case hu => (simp only [Value.cells]; rfl)); (case hs => (repeat (first | exact Fr.Spot.here _ _ | apply Fr.Spot.there))); (case ht => kernel_rfl); (case h1 => simp [Value.oneCell']); (case hfit => simp); intro W hF1; simp only [Fr.patch, List.take_zero, List.nil_append, List.drop, List.append_nil, List.take, List.cons_append, List.length_cons, List.length_nil, Nat.reduceAdd] at hF1; have HC1 := hF1.cells; simp only [Fr.Cells, List.length_cons, List.length_nil, Nat.reduceAdd, and_true] at HC1; clear hF HC; have HC := HC1; have hF := Aside0.mk hF1; clear hF1 HC1) | ((first | (with_reducible refine Fr.gate_alloc rfl ?_) | (with_reducible refine Fr.gate_box rfl ?_)); apply Fr.fr_box hF.out rfl; (case hrun => first | (go_simp; done) | (go_simp; rfl)); intro g W hF1; have HC1 := hF1.cells; simp only [Fr.Cells, List.length_cons, List.length_nil, Nat.reduceAdd, and_true] at HC1; clear hF HC; have HC := HC1; have hF := Aside0.mk hF1; clear hF1 HC1))
  go_ret
  exact ⟨rfl, hF.out.below⟩
end Go.Proofs.Ytkphinfijppkeaa.G
