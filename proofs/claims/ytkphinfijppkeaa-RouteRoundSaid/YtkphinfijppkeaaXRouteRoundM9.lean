/- Contracts of functions of the given program, and what they come to, for any arguments. No condition beyond each theorem's own premises. -/
import Derived.Test.YtkphinfijppkeaaXRouteRoundM8
import Derived.Maps.OwnSet
namespace Go.Proofs.Ytkphinfijppkeaa.G
open Go.RowKit Go.Proofs.YtkphinfijppkeaaW.PrintWords Go.Proofs.YtkphinfijppkeaaW.PrintLast Go.Proofs.YtkphinfijppkeaaW.PrintMore
attribute [local go_sem] max2_int min2_int max_two min_two max_three min_three max_four min_four
set_option linter.unusedVariables false
set_option linter.unusedSimpArgs false
def LOk (x : S92) : Prop := x.f0.size ≤ M63 ∧ x.f1.size ≤ M63
def W74 (x : S74) : Prop := ((Lit.int .i64 x.f0).wf = true) ∧ ((Lit.int .i64 x.f1).wf = true) ∧ ((Lit.int .i64 x.f2).wf = true)
def W76 (x : S76) : Prop := (x.f0.size ≤ maxLen) ∧ (W74 x.f1) ∧ ((Lit.int .i64 x.f2).wf = true) ∧ ((Lit.int .i64 x.f3).wf = true) ∧ ((Lit.int .i64 x.f4).wf = true) ∧ ((Lit.int .i64 x.f5).wf = true) ∧ ((Lit.int .i64 x.f6).wf = true)
def W88 (x : S88) : Prop := ((Lit.int .i64 x.f0).wf = true) ∧ (x.f1.size ≤ maxLen) ∧ (x.f2.size ≤ maxLen)
def W58 (x : S58) : Prop := (x.f0.length ≤ maxLen ∧ ∀ x_ ∈ x.f0, ((Lit.int .i64 x_).wf = true)) ∧ (x.f1.length ≤ maxLen ∧ ∀ x_ ∈ x.f1, (W88 x_))
def WCf (rs : List S76) (ro : List S58) (rep beat : Int) : Prop := (rs.length ≤ maxLen ∧ ∀ x_ ∈ rs, (W76 x_)) ∧ (ro.length ≤ maxLen ∧ ∀ x_ ∈ ro, (W58 x_)) ∧ ((Lit.int .i64 rep).wf = true) ∧ ((Lit.int .i64 beat).wf = true)
def WLs (l : List S92) : Prop := l.length ≤ maxLen ∧ ∀ z ∈ l, (z.f0.size ≤ maxLen) ∧ (z.f1.size ≤ maxLen)
theorem WCf.ok {rs : List S76} {ro : List S58} {rep beat : Int} (h : WCf rs ro rep beat) : CfOk ⟨rs, ro, rep, beat⟩ ∧ ∀ x ∈ ro, WfR x :=
  ⟨⟨h.1.1, h.2.1.1, fun r hr => (h.1.2 r hr).1, fun x hx => ⟨(h.2.1.2 x hx).1.1, (h.2.1.2 x hx).2.1, fun m hm => ⟨((h.2.1.2 x hx).2.2 m hm).2.1, ((h.2.1.2 x hx).2.2 m hm).2.2⟩⟩⟩, fun x hx k hk => (h.2.1.2 x hx).1.2 k hk⟩
theorem WLs.ok {l : List S92} (h : WLs l) : ∀ x ∈ l, LOk x := fun x hx => h.2 x hx
end Go.Proofs.Ytkphinfijppkeaa.G
namespace Go.Proofs.Ytkphinfijppkeaa.G
open Go.RowKit Go.Proofs.YtkphinfijppkeaaW.PrintWords Go.Proofs.YtkphinfijppkeaaW.PrintLast Go.Proofs.YtkphinfijppkeaaW.PrintMore
attribute [local go_sem] max2_int min2_int max_two min_two max_three min_three max_four min_four
set_option linter.unusedVariables false
set_option linter.unusedSimpArgs false
open Go.Maps
theorem mD_tidy : ∀ (l : List Int), Tidy (mD l) := fun l => snocRec (p := fun l => Tidy (mD l)) tidy_empty (fun l x ih => by rw [mD_snoc]; exact ih.put (key_int _ _) _) l.length l rfl
theorem mD_size (l : List Int) : l.Nodup → Maps.size (mD l) = l.length :=
  snocRec (p := fun l => l.Nodup → Maps.size (mD l) = l.length) (fun _ => rfl) (fun l x ih h => by
    have h1 : l.Nodup := (List.nodup_append.1 h).1
    have h2 : x ∉ l := fun hx => (List.nodup_append.1 h).2.2 x hx x (by simp) rfl
    rw [mD_snoc, size_put (mD_tidy l), has_false_of_atKey (fun z => mD_no x z l h2), ih h1]
    simp) l.length l rfl
def roundL (xs : List Int) (P j : Nat) : List Int := (List.range j).map fun t => rd xs (((P + t) % xs.length : Nat) : Int)
theorem roundL_snoc (xs : List Int) (P j : Nat) : roundL xs P (j + 1) = roundL xs P j ++ [rd xs (((P + j) % xs.length : Nat) : Int)] := by
  unfold roundL
  rw [List.range_succ, List.map_append]; rfl
theorem roundL_len (xs : List Int) (P j : Nat) : (roundL xs P j).length = j := by simp [roundL]
theorem mod_apart {n P a b : Nat} (hn : 0 < n) (ha : a < b) (hb : b < n) : (P + a) % n ≠ (P + b) % n := by
  intro h
  have h1 : (P + b) - (P + a) = b - a := by omega
  have h2 : ((P + b) - (P + a)) % n = 0 := Nat.sub_mod_eq_zero_of_mod_eq h.symm
  rw [h1, Nat.mod_eq_of_lt (by omega)] at h2
  omega
theorem chain_apart {n : Int} {xs : List Int} (h : chainB n xs = true) {a b : Nat} (ha : a < xs.length) (hb : b < xs.length) (hne : a ≠ b) : rd xs (a : Nat) ≠ rd xs (b : Nat) := by
  have key : ∀ i j : Nat, i < j → j < xs.length → rd xs (i : Nat) ≠ rd xs (j : Nat) := fun i j hij hj e => by
    unfold chainB at h
    have h1 := List.all_eq_true.1 h j (List.mem_range.2 hj)
    simp only [Bool.and_eq_true, Bool.not_eq_true', ← Bool.not_eq_true, List.contains_iff_mem] at h1
    refine h1.2.2 ?_
    rw [← e]
    have hi : i < xs.length := by omega
    rw [show rd xs (i : Nat) = xs[i] by simp [rd, List.getD_eq_getElem?_getD, hi]]
    exact List.mem_take_iff_getElem.2 ⟨i, by omega, rfl⟩
  rcases Nat.lt_or_gt_of_ne hne with hl | hl
  · exact key a b hl hb
  · exact fun e => key b a hl ha e.symm
theorem round_new {n : Int} {xs : List Int} (h : chainB n xs = true) (P j : Nat) (hj : j < xs.length) : rd xs (((P + j) % xs.length : Nat) : Int) ∉ roundL xs P j := by
  intro hm
  obtain ⟨t, ht, e⟩ := List.mem_map.1 hm
  rw [List.mem_range] at ht
  exact chain_apart h (Nat.mod_lt _ (by omega)) (Nat.mod_lt _ (by omega)) (mod_apart (by omega) ht hj) e
theorem round_nodup {n : Int} {xs : List Int} (h : chainB n xs = true) (P : Nat) : ∀ j, j ≤ xs.length → (roundL xs P j).Nodup
  | 0, _ => by simp [roundL]
  | j + 1, hj => by
    rw [roundL_snoc, List.nodup_append]
    refine ⟨round_nodup h P j (by omega), by simp, fun a ha b hb e => ?_⟩
    rw [List.mem_singleton] at hb
    subst hb e
    exact round_new h P j (by omega) ha
set_option maxHeartbeats 8000000 in
set_option maxRecDepth 100000 in
theorem rround_no (c : Cf) (A0 : Option Addr) (c0 : Nat) (A1 : Option Addr) (c1 : Nat) (i p : Int) (w : World) (hr0 : Kd.C k76 w A0 c.rs.length c.rs) (hl0 : c.rs.length ≤ c0) (hr1 : Kd.C k58 w A1 c.ro.length c.ro) (hl1 : c.ro.length ≤ c1) (hwf : ∀ x ∈ c.ro, WfR x)
    (q : Cf) (hq : cutC c = q) (he : chainE q i p ≠ 0) :
    Calls Try.prog 9 #[.agg #[.slice A0 c.rs.length c0, .slice A1 c.ro.length c1, .int .i64 c.rep, .int .i64 c.beat], .int .i64 i, .int .i64 p] w fun e w' => e = .returned (.bool true) ∧ Below w.heap.size w w' := by
  have hm0 := hr0.2.1
  have hm1 := hr1.2.1
  have hq0 : Kd.C k76 w A0 q.rs.length q.rs := take_C 6 hr0 (by rw [← hq]; rfl)
  have hq1 : Kd.C k58 w A1 q.ro.length q.ro := take_C 6 hr1 (by rw [← hq]; rfl)
  have hq0l : q.rs.length ≤ c0 := by rw [← hq]; show (c.rs.take 6).length ≤ c0; rw [List.length_take]; omega
  have hqwf : ∀ x ∈ q.ro, WfR x := fun x hx => hwf x (by rw [← hq] at hx; exact List.mem_of_mem_take hx)
  have H30 := Aside0.mk (fun W => few_calls 30 (.inl rfl) c A0 c0 A1 c1 W hl0 hl1 hm0 hm1)
  rw [hq] at H30
  have HRV := Aside0.mk (fun W (a : Int) (hb : Below w.heap.size w W) => receiver_calls q A0 c0 A1 c1 i a W (Kd.C_below hq0 hb) hq0l (Kd.C_below hq1 hb) hqwf)
  have HAF := Aside0.mk (fun W (a : Int) (hb : Below w.heap.size w W) => after_calls q A0 c0 A1 c1 i a W (Kd.C_below hq0 hb) hq0l (Kd.C_below hq1 hb) hqwf)
  have HQ1 := Aside0.mk hq1
  obtain ⟨ee, hee⟩ : ∃ ee, chainE q i p = ee := ⟨_, rfl⟩
  rw [hee] at he
  have HEE := Aside0.mk hee
  have hne : (ee != 0) = true := by rw [bne_iff_ne]; exact he
  clear hr0 hl0 hr1 hl1 hwf hq hm0 hm1 hq0 hq1 hq0l hqwf hee he
  have hF := Aside0.mk (Fr.Frame.start w)
  have HC : True := trivial
  go_enter Try.func9, Try.ntmps9
  go_wp2_with (first | ((with_reducible refine gate_store rfl ?_); apply Fr.fr_store hF.out rfl rfl rfl; (case hp => rfl); (case hx => first | (go_simp; rfl) | rfl); (case hu => (simp only [Value.cells]; rfl)); (case hs => (repeat (first | exact Fr.Spot.here _ _ | apply Fr.Spot.there))); (case ht => kernel_rfl); (case h1 => simp [Value.oneCell']); (case hfit => simp); intro W hF1; simp only [Fr.patch, List.take_zero, List.nil_append, List.drop, List.append_nil, List.take, List.cons_append, List.length_cons, List.length_nil, Nat.reduceAdd] at hF1; have HC1 := hF1.cells; simp only [Fr.Cells, List.length_cons, List.length_nil, Nat.reduceAdd, and_true] at HC1; clear hF HC; have HC := HC1; have hF := Aside0.mk hF1; clear hF1 HC1) | ((first | (with_reducible refine Fr.gate_alloc rfl ?_) | (with_reducible refine Fr.gate_box rfl ?_)); apply Fr.fr_box hF.out rfl; (case hrun => first | (go_simp; done) | (go_simp; rfl)); intro g W hF1; have HC1 := hF1.cells; simp only [Fr.Cells, List.length_cons, List.length_nil, Nat.reduceAdd, and_true] at HC1; clear hF HC; have HC := HC1; have hF := Aside0.mk hF1; clear hF1 HC1))
  (with_reducible refine (H30.out _).mono ?_); rintro e W ⟨rfl, hb⟩; have hF1 := hF.out.call hb; clear hb; have HC1 := hF1.cells; simp only [Fr.Cells, List.length_cons, List.length_nil, Nat.reduceAdd, and_true] at HC1; clear hF HC; have HC := HC1; have hF := Aside0.mk hF1; clear hF1 HC1
  go_wp2_with (first | ((with_reducible refine gate_store rfl ?_); apply Fr.fr_store hF.out rfl rfl rfl; (case hp => rfl); (case hx => first | (go_simp; rfl) | rfl); (case hu => (simp only [Value.cells]; rfl)); (case hs => (repeat (first | exact Fr.Spot.here _ _ | apply Fr.Spot.there))); (case ht => kernel_rfl); (case h1 => simp [Value.oneCell']); (case hfit => simp); intro W hF1; simp only [Fr.patch, List.take_zero, List.nil_append, List.drop, List.append_nil, List.take, List.cons_append, List.length_cons, List.length_nil, Nat.reduceAdd] at hF1; have HC1 := hF1.cells; simp only [Fr.Cells, List.length_cons, List.length_nil, Nat.reduceAdd, and_true] at HC1; clear hF HC; have HC := HC1; have hF := Aside0.mk hF1; clear hF1 HC1) | ((first | (with_reducible refine Fr.gate_alloc rfl ?_) | (with_reducible refine Fr.gate_box rfl ?_)); apply Fr.fr_box hF.out rfl; (case hrun => first | (go_simp; done) | (go_simp; rfl)); intro g W hF1; have HC1 := hF1.cells; simp only [Fr.Cells, List.length_cons, List.length_nil, Nat.reduceAdd, and_true] at HC1; clear hF HC; have HC := HC1; have hF := Aside0.mk hF1; clear hF1 HC1))
  (with_reducible refine (HRV.out _ p hF.out.below).mono ?_); rintro e W ⟨rfl, hb⟩; have hF1 := hF.out.call hb; clear hb; have HC1 := hF1.cells; simp only [Fr.Cells, List.length_cons, List.length_nil, Nat.reduceAdd, and_true] at HC1; clear hF HC; have HC := HC1; have hF := Aside0.mk hF1; clear hF1 HC1
  simp only [HEE.out]
  go_wp2_with (first | ((with_reducible refine gate_store rfl ?_); apply Fr.fr_store hF.out rfl rfl rfl; (case hp => rfl); (case hx => first | (go_simp; rfl) | rfl); (case hu => (simp only [Value.cells]; rfl)); (case hs => (repeat (first | exact Fr.Spot.here _ _ | apply Fr.Spot.there))); (case ht => kernel_rfl); (case h1 => simp [Value.oneCell']); (case hfit => simp); intro W hF1; simp only [Fr.patch, List.take_zero, List.nil_append, List.drop, List.append_nil, List.take, List.cons_append, List.length_cons, List.length_nil, Nat.reduceAdd] at hF1; have HC1 := hF1.cells; simp only [Fr.Cells, List.length_cons, List.length_nil, Nat.reduceAdd, and_true] at HC1; clear hF HC; have HC := HC1; have hF := Aside0.mk hF1; clear hF1 HC1) | ((first | (with_reducible refine Fr.gate_alloc rfl ?_) | (with_reducible refine Fr.gate_box rfl ?_)); apply Fr.fr_box hF.out rfl; (case hrun => first | (go_simp; done) | (go_simp; rfl)); intro g W hF1; have HC1 := hF1.cells; simp only [Fr.Cells, List.length_cons, List.length_nil, Nat.reduceAdd, and_true] at HC1; clear hF HC; have HC := HC1; have hF := Aside0.mk hF1; clear hF1 HC1))
  (with_reducible refine (alive33_calls _).mono ?_); rintro e W ⟨rfl, hb⟩; have hF1 := hF.out.call hb; clear hb; have HC1 := hF1.cells; simp only [Fr.Cells, List.length_cons, List.length_nil, Nat.reduceAdd, and_true] at HC1; clear hF HC; have HC := HC1; have hF := Aside0.mk hF1; clear hF1 HC1
  go_wp2_with (first | ((with_reducible refine gate_store rfl ?_); apply Fr.fr_store hF.out rfl rfl rfl; (case hp => rfl); (case hx => first | (go_simp; rfl) | rfl); (case hu => (simp only [Value.cells]; rfl)); (case hs => (repeat (first | exact Fr.Spot.here _ _ | apply Fr.Spot.there))); (case ht => kernel_rfl); (case h1 => simp [Value.oneCell']); (case hfit => simp); intro W hF1; simp only [Fr.patch, List.take_zero, List.nil_append, List.drop, List.append_nil, List.take, List.cons_append, List.length_cons, List.length_nil, Nat.reduceAdd] at hF1; have HC1 := hF1.cells; simp only [Fr.Cells, List.length_cons, List.length_nil, Nat.reduceAdd, and_true] at HC1; clear hF HC; have HC := HC1; have hF := Aside0.mk hF1; clear hF1 HC1) | ((first | (with_reducible refine Fr.gate_alloc rfl ?_) | (with_reducible refine Fr.gate_box rfl ?_)); apply Fr.fr_box hF.out rfl; (case hrun => first | (go_simp; done) | (go_simp; rfl)); intro g W hF1; have HC1 := hF1.cells; simp only [Fr.Cells, List.length_cons, List.length_nil, Nat.reduceAdd, and_true] at HC1; clear hF HC; have HC := HC1; have hF := Aside0.mk hF1; clear hF1 HC1))
  go_ret
  exact ⟨rfl, hF.out.below⟩
set_option maxHeartbeats 8000000 in
set_option maxRecDepth 100000 in
theorem rround_ok (c : Cf) (A0 : Option Addr) (c0 : Nat) (A1 : Option Addr) (c1 : Nat) (i p : Int) (w : World) (hr0 : Kd.C k76 w A0 c.rs.length c.rs) (hl0 : c.rs.length ≤ c0) (hr1 : Kd.C k58 w A1 c.ro.length c.ro) (hl1 : c.ro.length ≤ c1) (hwf : ∀ x ∈ c.ro, WfR x)
    (q : Cf) (hq : cutC c = q) (he : chainE q i p = 0) (xs : List Int) (hxs : (rd_T58 q.ro i).f0 = xs) (hwx : ∀ k ∈ xs, (Lit.int .i64 k).wf = true) :
    Calls Try.prog 9 #[.agg #[.slice A0 c.rs.length c0, .slice A1 c.ro.length c1, .int .i64 c.rep, .int .i64 c.beat], .int .i64 i, .int .i64 p] w fun e w' => e = .returned (.bool true) ∧ Below w.heap.size w w' := by
  have hm0 := hr0.2.1
  have hm1 := hr1.2.1
  have hq0 : Kd.C k76 w A0 q.rs.length q.rs := take_C 6 hr0 (by rw [← hq]; rfl)
  have hq1 : Kd.C k58 w A1 q.ro.length q.ro := take_C 6 hr1 (by rw [← hq]; rfl)
  have hq0l : q.rs.length ≤ c0 := by rw [← hq]; show (c.rs.take 6).length ≤ c0; rw [List.length_take]; omega
  have hqwf : ∀ x ∈ q.ro, WfR x := fun x hx => hwf x (by rw [← hq] at hx; exact List.mem_of_mem_take hx)
  have H30 := Aside0.mk (fun W => few_calls 30 (.inl rfl) c A0 c0 A1 c1 W hl0 hl1 hm0 hm1)
  rw [hq] at H30
  have HRV := Aside0.mk (fun W (a : Int) (hb : Below w.heap.size w W) => receiver_calls q A0 c0 A1 c1 i a W (Kd.C_below hq0 hb) hq0l (Kd.C_below hq1 hb) hqwf)
  have HAF := Aside0.mk (fun W (a : Int) (hb : Below w.heap.size w W) => after_calls q A0 c0 A1 c1 i a W (Kd.C_below hq0 hb) hq0l (Kd.C_below hq1 hb) hqwf)
  have HQ1 := Aside0.mk hq1
  obtain ⟨hcf, hi0, hi1, hp0, hp1⟩ := chain_facts he
  have hmR : (rd_T58 q.ro i) ∈ q.ro := by
    have := rd_get58 q.ro i.toNat (by omega)
    rw [Int.toNat_of_nonneg hi0] at this
    rw [this]; exact List.getElem_mem _
  have hrt := cfg_routes hcf _ hmR
  unfold routeB at hrt
  rw [hxs] at hrt hp1
  simp only [Bool.and_eq_true, decide_eq_true_eq] at hrt
  obtain ⟨hch, hn1, hn4, _⟩ := hrt
  obtain ⟨P, hP⟩ : ∃ P : Nat, p = (P : Int) := ⟨p.toNat, by omega⟩
  subst hP
  have hst : ∀ a : Nat, a < xs.length → chainE q i (a : Int) = 0 ∧ recvV q i (a : Int) = rd xs (a : Nat) ∧ afterV q i (a : Int) = (((a + 1) % xs.length : Nat) : Int) := fun a ha => by
    have h0 : chainE q i (a : Int) = 0 := by
      unfold chainE hasB
      rw [hcf, hxs, decide_eq_true hi0, decide_eq_true hi1, decide_eq_true (show (0 : Int) ≤ a by omega), decide_eq_true (show (a : Int) < xs.length by omega)]; rfl
    refine ⟨h0, by unfold recvV; rw [if_pos h0, hxs], ?_⟩
    unfold afterV
    rw [if_pos h0, hxs, Int.natCast_emod]
    rfl
  have HST := Aside0.mk hst
  have HCH := Aside0.mk hch
  have HWX := Aside0.mk hwx
  have HE := Aside0.mk (hst P (by omega))
  have hPl : P < xs.length := by omega
  obtain ⟨ad, B0, d0, B1, d1, e1, a0, a1, g0, g1, g2, g3⟩ := at_T58 HQ1.out i hi0 hi1
  cases e1
  rw [hxs] at a0
  have hxl : xs.length ≤ 9223372036854775807 := by omega
  have hmm := @run_makeMap Try.prog
  clear g0 g1 g2 g3 a1 he hcf hmR hch hst hwx hp1 hp0
  clear hr0 hl0 hr1 hl1 hwf hq hm0 hm1 hq0 hq1 hq0l hqwf
  have hF := Aside0.mk (Fr.Frame.start w)
  have HC : True := trivial
  go_enter Try.func9, Try.ntmps9
  go_wp2_with (first | ((with_reducible refine gate_store rfl ?_); apply Fr.fr_store hF.out rfl rfl rfl; (case hp => rfl); (case hx => first | (go_simp; rfl) | rfl); (case hu => (simp only [Value.cells]; rfl)); (case hs => (repeat (first | exact Fr.Spot.here _ _ | apply Fr.Spot.there))); (case ht => kernel_rfl); (case h1 => simp [Value.oneCell']); (case hfit => simp); intro W hF1; simp only [Fr.patch, List.take_zero, List.nil_append, List.drop, List.append_nil, List.take, List.cons_append, List.length_cons, List.length_nil, Nat.reduceAdd] at hF1; have HC1 := hF1.cells; simp only [Fr.Cells, List.length_cons, List.length_nil, Nat.reduceAdd, and_true] at HC1; clear hF HC; have HC := HC1; have hF := Aside0.mk hF1; clear hF1 HC1) | ((with_reducible refine gate_dst (N := 3) rfl ?_); apply Fr.fr_box hF.out rfl; (case hrun => first | (go_simp; done) | (go_simp; rfl)); intro gb W hF1; have HC1 := hF1.cells; simp only [Fr.Cells, List.length_cons, List.length_nil, Nat.reduceAdd, and_true] at HC1; clear hF HC; have HC := HC1; have hF := Aside0.mk hF1; clear hF1 HC1) | ((first | (with_reducible refine Fr.gate_alloc rfl ?_) | (with_reducible refine Fr.gate_box rfl ?_)); apply Fr.fr_box hF.out rfl; (case hrun => first | (go_simp; done) | (go_simp; rfl)); intro g W hF1; have HC1 := hF1.cells; simp only [Fr.Cells, List.length_cons, List.length_nil, Nat.reduceAdd, and_true] at HC1; clear hF HC; have HC := HC1; have hF := Aside0.mk hF1; clear hF1 HC1))
  (with_reducible refine (H30.out _).mono ?_); rintro e W ⟨rfl, hb⟩; have hF1 := hF.out.call hb; clear hb; have HC1 := hF1.cells; simp only [Fr.Cells, List.length_cons, List.length_nil, Nat.reduceAdd, and_true] at HC1; clear hF HC; have HC := HC1; have hF := Aside0.mk hF1; clear hF1 HC1
  go_wp2_with (first | ((with_reducible refine gate_store rfl ?_); apply Fr.fr_store hF.out rfl rfl rfl; (case hp => rfl); (case hx => first | (go_simp; rfl) | rfl); (case hu => (simp only [Value.cells]; rfl)); (case hs => (repeat (first | exact Fr.Spot.here _ _ | apply Fr.Spot.there))); (case ht => kernel_rfl); (case h1 => simp [Value.oneCell']); (case hfit => simp); intro W hF1; simp only [Fr.patch, List.take_zero, List.nil_append, List.drop, List.append_nil, List.take, List.cons_append, List.length_cons, List.length_nil, Nat.reduceAdd] at hF1; have HC1 := hF1.cells; simp only [Fr.Cells, List.length_cons, List.length_nil, Nat.reduceAdd, and_true] at HC1; clear hF HC; have HC := HC1; have hF := Aside0.mk hF1; clear hF1 HC1) | ((first | (with_reducible refine Fr.gate_alloc rfl ?_) | (with_reducible refine Fr.gate_box rfl ?_)); apply Fr.fr_box hF.out rfl; (case hrun => first | (go_simp; done) | (go_simp; rfl)); intro g W hF1; have HC1 := hF1.cells; simp only [Fr.Cells, List.length_cons, List.length_nil, Nat.reduceAdd, and_true] at HC1; clear hF HC; have HC := HC1; have hF := Aside0.mk hF1; clear hF1 HC1))
  (with_reducible refine (HRV.out _ (P : Int) hF.out.below).mono ?_); rintro e W ⟨rfl, hb⟩; have hF1 := hF.out.call hb; clear hb; have HC1 := hF1.cells; simp only [Fr.Cells, List.length_cons, List.length_nil, Nat.reduceAdd, and_true] at HC1; clear hF HC; have HC := HC1; have hF := Aside0.mk hF1; clear hF1 HC1
  simp only [HE.out.1]
  replace a0 := (hF.out.below.cell (World.block_lt_of_cell? w _ a0)).trans a0
  go_wp2_with (first | ((with_reducible refine gate_makeMap rfl ?_); apply fr_map hF.out rfl; (case hrun => first | (go_simp; done) | (go_simp; rfl)); intro gm W hF1 hgm; have HC1 := hF1.cells; simp only [Fr.Cells, List.length_cons, List.length_nil, Nat.reduceAdd, and_true] at HC1; clear hF HC; have HC := HC1; have hF := Aside0.mk hF1; clear hF1 HC1) | ((with_reducible refine gate_store rfl ?_); apply Fr.fr_store hF.out rfl rfl rfl; (case hp => rfl); (case hx => first | (go_simp; rfl) | rfl); (case hu => (simp only [Value.cells]; rfl)); (case hs => (repeat (first | exact Fr.Spot.here _ _ | apply Fr.Spot.there))); (case ht => kernel_rfl); (case h1 => simp [Value.oneCell']); (case hfit => simp); intro W hF1; simp only [Fr.patch, List.take_zero, List.nil_append, List.drop, List.append_nil, List.take, List.cons_append, List.length_cons, List.length_nil, Nat.reduceAdd] at hF1; have HC1 := hF1.cells; simp only [Fr.Cells, List.length_cons, List.length_nil, Nat.reduceAdd, and_true] at HC1; clear hF HC; have HC := HC1; have hF := Aside0.mk hF1; clear hF1 HC1) | ((first | (with_reducible refine Fr.gate_alloc rfl ?_) | (with_reducible refine Fr.gate_box rfl ?_)); apply Fr.fr_box hF.out rfl; (case hrun => first | (go_simp; done) | (go_simp; rfl)); intro g W hF1; have HC1 := hF1.cells; simp only [Fr.Cells, List.length_cons, List.length_nil, Nat.reduceAdd, and_true] at HC1; clear hF HC; have HC := HC1; have hF := Aside0.mk hF1; clear hF1 HC1))
  have hFb := hF
  go_loopg [11, 53] xs.length (fun kq v11 v53 w' => ∃ k : Nat, k ≤ xs.length ∧ xs.length - k ≤ kq ∧ v53 = .int .i64 k ∧ v11 = .int .i64 (((P + k) % xs.length : Nat) : Int) ∧ Aside0 (Fr.Frame w w' [(gb, [.slice A0 q.rs.length c0, .slice (some ad) q.ro.length c1, .int .i64 q.rep, .int .i64 q.beat], 53)] [mapR gm k (mD (roundL xs P k))]))
  case atStart => exact ⟨0, Nat.zero_le _, by omega, rfl, by rw [Nat.add_zero, Nat.mod_eq_of_lt hPl], ⟨hFb.out⟩⟩
  case round =>
    clear hF hFb HC
    obtain ⟨k, hk, hg, rfl, rfl, hF⟩ := hrel
    have HC1 := hF.out.cells
    simp only [Fr.Cells, List.length_cons, List.length_nil, Nat.reduceAdd, and_true] at HC1
    have HC := HC1
    clear HC1
    by_cases hlt : k < xs.length
    · have hlti : (k : Int) < (xs.length : Int) := by omega
      have hml : (P + k) % xs.length < xs.length := Nat.mod_lt _ (by omega)
      have HSK := Aside0.mk (HST.out _ hml)
      have HNX := Aside0.mk (show ((((P + k) % xs.length + 1) % xs.length : Nat) : Int) = (((P + (k + 1)) % xs.length : Nat) : Int) by rw [Nat.mod_add_mod]; rfl)
      have HSN := Aside0.mk (roundL_snoc xs P k)
      have hnew := round_new HCH.out P k hlt
      obtain ⟨at_, hat_⟩ : ∃ a : Nat, (P + k) % xs.length = a := ⟨_, rfl⟩
      rw [hat_] at HSK HNX HSN hnew hml ⊢
      have HRK := Aside0.mk (fun W hb => HRV.out W (at_ : Int) hb)
      have HAK := Aside0.mk (fun W hb => HAF.out W (at_ : Int) hb)
      rw [HSK.out.1, HSK.out.2.1] at HRK
      rw [HSK.out.1, HSK.out.2.2, HNX.out] at HAK
      obtain ⟨y, hy⟩ : ∃ y, rd xs (at_ : Int) = y := ⟨_, rfl⟩
      have hym : y ∈ xs := by rw [← hy, show rd xs (at_ : Int) = xs[at_] by simp [rd, List.getD_eq_getElem?_getD, hml]]; exact List.getElem_mem _
      rw [hy] at HRK HSN hnew
      have HKEY := Aside0.mk (keyOf_int_mk (P := Try.prog) (k := 3) Try.underlying3 (HWX.out y hym))
      have HK := Aside0.mk (show k < maxLen by unfold maxLen; omega)
      have HD := Aside0.mk (mD_no y (.lit (.int .i64 0)) _ hnew)
      obtain ⟨nx, hnx⟩ : ∃ nx, (((P + (k + 1)) % xs.length : Nat) : Int) = nx := ⟨_, rfl⟩
      rw [hnx] at HAK
      have HNX2 := Aside0.mk hnx
      clear hy hym hnew HSK HNX hat_ hml hnx
      go_wp2_with (first | ((with_reducible refine gate_store rfl ?_); apply Fr.fr_store hF.out rfl rfl rfl; (case hp => rfl); (case hx => first | (go_simp; rfl) | rfl); (case hu => (simp only [Value.cells]; rfl)); (case hs => (repeat (first | exact Fr.Spot.here _ _ | apply Fr.Spot.there))); (case ht => kernel_rfl); (case h1 => simp [Value.oneCell']); (case hfit => simp); intro W hF1; simp only [Fr.patch, List.take_zero, List.nil_append, List.drop, List.append_nil, List.take, List.cons_append, List.length_cons, List.length_nil, Nat.reduceAdd] at hF1; have HC1 := hF1.cells; simp only [Fr.Cells, List.length_cons, List.length_nil, Nat.reduceAdd, and_true] at HC1; clear hF HC; have HC := HC1; have hF := Aside0.mk hF1; clear hF1 HC1) | ((first | (with_reducible refine Fr.gate_alloc rfl ?_) | (with_reducible refine Fr.gate_box rfl ?_)); apply Fr.fr_box hF.out rfl; (case hrun => first | (go_simp; done) | (go_simp; rfl)); intro g W hF1; have HC1 := hF1.cells; simp only [Fr.Cells, List.length_cons, List.length_nil, Nat.reduceAdd, and_true] at HC1; clear hF HC; have HC := HC1; have hF := Aside0.mk hF1; clear hF1 HC1))
      (with_reducible refine (HRK.out _ hF.out.below).mono ?_); rintro e W ⟨rfl, hb⟩; have hF1 := hF.out.call hb; clear hb; have HC1 := hF1.cells; simp only [Fr.Cells, List.length_cons, List.length_nil, Nat.reduceAdd, and_true] at HC1; clear hF HC; have HC := HC1; have hF := Aside0.mk hF1; clear hF1 HC1
      go_wp2_with (first | ((with_reducible refine gate_store rfl ?_); apply Fr.fr_store hF.out rfl rfl rfl; (case hp => rfl); (case hx => first | (go_simp; rfl) | rfl); (case hu => (simp only [Value.cells]; rfl)); (case hs => (repeat (first | exact Fr.Spot.here _ _ | apply Fr.Spot.there))); (case ht => kernel_rfl); (case h1 => simp [Value.oneCell']); (case hfit => simp); intro W hF1; simp only [Fr.patch, List.take_zero, List.nil_append, List.drop, List.append_nil, List.take, List.cons_append, List.length_cons, List.length_nil, Nat.reduceAdd] at hF1; have HC1 := hF1.cells; simp only [Fr.Cells, List.length_cons, List.length_nil, Nat.reduceAdd, and_true] at HC1; clear hF HC; have HC := HC1; have hF := Aside0.mk hF1; clear hF1 HC1) | ((first | (with_reducible refine Fr.gate_alloc rfl ?_) | (with_reducible refine Fr.gate_box rfl ?_)); apply Fr.fr_box hF.out rfl; (case hrun => first | (go_simp; done) | (go_simp; rfl)); intro g W hF1; have HC1 := hF1.cells; simp only [Fr.Cells, List.length_cons, List.length_nil, Nat.reduceAdd, and_true] at HC1; clear hF HC; have HC := HC1; have hF := Aside0.mk hF1; clear hF1 HC1))
      (with_reducible refine (HAK.out _ hF.out.below).mono ?_); rintro e W ⟨rfl, hb⟩; have hF1 := hF.out.call hb; clear hb; have HC1 := hF1.cells; simp only [Fr.Cells, List.length_cons, List.length_nil, Nat.reduceAdd, and_true] at HC1; clear hF HC; have HC := HC1; have hF := Aside0.mk hF1; clear hF1 HC1
      go_wp2_with (first | (at_lookup; refine wpList_lookup_own_int _ rfl _ _ 67 rfl 3 3 .i64 law3 Try.underlying67 Try.underlying3 (zero3 _) gm _ _ rfl (hF.out.rowAt (r := mapR gm _ _) List.mem_cons_self) _ _ rfl HKEY.out ?_; intro cc hat hwc; have h9 := hat.symm.trans HD.out; simp only [DataW.lit.injEq, Lit.int.injEq, true_and] at h9; subst h9; clear hat hwc) | (at_mapUpdate; refine wpList_mapUpdate_own _ rfl _ _ _ 67 rfl 3 3 law3 Try.underlying67 _ gm _ _ rfl (hF.out.rowAt (r := mapR gm _ _) List.mem_cons_self) HK.out _ _ _ rfl rfl HKEY.out _ [] (plainElem_int Try.underlying3 (by decide)) ?_; intro w1 hown1 hgrow1; have hF1 := frame_put hF.out hgm hgrow1 hown1; clear hown1 hgrow1; have HC1 := hF1.cells; simp only [Fr.Cells, List.length_cons, List.length_nil, Nat.reduceAdd, and_true] at HC1; clear hF HC; have HC := HC1; have hF := Aside0.mk hF1; clear hF1 HC1) | ((with_reducible refine gate_store rfl ?_); apply Fr.fr_store hF.out rfl rfl rfl; (case hp => rfl); (case hx => first | (go_simp; rfl) | rfl); (case hu => (simp only [Value.cells]; rfl)); (case hs => (repeat (first | exact Fr.Spot.here _ _ | apply Fr.Spot.there))); (case ht => kernel_rfl); (case h1 => simp [Value.oneCell']); (case hfit => simp); intro W hF1; simp only [Fr.patch, List.take_zero, List.nil_append, List.drop, List.append_nil, List.take, List.cons_append, List.length_cons, List.length_nil, Nat.reduceAdd] at hF1; have HC1 := hF1.cells; simp only [Fr.Cells, List.length_cons, List.length_nil, Nat.reduceAdd, and_true] at HC1; clear hF HC; have HC := HC1; have hF := Aside0.mk hF1; clear hF1 HC1) | ((first | (with_reducible refine Fr.gate_alloc rfl ?_) | (with_reducible refine Fr.gate_box rfl ?_)); apply Fr.fr_box hF.out rfl; (case hrun => first | (go_simp; done) | (go_simp; rfl)); intro g W hF1; have HC1 := hF1.cells; simp only [Fr.Cells, List.length_cons, List.length_nil, Nat.reduceAdd, and_true] at HC1; clear hF HC; have HC := HC1; have hF := Aside0.mk hF1; clear hF1 HC1))
      go_roundg (xs.length - (k + 1))
      case measure => omega
      case rel => exact ⟨k + 1, by omega, by omega, by go_num, by rw [HNX2.out], ⟨by rw [HSN.out, mD_snoc]; exact hF.out⟩⟩
    · obtain rfl : k = xs.length := by omega
      have hlti : ¬ (xs.length : Int) < (xs.length : Int) := by omega
      rw [show (P + xs.length) % xs.length = P by rw [Nat.add_mod_right, Nat.mod_eq_of_lt hPl]]
      have HSZ := Aside0.mk (show Maps.size (mD (roundL xs P xs.length)) = xs.length by rw [mD_size _ (round_nodup HCH.out P _ (Nat.le_refl _)), roundL_len])
      go_wp2_with (first | ((with_reducible refine gate_store rfl ?_); apply Fr.fr_store hF.out rfl rfl rfl; (case hp => rfl); (case hx => first | (go_simp; rfl) | rfl); (case hu => (simp only [Value.cells]; rfl)); (case hs => (repeat (first | exact Fr.Spot.here _ _ | apply Fr.Spot.there))); (case ht => kernel_rfl); (case h1 => simp [Value.oneCell']); (case hfit => simp); intro W hF1; simp only [Fr.patch, List.take_zero, List.nil_append, List.drop, List.append_nil, List.take, List.cons_append, List.length_cons, List.length_nil, Nat.reduceAdd] at hF1; have HC1 := hF1.cells; simp only [Fr.Cells, List.length_cons, List.length_nil, Nat.reduceAdd, and_true] at HC1; clear hF HC; have HC := HC1; have hF := Aside0.mk hF1; clear hF1 HC1) | ((first | (with_reducible refine Fr.gate_alloc rfl ?_) | (with_reducible refine Fr.gate_box rfl ?_)); apply Fr.fr_box hF.out rfl; (case hrun => first | (go_simp; done) | (go_simp; rfl)); intro g W hF1; have HC1 := hF1.cells; simp only [Fr.Cells, List.length_cons, List.length_nil, Nat.reduceAdd, and_true] at HC1; clear hF HC; have HC := HC1; have hF := Aside0.mk hF1; clear hF1 HC1))
      (with_reducible refine (alive33_calls _).mono ?_); rintro e W ⟨rfl, hb⟩; have hF1 := hF.out.call hb; clear hb; have HC1 := hF1.cells; simp only [Fr.Cells, List.length_cons, List.length_nil, Nat.reduceAdd, and_true] at HC1; clear hF HC; have HC := HC1; have hF := Aside0.mk hF1; clear hF1 HC1
      have hlen := fun ty => World.ownsMap.len (hF.out.rowAt (r := mapR gm _ _) List.mem_cons_self) Try.underlying67 ty
      rw [HSZ.out] at hlen
      go_wp2_with (first | ((with_reducible refine gate_store rfl ?_); apply Fr.fr_store hF.out rfl rfl rfl; (case hp => rfl); (case hx => first | (go_simp; rfl) | rfl); (case hu => (simp only [Value.cells]; rfl)); (case hs => (repeat (first | exact Fr.Spot.here _ _ | apply Fr.Spot.there))); (case ht => kernel_rfl); (case h1 => simp [Value.oneCell']); (case hfit => simp); intro W hF1; simp only [Fr.patch, List.take_zero, List.nil_append, List.drop, List.append_nil, List.take, List.cons_append, List.length_cons, List.length_nil, Nat.reduceAdd] at hF1; have HC1 := hF1.cells; simp only [Fr.Cells, List.length_cons, List.length_nil, Nat.reduceAdd, and_true] at HC1; clear hF HC; have HC := HC1; have hF := Aside0.mk hF1; clear hF1 HC1) | ((first | (with_reducible refine Fr.gate_alloc rfl ?_) | (with_reducible refine Fr.gate_box rfl ?_)); apply Fr.fr_box hF.out rfl; (case hrun => first | (go_simp; done) | (go_simp; rfl)); intro g W hF1; have HC1 := hF1.cells; simp only [Fr.Cells, List.length_cons, List.length_nil, Nat.reduceAdd, and_true] at HC1; clear hF HC; have HC := HC1; have hF := Aside0.mk hF1; clear hF1 HC1))
      go_ret
      exact ⟨rfl, hF.out.below⟩
theorem RouteRound (c : Cf) (A0 : Option Addr) (c0 : Nat) (A1 : Option Addr) (c1 : Nat) (i p : Int) (w : World) (hr0 : Kd.C k76 w A0 c.rs.length c.rs) (hl0 : c.rs.length ≤ c0) (hr1 : Kd.C k58 w A1 c.ro.length c.ro) (hl1 : c.ro.length ≤ c1) (hwf : ∀ x ∈ c.ro, WfR x) :
    Calls Try.prog 9 #[.agg #[.slice A0 c.rs.length c0, .slice A1 c.ro.length c1, .int .i64 c.rep, .int .i64 c.beat], .int .i64 i, .int .i64 p] w fun e w' => e = .returned (.bool true) ∧ Below w.heap.size w w' := by
  obtain ⟨q, hq⟩ : ∃ q, cutC c = q := ⟨_, rfl⟩
  by_cases he : chainE q i p = 0
  · refine rround_ok c A0 c0 A1 c1 i p w hr0 hl0 hr1 hl1 hwf q hq he _ rfl (fun k hk => ?_)
    obtain ⟨_, hi0, hi1, _⟩ := chain_facts he
    have hm : (rd_T58 q.ro i) ∈ q.ro := by
      have := rd_get58 q.ro i.toNat (by omega)
      rw [Int.toNat_of_nonneg hi0] at this
      rw [this]; exact List.getElem_mem _
    exact hwf _ (by rw [← hq] at hm ⊢; exact List.mem_of_mem_take hm) k hk
  · exact rround_no c A0 c0 A1 c1 i p w hr0 hl0 hr1 hl1 hwf q hq he
theorem RouteRoundR {P1 P2 : Prop} (A0 : Option Addr) (c0 : Nat) (l0 : List S76) (A1 : Option Addr) (c1 : Nat) (l1 : List S58) (rep beat : Int) (i p : Int) (w : World) (hr0 : Kd.C k76 w A0 l0.length l0) (hl0 : l0.length ≤ c0) (hr1 : Kd.C k58 w A1 l1.length l1) (hl1 : l1.length ≤ c1)
    (w0 : WCf l0 l1 rep beat) (w1 : P1) (w2 : P2) :
    Calls Try.prog 9 #[.agg #[.slice A0 l0.length c0, .slice A1 l1.length c1, .int .i64 rep, .int .i64 beat], .int .i64 i, .int .i64 p] w fun e w' => e = .returned (.bool true) ∧ Below w.heap.size w w' :=
  RouteRound ⟨l0, l1, rep, beat⟩ A0 c0 A1 c1 i p w hr0 hl0 hr1 hl1 w0.ok.2
end Go.Proofs.Ytkphinfijppkeaa.G
