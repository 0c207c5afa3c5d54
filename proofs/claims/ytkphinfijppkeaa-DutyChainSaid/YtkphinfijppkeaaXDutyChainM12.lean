/- Contracts of functions of the given program, and what they come to, for any arguments. No condition beyond each theorem's own premises. -/
import Derived.Test.YtkphinfijppkeaaXDutyChainM11
import Derived.Test.YtkphinfijppkeaaXDutyChainM6
namespace Go.Proofs.Ytkphinfijppkeaa.G
open Go.RowKit Go.Proofs.YtkphinfijppkeaaW.PrintWords Go.Proofs.YtkphinfijppkeaaW.PrintLast Go.Proofs.YtkphinfijppkeaaW.PrintMore
attribute [local go_sem] max2_int min2_int max_two min_two max_three min_three max_four min_four
set_option linter.unusedVariables false
set_option linter.unusedSimpArgs false
theorem same10 (l : List S92) (hl : l.length ≤ 1000) : ∀ (d k i : Nat), i + d = l.length → d < k → foghornref10_Same.l0 k l l (l.length : Int) (i : Int) = some true
  | 0, k + 1, i, hd, hk => by rw [foghornref10_Same.l0, if_neg (by omega)]
  | d + 1, k + 1, i, hd, hk => by
    rw [foghornref10_Same.l0, if_pos (by omega), if_pos (by omega), if_pos (by omega), if_pos (by omega), if_neg (by simp), w64' (by omega) (by omega), show ((i : Int) + 1) = ((i + 1 : Nat) : Int) by omega]
    exact same10 l hl d k (i + 1) (by omega) (by omega)
theorem same10_ref (l : List S92) (hl : l.length ≤ 1000) : foghornref10_Same.f 1001 l l = some true := by
  unfold foghornref10_Same.f
  rw [if_pos rfl]
  exact same10 l hl l.length 1001 0 (by omega) (by omega)
theorem same16_ref (l : List S92) (hl : l.length ≤ 1000) (a b c d e : Int) : foghornref16_Same.f 1001 l a b c d e l a b c d e = some true := by
  unfold foghornref16_Same.f
  rw [same10_ref l hl]
  simp
theorem C_nil {α : Type} (d : Kd α) (w : World) : Kd.C d w none 0 [] := ⟨rfl, by decide, fun h => absurd h (by decide)⟩
theorem same_zero (w : World) : Calls Try.prog 45 #[.agg #[.slice none 0 0, .int .i64 0, .int .i64 0, .int .i64 0, .int .i64 0, .int .i64 0], .agg #[.slice none 0 0, .int .i64 0, .int .i64 0, .int .i64 0, .int .i64 0, .int .i64 0]] w fun e w' => e = .returned (.bool true) ∧ Below w.heap.size w w' :=
  foghornref16_Same.calls 1001 none 0 [] 0 0 0 0 0 none 0 [] 0 0 0 0 0 true w (C_nil _ _) (Nat.le_refl _) (C_nil _ _) (Nat.le_refl _) (same16_ref [] (by decide) 0 0 0 0 0)
theorem rd_double (xs : List Int) (j : Nat) (hj : j < 2 * xs.length) : rd (xs ++ xs) (j : Nat) = rd xs ((j % xs.length : Nat) : Int) := by
  simp only [rd, Int.toNat_natCast, List.getD_eq_getElem?_getD]
  by_cases h : j < xs.length
  · rw [List.getElem?_append_left h, Nat.mod_eq_of_lt h]
  · rw [List.getElem?_append_right (by omega), Nat.mod_eq_sub_mod (by omega), Nat.mod_eq_of_lt (by omega)]
def nowT (a : Int) : Int := Int.tmod (IntKind.u64.wrap a) 274877906944
theorem now_in (a : Int) : 0 ≤ nowT a ∧ nowT a < 274877906944 := u64mod a 274877906944 (by decide)
theorem now_ok (a : Int) : tmB (nowT a) = true := (tm_iff _).2 (by have := now_in a; omega)
theorem empty_row {w0 W : World} {bs : List Fr.Blk} (hF : Fr.Frame w0 W bs []) : ∃ S, Fr.Frame w0 (W.alloc (.cells #[] 3)) bs [Fr.rowR (Kd.raw 1) 3 w0.heap.size (.slice (some ⟨W.heap.size, 0, none⟩) 0 0) [] S] :=
  (hF.call ((Below.refl _ W).alloc (Nat.le_refl _) _)).rowIn (ok := fun k => ∀ b ∈ bs, k ≠ b.1) (R_empty (Kd.raw 1) 3 _ w0.heap.size W.heap.size _ hF.below.size (heap_alloc_new W _) (fun b hb e => by have := hF.lt hb; omega)) (fun k hk => hk)
theorem addT_ok {a b : Int} (ha : tmB a = true) (hb : 0 ≤ b) : tmB (addT a b) = true := by
  have := (tm_iff a).1 ha
  refine (tm_iff _).2 ?_
  unfold addT
  split <;> omega
set_option maxHeartbeats 16000000 in
set_option maxRecDepth 100000 in
theorem chain_no16 (c : Cf) (A0 : Option Addr) (c0 : Nat) (A1 : Option Addr) (c1 : Nat) (A2 : Option Addr) (c2 : Nat) (l : List S92) (now draw : Int) (w : World) (hr0 : Kd.C k76 w A0 c.rs.length c.rs) (hl0 : c.rs.length ≤ c0) (hr1 : Kd.C k58 w A1 c.ro.length c.ro) (hl1 : c.ro.length ≤ c1) (hr2 : Kd.C k92 w A2 l.length l) (hl2 : l.length ≤ c2) (hwf : ∀ x ∈ c.ro, WfR x)
    (q : Cf) (hq : cutC c = q) (L : List S92) (hL : l.take 5 = L) (he : newE q L (nowT now) ≠ 0) :
    Calls Try.prog 10 #[.agg #[.slice A0 c.rs.length c0, .slice A1 c.ro.length c1, .int .i64 c.rep, .int .i64 c.beat], .slice A2 l.length c2, .int .i64 now, .int .i64 draw] w fun e w' => e = .returned (.bool true) ∧ Below w.heap.size w w' := by
  have hm0 := hr0.2.1
  have hm1 := hr1.2.1
  have hm2 := hr2.2.1
  have hq0 : Kd.C k76 w A0 q.rs.length q.rs := take_C 6 hr0 (by rw [← hq]; rfl)
  have hq1 : Kd.C k58 w A1 q.ro.length q.ro := take_C 6 hr1 (by rw [← hq]; rfl)
  have hqL : Kd.C k92 w A2 L.length L := take_C 5 hr2 hL
  have hq0l : q.rs.length ≤ c0 := by rw [← hq]; show (c.rs.take 6).length ≤ c0; rw [List.length_take]; omega
  have hq1l : q.ro.length ≤ c1 := by rw [← hq]; show (c.ro.take 6).length ≤ c1; rw [List.length_take]; omega
  have hqLl : L.length ≤ c2 := by rw [← hL]; rw [List.length_take]; omega
  have hL5 : L.length ≤ 5 := by rw [← hL]; exact List.length_take_le 5 l
  have hqwf : ∀ x ∈ q.ro, WfR x := fun x hx => hwf x (by rw [← hq] at hx; exact List.mem_of_mem_take hx)
  have H41 := Aside0.mk (fun W => few_calls 41 (.inr rfl) c A0 c0 A1 c1 W hl0 hl1 hm0 hm1)
  rw [hq] at H41
  have H42 := Aside0.mk (fun W => some42 A2 c2 l W hl2 hm2)
  rw [hL] at H42
  have HQL := Aside0.mk hqL
  have HQLL := Aside0.mk hqLl
  obtain ⟨nw, hnw⟩ : ∃ nw, nowT now = nw := ⟨_, rfl⟩
  have hnwi := now_in now
  have hnwo := now_ok now
  rw [hnw] at hnwi hnwo he
  have hnw2 : Int.tmod (IntKind.u64.wrap now) 274877906944 = nw := hnw
  have hnw3 : IntKind.i64.wrap nw = nw := by rw [IntKind.wrap_i64]; omega
  have HN := Aside0.mk (fun W (hb : Below w.heap.size w W) => new_calls_no q A0 c0 A1 c1 A2 c2 L nw W (Kd.C_below hq0 hb) hq0l (Kd.C_below hq1 hb) hqwf (Kd.C_below hqL hb) he)
  obtain ⟨ee, hee⟩ : ∃ ee, newE q L nw = ee := ⟨_, rfl⟩
  rw [hee] at HN he
  have hne : (ee != 0) = true := by rw [bne_iff_ne]; exact he
  clear hr0 hl0 hr1 hl1 hr2 hl2 hwf hq hL hm0 hm1 hm2 hq0 hq1 hqL hq0l hq1l hqLl hqwf hnwo hnw hee he
  have hF := Aside0.mk (Fr.Frame.start w)
  have HC : True := trivial
  go_enter Try.func10, Try.ntmps10
  go_wp2_with (first | ((with_reducible refine gate_store rfl ?_); apply Fr.fr_store hF.out rfl rfl rfl; (case hp => rfl); (case hx => first | (go_simp; rfl) | rfl); (case hu => (simp only [Value.cells]; rfl)); (case hs => (repeat (first | exact Fr.Spot.here _ _ | apply Fr.Spot.there))); (case ht => kernel_rfl); (case h1 => simp [Value.oneCell']); (case hfit => simp); intro W hF1; simp only [Fr.patch, List.take_zero, List.nil_append, List.drop, List.append_nil, List.take, List.cons_append, List.length_cons, List.length_nil, Nat.reduceAdd] at hF1; have HC1 := hF1.cells; simp only [Fr.Cells, List.length_cons, List.length_nil, Nat.reduceAdd, and_true] at HC1; clear hF HC; have HC := HC1; have hF := Aside0.mk hF1; clear hF1 HC1) | ((with_reducible refine gate_dst (N := 4) rfl ?_); apply Fr.fr_box hF.out rfl; (case hrun => first | (go_simp; done) | (go_simp; rfl)); intro gb W hF1; have HC1 := hF1.cells; simp only [Fr.Cells, List.length_cons, List.length_nil, Nat.reduceAdd, and_true] at HC1; clear hF HC; have HC := HC1; have hF := Aside0.mk hF1; clear hF1 HC1) | ((first | (with_reducible refine Fr.gate_alloc rfl ?_) | (with_reducible refine Fr.gate_box rfl ?_)); apply Fr.fr_box hF.out rfl; (case hrun => first | (go_simp; done) | (go_simp; rfl)); intro g W hF1; have HC1 := hF1.cells; simp only [Fr.Cells, List.length_cons, List.length_nil, Nat.reduceAdd, and_true] at HC1; clear hF HC; have HC := HC1; have hF := Aside0.mk hF1; clear hF1 HC1))
  (with_reducible refine (H41.out _).mono ?_); rintro e W ⟨rfl, hb⟩; have hF1 := hF.out.call hb; clear hb; have HC1 := hF1.cells; simp only [Fr.Cells, List.length_cons, List.length_nil, Nat.reduceAdd, and_true] at HC1; clear hF HC; have HC := HC1; have hF := Aside0.mk hF1; clear hF1 HC1
  go_wp2_with (first | ((with_reducible refine gate_store rfl ?_); apply Fr.fr_store hF.out rfl rfl rfl; (case hp => rfl); (case hx => first | (go_simp; rfl) | rfl); (case hu => (simp only [Value.cells]; rfl)); (case hs => (repeat (first | exact Fr.Spot.here _ _ | apply Fr.Spot.there))); (case ht => kernel_rfl); (case h1 => simp [Value.oneCell']); (case hfit => simp); intro W hF1; simp only [Fr.patch, List.take_zero, List.nil_append, List.drop, List.append_nil, List.take, List.cons_append, List.length_cons, List.length_nil, Nat.reduceAdd] at hF1; have HC1 := hF1.cells; simp only [Fr.Cells, List.length_cons, List.length_nil, Nat.reduceAdd, and_true] at HC1; clear hF HC; have HC := HC1; have hF := Aside0.mk hF1; clear hF1 HC1) | ((first | (with_reducible refine Fr.gate_alloc rfl ?_) | (with_reducible refine Fr.gate_box rfl ?_)); apply Fr.fr_box hF.out rfl; (case hrun => first | (go_simp; done) | (go_simp; rfl)); intro g W hF1; have HC1 := hF1.cells; simp only [Fr.Cells, List.length_cons, List.length_nil, Nat.reduceAdd, and_true] at HC1; clear hF HC; have HC := HC1; have hF := Aside0.mk hF1; clear hF1 HC1))
  (with_reducible refine (H42.out _).mono ?_)
  rintro e W' ⟨rfl, rfl⟩
  go_wp2_with (first | ((with_reducible refine gate_store rfl ?_); apply Fr.fr_store hF.out rfl rfl rfl; (case hp => rfl); (case hx => first | (go_simp; rfl) | rfl); (case hu => (simp only [Value.cells]; rfl)); (case hs => (repeat (first | exact Fr.Spot.here _ _ | apply Fr.Spot.there))); (case ht => kernel_rfl); (case h1 => simp [Value.oneCell']); (case hfit => simp); intro W hF1; simp only [Fr.patch, List.take_zero, List.nil_append, List.drop, List.append_nil, List.take, List.cons_append, List.length_cons, List.length_nil, Nat.reduceAdd] at hF1; have HC1 := hF1.cells; simp only [Fr.Cells, List.length_cons, List.length_nil, Nat.reduceAdd, and_true] at HC1; clear hF HC; have HC := HC1; have hF := Aside0.mk hF1; clear hF1 HC1) | ((first | (with_reducible refine Fr.gate_alloc rfl ?_) | (with_reducible refine Fr.gate_box rfl ?_)); apply Fr.fr_box hF.out rfl; (case hrun => first | (go_simp; done) | (go_simp; rfl)); intro g W hF1; have HC1 := hF1.cells; simp only [Fr.Cells, List.length_cons, List.length_nil, Nat.reduceAdd, and_true] at HC1; clear hF HC; have HC := HC1; have hF := Aside0.mk hF1; clear hF1 HC1))
  (with_reducible refine (HN.out _ hF.out.below).mono ?_); rintro e W ⟨rfl, hb⟩; have hF1 := hF.out.call hb; clear hb; have HC1 := hF1.cells; simp only [Fr.Cells, List.length_cons, List.length_nil, Nat.reduceAdd, and_true] at HC1; clear hF HC; have HC := HC1; have hF := Aside0.mk hF1; clear hF1 HC1
  go_wp2_with (first | ((with_reducible refine gate_store rfl ?_); apply Fr.fr_store hF.out rfl rfl rfl; (case hp => rfl); (case hx => first | (go_simp; rfl) | rfl); (case hu => (simp only [Value.cells]; rfl)); (case hs => (repeat (first | exact Fr.Spot.here _ _ | apply Fr.Spot.there))); (case ht => kernel_rfl); (case h1 => simp [Value.oneCell']); (case hfit => simp); intro W hF1; simp only [Fr.patch, List.take_zero, List.nil_append, List.drop, List.append_nil, List.take, List.cons_append, List.length_cons, List.length_nil, Nat.reduceAdd] at hF1; have HC1 := hF1.cells; simp only [Fr.Cells, List.length_cons, List.length_nil, Nat.reduceAdd, and_true] at HC1; clear hF HC; have HC := HC1; have hF := Aside0.mk hF1; clear hF1 HC1) | ((first | (with_reducible refine Fr.gate_alloc rfl ?_) | (with_reducible refine Fr.gate_box rfl ?_)); apply Fr.fr_box hF.out rfl; (case hrun => first | (go_simp; done) | (go_simp; rfl)); intro g W hF1; have HC1 := hF1.cells; simp only [Fr.Cells, List.length_cons, List.length_nil, Nat.reduceAdd, and_true] at HC1; clear hF HC; have HC := HC1; have hF := Aside0.mk hF1; clear hF1 HC1))
  (with_reducible refine (alive44_calls _).mono ?_); rintro e W ⟨rfl, hb⟩; have hF1 := hF.out.call hb; clear hb; have HC1 := hF1.cells; simp only [Fr.Cells, List.length_cons, List.length_nil, Nat.reduceAdd, and_true] at HC1; clear hF HC; have HC := HC1; have hF := Aside0.mk hF1; clear hF1 HC1
  go_wp2_with (first | ((with_reducible refine gate_store rfl ?_); apply Fr.fr_store hF.out rfl rfl rfl; (case hp => rfl); (case hx => first | (go_simp; rfl) | rfl); (case hu => (simp only [Value.cells]; rfl)); (case hs => (repeat (first | exact Fr.Spot.here _ _ | apply Fr.Spot.there))); (case ht => kernel_rfl); (case h1 => simp [Value.oneCell']); (case hfit => simp); intro W hF1; simp only [Fr.patch, List.take_zero, List.nil_append, List.drop, List.append_nil, List.take, List.cons_append, List.length_cons, List.length_nil, Nat.reduceAdd] at hF1; have HC1 := hF1.cells; simp only [Fr.Cells, List.length_cons, List.length_nil, Nat.reduceAdd, and_true] at HC1; clear hF HC; have HC := HC1; have hF := Aside0.mk hF1; clear hF1 HC1) | ((first | (with_reducible refine Fr.gate_alloc rfl ?_) | (with_reducible refine Fr.gate_box rfl ?_)); apply Fr.fr_box hF.out rfl; (case hrun => first | (go_simp; done) | (go_simp; rfl)); intro g W hF1; have HC1 := hF1.cells; simp only [Fr.Cells, List.length_cons, List.length_nil, Nat.reduceAdd, and_true] at HC1; clear hF HC; have HC := HC1; have hF := Aside0.mk hF1; clear hF1 HC1))
  (with_reducible refine (same_zero _).mono ?_); rintro e W ⟨rfl, hb⟩; have hF1 := hF.out.call hb; clear hb; have HC1 := hF1.cells; simp only [Fr.Cells, List.length_cons, List.length_nil, Nat.reduceAdd, and_true] at HC1; clear hF HC; have HC := HC1; have hF := Aside0.mk hF1; clear hF1 HC1
  go_wp2_with (first | ((with_reducible refine gate_store rfl ?_); apply Fr.fr_store hF.out rfl rfl rfl; (case hp => rfl); (case hx => first | (go_simp; rfl) | rfl); (case hu => (simp only [Value.cells]; rfl)); (case hs => (repeat (first | exact Fr.Spot.here _ _ | apply Fr.Spot.there))); (case ht => kernel_rfl); (case h1 => simp [Value.oneCell']); (case hfit => simp); intro W hF1; simp only [Fr.patch, List.take_zero, List.nil_append, List.drop, List.append_nil, List.take, List.cons_append, List.length_cons, List.length_nil, Nat.reduceAdd] at hF1; have HC1 := hF1.cells; simp only [Fr.Cells, List.length_cons, List.length_nil, Nat.reduceAdd, and_true] at HC1; clear hF HC; have HC := HC1; have hF := Aside0.mk hF1; clear hF1 HC1) | ((first | (with_reducible refine Fr.gate_alloc rfl ?_) | (with_reducible refine Fr.gate_box rfl ?_)); apply Fr.fr_box hF.out rfl; (case hrun => first | (go_simp; done) | (go_simp; rfl)); intro g W hF1; have HC1 := hF1.cells; simp only [Fr.Cells, List.length_cons, List.length_nil, Nat.reduceAdd, and_true] at HC1; clear hF HC; have HC := HC1; have hF := Aside0.mk hF1; clear hF1 HC1))
  go_ret
  exact ⟨rfl, hF.out.below⟩
set_option maxHeartbeats 16000000 in
set_option maxRecDepth 100000 in
theorem chain_ok16 (c : Cf) (A0 : Option Addr) (c0 : Nat) (A1 : Option Addr) (c1 : Nat) (A2 : Option Addr) (c2 : Nat) (l : List S92) (now draw : Int) (w : World) (hr0 : Kd.C k76 w A0 c.rs.length c.rs) (hl0 : c.rs.length ≤ c0) (hr1 : Kd.C k58 w A1 c.ro.length c.ro) (hl1 : c.ro.length ≤ c1) (hr2 : Kd.C k92 w A2 l.length l) (hl2 : l.length ≤ c2) (hwf : ∀ x ∈ c.ro, WfR x)
    (q : Cf) (hq : cutC c = q) (L : List S92) (hL : l.take 5 = L) (he : newE q L (nowT now) = 0) (R : Nat) (hR : chooseV q L = (R : Int)) (hRl : R < q.ro.length) (xs : List Int) (hxs : (rd_T58 q.ro (R : Int)).f0 = xs) :
    Calls Try.prog 10 #[.agg #[.slice A0 c.rs.length c0, .slice A1 c.ro.length c1, .int .i64 c.rep, .int .i64 c.beat], .slice A2 l.length c2, .int .i64 now, .int .i64 draw] w fun e w' => e = .returned (.bool true) ∧ Below w.heap.size w w' := by
  have hm0 := hr0.2.1
  have hm1 := hr1.2.1
  have hm2 := hr2.2.1
  have hq0 : Kd.C k76 w A0 q.rs.length q.rs := take_C 6 hr0 (by rw [← hq]; rfl)
  have hq1 : Kd.C k58 w A1 q.ro.length q.ro := take_C 6 hr1 (by rw [← hq]; rfl)
  have hqL : Kd.C k92 w A2 L.length L := take_C 5 hr2 hL
  have hq0l : q.rs.length ≤ c0 := by rw [← hq]; show (c.rs.take 6).length ≤ c0; rw [List.length_take]; omega
  have hq1l : q.ro.length ≤ c1 := by rw [← hq]; show (c.ro.take 6).length ≤ c1; rw [List.length_take]; omega
  have hqLl : L.length ≤ c2 := by rw [← hL]; rw [List.length_take]; omega
  have hL5 : L.length ≤ 5 := by rw [← hL]; exact List.length_take_le 5 l
  have hqwf : ∀ x ∈ q.ro, WfR x := fun x hx => hwf x (by rw [← hq] at hx; exact List.mem_of_mem_take hx)
  have H41 := Aside0.mk (fun W => few_calls 41 (.inr rfl) c A0 c0 A1 c1 W hl0 hl1 hm0 hm1)
  rw [hq] at H41
  have H42 := Aside0.mk (fun W => some42 A2 c2 l W hl2 hm2)
  rw [hL] at H42
  have HQL := Aside0.mk hqL
  have HQLL := Aside0.mk hqLl
  obtain ⟨nw, hnw⟩ : ∃ nw, nowT now = nw := ⟨_, rfl⟩
  have hnwi := now_in now
  have hnwo := now_ok now
  rw [hnw] at hnwi hnwo he
  have hnw2 : Int.tmod (IntKind.u64.wrap now) 274877906944 = nw := hnw
  have hnw3 : IntKind.i64.wrap nw = nw := by rw [IntKind.wrap_i64]; omega
  have HN := Aside0.mk (fun W (hb : Below w.heap.size w W) => new_calls_ok q A0 c0 A1 c1 A2 c2 L nw W (Kd.C_below hq0 hb) hq0l (Kd.C_below hq1 hb) hqwf (Kd.C_below hqL hb) he)
  rw [hR] at HN
  obtain ⟨hcf, hrl, _, _⟩ := new_ok he
  have HRT := Aside0.mk (fun W (d : Dy) (hd : d.ls = L) (hb : Below w.heap.size w W) => dutyRight_calls q A0 c0 A1 c1 d A2 c2 W (Kd.C_below hq0 hb) hq0l (Kd.C_below hq1 hb) hqwf (by rw [hd]; exact Kd.C_below hqL hb))
  have HSS := Aside0.mk (fun W (d : Dy) (hd : d.ls = L) (nn : Int) (hb : Below w.heap.size w W) => sent_same q A0 c0 A1 c1 d A2 c2 nn false draw W (Kd.C_below hq0 hb) hq0l (Kd.C_below hq1 hb) hqwf (by rw [hd]; exact Kd.C_below hqL hb) rfl)
  have HSN := Aside0.mk (fun W (d : Dy) (hd : d.ls = L) (nn : Int) (hb : Below w.heap.size w W) => sent_next q A0 c0 A1 c1 d A2 c2 nn false draw W (Kd.C_below hq0 hb) hq0l (Kd.C_below hq1 hb) hqwf (by rw [hd]; exact Kd.C_below hqL hb) rfl)
  have HQ0 := Aside0.mk hq0
  obtain ⟨ad, B0, d0, B1, d1, e1, a0, a1, g0, g1, g2, g3⟩ := at_T58 hq1 (R : Int) (by omega) (by omega)
  have hrt : routeB q.rs.length (rd_T58 q.ro (R : Int)) = true := by
    rw [rd_get58 q.ro R hRl]; exact cfg_routes hcf _ (List.getElem_mem _)
  cases e1
  rw [hxs] at a0 g0 g1
  rw [Int.toNat_natCast] at a0
  unfold routeB at hrt
  rw [hxs] at hrt
  simp only [Bool.and_eq_true, decide_eq_true_eq] at hrt
  obtain ⟨hch, hn1, hn4, _⟩ := hrt
  have HCHN := Aside0.mk hch
  have hRV : ∀ P : Nat, P < xs.length → chainE q (R : Int) (P : Int) = 0 ∧ recvV q (R : Int) (P : Int) = rd xs (P : Nat) ∧ afterV q (R : Int) (P : Int) = (((P + 1) % xs.length : Nat) : Int) := fun a ha => by
    have h0 : chainE q (R : Int) (a : Int) = 0 := by
      unfold chainE hasB
      rw [hcf, hxs, decide_eq_true (show (0 : Int) ≤ R by omega), decide_eq_true (show (R : Int) < q.ro.length by omega), decide_eq_true (show (0 : Int) ≤ a by omega), decide_eq_true (show (a : Int) < xs.length by omega)]; rfl
    refine ⟨h0, by unfold recvV; rw [if_pos h0, hxs], ?_⟩
    unfold afterV
    rw [if_pos h0, hxs, Int.natCast_emod]
    rfl
  have HRVV := Aside0.mk hRV
  have HRL := Aside0.mk hrl
  have HCF := Aside0.mk hcf
  obtain ⟨adB, eB, _⟩ := Kd.at_int g1 0 (by decide) (by omega)
  cases eB
  have HG1 := Aside0.mk g1
  obtain ⟨rows, hrl9, hrk9, hrw9⟩ := rows_of g1
  have HRWS := Aside0.mk hrw9
  have HRLN := Aside0.mk hrl9
  have HRKS := Aside0.mk hrk9
  have HRP := Aside0.mk (show 0 < rows.length by omega)
  have HRB1 := Aside0.mk (show (([] : List (List Value)).length + rows.length) * 8 ≤ 140737488355328 by simp; omega)
  have HRB2 := Aside0.mk (show (([] ++ rows).length + rows.length) * 8 ≤ 140737488355328 by simp; omega)
  have hxl : xs.length ≤ 9223372036854775807 := by omega
  have hrows : rows.length = xs.length := hrl9
  have HNOW := Aside0.mk hnwo
  have hRi : (R : Int) < (q.ro.length : Int) := by omega
  have hR0 : (0 : Int) ≤ (R : Int) := by omega
  have hqro : q.ro.length ≤ 9223372036854775807 := hq1.2.1
  have hqrs : q.rs.length ≤ 9223372036854775807 := hq0.2.1
  rw [← hrows] at a0
  obtain ⟨n9, hn9⟩ : ∃ n9, ([] ++ rows ++ rows).length = n9 := ⟨_, rfl⟩
  have HLN := Aside0.mk hn9
  have HSAME := Aside0.mk (same10_ref L (by omega))
  have hn92 : n9 = 2 * xs.length := by rw [← hn9]; simp; omega
  have HA0 := Aside0.mk (fun (W' : World) (hb : Below w.heap.size w W') => (hb.cell (World.block_lt_of_cell? w _ a0)).trans a0)
  have HN92 := Aside0.mk hn92
  have hn9b : n9 ≤ 8 := by omega
  have hrl0 : 1 ≤ rows.length := by omega
  have hrl1 : rows.length ≤ 4 := by omega
  clear hr0 hl0 hr1 hl1 hr2 hl2 hwf hq hL hm0 hm1 hm2 hq0 hq1 hqL hq0l hq1l hqLl hqwf a0 hn9 hrows hn92 hnwo hnw he hR hcf hrl hch hRV g0 g1 g2 g3 a1 hrl9 hrk9 hrw9
  have hF := Aside0.mk (Fr.Frame.start w)
  have HC : True := trivial
  go_enter Try.func10, Try.ntmps10
  go_wp2_with (first | ((with_reducible refine gate_store rfl ?_); apply Fr.fr_store hF.out rfl rfl rfl; (case hp => rfl); (case hx => first | (go_simp; rfl) | rfl); (case hu => (simp only [Value.cells]; rfl)); (case hs => (repeat (first | exact Fr.Spot.here _ _ | apply Fr.Spot.there))); (case ht => kernel_rfl); (case h1 => simp [Value.oneCell']); (case hfit => simp); intro W hF1; simp only [Fr.patch, List.take_zero, List.nil_append, List.drop, List.append_nil, List.take, List.cons_append, List.length_cons, List.length_nil, Nat.reduceAdd] at hF1; have HC1 := hF1.cells; simp only [Fr.Cells, List.length_cons, List.length_nil, Nat.reduceAdd, and_true] at HC1; clear hF HC; have HC := HC1; have hF := Aside0.mk hF1; clear hF1 HC1) | ((with_reducible refine gate_dst (N := 4) rfl ?_); apply Fr.fr_box hF.out rfl; (case hrun => first | (go_simp; done) | (go_simp; rfl)); intro gb W hF1; have HC1 := hF1.cells; simp only [Fr.Cells, List.length_cons, List.length_nil, Nat.reduceAdd, and_true] at HC1; clear hF HC; have HC := HC1; have hF := Aside0.mk hF1; clear hF1 HC1) | ((first | (with_reducible refine Fr.gate_alloc rfl ?_) | (with_reducible refine Fr.gate_box rfl ?_)); apply Fr.fr_box hF.out rfl; (case hrun => first | (go_simp; done) | (go_simp; rfl)); intro g W hF1; have HC1 := hF1.cells; simp only [Fr.Cells, List.length_cons, List.length_nil, Nat.reduceAdd, and_true] at HC1; clear hF HC; have HC := HC1; have hF := Aside0.mk hF1; clear hF1 HC1))
  (with_reducible refine (H41.out _).mono ?_); rintro e W ⟨rfl, hb⟩; have hF1 := hF.out.call hb; clear hb; have HC1 := hF1.cells; simp only [Fr.Cells, List.length_cons, List.length_nil, Nat.reduceAdd, and_true] at HC1; clear hF HC; have HC := HC1; have hF := Aside0.mk hF1; clear hF1 HC1
  go_wp2_with (first | ((with_reducible refine gate_store rfl ?_); apply Fr.fr_store hF.out rfl rfl rfl; (case hp => rfl); (case hx => first | (go_simp; rfl) | rfl); (case hu => (simp only [Value.cells]; rfl)); (case hs => (repeat (first | exact Fr.Spot.here _ _ | apply Fr.Spot.there))); (case ht => kernel_rfl); (case h1 => simp [Value.oneCell']); (case hfit => simp); intro W hF1; simp only [Fr.patch, List.take_zero, List.nil_append, List.drop, List.append_nil, List.take, List.cons_append, List.length_cons, List.length_nil, Nat.reduceAdd] at hF1; have HC1 := hF1.cells; simp only [Fr.Cells, List.length_cons, List.length_nil, Nat.reduceAdd, and_true] at HC1; clear hF HC; have HC := HC1; have hF := Aside0.mk hF1; clear hF1 HC1) | ((first | (with_reducible refine Fr.gate_alloc rfl ?_) | (with_reducible refine Fr.gate_box rfl ?_)); apply Fr.fr_box hF.out rfl; (case hrun => first | (go_simp; done) | (go_simp; rfl)); intro g W hF1; have HC1 := hF1.cells; simp only [Fr.Cells, List.length_cons, List.length_nil, Nat.reduceAdd, and_true] at HC1; clear hF HC; have HC := HC1; have hF := Aside0.mk hF1; clear hF1 HC1))
  (with_reducible refine (H42.out _).mono ?_)
  rintro e W' ⟨rfl, rfl⟩
  go_wp2_with (first | ((with_reducible refine gate_store rfl ?_); apply Fr.fr_store hF.out rfl rfl rfl; (case hp => rfl); (case hx => first | (go_simp; rfl) | rfl); (case hu => (simp only [Value.cells]; rfl)); (case hs => (repeat (first | exact Fr.Spot.here _ _ | apply Fr.Spot.there))); (case ht => kernel_rfl); (case h1 => simp [Value.oneCell']); (case hfit => simp); intro W hF1; simp only [Fr.patch, List.take_zero, List.nil_append, List.drop, List.append_nil, List.take, List.cons_append, List.length_cons, List.length_nil, Nat.reduceAdd] at hF1; have HC1 := hF1.cells; simp only [Fr.Cells, List.length_cons, List.length_nil, Nat.reduceAdd, and_true] at HC1; clear hF HC; have HC := HC1; have hF := Aside0.mk hF1; clear hF1 HC1) | ((first | (with_reducible refine Fr.gate_alloc rfl ?_) | (with_reducible refine Fr.gate_box rfl ?_)); apply Fr.fr_box hF.out rfl; (case hrun => first | (go_simp; done) | (go_simp; rfl)); intro g W hF1; have HC1 := hF1.cells; simp only [Fr.Cells, List.length_cons, List.length_nil, Nat.reduceAdd, and_true] at HC1; clear hF HC; have HC := HC1; have hF := Aside0.mk hF1; clear hF1 HC1))
  (with_reducible refine (HN.out _ hF.out.below).mono ?_); rintro e W ⟨rfl, hb⟩; have hF1 := hF.out.call hb; clear hb; have HC1 := hF1.cells; simp only [Fr.Cells, List.length_cons, List.length_nil, Nat.reduceAdd, and_true] at HC1; clear hF HC; have HC := HC1; have hF := Aside0.mk hF1; clear hF1 HC1
  have a0 := HA0.out _ hF.out.below
  have ka0 := fun o => cell_al a0 o
  go_wp2_with (first | ((with_reducible refine gate_builtin (b := .append) (xs := #[.tmp 84, .tmp 85]) rfl ?_); obtain ⟨S0, hX⟩ := empty_row hF.out; refine fr_appendF (sz := 1) (.tmp 84) (.tmp 85) 56 3 (.int .i64 0) 8 (some adB) d0 rows hX rfl rfl Try.underlying56 (by kernel_rfl) rfl (by decide) (by omega) rfl rfl (Kd.C_below HRWS.out hX.below) HRP.out HRB1.out ?_; clear hX; intro v1 W S1 hF1; have HC1 := hF1.cells; simp only [Fr.Cells, List.length_cons, List.length_nil, Nat.reduceAdd, and_true] at HC1; clear hF HC; have HC := HC1; have hF := Aside0.mk hF1; clear hF1 HC1; clear a0 ka0; have a0 := HA0.out _ hF.out.below; have ka0 := fun o => cell_al a0 o) | ((with_reducible refine gate_builtin (b := .append) (xs := #[.tmp 86, .tmp 87]) rfl ?_); refine fr_appendF (sz := 1) (.tmp 86) (.tmp 87) 56 3 (.int .i64 0) 8 (some adB) d0 rows hF.out rfl rfl Try.underlying56 (by kernel_rfl) rfl (by decide) (by omega) rfl rfl (Kd.C_below HRWS.out hF.out.below) HRP.out HRB2.out ?_; intro v2 W S9 hF1; obtain ⟨A9, c9, e9, hc9, hC9⟩ := Kd.R_reads (hF1.rowAt (r := Fr.rowR (Kd.raw 1) 3 w.heap.size v2 ([] ++ rows ++ rows) S9) List.mem_cons_self); subst e9; rw [HLN.out] at hF1 hc9 hC9 ⊢; clear hC9; have HC1 := hF1.cells; simp only [Fr.Cells, List.length_cons, List.length_nil, Nat.reduceAdd, and_true] at HC1; clear hF HC; have HC := HC1; have hF := Aside0.mk hF1; clear hF1 HC1; clear a0 ka0; have a0 := HA0.out _ hF.out.below; have ka0 := fun o => cell_al a0 o) | ((with_reducible refine gate_dst (N := 9) rfl ?_); apply Fr.fr_box hF.out rfl; (case hrun => first | (go_simp; done) | (go_simp; rfl)); intro gd W hF1; have HC1 := hF1.cells; simp only [Fr.Cells, List.length_cons, List.length_nil, Nat.reduceAdd, and_true] at HC1; clear hF HC; have HC := HC1; have hF := Aside0.mk hF1; clear hF1 HC1; clear a0 ka0; have a0 := HA0.out _ hF.out.below; have ka0 := fun o => cell_al a0 o) | ((with_reducible refine gate_store rfl ?_); apply Fr.fr_store hF.out rfl rfl rfl; (case hp => rfl); (case hx => first | (go_simp; rfl) | rfl); (case hu => (simp only [Value.cells]; rfl)); (case hs => (repeat (first | exact Fr.Spot.here _ _ | apply Fr.Spot.there))); (case ht => kernel_rfl); (case h1 => simp [Value.oneCell']); (case hfit => simp); intro W hF1; simp only [Fr.patch, List.take_zero, List.nil_append, List.drop, List.append_nil, List.take, List.cons_append, List.length_cons, List.length_nil, Nat.reduceAdd] at hF1; have HC1 := hF1.cells; simp only [Fr.Cells, List.length_cons, List.length_nil, Nat.reduceAdd, and_true] at HC1; clear hF HC; have HC := HC1; have hF := Aside0.mk hF1; clear hF1 HC1; clear a0 ka0; have a0 := HA0.out _ hF.out.below; have ka0 := fun o => cell_al a0 o) | ((first | (with_reducible refine Fr.gate_alloc rfl ?_) | (with_reducible refine Fr.gate_box rfl ?_)); apply Fr.fr_box hF.out rfl; (case hrun => first | (go_simp; done) | (go_simp; rfl)); intro g W hF1; have HC1 := hF1.cells; simp only [Fr.Cells, List.length_cons, List.length_nil, Nat.reduceAdd, and_true] at HC1; clear hF HC; have HC := HC1; have hF := Aside0.mk hF1; clear hF1 HC1; clear a0 ka0; have a0 := HA0.out _ hF.out.below; have ka0 := fun o => cell_al a0 o))
  clear a0 ka0
  have HF0 := Aside0.mk (show Fr.Frame w _ _ [Fr.rowR (Kd.raw 1) 3 w.heap.size (.slice A9 n9 c9) (rows ++ rows) S9] from by have h9 := hF.out; simp only [List.nil_append] at h9; exact h9)
  go_loopg [90] n9 (fun kq v90 w' => ∃ (j : Nat) (due : Int), j ≤ n9 ∧ n9 - j ≤ kq ∧ v90 = .int .i64 j ∧ Aside0 (tmB due = true) ∧ Aside0 (Fr.Frame w w' [(gd, [.slice A2 L.length c2, .int .i64 (R : Int), .int .i64 ((j % xs.length : Nat) : Int), .int .i64 0, .int .i64 due, .int .i64 1], 69), (gb, [.slice A0 q.rs.length c0, .slice (some ad) q.ro.length c1, .int .i64 q.rep, .int .i64 q.beat], 53)] [Fr.rowR (Kd.raw 1) 3 w.heap.size (.slice A9 n9 c9) (rows ++ rows) S9]))
  case atStart => exact ⟨0, nw, Nat.zero_le _, by omega, rfl, HNOW, ⟨by rw [Nat.zero_mod]; exact HF0.out⟩⟩
  case round =>
    clear hF HF0 HC
    obtain ⟨j, due, hj, hg, rfl, HTM, hF⟩ := hrel
    by_cases hlt : j < n9
    · have HC1 := hF.out.cells
      simp only [Fr.Cells, List.length_cons, List.length_nil, Nat.reduceAdd, and_true] at HC1
      have HC := HC1
      clear HC1
      have hlti : (j : Int) < (n9 : Int) := by omega
      have hn2 := HN92.out
      have hrx : rows.length = xs.length := HRLN.out
      have hro := rowC hF.out List.mem_cons_self
      have hC2 : Kd.C (Kd.int .i64) _ A9 (xs ++ xs).length (xs ++ xs) := of_rows (rows := rows ++ rows) (by simp; omega) (fun i y cs hy hcs => by
        refine (Kd.int .i64).K_below hF.out.below ?_
        by_cases hil : i < rows.length
        · rw [List.getElem?_append_left hil] at hcs
          rw [List.getElem?_append_left (by omega)] at hy
          exact HRKS.out i y cs hy hcs
        · rw [List.getElem?_append_right (by omega)] at hcs
          rw [List.getElem?_append_right (by omega)] at hy
          rw [hrx] at hcs
          exact HRKS.out (i - xs.length) y cs hy hcs) hro.2
      obtain ⟨ad9, e9, b0⟩ := Kd.at_int hC2 (j : Int) (by omega) (by simp; omega)
      cases e9
      rw [rd_double xs j (by omega), Int.toNat_natCast] at b0
      have HJP := Aside0.mk (show ((j % xs.length + 1) % xs.length : Nat) = (j + 1) % xs.length from Nat.mod_add_mod _ _ _)
      obtain ⟨P, hP⟩ : ∃ P, j % xs.length = P := ⟨_, rfl⟩
      have hPl : P < xs.length := by rw [← hP]; exact Nat.mod_lt _ (by omega)
      rw [hP] at b0 hF HJP HC
      obtain ⟨hv0, hv1, hv2⟩ := HRVV.out P hPl
      have hin := chain_in HCHN.out hPl
      obtain ⟨adB2, eB2, cb⟩ := Kd.at_int HG1.out (P : Int) (by omega) (by omega)
      cases eB2
      rw [Int.toNat_natCast] at cb
      obtain ⟨k, hk⟩ : ∃ k : Nat, rd xs (P : Nat) = (k : Int) := ⟨(rd xs (P : Nat)).toNat, by omega⟩
      rw [hk] at b0 hv1 hin cb
      have HCB := Aside0.mk (fun (W' : World) (hb : Below w.heap.size w W') => (hb.cell (World.block_lt_of_cell? w _ cb)).trans cb)
      obtain ⟨adr, er, r0, r1, r2, r3, r4, r5, r6, r7, r8⟩ := at_T76 HQ0.out (k : Int) (by omega) (by omega)
      cases er
      rw [Int.toNat_natCast] at r0 r1 r2 r3 r4 r5 r6 r7 r8
      have hrec := rec_facts (rec_of HCF.out (k := k) (by omega))
      obtain ⟨x, hx⟩ : ∃ x, rd_T76 q.rs (k : Int) = x := ⟨_, rfl⟩
      rw [hx] at r0 r1 r2 r3 r4 r5 r6 r7 r8 hrec
      replace r0 := (hF.out.below.cell (World.block_lt_of_cell? w _ r0)).trans r0
      replace r1 := (hF.out.below.cell (World.block_lt_of_cell? w _ r1)).trans r1
      replace r2 := (hF.out.below.cell (World.block_lt_of_cell? w _ r2)).trans r2
      replace r3 := (hF.out.below.cell (World.block_lt_of_cell? w _ r3)).trans r3
      replace r4 := (hF.out.below.cell (World.block_lt_of_cell? w _ r4)).trans r4
      replace r5 := (hF.out.below.cell (World.block_lt_of_cell? w _ r5)).trans r5
      replace r6 := (hF.out.below.cell (World.block_lt_of_cell? w _ r6)).trans r6
      replace r7 := (hF.out.below.cell (World.block_lt_of_cell? w _ r7)).trans r7
      replace r8 := (hF.out.below.cell (World.block_lt_of_cell? w _ r8)).trans r8
      have HD := Aside0.mk (fun (tr du : Int) (h1 : 0 ≤ tr) (h2 : tr < x.f2) (h3 : tmB du = true) => show dutyB q ⟨L, R, P, tr, du, 1⟩ = true by
        unfold dutyB
        rw [hv0, hv1, hx, HRL.out, h3, decide_eq_true h1, decide_eq_true h2]; rfl)
      have HXR := Aside0.mk (show rd_T76 q.rs (recvV q (R : Int) (P : Int)) = x by rw [hv1, hx])
      have HAFV := Aside0.mk hv2
      have HREC := Aside0.mk hrec
      have hf1 : 1 ≤ x.f2 := hrec.2.1
      have hf2 : x.f2 ≤ 100 := hrec.2.2
      obtain ⟨mi, hmi⟩ : ∃ mi, (if (12 : Int) < x.f2 then 12 else x.f2) = mi := ⟨_, rfl⟩
      have hmi1 : mi ≤ 12 ∧ mi ≤ x.f2 ∧ (¬ 12 < x.f2 → mi = x.f2) ∧ (12 < x.f2 → mi = 12) := by rw [← hmi]; split <;> omega
      have HMI := Aside0.mk hmi1
      have g0 : (0 : Int) ≤ (k : Int) := by omega
      have g1 : (k : Int) < (q.rs.length : Int) := by omega
      have g3 : IntKind.i64.wrap (k : Int) = k := by rw [IntKind.wrap_i64]; omega
      have p0 : (0 : Int) ≤ (P : Int) := by omega
      have p1 : (P : Int) < (rows.length : Int) := by omega
      have p3 : IntKind.i64.wrap (P : Int) = P := by rw [IntKind.wrap_i64]; omega
      clear hn2 hrx hro hC2 hv0 hv1 hv2 hin hk hx hrec hmi1 cb hP hPl
      go_wp2_with (first | ((with_reducible refine gate_store rfl ?_); apply Fr.fr_store hF.out rfl rfl rfl; (case hp => rfl); (case hx => first | (go_simp; rfl) | rfl); (case hu => (simp only [Value.cells]; rfl)); (case hs => (repeat (first | exact Fr.Spot.here _ _ | apply Fr.Spot.there))); (case ht => kernel_rfl); (case h1 => simp [Value.oneCell']); (case hfit => simp); intro W hF1; simp only [Fr.patch, List.take_zero, List.nil_append, List.drop, List.append_nil, List.take, List.cons_append, List.length_cons, List.length_nil, Nat.reduceAdd] at hF1; have HC1 := hF1.cells; simp only [Fr.Cells, List.length_cons, List.length_nil, Nat.reduceAdd, and_true] at HC1; clear hF HC; have HC := HC1; have hF := Aside0.mk hF1; clear hF1 HC1) | ((with_reducible refine gate_dst (N := 14) rfl ?_); apply Fr.fr_box hF.out rfl; (case hrun => first | (go_simp; done) | (go_simp; rfl)); intro g14 W hF1; have HC1 := hF1.cells; simp only [Fr.Cells, List.length_cons, List.length_nil, Nat.reduceAdd, and_true] at HC1; clear hF HC; have HC := HC1; have hF := Aside0.mk hF1; clear hF1 HC1) | ((first | (with_reducible refine Fr.gate_alloc rfl ?_) | (with_reducible refine Fr.gate_box rfl ?_)); apply Fr.fr_box hF.out rfl; (case hrun => first | (go_simp; done) | (go_simp; rfl)); intro g W hF1; have HC1 := hF1.cells; simp only [Fr.Cells, List.length_cons, List.length_nil, Nat.reduceAdd, and_true] at HC1; clear hF HC; have HC := HC1; have hF := Aside0.mk hF1; clear hF1 HC1))
      have HF1 := hF
      go_loopg [102] 13 (fun jq v102 w' => ∃ (i : Nat) (pl tr du : Int), (i : Int) ≤ mi ∧ 12 - i ≤ jq ∧ v102 = .int .i64 i ∧ Aside0 (tmB du = true) ∧ Aside0 ((i : Int) < x.f2 → pl = (P : Int) ∧ tr = (i : Int)) ∧ Aside0 ((i : Int) = x.f2 → pl = (((P + 1) % xs.length : Nat) : Int) ∧ tr = 0) ∧ Aside0 (12 < x.f2 → i = 0) ∧ Aside0 (Fr.Frame w w' [(g14, [.string x.f0, .int .i64 x.f1.f0, .int .i64 x.f1.f1, .int .i64 x.f1.f2, .int .i64 x.f2, .int .i64 x.f3, .int .i64 x.f4, .int .i64 x.f5, .int .i64 x.f6], 76), (gd, [.slice A2 L.length c2, .int .i64 (R : Int), .int .i64 pl, .int .i64 tr, .int .i64 du, .int .i64 1], 69), (gb, [.slice (some adr) q.rs.length c0, .slice (some ad) q.ro.length c1, .int .i64 q.rep, .int .i64 q.beat], 53)] [Fr.rowR (Kd.raw 1) 3 w.heap.size (.slice (some ad9) n9 c9) (rows ++ rows) S9]))
      case atStart => exact ⟨0, (P : Int), 0, due, by have := HMI.out; omega, by omega, rfl, HTM, ⟨fun _ => ⟨rfl, rfl⟩⟩, ⟨fun h => by omega⟩, ⟨fun _ => rfl⟩, HF1⟩
      case round =>
        clear hF HF1 HC
        obtain ⟨i, pl, tr, du, hi, hgi, rfl, HTD, HP1, HP2, HP3, hF⟩ := hrel
        by_cases hit : (i : Int) < mi
        · have hif : (i : Int) < x.f2 := by have := HMI.out; omega
          obtain ⟨rfl, rfl⟩ := HP1.out hif
          have HC1 := hF.out.cells
          simp only [Fr.Cells, List.length_cons, List.length_nil, Nat.reduceAdd, and_true] at HC1
          have HC := HC1
          clear HC1
          have cb := HCB.out _ hF.out.below
          have HDD := Aside0.mk (HD.out (i : Int) du (by omega) hif HTD.out)
          have HRT1 := Aside0.mk (fun W hb => HRT.out W ⟨L, R, P, i, du, 1⟩ rfl hb)
          rw [HDD.out] at HRT1
          dsimp only at HRT1
          have g9 : (0 : Int) ≤ (i : Int) := by omega
          by_cases h12 : 12 < x.f2
          · go_wp2_with (first | ((with_reducible refine gate_store rfl ?_); apply Fr.fr_store hF.out rfl rfl rfl; (case hp => rfl); (case hx => first | (go_simp; rfl) | rfl); (case hu => (simp only [Value.cells]; rfl)); (case hs => (repeat (first | exact Fr.Spot.here _ _ | apply Fr.Spot.there))); (case ht => kernel_rfl); (case h1 => simp [Value.oneCell']); (case hfit => simp); intro W hF1; simp only [Fr.patch, List.take_zero, List.nil_append, List.drop, List.append_nil, List.take, List.cons_append, List.length_cons, List.length_nil, Nat.reduceAdd] at hF1; have HC1 := hF1.cells; simp only [Fr.Cells, List.length_cons, List.length_nil, Nat.reduceAdd, and_true] at HC1; clear hF HC; have HC := HC1; have hF := Aside0.mk hF1; clear hF1 HC1) | ((first | (with_reducible refine Fr.gate_alloc rfl ?_) | (with_reducible refine Fr.gate_box rfl ?_)); apply Fr.fr_box hF.out rfl; (case hrun => first | (go_simp; done) | (go_simp; rfl)); intro g W hF1; have HC1 := hF1.cells; simp only [Fr.Cells, List.length_cons, List.length_nil, Nat.reduceAdd, and_true] at HC1; clear hF HC; have HC := HC1; have hF := Aside0.mk hF1; clear hF1 HC1))
            (with_reducible refine (HRT1.out _ hF.out.below).mono ?_); rintro e W ⟨rfl, hb⟩; have hF1 := hF.out.call hb; clear hb; have HC1 := hF1.cells; simp only [Fr.Cells, List.length_cons, List.length_nil, Nat.reduceAdd, and_true] at HC1; clear hF HC; have HC := HC1; have hF := Aside0.mk hF1; clear hF1 HC1
            go_wp2_with (first | ((with_reducible refine gate_store rfl ?_); apply Fr.fr_store hF.out rfl rfl rfl; (case hp => rfl); (case hx => first | (go_simp; rfl) | rfl); (case hu => (simp only [Value.cells]; rfl)); (case hs => (repeat (first | exact Fr.Spot.here _ _ | apply Fr.Spot.there))); (case ht => kernel_rfl); (case h1 => simp [Value.oneCell']); (case hfit => simp); intro W hF1; simp only [Fr.patch, List.take_zero, List.nil_append, List.drop, List.append_nil, List.take, List.cons_append, List.length_cons, List.length_nil, Nat.reduceAdd] at hF1; have HC1 := hF1.cells; simp only [Fr.Cells, List.length_cons, List.length_nil, Nat.reduceAdd, and_true] at HC1; clear hF HC; have HC := HC1; have hF := Aside0.mk hF1; clear hF1 HC1) | ((first | (with_reducible refine Fr.gate_alloc rfl ?_) | (with_reducible refine Fr.gate_box rfl ?_)); apply Fr.fr_box hF.out rfl; (case hrun => first | (go_simp; done) | (go_simp; rfl)); intro g W hF1; have HC1 := hF1.cells; simp only [Fr.Cells, List.length_cons, List.length_nil, Nat.reduceAdd, and_true] at HC1; clear hF HC; have HC := HC1; have hF := Aside0.mk hF1; clear hF1 HC1))
            (with_reducible refine (alive44_calls _).mono ?_); rintro e W ⟨rfl, hb⟩; have hF1 := hF.out.call hb; clear hb; have HC1 := hF1.cells; simp only [Fr.Cells, List.length_cons, List.length_nil, Nat.reduceAdd, and_true] at HC1; clear hF HC; have HC := HC1; have hF := Aside0.mk hF1; clear hF1 HC1
            go_wp2_with (first | ((with_reducible refine gate_store rfl ?_); apply Fr.fr_store hF.out rfl rfl rfl; (case hp => rfl); (case hx => first | (go_simp; rfl) | rfl); (case hu => (simp only [Value.cells]; rfl)); (case hs => (repeat (first | exact Fr.Spot.here _ _ | apply Fr.Spot.there))); (case ht => kernel_rfl); (case h1 => simp [Value.oneCell']); (case hfit => simp); intro W hF1; simp only [Fr.patch, List.take_zero, List.nil_append, List.drop, List.append_nil, List.take, List.cons_append, List.length_cons, List.length_nil, Nat.reduceAdd] at hF1; have HC1 := hF1.cells; simp only [Fr.Cells, List.length_cons, List.length_nil, Nat.reduceAdd, and_true] at HC1; clear hF HC; have HC := HC1; have hF := Aside0.mk hF1; clear hF1 HC1) | ((first | (with_reducible refine Fr.gate_alloc rfl ?_) | (with_reducible refine Fr.gate_box rfl ?_)); apply Fr.fr_box hF.out rfl; (case hrun => first | (go_simp; done) | (go_simp; rfl)); intro g W hF1; have HC1 := hF1.cells; simp only [Fr.Cells, List.length_cons, List.length_nil, Nat.reduceAdd, and_true] at HC1; clear hF HC; have HC := HC1; have hF := Aside0.mk hF1; clear hF1 HC1))
            go_ret
            exact ⟨rfl, hF.out.below⟩
          · have h12' : x.f2 ≤ 12 := by omega
            clear h12
            have hdu := (tm_iff du).1 HTD.out
            have hst := step_in HREC.out.1 g9
            have hjt := back_jit HREC.out.1
            have hdm := drawM_in draw (x.f1.f2 + 1) (by omega)
            have HST := Aside0.mk (step_is HREC.out.1 g9)
            have hwi := wait_in HREC.out.1 g9 draw
            obtain ⟨nd, hnd⟩ : ∃ nd, addT du (waitW x.f1 (i : Int) draw) = nd := ⟨_, rfl⟩
            have HNT := Aside0.mk (show tmB nd = true by rw [← hnd]; exact addT_ok HTD.out (by omega))
            have hnd2 := hnd
            unfold addT waitW at hnd2
            obtain ⟨st, hstn⟩ : ∃ st, stepI x.f1.f0 x.f1.f1 (i : Int) = st := ⟨_, rfl⟩
            rw [hstn] at HST hst hnd2
            obtain ⟨dm, hdmn⟩ : ∃ dm, drawM draw (x.f1.f2 + 1) = dm := ⟨_, rfl⟩
            rw [hdmn] at hdm hnd2
            obtain ⟨m1, hm1⟩ : ∃ m1, (if (1099511627776 : Int) < du + st then 1099511627776 else du + st) = m1 := ⟨_, rfl⟩
            obtain ⟨m2, hm2⟩ : ∃ m2, (if (1099511627776 : Int) < du + st + x.f1.f2 then 1099511627776 else du + st + x.f1.f2) = m2 := ⟨_, rfl⟩
            have hm1l : m1 ≤ nd := by rw [← hm1, ← hnd2]; split <;> split <;> omega
            have hm2l : nd ≤ m2 := by rw [← hm2, ← hnd2]; split <;> split <;> omega
            obtain ⟨hdu0, hdu1⟩ := hdu
            obtain ⟨hst0, hst1⟩ := hst
            obtain ⟨hjt0, hjt1⟩ := hjt
            by_cases hlast : (i : Int) + 1 = x.f2
            · have HS1 := Aside0.mk (fun W hb => HSN.out W ⟨L, R, P, i, du, 1⟩ rfl du hb HDD.out HTD.out (Int.le_refl _) x HXR.out hlast)
              dsimp only at HS1
              rw [HAFV.out, hnd] at HS1
              have HLS := Aside0.mk hlast
              clear hnd hnd2 hstn hdmn hdm hwi hlast
              go_wp2_with (first | ((with_reducible refine gate_store rfl ?_); apply Fr.fr_store hF.out rfl rfl rfl; (case hp => rfl); (case hx => first | (go_simp; rfl) | rfl); (case hu => (simp only [Value.cells]; rfl)); (case hs => (repeat (first | exact Fr.Spot.here _ _ | apply Fr.Spot.there))); (case ht => kernel_rfl); (case h1 => simp [Value.oneCell']); (case hfit => simp); intro W hF1; simp only [Fr.patch, List.take_zero, List.nil_append, List.drop, List.append_nil, List.take, List.cons_append, List.length_cons, List.length_nil, Nat.reduceAdd] at hF1; have HC1 := hF1.cells; simp only [Fr.Cells, List.length_cons, List.length_nil, Nat.reduceAdd, and_true] at HC1; clear hF HC; have HC := HC1; have hF := Aside0.mk hF1; clear hF1 HC1) | ((first | (with_reducible refine Fr.gate_alloc rfl ?_) | (with_reducible refine Fr.gate_box rfl ?_)); apply Fr.fr_box hF.out rfl; (case hrun => first | (go_simp; done) | (go_simp; rfl)); intro g W hF1; have HC1 := hF1.cells; simp only [Fr.Cells, List.length_cons, List.length_nil, Nat.reduceAdd, and_true] at HC1; clear hF HC; have HC := HC1; have hF := Aside0.mk hF1; clear hF1 HC1))
              (with_reducible refine (HRT1.out _ hF.out.below).mono ?_); rintro e W ⟨rfl, hb⟩; have hF1 := hF.out.call hb; clear hb; have HC1 := hF1.cells; simp only [Fr.Cells, List.length_cons, List.length_nil, Nat.reduceAdd, and_true] at HC1; clear hF HC; have HC := HC1; have hF := Aside0.mk hF1; clear hF1 HC1
              go_wp2_with (first | ((with_reducible refine gate_store rfl ?_); apply Fr.fr_store hF.out rfl rfl rfl; (case hp => rfl); (case hx => first | (go_simp; rfl) | rfl); (case hu => (simp only [Value.cells]; rfl)); (case hs => (repeat (first | exact Fr.Spot.here _ _ | apply Fr.Spot.there))); (case ht => kernel_rfl); (case h1 => simp [Value.oneCell']); (case hfit => simp); intro W hF1; simp only [Fr.patch, List.take_zero, List.nil_append, List.drop, List.append_nil, List.take, List.cons_append, List.length_cons, List.length_nil, Nat.reduceAdd] at hF1; have HC1 := hF1.cells; simp only [Fr.Cells, List.length_cons, List.length_nil, Nat.reduceAdd, and_true] at HC1; clear hF HC; have HC := HC1; have hF := Aside0.mk hF1; clear hF1 HC1) | ((first | (with_reducible refine Fr.gate_alloc rfl ?_) | (with_reducible refine Fr.gate_box rfl ?_)); apply Fr.fr_box hF.out rfl; (case hrun => first | (go_simp; done) | (go_simp; rfl)); intro g W hF1; have HC1 := hF1.cells; simp only [Fr.Cells, List.length_cons, List.length_nil, Nat.reduceAdd, and_true] at HC1; clear hF HC; have HC := HC1; have hF := Aside0.mk hF1; clear hF1 HC1))
              (with_reducible refine (backoff_Step.calls x.f1.f0 x.f1.f1 x.f1.f2 (i : Int) st 0 _ HST.out).mono ?_); rintro e W ⟨rfl, hb⟩; have hF1 := hF.out.call hb; clear hb; have HC1 := hF1.cells; simp only [Fr.Cells, List.length_cons, List.length_nil, Nat.reduceAdd, and_true] at HC1; clear hF HC; have HC := HC1; have hF := Aside0.mk hF1; clear hF1 HC1
              go_wp2_with (first | ((with_reducible refine gate_store rfl ?_); apply Fr.fr_store hF.out rfl rfl rfl; (case hp => rfl); (case hx => first | (go_simp; rfl) | rfl); (case hu => (simp only [Value.cells]; rfl)); (case hs => (repeat (first | exact Fr.Spot.here _ _ | apply Fr.Spot.there))); (case ht => kernel_rfl); (case h1 => simp [Value.oneCell']); (case hfit => simp); intro W hF1; simp only [Fr.patch, List.take_zero, List.nil_append, List.drop, List.append_nil, List.take, List.cons_append, List.length_cons, List.length_nil, Nat.reduceAdd] at hF1; have HC1 := hF1.cells; simp only [Fr.Cells, List.length_cons, List.length_nil, Nat.reduceAdd, and_true] at HC1; clear hF HC; have HC := HC1; have hF := Aside0.mk hF1; clear hF1 HC1) | ((first | (with_reducible refine Fr.gate_alloc rfl ?_) | (with_reducible refine Fr.gate_box rfl ?_)); apply Fr.fr_box hF.out rfl; (case hrun => first | (go_simp; done) | (go_simp; rfl)); intro g W hF1; have HC1 := hF1.cells; simp only [Fr.Cells, List.length_cons, List.length_nil, Nat.reduceAdd, and_true] at HC1; clear hF HC; have HC := HC1; have hF := Aside0.mk hF1; clear hF1 HC1))
              (with_reducible refine (HS1.out _ hF.out.below).mono ?_); rintro e W ⟨rfl, hb⟩; have hF1 := hF.out.call hb; clear hb; have HC1 := hF1.cells; simp only [Fr.Cells, List.length_cons, List.length_nil, Nat.reduceAdd, and_true] at HC1; clear hF HC; have HC := HC1; have hF := Aside0.mk hF1; clear hF1 HC1
              go_wp2_with (first | ((with_reducible refine gate_store rfl ?_); apply Fr.fr_store hF.out rfl rfl rfl; (case hp => rfl); (case hx => first | (go_simp; rfl) | rfl); (case hu => (simp only [Value.cells]; rfl)); (case hs => (repeat (first | exact Fr.Spot.here _ _ | apply Fr.Spot.there))); (case ht => kernel_rfl); (case h1 => simp [Value.oneCell']); (case hfit => simp); intro W hF1; simp only [Fr.patch, List.take_zero, List.nil_append, List.drop, List.append_nil, List.take, List.cons_append, List.length_cons, List.length_nil, Nat.reduceAdd] at hF1; have HC1 := hF1.cells; simp only [Fr.Cells, List.length_cons, List.length_nil, Nat.reduceAdd, and_true] at HC1; clear hF HC; have HC := HC1; have hF := Aside0.mk hF1; clear hF1 HC1) | ((first | (with_reducible refine Fr.gate_alloc rfl ?_) | (with_reducible refine Fr.gate_box rfl ?_)); apply Fr.fr_box hF.out rfl; (case hrun => first | (go_simp; done) | (go_simp; rfl)); intro g W hF1; have HC1 := hF1.cells; simp only [Fr.Cells, List.length_cons, List.length_nil, Nat.reduceAdd, and_true] at HC1; clear hF HC; have HC := HC1; have hF := Aside0.mk hF1; clear hF1 HC1))
              (with_reducible refine (foghornref10_Same.calls 1001 A2 c2 L A2 c2 L true _ (Kd.C_below HQL.out hF.out.below) HQLL.out (Kd.C_below HQL.out hF.out.below) HQLL.out HSAME.out).mono ?_); rintro e W ⟨rfl, hb⟩; have hF1 := hF.out.call hb.below; clear hb; have HC1 := hF1.cells; simp only [Fr.Cells, List.length_cons, List.length_nil, Nat.reduceAdd, and_true] at HC1; clear hF HC; have HC := HC1; have hF := Aside0.mk hF1; clear hF1 HC1
              go_wp2_with (first | ((with_reducible refine gate_store rfl ?_); apply Fr.fr_store hF.out rfl rfl rfl; (case hp => rfl); (case hx => first | (go_simp; rfl) | rfl); (case hu => (simp only [Value.cells]; rfl)); (case hs => (repeat (first | exact Fr.Spot.here _ _ | apply Fr.Spot.there))); (case ht => kernel_rfl); (case h1 => simp [Value.oneCell']); (case hfit => simp); intro W hF1; simp only [Fr.patch, List.take_zero, List.nil_append, List.drop, List.append_nil, List.take, List.cons_append, List.length_cons, List.length_nil, Nat.reduceAdd] at hF1; have HC1 := hF1.cells; simp only [Fr.Cells, List.length_cons, List.length_nil, Nat.reduceAdd, and_true] at HC1; clear hF HC; have HC := HC1; have hF := Aside0.mk hF1; clear hF1 HC1) | ((first | (with_reducible refine Fr.gate_alloc rfl ?_) | (with_reducible refine Fr.gate_box rfl ?_)); apply Fr.fr_box hF.out rfl; (case hrun => first | (go_simp; done) | (go_simp; rfl)); intro g W hF1; have HC1 := hF1.cells; simp only [Fr.Cells, List.length_cons, List.length_nil, Nat.reduceAdd, and_true] at HC1; clear hF HC; have HC := HC1; have hF := Aside0.mk hF1; clear hF1 HC1))
              go_roundg (12 - (i + 1))
              case measure => omega
              case rel => exact ⟨i + 1, _, _, nd, by omega, by omega, by go_num, HNT, ⟨fun h => by have := HLS.out; omega⟩, ⟨fun _ => ⟨rfl, rfl⟩⟩, ⟨fun h => by omega⟩, ⟨hF.out.drop⟩⟩
            · have HS1 := Aside0.mk (fun W hb => HSS.out W ⟨L, R, P, i, du, 1⟩ rfl du hb HDD.out HTD.out (Int.le_refl _) x HXR.out hlast)
              dsimp only at HS1
              rw [hnd] at HS1
              have HLS := Aside0.mk hlast
              clear hnd hnd2 hstn hdmn hdm hwi hlast
              go_wp2_with (first | ((with_reducible refine gate_store rfl ?_); apply Fr.fr_store hF.out rfl rfl rfl; (case hp => rfl); (case hx => first | (go_simp; rfl) | rfl); (case hu => (simp only [Value.cells]; rfl)); (case hs => (repeat (first | exact Fr.Spot.here _ _ | apply Fr.Spot.there))); (case ht => kernel_rfl); (case h1 => simp [Value.oneCell']); (case hfit => simp); intro W hF1; simp only [Fr.patch, List.take_zero, List.nil_append, List.drop, List.append_nil, List.take, List.cons_append, List.length_cons, List.length_nil, Nat.reduceAdd] at hF1; have HC1 := hF1.cells; simp only [Fr.Cells, List.length_cons, List.length_nil, Nat.reduceAdd, and_true] at HC1; clear hF HC; have HC := HC1; have hF := Aside0.mk hF1; clear hF1 HC1) | ((first | (with_reducible refine Fr.gate_alloc rfl ?_) | (with_reducible refine Fr.gate_box rfl ?_)); apply Fr.fr_box hF.out rfl; (case hrun => first | (go_simp; done) | (go_simp; rfl)); intro g W hF1; have HC1 := hF1.cells; simp only [Fr.Cells, List.length_cons, List.length_nil, Nat.reduceAdd, and_true] at HC1; clear hF HC; have HC := HC1; have hF := Aside0.mk hF1; clear hF1 HC1))
              (with_reducible refine (HRT1.out _ hF.out.below).mono ?_); rintro e W ⟨rfl, hb⟩; have hF1 := hF.out.call hb; clear hb; have HC1 := hF1.cells; simp only [Fr.Cells, List.length_cons, List.length_nil, Nat.reduceAdd, and_true] at HC1; clear hF HC; have HC := HC1; have hF := Aside0.mk hF1; clear hF1 HC1
              go_wp2_with (first | ((with_reducible refine gate_store rfl ?_); apply Fr.fr_store hF.out rfl rfl rfl; (case hp => rfl); (case hx => first | (go_simp; rfl) | rfl); (case hu => (simp only [Value.cells]; rfl)); (case hs => (repeat (first | exact Fr.Spot.here _ _ | apply Fr.Spot.there))); (case ht => kernel_rfl); (case h1 => simp [Value.oneCell']); (case hfit => simp); intro W hF1; simp only [Fr.patch, List.take_zero, List.nil_append, List.drop, List.append_nil, List.take, List.cons_append, List.length_cons, List.length_nil, Nat.reduceAdd] at hF1; have HC1 := hF1.cells; simp only [Fr.Cells, List.length_cons, List.length_nil, Nat.reduceAdd, and_true] at HC1; clear hF HC; have HC := HC1; have hF := Aside0.mk hF1; clear hF1 HC1) | ((first | (with_reducible refine Fr.gate_alloc rfl ?_) | (with_reducible refine Fr.gate_box rfl ?_)); apply Fr.fr_box hF.out rfl; (case hrun => first | (go_simp; done) | (go_simp; rfl)); intro g W hF1; have HC1 := hF1.cells; simp only [Fr.Cells, List.length_cons, List.length_nil, Nat.reduceAdd, and_true] at HC1; clear hF HC; have HC := HC1; have hF := Aside0.mk hF1; clear hF1 HC1))
              (with_reducible refine (backoff_Step.calls x.f1.f0 x.f1.f1 x.f1.f2 (i : Int) st 0 _ HST.out).mono ?_); rintro e W ⟨rfl, hb⟩; have hF1 := hF.out.call hb; clear hb; have HC1 := hF1.cells; simp only [Fr.Cells, List.length_cons, List.length_nil, Nat.reduceAdd, and_true] at HC1; clear hF HC; have HC := HC1; have hF := Aside0.mk hF1; clear hF1 HC1
              go_wp2_with (first | ((with_reducible refine gate_store rfl ?_); apply Fr.fr_store hF.out rfl rfl rfl; (case hp => rfl); (case hx => first | (go_simp; rfl) | rfl); (case hu => (simp only [Value.cells]; rfl)); (case hs => (repeat (first | exact Fr.Spot.here _ _ | apply Fr.Spot.there))); (case ht => kernel_rfl); (case h1 => simp [Value.oneCell']); (case hfit => simp); intro W hF1; simp only [Fr.patch, List.take_zero, List.nil_append, List.drop, List.append_nil, List.take, List.cons_append, List.length_cons, List.length_nil, Nat.reduceAdd] at hF1; have HC1 := hF1.cells; simp only [Fr.Cells, List.length_cons, List.length_nil, Nat.reduceAdd, and_true] at HC1; clear hF HC; have HC := HC1; have hF := Aside0.mk hF1; clear hF1 HC1) | ((first | (with_reducible refine Fr.gate_alloc rfl ?_) | (with_reducible refine Fr.gate_box rfl ?_)); apply Fr.fr_box hF.out rfl; (case hrun => first | (go_simp; done) | (go_simp; rfl)); intro g W hF1; have HC1 := hF1.cells; simp only [Fr.Cells, List.length_cons, List.length_nil, Nat.reduceAdd, and_true] at HC1; clear hF HC; have HC := HC1; have hF := Aside0.mk hF1; clear hF1 HC1))
              (with_reducible refine (HS1.out _ hF.out.below).mono ?_); rintro e W ⟨rfl, hb⟩; have hF1 := hF.out.call hb; clear hb; have HC1 := hF1.cells; simp only [Fr.Cells, List.length_cons, List.length_nil, Nat.reduceAdd, and_true] at HC1; clear hF HC; have HC := HC1; have hF := Aside0.mk hF1; clear hF1 HC1
              go_wp2_with (first | ((with_reducible refine gate_store rfl ?_); apply Fr.fr_store hF.out rfl rfl rfl; (case hp => rfl); (case hx => first | (go_simp; rfl) | rfl); (case hu => (simp only [Value.cells]; rfl)); (case hs => (repeat (first | exact Fr.Spot.here _ _ | apply Fr.Spot.there))); (case ht => kernel_rfl); (case h1 => simp [Value.oneCell']); (case hfit => simp); intro W hF1; simp only [Fr.patch, List.take_zero, List.nil_append, List.drop, List.append_nil, List.take, List.cons_append, List.length_cons, List.length_nil, Nat.reduceAdd] at hF1; have HC1 := hF1.cells; simp only [Fr.Cells, List.length_cons, List.length_nil, Nat.reduceAdd, and_true] at HC1; clear hF HC; have HC := HC1; have hF := Aside0.mk hF1; clear hF1 HC1) | ((first | (with_reducible refine Fr.gate_alloc rfl ?_) | (with_reducible refine Fr.gate_box rfl ?_)); apply Fr.fr_box hF.out rfl; (case hrun => first | (go_simp; done) | (go_simp; rfl)); intro g W hF1; have HC1 := hF1.cells; simp only [Fr.Cells, List.length_cons, List.length_nil, Nat.reduceAdd, and_true] at HC1; clear hF HC; have HC := HC1; have hF := Aside0.mk hF1; clear hF1 HC1))
              (with_reducible refine (foghornref10_Same.calls 1001 A2 c2 L A2 c2 L true _ (Kd.C_below HQL.out hF.out.below) HQLL.out (Kd.C_below HQL.out hF.out.below) HQLL.out HSAME.out).mono ?_); rintro e W ⟨rfl, hb⟩; have hF1 := hF.out.call hb.below; clear hb; have HC1 := hF1.cells; simp only [Fr.Cells, List.length_cons, List.length_nil, Nat.reduceAdd, and_true] at HC1; clear hF HC; have HC := HC1; have hF := Aside0.mk hF1; clear hF1 HC1
              go_wp2_with (first | ((with_reducible refine gate_store rfl ?_); apply Fr.fr_store hF.out rfl rfl rfl; (case hp => rfl); (case hx => first | (go_simp; rfl) | rfl); (case hu => (simp only [Value.cells]; rfl)); (case hs => (repeat (first | exact Fr.Spot.here _ _ | apply Fr.Spot.there))); (case ht => kernel_rfl); (case h1 => simp [Value.oneCell']); (case hfit => simp); intro W hF1; simp only [Fr.patch, List.take_zero, List.nil_append, List.drop, List.append_nil, List.take, List.cons_append, List.length_cons, List.length_nil, Nat.reduceAdd] at hF1; have HC1 := hF1.cells; simp only [Fr.Cells, List.length_cons, List.length_nil, Nat.reduceAdd, and_true] at HC1; clear hF HC; have HC := HC1; have hF := Aside0.mk hF1; clear hF1 HC1) | ((first | (with_reducible refine Fr.gate_alloc rfl ?_) | (with_reducible refine Fr.gate_box rfl ?_)); apply Fr.fr_box hF.out rfl; (case hrun => first | (go_simp; done) | (go_simp; rfl)); intro g W hF1; have HC1 := hF1.cells; simp only [Fr.Cells, List.length_cons, List.length_nil, Nat.reduceAdd, and_true] at HC1; clear hF HC; have HC := HC1; have hF := Aside0.mk hF1; clear hF1 HC1))
              go_roundg (12 - (i + 1))
              case measure => omega
              case rel => exact ⟨i + 1, _, _, nd, by omega, by omega, by go_num, HNT, ⟨fun _ => ⟨rfl, by omega⟩⟩, ⟨fun h => absurd (by omega) HLS.out⟩, ⟨fun h => by omega⟩, ⟨hF.out.drop⟩⟩
        · have hie : (i : Int) = x.f2 := by
            have h1 := HMI.out
            by_cases h12 : 12 < x.f2
            · have := HP3.out h12; omega
            · omega
          obtain ⟨rfl, rfl⟩ := HP2.out hie
          have HC1 := hF.out.cells
          simp only [Fr.Cells, List.length_cons, List.length_nil, Nat.reduceAdd, and_true] at HC1
          have HC := HC1
          clear HC1
          go_wp2_with (first | ((with_reducible refine gate_store rfl ?_); apply Fr.fr_store hF.out rfl rfl rfl; (case hp => rfl); (case hx => first | (go_simp; rfl) | rfl); (case hu => (simp only [Value.cells]; rfl)); (case hs => (repeat (first | exact Fr.Spot.here _ _ | apply Fr.Spot.there))); (case ht => kernel_rfl); (case h1 => simp [Value.oneCell']); (case hfit => simp); intro W hF1; simp only [Fr.patch, List.take_zero, List.nil_append, List.drop, List.append_nil, List.take, List.cons_append, List.length_cons, List.length_nil, Nat.reduceAdd] at hF1; have HC1 := hF1.cells; simp only [Fr.Cells, List.length_cons, List.length_nil, Nat.reduceAdd, and_true] at HC1; clear hF HC; have HC := HC1; have hF := Aside0.mk hF1; clear hF1 HC1) | ((first | (with_reducible refine Fr.gate_alloc rfl ?_) | (with_reducible refine Fr.gate_box rfl ?_)); apply Fr.fr_box hF.out rfl; (case hrun => first | (go_simp; done) | (go_simp; rfl)); intro g W hF1; have HC1 := hF1.cells; simp only [Fr.Cells, List.length_cons, List.length_nil, Nat.reduceAdd, and_true] at HC1; clear hF HC; have HC := HC1; have hF := Aside0.mk hF1; clear hF1 HC1))
          go_roundg (n9 - (j + 1))
          case measure => omega
          case rel => exact ⟨j + 1, du, by omega, by omega, by go_num, HTD, ⟨by rw [← HJP.out]; exact hF.out.drop⟩⟩
    · have hn2 := HN92.out
      have he0 : ((j % xs.length : Nat) : Int) = 0 := by
        have : j = 2 * xs.length := by omega
        rw [this, Nat.mul_mod_left]; rfl
      rw [he0] at hF
      obtain rfl : j = n9 := by omega
      clear he0 hn2
      have HC1 := hF.out.cells
      simp only [Fr.Cells, List.length_cons, List.length_nil, Nat.reduceAdd, and_true] at HC1
      have HC := HC1
      clear HC1
      go_wp2_with (first | ((with_reducible refine gate_store rfl ?_); apply Fr.fr_store hF.out rfl rfl rfl; (case hp => rfl); (case hx => first | (go_simp; rfl) | rfl); (case hu => (simp only [Value.cells]; rfl)); (case hs => (repeat (first | exact Fr.Spot.here _ _ | apply Fr.Spot.there))); (case ht => kernel_rfl); (case h1 => simp [Value.oneCell']); (case hfit => simp); intro W hF1; simp only [Fr.patch, List.take_zero, List.nil_append, List.drop, List.append_nil, List.take, List.cons_append, List.length_cons, List.length_nil, Nat.reduceAdd] at hF1; have HC1 := hF1.cells; simp only [Fr.Cells, List.length_cons, List.length_nil, Nat.reduceAdd, and_true] at HC1; clear hF HC; have HC := HC1; have hF := Aside0.mk hF1; clear hF1 HC1) | ((first | (with_reducible refine Fr.gate_alloc rfl ?_) | (with_reducible refine Fr.gate_box rfl ?_)); apply Fr.fr_box hF.out rfl; (case hrun => first | (go_simp; done) | (go_simp; rfl)); intro g W hF1; have HC1 := hF1.cells; simp only [Fr.Cells, List.length_cons, List.length_nil, Nat.reduceAdd, and_true] at HC1; clear hF HC; have HC := HC1; have hF := Aside0.mk hF1; clear hF1 HC1))
      (with_reducible refine (alive44_calls _).mono ?_); rintro e W ⟨rfl, hb⟩; have hF1 := hF.out.call hb; clear hb; have HC1 := hF1.cells; simp only [Fr.Cells, List.length_cons, List.length_nil, Nat.reduceAdd, and_true] at HC1; clear hF HC; have HC := HC1; have hF := Aside0.mk hF1; clear hF1 HC1
      go_wp2_with (first | ((with_reducible refine gate_store rfl ?_); apply Fr.fr_store hF.out rfl rfl rfl; (case hp => rfl); (case hx => first | (go_simp; rfl) | rfl); (case hu => (simp only [Value.cells]; rfl)); (case hs => (repeat (first | exact Fr.Spot.here _ _ | apply Fr.Spot.there))); (case ht => kernel_rfl); (case h1 => simp [Value.oneCell']); (case hfit => simp); intro W hF1; simp only [Fr.patch, List.take_zero, List.nil_append, List.drop, List.append_nil, List.take, List.cons_append, List.length_cons, List.length_nil, Nat.reduceAdd] at hF1; have HC1 := hF1.cells; simp only [Fr.Cells, List.length_cons, List.length_nil, Nat.reduceAdd, and_true] at HC1; clear hF HC; have HC := HC1; have hF := Aside0.mk hF1; clear hF1 HC1) | ((first | (with_reducible refine Fr.gate_alloc rfl ?_) | (with_reducible refine Fr.gate_box rfl ?_)); apply Fr.fr_box hF.out rfl; (case hrun => first | (go_simp; done) | (go_simp; rfl)); intro g W hF1; have HC1 := hF1.cells; simp only [Fr.Cells, List.length_cons, List.length_nil, Nat.reduceAdd, and_true] at HC1; clear hF HC; have HC := HC1; have hF := Aside0.mk hF1; clear hF1 HC1))
      go_ret
      exact ⟨rfl, hF.out.below⟩
theorem choose_R {c : Cf} {l : List S92} (h1 : cfgB c = true) (h2 : rightB l = true) (h : chooseE c l = 0) : ∃ R : Nat, chooseV c l = (R : Int) ∧ R < c.ro.length := by
  have hk : takeI c.ro l = -1 ∨ ∃ kk : Nat, takeI c.ro l = kk := by
    unfold takeI idxP
    cases c.ro.findIdx? (takesB l) with
    | none => exact .inl rfl
    | some k => exact .inr ⟨k, rfl⟩
  rcases hk with hk | ⟨kk, hk⟩
  · have := choose_none h1 h2 hk
    rw [this.1] at h
    exact absurd h (by decide)
  · exact ⟨kk, (choose_some h1 h2 hk).2, (first_some hk).1⟩
theorem DutyChain (c : Cf) (A0 : Option Addr) (c0 : Nat) (A1 : Option Addr) (c1 : Nat) (A2 : Option Addr) (c2 : Nat) (l : List S92) (now draw : Int) (w : World) (hr0 : Kd.C k76 w A0 c.rs.length c.rs) (hl0 : c.rs.length ≤ c0) (hr1 : Kd.C k58 w A1 c.ro.length c.ro) (hl1 : c.ro.length ≤ c1) (hr2 : Kd.C k92 w A2 l.length l) (hl2 : l.length ≤ c2) (hwf : ∀ x ∈ c.ro, WfR x) :
    Calls Try.prog 10 #[.agg #[.slice A0 c.rs.length c0, .slice A1 c.ro.length c1, .int .i64 c.rep, .int .i64 c.beat], .slice A2 l.length c2, .int .i64 now, .int .i64 draw] w fun e w' => e = .returned (.bool true) ∧ Below w.heap.size w w' := by
  obtain ⟨q, hq⟩ : ∃ q, cutC c = q := ⟨_, rfl⟩
  obtain ⟨L, hL⟩ : ∃ L, l.take 5 = L := ⟨_, rfl⟩
  by_cases he : newE q L (nowT now) = 0
  · obtain ⟨h1, h2, _, h4⟩ := new_ok he
    obtain ⟨R, hR, hRl⟩ := choose_R h1 h2 h4
    exact chain_ok16 c A0 c0 A1 c1 A2 c2 l now draw w hr0 hl0 hr1 hl1 hr2 hl2 hwf q hq L hL he R hR hRl _ rfl
  · exact chain_no16 c A0 c0 A1 c1 A2 c2 l now draw w hr0 hl0 hr1 hl1 hr2 hl2 hwf q hq L hL he
theorem DutyChainR {P1 P2 P3 : Prop} (A0 : Option Addr) (c0 : Nat) (l0 : List S76) (A1 : Option Addr) (c1 : Nat) (l1 : List S58) (rep beat : Int) (A2 : Option Addr) (c2 : Nat) (l : List S92) (now draw : Int) (w : World) (hr0 : Kd.C k76 w A0 l0.length l0) (hl0 : l0.length ≤ c0) (hr1 : Kd.C k58 w A1 l1.length l1) (hl1 : l1.length ≤ c1) (hr2 : Kd.C k92 w A2 l.length l) (hl2 : l.length ≤ c2)
    (w0 : WCf l0 l1 rep beat) (w1 : P1) (w2 : P2) (w3 : P3) :
    Calls Try.prog 10 #[.agg #[.slice A0 l0.length c0, .slice A1 l1.length c1, .int .i64 rep, .int .i64 beat], .slice A2 l.length c2, .int .i64 now, .int .i64 draw] w fun e w' => e = .returned (.bool true) ∧ Below w.heap.size w w' :=
  DutyChain ⟨l0, l1, rep, beat⟩ A0 c0 A1 c1 A2 c2 l now draw w hr0 hl0 hr1 hl1 hr2 hl2 w0.ok.2
end Go.Proofs.Ytkphinfijppkeaa.G
