/- Contracts of functions of the given program, and what they come to, for any arguments. No condition beyond each theorem's own premises. -/
import Derived.Test.YtlkaebnigmfphaaXDueOrderM1
namespace Go.Proofs.Ytlkaebnigmfphaa.G
open Go.RowKit Go.Proofs.YtlkaebnigmfphaaW.PrintWords Go.Proofs.YtlkaebnigmfphaaW.PrintLast Go.Proofs.YtlkaebnigmfphaaW.PrintMore
attribute [local go_sem] max2_int min2_int max_two min_two max_three min_three max_four min_four
set_option linter.unusedVariables false
set_option linter.unusedSimpArgs false
def rowsOf (xs : List S32) : List (List Value) := xs.map (fun x : S32 => [Value.int .i64 x.f0, .int .i64 x.f1])
theorem rowsOf_flat : ∀ xs : List S32, (rowsOf xs).flatten = flat xs
  | [] => rfl
  | x :: xs => by
    have ih := rowsOf_flat xs
    unfold rowsOf at ih ⊢
    rw [List.map_cons, List.flatten_cons, ih, flat]
    rfl
theorem rowsOf_row2 (xs : List S32) : ∀ r ∈ rowsOf xs, Row2 r := fun r hr => by
  obtain ⟨x, _, rfl⟩ := List.mem_map.1 hr
  exact k2d x
theorem rowsOf_len (xs : List S32) : (rowsOf xs).length = xs.length := by simp [rowsOf]
theorem rowsOf_app (xs : List S32) (x : S32) : rowsOf (xs ++ [x]) = rowsOf xs ++ [[.int .i64 x.f0, .int .i64 x.f1]] := by simp [rowsOf]
set_option maxHeartbeats 2000000 in
theorem clone25_none (A : Option Addr) (c : Nat) (w : World) :
    Calls Try.prog 25 #[.slice A 0 c] w fun e w' => ∃ v S, e = .returned v ∧ Fr.Frame w w' [] [Fr.rowR (Kd.raw 2) 32 w.heap.size v [] S] := by
  have hnil := fun (w : World) (n c : Nat) => Lib.run_eql_slice_nil w 22 32 A n c 0 0 Try.underlying22
  cases A with
  | none =>
    go_enter Try.func25, Try.ntmps25
    go_wp2
    go_ret
    obtain ⟨S, hF⟩ := (Fr.Frame.start w).rowIn (Kd.R_nil (Kd.raw 2) 32 w w.heap.size (fun _ => False)) (fun k hk => hk.elim)
    exact ⟨_, S, rfl, hF⟩
  | some ad =>
    go_enter Try.func25, Try.ntmps25
    go_wp2
    go_ret
    obtain ⟨S, hF⟩ := ((Fr.Frame.start w).call ((Below.refl _ w).alloc (Nat.le_refl _) (.cells #[] 32))).rowIn (R_empty (Kd.raw 2) 32 _ w.heap.size w.heap.size (fun _ => True) (Nat.le_refl _) (heap_alloc_new w _) trivial) (fun k _ b hb => by simp at hb)
    exact ⟨_, S, rfl, hF⟩
set_option maxHeartbeats 2000000 in
theorem init26_none (A : Option Addr) (c h : Nat) (W : World) (hc : W.cell? ⟨h, 0, none⟩ = some (.slice A 0 c)) :
    Calls Try.prog 26 #[.iface 45 (.pointer (some ⟨h, 0, none⟩))] W fun e W' => e = .returned (.tuple #[]) ∧ W = W' := by
  have mLen := fun (w : World) (hc : w.cell? ⟨h, 0, none⟩ = some (.slice A 0 c)) => met_Len h _ w hc
  have eLen := E46
  go_enter Try.func26, Try.ntmps26
  go_wp2_with fail
  (with_reducible refine (len46_calls A 0 c _).mono ?_)
  rintro e W1 ⟨rfl, rfl⟩
  go_wp2_with fail
  go_loopg [3] 0 (fun kq v3 w' => v3 = .int .i64 (-1) ∧ W = w')
  case atStart => exact ⟨rfl, rfl⟩
  case round =>
    obtain ⟨rfl, rfl⟩ := hrel
    go_wp2_with fail
    go_end0
    exact ⟨rfl, rfl⟩
theorem row_new {w : World} {g cap h : Nat} {xs : List S32} {tl : List Value} {w' : World} {p : List Value} (hc : xs.length ≤ cap) (hm : cap ≤ maxLen) (hl : (flat xs ++ tl).length = cap * 2) (hF : Fr.Frame w w' [(h, p, 48), (g, flat xs ++ tl, 32)] []) :
    ∃ S, Fr.Frame w w' [(h, p, 48)] [Fr.rowR (Kd.raw 2) 32 w.heap.size (.slice (some ⟨g, 0, none⟩) xs.length cap) (rowsOf xs) S] := by
  have h1 : Fr.Frame w w' [(g, flat xs ++ tl, 32), (h, p, 48)] [] := by
    refine ⟨hF.below, fun b hb => hF.blk b ?_, ?_, by simp⟩
    · simp only [List.mem_cons, List.not_mem_nil, or_false] at hb ⊢
      exact hb.elim .inr .inl
    · have := hF.nodup
      simp only [List.map_cons, List.map_nil, List.nodup_cons, List.mem_cons, List.not_mem_nil, or_false, not_false_eq_true, List.nodup_nil, and_true] at this ⊢
      exact fun e => this e.symm
  rw [← rowsOf_flat] at h1 hl
  have := blk_own h1 (by rw [rowsOf_len]; exact hc) hm hl (rowsOf_row2 xs)
  rwa [rowsOf_len] at this
set_option maxHeartbeats 2000000 in
set_option maxRecDepth 100000 in
theorem of20_none (A : Option Addr) (c : Nat) (w : World) :
    Calls Try.prog 20 #[.slice A 0 c] w fun e w' => ∃ h v S, e = .returned (.pointer (some ⟨h, 0, none⟩)) ∧ Fr.Frame w w' [(h, [v], 48)] [Fr.rowR (Kd.raw 2) 32 w.heap.size v (rowsOf []) S] := by
  have H25 := Aside0.mk (clone25_none A c w)
  go_enter Try.func20, Try.ntmps20
  go_wp2_with fail
  (with_reducible refine H25.out.mono ?_)
  rintro e W ⟨v, S, rfl, hF1⟩
  obtain ⟨A1, c1, rfl, _, _⟩ := Kd.R_reads (hF1.rowAt (r := Fr.rowR (Kd.raw 2) 32 w.heap.size v [] S) List.mem_cons_self)
  rw [show ([] : List (List Value)).length = 0 from rfl] at hF1
  have hF : True := trivial
  have HC : True := trivial
  have HC1 := hF1.cells; simp only [Fr.Cells, List.length_cons, List.length_nil, Nat.reduceAdd, and_true] at HC1; clear hF HC; have HC := HC1; have hF := Aside0.mk hF1; clear hF1 HC1
  go_wp2_with (first | ((with_reducible refine gate_store rfl ?_); apply Fr.fr_store hF.out rfl rfl rfl; (case hp => rfl); (case hx => first | (go_simp; rfl) | rfl); (case hu => (simp only [Value.cells]; rfl)); (case hs => (repeat (first | exact Fr.Spot.here _ _ | apply Fr.Spot.there))); (case ht => kernel_rfl); (case h1 => simp [Value.oneCell']); (case hfit => simp); intro W hF1; simp only [Fr.patch, List.take_zero, List.nil_append, List.drop, List.append_nil, List.take, List.cons_append, List.length_cons, List.length_nil, Nat.reduceAdd] at hF1; have HC1 := hF1.cells; simp only [Fr.Cells, List.length_cons, List.length_nil, Nat.reduceAdd, and_true] at HC1; clear hF HC; have HC := HC1; have hF := Aside0.mk hF1; clear hF1 HC1) | ((with_reducible refine gate_dst (N := 3) rfl ?_); apply Fr.fr_box hF.out rfl; (case hrun => first | (go_simp; done) | (go_simp; rfl)); intro h W hF1; have HC1 := hF1.cells; simp only [Fr.Cells, List.length_cons, List.length_nil, Nat.reduceAdd, and_true] at HC1; clear hF HC; have HC := HC1; have hF := Aside0.mk hF1; clear hF1 HC1) | ((first | (with_reducible refine Fr.gate_alloc rfl ?_) | (with_reducible refine Fr.gate_box rfl ?_)); apply Fr.fr_box hF.out rfl; (case hrun => first | (go_simp; done) | (go_simp; rfl)); intro g W hF1; have HC1 := hF1.cells; simp only [Fr.Cells, List.length_cons, List.length_nil, Nat.reduceAdd, and_true] at HC1; clear hF HC; have HC := HC1; have hF := Aside0.mk hF1; clear hF1 HC1))
  have hc := blk_cell (hF.out.blk _ List.mem_cons_self).2 0
  (with_reducible refine (init26_none A1 c1 h _ hc).mono ?_)
  rintro e W2 ⟨rfl, rfl⟩
  go_wp2_with fail
  go_ret
  exact ⟨h, _, S, rfl, hF.out⟩
theorem of20_row (A : Option Addr) (c : Nat) (xs : List S32) (w : World) (hr : Kd.C k32 w A xs.length xs) (hl : xs.length ≤ 1000) :
    Calls Try.prog 20 #[.slice A xs.length c] w fun e w' => ∃ h v S, e = .returned (.pointer (some ⟨h, 0, none⟩)) ∧ Fr.Frame w w' [(h, [v], 48)] [Fr.rowR (Kd.raw 2) 32 w.heap.size v (rowsOf (heapL xs)) S] := by
  by_cases hp : 0 < xs.length
  · refine (of20_full A c xs w hr hp hl).mono ?_
    rintro e w' ⟨h, g, cap, tl, rfl, ⟨h1, h2, h3⟩, hF⟩
    have hh := heapL_len xs
    obtain ⟨S, hS⟩ := row_new (xs := heapL xs) (by rw [hh]; exact h1) h2 h3 hF
    rw [hh] at hS
    exact ⟨h, _, S, rfl, hS⟩
  · obtain rfl : xs = [] := List.eq_nil_of_length_eq_zero (by omega)
    exact of20_none A c w
def pushL (xs : List S32) (x : S32) : List S32 := upL (xs.length + 1) (xs ++ [x]) xs.length
theorem pushL_len (xs : List S32) (x : S32) : (pushL xs x).length = xs.length + 1 := by unfold pushL; rw [upL_len]; simp
theorem E49 : ∀ args w, (callFunc 49 args).run Try.prog w = .ok (.enter 49 args) w := enters_of Try.func49 (by kernel_rfl) rfl
theorem lies_own {h g n c : Nat} {bs : List Fr.Blk} {v : Value} {f : List Value → List Fr.Blk} (hs : Fr.Spot h 48 bs [v] f) : Lies (fun cs => (g, cs, 32) :: f [.slice (some ⟨g, 0, none⟩) n c]) g h n c := ⟨fun cs => .here _ _, fun cs => List.mem_cons_of_mem _ (again hs _).mem⟩
set_option maxHeartbeats 4000000 in
set_option maxRecDepth 100000 in
theorem push22_calls (x : S32) (xs : List S32) (v : Value) (S : Nat → Prop) (h : Nat) (w0 W : World) (bs : List Fr.Blk) (f : List Value → List Fr.Blk) (hs : Fr.Spot h 48 bs [v] f) (hF : Fr.Frame w0 W bs [Fr.rowR (Kd.raw 2) 32 w0.heap.size v (rowsOf xs) S]) (hl : xs.length ≤ 900) :
    Calls Try.prog 22 #[.iface 45 (.pointer (some ⟨h, 0, none⟩)), .iface 32 (.agg #[.int .i64 x.f0, .int .i64 x.f1])] W fun e W' => e = .returned (.tuple #[]) ∧ ∃ g cap tl, xs.length + 1 ≤ cap ∧ Fr.Frame w0 W' ((g, flat (pushL xs x) ++ tl, 32) :: f [.slice (some ⟨g, 0, none⟩) (xs.length + 1) cap]) [] := by
  have H49 := Aside0.mk (push49_calls x v (rowsOf xs) S h w0 W bs f hs hF (by rw [rowsOf_len]; omega))
  have HS := Aside0.mk hs
  have mLen := fun (w : World) (v : Value) (hc : w.cell? ⟨h, 0, none⟩ = some v) => met_Len h _ w hc
  have mPush := fun (w : World) => met_Push h undef w
  have eLen := E46
  have ePush := E49
  have hw : wrap64 (((xs.length + 1 : Nat) : Int) - 1) = (xs.length : Int) := by rw [w64b (by omega) (by omega)]; omega
  have hw2 : wrap64 ((xs.length : Int) + 1 - 1) = (xs.length : Int) := by rw [w64b (by omega) (by omega)]; omega
  have HUP := Aside0.mk (fun (g cap : Nat) (tl : List Value) (W : World) (hF : Fr.Frame w0 W ((g, flat (xs ++ [x]) ++ tl, 32) :: f [.slice (some ⟨g, 0, none⟩) (xs.length + 1) cap]) []) => up28_calls cap (xs ++ [x]) tl g h xs.length w0 W [] (fun cs => (g, cs, 32) :: f [.slice (some ⟨g, 0, none⟩) (xs.length + 1) cap]) (by simpa using lies_own hs) hF (by simp) (by simp; omega))
  have HX := Aside0.mk (rowsOf_app xs x)
  have HXL := Aside0.mk (show (rowsOf (xs ++ [x])).length = xs.length + 1 by rw [rowsOf_len]; simp)
  have HXF := Aside0.mk (rowsOf_flat (xs ++ [x]))
  have HR := Aside0.mk (show upL (xs.length + 1) (xs ++ [x]) xs.length = pushL xs x from rfl)
  clear hs hF
  go_enter Try.func22, Try.ntmps22
  go_wp2_with fail
  (with_reducible refine H49.out.mono ?_)
  rintro e W1 ⟨rfl, v1, S1, hF1⟩
  rw [← HX.out] at hF1
  obtain ⟨g, cap, tl, rfl, hcap, _, _, _, hF2⟩ := own_blk hF1 (by rw [HXL.out]; omega)
  rw [HXL.out] at hcap hF2
  rw [HXF.out] at hF2
  have hc := ptr_cell (lies_own (g := g) (n := xs.length + 1) (c := cap) HS.out) hF2
  have hF := Aside0.mk hF2
  clear hF1 hF2
  go_wp2_with fail
  (with_reducible refine (len46_calls (some ⟨g, 0, none⟩) (xs.length + 1) cap _).mono ?_)
  rintro e W2 ⟨rfl, rfl⟩
  go_wp2_with fail
  (with_reducible refine (HUP.out g cap tl _ hF.out).mono ?_)
  rintro e W3 ⟨rfl, hF3⟩
  rw [HR.out] at hF3
  go_wp2_with fail
  go_end0
  exact ⟨rfl, g, cap, tl, hcap, hF3⟩
theorem same_e0 (l : List S32) (hl : l.length ≤ 1000) : ∀ (d i : Nat), i + d = l.length → Ev (fun k => foghornref09_Same.l0 k l l (l.length : Int) (i : Int)) true
  | 0, i, hd => Ev.step (f := fun _ => some true) (fun k => by rw [foghornref09_Same.l0, if_neg (by omega)]) (Ev.now _)
  | d + 1, i, hd => Ev.step (f := fun k => foghornref09_Same.l0 k l l (l.length : Int) ((i + 1 : Nat) : Int)) (fun k => by
      rw [foghornref09_Same.l0, if_pos (by omega), if_pos (by omega), if_pos (by omega), if_pos (by omega), if_neg (by simp), w64i (by unfold M63; omega)]) (same_e0 l hl d (i + 1) (by omega))
theorem same_ev (l : List S32) (hl : l.length ≤ 1000) : Ev (fun k => foghornref09_Same.f k l l) true :=
  Ev.of_eq (fun k => by unfold foghornref09_Same.f; rw [if_pos rfl]; rfl) (same_e0 l hl l.length 0 (by omega))
theorem mem_getD {l : List S32} {x : S32} (h : x ∈ l) : ∃ k, k < l.length ∧ l.getD k z32 = x := by
  obtain ⟨k, hk, rfl⟩ := List.mem_iff_getElem.1 h
  exact ⟨k, hk, by simp [List.getD_eq_getElem?_getD, hk]⟩
theorem take_last {l : List S32} {n : Nat} (h : l.length = n + 1) : (l.getD n z32 :: l.take n).Perm l := by
  have e : l = l.take n ++ [l.getD n z32] := by
    have h1 : l.getD n z32 = l[n] := by simp [List.getD_eq_getElem?_getD, show n < l.length by omega]
    rw [h1]
    have := List.take_append_getElem (l := l) (i := n) (by omega)
    rw [this, List.take_of_length_le (by omega)]
  have h2 : (l.getD n z32 :: l.take n).Perm (l.take n ++ [l.getD n z32]) := (List.perm_append_singleton _ _).symm
  rwa [← e] at h2
theorem popped (xs : List S32) (n : Nat) (hn : xs.length = n + 1) : ∃ r, srt xs = (popL (heapL xs)).getD n z32 :: r ∧ srt ((popL (heapL xs)).take n) = r := by
  obtain ⟨h1, h2⟩ := heap_is xs
  have hl := heapL_len xs
  rw [show initL (xs.length / 2) xs xs.length = heapL xs from rfl] at h1 h2
  have hleast := heap_least h1
  rw [hn] at h1
  obtain ⟨p1, p2, p3⟩ := pop_heap (by rw [hl, hn]) h1
  have hpl : (popL (heapL xs)).length = n + 1 := by rw [p2.length_eq, hl, hn]
  have hp := (take_last hpl).trans (p2.trans h2)
  rw [p3] at hp ⊢
  refine ⟨srt ((popL (heapL xs)).take n), ?_, rfl⟩
  refine (srt_of (List.pairwise_cons.2 ⟨fun x hx => ?_, srt_order _⟩) (((srt_perm _).cons _).trans hp)).symm
  have h3 : x ∈ (popL (heapL xs)).take n := (srt_perm _).mem_iff.1 hx
  have h4 : x ∈ heapL xs := p2.mem_iff.1 (List.mem_of_mem_take h3)
  obtain ⟨j, hj, rfl⟩ := mem_getD h4
  exact hleast j (by rw [← hl]; exact hj)
theorem pushed (xs : List S32) (x : S32) : (pushL (heapL xs) x).Perm (xs ++ [x]) := by
  obtain ⟨_, h2⟩ := heap_is xs
  unfold pushL
  exact (up_perm _ _ _ (by simp)).trans (h2.append_right [x])
set_option maxHeartbeats 4000000 in
set_option maxRecDepth 100000 in
theorem push11_F (A : Option Addr) (c : Nat) (xs : List S32) (x : S32) (w : World) (hr : Kd.C k32 w A xs.length xs) (hb : duesB xs = true) (ht : tmB x.f0 = true) (hn : xs.length < 64) :
    Calls Try.prog 11 #[.slice A xs.length c, .agg #[.int .i64 x.f0, .int .i64 x.f1]] w fun e w' => ∃ g cap, e = .returned (.tuple #[.slice (some ⟨g, 0, none⟩) (xs.length + 1) cap, .int .i64 0]) ∧ xs.length + 1 ≤ cap ∧ ∃ tl, Fr.Frame w w' [(g, flat (pushL (heapL xs) x) ++ tl, 32)] [] := by
  have H13 := Aside0.mk (fun W (hb : Below w.heap.size w W) => right13_calls A c xs W (Kd.C_below hr hb))
  have H19 := Aside0.mk (fun W => tick_Right.calls x.f0 _ W (tick_is x.f0))
  have H20 := Aside0.mk (fun W (hb : Below w.heap.size w W) => of20_row A c xs W (Kd.C_below hr hb) (by omega))
  rw [hb] at H13
  rw [ht] at H19
  have hne : ¬ (xs.length : Int) = 64 := by omega
  have hne2 : ¬ xs.length = 64 := by omega
  have hhl := heapL_len xs
  have hpl := pushL_len (heapL xs) x
  rw [hhl] at hpl
  obtain ⟨ys, hys⟩ : ∃ ys, heapL xs = ys := ⟨_, rfl⟩
  rw [hys] at H20 hhl hpl ⊢
  obtain ⟨n, hnx⟩ : ∃ n, xs.length = n := ⟨_, rfl⟩
  rw [hnx] at H13 H20 hne hne2 hhl hpl hn ⊢
  have HPL := Aside0.mk hpl
  have HHL := Aside0.mk hhl
  have HN := Aside0.mk hn
  clear hr hb ht hys hnx hpl hn hhl
  have hF := Aside0.mk (Fr.Frame.start w)
  have HC : True := trivial
  go_enter Try.func11, Try.ntmps11
  go_wp2_with (first | ((with_reducible refine gate_store rfl ?_); apply Fr.fr_store hF.out rfl rfl rfl; (case hp => rfl); (case hx => first | (go_simp; rfl) | rfl); (case hu => (simp only [Value.cells]; rfl)); (case hs => (repeat (first | exact Fr.Spot.here _ _ | apply Fr.Spot.there))); (case ht => kernel_rfl); (case h1 => simp [Value.oneCell']); (case hfit => simp); intro W hF1; simp only [Fr.patch, List.take_zero, List.nil_append, List.drop, List.append_nil, List.take, List.cons_append, List.length_cons, List.length_nil, Nat.reduceAdd] at hF1; have HC1 := hF1.cells; simp only [Fr.Cells, List.length_cons, List.length_nil, Nat.reduceAdd, and_true] at HC1; clear hF HC; have HC := HC1; have hF := Aside0.mk hF1; clear hF1 HC1) | ((with_reducible refine gate_dst (N := 3) rfl ?_); apply Fr.fr_box hF.out rfl; (case hrun => first | (go_simp; done) | (go_simp; rfl)); intro r3 W hF1; have HC1 := hF1.cells; simp only [Fr.Cells, List.length_cons, List.length_nil, Nat.reduceAdd, and_true] at HC1; clear hF HC; have HC := HC1; have hF := Aside0.mk hF1; clear hF1 HC1) | ((first | (with_reducible refine Fr.gate_alloc rfl ?_) | (with_reducible refine Fr.gate_box rfl ?_)); apply Fr.fr_box hF.out rfl; (case hrun => first | (go_simp; done) | (go_simp; rfl)); intro g W hF1; have HC1 := hF1.cells; simp only [Fr.Cells, List.length_cons, List.length_nil, Nat.reduceAdd, and_true] at HC1; clear hF HC; have HC := HC1; have hF := Aside0.mk hF1; clear hF1 HC1))
  (with_reducible refine (H13.out _ hF.out.below).mono ?_); rintro e W ⟨rfl, hb⟩; have hF1 := hF.out.call hb; clear hb; have HC1 := hF1.cells; simp only [Fr.Cells, List.length_cons, List.length_nil, Nat.reduceAdd, and_true] at HC1; clear hF HC; have HC := HC1; have hF := Aside0.mk hF1; clear hF1 HC1
  go_wp2_with (first | ((with_reducible refine gate_store rfl ?_); apply Fr.fr_store hF.out rfl rfl rfl; (case hp => rfl); (case hx => first | (go_simp; rfl) | rfl); (case hu => (simp only [Value.cells]; rfl)); (case hs => (repeat (first | exact Fr.Spot.here _ _ | apply Fr.Spot.there))); (case ht => kernel_rfl); (case h1 => simp [Value.oneCell']); (case hfit => simp); intro W hF1; simp only [Fr.patch, List.take_zero, List.nil_append, List.drop, List.append_nil, List.take, List.cons_append, List.length_cons, List.length_nil, Nat.reduceAdd] at hF1; have HC1 := hF1.cells; simp only [Fr.Cells, List.length_cons, List.length_nil, Nat.reduceAdd, and_true] at HC1; clear hF HC; have HC := HC1; have hF := Aside0.mk hF1; clear hF1 HC1) | ((first | (with_reducible refine Fr.gate_alloc rfl ?_) | (with_reducible refine Fr.gate_box rfl ?_)); apply Fr.fr_box hF.out rfl; (case hrun => first | (go_simp; done) | (go_simp; rfl)); intro g W hF1; have HC1 := hF1.cells; simp only [Fr.Cells, List.length_cons, List.length_nil, Nat.reduceAdd, and_true] at HC1; clear hF HC; have HC := HC1; have hF := Aside0.mk hF1; clear hF1 HC1))
  (with_reducible refine (H19.out _).mono ?_); rintro e W ⟨rfl, hb⟩; have hF1 := hF.out.call hb.below; clear hb; have HC1 := hF1.cells; simp only [Fr.Cells, List.length_cons, List.length_nil, Nat.reduceAdd, and_true] at HC1; clear hF HC; have HC := HC1; have hF := Aside0.mk hF1; clear hF1 HC1
  go_wp2_with (first | ((with_reducible refine gate_store rfl ?_); apply Fr.fr_store hF.out rfl rfl rfl; (case hp => rfl); (case hx => first | (go_simp; rfl) | rfl); (case hu => (simp only [Value.cells]; rfl)); (case hs => (repeat (first | exact Fr.Spot.here _ _ | apply Fr.Spot.there))); (case ht => kernel_rfl); (case h1 => simp [Value.oneCell']); (case hfit => simp); intro W hF1; simp only [Fr.patch, List.take_zero, List.nil_append, List.drop, List.append_nil, List.take, List.cons_append, List.length_cons, List.length_nil, Nat.reduceAdd] at hF1; have HC1 := hF1.cells; simp only [Fr.Cells, List.length_cons, List.length_nil, Nat.reduceAdd, and_true] at HC1; clear hF HC; have HC := HC1; have hF := Aside0.mk hF1; clear hF1 HC1) | ((first | (with_reducible refine Fr.gate_alloc rfl ?_) | (with_reducible refine Fr.gate_box rfl ?_)); apply Fr.fr_box hF.out rfl; (case hrun => first | (go_simp; done) | (go_simp; rfl)); intro g W hF1; have HC1 := hF1.cells; simp only [Fr.Cells, List.length_cons, List.length_nil, Nat.reduceAdd, and_true] at HC1; clear hF HC; have HC := HC1; have hF := Aside0.mk hF1; clear hF1 HC1))
  (with_reducible refine (H20.out _ hF.out.below).mono ?_)
  rintro e W1 ⟨h, v, S, rfl, hF0⟩
  have HF0 := Aside0.mk hF0
  have HBW := Aside0.mk hF.out.forget
  have hF1 := hF.out.call hF0.below
  have hc := blk_cell (hF0.blk _ List.mem_cons_self).2 0
  clear hF0
  have HC1 := hF1.cells; simp only [Fr.Cells, List.length_cons, List.length_nil, Nat.reduceAdd, and_true] at HC1; clear hF HC; have HC := HC1; have hF := Aside0.mk hF1; clear hF1 HC1
  go_wp2_with (first | ((with_reducible refine gate_store rfl ?_); apply Fr.fr_store hF.out rfl rfl rfl; (case hp => rfl); (case hx => first | (go_simp; rfl) | rfl); (case hu => (simp only [Value.cells]; rfl)); (case hs => (repeat (first | exact Fr.Spot.here _ _ | apply Fr.Spot.there))); (case ht => kernel_rfl); (case h1 => simp [Value.oneCell']); (case hfit => simp); intro W hF1; simp only [Fr.patch, List.take_zero, List.nil_append, List.drop, List.append_nil, List.take, List.cons_append, List.length_cons, List.length_nil, Nat.reduceAdd] at hF1; have HC1 := hF1.cells; simp only [Fr.Cells, List.length_cons, List.length_nil, Nat.reduceAdd, and_true] at HC1; clear hF HC; have HC := HC1; have hF := Aside0.mk hF1; clear hF1 HC1) | ((first | (with_reducible refine Fr.gate_alloc rfl ?_) | (with_reducible refine Fr.gate_box rfl ?_)); apply Fr.fr_box hF.out rfl; (case hrun => first | (go_simp; done) | (go_simp; rfl)); intro g W hF1; have HC1 := hF1.cells; simp only [Fr.Cells, List.length_cons, List.length_nil, Nat.reduceAdd, and_true] at HC1; clear hF HC; have HC := HC1; have hF := Aside0.mk hF1; clear hF1 HC1))
  (with_reducible refine (push22_calls x ys v S h _ _ [(h, [v], 48)] (fun c => [(h, c, 48)]) (.here _ _) HF0.out (by have := HHL.out; have := HN.out; omega)).mono ?_)
  rintro e W2 ⟨rfl, g, cap, tl, hcap, hF9⟩
  rw [HHL.out] at hcap hF9
  have hc2 := blk_cell (hF9.blk _ (List.mem_cons_of_mem _ List.mem_cons_self)).2 0
  have hFJ := frame_sub (frame_join HBW.out hF9) (bs' := [(g, flat (pushL ys x) ++ tl, 32)]) (List.Sublist.cons_cons _ (.cons _ (.refl _)))
  have HFIN : Aside0 (n + 1 ≤ cap ∧ ∃ tl, Fr.Frame w W2 [(g, flat (pushL ys x) ++ tl, 32)] []) := ⟨hcap, tl, hFJ⟩
  clear hF9 hFJ hc hcap
  go_wp2_with (first | ((with_reducible refine gate_store rfl ?_); apply Fr.fr_store hF.out rfl rfl rfl; (case hp => rfl); (case hx => first | (go_simp; rfl) | rfl); (case hu => (simp only [Value.cells]; rfl)); (case hs => (repeat (first | exact Fr.Spot.here _ _ | apply Fr.Spot.there))); (case ht => kernel_rfl); (case h1 => simp [Value.oneCell']); (case hfit => simp); intro W hF1; simp only [Fr.patch, List.take_zero, List.nil_append, List.drop, List.append_nil, List.take, List.cons_append, List.length_cons, List.length_nil, Nat.reduceAdd] at hF1; have HC1 := hF1.cells; simp only [Fr.Cells, List.length_cons, List.length_nil, Nat.reduceAdd, and_true] at HC1; clear hF HC; have HC := HC1; have hF := Aside0.mk hF1; clear hF1 HC1) | ((first | (with_reducible refine Fr.gate_alloc rfl ?_) | (with_reducible refine Fr.gate_box rfl ?_)); apply Fr.fr_box hF.out rfl; (case hrun => first | (go_simp; done) | (go_simp; rfl)); intro g W hF1; have HC1 := hF1.cells; simp only [Fr.Cells, List.length_cons, List.length_nil, Nat.reduceAdd, and_true] at HC1; clear hF HC; have HC := HC1; have hF := Aside0.mk hF1; clear hF1 HC1))
  refine bodyPost_ret ?_ rfl ⟨g, cap, rfl, HFIN.out⟩
  simp [results, Try.results11, go_sem]
theorem wpN_loop_once {P : Program} {Q : Exit → Act → World → Prop} {a : Act} {w : World} {c : Code} (h : wpN P c (Exit.then (fun _ _ => False) Q) a w) : wpN P (Code.loop c) Q a w :=
  wpN_loop (fun _ a' w' => a' = a ∧ w' = w) (fun n a' w' hj => by
    obtain ⟨rfl, rfl⟩ := hj
    refine wpN_mono h fun e a2 w2 hq => ?_
    cases e <;> first | exact (hq : False).elim | exact hq) (n := 0) ⟨rfl, rfl⟩
set_option maxHeartbeats 4000000 in
set_option maxRecDepth 100000 in
theorem drain7_none (A : Option Addr) (c : Nat) (now : Int) (w : World) (ht : tmB now = true) :
    Calls Try.prog 7 #[.slice A 0 c, .int .i64 now] w fun e w' => ∃ (A1 : Option Addr) (c1 : Nat), e = .returned (.tuple #[.slice A1 0 c1, .slice none 0 0, .int .i64 0]) ∧ Below w.heap.size w w' := by
  have H13 := Aside0.mk (fun W => right13_calls A c [] W ⟨rfl, by simp, fun h => absurd h (by simp)⟩)
  rw [show duesB [] = true from rfl, show ([] : List S32).length = 0 from rfl] at H13
  have H19 := Aside0.mk (fun W => tick_Right.calls now _ W (tick_is now))
  rw [ht] at H19
  have H20 := Aside0.mk (fun W => of20_none A c W)
  have hmk := mk64
  have hF := Aside0.mk (Fr.Frame.start w)
  have HC : True := trivial
  clear ht
  refine calls_of_wpN Try.func7 rfl ?_
  simp only [Try.ntmps7, List.size_toArray, List.length_cons, List.length_nil, Nat.reduceAdd, Nat.reduceSub, Array.replicate_succ, Array.replicate_zero, List.push_toArray, List.append_toArray, List.nil_append, List.cons_append]
  refine wpN_seq (wpN_of ?_)
  go_wp2_with fail
  show wpN _ _ _ _ _
  refine wpN_seq (wpN_of ?_)
  go_wp2_with fail
  (with_reducible refine (H13.out _).mono ?_); rintro e W ⟨rfl, hb⟩; have hF1 := hF.out.call hb; clear hb; have HC1 := hF1.cells; simp only [Fr.Cells, List.length_cons, List.length_nil, Nat.reduceAdd, and_true] at HC1; clear hF HC; have HC := HC1; have hF := Aside0.mk hF1; clear hF1 HC1
  go_wp2_with (first | ((with_reducible refine gate_store rfl ?_); apply Fr.fr_store hF.out rfl rfl rfl; (case hp => rfl); (case hx => first | (go_simp; rfl) | rfl); (case hu => (simp only [Value.cells]; rfl)); (case hs => (repeat (first | exact Fr.Spot.here _ _ | apply Fr.Spot.there))); (case ht => kernel_rfl); (case h1 => simp [Value.oneCell']); (case hfit => simp); intro W hF1; simp only [Fr.patch, List.take_zero, List.nil_append, List.drop, List.append_nil, List.take, List.cons_append, List.length_cons, List.length_nil, Nat.reduceAdd] at hF1; have HC1 := hF1.cells; simp only [Fr.Cells, List.length_cons, List.length_nil, Nat.reduceAdd, and_true] at HC1; clear hF HC; have HC := HC1; have hF := Aside0.mk hF1; clear hF1 HC1) | ((first | (with_reducible refine Fr.gate_alloc rfl ?_) | (with_reducible refine Fr.gate_box rfl ?_)); apply Fr.fr_box hF.out rfl; (case hrun => first | (go_simp; done) | (go_simp; rfl)); intro g W hF1; have HC1 := hF1.cells; simp only [Fr.Cells, List.length_cons, List.length_nil, Nat.reduceAdd, and_true] at HC1; clear hF HC; have HC := HC1; have hF := Aside0.mk hF1; clear hF1 HC1))
  (with_reducible refine (H19.out _).mono ?_); rintro e W ⟨rfl, hb⟩; have hF1 := hF.out.call hb.below; clear hb; have HC1 := hF1.cells; simp only [Fr.Cells, List.length_cons, List.length_nil, Nat.reduceAdd, and_true] at HC1; clear hF HC; have HC := HC1; have hF := Aside0.mk hF1; clear hF1 HC1
  go_wp2_with (first | ((with_reducible refine gate_store rfl ?_); apply Fr.fr_store hF.out rfl rfl rfl; (case hp => rfl); (case hx => first | (go_simp; rfl) | rfl); (case hu => (simp only [Value.cells]; rfl)); (case hs => (repeat (first | exact Fr.Spot.here _ _ | apply Fr.Spot.there))); (case ht => kernel_rfl); (case h1 => simp [Value.oneCell']); (case hfit => simp); intro W hF1; simp only [Fr.patch, List.take_zero, List.nil_append, List.drop, List.append_nil, List.take, List.cons_append, List.length_cons, List.length_nil, Nat.reduceAdd] at hF1; have HC1 := hF1.cells; simp only [Fr.Cells, List.length_cons, List.length_nil, Nat.reduceAdd, and_true] at HC1; clear hF HC; have HC := HC1; have hF := Aside0.mk hF1; clear hF1 HC1) | ((first | (with_reducible refine Fr.gate_alloc rfl ?_) | (with_reducible refine Fr.gate_box rfl ?_)); apply Fr.fr_box hF.out rfl; (case hrun => first | (go_simp; done) | (go_simp; rfl)); intro g W hF1; have HC1 := hF1.cells; simp only [Fr.Cells, List.length_cons, List.length_nil, Nat.reduceAdd, and_true] at HC1; clear hF HC; have HC := HC1; have hF := Aside0.mk hF1; clear hF1 HC1))
  show wpN _ _ _ _ _
  refine wpN_seq (wpN_of ?_)
  go_wp2_with fail
  (with_reducible refine (H20.out _).mono ?_)
  rintro e W1 ⟨h, v, S, rfl, hF1⟩
  obtain ⟨A1, c1, rfl, _, _⟩ := Kd.R_reads (hF1.rowAt (r := Fr.rowR (Kd.raw 2) 32 _ v (rowsOf []) S) List.mem_cons_self)
  rw [show (rowsOf []).length = 0 from rfl] at hF1
  have hF1 := frame_join hF.out hF1.noRows
  simp only [List.cons_append, List.nil_append, List.append_nil] at hF1
  go_wp2_with fail
  show wpN _ _ _ _ _
  refine wpN_seq (wpN_of ?_)
  go_wp2_with fail
  have hF2 := frame_mkchan hF1
  generalize W1.heap.size = ch at hF2 ⊢
  clear HC hF hF1
  have hF := Aside0.mk hF2
  have hc := blk_cell (hF2.blk _ List.mem_cons_self).2 0
  have hch := hF2.rowAt (r := chanR ch [] 0 0) List.mem_cons_self
  dsimp only [chanR] at hch
  clear hF2 H13 H19 H20 hmk
  show wpN _ _ _ _ _
  refine wpN_seq (wpN_block (wpN_loop_once (wpN_seq (wpN_of ?_))))
  go_wp2_with fail
  show wpN _ _ _ _ _
  refine wpN_seq (wpN_of ?_)
  go_wp2_with fail
  show wpN _ _ _ _ _
  refine wpN_block (wpN_loop_once ?_)
  refine wpN_block (wpN_seq (wpN_of ?_))
  go_wp2_with fail
  show wpN _ _ _ _ _
  refine wpN_seq ?_
  apply wpN_lone
  case h =>
    intro b hb k2 cs
    refine Conc.LoneTo.goes (n := 6) ?_
    s_reg
    s_stop
    refine Conc.LoneTo.step (Conc.step_lone_select_default (c := ch) (cap := 64) (s := 0) (r := 0) (tm := false) (z := .agg #[.int .i64 0, .int .i64 0]) (Conc.stepG_comm (cases := #[Conc.rcase ch (.agg #[.int .i64 0, .int .i64 0])]) (blocking := false) (shape := .select) (w' := _) rfl rfl hb ?hrun) hch) ?_
    case hrun => go_simp; first | rfl | (unfold Conc.rcase; rfl)
    rw [Frame.finish_at]
    walk_nrm
    refine Conc.LoneTo.goes (n := 6) ?_
    (s_in; refine Conc.goes_oper_k rfl rfl hb (fun K hK => ?_); go_simp; refine hK _ _ ⟨trivial, ?_⟩; clear hK K)
    (s_in; refine Conc.goes_oper_k rfl rfl hb (fun K hK => ?_); go_simp; refine hK _ _ ⟨trivial, ?_⟩; clear hK K)
    s_c Conc.stepG_region_end
    s_stop
    exact Conc.LoneTo.done ⟨rfl, rfl⟩
  case hq =>
    show wpN _ _ _ _ _
    refine wpN_of ?_
    go_wp2_with fail
    go_ret3
    exact ⟨⟨A1, c1, rfl⟩, hF.out.below⟩
theorem drain7_any (A : Option Addr) (c : Nat) (xs : List S32) (now : Int) (w : World) (hr : Kd.C k32 w A xs.length xs) (hd : duesB xs = true) (ht : tmB now = true) :
    Calls Try.prog 7 #[.slice A xs.length c, .int .i64 now] w fun e w' => ∃ (A1 : Option Addr) (c1 : Nat) (Ao : Option Addr) (co : Nat), e = .returned (.tuple #[.slice A1 (drainL xs.length (heapL xs) now).2.length c1, .slice Ao (drainL xs.length (heapL xs) now).1.length co, .int .i64 0]) ∧ (drainL xs.length (heapL xs) now).2.length ≤ c1 ∧ (drainL xs.length (heapL xs) now).1.length ≤ co ∧ Kd.C k32 w' A1 (drainL xs.length (heapL xs) now).2.length (drainL xs.length (heapL xs) now).2 ∧ Kd.C k32 w' Ao (drainL xs.length (heapL xs) now).1.length (drainL xs.length (heapL xs) now).1 ∧ Below w.heap.size w w' := by
  by_cases hp : 0 < xs.length
  · refine (drain7_ok A c xs now w hr hp hd ht).mono ?_
    rintro e w' ⟨g, c1, Ao, co, h⟩
    exact ⟨_, c1, Ao, co, h⟩
  · obtain rfl : xs = [] := List.eq_nil_of_length_eq_zero (by omega)
    refine (drain7_none A c now w ht).mono ?_
    rintro e w' ⟨A1, c1, rfl, hb⟩
    exact ⟨A1, c1, none, 0, rfl, Nat.zero_le _, Nat.zero_le _, ⟨rfl, by simp [drainL, heapL, initL], fun h => absurd h (by simp [drainL, heapL, initL])⟩, ⟨rfl, by simp [drainL], fun h => absurd h (by simp [drainL])⟩, hb⟩
theorem same9_calls (A0 : Option Addr) (c0 : Nat) (A1 : Option Addr) (c1 : Nat) (l : List S32) (w : World) (n : Nat) (hn : l.length = n) (hr0 : Kd.C k32 w A0 n l) (hc0 : n ≤ c0) (hr1 : Kd.C k32 w A1 n l) (hc1 : n ≤ c1) (hl : n ≤ 1000) :
    Calls Try.prog 9 #[.slice A0 n c0, .slice A1 n c1] w fun e w' => e = .returned (.bool true) ∧ Below w.heap.size w w' := by
  subst hn
  obtain ⟨k, hk⟩ := same_ev l hl
  exact (foghornref09_Same.calls k A0 c0 l A1 c1 l true w hr0 hc0 hr1 hc1 (hk k (Nat.le_refl _))).mono fun e w' ⟨he, hb⟩ => ⟨he, hb.below⟩
theorem add0 (p : Addr) : (p.add 0).block = p.block ∧ (p.add 0).off = p.off := by unfold Addr.add; split <;> simp
def three : List S32 := [⟨5, 1⟩, ⟨3, 9⟩, ⟨3, 2⟩]
theorem three_is : drainL three.length (heapL three) 4 = ([⟨3, 2⟩, ⟨3, 9⟩], [⟨5, 1⟩]) := by rfl
set_option maxHeartbeats 2000000 in
theorem alive8_calls (w : World) : Calls Try.prog 8 #[] w fun e w' => e = .returned (.bool true) ∧ Below w.heap.size w w' := by
  have H7 := Aside0.mk (fun (A : Option Addr) (W : World) (hr : Kd.C k32 W A 3 three) => drain7_any A 3 three 4 W hr (by decide) (by decide))
  rw [three_is, show three.length = 3 from rfl] at H7
  go_enter Try.func8, Try.ntmps8
  go_wp2_with fail
  have hF := (Fr.Frame.start w).alloc (flat three) 32
  have hC3 : Kd.C k32 (w.alloc (.cells #[.int .i64 5, .int .i64 1, .int .i64 3, .int .i64 9, .int .i64 3, .int .i64 2] 32)) (some ⟨w.heap.size, 0, none⟩) 3 three := C_blk (hF.blk _ List.mem_cons_self).2 (K_flat _ three) (by decide)
  (with_reducible refine (H7.out _ _ hC3).mono ?_)
  rintro e W ⟨A1, c1, Ao, co, rfl, _, _, hC1, hC2, hb⟩
  have hB := Aside0.mk (below_then hF.below hF.below.size hb)
  obtain ⟨p, rfl, _, p1⟩ := at_T32 hC1 0 (by decide) (by decide)
  obtain ⟨q, rfl, _, q1⟩ := at_T32 hC2 0 (by decide) (by decide)
  replace p1 : W.cell? ⟨p.block, p.off + 1, none⟩ = some (.int .i64 1) := by simpa [rd_T32, add0 p] using p1
  replace q1 : W.cell? ⟨q.block, q.off + 1, none⟩ = some (.int .i64 2) := by simpa [rd_T32, add0 q] using q1
  clear hF hb hC1 hC2
  simp only [List.length_cons, List.length_nil]
  go_wp2_with fail
  go_ret
  exact ⟨rfl, hB.out⟩
section
variable {P : Program} {ops : Array Oper} {rest : List Oper} {o : Oper} {a : Act} {Q : Exit → Act → World → Prop} {w0 W : World} {bs : List Fr.Blk}
end
section
variable {P : Program} {ops : Array Oper} {o : Oper} {a : Act} {K : Act → World → Prop} {Q : Exit → Act → World → Prop} {E : Prop} {w0 W : World} {bs : List Fr.Blk} {rs : List Fr.Row}
theorem step_slice (hF : Fr.Frame w0 W bs rs) {cs : List Value} {t : TypeId} {n : Nat} (hw : Region.wanted o (yielded ops a.tmps) = true)
    (hrun : (execOp a.eval o).run P W = .ok (.value (.slice (some ⟨W.heap.size, 0, none⟩) n n)) (W.alloc (.cells cs.toArray t (0, 0))))
    (h : ∀ g w1, Fr.Frame w0 w1 ((g, cs, t) :: bs) rs → K (a.put o.dst (.slice (some ⟨g, 0, none⟩) n n)) w1) : if Region.wanted o (yielded ops a.tmps) = true then Oper.wp P o a W K Q else E := by
  rw [if_pos hw]
  unfold Oper.wp
  rw [hrun]
  exact h _ _ (hF.alloc cs t)
theorem step_rows {S : Nat → Prop} {v : Value} {xs ys : List S32} (s x : Operand) (t : TypeId) (z : Value) (bytes : Nat) {A : Option Addr} {m c : Nat}
    (hF : Fr.Frame w0 W bs [Fr.rowR k32 32 w0.heap.size v xs S]) (hw : Region.wanted o (yielded ops a.tmps) = true) (ho : o.op = .call { callee := .builtin .append, args := #[s, x], argTypes := #[t, t] })
    (ht : P.underlying t = some (.slice 32)) (hinfo : (P.info? 32).map (fun i => (i.zero, i.size, i.bytes)) = some (some z, k32.sz, bytes)) (hz : z.cells.size = k32.sz) (hb0 : 0 < bytes)
    (hs : a.eval s = v) (hx : a.eval x = .slice A m c) (hC : Kd.C k32 W A m ys) (hl : (xs.length + m) * bytes ≤ 140737488355328)
    (h : ∀ v1 w1 S1, Fr.Frame w0 w1 bs [Fr.rowR k32 32 w0.heap.size v1 (xs ++ ys) S1] → K (a.put o.dst v1) w1) : if Region.wanted o (yielded ops a.tmps) = true then Oper.wp P o a W K Q else E := by
  have hr := hF.row (Fr.rowR k32 32 w0.heap.size v xs S) List.mem_cons_self
  have hRS : k32.R 32 W w0.heap.size S v xs := hr.1
  have hdis : ∀ k, S k → ∀ b ∈ bs, k ≠ b.1 := fun k hk b hb he => hr.2.2 b hb (by subst he; exact hk)
  have key := Kd.R_append_rows_step (P := P) (Q := Q) (Kc := K) k32 (Rr := k32.K W) (w0 := w0) w0.heap.size hw s x t 32 z bytes ho ht hinfo hz (by decide) hb0 v xs ys A m c (fun k => ∀ b ∈ bs, k ≠ b.1) (fun _ => False) hs hx (Kd.R_mono hRS hdis) hC (fun x cs hk => by rw [k32_open hk]; exact k32_mkM _ _ _ x) (fun _ hk => hk.elim) (fun k hk b hb he => by have := hF.lt hb; omega) hF.below hF.below.size hl (fun v1 w1 ho1 hb1 hg1 hat1 => by
    have hF1 : Fr.Frame w0 w1 bs [] := ⟨hb1, fun b hb => ⟨(hF.blk b hb).1, blk_grown (hF.blk b hb).2 hg1 (fun e1 => hdis b.1 (hRS.1 b.1 e1.symm) b hb rfl)⟩, hF.nodup, by simp⟩
    obtain ⟨S1, hS1⟩ := hF1.rowIn ho1 (fun k hk => hk)
    exact h v1 w1 S1 hS1)
  rw [if_pos hw] at key ⊢
  exact key
end
theorem blk_C {w0 W : World} {bs : List Fr.Blk} {rs : List Fr.Row} {g : Nat} {x0 x1 : Int} (hF : Fr.Frame w0 W bs rs) (hm : (g, [.int .i64 x0, .int .i64 x1], 32) ∈ bs) : Kd.C k32 W (some ⟨g, 0, none⟩) 1 [⟨x0, x1⟩] :=
  C_blk (xs := [(⟨x0, x1⟩ : S32)]) (cs := [.int .i64 x0, .int .i64 x1]) (hF.blk _ hm).2 (K_flat W [⟨x0, x1⟩]) (by simp)
theorem cells2 {w0 W : World} {bs : List Fr.Blk} {rs : List Fr.Row} {g : Nat} {u v : Value} {t : TypeId} (hF : Fr.Frame w0 W bs rs) (hm : (g, [u, v], t) ∈ bs) : W.cell? ⟨g, 0, none⟩ = some u ∧ W.cell? ⟨g, 1, none⟩ = some v :=
  ⟨(blk_cell (hF.blk _ hm).2 0).trans rfl, (blk_cell (hF.blk _ hm).2 1).trans rfl⟩
def nrm (x : S32) : S32 := ⟨(wrap64 (x.f0.tmod 100 + 100)).tmod 100, x.f1⟩
theorem nrm_ok (x : S32) : 0 ≤ (nrm x).f0 ∧ (nrm x).f0 < 100 := by
  unfold nrm
  dsimp only
  generalize x.f0 = y
  have h1 : -100 < y.tmod 100 ∧ y.tmod 100 < 100 := ⟨Int.lt_tmod_of_pos y (by omega), Int.tmod_lt_of_pos y (by omega)⟩
  generalize y.tmod 100 = z at h1 ⊢
  have h2 : wrap64 (z + 100) = z + 100 := by unfold wrap64; omega
  rw [h2, Int.tmod_eq_emod_of_nonneg (by omega)]
  omega
theorem turn_ok (turn : Int) : 0 ≤ (wrap64 (turn.tmod 60 + 60)).tmod 60 ∧ (wrap64 (turn.tmod 60 + 60)).tmod 60 < 60 := by
  have h1 : -60 < turn.tmod 60 ∧ turn.tmod 60 < 60 := ⟨Int.lt_tmod_of_pos turn (by omega), Int.tmod_lt_of_pos turn (by omega)⟩
  generalize turn.tmod 60 = z at h1 ⊢
  have h2 : wrap64 (z + 60) = z + 60 := by unfold wrap64; omega
  rw [h2, Int.tmod_eq_emod_of_nonneg (by omega)]
  omega
theorem take_snoc {l : List S32} {q : Nat} (h : q < l.length) : (l.take (q + 1)).map nrm = (l.take q).map nrm ++ [nrm (l.getD q z32)] := by
  have : l.take (q + 1) = l.take q ++ [l[q]] := by simp
  rw [this, List.map_append, List.map_singleton]
  simp [List.getD_eq_getElem?_getD, h]
theorem take_one {l : List S32} {q : Nat} (h : q < l.length) : l.take (q + 1) = l.take q ++ [l.getD q z32] := by
  have : l.take (q + 1) = l.take q ++ [l[q]] := by simp
  rw [this]
  simp [List.getD_eq_getElem?_getD, h]
def rot (t : Nat) (S : List S32) : List S32 := (List.range S.length).map fun i => S.getD ((i + t) % S.length) z32
theorem rot_len (t : Nat) (S : List S32) : (rot t S).length = S.length := by simp [rot]
theorem rot_at (t : Nat) (S : List S32) (i : Nat) (h : i < S.length) : (rot t S).getD i z32 = S.getD ((i + t) % S.length) z32 := by
  simp [rot, List.getD_eq_getElem?_getD, h]
theorem rot_is (t : Nat) (S : List S32) (hp : 0 < S.length) : rot t S = S.drop (t % S.length) ++ S.take (t % S.length) := by
  have hr : t % S.length < S.length := Nat.mod_lt _ hp
  refine List.ext_getElem? fun i => ?_
  by_cases h : i < S.length
  · have h1 : (rot t S)[i]? = some (S.getD ((i + t) % S.length) z32) := by simp [rot, h]
    have h2 : (i + t) % S.length < S.length := Nat.mod_lt _ hp
    rw [h1]
    have h3 : (i + t) % S.length = (i + t % S.length) % S.length := by rw [Nat.add_mod, Nat.mod_eq_of_lt h]
    rw [h3]
    by_cases h4 : i + t % S.length < S.length
    · rw [Nat.mod_eq_of_lt h4, List.getElem?_append_left (by rw [List.length_drop]; omega), List.getElem?_drop]
      rw [Nat.add_comm (t % S.length) i]
      simp [List.getD_eq_getElem?_getD, h4]
    · have h5 : (i + t % S.length) % S.length = i + t % S.length - S.length := by
        rw [Nat.mod_eq_sub_mod (by omega), Nat.mod_eq_of_lt (by omega)]
      rw [h5, List.getElem?_append_right (by rw [List.length_drop]; omega), List.length_drop, List.getElem?_take, if_pos (by omega)]
      rw [show i - (S.length - t % S.length) = i + t % S.length - S.length by omega]
      simp [List.getD_eq_getElem?_getD, show i + t % S.length - S.length < S.length by omega]
  · rw [List.getElem?_eq_none (by rw [rot_len]; omega), List.getElem?_eq_none (by simp; omega)]
theorem rot_perm (t : Nat) (S : List S32) : (rot t S).Perm S := by
  by_cases hp : 0 < S.length
  · rw [rot_is t S hp]
    have := List.perm_append_comm (l₁ := S.drop (t % S.length)) (l₂ := S.take (t % S.length))
    rwa [List.take_append_drop] at this
  · obtain rfl : S = [] := List.eq_nil_of_length_eq_zero (by omega)
    exact List.Perm.refl _
theorem reps_k32 {w : World} {base : Nat} {ok : Nat → Prop} : ∀ {xs : List S32} {inner : List Value}, Reps (k32.M w base ok) k32.sz xs inner → inner = flat xs
  | [], inner, h => List.eq_nil_of_length_eq_zero (by have := h.1; simpa using this)
  | x :: xs, inner, h => by
    have h0 := h.2 0 x rfl
    rw [Nat.zero_mul, List.drop_zero] at h0
    have e0 := k32_openM h0
    have ih := reps_k32 (w := w) (base := base) (ok := ok) (xs := xs) (inner := inner.drop k32.sz) ⟨by rw [List.length_drop, h.1, List.length_cons, Nat.add_mul]; omega, fun j p hp => by
      have := h.2 (j + 1) p (by simpa using hp)
      rw [List.drop_drop]
      rwa [show k32.sz + j * k32.sz = (j + 1) * k32.sz by rw [Nat.add_mul]; omega]⟩
    rw [← List.take_append_drop k32.sz inner, e0, ih]
    rfl
def HeldP (v : Value) (n : Nat) (X : List S32) (kb : List Fr.Blk) : Prop := (n = 0 ∧ X = [] ∧ kb = [] ∧ ∃ A c, v = .slice A 0 c) ∨ ∃ g cap tl, v = .slice (some ⟨g, 0, none⟩) n cap ∧ X.length = n ∧ n ≤ cap ∧ n ≤ 1000 ∧ kb = [(g, flat X ++ tl, 32)]
theorem HeldP.nil (A : Option Addr) (c : Nat) : HeldP (.slice A 0 c) 0 [] [] := .inl ⟨rfl, rfl, rfl, A, c, rfl⟩
theorem HeldP.reads {v : Value} {n : Nat} {X : List S32} {kb : List Fr.Blk} (h : HeldP v n X kb) {w0 W : World} {bs : List Fr.Blk} {rs : List Fr.Row} (hF : Fr.Frame w0 W bs rs) (hs : kb.Sublist bs) : ∃ A c, v = .slice A n c ∧ n ≤ c ∧ Kd.C k32 W A n X ∧ X.length = n := by
  rcases h with ⟨rfl, rfl, rfl, A, c, rfl⟩ | ⟨g, cap, tl, rfl, h1, h2, h3, rfl⟩
  · exact ⟨A, c, rfl, Nat.zero_le _, ⟨rfl, by simp, fun h => absurd h (by simp)⟩, rfl⟩
  · have hC := flat_C (frame_sub hF hs) (.here _ _) (by omega)
    rw [h1] at hC
    exact ⟨_, _, rfl, h2, hC, h1⟩
theorem held_of_row {w0 W : World} {bs : List Fr.Blk} {v : Value} {X : List S32} {S : Nat → Prop} (hF : Fr.Frame w0 W bs [Fr.rowR k32 32 w0.heap.size v X S]) (hl : X.length ≤ 1000) : ∃ kb, HeldP v X.length X kb ∧ Fr.Frame w0 W (kb ++ bs) [] := by
  have hr := hF.row (Fr.rowR k32 32 w0.heap.size v X S) List.mem_cons_self
  obtain ⟨h1, inner, ⟨h2, h3⟩, h4⟩ := (hr.1 : k32.R 32 W w0.heap.size S v X)
  have e := reps_k32 h4
  rcases h3 with ⟨rfl, h3⟩ | ⟨g, cap, cur, rfl, hg, hh, hn, hc, hs, ht⟩
  · have h0 : X = [] := List.eq_nil_of_length_eq_zero h3
    subst h0
    exact ⟨[], .inl ⟨rfl, rfl, rfl, _, _, rfl⟩, hF.noRows⟩
  · have e2 : flat X ++ cur.toList.drop (X.length * 2) = cur.toList := by
      rw [← e, ← ht]
      exact List.take_append_drop _ _
    refine ⟨[(g, flat X ++ cur.toList.drop (X.length * 2), 32)], .inr ⟨g, cap, _, rfl, rfl, hn, hl, rfl⟩, hF.below, fun b hb => ?_, ?_, by simp⟩
    · rcases List.mem_cons.1 hb with rfl | hb
      · exact ⟨hg, by rw [e2]; exact hh⟩
      · exact hF.blk b hb
    · show (g :: bs.map (·.1)).Nodup
      rw [List.nodup_cons]
      refine ⟨fun hm => ?_, hF.nodup⟩
      obtain ⟨b, hb, e3⟩ := List.mem_map.1 hm
      exact hr.2.2 b hb (by rw [e3]; exact h1 g rfl)
def cnt (x : S32) (l : List S32) : Nat := l.countP fun y => y.f0 == x.f0 && y.f1 == x.f1
theorem cnt_snoc (x : S32) (l : List S32) (y : S32) : cnt x (l ++ [y]) = cnt x l + (if (y.f0 == x.f0 && y.f1 == x.f1) = true then 1 else 0) := by
  unfold cnt
  rw [List.countP_append, List.countP_singleton]
theorem cnt_perm {l l' : List S32} (h : l.Perm l') (x : S32) : cnt x l = cnt x l' := h.countP_eq _
theorem order_at {l : List S32} (h : inOrder l) {i : Nat} (hi : i + 1 < l.length) : lessB (l.getD (i + 1) z32) (l.getD i z32) = false := by
  have := List.pairwise_iff_getElem.1 h i (i + 1) (by omega) hi (by omega)
  simpa [List.getD_eq_getElem?_getD, hi, show i < l.length by omega] using this
theorem drop_one {l : List S32} {j : Nat} {x : S32} {r : List S32} (h : l.drop j = x :: r) : l.drop (j + 1) = r ∧ l.take (j + 1) = l.take j ++ [x] := by
  have h1 : l.drop (j + 1) = (l.drop j).drop 1 := by rw [List.drop_drop]
  refine ⟨by rw [h1, h]; rfl, ?_⟩
  have hj : j < l.length := by
    have := congrArg List.length h
    simp at this; omega
  have h2 : l[j] = x := by
    have h3 := List.drop_eq_getElem_cons hj
    rw [h] at h3
    exact (List.cons.inj h3).1.symm
  rw [← h2]
  simp
theorem frame_perm {w0 w : World} {bs bs' : List Fr.Blk} {rs : List Fr.Row} (h : Fr.Frame w0 w bs rs) (hp : bs'.Perm bs) : Fr.Frame w0 w bs' rs :=
  ⟨h.below, fun b hb => h.blk b (hp.mem_iff.1 hb), (hp.map (·.1)).nodup_iff.2 h.nodup, fun r hr => ⟨(h.row r hr).1, (h.row r hr).2.1, fun b hb => (h.row r hr).2.2 b (hp.mem_iff.1 hb)⟩⟩
theorem HeldP.readsC {A : Option Addr} {c m n : Nat} {X : List S32} {kb : List Fr.Blk} (h : HeldP (.slice A m c) n X kb) {w0 W : World} {bs : List Fr.Blk} {rs : List Fr.Row} (hF : Fr.Frame w0 W bs rs) (hs : kb.Sublist bs) : Kd.C k32 W A n X := by
  obtain ⟨A', c', e, _, hC, _⟩ := h.reads hF hs
  simp only [Value.slice.injEq] at e
  rw [e.1]
  exact hC
theorem push11_n (n : Nat) (A : Option Addr) (c : Nat) (xs : List S32) (x0 x1 : Int) (w : World) (hn : xs.length = n) (hr : Kd.C k32 w A n xs) (hb : duesB xs = true) (ht : tmB x0 = true) (hl : n < 64) :
    Calls Try.prog 11 #[.slice A n c, .agg #[.int .i64 x0, .int .i64 x1]] w fun e w' => ∃ g cap tl, e = .returned (.tuple #[.slice (some ⟨g, 0, none⟩) (n + 1) cap, .int .i64 0]) ∧ n + 1 ≤ cap ∧ Fr.Frame w w' [(g, flat (pushL (heapL xs) ⟨x0, x1⟩) ++ tl, 32)] [] := by
  subst hn
  refine (push11_F A c xs ⟨x0, x1⟩ w hr hb ht hl).mono ?_
  rintro e w' ⟨g, cap, he, hc, tl, hF⟩
  exact ⟨g, cap, tl, he, hc, hF⟩
theorem pop12_n (n : Nat) (A : Option Addr) (c : Nat) (xs r : List S32) (x0 x1 : Int) (w : World) (hn : xs.length = n + 1) (hr : Kd.C k32 w A (n + 1) xs) (hd : duesB xs = true) (hs : srt xs = ⟨x0, x1⟩ :: r) :
    Calls Try.prog 12 #[.slice A (n + 1) c] w fun e w' => ∃ g cap tl X, e = .returned (.tuple #[.slice (some ⟨g, 0, none⟩) n cap, .agg #[.int .i64 x0, .int .i64 x1], .int .i64 0]) ∧ n ≤ cap ∧ X.length = n ∧ srt X = r ∧ (∀ x ∈ X, x ∈ xs) ∧ Fr.Frame w w' [(g, flat X ++ tl, 32)] [] := by
  rw [← hn] at hr ⊢
  refine (pop12_F A c n xs w hr hn hd).mono ?_
  rintro e w' ⟨g, cap, he, hc, tl, hF⟩
  obtain ⟨ss, h1, h2⟩ := popped xs n hn
  rw [hs] at h1
  obtain ⟨e1, e2⟩ := List.cons.inj h1
  rw [← e1] at he
  refine ⟨g, cap, flat ((popL (heapL xs)).drop n) ++ tl, (popL (heapL xs)).take n, he, hc, by rw [List.length_take, popL_len, heapL_len]; omega, by rw [h2, e2], fun x hx => ?_, ?_⟩
  · obtain ⟨g1, g2⟩ := heap_is xs
    have hp := (pop_heap (n := n) (xs := heapL xs) (by rw [heapL_len, hn]) (by rw [← hn]; exact g1)).2.1
    exact g2.mem_iff.1 (hp.mem_iff.1 (List.mem_of_mem_take hx))
  · rw [← List.append_assoc, ← flat_app, List.take_append_drop]
    exact hF
section
variable {P : Program} {ops : Array Oper} {o : Oper} {a : Act} {K : Act → World → Prop} {Q : Exit → Act → World → Prop} {E : Prop} {w0 W : World} {bs : List Fr.Blk} {rs : List Fr.Row}
theorem step_store (hF : Fr.Frame w0 W bs rs) {t : TypeId} {p : Tmp} {x : Operand} (ho : o.op = .store t (.tmp p) x) (hN : o.dst = none) (hw : Region.wanted o (yielded ops a.tmps) = true) {g off : Nat} {tg : TypeId} {u : Value} {seg cs : List Value} {f : List Value → List Fr.Blk}
    (hp : a.eval (.tmp p) = .pointer (some ⟨g, off, none⟩)) (hx : a.eval x = u) (hu : u.cells.toList = seg) (ht : (P.info? t).map (·.size) = some seg.length) (h1 : ∀ q ∈ seg, q.oneCell' = true)
    (hs : Fr.Spot g tg bs cs f) (hfit : off + seg.length ≤ cs.length)
    (h : ∀ w1, Fr.Frame w0 w1 (f (Fr.patch cs off seg)) rs → K a w1) : if Region.wanted o (yielded ops a.tmps) = true then Oper.wp P o a W K Q else E := by
  have hg := hF.blk _ hs.mem
  have hrun : (execOp a.eval o).run P W = .ok .skip (W.setCells g off seg) := by
    have := run_store_run (P := P) t u seg hg.2 hu ht (by simpa using hfit) h1
    simp only [execOp, ho, hp, hx]
    simp [this]
  rw [if_pos hw]
  unfold Oper.wp
  rw [hrun]
  show K (a.put o.dst undef) _
  rw [hN]
  exact h _ (hF.put hs off seg hfit)
end
theorem start_of {w0 W : World} {bs : List Fr.Blk} {rs : List Fr.Row} (_h : Fr.Frame w0 W bs rs) : Fr.Frame W W [] [] := Fr.Frame.start W
def Stage (S : List S32) (n g8 : Nat) (W1 W : World) (s : Nat) : Prop := (s = 0 ∧ Fr.Frame W1 W [(g8, [.slice none 0 0, .slice none 0 0], 42)] []) ∨ (s = 1 ∧ ∃ v0 kb0, HeldP v0 n (srt S) kb0 ∧ Fr.Frame W1 W ((g8, [v0, .slice none 0 0], 42) :: kb0) []) ∨ (s = 2 ∧ ∃ v0 v1 kb0 kb1, HeldP v0 n (srt S) kb0 ∧ HeldP v1 n (srt S) kb1 ∧ Fr.Frame W1 W ((g8, [v0, v1], 42) :: (kb1 ++ kb0)) [])
theorem dues_of {S Y : List S32} (h : ∀ x ∈ S, 0 ≤ x.f0 ∧ x.f0 < 100) (hm : ∀ x ∈ Y, x ∈ S) (hl : Y.length ≤ 64) : duesB Y = true := by
  unfold duesB
  rw [decide_eq_true hl]
  have : Y.any (fun x => !tmB x.f0) = false := by
    rw [List.any_eq_false]
    intro x hx
    have := h x (hm x hx)
    unfold tmB
    rw [decide_eq_true this.1, decide_eq_true (by omega)]
    decide
  rw [this]
  rfl
theorem tm_of {S : List S32} (h : ∀ x ∈ S, 0 ≤ x.f0 ∧ x.f0 < 100) {i : Nat} (hi : i < S.length) : tmB (S.getD i z32).f0 = true := by
  have hx : S.getD i z32 ∈ S := by simp [List.getD_eq_getElem?_getD, hi]
  have := h _ hx
  unfold tmB
  rw [decide_eq_true this.1, decide_eq_true (by omega)]
  rfl
theorem ahead18_n (x0 x1 y0 y1 : Int) (b : Bool) (hb : lessB ⟨x0, x1⟩ ⟨y0, y1⟩ = b) (w : World) : Calls Try.prog 18 #[.agg #[.int .i64 x0, .int .i64 x1], .agg #[.int .i64 y0, .int .i64 y1]] w fun e w' => e = .returned (.bool b) ∧ Below w.heap.size w w' :=
  foghornref09_Ahead.calls x0 x1 y0 y1 b w (by rw [← hb]; exact ahead_is ⟨x0, x1⟩ ⟨y0, y1⟩)
theorem cnt_step (x0 x1 y0 y1 : Int) (l : List S32) (r : Nat) (h : r < l.length) (hy : l.getD r z32 = ⟨y0, y1⟩) (b : Bool) (hb : (y0 == x0 && y1 == x1) = b) : cnt ⟨x0, x1⟩ (l.take (r + 1)) = cnt ⟨x0, x1⟩ (l.take r) + (if b = true then 1 else 0) := by
  rw [take_one h, cnt_snoc, hy]
  simp only [hb]
theorem eql32_run (t0 t1 x0 x1 : Int) (b : Bool) (hb : (t0 == x0 && t1 == x1) = b) (W : World) : (binOp .eql 32 (.agg #[.int .i64 t0, .int .i64 t1]) (.agg #[.int .i64 x0, .int .i64 x1])).run Try.prog W = .ok (.bool b) W := by
  subst hb
  by_cases h0 : t0 = x0
  · by_cases h1 : t1 = x1
    · subst h0 h1
      go_simp
    · subst h0
      have h2 : (t1 == x1) = false := beq_false_of_ne h1
      rw [h2, Bool.and_false]
      go_simp
  · have h2 : (t0 == x0) = false := beq_false_of_ne h0
    rw [h2, Bool.false_and]
    go_simp
def findRegion (n : Nat) : Code → Option Code
  | .region i ops d => if i = n then some (.region i ops d) else none
  | .seq a b => match findRegion n a with
    | some c => some c
    | none => findRegion n b
  | .block _ c => findRegion n c
  | .scope c => findRegion n c
  | .loop c => findRegion n c
  | .cond _ a b => match findRegion n a with
    | some c => some c
    | none => findRegion n b
  | _ => none
noncomputable def r29code : Code := (Try.f5.body.bind (findRegion 29)).getD .skip
set_option maxHeartbeats 16000000 in
set_option maxRecDepth 1000000 in
theorem r29_0 {u0 u1 u2 u3 u4 u5 u6 u7 u10 u11 u12 u13 u14 u15 u17 u18 u19 u20 u21 u22 u23 u24 u25 u26 u27 u28 u29 u30 u31 u32 u33 u34 u35 u36 u37 u38 u39 u40 u41 u42 u43 u44 u45 u46 u47 u48 u49 u50 u51 u52 u53 u54 u55 u56 u57 u58 u59 u60 u61 u62 u63 u64 u65 u66 u67 u68 u69 u70 u71 u72 u73 u74 u75 u76 u77 u78 u79 u80 u81 u82 u83 u84 u85 u86 u87 u88 u89 u90 u91 u92 u93 u94 u95 u96 u97 u98 u99 u100 u101 u102 u103 u104 u105 u106 u107 u108 u109 u110 u111 u112 u113 u114 u115 u116 u117 u118 u119 u120 u121 u122 u123 u124 u125 u126 u127 u128 u129 u130 u131 u132 u133 u134 u135 u136 u137 u138 u139 u140 u141 u142 u143 u144 u145 u146 u147 u148 u149 u150 u151 u152 u153 u154 u155 u156 u157 u158 u159 u160 u161 u162 u163 u164 u165 u166 u167 u168 u169 u170 u171 u172 u173 u174 u175 u176 u177 u178 u179 u180 u181 u182 u183 u184 : Value} {Q : Exit → Act → World → Prop} {w0 W : World} {g8 g16 : Nat} {x0 x1 : Int} {Ao : Option Addr} {co : Nat} {O : List S32} {So : Nat → Prop} {v' : Value} {rest : List Fr.Blk} (hF : Fr.Frame w0 W ((g16, [.int .i64 x0, .int .i64 x1], 32) :: (g8, [.slice Ao O.length co, v'], 42) :: rest) [Fr.rowR k32 32 w0.heap.size (.slice Ao O.length co) O So]) (hl : (O.length + 1) * 16 ≤ 140737488355328) (hQ : ∀ (c : List PanicEntry) (a : Act) (w : World) (d : Tmp) (v : Value), Q (.panic c) (a.put (some d) v) w → Q (.panic c) a w)
    (h : ∀ (gd : Nat) (A : Option Addr) (c : Nat) (W' : World) (S' : Nat → Prop), Fr.Frame w0 W' ((gd, [.int .i64 x0, .int .i64 x1], 32) :: (g16, [.int .i64 x0, .int .i64 x1], 32) :: (g8, [.slice A (O.length + 1) c, v'], 42) :: rest) [Fr.rowR k32 32 w0.heap.size (.slice A (O.length + 1) c) (O ++ [⟨x0, x1⟩]) S'] → Q .normal ⟨#[u0, u1, u2, u3, u4, u5, u6, u7, .pointer (some ⟨g8, 0, none⟩), .int .i64 0, u10, u11, u12, u13, u14, u15, .pointer (some ⟨g16, 0, none⟩), u17, u18, u19, u20, u21, u22, u23, u24, u25, u26, u27, u28, u29, u30, u31, u32, u33, u34, u35, u36, u37, u38, u39, u40, u41, u42, u43, u44, u45, u46, u47, u48, u49, u50, u51, u52, u53, u54, u55, u56, u57, u58, u59, u60, u61, u62, u63, u64, u65, u66, u67, u68, u69, u70, u71, u72, u73, u74, u75, u76, u77, u78, u79, u80, u81, u82, u83, u84, u85, u86, u87, u88, u89, u90, u91, u92, u93, u94, u95, u96, u97, u98, u99, u100, u101, u102, u103, u104, u105, u106, u107, u108, u109, u110, u111, u112, .int .i64 0, .int .i64 0, .pointer (some ⟨g8, 0, none⟩), .slice Ao O.length co, .agg #[.int .i64 x0, .int .i64 x1], .slice (some ⟨gd, 0, none⟩) 1 1, .slice A (O.length + 1) c, .pointer (some ⟨g8, 0, none⟩), u121, u122, u123, u124, u125, u126, u127, u128, u129, u130, u131, u132, u133, u134, u135, u136, u137, u138, u139, u140, u141, u142, u143, u144, u145, u146, u147, u148, u149, u150, u151, u152, u153, u154, u155, u156, u157, u158, u159, u160, u161, u162, u163, u164, u165, u166, u167, u168, u169, u170, u171, u172, u173, u174, u175, u176, u177, u178, u179, u180, u181, u182, u183, u184], []⟩ W') :
    Code.wp Try.prog r29code Q ⟨#[u0, u1, u2, u3, u4, u5, u6, u7, .pointer (some ⟨g8, 0, none⟩), .int .i64 0, u10, u11, u12, u13, u14, u15, .pointer (some ⟨g16, 0, none⟩), u17, u18, u19, u20, u21, u22, u23, u24, u25, u26, u27, u28, u29, u30, u31, u32, u33, u34, u35, u36, u37, u38, u39, u40, u41, u42, u43, u44, u45, u46, u47, u48, u49, u50, u51, u52, u53, u54, u55, u56, u57, u58, u59, u60, u61, u62, u63, u64, u65, u66, u67, u68, u69, u70, u71, u72, u73, u74, u75, u76, u77, u78, u79, u80, u81, u82, u83, u84, u85, u86, u87, u88, u89, u90, u91, u92, u93, u94, u95, u96, u97, u98, u99, u100, u101, u102, u103, u104, u105, u106, u107, u108, u109, u110, u111, u112, u113, u114, u115, u116, u117, u118, u119, u120, u121, u122, u123, u124, u125, u126, u127, u128, u129, u130, u131, u132, u133, u134, u135, u136, u137, u138, u139, u140, u141, u142, u143, u144, u145, u146, u147, u148, u149, u150, u151, u152, u153, u154, u155, u156, u157, u158, u159, u160, u161, u162, u163, u164, u165, u166, u167, u168, u169, u170, u171, u172, u173, u174, u175, u176, u177, u178, u179, u180, u181, u182, u183, u184], []⟩ W := by
  conv => arg 2; whnf
  have HOL := Aside0.mk hl
  have HH := Aside0.mk h
  have HQ := Aside0.mk hQ
  clear hQ
  have hlen : (O ++ [(⟨x0, x1⟩ : S32)]).length = O.length + 1 := by rw [List.length_append]; rfl
  have HLN := Aside0.mk hlen
  have hF := Aside0.mk hF
  have HC : True := trivial
  obtain ⟨n, hn⟩ : ∃ n, O.length = n := ⟨_, rfl⟩
  rw [hn] at HOL HH HLN hF
  have HN := Aside0.mk hn
  clear hl h hlen hn
  refine wp_region_any (by kernel_rfl) ?_
  change wpAny _ _ _ _ _ _ _ (World.drew _)
  have hF1 := hF.out.drew
  have HC1 := hF1.cells; simp only [Fr.Cells, List.length_cons, List.length_nil, Nat.reduceAdd, and_true] at HC1; clear hF HC; have HC := HC1; have hF := Aside0.mk hF1; clear hF1 HC1
  (refine wpAny_take (i := 0) (v := .int .i64 0) rfl (by kernel_rfl) (by kernel_rfl) (by kernel_rfl) (fun _ _ _ h => HQ.out _ _ _ _ _ h) (Or.inl ⟨by rfl, by (intro w; first | (go_simp; done) | (go_simp; rfl))⟩) ?_; (try simp only [Act.put, List.setIfInBounds_toArray, List.set_cons_zero, List.set_cons_succ]))
  (refine wpAny_take (i := 1) (v := .int .i64 0) rfl (by kernel_rfl) (by kernel_rfl) (by kernel_rfl) (fun _ _ _ h => HQ.out _ _ _ _ _ h) (Or.inl ⟨by rfl, by (intro w; first | (go_simp; done) | (go_simp; rfl))⟩) ?_; (try simp only [Act.put, List.setIfInBounds_toArray, List.set_cons_zero, List.set_cons_succ]))
  (refine wpAny_take (i := 2) (v := .pointer (some ⟨g8, 0, none⟩)) rfl (by kernel_rfl) (by kernel_rfl) (by kernel_rfl) (fun _ _ _ h => HQ.out _ _ _ _ _ h) (Or.inl ⟨by rfl, by (intro w; first | (go_simp; done) | (go_simp; rfl))⟩) ?_; (try simp only [Act.put, List.setIfInBounds_toArray, List.set_cons_zero, List.set_cons_succ]))
  refine wpAny_ready (rs := [3, 4]) (by kernel_rfl) (by simp) ?_
  refine AllReady.cons (o := _) rfl (fun K hK => ?_) ?_
  · (go_simp; refine hK _ _ ?_; clear hK K; (try simp only [Act.put, List.setIfInBounds_toArray, List.set_cons_zero, List.set_cons_succ]))
    refine wpAny_ready (rs := [4]) (by kernel_rfl) (by simp) ?_
    refine AllReady.cons (o := _) rfl (fun K hK => ?_) AllReady.nil
    (go_simp; refine hK _ _ ?_; clear hK K; (try simp only [Act.put, List.setIfInBounds_toArray, List.set_cons_zero, List.set_cons_succ]))
    refine wpAny_ready (rs := [5]) (by kernel_rfl) (by simp) ?_
    refine AllReady.cons (o := _) rfl (fun K hK => ?_) AllReady.nil
    (refine step_slice (cs := [.int .i64 x0, .int .i64 x1]) (t := 32) (n := 1) hF.out (by rfl) (by first | (go_simp; done) | (go_simp; rfl)) ?_; intro gd W hF1; refine hK _ _ ?_; clear hK K; (try simp only [Act.put, List.setIfInBounds_toArray, List.set_cons_zero, List.set_cons_succ]); have HC1 := hF1.cells; simp only [Fr.Cells, List.length_cons, List.length_nil, Nat.reduceAdd, and_true] at HC1; clear hF HC; have HC := HC1; have hF := Aside0.mk hF1; clear hF1 HC1)
    refine wpAny_ready (rs := [6]) (by kernel_rfl) (by simp) ?_
    refine AllReady.cons (o := _) rfl (fun K hK => ?_) AllReady.nil
    (refine step_rows (ys := [(⟨x0, x1⟩ : S32)]) (.tmp 116) (.tmp 118) 22 (.agg #[.int .i64 0, .int .i64 0]) 16 hF.out (by rfl) rfl Try.underlying22 (by kernel_rfl) rfl (by decide) rfl rfl (blk_C hF.out (by simp)) (by rw [HN.out]; exact HOL.out) ?_; intro vc W Sc hF1; obtain ⟨Av, cv, hvc, hcv, hCv⟩ := Kd.R_reads (hF1.rowAt (r := Fr.rowR k32 32 _ vc (O ++ [⟨x0, x1⟩]) Sc) List.mem_cons_self); rw [HLN.out] at hvc; subst hvc; clear hcv hCv; refine hK _ _ ?_; clear hK K; (try simp only [Act.put, List.setIfInBounds_toArray, List.set_cons_zero, List.set_cons_succ]); have HC1 := hF1.cells; simp only [Fr.Cells, List.length_cons, List.length_nil, Nat.reduceAdd, and_true] at HC1; clear hF HC; have HC := HC1; have hF := Aside0.mk hF1; clear hF1 HC1)
    (refine wpAny_take (i := 7) (v := .pointer (some ⟨g8, 0, none⟩)) rfl (by kernel_rfl) (by kernel_rfl) (by kernel_rfl) (fun _ _ _ h => HQ.out _ _ _ _ _ h) (Or.inl ⟨by rfl, by (intro w; first | (go_simp; done) | (go_simp; rfl))⟩) ?_; (try simp only [Act.put, List.setIfInBounds_toArray, List.set_cons_zero, List.set_cons_succ]))
    refine wpAny_ready (rs := [8]) (by kernel_rfl) (by simp) ?_
    refine AllReady.cons (o := _) rfl (fun K hK => ?_) AllReady.nil
    (refine step_store hF.out rfl rfl (by rfl) (g := g8) (off := 0) (tg := 42) (u := .slice Av (n + 1) cv) (seg := [.slice Av (n + 1) cv]) rfl (by first | rfl | (go_simp; rfl)) (by first | rfl | (simp only [Value.cells]; rfl)) (by kernel_rfl) (by simp [Value.oneCell']) (.there _ (.there _ (.here _ _))) (by simp) ?_; intro W hF1; simp only [Fr.patch, List.take_zero, List.take, List.nil_append, List.drop, List.cons_append, List.append_nil, List.length_cons, List.length_nil, Nat.reduceAdd] at hF1; refine hK _ _ ?_; clear hK K; (try simp only [Act.put, List.setIfInBounds_toArray, List.set_cons_zero, List.set_cons_succ]); have HF9 := Aside0.mk hF1; clear hF hF1 HC)
    refine wpAny_done (by kernel_rfl) ?_ _
    exact HH.out gd Av cv _ Sc HF9.out
  refine AllReady.cons (o := _) rfl (fun K hK => ?_) ?_
  · (go_simp; refine hK _ _ ?_; clear hK K; (try simp only [Act.put, List.setIfInBounds_toArray, List.set_cons_zero, List.set_cons_succ]))
    refine wpAny_ready (rs := [3, 5]) (by kernel_rfl) (by simp) ?_
    refine AllReady.cons (o := _) rfl (fun K hK => ?_) ?_
    · (go_simp; refine hK _ _ ?_; clear hK K; (try simp only [Act.put, List.setIfInBounds_toArray, List.set_cons_zero, List.set_cons_succ]))
      refine wpAny_ready (rs := [5]) (by kernel_rfl) (by simp) ?_
      refine AllReady.cons (o := _) rfl (fun K hK => ?_) AllReady.nil
      (refine step_slice (cs := [.int .i64 x0, .int .i64 x1]) (t := 32) (n := 1) hF.out (by rfl) (by first | (go_simp; done) | (go_simp; rfl)) ?_; intro gd W hF1; refine hK _ _ ?_; clear hK K; (try simp only [Act.put, List.setIfInBounds_toArray, List.set_cons_zero, List.set_cons_succ]); have HC1 := hF1.cells; simp only [Fr.Cells, List.length_cons, List.length_nil, Nat.reduceAdd, and_true] at HC1; clear hF HC; have HC := HC1; have hF := Aside0.mk hF1; clear hF1 HC1)
      refine wpAny_ready (rs := [6]) (by kernel_rfl) (by simp) ?_
      refine AllReady.cons (o := _) rfl (fun K hK => ?_) AllReady.nil
      (refine step_rows (ys := [(⟨x0, x1⟩ : S32)]) (.tmp 116) (.tmp 118) 22 (.agg #[.int .i64 0, .int .i64 0]) 16 hF.out (by rfl) rfl Try.underlying22 (by kernel_rfl) rfl (by decide) rfl rfl (blk_C hF.out (by simp)) (by rw [HN.out]; exact HOL.out) ?_; intro vc W Sc hF1; obtain ⟨Av, cv, hvc, hcv, hCv⟩ := Kd.R_reads (hF1.rowAt (r := Fr.rowR k32 32 _ vc (O ++ [⟨x0, x1⟩]) Sc) List.mem_cons_self); rw [HLN.out] at hvc; subst hvc; clear hcv hCv; refine hK _ _ ?_; clear hK K; (try simp only [Act.put, List.setIfInBounds_toArray, List.set_cons_zero, List.set_cons_succ]); have HC1 := hF1.cells; simp only [Fr.Cells, List.length_cons, List.length_nil, Nat.reduceAdd, and_true] at HC1; clear hF HC; have HC := HC1; have hF := Aside0.mk hF1; clear hF1 HC1)
      (refine wpAny_take (i := 7) (v := .pointer (some ⟨g8, 0, none⟩)) rfl (by kernel_rfl) (by kernel_rfl) (by kernel_rfl) (fun _ _ _ h => HQ.out _ _ _ _ _ h) (Or.inl ⟨by rfl, by (intro w; first | (go_simp; done) | (go_simp; rfl))⟩) ?_; (try simp only [Act.put, List.setIfInBounds_toArray, List.set_cons_zero, List.set_cons_succ]))
      refine wpAny_ready (rs := [8]) (by kernel_rfl) (by simp) ?_
      refine AllReady.cons (o := _) rfl (fun K hK => ?_) AllReady.nil
      (refine step_store hF.out rfl rfl (by rfl) (g := g8) (off := 0) (tg := 42) (u := .slice Av (n + 1) cv) (seg := [.slice Av (n + 1) cv]) rfl (by first | rfl | (go_simp; rfl)) (by first | rfl | (simp only [Value.cells]; rfl)) (by kernel_rfl) (by simp [Value.oneCell']) (.there _ (.there _ (.here _ _))) (by simp) ?_; intro W hF1; simp only [Fr.patch, List.take_zero, List.take, List.nil_append, List.drop, List.cons_append, List.append_nil, List.length_cons, List.length_nil, Nat.reduceAdd] at hF1; refine hK _ _ ?_; clear hK K; (try simp only [Act.put, List.setIfInBounds_toArray, List.set_cons_zero, List.set_cons_succ]); have HF9 := Aside0.mk hF1; clear hF hF1 HC)
      refine wpAny_done (by kernel_rfl) ?_ _
      exact HH.out gd Av cv _ Sc HF9.out
    refine AllReady.cons (o := _) rfl (fun K hK => ?_) ?_
    · (refine step_slice (cs := [.int .i64 x0, .int .i64 x1]) (t := 32) (n := 1) hF.out (by rfl) (by first | (go_simp; done) | (go_simp; rfl)) ?_; intro gd W hF1; refine hK _ _ ?_; clear hK K; (try simp only [Act.put, List.setIfInBounds_toArray, List.set_cons_zero, List.set_cons_succ]); have HC1 := hF1.cells; simp only [Fr.Cells, List.length_cons, List.length_nil, Nat.reduceAdd, and_true] at HC1; clear hF HC; have HC := HC1; have hF := Aside0.mk hF1; clear hF1 HC1)
      refine wpAny_ready (rs := [3]) (by kernel_rfl) (by simp) ?_
      refine AllReady.cons (o := _) rfl (fun K hK => ?_) AllReady.nil
      (go_simp; refine hK _ _ ?_; clear hK K; (try simp only [Act.put, List.setIfInBounds_toArray, List.set_cons_zero, List.set_cons_succ]))
      refine wpAny_ready (rs := [6]) (by kernel_rfl) (by simp) ?_
      refine AllReady.cons (o := _) rfl (fun K hK => ?_) AllReady.nil
      (refine step_rows (ys := [(⟨x0, x1⟩ : S32)]) (.tmp 116) (.tmp 118) 22 (.agg #[.int .i64 0, .int .i64 0]) 16 hF.out (by rfl) rfl Try.underlying22 (by kernel_rfl) rfl (by decide) rfl rfl (blk_C hF.out (by simp)) (by rw [HN.out]; exact HOL.out) ?_; intro vc W Sc hF1; obtain ⟨Av, cv, hvc, hcv, hCv⟩ := Kd.R_reads (hF1.rowAt (r := Fr.rowR k32 32 _ vc (O ++ [⟨x0, x1⟩]) Sc) List.mem_cons_self); rw [HLN.out] at hvc; subst hvc; clear hcv hCv; refine hK _ _ ?_; clear hK K; (try simp only [Act.put, List.setIfInBounds_toArray, List.set_cons_zero, List.set_cons_succ]); have HC1 := hF1.cells; simp only [Fr.Cells, List.length_cons, List.length_nil, Nat.reduceAdd, and_true] at HC1; clear hF HC; have HC := HC1; have hF := Aside0.mk hF1; clear hF1 HC1)
      (refine wpAny_take (i := 7) (v := .pointer (some ⟨g8, 0, none⟩)) rfl (by kernel_rfl) (by kernel_rfl) (by kernel_rfl) (fun _ _ _ h => HQ.out _ _ _ _ _ h) (Or.inl ⟨by rfl, by (intro w; first | (go_simp; done) | (go_simp; rfl))⟩) ?_; (try simp only [Act.put, List.setIfInBounds_toArray, List.set_cons_zero, List.set_cons_succ]))
      refine wpAny_ready (rs := [8]) (by kernel_rfl) (by simp) ?_
      refine AllReady.cons (o := _) rfl (fun K hK => ?_) AllReady.nil
      (refine step_store hF.out rfl rfl (by rfl) (g := g8) (off := 0) (tg := 42) (u := .slice Av (n + 1) cv) (seg := [.slice Av (n + 1) cv]) rfl (by first | rfl | (go_simp; rfl)) (by first | rfl | (simp only [Value.cells]; rfl)) (by kernel_rfl) (by simp [Value.oneCell']) (.there _ (.there _ (.here _ _))) (by simp) ?_; intro W hF1; simp only [Fr.patch, List.take_zero, List.take, List.nil_append, List.drop, List.cons_append, List.append_nil, List.length_cons, List.length_nil, Nat.reduceAdd] at hF1; refine hK _ _ ?_; clear hK K; (try simp only [Act.put, List.setIfInBounds_toArray, List.set_cons_zero, List.set_cons_succ]); have HF9 := Aside0.mk hF1; clear hF hF1 HC)
      refine wpAny_done (by kernel_rfl) ?_ _
      exact HH.out gd Av cv _ Sc HF9.out
    exact AllReady.nil
  exact AllReady.nil
set_option maxHeartbeats 16000000 in
set_option maxRecDepth 1000000 in
theorem r29_1 {u0 u1 u2 u3 u4 u5 u6 u7 u10 u11 u12 u13 u14 u15 u17 u18 u19 u20 u21 u22 u23 u24 u25 u26 u27 u28 u29 u30 u31 u32 u33 u34 u35 u36 u37 u38 u39 u40 u41 u42 u43 u44 u45 u46 u47 u48 u49 u50 u51 u52 u53 u54 u55 u56 u57 u58 u59 u60 u61 u62 u63 u64 u65 u66 u67 u68 u69 u70 u71 u72 u73 u74 u75 u76 u77 u78 u79 u80 u81 u82 u83 u84 u85 u86 u87 u88 u89 u90 u91 u92 u93 u94 u95 u96 u97 u98 u99 u100 u101 u102 u103 u104 u105 u106 u107 u108 u109 u110 u111 u112 u113 u114 u115 u116 u117 u118 u119 u120 u121 u122 u123 u124 u125 u126 u127 u128 u129 u130 u131 u132 u133 u134 u135 u136 u137 u138 u139 u140 u141 u142 u143 u144 u145 u146 u147 u148 u149 u150 u151 u152 u153 u154 u155 u156 u157 u158 u159 u160 u161 u162 u163 u164 u165 u166 u167 u168 u169 u170 u171 u172 u173 u174 u175 u176 u177 u178 u179 u180 u181 u182 u183 u184 : Value} {Q : Exit → Act → World → Prop} {w0 W : World} {g8 g16 : Nat} {x0 x1 : Int} {Ao : Option Addr} {co : Nat} {O : List S32} {So : Nat → Prop} {v' : Value} {rest : List Fr.Blk} (hF : Fr.Frame w0 W ((g16, [.int .i64 x0, .int .i64 x1], 32) :: (g8, [v', .slice Ao O.length co], 42) :: rest) [Fr.rowR k32 32 w0.heap.size (.slice Ao O.length co) O So]) (hl : (O.length + 1) * 16 ≤ 140737488355328) (hQ : ∀ (c : List PanicEntry) (a : Act) (w : World) (d : Tmp) (v : Value), Q (.panic c) (a.put (some d) v) w → Q (.panic c) a w)
    (h : ∀ (gd : Nat) (A : Option Addr) (c : Nat) (W' : World) (S' : Nat → Prop), Fr.Frame w0 W' ((gd, [.int .i64 x0, .int .i64 x1], 32) :: (g16, [.int .i64 x0, .int .i64 x1], 32) :: (g8, [v', .slice A (O.length + 1) c], 42) :: rest) [Fr.rowR k32 32 w0.heap.size (.slice A (O.length + 1) c) (O ++ [⟨x0, x1⟩]) S'] → Q .normal ⟨#[u0, u1, u2, u3, u4, u5, u6, u7, .pointer (some ⟨g8, 0, none⟩), .int .i64 1, u10, u11, u12, u13, u14, u15, .pointer (some ⟨g16, 0, none⟩), u17, u18, u19, u20, u21, u22, u23, u24, u25, u26, u27, u28, u29, u30, u31, u32, u33, u34, u35, u36, u37, u38, u39, u40, u41, u42, u43, u44, u45, u46, u47, u48, u49, u50, u51, u52, u53, u54, u55, u56, u57, u58, u59, u60, u61, u62, u63, u64, u65, u66, u67, u68, u69, u70, u71, u72, u73, u74, u75, u76, u77, u78, u79, u80, u81, u82, u83, u84, u85, u86, u87, u88, u89, u90, u91, u92, u93, u94, u95, u96, u97, u98, u99, u100, u101, u102, u103, u104, u105, u106, u107, u108, u109, u110, u111, u112, .int .i64 1, .int .i64 1, .pointer (some ⟨g8, 1, none⟩), .slice Ao O.length co, .agg #[.int .i64 x0, .int .i64 x1], .slice (some ⟨gd, 0, none⟩) 1 1, .slice A (O.length + 1) c, .pointer (some ⟨g8, 1, none⟩), u121, u122, u123, u124, u125, u126, u127, u128, u129, u130, u131, u132, u133, u134, u135, u136, u137, u138, u139, u140, u141, u142, u143, u144, u145, u146, u147, u148, u149, u150, u151, u152, u153, u154, u155, u156, u157, u158, u159, u160, u161, u162, u163, u164, u165, u166, u167, u168, u169, u170, u171, u172, u173, u174, u175, u176, u177, u178, u179, u180, u181, u182, u183, u184], []⟩ W') :
    Code.wp Try.prog r29code Q ⟨#[u0, u1, u2, u3, u4, u5, u6, u7, .pointer (some ⟨g8, 0, none⟩), .int .i64 1, u10, u11, u12, u13, u14, u15, .pointer (some ⟨g16, 0, none⟩), u17, u18, u19, u20, u21, u22, u23, u24, u25, u26, u27, u28, u29, u30, u31, u32, u33, u34, u35, u36, u37, u38, u39, u40, u41, u42, u43, u44, u45, u46, u47, u48, u49, u50, u51, u52, u53, u54, u55, u56, u57, u58, u59, u60, u61, u62, u63, u64, u65, u66, u67, u68, u69, u70, u71, u72, u73, u74, u75, u76, u77, u78, u79, u80, u81, u82, u83, u84, u85, u86, u87, u88, u89, u90, u91, u92, u93, u94, u95, u96, u97, u98, u99, u100, u101, u102, u103, u104, u105, u106, u107, u108, u109, u110, u111, u112, u113, u114, u115, u116, u117, u118, u119, u120, u121, u122, u123, u124, u125, u126, u127, u128, u129, u130, u131, u132, u133, u134, u135, u136, u137, u138, u139, u140, u141, u142, u143, u144, u145, u146, u147, u148, u149, u150, u151, u152, u153, u154, u155, u156, u157, u158, u159, u160, u161, u162, u163, u164, u165, u166, u167, u168, u169, u170, u171, u172, u173, u174, u175, u176, u177, u178, u179, u180, u181, u182, u183, u184], []⟩ W := by
  conv => arg 2; whnf
  have HOL := Aside0.mk hl
  have HH := Aside0.mk h
  have HQ := Aside0.mk hQ
  clear hQ
  have hlen : (O ++ [(⟨x0, x1⟩ : S32)]).length = O.length + 1 := by rw [List.length_append]; rfl
  have HLN := Aside0.mk hlen
  have hF := Aside0.mk hF
  have HC : True := trivial
  obtain ⟨n, hn⟩ : ∃ n, O.length = n := ⟨_, rfl⟩
  rw [hn] at HOL HH HLN hF
  have HN := Aside0.mk hn
  clear hl h hlen hn
  refine wp_region_any (by kernel_rfl) ?_
  change wpAny _ _ _ _ _ _ _ (World.drew _)
  have hF1 := hF.out.drew
  have HC1 := hF1.cells; simp only [Fr.Cells, List.length_cons, List.length_nil, Nat.reduceAdd, and_true] at HC1; clear hF HC; have HC := HC1; have hF := Aside0.mk hF1; clear hF1 HC1
  (refine wpAny_take (i := 0) (v := .int .i64 1) rfl (by kernel_rfl) (by kernel_rfl) (by kernel_rfl) (fun _ _ _ h => HQ.out _ _ _ _ _ h) (Or.inl ⟨by rfl, by (intro w; first | (go_simp; done) | (go_simp; rfl))⟩) ?_; (try simp only [Act.put, List.setIfInBounds_toArray, List.set_cons_zero, List.set_cons_succ]))
  (refine wpAny_take (i := 1) (v := .int .i64 1) rfl (by kernel_rfl) (by kernel_rfl) (by kernel_rfl) (fun _ _ _ h => HQ.out _ _ _ _ _ h) (Or.inl ⟨by rfl, by (intro w; first | (go_simp; done) | (go_simp; rfl))⟩) ?_; (try simp only [Act.put, List.setIfInBounds_toArray, List.set_cons_zero, List.set_cons_succ]))
  (refine wpAny_take (i := 2) (v := .pointer (some ⟨g8, 1, none⟩)) rfl (by kernel_rfl) (by kernel_rfl) (by kernel_rfl) (fun _ _ _ h => HQ.out _ _ _ _ _ h) (Or.inl ⟨by rfl, by (intro w; first | (go_simp; done) | (go_simp; rfl))⟩) ?_; (try simp only [Act.put, List.setIfInBounds_toArray, List.set_cons_zero, List.set_cons_succ]))
  refine wpAny_ready (rs := [3, 4]) (by kernel_rfl) (by simp) ?_
  refine AllReady.cons (o := _) rfl (fun K hK => ?_) ?_
  · (go_simp; refine hK _ _ ?_; clear hK K; (try simp only [Act.put, List.setIfInBounds_toArray, List.set_cons_zero, List.set_cons_succ]))
    refine wpAny_ready (rs := [4]) (by kernel_rfl) (by simp) ?_
    refine AllReady.cons (o := _) rfl (fun K hK => ?_) AllReady.nil
    (go_simp; refine hK _ _ ?_; clear hK K; (try simp only [Act.put, List.setIfInBounds_toArray, List.set_cons_zero, List.set_cons_succ]))
    refine wpAny_ready (rs := [5]) (by kernel_rfl) (by simp) ?_
    refine AllReady.cons (o := _) rfl (fun K hK => ?_) AllReady.nil
    (refine step_slice (cs := [.int .i64 x0, .int .i64 x1]) (t := 32) (n := 1) hF.out (by rfl) (by first | (go_simp; done) | (go_simp; rfl)) ?_; intro gd W hF1; refine hK _ _ ?_; clear hK K; (try simp only [Act.put, List.setIfInBounds_toArray, List.set_cons_zero, List.set_cons_succ]); have HC1 := hF1.cells; simp only [Fr.Cells, List.length_cons, List.length_nil, Nat.reduceAdd, and_true] at HC1; clear hF HC; have HC := HC1; have hF := Aside0.mk hF1; clear hF1 HC1)
    refine wpAny_ready (rs := [6]) (by kernel_rfl) (by simp) ?_
    refine AllReady.cons (o := _) rfl (fun K hK => ?_) AllReady.nil
    (refine step_rows (ys := [(⟨x0, x1⟩ : S32)]) (.tmp 116) (.tmp 118) 22 (.agg #[.int .i64 0, .int .i64 0]) 16 hF.out (by rfl) rfl Try.underlying22 (by kernel_rfl) rfl (by decide) rfl rfl (blk_C hF.out (by simp)) (by rw [HN.out]; exact HOL.out) ?_; intro vc W Sc hF1; obtain ⟨Av, cv, hvc, hcv, hCv⟩ := Kd.R_reads (hF1.rowAt (r := Fr.rowR k32 32 _ vc (O ++ [⟨x0, x1⟩]) Sc) List.mem_cons_self); rw [HLN.out] at hvc; subst hvc; clear hcv hCv; refine hK _ _ ?_; clear hK K; (try simp only [Act.put, List.setIfInBounds_toArray, List.set_cons_zero, List.set_cons_succ]); have HC1 := hF1.cells; simp only [Fr.Cells, List.length_cons, List.length_nil, Nat.reduceAdd, and_true] at HC1; clear hF HC; have HC := HC1; have hF := Aside0.mk hF1; clear hF1 HC1)
    (refine wpAny_take (i := 7) (v := .pointer (some ⟨g8, 1, none⟩)) rfl (by kernel_rfl) (by kernel_rfl) (by kernel_rfl) (fun _ _ _ h => HQ.out _ _ _ _ _ h) (Or.inl ⟨by rfl, by (intro w; first | (go_simp; done) | (go_simp; rfl))⟩) ?_; (try simp only [Act.put, List.setIfInBounds_toArray, List.set_cons_zero, List.set_cons_succ]))
    refine wpAny_ready (rs := [8]) (by kernel_rfl) (by simp) ?_
    refine AllReady.cons (o := _) rfl (fun K hK => ?_) AllReady.nil
    (refine step_store hF.out rfl rfl (by rfl) (g := g8) (off := 1) (tg := 42) (u := .slice Av (n + 1) cv) (seg := [.slice Av (n + 1) cv]) rfl (by first | rfl | (go_simp; rfl)) (by first | rfl | (simp only [Value.cells]; rfl)) (by kernel_rfl) (by simp [Value.oneCell']) (.there _ (.there _ (.here _ _))) (by simp) ?_; intro W hF1; simp only [Fr.patch, List.take_zero, List.take, List.nil_append, List.drop, List.cons_append, List.append_nil, List.length_cons, List.length_nil, Nat.reduceAdd] at hF1; refine hK _ _ ?_; clear hK K; (try simp only [Act.put, List.setIfInBounds_toArray, List.set_cons_zero, List.set_cons_succ]); have HF9 := Aside0.mk hF1; clear hF hF1 HC)
    refine wpAny_done (by kernel_rfl) ?_ _
    exact HH.out gd Av cv _ Sc HF9.out
  refine AllReady.cons (o := _) rfl (fun K hK => ?_) ?_
  · (go_simp; refine hK _ _ ?_; clear hK K; (try simp only [Act.put, List.setIfInBounds_toArray, List.set_cons_zero, List.set_cons_succ]))
    refine wpAny_ready (rs := [3, 5]) (by kernel_rfl) (by simp) ?_
    refine AllReady.cons (o := _) rfl (fun K hK => ?_) ?_
    · (go_simp; refine hK _ _ ?_; clear hK K; (try simp only [Act.put, List.setIfInBounds_toArray, List.set_cons_zero, List.set_cons_succ]))
      refine wpAny_ready (rs := [5]) (by kernel_rfl) (by simp) ?_
      refine AllReady.cons (o := _) rfl (fun K hK => ?_) AllReady.nil
      (refine step_slice (cs := [.int .i64 x0, .int .i64 x1]) (t := 32) (n := 1) hF.out (by rfl) (by first | (go_simp; done) | (go_simp; rfl)) ?_; intro gd W hF1; refine hK _ _ ?_; clear hK K; (try simp only [Act.put, List.setIfInBounds_toArray, List.set_cons_zero, List.set_cons_succ]); have HC1 := hF1.cells; simp only [Fr.Cells, List.length_cons, List.length_nil, Nat.reduceAdd, and_true] at HC1; clear hF HC; have HC := HC1; have hF := Aside0.mk hF1; clear hF1 HC1)
      refine wpAny_ready (rs := [6]) (by kernel_rfl) (by simp) ?_
      refine AllReady.cons (o := _) rfl (fun K hK => ?_) AllReady.nil
      (refine step_rows (ys := [(⟨x0, x1⟩ : S32)]) (.tmp 116) (.tmp 118) 22 (.agg #[.int .i64 0, .int .i64 0]) 16 hF.out (by rfl) rfl Try.underlying22 (by kernel_rfl) rfl (by decide) rfl rfl (blk_C hF.out (by simp)) (by rw [HN.out]; exact HOL.out) ?_; intro vc W Sc hF1; obtain ⟨Av, cv, hvc, hcv, hCv⟩ := Kd.R_reads (hF1.rowAt (r := Fr.rowR k32 32 _ vc (O ++ [⟨x0, x1⟩]) Sc) List.mem_cons_self); rw [HLN.out] at hvc; subst hvc; clear hcv hCv; refine hK _ _ ?_; clear hK K; (try simp only [Act.put, List.setIfInBounds_toArray, List.set_cons_zero, List.set_cons_succ]); have HC1 := hF1.cells; simp only [Fr.Cells, List.length_cons, List.length_nil, Nat.reduceAdd, and_true] at HC1; clear hF HC; have HC := HC1; have hF := Aside0.mk hF1; clear hF1 HC1)
      (refine wpAny_take (i := 7) (v := .pointer (some ⟨g8, 1, none⟩)) rfl (by kernel_rfl) (by kernel_rfl) (by kernel_rfl) (fun _ _ _ h => HQ.out _ _ _ _ _ h) (Or.inl ⟨by rfl, by (intro w; first | (go_simp; done) | (go_simp; rfl))⟩) ?_; (try simp only [Act.put, List.setIfInBounds_toArray, List.set_cons_zero, List.set_cons_succ]))
      refine wpAny_ready (rs := [8]) (by kernel_rfl) (by simp) ?_
      refine AllReady.cons (o := _) rfl (fun K hK => ?_) AllReady.nil
      (refine step_store hF.out rfl rfl (by rfl) (g := g8) (off := 1) (tg := 42) (u := .slice Av (n + 1) cv) (seg := [.slice Av (n + 1) cv]) rfl (by first | rfl | (go_simp; rfl)) (by first | rfl | (simp only [Value.cells]; rfl)) (by kernel_rfl) (by simp [Value.oneCell']) (.there _ (.there _ (.here _ _))) (by simp) ?_; intro W hF1; simp only [Fr.patch, List.take_zero, List.take, List.nil_append, List.drop, List.cons_append, List.append_nil, List.length_cons, List.length_nil, Nat.reduceAdd] at hF1; refine hK _ _ ?_; clear hK K; (try simp only [Act.put, List.setIfInBounds_toArray, List.set_cons_zero, List.set_cons_succ]); have HF9 := Aside0.mk hF1; clear hF hF1 HC)
      refine wpAny_done (by kernel_rfl) ?_ _
      exact HH.out gd Av cv _ Sc HF9.out
    refine AllReady.cons (o := _) rfl (fun K hK => ?_) ?_
    · (refine step_slice (cs := [.int .i64 x0, .int .i64 x1]) (t := 32) (n := 1) hF.out (by rfl) (by first | (go_simp; done) | (go_simp; rfl)) ?_; intro gd W hF1; refine hK _ _ ?_; clear hK K; (try simp only [Act.put, List.setIfInBounds_toArray, List.set_cons_zero, List.set_cons_succ]); have HC1 := hF1.cells; simp only [Fr.Cells, List.length_cons, List.length_nil, Nat.reduceAdd, and_true] at HC1; clear hF HC; have HC := HC1; have hF := Aside0.mk hF1; clear hF1 HC1)
      refine wpAny_ready (rs := [3]) (by kernel_rfl) (by simp) ?_
      refine AllReady.cons (o := _) rfl (fun K hK => ?_) AllReady.nil
      (go_simp; refine hK _ _ ?_; clear hK K; (try simp only [Act.put, List.setIfInBounds_toArray, List.set_cons_zero, List.set_cons_succ]))
      refine wpAny_ready (rs := [6]) (by kernel_rfl) (by simp) ?_
      refine AllReady.cons (o := _) rfl (fun K hK => ?_) AllReady.nil
      (refine step_rows (ys := [(⟨x0, x1⟩ : S32)]) (.tmp 116) (.tmp 118) 22 (.agg #[.int .i64 0, .int .i64 0]) 16 hF.out (by rfl) rfl Try.underlying22 (by kernel_rfl) rfl (by decide) rfl rfl (blk_C hF.out (by simp)) (by rw [HN.out]; exact HOL.out) ?_; intro vc W Sc hF1; obtain ⟨Av, cv, hvc, hcv, hCv⟩ := Kd.R_reads (hF1.rowAt (r := Fr.rowR k32 32 _ vc (O ++ [⟨x0, x1⟩]) Sc) List.mem_cons_self); rw [HLN.out] at hvc; subst hvc; clear hcv hCv; refine hK _ _ ?_; clear hK K; (try simp only [Act.put, List.setIfInBounds_toArray, List.set_cons_zero, List.set_cons_succ]); have HC1 := hF1.cells; simp only [Fr.Cells, List.length_cons, List.length_nil, Nat.reduceAdd, and_true] at HC1; clear hF HC; have HC := HC1; have hF := Aside0.mk hF1; clear hF1 HC1)
      (refine wpAny_take (i := 7) (v := .pointer (some ⟨g8, 1, none⟩)) rfl (by kernel_rfl) (by kernel_rfl) (by kernel_rfl) (fun _ _ _ h => HQ.out _ _ _ _ _ h) (Or.inl ⟨by rfl, by (intro w; first | (go_simp; done) | (go_simp; rfl))⟩) ?_; (try simp only [Act.put, List.setIfInBounds_toArray, List.set_cons_zero, List.set_cons_succ]))
      refine wpAny_ready (rs := [8]) (by kernel_rfl) (by simp) ?_
      refine AllReady.cons (o := _) rfl (fun K hK => ?_) AllReady.nil
      (refine step_store hF.out rfl rfl (by rfl) (g := g8) (off := 1) (tg := 42) (u := .slice Av (n + 1) cv) (seg := [.slice Av (n + 1) cv]) rfl (by first | rfl | (go_simp; rfl)) (by first | rfl | (simp only [Value.cells]; rfl)) (by kernel_rfl) (by simp [Value.oneCell']) (.there _ (.there _ (.here _ _))) (by simp) ?_; intro W hF1; simp only [Fr.patch, List.take_zero, List.take, List.nil_append, List.drop, List.cons_append, List.append_nil, List.length_cons, List.length_nil, Nat.reduceAdd] at hF1; refine hK _ _ ?_; clear hK K; (try simp only [Act.put, List.setIfInBounds_toArray, List.set_cons_zero, List.set_cons_succ]); have HF9 := Aside0.mk hF1; clear hF hF1 HC)
      refine wpAny_done (by kernel_rfl) ?_ _
      exact HH.out gd Av cv _ Sc HF9.out
    exact AllReady.nil
  exact AllReady.nil
end Go.Proofs.Ytlkaebnigmfphaa.G
