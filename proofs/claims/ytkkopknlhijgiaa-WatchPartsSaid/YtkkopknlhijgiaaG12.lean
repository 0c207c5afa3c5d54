/- Contracts of functions of the given program, each proved by a walk of its code: written by gprint.py, this session's program round the kit's print; texts of our own stand among the printed ones. No condition beyond each theorem's own premises. -/
import Derived.Test.YtkkopknlhijgiaaG0
import Derived.Test.YtkkopknlhijgiaaG1
import Derived.Test.YtkkopknlhijgiaaG2
import Derived.Test.YtkkopknlhijgiaaG3
import Derived.Test.YtkkopknlhijgiaaG4
namespace Go.Proofs.Ytkkopknlhijgiaa.G
open Go.RowKit Go.Proofs.YtkkopknlhijgiaaW.PrintWords Go.Proofs.YtkkopknlhijgiaaW.PrintLast Go.Proofs.YtkkopknlhijgiaaW.PrintMore
attribute [local go_sem] max2_int min2_int max_two min_two max_three min_three max_four min_four   -- for this text's walks alone
set_option linter.unusedVariables false
set_option linter.unusedSimpArgs false

/-! ### watch_Calm: function 42 -/
-- GIVEN OWN
attribute [local go_sem] Oper.semAt_some
open Go.Shelf
theorem apart_pure (a b : Int) (w : World) : Calls Try.prog 59 #[.int .i64 a, .int .i64 b] w fun e w' => e = .returned (.int .u64 (apF a b)) ∧ w = w' := by
  go_enter Try.func59, Try.ntmps59
  go_wp2
  go_ret
  exact ⟨rfl, rfl⟩
def calmP (s : ByteArray) (x : S51) : Bool := !(x.f1 == -1) && (x.f2.toList == s.toList)
set_option maxHeartbeats 1000000 in
theorem calm1 (s : ByteArray) (B1 : Nat) (w : World) (h1 : w.cell? ⟨B1, 0, none⟩ = some (.string s)) : PredS 67 #[.pointer (some ⟨B1, 0, none⟩)] (calmP s) w := by
  intro x W hB
  have c1 := (hB.cell (World.block_lt_of_cell? w _ h1)).trans h1
  have k1 : ∀ o : Obj, (W.alloc o).cell? ⟨B1, 0, none⟩ = some (.string s) := fun o => cell_al c1 o
  clear h1 hB c1
  show Calls Try.prog 67 #[.agg #[.int .i64 x.f0, .int .i64 x.f1, .string x.f2, .bool x.f3], .pointer (some ⟨B1, 0, none⟩)] W _
  by_cases a : x.f1 = -1
  · have a' : (x.f1 == -1) = true := by simp [a]
    have HA := Aside0.mk a'
    have hne : (x.f1 != -1) = false := by simp [a]
    clear a a'
    go_enter Try.func67, Try.ntmps67
    go_wp2
    go_ret
    exact ⟨by simp [calmP, HA.out], (Below.refl _ W).alloc (Nat.le_refl _) _⟩
  · have a' : (x.f1 == -1) = false := by simp [a]
    have hne : (x.f1 != -1) = true := by simp [a]
    clear a
    go_enter Try.func67, Try.ntmps67
    go_wp2
    go_ret
    exact ⟨by simp only [calmP, a', Bool.not_false, Bool.true_and]; rfl, (Below.refl _ W).alloc (Nat.le_refl _) _⟩
theorem calm_p {W : World} {a b : Addr} {u v x : Value} (hab : a ≠ b) (h : W.cell? a = some x) : ((W.setCell a u).setCell b v).cell? a = some u := by
  have h1 := World.cell?_setCell_same' W a u (by rw [h]; rfl)
  exact (World.cell?_setCell_other (W.setCell a u) b a v (Ne.symm hab)).trans h1
theorem calm_q {W : World} {a b : Addr} {u v x y : Value} (_h : W.cell? a = some x) (h : W.cell? b = some y) : ((W.setCell a u).setCell b v).cell? b = some v :=
  World.cell?_setCell_same' _ _ _ (by rw [isSome_setCell, h]; rfl)
def calmGo (least : Int) (l : List S51) : Bool := (List.range (l.length - 1)).all fun i => !decide (apF (rd_T51 l (i : Nat)).f0 (rd_T51 l ((i : Nat) + 1)).f0 < IntKind.u64.wrap least)
set_option maxHeartbeats 1000000 in
set_option maxRecDepth 100000 in
theorem calm_no (A : Option Addr) (c : Nat) (l : List S51) (s : ByteArray) (least : Int) (w : World) (hr : Kd.C k51 w A l.length l) (hlen : l.length * 40 ≤ 140737488351232) (h : ¬ (upF l = true ∧ 0 ≤ least)) :
    Calls Try.prog 42 #[.slice A l.length c, .string s, .int .i64 least] w fun e w' => e = .returned (.tuple #[.bool false, .int .i64 1]) ∧ Below w.heap.size w w' := by
  have HR := Aside0.mk hr
  have HH := Aside0.mk h
  have HL := Aside0.mk hlen
  clear hr h hlen
  have hF := Aside0.mk (Fr.Frame.start w)
  have HC : True := trivial
  cases hu : upF l with
  | false =>
    have HU := Aside0.mk hu
    clear hu
    go_enter Try.func42, Try.ntmps42
    go_wp2_with (first | (go_at_call 41; refine (right_calls A c l _ (Kd.C_below HR.out hF.out.below) HL.out).mono ?_; rintro e W1 ⟨rfl, hb⟩; have hF1 := hF.out.call hb; clear hb; simp only [HU.out]; have HC1 := hF1.cells; simp only [Fr.Cells, List.length_cons, List.length_nil, Nat.reduceAdd, and_true] at HC1; clear hF HC; have HC := HC1; have hF := Aside0.mk hF1; clear hF1 HC1) | ((with_reducible refine gate_store rfl ?_); apply Fr.fr_store hF.out rfl rfl rfl; (case hp => rfl); (case hx => first | (go_simp; rfl) | rfl); (case hu => (simp only [Value.cells]; rfl)); (case hs => (repeat (first | exact Fr.Spot.here _ _ | apply Fr.Spot.there))); (case ht => kernel_rfl); (case h1 => simp [Value.oneCell']); (case hfit => simp); intro W hF1; simp only [Fr.patch, List.take_zero, List.nil_append, List.drop, List.append_nil, List.take, List.cons_append, List.length_cons, List.length_nil, Nat.reduceAdd] at hF1; have HC1 := hF1.cells; simp only [Fr.Cells, List.length_cons, List.length_nil, Nat.reduceAdd, and_true] at HC1; clear hF HC; have HC := HC1; have hF := Aside0.mk hF1; clear hF1 HC1) | ((first | (with_reducible refine Fr.gate_alloc rfl ?_) | (with_reducible refine Fr.gate_box rfl ?_)); apply Fr.fr_box hF.out rfl; (case hrun => first | (go_simp; done) | (go_simp; rfl)); intro g W hF1; have HC1 := hF1.cells; simp only [Fr.Cells, List.length_cons, List.length_nil, Nat.reduceAdd, and_true] at HC1; clear hF HC; have HC := HC1; have hF := Aside0.mk hF1; clear hF1 HC1))
    refine bodyPost_ret ?_ rfl ⟨rfl, hF.out.below⟩
    simp [results, Try.f42, go_sem, HC]
  | true =>
    have HU := Aside0.mk hu
    clear hu
    have hl0 : least < 0 := by
      have := HH.out; rw [HU.out] at this; simp at this; omega
    clear HH
    go_enter Try.func42, Try.ntmps42
    go_wp2_with (first | (go_at_call 41; refine (right_calls A c l _ (Kd.C_below HR.out hF.out.below) HL.out).mono ?_; rintro e W1 ⟨rfl, hb⟩; have hF1 := hF.out.call hb; clear hb; simp only [HU.out]; have HC1 := hF1.cells; simp only [Fr.Cells, List.length_cons, List.length_nil, Nat.reduceAdd, and_true] at HC1; clear hF HC; have HC := HC1; have hF := Aside0.mk hF1; clear hF1 HC1) | ((with_reducible refine gate_store rfl ?_); apply Fr.fr_store hF.out rfl rfl rfl; (case hp => rfl); (case hx => first | (go_simp; rfl) | rfl); (case hu => (simp only [Value.cells]; rfl)); (case hs => (repeat (first | exact Fr.Spot.here _ _ | apply Fr.Spot.there))); (case ht => kernel_rfl); (case h1 => simp [Value.oneCell']); (case hfit => simp); intro W hF1; simp only [Fr.patch, List.take_zero, List.nil_append, List.drop, List.append_nil, List.take, List.cons_append, List.length_cons, List.length_nil, Nat.reduceAdd] at hF1; have HC1 := hF1.cells; simp only [Fr.Cells, List.length_cons, List.length_nil, Nat.reduceAdd, and_true] at HC1; clear hF HC; have HC := HC1; have hF := Aside0.mk hF1; clear hF1 HC1) | ((first | (with_reducible refine Fr.gate_alloc rfl ?_) | (with_reducible refine Fr.gate_box rfl ?_)); apply Fr.fr_box hF.out rfl; (case hrun => first | (go_simp; done) | (go_simp; rfl)); intro g W hF1; have HC1 := hF1.cells; simp only [Fr.Cells, List.length_cons, List.length_nil, Nat.reduceAdd, and_true] at HC1; clear hF HC; have HC := HC1; have hF := Aside0.mk hF1; clear hF1 HC1))
    refine bodyPost_ret ?_ rfl ⟨rfl, hF.out.below⟩
    simp [results, Try.f42, go_sem, HC]
set_option maxHeartbeats 4000000 in
set_option maxRecDepth 100000 in
theorem calm_yes (A : Option Addr) (c : Nat) (l : List S51) (s : ByteArray) (least : Int) (w : World) (hr : Kd.C k51 w A l.length l) (hlen : l.length * 40 ≤ 140737488351232) (h : upF l = true) (hl0 : 0 ≤ least) (r : Bool) (hG : calmGo least (l.filter (calmP s)) = r) :
    Calls Try.prog 42 #[.slice A l.length c, .string s, .int .i64 least] w fun e w' => e = .returned (.tuple #[.bool r, .int .i64 0]) ∧ Below w.heap.size w w' := by
  have HR := Aside0.mk hr
  have HU := Aside0.mk h
  have HL := Aside0.mk hlen
  have HG0 := Aside0.mk hG
  clear hr h hlen hG
  have hF := Aside0.mk (Fr.Frame.start w)
  have HC : True := trivial
  have hmf : ∀ (fn : Fn) (first cap : Array Value) (w : World), (Instr.makeFunc fn first cap).run Try.prog w = .ok (.func fn first cap) w := fun _ _ _ _ => rfl
  refine (callsIn_wide (n := 6)).1 ?_
  refine callsIn_of_wp_marks Try.func42 rfl trivial ?_ rfl
  simp only [Try.ntmps42, List.size_toArray, List.length_cons, List.length_nil, Nat.reduceAdd, Nat.reduceSub, Array.replicate_succ, Array.replicate_zero, List.push_toArray, List.append_toArray, List.nil_append, List.cons_append]
  obtain ⟨W4, hW4⟩ : ∃ W4, ((((w.alloc (Obj.cells #[Value.string s] 9)).alloc (Obj.cells #[Value.int IntKind.i64 least] 3)).alloc (Obj.cells #[Value.bool false] 4)).alloc (Obj.cells #[Value.int IntKind.i64 0] 24)) = W4 := ⟨_, rfl⟩
  have hB4 : Below w.heap.size w W4 := by rw [← hW4]; exact ((((Below.refl _ w).alloc (Nat.le_refl _) _).alloc (by simp) _).alloc (by simp; omega) _).alloc (by simp; omega) _
  have hs4 : W4.heap.size = w.heap.size + 1 + 1 + 1 + 1 := by rw [← hW4]; simp
  have c40 : W4.cell? ⟨w.heap.size, 0, none⟩ = some (.string s) := by rw [← hW4]; simp [go_sem]
  have c41 : W4.cell? ⟨w.heap.size + 1, 0, none⟩ = some (.int .i64 least) := by rw [← hW4]; simp [go_sem]
  have c42 : W4.cell? ⟨w.heap.size + 1 + 1, 0, none⟩ = some (.bool false) := by rw [← hW4]; simp [go_sem]
  have c43 : W4.cell? ⟨w.heap.size + 1 + 1 + 1, 0, none⟩ = some (.int .i64 0) := by rw [← hW4]; simp [go_sem]
  have f42 : W4.frozen? ⟨w.heap.size + 1 + 1, 0, none⟩ = false := by rw [← hW4]; simp [go_sem]
  have f43 : W4.frozen? ⟨w.heap.size + 1 + 1 + 1, 0, none⟩ = false := by rw [← hW4]; simp [go_sem]
  gi_wp2
  refine ⟨trivial, ?_⟩
  refine (callsIn_wide.2 (right_calls A c l _ (Kd.C_below HR.out hB4) HL.out)).mono ?_
  rintro e W1 ⟨rfl, hb⟩
  simp only [HU.out]
  have hB5 := hB4.trans (hb.mono (by omega))
  have d0 := (hb.cell (p := ⟨w.heap.size, 0, none⟩) (by simp; omega)).trans c40
  have d1 := (hb.cell (p := ⟨w.heap.size + 1, 0, none⟩) (by simp; omega)).trans c41
  have d2 := (hb.cell (p := ⟨w.heap.size + 1 + 1, 0, none⟩) (by simp; omega)).trans c42
  have d3 := (hb.cell (p := ⟨w.heap.size + 1 + 1 + 1, 0, none⟩) (by simp; omega)).trans c43
  have f2 := (hb.frozen (p := ⟨w.heap.size + 1 + 1, 0, none⟩) (by simp; omega)).trans f42
  have f3 := (hb.frozen (p := ⟨w.heap.size + 1 + 1 + 1, 0, none⟩) (by simp; omega)).trans f43
  have hs5 : W4.heap.size ≤ W1.heap.size := hb.size
  clear c40 c41 c42 c43 f42 f43 hW4 hb
  gi_wp2
  refine ⟨trivial, ?_⟩
  refine (callsIn_wide.2 (only_calls 67 _ (calmP s) (enters_of Try.func67 (by kernel_rfl) rfl) A c l _ (Kd.C_below HR.out hB5) HL.out (calm1 s w.heap.size _ d0))).mono ?_
  rintro e W2 ⟨v1, rfl, hR1, hb⟩
  obtain ⟨A1, c1, rfl, hc1, hC1⟩ := Kd.R_reads hR1
  have hB6 := hB5.trans (hb.mono (by omega))
  have d1' := (hb.cell (p := ⟨w.heap.size + 1, 0, none⟩) (by simp; omega)).trans d1
  have d2' := (hb.cell (p := ⟨w.heap.size + 1 + 1, 0, none⟩) (by simp; omega)).trans d2
  have d3' := (hb.cell (p := ⟨w.heap.size + 1 + 1 + 1, 0, none⟩) (by simp; omega)).trans d3
  have f2' := (hb.frozen (p := ⟨w.heap.size + 1 + 1, 0, none⟩) (by simp; omega)).trans f2
  have f3' := (hb.frozen (p := ⟨w.heap.size + 1 + 1 + 1, 0, none⟩) (by simp; omega)).trans f3
  have hs6 : w.heap.size + 4 ≤ W2.heap.size := by have := hb.size; omega
  clear hR1 hb d0 d1 d2 d3 f2 f3 hs5 hB5 hB4 hs4 hc1
  have HLn := Aside0.mk (show (l.filter (calmP s)).length * 40 ≤ 140737488351232 by have := List.length_filter_le (calmP s) l; have := HL.out; omega)
  obtain ⟨q, hq⟩ : ∃ q, q = l.filter (calmP s) := ⟨_, rfl⟩
  rw [← hq] at hC1 HLn HG0 ⊢
  have HG := HG0
  clear HG0 hq
  gi_wp2
  refine ⟨trivial, ?_⟩
  refine (callsIn_wide.2 (nb_calls _ _ _ _)).mono ?_
  rintro e W3 ⟨rfl, rfl⟩
  gi_wp2
  obtain ⟨W0, hW0⟩ : ∃ W0, W2.alloc (.cells #[.slice A1 q.length c1] 49) = W0 := ⟨_, rfl⟩
  have hB0 : Below w.heap.size w W0 := by rw [← hW0]; exact hB6.alloc (by omega) _
  have hsz : W0.heap.size = W2.heap.size + 1 := by rw [← hW0]; simp
  have hbx : W0.cell? ⟨W2.heap.size, 0, none⟩ = some (.slice A1 q.length c1) := by rw [← hW0]; simp [go_sem]
  have hl1 : W0.cell? ⟨w.heap.size + 1, 0, none⟩ = some (.int .i64 least) := by rw [← hW0]; exact cell_al d1' _
  have hr2 : W0.cell? ⟨w.heap.size + 1 + 1, 0, none⟩ = some (.bool false) := by rw [← hW0]; exact cell_al d2' _
  have hr3 : W0.cell? ⟨w.heap.size + 1 + 1 + 1, 0, none⟩ = some (.int .i64 0) := by rw [← hW0]; exact cell_al d3' _
  have hf2 : W0.frozen? ⟨w.heap.size + 1 + 1, 0, none⟩ = false := by rw [← hW0]; exact froz_al d2' f2' _
  have hf3 : W0.frozen? ⟨w.heap.size + 1 + 1 + 1, 0, none⟩ = false := by rw [← hW0]; exact froz_al d3' f3' _
  have hrr : Kd.C k51 W0 A1 q.length q := by rw [← hW0]; exact Kd.C_below hC1 ((Below.refl _ W2).alloc (Nat.le_refl _) _)
  rw [hW0]
  clear hW0 d1' d2' d3' f2' f3' hC1
  refine wpIn_rangeFunc_ownH rfl (by omega) (gf := 75) (lb := #[.pointer (some ⟨W2.heap.size, 0, none⟩)]) rfl trivial (enters_of Try.func75 (by kernel_rfl) rfl)
    (nb_stops 5 (by omega) W2.heap.size A1 c1 q HLn.out W0 (by omega) hbx hrr) belowK_t (belowK_b (Nat.le_refl _)) (Below.refl _ _) (fun _ => rfl)
    (fun pre W => ((∀ i ∈ pre, ¬ apF (rd_T51 q (i : Nat)).f0 (rd_T51 q ((i : Nat) + 1)).f0 < IntKind.u64.wrap least) ∧ W.cell? ⟨w.heap.size + 1, 0, none⟩ = some (.int .i64 least) ∧ W.cell? ⟨w.heap.size + 1 + 1, 0, none⟩ = some (.bool false) ∧ W.cell? ⟨w.heap.size + 1 + 1 + 1, 0, none⟩ = some (.int .i64 0) ∧ W.frozen? ⟨w.heap.size + 1 + 1, 0, none⟩ = false ∧ W.frozen? ⟨w.heap.size + 1 + 1 + 1, 0, none⟩ = false ∧ W0.heap.size ≤ W.heap.size) ∧ Below w.heap.size w W)
    (fun c pre W => (c = .ret ∧ (∃ (p : List Nat) (i : Nat), pre = p ++ [i] ∧ apF (rd_T51 q i).f0 (rd_T51 q ((i : Nat) + 1)).f0 < IntKind.u64.wrap least) ∧ W.cell? ⟨w.heap.size + 1 + 1, 0, none⟩ = some (.bool false) ∧ W.cell? ⟨w.heap.size + 1 + 1 + 1, 0, none⟩ = some (.int .i64 0)) ∧ Below w.heap.size w W)
    (OwnFrom.and (Own.from (fun s A B row hs hg hr => ⟨hs.1, Go.cell_kept hs.2.1 hg hr, Go.cell_kept hs.2.2.1 hg hr, Go.cell_kept hs.2.2.2.1 hg hr, (Go.frozen_kept hs.2.2.1 hg hr).trans hs.2.2.2.2.1, (Go.frozen_kept hs.2.2.2.1 hg hr).trans hs.2.2.2.2.2.1, Nat.le_trans hs.2.2.2.2.2.2 hg.size⟩) _) (ownFrom_below (Nat.le_refl _) (by omega)))
    (fun c => OwnFrom.and (Own.from (fun s A B row hs hg hr => ⟨hs.1, hs.2.1, Go.cell_kept hs.2.2.1 hg hr, Go.cell_kept hs.2.2.2 hg hr⟩) _) (ownFrom_below (Nat.le_refl _) (by omega)))
    ⟨⟨by simp, hl1, hr2, hr3, hf2, hf3, Nat.le_refl _⟩, hB0⟩
    (fun x a' W => ∃ B1 B2, w.heap.size + 4 ≤ B1 ∧ w.heap.size + 4 ≤ B2 ∧ W.cell? ⟨B1, 0, none⟩ = some (.int .i64 (rd_T51 q (x : Nat)).f0) ∧ W.cell? ⟨B2, 0, none⟩ = some (.int .i64 (rd_T51 q ((x : Nat) + 1)).f0) ∧ a' = { tmps := #[.slice A l.length c, .string s, .int .i64 least, undef, .pointer (some ⟨w.heap.size, 0, none⟩), .pointer (some ⟨w.heap.size + 1, 0, none⟩), .pointer (some ⟨w.heap.size + 1 + 1, 0, none⟩), .pointer (some ⟨w.heap.size + 1 + 1 + 1, 0, none⟩), .slice A1 q.length c1, .pointer (some ⟨B1, 0, none⟩), .pointer (some ⟨B2, 0, none⟩), .slice A l.length c, .bool true, .bool false, .bool false, .int .i64 least, .bool (decide (least < 0)), .bool (decide (least < 0)), .slice A l.length c, .func (.func 67) #[] #[.pointer (some ⟨w.heap.size, 0, none⟩)], .slice A1 q.length c1, .slice A1 q.length c1, .func (.func 75) #[] #[.pointer (some ⟨W2.heap.size, 0, none⟩)], (encNb q x).getD 0 undef, (encNb q x).getD 1 undef, undef, undef, undef, undef, undef, undef, undef, undef], defers := [] })
    (fun x a' _ X Y row hs hg hr => by obtain ⟨B1, B2, h1, h2, h3, h4, h5⟩ := hs; exact ⟨B1, B2, h1, h2, Go.cell_kept h3 hg (fun r e => (hr r e).2), Go.cell_kept h4 hg (fun r e => (hr r e).2), h5⟩)
    ?assign ?body ?done ?stop
  case assign =>
    rintro lp pre x W K ⟨⟨hp, c1, c2, c3, f2, f3, hs⟩, hB⟩ hK
    gi_wp2
    exact hK _ _ (((KeepsOthers.alloc W _).trans (KeepsOthers.alloc _ _)).from _) (((Below.refl _ W).alloc hs _).alloc (by simp; omega) _) ⟨⟨hp, cell_al (cell_al c1 _) _, cell_al (cell_al c2 _) _, cell_al (cell_al c3 _) _, froz_al (cell_al c2 _) (froz_al c2 f2 _) _, froz_al (cell_al c3 _) (froz_al c3 f3 _) _, by simp; omega⟩, (hB.alloc (by omega) _).alloc (by simp; omega) _⟩ ⟨W.heap.size, W.heap.size + 1, by omega, by omega, by simp [go_sem], by simp [go_sem], rfl⟩
  case body =>
    rintro lp pre x a' W hle ⟨r0, hrec⟩ ⟨⟨hp, c1, c2, c3, f2, f3, hs⟩, hB⟩ ⟨B1, B2, hb1, hb2, d1, d2, rfl⟩ hlt
    have hmo : Try.prog.follows .mixedOrders = true := by kernel_rfl
    gi_wp2
    gi_region_with_o (refine ⟨trivial, ?_⟩; gi_at_call 59; refine (CallsIn.inRound lp (callsIn_wide.2 (apart_pure (rd_T51 q (x : Nat)).f0 (rd_T51 q ((x : Nat) + 1)).f0 _))).mono ?_; rintro e W3 ⟨rfl, rfl⟩)
    all_goals
      by_cases hx : apF (rd_T51 q (x : Nat)).f0 (rd_T51 q ((x : Nat) + 1)).f0 < IntKind.u64.wrap least
      · have HX := Aside0.mk hx
        gi_wp2
        exact ⟨(((KeepsOthers.setCell _ _ _).trans (KeepsOthers.setCell _ _ _)).trans (KeepsOthers.drew _)).from _, ⟨rfl, ⟨pre, x, rfl, HX.out⟩, calm_p (by simp) c2, calm_q c2 c3⟩, below_drew ((hB.setCell (p := ⟨w.heap.size + 1 + 1, 0, none⟩) (by simp; omega) _).setCell (p := ⟨w.heap.size + 1 + 1 + 1, 0, none⟩) (by simp; omega) _)⟩
      · have HX := Aside0.mk hx
        gi_wp2
        exact ⟨(KeepsOthers.drew _).from _, below_drew (Below.refl _ _), ⟨⟨fun y hy => (List.mem_append.1 hy).elim (fun h => (hp y h)) (fun e => by simp at e; subst e; have := HX.out; omega), c1, c2, c3, f2, f3, (by show W2.heap.size + 1 ≤ W.heap.size; omega)⟩, below_drew hB⟩⟩
  case done =>
    rintro D ys W hD rfl ⟨⟨hp, c1, c2, c3, f2, f3, hs⟩, hB⟩ hKd
    have hval : r = true := by
      rw [← HG.out]
      unfold calmGo
      rw [List.all_eq_true]
      intro i hi
      have := hp i hi
      simp; omega
    subst hval
    clear hp
    gi_wp2
    have hK1 := ((KeepsOthers.setCell W ⟨w.heap.size + 1 + 1, 0, none⟩ (.bool true)).trans (KeepsOthers.setCell _ ⟨w.heap.size + 1 + 1 + 1, 0, none⟩ (.int .i64 0))).same D _ hKd rfl
    have d1 : ((W.setCell ⟨w.heap.size + 1 + 1, 0, none⟩ (.bool true)).setCell ⟨w.heap.size + 1 + 1 + 1, 0, none⟩ (.int .i64 0)).cell? ⟨w.heap.size + 1 + 1, 0, none⟩ = some (.bool true) := calm_p (by simp) c2
    have d2 : ((W.setCell ⟨w.heap.size + 1 + 1, 0, none⟩ (.bool true)).setCell ⟨w.heap.size + 1 + 1 + 1, 0, none⟩ (.int .i64 0)).cell? ⟨w.heap.size + 1 + 1 + 1, 0, none⟩ = some (.int .i64 0) := calm_q c2 c3
    have e1 := Go.cell_kept d1 (grownBy_putObj' _ D (.deferred none)) (fun r e => by cases e; exact ⟨_, hK1, rfl⟩)
    have e2 := Go.cell_kept d2 (grownBy_putObj' _ D (.deferred none)) (fun r e => by cases e; exact ⟨_, hK1, rfl⟩)
    refine ⟨by simp, .inl ⟨_, _, rfl, run_takeDeferred hK1, ?_⟩⟩
    refine ⟨.tuple #[.bool true, .int .i64 0], ?_, rfl, ((hB.setCell (p := ⟨w.heap.size + 1 + 1, 0, none⟩) (by simp; omega) _).setCell (p := ⟨w.heap.size + 1 + 1 + 1, 0, none⟩) (by simp; omega) _).trans (belowK_b (w := w) (Nat.le_refl _) _ D _ _ (by omega) hK1 rfl rfl)⟩
    simp [results, Try.f42, go_sem, e1, e2]
  case stop =>
    rintro D c pre W hD ⟨m, hm1, hm2, hpre⟩ ⟨⟨rfl, ⟨p, i, hpi, hlt⟩, c2, c3⟩, hB⟩ hKd
    have hval : r = false := by
      rw [← HG.out]
      unfold calmGo
      rw [List.all_eq_false]
      refine ⟨i, ?_, by simp; omega⟩
      have : i ∈ pre := by rw [hpi]; simp
      rw [hpre, List.mem_range] at this
      rw [List.mem_range]; omega
    subst hval
    have e1 := Go.cell_kept c2 (grownBy_putObj' _ D (.deferred none)) (fun r e => by cases e; exact ⟨_, hKd, rfl⟩)
    have e2 := Go.cell_kept c3 (grownBy_putObj' _ D (.deferred none)) (fun r e => by cases e; exact ⟨_, hKd, rfl⟩)
    clear hlt hpi hpre
    gi_wp2
    refine ⟨by simp, .inl ⟨_, _, rfl, run_takeDeferred hKd, ?_⟩⟩
    refine ⟨.tuple #[.bool false, .int .i64 0], ?_, rfl, hB.trans (belowK_b (w := w) (Nat.le_refl _) _ D _ _ (by omega) hKd rfl rfl)⟩
    simp [results, Try.f42, go_sem, e1, e2]
def watch_Calm.f (l : List S51) (s : ByteArray) (least : Int) : Option (Bool × Int) :=
  if l.length * 40 ≤ 140737488351232 then (if upF l = true ∧ 0 ≤ least then some (calmGo least (l.filter (calmP s)), 0) else some (false, 1)) else none
theorem watch_Calm.calls (A0 : Option Addr) (c0 : Nat) (l0 : List S51) (a1 : ByteArray) (a2 : Int) (r1 : Bool) (r2 : Int) (w : World) (hr0 : Kd.C k51 w A0 l0.length l0) (hc0 : l0.length ≤ c0) (h : watch_Calm.f l0 a1 a2 = some (r1, r2)) :
    Calls Try.prog 42 #[.slice A0 l0.length c0, .string a1, .int .i64 a2] w fun e w' => e = .returned (.tuple #[.bool r1, .int .i64 r2]) ∧ Below w.heap.size w w' := by
  unfold watch_Calm.f at h
  by_cases hl : l0.length * 40 ≤ 140737488351232
  · rw [if_pos hl] at h
    by_cases hm : upF l0 = true ∧ 0 ≤ a2
    · rw [if_pos hm] at h
      simp only [Option.some.injEq, Prod.mk.injEq] at h
      obtain ⟨h, rfl⟩ := h
      exact calm_yes A0 c0 l0 a1 a2 w hr0 hl hm.1 hm.2 r1 h
    · rw [if_neg hm] at h
      simp only [Option.some.injEq, Prod.mk.injEq] at h
      obtain ⟨rfl, rfl⟩ := h
      exact calm_no A0 c0 l0 a1 a2 w hr0 hl hm
  · rw [if_neg hl] at h; cases h


end Go.Proofs.Ytkkopknlhijgiaa.G
