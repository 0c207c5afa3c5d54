/- Contracts of functions of the given program, each proved by a walk of its code: written by gprint.py, this session's program round the kit's print; texts of our own stand among the printed ones. No condition beyond each theorem's own premises. -/
import Derived.Test.YtkkopknlhijgiaaG0
import Derived.Test.YtkkopknlhijgiaaG2
import Derived.Test.YtkkopknlhijgiaaG23
namespace Go.Proofs.Ytkkopknlhijgiaa.G
open Go.RowKit Go.Proofs.YtkkopknlhijgiaaW.PrintWords Go.Proofs.YtkkopknlhijgiaaW.PrintLast Go.Proofs.YtkkopknlhijgiaaW.PrintMore
attribute [local go_sem] max2_int min2_int max_two min_two max_three min_three max_four min_four   -- for this text's walks alone
set_option linter.unusedVariables false
set_option linter.unusedSimpArgs false

/-! ### backoff_All: function 43 -/
-- GIVEN OWN
attribute [local go_sem] Oper.semAt_some max2_int min2_int max_two min_two
open Go.Shelf
/-- What lies behind the boxes of All and a call. -/
theorem all_facts (w w1 : World) (b0 b1 b2 n : Int)
    (hb : Below ((w.alloc (.cells #[.int .i64 b0, .int .i64 b1, .int .i64 b2] 23)).alloc (.cells #[.int .i64 n] 3)).heap.size ((w.alloc (.cells #[.int .i64 b0, .int .i64 b1, .int .i64 b2] 23)).alloc (.cells #[.int .i64 n] 3)) w1) :
    w1.cell? ⟨w.heap.size, 0, none⟩ = some (.int .i64 b0) ∧ w1.cell? ⟨w.heap.size, 1, none⟩ = some (.int .i64 b1) ∧ w1.cell? ⟨w.heap.size, 2, none⟩ = some (.int .i64 b2) ∧ w1.cell? ⟨w.heap.size + 1, 0, none⟩ = some (.int .i64 n) ∧
    w.heap.size + 1 < w1.heap.size ∧ w.heap.size + 1 < w1.heap.size + 1 ∧ w.heap.size < w1.heap.size ∧ w.heap.size < w1.heap.size + 1 ∧ Below w.heap.size w w1 := by
  have hs := hb.size
  simp only [World.size_alloc] at hs
  refine ⟨?_, ?_, ?_, ?_, by omega, by omega, by omega, by omega, ?_⟩
  · exact (hb.cell (by simp [World.size_alloc]; try omega)).trans (by simp [go_sem])
  · exact (hb.cell (by simp [World.size_alloc]; try omega)).trans (by simp [go_sem])
  · exact (hb.cell (by simp [World.size_alloc]; try omega)).trans (by simp [go_sem])
  · exact (hb.cell (by simp [World.size_alloc]; try omega)).trans (by simp [go_sem])
  · exact ((Below.refl _ w).alloc (Nat.le_refl _) _).alloc (by simp) _ |>.trans (hb.mono (by simp [World.size_alloc]; omega))


/-- Some steps together. -/
def sumP (b0 : Int) (pre : List Nat) : Int := (pre.map fun i => b0 * 2 ^ i).sum
theorem sumP_snoc (b0 : Int) (pre : List Nat) (x : Nat) : wrap64 (wrap64 (sumP b0 pre) + b0 * 2 ^ x) = wrap64 (sumP b0 (pre ++ [x])) := by
  have e : sumP b0 (pre ++ [x]) = sumP b0 pre + b0 * 2 ^ x := by simp [sumP]
  rw [e]
  generalize sumP b0 pre = a
  generalize b0 * 2 ^ x = b
  unfold wrap64
  omega
theorem sumP_range (b0 : Int) : ∀ m : Nat, sumP b0 (List.range m) = b0 * (2 ^ m - 1)
  | 0 => by simp [sumP]
  | m + 1 => by
    have ih := sumP_range b0 m
    rw [List.range_succ]
    have e : sumP b0 (List.range m ++ [m]) = sumP b0 (List.range m) + b0 * 2 ^ m := by simp [sumP]
    rw [e, ih, Int.pow_succ, Int.mul_sub, Int.mul_sub, ← Int.mul_assoc]
    omega
theorem left_snoc (n : Int) (pre : List Nat) (x : Nat) : wrap64 (wrap64 (n - pre.length) - 1) = wrap64 (n - (pre ++ [x]).length) := by
  rw [List.length_append, List.length_singleton]
  unfold wrap64
  omega
theorem sum_bd {b0 b1 : Int} {K : Nat} (h : Doubles b0 b1 K) (i : Nat) (hi : i ≤ K) : 0 ≤ b0 * (2 ^ i - 1) ∧ b0 * (2 ^ i - 1) ≤ 2147483648 := by
  have h1 := h.bound i hi
  have h2 := h.1
  rw [Int.mul_sub]
  have hp : b0 * 1 ≤ b0 * 2 ^ i := Int.mul_le_mul_of_nonneg_left (by have := Int.pow_pos (n := 2) (m := i) (by omega); omega) (by omega)
  omega
theorem wrap_id {n : Int} (h : -9223372036854775808 ≤ n) (h' : n ≤ 9223372036854775807) : wrap64 n = n := by unfold wrap64; omega
theorem w64' {n : Int} (h : 0 ≤ n ∧ n ≤ 2147483648) : wrap64 n = n := wrap_id (by omega) (by omega)
theorem pos_of {W : World} {p : Addr} (h : W.cell? p ≠ none) : p.block < W.heap.size := by
  rcases Nat.lt_or_ge p.block W.heap.size with hl | hg
  · exact hl
  · exact absurd (by unfold World.cell?; rw [Array.getElem?_eq_none hg]) h
/-- So many steps are taken. -/
def mOf (K : Nat) (n : Int) : Nat := if n < K then n.toNat else K
set_option maxHeartbeats 4000000 in
set_option maxRecDepth 100000 in
theorem all_yes (b0 b1 b2 n : Int) (w : World) (h : BackMay b0 b1 b2) (hn : 0 ≤ n) (hn2 : n ≤ 9223372036854775807) (K : Nat) (hK : Doubles b0 b1 K) (t1 t2 r1 r2 : Int)
    (hT : tick_Times.f (mn (n - mOf K n) 1099511627776) b1 = some (t1, t2)) (hA : tick_Add.f (b0 * (2 ^ mOf K n - 1)) t1 = some (r1, r2)) :
    Calls Try.prog 43 #[.agg #[.int .i64 b0, .int .i64 b1, .int .i64 b2], .int .i64 n] w fun e w' => e = .returned (.tuple #[.int .i64 r1, .int .i64 r2]) ∧ Below w.heap.size w w' := by
  obtain ⟨⟨h1, h2⟩, ⟨h3, h4⟩, h5, h6⟩ := h
  have HK := Aside0.mk hK
  have HT := Aside0.mk hT
  have HA := Aside0.mk hA
  clear hK hT hA
  have HRt := Aside0.mk (show backoff_Right.f b0 b1 b2 = some true from by
    unfold backoff_Right.f backoff_in.f
    rw [if_pos (by omega), if_pos (by omega), if_pos (by omega)]
    simp [h2, h4, h6])
  refine (callsIn_wide (n := 6)).1 ?_
  refine callsIn_of_wp_marks Try.func43 rfl trivial ?_ rfl
  simp only [Try.ntmps43, List.size_toArray, List.length_cons, List.length_nil, Nat.reduceAdd, Nat.reduceSub, Array.replicate_succ, Array.replicate_zero, List.push_toArray, List.append_toArray, List.nil_append, List.cons_append]
  gi_wp2_with (refine ⟨trivial, ?_⟩; gi_at_call 44; refine (callsIn_wide.2 (backoff_Right.calls b0 b1 b2 true _ HRt.out)).mono ?_; rintro e w1 ⟨rfl, hb1⟩; obtain ⟨q0, q1, q2, qn, qs, qs2, qs3, qs4, qB⟩ := all_facts w w1 b0 b1 b2 n hb1; clear hb1; clear HRt)
  gi_region
  all_goals gi_wp2_with (refine ⟨trivial, ?_⟩; gi_at_call 53; refine (callsIn_wide.2 (steps_calls b0 b1 b2 _)).mono ?_; rintro e w2 ⟨rfl, rfl⟩)
  · rename_i _ Kc HKc
    obtain ⟨W0, hW0⟩ : ∃ W0, (((w1.alloc (.cells #[.int .i64 0] 3)).alloc (.cells #[.int .i64 n] 3)).alloc (.cells #[.int .i64 b0, .int .i64 b1, .int .i64 b2] 23)).drew = W0 := ⟨_, rfl⟩
    have hB0 : Below w.heap.size w W0 := by rw [← hW0]; exact (((qB.alloc (by omega) _).alloc (by simp <;> omega) _).alloc (by simp <;> omega) _).drew
    have hAll : Below w1.heap.size w1 W0 := by rw [← hW0]; exact ((((Below.refl _ w1).alloc (Nat.le_refl _) _).alloc (by simp) _).alloc (by simp <;> omega) _).drew
    have hh : W0.heap[w1.heap.size + 1 + 1]? = some (.cells #[.int .i64 b0, .int .i64 b1, .int .i64 b2] 23 (0, 0)) := by
      rw [← hW0]
      have := World.alloc_heap_new ((w1.alloc (.cells #[.int .i64 0] 3)).alloc (.cells #[.int .i64 n] 3)) (.cells #[.int .i64 b0, .int .i64 b1, .int .i64 b2] 23)
      simp only [World.size_alloc] at this
      exact this
    have hsz : W0.heap.size = w1.heap.size + 1 + 1 + 1 := by rw [← hW0]; simp
    have p1 : W0.cell? ⟨w.heap.size, 1, none⟩ = some (.int .i64 b1) := (hAll.cell (p := ⟨w.heap.size, 1, none⟩) qs3).trans q1
    have pn : W0.cell? ⟨w.heap.size + 1, 0, none⟩ = some (.int .i64 n) := (hAll.cell (p := ⟨w.heap.size + 1, 0, none⟩) qs).trans qn
    have p6 : W0.cell? ⟨w1.heap.size, 0, none⟩ = some (.int .i64 (wrap64 (sumP b0 []))) := by rw [← hW0]; simp [go_sem, sumP, wrap64]
    have p7 : W0.cell? ⟨w1.heap.size + 1, 0, none⟩ = some (.int .i64 (wrap64 (n - ([] : List Nat).length))) := by
      have e : wrap64 (n - ([] : List Nat).length) = n := by unfold wrap64; simp; omega
      rw [← hW0, e]; simp [go_sem]
    have f6 : W0.frozen? ⟨w1.heap.size, 0, none⟩ = false := by rw [← hW0]; simp [go_sem]
    have f7 : W0.frozen? ⟨w1.heap.size + 1, 0, none⟩ = false := by rw [← hW0]; simp [go_sem]
    have hsz0 : w1.heap.size < W0.heap.size := by omega
    rw [hW0]
    clear hW0 hAll q0 q1 q2 qn
    refine wpIn_rangeFunc_ownF rfl (by omega) (gf := 71) (lb := #[.pointer (some ⟨w1.heap.size + 1 + 1, 0, none⟩)]) rfl trivial (enters_of Try.func71 (by kernel_rfl) rfl)
      (steps_stopsB Fence.wide 5 trivial rfl (by omega) (w1.heap.size + 1 + 1) b0 b1 b2 K HK.out W0 (by omega) hh) keepB_t (keepB_b (by omega)) (Below.refl _ _) (fun _ => rfl)
      (fun pre W => ((∀ y ∈ pre, (y : Int) ≠ n) ∧ W.cell? ⟨w.heap.size, 1, none⟩ = some (.int .i64 b1) ∧ W.cell? ⟨w.heap.size + 1, 0, none⟩ = some (.int .i64 n) ∧ W.cell? ⟨w1.heap.size, 0, none⟩ = some (.int .i64 (wrap64 (sumP b0 pre))) ∧ W.cell? ⟨w1.heap.size + 1, 0, none⟩ = some (.int .i64 (wrap64 (n - pre.length))) ∧ W.frozen? ⟨w1.heap.size, 0, none⟩ = false ∧ W.frozen? ⟨w1.heap.size + 1, 0, none⟩ = false) ∧ Below w.heap.size w W)
      (fun c pre W => (c = .exit 0 ∧ (∃ (p : List Nat) (i : Nat), pre = p ++ [i] ∧ (i : Int) = n ∧ W.cell? ⟨w1.heap.size, 0, none⟩ = some (.int .i64 (wrap64 (sumP b0 p))) ∧ W.cell? ⟨w1.heap.size + 1, 0, none⟩ = some (.int .i64 (wrap64 (n - p.length)))) ∧ W.cell? ⟨w.heap.size, 1, none⟩ = some (.int .i64 b1)) ∧ Below w.heap.size w W)
      (OwnFrom.and (Own.from (fun s A B row hs hg hr => ⟨hs.1, Go.cell_kept hs.2.1 hg hr, Go.cell_kept hs.2.2.1 hg hr, Go.cell_kept hs.2.2.2.1 hg hr, Go.cell_kept hs.2.2.2.2.1 hg hr, (Go.frozen_kept hs.2.2.2.1 hg hr).trans hs.2.2.2.2.2.1, (Go.frozen_kept hs.2.2.2.2.1 hg hr).trans hs.2.2.2.2.2.2⟩) _) (ownFrom_below (Nat.le_refl _) (by omega)))
      (fun c => OwnFrom.and (Own.from (fun s A B row hs hg hr => ⟨hs.1, (by obtain ⟨p, i, e1, e2, e3, e4⟩ := hs.2.1; exact ⟨p, i, e1, e2, Go.cell_kept e3 hg hr, Go.cell_kept e4 hg hr⟩), Go.cell_kept hs.2.2 hg hr⟩) _) (ownFrom_below (Nat.le_refl _) (by omega)))
      ⟨⟨by simp, p1, pn, p6, p7, f6, f7⟩, hB0⟩
      (fun x => { tmps := #[.agg #[.int .i64 b0, .int .i64 b1, .int .i64 b2], .int .i64 n, .pointer (some ⟨w.heap.size, 0, none⟩), .pointer (some ⟨w.heap.size + 1, 0, none⟩), .int .i64 0, .int .i64 0, .pointer (some ⟨w1.heap.size, 0, none⟩), .pointer (some ⟨w1.heap.size + 1, 0, none⟩), .int .i64 x, .int .i64 (b0 * 2 ^ x), undef, undef, .agg #[.int .i64 b0, .int .i64 b1, .int .i64 b2], .bool true, .bool false, .bool false, .int .i64 n, .bool (decide (n < 0)), .bool (decide (n < 0)), .int .i64 n, .agg #[.int .i64 b0, .int .i64 b1, .int .i64 b2], .func (.func 71) #[] #[.pointer (some ⟨w1.heap.size + 1 + 1, 0, none⟩)], .int .i64 x, .int .i64 (b0 * 2 ^ x), undef, undef, undef, undef, undef, undef, undef, undef, undef, undef, undef, undef, undef, undef, undef, undef, undef, undef, undef, undef, undef], defers := [] }) ?assign ?body ?done ?stop
    case assign =>
      intro l x W K hK
      gi_wp2
      exact hK
    case body =>
      rintro l pre x W ⟨⟨hp, c1, cn, r1, r2, f1, f2⟩, hB⟩ _
      obtain ⟨z, hz⟩ : ∃ z, b0 * 2 ^ x = z := ⟨_, rfl⟩
      by_cases hx : (x : Int) = n
      · have hxb : ((x : Int) == n) = true := by simp [hx]
        have HX := Aside0.mk hx
        have HZ := Aside0.mk hz
        rw [hz]
        clear hx hz
        gi_wp2
        exact ⟨KeepsOthers.refl _, ⟨rfl, ⟨pre, x, rfl, HX.out, r1, r2⟩, c1⟩, hB⟩
      · have hxb : ((x : Int) == n) = false := by simp [hx]
        have HX := Aside0.mk hx
        have HS := Aside0.mk (sumP_snoc b0 pre x)
        have HL := Aside0.mk (left_snoc n pre x)
        rw [hz] at HS ⊢
        clear hx hz
        gi_wp2
        have g6 : ((W.setCell ⟨w1.heap.size, 0, none⟩ (.int .i64 (wrap64 (wrap64 (sumP b0 pre) + z)))).setCell ⟨w1.heap.size + 1, 0, none⟩ (.int .i64 (wrap64 (wrap64 (n - pre.length) - 1)))).cell? ⟨w1.heap.size, 0, none⟩ = some (.int .i64 (wrap64 (wrap64 (sumP b0 pre) + z))) := by
          rw [World.cell?_setCell_other _ _ _ _ (by simp)]
          exact World.cell?_setCell_same' _ _ _ (by rw [r1]; rfl)
        have g7 : ((W.setCell ⟨w1.heap.size, 0, none⟩ (.int .i64 (wrap64 (wrap64 (sumP b0 pre) + z)))).setCell ⟨w1.heap.size + 1, 0, none⟩ (.int .i64 (wrap64 (wrap64 (n - pre.length) - 1)))).cell? ⟨w1.heap.size + 1, 0, none⟩ = some (.int .i64 (wrap64 (wrap64 (n - pre.length) - 1))) :=
          World.cell?_setCell_same' _ _ _ (by rw [isSome_setCell, r2]; rfl)
        have g1 : ((W.setCell ⟨w1.heap.size, 0, none⟩ (.int .i64 (wrap64 (wrap64 (sumP b0 pre) + z)))).setCell ⟨w1.heap.size + 1, 0, none⟩ (.int .i64 (wrap64 (wrap64 (n - pre.length) - 1)))).cell? ⟨w.heap.size, 1, none⟩ = some (.int .i64 b1) := by
          rw [World.cell?_setCell_other _ _ _ _ (by simp <;> omega), World.cell?_setCell_other _ _ _ _ (by simp <;> omega)]; exact c1
        have gn : ((W.setCell ⟨w1.heap.size, 0, none⟩ (.int .i64 (wrap64 (wrap64 (sumP b0 pre) + z)))).setCell ⟨w1.heap.size + 1, 0, none⟩ (.int .i64 (wrap64 (wrap64 (n - pre.length) - 1)))).cell? ⟨w.heap.size + 1, 0, none⟩ = some (.int .i64 n) := by
          rw [World.cell?_setCell_other _ _ _ _ (by simp <;> omega), World.cell?_setCell_other _ _ _ _ (by simp <;> omega)]; exact cn
        have gf6 : ((W.setCell ⟨w1.heap.size, 0, none⟩ (.int .i64 (wrap64 (wrap64 (sumP b0 pre) + z)))).setCell ⟨w1.heap.size + 1, 0, none⟩ (.int .i64 (wrap64 (wrap64 (n - pre.length) - 1)))).frozen? ⟨w1.heap.size, 0, none⟩ = false := by simp [go_sem, f1]
        have gf7 : ((W.setCell ⟨w1.heap.size, 0, none⟩ (.int .i64 (wrap64 (wrap64 (sumP b0 pre) + z)))).setCell ⟨w1.heap.size + 1, 0, none⟩ (.int .i64 (wrap64 (wrap64 (n - pre.length) - 1)))).frozen? ⟨w1.heap.size + 1, 0, none⟩ = false := by simp [go_sem, f2]
        rw [HS.out] at g6 g7 g1 gn gf6 gf7
        rw [HL.out] at g6 g7 g1 gn gf6 gf7
        have gB := (((hB.setCell (p := ⟨w1.heap.size, 0, none⟩) (by simp <;> omega) (.int .i64 (wrap64 (wrap64 (sumP b0 pre) + z)))).setCell (p := ⟨w1.heap.size + 1, 0, none⟩) (by simp <;> omega) (.int .i64 (wrap64 (wrap64 (n - pre.length) - 1)))).drew)
        have gK : KeepB (w1.heap.size + 1 + 1) W ((W.setCell ⟨w1.heap.size, 0, none⟩ (.int .i64 (wrap64 (wrap64 (sumP b0 pre) + z)))).setCell ⟨w1.heap.size + 1, 0, none⟩ (.int .i64 (wrap64 (wrap64 (n - pre.length) - 1)))).drew := by
          show ((W.setCell ⟨w1.heap.size, 0, none⟩ (.int .i64 (wrap64 (wrap64 (sumP b0 pre) + z)))).setCell ⟨w1.heap.size + 1, 0, none⟩ (.int .i64 (wrap64 (wrap64 (n - pre.length) - 1)))).heap[w1.heap.size + 1 + 1]? = W.heap[w1.heap.size + 1 + 1]?
          rw [Below.heap_setCell _ _ _ _ (by simp <;> omega), Below.heap_setCell _ _ _ _ (by simp <;> omega)]
        have gO : KeepsOthers W ((W.setCell ⟨w1.heap.size, 0, none⟩ (.int .i64 (wrap64 (wrap64 (sumP b0 pre) + z)))).setCell ⟨w1.heap.size + 1, 0, none⟩ (.int .i64 (wrap64 (wrap64 (n - pre.length) - 1)))).drew := ((KeepsOthers.setCell _ _ _).trans (KeepsOthers.setCell _ _ _)).trans (KeepsOthers.drew _)
        rw [HS.out, HL.out] at gB gK gO
        have hne : ∀ y ∈ pre ++ [x], (y : Int) ≠ n := fun y hy => (List.mem_append.1 hy).elim (hp y) (fun e => by simp at e; subst e; exact HX.out)
        have hfin := (⟨gO, gK, ⟨hne, g1, gn, g6, g7, gf6, gf7⟩, gB⟩ : ownPostK (KeepB (w1.heap.size + 1 + 1)) (fun (pre : List Nat) W => ((∀ y ∈ pre, (y : Int) ≠ n) ∧ W.cell? ⟨w.heap.size, 1, none⟩ = some (.int .i64 b1) ∧ W.cell? ⟨w.heap.size + 1, 0, none⟩ = some (.int .i64 n) ∧ W.cell? ⟨w1.heap.size, 0, none⟩ = some (.int .i64 (wrap64 (sumP b0 pre))) ∧ W.cell? ⟨w1.heap.size + 1, 0, none⟩ = some (.int .i64 (wrap64 (n - pre.length))) ∧ W.frozen? ⟨w1.heap.size, 0, none⟩ = false ∧ W.frozen? ⟨w1.heap.size + 1, 0, none⟩ = false) ∧ Below w.heap.size w W) (fun _ _ _ => False) (pre ++ [x]) W .normal { tmps := #[], defers := [] } ((W.setCell ⟨w1.heap.size, 0, none⟩ (.int .i64 (wrap64 (sumP b0 (pre ++ [x]))))).setCell ⟨w1.heap.size + 1, 0, none⟩ (.int .i64 (wrap64 (n - (pre ++ [x]).length)))).drew)
        gi_region
        all_goals
          simp only [i64_w, HS.out, HL.out]
          exact hfin
    case done =>
      rintro D ys W hD rfl ⟨⟨hne, c1, cn, r1', r2', f1, f2⟩, hB⟩ hKd
      have hge : (K : Int) ≤ n := by
        rcases Int.lt_or_le n K with hlt | hge
        · exact absurd (show ((n.toNat : Nat) : Int) = n by omega) (hne n.toNat (by rw [List.mem_range]; omega))
        · exact hge
      have hm : mOf K n = K := by unfold mOf; rw [if_neg (by omega)]
      have hs := sum_bd HK.out K (Nat.le_refl _)
      rw [sumP_range, w64' hs] at r1'
      rw [List.length_range, wrap_id (by omega) (by omega)] at r2'
      have HT2 := HT.out
      have HA2 := HA.out
      rw [hm] at HT2 HA2
      have HT3 := Aside0.mk HT2
      have HA3 := Aside0.mk HA2
      clear HT2 HA2 hne hm hs hge
      have hsome : W.cell? ⟨w1.heap.size, 0, none⟩ ≠ none := by rw [r1']; simp
      refine HKc _ _ ?_
      obtain ⟨z, hz⟩ : ∃ z, b0 * (2 ^ K - 1) = z := ⟨_, rfl⟩
      rw [hz] at r1' HA3
      obtain ⟨y, hy⟩ : ∃ y, n - (K : Int) = y := ⟨_, rfl⟩
      rw [hy] at r2' HT3
      clear hz hy
      gi_wp2_with (first | (refine ⟨trivial, ?_⟩; gi_at_call 20; refine (callsIn_wide.2 (tick_Times.calls _ _ t1 t2 _ HT3.out)).mono ?_; rintro e w3 ⟨rfl, hb3⟩; have r1'' := (hb3.cell (p := ⟨w1.heap.size, 0, none⟩) (pos_of hsome)).trans r1') | (refine ⟨trivial, ?_⟩; gi_at_call 19; refine (callsIn_wide.2 (tick_Add.calls _ _ r1 r2 _ HA3.out)).mono ?_; rintro e w4 ⟨rfl, hb4⟩))
      all_goals
        have hDl : D < W.heap.size := (Array.getElem?_eq_some_iff.1 hKd).1
        have hKd4 : w4.heap[D]? = some (.deferred (some [])) := (hb4.block D (Nat.lt_of_lt_of_le hDl hb3.size)).trans ((hb3.block D hDl).trans hKd)
        have hB4 : Below w.heap.size w w4 := hB.trans ((hb3.mono hB.size).trans (hb4.mono (Nat.le_trans hB.size hb3.size)))
        refine ⟨by simp, .inl ⟨_, _, rfl, run_takeDeferred hKd4, ?_⟩⟩
        refine ⟨.tuple #[.int .i64 r1, .int .i64 r2], ?_, rfl, hB4.trans (belowK_b (w := w) (Nat.le_refl _) _ D _ _ (by omega) hKd4 rfl rfl)⟩
        simp [results, Try.f43, go_sem]
    case stop =>
      rintro D c pre W hD ⟨m, hm1, hm2, hpre⟩ ⟨⟨rfl, ⟨p, i, hpi, hin, hc1, hc2⟩, c1⟩, hB⟩ hKd
      have him : i = m - 1 ∧ p = List.range (m - 1) := by
        have : List.range m = List.range (m - 1) ++ [m - 1] := by rw [← List.range_succ]; congr 1; omega
        rw [hpi, this] at hpre
        have h2 := List.append_inj_right' hpre rfl
        exact ⟨by simpa using h2, List.append_inj_left' hpre rfl⟩
      obtain ⟨hi, hp⟩ := him
      subst hp
      have hm : mOf K n = m - 1 := by unfold mOf; rw [if_pos (by omega)]; omega
      have hs := sum_bd HK.out (m - 1) (by omega)
      rw [sumP_range, w64' hs] at hc1
      rw [List.length_range, wrap_id (by omega) (by omega)] at hc2
      have HT2 := HT.out
      have HA2 := HA.out
      rw [hm] at HT2 HA2
      have HT3 := Aside0.mk HT2
      have HA3 := Aside0.mk HA2
      clear HT2 HA2 hm hs hi hpi hpre hin
      obtain ⟨z, hz⟩ : ∃ z, b0 * (2 ^ (m - 1) - 1) = z := ⟨_, rfl⟩
      rw [hz] at hc1 HA3
      obtain ⟨y, hy⟩ : ∃ y, n - ((m - 1 : Nat) : Int) = y := ⟨_, rfl⟩
      rw [hy] at hc2 HT3
      clear hz hy
      have hsome : W.cell? ⟨w1.heap.size, 0, none⟩ ≠ none := by rw [hc1]; simp
      gi_wp2_with (first | (refine ⟨trivial, ?_⟩; gi_at_call 20; refine (callsIn_wide.2 (tick_Times.calls _ _ t1 t2 _ HT3.out)).mono ?_; rintro e w3 ⟨rfl, hb3⟩; have hc1' := (hb3.cell (p := ⟨w1.heap.size, 0, none⟩) (pos_of hsome)).trans hc1) | (refine ⟨trivial, ?_⟩; gi_at_call 19; refine (callsIn_wide.2 (tick_Add.calls _ _ r1 r2 _ HA3.out)).mono ?_; rintro e w4 ⟨rfl, hb4⟩))
      all_goals
        have hDl : D < W.heap.size := (Array.getElem?_eq_some_iff.1 hKd).1
        have hKd4 : w4.heap[D]? = some (.deferred (some [])) := (hb4.block D (Nat.lt_of_lt_of_le hDl hb3.size)).trans ((hb3.block D hDl).trans hKd)
        have hB4 : Below w.heap.size w w4 := hB.trans ((hb3.mono hB.size).trans (hb4.mono (Nat.le_trans hB.size hb3.size)))
        refine ⟨by simp, .inl ⟨_, _, rfl, run_takeDeferred hKd4, ?_⟩⟩
        refine ⟨.tuple #[.int .i64 r1, .int .i64 r2], ?_, rfl, hB4.trans (belowK_b (w := w) (Nat.le_refl _) _ D _ _ (by omega) hKd4 rfl rfl)⟩
        simp [results, Try.f43, go_sem]
  · rename_i _ Kc HKc
    obtain ⟨W0, hW0⟩ : ∃ W0, (((w1.alloc (.cells #[.int .i64 n] 3)).alloc (.cells #[.int .i64 0] 3)).alloc (.cells #[.int .i64 b0, .int .i64 b1, .int .i64 b2] 23)).drew = W0 := ⟨_, rfl⟩
    have hB0 : Below w.heap.size w W0 := by rw [← hW0]; exact (((qB.alloc (by omega) _).alloc (by simp <;> omega) _).alloc (by simp <;> omega) _).drew
    have hAll : Below w1.heap.size w1 W0 := by rw [← hW0]; exact ((((Below.refl _ w1).alloc (Nat.le_refl _) _).alloc (by simp) _).alloc (by simp <;> omega) _).drew
    have hh : W0.heap[w1.heap.size + 1 + 1]? = some (.cells #[.int .i64 b0, .int .i64 b1, .int .i64 b2] 23 (0, 0)) := by
      rw [← hW0]
      have := World.alloc_heap_new ((w1.alloc (.cells #[.int .i64 n] 3)).alloc (.cells #[.int .i64 0] 3)) (.cells #[.int .i64 b0, .int .i64 b1, .int .i64 b2] 23)
      simp only [World.size_alloc] at this
      exact this
    have hsz : W0.heap.size = w1.heap.size + 1 + 1 + 1 := by rw [← hW0]; simp
    have p1 : W0.cell? ⟨w.heap.size, 1, none⟩ = some (.int .i64 b1) := (hAll.cell (p := ⟨w.heap.size, 1, none⟩) qs3).trans q1
    have pn : W0.cell? ⟨w.heap.size + 1, 0, none⟩ = some (.int .i64 n) := (hAll.cell (p := ⟨w.heap.size + 1, 0, none⟩) qs).trans qn
    have p6 : W0.cell? ⟨w1.heap.size + 1, 0, none⟩ = some (.int .i64 (wrap64 (sumP b0 []))) := by rw [← hW0]; simp [go_sem, sumP, wrap64]
    have p7 : W0.cell? ⟨w1.heap.size, 0, none⟩ = some (.int .i64 (wrap64 (n - ([] : List Nat).length))) := by
      have e : wrap64 (n - ([] : List Nat).length) = n := by unfold wrap64; simp; omega
      rw [← hW0, e]; simp [go_sem]
    have f6 : W0.frozen? ⟨w1.heap.size + 1, 0, none⟩ = false := by rw [← hW0]; simp [go_sem]
    have f7 : W0.frozen? ⟨w1.heap.size, 0, none⟩ = false := by rw [← hW0]; simp [go_sem]
    have hsz0 : w1.heap.size + 1 < W0.heap.size := by omega
    rw [hW0]
    clear hW0 hAll q0 q1 q2 qn
    refine wpIn_rangeFunc_ownF rfl (by omega) (gf := 71) (lb := #[.pointer (some ⟨w1.heap.size + 1 + 1, 0, none⟩)]) rfl trivial (enters_of Try.func71 (by kernel_rfl) rfl)
      (steps_stopsB Fence.wide 5 trivial rfl (by omega) (w1.heap.size + 1 + 1) b0 b1 b2 K HK.out W0 (by omega) hh) keepB_t (keepB_b (by omega)) (Below.refl _ _) (fun _ => rfl)
      (fun pre W => ((∀ y ∈ pre, (y : Int) ≠ n) ∧ W.cell? ⟨w.heap.size, 1, none⟩ = some (.int .i64 b1) ∧ W.cell? ⟨w.heap.size + 1, 0, none⟩ = some (.int .i64 n) ∧ W.cell? ⟨w1.heap.size + 1, 0, none⟩ = some (.int .i64 (wrap64 (sumP b0 pre))) ∧ W.cell? ⟨w1.heap.size, 0, none⟩ = some (.int .i64 (wrap64 (n - pre.length))) ∧ W.frozen? ⟨w1.heap.size + 1, 0, none⟩ = false ∧ W.frozen? ⟨w1.heap.size, 0, none⟩ = false) ∧ Below w.heap.size w W)
      (fun c pre W => (c = .exit 0 ∧ (∃ (p : List Nat) (i : Nat), pre = p ++ [i] ∧ (i : Int) = n ∧ W.cell? ⟨w1.heap.size + 1, 0, none⟩ = some (.int .i64 (wrap64 (sumP b0 p))) ∧ W.cell? ⟨w1.heap.size, 0, none⟩ = some (.int .i64 (wrap64 (n - p.length)))) ∧ W.cell? ⟨w.heap.size, 1, none⟩ = some (.int .i64 b1)) ∧ Below w.heap.size w W)
      (OwnFrom.and (Own.from (fun s A B row hs hg hr => ⟨hs.1, Go.cell_kept hs.2.1 hg hr, Go.cell_kept hs.2.2.1 hg hr, Go.cell_kept hs.2.2.2.1 hg hr, Go.cell_kept hs.2.2.2.2.1 hg hr, (Go.frozen_kept hs.2.2.2.1 hg hr).trans hs.2.2.2.2.2.1, (Go.frozen_kept hs.2.2.2.2.1 hg hr).trans hs.2.2.2.2.2.2⟩) _) (ownFrom_below (Nat.le_refl _) (by omega)))
      (fun c => OwnFrom.and (Own.from (fun s A B row hs hg hr => ⟨hs.1, (by obtain ⟨p, i, e1, e2, e3, e4⟩ := hs.2.1; exact ⟨p, i, e1, e2, Go.cell_kept e3 hg hr, Go.cell_kept e4 hg hr⟩), Go.cell_kept hs.2.2 hg hr⟩) _) (ownFrom_below (Nat.le_refl _) (by omega)))
      ⟨⟨by simp, p1, pn, p6, p7, f6, f7⟩, hB0⟩
      (fun x => { tmps := #[.agg #[.int .i64 b0, .int .i64 b1, .int .i64 b2], .int .i64 n, .pointer (some ⟨w.heap.size, 0, none⟩), .pointer (some ⟨w.heap.size + 1, 0, none⟩), .int .i64 0, .int .i64 0, .pointer (some ⟨w1.heap.size + 1, 0, none⟩), .pointer (some ⟨w1.heap.size, 0, none⟩), .int .i64 x, .int .i64 (b0 * 2 ^ x), undef, undef, .agg #[.int .i64 b0, .int .i64 b1, .int .i64 b2], .bool true, .bool false, .bool false, .int .i64 n, .bool (decide (n < 0)), .bool (decide (n < 0)), .int .i64 n, .agg #[.int .i64 b0, .int .i64 b1, .int .i64 b2], .func (.func 71) #[] #[.pointer (some ⟨w1.heap.size + 1 + 1, 0, none⟩)], .int .i64 x, .int .i64 (b0 * 2 ^ x), undef, undef, undef, undef, undef, undef, undef, undef, undef, undef, undef, undef, undef, undef, undef, undef, undef, undef, undef, undef, undef], defers := [] }) ?assign ?body ?done ?stop
    case assign =>
      intro l x W K hK
      gi_wp2
      exact hK
    case body =>
      rintro l pre x W ⟨⟨hp, c1, cn, r1, r2, f1, f2⟩, hB⟩ _
      obtain ⟨z, hz⟩ : ∃ z, b0 * 2 ^ x = z := ⟨_, rfl⟩
      by_cases hx : (x : Int) = n
      · have hxb : ((x : Int) == n) = true := by simp [hx]
        have HX := Aside0.mk hx
        have HZ := Aside0.mk hz
        rw [hz]
        clear hx hz
        gi_wp2
        exact ⟨KeepsOthers.refl _, ⟨rfl, ⟨pre, x, rfl, HX.out, r1, r2⟩, c1⟩, hB⟩
      · have hxb : ((x : Int) == n) = false := by simp [hx]
        have HX := Aside0.mk hx
        have HS := Aside0.mk (sumP_snoc b0 pre x)
        have HL := Aside0.mk (left_snoc n pre x)
        rw [hz] at HS ⊢
        clear hx hz
        gi_wp2
        have g6 : ((W.setCell ⟨w1.heap.size + 1, 0, none⟩ (.int .i64 (wrap64 (wrap64 (sumP b0 pre) + z)))).setCell ⟨w1.heap.size, 0, none⟩ (.int .i64 (wrap64 (wrap64 (n - pre.length) - 1)))).cell? ⟨w1.heap.size + 1, 0, none⟩ = some (.int .i64 (wrap64 (wrap64 (sumP b0 pre) + z))) := by
          rw [World.cell?_setCell_other _ _ _ _ (by simp)]
          exact World.cell?_setCell_same' _ _ _ (by rw [r1]; rfl)
        have g7 : ((W.setCell ⟨w1.heap.size + 1, 0, none⟩ (.int .i64 (wrap64 (wrap64 (sumP b0 pre) + z)))).setCell ⟨w1.heap.size, 0, none⟩ (.int .i64 (wrap64 (wrap64 (n - pre.length) - 1)))).cell? ⟨w1.heap.size, 0, none⟩ = some (.int .i64 (wrap64 (wrap64 (n - pre.length) - 1))) :=
          World.cell?_setCell_same' _ _ _ (by rw [isSome_setCell, r2]; rfl)
        have g1 : ((W.setCell ⟨w1.heap.size + 1, 0, none⟩ (.int .i64 (wrap64 (wrap64 (sumP b0 pre) + z)))).setCell ⟨w1.heap.size, 0, none⟩ (.int .i64 (wrap64 (wrap64 (n - pre.length) - 1)))).cell? ⟨w.heap.size, 1, none⟩ = some (.int .i64 b1) := by
          rw [World.cell?_setCell_other _ _ _ _ (by simp <;> omega), World.cell?_setCell_other _ _ _ _ (by simp <;> omega)]; exact c1
        have gn : ((W.setCell ⟨w1.heap.size + 1, 0, none⟩ (.int .i64 (wrap64 (wrap64 (sumP b0 pre) + z)))).setCell ⟨w1.heap.size, 0, none⟩ (.int .i64 (wrap64 (wrap64 (n - pre.length) - 1)))).cell? ⟨w.heap.size + 1, 0, none⟩ = some (.int .i64 n) := by
          rw [World.cell?_setCell_other _ _ _ _ (by simp <;> omega), World.cell?_setCell_other _ _ _ _ (by simp <;> omega)]; exact cn
        have gf6 : ((W.setCell ⟨w1.heap.size + 1, 0, none⟩ (.int .i64 (wrap64 (wrap64 (sumP b0 pre) + z)))).setCell ⟨w1.heap.size, 0, none⟩ (.int .i64 (wrap64 (wrap64 (n - pre.length) - 1)))).frozen? ⟨w1.heap.size + 1, 0, none⟩ = false := by simp [go_sem, f1]
        have gf7 : ((W.setCell ⟨w1.heap.size + 1, 0, none⟩ (.int .i64 (wrap64 (wrap64 (sumP b0 pre) + z)))).setCell ⟨w1.heap.size, 0, none⟩ (.int .i64 (wrap64 (wrap64 (n - pre.length) - 1)))).frozen? ⟨w1.heap.size, 0, none⟩ = false := by simp [go_sem, f2]
        rw [HS.out] at g6 g7 g1 gn gf6 gf7
        rw [HL.out] at g6 g7 g1 gn gf6 gf7
        have gB := (((hB.setCell (p := ⟨w1.heap.size + 1, 0, none⟩) (by simp <;> omega) (.int .i64 (wrap64 (wrap64 (sumP b0 pre) + z)))).setCell (p := ⟨w1.heap.size, 0, none⟩) (by simp <;> omega) (.int .i64 (wrap64 (wrap64 (n - pre.length) - 1)))).drew)
        have gK : KeepB (w1.heap.size + 1 + 1) W ((W.setCell ⟨w1.heap.size + 1, 0, none⟩ (.int .i64 (wrap64 (wrap64 (sumP b0 pre) + z)))).setCell ⟨w1.heap.size, 0, none⟩ (.int .i64 (wrap64 (wrap64 (n - pre.length) - 1)))).drew := by
          show ((W.setCell ⟨w1.heap.size + 1, 0, none⟩ (.int .i64 (wrap64 (wrap64 (sumP b0 pre) + z)))).setCell ⟨w1.heap.size, 0, none⟩ (.int .i64 (wrap64 (wrap64 (n - pre.length) - 1)))).heap[w1.heap.size + 1 + 1]? = W.heap[w1.heap.size + 1 + 1]?
          rw [Below.heap_setCell _ _ _ _ (by simp <;> omega), Below.heap_setCell _ _ _ _ (by simp <;> omega)]
        have gO : KeepsOthers W ((W.setCell ⟨w1.heap.size + 1, 0, none⟩ (.int .i64 (wrap64 (wrap64 (sumP b0 pre) + z)))).setCell ⟨w1.heap.size, 0, none⟩ (.int .i64 (wrap64 (wrap64 (n - pre.length) - 1)))).drew := ((KeepsOthers.setCell _ _ _).trans (KeepsOthers.setCell _ _ _)).trans (KeepsOthers.drew _)
        rw [HS.out, HL.out] at gB gK gO
        have hne : ∀ y ∈ pre ++ [x], (y : Int) ≠ n := fun y hy => (List.mem_append.1 hy).elim (hp y) (fun e => by simp at e; subst e; exact HX.out)
        have hfin := (⟨gO, gK, ⟨hne, g1, gn, g6, g7, gf6, gf7⟩, gB⟩ : ownPostK (KeepB (w1.heap.size + 1 + 1)) (fun (pre : List Nat) W => ((∀ y ∈ pre, (y : Int) ≠ n) ∧ W.cell? ⟨w.heap.size, 1, none⟩ = some (.int .i64 b1) ∧ W.cell? ⟨w.heap.size + 1, 0, none⟩ = some (.int .i64 n) ∧ W.cell? ⟨w1.heap.size + 1, 0, none⟩ = some (.int .i64 (wrap64 (sumP b0 pre))) ∧ W.cell? ⟨w1.heap.size, 0, none⟩ = some (.int .i64 (wrap64 (n - pre.length))) ∧ W.frozen? ⟨w1.heap.size + 1, 0, none⟩ = false ∧ W.frozen? ⟨w1.heap.size, 0, none⟩ = false) ∧ Below w.heap.size w W) (fun _ _ _ => False) (pre ++ [x]) W .normal { tmps := #[], defers := [] } ((W.setCell ⟨w1.heap.size + 1, 0, none⟩ (.int .i64 (wrap64 (sumP b0 (pre ++ [x]))))).setCell ⟨w1.heap.size, 0, none⟩ (.int .i64 (wrap64 (n - (pre ++ [x]).length)))).drew)
        gi_region
        all_goals
          simp only [i64_w, HS.out, HL.out]
          exact hfin
    case done =>
      rintro D ys W hD rfl ⟨⟨hne, c1, cn, r1', r2', f1, f2⟩, hB⟩ hKd
      have hge : (K : Int) ≤ n := by
        rcases Int.lt_or_le n K with hlt | hge
        · exact absurd (show ((n.toNat : Nat) : Int) = n by omega) (hne n.toNat (by rw [List.mem_range]; omega))
        · exact hge
      have hm : mOf K n = K := by unfold mOf; rw [if_neg (by omega)]
      have hs := sum_bd HK.out K (Nat.le_refl _)
      rw [sumP_range, w64' hs] at r1'
      rw [List.length_range, wrap_id (by omega) (by omega)] at r2'
      have HT2 := HT.out
      have HA2 := HA.out
      rw [hm] at HT2 HA2
      have HT3 := Aside0.mk HT2
      have HA3 := Aside0.mk HA2
      clear HT2 HA2 hne hm hs hge
      have hsome : W.cell? ⟨w1.heap.size + 1, 0, none⟩ ≠ none := by rw [r1']; simp
      refine HKc _ _ ?_
      obtain ⟨z, hz⟩ : ∃ z, b0 * (2 ^ K - 1) = z := ⟨_, rfl⟩
      rw [hz] at r1' HA3
      obtain ⟨y, hy⟩ : ∃ y, n - (K : Int) = y := ⟨_, rfl⟩
      rw [hy] at r2' HT3
      clear hz hy
      gi_wp2_with (first | (refine ⟨trivial, ?_⟩; gi_at_call 20; refine (callsIn_wide.2 (tick_Times.calls _ _ t1 t2 _ HT3.out)).mono ?_; rintro e w3 ⟨rfl, hb3⟩; have r1'' := (hb3.cell (p := ⟨w1.heap.size + 1, 0, none⟩) (pos_of hsome)).trans r1') | (refine ⟨trivial, ?_⟩; gi_at_call 19; refine (callsIn_wide.2 (tick_Add.calls _ _ r1 r2 _ HA3.out)).mono ?_; rintro e w4 ⟨rfl, hb4⟩))
      all_goals
        have hDl : D < W.heap.size := (Array.getElem?_eq_some_iff.1 hKd).1
        have hKd4 : w4.heap[D]? = some (.deferred (some [])) := (hb4.block D (Nat.lt_of_lt_of_le hDl hb3.size)).trans ((hb3.block D hDl).trans hKd)
        have hB4 : Below w.heap.size w w4 := hB.trans ((hb3.mono hB.size).trans (hb4.mono (Nat.le_trans hB.size hb3.size)))
        refine ⟨by simp, .inl ⟨_, _, rfl, run_takeDeferred hKd4, ?_⟩⟩
        refine ⟨.tuple #[.int .i64 r1, .int .i64 r2], ?_, rfl, hB4.trans (belowK_b (w := w) (Nat.le_refl _) _ D _ _ (by omega) hKd4 rfl rfl)⟩
        simp [results, Try.f43, go_sem]
    case stop =>
      rintro D c pre W hD ⟨m, hm1, hm2, hpre⟩ ⟨⟨rfl, ⟨p, i, hpi, hin, hc1, hc2⟩, c1⟩, hB⟩ hKd
      have him : i = m - 1 ∧ p = List.range (m - 1) := by
        have : List.range m = List.range (m - 1) ++ [m - 1] := by rw [← List.range_succ]; congr 1; omega
        rw [hpi, this] at hpre
        have h2 := List.append_inj_right' hpre rfl
        exact ⟨by simpa using h2, List.append_inj_left' hpre rfl⟩
      obtain ⟨hi, hp⟩ := him
      subst hp
      have hm : mOf K n = m - 1 := by unfold mOf; rw [if_pos (by omega)]; omega
      have hs := sum_bd HK.out (m - 1) (by omega)
      rw [sumP_range, w64' hs] at hc1
      rw [List.length_range, wrap_id (by omega) (by omega)] at hc2
      have HT2 := HT.out
      have HA2 := HA.out
      rw [hm] at HT2 HA2
      have HT3 := Aside0.mk HT2
      have HA3 := Aside0.mk HA2
      clear HT2 HA2 hm hs hi hpi hpre hin
      obtain ⟨z, hz⟩ : ∃ z, b0 * (2 ^ (m - 1) - 1) = z := ⟨_, rfl⟩
      rw [hz] at hc1 HA3
      obtain ⟨y, hy⟩ : ∃ y, n - ((m - 1 : Nat) : Int) = y := ⟨_, rfl⟩
      rw [hy] at hc2 HT3
      clear hz hy
      have hsome : W.cell? ⟨w1.heap.size + 1, 0, none⟩ ≠ none := by rw [hc1]; simp
      gi_wp2_with (first | (refine ⟨trivial, ?_⟩; gi_at_call 20; refine (callsIn_wide.2 (tick_Times.calls _ _ t1 t2 _ HT3.out)).mono ?_; rintro e w3 ⟨rfl, hb3⟩; have hc1' := (hb3.cell (p := ⟨w1.heap.size + 1, 0, none⟩) (pos_of hsome)).trans hc1) | (refine ⟨trivial, ?_⟩; gi_at_call 19; refine (callsIn_wide.2 (tick_Add.calls _ _ r1 r2 _ HA3.out)).mono ?_; rintro e w4 ⟨rfl, hb4⟩))
      all_goals
        have hDl : D < W.heap.size := (Array.getElem?_eq_some_iff.1 hKd).1
        have hKd4 : w4.heap[D]? = some (.deferred (some [])) := (hb4.block D (Nat.lt_of_lt_of_le hDl hb3.size)).trans ((hb3.block D hDl).trans hKd)
        have hB4 : Below w.heap.size w w4 := hB.trans ((hb3.mono hB.size).trans (hb4.mono (Nat.le_trans hB.size hb3.size)))
        refine ⟨by simp, .inl ⟨_, _, rfl, run_takeDeferred hKd4, ?_⟩⟩
        refine ⟨.tuple #[.int .i64 r1, .int .i64 r2], ?_, rfl, hB4.trans (belowK_b (w := w) (Nat.le_refl _) _ D _ _ (by omega) hKd4 rfl rfl)⟩
        simp [results, Try.f43, go_sem]

set_option maxHeartbeats 2000000 in
set_option maxRecDepth 100000 in
theorem all_no (b0 b1 b2 n : Int) (w : World) (h : ¬ (BackMay b0 b1 b2 ∧ 0 ≤ n)) :
    Calls Try.prog 43 #[.agg #[.int .i64 b0, .int .i64 b1, .int .i64 b2], .int .i64 n] w fun e w' => e = .returned (.tuple #[.int .i64 0, .int .i64 1]) ∧ Below w.heap.size w w' := by
  have H := Aside0.mk h
  clear h
  by_cases c : 0 ≤ n
  all_goals by_cases c2 : b2 ≤ 1048576
  all_goals go_enter Try.func43, Try.ntmps43
  all_goals go_wp2
  all_goals first
    | (exfalso; exact H.out (by unfold BackMay; omega))
    | exact bodyPost_ret (v := .tuple #[.int .i64 0, .int .i64 1]) (by simp [results, Try.results43, go_sem]) rfl ⟨rfl, (by repeat (first | exact Below.refl _ _ | apply below_alloc | apply below_drew | apply pw_below_drewN | refine Below.setCell ?_ (by simp; omega) _))⟩
def backoff_All.f (b0 b1 b2 n : Int) : Option (Int × Int) :=
  if n ≤ 9223372036854775807 then (if BackMay b0 b1 b2 ∧ 0 ≤ n then (tick_Times.f (mn (n - mOf (kOf b0 b1) n) 1099511627776) b1).bind fun t => tick_Add.f (b0 * (2 ^ mOf (kOf b0 b1) n - 1)) t.1 else some (0, 1)) else none
theorem backoff_All.calls (a0_0 a0_1 a0_2 a1 r1 r2 : Int) (w : World) (h : backoff_All.f a0_0 a0_1 a0_2 a1 = some (r1, r2)) :
    Calls Try.prog 43 #[.agg #[.int .i64 a0_0, .int .i64 a0_1, .int .i64 a0_2], .int .i64 a1] w fun e w' => e = .returned (.tuple #[.int .i64 r1, .int .i64 r2]) ∧ Below w.heap.size w w' := by
  unfold backoff_All.f at h
  by_cases hb : a1 ≤ 9223372036854775807
  · rw [if_pos hb] at h
    by_cases hm : BackMay a0_0 a0_1 a0_2 ∧ 0 ≤ a1
    · rw [if_pos hm] at h
      obtain ⟨⟨t1, t2⟩, h1, h2⟩ := Option.bind_eq_some_iff.1 h
      exact all_yes _ _ _ _ w hm.1 hm.2 hb _ (kOf_doubles hm.1) t1 t2 r1 r2 h1 h2
    · rw [if_neg hm] at h
      simp only [Option.some.injEq, Prod.mk.injEq] at h
      obtain ⟨rfl, rfl⟩ := h
      exact all_no _ _ _ _ w hm
  · rw [if_neg hb] at h
    cases h


end Go.Proofs.Ytkkopknlhijgiaa.G
