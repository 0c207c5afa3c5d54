/- Contracts of functions of the given program, and what they come to, for any arguments. No condition beyond each theorem's own premises. -/
import Derived.Test.YtkphinfijppkeaaXDutyEndsM0
import Derived.Test.YtkphinfijppkeaaXDutyEndsM2
import Derived.Test.YtkphinfijppkeaaXDutyEndsM6
import Derived.Test.YtkphinfijppkeaaXDutyEndsM5
import Derived.Test.YtkphinfijppkeaaXDutyEndsM4
namespace Go.Proofs.Ytkphinfijppkeaa.G
open Go.RowKit Go.Proofs.YtkphinfijppkeaaW.PrintWords Go.Proofs.YtkphinfijppkeaaW.PrintLast Go.Proofs.YtkphinfijppkeaaW.PrintMore
attribute [local go_sem] max2_int min2_int max_two min_two max_three min_three max_four min_four   -- for this text's walks alone
set_option linter.unusedVariables false
set_option linter.unusedSimpArgs false
attribute [local go_sem] Oper.semAt_some
open Go.Shelf
def stepI (b0 b1 n : Int) : Int := if b0 * 2 ^ n.toNat < b1 then b0 * 2 ^ n.toNat else b1
theorem step_facts (w w1 : World) (b0 b1 b2 n : Int)
    (hb : Below ((((w.alloc (.cells #[.int .i64 b0, .int .i64 b1, .int .i64 b2] 74)).alloc (.cells #[.int .i64 n] 3)).alloc (.cells #[.int .i64 0] 3)).alloc (.cells #[.int .i64 0] 30)).heap.size ((((w.alloc (.cells #[.int .i64 b0, .int .i64 b1, .int .i64 b2] 74)).alloc (.cells #[.int .i64 n] 3)).alloc (.cells #[.int .i64 0] 3)).alloc (.cells #[.int .i64 0] 30)) w1) :
    w1.cell? ⟨w.heap.size, 0, none⟩ = some (.int .i64 b0) ∧ w1.cell? ⟨w.heap.size, 1, none⟩ = some (.int .i64 b1) ∧ w1.cell? ⟨w.heap.size, 2, none⟩ = some (.int .i64 b2) ∧ w1.cell? ⟨w.heap.size + 1, 0, none⟩ = some (.int .i64 n) ∧
    w1.cell? ⟨w.heap.size + 1 + 1, 0, none⟩ = some (.int .i64 0) ∧ w1.cell? ⟨w.heap.size + 1 + 1 + 1, 0, none⟩ = some (.int .i64 0) ∧ w1.frozen? ⟨w.heap.size + 1 + 1, 0, none⟩ = false ∧ w1.frozen? ⟨w.heap.size + 1 + 1 + 1, 0, none⟩ = false ∧
    w.heap.size + 1 + 1 + 1 < w1.heap.size ∧ Below w.heap.size w w1 := by
  have hs := hb.size
  simp only [World.size_alloc] at hs
  refine ⟨?_, ?_, ?_, ?_, ?_, ?_, ?_, ?_, by omega, ?_⟩
  · exact (hb.cell (by simp [World.size_alloc]; try omega)).trans (by simp [go_sem])
  · exact (hb.cell (by simp [World.size_alloc]; try omega)).trans (by simp [go_sem])
  · exact (hb.cell (by simp [World.size_alloc]; try omega)).trans (by simp [go_sem])
  · exact (hb.cell (by simp [World.size_alloc]; try omega)).trans (by simp [go_sem])
  · exact (hb.cell (by simp [World.size_alloc]; try omega)).trans (by simp [go_sem])
  · exact (hb.cell (by simp [World.size_alloc]; try omega)).trans (by simp [go_sem])
  · exact (hb.frozen (by simp [World.size_alloc]; try omega)).trans (by simp [go_sem])
  · exact (hb.frozen (by simp [World.size_alloc]; try omega)).trans (by simp [go_sem])
  · exact ((((Below.refl _ w).alloc (Nat.le_refl _) _).alloc (by simp) _).alloc (by simp; omega) _).alloc (by simp; omega) _ |>.trans (hb.mono (by simp [World.size_alloc]; omega))
set_option maxHeartbeats 2000000 in
set_option maxRecDepth 100000 in
theorem step_yes (b0 b1 b2 n : Int) (w : World) (h : BackMay b0 b1 b2) (hn : 0 ≤ n) (K : Nat) (hK : Doubles b0 b1 K) :
    Calls Try.prog 47 #[.agg #[.int .i64 b0, .int .i64 b1, .int .i64 b2], .int .i64 n] w fun e w' => e = .returned (.tuple #[.int .i64 (stepI b0 b1 n), .int .i64 0]) ∧ Below w.heap.size w w' := by
  obtain ⟨⟨h1, h2⟩, ⟨h3, h4⟩, h5, h6⟩ := h
  have HK := Aside0.mk hK
  clear hK
  have hmf : ∀ (fn : Fn) (first cap : Array Value) (w : World), (Instr.makeFunc fn first cap).run Try.prog w = .ok (.func fn first cap) w := fun _ _ _ _ => rfl
  have HRt := Aside0.mk (show backoff_Right.f b0 b1 b2 = some true from by
    unfold backoff_Right.f backoff_in.f
    rw [if_pos (by omega), if_pos (by omega), if_pos (by omega)]
    simp [h2, h4, h6])
  refine (callsIn_wide (n := 6)).1 ?_
  refine callsIn_of_wp_marks Try.func47 rfl trivial ?_ rfl
  simp only [Try.ntmps47, List.size_toArray, List.length_cons, List.length_nil, Nat.reduceAdd, Nat.reduceSub, Array.replicate_succ, Array.replicate_zero, List.push_toArray, List.append_toArray, List.nil_append, List.cons_append]
  gi_wp2_with (first | (refine ⟨trivial, ?_⟩; gi_at_call 80; refine (callsIn_wide.2 (backoff_Right.calls b0 b1 b2 true _ HRt.out)).mono ?_; rintro e w1 ⟨rfl, hb1⟩; obtain ⟨q0, q1, q2, qn, qr1, qr2, qf1, qf2, qs, qB⟩ := step_facts w w1 b0 b1 b2 n hb1; clear hb1; clear HRt) | (refine ⟨trivial, ?_⟩; gi_at_call 81; refine (callsIn_wide.2 (steps_calls b0 b1 b2 _)).mono ?_; rintro e w2 ⟨rfl, rfl⟩))
  have hB0 : Below w.heap.size w (w1.alloc (.cells #[.int .i64 b0, .int .i64 b1, .int .i64 b2] 74)) := qB.alloc (by omega) _
  have hh := World.alloc_heap_new w1 (.cells #[.int .i64 b0, .int .i64 b1, .int .i64 b2] 74 (0, 0))
  obtain ⟨W0, hW0⟩ : ∃ W0, w1.alloc (.cells #[.int .i64 b0, .int .i64 b1, .int .i64 b2] 74) = W0 := ⟨_, rfl⟩
  have hsz : W0.heap.size = w1.heap.size + 1 := by rw [← hW0]; exact World.size_alloc _ _
  have p1 : W0.cell? ⟨w.heap.size, 1, none⟩ = some (.int .i64 b1) := by rw [← hW0]; exact Go.cell_kept q1 (World.grownBy_alloc w1 _ none) (fun r e => by cases e)
  have pn : W0.cell? ⟨w.heap.size + 1, 0, none⟩ = some (.int .i64 n) := by rw [← hW0]; exact Go.cell_kept qn (World.grownBy_alloc w1 _ none) (fun r e => by cases e)
  have pr1 : W0.cell? ⟨w.heap.size + 1 + 1, 0, none⟩ = some (.int .i64 0) := by rw [← hW0]; exact Go.cell_kept qr1 (World.grownBy_alloc w1 _ none) (fun r e => by cases e)
  have pr2 : W0.cell? ⟨w.heap.size + 1 + 1 + 1, 0, none⟩ = some (.int .i64 0) := by rw [← hW0]; exact Go.cell_kept qr2 (World.grownBy_alloc w1 _ none) (fun r e => by cases e)
  have pf1 : W0.frozen? ⟨w.heap.size + 1 + 1, 0, none⟩ = false := by rw [← hW0]; exact (Go.frozen_kept qr1 (World.grownBy_alloc w1 _ none) (fun r e => by cases e)).trans qf1
  have pf2 : W0.frozen? ⟨w.heap.size + 1 + 1 + 1, 0, none⟩ = false := by rw [← hW0]; exact (Go.frozen_kept qr2 (World.grownBy_alloc w1 _ none) (fun r e => by cases e)).trans qf2
  rw [hW0] at hB0 hh ⊢
  clear hW0 q0 q1 q2 qn qr1 qr2 qf1 qf2 hmf
  refine wpIn_rangeFunc_ownF rfl (by omega) (gf := 118) (lb := #[.pointer (some ⟨w1.heap.size, 0, none⟩)]) rfl trivial (enters_of Try.func118 (by kernel_rfl) rfl)
    (steps_stops Fence.wide 5 trivial rfl (by omega) w1.heap.size W0.heap.size b0 b1 b2 K HK.out W0 (Nat.le_refl _) (by omega) hh) belowK_t (belowK_b (Nat.le_refl _)) (Below.refl _ _) (fun _ => rfl)
    (fun pre W => ((∀ y ∈ pre, (y : Int) ≠ n) ∧ W.cell? ⟨w.heap.size, 1, none⟩ = some (.int .i64 b1) ∧ W.cell? ⟨w.heap.size + 1, 0, none⟩ = some (.int .i64 n) ∧ W.cell? ⟨w.heap.size + 1 + 1, 0, none⟩ = some (.int .i64 0) ∧ W.cell? ⟨w.heap.size + 1 + 1 + 1, 0, none⟩ = some (.int .i64 0) ∧ W.frozen? ⟨w.heap.size + 1 + 1, 0, none⟩ = false ∧ W.frozen? ⟨w.heap.size + 1 + 1 + 1, 0, none⟩ = false) ∧ Below w.heap.size w W)
    (fun c pre W => (c = .ret ∧ (∃ (p : List Nat) (i : Nat), pre = p ++ [i] ∧ (i : Int) = n ∧ W.cell? ⟨w.heap.size + 1 + 1, 0, none⟩ = some (.int .i64 (b0 * 2 ^ i))) ∧ W.cell? ⟨w.heap.size + 1 + 1 + 1, 0, none⟩ = some (.int .i64 0)) ∧ Below w.heap.size w W)
    (OwnFrom.and (Own.from (fun s A B row hs hg hr => ⟨hs.1, Go.cell_kept hs.2.1 hg hr, Go.cell_kept hs.2.2.1 hg hr, Go.cell_kept hs.2.2.2.1 hg hr, Go.cell_kept hs.2.2.2.2.1 hg hr, (Go.frozen_kept hs.2.2.2.1 hg hr).trans hs.2.2.2.2.2.1, (Go.frozen_kept hs.2.2.2.2.1 hg hr).trans hs.2.2.2.2.2.2⟩) _) (ownFrom_below (Nat.le_refl _) (by omega)))
    (fun c => OwnFrom.and (Own.from (fun s A B row hs hg hr => ⟨hs.1, (by obtain ⟨p, i, e1, e2, e3⟩ := hs.2.1; exact ⟨p, i, e1, e2, Go.cell_kept e3 hg hr⟩), Go.cell_kept hs.2.2 hg hr⟩) _) (ownFrom_below (Nat.le_refl _) (by omega)))
    ⟨⟨by simp, p1, pn, pr1, pr2, pf1, pf2⟩, hB0⟩
    (fun x => { tmps := #[.agg #[.int .i64 b0, .int .i64 b1, .int .i64 b2], .int .i64 n, .pointer (some ⟨w.heap.size, 0, none⟩), .pointer (some ⟨w.heap.size + 1, 0, none⟩), .pointer (some ⟨w.heap.size + 1 + 1, 0, none⟩), .pointer (some ⟨w.heap.size + 1 + 1 + 1, 0, none⟩), .int .i64 x, .int .i64 (b0 * 2 ^ x), .agg #[.int .i64 b0, .int .i64 b1, .int .i64 b2], .bool true, .bool false, .bool false, .int .i64 n, .bool (decide (n < 0)), .bool (decide (n < 0)), .agg #[.int .i64 b0, .int .i64 b1, .int .i64 b2], .func (.func 118) #[] #[.pointer (some ⟨w1.heap.size, 0, none⟩)], .int .i64 x, .int .i64 (b0 * 2 ^ x), undef, undef, undef, undef, undef, undef], defers := [] }) ?assign ?body ?done ?stop
  case assign =>
    intro l x W K hK
    gi_wp2
    exact hK
  case body =>
    rintro l pre x W ⟨⟨hp, c1, cn, r1, r2, f1, f2⟩, hB⟩ _
    obtain ⟨z, hz⟩ : ∃ z, b0 * 2 ^ x = z := ⟨_, rfl⟩
    by_cases hx : (x : Int) = n
    · have hxb : ((x : Int) == n) = true := by simp [hx]
      have HX := Aside0.mk hx
      have HZ := Aside0.mk hz
      rw [hz]
      clear hx hz
      gi_wp2
      refine ⟨(KeepsOthers.setCell _ _ _).trans (KeepsOthers.setCell _ _ _), ⟨rfl, ⟨pre, x, rfl, HX.out, ?_⟩, ?_⟩, (hB.setCell (p := ⟨w.heap.size + 1 + 1, 0, none⟩) (by simp; omega) _).setCell (p := ⟨w.heap.size + 1 + 1 + 1, 0, none⟩) (by simp; omega) _⟩
      · rw [HZ.out, World.cell?_setCell_other _ _ _ _ (by simp)]
        exact World.cell?_setCell_same' _ _ _ (by rw [r1]; rfl)
      · exact World.cell?_setCell_same' _ _ _ (by rw [isSome_setCell, r2]; rfl)
    · have hxb : ((x : Int) == n) = false := by simp [hx]
      have HX := Aside0.mk hx
      rw [hz]
      clear hx hz
      gi_wp2
      exact ⟨KeepsOthers.refl _, Below.refl _ _, ⟨fun y hy => (List.mem_append.1 hy).elim (hp y) (fun e => by simp at e; subst e; exact HX.out), c1, cn, r1, r2, f1, f2⟩, hB⟩
  case done =>
    rintro D ys W hD rfl ⟨⟨hne, c1, cn, r1, r2, f1, f2⟩, hB⟩ hKd
    have hge : (K : Int) ≤ n := by
      rcases Int.lt_or_le n K with hlt | hge
      · exact absurd (show ((n.toNat : Nat) : Int) = n by omega) (hne n.toNat (by rw [List.mem_range]; omega))
      · exact hge
    have hres : stepI b0 b1 n = b1 := by
      unfold stepI
      rw [if_neg (HK.out.no n.toNat (by omega))]
    have HR := Aside0.mk hres
    clear hres hne
    gi_wp2
    have hK1 := (KeepsOthers.setCell W ⟨w.heap.size + 1 + 1, 0, none⟩ (.int .i64 b1)).same D _ hKd rfl
    have hK2 := (KeepsOthers.setCell (W.setCell ⟨w.heap.size + 1 + 1, 0, none⟩ (.int .i64 b1)) ⟨w.heap.size + 1 + 1 + 1, 0, none⟩ (.int .i64 0)).same D _ hK1 rfl
    have hB2 := (hB.setCell (p := ⟨w.heap.size + 1 + 1, 0, none⟩) (by simp; omega) (.int .i64 b1)).setCell (p := ⟨w.heap.size + 1 + 1 + 1, 0, none⟩) (by simp; omega) (.int .i64 0)
    have d1 : ((W.setCell ⟨w.heap.size + 1 + 1, 0, none⟩ (.int .i64 b1)).setCell ⟨w.heap.size + 1 + 1 + 1, 0, none⟩ (.int .i64 0)).cell? ⟨w.heap.size + 1 + 1, 0, none⟩ = some (.int .i64 b1) := by
      rw [World.cell?_setCell_other _ _ _ _ (by simp)]
      exact World.cell?_setCell_same' _ _ _ (by rw [r1]; rfl)
    have d2 : ((W.setCell ⟨w.heap.size + 1 + 1, 0, none⟩ (.int .i64 b1)).setCell ⟨w.heap.size + 1 + 1 + 1, 0, none⟩ (.int .i64 0)).cell? ⟨w.heap.size + 1 + 1 + 1, 0, none⟩ = some (.int .i64 0) :=
      World.cell?_setCell_same' _ _ _ (by rw [isSome_setCell, r2]; rfl)
    have e1 := Go.cell_kept d1 (grownBy_putObj' _ D (.deferred none)) (fun r e => by cases e; exact ⟨_, hK2, rfl⟩)
    have e2 := Go.cell_kept d2 (grownBy_putObj' _ D (.deferred none)) (fun r e => by cases e; exact ⟨_, hK2, rfl⟩)
    refine ⟨by simp, .inl ⟨_, _, rfl, run_takeDeferred hK2, ?_⟩⟩
    refine ⟨.tuple #[.int .i64 b1, .int .i64 0], ?_, by rw [HR.out], hB2.trans (belowK_b (w := w) (Nat.le_refl _) _ D _ _ (by omega) hK2 rfl rfl)⟩
    simp [results, Try.f47, go_sem, e1, e2]
  case stop =>
    rintro D c pre W hD ⟨m, hm1, hm2, hpre⟩ ⟨⟨rfl, ⟨p, i, hpi, hin, hc1⟩, hc2⟩, hB⟩ hKd
    have him : i = m - 1 := by
      have : List.range m = List.range (m - 1) ++ [m - 1] := by rw [← List.range_succ]; congr 1; omega
      rw [hpi, this] at hpre
      have := List.append_inj_right' hpre rfl
      simpa using this
    have hres : stepI b0 b1 n = b0 * 2 ^ i := by
      unfold stepI
      rw [show n.toNat = i by omega, if_pos (HK.out.2.2.2.1 i (by omega))]
    have e1 := Go.cell_kept hc1 (grownBy_putObj' _ D (.deferred none)) (fun r e => by cases e; exact ⟨_, hKd, rfl⟩)
    have e2 := Go.cell_kept hc2 (grownBy_putObj' _ D (.deferred none)) (fun r e => by cases e; exact ⟨_, hKd, rfl⟩)
    have HR := Aside0.mk hres
    clear hres him hpi hin
    gi_wp2
    refine ⟨by simp, .inl ⟨_, _, rfl, run_takeDeferred hKd, ?_⟩⟩
    refine ⟨.tuple #[.int .i64 (b0 * 2 ^ i), .int .i64 0], ?_, by rw [HR.out], hB.trans (belowK_b (w := w) (Nat.le_refl _) _ D _ _ (by omega) hKd rfl rfl)⟩
    simp [results, Try.f47, go_sem, e1, e2]
set_option maxHeartbeats 2000000 in
set_option maxRecDepth 100000 in
theorem step_no (b0 b1 b2 n : Int) (w : World) (h : ¬ (BackMay b0 b1 b2 ∧ 0 ≤ n)) :
    Calls Try.prog 47 #[.agg #[.int .i64 b0, .int .i64 b1, .int .i64 b2], .int .i64 n] w fun e w' => e = .returned (.tuple #[.int .i64 0, .int .i64 1]) ∧ Below w.heap.size w w' := by
  have H := Aside0.mk h
  clear h
  by_cases c : 0 ≤ n
  all_goals by_cases c2 : b2 ≤ 1048576
  all_goals go_enter Try.func47, Try.ntmps47
  all_goals go_wp2
  all_goals first
    | (exfalso; exact H.out (by unfold BackMay; omega))
    | exact bodyPost_ret (v := .tuple #[.int .i64 0, .int .i64 1]) (by simp [results, Try.results47, go_sem]) rfl ⟨rfl, (by repeat (first | exact Below.refl _ _ | apply below_alloc | apply below_drew | apply pw_below_drewN | refine Below.setCell ?_ (by simp; omega) _))⟩
def backoff_Step.f (b0 b1 b2 n : Int) : Option (Int × Int) := if BackMay b0 b1 b2 ∧ 0 ≤ n then some (stepI b0 b1 n, 0) else some (0, 1)
theorem backoff_Step.calls (a0_0 a0_1 a0_2 a1 r1 r2 : Int) (w : World) (h : backoff_Step.f a0_0 a0_1 a0_2 a1 = some (r1, r2)) :
    Calls Try.prog 47 #[.agg #[.int .i64 a0_0, .int .i64 a0_1, .int .i64 a0_2], .int .i64 a1] w fun e w' => e = .returned (.tuple #[.int .i64 r1, .int .i64 r2]) ∧ Below w.heap.size w w' := by
  unfold backoff_Step.f at h
  by_cases hm : BackMay a0_0 a0_1 a0_2 ∧ 0 ≤ a1
  · rw [if_pos hm] at h
    simp only [Option.some.injEq, Prod.mk.injEq] at h
    obtain ⟨rfl, rfl⟩ := h
    exact step_yes _ _ _ _ w hm.1 hm.2 _ (kOf_doubles hm.1)
  · rw [if_neg hm] at h
    simp only [Option.some.injEq, Prod.mk.injEq] at h
    obtain ⟨rfl, rfl⟩ := h
    exact step_no _ _ _ _ w hm
end Go.Proofs.Ytkphinfijppkeaa.G
namespace Go.Proofs.Ytkphinfijppkeaa.G
open Go.RowKit Go.Proofs.YtkphinfijppkeaaW.PrintWords Go.Proofs.YtkphinfijppkeaaW.PrintLast Go.Proofs.YtkphinfijppkeaaW.PrintMore
attribute [local go_sem] max2_int min2_int max_two min_two max_three min_three max_four min_four   -- for this text's walks alone
set_option linter.unusedVariables false
set_option linter.unusedSimpArgs false
theorem eqA92 (d : Nat) (w : World) (x0 y0 : ByteArray) (x1 y1 : ByteArray) :
    (Op.equalIn (d + 2) 92 (.agg #[.string x0, .string x1]) (.agg #[.string y0, .string y1])).run Try.prog w = .ok (x0.toList == y0.toList && (x1.toList == y1.toList)) w := by
  refine eqA_of Try.underlying92 (by kernel_rfl) ?_
  refine eqf_cons (by rfl) (by go_simp; rfl) (by go_simp; rfl) (by go_simp) ?_
  exact eqf_last (by rfl) (by go_simp; rfl) (by go_simp; rfl) (by go_simp)
end Go.Proofs.Ytkphinfijppkeaa.G
namespace Go.Proofs.Ytkphinfijppkeaa.G
open Go.RowKit Go.Proofs.YtkphinfijppkeaaW.PrintWords Go.Proofs.YtkphinfijppkeaaW.PrintLast Go.Proofs.YtkphinfijppkeaaW.PrintMore
attribute [local go_sem] max2_int min2_int max_two min_two max_three min_three max_four min_four   -- for this text's walks alone
set_option linter.unusedVariables false
set_option linter.unusedSimpArgs false
attribute [local go_sem high] eqA92
def foghornref10_Same.l0 : Nat → List (S92) → List (S92) → Int → Int → Option (Bool)
  | 0, _, _, _, _ => none
  | k + 1, x0, x1, x12, x13 => if x13 < x12 then (if 0 ≤ x13 then (if x13 < (x0.length : Int) then (if x13 < (x1.length : Int) then (if (!((((rd_T92 x0 x13).f0).toList) == (((rd_T92 x1 x13).f0).toList)) || (!((((rd_T92 x0 x13).f1).toList) == (((rd_T92 x1 x13).f1).toList)))) = true then (some false) else (foghornref10_Same.l0 k x0 x1 x12 (wrap64 (x13 + 1)))) else (none)) else (none)) else (none)) else (some true)
def foghornref10_Same.f (k : Nat) (l0 : List (S92)) (l1 : List (S92)) : Option (Bool) := if (l0.length : Int) = (l1.length : Int) then (foghornref10_Same.l0 k l0 l1 (l0.length : Int) 0) else (some false)
set_option maxHeartbeats 8000000 in
set_option maxRecDepth 100000 in
theorem foghornref10_Same.calls (k : Nat) (A0 : Option Addr) (c0 : Nat) (l0 : List (S92)) (A1 : Option Addr) (c1 : Nat) (l1 : List (S92)) (r : Bool) (w : World) (hr0 : Kd.C k92 w A0 l0.length l0) (hc0 : l0.length ≤ c0) (hr1 : Kd.C k92 w A1 l1.length l1) (hc1 : l1.length ≤ c1) (h : foghornref10_Same.f k l0 l1 = some r) :
    Calls Try.prog 49 #[.slice A0 l0.length c0, .slice A1 l1.length c1] w fun e w' => e = .returned (.bool r) ∧ Drawn0 w w' := by
  have hu92 := Try.underlying92
  have HR0 := Aside0.mk hr0
  have HC0 := Aside0.mk hc0
  clear hr0 hc0
  have HR1 := Aside0.mk hr1
  have HC1 := Aside0.mk hc1
  clear hr1 hc1
  have H : (if (l0.length : Int) = (l1.length : Int) then (foghornref10_Same.l0 k l0 l1 (l0.length : Int) 0) else (some false)) = some r := h
  clear h
  by_cases c3 : (l0.length : Int) = (l1.length : Int)
  · rw [if_pos c3] at H
    have c3b0 : ((l0.length : Int) == (l1.length : Int)) = true := beq_iff_eq.mpr c3
    have c3b1 : ((l0.length : Int) != (l1.length : Int)) = false := bne_eq_false_iff_eq.mpr c3
    have c3b2 : (l0.length == l1.length) = true := by first | simpa using c3 | (simp at c3 ⊢; omega)
    clear c3
    have H' := Aside0.mk H
    clear H
    go_enter Try.func49, Try.ntmps49
    go_wp2
    repeat (go_quiet (fail); try go_wp2)
    go_loopg [13] k (fun kq v13 w' => ∃ (x13_1 : Int), v13 = .int .i64 x13_1 ∧ Aside0 (foghornref10_Same.l0 kq l0 l1 (l0.length : Int) x13_1 = some r) ∧ Aside0 (kq ≤ k) ∧ Drawn0 w w')
    case atStart => exact ⟨(0), (by first | rfl | (simp; done) | (simp [*]; done)), H', ⟨Nat.le_refl _⟩, by repeat (first | exact Drawn0.refl _ | apply Drawn0.step)⟩
    case round =>
      clear H'
      try clear c1
      try clear p2
      try clear c3
      try clear c3b0
      try clear c3b1
      try clear c3b2
      obtain ⟨x13_1, rfl, HA, HK1, ⟨m1, rfl⟩⟩ := hrel
      cases gk with
      | zero => exact absurd HA.out (by simp [foghornref10_Same.l0])
      | succ k1 =>
        have H := HA.out
        clear HA
        simp only [foghornref10_Same.l0] at H
        by_cases c4 : x13_1 < (l0.length : Int)
        · rw [if_pos c4] at H
          have c4b0 : decide (x13_1 < (l0.length : Int)) = true := decide_eq_true c4
          clear c4
          by_cases c5 : 0 ≤ x13_1
          · rw [if_pos c5] at H
            have c5b0 : decide (0 ≤ x13_1) = true := decide_eq_true c5
            clear c5
            by_cases c6 : x13_1 < (l0.length : Int)
            · rw [if_pos c6] at H
              have c6b0 : decide (x13_1 < (l0.length : Int)) = true := decide_eq_true c6
              clear c6
              by_cases c7 : x13_1 < (l1.length : Int)
              · rw [if_pos c7] at H
                have c7b0 : decide (x13_1 < (l1.length : Int)) = true := decide_eq_true c7
                clear c7
                by_cases c8 : (!((((rd_T92 l0 x13_1).f0).toList) == (((rd_T92 l1 x13_1).f0).toList)) || (!((((rd_T92 l0 x13_1).f1).toList) == (((rd_T92 l1 x13_1).f1).toList)))) = true
                · rw [if_pos c8] at H
                  have c8b0 : (!((((rd_T92 l0 x13_1).f0).toList) == (((rd_T92 l1 x13_1).f0).toList)) || (!((((rd_T92 l0 x13_1).f1).toList) == (((rd_T92 l1 x13_1).f1).toList)))) = true := c8
                  clear c8
                  obtain rfl := Option.some.inj H
                  have p418 : 0 ≤ (x13_1 : Int) := of_decide_eq_true (by first | (with_reducible assumption) | assumption)
                  have q418 : x13_1 < (l0.length : Int) := of_decide_eq_true (by first | (with_reducible assumption) | assumption)
                  obtain ⟨ad418, e418, hx418_0, hx418_1⟩ := at_T92 HR0.out x13_1 p418 q418
                  cases e418
                  replace p418 := eq_true p418
                  replace q418 := eq_true q418
                  have p419 : 0 ≤ (x13_1 : Int) := of_decide_eq_true (by first | (with_reducible assumption) | assumption)
                  have q419 : x13_1 < (l1.length : Int) := of_decide_eq_true (by first | (with_reducible assumption) | assumption)
                  obtain ⟨ad419, e419, hx419_0, hx419_1⟩ := at_T92 HR1.out x13_1 p419 q419
                  cases e419
                  replace p419 := eq_true p419
                  replace q419 := eq_true q419
                  go_wp2
                  repeat (go_quiet (fail); try go_wp2)
                  go_ret
                  exact ⟨by first | rfl | (simp; done) | (simp [*]; done), by repeat (first | exact Drawn0.refl _ | apply Drawn0.step)⟩
                · rw [if_neg c8] at H
                  have c8b0 : (!((((rd_T92 l0 x13_1).f0).toList) == (((rd_T92 l1 x13_1).f0).toList)) || (!((((rd_T92 l0 x13_1).f1).toList) == (((rd_T92 l1 x13_1).f1).toList)))) = false := by simpa using c8
                  clear c8
                  have H' := Aside0.mk H
                  clear H
                  have p418 : 0 ≤ (x13_1 : Int) := of_decide_eq_true (by first | (with_reducible assumption) | assumption)
                  have q418 : x13_1 < (l0.length : Int) := of_decide_eq_true (by first | (with_reducible assumption) | assumption)
                  obtain ⟨ad418, e418, hx418_0, hx418_1⟩ := at_T92 HR0.out x13_1 p418 q418
                  cases e418
                  replace p418 := eq_true p418
                  replace q418 := eq_true q418
                  have p419 : 0 ≤ (x13_1 : Int) := of_decide_eq_true (by first | (with_reducible assumption) | assumption)
                  have q419 : x13_1 < (l1.length : Int) := of_decide_eq_true (by first | (with_reducible assumption) | assumption)
                  obtain ⟨ad419, e419, hx419_0, hx419_1⟩ := at_T92 HR1.out x13_1 p419 q419
                  cases e419
                  replace p419 := eq_true p419
                  replace q419 := eq_true q419
                  go_wp2
                  repeat (go_quiet (fail); try go_wp2)
                  go_roundg k1
                  case measure => have := HK1.out; omega
                  case rel => exact ⟨(wrap64 (x13_1 + 1)), (by first | rfl | (simp; done) | (simp [*]; done)), H', ⟨by have := HK1.out; omega⟩, by repeat (first | exact Drawn0.refl _ | apply Drawn0.step)⟩
              · rw [if_neg c7] at H
                exact absurd H (by simp)
            · rw [if_neg c6] at H
              exact absurd H (by simp)
          · rw [if_neg c5] at H
            exact absurd H (by simp)
        · rw [if_neg c4] at H
          have c4b0 : decide (x13_1 < (l0.length : Int)) = false := decide_eq_false c4
          clear c4
          obtain rfl := Option.some.inj H
          go_wp2
          repeat (go_quiet (fail); try go_wp2)
          go_ret
          exact ⟨by first | rfl | (simp; done) | (simp [*]; done), by repeat (first | exact Drawn0.refl _ | apply Drawn0.step)⟩
  · rw [if_neg c3] at H
    have c3b0 : ((l0.length : Int) == (l1.length : Int)) = false := beq_eq_false_iff_ne.mpr c3
    have c3b1 : ((l0.length : Int) != (l1.length : Int)) = true := bne_iff_ne.mpr c3
    have c3b2 : (l0.length == l1.length) = false := by first | simpa using c3 | (simp at c3 ⊢; omega)
    obtain rfl := Option.some.inj H
    go_enter Try.func49, Try.ntmps49
    go_wp2
    repeat (go_quiet (fail); try go_wp2)
    go_ret
    exact ⟨by first | rfl | (simp; done) | (simp [*]; done), by repeat (first | exact Drawn0.refl _ | apply Drawn0.step)⟩
def foghornref16_Same.f (k : Nat) (l0_0 : List (S92)) (a0_1 : Int) (a0_2 : Int) (a0_3 : Int) (a0_4 : Int) (a0_5 : Int) (l1_0 : List (S92)) (a1_1 : Int) (a1_2 : Int) (a1_3 : Int) (a1_4 : Int) (a1_5 : Int) : Option (Bool) := (foghornref10_Same.f k l0_0 l1_0).bind fun t422 => (if t422 = true then (if a0_1 = a1_1 then (if a0_2 = a1_2 then (if a0_3 = a1_3 then (if a0_4 = a1_4 then (some (a0_5 == a1_5)) else (some false)) else (some false)) else (some false)) else (some false)) else (some false))
set_option maxHeartbeats 8000000 in
set_option maxRecDepth 100000 in
theorem foghornref16_Same.calls (k : Nat) (A0_0 : Option Addr) (c0_0 : Nat) (l0_0 : List (S92)) (a0_1 : Int) (a0_2 : Int) (a0_3 : Int) (a0_4 : Int) (a0_5 : Int) (A1_0 : Option Addr) (c1_0 : Nat) (l1_0 : List (S92)) (a1_1 : Int) (a1_2 : Int) (a1_3 : Int) (a1_4 : Int) (a1_5 : Int) (r : Bool) (w : World) (hr0_0 : Kd.C k92 w A0_0 l0_0.length l0_0) (hc0_0 : l0_0.length ≤ c0_0) (hr1_0 : Kd.C k92 w A1_0 l1_0.length l1_0) (hc1_0 : l1_0.length ≤ c1_0) (h : foghornref16_Same.f k l0_0 a0_1 a0_2 a0_3 a0_4 a0_5 l1_0 a1_1 a1_2 a1_3 a1_4 a1_5 = some r) :
    Calls Try.prog 45 #[.agg #[.slice A0_0 l0_0.length c0_0, .int .i64 a0_1, .int .i64 a0_2, .int .i64 a0_3, .int .i64 a0_4, .int .i64 a0_5], .agg #[.slice A1_0 l1_0.length c1_0, .int .i64 a1_1, .int .i64 a1_2, .int .i64 a1_3, .int .i64 a1_4, .int .i64 a1_5]] w fun e w' => e = .returned (.bool r) ∧ Below w.heap.size w w' := by
  have hu69 := Try.underlying69
  have HR0_0 := Aside0.mk hr0_0
  have HC0_0 := Aside0.mk hc0_0
  clear hr0_0 hc0_0
  have HR1_0 := Aside0.mk hr1_0
  have HC1_0 := Aside0.mk hc1_0
  clear hr1_0 hc1_0
  have HB := Aside0.mk (Below.refl w.heap.size w)
  have H : ((foghornref10_Same.f k l0_0 l1_0).bind fun t422 => (if t422 = true then (if a0_1 = a1_1 then (if a0_2 = a1_2 then (if a0_3 = a1_3 then (if a0_4 = a1_4 then (some (a0_5 == a1_5)) else (some false)) else (some false)) else (some false)) else (some false)) else (some false))) = some r := h
  clear h
  replace H := Option.bind_eq_some_iff.mp H
  obtain ⟨t422, A30, H⟩ := H
  replace H : (if t422 = true then (if a0_1 = a1_1 then (if a0_2 = a1_2 then (if a0_3 = a1_3 then (if a0_4 = a1_4 then (some (a0_5 == a1_5)) else (some false)) else (some false)) else (some false)) else (some false)) else (some false)) = some r := H
  have A3 := Aside0.mk A30
  clear A30
  by_cases c4 : t422 = true
  · subst c4
    have H1 : (if a0_1 = a1_1 then (if a0_2 = a1_2 then (if a0_3 = a1_3 then (if a0_4 = a1_4 then (some (a0_5 == a1_5)) else (some false)) else (some false)) else (some false)) else (some false)) = some r := by rw [if_pos rfl] at H; exact H
    clear H
    have H := H1
    clear H1
    by_cases c5 : a0_1 = a1_1
    · rw [if_pos c5] at H
      have c5b0 : (a0_1 == a1_1) = true := beq_iff_eq.mpr c5
      have c5b1 : (a0_1 != a1_1) = false := bne_eq_false_iff_eq.mpr c5
      clear c5
      by_cases c6 : a0_2 = a1_2
      · rw [if_pos c6] at H
        have c6b0 : (a0_2 == a1_2) = true := beq_iff_eq.mpr c6
        have c6b1 : (a0_2 != a1_2) = false := bne_eq_false_iff_eq.mpr c6
        clear c6
        by_cases c7 : a0_3 = a1_3
        · rw [if_pos c7] at H
          have c7b0 : (a0_3 == a1_3) = true := beq_iff_eq.mpr c7
          have c7b1 : (a0_3 != a1_3) = false := bne_eq_false_iff_eq.mpr c7
          clear c7
          by_cases c8 : a0_4 = a1_4
          · rw [if_pos c8] at H
            have c8b0 : (a0_4 == a1_4) = true := beq_iff_eq.mpr c8
            have c8b1 : (a0_4 != a1_4) = false := bne_eq_false_iff_eq.mpr c8
            clear c8
            obtain rfl := Option.some.inj H
            go_enter Try.func45, Try.ntmps45
            go_wp2_with (first | ((with_reducible refine gate_dst (N := 2) rfl ?_); refine box_event ?hg (N := 2) ?hd (cs := #[.slice A0_0 l0_0.length c0_0, .int .i64 a0_1, .int .i64 a0_2, .int .i64 a0_3, .int .i64 a0_4, .int .i64 a0_5]) (t := 69) ?hr ?_; (case hd => rfl); (case hg => rfl); (case hr => first | (go_simp; done) | (go_simp; rfl)); intro gb420 hg w9 hbox hb; have n0_ := Aside0.mk (below_step (by repeat (first | (with_reducible first | exact HB.out | apply below_alloc | apply pw_below_drewN | apply below_drew1) | exact HB.out)) hb); have n1_ := Aside0.mk (hbox); have n2_ := Aside0.mk ((by rw [hg]; exact (below_size (by repeat (first | (with_reducible first | exact HB.out | apply below_alloc | apply pw_below_drewN | apply below_drew1) | exact HB.out))) : w.heap.size ≤ gb420)); have n3_ := Aside0.mk ((by rw [hg]; exact (below_size (by repeat (first | (with_reducible first | exact HB.out | apply below_alloc | apply pw_below_drewN | apply below_drew1) | exact HB.out))) : w.heap.size ≤ gb420)); clear HB; have HB := n0_; have BK420 := n1_; have GW420 := n2_; have GE420 := n3_; clear n0_ n1_ n2_ n3_; clear hb hbox hg) | ((with_reducible refine gate_dst (N := 3) rfl ?_); refine box_event ?hg (N := 3) ?hd (cs := #[.slice A1_0 l1_0.length c1_0, .int .i64 a1_1, .int .i64 a1_2, .int .i64 a1_3, .int .i64 a1_4, .int .i64 a1_5]) (t := 69) ?hr ?_; (case hd => rfl); (case hg => rfl); (case hr => first | (go_simp; done) | (go_simp; rfl)); intro gb421 hg w10 hbox hb; have n0_ := Aside0.mk (blk_below (g := gb420) (o := .cells #[.slice A0_0 l0_0.length c0_0, .int .i64 a0_1, .int .i64 a0_2, .int .i64 a0_3, .int .i64 a0_4, .int .i64 a0_5] 69 (0, 0)) (by (with_reducible repeat (first | refine blk_drewN ?_ _ | refine blk_drew ?_ | refine blk_alloc ?_ _)); exact BK420.out) hb); have n1_ := Aside0.mk (below_step (by repeat (first | (with_reducible first | exact HB.out | apply below_alloc | apply pw_below_drewN | apply below_drew1 | refine below_set ?_ GE420.out) | exact HB.out)) hb); have n2_ := Aside0.mk (hbox); have n3_ := Aside0.mk ((by rw [hg]; exact (below_size (by repeat (first | (with_reducible first | exact HB.out | apply below_alloc | apply pw_below_drewN | apply below_drew1 | refine below_set ?_ GE420.out) | exact HB.out))) : w.heap.size ≤ gb421)); have n4_ := Aside0.mk ((by rw [hg]; exact (below_size (by repeat (first | (with_reducible first | exact HB.out | apply below_alloc | apply pw_below_drewN | apply below_drew1 | refine below_set ?_ GE420.out) | exact HB.out))) : w.heap.size ≤ gb421)); have n5_ := Aside0.mk ((by rw [hg]; exact Nat.ne_of_lt (blk_lt (g := gb420) (o := .cells #[.slice A0_0 l0_0.length c0_0, .int .i64 a0_1, .int .i64 a0_2, .int .i64 a0_3, .int .i64 a0_4, .int .i64 a0_5] 69 (0, 0)) (by (with_reducible repeat (first | refine blk_drewN ?_ _ | refine blk_drew ?_ | refine blk_alloc ?_ _)); exact BK420.out)) : gb420 ≠ gb421)); have n6_ := Aside0.mk ((by rw [hg]; exact Nat.ne_of_gt (blk_lt (g := gb420) (o := .cells #[.slice A0_0 l0_0.length c0_0, .int .i64 a0_1, .int .i64 a0_2, .int .i64 a0_3, .int .i64 a0_4, .int .i64 a0_5] 69 (0, 0)) (by (with_reducible repeat (first | refine blk_drewN ?_ _ | refine blk_drew ?_ | refine blk_alloc ?_ _)); exact BK420.out)) : gb421 ≠ gb420)); clear BK420; clear HB; have BK420 := n0_; have HB := n1_; have BK421 := n2_; have GW421 := n3_; have GE421 := n4_; have NB420_421 := n5_; have NB421_420 := n6_; clear n0_ n1_ n2_ n3_ n4_ n5_ n6_; clear hb hbox hg; have hnb11 := NB420_421.out; have hnc11 := NB421_420.out; have hcz12_0 : w10.cell? ⟨gb420, 0, none⟩ = some (.slice A0_0 l0_0.length c0_0) := (blk_cell BK420.out 0).trans rfl; have hcz12_1 : w10.cell? ⟨gb420, 1, none⟩ = some (.int .i64 a0_1) := (blk_cell BK420.out 1).trans rfl; have hcz12_2 : w10.cell? ⟨gb420, 2, none⟩ = some (.int .i64 a0_2) := (blk_cell BK420.out 2).trans rfl; have hcz12_3 : w10.cell? ⟨gb420, 3, none⟩ = some (.int .i64 a0_3) := (blk_cell BK420.out 3).trans rfl; have hcz12_4 : w10.cell? ⟨gb420, 4, none⟩ = some (.int .i64 a0_4) := (blk_cell BK420.out 4).trans rfl; have hcz12_5 : w10.cell? ⟨gb420, 5, none⟩ = some (.int .i64 a0_5) := (blk_cell BK420.out 5).trans rfl; have hfz12_0 := blk_frozen BK420.out 0; have hfz12_1 := blk_frozen BK420.out 1; have hfz12_2 := blk_frozen BK420.out 2; have hfz12_3 := blk_frozen BK420.out 3; have hfz12_4 := blk_frozen BK420.out 4; have hfz12_5 := blk_frozen BK420.out 5; have hcz13_0 : w10.cell? ⟨gb421, 0, none⟩ = some (.slice A1_0 l1_0.length c1_0) := (blk_cell BK421.out 0).trans rfl; have hcz13_1 : w10.cell? ⟨gb421, 1, none⟩ = some (.int .i64 a1_1) := (blk_cell BK421.out 1).trans rfl; have hcz13_2 : w10.cell? ⟨gb421, 2, none⟩ = some (.int .i64 a1_2) := (blk_cell BK421.out 2).trans rfl; have hcz13_3 : w10.cell? ⟨gb421, 3, none⟩ = some (.int .i64 a1_3) := (blk_cell BK421.out 3).trans rfl; have hcz13_4 : w10.cell? ⟨gb421, 4, none⟩ = some (.int .i64 a1_4) := (blk_cell BK421.out 4).trans rfl; have hcz13_5 : w10.cell? ⟨gb421, 5, none⟩ = some (.int .i64 a1_5) := (blk_cell BK421.out 5).trans rfl; have hfz13_0 := blk_frozen BK421.out 0; have hfz13_1 := blk_frozen BK421.out 1; have hfz13_2 := blk_frozen BK421.out 2; have hfz13_3 := blk_frozen BK421.out 3; have hfz13_4 := blk_frozen BK421.out 4; have hfz13_5 := blk_frozen BK421.out 5) | ((with_reducible refine gate_callee (f := 49) rfl ?_); refine goesL_ (some 9) rfl rfl Try.func49 (by kernel_rfl) rfl #[.slice A0_0 l0_0.length c0_0, .slice A1_0 l1_0.length c1_0] rfl (by (try simp only [List.map_toArray, List.map_cons, List.map_nil]); first | done | rfl | (simp only [List.length_drop, List.length_take]; rfl)) ?_; (with_reducible refine (foghornref10_Same.calls k _ _ l0_0 _ _ l1_0 true _ ?side1 ?side2 ?side3 ?side4 A3.out).mono ?_); (case side1 => repeat (first | exact (Kd.C_below HR0_0.out HB.out) | (with_reducible refine Kd.C_alloc ?_ _) | (with_reducible refine Kd.C_drewN ?_ _) | (with_reducible refine Kd.C_drew ?_))); (case side2 => exact HC0_0.out); (case side3 => repeat (first | exact (Kd.C_below HR1_0.out HB.out) | (with_reducible refine Kd.C_alloc ?_ _) | (with_reducible refine Kd.C_drewN ?_ _) | (with_reducible refine Kd.C_drew ?_))); (case side4 => exact HC1_0.out); rintro e w' ⟨rfl, ⟨nd, rfl⟩⟩; refine ⟨_, rfl, ?_⟩))
            go_ret
            exact ⟨by first | rfl | (simp [errW_none, errW_some] <;> rfl) | (simp [*, errW_none, errW_some] <;> rfl), by repeat (first | (with_reducible first | exact HB.out | apply below_alloc | apply pw_below_drewN | apply below_drew1 | refine below_set ?_ GE420.out | refine below_set ?_ GE421.out) | exact HB.out)⟩
          · rw [if_neg c8] at H
            have c8b0 : (a0_4 == a1_4) = false := beq_eq_false_iff_ne.mpr c8
            have c8b1 : (a0_4 != a1_4) = true := bne_iff_ne.mpr c8
            obtain rfl := Option.some.inj H
            go_enter Try.func45, Try.ntmps45
            go_wp2_with (first | ((with_reducible refine gate_dst (N := 2) rfl ?_); refine box_event ?hg (N := 2) ?hd (cs := #[.slice A0_0 l0_0.length c0_0, .int .i64 a0_1, .int .i64 a0_2, .int .i64 a0_3, .int .i64 a0_4, .int .i64 a0_5]) (t := 69) ?hr ?_; (case hd => rfl); (case hg => rfl); (case hr => first | (go_simp; done) | (go_simp; rfl)); intro gb420 hg w14 hbox hb; have n0_ := Aside0.mk (below_step (by repeat (first | (with_reducible first | exact HB.out | apply below_alloc | apply pw_below_drewN | apply below_drew1) | exact HB.out)) hb); have n1_ := Aside0.mk (hbox); have n2_ := Aside0.mk ((by rw [hg]; exact (below_size (by repeat (first | (with_reducible first | exact HB.out | apply below_alloc | apply pw_below_drewN | apply below_drew1) | exact HB.out))) : w.heap.size ≤ gb420)); have n3_ := Aside0.mk ((by rw [hg]; exact (below_size (by repeat (first | (with_reducible first | exact HB.out | apply below_alloc | apply pw_below_drewN | apply below_drew1) | exact HB.out))) : w.heap.size ≤ gb420)); clear HB; have HB := n0_; have BK420 := n1_; have GW420 := n2_; have GE420 := n3_; clear n0_ n1_ n2_ n3_; clear hb hbox hg) | ((with_reducible refine gate_dst (N := 3) rfl ?_); refine box_event ?hg (N := 3) ?hd (cs := #[.slice A1_0 l1_0.length c1_0, .int .i64 a1_1, .int .i64 a1_2, .int .i64 a1_3, .int .i64 a1_4, .int .i64 a1_5]) (t := 69) ?hr ?_; (case hd => rfl); (case hg => rfl); (case hr => first | (go_simp; done) | (go_simp; rfl)); intro gb421 hg w15 hbox hb; have n0_ := Aside0.mk (blk_below (g := gb420) (o := .cells #[.slice A0_0 l0_0.length c0_0, .int .i64 a0_1, .int .i64 a0_2, .int .i64 a0_3, .int .i64 a0_4, .int .i64 a0_5] 69 (0, 0)) (by (with_reducible repeat (first | refine blk_drewN ?_ _ | refine blk_drew ?_ | refine blk_alloc ?_ _)); exact BK420.out) hb); have n1_ := Aside0.mk (below_step (by repeat (first | (with_reducible first | exact HB.out | apply below_alloc | apply pw_below_drewN | apply below_drew1 | refine below_set ?_ GE420.out) | exact HB.out)) hb); have n2_ := Aside0.mk (hbox); have n3_ := Aside0.mk ((by rw [hg]; exact (below_size (by repeat (first | (with_reducible first | exact HB.out | apply below_alloc | apply pw_below_drewN | apply below_drew1 | refine below_set ?_ GE420.out) | exact HB.out))) : w.heap.size ≤ gb421)); have n4_ := Aside0.mk ((by rw [hg]; exact (below_size (by repeat (first | (with_reducible first | exact HB.out | apply below_alloc | apply pw_below_drewN | apply below_drew1 | refine below_set ?_ GE420.out) | exact HB.out))) : w.heap.size ≤ gb421)); have n5_ := Aside0.mk ((by rw [hg]; exact Nat.ne_of_lt (blk_lt (g := gb420) (o := .cells #[.slice A0_0 l0_0.length c0_0, .int .i64 a0_1, .int .i64 a0_2, .int .i64 a0_3, .int .i64 a0_4, .int .i64 a0_5] 69 (0, 0)) (by (with_reducible repeat (first | refine blk_drewN ?_ _ | refine blk_drew ?_ | refine blk_alloc ?_ _)); exact BK420.out)) : gb420 ≠ gb421)); have n6_ := Aside0.mk ((by rw [hg]; exact Nat.ne_of_gt (blk_lt (g := gb420) (o := .cells #[.slice A0_0 l0_0.length c0_0, .int .i64 a0_1, .int .i64 a0_2, .int .i64 a0_3, .int .i64 a0_4, .int .i64 a0_5] 69 (0, 0)) (by (with_reducible repeat (first | refine blk_drewN ?_ _ | refine blk_drew ?_ | refine blk_alloc ?_ _)); exact BK420.out)) : gb421 ≠ gb420)); clear BK420; clear HB; have BK420 := n0_; have HB := n1_; have BK421 := n2_; have GW421 := n3_; have GE421 := n4_; have NB420_421 := n5_; have NB421_420 := n6_; clear n0_ n1_ n2_ n3_ n4_ n5_ n6_; clear hb hbox hg; have hnb16 := NB420_421.out; have hnc16 := NB421_420.out; have hcz17_0 : w15.cell? ⟨gb420, 0, none⟩ = some (.slice A0_0 l0_0.length c0_0) := (blk_cell BK420.out 0).trans rfl; have hcz17_1 : w15.cell? ⟨gb420, 1, none⟩ = some (.int .i64 a0_1) := (blk_cell BK420.out 1).trans rfl; have hcz17_2 : w15.cell? ⟨gb420, 2, none⟩ = some (.int .i64 a0_2) := (blk_cell BK420.out 2).trans rfl; have hcz17_3 : w15.cell? ⟨gb420, 3, none⟩ = some (.int .i64 a0_3) := (blk_cell BK420.out 3).trans rfl; have hcz17_4 : w15.cell? ⟨gb420, 4, none⟩ = some (.int .i64 a0_4) := (blk_cell BK420.out 4).trans rfl; have hcz17_5 : w15.cell? ⟨gb420, 5, none⟩ = some (.int .i64 a0_5) := (blk_cell BK420.out 5).trans rfl; have hfz17_0 := blk_frozen BK420.out 0; have hfz17_1 := blk_frozen BK420.out 1; have hfz17_2 := blk_frozen BK420.out 2; have hfz17_3 := blk_frozen BK420.out 3; have hfz17_4 := blk_frozen BK420.out 4; have hfz17_5 := blk_frozen BK420.out 5; have hcz18_0 : w15.cell? ⟨gb421, 0, none⟩ = some (.slice A1_0 l1_0.length c1_0) := (blk_cell BK421.out 0).trans rfl; have hcz18_1 : w15.cell? ⟨gb421, 1, none⟩ = some (.int .i64 a1_1) := (blk_cell BK421.out 1).trans rfl; have hcz18_2 : w15.cell? ⟨gb421, 2, none⟩ = some (.int .i64 a1_2) := (blk_cell BK421.out 2).trans rfl; have hcz18_3 : w15.cell? ⟨gb421, 3, none⟩ = some (.int .i64 a1_3) := (blk_cell BK421.out 3).trans rfl; have hcz18_4 : w15.cell? ⟨gb421, 4, none⟩ = some (.int .i64 a1_4) := (blk_cell BK421.out 4).trans rfl; have hcz18_5 : w15.cell? ⟨gb421, 5, none⟩ = some (.int .i64 a1_5) := (blk_cell BK421.out 5).trans rfl; have hfz18_0 := blk_frozen BK421.out 0; have hfz18_1 := blk_frozen BK421.out 1; have hfz18_2 := blk_frozen BK421.out 2; have hfz18_3 := blk_frozen BK421.out 3; have hfz18_4 := blk_frozen BK421.out 4; have hfz18_5 := blk_frozen BK421.out 5) | ((with_reducible refine gate_callee (f := 49) rfl ?_); refine goesL_ (some 9) rfl rfl Try.func49 (by kernel_rfl) rfl #[.slice A0_0 l0_0.length c0_0, .slice A1_0 l1_0.length c1_0] rfl (by (try simp only [List.map_toArray, List.map_cons, List.map_nil]); first | done | rfl | (simp only [List.length_drop, List.length_take]; rfl)) ?_; (with_reducible refine (foghornref10_Same.calls k _ _ l0_0 _ _ l1_0 true _ ?side1 ?side2 ?side3 ?side4 A3.out).mono ?_); (case side1 => repeat (first | exact (Kd.C_below HR0_0.out HB.out) | (with_reducible refine Kd.C_alloc ?_ _) | (with_reducible refine Kd.C_drewN ?_ _) | (with_reducible refine Kd.C_drew ?_))); (case side2 => exact HC0_0.out); (case side3 => repeat (first | exact (Kd.C_below HR1_0.out HB.out) | (with_reducible refine Kd.C_alloc ?_ _) | (with_reducible refine Kd.C_drewN ?_ _) | (with_reducible refine Kd.C_drew ?_))); (case side4 => exact HC1_0.out); rintro e w' ⟨rfl, ⟨nd, rfl⟩⟩; refine ⟨_, rfl, ?_⟩))
            go_ret
            exact ⟨by first | rfl | (simp [errW_none, errW_some] <;> rfl) | (simp [*, errW_none, errW_some] <;> rfl), by repeat (first | (with_reducible first | exact HB.out | apply below_alloc | apply pw_below_drewN | apply below_drew1 | refine below_set ?_ GE420.out | refine below_set ?_ GE421.out) | exact HB.out)⟩
        · rw [if_neg c7] at H
          have c7b0 : (a0_3 == a1_3) = false := beq_eq_false_iff_ne.mpr c7
          have c7b1 : (a0_3 != a1_3) = true := bne_iff_ne.mpr c7
          obtain rfl := Option.some.inj H
          go_enter Try.func45, Try.ntmps45
          go_wp2_with (first | ((with_reducible refine gate_dst (N := 2) rfl ?_); refine box_event ?hg (N := 2) ?hd (cs := #[.slice A0_0 l0_0.length c0_0, .int .i64 a0_1, .int .i64 a0_2, .int .i64 a0_3, .int .i64 a0_4, .int .i64 a0_5]) (t := 69) ?hr ?_; (case hd => rfl); (case hg => rfl); (case hr => first | (go_simp; done) | (go_simp; rfl)); intro gb420 hg w19 hbox hb; have n0_ := Aside0.mk (below_step (by repeat (first | (with_reducible first | exact HB.out | apply below_alloc | apply pw_below_drewN | apply below_drew1) | exact HB.out)) hb); have n1_ := Aside0.mk (hbox); have n2_ := Aside0.mk ((by rw [hg]; exact (below_size (by repeat (first | (with_reducible first | exact HB.out | apply below_alloc | apply pw_below_drewN | apply below_drew1) | exact HB.out))) : w.heap.size ≤ gb420)); have n3_ := Aside0.mk ((by rw [hg]; exact (below_size (by repeat (first | (with_reducible first | exact HB.out | apply below_alloc | apply pw_below_drewN | apply below_drew1) | exact HB.out))) : w.heap.size ≤ gb420)); clear HB; have HB := n0_; have BK420 := n1_; have GW420 := n2_; have GE420 := n3_; clear n0_ n1_ n2_ n3_; clear hb hbox hg) | ((with_reducible refine gate_dst (N := 3) rfl ?_); refine box_event ?hg (N := 3) ?hd (cs := #[.slice A1_0 l1_0.length c1_0, .int .i64 a1_1, .int .i64 a1_2, .int .i64 a1_3, .int .i64 a1_4, .int .i64 a1_5]) (t := 69) ?hr ?_; (case hd => rfl); (case hg => rfl); (case hr => first | (go_simp; done) | (go_simp; rfl)); intro gb421 hg w20 hbox hb; have n0_ := Aside0.mk (blk_below (g := gb420) (o := .cells #[.slice A0_0 l0_0.length c0_0, .int .i64 a0_1, .int .i64 a0_2, .int .i64 a0_3, .int .i64 a0_4, .int .i64 a0_5] 69 (0, 0)) (by (with_reducible repeat (first | refine blk_drewN ?_ _ | refine blk_drew ?_ | refine blk_alloc ?_ _)); exact BK420.out) hb); have n1_ := Aside0.mk (below_step (by repeat (first | (with_reducible first | exact HB.out | apply below_alloc | apply pw_below_drewN | apply below_drew1 | refine below_set ?_ GE420.out) | exact HB.out)) hb); have n2_ := Aside0.mk (hbox); have n3_ := Aside0.mk ((by rw [hg]; exact (below_size (by repeat (first | (with_reducible first | exact HB.out | apply below_alloc | apply pw_below_drewN | apply below_drew1 | refine below_set ?_ GE420.out) | exact HB.out))) : w.heap.size ≤ gb421)); have n4_ := Aside0.mk ((by rw [hg]; exact (below_size (by repeat (first | (with_reducible first | exact HB.out | apply below_alloc | apply pw_below_drewN | apply below_drew1 | refine below_set ?_ GE420.out) | exact HB.out))) : w.heap.size ≤ gb421)); have n5_ := Aside0.mk ((by rw [hg]; exact Nat.ne_of_lt (blk_lt (g := gb420) (o := .cells #[.slice A0_0 l0_0.length c0_0, .int .i64 a0_1, .int .i64 a0_2, .int .i64 a0_3, .int .i64 a0_4, .int .i64 a0_5] 69 (0, 0)) (by (with_reducible repeat (first | refine blk_drewN ?_ _ | refine blk_drew ?_ | refine blk_alloc ?_ _)); exact BK420.out)) : gb420 ≠ gb421)); have n6_ := Aside0.mk ((by rw [hg]; exact Nat.ne_of_gt (blk_lt (g := gb420) (o := .cells #[.slice A0_0 l0_0.length c0_0, .int .i64 a0_1, .int .i64 a0_2, .int .i64 a0_3, .int .i64 a0_4, .int .i64 a0_5] 69 (0, 0)) (by (with_reducible repeat (first | refine blk_drewN ?_ _ | refine blk_drew ?_ | refine blk_alloc ?_ _)); exact BK420.out)) : gb421 ≠ gb420)); clear BK420; clear HB; have BK420 := n0_; have HB := n1_; have BK421 := n2_; have GW421 := n3_; have GE421 := n4_; have NB420_421 := n5_; have NB421_420 := n6_; clear n0_ n1_ n2_ n3_ n4_ n5_ n6_; clear hb hbox hg; have hnb21 := NB420_421.out; have hnc21 := NB421_420.out; have hcz22_0 : w20.cell? ⟨gb420, 0, none⟩ = some (.slice A0_0 l0_0.length c0_0) := (blk_cell BK420.out 0).trans rfl; have hcz22_1 : w20.cell? ⟨gb420, 1, none⟩ = some (.int .i64 a0_1) := (blk_cell BK420.out 1).trans rfl; have hcz22_2 : w20.cell? ⟨gb420, 2, none⟩ = some (.int .i64 a0_2) := (blk_cell BK420.out 2).trans rfl; have hcz22_3 : w20.cell? ⟨gb420, 3, none⟩ = some (.int .i64 a0_3) := (blk_cell BK420.out 3).trans rfl; have hcz22_4 : w20.cell? ⟨gb420, 4, none⟩ = some (.int .i64 a0_4) := (blk_cell BK420.out 4).trans rfl; have hcz22_5 : w20.cell? ⟨gb420, 5, none⟩ = some (.int .i64 a0_5) := (blk_cell BK420.out 5).trans rfl; have hfz22_0 := blk_frozen BK420.out 0; have hfz22_1 := blk_frozen BK420.out 1; have hfz22_2 := blk_frozen BK420.out 2; have hfz22_3 := blk_frozen BK420.out 3; have hfz22_4 := blk_frozen BK420.out 4; have hfz22_5 := blk_frozen BK420.out 5; have hcz23_0 : w20.cell? ⟨gb421, 0, none⟩ = some (.slice A1_0 l1_0.length c1_0) := (blk_cell BK421.out 0).trans rfl; have hcz23_1 : w20.cell? ⟨gb421, 1, none⟩ = some (.int .i64 a1_1) := (blk_cell BK421.out 1).trans rfl; have hcz23_2 : w20.cell? ⟨gb421, 2, none⟩ = some (.int .i64 a1_2) := (blk_cell BK421.out 2).trans rfl; have hcz23_3 : w20.cell? ⟨gb421, 3, none⟩ = some (.int .i64 a1_3) := (blk_cell BK421.out 3).trans rfl; have hcz23_4 : w20.cell? ⟨gb421, 4, none⟩ = some (.int .i64 a1_4) := (blk_cell BK421.out 4).trans rfl; have hcz23_5 : w20.cell? ⟨gb421, 5, none⟩ = some (.int .i64 a1_5) := (blk_cell BK421.out 5).trans rfl; have hfz23_0 := blk_frozen BK421.out 0; have hfz23_1 := blk_frozen BK421.out 1; have hfz23_2 := blk_frozen BK421.out 2; have hfz23_3 := blk_frozen BK421.out 3; have hfz23_4 := blk_frozen BK421.out 4; have hfz23_5 := blk_frozen BK421.out 5) | ((with_reducible refine gate_callee (f := 49) rfl ?_); refine goesL_ (some 9) rfl rfl Try.func49 (by kernel_rfl) rfl #[.slice A0_0 l0_0.length c0_0, .slice A1_0 l1_0.length c1_0] rfl (by (try simp only [List.map_toArray, List.map_cons, List.map_nil]); first | done | rfl | (simp only [List.length_drop, List.length_take]; rfl)) ?_; (with_reducible refine (foghornref10_Same.calls k _ _ l0_0 _ _ l1_0 true _ ?side1 ?side2 ?side3 ?side4 A3.out).mono ?_); (case side1 => repeat (first | exact (Kd.C_below HR0_0.out HB.out) | (with_reducible refine Kd.C_alloc ?_ _) | (with_reducible refine Kd.C_drewN ?_ _) | (with_reducible refine Kd.C_drew ?_))); (case side2 => exact HC0_0.out); (case side3 => repeat (first | exact (Kd.C_below HR1_0.out HB.out) | (with_reducible refine Kd.C_alloc ?_ _) | (with_reducible refine Kd.C_drewN ?_ _) | (with_reducible refine Kd.C_drew ?_))); (case side4 => exact HC1_0.out); rintro e w' ⟨rfl, ⟨nd, rfl⟩⟩; refine ⟨_, rfl, ?_⟩))
          go_ret
          exact ⟨by first | rfl | (simp [errW_none, errW_some] <;> rfl) | (simp [*, errW_none, errW_some] <;> rfl), by repeat (first | (with_reducible first | exact HB.out | apply below_alloc | apply pw_below_drewN | apply below_drew1 | refine below_set ?_ GE420.out | refine below_set ?_ GE421.out) | exact HB.out)⟩
      · rw [if_neg c6] at H
        have c6b0 : (a0_2 == a1_2) = false := beq_eq_false_iff_ne.mpr c6
        have c6b1 : (a0_2 != a1_2) = true := bne_iff_ne.mpr c6
        obtain rfl := Option.some.inj H
        go_enter Try.func45, Try.ntmps45
        go_wp2_with (first | ((with_reducible refine gate_dst (N := 2) rfl ?_); refine box_event ?hg (N := 2) ?hd (cs := #[.slice A0_0 l0_0.length c0_0, .int .i64 a0_1, .int .i64 a0_2, .int .i64 a0_3, .int .i64 a0_4, .int .i64 a0_5]) (t := 69) ?hr ?_; (case hd => rfl); (case hg => rfl); (case hr => first | (go_simp; done) | (go_simp; rfl)); intro gb420 hg w24 hbox hb; have n0_ := Aside0.mk (below_step (by repeat (first | (with_reducible first | exact HB.out | apply below_alloc | apply pw_below_drewN | apply below_drew1) | exact HB.out)) hb); have n1_ := Aside0.mk (hbox); have n2_ := Aside0.mk ((by rw [hg]; exact (below_size (by repeat (first | (with_reducible first | exact HB.out | apply below_alloc | apply pw_below_drewN | apply below_drew1) | exact HB.out))) : w.heap.size ≤ gb420)); have n3_ := Aside0.mk ((by rw [hg]; exact (below_size (by repeat (first | (with_reducible first | exact HB.out | apply below_alloc | apply pw_below_drewN | apply below_drew1) | exact HB.out))) : w.heap.size ≤ gb420)); clear HB; have HB := n0_; have BK420 := n1_; have GW420 := n2_; have GE420 := n3_; clear n0_ n1_ n2_ n3_; clear hb hbox hg) | ((with_reducible refine gate_dst (N := 3) rfl ?_); refine box_event ?hg (N := 3) ?hd (cs := #[.slice A1_0 l1_0.length c1_0, .int .i64 a1_1, .int .i64 a1_2, .int .i64 a1_3, .int .i64 a1_4, .int .i64 a1_5]) (t := 69) ?hr ?_; (case hd => rfl); (case hg => rfl); (case hr => first | (go_simp; done) | (go_simp; rfl)); intro gb421 hg w25 hbox hb; have n0_ := Aside0.mk (blk_below (g := gb420) (o := .cells #[.slice A0_0 l0_0.length c0_0, .int .i64 a0_1, .int .i64 a0_2, .int .i64 a0_3, .int .i64 a0_4, .int .i64 a0_5] 69 (0, 0)) (by (with_reducible repeat (first | refine blk_drewN ?_ _ | refine blk_drew ?_ | refine blk_alloc ?_ _)); exact BK420.out) hb); have n1_ := Aside0.mk (below_step (by repeat (first | (with_reducible first | exact HB.out | apply below_alloc | apply pw_below_drewN | apply below_drew1 | refine below_set ?_ GE420.out) | exact HB.out)) hb); have n2_ := Aside0.mk (hbox); have n3_ := Aside0.mk ((by rw [hg]; exact (below_size (by repeat (first | (with_reducible first | exact HB.out | apply below_alloc | apply pw_below_drewN | apply below_drew1 | refine below_set ?_ GE420.out) | exact HB.out))) : w.heap.size ≤ gb421)); have n4_ := Aside0.mk ((by rw [hg]; exact (below_size (by repeat (first | (with_reducible first | exact HB.out | apply below_alloc | apply pw_below_drewN | apply below_drew1 | refine below_set ?_ GE420.out) | exact HB.out))) : w.heap.size ≤ gb421)); have n5_ := Aside0.mk ((by rw [hg]; exact Nat.ne_of_lt (blk_lt (g := gb420) (o := .cells #[.slice A0_0 l0_0.length c0_0, .int .i64 a0_1, .int .i64 a0_2, .int .i64 a0_3, .int .i64 a0_4, .int .i64 a0_5] 69 (0, 0)) (by (with_reducible repeat (first | refine blk_drewN ?_ _ | refine blk_drew ?_ | refine blk_alloc ?_ _)); exact BK420.out)) : gb420 ≠ gb421)); have n6_ := Aside0.mk ((by rw [hg]; exact Nat.ne_of_gt (blk_lt (g := gb420) (o := .cells #[.slice A0_0 l0_0.length c0_0, .int .i64 a0_1, .int .i64 a0_2, .int .i64 a0_3, .int .i64 a0_4, .int .i64 a0_5] 69 (0, 0)) (by (with_reducible repeat (first | refine blk_drewN ?_ _ | refine blk_drew ?_ | refine blk_alloc ?_ _)); exact BK420.out)) : gb421 ≠ gb420)); clear BK420; clear HB; have BK420 := n0_; have HB := n1_; have BK421 := n2_; have GW421 := n3_; have GE421 := n4_; have NB420_421 := n5_; have NB421_420 := n6_; clear n0_ n1_ n2_ n3_ n4_ n5_ n6_; clear hb hbox hg; have hnb26 := NB420_421.out; have hnc26 := NB421_420.out; have hcz27_0 : w25.cell? ⟨gb420, 0, none⟩ = some (.slice A0_0 l0_0.length c0_0) := (blk_cell BK420.out 0).trans rfl; have hcz27_1 : w25.cell? ⟨gb420, 1, none⟩ = some (.int .i64 a0_1) := (blk_cell BK420.out 1).trans rfl; have hcz27_2 : w25.cell? ⟨gb420, 2, none⟩ = some (.int .i64 a0_2) := (blk_cell BK420.out 2).trans rfl; have hcz27_3 : w25.cell? ⟨gb420, 3, none⟩ = some (.int .i64 a0_3) := (blk_cell BK420.out 3).trans rfl; have hcz27_4 : w25.cell? ⟨gb420, 4, none⟩ = some (.int .i64 a0_4) := (blk_cell BK420.out 4).trans rfl; have hcz27_5 : w25.cell? ⟨gb420, 5, none⟩ = some (.int .i64 a0_5) := (blk_cell BK420.out 5).trans rfl; have hfz27_0 := blk_frozen BK420.out 0; have hfz27_1 := blk_frozen BK420.out 1; have hfz27_2 := blk_frozen BK420.out 2; have hfz27_3 := blk_frozen BK420.out 3; have hfz27_4 := blk_frozen BK420.out 4; have hfz27_5 := blk_frozen BK420.out 5; have hcz28_0 : w25.cell? ⟨gb421, 0, none⟩ = some (.slice A1_0 l1_0.length c1_0) := (blk_cell BK421.out 0).trans rfl; have hcz28_1 : w25.cell? ⟨gb421, 1, none⟩ = some (.int .i64 a1_1) := (blk_cell BK421.out 1).trans rfl; have hcz28_2 : w25.cell? ⟨gb421, 2, none⟩ = some (.int .i64 a1_2) := (blk_cell BK421.out 2).trans rfl; have hcz28_3 : w25.cell? ⟨gb421, 3, none⟩ = some (.int .i64 a1_3) := (blk_cell BK421.out 3).trans rfl; have hcz28_4 : w25.cell? ⟨gb421, 4, none⟩ = some (.int .i64 a1_4) := (blk_cell BK421.out 4).trans rfl; have hcz28_5 : w25.cell? ⟨gb421, 5, none⟩ = some (.int .i64 a1_5) := (blk_cell BK421.out 5).trans rfl; have hfz28_0 := blk_frozen BK421.out 0; have hfz28_1 := blk_frozen BK421.out 1; have hfz28_2 := blk_frozen BK421.out 2; have hfz28_3 := blk_frozen BK421.out 3; have hfz28_4 := blk_frozen BK421.out 4; have hfz28_5 := blk_frozen BK421.out 5) | ((with_reducible refine gate_callee (f := 49) rfl ?_); refine goesL_ (some 9) rfl rfl Try.func49 (by kernel_rfl) rfl #[.slice A0_0 l0_0.length c0_0, .slice A1_0 l1_0.length c1_0] rfl (by (try simp only [List.map_toArray, List.map_cons, List.map_nil]); first | done | rfl | (simp only [List.length_drop, List.length_take]; rfl)) ?_; (with_reducible refine (foghornref10_Same.calls k _ _ l0_0 _ _ l1_0 true _ ?side1 ?side2 ?side3 ?side4 A3.out).mono ?_); (case side1 => repeat (first | exact (Kd.C_below HR0_0.out HB.out) | (with_reducible refine Kd.C_alloc ?_ _) | (with_reducible refine Kd.C_drewN ?_ _) | (with_reducible refine Kd.C_drew ?_))); (case side2 => exact HC0_0.out); (case side3 => repeat (first | exact (Kd.C_below HR1_0.out HB.out) | (with_reducible refine Kd.C_alloc ?_ _) | (with_reducible refine Kd.C_drewN ?_ _) | (with_reducible refine Kd.C_drew ?_))); (case side4 => exact HC1_0.out); rintro e w' ⟨rfl, ⟨nd, rfl⟩⟩; refine ⟨_, rfl, ?_⟩))
        go_ret
        exact ⟨by first | rfl | (simp [errW_none, errW_some] <;> rfl) | (simp [*, errW_none, errW_some] <;> rfl), by repeat (first | (with_reducible first | exact HB.out | apply below_alloc | apply pw_below_drewN | apply below_drew1 | refine below_set ?_ GE420.out | refine below_set ?_ GE421.out) | exact HB.out)⟩
    · rw [if_neg c5] at H
      have c5b0 : (a0_1 == a1_1) = false := beq_eq_false_iff_ne.mpr c5
      have c5b1 : (a0_1 != a1_1) = true := bne_iff_ne.mpr c5
      obtain rfl := Option.some.inj H
      go_enter Try.func45, Try.ntmps45
      go_wp2_with (first | ((with_reducible refine gate_dst (N := 2) rfl ?_); refine box_event ?hg (N := 2) ?hd (cs := #[.slice A0_0 l0_0.length c0_0, .int .i64 a0_1, .int .i64 a0_2, .int .i64 a0_3, .int .i64 a0_4, .int .i64 a0_5]) (t := 69) ?hr ?_; (case hd => rfl); (case hg => rfl); (case hr => first | (go_simp; done) | (go_simp; rfl)); intro gb420 hg w29 hbox hb; have n0_ := Aside0.mk (below_step (by repeat (first | (with_reducible first | exact HB.out | apply below_alloc | apply pw_below_drewN | apply below_drew1) | exact HB.out)) hb); have n1_ := Aside0.mk (hbox); have n2_ := Aside0.mk ((by rw [hg]; exact (below_size (by repeat (first | (with_reducible first | exact HB.out | apply below_alloc | apply pw_below_drewN | apply below_drew1) | exact HB.out))) : w.heap.size ≤ gb420)); have n3_ := Aside0.mk ((by rw [hg]; exact (below_size (by repeat (first | (with_reducible first | exact HB.out | apply below_alloc | apply pw_below_drewN | apply below_drew1) | exact HB.out))) : w.heap.size ≤ gb420)); clear HB; have HB := n0_; have BK420 := n1_; have GW420 := n2_; have GE420 := n3_; clear n0_ n1_ n2_ n3_; clear hb hbox hg) | ((with_reducible refine gate_dst (N := 3) rfl ?_); refine box_event ?hg (N := 3) ?hd (cs := #[.slice A1_0 l1_0.length c1_0, .int .i64 a1_1, .int .i64 a1_2, .int .i64 a1_3, .int .i64 a1_4, .int .i64 a1_5]) (t := 69) ?hr ?_; (case hd => rfl); (case hg => rfl); (case hr => first | (go_simp; done) | (go_simp; rfl)); intro gb421 hg w30 hbox hb; have n0_ := Aside0.mk (blk_below (g := gb420) (o := .cells #[.slice A0_0 l0_0.length c0_0, .int .i64 a0_1, .int .i64 a0_2, .int .i64 a0_3, .int .i64 a0_4, .int .i64 a0_5] 69 (0, 0)) (by (with_reducible repeat (first | refine blk_drewN ?_ _ | refine blk_drew ?_ | refine blk_alloc ?_ _)); exact BK420.out) hb); have n1_ := Aside0.mk (below_step (by repeat (first | (with_reducible first | exact HB.out | apply below_alloc | apply pw_below_drewN | apply below_drew1 | refine below_set ?_ GE420.out) | exact HB.out)) hb); have n2_ := Aside0.mk (hbox); have n3_ := Aside0.mk ((by rw [hg]; exact (below_size (by repeat (first | (with_reducible first | exact HB.out | apply below_alloc | apply pw_below_drewN | apply below_drew1 | refine below_set ?_ GE420.out) | exact HB.out))) : w.heap.size ≤ gb421)); have n4_ := Aside0.mk ((by rw [hg]; exact (below_size (by repeat (first | (with_reducible first | exact HB.out | apply below_alloc | apply pw_below_drewN | apply below_drew1 | refine below_set ?_ GE420.out) | exact HB.out))) : w.heap.size ≤ gb421)); have n5_ := Aside0.mk ((by rw [hg]; exact Nat.ne_of_lt (blk_lt (g := gb420) (o := .cells #[.slice A0_0 l0_0.length c0_0, .int .i64 a0_1, .int .i64 a0_2, .int .i64 a0_3, .int .i64 a0_4, .int .i64 a0_5] 69 (0, 0)) (by (with_reducible repeat (first | refine blk_drewN ?_ _ | refine blk_drew ?_ | refine blk_alloc ?_ _)); exact BK420.out)) : gb420 ≠ gb421)); have n6_ := Aside0.mk ((by rw [hg]; exact Nat.ne_of_gt (blk_lt (g := gb420) (o := .cells #[.slice A0_0 l0_0.length c0_0, .int .i64 a0_1, .int .i64 a0_2, .int .i64 a0_3, .int .i64 a0_4, .int .i64 a0_5] 69 (0, 0)) (by (with_reducible repeat (first | refine blk_drewN ?_ _ | refine blk_drew ?_ | refine blk_alloc ?_ _)); exact BK420.out)) : gb421 ≠ gb420)); clear BK420; clear HB; have BK420 := n0_; have HB := n1_; have BK421 := n2_; have GW421 := n3_; have GE421 := n4_; have NB420_421 := n5_; have NB421_420 := n6_; clear n0_ n1_ n2_ n3_ n4_ n5_ n6_; clear hb hbox hg; have hnb31 := NB420_421.out; have hnc31 := NB421_420.out; have hcz32_0 : w30.cell? ⟨gb420, 0, none⟩ = some (.slice A0_0 l0_0.length c0_0) := (blk_cell BK420.out 0).trans rfl; have hcz32_1 : w30.cell? ⟨gb420, 1, none⟩ = some (.int .i64 a0_1) := (blk_cell BK420.out 1).trans rfl; have hcz32_2 : w30.cell? ⟨gb420, 2, none⟩ = some (.int .i64 a0_2) := (blk_cell BK420.out 2).trans rfl; have hcz32_3 : w30.cell? ⟨gb420, 3, none⟩ = some (.int .i64 a0_3) := (blk_cell BK420.out 3).trans rfl; have hcz32_4 : w30.cell? ⟨gb420, 4, none⟩ = some (.int .i64 a0_4) := (blk_cell BK420.out 4).trans rfl; have hcz32_5 : w30.cell? ⟨gb420, 5, none⟩ = some (.int .i64 a0_5) := (blk_cell BK420.out 5).trans rfl; have hfz32_0 := blk_frozen BK420.out 0; have hfz32_1 := blk_frozen BK420.out 1; have hfz32_2 := blk_frozen BK420.out 2; have hfz32_3 := blk_frozen BK420.out 3; have hfz32_4 := blk_frozen BK420.out 4; have hfz32_5 := blk_frozen BK420.out 5; have hcz33_0 : w30.cell? ⟨gb421, 0, none⟩ = some (.slice A1_0 l1_0.length c1_0) := (blk_cell BK421.out 0).trans rfl; have hcz33_1 : w30.cell? ⟨gb421, 1, none⟩ = some (.int .i64 a1_1) := (blk_cell BK421.out 1).trans rfl; have hcz33_2 : w30.cell? ⟨gb421, 2, none⟩ = some (.int .i64 a1_2) := (blk_cell BK421.out 2).trans rfl; have hcz33_3 : w30.cell? ⟨gb421, 3, none⟩ = some (.int .i64 a1_3) := (blk_cell BK421.out 3).trans rfl; have hcz33_4 : w30.cell? ⟨gb421, 4, none⟩ = some (.int .i64 a1_4) := (blk_cell BK421.out 4).trans rfl; have hcz33_5 : w30.cell? ⟨gb421, 5, none⟩ = some (.int .i64 a1_5) := (blk_cell BK421.out 5).trans rfl; have hfz33_0 := blk_frozen BK421.out 0; have hfz33_1 := blk_frozen BK421.out 1; have hfz33_2 := blk_frozen BK421.out 2; have hfz33_3 := blk_frozen BK421.out 3; have hfz33_4 := blk_frozen BK421.out 4; have hfz33_5 := blk_frozen BK421.out 5) | ((with_reducible refine gate_callee (f := 49) rfl ?_); refine goesL_ (some 9) rfl rfl Try.func49 (by kernel_rfl) rfl #[.slice A0_0 l0_0.length c0_0, .slice A1_0 l1_0.length c1_0] rfl (by (try simp only [List.map_toArray, List.map_cons, List.map_nil]); first | done | rfl | (simp only [List.length_drop, List.length_take]; rfl)) ?_; (with_reducible refine (foghornref10_Same.calls k _ _ l0_0 _ _ l1_0 true _ ?side1 ?side2 ?side3 ?side4 A3.out).mono ?_); (case side1 => repeat (first | exact (Kd.C_below HR0_0.out HB.out) | (with_reducible refine Kd.C_alloc ?_ _) | (with_reducible refine Kd.C_drewN ?_ _) | (with_reducible refine Kd.C_drew ?_))); (case side2 => exact HC0_0.out); (case side3 => repeat (first | exact (Kd.C_below HR1_0.out HB.out) | (with_reducible refine Kd.C_alloc ?_ _) | (with_reducible refine Kd.C_drewN ?_ _) | (with_reducible refine Kd.C_drew ?_))); (case side4 => exact HC1_0.out); rintro e w' ⟨rfl, ⟨nd, rfl⟩⟩; refine ⟨_, rfl, ?_⟩))
      go_ret
      exact ⟨by first | rfl | (simp [errW_none, errW_some] <;> rfl) | (simp [*, errW_none, errW_some] <;> rfl), by repeat (first | (with_reducible first | exact HB.out | apply below_alloc | apply pw_below_drewN | apply below_drew1 | refine below_set ?_ GE420.out | refine below_set ?_ GE421.out) | exact HB.out)⟩
  · replace c4 := Bool.eq_false_iff.mpr c4
    subst c4
    have H1 : (some false) = some r := by rw [if_neg (show ¬ (false = true) by decide)] at H; exact H
    clear H
    have H := H1
    clear H1
    obtain rfl := Option.some.inj H
    go_enter Try.func45, Try.ntmps45
    go_wp2_with (first | ((with_reducible refine gate_dst (N := 2) rfl ?_); refine box_event ?hg (N := 2) ?hd (cs := #[.slice A0_0 l0_0.length c0_0, .int .i64 a0_1, .int .i64 a0_2, .int .i64 a0_3, .int .i64 a0_4, .int .i64 a0_5]) (t := 69) ?hr ?_; (case hd => rfl); (case hg => rfl); (case hr => first | (go_simp; done) | (go_simp; rfl)); intro gb420 hg w34 hbox hb; have n0_ := Aside0.mk (below_step (by repeat (first | (with_reducible first | exact HB.out | apply below_alloc | apply pw_below_drewN | apply below_drew1) | exact HB.out)) hb); have n1_ := Aside0.mk (hbox); have n2_ := Aside0.mk ((by rw [hg]; exact (below_size (by repeat (first | (with_reducible first | exact HB.out | apply below_alloc | apply pw_below_drewN | apply below_drew1) | exact HB.out))) : w.heap.size ≤ gb420)); have n3_ := Aside0.mk ((by rw [hg]; exact (below_size (by repeat (first | (with_reducible first | exact HB.out | apply below_alloc | apply pw_below_drewN | apply below_drew1) | exact HB.out))) : w.heap.size ≤ gb420)); clear HB; have HB := n0_; have BK420 := n1_; have GW420 := n2_; have GE420 := n3_; clear n0_ n1_ n2_ n3_; clear hb hbox hg) | ((with_reducible refine gate_dst (N := 3) rfl ?_); refine box_event ?hg (N := 3) ?hd (cs := #[.slice A1_0 l1_0.length c1_0, .int .i64 a1_1, .int .i64 a1_2, .int .i64 a1_3, .int .i64 a1_4, .int .i64 a1_5]) (t := 69) ?hr ?_; (case hd => rfl); (case hg => rfl); (case hr => first | (go_simp; done) | (go_simp; rfl)); intro gb421 hg w35 hbox hb; have n0_ := Aside0.mk (blk_below (g := gb420) (o := .cells #[.slice A0_0 l0_0.length c0_0, .int .i64 a0_1, .int .i64 a0_2, .int .i64 a0_3, .int .i64 a0_4, .int .i64 a0_5] 69 (0, 0)) (by (with_reducible repeat (first | refine blk_drewN ?_ _ | refine blk_drew ?_ | refine blk_alloc ?_ _)); exact BK420.out) hb); have n1_ := Aside0.mk (below_step (by repeat (first | (with_reducible first | exact HB.out | apply below_alloc | apply pw_below_drewN | apply below_drew1 | refine below_set ?_ GE420.out) | exact HB.out)) hb); have n2_ := Aside0.mk (hbox); have n3_ := Aside0.mk ((by rw [hg]; exact (below_size (by repeat (first | (with_reducible first | exact HB.out | apply below_alloc | apply pw_below_drewN | apply below_drew1 | refine below_set ?_ GE420.out) | exact HB.out))) : w.heap.size ≤ gb421)); have n4_ := Aside0.mk ((by rw [hg]; exact (below_size (by repeat (first | (with_reducible first | exact HB.out | apply below_alloc | apply pw_below_drewN | apply below_drew1 | refine below_set ?_ GE420.out) | exact HB.out))) : w.heap.size ≤ gb421)); have n5_ := Aside0.mk ((by rw [hg]; exact Nat.ne_of_lt (blk_lt (g := gb420) (o := .cells #[.slice A0_0 l0_0.length c0_0, .int .i64 a0_1, .int .i64 a0_2, .int .i64 a0_3, .int .i64 a0_4, .int .i64 a0_5] 69 (0, 0)) (by (with_reducible repeat (first | refine blk_drewN ?_ _ | refine blk_drew ?_ | refine blk_alloc ?_ _)); exact BK420.out)) : gb420 ≠ gb421)); have n6_ := Aside0.mk ((by rw [hg]; exact Nat.ne_of_gt (blk_lt (g := gb420) (o := .cells #[.slice A0_0 l0_0.length c0_0, .int .i64 a0_1, .int .i64 a0_2, .int .i64 a0_3, .int .i64 a0_4, .int .i64 a0_5] 69 (0, 0)) (by (with_reducible repeat (first | refine blk_drewN ?_ _ | refine blk_drew ?_ | refine blk_alloc ?_ _)); exact BK420.out)) : gb421 ≠ gb420)); clear BK420; clear HB; have BK420 := n0_; have HB := n1_; have BK421 := n2_; have GW421 := n3_; have GE421 := n4_; have NB420_421 := n5_; have NB421_420 := n6_; clear n0_ n1_ n2_ n3_ n4_ n5_ n6_; clear hb hbox hg; have hnb36 := NB420_421.out; have hnc36 := NB421_420.out; have hcz37_0 : w35.cell? ⟨gb420, 0, none⟩ = some (.slice A0_0 l0_0.length c0_0) := (blk_cell BK420.out 0).trans rfl; have hcz37_1 : w35.cell? ⟨gb420, 1, none⟩ = some (.int .i64 a0_1) := (blk_cell BK420.out 1).trans rfl; have hcz37_2 : w35.cell? ⟨gb420, 2, none⟩ = some (.int .i64 a0_2) := (blk_cell BK420.out 2).trans rfl; have hcz37_3 : w35.cell? ⟨gb420, 3, none⟩ = some (.int .i64 a0_3) := (blk_cell BK420.out 3).trans rfl; have hcz37_4 : w35.cell? ⟨gb420, 4, none⟩ = some (.int .i64 a0_4) := (blk_cell BK420.out 4).trans rfl; have hcz37_5 : w35.cell? ⟨gb420, 5, none⟩ = some (.int .i64 a0_5) := (blk_cell BK420.out 5).trans rfl; have hfz37_0 := blk_frozen BK420.out 0; have hfz37_1 := blk_frozen BK420.out 1; have hfz37_2 := blk_frozen BK420.out 2; have hfz37_3 := blk_frozen BK420.out 3; have hfz37_4 := blk_frozen BK420.out 4; have hfz37_5 := blk_frozen BK420.out 5; have hcz38_0 : w35.cell? ⟨gb421, 0, none⟩ = some (.slice A1_0 l1_0.length c1_0) := (blk_cell BK421.out 0).trans rfl; have hcz38_1 : w35.cell? ⟨gb421, 1, none⟩ = some (.int .i64 a1_1) := (blk_cell BK421.out 1).trans rfl; have hcz38_2 : w35.cell? ⟨gb421, 2, none⟩ = some (.int .i64 a1_2) := (blk_cell BK421.out 2).trans rfl; have hcz38_3 : w35.cell? ⟨gb421, 3, none⟩ = some (.int .i64 a1_3) := (blk_cell BK421.out 3).trans rfl; have hcz38_4 : w35.cell? ⟨gb421, 4, none⟩ = some (.int .i64 a1_4) := (blk_cell BK421.out 4).trans rfl; have hcz38_5 : w35.cell? ⟨gb421, 5, none⟩ = some (.int .i64 a1_5) := (blk_cell BK421.out 5).trans rfl; have hfz38_0 := blk_frozen BK421.out 0; have hfz38_1 := blk_frozen BK421.out 1; have hfz38_2 := blk_frozen BK421.out 2; have hfz38_3 := blk_frozen BK421.out 3; have hfz38_4 := blk_frozen BK421.out 4; have hfz38_5 := blk_frozen BK421.out 5) | ((with_reducible refine gate_callee (f := 49) rfl ?_); refine goesL_ (some 9) rfl rfl Try.func49 (by kernel_rfl) rfl #[.slice A0_0 l0_0.length c0_0, .slice A1_0 l1_0.length c1_0] rfl (by (try simp only [List.map_toArray, List.map_cons, List.map_nil]); first | done | rfl | (simp only [List.length_drop, List.length_take]; rfl)) ?_; (with_reducible refine (foghornref10_Same.calls k _ _ l0_0 _ _ l1_0 false _ ?side1 ?side2 ?side3 ?side4 A3.out).mono ?_); (case side1 => repeat (first | exact (Kd.C_below HR0_0.out HB.out) | (with_reducible refine Kd.C_alloc ?_ _) | (with_reducible refine Kd.C_drewN ?_ _) | (with_reducible refine Kd.C_drew ?_))); (case side2 => exact HC0_0.out); (case side3 => repeat (first | exact (Kd.C_below HR1_0.out HB.out) | (with_reducible refine Kd.C_alloc ?_ _) | (with_reducible refine Kd.C_drewN ?_ _) | (with_reducible refine Kd.C_drew ?_))); (case side4 => exact HC1_0.out); rintro e w' ⟨rfl, ⟨nd, rfl⟩⟩; refine ⟨_, rfl, ?_⟩))
    go_ret
    exact ⟨by first | rfl | (simp [errW_none, errW_some] <;> rfl) | (simp [*, errW_none, errW_some] <;> rfl), by repeat (first | (with_reducible first | exact HB.out | apply below_alloc | apply pw_below_drewN | apply below_drew1 | refine below_set ?_ GE420.out | refine below_set ?_ GE421.out) | exact HB.out)⟩
end Go.Proofs.Ytkphinfijppkeaa.G
namespace Go.Proofs.Ytkphinfijppkeaa.G
open Go.RowKit Go.Proofs.YtkphinfijppkeaaW.PrintWords Go.Proofs.YtkphinfijppkeaaW.PrintLast Go.Proofs.YtkphinfijppkeaaW.PrintMore
attribute [local go_sem] max2_int min2_int max_two min_two max_three min_three max_four min_four
set_option linter.unusedVariables false
set_option linter.unusedSimpArgs false
def addT (a b : Int) : Int := if a + b < 1099511627776 then a + b else 1099511627776
theorem add_is (a b : Int) (ha : tmB a = true) (hb : tmB b = true) : tick_Add.f a b = some (addT a b, 0) := by
  unfold tick_Add.f tick_all.f addT
  obtain ⟨a1, a2⟩ := (tm_iff a).1 ha
  obtain ⟨b1, b2⟩ := (tm_iff b).1 hb
  have e : wrap64 (a + b) = a + b := by unfold wrap64; omega
  simp [a1, a2, b1, b2, e, mn_is]
def drawM (d m : Int) : Int := if Int.tmod d m < 0 then Int.tmod d m + m else Int.tmod d m
theorem drawM_in (d m : Int) (hm : 0 < m) : 0 ≤ drawM d m ∧ drawM d m < m := by
  have h1 := Int.tmod_lt_of_pos d hm
  have h2 := Int.lt_tmod_of_pos d hm
  unfold drawM
  split <;> omega
theorem step_in {b : S74} (hb : backB b = true) {n : Int} (_hn : 0 ≤ n) : 1 ≤ stepI b.f0 b.f1 n ∧ stepI b.f0 b.f1 n ≤ 1073741824 := by
  unfold backB at hb
  simp only [Bool.and_eq_true, decide_eq_true_eq] at hb
  obtain ⟨h1, h2, h3, h4, h5, h6⟩ := hb
  have hp : (1 : Int) ≤ 2 ^ n.toNat := by
    have : (0 : Int) < 2 ^ n.toNat := Int.pow_pos (by decide)
    omega
  have hq : b.f0 * 1 ≤ b.f0 * 2 ^ n.toNat := Int.mul_le_mul_of_nonneg_left hp (by omega)
  unfold stepI
  split <;> omega
theorem step_is {b : S74} (hb : backB b = true) {n : Int} (hn : 0 ≤ n) : backoff_Step.f b.f0 b.f1 b.f2 n = some (stepI b.f0 b.f1 n, 0) := by
  unfold backB at hb
  simp only [Bool.and_eq_true, decide_eq_true_eq] at hb
  obtain ⟨h1, h2, h3, h4, h5, h6⟩ := hb
  unfold backoff_Step.f
  rw [if_pos ⟨⟨⟨h1, h2⟩, ⟨h3, h4⟩, h5, h6⟩, hn⟩]
def waitW (b : S74) (n draw : Int) : Int := stepI b.f0 b.f1 n + drawM draw (b.f2 + 1)
theorem back_jit {b : S74} (hb : backB b = true) : 0 ≤ b.f2 ∧ b.f2 ≤ 1048576 := by
  unfold backB at hb
  simp only [Bool.and_eq_true, decide_eq_true_eq] at hb
  exact ⟨hb.2.2.2.2.1, hb.2.2.2.2.2⟩
theorem wait_in {b : S74} (hb : backB b = true) {n : Int} (hn : 0 ≤ n) (draw : Int) : 1 ≤ waitW b n draw ∧ waitW b n draw ≤ 1074790400 := by
  have h1 := step_in hb hn
  have h2 := back_jit hb
  have h3 := drawM_in draw (b.f2 + 1) (by omega)
  unfold waitW
  omega
set_option maxHeartbeats 8000000 in
set_option maxRecDepth 100000 in
theorem wait84_calls (b : S74) (hb : backB b = true) (n : Int) (hn : 0 ≤ n) (draw : Int) (w : World) : Calls Try.prog 84 #[.agg #[.int .i64 b.f0, .int .i64 b.f1, .int .i64 b.f2], .int .i64 n, .int .i64 draw] w fun e w' => e = .returned (.tuple #[.int .i64 (waitW b n draw), .int .i64 0]) ∧ Below w.heap.size w w' := by
  have hs := step_in hb hn
  have hj := back_jit hb
  have HS := Aside0.mk (step_is hb hn)
  have hd := drawM_in draw (b.f2 + 1) (by omega)
  obtain ⟨s, hsn⟩ : ∃ s, stepI b.f0 b.f1 n = s := ⟨_, rfl⟩
  have HV := Aside0.mk (show waitW b n draw = s + drawM draw (b.f2 + 1) by unfold waitW; rw [hsn])
  rw [hsn] at HS hs
  rw [HV.out]
  unfold drawM at hd ⊢
  have h1 := Int.tmod_lt_of_pos draw (show 0 < b.f2 + 1 by omega)
  have h2 := Int.lt_tmod_of_pos draw (show 0 < b.f2 + 1 by omega)
  have hF := Aside0.mk (Fr.Frame.start w)
  have HC : True := trivial
  obtain ⟨q, hq⟩ : ∃ q, Int.tmod draw (b.f2 + 1) = q := ⟨_, rfl⟩
  rw [hq] at hd h1 h2 ⊢
  have g1 : ¬ b.f2 + 1 = 0 := by omega
  clear hb hsn
  by_cases hneg : q < 0
  · rw [if_pos hneg] at hd ⊢
    go_enter Try.func84, Try.ntmps84
    go_wp2_with (first | ((with_reducible refine gate_store rfl ?_); apply Fr.fr_store hF.out rfl rfl rfl; (case hp => rfl); (case hx => first | (go_simp; rfl) | rfl); (case hu => (simp only [Value.cells]; rfl)); (case hs => (repeat (first | exact Fr.Spot.here _ _ | apply Fr.Spot.there))); (case ht => kernel_rfl); (case h1 => simp [Value.oneCell']); (case hfit => simp); intro W hF1; simp only [Fr.patch, List.take_zero, List.nil_append, List.drop, List.append_nil, List.take, List.cons_append, List.length_cons, List.length_nil, Nat.reduceAdd] at hF1; have HC1 := hF1.cells; simp only [Fr.Cells, List.length_cons, List.length_nil, Nat.reduceAdd, and_true] at HC1; clear hF HC; have HC := HC1; have hF := Aside0.mk hF1; clear hF1 HC1) | ((first | (with_reducible refine Fr.gate_alloc rfl ?_) | (with_reducible refine Fr.gate_box rfl ?_)); apply Fr.fr_box hF.out rfl; (case hrun => first | (go_simp; done) | (go_simp; rfl)); intro g W hF1; have HC1 := hF1.cells; simp only [Fr.Cells, List.length_cons, List.length_nil, Nat.reduceAdd, and_true] at HC1; clear hF HC; have HC := HC1; have hF := Aside0.mk hF1; clear hF1 HC1))
    (with_reducible refine (backoff_Step.calls b.f0 b.f1 b.f2 n s 0 _ HS.out).mono ?_); rintro e W ⟨rfl, hb⟩; have hF1 := hF.out.call hb; clear hb; have HC1 := hF1.cells; simp only [Fr.Cells, List.length_cons, List.length_nil, Nat.reduceAdd, and_true] at HC1; clear hF HC; have HC := HC1; have hF := Aside0.mk hF1; clear hF1 HC1
    go_wp2_with (first | ((with_reducible refine gate_store rfl ?_); apply Fr.fr_store hF.out rfl rfl rfl; (case hp => rfl); (case hx => first | (go_simp; rfl) | rfl); (case hu => (simp only [Value.cells]; rfl)); (case hs => (repeat (first | exact Fr.Spot.here _ _ | apply Fr.Spot.there))); (case ht => kernel_rfl); (case h1 => simp [Value.oneCell']); (case hfit => simp); intro W hF1; simp only [Fr.patch, List.take_zero, List.nil_append, List.drop, List.append_nil, List.take, List.cons_append, List.length_cons, List.length_nil, Nat.reduceAdd] at hF1; have HC1 := hF1.cells; simp only [Fr.Cells, List.length_cons, List.length_nil, Nat.reduceAdd, and_true] at HC1; clear hF HC; have HC := HC1; have hF := Aside0.mk hF1; clear hF1 HC1) | ((first | (with_reducible refine Fr.gate_alloc rfl ?_) | (with_reducible refine Fr.gate_box rfl ?_)); apply Fr.fr_box hF.out rfl; (case hrun => first | (go_simp; done) | (go_simp; rfl)); intro g W hF1; have HC1 := hF1.cells; simp only [Fr.Cells, List.length_cons, List.length_nil, Nat.reduceAdd, and_true] at HC1; clear hF HC; have HC := HC1; have hF := Aside0.mk hF1; clear hF1 HC1))
    go_ret2
    exact ⟨rfl, hF.out.below⟩
  · have hpos : 0 ≤ q := by omega
    rw [if_neg hneg] at hd ⊢
    clear hneg
    go_enter Try.func84, Try.ntmps84
    go_wp2_with (first | ((with_reducible refine gate_store rfl ?_); apply Fr.fr_store hF.out rfl rfl rfl; (case hp => rfl); (case hx => first | (go_simp; rfl) | rfl); (case hu => (simp only [Value.cells]; rfl)); (case hs => (repeat (first | exact Fr.Spot.here _ _ | apply Fr.Spot.there))); (case ht => kernel_rfl); (case h1 => simp [Value.oneCell']); (case hfit => simp); intro W hF1; simp only [Fr.patch, List.take_zero, List.nil_append, List.drop, List.append_nil, List.take, List.cons_append, List.length_cons, List.length_nil, Nat.reduceAdd] at hF1; have HC1 := hF1.cells; simp only [Fr.Cells, List.length_cons, List.length_nil, Nat.reduceAdd, and_true] at HC1; clear hF HC; have HC := HC1; have hF := Aside0.mk hF1; clear hF1 HC1) | ((first | (with_reducible refine Fr.gate_alloc rfl ?_) | (with_reducible refine Fr.gate_box rfl ?_)); apply Fr.fr_box hF.out rfl; (case hrun => first | (go_simp; done) | (go_simp; rfl)); intro g W hF1; have HC1 := hF1.cells; simp only [Fr.Cells, List.length_cons, List.length_nil, Nat.reduceAdd, and_true] at HC1; clear hF HC; have HC := HC1; have hF := Aside0.mk hF1; clear hF1 HC1))
    (with_reducible refine (backoff_Step.calls b.f0 b.f1 b.f2 n s 0 _ HS.out).mono ?_); rintro e W ⟨rfl, hb⟩; have hF1 := hF.out.call hb; clear hb; have HC1 := hF1.cells; simp only [Fr.Cells, List.length_cons, List.length_nil, Nat.reduceAdd, and_true] at HC1; clear hF HC; have HC := HC1; have hF := Aside0.mk hF1; clear hF1 HC1
    go_wp2_with (first | ((with_reducible refine gate_store rfl ?_); apply Fr.fr_store hF.out rfl rfl rfl; (case hp => rfl); (case hx => first | (go_simp; rfl) | rfl); (case hu => (simp only [Value.cells]; rfl)); (case hs => (repeat (first | exact Fr.Spot.here _ _ | apply Fr.Spot.there))); (case ht => kernel_rfl); (case h1 => simp [Value.oneCell']); (case hfit => simp); intro W hF1; simp only [Fr.patch, List.take_zero, List.nil_append, List.drop, List.append_nil, List.take, List.cons_append, List.length_cons, List.length_nil, Nat.reduceAdd] at hF1; have HC1 := hF1.cells; simp only [Fr.Cells, List.length_cons, List.length_nil, Nat.reduceAdd, and_true] at HC1; clear hF HC; have HC := HC1; have hF := Aside0.mk hF1; clear hF1 HC1) | ((first | (with_reducible refine Fr.gate_alloc rfl ?_) | (with_reducible refine Fr.gate_box rfl ?_)); apply Fr.fr_box hF.out rfl; (case hrun => first | (go_simp; done) | (go_simp; rfl)); intro g W hF1; have HC1 := hF1.cells; simp only [Fr.Cells, List.length_cons, List.length_nil, Nat.reduceAdd, and_true] at HC1; clear hF HC; have HC := HC1; have hF := Aside0.mk hF1; clear hF1 HC1))
    go_ret2
    exact ⟨rfl, hF.out.below⟩
theorem duty_facts {c : Cf} {d : Dy} (h : dutyB c d = true) : chainE c d.ro d.pl = 0 ∧ rightB d.ls = true ∧ tmB d.due = true ∧ 0 ≤ d.tr ∧ d.tr < (rd_T76 c.rs (recvV c d.ro d.pl)).f2 ∧ 1 ≤ d.st ∧ d.st ≤ 3 := by
  unfold dutyB at h
  simp only [Bool.and_eq_true, decide_eq_true_eq] at h
  exact h
theorem rec_of {c : Cf} (h : cfgB c = true) {k : Nat} (hk : k < c.rs.length) : recB (rd_T76 c.rs (k : Nat)) = true := by
  unfold cfgB at h
  simp only [Bool.and_eq_true] at h
  unfold recsB at h
  have := List.all_eq_true.1 h.1 k (List.mem_range.2 hk)
  simp only [Bool.and_eq_true] at this
  exact this.1
theorem rec_facts {r : S76} (h : recB r = true) : backB r.f1 = true ∧ 1 ≤ r.f2 ∧ r.f2 ≤ 100 := by
  unfold recB at h
  simp only [Bool.and_eq_true, decide_eq_true_eq] at h
  exact ⟨h.2.1, h.2.2.1, h.2.2.2.1⟩
set_option maxHeartbeats 8000000 in
set_option maxRecDepth 100000 in
theorem sent_same (c : Cf) (A0 : Option Addr) (c0 : Nat) (A1 : Option Addr) (c1 : Nat) (d : Dy) (A2 : Option Addr) (c2 : Nat) (now : Int) (ok : Bool) (draw : Int) (w : World) (hr0 : Kd.C k76 w A0 c.rs.length c.rs) (hl0 : c.rs.length ≤ c0) (hr1 : Kd.C k58 w A1 c.ro.length c.ro) (hwf : ∀ x ∈ c.ro, WfR x) (hr2 : Kd.C k92 w A2 d.ls.length d.ls) (hok : ok = false) (hd : dutyB c d = true) (hn : tmB now = true) (hle : d.due ≤ now) (x : S76) (hx : rd_T76 c.rs (recvV c d.ro d.pl) = x) (hne : d.tr + 1 ≠ x.f2) :
    Calls Try.prog 48 #[.agg #[.slice A0 c.rs.length c0, .slice A1 c.ro.length c1, .int .i64 c.rep, .int .i64 c.beat], .agg #[.slice A2 d.ls.length c2, .int .i64 d.ro, .int .i64 d.pl, .int .i64 d.tr, .int .i64 d.due, .int .i64 d.st], .int .i64 now, .bool ok, .int .i64 draw] w fun e w' => e = .returned (.tuple #[.agg #[.slice A2 d.ls.length c2, .int .i64 d.ro, .int .i64 d.pl, .int .i64 (d.tr + 1), .int .i64 (addT now (waitW x.f1 d.tr draw)), .int .i64 d.st], .bool false, .int .i64 0]) ∧ Below w.heap.size w w' := by
  subst hok
  have hne2 : (d.tr + 1 == x.f2) = false := by rw [beq_eq_false_iff_ne]; exact hne
  have HDR := Aside0.mk (fun W (hb : Below w.heap.size w W) => dutyRight_calls c A0 c0 A1 c1 d A2 c2 W (Kd.C_below hr0 hb) hl0 (Kd.C_below hr1 hb) hwf (Kd.C_below hr2 hb))
  obtain ⟨hch, _, hdue, htr0, htr1, hst1, hst2⟩ := duty_facts hd
  obtain ⟨k, hk, hrk⟩ := recv_in hch
  have HR0 := Aside0.mk hr0
  have HRV := Aside0.mk (fun W (hb : Below w.heap.size w W) => receiver_calls c A0 c0 A1 c1 d.ro d.pl W (Kd.C_below hr0 hb) hl0 (Kd.C_below hr1 hb) hwf)
  have HAF := Aside0.mk (fun W (hb : Below w.heap.size w W) => after_calls c A0 c0 A1 c1 d.ro d.pl W (Kd.C_below hr0 hb) hl0 (Kd.C_below hr1 hb) hwf)
  rw [hch, hrk] at HRV
  rw [hch] at HAF
  have hrec := rec_facts (rec_of (chain_facts hch).1 hk)
  have hlti : (k : Int) < (c.rs.length : Int) := by omega
  have hll0 : c.rs.length ≤ 9223372036854775807 := hr0.2.1
  obtain ⟨ad, e1, a0, a1, a2, a3, a4, a5, a6, a7, a8⟩ := at_T76 HR0.out (k : Int) (by omega) hlti
  cases e1
  rw [Int.toNat_natCast] at a0 a1 a2 a3 a4 a5 a6 a7 a8
  rw [hrk] at htr1 hx
  rw [hx] at a0 a1 a2 a3 a4 a5 a6 a7 a8 hrec htr1
  have g0 : (0 : Int) ≤ (k : Int) := by omega
  have g3 : IntKind.i64.wrap (k : Int) = k := by rw [IntKind.wrap_i64]; omega
  have HW := Aside0.mk (fun W => wait84_calls x.f1 hrec.1 d.tr htr0 draw W)
  have hwi := wait_in hrec.1 htr0 draw
  have hwt : tmB (waitW x.f1 d.tr draw) = true := (tm_iff _).2 ⟨by omega, by omega⟩
  have HADD := Aside0.mk (add_is now (waitW x.f1 d.tr draw) hn hwt)
  obtain ⟨ww, hww⟩ : ∃ ww, waitW x.f1 d.tr draw = ww := ⟨_, rfl⟩
  rw [hww] at HW HADD ⊢
  obtain ⟨dd, hdd⟩ : ∃ dd, addT now ww = dd := ⟨_, rfl⟩
  rw [hdd] at HADD ⊢
  obtain ⟨av, hav⟩ : ∃ av, afterV c d.ro d.pl = av := ⟨_, rfl⟩
  rw [hav] at HAF
  rw [hd] at HDR
  have H3 := Aside0.mk hn
  have hle' : ¬ now < d.due := by omega
  have htr2 : x.f2 ≤ 100 := hrec.2.2
  clear hr0 hl0 hr1 hwf hr2 hd hn hch hdue hst1 hst2 hrec hwi hne hwt hww hdd hrk hx
  have hF := Aside0.mk (Fr.Frame.start w)
  have HC : True := trivial
  go_enter Try.func48, Try.ntmps48
  go_wp2_with (first | ((with_reducible refine gate_store rfl ?_); apply Fr.fr_store hF.out rfl rfl rfl; (case hp => rfl); (case hx => first | (go_simp; rfl) | rfl); (case hu => (simp only [Value.cells]; rfl)); (case hs => (repeat (first | exact Fr.Spot.here _ _ | apply Fr.Spot.there))); (case ht => kernel_rfl); (case h1 => simp [Value.oneCell']); (case hfit => simp); intro W hF1; simp only [Fr.patch, List.take_zero, List.nil_append, List.drop, List.append_nil, List.take, List.cons_append, List.length_cons, List.length_nil, Nat.reduceAdd] at hF1; have HC1 := hF1.cells; simp only [Fr.Cells, List.length_cons, List.length_nil, Nat.reduceAdd, and_true] at HC1; clear hF HC; have HC := HC1; have hF := Aside0.mk hF1; clear hF1 HC1) | ((first | (with_reducible refine Fr.gate_alloc rfl ?_) | (with_reducible refine Fr.gate_box rfl ?_)); apply Fr.fr_box hF.out rfl; (case hrun => first | (go_simp; done) | (go_simp; rfl)); intro g W hF1; have HC1 := hF1.cells; simp only [Fr.Cells, List.length_cons, List.length_nil, Nat.reduceAdd, and_true] at HC1; clear hF HC; have HC := HC1; have hF := Aside0.mk hF1; clear hF1 HC1))
  (with_reducible refine (HDR.out _ hF.out.below).mono ?_); rintro e W ⟨rfl, hb⟩; have hF1 := hF.out.call hb; clear hb; have HC1 := hF1.cells; simp only [Fr.Cells, List.length_cons, List.length_nil, Nat.reduceAdd, and_true] at HC1; clear hF HC; have HC := HC1; have hF := Aside0.mk hF1; clear hF1 HC1
  go_wp2_with (first | ((with_reducible refine gate_store rfl ?_); apply Fr.fr_store hF.out rfl rfl rfl; (case hp => rfl); (case hx => first | (go_simp; rfl) | rfl); (case hu => (simp only [Value.cells]; rfl)); (case hs => (repeat (first | exact Fr.Spot.here _ _ | apply Fr.Spot.there))); (case ht => kernel_rfl); (case h1 => simp [Value.oneCell']); (case hfit => simp); intro W hF1; simp only [Fr.patch, List.take_zero, List.nil_append, List.drop, List.append_nil, List.take, List.cons_append, List.length_cons, List.length_nil, Nat.reduceAdd] at hF1; have HC1 := hF1.cells; simp only [Fr.Cells, List.length_cons, List.length_nil, Nat.reduceAdd, and_true] at HC1; clear hF HC; have HC := HC1; have hF := Aside0.mk hF1; clear hF1 HC1) | ((first | (with_reducible refine Fr.gate_alloc rfl ?_) | (with_reducible refine Fr.gate_box rfl ?_)); apply Fr.fr_box hF.out rfl; (case hrun => first | (go_simp; done) | (go_simp; rfl)); intro g W hF1; have HC1 := hF1.cells; simp only [Fr.Cells, List.length_cons, List.length_nil, Nat.reduceAdd, and_true] at HC1; clear hF HC; have HC := HC1; have hF := Aside0.mk hF1; clear hF1 HC1))
  (with_reducible refine (tick_Right.calls now _ _ (tick_is now)).mono ?_); rintro e W ⟨rfl, hb⟩; have hF1 := hF.out.call hb.below; clear hb; have HC1 := hF1.cells; simp only [Fr.Cells, List.length_cons, List.length_nil, Nat.reduceAdd, and_true] at HC1; clear hF HC; have HC := HC1; have hF := Aside0.mk hF1; clear hF1 HC1
  simp only [H3.out]
  go_wp2_with (first | ((with_reducible refine gate_store rfl ?_); apply Fr.fr_store hF.out rfl rfl rfl; (case hp => rfl); (case hx => first | (go_simp; rfl) | rfl); (case hu => (simp only [Value.cells]; rfl)); (case hs => (repeat (first | exact Fr.Spot.here _ _ | apply Fr.Spot.there))); (case ht => kernel_rfl); (case h1 => simp [Value.oneCell']); (case hfit => simp); intro W hF1; simp only [Fr.patch, List.take_zero, List.nil_append, List.drop, List.append_nil, List.take, List.cons_append, List.length_cons, List.length_nil, Nat.reduceAdd] at hF1; have HC1 := hF1.cells; simp only [Fr.Cells, List.length_cons, List.length_nil, Nat.reduceAdd, and_true] at HC1; clear hF HC; have HC := HC1; have hF := Aside0.mk hF1; clear hF1 HC1) | ((first | (with_reducible refine Fr.gate_alloc rfl ?_) | (with_reducible refine Fr.gate_box rfl ?_)); apply Fr.fr_box hF.out rfl; (case hrun => first | (go_simp; done) | (go_simp; rfl)); intro g W hF1; have HC1 := hF1.cells; simp only [Fr.Cells, List.length_cons, List.length_nil, Nat.reduceAdd, and_true] at HC1; clear hF HC; have HC := HC1; have hF := Aside0.mk hF1; clear hF1 HC1))
  (with_reducible refine (HRV.out _ hF.out.below).mono ?_); rintro e W ⟨rfl, hb⟩; have hF1 := hF.out.call hb; clear hb; have HC1 := hF1.cells; simp only [Fr.Cells, List.length_cons, List.length_nil, Nat.reduceAdd, and_true] at HC1; clear hF HC; have HC := HC1; have hF := Aside0.mk hF1; clear hF1 HC1
  replace a0 := (hF.out.below.cell (World.block_lt_of_cell? w _ a0)).trans a0
  replace a1 := (hF.out.below.cell (World.block_lt_of_cell? w _ a1)).trans a1
  replace a2 := (hF.out.below.cell (World.block_lt_of_cell? w _ a2)).trans a2
  replace a3 := (hF.out.below.cell (World.block_lt_of_cell? w _ a3)).trans a3
  replace a4 := (hF.out.below.cell (World.block_lt_of_cell? w _ a4)).trans a4
  replace a5 := (hF.out.below.cell (World.block_lt_of_cell? w _ a5)).trans a5
  replace a6 := (hF.out.below.cell (World.block_lt_of_cell? w _ a6)).trans a6
  replace a7 := (hF.out.below.cell (World.block_lt_of_cell? w _ a7)).trans a7
  replace a8 := (hF.out.below.cell (World.block_lt_of_cell? w _ a8)).trans a8
  go_wp2_with (first | ((with_reducible refine gate_store rfl ?_); apply Fr.fr_store hF.out rfl rfl rfl; (case hp => rfl); (case hx => first | (go_simp; rfl) | rfl); (case hu => (simp only [Value.cells]; rfl)); (case hs => (repeat (first | exact Fr.Spot.here _ _ | apply Fr.Spot.there))); (case ht => kernel_rfl); (case h1 => simp [Value.oneCell']); (case hfit => simp); intro W hF1; simp only [Fr.patch, List.take_zero, List.nil_append, List.drop, List.append_nil, List.take, List.cons_append, List.length_cons, List.length_nil, Nat.reduceAdd] at hF1; have HC1 := hF1.cells; simp only [Fr.Cells, List.length_cons, List.length_nil, Nat.reduceAdd, and_true] at HC1; clear hF HC; have HC := HC1; have hF := Aside0.mk hF1; clear hF1 HC1) | ((first | (with_reducible refine Fr.gate_alloc rfl ?_) | (with_reducible refine Fr.gate_box rfl ?_)); apply Fr.fr_box hF.out rfl; (case hrun => first | (go_simp; done) | (go_simp; rfl)); intro g W hF1; have HC1 := hF1.cells; simp only [Fr.Cells, List.length_cons, List.length_nil, Nat.reduceAdd, and_true] at HC1; clear hF HC; have HC := HC1; have hF := Aside0.mk hF1; clear hF1 HC1))
  (with_reducible refine (HW.out _).mono ?_); rintro e W ⟨rfl, hb⟩; have hF1 := hF.out.call hb; clear hb; have HC1 := hF1.cells; simp only [Fr.Cells, List.length_cons, List.length_nil, Nat.reduceAdd, and_true] at HC1; clear hF HC; have HC := HC1; have hF := Aside0.mk hF1; clear hF1 HC1
  go_wp2_with (first | ((with_reducible refine gate_store rfl ?_); apply Fr.fr_store hF.out rfl rfl rfl; (case hp => rfl); (case hx => first | (go_simp; rfl) | rfl); (case hu => (simp only [Value.cells]; rfl)); (case hs => (repeat (first | exact Fr.Spot.here _ _ | apply Fr.Spot.there))); (case ht => kernel_rfl); (case h1 => simp [Value.oneCell']); (case hfit => simp); intro W hF1; simp only [Fr.patch, List.take_zero, List.nil_append, List.drop, List.append_nil, List.take, List.cons_append, List.length_cons, List.length_nil, Nat.reduceAdd] at hF1; have HC1 := hF1.cells; simp only [Fr.Cells, List.length_cons, List.length_nil, Nat.reduceAdd, and_true] at HC1; clear hF HC; have HC := HC1; have hF := Aside0.mk hF1; clear hF1 HC1) | ((first | (with_reducible refine Fr.gate_alloc rfl ?_) | (with_reducible refine Fr.gate_box rfl ?_)); apply Fr.fr_box hF.out rfl; (case hrun => first | (go_simp; done) | (go_simp; rfl)); intro g W hF1; have HC1 := hF1.cells; simp only [Fr.Cells, List.length_cons, List.length_nil, Nat.reduceAdd, and_true] at HC1; clear hF HC; have HC := HC1; have hF := Aside0.mk hF1; clear hF1 HC1))
  (with_reducible refine (tick_Add.calls now ww dd 0 _ HADD.out).mono ?_); rintro e W ⟨rfl, hb⟩; have hF1 := hF.out.call hb; clear hb; have HC1 := hF1.cells; simp only [Fr.Cells, List.length_cons, List.length_nil, Nat.reduceAdd, and_true] at HC1; clear hF HC; have HC := HC1; have hF := Aside0.mk hF1; clear hF1 HC1
  go_wp2_with (first | ((with_reducible refine gate_store rfl ?_); apply Fr.fr_store hF.out rfl rfl rfl; (case hp => rfl); (case hx => first | (go_simp; rfl) | rfl); (case hu => (simp only [Value.cells]; rfl)); (case hs => (repeat (first | exact Fr.Spot.here _ _ | apply Fr.Spot.there))); (case ht => kernel_rfl); (case h1 => simp [Value.oneCell']); (case hfit => simp); intro W hF1; simp only [Fr.patch, List.take_zero, List.nil_append, List.drop, List.append_nil, List.take, List.cons_append, List.length_cons, List.length_nil, Nat.reduceAdd] at hF1; have HC1 := hF1.cells; simp only [Fr.Cells, List.length_cons, List.length_nil, Nat.reduceAdd, and_true] at HC1; clear hF HC; have HC := HC1; have hF := Aside0.mk hF1; clear hF1 HC1) | ((first | (with_reducible refine Fr.gate_alloc rfl ?_) | (with_reducible refine Fr.gate_box rfl ?_)); apply Fr.fr_box hF.out rfl; (case hrun => first | (go_simp; done) | (go_simp; rfl)); intro g W hF1; have HC1 := hF1.cells; simp only [Fr.Cells, List.length_cons, List.length_nil, Nat.reduceAdd, and_true] at HC1; clear hF HC; have HC := HC1; have hF := Aside0.mk hF1; clear hF1 HC1))
  refine bodyPost_ret ?_ rfl ⟨rfl, hF.out.below⟩
  simp [results, Try.results48, go_sem, HC]
set_option maxHeartbeats 8000000 in
set_option maxRecDepth 100000 in
theorem sent_next (c : Cf) (A0 : Option Addr) (c0 : Nat) (A1 : Option Addr) (c1 : Nat) (d : Dy) (A2 : Option Addr) (c2 : Nat) (now : Int) (ok : Bool) (draw : Int) (w : World) (hr0 : Kd.C k76 w A0 c.rs.length c.rs) (hl0 : c.rs.length ≤ c0) (hr1 : Kd.C k58 w A1 c.ro.length c.ro) (hwf : ∀ x ∈ c.ro, WfR x) (hr2 : Kd.C k92 w A2 d.ls.length d.ls) (hok : ok = false) (hd : dutyB c d = true) (hn : tmB now = true) (hle : d.due ≤ now) (x : S76) (hx : rd_T76 c.rs (recvV c d.ro d.pl) = x) (heq : d.tr + 1 = x.f2) :
    Calls Try.prog 48 #[.agg #[.slice A0 c.rs.length c0, .slice A1 c.ro.length c1, .int .i64 c.rep, .int .i64 c.beat], .agg #[.slice A2 d.ls.length c2, .int .i64 d.ro, .int .i64 d.pl, .int .i64 d.tr, .int .i64 d.due, .int .i64 d.st], .int .i64 now, .bool ok, .int .i64 draw] w fun e w' => e = .returned (.tuple #[.agg #[.slice A2 d.ls.length c2, .int .i64 d.ro, .int .i64 (afterV c d.ro d.pl), .int .i64 0, .int .i64 (addT now (waitW x.f1 d.tr draw)), .int .i64 d.st], .bool false, .int .i64 0]) ∧ Below w.heap.size w w' := by
  subst hok
  have heq2 : (d.tr + 1 == x.f2) = true := by rw [beq_iff_eq]; exact heq
  have HDR := Aside0.mk (fun W (hb : Below w.heap.size w W) => dutyRight_calls c A0 c0 A1 c1 d A2 c2 W (Kd.C_below hr0 hb) hl0 (Kd.C_below hr1 hb) hwf (Kd.C_below hr2 hb))
  obtain ⟨hch, _, hdue, htr0, htr1, hst1, hst2⟩ := duty_facts hd
  obtain ⟨k, hk, hrk⟩ := recv_in hch
  have HR0 := Aside0.mk hr0
  have HRV := Aside0.mk (fun W (hb : Below w.heap.size w W) => receiver_calls c A0 c0 A1 c1 d.ro d.pl W (Kd.C_below hr0 hb) hl0 (Kd.C_below hr1 hb) hwf)
  have HAF := Aside0.mk (fun W (hb : Below w.heap.size w W) => after_calls c A0 c0 A1 c1 d.ro d.pl W (Kd.C_below hr0 hb) hl0 (Kd.C_below hr1 hb) hwf)
  rw [hch, hrk] at HRV
  rw [hch] at HAF
  have hrec := rec_facts (rec_of (chain_facts hch).1 hk)
  have hlti : (k : Int) < (c.rs.length : Int) := by omega
  have hll0 : c.rs.length ≤ 9223372036854775807 := hr0.2.1
  obtain ⟨ad, e1, a0, a1, a2, a3, a4, a5, a6, a7, a8⟩ := at_T76 HR0.out (k : Int) (by omega) hlti
  cases e1
  rw [Int.toNat_natCast] at a0 a1 a2 a3 a4 a5 a6 a7 a8
  rw [hrk] at htr1 hx
  rw [hx] at a0 a1 a2 a3 a4 a5 a6 a7 a8 hrec htr1
  have g0 : (0 : Int) ≤ (k : Int) := by omega
  have g3 : IntKind.i64.wrap (k : Int) = k := by rw [IntKind.wrap_i64]; omega
  have HW := Aside0.mk (fun W => wait84_calls x.f1 hrec.1 d.tr htr0 draw W)
  have hwi := wait_in hrec.1 htr0 draw
  have hwt : tmB (waitW x.f1 d.tr draw) = true := (tm_iff _).2 ⟨by omega, by omega⟩
  have HADD := Aside0.mk (add_is now (waitW x.f1 d.tr draw) hn hwt)
  obtain ⟨ww, hww⟩ : ∃ ww, waitW x.f1 d.tr draw = ww := ⟨_, rfl⟩
  rw [hww] at HW HADD ⊢
  obtain ⟨dd, hdd⟩ : ∃ dd, addT now ww = dd := ⟨_, rfl⟩
  rw [hdd] at HADD ⊢
  obtain ⟨av, hav⟩ : ∃ av, afterV c d.ro d.pl = av := ⟨_, rfl⟩
  rw [hav] at HAF ⊢
  rw [hd] at HDR
  have H3 := Aside0.mk hn
  have hle' : ¬ now < d.due := by omega
  have htr2 : x.f2 ≤ 100 := hrec.2.2
  clear hr0 hl0 hr1 hwf hr2 hd hn hch hdue hst1 hst2 hrec hwi heq hwt hww hdd hrk hx
  have hF := Aside0.mk (Fr.Frame.start w)
  have HC : True := trivial
  go_enter Try.func48, Try.ntmps48
  go_wp2_with (first | ((with_reducible refine gate_store rfl ?_); apply Fr.fr_store hF.out rfl rfl rfl; (case hp => rfl); (case hx => first | (go_simp; rfl) | rfl); (case hu => (simp only [Value.cells]; rfl)); (case hs => (repeat (first | exact Fr.Spot.here _ _ | apply Fr.Spot.there))); (case ht => kernel_rfl); (case h1 => simp [Value.oneCell']); (case hfit => simp); intro W hF1; simp only [Fr.patch, List.take_zero, List.nil_append, List.drop, List.append_nil, List.take, List.cons_append, List.length_cons, List.length_nil, Nat.reduceAdd] at hF1; have HC1 := hF1.cells; simp only [Fr.Cells, List.length_cons, List.length_nil, Nat.reduceAdd, and_true] at HC1; clear hF HC; have HC := HC1; have hF := Aside0.mk hF1; clear hF1 HC1) | ((first | (with_reducible refine Fr.gate_alloc rfl ?_) | (with_reducible refine Fr.gate_box rfl ?_)); apply Fr.fr_box hF.out rfl; (case hrun => first | (go_simp; done) | (go_simp; rfl)); intro g W hF1; have HC1 := hF1.cells; simp only [Fr.Cells, List.length_cons, List.length_nil, Nat.reduceAdd, and_true] at HC1; clear hF HC; have HC := HC1; have hF := Aside0.mk hF1; clear hF1 HC1))
  (with_reducible refine (HDR.out _ hF.out.below).mono ?_); rintro e W ⟨rfl, hb⟩; have hF1 := hF.out.call hb; clear hb; have HC1 := hF1.cells; simp only [Fr.Cells, List.length_cons, List.length_nil, Nat.reduceAdd, and_true] at HC1; clear hF HC; have HC := HC1; have hF := Aside0.mk hF1; clear hF1 HC1
  go_wp2_with (first | ((with_reducible refine gate_store rfl ?_); apply Fr.fr_store hF.out rfl rfl rfl; (case hp => rfl); (case hx => first | (go_simp; rfl) | rfl); (case hu => (simp only [Value.cells]; rfl)); (case hs => (repeat (first | exact Fr.Spot.here _ _ | apply Fr.Spot.there))); (case ht => kernel_rfl); (case h1 => simp [Value.oneCell']); (case hfit => simp); intro W hF1; simp only [Fr.patch, List.take_zero, List.nil_append, List.drop, List.append_nil, List.take, List.cons_append, List.length_cons, List.length_nil, Nat.reduceAdd] at hF1; have HC1 := hF1.cells; simp only [Fr.Cells, List.length_cons, List.length_nil, Nat.reduceAdd, and_true] at HC1; clear hF HC; have HC := HC1; have hF := Aside0.mk hF1; clear hF1 HC1) | ((first | (with_reducible refine Fr.gate_alloc rfl ?_) | (with_reducible refine Fr.gate_box rfl ?_)); apply Fr.fr_box hF.out rfl; (case hrun => first | (go_simp; done) | (go_simp; rfl)); intro g W hF1; have HC1 := hF1.cells; simp only [Fr.Cells, List.length_cons, List.length_nil, Nat.reduceAdd, and_true] at HC1; clear hF HC; have HC := HC1; have hF := Aside0.mk hF1; clear hF1 HC1))
  (with_reducible refine (tick_Right.calls now _ _ (tick_is now)).mono ?_); rintro e W ⟨rfl, hb⟩; have hF1 := hF.out.call hb.below; clear hb; have HC1 := hF1.cells; simp only [Fr.Cells, List.length_cons, List.length_nil, Nat.reduceAdd, and_true] at HC1; clear hF HC; have HC := HC1; have hF := Aside0.mk hF1; clear hF1 HC1
  simp only [H3.out]
  go_wp2_with (first | ((with_reducible refine gate_store rfl ?_); apply Fr.fr_store hF.out rfl rfl rfl; (case hp => rfl); (case hx => first | (go_simp; rfl) | rfl); (case hu => (simp only [Value.cells]; rfl)); (case hs => (repeat (first | exact Fr.Spot.here _ _ | apply Fr.Spot.there))); (case ht => kernel_rfl); (case h1 => simp [Value.oneCell']); (case hfit => simp); intro W hF1; simp only [Fr.patch, List.take_zero, List.nil_append, List.drop, List.append_nil, List.take, List.cons_append, List.length_cons, List.length_nil, Nat.reduceAdd] at hF1; have HC1 := hF1.cells; simp only [Fr.Cells, List.length_cons, List.length_nil, Nat.reduceAdd, and_true] at HC1; clear hF HC; have HC := HC1; have hF := Aside0.mk hF1; clear hF1 HC1) | ((first | (with_reducible refine Fr.gate_alloc rfl ?_) | (with_reducible refine Fr.gate_box rfl ?_)); apply Fr.fr_box hF.out rfl; (case hrun => first | (go_simp; done) | (go_simp; rfl)); intro g W hF1; have HC1 := hF1.cells; simp only [Fr.Cells, List.length_cons, List.length_nil, Nat.reduceAdd, and_true] at HC1; clear hF HC; have HC := HC1; have hF := Aside0.mk hF1; clear hF1 HC1))
  (with_reducible refine (HRV.out _ hF.out.below).mono ?_); rintro e W ⟨rfl, hb⟩; have hF1 := hF.out.call hb; clear hb; have HC1 := hF1.cells; simp only [Fr.Cells, List.length_cons, List.length_nil, Nat.reduceAdd, and_true] at HC1; clear hF HC; have HC := HC1; have hF := Aside0.mk hF1; clear hF1 HC1
  replace a0 := (hF.out.below.cell (World.block_lt_of_cell? w _ a0)).trans a0
  replace a1 := (hF.out.below.cell (World.block_lt_of_cell? w _ a1)).trans a1
  replace a2 := (hF.out.below.cell (World.block_lt_of_cell? w _ a2)).trans a2
  replace a3 := (hF.out.below.cell (World.block_lt_of_cell? w _ a3)).trans a3
  replace a4 := (hF.out.below.cell (World.block_lt_of_cell? w _ a4)).trans a4
  replace a5 := (hF.out.below.cell (World.block_lt_of_cell? w _ a5)).trans a5
  replace a6 := (hF.out.below.cell (World.block_lt_of_cell? w _ a6)).trans a6
  replace a7 := (hF.out.below.cell (World.block_lt_of_cell? w _ a7)).trans a7
  replace a8 := (hF.out.below.cell (World.block_lt_of_cell? w _ a8)).trans a8
  go_wp2_with (first | ((with_reducible refine gate_store rfl ?_); apply Fr.fr_store hF.out rfl rfl rfl; (case hp => rfl); (case hx => first | (go_simp; rfl) | rfl); (case hu => (simp only [Value.cells]; rfl)); (case hs => (repeat (first | exact Fr.Spot.here _ _ | apply Fr.Spot.there))); (case ht => kernel_rfl); (case h1 => simp [Value.oneCell']); (case hfit => simp); intro W hF1; simp only [Fr.patch, List.take_zero, List.nil_append, List.drop, List.append_nil, List.take, List.cons_append, List.length_cons, List.length_nil, Nat.reduceAdd] at hF1; have HC1 := hF1.cells; simp only [Fr.Cells, List.length_cons, List.length_nil, Nat.reduceAdd, and_true] at HC1; clear hF HC; have HC := HC1; have hF := Aside0.mk hF1; clear hF1 HC1) | ((first | (with_reducible refine Fr.gate_alloc rfl ?_) | (with_reducible refine Fr.gate_box rfl ?_)); apply Fr.fr_box hF.out rfl; (case hrun => first | (go_simp; done) | (go_simp; rfl)); intro g W hF1; have HC1 := hF1.cells; simp only [Fr.Cells, List.length_cons, List.length_nil, Nat.reduceAdd, and_true] at HC1; clear hF HC; have HC := HC1; have hF := Aside0.mk hF1; clear hF1 HC1))
  (with_reducible refine (HW.out _).mono ?_); rintro e W ⟨rfl, hb⟩; have hF1 := hF.out.call hb; clear hb; have HC1 := hF1.cells; simp only [Fr.Cells, List.length_cons, List.length_nil, Nat.reduceAdd, and_true] at HC1; clear hF HC; have HC := HC1; have hF := Aside0.mk hF1; clear hF1 HC1
  go_wp2_with (first | ((with_reducible refine gate_store rfl ?_); apply Fr.fr_store hF.out rfl rfl rfl; (case hp => rfl); (case hx => first | (go_simp; rfl) | rfl); (case hu => (simp only [Value.cells]; rfl)); (case hs => (repeat (first | exact Fr.Spot.here _ _ | apply Fr.Spot.there))); (case ht => kernel_rfl); (case h1 => simp [Value.oneCell']); (case hfit => simp); intro W hF1; simp only [Fr.patch, List.take_zero, List.nil_append, List.drop, List.append_nil, List.take, List.cons_append, List.length_cons, List.length_nil, Nat.reduceAdd] at hF1; have HC1 := hF1.cells; simp only [Fr.Cells, List.length_cons, List.length_nil, Nat.reduceAdd, and_true] at HC1; clear hF HC; have HC := HC1; have hF := Aside0.mk hF1; clear hF1 HC1) | ((first | (with_reducible refine Fr.gate_alloc rfl ?_) | (with_reducible refine Fr.gate_box rfl ?_)); apply Fr.fr_box hF.out rfl; (case hrun => first | (go_simp; done) | (go_simp; rfl)); intro g W hF1; have HC1 := hF1.cells; simp only [Fr.Cells, List.length_cons, List.length_nil, Nat.reduceAdd, and_true] at HC1; clear hF HC; have HC := HC1; have hF := Aside0.mk hF1; clear hF1 HC1))
  (with_reducible refine (tick_Add.calls now ww dd 0 _ HADD.out).mono ?_); rintro e W ⟨rfl, hb⟩; have hF1 := hF.out.call hb; clear hb; have HC1 := hF1.cells; simp only [Fr.Cells, List.length_cons, List.length_nil, Nat.reduceAdd, and_true] at HC1; clear hF HC; have HC := HC1; have hF := Aside0.mk hF1; clear hF1 HC1
  go_wp2_with (first | ((with_reducible refine gate_store rfl ?_); apply Fr.fr_store hF.out rfl rfl rfl; (case hp => rfl); (case hx => first | (go_simp; rfl) | rfl); (case hu => (simp only [Value.cells]; rfl)); (case hs => (repeat (first | exact Fr.Spot.here _ _ | apply Fr.Spot.there))); (case ht => kernel_rfl); (case h1 => simp [Value.oneCell']); (case hfit => simp); intro W hF1; simp only [Fr.patch, List.take_zero, List.nil_append, List.drop, List.append_nil, List.take, List.cons_append, List.length_cons, List.length_nil, Nat.reduceAdd] at hF1; have HC1 := hF1.cells; simp only [Fr.Cells, List.length_cons, List.length_nil, Nat.reduceAdd, and_true] at HC1; clear hF HC; have HC := HC1; have hF := Aside0.mk hF1; clear hF1 HC1) | ((first | (with_reducible refine Fr.gate_alloc rfl ?_) | (with_reducible refine Fr.gate_box rfl ?_)); apply Fr.fr_box hF.out rfl; (case hrun => first | (go_simp; done) | (go_simp; rfl)); intro g W hF1; have HC1 := hF1.cells; simp only [Fr.Cells, List.length_cons, List.length_nil, Nat.reduceAdd, and_true] at HC1; clear hF HC; have HC := HC1; have hF := Aside0.mk hF1; clear hF1 HC1))
  (with_reducible refine (HAF.out _ hF.out.below).mono ?_); rintro e W ⟨rfl, hb⟩; have hF1 := hF.out.call hb; clear hb; have HC1 := hF1.cells; simp only [Fr.Cells, List.length_cons, List.length_nil, Nat.reduceAdd, and_true] at HC1; clear hF HC; have HC := HC1; have hF := Aside0.mk hF1; clear hF1 HC1
  go_wp2_with (first | ((with_reducible refine gate_store rfl ?_); apply Fr.fr_store hF.out rfl rfl rfl; (case hp => rfl); (case hx => first | (go_simp; rfl) | rfl); (case hu => (simp only [Value.cells]; rfl)); (case hs => (repeat (first | exact Fr.Spot.here _ _ | apply Fr.Spot.there))); (case ht => kernel_rfl); (case h1 => simp [Value.oneCell']); (case hfit => simp); intro W hF1; simp only [Fr.patch, List.take_zero, List.nil_append, List.drop, List.append_nil, List.take, List.cons_append, List.length_cons, List.length_nil, Nat.reduceAdd] at hF1; have HC1 := hF1.cells; simp only [Fr.Cells, List.length_cons, List.length_nil, Nat.reduceAdd, and_true] at HC1; clear hF HC; have HC := HC1; have hF := Aside0.mk hF1; clear hF1 HC1) | ((first | (with_reducible refine Fr.gate_alloc rfl ?_) | (with_reducible refine Fr.gate_box rfl ?_)); apply Fr.fr_box hF.out rfl; (case hrun => first | (go_simp; done) | (go_simp; rfl)); intro g W hF1; have HC1 := hF1.cells; simp only [Fr.Cells, List.length_cons, List.length_nil, Nat.reduceAdd, and_true] at HC1; clear hF HC; have HC := HC1; have hF := Aside0.mk hF1; clear hF1 HC1))
  refine bodyPost_ret ?_ rfl ⟨rfl, hF.out.below⟩
  simp [results, Try.results48, go_sem, HC]
theorem some42 (A : Option Addr) (c : Nat) (l : List S92) (w : World) (hl : l.length ≤ c) (hm : l.length ≤ 9223372036854775807) : Calls Try.prog 42 #[.slice A l.length c] w fun e w' => e = .returned (.slice A (l.take 5).length c) ∧ w = w' := by
  obtain ⟨n, hn⟩ : ∃ n, (l.take 5).length = n := ⟨_, rfl⟩
  have h1 : (if (5 : Int) < (l.length : Int) then 5 else (l.length : Int)) = (n : Int) := by rw [← hn, List.length_take]; split <;> omega
  have h2 : n ≤ c := by rw [← hn, List.length_take]; omega
  rw [hn]
  clear hn hl
  go_enter Try.func42, Try.ntmps42
  go_wp2
  go_ret
  exact ⟨rfl, rfl⟩
def oneR : S76 := ⟨⟨#[97]⟩, ⟨2, 8, 0⟩, 2, 1, 1, 1, 1⟩
def oneC : Cf := ⟨[oneR], [⟨[0], []⟩], 9, 1⟩
abbrev aLab : List S92 := [⟨⟨#[97]⟩, ⟨#[]⟩⟩]
theorem one_new : newE oneC aLab 5 = 0 ∧ chooseV oneC aLab = 0 := by decide +kernel
theorem one_duty : dutyB oneC ⟨aLab, 0, 0, 0, 5, 1⟩ = true ∧ tmB 5 = true := by decide +kernel
theorem one_recv : recvV oneC 0 0 = 0 := by decide +kernel
theorem one_due : addT 5 (waitW oneR.f1 0 0) = 7 := by decide +kernel
theorem one_wf : ∀ x ∈ oneC.ro, WfR x := by
  intro x hx
  have : ∀ x ∈ oneC.ro, ∀ k ∈ x.f0, (Lit.int .i64 k).wf = true := by decide +kernel
  exact this x hx
set_option maxHeartbeats 8000000 in
set_option maxRecDepth 100000 in
theorem one_calls (w : World) : Calls Try.prog 79 #[] w fun e w' => ∃ A0 A1, e = .returned (.agg #[.slice A0 1 1, .slice A1 1 1, .int .i64 9, .int .i64 1]) ∧ Kd.C k76 w' A0 1 oneC.rs ∧ Kd.C k58 w' A1 1 oneC.ro ∧ Below w.heap.size w w' := by
  have hF := Aside0.mk (Fr.Frame.start w)
  have HC : True := trivial
  go_enter Try.func79, Try.ntmps79
  go_wp2_with (first | ((with_reducible refine gate_store (t := 53) rfl ?_); have hX := ((hF.out.alloc [.string ⟨#[97]⟩, .int .i64 2, .int .i64 8, .int .i64 0, .int .i64 2, .int .i64 1, .int .i64 1, .int .i64 1, .int .i64 1] 76).alloc [.int .i64 0] 3).alloc [.slice (some ⟨W.heap.size + 1, 0, none⟩) 1 1, .slice none 0 0] 58; simp only [World.size_alloc] at hX; apply Fr.fr_store hX rfl rfl rfl; (case hp => rfl); (case hx => first | (go_simp; rfl) | rfl); (case hu => (simp only [Value.cells]; rfl)); (case hs => (repeat (first | exact Fr.Spot.here _ _ | apply Fr.Spot.there))); (case ht => kernel_rfl); (case h1 => simp [Value.oneCell']); (case hfit => simp); intro W2 hF1; simp only [Fr.patch, List.take_zero, List.nil_append, List.drop, List.append_nil, List.take, List.cons_append, List.length_cons, List.length_nil, Nat.reduceAdd] at hF1; have HC1 := hF1.cells; simp only [Fr.Cells, List.length_cons, List.length_nil, Nat.reduceAdd, and_true] at HC1; clear hF HC; have HC := HC1; have hF := Aside0.mk hF1; clear hF1 HC1) | ((with_reducible refine gate_store rfl ?_); apply Fr.fr_store hF.out rfl rfl rfl; (case hp => rfl); (case hx => first | (go_simp; rfl) | rfl); (case hu => (simp only [Value.cells]; rfl)); (case hs => (repeat (first | exact Fr.Spot.here _ _ | apply Fr.Spot.there))); (case ht => kernel_rfl); (case h1 => simp [Value.oneCell']); (case hfit => simp); intro W hF1; simp only [Fr.patch, List.take_zero, List.nil_append, List.drop, List.append_nil, List.take, List.cons_append, List.length_cons, List.length_nil, Nat.reduceAdd] at hF1; have HC1 := hF1.cells; simp only [Fr.Cells, List.length_cons, List.length_nil, Nat.reduceAdd, and_true] at HC1; clear hF HC; have HC := HC1; have hF := Aside0.mk hF1; clear hF1 HC1) | ((with_reducible refine gate_dst (N := 0) rfl ?_); apply Fr.fr_box hF.out rfl; (case hrun => first | (go_simp; done) | (go_simp; rfl)); intro g0 W hF1; have HC1 := hF1.cells; simp only [Fr.Cells, List.length_cons, List.length_nil, Nat.reduceAdd, and_true] at HC1; clear hF HC; have HC := HC1; have hF := Aside0.mk hF1; clear hF1 HC1) | ((with_reducible refine gate_dst (N := 1) rfl ?_); apply Fr.fr_box hF.out rfl; (case hrun => first | (go_simp; done) | (go_simp; rfl)); intro g1 W hF1; have HC1 := hF1.cells; simp only [Fr.Cells, List.length_cons, List.length_nil, Nat.reduceAdd, and_true] at HC1; clear hF HC; have HC := HC1; have hF := Aside0.mk hF1; clear hF1 HC1))
  obtain ⟨s0, hs0⟩ : ∃ s0, W.heap.size = s0 := ⟨_, rfl⟩
  rw [hs0] at hF HC ⊢
  have hF1 := hF.out
  clear hF hX
  have ka : Kd.C k76 W2 (some ⟨s0, 0, none⟩) 1 oneC.rs := C_blk (hF1.blk (s0, _, 76) (by repeat (first | exact List.mem_cons_self | apply List.mem_cons_of_mem))).2 ((Reps.none (k76.K W2) k76.sz).snoc (k76_mk _ oneR) rfl) (by decide)
  have kc : Kd.C (Kd.int .i64) W2 (some ⟨s0 + 1, 0, none⟩) 1 [0] := C_blk (hF1.blk (s0 + 1, _, 3) (by repeat (first | exact List.mem_cons_self | apply List.mem_cons_of_mem))).2 ((Reps.none ((Kd.int .i64).K W2) (Kd.int .i64).sz).snoc (p := (0 : Int)) (c := [.int .i64 0]) rfl rfl) (by decide)
  have kn : Kd.C k88 W2 none 0 [] := ⟨rfl, by decide, fun h => absurd h (by decide)⟩
  have kb : Kd.C k58 W2 (some ⟨s0 + 1 + 1, 0, none⟩) 1 oneC.ro := C_blk (hF1.blk (s0 + 1 + 1, _, 58) (by repeat (first | exact List.mem_cons_self | apply List.mem_cons_of_mem))).2 ((Reps.none (k58.K W2) k58.sz).snoc (k58_mk W2 ⟨[0], []⟩ (A0 := some ⟨s0 + 1, 0, none⟩) (c0 := 1) (by decide) kc (A1 := none) (c1 := 0) (by decide) kn) rfl) (by decide)
  have H9 := Aside0.mk (show Below w.heap.size w W2 from hF1.below)
  have HA := Aside0.mk ka
  have HB := Aside0.mk kb
  clear ka kb kc kn hF1 hs0
  refine bodyPost_ret ?_ rfl ⟨some ⟨s0, 0, none⟩, some ⟨s0 + 1 + 1, 0, none⟩, rfl, HA.out, HB.out, H9.out⟩
  simp [results, Try.results79, go_sem, HC]
set_option maxHeartbeats 8000000 in
set_option maxRecDepth 100000 in
theorem alive44_calls (w : World) : Calls Try.prog 44 #[] w fun e w' => e = .returned (.bool true) ∧ Below w.heap.size w w' := by
  have hF := Aside0.mk (Fr.Frame.start w)
  have HC : True := trivial
  go_enter Try.func44, Try.ntmps44
  go_wp2_with fail
  (with_reducible refine (one_calls _).mono ?_)
  rintro e W ⟨A0, A1, rfl, h76, h58, hb⟩
  have hF1 := hF.out.call hb
  clear hb
  have HC1 := hF1.cells; simp only [Fr.Cells, List.length_cons, List.length_nil, Nat.reduceAdd, and_true] at HC1; clear hF HC; have HC := HC1; have hF := Aside0.mk hF1; clear hF1 HC1
  have H76 := Aside0.mk h76
  have H58 := Aside0.mk h58
  clear h76 h58
  go_wp2_with fail
  have hF2 := hF.out.alloc [.string ⟨#[97]⟩, .string ⟨#[]⟩] 92
  have hbb : Below W.heap.size W (W.alloc (.cells #[.string ⟨#[97]⟩, .string ⟨#[]⟩] 92)) := (Below.refl _ W).alloc (Nat.le_refl _) _
  have hlab : Kd.C k92 _ (some ⟨W.heap.size, 0, none⟩) 1 aLab := C_one hF2 (k92_mk _ ⟨⟨#[97]⟩, ⟨#[]⟩⟩)
  have hh : Calls Try.prog 43 #[.agg #[.slice A0 1 1, .slice A1 1 1, .int .i64 9, .int .i64 1], .slice (some ⟨W.heap.size, 0, none⟩) 1 1, .int .i64 5] _ _ := new_calls_ok oneC A0 1 A1 1 (some ⟨W.heap.size, 0, none⟩) 1 aLab 5 _ (Kd.C_below H76.out hbb) (by decide) (Kd.C_below H58.out hbb) one_wf hlab one_new.1
  rw [one_new.2] at hh
  (with_reducible refine hh.mono ?_)
  clear hh H76 H58
  rintro e W1 ⟨rfl, hb⟩
  have hF1 := hF2.call hb
  have HLA := Aside0.mk (Kd.C_below hlab hb)
  clear hb hF2 hlab hbb
  obtain ⟨s0, hs0⟩ : ∃ s0, W.heap.size = s0 := ⟨_, rfl⟩
  rw [hs0] at HLA hF1 ⊢
  clear hs0
  have HC1 := hF1.cells; simp only [Fr.Cells, List.length_cons, List.length_nil, Nat.reduceAdd, and_true] at HC1; clear hF HC; have HC := HC1; have hF := Aside0.mk hF1; clear hF1 HC1
  go_wp2_with (first | ((with_reducible refine gate_store rfl ?_); apply Fr.fr_store hF.out rfl rfl rfl; (case hp => rfl); (case hx => first | (go_simp; rfl) | rfl); (case hu => (simp only [Value.cells]; rfl)); (case hs => (repeat (first | exact Fr.Spot.here _ _ | apply Fr.Spot.there))); (case ht => kernel_rfl); (case h1 => simp [Value.oneCell']); (case hfit => simp); intro W hF1; simp only [Fr.patch, List.take_zero, List.nil_append, List.drop, List.append_nil, List.take, List.cons_append, List.length_cons, List.length_nil, Nat.reduceAdd] at hF1; have HC1 := hF1.cells; simp only [Fr.Cells, List.length_cons, List.length_nil, Nat.reduceAdd, and_true] at HC1; clear hF HC; have HC := HC1; have hF := Aside0.mk hF1; clear hF1 HC1) | ((with_reducible refine gate_dst (N := 1) rfl ?_); apply Fr.fr_box hF.out rfl; (case hrun => first | (go_simp; done) | (go_simp; rfl)); intro gd W hF1; have HC1 := hF1.cells; simp only [Fr.Cells, List.length_cons, List.length_nil, Nat.reduceAdd, and_true] at HC1; clear hF HC; have HC := HC1; have hF := Aside0.mk hF1; clear hF1 HC1) | ((first | (with_reducible refine Fr.gate_alloc rfl ?_) | (with_reducible refine Fr.gate_box rfl ?_)); apply Fr.fr_box hF.out rfl; (case hrun => first | (go_simp; done) | (go_simp; rfl)); intro g W hF1; have HC1 := hF1.cells; simp only [Fr.Cells, List.length_cons, List.length_nil, Nat.reduceAdd, and_true] at HC1; clear hF HC; have HC := HC1; have hF := Aside0.mk hF1; clear hF1 HC1))
  have HF0 := Aside0.mk hF.out.drew
  have HD0 := HF0.out.cells
  simp only [Fr.Cells, List.length_cons, List.length_nil, Nat.reduceAdd, and_true] at HD0
  clear hF HC
  go_region_with (first | (go_at_call 79; refine (one_calls _).mono ?_; rintro e W7 ⟨A3, A4, rfl, h76, h58, hb⟩; have HF7 := Aside0.mk (HF0.out.call hb); have H76 := Aside0.mk h76; have H58 := Aside0.mk h58; clear h76 h58 hb; have HD1 := HF7.out.cells; simp only [Fr.Cells, List.length_cons, List.length_nil, Nat.reduceAdd, and_true] at HD1) | (go_at_call 48; have hlab : Kd.C k92 _ (some ⟨s0, 0, none⟩) 1 aLab := C_blk (HF7.out.blk (s0, _, 92) (by repeat (first | exact List.mem_cons_self | apply List.mem_cons_of_mem))).2 ((Reps.none (k92.K _) k92.sz).snoc (k92_mk _ ⟨⟨#[97]⟩, ⟨#[]⟩⟩) rfl) (by decide); have hh0 := sent_same oneC A3 1 A4 1 ⟨aLab, 0, 0, 0, 5, 1⟩ (some ⟨s0, 0, none⟩) 1 5 false 0 W7 H76.out (by decide) H58.out one_wf hlab rfl one_duty.1 one_duty.2 (by decide) oneR (by show rd_T76 oneC.rs (recvV oneC 0 0) = oneR; rw [one_recv]; rfl) (by decide); rw [one_due] at hh0; have hh : Calls Try.prog 48 #[.agg #[.slice A3 1 1, .slice A4 1 1, .int .i64 9, .int .i64 1], .agg #[.slice (some ⟨s0, 0, none⟩) 1 1, .int .i64 0, .int .i64 0, .int .i64 0, .int .i64 5, .int .i64 1], .int .i64 5, .bool false, .int .i64 0] W7 (fun e w' => e = .returned (.tuple #[.agg #[.slice (some ⟨s0, 0, none⟩) 1 1, .int .i64 0, .int .i64 0, .int .i64 1, .int .i64 7, .int .i64 1], .bool false, .int .i64 0]) ∧ Below W7.heap.size W7 w') := hh0; refine hh.mono ?_; clear hh hh0; rintro e W8 ⟨rfl, hb⟩; have HF8 := Aside0.mk (HF7.out.call hb); clear hb hlab HD1; have HD2 := HF8.out.cells; simp only [Fr.Cells, List.length_cons, List.length_nil, Nat.reduceAdd, and_true] at HD2))
  all_goals
    have hF1 : Fr.Frame w ((((((W8.setCell ⟨gd, 0, none⟩ (.slice (some ⟨s0, 0, none⟩) 1 1)).setCell ⟨gd, 1, none⟩ (.int .i64 0)).setCell ⟨gd, 2, none⟩ (.int .i64 0)).setCell ⟨gd, 3, none⟩ (.int .i64 1)).setCell ⟨gd, 4, none⟩ (.int .i64 7)).setCell ⟨gd, 5, none⟩ (.int .i64 1)) [(gd, [.slice (some ⟨s0, 0, none⟩) 1 1, .int .i64 0, .int .i64 0, .int .i64 1, .int .i64 7, .int .i64 1], 69), (s0, _, 92)] [] := HF8.out.put (Fr.Spot.here _ _) 0 [.slice (some ⟨s0, 0, none⟩) 1 1, .int .i64 0, .int .i64 0, .int .i64 1, .int .i64 7, .int .i64 1] (by simp)
    clear HF8 HF7 HF0 HD0 HD2 H76 H58
    obtain ⟨W9, hW9⟩ : ∃ W9, ((((((W8.setCell ⟨gd, 0, none⟩ (.slice (some ⟨s0, 0, none⟩) 1 1)).setCell ⟨gd, 1, none⟩ (.int .i64 0)).setCell ⟨gd, 2, none⟩ (.int .i64 0)).setCell ⟨gd, 3, none⟩ (.int .i64 1)).setCell ⟨gd, 4, none⟩ (.int .i64 7)).setCell ⟨gd, 5, none⟩ (.int .i64 1)) = W9 := ⟨_, rfl⟩
    rw [hW9] at hF1 ⊢
    clear hW9
    have hF : True := trivial
    have HC : True := trivial
    have HC1 := hF1.cells; simp only [Fr.Cells, List.length_cons, List.length_nil, Nat.reduceAdd, and_true] at HC1; clear hF HC; have HC := HC1; have hF := Aside0.mk hF1; clear hF1 HC1
    go_wp2_with (first | ((with_reducible refine gate_store rfl ?_); apply Fr.fr_store hF.out rfl rfl rfl; (case hp => rfl); (case hx => first | (go_simp; rfl) | rfl); (case hu => (simp only [Value.cells]; rfl)); (case hs => (repeat (first | exact Fr.Spot.here _ _ | apply Fr.Spot.there))); (case ht => kernel_rfl); (case h1 => simp [Value.oneCell']); (case hfit => simp); intro W hF1; simp only [Fr.patch, List.take_zero, List.nil_append, List.drop, List.append_nil, List.take, List.cons_append, List.length_cons, List.length_nil, Nat.reduceAdd] at hF1; have HC1 := hF1.cells; simp only [Fr.Cells, List.length_cons, List.length_nil, Nat.reduceAdd, and_true] at HC1; clear hF HC; have HC := HC1; have hF := Aside0.mk hF1; clear hF1 HC1) | ((first | (with_reducible refine Fr.gate_alloc rfl ?_) | (with_reducible refine Fr.gate_box rfl ?_)); apply Fr.fr_box hF.out rfl; (case hrun => first | (go_simp; done) | (go_simp; rfl)); intro g W hF1; have HC1 := hF1.cells; simp only [Fr.Cells, List.length_cons, List.length_nil, Nat.reduceAdd, and_true] at HC1; clear hF HC; have HC := HC1; have hF := Aside0.mk hF1; clear hF1 HC1))
    go_ret
    exact ⟨rfl, hF.out.below⟩
theorem first_some {L : List S92} {ro : List S58} {k : Nat} (h : takeI ro L = (k : Int)) : k < ro.length ∧ (∀ i : Nat, i < k → takesB L (rd_T58 ro (i : Nat)) = false) ∧ takesB L (rd_T58 ro (k : Nat)) = true := by
  unfold takeI idxP at h
  cases e : ro.findIdx? (takesB L) with
  | none => rw [e] at h; simp at h
  | some j =>
    rw [e] at h
    obtain rfl : j = k := by have h' : (j : Int) = k := h; omega
    obtain ⟨h1, h2, h3⟩ := List.findIdx?_eq_some_iff_getElem.1 e
    refine ⟨h1, fun i hi => ?_, by rw [rd_get58 ro j h1]; exact h2⟩
    rw [rd_get58 ro i (by omega)]
    have := h3 i hi
    simpa using this
theorem same10 (l : List S92) (hl : l.length ≤ 1000) : ∀ (d k i : Nat), i + d = l.length → d < k → foghornref10_Same.l0 k l l (l.length : Int) (i : Int) = some true
  | 0, k + 1, i, hd, hk => by rw [foghornref10_Same.l0, if_neg (by omega)]
  | d + 1, k + 1, i, hd, hk => by
    rw [foghornref10_Same.l0, if_pos (by omega), if_pos (by omega), if_pos (by omega), if_pos (by omega), if_neg (by simp), w64' (by omega) (by omega), show ((i : Int) + 1) = ((i + 1 : Nat) : Int) by omega]
    exact same10 l hl d k (i + 1) (by omega) (by omega)
theorem same10_ref (l : List S92) (hl : l.length ≤ 1000) : foghornref10_Same.f 1001 l l = some true := by
  unfold foghornref10_Same.f
  rw [if_pos rfl]
  exact same10 l hl l.length 1001 0 (by omega) (by omega)
theorem same16_ref (l : List S92) (hl : l.length ≤ 1000) (a b c d e : Int) : foghornref16_Same.f 1001 l a b c d e l a b c d e = some true := by
  unfold foghornref16_Same.f
  rw [same10_ref l hl]
  simp
theorem C_nil {α : Type} (d : Kd α) (w : World) : Kd.C d w none 0 [] := ⟨rfl, by decide, fun h => absurd h (by decide)⟩
theorem same_zero (w : World) : Calls Try.prog 45 #[.agg #[.slice none 0 0, .int .i64 0, .int .i64 0, .int .i64 0, .int .i64 0, .int .i64 0], .agg #[.slice none 0 0, .int .i64 0, .int .i64 0, .int .i64 0, .int .i64 0, .int .i64 0]] w fun e w' => e = .returned (.bool true) ∧ Below w.heap.size w w' :=
  foghornref16_Same.calls 1001 none 0 [] 0 0 0 0 0 none 0 [] 0 0 0 0 0 true w (C_nil _ _) (Nat.le_refl _) (C_nil _ _) (Nat.le_refl _) (same16_ref [] (by decide) 0 0 0 0 0)
def nowT (a : Int) : Int := Int.tmod (IntKind.u64.wrap a) 274877906944
theorem now_in (a : Int) : 0 ≤ nowT a ∧ nowT a < 274877906944 := u64mod a 274877906944 (by decide)
theorem now_ok (a : Int) : tmB (nowT a) = true := (tm_iff _).2 (by have := now_in a; omega)
theorem addT_ok {a b : Int} (ha : tmB a = true) (hb : 0 ≤ b) : tmB (addT a b) = true := by
  have := (tm_iff a).1 ha
  refine (tm_iff _).2 ?_
  unfold addT
  split <;> omega
theorem choose_R {c : Cf} {l : List S92} (h1 : cfgB c = true) (h2 : rightB l = true) (h : chooseE c l = 0) : ∃ R : Nat, chooseV c l = (R : Int) ∧ R < c.ro.length := by
  have hk : takeI c.ro l = -1 ∨ ∃ kk : Nat, takeI c.ro l = kk := by
    unfold takeI idxP
    cases c.ro.findIdx? (takesB l) with
    | none => exact .inl rfl
    | some k => exact .inr ⟨k, rfl⟩
  rcases hk with hk | ⟨kk, hk⟩
  · have := choose_none h1 h2 hk
    rw [this.1] at h
    exact absurd h (by decide)
  · exact ⟨kk, (choose_some h1 h2 hk).2, (first_some hk).1⟩
end Go.Proofs.Ytkphinfijppkeaa.G
