/- Contracts of functions of the given program, and what they come to, for any arguments. No condition beyond each theorem's own premises. -/
import Derived.Test.YtkphinfijppkeaaXDutyChainM0
import Derived.Test.YtkphinfijppkeaaXDutyChainM4
import Derived.Test.YtkphinfijppkeaaXDutyChainM9
namespace Go.Proofs.Ytkphinfijppkeaa.G
open Go.RowKit Go.Proofs.YtkphinfijppkeaaW.PrintWords Go.Proofs.YtkphinfijppkeaaW.PrintLast Go.Proofs.YtkphinfijppkeaaW.PrintMore
attribute [local go_sem] max2_int min2_int max_two min_two max_three min_three max_four min_four   -- for this text's walks alone
set_option linter.unusedVariables false
set_option linter.unusedSimpArgs false
attribute [local go_sem] Oper.semAt_some
open Go.Shelf
def stepI (b0 b1 n : Int) : Int := if b0 * 2 ^ n.toNat < b1 then b0 * 2 ^ n.toNat else b1
theorem step_facts (w w1 : World) (b0 b1 b2 n : Int)
    (hb : Below ((((w.alloc (.cells #[.int .i64 b0, .int .i64 b1, .int .i64 b2] 74)).alloc (.cells #[.int .i64 n] 3)).alloc (.cells #[.int .i64 0] 3)).alloc (.cells #[.int .i64 0] 30)).heap.size ((((w.alloc (.cells #[.int .i64 b0, .int .i64 b1, .int .i64 b2] 74)).alloc (.cells #[.int .i64 n] 3)).alloc (.cells #[.int .i64 0] 3)).alloc (.cells #[.int .i64 0] 30)) w1) :
    w1.cell? ⟨w.heap.size, 0, none⟩ = some (.int .i64 b0) ∧ w1.cell? ⟨w.heap.size, 1, none⟩ = some (.int .i64 b1) ∧ w1.cell? ⟨w.heap.size, 2, none⟩ = some (.int .i64 b2) ∧ w1.cell? ⟨w.heap.size + 1, 0, none⟩ = some (.int .i64 n) ∧
    w1.cell? ⟨w.heap.size + 1 + 1, 0, none⟩ = some (.int .i64 0) ∧ w1.cell? ⟨w.heap.size + 1 + 1 + 1, 0, none⟩ = some (.int .i64 0) ∧ w1.frozen? ⟨w.heap.size + 1 + 1, 0, none⟩ = false ∧ w1.frozen? ⟨w.heap.size + 1 + 1 + 1, 0, none⟩ = false ∧
    w.heap.size + 1 + 1 + 1 < w1.heap.size ∧ Below w.heap.size w w1 := by
  have hs := hb.size
  simp only [World.size_alloc] at hs
  refine ⟨?_, ?_, ?_, ?_, ?_, ?_, ?_, ?_, by omega, ?_⟩
  · exact (hb.cell (by simp [World.size_alloc]; try omega)).trans (by simp [go_sem])
  · exact (hb.cell (by simp [World.size_alloc]; try omega)).trans (by simp [go_sem])
  · exact (hb.cell (by simp [World.size_alloc]; try omega)).trans (by simp [go_sem])
  · exact (hb.cell (by simp [World.size_alloc]; try omega)).trans (by simp [go_sem])
  · exact (hb.cell (by simp [World.size_alloc]; try omega)).trans (by simp [go_sem])
  · exact (hb.cell (by simp [World.size_alloc]; try omega)).trans (by simp [go_sem])
  · exact (hb.frozen (by simp [World.size_alloc]; try omega)).trans (by simp [go_sem])
  · exact (hb.frozen (by simp [World.size_alloc]; try omega)).trans (by simp [go_sem])
  · exact ((((Below.refl _ w).alloc (Nat.le_refl _) _).alloc (by simp) _).alloc (by simp; omega) _).alloc (by simp; omega) _ |>.trans (hb.mono (by simp [World.size_alloc]; omega))
set_option maxHeartbeats 2000000 in
set_option maxRecDepth 100000 in
theorem step_yes (b0 b1 b2 n : Int) (w : World) (h : BackMay b0 b1 b2) (hn : 0 ≤ n) (K : Nat) (hK : Doubles b0 b1 K) :
    Calls Try.prog 47 #[.agg #[.int .i64 b0, .int .i64 b1, .int .i64 b2], .int .i64 n] w fun e w' => e = .returned (.tuple #[.int .i64 (stepI b0 b1 n), .int .i64 0]) ∧ Below w.heap.size w w' := by
  obtain ⟨⟨h1, h2⟩, ⟨h3, h4⟩, h5, h6⟩ := h
  have HK := Aside0.mk hK
  clear hK
  have hmf : ∀ (fn : Fn) (first cap : Array Value) (w : World), (Instr.makeFunc fn first cap).run Try.prog w = .ok (.func fn first cap) w := fun _ _ _ _ => rfl
  have HRt := Aside0.mk (show backoff_Right.f b0 b1 b2 = some true from by
    unfold backoff_Right.f backoff_in.f
    rw [if_pos (by omega), if_pos (by omega), if_pos (by omega)]
    simp [h2, h4, h6])
  refine (callsIn_wide (n := 6)).1 ?_
  refine callsIn_of_wp_marks Try.func47 rfl trivial ?_ rfl
  simp only [Try.ntmps47, List.size_toArray, List.length_cons, List.length_nil, Nat.reduceAdd, Nat.reduceSub, Array.replicate_succ, Array.replicate_zero, List.push_toArray, List.append_toArray, List.nil_append, List.cons_append]
  gi_wp2_with (first | (refine ⟨trivial, ?_⟩; gi_at_call 80; refine (callsIn_wide.2 (backoff_Right.calls b0 b1 b2 true _ HRt.out)).mono ?_; rintro e w1 ⟨rfl, hb1⟩; obtain ⟨q0, q1, q2, qn, qr1, qr2, qf1, qf2, qs, qB⟩ := step_facts w w1 b0 b1 b2 n hb1; clear hb1; clear HRt) | (refine ⟨trivial, ?_⟩; gi_at_call 81; refine (callsIn_wide.2 (steps_calls b0 b1 b2 _)).mono ?_; rintro e w2 ⟨rfl, rfl⟩))
  have hB0 : Below w.heap.size w (w1.alloc (.cells #[.int .i64 b0, .int .i64 b1, .int .i64 b2] 74)) := qB.alloc (by omega) _
  have hh := World.alloc_heap_new w1 (.cells #[.int .i64 b0, .int .i64 b1, .int .i64 b2] 74 (0, 0))
  obtain ⟨W0, hW0⟩ : ∃ W0, w1.alloc (.cells #[.int .i64 b0, .int .i64 b1, .int .i64 b2] 74) = W0 := ⟨_, rfl⟩
  have hsz : W0.heap.size = w1.heap.size + 1 := by rw [← hW0]; exact World.size_alloc _ _
  have p1 : W0.cell? ⟨w.heap.size, 1, none⟩ = some (.int .i64 b1) := by rw [← hW0]; exact Go.cell_kept q1 (World.grownBy_alloc w1 _ none) (fun r e => by cases e)
  have pn : W0.cell? ⟨w.heap.size + 1, 0, none⟩ = some (.int .i64 n) := by rw [← hW0]; exact Go.cell_kept qn (World.grownBy_alloc w1 _ none) (fun r e => by cases e)
  have pr1 : W0.cell? ⟨w.heap.size + 1 + 1, 0, none⟩ = some (.int .i64 0) := by rw [← hW0]; exact Go.cell_kept qr1 (World.grownBy_alloc w1 _ none) (fun r e => by cases e)
  have pr2 : W0.cell? ⟨w.heap.size + 1 + 1 + 1, 0, none⟩ = some (.int .i64 0) := by rw [← hW0]; exact Go.cell_kept qr2 (World.grownBy_alloc w1 _ none) (fun r e => by cases e)
  have pf1 : W0.frozen? ⟨w.heap.size + 1 + 1, 0, none⟩ = false := by rw [← hW0]; exact (Go.frozen_kept qr1 (World.grownBy_alloc w1 _ none) (fun r e => by cases e)).trans qf1
  have pf2 : W0.frozen? ⟨w.heap.size + 1 + 1 + 1, 0, none⟩ = false := by rw [← hW0]; exact (Go.frozen_kept qr2 (World.grownBy_alloc w1 _ none) (fun r e => by cases e)).trans qf2
  rw [hW0] at hB0 hh ⊢
  clear hW0 q0 q1 q2 qn qr1 qr2 qf1 qf2 hmf
  refine wpIn_rangeFunc_ownF rfl (by omega) (gf := 118) (lb := #[.pointer (some ⟨w1.heap.size, 0, none⟩)]) rfl trivial (enters_of Try.func118 (by kernel_rfl) rfl)
    (steps_stops Fence.wide 5 trivial rfl (by omega) w1.heap.size W0.heap.size b0 b1 b2 K HK.out W0 (Nat.le_refl _) (by omega) hh) belowK_t (belowK_b (Nat.le_refl _)) (Below.refl _ _) (fun _ => rfl)
    (fun pre W => ((∀ y ∈ pre, (y : Int) ≠ n) ∧ W.cell? ⟨w.heap.size, 1, none⟩ = some (.int .i64 b1) ∧ W.cell? ⟨w.heap.size + 1, 0, none⟩ = some (.int .i64 n) ∧ W.cell? ⟨w.heap.size + 1 + 1, 0, none⟩ = some (.int .i64 0) ∧ W.cell? ⟨w.heap.size + 1 + 1 + 1, 0, none⟩ = some (.int .i64 0) ∧ W.frozen? ⟨w.heap.size + 1 + 1, 0, none⟩ = false ∧ W.frozen? ⟨w.heap.size + 1 + 1 + 1, 0, none⟩ = false) ∧ Below w.heap.size w W)
    (fun c pre W => (c = .ret ∧ (∃ (p : List Nat) (i : Nat), pre = p ++ [i] ∧ (i : Int) = n ∧ W.cell? ⟨w.heap.size + 1 + 1, 0, none⟩ = some (.int .i64 (b0 * 2 ^ i))) ∧ W.cell? ⟨w.heap.size + 1 + 1 + 1, 0, none⟩ = some (.int .i64 0)) ∧ Below w.heap.size w W)
    (OwnFrom.and (Own.from (fun s A B row hs hg hr => ⟨hs.1, Go.cell_kept hs.2.1 hg hr, Go.cell_kept hs.2.2.1 hg hr, Go.cell_kept hs.2.2.2.1 hg hr, Go.cell_kept hs.2.2.2.2.1 hg hr, (Go.frozen_kept hs.2.2.2.1 hg hr).trans hs.2.2.2.2.2.1, (Go.frozen_kept hs.2.2.2.2.1 hg hr).trans hs.2.2.2.2.2.2⟩) _) (ownFrom_below (Nat.le_refl _) (by omega)))
    (fun c => OwnFrom.and (Own.from (fun s A B row hs hg hr => ⟨hs.1, (by obtain ⟨p, i, e1, e2, e3⟩ := hs.2.1; exact ⟨p, i, e1, e2, Go.cell_kept e3 hg hr⟩), Go.cell_kept hs.2.2 hg hr⟩) _) (ownFrom_below (Nat.le_refl _) (by omega)))
    ⟨⟨by simp, p1, pn, pr1, pr2, pf1, pf2⟩, hB0⟩
    (fun x => { tmps := #[.agg #[.int .i64 b0, .int .i64 b1, .int .i64 b2], .int .i64 n, .pointer (some ⟨w.heap.size, 0, none⟩), .pointer (some ⟨w.heap.size + 1, 0, none⟩), .pointer (some ⟨w.heap.size + 1 + 1, 0, none⟩), .pointer (some ⟨w.heap.size + 1 + 1 + 1, 0, none⟩), .int .i64 x, .int .i64 (b0 * 2 ^ x), .agg #[.int .i64 b0, .int .i64 b1, .int .i64 b2], .bool true, .bool false, .bool false, .int .i64 n, .bool (decide (n < 0)), .bool (decide (n < 0)), .agg #[.int .i64 b0, .int .i64 b1, .int .i64 b2], .func (.func 118) #[] #[.pointer (some ⟨w1.heap.size, 0, none⟩)], .int .i64 x, .int .i64 (b0 * 2 ^ x), undef, undef, undef, undef, undef, undef], defers := [] }) ?assign ?body ?done ?stop
  case assign =>
    intro l x W K hK
    gi_wp2
    exact hK
  case body =>
    rintro l pre x W ⟨⟨hp, c1, cn, r1, r2, f1, f2⟩, hB⟩ _
    obtain ⟨z, hz⟩ : ∃ z, b0 * 2 ^ x = z := ⟨_, rfl⟩
    by_cases hx : (x : Int) = n
    · have hxb : ((x : Int) == n) = true := by simp [hx]
      have HX := Aside0.mk hx
      have HZ := Aside0.mk hz
      rw [hz]
      clear hx hz
      gi_wp2
      refine ⟨(KeepsOthers.setCell _ _ _).trans (KeepsOthers.setCell _ _ _), ⟨rfl, ⟨pre, x, rfl, HX.out, ?_⟩, ?_⟩, (hB.setCell (p := ⟨w.heap.size + 1 + 1, 0, none⟩) (by simp; omega) _).setCell (p := ⟨w.heap.size + 1 + 1 + 1, 0, none⟩) (by simp; omega) _⟩
      · rw [HZ.out, World.cell?_setCell_other _ _ _ _ (by simp)]
        exact World.cell?_setCell_same' _ _ _ (by rw [r1]; rfl)
      · exact World.cell?_setCell_same' _ _ _ (by rw [isSome_setCell, r2]; rfl)
    · have hxb : ((x : Int) == n) = false := by simp [hx]
      have HX := Aside0.mk hx
      rw [hz]
      clear hx hz
      gi_wp2
      exact ⟨KeepsOthers.refl _, Below.refl _ _, ⟨fun y hy => (List.mem_append.1 hy).elim (hp y) (fun e => by simp at e; subst e; exact HX.out), c1, cn, r1, r2, f1, f2⟩, hB⟩
  case done =>
    rintro D ys W hD rfl ⟨⟨hne, c1, cn, r1, r2, f1, f2⟩, hB⟩ hKd
    have hge : (K : Int) ≤ n := by
      rcases Int.lt_or_le n K with hlt | hge
      · exact absurd (show ((n.toNat : Nat) : Int) = n by omega) (hne n.toNat (by rw [List.mem_range]; omega))
      · exact hge
    have hres : stepI b0 b1 n = b1 := by
      unfold stepI
      rw [if_neg (HK.out.no n.toNat (by omega))]
    have HR := Aside0.mk hres
    clear hres hne
    gi_wp2
    have hK1 := (KeepsOthers.setCell W ⟨w.heap.size + 1 + 1, 0, none⟩ (.int .i64 b1)).same D _ hKd rfl
    have hK2 := (KeepsOthers.setCell (W.setCell ⟨w.heap.size + 1 + 1, 0, none⟩ (.int .i64 b1)) ⟨w.heap.size + 1 + 1 + 1, 0, none⟩ (.int .i64 0)).same D _ hK1 rfl
    have hB2 := (hB.setCell (p := ⟨w.heap.size + 1 + 1, 0, none⟩) (by simp; omega) (.int .i64 b1)).setCell (p := ⟨w.heap.size + 1 + 1 + 1, 0, none⟩) (by simp; omega) (.int .i64 0)
    have d1 : ((W.setCell ⟨w.heap.size + 1 + 1, 0, none⟩ (.int .i64 b1)).setCell ⟨w.heap.size + 1 + 1 + 1, 0, none⟩ (.int .i64 0)).cell? ⟨w.heap.size + 1 + 1, 0, none⟩ = some (.int .i64 b1) := by
      rw [World.cell?_setCell_other _ _ _ _ (by simp)]
      exact World.cell?_setCell_same' _ _ _ (by rw [r1]; rfl)
    have d2 : ((W.setCell ⟨w.heap.size + 1 + 1, 0, none⟩ (.int .i64 b1)).setCell ⟨w.heap.size + 1 + 1 + 1, 0, none⟩ (.int .i64 0)).cell? ⟨w.heap.size + 1 + 1 + 1, 0, none⟩ = some (.int .i64 0) :=
      World.cell?_setCell_same' _ _ _ (by rw [isSome_setCell, r2]; rfl)
    have e1 := Go.cell_kept d1 (grownBy_putObj' _ D (.deferred none)) (fun r e => by cases e; exact ⟨_, hK2, rfl⟩)
    have e2 := Go.cell_kept d2 (grownBy_putObj' _ D (.deferred none)) (fun r e => by cases e; exact ⟨_, hK2, rfl⟩)
    refine ⟨by simp, .inl ⟨_, _, rfl, run_takeDeferred hK2, ?_⟩⟩
    refine ⟨.tuple #[.int .i64 b1, .int .i64 0], ?_, by rw [HR.out], hB2.trans (belowK_b (w := w) (Nat.le_refl _) _ D _ _ (by omega) hK2 rfl rfl)⟩
    simp [results, Try.f47, go_sem, e1, e2]
  case stop =>
    rintro D c pre W hD ⟨m, hm1, hm2, hpre⟩ ⟨⟨rfl, ⟨p, i, hpi, hin, hc1⟩, hc2⟩, hB⟩ hKd
    have him : i = m - 1 := by
      have : List.range m = List.range (m - 1) ++ [m - 1] := by rw [← List.range_succ]; congr 1; omega
      rw [hpi, this] at hpre
      have := List.append_inj_right' hpre rfl
      simpa using this
    have hres : stepI b0 b1 n = b0 * 2 ^ i := by
      unfold stepI
      rw [show n.toNat = i by omega, if_pos (HK.out.2.2.2.1 i (by omega))]
    have e1 := Go.cell_kept hc1 (grownBy_putObj' _ D (.deferred none)) (fun r e => by cases e; exact ⟨_, hKd, rfl⟩)
    have e2 := Go.cell_kept hc2 (grownBy_putObj' _ D (.deferred none)) (fun r e => by cases e; exact ⟨_, hKd, rfl⟩)
    have HR := Aside0.mk hres
    clear hres him hpi hin
    gi_wp2
    refine ⟨by simp, .inl ⟨_, _, rfl, run_takeDeferred hKd, ?_⟩⟩
    refine ⟨.tuple #[.int .i64 (b0 * 2 ^ i), .int .i64 0], ?_, by rw [HR.out], hB.trans (belowK_b (w := w) (Nat.le_refl _) _ D _ _ (by omega) hKd rfl rfl)⟩
    simp [results, Try.f47, go_sem, e1, e2]
set_option maxHeartbeats 2000000 in
set_option maxRecDepth 100000 in
theorem step_no (b0 b1 b2 n : Int) (w : World) (h : ¬ (BackMay b0 b1 b2 ∧ 0 ≤ n)) :
    Calls Try.prog 47 #[.agg #[.int .i64 b0, .int .i64 b1, .int .i64 b2], .int .i64 n] w fun e w' => e = .returned (.tuple #[.int .i64 0, .int .i64 1]) ∧ Below w.heap.size w w' := by
  have H := Aside0.mk h
  clear h
  by_cases c : 0 ≤ n
  all_goals by_cases c2 : b2 ≤ 1048576
  all_goals go_enter Try.func47, Try.ntmps47
  all_goals go_wp2
  all_goals first
    | (exfalso; exact H.out (by unfold BackMay; omega))
    | exact bodyPost_ret (v := .tuple #[.int .i64 0, .int .i64 1]) (by simp [results, Try.results47, go_sem]) rfl ⟨rfl, (by repeat (first | exact Below.refl _ _ | apply below_alloc | apply below_drew | apply pw_below_drewN | refine Below.setCell ?_ (by simp; omega) _))⟩
def backoff_Step.f (b0 b1 b2 n : Int) : Option (Int × Int) := if BackMay b0 b1 b2 ∧ 0 ≤ n then some (stepI b0 b1 n, 0) else some (0, 1)
theorem backoff_Step.calls (a0_0 a0_1 a0_2 a1 r1 r2 : Int) (w : World) (h : backoff_Step.f a0_0 a0_1 a0_2 a1 = some (r1, r2)) :
    Calls Try.prog 47 #[.agg #[.int .i64 a0_0, .int .i64 a0_1, .int .i64 a0_2], .int .i64 a1] w fun e w' => e = .returned (.tuple #[.int .i64 r1, .int .i64 r2]) ∧ Below w.heap.size w w' := by
  unfold backoff_Step.f at h
  by_cases hm : BackMay a0_0 a0_1 a0_2 ∧ 0 ≤ a1
  · rw [if_pos hm] at h
    simp only [Option.some.injEq, Prod.mk.injEq] at h
    obtain ⟨rfl, rfl⟩ := h
    exact step_yes _ _ _ _ w hm.1 hm.2 _ (kOf_doubles hm.1)
  · rw [if_neg hm] at h
    simp only [Option.some.injEq, Prod.mk.injEq] at h
    obtain ⟨rfl, rfl⟩ := h
    exact step_no _ _ _ _ w hm
end Go.Proofs.Ytkphinfijppkeaa.G
