/- Contracts of functions of the given program, each proved by a walk of its code: written by gprint.py, this session's program round the kit's print; texts of our own stand among the printed ones. No condition beyond each theorem's own premises. -/
import Derived.Test.YtkkopknlhijgiaaG0
import Derived.Test.YtkkopknlhijgiaaG1
namespace Go.Proofs.Ytkkopknlhijgiaa.G
open Go.RowKit Go.Proofs.YtkkopknlhijgiaaW.PrintWords Go.Proofs.YtkkopknlhijgiaaW.PrintLast Go.Proofs.YtkkopknlhijgiaaW.PrintMore
attribute [local go_sem] max2_int min2_int max_two min_two max_three min_three max_four min_four   -- for this text's walks alone
set_option linter.unusedVariables false
set_option linter.unusedSimpArgs false

/-! ### watch_Right: function 41 -/
-- GIVEN OWN
attribute [local go_sem] Oper.semAt_some
open Go.Shelf
theorem cell_al {w : World} {a : Addr} {v : Value} (h : w.cell? a = some v) (o : Obj) : (w.alloc o).cell? a = some v := Go.cell_kept h (World.grownBy_alloc w o none) (fun r e => by cases e)
theorem froz_al {w : World} {a : Addr} {v : Value} (h : w.cell? a = some v) (hf : w.frozen? a = false) (o : Obj) : (w.alloc o).frozen? a = false := (Go.frozen_kept h (World.grownBy_alloc w o none) (fun r e => by cases e)).trans hf
theorem nb_calls (A : Option Addr) (n c : Nat) (w : World) : Calls Try.prog 66 #[.slice A n c] w fun e w' => e = .returned (.func (.func 75) #[] #[.pointer (some ⟨w.heap.size, 0, none⟩)]) ∧ w.alloc (.cells #[.slice A n c] 49) = w' := by
  have hmf : ∀ (fn : Fn) (first cap : Array Value) (w : World), (Instr.makeFunc fn first cap).run Try.prog w = .ok (.func fn first cap) w := fun _ _ _ _ => rfl
  go_enter Try.func66, Try.ntmps66
  go_wp2
  go_ret
  exact ⟨rfl, rfl⟩
/-- Sends whose times do not go back. -/
def upF (l : List S51) : Bool := (List.range (l.length - 1)).all fun i => decide ((rd_T51 l (i : Nat)).f0 ≤ (rd_T51 l ((i : Nat) + 1)).f0)
set_option maxHeartbeats 2000000 in
set_option maxRecDepth 100000 in
theorem right_calls (A : Option Addr) (c : Nat) (l : List S51) (w : World) (hr : Kd.C k51 w A l.length l) (hlen : l.length * 40 ≤ 140737488351232) :
    Calls Try.prog 41 #[.slice A l.length c] w fun e w' => e = .returned (.bool (upF l)) ∧ Below w.heap.size w w' := by
  have HR := Aside0.mk hr
  clear hr
  refine (callsIn_wide (n := 6)).1 ?_
  refine callsIn_of_wp_marks Try.func41 rfl trivial ?_ rfl
  simp only [Try.ntmps41, List.size_toArray, List.length_cons, List.length_nil, Nat.reduceAdd, Nat.reduceSub, Array.replicate_succ, Array.replicate_zero, List.push_toArray, List.append_toArray, List.nil_append, List.cons_append]
  gi_wp2_with (refine ⟨trivial, ?_⟩; gi_at_call 66; refine (callsIn_wide.2 (nb_calls _ _ _ _)).mono ?_; rintro e w2 ⟨rfl, rfl⟩)
  obtain ⟨W0, hW0⟩ : ∃ W0, (w.alloc (.cells #[.bool false] 4)).alloc (.cells #[.slice A l.length c] 49) = W0 := ⟨_, rfl⟩
  have hB0 : Below w.heap.size w W0 := by rw [← hW0]; exact ((Below.refl _ w).alloc (Nat.le_refl _) _).alloc (by simp) _
  have hsz : W0.heap.size = w.heap.size + 1 + 1 := by rw [← hW0]; simp
  have hbx : W0.cell? ⟨w.heap.size + 1, 0, none⟩ = some (.slice A l.length c) := by rw [← hW0]; simp [go_sem]
  have hres : W0.cell? ⟨w.heap.size, 0, none⟩ = some (.bool false) := by rw [← hW0]; simp [go_sem]
  have hfr : W0.frozen? ⟨w.heap.size, 0, none⟩ = false := by rw [← hW0]; simp [go_sem]
  have hrr : Kd.C k51 W0 A l.length l := Kd.C_below HR.out hB0
  rw [hW0]
  clear hW0
  refine wpIn_rangeFunc_ownH rfl (by omega) (gf := 75) (lb := #[.pointer (some ⟨w.heap.size + 1, 0, none⟩)]) rfl trivial (enters_of Try.func75 (by kernel_rfl) rfl)
    (nb_stops 5 (by omega) (w.heap.size + 1) A c l hlen W0 (by omega) hbx hrr) belowK_t (belowK_b (Nat.le_refl _)) (Below.refl _ _) (fun _ => rfl)
    (fun pre W => ((∀ i ∈ pre, (rd_T51 l (i : Nat)).f0 ≤ (rd_T51 l ((i : Nat) + 1)).f0) ∧ W.cell? ⟨w.heap.size, 0, none⟩ = some (.bool false) ∧ W.frozen? ⟨w.heap.size, 0, none⟩ = false ∧ W0.heap.size ≤ W.heap.size) ∧ Below w.heap.size w W)
    (fun c pre W => (c = .ret ∧ (∃ (p : List Nat) (i : Nat), pre = p ++ [i] ∧ (rd_T51 l (i + 1)).f0 < (rd_T51 l i).f0) ∧ W.cell? ⟨w.heap.size, 0, none⟩ = some (.bool false)) ∧ Below w.heap.size w W)
    (OwnFrom.and (Own.from (fun s A B row hs hg hr => ⟨hs.1, Go.cell_kept hs.2.1 hg hr, (Go.frozen_kept hs.2.1 hg hr).trans hs.2.2.1, Nat.le_trans hs.2.2.2 hg.size⟩) _) (ownFrom_below (Nat.le_refl _) (by omega)))
    (fun c => OwnFrom.and (Own.from (fun s A B row hs hg hr => ⟨hs.1, hs.2.1, Go.cell_kept hs.2.2 hg hr⟩) _) (ownFrom_below (Nat.le_refl _) (by omega)))
    ⟨⟨by simp, hres, hfr, Nat.le_refl _⟩, hB0⟩
    (fun x a' W => ∃ B1 B2, w.heap.size < B1 ∧ w.heap.size < B2 ∧ W.cell? ⟨B1, 0, none⟩ = some (.int .i64 (rd_T51 l (x : Nat)).f0) ∧ W.cell? ⟨B2, 0, none⟩ = some (.int .i64 (rd_T51 l ((x : Nat) + 1)).f0) ∧ a' = { tmps := #[.slice A l.length c, undef, .pointer (some ⟨w.heap.size, 0, none⟩), .pointer (some ⟨B1, 0, none⟩), .pointer (some ⟨B2, 0, none⟩), .slice A l.length c, .func (.func 75) #[] #[.pointer (some ⟨w.heap.size + 1, 0, none⟩)], (encNb l x).getD 0 undef, (encNb l x).getD 1 undef, undef, undef, undef, undef, undef], defers := [] })
    (fun x a' _ X Y row hs hg hr => by obtain ⟨B1, B2, h1, h2, h3, h4, h5⟩ := hs; exact ⟨B1, B2, h1, h2, Go.cell_kept h3 hg (fun r e => (hr r e).2), Go.cell_kept h4 hg (fun r e => (hr r e).2), h5⟩)
    ?assign ?body ?done ?stop
  case assign =>
    rintro lp pre x W K ⟨⟨hp, c1, f1, hs⟩, hB⟩ hK
    gi_wp2
    refine hK _ _ (((KeepsOthers.alloc W _).trans (KeepsOthers.alloc _ _)).from _) (((Below.refl _ W).alloc hs _).alloc (by simp; omega) _) ⟨⟨hp, cell_al (cell_al c1 _) _, ?_, by simp; omega⟩, (hB.alloc (by omega) _).alloc (by simp; omega) _⟩ ⟨W.heap.size, W.heap.size + 1, by omega, by omega, by simp [go_sem], by simp [go_sem], rfl⟩
    exact froz_al (cell_al c1 _) (froz_al c1 f1 _) _
  case body =>
    rintro lp pre x a' W hle ⟨r, hrec⟩ ⟨⟨hp, c1, f1, hs⟩, hB⟩ ⟨B1, B2, hb1, hb2, d1, d2, rfl⟩ hlt
    by_cases hx : (rd_T51 l ((x : Nat) + 1)).f0 < (rd_T51 l (x : Nat)).f0
    · have HX := Aside0.mk hx
      gi_wp2
      exact ⟨(KeepsOthers.setCell _ _ _).from _, ⟨rfl, ⟨pre, x, rfl, HX.out⟩, World.cell?_setCell_same' _ _ _ (by rw [c1]; rfl)⟩, hB.setCell (p := ⟨w.heap.size, 0, none⟩) (Nat.le_refl _) _⟩
    · have hx' : (rd_T51 l (x : Nat)).f0 ≤ (rd_T51 l ((x : Nat) + 1)).f0 := by omega
      have HX := Aside0.mk hx'
      clear hx
      gi_wp2
      exact ⟨(KeepsOthers.refl _).from _, Below.refl _ _, ⟨⟨fun y hy => (List.mem_append.1 hy).elim (hp y) (fun e => by simp at e; subst e; exact HX.out), c1, f1, hs⟩, hB⟩⟩
  case done =>
    rintro D ys W hD rfl ⟨⟨hp, c1, f1, hs⟩, hB⟩ hKd
    have hval : upF l = true := by
      unfold upF
      rw [List.all_eq_true]
      exact fun i hi => decide_eq_true (hp i hi)
    have HV := Aside0.mk hval
    clear hval hp
    gi_wp2
    have hK1 := (KeepsOthers.setCell W ⟨w.heap.size, 0, none⟩ (.bool true)).same D _ hKd rfl
    have d1 : (W.setCell ⟨w.heap.size, 0, none⟩ (.bool true)).cell? ⟨w.heap.size, 0, none⟩ = some (.bool true) := World.cell?_setCell_same' _ _ _ (by rw [c1]; rfl)
    have e1 := Go.cell_kept d1 (grownBy_putObj' _ D (.deferred none)) (fun r e => by cases e; exact ⟨_, hK1, rfl⟩)
    refine ⟨by simp, .inl ⟨_, _, rfl, run_takeDeferred hK1, ?_⟩⟩
    refine ⟨.bool true, ?_, by rw [HV.out], (hB.setCell (p := ⟨w.heap.size, 0, none⟩) (Nat.le_refl _) _).trans (belowK_b (w := w) (Nat.le_refl _) _ D _ _ (by omega) hK1 rfl rfl)⟩
    simp [results, Try.f41, go_sem, e1]
  case stop =>
    rintro D c pre W hD ⟨m, hm1, hm2, hpre⟩ ⟨⟨rfl, ⟨p, i, hpi, hlt⟩, c1⟩, hB⟩ hKd
    have hval : upF l = false := by
      unfold upF
      rw [List.all_eq_false]
      refine ⟨i, ?_, by simp; omega⟩
      have : i ∈ pre := by rw [hpi]; simp
      rw [hpre, List.mem_range] at this
      rw [List.mem_range]; omega
    have e1 := Go.cell_kept c1 (grownBy_putObj' _ D (.deferred none)) (fun r e => by cases e; exact ⟨_, hKd, rfl⟩)
    have HV := Aside0.mk hval
    clear hval hlt hpi hpre
    gi_wp2
    refine ⟨by simp, .inl ⟨_, _, rfl, run_takeDeferred hKd, ?_⟩⟩
    refine ⟨.bool false, ?_, by rw [HV.out], hB.trans (belowK_b (w := w) (Nat.le_refl _) _ D _ _ (by omega) hKd rfl rfl)⟩
    simp [results, Try.f41, go_sem, e1]
def watch_Right.f (l : List S51) : Option Bool := if l.length * 40 ≤ 140737488351232 then some (upF l) else none
theorem watch_Right.calls (A0 : Option Addr) (c0 : Nat) (l0 : List S51) (r : Bool) (w : World) (hr0 : Kd.C k51 w A0 l0.length l0) (hc0 : l0.length ≤ c0) (h : watch_Right.f l0 = some r) :
    Calls Try.prog 41 #[.slice A0 l0.length c0] w fun e w' => e = .returned (.bool r) ∧ Below w.heap.size w w' := by
  unfold watch_Right.f at h
  by_cases hl : l0.length * 40 ≤ 140737488351232
  · rw [if_pos hl] at h
    obtain rfl := Option.some.inj h
    exact right_calls A0 c0 l0 w hr0 hl
  · rw [if_neg hl] at h; cases h


end Go.Proofs.Ytkkopknlhijgiaa.G
