/- Contracts of functions of the given program, each proved by a walk of its code: written by gprint.py, this session's program round the kit's print; texts of our own stand among the printed ones. No condition beyond each theorem's own premises. -/
import Derived.Test.YtkkopknlhijgiaaG0
import Derived.Test.YtkkopknlhijgiaaG2
import Derived.Test.YtkkopknlhijgiaaG3
import Derived.Test.YtkkopknlhijgiaaG5
import Derived.Test.YtkkopknlhijgiaaG6
import Derived.Test.YtkkopknlhijgiaaG7
import Derived.Test.YtkkopknlhijgiaaG8
namespace Go.Proofs.Ytkkopknlhijgiaa.G
open Go.RowKit Go.Proofs.YtkkopknlhijgiaaW.PrintWords Go.Proofs.YtkkopknlhijgiaaW.PrintLast Go.Proofs.YtkkopknlhijgiaaW.PrintMore
attribute [local go_sem] max2_int min2_int max_two min_two max_three min_three max_four min_four   -- for this text's walks alone
set_option linter.unusedVariables false
set_option linter.unusedSimpArgs false

/-! ### foghornlaw05_TickTells: function 7 -/
mutual
def foghornlaw05_TickTells.j0 : Nat → Int → Int → List Int → Int → Int → Int → Int → Int → Int → Int → Int → Bool → Option (Bool)
  | 0, _, _, _, _, _, _, _, _, _, _, _, _ => none
  | k + 1, x0, x1, x2, x7, x8, x9, x10, x11, x12, x13, x14, x51 => if x51 = true then (some false) else ((foghornref05_All.f k x2).bind fun t191 => (if t191 = true then (if (x2.length : Int) = 0 then (if x14 = 4 then (if x13 = 0 then (foghornlaw05_TickTells.j1 k x0 x1 x7 x8 x9 x10 x11 x12) else (some false)) else (some false)) else (if x14 = 0 then ((foghornref05_First.f k x2).bind fun t192 => (if x13 = t192 then (foghornlaw05_TickTells.j1 k x0 x1 x7 x8 x9 x10 x11 x12) else (some false))) else (some false))) else (if x14 = 1 then (if x13 = 0 then (foghornlaw05_TickTells.j1 k x0 x1 x7 x8 x9 x10 x11 x12) else (some false)) else (some false))))
def foghornlaw05_TickTells.j1 : Nat → Int → Int → Int → Int → Int → Int → Int → Int → Option (Bool)
  | 0, _, _, _, _, _, _, _, _ => none
  | k + 1, x0, x1, x7, x8, x9, x10, x11, x12 => (foghornref05_Right.f x0).bind fun t193 => (if t193 = true then ((foghornref05_Right.f x1).bind fun t194 => (foghornlaw05_TickTells.j2 k x0 x1 x7 x8 x9 x10 x11 x12 (!t194))) else (foghornlaw05_TickTells.j2 k x0 x1 x7 x8 x9 x10 x11 x12 true))
def foghornlaw05_TickTells.j2 : Nat → Int → Int → Int → Int → Int → Int → Int → Int → Bool → Option (Bool)
  | 0, _, _, _, _, _, _, _, _, _ => none
  | k + 1, x0, x1, x7, x8, x9, x10, x11, x12, x88 => if x88 = true then (if x8 = 1 then (if x10 = 1 then (if x12 = 1 then (if x7 = 0 then (if x9 = 0 then (some (x11 == 0)) else (some false)) else (some false)) else (some false)) else (some false)) else (some false)) else (if x8 = 0 then (if x10 = 0 then (if x12 = 0 then ((foghornref05_Add.f x0 x1).bind fun t195 => (if x7 = t195 then ((foghornref05_Sub.f x0 x1).bind fun t196 => (if x9 = t196 then ((foghornref05_Times.f x0 x1).bind fun t197 => (some (x11 == t197))) else (some false))) else (some false))) else (some false)) else (some false)) else (some false))
end
def foghornlaw05_TickTells.f (k : Nat) (a0 : Int) (a1 : Int) (l2 : List Int) : Option (Bool) := if 0 ≤ (mn (l2.length : Int) 50) then (if (mn (l2.length : Int) 50) ≤ (l2.length : Int) then ((some (l2.take ((mn (l2.length : Int) 50) : Int).toNat : List Int)).bind fun y176 => ((tick_Add.f a0 a1).bind fun bt180 => ((tick_Sub.f a0 a1).bind fun bt182 => ((tick_Times.f a0 a1).bind fun bt184 => ((tick_First.f y176).bind fun bt186 => ((tick_Right.f a0).bind fun t188 => ((foghornref05_Right.f a0).bind fun t189 => (if (t188 != t189) = true then (foghornlaw05_TickTells.j0 k a0 a1 y176 bt180.1 bt180.2 bt182.1 bt182.2 bt184.1 bt184.2 bt186.1 bt186.2 true) else ((foghornlaw05_alive.f).bind fun t190 => (foghornlaw05_TickTells.j0 k a0 a1 y176 bt180.1 bt180.2 bt182.1 bt182.2 bt184.1 bt184.2 bt186.1 bt186.2 (!t190))))))))))) else (none)) else (none)
theorem foghornlaw05_TickTells.mono_l : ∀ k, (∀ y0 y1 y2 y3 y4 y5 y6 y7 y8 y9 y10 y11, LeO (foghornlaw05_TickTells.j0 k y0 y1 y2 y3 y4 y5 y6 y7 y8 y9 y10 y11) (foghornlaw05_TickTells.j0 (k + 1) y0 y1 y2 y3 y4 y5 y6 y7 y8 y9 y10 y11)) ∧ (∀ y0 y1 y2 y3 y4 y5 y6 y7, LeO (foghornlaw05_TickTells.j1 k y0 y1 y2 y3 y4 y5 y6 y7) (foghornlaw05_TickTells.j1 (k + 1) y0 y1 y2 y3 y4 y5 y6 y7)) ∧ (∀ y0 y1 y2 y3 y4 y5 y6 y7 y8, LeO (foghornlaw05_TickTells.j2 k y0 y1 y2 y3 y4 y5 y6 y7 y8) (foghornlaw05_TickTells.j2 (k + 1) y0 y1 y2 y3 y4 y5 y6 y7 y8))
  | 0 => ⟨fun _ _ _ _ _ _ _ _ _ _ _ _ r h => by simp [foghornlaw05_TickTells.j0] at h, fun _ _ _ _ _ _ _ _ r h => by simp [foghornlaw05_TickTells.j1] at h, fun _ _ _ _ _ _ _ _ _ r h => by simp [foghornlaw05_TickTells.j2] at h⟩
  | k + 1 => by
    obtain ⟨ih0, ih1, ih2⟩ := foghornlaw05_TickTells.mono_l k
    refine ⟨?_, ?_, ?_⟩
    · intro y0 y1 y2 y3 y4 y5 y6 y7 y8 y9 y10 y11
      unfold foghornlaw05_TickTells.j0
      repeat' first
      | (with_reducible exact ih0 _ _ _ _ _ _ _ _ _ _ _ _)
      | (with_reducible exact ih1 _ _ _ _ _ _ _ _)
      | (with_reducible exact ih2 _ _ _ _ _ _ _ _ _)
      | (with_reducible exact foghornref05_All.mono _ _)
      | (with_reducible exact foghornref05_First.mono _ _)
      | (with_reducible exact LeO.refl _)
      | (with_reducible exact LeO.none _)
      | (with_reducible refine LeO.ite ?_ ?_)
      | (with_reducible refine LeO.bind ?_ (fun _ => ?_))
      | exact ih0 _ _ _ _ _ _ _ _ _ _ _ _
      | exact ih1 _ _ _ _ _ _ _ _
      | exact ih2 _ _ _ _ _ _ _ _ _
      | exact foghornref05_All.mono _ _
      | exact foghornref05_First.mono _ _
      | exact LeO.none _
      | refine LeO.ite ?_ ?_
      | refine LeO.bind ?_ (fun _ => ?_)
    · intro y0 y1 y2 y3 y4 y5 y6 y7
      unfold foghornlaw05_TickTells.j1
      repeat' first
      | (with_reducible exact ih0 _ _ _ _ _ _ _ _ _ _ _ _)
      | (with_reducible exact ih1 _ _ _ _ _ _ _ _)
      | (with_reducible exact ih2 _ _ _ _ _ _ _ _ _)
      | (with_reducible exact foghornref05_All.mono _ _)
      | (with_reducible exact foghornref05_First.mono _ _)
      | (with_reducible exact LeO.refl _)
      | (with_reducible exact LeO.none _)
      | (with_reducible refine LeO.ite ?_ ?_)
      | (with_reducible refine LeO.bind ?_ (fun _ => ?_))
      | exact ih0 _ _ _ _ _ _ _ _ _ _ _ _
      | exact ih1 _ _ _ _ _ _ _ _
      | exact ih2 _ _ _ _ _ _ _ _ _
      | exact foghornref05_All.mono _ _
      | exact foghornref05_First.mono _ _
      | exact LeO.none _
      | refine LeO.ite ?_ ?_
      | refine LeO.bind ?_ (fun _ => ?_)
    · intro y0 y1 y2 y3 y4 y5 y6 y7 y8
      unfold foghornlaw05_TickTells.j2
      repeat' first
      | (with_reducible exact ih0 _ _ _ _ _ _ _ _ _ _ _ _)
      | (with_reducible exact ih1 _ _ _ _ _ _ _ _)
      | (with_reducible exact ih2 _ _ _ _ _ _ _ _ _)
      | (with_reducible exact foghornref05_All.mono _ _)
      | (with_reducible exact foghornref05_First.mono _ _)
      | (with_reducible exact LeO.refl _)
      | (with_reducible exact LeO.none _)
      | (with_reducible refine LeO.ite ?_ ?_)
      | (with_reducible refine LeO.bind ?_ (fun _ => ?_))
      | exact ih0 _ _ _ _ _ _ _ _ _ _ _ _
      | exact ih1 _ _ _ _ _ _ _ _
      | exact ih2 _ _ _ _ _ _ _ _ _
      | exact foghornref05_All.mono _ _
      | exact foghornref05_First.mono _ _
      | exact LeO.none _
      | refine LeO.ite ?_ ?_
      | refine LeO.bind ?_ (fun _ => ?_)
theorem foghornlaw05_TickTells.mono : ∀ a0 a1 a2 k, LeO (foghornlaw05_TickTells.f k a0 a1 a2) (foghornlaw05_TickTells.f (k + 1) a0 a1 a2) := by
  intro a0 a1 a2 k
  obtain ⟨ih0, ih1, ih2⟩ := foghornlaw05_TickTells.mono_l k
  unfold foghornlaw05_TickTells.f
  repeat' first
      | (with_reducible exact ih0 _ _ _ _ _ _ _ _ _ _ _ _)
      | (with_reducible exact ih1 _ _ _ _ _ _ _ _)
      | (with_reducible exact ih2 _ _ _ _ _ _ _ _ _)
      | (with_reducible exact foghornref05_All.mono _ _)
      | (with_reducible exact foghornref05_First.mono _ _)
      | (with_reducible exact LeO.refl _)
      | (with_reducible exact LeO.none _)
      | (with_reducible refine LeO.ite ?_ ?_)
      | (with_reducible refine LeO.bind ?_ (fun _ => ?_))
      | exact ih0 _ _ _ _ _ _ _ _ _ _ _ _
      | exact ih1 _ _ _ _ _ _ _ _
      | exact ih2 _ _ _ _ _ _ _ _ _
      | exact foghornref05_All.mono _ _
      | exact foghornref05_First.mono _ _
      | exact LeO.none _
      | refine LeO.ite ?_ ?_
      | refine LeO.bind ?_ (fun _ => ?_)
set_option maxHeartbeats 8000000 in
set_option maxRecDepth 100000 in
theorem foghornlaw05_TickTells.calls (k : Nat) (a0 : Int) (a1 : Int) (A2 : Option Addr) (c2 : Nat) (l2 : List Int) (r : Bool) (w : World) (hr2 : Kd.C (Kd.int .i64) w A2 l2.length l2) (hc2 : l2.length ≤ c2) (h : foghornlaw05_TickTells.f k a0 a1 l2 = some r) :
    Calls Try.prog 7 #[.int .i64 a0, .int .i64 a1, .slice A2 l2.length c2] w fun e w' => e = .returned (.bool r) ∧ Below w.heap.size w w' := by
  have HR2 := Aside0.mk hr2
  have HC2 := Aside0.mk hc2
  clear hr2 hc2
  have HB := Aside0.mk (Below.refl w.heap.size w)
  have H : (if 0 ≤ (mn (l2.length : Int) 50) then (if (mn (l2.length : Int) 50) ≤ (l2.length : Int) then ((some (l2.take ((mn (l2.length : Int) 50) : Int).toNat : List Int)).bind fun y176 => ((tick_Add.f a0 a1).bind fun bt180 => ((tick_Sub.f a0 a1).bind fun bt182 => ((tick_Times.f a0 a1).bind fun bt184 => ((tick_First.f y176).bind fun bt186 => ((tick_Right.f a0).bind fun t188 => ((foghornref05_Right.f a0).bind fun t189 => (if (t188 != t189) = true then (foghornlaw05_TickTells.j0 k a0 a1 y176 bt180.1 bt180.2 bt182.1 bt182.2 bt184.1 bt184.2 bt186.1 bt186.2 true) else ((foghornlaw05_alive.f).bind fun t190 => (foghornlaw05_TickTells.j0 k a0 a1 y176 bt180.1 bt180.2 bt182.1 bt182.2 bt184.1 bt184.2 bt186.1 bt186.2 (!t190))))))))))) else (none)) else (none)) = some r := h
  clear h
  obtain ⟨ji4, hji4⟩ : ∃ j_ : Int, (mn (l2.length : Int) 50) = j_ := ⟨_, rfl⟩
  replace H : (if 0 ≤ (ji4) then (if (ji4) ≤ (l2.length : Int) then ((some (l2.take ((ji4) : Int).toNat : List Int)).bind fun y176 => ((tick_Add.f a0 a1).bind fun bt180 => ((tick_Sub.f a0 a1).bind fun bt182 => ((tick_Times.f a0 a1).bind fun bt184 => ((tick_First.f y176).bind fun bt186 => ((tick_Right.f a0).bind fun t188 => ((foghornref05_Right.f a0).bind fun t189 => (if (t188 != t189) = true then (foghornlaw05_TickTells.j0 k a0 a1 y176 bt180.1 bt180.2 bt182.1 bt182.2 bt184.1 bt184.2 bt186.1 bt186.2 true) else ((foghornlaw05_alive.f).bind fun t190 => (foghornlaw05_TickTells.j0 k a0 a1 y176 bt180.1 bt180.2 bt182.1 bt182.2 bt184.1 bt184.2 bt186.1 bt186.2 (!t190))))))))))) else (none)) else (none)) = some r := by first | (rw [hji4] at H; exact H) | (simp only [hji4] at H ⊢; exact H)
  (try (have hji4h : ji4 ≤ 50 := by (rw [← hji4]; unfold mn; (repeat' split) <;> omega)))
  (try (have hji4g : ji4 ≤ 64 := by omega))
  (try (have hji4l : 0 ≤ ji4 := by (rw [← hji4]; unfold mn; (repeat' split) <;> omega)))
  (try (have hji4m : 0 ≤ ji4 := by omega))
  have hji4_ : (if 50 < (l2.length : Int) then 50 else (l2.length : Int)) = ji4 := hji4
  by_cases c5 : 0 ≤ (ji4)
  · rw [if_pos c5] at H
    have c5b0 := eq_true c5
    have c5b1 : decide (0 ≤ (ji4)) = true := decide_eq_true c5
    clear c5
    by_cases c6 : (ji4) ≤ (l2.length : Int)
    · rw [if_pos c6] at H
      have c6b0 := eq_true c6
      have c6b1 : decide ((ji4) ≤ (l2.length : Int)) = true := decide_eq_true c6
      clear c6
      obtain ⟨y176, hy176⟩ : ∃ y_ : List Int, y_ = (l2.take ((ji4) : Int).toNat) := ⟨_, rfl⟩
      replace H : ((tick_Add.f a0 a1).bind fun bt180 => ((tick_Sub.f a0 a1).bind fun bt182 => ((tick_Times.f a0 a1).bind fun bt184 => ((tick_First.f y176).bind fun bt186 => ((tick_Right.f a0).bind fun t188 => ((foghornref05_Right.f a0).bind fun t189 => (if (t188 != t189) = true then (foghornlaw05_TickTells.j0 k a0 a1 y176 bt180.1 bt180.2 bt182.1 bt182.2 bt184.1 bt184.2 bt186.1 bt186.2 true) else ((foghornlaw05_alive.f).bind fun t190 => (foghornlaw05_TickTells.j0 k a0 a1 y176 bt180.1 bt180.2 bt182.1 bt182.2 bt184.1 bt184.2 bt186.1 bt186.2 (!t190)))))))))) = some r := by first | (rw [hy176]; with_reducible exact H) | (have H2_ := (Option.bind_some _ _).symm.trans H; rw [hy176]; with_reducible exact H2_) | (have H2_ := (Option.bind_some _ _).symm.trans H; with_reducible exact H2_) | with_reducible exact H | (rw [hy176]; exact H) | exact H
      have Ny176 := Aside0.mk hy176
      clear hy176
      replace H := Option.bind_eq_some_iff.mp H
      obtain ⟨⟨t180, t181⟩, A70, H⟩ := H
      replace H : ((tick_Sub.f a0 a1).bind fun bt182 => ((tick_Times.f a0 a1).bind fun bt184 => ((tick_First.f y176).bind fun bt186 => ((tick_Right.f a0).bind fun t188 => ((foghornref05_Right.f a0).bind fun t189 => (if (t188 != t189) = true then (foghornlaw05_TickTells.j0 k a0 a1 y176 t180 t181 bt182.1 bt182.2 bt184.1 bt184.2 bt186.1 bt186.2 true) else ((foghornlaw05_alive.f).bind fun t190 => (foghornlaw05_TickTells.j0 k a0 a1 y176 t180 t181 bt182.1 bt182.2 bt184.1 bt184.2 bt186.1 bt186.2 (!t190))))))))) = some r := H
      have A7 := Aside0.mk A70
      clear A70
      replace H := Option.bind_eq_some_iff.mp H
      obtain ⟨⟨t182, t183⟩, A80, H⟩ := H
      replace H : ((tick_Times.f a0 a1).bind fun bt184 => ((tick_First.f y176).bind fun bt186 => ((tick_Right.f a0).bind fun t188 => ((foghornref05_Right.f a0).bind fun t189 => (if (t188 != t189) = true then (foghornlaw05_TickTells.j0 k a0 a1 y176 t180 t181 t182 t183 bt184.1 bt184.2 bt186.1 bt186.2 true) else ((foghornlaw05_alive.f).bind fun t190 => (foghornlaw05_TickTells.j0 k a0 a1 y176 t180 t181 t182 t183 bt184.1 bt184.2 bt186.1 bt186.2 (!t190)))))))) = some r := H
      have A8 := Aside0.mk A80
      clear A80
      replace H := Option.bind_eq_some_iff.mp H
      obtain ⟨⟨t184, t185⟩, A90, H⟩ := H
      replace H : ((tick_First.f y176).bind fun bt186 => ((tick_Right.f a0).bind fun t188 => ((foghornref05_Right.f a0).bind fun t189 => (if (t188 != t189) = true then (foghornlaw05_TickTells.j0 k a0 a1 y176 t180 t181 t182 t183 t184 t185 bt186.1 bt186.2 true) else ((foghornlaw05_alive.f).bind fun t190 => (foghornlaw05_TickTells.j0 k a0 a1 y176 t180 t181 t182 t183 t184 t185 bt186.1 bt186.2 (!t190))))))) = some r := H
      have A9 := Aside0.mk A90
      clear A90
      replace H := Option.bind_eq_some_iff.mp H
      obtain ⟨⟨t186, t187⟩, A100, H⟩ := H
      replace H : ((tick_Right.f a0).bind fun t188 => ((foghornref05_Right.f a0).bind fun t189 => (if (t188 != t189) = true then (foghornlaw05_TickTells.j0 k a0 a1 y176 t180 t181 t182 t183 t184 t185 t186 t187 true) else ((foghornlaw05_alive.f).bind fun t190 => (foghornlaw05_TickTells.j0 k a0 a1 y176 t180 t181 t182 t183 t184 t185 t186 t187 (!t190)))))) = some r := H
      have A10 := Aside0.mk A100
      clear A100
      have HC11 := Aside0.mk H
      clear H
      have q12 : ((ji4) : Int) ≤ ((l2.length : Int) : Int) := of_decide_eq_true (by first | (with_reducible assumption) | assumption)
      obtain ⟨i012, hi012, _, hsz12, _⟩ := info_parts info3
      have hroom12 : l2.length ≤ c2 := HC2.out
      have hC12 : Kd.C (Kd.int .i64) _ A2 l2.length l2 := HR2.out
      have hcut12 := cut_to (P := Try.prog) 35 3 .i64 Try.underlying35 hi012 A2 l2.length c2 (ji4) (of_decide_eq_true (by first | (with_reducible assumption) | assumption)) q12 hroom12
      have hr12 := Kd.C_take (m := ((ji4) : Int).toNat) hC12 (by omega)
      have hy12 : y176.length = ((ji4) : Int).toNat := (by rw [Ny176.out, List.length_take]; omega)
      rw [← Ny176.out] at hr12
      rw [← hy12] at hcut12
      have HR179 := Aside0.mk hr12
      have HC179 := Aside0.mk (show y176.length ≤ c2 from by omega)
      clear hr12 hC12 hroom12 hi012 hsz12
      have KY12 := Aside0.mk hy12
      clear hy12
      replace q12 := eq_true q12
      go_enter Try.func7, Try.ntmps7
      go_upto_region 6 with (first | ((with_reducible refine gate_callee (f := 19) rfl ?_); refine goesL_ (some 23) rfl rfl Try.func19 (by kernel_rfl) rfl #[.int .i64 a0, .int .i64 a1] rfl (by (try simp only [List.map_toArray, List.map_cons, List.map_nil]); first | done | rfl | (simp only [List.length_drop, List.length_take]; rfl)) ?_; (with_reducible refine (tick_Add.calls a0 a1 t180 t181 _ A7.out).mono ?_); rintro e w13 ⟨rfl, hb⟩; refine ⟨_, rfl, ?_⟩; have n0_ := Aside0.mk (below_step (by repeat (first | (with_reducible first | exact HB.out | apply below_alloc | apply pw_below_drewN | apply below_drew1) | exact HB.out)) hb); clear HB; have HB := n0_; clear n0_; (try clear hb); (try clear hb2); (try clear hk); (try clear hi)) | ((with_reducible refine gate_callee (f := 21) rfl ?_); refine goesL_ (some 29) rfl rfl Try.func21 (by kernel_rfl) rfl #[.int .i64 a0, .int .i64 a1] rfl (by (try simp only [List.map_toArray, List.map_cons, List.map_nil]); first | done | rfl | (simp only [List.length_drop, List.length_take]; rfl)) ?_; (with_reducible refine (tick_Sub.calls a0 a1 t182 t183 _ A8.out).mono ?_); rintro e w14 ⟨rfl, hb⟩; refine ⟨_, rfl, ?_⟩; have n0_ := Aside0.mk (below_step (by repeat (first | (with_reducible first | exact HB.out | apply below_alloc | apply pw_below_drewN | apply below_drew1) | exact HB.out)) hb); clear HB; have HB := n0_; clear n0_; (try clear hb); (try clear hb2); (try clear hk); (try clear hi)) | ((with_reducible refine gate_callee (f := 20) rfl ?_); refine goesL_ (some 35) rfl rfl Try.func20 (by kernel_rfl) rfl #[.int .i64 a0, .int .i64 a1] rfl (by (try simp only [List.map_toArray, List.map_cons, List.map_nil]); first | done | rfl | (simp only [List.length_drop, List.length_take]; rfl)) ?_; (with_reducible refine (tick_Times.calls a0 a1 t184 t185 _ A9.out).mono ?_); rintro e w15 ⟨rfl, hb⟩; refine ⟨_, rfl, ?_⟩; have n0_ := Aside0.mk (below_step (by repeat (first | (with_reducible first | exact HB.out | apply below_alloc | apply pw_below_drewN | apply below_drew1) | exact HB.out)) hb); clear HB; have HB := n0_; clear n0_; (try clear hb); (try clear hb2); (try clear hk); (try clear hi)) | ((with_reducible refine gate_callee (f := 27) rfl ?_); refine goesL_ (some 40) rfl rfl Try.func27 (by kernel_rfl) rfl #[.slice A2 y176.length c2] rfl (by (try simp only [List.map_toArray, List.map_cons, List.map_nil]); first | done | rfl | (simp only [List.length_drop, List.length_take]; rfl)) ?_; (with_reducible refine (tick_First.calls _ _ y176 t186 t187 _ ?side1 ?side2 A10.out).mono ?_); (case side1 => repeat (first | exact (Kd.C_below HR179.out HB.out) | (with_reducible refine Kd.C_alloc ?_ _) | (with_reducible refine Kd.C_drewN ?_ _) | (with_reducible refine Kd.C_drew ?_))); (case side2 => exact HC179.out); rintro e w' ⟨rfl, ⟨nd, rfl⟩⟩; refine ⟨_, rfl, ?_⟩))
      (try simp only [Act.put, List.setIfInBounds_toArray, List.set_cons_zero, List.set_cons_succ])
      go_cut [51] (fun v51 wc => ∃ (kq : Nat) (x51_10 : Bool), v51 = .bool x51_10 ∧ Aside0 (foghornlaw05_TickTells.j0 kq a0 a1 y176 t180 t181 t182 t183 t184 t185 t186 t187 x51_10 = some r) ∧ Aside0 (kq ≤ k) ∧ Aside0 (Below w.heap.size w wc))
      case first =>
        have H := HC11.out
        clear HC11
        replace H := Option.bind_eq_some_iff.mp H
        obtain ⟨t188, A160, H⟩ := H
        replace H : ((foghornref05_Right.f a0).bind fun t189 => (if (t188 != t189) = true then (foghornlaw05_TickTells.j0 k a0 a1 y176 t180 t181 t182 t183 t184 t185 t186 t187 true) else ((foghornlaw05_alive.f).bind fun t190 => (foghornlaw05_TickTells.j0 k a0 a1 y176 t180 t181 t182 t183 t184 t185 t186 t187 (!t190))))) = some r := H
        have A16 := Aside0.mk A160
        clear A160
        replace H := Option.bind_eq_some_iff.mp H
        obtain ⟨t189, A170, H⟩ := H
        replace H : (if (t188 != t189) = true then (foghornlaw05_TickTells.j0 k a0 a1 y176 t180 t181 t182 t183 t184 t185 t186 t187 true) else ((foghornlaw05_alive.f).bind fun t190 => (foghornlaw05_TickTells.j0 k a0 a1 y176 t180 t181 t182 t183 t184 t185 t186 t187 (!t190)))) = some r := H
        have A17 := Aside0.mk A170
        clear A170
        by_cases c18 : (t188 != t189) = true
        · rw [if_pos c18] at H
          have c18b0 : (t188 != t189) = true := c18
          (try (have c18b1 : decide (t188 = t189) = false := by simpa using c18))
          (try (have c18b2 : (t188 == t189) = false := by simpa using c18))
          (try (have c18b3 : ¬ (t188 = t189) := by simpa using c18))
          clear c18
          (first | rw [c18b0] | (simp only [i64_w, i32_w]; rw [c18b0]) | skip)
          have H' := Aside0.mk H
          clear H
          go_wp2_with (first | ((with_reducible refine gate_callee (f := 23) rfl ?_); refine goesL_ (some 44) rfl rfl Try.func23 (by kernel_rfl) rfl #[.int .i64 a0] rfl (by (try simp only [List.map_toArray, List.map_cons, List.map_nil]); first | done | rfl | (simp only [List.length_drop, List.length_take]; rfl)) ?_; (with_reducible refine (tick_Right.calls a0 t188 _ A16.out).mono ?_); rintro e w' ⟨rfl, ⟨nd, rfl⟩⟩; refine ⟨_, rfl, ?_⟩) | ((with_reducible refine gate_callee (f := 28) rfl ?_); refine goesL_ (some 46) rfl rfl Try.func28 (by kernel_rfl) rfl #[.int .i64 a0] rfl (by (try simp only [List.map_toArray, List.map_cons, List.map_nil]); first | done | rfl | (simp only [List.length_drop, List.length_take]; rfl)) ?_; (with_reducible refine (foghornref05_Right.calls a0 t189 _ A17.out).mono ?_); rintro e w' ⟨rfl, ⟨nd, rfl⟩⟩; refine ⟨_, rfl, ?_⟩))
          go_meet
          case rel => exact ⟨_, (true), (by first | rfl | (simp; done) | (simp [*]; done)), H', ⟨by first | omega | exact Nat.le_refl _⟩, ⟨by repeat (first | (with_reducible first | exact HB.out | apply below_alloc | apply pw_below_drewN | apply below_drew1) | exact HB.out)⟩⟩
        · rw [if_neg c18] at H
          have c18b0 : (t188 != t189) = false := by simpa using c18
          (try (have c18b1 : decide (t188 = t189) = true := by simpa using c18))
          (try (have c18b2 : (t188 == t189) = true := by simpa using c18))
          clear c18
          (first | rw [c18b0] | (simp only [i64_w, i32_w]; rw [c18b0]) | skip)
          replace H := Option.bind_eq_some_iff.mp H
          obtain ⟨t190, A190, H⟩ := H
          replace H : (foghornlaw05_TickTells.j0 k a0 a1 y176 t180 t181 t182 t183 t184 t185 t186 t187 (!t190)) = some r := H
          have A19 := Aside0.mk A190
          clear A190
          have H' := Aside0.mk H
          clear H
          go_wp2_with (first | ((with_reducible refine gate_callee (f := 23) rfl ?_); refine goesL_ (some 44) rfl rfl Try.func23 (by kernel_rfl) rfl #[.int .i64 a0] rfl (by (try simp only [List.map_toArray, List.map_cons, List.map_nil]); first | done | rfl | (simp only [List.length_drop, List.length_take]; rfl)) ?_; (with_reducible refine (tick_Right.calls a0 t188 _ A16.out).mono ?_); rintro e w' ⟨rfl, ⟨nd, rfl⟩⟩; refine ⟨_, rfl, ?_⟩) | ((with_reducible refine gate_callee (f := 28) rfl ?_); refine goesL_ (some 46) rfl rfl Try.func28 (by kernel_rfl) rfl #[.int .i64 a0] rfl (by (try simp only [List.map_toArray, List.map_cons, List.map_nil]); first | done | rfl | (simp only [List.length_drop, List.length_take]; rfl)) ?_; (with_reducible refine (foghornref05_Right.calls a0 t189 _ A17.out).mono ?_); rintro e w' ⟨rfl, ⟨nd, rfl⟩⟩; refine ⟨_, rfl, ?_⟩) | (go_at_call 22; (with_reducible refine (foghornlaw05_alive.calls  t190 _ A19.out).mono ?_); rintro e w20 ⟨rfl, hb⟩; have n0_ := Aside0.mk (below_step (by repeat (first | (with_reducible first | exact HB.out | apply below_alloc | apply pw_below_drewN | apply below_drew1) | exact HB.out)) hb); clear HB; have HB := n0_; clear n0_; (try clear hb); (try clear hb2); (try clear hk); (try clear hi)))
          go_meet
          case rel => exact ⟨_, (!t190), (by first | rfl | (simp; done) | (simp [*]; done)), H', ⟨by first | omega | exact Nat.le_refl _⟩, ⟨by repeat (first | (with_reducible first | exact HB.out | apply below_alloc | apply pw_below_drewN | apply below_drew1) | exact HB.out)⟩⟩
      case rest =>
        clear HC11
        try clear c1
        try clear q1
        try clear c2
        try clear p2
        try clear c5
        try clear c5b0
        try clear c5b1
        try clear c6
        try clear c6b0
        try clear c6b1
        try clear c7
        try clear q12
        try clear c18
        try clear c18b0
        try clear c18b1
        try clear c18b2
        try clear c19
        try clear c20
        try clear q12
        obtain ⟨kq, x51_10, rfl, HA, HJ10, HB⟩ := hcut
        cases kq with
        | zero => exact absurd HA.out (by simp [foghornlaw05_TickTells.j0])
        | succ kj10 =>
          have H := HA.out
          clear HA
          simp only [foghornlaw05_TickTells.j0] at H
          by_cases c21 : x51_10 = true
          · subst c21
            have H1 : (some false) = some r := by rw [if_pos rfl] at H; exact H
            clear H
            have H := H1
            clear H1
            obtain rfl := Option.some.inj H
            go_wp2
            go_ret
            exact ⟨by first | rfl | (simp [errW_none, errW_some] <;> rfl) | (simp only [← hji4]; first | rfl | (simp [errW_none, errW_some] <;> rfl)) | (simp [*, errW_none, errW_some] <;> rfl), by repeat (first | (with_reducible first | exact HB.out | apply below_alloc | apply pw_below_drewN | apply below_drew1) | exact HB.out)⟩
          · replace c21 := Bool.eq_false_iff.mpr c21
            subst c21
            have H1 : ((foghornref05_All.f kj10 y176).bind fun t191 => (if t191 = true then (if (y176.length : Int) = 0 then (if t187 = 4 then (if t186 = 0 then (foghornlaw05_TickTells.j1 kj10 a0 a1 t180 t181 t182 t183 t184 t185) else (some false)) else (some false)) else (if t187 = 0 then ((foghornref05_First.f kj10 y176).bind fun t192 => (if t186 = t192 then (foghornlaw05_TickTells.j1 kj10 a0 a1 t180 t181 t182 t183 t184 t185) else (some false))) else (some false))) else (if t187 = 1 then (if t186 = 0 then (foghornlaw05_TickTells.j1 kj10 a0 a1 t180 t181 t182 t183 t184 t185) else (some false)) else (some false)))) = some r := by rw [if_neg (show ¬ (false = true) by decide)] at H; exact H
            clear H
            have H := H1
            clear H1
            have HC22 := Aside0.mk H
            clear H
            go_upto_block 0 with (fail)
            go_cut [] (fun wc => ∃ (kq : Nat), Aside0 (foghornlaw05_TickTells.j1 kq a0 a1 t180 t181 t182 t183 t184 t185 = some r) ∧ Aside0 (kq ≤ kj10) ∧ Aside0 (Below w.heap.size w wc))
            case first =>
              have H := HC22.out
              clear HC22
              replace H := Option.bind_eq_some_iff.mp H
              obtain ⟨t191, A230, H⟩ := H
              replace H : (if t191 = true then (if (y176.length : Int) = 0 then (if t187 = 4 then (if t186 = 0 then (foghornlaw05_TickTells.j1 kj10 a0 a1 t180 t181 t182 t183 t184 t185) else (some false)) else (some false)) else (if t187 = 0 then ((foghornref05_First.f kj10 y176).bind fun t192 => (if t186 = t192 then (foghornlaw05_TickTells.j1 kj10 a0 a1 t180 t181 t182 t183 t184 t185) else (some false))) else (some false))) else (if t187 = 1 then (if t186 = 0 then (foghornlaw05_TickTells.j1 kj10 a0 a1 t180 t181 t182 t183 t184 t185) else (some false)) else (some false))) = some r := H
              have A23 := Aside0.mk A230
              clear A230
              by_cases c24 : t191 = true
              · subst c24
                have H1 : (if (y176.length : Int) = 0 then (if t187 = 4 then (if t186 = 0 then (foghornlaw05_TickTells.j1 kj10 a0 a1 t180 t181 t182 t183 t184 t185) else (some false)) else (some false)) else (if t187 = 0 then ((foghornref05_First.f kj10 y176).bind fun t192 => (if t186 = t192 then (foghornlaw05_TickTells.j1 kj10 a0 a1 t180 t181 t182 t183 t184 t185) else (some false))) else (some false))) = some r := by rw [if_pos rfl] at H; exact H
                clear H
                have H := H1
                clear H1
                by_cases c25 : (y176.length : Int) = 0
                · rw [if_pos c25] at H
                  have c25b0 : ((y176.length : Int) == 0) = true := beq_iff_eq.mpr c25
                  have c25b1 : ((y176.length : Int) != 0) = false := bne_eq_false_iff_eq.mpr c25
                  clear c25
                  (first | rw [c25b0] | (simp only [i64_w, i32_w]; rw [c25b0]) | skip)
                  by_cases c26 : t187 = 4
                  · rw [if_pos c26] at H
                    have c26b0 : (t187 == 4) = true := beq_iff_eq.mpr c26
                    have c26b1 : (t187 != 4) = false := bne_eq_false_iff_eq.mpr c26
                    clear c26
                    by_cases c27 : t186 = 0
                    · rw [if_pos c27] at H
                      have c27b0 : (t186 == 0) = true := beq_iff_eq.mpr c27
                      have c27b1 : (t186 != 0) = false := bne_eq_false_iff_eq.mpr c27
                      clear c27
                      have H' := Aside0.mk H
                      clear H
                      go_wp2_with (first | ((with_reducible refine gate_callee (f := 29) rfl ?_); refine goesL_ (some 54) rfl rfl Try.func29 (by kernel_rfl) rfl #[.slice A2 y176.length c2] rfl (by (try simp only [List.map_toArray, List.map_cons, List.map_nil]); first | done | rfl | (simp only [List.length_drop, List.length_take]; rfl)) ?_; (with_reducible refine (foghornref05_All.calls kj10 _ _ y176 true _ ?side1 ?side2 A23.out).mono ?_); (case side1 => repeat (first | exact (Kd.C_below HR179.out HB.out) | (with_reducible refine Kd.C_alloc ?_ _) | (with_reducible refine Kd.C_drewN ?_ _) | (with_reducible refine Kd.C_drew ?_))); (case side2 => exact HC179.out); rintro e w' ⟨rfl, ⟨nd, rfl⟩⟩; refine ⟨_, rfl, ?_⟩))
                      go_meet
                      case rel => exact ⟨_, H', ⟨by have := HJ10.out; first | omega | exact Nat.le_refl _⟩, ⟨by repeat (first | (with_reducible first | exact HB.out | apply below_alloc | apply pw_below_drewN | apply below_drew1) | exact HB.out)⟩⟩
                    · rw [if_neg c27] at H
                      have c27b0 : (t186 == 0) = false := beq_eq_false_iff_ne.mpr c27
                      have c27b1 : (t186 != 0) = true := bne_iff_ne.mpr c27
                      obtain rfl := Option.some.inj H
                      go_wp2_with (first | ((with_reducible refine gate_callee (f := 29) rfl ?_); refine goesL_ (some 54) rfl rfl Try.func29 (by kernel_rfl) rfl #[.slice A2 y176.length c2] rfl (by (try simp only [List.map_toArray, List.map_cons, List.map_nil]); first | done | rfl | (simp only [List.length_drop, List.length_take]; rfl)) ?_; (with_reducible refine (foghornref05_All.calls kj10 _ _ y176 true _ ?side1 ?side2 A23.out).mono ?_); (case side1 => repeat (first | exact (Kd.C_below HR179.out HB.out) | (with_reducible refine Kd.C_alloc ?_ _) | (with_reducible refine Kd.C_drewN ?_ _) | (with_reducible refine Kd.C_drew ?_))); (case side2 => exact HC179.out); rintro e w' ⟨rfl, ⟨nd, rfl⟩⟩; refine ⟨_, rfl, ?_⟩))
                      go_ret
                      exact ⟨by first | rfl | (simp [errW_none, errW_some] <;> rfl) | (simp only [← hji4]; first | rfl | (simp [errW_none, errW_some] <;> rfl)) | (simp [*, errW_none, errW_some] <;> rfl), by repeat (first | (with_reducible first | exact HB.out | apply below_alloc | apply pw_below_drewN | apply below_drew1) | exact HB.out)⟩
                  · rw [if_neg c26] at H
                    have c26b0 : (t187 == 4) = false := beq_eq_false_iff_ne.mpr c26
                    have c26b1 : (t187 != 4) = true := bne_iff_ne.mpr c26
                    obtain rfl := Option.some.inj H
                    go_wp2_with (first | ((with_reducible refine gate_callee (f := 29) rfl ?_); refine goesL_ (some 54) rfl rfl Try.func29 (by kernel_rfl) rfl #[.slice A2 y176.length c2] rfl (by (try simp only [List.map_toArray, List.map_cons, List.map_nil]); first | done | rfl | (simp only [List.length_drop, List.length_take]; rfl)) ?_; (with_reducible refine (foghornref05_All.calls kj10 _ _ y176 true _ ?side1 ?side2 A23.out).mono ?_); (case side1 => repeat (first | exact (Kd.C_below HR179.out HB.out) | (with_reducible refine Kd.C_alloc ?_ _) | (with_reducible refine Kd.C_drewN ?_ _) | (with_reducible refine Kd.C_drew ?_))); (case side2 => exact HC179.out); rintro e w' ⟨rfl, ⟨nd, rfl⟩⟩; refine ⟨_, rfl, ?_⟩))
                    go_ret
                    exact ⟨by first | rfl | (simp [errW_none, errW_some] <;> rfl) | (simp only [← hji4]; first | rfl | (simp [errW_none, errW_some] <;> rfl)) | (simp [*, errW_none, errW_some] <;> rfl), by repeat (first | (with_reducible first | exact HB.out | apply below_alloc | apply pw_below_drewN | apply below_drew1) | exact HB.out)⟩
                · rw [if_neg c25] at H
                  have c25b0 : ((y176.length : Int) == 0) = false := beq_eq_false_iff_ne.mpr c25
                  have c25b1 : ((y176.length : Int) != 0) = true := bne_iff_ne.mpr c25
                  have c25b2 : ¬ (y176 = []) := fun h_ => c25 (by rw [h_]; rfl)
                  (first | rw [c25b0] | (simp only [i64_w, i32_w]; rw [c25b0]) | skip)
                  by_cases c28 : t187 = 0
                  · rw [if_pos c28] at H
                    have c28b0 : (t187 == 0) = true := beq_iff_eq.mpr c28
                    have c28b1 : (t187 != 0) = false := bne_eq_false_iff_eq.mpr c28
                    clear c28
                    replace H := Option.bind_eq_some_iff.mp H
                    obtain ⟨t192, A290, H⟩ := H
                    replace H : (if t186 = t192 then (foghornlaw05_TickTells.j1 kj10 a0 a1 t180 t181 t182 t183 t184 t185) else (some false)) = some r := H
                    have A29 := Aside0.mk A290
                    clear A290
                    by_cases c30 : t186 = t192
                    · rw [if_pos c30] at H
                      have c30b0 : (t186 == t192) = true := beq_iff_eq.mpr c30
                      have c30b1 : (t186 != t192) = false := bne_eq_false_iff_eq.mpr c30
                      clear c30
                      have H' := Aside0.mk H
                      clear H
                      go_wp2_with (first | ((with_reducible refine gate_callee (f := 29) rfl ?_); refine goesL_ (some 54) rfl rfl Try.func29 (by kernel_rfl) rfl #[.slice A2 y176.length c2] rfl (by (try simp only [List.map_toArray, List.map_cons, List.map_nil]); first | done | rfl | (simp only [List.length_drop, List.length_take]; rfl)) ?_; (with_reducible refine (foghornref05_All.calls kj10 _ _ y176 true _ ?side1 ?side2 A23.out).mono ?_); (case side1 => repeat (first | exact (Kd.C_below HR179.out HB.out) | (with_reducible refine Kd.C_alloc ?_ _) | (with_reducible refine Kd.C_drewN ?_ _) | (with_reducible refine Kd.C_drew ?_))); (case side2 => exact HC179.out); rintro e w' ⟨rfl, ⟨nd, rfl⟩⟩; refine ⟨_, rfl, ?_⟩) | (go_at_call 30; (with_reducible refine (foghornref05_First.calls kj10 _ _ y176 t192 _ ?side1 ?side2 A29.out).mono ?_); (case side1 => repeat (first | exact (Kd.C_below HR179.out (by repeat (first | (with_reducible first | exact HB.out | apply below_alloc | apply pw_below_drewN | apply below_drew1) | exact HB.out))) | (with_reducible refine Kd.C_alloc ?_ _) | (with_reducible refine Kd.C_drewN ?_ _) | (with_reducible refine Kd.C_drew ?_))); (case side2 => exact HC179.out); rintro e w31 ⟨rfl, hb⟩; have n0_ := Aside0.mk (below_step (by repeat (first | (with_reducible first | exact HB.out | apply below_alloc | apply pw_below_drewN | apply below_drew1) | exact HB.out)) hb); clear HB; have HB := n0_; clear n0_; (try clear hb); (try clear hb2); (try clear hk); (try clear hi)))
                      go_meet
                      case rel => exact ⟨_, H', ⟨by have := HJ10.out; first | omega | exact Nat.le_refl _⟩, ⟨by repeat (first | (with_reducible first | exact HB.out | apply below_alloc | apply pw_below_drewN | apply below_drew1) | exact HB.out)⟩⟩
                    · rw [if_neg c30] at H
                      have c30b0 : (t186 == t192) = false := beq_eq_false_iff_ne.mpr c30
                      have c30b1 : (t186 != t192) = true := bne_iff_ne.mpr c30
                      obtain rfl := Option.some.inj H
                      go_wp2_with (first | ((with_reducible refine gate_callee (f := 29) rfl ?_); refine goesL_ (some 54) rfl rfl Try.func29 (by kernel_rfl) rfl #[.slice A2 y176.length c2] rfl (by (try simp only [List.map_toArray, List.map_cons, List.map_nil]); first | done | rfl | (simp only [List.length_drop, List.length_take]; rfl)) ?_; (with_reducible refine (foghornref05_All.calls kj10 _ _ y176 true _ ?side1 ?side2 A23.out).mono ?_); (case side1 => repeat (first | exact (Kd.C_below HR179.out HB.out) | (with_reducible refine Kd.C_alloc ?_ _) | (with_reducible refine Kd.C_drewN ?_ _) | (with_reducible refine Kd.C_drew ?_))); (case side2 => exact HC179.out); rintro e w' ⟨rfl, ⟨nd, rfl⟩⟩; refine ⟨_, rfl, ?_⟩) | (go_at_call 30; (with_reducible refine (foghornref05_First.calls kj10 _ _ y176 t192 _ ?side1 ?side2 A29.out).mono ?_); (case side1 => repeat (first | exact (Kd.C_below HR179.out (by repeat (first | (with_reducible first | exact HB.out | apply below_alloc | apply pw_below_drewN | apply below_drew1) | exact HB.out))) | (with_reducible refine Kd.C_alloc ?_ _) | (with_reducible refine Kd.C_drewN ?_ _) | (with_reducible refine Kd.C_drew ?_))); (case side2 => exact HC179.out); rintro e w32 ⟨rfl, hb⟩; have n0_ := Aside0.mk (below_step (by repeat (first | (with_reducible first | exact HB.out | apply below_alloc | apply pw_below_drewN | apply below_drew1) | exact HB.out)) hb); clear HB; have HB := n0_; clear n0_; (try clear hb); (try clear hb2); (try clear hk); (try clear hi)))
                      go_ret
                      exact ⟨by first | rfl | (simp [errW_none, errW_some] <;> rfl) | (simp only [← hji4]; first | rfl | (simp [errW_none, errW_some] <;> rfl)) | (simp [*, errW_none, errW_some] <;> rfl), by repeat (first | (with_reducible first | exact HB.out | apply below_alloc | apply pw_below_drewN | apply below_drew1) | exact HB.out)⟩
                  · rw [if_neg c28] at H
                    have c28b0 : (t187 == 0) = false := beq_eq_false_iff_ne.mpr c28
                    have c28b1 : (t187 != 0) = true := bne_iff_ne.mpr c28
                    obtain rfl := Option.some.inj H
                    go_wp2_with (first | ((with_reducible refine gate_callee (f := 29) rfl ?_); refine goesL_ (some 54) rfl rfl Try.func29 (by kernel_rfl) rfl #[.slice A2 y176.length c2] rfl (by (try simp only [List.map_toArray, List.map_cons, List.map_nil]); first | done | rfl | (simp only [List.length_drop, List.length_take]; rfl)) ?_; (with_reducible refine (foghornref05_All.calls kj10 _ _ y176 true _ ?side1 ?side2 A23.out).mono ?_); (case side1 => repeat (first | exact (Kd.C_below HR179.out HB.out) | (with_reducible refine Kd.C_alloc ?_ _) | (with_reducible refine Kd.C_drewN ?_ _) | (with_reducible refine Kd.C_drew ?_))); (case side2 => exact HC179.out); rintro e w' ⟨rfl, ⟨nd, rfl⟩⟩; refine ⟨_, rfl, ?_⟩))
                    go_ret
                    exact ⟨by first | rfl | (simp [errW_none, errW_some] <;> rfl) | (simp only [← hji4]; first | rfl | (simp [errW_none, errW_some] <;> rfl)) | (simp [*, errW_none, errW_some] <;> rfl), by repeat (first | (with_reducible first | exact HB.out | apply below_alloc | apply pw_below_drewN | apply below_drew1) | exact HB.out)⟩
              · replace c24 := Bool.eq_false_iff.mpr c24
                subst c24
                have H1 : (if t187 = 1 then (if t186 = 0 then (foghornlaw05_TickTells.j1 kj10 a0 a1 t180 t181 t182 t183 t184 t185) else (some false)) else (some false)) = some r := by rw [if_neg (show ¬ (false = true) by decide)] at H; exact H
                clear H
                have H := H1
                clear H1
                by_cases c33 : t187 = 1
                · rw [if_pos c33] at H
                  have c33b0 : (t187 == 1) = true := beq_iff_eq.mpr c33
                  have c33b1 : (t187 != 1) = false := bne_eq_false_iff_eq.mpr c33
                  clear c33
                  by_cases c34 : t186 = 0
                  · rw [if_pos c34] at H
                    have c34b0 : (t186 == 0) = true := beq_iff_eq.mpr c34
                    have c34b1 : (t186 != 0) = false := bne_eq_false_iff_eq.mpr c34
                    clear c34
                    have H' := Aside0.mk H
                    clear H
                    go_wp2_with (first | ((with_reducible refine gate_callee (f := 29) rfl ?_); refine goesL_ (some 54) rfl rfl Try.func29 (by kernel_rfl) rfl #[.slice A2 y176.length c2] rfl (by (try simp only [List.map_toArray, List.map_cons, List.map_nil]); first | done | rfl | (simp only [List.length_drop, List.length_take]; rfl)) ?_; (with_reducible refine (foghornref05_All.calls kj10 _ _ y176 false _ ?side1 ?side2 A23.out).mono ?_); (case side1 => repeat (first | exact (Kd.C_below HR179.out HB.out) | (with_reducible refine Kd.C_alloc ?_ _) | (with_reducible refine Kd.C_drewN ?_ _) | (with_reducible refine Kd.C_drew ?_))); (case side2 => exact HC179.out); rintro e w' ⟨rfl, ⟨nd, rfl⟩⟩; refine ⟨_, rfl, ?_⟩))
                    go_meet
                    case rel => exact ⟨_, H', ⟨by have := HJ10.out; first | omega | exact Nat.le_refl _⟩, ⟨by repeat (first | (with_reducible first | exact HB.out | apply below_alloc | apply pw_below_drewN | apply below_drew1) | exact HB.out)⟩⟩
                  · rw [if_neg c34] at H
                    have c34b0 : (t186 == 0) = false := beq_eq_false_iff_ne.mpr c34
                    have c34b1 : (t186 != 0) = true := bne_iff_ne.mpr c34
                    obtain rfl := Option.some.inj H
                    go_wp2_with (first | ((with_reducible refine gate_callee (f := 29) rfl ?_); refine goesL_ (some 54) rfl rfl Try.func29 (by kernel_rfl) rfl #[.slice A2 y176.length c2] rfl (by (try simp only [List.map_toArray, List.map_cons, List.map_nil]); first | done | rfl | (simp only [List.length_drop, List.length_take]; rfl)) ?_; (with_reducible refine (foghornref05_All.calls kj10 _ _ y176 false _ ?side1 ?side2 A23.out).mono ?_); (case side1 => repeat (first | exact (Kd.C_below HR179.out HB.out) | (with_reducible refine Kd.C_alloc ?_ _) | (with_reducible refine Kd.C_drewN ?_ _) | (with_reducible refine Kd.C_drew ?_))); (case side2 => exact HC179.out); rintro e w' ⟨rfl, ⟨nd, rfl⟩⟩; refine ⟨_, rfl, ?_⟩))
                    go_ret
                    exact ⟨by first | rfl | (simp [errW_none, errW_some] <;> rfl) | (simp only [← hji4]; first | rfl | (simp [errW_none, errW_some] <;> rfl)) | (simp [*, errW_none, errW_some] <;> rfl), by repeat (first | (with_reducible first | exact HB.out | apply below_alloc | apply pw_below_drewN | apply below_drew1) | exact HB.out)⟩
                · rw [if_neg c33] at H
                  have c33b0 : (t187 == 1) = false := beq_eq_false_iff_ne.mpr c33
                  have c33b1 : (t187 != 1) = true := bne_iff_ne.mpr c33
                  obtain rfl := Option.some.inj H
                  go_wp2_with (first | ((with_reducible refine gate_callee (f := 29) rfl ?_); refine goesL_ (some 54) rfl rfl Try.func29 (by kernel_rfl) rfl #[.slice A2 y176.length c2] rfl (by (try simp only [List.map_toArray, List.map_cons, List.map_nil]); first | done | rfl | (simp only [List.length_drop, List.length_take]; rfl)) ?_; (with_reducible refine (foghornref05_All.calls kj10 _ _ y176 false _ ?side1 ?side2 A23.out).mono ?_); (case side1 => repeat (first | exact (Kd.C_below HR179.out HB.out) | (with_reducible refine Kd.C_alloc ?_ _) | (with_reducible refine Kd.C_drewN ?_ _) | (with_reducible refine Kd.C_drew ?_))); (case side2 => exact HC179.out); rintro e w' ⟨rfl, ⟨nd, rfl⟩⟩; refine ⟨_, rfl, ?_⟩))
                  go_ret
                  exact ⟨by first | rfl | (simp [errW_none, errW_some] <;> rfl) | (simp only [← hji4]; first | rfl | (simp [errW_none, errW_some] <;> rfl)) | (simp [*, errW_none, errW_some] <;> rfl), by repeat (first | (with_reducible first | exact HB.out | apply below_alloc | apply pw_below_drewN | apply below_drew1) | exact HB.out)⟩
            case rest =>
              clear HC22
              try clear c1
              try clear q1
              try clear c2
              try clear p2
              try clear c3
              try clear c5
              try clear c5b0
              try clear c5b1
              try clear c6
              try clear c6b0
              try clear c6b1
              try clear c7
              try clear q12
              try clear c18
              try clear c18b0
              try clear c18b1
              try clear c18b2
              try clear c19
              try clear c20
              try clear c21
              try clear c23
              try clear c24
              try clear c25
              try clear c25b0
              try clear c25b1
              try clear c25b2
              try clear c26
              try clear c26b0
              try clear c26b1
              try clear c27
              try clear c27b0
              try clear c27b1
              try clear c28
              try clear c28b0
              try clear c28b1
              try clear c29
              try clear c30
              try clear c30b0
              try clear c30b1
              try clear c33
              try clear c33b0
              try clear c33b1
              try clear c34
              try clear c34b0
              try clear c34b1
              try clear p2
              try clear q1
              try clear q12
              obtain ⟨kq, HA, HJ21, HB⟩ := hcut
              cases kq with
              | zero => exact absurd HA.out (by simp [foghornlaw05_TickTells.j1])
              | succ kj21 =>
                have H := HA.out
                clear HA
                simp only [foghornlaw05_TickTells.j1] at H
                have HC35 := Aside0.mk H
                clear H
                go_upto_region 16 with (fail)
                go_cut [88] (fun v88 wc => ∃ (kq : Nat) (x88_34 : Bool), v88 = .bool x88_34 ∧ Aside0 (foghornlaw05_TickTells.j2 kq a0 a1 t180 t181 t182 t183 t184 t185 x88_34 = some r) ∧ Aside0 (kq ≤ kj21) ∧ Aside0 (Below w.heap.size w wc))
                case first =>
                  have H := HC35.out
                  clear HC35
                  replace H := Option.bind_eq_some_iff.mp H
                  obtain ⟨t193, A360, H⟩ := H
                  replace H : (if t193 = true then ((foghornref05_Right.f a1).bind fun t194 => (foghornlaw05_TickTells.j2 kj21 a0 a1 t180 t181 t182 t183 t184 t185 (!t194))) else (foghornlaw05_TickTells.j2 kj21 a0 a1 t180 t181 t182 t183 t184 t185 true)) = some r := H
                  have A36 := Aside0.mk A360
                  clear A360
                  by_cases c37 : t193 = true
                  · subst c37
                    have H1 : ((foghornref05_Right.f a1).bind fun t194 => (foghornlaw05_TickTells.j2 kj21 a0 a1 t180 t181 t182 t183 t184 t185 (!t194))) = some r := by rw [if_pos rfl] at H; exact H
                    clear H
                    have H := H1
                    clear H1
                    replace H := Option.bind_eq_some_iff.mp H
                    obtain ⟨t194, A380, H⟩ := H
                    replace H : (foghornlaw05_TickTells.j2 kj21 a0 a1 t180 t181 t182 t183 t184 t185 (!t194)) = some r := H
                    have A38 := Aside0.mk A380
                    clear A380
                    have H' := Aside0.mk H
                    clear H
                    go_wp2_with (first | ((with_reducible refine gate_callee (f := 28) rfl ?_); refine goesL_ (some 82) rfl rfl Try.func28 (by kernel_rfl) rfl #[.int .i64 a0] rfl (by (try simp only [List.map_toArray, List.map_cons, List.map_nil]); first | done | rfl | (simp only [List.length_drop, List.length_take]; rfl)) ?_; (with_reducible refine (foghornref05_Right.calls a0 true _ A36.out).mono ?_); rintro e w' ⟨rfl, ⟨nd, rfl⟩⟩; refine ⟨_, rfl, ?_⟩) | (go_at_call 28; (with_reducible refine (foghornref05_Right.calls a1 t194 _ A38.out).mono ?_); rintro e w' ⟨rfl, ⟨nd, rfl⟩⟩))
                    go_meet
                    case rel => exact ⟨_, (!t194), (by first | rfl | (simp; done) | (simp [*]; done)), H', ⟨by have := HJ10.out; have := HJ21.out; first | omega | exact Nat.le_refl _⟩, ⟨by repeat (first | (with_reducible first | exact HB.out | apply below_alloc | apply pw_below_drewN | apply below_drew1) | exact HB.out)⟩⟩
                  · replace c37 := Bool.eq_false_iff.mpr c37
                    subst c37
                    have H1 : (foghornlaw05_TickTells.j2 kj21 a0 a1 t180 t181 t182 t183 t184 t185 true) = some r := by rw [if_neg (show ¬ (false = true) by decide)] at H; exact H
                    clear H
                    have H := H1
                    clear H1
                    have H' := Aside0.mk H
                    clear H
                    go_wp2_with (first | ((with_reducible refine gate_callee (f := 28) rfl ?_); refine goesL_ (some 82) rfl rfl Try.func28 (by kernel_rfl) rfl #[.int .i64 a0] rfl (by (try simp only [List.map_toArray, List.map_cons, List.map_nil]); first | done | rfl | (simp only [List.length_drop, List.length_take]; rfl)) ?_; (with_reducible refine (foghornref05_Right.calls a0 false _ A36.out).mono ?_); rintro e w' ⟨rfl, ⟨nd, rfl⟩⟩; refine ⟨_, rfl, ?_⟩))
                    go_meet
                    case rel => exact ⟨_, (true), (by first | rfl | (simp; done) | (simp [*]; done)), H', ⟨by have := HJ10.out; have := HJ21.out; first | omega | exact Nat.le_refl _⟩, ⟨by repeat (first | (with_reducible first | exact HB.out | apply below_alloc | apply pw_below_drewN | apply below_drew1) | exact HB.out)⟩⟩
                case rest =>
                  clear HC35
                  try clear c1
                  try clear q1
                  try clear c2
                  try clear p2
                  try clear c3
                  try clear c5
                  try clear c5b0
                  try clear c5b1
                  try clear c6
                  try clear c6b0
                  try clear c6b1
                  try clear c7
                  try clear q12
                  try clear c18
                  try clear c18b0
                  try clear c18b1
                  try clear c18b2
                  try clear c19
                  try clear c20
                  try clear c21
                  try clear c23
                  try clear c24
                  try clear c25
                  try clear c25b0
                  try clear c25b1
                  try clear c25b2
                  try clear c26
                  try clear c26b0
                  try clear c26b1
                  try clear c27
                  try clear c27b0
                  try clear c27b1
                  try clear c28
                  try clear c28b0
                  try clear c28b1
                  try clear c29
                  try clear c30
                  try clear c30b0
                  try clear c30b1
                  try clear c33
                  try clear c33b0
                  try clear c33b1
                  try clear c34
                  try clear c34b0
                  try clear c34b1
                  try clear c37
                  try clear p2
                  try clear q1
                  try clear q12
                  obtain ⟨kq, x88_34, rfl, HA, HJ34, HB⟩ := hcut
                  cases kq with
                  | zero => exact absurd HA.out (by simp [foghornlaw05_TickTells.j2])
                  | succ kj34 =>
                    have H := HA.out
                    clear HA
                    simp only [foghornlaw05_TickTells.j2] at H
                    by_cases c39 : x88_34 = true
                    · subst c39
                      have H1 : (if t181 = 1 then (if t183 = 1 then (if t185 = 1 then (if t180 = 0 then (if t182 = 0 then (some (t184 == 0)) else (some false)) else (some false)) else (some false)) else (some false)) else (some false)) = some r := by rw [if_pos rfl] at H; exact H
                      clear H
                      have H := H1
                      clear H1
                      by_cases c40 : t181 = 1
                      · rw [if_pos c40] at H
                        have c40b0 : (t181 == 1) = true := beq_iff_eq.mpr c40
                        have c40b1 : (t181 != 1) = false := bne_eq_false_iff_eq.mpr c40
                        clear c40
                        by_cases c41 : t183 = 1
                        · rw [if_pos c41] at H
                          have c41b0 : (t183 == 1) = true := beq_iff_eq.mpr c41
                          have c41b1 : (t183 != 1) = false := bne_eq_false_iff_eq.mpr c41
                          clear c41
                          by_cases c42 : t185 = 1
                          · rw [if_pos c42] at H
                            have c42b0 : (t185 == 1) = true := beq_iff_eq.mpr c42
                            have c42b1 : (t185 != 1) = false := bne_eq_false_iff_eq.mpr c42
                            clear c42
                            by_cases c43 : t180 = 0
                            · rw [if_pos c43] at H
                              have c43b0 : (t180 == 0) = true := beq_iff_eq.mpr c43
                              have c43b1 : (t180 != 0) = false := bne_eq_false_iff_eq.mpr c43
                              clear c43
                              by_cases c44 : t182 = 0
                              · rw [if_pos c44] at H
                                have c44b0 : (t182 == 0) = true := beq_iff_eq.mpr c44
                                have c44b1 : (t182 != 0) = false := bne_eq_false_iff_eq.mpr c44
                                clear c44
                                obtain rfl := Option.some.inj H
                                go_wp2
                                go_ret
                                exact ⟨by first | rfl | (simp [errW_none, errW_some] <;> rfl) | (simp only [← hji4]; first | rfl | (simp [errW_none, errW_some] <;> rfl)) | (simp [*, errW_none, errW_some] <;> rfl), by repeat (first | (with_reducible first | exact HB.out | apply below_alloc | apply pw_below_drewN | apply below_drew1) | exact HB.out)⟩
                              · rw [if_neg c44] at H
                                have c44b0 : (t182 == 0) = false := beq_eq_false_iff_ne.mpr c44
                                have c44b1 : (t182 != 0) = true := bne_iff_ne.mpr c44
                                obtain rfl := Option.some.inj H
                                go_wp2
                                go_ret
                                exact ⟨by first | rfl | (simp [errW_none, errW_some] <;> rfl) | (simp only [← hji4]; first | rfl | (simp [errW_none, errW_some] <;> rfl)) | (simp [*, errW_none, errW_some] <;> rfl), by repeat (first | (with_reducible first | exact HB.out | apply below_alloc | apply pw_below_drewN | apply below_drew1) | exact HB.out)⟩
                            · rw [if_neg c43] at H
                              have c43b0 : (t180 == 0) = false := beq_eq_false_iff_ne.mpr c43
                              have c43b1 : (t180 != 0) = true := bne_iff_ne.mpr c43
                              obtain rfl := Option.some.inj H
                              go_wp2
                              go_ret
                              exact ⟨by first | rfl | (simp [errW_none, errW_some] <;> rfl) | (simp only [← hji4]; first | rfl | (simp [errW_none, errW_some] <;> rfl)) | (simp [*, errW_none, errW_some] <;> rfl), by repeat (first | (with_reducible first | exact HB.out | apply below_alloc | apply pw_below_drewN | apply below_drew1) | exact HB.out)⟩
                          · rw [if_neg c42] at H
                            have c42b0 : (t185 == 1) = false := beq_eq_false_iff_ne.mpr c42
                            have c42b1 : (t185 != 1) = true := bne_iff_ne.mpr c42
                            obtain rfl := Option.some.inj H
                            go_wp2
                            go_ret
                            exact ⟨by first | rfl | (simp [errW_none, errW_some] <;> rfl) | (simp only [← hji4]; first | rfl | (simp [errW_none, errW_some] <;> rfl)) | (simp [*, errW_none, errW_some] <;> rfl), by repeat (first | (with_reducible first | exact HB.out | apply below_alloc | apply pw_below_drewN | apply below_drew1) | exact HB.out)⟩
                        · rw [if_neg c41] at H
                          have c41b0 : (t183 == 1) = false := beq_eq_false_iff_ne.mpr c41
                          have c41b1 : (t183 != 1) = true := bne_iff_ne.mpr c41
                          obtain rfl := Option.some.inj H
                          go_wp2
                          go_ret
                          exact ⟨by first | rfl | (simp [errW_none, errW_some] <;> rfl) | (simp only [← hji4]; first | rfl | (simp [errW_none, errW_some] <;> rfl)) | (simp [*, errW_none, errW_some] <;> rfl), by repeat (first | (with_reducible first | exact HB.out | apply below_alloc | apply pw_below_drewN | apply below_drew1) | exact HB.out)⟩
                      · rw [if_neg c40] at H
                        have c40b0 : (t181 == 1) = false := beq_eq_false_iff_ne.mpr c40
                        have c40b1 : (t181 != 1) = true := bne_iff_ne.mpr c40
                        obtain rfl := Option.some.inj H
                        go_wp2
                        go_ret
                        exact ⟨by first | rfl | (simp [errW_none, errW_some] <;> rfl) | (simp only [← hji4]; first | rfl | (simp [errW_none, errW_some] <;> rfl)) | (simp [*, errW_none, errW_some] <;> rfl), by repeat (first | (with_reducible first | exact HB.out | apply below_alloc | apply pw_below_drewN | apply below_drew1) | exact HB.out)⟩
                    · replace c39 := Bool.eq_false_iff.mpr c39
                      subst c39
                      have H1 : (if t181 = 0 then (if t183 = 0 then (if t185 = 0 then ((foghornref05_Add.f a0 a1).bind fun t195 => (if t180 = t195 then ((foghornref05_Sub.f a0 a1).bind fun t196 => (if t182 = t196 then ((foghornref05_Times.f a0 a1).bind fun t197 => (some (t184 == t197))) else (some false))) else (some false))) else (some false)) else (some false)) else (some false)) = some r := by rw [if_neg (show ¬ (false = true) by decide)] at H; exact H
                      clear H
                      have H := H1
                      clear H1
                      by_cases c45 : t181 = 0
                      · rw [if_pos c45] at H
                        have c45b0 : (t181 == 0) = true := beq_iff_eq.mpr c45
                        have c45b1 : (t181 != 0) = false := bne_eq_false_iff_eq.mpr c45
                        clear c45
                        by_cases c46 : t183 = 0
                        · rw [if_pos c46] at H
                          have c46b0 : (t183 == 0) = true := beq_iff_eq.mpr c46
                          have c46b1 : (t183 != 0) = false := bne_eq_false_iff_eq.mpr c46
                          clear c46
                          by_cases c47 : t185 = 0
                          · rw [if_pos c47] at H
                            have c47b0 : (t185 == 0) = true := beq_iff_eq.mpr c47
                            have c47b1 : (t185 != 0) = false := bne_eq_false_iff_eq.mpr c47
                            clear c47
                            replace H := Option.bind_eq_some_iff.mp H
                            obtain ⟨t195, A480, H⟩ := H
                            replace H : (if t180 = t195 then ((foghornref05_Sub.f a0 a1).bind fun t196 => (if t182 = t196 then ((foghornref05_Times.f a0 a1).bind fun t197 => (some (t184 == t197))) else (some false))) else (some false)) = some r := H
                            have A48 := Aside0.mk A480
                            clear A480
                            by_cases c49 : t180 = t195
                            · rw [if_pos c49] at H
                              have c49b0 : (t180 == t195) = true := beq_iff_eq.mpr c49
                              have c49b1 : (t180 != t195) = false := bne_eq_false_iff_eq.mpr c49
                              clear c49
                              replace H := Option.bind_eq_some_iff.mp H
                              obtain ⟨t196, A500, H⟩ := H
                              replace H : (if t182 = t196 then ((foghornref05_Times.f a0 a1).bind fun t197 => (some (t184 == t197))) else (some false)) = some r := H
                              have A50 := Aside0.mk A500
                              clear A500
                              by_cases c51 : t182 = t196
                              · rw [if_pos c51] at H
                                have c51b0 : (t182 == t196) = true := beq_iff_eq.mpr c51
                                have c51b1 : (t182 != t196) = false := bne_eq_false_iff_eq.mpr c51
                                clear c51
                                replace H := Option.bind_eq_some_iff.mp H
                                obtain ⟨t197, A520, H⟩ := H
                                replace H : (some (t184 == t197)) = some r := H
                                have A52 := Aside0.mk A520
                                clear A520
                                obtain rfl := Option.some.inj H
                                go_wp2_with (first | (go_at_call 31; (with_reducible refine (foghornref05_Add.calls a0 a1 t195 _ A48.out).mono ?_); rintro e w53 ⟨rfl, hb⟩; have n0_ := Aside0.mk (below_step (by repeat (first | (with_reducible first | exact HB.out | apply below_alloc | apply pw_below_drewN | apply below_drew1) | exact HB.out)) hb); clear HB; have HB := n0_; clear n0_; (try clear hb); (try clear hb2); (try clear hk); (try clear hi)) | (go_at_call 32; (with_reducible refine (foghornref05_Sub.calls a0 a1 t196 _ A50.out).mono ?_); rintro e w54 ⟨rfl, hb⟩; have n0_ := Aside0.mk (below_step (by repeat (first | (with_reducible first | exact HB.out | apply below_alloc | apply pw_below_drewN | apply below_drew1) | exact HB.out)) hb); clear HB; have HB := n0_; clear n0_; (try clear hb); (try clear hb2); (try clear hk); (try clear hi)) | (go_at_call 33; (with_reducible refine (foghornref05_Times.calls a0 a1 t197 _ A52.out).mono ?_); rintro e w' ⟨rfl, ⟨nd, rfl⟩⟩))
                                go_ret
                                exact ⟨by first | rfl | (simp [errW_none, errW_some] <;> rfl) | (simp only [← hji4]; first | rfl | (simp [errW_none, errW_some] <;> rfl)) | (simp [*, errW_none, errW_some] <;> rfl), by repeat (first | (with_reducible first | exact HB.out | apply below_alloc | apply pw_below_drewN | apply below_drew1) | exact HB.out)⟩
                              · rw [if_neg c51] at H
                                have c51b0 : (t182 == t196) = false := beq_eq_false_iff_ne.mpr c51
                                have c51b1 : (t182 != t196) = true := bne_iff_ne.mpr c51
                                obtain rfl := Option.some.inj H
                                go_wp2_with (first | (go_at_call 31; (with_reducible refine (foghornref05_Add.calls a0 a1 t195 _ A48.out).mono ?_); rintro e w55 ⟨rfl, hb⟩; have n0_ := Aside0.mk (below_step (by repeat (first | (with_reducible first | exact HB.out | apply below_alloc | apply pw_below_drewN | apply below_drew1) | exact HB.out)) hb); clear HB; have HB := n0_; clear n0_; (try clear hb); (try clear hb2); (try clear hk); (try clear hi)) | (go_at_call 32; (with_reducible refine (foghornref05_Sub.calls a0 a1 t196 _ A50.out).mono ?_); rintro e w56 ⟨rfl, hb⟩; have n0_ := Aside0.mk (below_step (by repeat (first | (with_reducible first | exact HB.out | apply below_alloc | apply pw_below_drewN | apply below_drew1) | exact HB.out)) hb); clear HB; have HB := n0_; clear n0_; (try clear hb); (try clear hb2); (try clear hk); (try clear hi)))
                                go_ret
                                exact ⟨by first | rfl | (simp [errW_none, errW_some] <;> rfl) | (simp only [← hji4]; first | rfl | (simp [errW_none, errW_some] <;> rfl)) | (simp [*, errW_none, errW_some] <;> rfl), by repeat (first | (with_reducible first | exact HB.out | apply below_alloc | apply pw_below_drewN | apply below_drew1) | exact HB.out)⟩
                            · rw [if_neg c49] at H
                              have c49b0 : (t180 == t195) = false := beq_eq_false_iff_ne.mpr c49
                              have c49b1 : (t180 != t195) = true := bne_iff_ne.mpr c49
                              obtain rfl := Option.some.inj H
                              go_wp2_with (first | (go_at_call 31; (with_reducible refine (foghornref05_Add.calls a0 a1 t195 _ A48.out).mono ?_); rintro e w57 ⟨rfl, hb⟩; have n0_ := Aside0.mk (below_step (by repeat (first | (with_reducible first | exact HB.out | apply below_alloc | apply pw_below_drewN | apply below_drew1) | exact HB.out)) hb); clear HB; have HB := n0_; clear n0_; (try clear hb); (try clear hb2); (try clear hk); (try clear hi)))
                              go_ret
                              exact ⟨by first | rfl | (simp [errW_none, errW_some] <;> rfl) | (simp only [← hji4]; first | rfl | (simp [errW_none, errW_some] <;> rfl)) | (simp [*, errW_none, errW_some] <;> rfl), by repeat (first | (with_reducible first | exact HB.out | apply below_alloc | apply pw_below_drewN | apply below_drew1) | exact HB.out)⟩
                          · rw [if_neg c47] at H
                            have c47b0 : (t185 == 0) = false := beq_eq_false_iff_ne.mpr c47
                            have c47b1 : (t185 != 0) = true := bne_iff_ne.mpr c47
                            obtain rfl := Option.some.inj H
                            go_wp2
                            go_ret
                            exact ⟨by first | rfl | (simp [errW_none, errW_some] <;> rfl) | (simp only [← hji4]; first | rfl | (simp [errW_none, errW_some] <;> rfl)) | (simp [*, errW_none, errW_some] <;> rfl), by repeat (first | (with_reducible first | exact HB.out | apply below_alloc | apply pw_below_drewN | apply below_drew1) | exact HB.out)⟩
                        · rw [if_neg c46] at H
                          have c46b0 : (t183 == 0) = false := beq_eq_false_iff_ne.mpr c46
                          have c46b1 : (t183 != 0) = true := bne_iff_ne.mpr c46
                          obtain rfl := Option.some.inj H
                          go_wp2
                          go_ret
                          exact ⟨by first | rfl | (simp [errW_none, errW_some] <;> rfl) | (simp only [← hji4]; first | rfl | (simp [errW_none, errW_some] <;> rfl)) | (simp [*, errW_none, errW_some] <;> rfl), by repeat (first | (with_reducible first | exact HB.out | apply below_alloc | apply pw_below_drewN | apply below_drew1) | exact HB.out)⟩
                      · rw [if_neg c45] at H
                        have c45b0 : (t181 == 0) = false := beq_eq_false_iff_ne.mpr c45
                        have c45b1 : (t181 != 0) = true := bne_iff_ne.mpr c45
                        obtain rfl := Option.some.inj H
                        go_wp2
                        go_ret
                        exact ⟨by first | rfl | (simp [errW_none, errW_some] <;> rfl) | (simp only [← hji4]; first | rfl | (simp [errW_none, errW_some] <;> rfl)) | (simp [*, errW_none, errW_some] <;> rfl), by repeat (first | (with_reducible first | exact HB.out | apply below_alloc | apply pw_below_drewN | apply below_drew1) | exact HB.out)⟩
    · rw [if_neg c6] at H
      exact absurd H (by simp)
  · rw [if_neg c5] at H
    exact absurd H (by simp)

/-- THE ONE PURE STATEMENT of foghornlaw05_TickTells: yours. -/
def foghornlaw05_TickTells.Pure : Prop := ∀ (a0 : Int) (a1 : Int) (l2 : List Int), (Lit.int .i64 a0).wf = true → (Lit.int .i64 a1).wf = true → l2.length ≤ maxLen → l2.length * 8 ≤ 140737488351232 → (∀ x ∈ l2, (Lit.int .i64 x).wf = true) → ∃ k, foghornlaw05_TickTells.f k a0 a1 l2 = some true
theorem foghornlaw05_TickTells.walk (P : foghornlaw05_TickTells.Pure) (a0 : Int) (a1 : Int) (a2 : Option Addr) (len2 cap2 : Nat) (z2 : List Int) (w : World) (w0 : (Lit.int .i64 a0).wf = true) (w1 : (Lit.int .i64 a1).wf = true) (w2 : (a2 = none ∧ len2 = 0 ∧ cap2 = 0 ∧ z2 = []) ∨ ∃ x, a2 = some x ∧ len2 ≤ cap2 ∧ cap2 ≤ maxLen ∧ z2.length = cap2 ∧ (∀ i, i < z2.length → w.cell? (x.add i) = some (.int .i64 (z2.getD i 0))) ∧ ∀ n ∈ z2, (Lit.int .i64 n).wf = true) (y2 : len2 * 8 ≤ 140737488351232) :
    Calls Try.prog 7 #[.int .i64 a0, .int .i64 a1, .slice a2 len2 cap2] w fun e w' => e = .returned (.bool true) ∧ Below w.heap.size w w' := by
  obtain ⟨l2, rfl, hr2, hm2, hw2, hc2⟩ := ReadsInt.ofRowC w2
  obtain ⟨k, h⟩ := P a0 a1 l2 w0 w1 hm2 y2 hw2
  refine (foghornlaw05_TickTells.calls k a0 a1 _ _ l2 true w (Kd.C_of_reads (d := (0 : Int)) (h1 := fun _ => rfl) hr2) hc2 h).mono ?_
  rintro e w' ⟨rfl, hd⟩
  exact ⟨rfl, hd⟩

end Go.Proofs.Ytkkopknlhijgiaa.G
