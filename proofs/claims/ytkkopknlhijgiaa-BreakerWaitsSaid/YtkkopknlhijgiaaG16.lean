/- Contracts of functions of the given program, each proved by a walk of its code: written by gprint.py, this session's program round the kit's print; texts of our own stand among the printed ones. No condition beyond each theorem's own premises. -/
import Derived.Test.YtkkopknlhijgiaaG0
import Derived.Test.YtkkopknlhijgiaaG12
import Derived.Test.YtkkopknlhijgiaaG13
import Derived.Test.YtkkopknlhijgiaaG14
import Derived.Test.YtkkopknlhijgiaaG15
namespace Go.Proofs.Ytkkopknlhijgiaa.G
open Go.RowKit Go.Proofs.YtkkopknlhijgiaaW.PrintWords Go.Proofs.YtkkopknlhijgiaaW.PrintLast Go.Proofs.YtkkopknlhijgiaaW.PrintMore
attribute [local go_sem] max2_int min2_int max_two min_two max_three min_three max_four min_four   -- for this text's walks alone
set_option linter.unusedVariables false
set_option linter.unusedSimpArgs false

/-! ### foghornlaw07_BreakerWaits: function 14 -/
mutual
def foghornlaw07_BreakerWaits.j0 : Nat → Int → Int → List Int → Bool → Int → Int → Int → Int → Int → Option (Bool)
  | 0, _, _, _, _, _, _, _, _, _ => none
  | k + 1, x0, x1, x2, x42, x262000, x262001, x262002, x262003, x262004 => if x42 = true then (some false) else (if 0 ≤ (mn (x2.length : Int) 200) then (if (mn (x2.length : Int) 200) ≤ (x2.length : Int) then ((some (x2.take ((mn (x2.length : Int) 200) : Int).toNat : List Int)).bind fun y263 => (foghornlaw07_BreakerWaits.l0 k x0 x1 0 0 (-1) false y263 (y263.length : Int) 0 x262000 x262001 x262002 x262003 x262004)) else (none)) else (none))
def foghornlaw07_BreakerWaits.l0 : Nat → Int → Int → Int → Int → Int → Bool → List Int → Int → Int → Int → Int → Int → Int → Int → Option (Bool)
  | 0, _, _, _, _, _, _, _, _, _, _, _, _, _, _ => none
  | k + 1, x0, x1, x9, x10, x11, x12, x47, x48, x49, x262000, x262001, x262002, x262003, x262004 => if x49 < x48 then (if 0 ≤ x49 then (if x49 < (x47.length : Int) then (if (Int.tmod (wrap64 ((Int.tmod (rd x47 x49) 4) + 4)) 4) = 0 then (foghornlaw07_BreakerWaits.j2 k x0 x1 (wrap64 (x9 + (Int.tmod (wrap64 ((Int.tmod (wrap64 (Int.tdiv (rd x47 x49) 4)) 7) + 7)) 7))) x10 x11 x12 (rd x47 x49) x47 x48 x49 ((Int.tmod (wrap64 ((Int.tmod (rd x47 x49) 4) + 4)) 4) == 0) x262000 x262001 x262002 x262003 x262004) else (foghornlaw07_BreakerWaits.j2 k x0 x1 (wrap64 (x9 + (Int.tmod (wrap64 ((Int.tmod (wrap64 (Int.tdiv (rd x47 x49) 4)) 7) + 7)) 7))) x10 x11 x12 (rd x47 x49) x47 x48 x49 ((Int.tmod (wrap64 ((Int.tmod (rd x47 x49) 4) + 4)) 4) == 1) x262000 x262001 x262002 x262003 x262004)) else (none)) else (none)) else (some true)
def foghornlaw07_BreakerWaits.j2 : Nat → Int → Int → Int → Int → Int → Bool → Int → List Int → Int → Int → Bool → Int → Int → Int → Int → Int → Option (Bool)
  | 0, _, _, _, _, _, _, _, _, _, _, _, _, _, _, _, _ => none
  | k + 1, x0, x1, x9, x10, x11, x12, x14, x47, x48, x49, x98, x262000, x262001, x262002, x262003, x262004 => if x98 = true then ((breaker_Ask.f k x262000 x262001 x262002 x262003 x262004 x9).bind fun bt268 => (if bt268.2.2.2.2.2.2 = 0 then (if x11 < 0 then (if x12 = true then (if x11 ≥ 0 then (foghornlaw07_BreakerWaits.j3 k x0 x1 x9 x10 x11 x12 bt268.2.2.2.2.2.1 x47 x48 x49 (bt268.2.2.2.2.2.1 != (decide (x9 ≥ x11))) bt268.1 bt268.2.1 bt268.2.2.1 bt268.2.2.2.1 bt268.2.2.2.2.1) else (foghornlaw07_BreakerWaits.j3 k x0 x1 x9 x10 x11 x12 bt268.2.2.2.2.2.1 x47 x48 x49 (bt268.2.2.2.2.2.1 != false) bt268.1 bt268.2.1 bt268.2.2.1 bt268.2.2.2.1 bt268.2.2.2.2.1)) else (foghornlaw07_BreakerWaits.j3 k x0 x1 x9 x10 x11 x12 bt268.2.2.2.2.2.1 x47 x48 x49 (bt268.2.2.2.2.2.1 != true) bt268.1 bt268.2.1 bt268.2.2.1 bt268.2.2.2.1 bt268.2.2.2.2.1)) else (if x11 ≥ 0 then (foghornlaw07_BreakerWaits.j3 k x0 x1 x9 x10 x11 x12 bt268.2.2.2.2.2.1 x47 x48 x49 (bt268.2.2.2.2.2.1 != (decide (x9 ≥ x11))) bt268.1 bt268.2.1 bt268.2.2.1 bt268.2.2.2.1 bt268.2.2.2.2.1) else (foghornlaw07_BreakerWaits.j3 k x0 x1 x9 x10 x11 x12 bt268.2.2.2.2.2.1 x47 x48 x49 (bt268.2.2.2.2.2.1 != false) bt268.1 bt268.2.1 bt268.2.2.1 bt268.2.2.2.1 bt268.2.2.2.2.1))) else (foghornlaw07_BreakerWaits.j3 k x0 x1 x9 x10 x11 x12 bt268.2.2.2.2.2.1 x47 x48 x49 true bt268.1 bt268.2.1 bt268.2.2.1 bt268.2.2.2.1 bt268.2.2.2.2.1))) else ((breaker_Told.f k x262000 x262001 x262002 x262003 x262004 x9 ((Int.tmod (wrap64 ((Int.tmod x14 4) + 4)) 4) == 2)).bind fun bt276 => (if x11 ≥ 0 then (if bt276.2.2.2.2.2 = 6 then (foghornlaw07_BreakerWaits.l0 k x0 x1 x9 x10 x11 x12 x47 x48 (wrap64 (x49 + 1)) x262000 x262001 x262002 x262003 x262004) else (some false)) else (if bt276.2.2.2.2.2 = 0 then (if (Int.tmod (wrap64 ((Int.tmod x14 4) + 4)) 4) = 2 then (foghornlaw07_BreakerWaits.l0 k x0 x1 x9 0 x11 false x47 x48 (wrap64 (x49 + 1)) bt276.1 bt276.2.1 bt276.2.2.1 bt276.2.2.2.1 bt276.2.2.2.2.1) else (if x12 = true then (foghornlaw07_BreakerWaits.l0 k x0 x1 x9 0 (wrap64 (x9 + x1)) false x47 x48 (wrap64 (x49 + 1)) bt276.1 bt276.2.1 bt276.2.2.1 bt276.2.2.2.1 bt276.2.2.2.2.1) else (if (wrap64 (x10 + 1)) = x0 then (foghornlaw07_BreakerWaits.l0 k x0 x1 x9 0 (wrap64 (x9 + x1)) false x47 x48 (wrap64 (x49 + 1)) bt276.1 bt276.2.1 bt276.2.2.1 bt276.2.2.2.1 bt276.2.2.2.2.1) else (foghornlaw07_BreakerWaits.l0 k x0 x1 x9 (wrap64 (x10 + 1)) x11 x12 x47 x48 (wrap64 (x49 + 1)) bt276.1 bt276.2.1 bt276.2.2.1 bt276.2.2.2.1 bt276.2.2.2.2.1)))) else (some false))))
def foghornlaw07_BreakerWaits.j3 : Nat → Int → Int → Int → Int → Int → Bool → Bool → List Int → Int → Int → Bool → Int → Int → Int → Int → Int → Option (Bool)
  | 0, _, _, _, _, _, _, _, _, _, _, _, _, _, _, _, _ => none
  | k + 1, x0, x1, x9, x10, x11, x12, x16, x47, x48, x49, x128, x276000, x276001, x276002, x276003, x276004 => if x128 = true then (some false) else (if x16 = true then (if x11 ≥ 0 then (foghornlaw07_BreakerWaits.l0 k x0 x1 x9 x10 (-1) true x47 x48 (wrap64 (x49 + 1)) x276000 x276001 x276002 x276003 x276004) else (foghornlaw07_BreakerWaits.l0 k x0 x1 x9 x10 x11 x12 x47 x48 (wrap64 (x49 + 1)) x276000 x276001 x276002 x276003 x276004)) else (foghornlaw07_BreakerWaits.l0 k x0 x1 x9 x10 x11 x12 x47 x48 (wrap64 (x49 + 1)) x276000 x276001 x276002 x276003 x276004))
end
def foghornlaw07_BreakerWaits.f (k : Nat) (a0 : Int) (a1 : Int) (l2 : List Int) : Option (Bool) := (breaker_New.f k (wrap64 (1 + (Int.tmod (wrap64 ((Int.tmod a0 9) + 9)) 9))) (wrap64 (1 + (Int.tmod (wrap64 ((Int.tmod a1 30) + 30)) 30)))).bind fun bt255 => (if bt255.2.2.2.2.2 = 0 then ((foghornlaw07_alive.f k).bind fun t262 => (foghornlaw07_BreakerWaits.j0 k (wrap64 (1 + (Int.tmod (wrap64 ((Int.tmod a0 9) + 9)) 9))) (wrap64 (1 + (Int.tmod (wrap64 ((Int.tmod a1 30) + 30)) 30))) l2 (!t262) bt255.1 bt255.2.1 bt255.2.2.1 bt255.2.2.2.1 bt255.2.2.2.2.1)) else (foghornlaw07_BreakerWaits.j0 k (wrap64 (1 + (Int.tmod (wrap64 ((Int.tmod a0 9) + 9)) 9))) (wrap64 (1 + (Int.tmod (wrap64 ((Int.tmod a1 30) + 30)) 30))) l2 true bt255.1 bt255.2.1 bt255.2.2.1 bt255.2.2.2.1 bt255.2.2.2.2.1))
theorem foghornlaw07_BreakerWaits.mono_l : ∀ k, (∀ y0 y1 y2 y3 y4 y5 y6 y7 y8, LeO (foghornlaw07_BreakerWaits.j0 k y0 y1 y2 y3 y4 y5 y6 y7 y8) (foghornlaw07_BreakerWaits.j0 (k + 1) y0 y1 y2 y3 y4 y5 y6 y7 y8)) ∧ (∀ y0 y1 y2 y3 y4 y5 y6 y7 y8 y9 y10 y11 y12 y13, LeO (foghornlaw07_BreakerWaits.l0 k y0 y1 y2 y3 y4 y5 y6 y7 y8 y9 y10 y11 y12 y13) (foghornlaw07_BreakerWaits.l0 (k + 1) y0 y1 y2 y3 y4 y5 y6 y7 y8 y9 y10 y11 y12 y13)) ∧ (∀ y0 y1 y2 y3 y4 y5 y6 y7 y8 y9 y10 y11 y12 y13 y14 y15, LeO (foghornlaw07_BreakerWaits.j2 k y0 y1 y2 y3 y4 y5 y6 y7 y8 y9 y10 y11 y12 y13 y14 y15) (foghornlaw07_BreakerWaits.j2 (k + 1) y0 y1 y2 y3 y4 y5 y6 y7 y8 y9 y10 y11 y12 y13 y14 y15)) ∧ (∀ y0 y1 y2 y3 y4 y5 y6 y7 y8 y9 y10 y11 y12 y13 y14 y15, LeO (foghornlaw07_BreakerWaits.j3 k y0 y1 y2 y3 y4 y5 y6 y7 y8 y9 y10 y11 y12 y13 y14 y15) (foghornlaw07_BreakerWaits.j3 (k + 1) y0 y1 y2 y3 y4 y5 y6 y7 y8 y9 y10 y11 y12 y13 y14 y15))
  | 0 => ⟨fun _ _ _ _ _ _ _ _ _ r h => by simp [foghornlaw07_BreakerWaits.j0] at h, fun _ _ _ _ _ _ _ _ _ _ _ _ _ _ r h => by simp [foghornlaw07_BreakerWaits.l0] at h, fun _ _ _ _ _ _ _ _ _ _ _ _ _ _ _ _ r h => by simp [foghornlaw07_BreakerWaits.j2] at h, fun _ _ _ _ _ _ _ _ _ _ _ _ _ _ _ _ r h => by simp [foghornlaw07_BreakerWaits.j3] at h⟩
  | k + 1 => by
    obtain ⟨ih0, ih1, ih2, ih3⟩ := foghornlaw07_BreakerWaits.mono_l k
    refine ⟨?_, ?_, ?_, ?_⟩
    · intro y0 y1 y2 y3 y4 y5 y6 y7 y8
      unfold foghornlaw07_BreakerWaits.j0
      repeat' first
      | (with_reducible exact ih0 _ _ _ _ _ _ _ _ _)
      | (with_reducible exact ih1 _ _ _ _ _ _ _ _ _ _ _ _ _ _)
      | (with_reducible exact ih2 _ _ _ _ _ _ _ _ _ _ _ _ _ _ _ _)
      | (with_reducible exact ih3 _ _ _ _ _ _ _ _ _ _ _ _ _ _ _ _)
      | (with_reducible exact breaker_Ask.mono _ _ _ _ _ _ _)
      | (with_reducible exact breaker_New.mono _ _ _)
      | (with_reducible exact breaker_Told.mono _ _ _ _ _ _ _ _)
      | (with_reducible exact foghornlaw07_alive.mono _)
      | (with_reducible exact LeO.refl _)
      | (with_reducible exact LeO.none _)
      | (with_reducible refine LeO.ite ?_ ?_)
      | (with_reducible refine LeO.bind ?_ (fun _ => ?_))
      | exact ih0 _ _ _ _ _ _ _ _ _
      | exact ih1 _ _ _ _ _ _ _ _ _ _ _ _ _ _
      | exact ih2 _ _ _ _ _ _ _ _ _ _ _ _ _ _ _ _
      | exact ih3 _ _ _ _ _ _ _ _ _ _ _ _ _ _ _ _
      | exact breaker_Ask.mono _ _ _ _ _ _ _
      | exact breaker_New.mono _ _ _
      | exact breaker_Told.mono _ _ _ _ _ _ _ _
      | exact foghornlaw07_alive.mono _
      | exact LeO.none _
      | refine LeO.ite ?_ ?_
      | refine LeO.bind ?_ (fun _ => ?_)
    · intro y0 y1 y2 y3 y4 y5 y6 y7 y8 y9 y10 y11 y12 y13
      unfold foghornlaw07_BreakerWaits.l0
      repeat' first
      | (with_reducible exact ih0 _ _ _ _ _ _ _ _ _)
      | (with_reducible exact ih1 _ _ _ _ _ _ _ _ _ _ _ _ _ _)
      | (with_reducible exact ih2 _ _ _ _ _ _ _ _ _ _ _ _ _ _ _ _)
      | (with_reducible exact ih3 _ _ _ _ _ _ _ _ _ _ _ _ _ _ _ _)
      | (with_reducible exact breaker_Ask.mono _ _ _ _ _ _ _)
      | (with_reducible exact breaker_New.mono _ _ _)
      | (with_reducible exact breaker_Told.mono _ _ _ _ _ _ _ _)
      | (with_reducible exact foghornlaw07_alive.mono _)
      | (with_reducible exact LeO.refl _)
      | (with_reducible exact LeO.none _)
      | (with_reducible refine LeO.ite ?_ ?_)
      | (with_reducible refine LeO.bind ?_ (fun _ => ?_))
      | exact ih0 _ _ _ _ _ _ _ _ _
      | exact ih1 _ _ _ _ _ _ _ _ _ _ _ _ _ _
      | exact ih2 _ _ _ _ _ _ _ _ _ _ _ _ _ _ _ _
      | exact ih3 _ _ _ _ _ _ _ _ _ _ _ _ _ _ _ _
      | exact breaker_Ask.mono _ _ _ _ _ _ _
      | exact breaker_New.mono _ _ _
      | exact breaker_Told.mono _ _ _ _ _ _ _ _
      | exact foghornlaw07_alive.mono _
      | exact LeO.none _
      | refine LeO.ite ?_ ?_
      | refine LeO.bind ?_ (fun _ => ?_)
    · intro y0 y1 y2 y3 y4 y5 y6 y7 y8 y9 y10 y11 y12 y13 y14 y15
      unfold foghornlaw07_BreakerWaits.j2
      repeat' first
      | (with_reducible exact ih0 _ _ _ _ _ _ _ _ _)
      | (with_reducible exact ih1 _ _ _ _ _ _ _ _ _ _ _ _ _ _)
      | (with_reducible exact ih2 _ _ _ _ _ _ _ _ _ _ _ _ _ _ _ _)
      | (with_reducible exact ih3 _ _ _ _ _ _ _ _ _ _ _ _ _ _ _ _)
      | (with_reducible exact breaker_Ask.mono _ _ _ _ _ _ _)
      | (with_reducible exact breaker_New.mono _ _ _)
      | (with_reducible exact breaker_Told.mono _ _ _ _ _ _ _ _)
      | (with_reducible exact foghornlaw07_alive.mono _)
      | (with_reducible exact LeO.refl _)
      | (with_reducible exact LeO.none _)
      | (with_reducible refine LeO.ite ?_ ?_)
      | (with_reducible refine LeO.bind ?_ (fun _ => ?_))
      | exact ih0 _ _ _ _ _ _ _ _ _
      | exact ih1 _ _ _ _ _ _ _ _ _ _ _ _ _ _
      | exact ih2 _ _ _ _ _ _ _ _ _ _ _ _ _ _ _ _
      | exact ih3 _ _ _ _ _ _ _ _ _ _ _ _ _ _ _ _
      | exact breaker_Ask.mono _ _ _ _ _ _ _
      | exact breaker_New.mono _ _ _
      | exact breaker_Told.mono _ _ _ _ _ _ _ _
      | exact foghornlaw07_alive.mono _
      | exact LeO.none _
      | refine LeO.ite ?_ ?_
      | refine LeO.bind ?_ (fun _ => ?_)
    · intro y0 y1 y2 y3 y4 y5 y6 y7 y8 y9 y10 y11 y12 y13 y14 y15
      unfold foghornlaw07_BreakerWaits.j3
      repeat' first
      | (with_reducible exact ih0 _ _ _ _ _ _ _ _ _)
      | (with_reducible exact ih1 _ _ _ _ _ _ _ _ _ _ _ _ _ _)
      | (with_reducible exact ih2 _ _ _ _ _ _ _ _ _ _ _ _ _ _ _ _)
      | (with_reducible exact ih3 _ _ _ _ _ _ _ _ _ _ _ _ _ _ _ _)
      | (with_reducible exact breaker_Ask.mono _ _ _ _ _ _ _)
      | (with_reducible exact breaker_New.mono _ _ _)
      | (with_reducible exact breaker_Told.mono _ _ _ _ _ _ _ _)
      | (with_reducible exact foghornlaw07_alive.mono _)
      | (with_reducible exact LeO.refl _)
      | (with_reducible exact LeO.none _)
      | (with_reducible refine LeO.ite ?_ ?_)
      | (with_reducible refine LeO.bind ?_ (fun _ => ?_))
      | exact ih0 _ _ _ _ _ _ _ _ _
      | exact ih1 _ _ _ _ _ _ _ _ _ _ _ _ _ _
      | exact ih2 _ _ _ _ _ _ _ _ _ _ _ _ _ _ _ _
      | exact ih3 _ _ _ _ _ _ _ _ _ _ _ _ _ _ _ _
      | exact breaker_Ask.mono _ _ _ _ _ _ _
      | exact breaker_New.mono _ _ _
      | exact breaker_Told.mono _ _ _ _ _ _ _ _
      | exact foghornlaw07_alive.mono _
      | exact LeO.none _
      | refine LeO.ite ?_ ?_
      | refine LeO.bind ?_ (fun _ => ?_)
theorem foghornlaw07_BreakerWaits.mono : ∀ a0 a1 a2 k, LeO (foghornlaw07_BreakerWaits.f k a0 a1 a2) (foghornlaw07_BreakerWaits.f (k + 1) a0 a1 a2) := by
  intro a0 a1 a2 k
  obtain ⟨ih0, ih1, ih2, ih3⟩ := foghornlaw07_BreakerWaits.mono_l k
  unfold foghornlaw07_BreakerWaits.f
  repeat' first
      | (with_reducible exact ih0 _ _ _ _ _ _ _ _ _)
      | (with_reducible exact ih1 _ _ _ _ _ _ _ _ _ _ _ _ _ _)
      | (with_reducible exact ih2 _ _ _ _ _ _ _ _ _ _ _ _ _ _ _ _)
      | (with_reducible exact ih3 _ _ _ _ _ _ _ _ _ _ _ _ _ _ _ _)
      | (with_reducible exact breaker_Ask.mono _ _ _ _ _ _ _)
      | (with_reducible exact breaker_New.mono _ _ _)
      | (with_reducible exact breaker_Told.mono _ _ _ _ _ _ _ _)
      | (with_reducible exact foghornlaw07_alive.mono _)
      | (with_reducible exact LeO.refl _)
      | (with_reducible exact LeO.none _)
      | (with_reducible refine LeO.ite ?_ ?_)
      | (with_reducible refine LeO.bind ?_ (fun _ => ?_))
      | exact ih0 _ _ _ _ _ _ _ _ _
      | exact ih1 _ _ _ _ _ _ _ _ _ _ _ _ _ _
      | exact ih2 _ _ _ _ _ _ _ _ _ _ _ _ _ _ _ _
      | exact ih3 _ _ _ _ _ _ _ _ _ _ _ _ _ _ _ _
      | exact breaker_Ask.mono _ _ _ _ _ _ _
      | exact breaker_New.mono _ _ _
      | exact breaker_Told.mono _ _ _ _ _ _ _ _
      | exact foghornlaw07_alive.mono _
      | exact LeO.none _
      | refine LeO.ite ?_ ?_
      | refine LeO.bind ?_ (fun _ => ?_)
set_option maxHeartbeats 8000000 in
set_option maxRecDepth 100000 in
theorem foghornlaw07_BreakerWaits.calls (k : Nat) (a0 : Int) (a1 : Int) (A2 : Option Addr) (c2 : Nat) (l2 : List Int) (r : Bool) (w : World) (hr2 : Kd.C (Kd.int .i64) w A2 l2.length l2) (hc2 : l2.length ≤ c2) (h : foghornlaw07_BreakerWaits.f k a0 a1 l2 = some r) :
    Calls Try.prog 14 #[.int .i64 a0, .int .i64 a1, .slice A2 l2.length c2] w fun e w' => e = .returned (.bool r) ∧ Below w.heap.size w w' := by
  have hu69 := Try.underlying69
  have HR2 := Aside0.mk hr2
  have HC2 := Aside0.mk hc2
  clear hr2 hc2
  have HB := Aside0.mk (Below.refl w.heap.size w)
  have H : ((breaker_New.f k (wrap64 (1 + (Int.tmod (wrap64 ((Int.tmod a0 9) + 9)) 9))) (wrap64 (1 + (Int.tmod (wrap64 ((Int.tmod a1 30) + 30)) 30)))).bind fun bt255 => (if bt255.2.2.2.2.2 = 0 then ((foghornlaw07_alive.f k).bind fun t262 => (foghornlaw07_BreakerWaits.j0 k (wrap64 (1 + (Int.tmod (wrap64 ((Int.tmod a0 9) + 9)) 9))) (wrap64 (1 + (Int.tmod (wrap64 ((Int.tmod a1 30) + 30)) 30))) l2 (!t262) bt255.1 bt255.2.1 bt255.2.2.1 bt255.2.2.2.1 bt255.2.2.2.2.1)) else (foghornlaw07_BreakerWaits.j0 k (wrap64 (1 + (Int.tmod (wrap64 ((Int.tmod a0 9) + 9)) 9))) (wrap64 (1 + (Int.tmod (wrap64 ((Int.tmod a1 30) + 30)) 30))) l2 true bt255.1 bt255.2.1 bt255.2.2.1 bt255.2.2.2.1 bt255.2.2.2.2.1))) = some r := h
  clear h
  replace H := Option.bind_eq_some_iff.mp H
  obtain ⟨⟨t255, t256, t257, t258, t259, t260⟩, A40, H⟩ := H
  replace H : (if t260 = 0 then ((foghornlaw07_alive.f k).bind fun t262 => (foghornlaw07_BreakerWaits.j0 k (wrap64 (1 + (Int.tmod (wrap64 ((Int.tmod a0 9) + 9)) 9))) (wrap64 (1 + (Int.tmod (wrap64 ((Int.tmod a1 30) + 30)) 30))) l2 (!t262) t255 t256 t257 t258 t259)) else (foghornlaw07_BreakerWaits.j0 k (wrap64 (1 + (Int.tmod (wrap64 ((Int.tmod a0 9) + 9)) 9))) (wrap64 (1 + (Int.tmod (wrap64 ((Int.tmod a1 30) + 30)) 30))) l2 true t255 t256 t257 t258 t259)) = some r := H
  have A4 := Aside0.mk A40
  clear A40
  have HC5 := Aside0.mk H
  clear H
  go_enter Try.func14, Try.ntmps14
  go_upto_region 3 with (first | ((with_reducible refine gate_callee (f := 49) rfl ?_); refine goesL_ (some 34) rfl rfl Try.func49 (by kernel_rfl) rfl #[.int .i64 (wrap64 (1 + (Int.tmod (wrap64 ((Int.tmod a0 9) + 9)) 9))), .int .i64 (wrap64 (1 + (Int.tmod (wrap64 ((Int.tmod a1 30) + 30)) 30)))] rfl (by (try simp only [List.map_toArray, List.map_cons, List.map_nil]); first | done | rfl | (simp only [List.length_drop, List.length_take]; rfl)) ?_; (with_reducible refine (breaker_New.calls k (wrap64 (1 + (Int.tmod (wrap64 ((Int.tmod a0 9) + 9)) 9))) (wrap64 (1 + (Int.tmod (wrap64 ((Int.tmod a1 30) + 30)) 30))) t255 t256 t257 t258 t259 t260 _ A4.out).mono ?_); rintro e w6 ⟨rfl, hb⟩; refine ⟨_, rfl, ?_⟩; have n0_ := Aside0.mk (below_step (by repeat (first | (with_reducible first | exact HB.out | apply below_alloc | apply pw_below_drewN | apply below_drew1) | exact HB.out)) hb); clear HB; have HB := n0_; clear n0_; (try clear hb); (try clear hb2); (try clear hk); (try clear hi)) | ((with_reducible refine gate_dst (N := 7) rfl ?_); refine box_event ?hg (N := 7) ?hd (cs := #[.int .i64 0, .int .i64 0, .int .i64 0, .int .i64 0, .int .i64 0]) (t := 69) ?hr ?_; (case hd => rfl); (case hg => rfl); (case hr => first | (go_simp; done) | (go_simp; rfl)); intro gb261 hg w7 hbox hb; have n0_ := Aside0.mk (below_step (by repeat (first | (with_reducible first | exact HB.out | apply below_alloc | apply pw_below_drewN | apply below_drew1) | exact HB.out)) hb); have n1_ := Aside0.mk (hbox); have n2_ := Aside0.mk ((by rw [hg]; exact (below_size (by repeat (first | (with_reducible first | exact HB.out | apply below_alloc | apply pw_below_drewN | apply below_drew1) | exact HB.out))) : w.heap.size ≤ gb261)); have n3_ := Aside0.mk ((by rw [hg]; exact (below_size (by repeat (first | (with_reducible first | exact HB.out | apply below_alloc | apply pw_below_drewN | apply below_drew1) | exact HB.out))) : w.heap.size ≤ gb261)); clear HB; have HB := n0_; have BK261 := n1_; have GW261 := n2_; have GE261 := n3_; clear n0_ n1_ n2_ n3_; clear hb hbox hg; have hcz8_0 : w7.cell? ⟨gb261, 0, none⟩ = some (.int .i64 0) := (blk_cell BK261.out 0).trans rfl; have hcz8_1 : w7.cell? ⟨gb261, 1, none⟩ = some (.int .i64 0) := (blk_cell BK261.out 1).trans rfl; have hcz8_2 : w7.cell? ⟨gb261, 2, none⟩ = some (.int .i64 0) := (blk_cell BK261.out 2).trans rfl; have hcz8_3 : w7.cell? ⟨gb261, 3, none⟩ = some (.int .i64 0) := (blk_cell BK261.out 3).trans rfl; have hcz8_4 : w7.cell? ⟨gb261, 4, none⟩ = some (.int .i64 0) := (blk_cell BK261.out 4).trans rfl; have hfz8_0 := blk_frozen BK261.out 0; have hfz8_1 := blk_frozen BK261.out 1; have hfz8_2 := blk_frozen BK261.out 2; have hfz8_3 := blk_frozen BK261.out 3; have hfz8_4 := blk_frozen BK261.out 4))
  (try simp only [Act.put, List.setIfInBounds_toArray, List.set_cons_zero, List.set_cons_succ])
  go_cut [42] (fun v42 wc => ∃ (kq : Nat) (x42_4 : Bool), v42 = .bool x42_4 ∧ Aside0 (foghornlaw07_BreakerWaits.j0 kq (wrap64 (1 + (Int.tmod (wrap64 ((Int.tmod a0 9) + 9)) 9))) (wrap64 (1 + (Int.tmod (wrap64 ((Int.tmod a1 30) + 30)) 30))) l2 x42_4 t255 t256 t257 t258 t259 = some r) ∧ Aside0 (kq ≤ k) ∧ Aside0 (wc.heap[gb261]? = some (.cells #[.int .i64 t255, .int .i64 t256, .int .i64 t257, .int .i64 t258, .int .i64 t259] 69 (0, 0))) ∧ Aside0 (Below w.heap.size w wc))
  case first =>
    have H := HC5.out
    clear HC5
    by_cases c9 : t260 = 0
    · rw [if_pos c9] at H
      have c9b0 : (t260 == 0) = true := beq_iff_eq.mpr c9
      have c9b1 : (t260 != 0) = false := bne_eq_false_iff_eq.mpr c9
      clear c9
      (first | rw [c9b0] | (simp only [i64_w, i32_w]; rw [c9b0]) | skip)
      replace H := Option.bind_eq_some_iff.mp H
      obtain ⟨t262, A100, H⟩ := H
      replace H : (foghornlaw07_BreakerWaits.j0 k (wrap64 (1 + (Int.tmod (wrap64 ((Int.tmod a0 9) + 9)) 9))) (wrap64 (1 + (Int.tmod (wrap64 ((Int.tmod a1 30) + 30)) 30))) l2 (!t262) t255 t256 t257 t258 t259) = some r := H
      have A10 := Aside0.mk A100
      clear A100
      have H' := Aside0.mk H
      clear H
      go_wp2_with (first | (go_at_call 50; (with_reducible refine (foghornlaw07_alive.calls k  t262 _ A10.out).mono ?_); rintro e w11 ⟨rfl, hb⟩; have n0_ := Aside0.mk (blk_below (g := gb261) (o := .cells #[.int .i64 t255, .int .i64 t256, .int .i64 t257, .int .i64 t258, .int .i64 t259] 69 (0, 0)) (by (with_reducible repeat (first | refine blk_drewN ?_ _ | refine blk_drew ?_ | refine blk_alloc ?_ _)); refine blk_put (cs := #[.int .i64 t255, .int .i64 t256, .int .i64 t257, .int .i64 t258, .int .i64 0]) ?_ 4 _ rfl; (with_reducible repeat (first | refine blk_drewN ?_ _ | refine blk_drew ?_ | refine blk_alloc ?_ _)); refine blk_put (cs := #[.int .i64 t255, .int .i64 t256, .int .i64 t257, .int .i64 0, .int .i64 0]) ?_ 3 _ rfl; (with_reducible repeat (first | refine blk_drewN ?_ _ | refine blk_drew ?_ | refine blk_alloc ?_ _)); refine blk_put (cs := #[.int .i64 t255, .int .i64 t256, .int .i64 0, .int .i64 0, .int .i64 0]) ?_ 2 _ rfl; (with_reducible repeat (first | refine blk_drewN ?_ _ | refine blk_drew ?_ | refine blk_alloc ?_ _)); refine blk_put (cs := #[.int .i64 t255, .int .i64 0, .int .i64 0, .int .i64 0, .int .i64 0]) ?_ 1 _ rfl; (with_reducible repeat (first | refine blk_drewN ?_ _ | refine blk_drew ?_ | refine blk_alloc ?_ _)); refine blk_put (cs := #[.int .i64 0, .int .i64 0, .int .i64 0, .int .i64 0, .int .i64 0]) ?_ 0 _ rfl; (with_reducible repeat (first | refine blk_drewN ?_ _ | refine blk_drew ?_ | refine blk_alloc ?_ _)); exact BK261.out) hb); have n1_ := Aside0.mk (below_step (by repeat (first | (with_reducible first | exact HB.out | apply below_alloc | apply pw_below_drewN | apply below_drew1 | refine below_set ?_ GE261.out) | exact HB.out)) hb); clear BK261; clear HB; have BK261 := n0_; have HB := n1_; clear n0_ n1_; (try clear hb); (try clear hb2); (try clear hk); (try clear hi)))
      go_meet
      case rel => exact ⟨_, (!t262), (by first | rfl | (simp; done) | (simp [*]; done)), H', ⟨by first | omega | exact Nat.le_refl _⟩, ⟨by (with_reducible repeat (first | refine blk_drewN ?_ _ | refine blk_drew ?_ | refine blk_alloc ?_ _)); exact BK261.out⟩, ⟨by repeat (first | (with_reducible first | exact HB.out | apply below_alloc | apply pw_below_drewN | apply below_drew1 | refine below_set ?_ GE261.out) | exact HB.out)⟩⟩
    · rw [if_neg c9] at H
      have c9b0 : (t260 == 0) = false := beq_eq_false_iff_ne.mpr c9
      have c9b1 : (t260 != 0) = true := bne_iff_ne.mpr c9
      (first | rw [c9b0] | (simp only [i64_w, i32_w]; rw [c9b0]) | skip)
      have H' := Aside0.mk H
      clear H
      go_wp2
      go_meet
      case rel => exact ⟨_, (true), (by first | rfl | (simp; done) | (simp [*]; done)), H', ⟨by first | omega | exact Nat.le_refl _⟩, ⟨by (with_reducible repeat (first | refine blk_drewN ?_ _ | refine blk_drew ?_ | refine blk_alloc ?_ _)); refine blk_put (cs := #[.int .i64 t255, .int .i64 t256, .int .i64 t257, .int .i64 t258, .int .i64 0]) ?_ 4 _ rfl; (with_reducible repeat (first | refine blk_drewN ?_ _ | refine blk_drew ?_ | refine blk_alloc ?_ _)); refine blk_put (cs := #[.int .i64 t255, .int .i64 t256, .int .i64 t257, .int .i64 0, .int .i64 0]) ?_ 3 _ rfl; (with_reducible repeat (first | refine blk_drewN ?_ _ | refine blk_drew ?_ | refine blk_alloc ?_ _)); refine blk_put (cs := #[.int .i64 t255, .int .i64 t256, .int .i64 0, .int .i64 0, .int .i64 0]) ?_ 2 _ rfl; (with_reducible repeat (first | refine blk_drewN ?_ _ | refine blk_drew ?_ | refine blk_alloc ?_ _)); refine blk_put (cs := #[.int .i64 t255, .int .i64 0, .int .i64 0, .int .i64 0, .int .i64 0]) ?_ 1 _ rfl; (with_reducible repeat (first | refine blk_drewN ?_ _ | refine blk_drew ?_ | refine blk_alloc ?_ _)); refine blk_put (cs := #[.int .i64 0, .int .i64 0, .int .i64 0, .int .i64 0, .int .i64 0]) ?_ 0 _ rfl; (with_reducible repeat (first | refine blk_drewN ?_ _ | refine blk_drew ?_ | refine blk_alloc ?_ _)); exact BK261.out⟩, ⟨by repeat (first | (with_reducible first | exact HB.out | apply below_alloc | apply pw_below_drewN | apply below_drew1 | refine below_set ?_ GE261.out) | exact HB.out)⟩⟩
  case rest =>
    clear HC5
    try clear c1
    try clear c2
    try clear p2
    try clear c4
    try clear p6
    try clear c9
    try clear c9b0
    try clear c9b1
    try clear hcz8_0
    try clear hcz8_1
    try clear hcz8_2
    try clear hcz8_3
    try clear hcz8_4
    try clear hfz8_0
    try clear hfz8_1
    try clear hfz8_2
    try clear hfz8_3
    try clear hfz8_4
    obtain ⟨kq, x42_4, rfl, HA, HJ4, BK261, HB⟩ := hcut
    cases kq with
    | zero => exact absurd HA.out (by simp [foghornlaw07_BreakerWaits.j0])
    | succ kj4 =>
      have H := HA.out
      clear HA
      simp only [foghornlaw07_BreakerWaits.j0] at H
      by_cases c12 : x42_4 = true
      · subst c12
        have H1 : (some false) = some r := by rw [if_pos rfl] at H; exact H
        clear H
        have H := H1
        clear H1
        obtain rfl := Option.some.inj H
        go_wp2
        go_ret
        exact ⟨by first | rfl | (simp [errW_none, errW_some] <;> rfl) | (simp [*, errW_none, errW_some] <;> rfl), by repeat (first | (with_reducible first | exact HB.out | apply below_alloc | apply pw_below_drewN | apply below_drew1 | refine below_set ?_ GE261.out) | exact HB.out)⟩
      · replace c12 := Bool.eq_false_iff.mpr c12
        subst c12
        have H1 : (if 0 ≤ (mn (l2.length : Int) 200) then (if (mn (l2.length : Int) 200) ≤ (l2.length : Int) then ((some (l2.take ((mn (l2.length : Int) 200) : Int).toNat : List Int)).bind fun y263 => (foghornlaw07_BreakerWaits.l0 kj4 (wrap64 (1 + (Int.tmod (wrap64 ((Int.tmod a0 9) + 9)) 9))) (wrap64 (1 + (Int.tmod (wrap64 ((Int.tmod a1 30) + 30)) 30))) 0 0 (-1) false y263 (y263.length : Int) 0 t255 t256 t257 t258 t259)) else (none)) else (none)) = some r := by rw [if_neg (show ¬ (false = true) by decide)] at H; exact H
        clear H
        have H := H1
        clear H1
        obtain ⟨ji13, hji13⟩ : ∃ j_ : Int, (mn (l2.length : Int) 200) = j_ := ⟨_, rfl⟩
        replace H : (if 0 ≤ (ji13) then (if (ji13) ≤ (l2.length : Int) then ((some (l2.take ((ji13) : Int).toNat : List Int)).bind fun y263 => (foghornlaw07_BreakerWaits.l0 kj4 (wrap64 (1 + (Int.tmod (wrap64 ((Int.tmod a0 9) + 9)) 9))) (wrap64 (1 + (Int.tmod (wrap64 ((Int.tmod a1 30) + 30)) 30))) 0 0 (-1) false y263 (y263.length : Int) 0 t255 t256 t257 t258 t259)) else (none)) else (none)) = some r := by first | (rw [hji13] at H; exact H) | (simp only [hji13] at H ⊢; exact H)
        have hji13_ : (if 200 < (l2.length : Int) then 200 else (l2.length : Int)) = ji13 := hji13
        by_cases c14 : 0 ≤ (ji13)
        · rw [if_pos c14] at H
          have c14b0 := eq_true c14
          have c14b1 : decide (0 ≤ (ji13)) = true := decide_eq_true c14
          clear c14
          by_cases c15 : (ji13) ≤ (l2.length : Int)
          · rw [if_pos c15] at H
            have c15b0 := eq_true c15
            have c15b1 : decide ((ji13) ≤ (l2.length : Int)) = true := decide_eq_true c15
            clear c15
            obtain ⟨y263, hy263⟩ : ∃ y_ : List Int, y_ = (l2.take ((ji13) : Int).toNat) := ⟨_, rfl⟩
            replace H : (foghornlaw07_BreakerWaits.l0 kj4 (wrap64 (1 + (Int.tmod (wrap64 ((Int.tmod a0 9) + 9)) 9))) (wrap64 (1 + (Int.tmod (wrap64 ((Int.tmod a1 30) + 30)) 30))) 0 0 (-1) false y263 (y263.length : Int) 0 t255 t256 t257 t258 t259) = some r := by first | (rw [hy263]; with_reducible exact H) | (have H2_ := (Option.bind_some _ _).symm.trans H; rw [hy263]; with_reducible exact H2_) | (have H2_ := (Option.bind_some _ _).symm.trans H; with_reducible exact H2_) | with_reducible exact H | (rw [hy263]; exact H) | exact H
            have Ny263 := Aside0.mk hy263
            clear hy263
            have H' := Aside0.mk H
            clear H
            have q16 : ((ji13) : Int) ≤ ((l2.length : Int) : Int) := of_decide_eq_true (by first | (with_reducible assumption) | assumption)
            obtain ⟨i016, hi016, _, hsz16, _⟩ := info_parts info3
            have hroom16 : l2.length ≤ c2 := HC2.out
            have hC16 : Kd.C (Kd.int .i64) _ A2 l2.length l2 := HR2.out
            have hcut16 := cut_to (P := Try.prog) 35 3 .i64 Try.underlying35 hi016 A2 l2.length c2 (ji13) (of_decide_eq_true (by first | (with_reducible assumption) | assumption)) q16 hroom16
            have hr16 := Kd.C_take (m := ((ji13) : Int).toNat) hC16 (by omega)
            have hy16 : y263.length = ((ji13) : Int).toNat := (by rw [Ny263.out, List.length_take]; omega)
            rw [← Ny263.out] at hr16
            rw [← hy16] at hcut16
            have HR266 := Aside0.mk hr16
            have HC266 := Aside0.mk (show y263.length ≤ c2 from by omega)
            clear hr16 hC16 hroom16 hi016 hsz16
            have KY16 := Aside0.mk hy16
            clear hy16
            replace q16 := eq_true q16
            go_wp2
            go_loopg [9, 10, 11, 12, 49] kj4 (fun kq v9 v10 v11 v12 v49 w' => ∃ (x9_2 : Int) (x10_2 : Int) (x11_2 : Int) (x12_2 : Bool) (x49_2 : Int) (x262000_2 : Int) (x262001_2 : Int) (x262002_2 : Int) (x262003_2 : Int) (x262004_2 : Int), v9 = .int .i64 x9_2 ∧ v10 = .int .i64 x10_2 ∧ v11 = .int .i64 x11_2 ∧ v12 = .bool x12_2 ∧ v49 = .int .i64 x49_2 ∧ Aside0 (foghornlaw07_BreakerWaits.l0 kq (wrap64 (1 + (Int.tmod (wrap64 ((Int.tmod a0 9) + 9)) 9))) (wrap64 (1 + (Int.tmod (wrap64 ((Int.tmod a1 30) + 30)) 30))) x9_2 x10_2 x11_2 x12_2 y263 (y263.length : Int) x49_2 x262000_2 x262001_2 x262002_2 x262003_2 x262004_2 = some r) ∧ Aside0 (kq ≤ kj4) ∧ Aside0 (w'.heap[gb261]? = some (.cells #[.int .i64 x262000_2, .int .i64 x262001_2, .int .i64 x262002_2, .int .i64 x262003_2, .int .i64 x262004_2] 69 (0, 0))) ∧ Aside0 (Below w.heap.size w w'))
            case atStart => exact ⟨(0), (0), ((-1)), (false), (0), (t255), (t256), (t257), (t258), (t259), (by first | rfl | (simp; done) | (simp [*]; done)), (by first | rfl | (simp; done) | (simp [*]; done)), (by first | rfl | (simp; done) | (simp [*]; done)), (by first | rfl | (simp; done) | (simp [*]; done)), (by first | rfl | (simp; done) | (simp [*]; done)), H', ⟨Nat.le_refl _⟩, ⟨by (with_reducible repeat (first | refine blk_drewN ?_ _ | refine blk_drew ?_ | refine blk_alloc ?_ _)); exact BK261.out⟩, ⟨by repeat (first | (with_reducible first | exact HB.out | apply below_alloc | apply pw_below_drewN | apply below_drew1 | refine below_set ?_ GE261.out) | exact HB.out)⟩⟩
            case round =>
              clear H'
              try clear c1
              try clear q1
              try clear c2
              try clear p2
              try clear c4
              try clear p6
              try clear c9
              try clear c9b0
              try clear c9b1
              try clear c12
              try clear c14
              try clear c14b0
              try clear c14b1
              try clear c15
              try clear c15b0
              try clear c15b1
              try clear q16
              try clear hcz8_0
              try clear hcz8_1
              try clear hcz8_2
              try clear hcz8_3
              try clear hcz8_4
              try clear hfz8_0
              try clear hfz8_1
              try clear hfz8_2
              try clear hfz8_3
              try clear hfz8_4
              try clear p2
              try clear p6
              try clear q16
              obtain ⟨x9_2, x10_2, x11_2, x12_2, x49_2, x262000_2, x262001_2, x262002_2, x262003_2, x262004_2, rfl, rfl, rfl, rfl, rfl, HA, HK2, BK261, HB⟩ := hrel
              cases gk with
              | zero => exact absurd HA.out (by simp [foghornlaw07_BreakerWaits.l0])
              | succ k2 =>
                have H := HA.out
                clear HA
                simp only [foghornlaw07_BreakerWaits.l0] at H
                by_cases c17 : x49_2 < (y263.length : Int)
                · rw [if_pos c17] at H
                  have c17b0 : decide (x49_2 < (y263.length : Int)) = true := decide_eq_true c17
                  clear c17
                  by_cases c18 : 0 ≤ x49_2
                  · rw [if_pos c18] at H
                    have c18b0 : decide (0 ≤ x49_2) = true := decide_eq_true c18
                    clear c18
                    by_cases c19 : x49_2 < (y263.length : Int)
                    · rw [if_pos c19] at H
                      have c19b0 : decide (x49_2 < (y263.length : Int)) = true := decide_eq_true c19
                      clear c19
                      have HC20 := Aside0.mk H
                      clear H
                      have p267 : 0 ≤ (x49_2 : Int) := of_decide_eq_true (by first | (with_reducible assumption) | assumption)
                      have q267 : x49_2 < (y263.length : Int) := of_decide_eq_true (by first | (with_reducible assumption) | assumption)
                      obtain ⟨ad267, e267, hx267_0⟩ := Kd.at_int HR266.out x49_2 p267 q267
                      cases e267
                      replace hx267_0 := (HB.out.cell (World.block_lt_of_cell? w _ hx267_0)).trans hx267_0
                      replace p267 := eq_true p267
                      replace q267 := eq_true q267
                      go_upto_if 98 with (fail)
                      go_cut [98] (fun v98 wc => ∃ (kq : Nat) (x98_19 : Bool), v98 = .bool x98_19 ∧ Aside0 (foghornlaw07_BreakerWaits.j2 kq (wrap64 (1 + (Int.tmod (wrap64 ((Int.tmod a0 9) + 9)) 9))) (wrap64 (1 + (Int.tmod (wrap64 ((Int.tmod a1 30) + 30)) 30))) (wrap64 (x9_2 + (Int.tmod (wrap64 ((Int.tmod (wrap64 (Int.tdiv (rd y263 x49_2) 4)) 7) + 7)) 7))) x10_2 x11_2 x12_2 (rd y263 x49_2) y263 (y263.length : Int) x49_2 x98_19 x262000_2 x262001_2 x262002_2 x262003_2 x262004_2 = some r) ∧ Aside0 (kq ≤ k2) ∧ Aside0 (wc.heap[gb261]? = some (.cells #[.int .i64 x262000_2, .int .i64 x262001_2, .int .i64 x262002_2, .int .i64 x262003_2, .int .i64 x262004_2] 69 (0, 0))) ∧ Aside0 (Below w.heap.size w wc))
                      case first =>
                        have H := HC20.out
                        clear HC20
                        by_cases c21 : (Int.tmod (wrap64 ((Int.tmod (rd y263 x49_2) 4) + 4)) 4) = 0
                        · rw [if_pos c21] at H
                          have c21b0 : ((Int.tmod (wrap64 ((Int.tmod (rd y263 x49_2) 4) + 4)) 4) == 0) = true := beq_iff_eq.mpr c21
                          have c21b1 : ((Int.tmod (wrap64 ((Int.tmod (rd y263 x49_2) 4) + 4)) 4) != 0) = false := bne_eq_false_iff_eq.mpr c21
                          clear c21
                          (first | rw [c21b0] | (simp only [i64_w, i32_w]; rw [c21b0]) | skip)
                          have H' := Aside0.mk H
                          clear H
                          go_wp2
                          go_meet
                          case rel => exact ⟨_, (((Int.tmod (wrap64 ((Int.tmod (rd y263 x49_2) 4) + 4)) 4) == 0)), (by first | rfl | (simp; done) | (simp [*]; done)), H', ⟨by have := HJ4.out; have := HK2.out; first | omega | exact Nat.le_refl _⟩, ⟨by (with_reducible repeat (first | refine blk_drewN ?_ _ | refine blk_drew ?_ | refine blk_alloc ?_ _)); exact BK261.out⟩, ⟨by repeat (first | (with_reducible first | exact HB.out | apply below_alloc | apply pw_below_drewN | apply below_drew1 | refine below_set ?_ GE261.out) | exact HB.out)⟩⟩
                        · rw [if_neg c21] at H
                          have c21b0 : ((Int.tmod (wrap64 ((Int.tmod (rd y263 x49_2) 4) + 4)) 4) == 0) = false := beq_eq_false_iff_ne.mpr c21
                          have c21b1 : ((Int.tmod (wrap64 ((Int.tmod (rd y263 x49_2) 4) + 4)) 4) != 0) = true := bne_iff_ne.mpr c21
                          (first | rw [c21b0] | (simp only [i64_w, i32_w]; rw [c21b0]) | skip)
                          have H' := Aside0.mk H
                          clear H
                          go_wp2
                          go_meet
                          case rel => exact ⟨_, (((Int.tmod (wrap64 ((Int.tmod (rd y263 x49_2) 4) + 4)) 4) == 1)), (by first | rfl | (simp; done) | (simp [*]; done)), H', ⟨by have := HJ4.out; have := HK2.out; first | omega | exact Nat.le_refl _⟩, ⟨by (with_reducible repeat (first | refine blk_drewN ?_ _ | refine blk_drew ?_ | refine blk_alloc ?_ _)); exact BK261.out⟩, ⟨by repeat (first | (with_reducible first | exact HB.out | apply below_alloc | apply pw_below_drewN | apply below_drew1 | refine below_set ?_ GE261.out) | exact HB.out)⟩⟩
                      case rest =>
                        clear HC20
                        try clear c1
                        try clear q1
                        try clear c2
                        try clear p2
                        try clear q2
                        try clear hx2
                        try clear c4
                        try clear p6
                        try clear c9
                        try clear c9b0
                        try clear c9b1
                        try clear c12
                        try clear c14
                        try clear c14b0
                        try clear c14b1
                        try clear c15
                        try clear c15b0
                        try clear c15b1
                        try clear q16
                        try clear c17
                        try clear c17b0
                        try clear c18
                        try clear c18b0
                        try clear c19
                        try clear c19b0
                        try clear c21
                        try clear c21b0
                        try clear c21b1
                        try clear hcz8_0
                        try clear hcz8_1
                        try clear hcz8_2
                        try clear hcz8_3
                        try clear hcz8_4
                        try clear hfz8_0
                        try clear hfz8_1
                        try clear hfz8_2
                        try clear hfz8_3
                        try clear hfz8_4
                        try clear hx267_0
                        try clear p2
                        try clear p267
                        try clear p6
                        try clear q1
                        try clear q16
                        try clear q267
                        obtain ⟨kq, x98_19, rfl, HA, HJ19, BK261, HB⟩ := hcut
                        cases kq with
                        | zero => exact absurd HA.out (by simp [foghornlaw07_BreakerWaits.j2])
                        | succ kj19 =>
                          have H := HA.out
                          clear HA
                          simp only [foghornlaw07_BreakerWaits.j2] at H
                          by_cases c22 : x98_19 = true
                          · subst c22
                            have H1 : ((breaker_Ask.f kj19 x262000_2 x262001_2 x262002_2 x262003_2 x262004_2 (wrap64 (x9_2 + (Int.tmod (wrap64 ((Int.tmod (wrap64 (Int.tdiv (rd y263 x49_2) 4)) 7) + 7)) 7)))).bind fun bt268 => (if bt268.2.2.2.2.2.2 = 0 then (if x11_2 < 0 then (if x12_2 = true then (if x11_2 ≥ 0 then (foghornlaw07_BreakerWaits.j3 kj19 (wrap64 (1 + (Int.tmod (wrap64 ((Int.tmod a0 9) + 9)) 9))) (wrap64 (1 + (Int.tmod (wrap64 ((Int.tmod a1 30) + 30)) 30))) (wrap64 (x9_2 + (Int.tmod (wrap64 ((Int.tmod (wrap64 (Int.tdiv (rd y263 x49_2) 4)) 7) + 7)) 7))) x10_2 x11_2 x12_2 bt268.2.2.2.2.2.1 y263 (y263.length : Int) x49_2 (bt268.2.2.2.2.2.1 != (decide ((wrap64 (x9_2 + (Int.tmod (wrap64 ((Int.tmod (wrap64 (Int.tdiv (rd y263 x49_2) 4)) 7) + 7)) 7))) ≥ x11_2))) bt268.1 bt268.2.1 bt268.2.2.1 bt268.2.2.2.1 bt268.2.2.2.2.1) else (foghornlaw07_BreakerWaits.j3 kj19 (wrap64 (1 + (Int.tmod (wrap64 ((Int.tmod a0 9) + 9)) 9))) (wrap64 (1 + (Int.tmod (wrap64 ((Int.tmod a1 30) + 30)) 30))) (wrap64 (x9_2 + (Int.tmod (wrap64 ((Int.tmod (wrap64 (Int.tdiv (rd y263 x49_2) 4)) 7) + 7)) 7))) x10_2 x11_2 x12_2 bt268.2.2.2.2.2.1 y263 (y263.length : Int) x49_2 (bt268.2.2.2.2.2.1 != false) bt268.1 bt268.2.1 bt268.2.2.1 bt268.2.2.2.1 bt268.2.2.2.2.1)) else (foghornlaw07_BreakerWaits.j3 kj19 (wrap64 (1 + (Int.tmod (wrap64 ((Int.tmod a0 9) + 9)) 9))) (wrap64 (1 + (Int.tmod (wrap64 ((Int.tmod a1 30) + 30)) 30))) (wrap64 (x9_2 + (Int.tmod (wrap64 ((Int.tmod (wrap64 (Int.tdiv (rd y263 x49_2) 4)) 7) + 7)) 7))) x10_2 x11_2 x12_2 bt268.2.2.2.2.2.1 y263 (y263.length : Int) x49_2 (bt268.2.2.2.2.2.1 != true) bt268.1 bt268.2.1 bt268.2.2.1 bt268.2.2.2.1 bt268.2.2.2.2.1)) else (if x11_2 ≥ 0 then (foghornlaw07_BreakerWaits.j3 kj19 (wrap64 (1 + (Int.tmod (wrap64 ((Int.tmod a0 9) + 9)) 9))) (wrap64 (1 + (Int.tmod (wrap64 ((Int.tmod a1 30) + 30)) 30))) (wrap64 (x9_2 + (Int.tmod (wrap64 ((Int.tmod (wrap64 (Int.tdiv (rd y263 x49_2) 4)) 7) + 7)) 7))) x10_2 x11_2 x12_2 bt268.2.2.2.2.2.1 y263 (y263.length : Int) x49_2 (bt268.2.2.2.2.2.1 != (decide ((wrap64 (x9_2 + (Int.tmod (wrap64 ((Int.tmod (wrap64 (Int.tdiv (rd y263 x49_2) 4)) 7) + 7)) 7))) ≥ x11_2))) bt268.1 bt268.2.1 bt268.2.2.1 bt268.2.2.2.1 bt268.2.2.2.2.1) else (foghornlaw07_BreakerWaits.j3 kj19 (wrap64 (1 + (Int.tmod (wrap64 ((Int.tmod a0 9) + 9)) 9))) (wrap64 (1 + (Int.tmod (wrap64 ((Int.tmod a1 30) + 30)) 30))) (wrap64 (x9_2 + (Int.tmod (wrap64 ((Int.tmod (wrap64 (Int.tdiv (rd y263 x49_2) 4)) 7) + 7)) 7))) x10_2 x11_2 x12_2 bt268.2.2.2.2.2.1 y263 (y263.length : Int) x49_2 (bt268.2.2.2.2.2.1 != false) bt268.1 bt268.2.1 bt268.2.2.1 bt268.2.2.2.1 bt268.2.2.2.2.1))) else (foghornlaw07_BreakerWaits.j3 kj19 (wrap64 (1 + (Int.tmod (wrap64 ((Int.tmod a0 9) + 9)) 9))) (wrap64 (1 + (Int.tmod (wrap64 ((Int.tmod a1 30) + 30)) 30))) (wrap64 (x9_2 + (Int.tmod (wrap64 ((Int.tmod (wrap64 (Int.tdiv (rd y263 x49_2) 4)) 7) + 7)) 7))) x10_2 x11_2 x12_2 bt268.2.2.2.2.2.1 y263 (y263.length : Int) x49_2 true bt268.1 bt268.2.1 bt268.2.2.1 bt268.2.2.2.1 bt268.2.2.2.2.1))) = some r := by rw [if_pos rfl] at H; exact H
                            clear H
                            have H := H1
                            clear H1
                            replace H := Option.bind_eq_some_iff.mp H
                            obtain ⟨⟨t268, t269, t270, t271, t272, t273, t274⟩, A230, H⟩ := H
                            replace H : (if t274 = 0 then (if x11_2 < 0 then (if x12_2 = true then (if x11_2 ≥ 0 then (foghornlaw07_BreakerWaits.j3 kj19 (wrap64 (1 + (Int.tmod (wrap64 ((Int.tmod a0 9) + 9)) 9))) (wrap64 (1 + (Int.tmod (wrap64 ((Int.tmod a1 30) + 30)) 30))) (wrap64 (x9_2 + (Int.tmod (wrap64 ((Int.tmod (wrap64 (Int.tdiv (rd y263 x49_2) 4)) 7) + 7)) 7))) x10_2 x11_2 x12_2 t273 y263 (y263.length : Int) x49_2 (t273 != (decide ((wrap64 (x9_2 + (Int.tmod (wrap64 ((Int.tmod (wrap64 (Int.tdiv (rd y263 x49_2) 4)) 7) + 7)) 7))) ≥ x11_2))) t268 t269 t270 t271 t272) else (foghornlaw07_BreakerWaits.j3 kj19 (wrap64 (1 + (Int.tmod (wrap64 ((Int.tmod a0 9) + 9)) 9))) (wrap64 (1 + (Int.tmod (wrap64 ((Int.tmod a1 30) + 30)) 30))) (wrap64 (x9_2 + (Int.tmod (wrap64 ((Int.tmod (wrap64 (Int.tdiv (rd y263 x49_2) 4)) 7) + 7)) 7))) x10_2 x11_2 x12_2 t273 y263 (y263.length : Int) x49_2 (t273 != false) t268 t269 t270 t271 t272)) else (foghornlaw07_BreakerWaits.j3 kj19 (wrap64 (1 + (Int.tmod (wrap64 ((Int.tmod a0 9) + 9)) 9))) (wrap64 (1 + (Int.tmod (wrap64 ((Int.tmod a1 30) + 30)) 30))) (wrap64 (x9_2 + (Int.tmod (wrap64 ((Int.tmod (wrap64 (Int.tdiv (rd y263 x49_2) 4)) 7) + 7)) 7))) x10_2 x11_2 x12_2 t273 y263 (y263.length : Int) x49_2 (t273 != true) t268 t269 t270 t271 t272)) else (if x11_2 ≥ 0 then (foghornlaw07_BreakerWaits.j3 kj19 (wrap64 (1 + (Int.tmod (wrap64 ((Int.tmod a0 9) + 9)) 9))) (wrap64 (1 + (Int.tmod (wrap64 ((Int.tmod a1 30) + 30)) 30))) (wrap64 (x9_2 + (Int.tmod (wrap64 ((Int.tmod (wrap64 (Int.tdiv (rd y263 x49_2) 4)) 7) + 7)) 7))) x10_2 x11_2 x12_2 t273 y263 (y263.length : Int) x49_2 (t273 != (decide ((wrap64 (x9_2 + (Int.tmod (wrap64 ((Int.tmod (wrap64 (Int.tdiv (rd y263 x49_2) 4)) 7) + 7)) 7))) ≥ x11_2))) t268 t269 t270 t271 t272) else (foghornlaw07_BreakerWaits.j3 kj19 (wrap64 (1 + (Int.tmod (wrap64 ((Int.tmod a0 9) + 9)) 9))) (wrap64 (1 + (Int.tmod (wrap64 ((Int.tmod a1 30) + 30)) 30))) (wrap64 (x9_2 + (Int.tmod (wrap64 ((Int.tmod (wrap64 (Int.tdiv (rd y263 x49_2) 4)) 7) + 7)) 7))) x10_2 x11_2 x12_2 t273 y263 (y263.length : Int) x49_2 (t273 != false) t268 t269 t270 t271 t272))) else (foghornlaw07_BreakerWaits.j3 kj19 (wrap64 (1 + (Int.tmod (wrap64 ((Int.tmod a0 9) + 9)) 9))) (wrap64 (1 + (Int.tmod (wrap64 ((Int.tmod a1 30) + 30)) 30))) (wrap64 (x9_2 + (Int.tmod (wrap64 ((Int.tmod (wrap64 (Int.tdiv (rd y263 x49_2) 4)) 7) + 7)) 7))) x10_2 x11_2 x12_2 t273 y263 (y263.length : Int) x49_2 true t268 t269 t270 t271 t272)) = some r := H
                            have A23 := Aside0.mk A230
                            clear A230
                            have HC24 := Aside0.mk H
                            clear H
                            have hcz25_0 : wc.cell? ⟨gb261, 0, none⟩ = some (.int .i64 x262000_2) := (blk_cell BK261.out 0).trans rfl
                            have hcz25_1 : wc.cell? ⟨gb261, 1, none⟩ = some (.int .i64 x262001_2) := (blk_cell BK261.out 1).trans rfl
                            have hcz25_2 : wc.cell? ⟨gb261, 2, none⟩ = some (.int .i64 x262002_2) := (blk_cell BK261.out 2).trans rfl
                            have hcz25_3 : wc.cell? ⟨gb261, 3, none⟩ = some (.int .i64 x262003_2) := (blk_cell BK261.out 3).trans rfl
                            have hcz25_4 : wc.cell? ⟨gb261, 4, none⟩ = some (.int .i64 x262004_2) := (blk_cell BK261.out 4).trans rfl
                            have hfz25_0 := blk_frozen BK261.out 0
                            have hfz25_1 := blk_frozen BK261.out 1
                            have hfz25_2 := blk_frozen BK261.out 2
                            have hfz25_3 := blk_frozen BK261.out 3
                            have hfz25_4 := blk_frozen BK261.out 4
                            go_upto_region 27 with (first | ((with_reducible refine gate_callee (f := 51) rfl ?_); refine goesL_ (some 104) rfl rfl Try.func51 (by kernel_rfl) rfl #[.agg #[.int .i64 x262000_2, .int .i64 x262001_2, .int .i64 x262002_2, .int .i64 x262003_2, .int .i64 x262004_2], .int .i64 (wrap64 (x9_2 + (Int.tmod (wrap64 ((Int.tmod (wrap64 (Int.tdiv (rd y263 x49_2) 4)) 7) + 7)) 7)))] rfl (by (try simp only [List.map_toArray, List.map_cons, List.map_nil]); first | done | rfl | (simp only [List.length_drop, List.length_take]; rfl)) ?_; (with_reducible refine (breaker_Ask.calls kj19 x262000_2 x262001_2 x262002_2 x262003_2 x262004_2 (wrap64 (x9_2 + (Int.tmod (wrap64 ((Int.tmod (wrap64 (Int.tdiv (rd y263 x49_2) 4)) 7) + 7)) 7))) t268 t269 t270 t271 t272 t273 t274 _ A23.out).mono ?_); rintro e w26 ⟨rfl, hb⟩; refine ⟨_, rfl, ?_⟩; have n0_ := Aside0.mk (blk_below (g := gb261) (o := .cells #[.int .i64 x262000_2, .int .i64 x262001_2, .int .i64 x262002_2, .int .i64 x262003_2, .int .i64 x262004_2] 69 (0, 0)) (by (with_reducible repeat (first | refine blk_drewN ?_ _ | refine blk_drew ?_ | refine blk_alloc ?_ _)); exact BK261.out) hb); have n1_ := Aside0.mk (below_step (by repeat (first | (with_reducible first | exact HB.out | apply below_alloc | apply pw_below_drewN | apply below_drew1 | refine below_set ?_ GE261.out) | exact HB.out)) hb); clear BK261; clear HB; have BK261 := n0_; have HB := n1_; clear n0_ n1_; (try clear hb); (try clear hb2); (try clear hk); (try clear hi)) | ((with_reducible refine gate_dst (N := 15) rfl ?_); refine box_event ?hg (N := 15) ?hd (cs := #[.int .i64 0, .int .i64 0, .int .i64 0, .int .i64 0, .int .i64 0]) (t := 69) ?hr ?_; (case hd => rfl); (case hg => rfl); (case hr => first | (go_simp; done) | (go_simp; rfl)); intro gb275 hg w27 hbox hb; have n0_ := Aside0.mk (blk_below (g := gb261) (o := .cells #[.int .i64 x262000_2, .int .i64 x262001_2, .int .i64 x262002_2, .int .i64 x262003_2, .int .i64 x262004_2] 69 (0, 0)) (by (with_reducible repeat (first | refine blk_drewN ?_ _ | refine blk_drew ?_ | refine blk_alloc ?_ _)); exact BK261.out) hb); have n1_ := Aside0.mk (below_step (by repeat (first | (with_reducible first | exact HB.out | apply below_alloc | apply pw_below_drewN | apply below_drew1 | refine below_set ?_ GE261.out) | exact HB.out)) hb); have n2_ := Aside0.mk (hbox); have n3_ := Aside0.mk ((by rw [hg]; exact (below_size (by repeat (first | (with_reducible first | exact HB.out | apply below_alloc | apply pw_below_drewN | apply below_drew1 | refine below_set ?_ GE261.out) | exact HB.out))) : w.heap.size ≤ gb275)); have n4_ := Aside0.mk ((by rw [hg]; exact (below_size (by repeat (first | (with_reducible first | exact HB.out | apply below_alloc | apply pw_below_drewN | apply below_drew1 | refine below_set ?_ GE261.out) | exact HB.out))) : w.heap.size ≤ gb275)); have n5_ := Aside0.mk ((by rw [hg]; exact Nat.ne_of_lt (blk_lt (g := gb261) (o := .cells #[.int .i64 x262000_2, .int .i64 x262001_2, .int .i64 x262002_2, .int .i64 x262003_2, .int .i64 x262004_2] 69 (0, 0)) (by (with_reducible repeat (first | refine blk_drewN ?_ _ | refine blk_drew ?_ | refine blk_alloc ?_ _)); exact BK261.out)) : gb261 ≠ gb275)); have n6_ := Aside0.mk ((by rw [hg]; exact Nat.ne_of_gt (blk_lt (g := gb261) (o := .cells #[.int .i64 x262000_2, .int .i64 x262001_2, .int .i64 x262002_2, .int .i64 x262003_2, .int .i64 x262004_2] 69 (0, 0)) (by (with_reducible repeat (first | refine blk_drewN ?_ _ | refine blk_drew ?_ | refine blk_alloc ?_ _)); exact BK261.out)) : gb275 ≠ gb261)); clear BK261; clear HB; have BK261 := n0_; have HB := n1_; have BK275 := n2_; have GW275 := n3_; have GE275 := n4_; have NB261_275 := n5_; have NB275_261 := n6_; clear n0_ n1_ n2_ n3_ n4_ n5_ n6_; clear hb hbox hg; have hnb28 := NB275_261.out; have hnc28 := NB261_275.out; have hcz29_0 : w27.cell? ⟨gb275, 0, none⟩ = some (.int .i64 0) := (blk_cell BK275.out 0).trans rfl; have hcz29_1 : w27.cell? ⟨gb275, 1, none⟩ = some (.int .i64 0) := (blk_cell BK275.out 1).trans rfl; have hcz29_2 : w27.cell? ⟨gb275, 2, none⟩ = some (.int .i64 0) := (blk_cell BK275.out 2).trans rfl; have hcz29_3 : w27.cell? ⟨gb275, 3, none⟩ = some (.int .i64 0) := (blk_cell BK275.out 3).trans rfl; have hcz29_4 : w27.cell? ⟨gb275, 4, none⟩ = some (.int .i64 0) := (blk_cell BK275.out 4).trans rfl; have hfz29_0 := blk_frozen BK275.out 0; have hfz29_1 := blk_frozen BK275.out 1; have hfz29_2 := blk_frozen BK275.out 2; have hfz29_3 := blk_frozen BK275.out 3; have hfz29_4 := blk_frozen BK275.out 4))
                            (try simp only [Act.put, List.setIfInBounds_toArray, List.set_cons_zero, List.set_cons_succ])
                            go_cut [128] (fun v128 wc => ∃ (kq : Nat) (x128_23 : Bool), v128 = .bool x128_23 ∧ Aside0 (foghornlaw07_BreakerWaits.j3 kq (wrap64 (1 + (Int.tmod (wrap64 ((Int.tmod a0 9) + 9)) 9))) (wrap64 (1 + (Int.tmod (wrap64 ((Int.tmod a1 30) + 30)) 30))) (wrap64 (x9_2 + (Int.tmod (wrap64 ((Int.tmod (wrap64 (Int.tdiv (rd y263 x49_2) 4)) 7) + 7)) 7))) x10_2 x11_2 x12_2 t273 y263 (y263.length : Int) x49_2 x128_23 t268 t269 t270 t271 t272 = some r) ∧ Aside0 (kq ≤ kj19) ∧ Aside0 (wc.heap[gb261]? = some (.cells #[.int .i64 x262000_2, .int .i64 x262001_2, .int .i64 x262002_2, .int .i64 x262003_2, .int .i64 x262004_2] 69 (0, 0))) ∧ Aside0 (wc.heap[gb275]? = some (.cells #[.int .i64 t268, .int .i64 t269, .int .i64 t270, .int .i64 t271, .int .i64 t272] 69 (0, 0))) ∧ Aside0 (Below w.heap.size w wc))
                            case first =>
                              have H := HC24.out
                              clear HC24
                              by_cases c30 : t274 = 0
                              · rw [if_pos c30] at H
                                have c30b0 : (t274 == 0) = true := beq_iff_eq.mpr c30
                                have c30b1 : (t274 != 0) = false := bne_eq_false_iff_eq.mpr c30
                                clear c30
                                (first | rw [c30b0] | (simp only [i64_w, i32_w]; rw [c30b0]) | skip)
                                by_cases c31 : x11_2 < 0
                                · rw [if_pos c31] at H
                                  have c31b0 : decide (x11_2 < 0) = true := decide_eq_true c31
                                  clear c31
                                  by_cases c32 : x12_2 = true
                                  · subst c32
                                    have H1 : (if x11_2 ≥ 0 then (foghornlaw07_BreakerWaits.j3 kj19 (wrap64 (1 + (Int.tmod (wrap64 ((Int.tmod a0 9) + 9)) 9))) (wrap64 (1 + (Int.tmod (wrap64 ((Int.tmod a1 30) + 30)) 30))) (wrap64 (x9_2 + (Int.tmod (wrap64 ((Int.tmod (wrap64 (Int.tdiv (rd y263 x49_2) 4)) 7) + 7)) 7))) x10_2 x11_2 true t273 y263 (y263.length : Int) x49_2 (t273 != (decide ((wrap64 (x9_2 + (Int.tmod (wrap64 ((Int.tmod (wrap64 (Int.tdiv (rd y263 x49_2) 4)) 7) + 7)) 7))) ≥ x11_2))) t268 t269 t270 t271 t272) else (foghornlaw07_BreakerWaits.j3 kj19 (wrap64 (1 + (Int.tmod (wrap64 ((Int.tmod a0 9) + 9)) 9))) (wrap64 (1 + (Int.tmod (wrap64 ((Int.tmod a1 30) + 30)) 30))) (wrap64 (x9_2 + (Int.tmod (wrap64 ((Int.tmod (wrap64 (Int.tdiv (rd y263 x49_2) 4)) 7) + 7)) 7))) x10_2 x11_2 true t273 y263 (y263.length : Int) x49_2 (t273 != false) t268 t269 t270 t271 t272)) = some r := by rw [if_pos rfl] at H; exact H
                                    clear H
                                    have H := H1
                                    clear H1
                                    by_cases c33 : x11_2 ≥ 0
                                    · rw [if_pos c33] at H
                                      have c33b0 : decide (0 ≤ x11_2) = true := decide_eq_true c33
                                      clear c33
                                      have H' := Aside0.mk H
                                      clear H
                                      go_wp2
                                      go_meet
                                      case rel => exact ⟨_, ((t273 != (decide ((wrap64 (x9_2 + (Int.tmod (wrap64 ((Int.tmod (wrap64 (Int.tdiv (rd y263 x49_2) 4)) 7) + 7)) 7))) ≥ x11_2)))), (by first | rfl | (simp; done) | (simp [*]; done)), H', ⟨by have := HJ4.out; have := HK2.out; have := HJ19.out; first | omega | exact Nat.le_refl _⟩, ⟨by (with_reducible repeat (first | refine blk_drewN ?_ _ | refine blk_drew ?_ | refine blk_alloc ?_ _)); refine blk_far ?_ NB261_275.out _; (with_reducible repeat (first | refine blk_drewN ?_ _ | refine blk_drew ?_ | refine blk_alloc ?_ _)); refine blk_far ?_ NB261_275.out _; (with_reducible repeat (first | refine blk_drewN ?_ _ | refine blk_drew ?_ | refine blk_alloc ?_ _)); refine blk_far ?_ NB261_275.out _; (with_reducible repeat (first | refine blk_drewN ?_ _ | refine blk_drew ?_ | refine blk_alloc ?_ _)); refine blk_far ?_ NB261_275.out _; (with_reducible repeat (first | refine blk_drewN ?_ _ | refine blk_drew ?_ | refine blk_alloc ?_ _)); refine blk_far ?_ NB261_275.out _; (with_reducible repeat (first | refine blk_drewN ?_ _ | refine blk_drew ?_ | refine blk_alloc ?_ _)); exact BK261.out⟩, ⟨by (with_reducible repeat (first | refine blk_drewN ?_ _ | refine blk_drew ?_ | refine blk_alloc ?_ _)); refine blk_put (cs := #[.int .i64 t268, .int .i64 t269, .int .i64 t270, .int .i64 t271, .int .i64 0]) ?_ 4 _ rfl; (with_reducible repeat (first | refine blk_drewN ?_ _ | refine blk_drew ?_ | refine blk_alloc ?_ _)); refine blk_put (cs := #[.int .i64 t268, .int .i64 t269, .int .i64 t270, .int .i64 0, .int .i64 0]) ?_ 3 _ rfl; (with_reducible repeat (first | refine blk_drewN ?_ _ | refine blk_drew ?_ | refine blk_alloc ?_ _)); refine blk_put (cs := #[.int .i64 t268, .int .i64 t269, .int .i64 0, .int .i64 0, .int .i64 0]) ?_ 2 _ rfl; (with_reducible repeat (first | refine blk_drewN ?_ _ | refine blk_drew ?_ | refine blk_alloc ?_ _)); refine blk_put (cs := #[.int .i64 t268, .int .i64 0, .int .i64 0, .int .i64 0, .int .i64 0]) ?_ 1 _ rfl; (with_reducible repeat (first | refine blk_drewN ?_ _ | refine blk_drew ?_ | refine blk_alloc ?_ _)); refine blk_put (cs := #[.int .i64 0, .int .i64 0, .int .i64 0, .int .i64 0, .int .i64 0]) ?_ 0 _ rfl; (with_reducible repeat (first | refine blk_drewN ?_ _ | refine blk_drew ?_ | refine blk_alloc ?_ _)); exact BK275.out⟩, ⟨by repeat (first | (with_reducible first | exact HB.out | apply below_alloc | apply pw_below_drewN | apply below_drew1 | refine below_set ?_ GE261.out | refine below_set ?_ GE275.out) | exact HB.out)⟩⟩
                                    · rw [if_neg c33] at H
                                      have c33b0 : decide (0 ≤ x11_2) = false := decide_eq_false c33
                                      clear c33
                                      have H' := Aside0.mk H
                                      clear H
                                      go_wp2
                                      go_meet
                                      case rel => exact ⟨_, ((t273 != false)), (by first | rfl | (simp; done) | (simp [*]; done)), H', ⟨by have := HJ4.out; have := HK2.out; have := HJ19.out; first | omega | exact Nat.le_refl _⟩, ⟨by (with_reducible repeat (first | refine blk_drewN ?_ _ | refine blk_drew ?_ | refine blk_alloc ?_ _)); refine blk_far ?_ NB261_275.out _; (with_reducible repeat (first | refine blk_drewN ?_ _ | refine blk_drew ?_ | refine blk_alloc ?_ _)); refine blk_far ?_ NB261_275.out _; (with_reducible repeat (first | refine blk_drewN ?_ _ | refine blk_drew ?_ | refine blk_alloc ?_ _)); refine blk_far ?_ NB261_275.out _; (with_reducible repeat (first | refine blk_drewN ?_ _ | refine blk_drew ?_ | refine blk_alloc ?_ _)); refine blk_far ?_ NB261_275.out _; (with_reducible repeat (first | refine blk_drewN ?_ _ | refine blk_drew ?_ | refine blk_alloc ?_ _)); refine blk_far ?_ NB261_275.out _; (with_reducible repeat (first | refine blk_drewN ?_ _ | refine blk_drew ?_ | refine blk_alloc ?_ _)); exact BK261.out⟩, ⟨by (with_reducible repeat (first | refine blk_drewN ?_ _ | refine blk_drew ?_ | refine blk_alloc ?_ _)); refine blk_put (cs := #[.int .i64 t268, .int .i64 t269, .int .i64 t270, .int .i64 t271, .int .i64 0]) ?_ 4 _ rfl; (with_reducible repeat (first | refine blk_drewN ?_ _ | refine blk_drew ?_ | refine blk_alloc ?_ _)); refine blk_put (cs := #[.int .i64 t268, .int .i64 t269, .int .i64 t270, .int .i64 0, .int .i64 0]) ?_ 3 _ rfl; (with_reducible repeat (first | refine blk_drewN ?_ _ | refine blk_drew ?_ | refine blk_alloc ?_ _)); refine blk_put (cs := #[.int .i64 t268, .int .i64 t269, .int .i64 0, .int .i64 0, .int .i64 0]) ?_ 2 _ rfl; (with_reducible repeat (first | refine blk_drewN ?_ _ | refine blk_drew ?_ | refine blk_alloc ?_ _)); refine blk_put (cs := #[.int .i64 t268, .int .i64 0, .int .i64 0, .int .i64 0, .int .i64 0]) ?_ 1 _ rfl; (with_reducible repeat (first | refine blk_drewN ?_ _ | refine blk_drew ?_ | refine blk_alloc ?_ _)); refine blk_put (cs := #[.int .i64 0, .int .i64 0, .int .i64 0, .int .i64 0, .int .i64 0]) ?_ 0 _ rfl; (with_reducible repeat (first | refine blk_drewN ?_ _ | refine blk_drew ?_ | refine blk_alloc ?_ _)); exact BK275.out⟩, ⟨by repeat (first | (with_reducible first | exact HB.out | apply below_alloc | apply pw_below_drewN | apply below_drew1 | refine below_set ?_ GE261.out | refine below_set ?_ GE275.out) | exact HB.out)⟩⟩
                                  · replace c32 := Bool.eq_false_iff.mpr c32
                                    subst c32
                                    have H1 : (foghornlaw07_BreakerWaits.j3 kj19 (wrap64 (1 + (Int.tmod (wrap64 ((Int.tmod a0 9) + 9)) 9))) (wrap64 (1 + (Int.tmod (wrap64 ((Int.tmod a1 30) + 30)) 30))) (wrap64 (x9_2 + (Int.tmod (wrap64 ((Int.tmod (wrap64 (Int.tdiv (rd y263 x49_2) 4)) 7) + 7)) 7))) x10_2 x11_2 false t273 y263 (y263.length : Int) x49_2 (t273 != true) t268 t269 t270 t271 t272) = some r := by rw [if_neg (show ¬ (false = true) by decide)] at H; exact H
                                    clear H
                                    have H := H1
                                    clear H1
                                    have H' := Aside0.mk H
                                    clear H
                                    go_wp2
                                    go_meet
                                    case rel => exact ⟨_, ((t273 != true)), (by first | rfl | (simp; done) | (simp [*]; done)), H', ⟨by have := HJ4.out; have := HK2.out; have := HJ19.out; first | omega | exact Nat.le_refl _⟩, ⟨by (with_reducible repeat (first | refine blk_drewN ?_ _ | refine blk_drew ?_ | refine blk_alloc ?_ _)); refine blk_far ?_ NB261_275.out _; (with_reducible repeat (first | refine blk_drewN ?_ _ | refine blk_drew ?_ | refine blk_alloc ?_ _)); refine blk_far ?_ NB261_275.out _; (with_reducible repeat (first | refine blk_drewN ?_ _ | refine blk_drew ?_ | refine blk_alloc ?_ _)); refine blk_far ?_ NB261_275.out _; (with_reducible repeat (first | refine blk_drewN ?_ _ | refine blk_drew ?_ | refine blk_alloc ?_ _)); refine blk_far ?_ NB261_275.out _; (with_reducible repeat (first | refine blk_drewN ?_ _ | refine blk_drew ?_ | refine blk_alloc ?_ _)); refine blk_far ?_ NB261_275.out _; (with_reducible repeat (first | refine blk_drewN ?_ _ | refine blk_drew ?_ | refine blk_alloc ?_ _)); exact BK261.out⟩, ⟨by (with_reducible repeat (first | refine blk_drewN ?_ _ | refine blk_drew ?_ | refine blk_alloc ?_ _)); refine blk_put (cs := #[.int .i64 t268, .int .i64 t269, .int .i64 t270, .int .i64 t271, .int .i64 0]) ?_ 4 _ rfl; (with_reducible repeat (first | refine blk_drewN ?_ _ | refine blk_drew ?_ | refine blk_alloc ?_ _)); refine blk_put (cs := #[.int .i64 t268, .int .i64 t269, .int .i64 t270, .int .i64 0, .int .i64 0]) ?_ 3 _ rfl; (with_reducible repeat (first | refine blk_drewN ?_ _ | refine blk_drew ?_ | refine blk_alloc ?_ _)); refine blk_put (cs := #[.int .i64 t268, .int .i64 t269, .int .i64 0, .int .i64 0, .int .i64 0]) ?_ 2 _ rfl; (with_reducible repeat (first | refine blk_drewN ?_ _ | refine blk_drew ?_ | refine blk_alloc ?_ _)); refine blk_put (cs := #[.int .i64 t268, .int .i64 0, .int .i64 0, .int .i64 0, .int .i64 0]) ?_ 1 _ rfl; (with_reducible repeat (first | refine blk_drewN ?_ _ | refine blk_drew ?_ | refine blk_alloc ?_ _)); refine blk_put (cs := #[.int .i64 0, .int .i64 0, .int .i64 0, .int .i64 0, .int .i64 0]) ?_ 0 _ rfl; (with_reducible repeat (first | refine blk_drewN ?_ _ | refine blk_drew ?_ | refine blk_alloc ?_ _)); exact BK275.out⟩, ⟨by repeat (first | (with_reducible first | exact HB.out | apply below_alloc | apply pw_below_drewN | apply below_drew1 | refine below_set ?_ GE261.out | refine below_set ?_ GE275.out) | exact HB.out)⟩⟩
                                · rw [if_neg c31] at H
                                  have c31b0 : decide (x11_2 < 0) = false := decide_eq_false c31
                                  clear c31
                                  by_cases c34 : x11_2 ≥ 0
                                  · rw [if_pos c34] at H
                                    have c34b0 : decide (0 ≤ x11_2) = true := decide_eq_true c34
                                    clear c34
                                    have H' := Aside0.mk H
                                    clear H
                                    go_wp2
                                    go_meet
                                    case rel => exact ⟨_, ((t273 != (decide ((wrap64 (x9_2 + (Int.tmod (wrap64 ((Int.tmod (wrap64 (Int.tdiv (rd y263 x49_2) 4)) 7) + 7)) 7))) ≥ x11_2)))), (by first | rfl | (simp; done) | (simp [*]; done)), H', ⟨by have := HJ4.out; have := HK2.out; have := HJ19.out; first | omega | exact Nat.le_refl _⟩, ⟨by (with_reducible repeat (first | refine blk_drewN ?_ _ | refine blk_drew ?_ | refine blk_alloc ?_ _)); refine blk_far ?_ NB261_275.out _; (with_reducible repeat (first | refine blk_drewN ?_ _ | refine blk_drew ?_ | refine blk_alloc ?_ _)); refine blk_far ?_ NB261_275.out _; (with_reducible repeat (first | refine blk_drewN ?_ _ | refine blk_drew ?_ | refine blk_alloc ?_ _)); refine blk_far ?_ NB261_275.out _; (with_reducible repeat (first | refine blk_drewN ?_ _ | refine blk_drew ?_ | refine blk_alloc ?_ _)); refine blk_far ?_ NB261_275.out _; (with_reducible repeat (first | refine blk_drewN ?_ _ | refine blk_drew ?_ | refine blk_alloc ?_ _)); refine blk_far ?_ NB261_275.out _; (with_reducible repeat (first | refine blk_drewN ?_ _ | refine blk_drew ?_ | refine blk_alloc ?_ _)); exact BK261.out⟩, ⟨by (with_reducible repeat (first | refine blk_drewN ?_ _ | refine blk_drew ?_ | refine blk_alloc ?_ _)); refine blk_put (cs := #[.int .i64 t268, .int .i64 t269, .int .i64 t270, .int .i64 t271, .int .i64 0]) ?_ 4 _ rfl; (with_reducible repeat (first | refine blk_drewN ?_ _ | refine blk_drew ?_ | refine blk_alloc ?_ _)); refine blk_put (cs := #[.int .i64 t268, .int .i64 t269, .int .i64 t270, .int .i64 0, .int .i64 0]) ?_ 3 _ rfl; (with_reducible repeat (first | refine blk_drewN ?_ _ | refine blk_drew ?_ | refine blk_alloc ?_ _)); refine blk_put (cs := #[.int .i64 t268, .int .i64 t269, .int .i64 0, .int .i64 0, .int .i64 0]) ?_ 2 _ rfl; (with_reducible repeat (first | refine blk_drewN ?_ _ | refine blk_drew ?_ | refine blk_alloc ?_ _)); refine blk_put (cs := #[.int .i64 t268, .int .i64 0, .int .i64 0, .int .i64 0, .int .i64 0]) ?_ 1 _ rfl; (with_reducible repeat (first | refine blk_drewN ?_ _ | refine blk_drew ?_ | refine blk_alloc ?_ _)); refine blk_put (cs := #[.int .i64 0, .int .i64 0, .int .i64 0, .int .i64 0, .int .i64 0]) ?_ 0 _ rfl; (with_reducible repeat (first | refine blk_drewN ?_ _ | refine blk_drew ?_ | refine blk_alloc ?_ _)); exact BK275.out⟩, ⟨by repeat (first | (with_reducible first | exact HB.out | apply below_alloc | apply pw_below_drewN | apply below_drew1 | refine below_set ?_ GE261.out | refine below_set ?_ GE275.out) | exact HB.out)⟩⟩
                                  · rw [if_neg c34] at H
                                    have c34b0 : decide (0 ≤ x11_2) = false := decide_eq_false c34
                                    clear c34
                                    have H' := Aside0.mk H
                                    clear H
                                    go_wp2
                                    go_meet
                                    case rel => exact ⟨_, ((t273 != false)), (by first | rfl | (simp; done) | (simp [*]; done)), H', ⟨by have := HJ4.out; have := HK2.out; have := HJ19.out; first | omega | exact Nat.le_refl _⟩, ⟨by (with_reducible repeat (first | refine blk_drewN ?_ _ | refine blk_drew ?_ | refine blk_alloc ?_ _)); refine blk_far ?_ NB261_275.out _; (with_reducible repeat (first | refine blk_drewN ?_ _ | refine blk_drew ?_ | refine blk_alloc ?_ _)); refine blk_far ?_ NB261_275.out _; (with_reducible repeat (first | refine blk_drewN ?_ _ | refine blk_drew ?_ | refine blk_alloc ?_ _)); refine blk_far ?_ NB261_275.out _; (with_reducible repeat (first | refine blk_drewN ?_ _ | refine blk_drew ?_ | refine blk_alloc ?_ _)); refine blk_far ?_ NB261_275.out _; (with_reducible repeat (first | refine blk_drewN ?_ _ | refine blk_drew ?_ | refine blk_alloc ?_ _)); refine blk_far ?_ NB261_275.out _; (with_reducible repeat (first | refine blk_drewN ?_ _ | refine blk_drew ?_ | refine blk_alloc ?_ _)); exact BK261.out⟩, ⟨by (with_reducible repeat (first | refine blk_drewN ?_ _ | refine blk_drew ?_ | refine blk_alloc ?_ _)); refine blk_put (cs := #[.int .i64 t268, .int .i64 t269, .int .i64 t270, .int .i64 t271, .int .i64 0]) ?_ 4 _ rfl; (with_reducible repeat (first | refine blk_drewN ?_ _ | refine blk_drew ?_ | refine blk_alloc ?_ _)); refine blk_put (cs := #[.int .i64 t268, .int .i64 t269, .int .i64 t270, .int .i64 0, .int .i64 0]) ?_ 3 _ rfl; (with_reducible repeat (first | refine blk_drewN ?_ _ | refine blk_drew ?_ | refine blk_alloc ?_ _)); refine blk_put (cs := #[.int .i64 t268, .int .i64 t269, .int .i64 0, .int .i64 0, .int .i64 0]) ?_ 2 _ rfl; (with_reducible repeat (first | refine blk_drewN ?_ _ | refine blk_drew ?_ | refine blk_alloc ?_ _)); refine blk_put (cs := #[.int .i64 t268, .int .i64 0, .int .i64 0, .int .i64 0, .int .i64 0]) ?_ 1 _ rfl; (with_reducible repeat (first | refine blk_drewN ?_ _ | refine blk_drew ?_ | refine blk_alloc ?_ _)); refine blk_put (cs := #[.int .i64 0, .int .i64 0, .int .i64 0, .int .i64 0, .int .i64 0]) ?_ 0 _ rfl; (with_reducible repeat (first | refine blk_drewN ?_ _ | refine blk_drew ?_ | refine blk_alloc ?_ _)); exact BK275.out⟩, ⟨by repeat (first | (with_reducible first | exact HB.out | apply below_alloc | apply pw_below_drewN | apply below_drew1 | refine below_set ?_ GE261.out | refine below_set ?_ GE275.out) | exact HB.out)⟩⟩
                              · rw [if_neg c30] at H
                                have c30b0 : (t274 == 0) = false := beq_eq_false_iff_ne.mpr c30
                                have c30b1 : (t274 != 0) = true := bne_iff_ne.mpr c30
                                (first | rw [c30b0] | (simp only [i64_w, i32_w]; rw [c30b0]) | skip)
                                have H' := Aside0.mk H
                                clear H
                                go_wp2
                                go_meet
                                case rel => exact ⟨_, (true), (by first | rfl | (simp; done) | (simp [*]; done)), H', ⟨by have := HJ4.out; have := HK2.out; have := HJ19.out; first | omega | exact Nat.le_refl _⟩, ⟨by (with_reducible repeat (first | refine blk_drewN ?_ _ | refine blk_drew ?_ | refine blk_alloc ?_ _)); refine blk_far ?_ NB261_275.out _; (with_reducible repeat (first | refine blk_drewN ?_ _ | refine blk_drew ?_ | refine blk_alloc ?_ _)); refine blk_far ?_ NB261_275.out _; (with_reducible repeat (first | refine blk_drewN ?_ _ | refine blk_drew ?_ | refine blk_alloc ?_ _)); refine blk_far ?_ NB261_275.out _; (with_reducible repeat (first | refine blk_drewN ?_ _ | refine blk_drew ?_ | refine blk_alloc ?_ _)); refine blk_far ?_ NB261_275.out _; (with_reducible repeat (first | refine blk_drewN ?_ _ | refine blk_drew ?_ | refine blk_alloc ?_ _)); refine blk_far ?_ NB261_275.out _; (with_reducible repeat (first | refine blk_drewN ?_ _ | refine blk_drew ?_ | refine blk_alloc ?_ _)); exact BK261.out⟩, ⟨by (with_reducible repeat (first | refine blk_drewN ?_ _ | refine blk_drew ?_ | refine blk_alloc ?_ _)); refine blk_put (cs := #[.int .i64 t268, .int .i64 t269, .int .i64 t270, .int .i64 t271, .int .i64 0]) ?_ 4 _ rfl; (with_reducible repeat (first | refine blk_drewN ?_ _ | refine blk_drew ?_ | refine blk_alloc ?_ _)); refine blk_put (cs := #[.int .i64 t268, .int .i64 t269, .int .i64 t270, .int .i64 0, .int .i64 0]) ?_ 3 _ rfl; (with_reducible repeat (first | refine blk_drewN ?_ _ | refine blk_drew ?_ | refine blk_alloc ?_ _)); refine blk_put (cs := #[.int .i64 t268, .int .i64 t269, .int .i64 0, .int .i64 0, .int .i64 0]) ?_ 2 _ rfl; (with_reducible repeat (first | refine blk_drewN ?_ _ | refine blk_drew ?_ | refine blk_alloc ?_ _)); refine blk_put (cs := #[.int .i64 t268, .int .i64 0, .int .i64 0, .int .i64 0, .int .i64 0]) ?_ 1 _ rfl; (with_reducible repeat (first | refine blk_drewN ?_ _ | refine blk_drew ?_ | refine blk_alloc ?_ _)); refine blk_put (cs := #[.int .i64 0, .int .i64 0, .int .i64 0, .int .i64 0, .int .i64 0]) ?_ 0 _ rfl; (with_reducible repeat (first | refine blk_drewN ?_ _ | refine blk_drew ?_ | refine blk_alloc ?_ _)); exact BK275.out⟩, ⟨by repeat (first | (with_reducible first | exact HB.out | apply below_alloc | apply pw_below_drewN | apply below_drew1 | refine below_set ?_ GE261.out | refine below_set ?_ GE275.out) | exact HB.out)⟩⟩
                            case rest =>
                              clear HC24
                              try clear c1
                              try clear q1
                              try clear c2
                              try clear p2
                              try clear q2
                              try clear hx2
                              try clear c3
                              try clear c4
                              try clear c5
                              try clear p6
                              try clear c9
                              try clear c9b0
                              try clear c9b1
                              try clear c12
                              try clear c14
                              try clear c14b0
                              try clear c14b1
                              try clear c15
                              try clear c15b0
                              try clear c15b1
                              try clear q16
                              try clear c17
                              try clear c17b0
                              try clear c18
                              try clear c18b0
                              try clear c19
                              try clear c19b0
                              try clear c21
                              try clear c21b0
                              try clear c21b1
                              try clear c22
                              try clear p26
                              try clear q26
                              try clear hx26
                              try clear c28
                              try clear c30
                              try clear c30b0
                              try clear c30b1
                              try clear c31
                              try clear c31b0
                              try clear c32
                              try clear c33
                              try clear c33b0
                              try clear c34
                              try clear c34b0
                              try clear hcz25_0
                              try clear hcz25_1
                              try clear hcz25_2
                              try clear hcz25_3
                              try clear hcz25_4
                              try clear hcz29_0
                              try clear hcz29_1
                              try clear hcz29_2
                              try clear hcz29_3
                              try clear hcz29_4
                              try clear hcz8_0
                              try clear hcz8_1
                              try clear hcz8_2
                              try clear hcz8_3
                              try clear hcz8_4
                              try clear hfz25_0
                              try clear hfz25_1
                              try clear hfz25_2
                              try clear hfz25_3
                              try clear hfz25_4
                              try clear hfz29_0
                              try clear hfz29_1
                              try clear hfz29_2
                              try clear hfz29_3
                              try clear hfz29_4
                              try clear hfz8_0
                              try clear hfz8_1
                              try clear hfz8_2
                              try clear hfz8_3
                              try clear hfz8_4
                              try clear hx267_0
                              try clear p2
                              try clear p267
                              try clear p6
                              try clear q1
                              try clear q16
                              try clear q2
                              try clear q267
                              obtain ⟨kq, x128_23, rfl, HA, HJ23, BK261, BK275, HB⟩ := hcut
                              cases kq with
                              | zero => exact absurd HA.out (by simp [foghornlaw07_BreakerWaits.j3])
                              | succ kj23 =>
                                have H := HA.out
                                clear HA
                                simp only [foghornlaw07_BreakerWaits.j3] at H
                                by_cases c35 : x128_23 = true
                                · subst c35
                                  have H1 : (some false) = some r := by rw [if_pos rfl] at H; exact H
                                  clear H
                                  have H := H1
                                  clear H1
                                  obtain rfl := Option.some.inj H
                                  go_wp2
                                  go_ret
                                  exact ⟨by first | rfl | (simp [errW_none, errW_some] <;> rfl) | (simp only [← hji13]; first | rfl | (simp [errW_none, errW_some] <;> rfl)) | (simp [*, errW_none, errW_some] <;> rfl), by repeat (first | (with_reducible first | exact HB.out | apply below_alloc | apply pw_below_drewN | apply below_drew1 | refine below_set ?_ GE261.out | refine below_set ?_ GE275.out) | exact HB.out)⟩
                                · replace c35 := Bool.eq_false_iff.mpr c35
                                  subst c35
                                  have H1 : (if t273 = true then (if x11_2 ≥ 0 then (foghornlaw07_BreakerWaits.l0 kj23 (wrap64 (1 + (Int.tmod (wrap64 ((Int.tmod a0 9) + 9)) 9))) (wrap64 (1 + (Int.tmod (wrap64 ((Int.tmod a1 30) + 30)) 30))) (wrap64 (x9_2 + (Int.tmod (wrap64 ((Int.tmod (wrap64 (Int.tdiv (rd y263 x49_2) 4)) 7) + 7)) 7))) x10_2 (-1) true y263 (y263.length : Int) (wrap64 (x49_2 + 1)) t268 t269 t270 t271 t272) else (foghornlaw07_BreakerWaits.l0 kj23 (wrap64 (1 + (Int.tmod (wrap64 ((Int.tmod a0 9) + 9)) 9))) (wrap64 (1 + (Int.tmod (wrap64 ((Int.tmod a1 30) + 30)) 30))) (wrap64 (x9_2 + (Int.tmod (wrap64 ((Int.tmod (wrap64 (Int.tdiv (rd y263 x49_2) 4)) 7) + 7)) 7))) x10_2 x11_2 x12_2 y263 (y263.length : Int) (wrap64 (x49_2 + 1)) t268 t269 t270 t271 t272)) else (foghornlaw07_BreakerWaits.l0 kj23 (wrap64 (1 + (Int.tmod (wrap64 ((Int.tmod a0 9) + 9)) 9))) (wrap64 (1 + (Int.tmod (wrap64 ((Int.tmod a1 30) + 30)) 30))) (wrap64 (x9_2 + (Int.tmod (wrap64 ((Int.tmod (wrap64 (Int.tdiv (rd y263 x49_2) 4)) 7) + 7)) 7))) x10_2 x11_2 x12_2 y263 (y263.length : Int) (wrap64 (x49_2 + 1)) t268 t269 t270 t271 t272)) = some r := by rw [if_neg (show ¬ (false = true) by decide)] at H; exact H
                                  clear H
                                  have H := H1
                                  clear H1
                                  by_cases c36 : t273 = true
                                  · subst c36
                                    have H1 : (if x11_2 ≥ 0 then (foghornlaw07_BreakerWaits.l0 kj23 (wrap64 (1 + (Int.tmod (wrap64 ((Int.tmod a0 9) + 9)) 9))) (wrap64 (1 + (Int.tmod (wrap64 ((Int.tmod a1 30) + 30)) 30))) (wrap64 (x9_2 + (Int.tmod (wrap64 ((Int.tmod (wrap64 (Int.tdiv (rd y263 x49_2) 4)) 7) + 7)) 7))) x10_2 (-1) true y263 (y263.length : Int) (wrap64 (x49_2 + 1)) t268 t269 t270 t271 t272) else (foghornlaw07_BreakerWaits.l0 kj23 (wrap64 (1 + (Int.tmod (wrap64 ((Int.tmod a0 9) + 9)) 9))) (wrap64 (1 + (Int.tmod (wrap64 ((Int.tmod a1 30) + 30)) 30))) (wrap64 (x9_2 + (Int.tmod (wrap64 ((Int.tmod (wrap64 (Int.tdiv (rd y263 x49_2) 4)) 7) + 7)) 7))) x10_2 x11_2 x12_2 y263 (y263.length : Int) (wrap64 (x49_2 + 1)) t268 t269 t270 t271 t272)) = some r := by rw [if_pos rfl] at H; exact H
                                    clear H
                                    have H := H1
                                    clear H1
                                    by_cases c37 : x11_2 ≥ 0
                                    · rw [if_pos c37] at H
                                      have c37b0 : decide (0 ≤ x11_2) = true := decide_eq_true c37
                                      clear c37
                                      have H' := Aside0.mk H
                                      clear H
                                      have hnb38 := NB275_261.out
                                      have hnc38 := NB261_275.out
                                      have hcz39_0 : wc.cell? ⟨gb275, 0, none⟩ = some (.int .i64 t268) := (blk_cell BK275.out 0).trans rfl
                                      have hcz39_1 : wc.cell? ⟨gb275, 1, none⟩ = some (.int .i64 t269) := (blk_cell BK275.out 1).trans rfl
                                      have hcz39_2 : wc.cell? ⟨gb275, 2, none⟩ = some (.int .i64 t270) := (blk_cell BK275.out 2).trans rfl
                                      have hcz39_3 : wc.cell? ⟨gb275, 3, none⟩ = some (.int .i64 t271) := (blk_cell BK275.out 3).trans rfl
                                      have hcz39_4 : wc.cell? ⟨gb275, 4, none⟩ = some (.int .i64 t272) := (blk_cell BK275.out 4).trans rfl
                                      have hfz39_0 := blk_frozen BK275.out 0
                                      have hfz39_1 := blk_frozen BK275.out 1
                                      have hfz39_2 := blk_frozen BK275.out 2
                                      have hfz39_3 := blk_frozen BK275.out 3
                                      have hfz39_4 := blk_frozen BK275.out 4
                                      have hcz40_0 : wc.cell? ⟨gb261, 0, none⟩ = some (.int .i64 x262000_2) := (blk_cell BK261.out 0).trans rfl
                                      have hcz40_1 : wc.cell? ⟨gb261, 1, none⟩ = some (.int .i64 x262001_2) := (blk_cell BK261.out 1).trans rfl
                                      have hcz40_2 : wc.cell? ⟨gb261, 2, none⟩ = some (.int .i64 x262002_2) := (blk_cell BK261.out 2).trans rfl
                                      have hcz40_3 : wc.cell? ⟨gb261, 3, none⟩ = some (.int .i64 x262003_2) := (blk_cell BK261.out 3).trans rfl
                                      have hcz40_4 : wc.cell? ⟨gb261, 4, none⟩ = some (.int .i64 x262004_2) := (blk_cell BK261.out 4).trans rfl
                                      have hfz40_0 := blk_frozen BK261.out 0
                                      have hfz40_1 := blk_frozen BK261.out 1
                                      have hfz40_2 := blk_frozen BK261.out 2
                                      have hfz40_3 := blk_frozen BK261.out 3
                                      have hfz40_4 := blk_frozen BK261.out 4
                                      go_wp2
                                      go_roundg kj23
                                      case measure => have := HJ4.out; have := HK2.out; have := HJ19.out; have := HJ23.out; omega
                                      case rel => exact ⟨((wrap64 (x9_2 + (Int.tmod (wrap64 ((Int.tmod (wrap64 (Int.tdiv (rd y263 x49_2) 4)) 7) + 7)) 7)))), (x10_2), ((-1)), (true), (wrap64 (x49_2 + 1)), (t268), (t269), (t270), (t271), (t272), (by first | rfl | (simp; done) | (simp [*]; done)), (by first | rfl | (simp; done) | (simp [*]; done)), (by first | rfl | (simp; done) | (simp [*]; done)), (by first | rfl | (simp; done) | (simp [*]; done)), (by first | rfl | (simp; done) | (simp [*]; done)), H', ⟨by have := HJ4.out; have := HK2.out; have := HJ19.out; have := HJ23.out; omega⟩, ⟨by (with_reducible repeat (first | refine blk_drewN ?_ _ | refine blk_drew ?_ | refine blk_alloc ?_ _)); refine blk_put (cs := #[.int .i64 t268, .int .i64 t269, .int .i64 t270, .int .i64 t271, .int .i64 x262004_2]) ?_ 4 _ rfl; (with_reducible repeat (first | refine blk_drewN ?_ _ | refine blk_drew ?_ | refine blk_alloc ?_ _)); refine blk_put (cs := #[.int .i64 t268, .int .i64 t269, .int .i64 t270, .int .i64 x262003_2, .int .i64 x262004_2]) ?_ 3 _ rfl; (with_reducible repeat (first | refine blk_drewN ?_ _ | refine blk_drew ?_ | refine blk_alloc ?_ _)); refine blk_put (cs := #[.int .i64 t268, .int .i64 t269, .int .i64 x262002_2, .int .i64 x262003_2, .int .i64 x262004_2]) ?_ 2 _ rfl; (with_reducible repeat (first | refine blk_drewN ?_ _ | refine blk_drew ?_ | refine blk_alloc ?_ _)); refine blk_put (cs := #[.int .i64 t268, .int .i64 x262001_2, .int .i64 x262002_2, .int .i64 x262003_2, .int .i64 x262004_2]) ?_ 1 _ rfl; (with_reducible repeat (first | refine blk_drewN ?_ _ | refine blk_drew ?_ | refine blk_alloc ?_ _)); refine blk_put (cs := #[.int .i64 x262000_2, .int .i64 x262001_2, .int .i64 x262002_2, .int .i64 x262003_2, .int .i64 x262004_2]) ?_ 0 _ rfl; (with_reducible repeat (first | refine blk_drewN ?_ _ | refine blk_drew ?_ | refine blk_alloc ?_ _)); exact BK261.out⟩, ⟨by repeat (first | (with_reducible first | exact HB.out | apply below_alloc | apply pw_below_drewN | apply below_drew1 | refine below_set ?_ GE261.out | refine below_set ?_ GE275.out) | exact HB.out)⟩⟩
                                    · rw [if_neg c37] at H
                                      have c37b0 : decide (0 ≤ x11_2) = false := decide_eq_false c37
                                      clear c37
                                      have H' := Aside0.mk H
                                      clear H
                                      have hnb41 := NB275_261.out
                                      have hnc41 := NB261_275.out
                                      have hcz42_0 : wc.cell? ⟨gb275, 0, none⟩ = some (.int .i64 t268) := (blk_cell BK275.out 0).trans rfl
                                      have hcz42_1 : wc.cell? ⟨gb275, 1, none⟩ = some (.int .i64 t269) := (blk_cell BK275.out 1).trans rfl
                                      have hcz42_2 : wc.cell? ⟨gb275, 2, none⟩ = some (.int .i64 t270) := (blk_cell BK275.out 2).trans rfl
                                      have hcz42_3 : wc.cell? ⟨gb275, 3, none⟩ = some (.int .i64 t271) := (blk_cell BK275.out 3).trans rfl
                                      have hcz42_4 : wc.cell? ⟨gb275, 4, none⟩ = some (.int .i64 t272) := (blk_cell BK275.out 4).trans rfl
                                      have hfz42_0 := blk_frozen BK275.out 0
                                      have hfz42_1 := blk_frozen BK275.out 1
                                      have hfz42_2 := blk_frozen BK275.out 2
                                      have hfz42_3 := blk_frozen BK275.out 3
                                      have hfz42_4 := blk_frozen BK275.out 4
                                      have hcz43_0 : wc.cell? ⟨gb261, 0, none⟩ = some (.int .i64 x262000_2) := (blk_cell BK261.out 0).trans rfl
                                      have hcz43_1 : wc.cell? ⟨gb261, 1, none⟩ = some (.int .i64 x262001_2) := (blk_cell BK261.out 1).trans rfl
                                      have hcz43_2 : wc.cell? ⟨gb261, 2, none⟩ = some (.int .i64 x262002_2) := (blk_cell BK261.out 2).trans rfl
                                      have hcz43_3 : wc.cell? ⟨gb261, 3, none⟩ = some (.int .i64 x262003_2) := (blk_cell BK261.out 3).trans rfl
                                      have hcz43_4 : wc.cell? ⟨gb261, 4, none⟩ = some (.int .i64 x262004_2) := (blk_cell BK261.out 4).trans rfl
                                      have hfz43_0 := blk_frozen BK261.out 0
                                      have hfz43_1 := blk_frozen BK261.out 1
                                      have hfz43_2 := blk_frozen BK261.out 2
                                      have hfz43_3 := blk_frozen BK261.out 3
                                      have hfz43_4 := blk_frozen BK261.out 4
                                      go_wp2
                                      go_roundg kj23
                                      case measure => have := HJ4.out; have := HK2.out; have := HJ19.out; have := HJ23.out; omega
                                      case rel => exact ⟨((wrap64 (x9_2 + (Int.tmod (wrap64 ((Int.tmod (wrap64 (Int.tdiv (rd y263 x49_2) 4)) 7) + 7)) 7)))), (x10_2), (x11_2), (x12_2), (wrap64 (x49_2 + 1)), (t268), (t269), (t270), (t271), (t272), (by first | rfl | (simp; done) | (simp [*]; done)), (by first | rfl | (simp; done) | (simp [*]; done)), (by first | rfl | (simp; done) | (simp [*]; done)), (by first | rfl | (simp; done) | (simp [*]; done)), (by first | rfl | (simp; done) | (simp [*]; done)), H', ⟨by have := HJ4.out; have := HK2.out; have := HJ19.out; have := HJ23.out; omega⟩, ⟨by (with_reducible repeat (first | refine blk_drewN ?_ _ | refine blk_drew ?_ | refine blk_alloc ?_ _)); refine blk_put (cs := #[.int .i64 t268, .int .i64 t269, .int .i64 t270, .int .i64 t271, .int .i64 x262004_2]) ?_ 4 _ rfl; (with_reducible repeat (first | refine blk_drewN ?_ _ | refine blk_drew ?_ | refine blk_alloc ?_ _)); refine blk_put (cs := #[.int .i64 t268, .int .i64 t269, .int .i64 t270, .int .i64 x262003_2, .int .i64 x262004_2]) ?_ 3 _ rfl; (with_reducible repeat (first | refine blk_drewN ?_ _ | refine blk_drew ?_ | refine blk_alloc ?_ _)); refine blk_put (cs := #[.int .i64 t268, .int .i64 t269, .int .i64 x262002_2, .int .i64 x262003_2, .int .i64 x262004_2]) ?_ 2 _ rfl; (with_reducible repeat (first | refine blk_drewN ?_ _ | refine blk_drew ?_ | refine blk_alloc ?_ _)); refine blk_put (cs := #[.int .i64 t268, .int .i64 x262001_2, .int .i64 x262002_2, .int .i64 x262003_2, .int .i64 x262004_2]) ?_ 1 _ rfl; (with_reducible repeat (first | refine blk_drewN ?_ _ | refine blk_drew ?_ | refine blk_alloc ?_ _)); refine blk_put (cs := #[.int .i64 x262000_2, .int .i64 x262001_2, .int .i64 x262002_2, .int .i64 x262003_2, .int .i64 x262004_2]) ?_ 0 _ rfl; (with_reducible repeat (first | refine blk_drewN ?_ _ | refine blk_drew ?_ | refine blk_alloc ?_ _)); exact BK261.out⟩, ⟨by repeat (first | (with_reducible first | exact HB.out | apply below_alloc | apply pw_below_drewN | apply below_drew1 | refine below_set ?_ GE261.out | refine below_set ?_ GE275.out) | exact HB.out)⟩⟩
                                  · replace c36 := Bool.eq_false_iff.mpr c36
                                    subst c36
                                    have H1 : (foghornlaw07_BreakerWaits.l0 kj23 (wrap64 (1 + (Int.tmod (wrap64 ((Int.tmod a0 9) + 9)) 9))) (wrap64 (1 + (Int.tmod (wrap64 ((Int.tmod a1 30) + 30)) 30))) (wrap64 (x9_2 + (Int.tmod (wrap64 ((Int.tmod (wrap64 (Int.tdiv (rd y263 x49_2) 4)) 7) + 7)) 7))) x10_2 x11_2 x12_2 y263 (y263.length : Int) (wrap64 (x49_2 + 1)) t268 t269 t270 t271 t272) = some r := by rw [if_neg (show ¬ (false = true) by decide)] at H; exact H
                                    clear H
                                    have H := H1
                                    clear H1
                                    have H' := Aside0.mk H
                                    clear H
                                    have hnb44 := NB275_261.out
                                    have hnc44 := NB261_275.out
                                    have hcz45_0 : wc.cell? ⟨gb275, 0, none⟩ = some (.int .i64 t268) := (blk_cell BK275.out 0).trans rfl
                                    have hcz45_1 : wc.cell? ⟨gb275, 1, none⟩ = some (.int .i64 t269) := (blk_cell BK275.out 1).trans rfl
                                    have hcz45_2 : wc.cell? ⟨gb275, 2, none⟩ = some (.int .i64 t270) := (blk_cell BK275.out 2).trans rfl
                                    have hcz45_3 : wc.cell? ⟨gb275, 3, none⟩ = some (.int .i64 t271) := (blk_cell BK275.out 3).trans rfl
                                    have hcz45_4 : wc.cell? ⟨gb275, 4, none⟩ = some (.int .i64 t272) := (blk_cell BK275.out 4).trans rfl
                                    have hfz45_0 := blk_frozen BK275.out 0
                                    have hfz45_1 := blk_frozen BK275.out 1
                                    have hfz45_2 := blk_frozen BK275.out 2
                                    have hfz45_3 := blk_frozen BK275.out 3
                                    have hfz45_4 := blk_frozen BK275.out 4
                                    have hcz46_0 : wc.cell? ⟨gb261, 0, none⟩ = some (.int .i64 x262000_2) := (blk_cell BK261.out 0).trans rfl
                                    have hcz46_1 : wc.cell? ⟨gb261, 1, none⟩ = some (.int .i64 x262001_2) := (blk_cell BK261.out 1).trans rfl
                                    have hcz46_2 : wc.cell? ⟨gb261, 2, none⟩ = some (.int .i64 x262002_2) := (blk_cell BK261.out 2).trans rfl
                                    have hcz46_3 : wc.cell? ⟨gb261, 3, none⟩ = some (.int .i64 x262003_2) := (blk_cell BK261.out 3).trans rfl
                                    have hcz46_4 : wc.cell? ⟨gb261, 4, none⟩ = some (.int .i64 x262004_2) := (blk_cell BK261.out 4).trans rfl
                                    have hfz46_0 := blk_frozen BK261.out 0
                                    have hfz46_1 := blk_frozen BK261.out 1
                                    have hfz46_2 := blk_frozen BK261.out 2
                                    have hfz46_3 := blk_frozen BK261.out 3
                                    have hfz46_4 := blk_frozen BK261.out 4
                                    go_wp2
                                    go_roundg kj23
                                    case measure => have := HJ4.out; have := HK2.out; have := HJ19.out; have := HJ23.out; omega
                                    case rel => exact ⟨((wrap64 (x9_2 + (Int.tmod (wrap64 ((Int.tmod (wrap64 (Int.tdiv (rd y263 x49_2) 4)) 7) + 7)) 7)))), (x10_2), (x11_2), (x12_2), (wrap64 (x49_2 + 1)), (t268), (t269), (t270), (t271), (t272), (by first | rfl | (simp; done) | (simp [*]; done)), (by first | rfl | (simp; done) | (simp [*]; done)), (by first | rfl | (simp; done) | (simp [*]; done)), (by first | rfl | (simp; done) | (simp [*]; done)), (by first | rfl | (simp; done) | (simp [*]; done)), H', ⟨by have := HJ4.out; have := HK2.out; have := HJ19.out; have := HJ23.out; omega⟩, ⟨by (with_reducible repeat (first | refine blk_drewN ?_ _ | refine blk_drew ?_ | refine blk_alloc ?_ _)); refine blk_put (cs := #[.int .i64 t268, .int .i64 t269, .int .i64 t270, .int .i64 t271, .int .i64 x262004_2]) ?_ 4 _ rfl; (with_reducible repeat (first | refine blk_drewN ?_ _ | refine blk_drew ?_ | refine blk_alloc ?_ _)); refine blk_put (cs := #[.int .i64 t268, .int .i64 t269, .int .i64 t270, .int .i64 x262003_2, .int .i64 x262004_2]) ?_ 3 _ rfl; (with_reducible repeat (first | refine blk_drewN ?_ _ | refine blk_drew ?_ | refine blk_alloc ?_ _)); refine blk_put (cs := #[.int .i64 t268, .int .i64 t269, .int .i64 x262002_2, .int .i64 x262003_2, .int .i64 x262004_2]) ?_ 2 _ rfl; (with_reducible repeat (first | refine blk_drewN ?_ _ | refine blk_drew ?_ | refine blk_alloc ?_ _)); refine blk_put (cs := #[.int .i64 t268, .int .i64 x262001_2, .int .i64 x262002_2, .int .i64 x262003_2, .int .i64 x262004_2]) ?_ 1 _ rfl; (with_reducible repeat (first | refine blk_drewN ?_ _ | refine blk_drew ?_ | refine blk_alloc ?_ _)); refine blk_put (cs := #[.int .i64 x262000_2, .int .i64 x262001_2, .int .i64 x262002_2, .int .i64 x262003_2, .int .i64 x262004_2]) ?_ 0 _ rfl; (with_reducible repeat (first | refine blk_drewN ?_ _ | refine blk_drew ?_ | refine blk_alloc ?_ _)); exact BK261.out⟩, ⟨by repeat (first | (with_reducible first | exact HB.out | apply below_alloc | apply pw_below_drewN | apply below_drew1 | refine below_set ?_ GE261.out | refine below_set ?_ GE275.out) | exact HB.out)⟩⟩
                          · replace c22 := Bool.eq_false_iff.mpr c22
                            subst c22
                            have H1 : ((breaker_Told.f kj19 x262000_2 x262001_2 x262002_2 x262003_2 x262004_2 (wrap64 (x9_2 + (Int.tmod (wrap64 ((Int.tmod (wrap64 (Int.tdiv (rd y263 x49_2) 4)) 7) + 7)) 7))) ((Int.tmod (wrap64 ((Int.tmod (rd y263 x49_2) 4) + 4)) 4) == 2)).bind fun bt276 => (if x11_2 ≥ 0 then (if bt276.2.2.2.2.2 = 6 then (foghornlaw07_BreakerWaits.l0 kj19 (wrap64 (1 + (Int.tmod (wrap64 ((Int.tmod a0 9) + 9)) 9))) (wrap64 (1 + (Int.tmod (wrap64 ((Int.tmod a1 30) + 30)) 30))) (wrap64 (x9_2 + (Int.tmod (wrap64 ((Int.tmod (wrap64 (Int.tdiv (rd y263 x49_2) 4)) 7) + 7)) 7))) x10_2 x11_2 x12_2 y263 (y263.length : Int) (wrap64 (x49_2 + 1)) x262000_2 x262001_2 x262002_2 x262003_2 x262004_2) else (some false)) else (if bt276.2.2.2.2.2 = 0 then (if (Int.tmod (wrap64 ((Int.tmod (rd y263 x49_2) 4) + 4)) 4) = 2 then (foghornlaw07_BreakerWaits.l0 kj19 (wrap64 (1 + (Int.tmod (wrap64 ((Int.tmod a0 9) + 9)) 9))) (wrap64 (1 + (Int.tmod (wrap64 ((Int.tmod a1 30) + 30)) 30))) (wrap64 (x9_2 + (Int.tmod (wrap64 ((Int.tmod (wrap64 (Int.tdiv (rd y263 x49_2) 4)) 7) + 7)) 7))) 0 x11_2 false y263 (y263.length : Int) (wrap64 (x49_2 + 1)) bt276.1 bt276.2.1 bt276.2.2.1 bt276.2.2.2.1 bt276.2.2.2.2.1) else (if x12_2 = true then (foghornlaw07_BreakerWaits.l0 kj19 (wrap64 (1 + (Int.tmod (wrap64 ((Int.tmod a0 9) + 9)) 9))) (wrap64 (1 + (Int.tmod (wrap64 ((Int.tmod a1 30) + 30)) 30))) (wrap64 (x9_2 + (Int.tmod (wrap64 ((Int.tmod (wrap64 (Int.tdiv (rd y263 x49_2) 4)) 7) + 7)) 7))) 0 (wrap64 ((wrap64 (x9_2 + (Int.tmod (wrap64 ((Int.tmod (wrap64 (Int.tdiv (rd y263 x49_2) 4)) 7) + 7)) 7))) + (wrap64 (1 + (Int.tmod (wrap64 ((Int.tmod a1 30) + 30)) 30))))) false y263 (y263.length : Int) (wrap64 (x49_2 + 1)) bt276.1 bt276.2.1 bt276.2.2.1 bt276.2.2.2.1 bt276.2.2.2.2.1) else (if (wrap64 (x10_2 + 1)) = (wrap64 (1 + (Int.tmod (wrap64 ((Int.tmod a0 9) + 9)) 9))) then (foghornlaw07_BreakerWaits.l0 kj19 (wrap64 (1 + (Int.tmod (wrap64 ((Int.tmod a0 9) + 9)) 9))) (wrap64 (1 + (Int.tmod (wrap64 ((Int.tmod a1 30) + 30)) 30))) (wrap64 (x9_2 + (Int.tmod (wrap64 ((Int.tmod (wrap64 (Int.tdiv (rd y263 x49_2) 4)) 7) + 7)) 7))) 0 (wrap64 ((wrap64 (x9_2 + (Int.tmod (wrap64 ((Int.tmod (wrap64 (Int.tdiv (rd y263 x49_2) 4)) 7) + 7)) 7))) + (wrap64 (1 + (Int.tmod (wrap64 ((Int.tmod a1 30) + 30)) 30))))) false y263 (y263.length : Int) (wrap64 (x49_2 + 1)) bt276.1 bt276.2.1 bt276.2.2.1 bt276.2.2.2.1 bt276.2.2.2.2.1) else (foghornlaw07_BreakerWaits.l0 kj19 (wrap64 (1 + (Int.tmod (wrap64 ((Int.tmod a0 9) + 9)) 9))) (wrap64 (1 + (Int.tmod (wrap64 ((Int.tmod a1 30) + 30)) 30))) (wrap64 (x9_2 + (Int.tmod (wrap64 ((Int.tmod (wrap64 (Int.tdiv (rd y263 x49_2) 4)) 7) + 7)) 7))) (wrap64 (x10_2 + 1)) x11_2 x12_2 y263 (y263.length : Int) (wrap64 (x49_2 + 1)) bt276.1 bt276.2.1 bt276.2.2.1 bt276.2.2.2.1 bt276.2.2.2.2.1)))) else (some false)))) = some r := by rw [if_neg (show ¬ (false = true) by decide)] at H; exact H
                            clear H
                            have H := H1
                            clear H1
                            replace H := Option.bind_eq_some_iff.mp H
                            obtain ⟨⟨t276, t277, t278, t279, t280, t281⟩, A470, H⟩ := H
                            replace H : (if x11_2 ≥ 0 then (if t281 = 6 then (foghornlaw07_BreakerWaits.l0 kj19 (wrap64 (1 + (Int.tmod (wrap64 ((Int.tmod a0 9) + 9)) 9))) (wrap64 (1 + (Int.tmod (wrap64 ((Int.tmod a1 30) + 30)) 30))) (wrap64 (x9_2 + (Int.tmod (wrap64 ((Int.tmod (wrap64 (Int.tdiv (rd y263 x49_2) 4)) 7) + 7)) 7))) x10_2 x11_2 x12_2 y263 (y263.length : Int) (wrap64 (x49_2 + 1)) x262000_2 x262001_2 x262002_2 x262003_2 x262004_2) else (some false)) else (if t281 = 0 then (if (Int.tmod (wrap64 ((Int.tmod (rd y263 x49_2) 4) + 4)) 4) = 2 then (foghornlaw07_BreakerWaits.l0 kj19 (wrap64 (1 + (Int.tmod (wrap64 ((Int.tmod a0 9) + 9)) 9))) (wrap64 (1 + (Int.tmod (wrap64 ((Int.tmod a1 30) + 30)) 30))) (wrap64 (x9_2 + (Int.tmod (wrap64 ((Int.tmod (wrap64 (Int.tdiv (rd y263 x49_2) 4)) 7) + 7)) 7))) 0 x11_2 false y263 (y263.length : Int) (wrap64 (x49_2 + 1)) t276 t277 t278 t279 t280) else (if x12_2 = true then (foghornlaw07_BreakerWaits.l0 kj19 (wrap64 (1 + (Int.tmod (wrap64 ((Int.tmod a0 9) + 9)) 9))) (wrap64 (1 + (Int.tmod (wrap64 ((Int.tmod a1 30) + 30)) 30))) (wrap64 (x9_2 + (Int.tmod (wrap64 ((Int.tmod (wrap64 (Int.tdiv (rd y263 x49_2) 4)) 7) + 7)) 7))) 0 (wrap64 ((wrap64 (x9_2 + (Int.tmod (wrap64 ((Int.tmod (wrap64 (Int.tdiv (rd y263 x49_2) 4)) 7) + 7)) 7))) + (wrap64 (1 + (Int.tmod (wrap64 ((Int.tmod a1 30) + 30)) 30))))) false y263 (y263.length : Int) (wrap64 (x49_2 + 1)) t276 t277 t278 t279 t280) else (if (wrap64 (x10_2 + 1)) = (wrap64 (1 + (Int.tmod (wrap64 ((Int.tmod a0 9) + 9)) 9))) then (foghornlaw07_BreakerWaits.l0 kj19 (wrap64 (1 + (Int.tmod (wrap64 ((Int.tmod a0 9) + 9)) 9))) (wrap64 (1 + (Int.tmod (wrap64 ((Int.tmod a1 30) + 30)) 30))) (wrap64 (x9_2 + (Int.tmod (wrap64 ((Int.tmod (wrap64 (Int.tdiv (rd y263 x49_2) 4)) 7) + 7)) 7))) 0 (wrap64 ((wrap64 (x9_2 + (Int.tmod (wrap64 ((Int.tmod (wrap64 (Int.tdiv (rd y263 x49_2) 4)) 7) + 7)) 7))) + (wrap64 (1 + (Int.tmod (wrap64 ((Int.tmod a1 30) + 30)) 30))))) false y263 (y263.length : Int) (wrap64 (x49_2 + 1)) t276 t277 t278 t279 t280) else (foghornlaw07_BreakerWaits.l0 kj19 (wrap64 (1 + (Int.tmod (wrap64 ((Int.tmod a0 9) + 9)) 9))) (wrap64 (1 + (Int.tmod (wrap64 ((Int.tmod a1 30) + 30)) 30))) (wrap64 (x9_2 + (Int.tmod (wrap64 ((Int.tmod (wrap64 (Int.tdiv (rd y263 x49_2) 4)) 7) + 7)) 7))) (wrap64 (x10_2 + 1)) x11_2 x12_2 y263 (y263.length : Int) (wrap64 (x49_2 + 1)) t276 t277 t278 t279 t280)))) else (some false))) = some r := H
                            have A47 := Aside0.mk A470
                            clear A470
                            by_cases c48 : x11_2 ≥ 0
                            · rw [if_pos c48] at H
                              have c48b0 : decide (0 ≤ x11_2) = true := decide_eq_true c48
                              clear c48
                              by_cases c49 : t281 = 6
                              · rw [if_pos c49] at H
                                have c49b0 : (t281 == 6) = true := beq_iff_eq.mpr c49
                                have c49b1 : (t281 != 6) = false := bne_eq_false_iff_eq.mpr c49
                                clear c49
                                have H' := Aside0.mk H
                                clear H
                                have hcz50_0 : wc.cell? ⟨gb261, 0, none⟩ = some (.int .i64 x262000_2) := (blk_cell BK261.out 0).trans rfl
                                have hcz50_1 : wc.cell? ⟨gb261, 1, none⟩ = some (.int .i64 x262001_2) := (blk_cell BK261.out 1).trans rfl
                                have hcz50_2 : wc.cell? ⟨gb261, 2, none⟩ = some (.int .i64 x262002_2) := (blk_cell BK261.out 2).trans rfl
                                have hcz50_3 : wc.cell? ⟨gb261, 3, none⟩ = some (.int .i64 x262003_2) := (blk_cell BK261.out 3).trans rfl
                                have hcz50_4 : wc.cell? ⟨gb261, 4, none⟩ = some (.int .i64 x262004_2) := (blk_cell BK261.out 4).trans rfl
                                have hfz50_0 := blk_frozen BK261.out 0
                                have hfz50_1 := blk_frozen BK261.out 1
                                have hfz50_2 := blk_frozen BK261.out 2
                                have hfz50_3 := blk_frozen BK261.out 3
                                have hfz50_4 := blk_frozen BK261.out 4
                                go_wp2_with (first | ((with_reducible refine gate_callee (f := 52) rfl ?_); refine goesL_ (some 73) rfl rfl Try.func52 (by kernel_rfl) rfl #[.agg #[.int .i64 x262000_2, .int .i64 x262001_2, .int .i64 x262002_2, .int .i64 x262003_2, .int .i64 x262004_2], .int .i64 (wrap64 (x9_2 + (Int.tmod (wrap64 ((Int.tmod (wrap64 (Int.tdiv (rd y263 x49_2) 4)) 7) + 7)) 7))), .bool ((Int.tmod (wrap64 ((Int.tmod (rd y263 x49_2) 4) + 4)) 4) == 2)] rfl (by (try simp only [List.map_toArray, List.map_cons, List.map_nil]); first | done | rfl | (simp only [List.length_drop, List.length_take]; rfl) | (simp only [*]; rfl)) ?_; (with_reducible refine (breaker_Told.calls kj19 x262000_2 x262001_2 x262002_2 x262003_2 x262004_2 (wrap64 (x9_2 + (Int.tmod (wrap64 ((Int.tmod (wrap64 (Int.tdiv (rd y263 x49_2) 4)) 7) + 7)) 7))) ((Int.tmod (wrap64 ((Int.tmod (rd y263 x49_2) 4) + 4)) 4) == 2) t276 t277 t278 t279 t280 t281 _ A47.out).mono ?_); rintro e w51 ⟨rfl, hb⟩; refine ⟨_, rfl, ?_⟩; have n0_ := Aside0.mk (blk_below (g := gb261) (o := .cells #[.int .i64 x262000_2, .int .i64 x262001_2, .int .i64 x262002_2, .int .i64 x262003_2, .int .i64 x262004_2] 69 (0, 0)) (by (with_reducible repeat (first | refine blk_drewN ?_ _ | refine blk_drew ?_ | refine blk_alloc ?_ _)); exact BK261.out) hb); have n1_ := Aside0.mk (below_step (by repeat (first | (with_reducible first | exact HB.out | apply below_alloc | apply pw_below_drewN | apply below_drew1 | refine below_set ?_ GE261.out) | exact HB.out)) hb); clear BK261; clear HB; have BK261 := n0_; have HB := n1_; clear n0_ n1_; (try clear hb); (try clear hb2); (try clear hk); (try clear hi)) | ((with_reducible refine gate_dst (N := 19) rfl ?_); refine box_event ?hg (N := 19) ?hd (cs := #[.int .i64 0, .int .i64 0, .int .i64 0, .int .i64 0, .int .i64 0]) (t := 69) ?hr ?_; (case hd => rfl); (case hg => rfl); (case hr => first | (go_simp; done) | (go_simp; rfl)); intro gb282 hg w52 hbox hb; have n0_ := Aside0.mk (blk_below (g := gb261) (o := .cells #[.int .i64 x262000_2, .int .i64 x262001_2, .int .i64 x262002_2, .int .i64 x262003_2, .int .i64 x262004_2] 69 (0, 0)) (by (with_reducible repeat (first | refine blk_drewN ?_ _ | refine blk_drew ?_ | refine blk_alloc ?_ _)); exact BK261.out) hb); have n1_ := Aside0.mk (below_step (by repeat (first | (with_reducible first | exact HB.out | apply below_alloc | apply pw_below_drewN | apply below_drew1 | refine below_set ?_ GE261.out) | exact HB.out)) hb); have n2_ := Aside0.mk (hbox); have n3_ := Aside0.mk ((by rw [hg]; exact (below_size (by repeat (first | (with_reducible first | exact HB.out | apply below_alloc | apply pw_below_drewN | apply below_drew1 | refine below_set ?_ GE261.out) | exact HB.out))) : w.heap.size ≤ gb282)); have n4_ := Aside0.mk ((by rw [hg]; exact (below_size (by repeat (first | (with_reducible first | exact HB.out | apply below_alloc | apply pw_below_drewN | apply below_drew1 | refine below_set ?_ GE261.out) | exact HB.out))) : w.heap.size ≤ gb282)); have n5_ := Aside0.mk ((by rw [hg]; exact Nat.ne_of_lt (blk_lt (g := gb261) (o := .cells #[.int .i64 x262000_2, .int .i64 x262001_2, .int .i64 x262002_2, .int .i64 x262003_2, .int .i64 x262004_2] 69 (0, 0)) (by (with_reducible repeat (first | refine blk_drewN ?_ _ | refine blk_drew ?_ | refine blk_alloc ?_ _)); exact BK261.out)) : gb261 ≠ gb282)); have n6_ := Aside0.mk ((by rw [hg]; exact Nat.ne_of_gt (blk_lt (g := gb261) (o := .cells #[.int .i64 x262000_2, .int .i64 x262001_2, .int .i64 x262002_2, .int .i64 x262003_2, .int .i64 x262004_2] 69 (0, 0)) (by (with_reducible repeat (first | refine blk_drewN ?_ _ | refine blk_drew ?_ | refine blk_alloc ?_ _)); exact BK261.out)) : gb282 ≠ gb261)); clear BK261; clear HB; have BK261 := n0_; have HB := n1_; have BK282 := n2_; have GW282 := n3_; have GE282 := n4_; have NB261_282 := n5_; have NB282_261 := n6_; clear n0_ n1_ n2_ n3_ n4_ n5_ n6_; clear hb hbox hg; have hnb53 := NB282_261.out; have hnc53 := NB261_282.out; have hcz54_0 : w52.cell? ⟨gb282, 0, none⟩ = some (.int .i64 0) := (blk_cell BK282.out 0).trans rfl; have hcz54_1 : w52.cell? ⟨gb282, 1, none⟩ = some (.int .i64 0) := (blk_cell BK282.out 1).trans rfl; have hcz54_2 : w52.cell? ⟨gb282, 2, none⟩ = some (.int .i64 0) := (blk_cell BK282.out 2).trans rfl; have hcz54_3 : w52.cell? ⟨gb282, 3, none⟩ = some (.int .i64 0) := (blk_cell BK282.out 3).trans rfl; have hcz54_4 : w52.cell? ⟨gb282, 4, none⟩ = some (.int .i64 0) := (blk_cell BK282.out 4).trans rfl; have hfz54_0 := blk_frozen BK282.out 0; have hfz54_1 := blk_frozen BK282.out 1; have hfz54_2 := blk_frozen BK282.out 2; have hfz54_3 := blk_frozen BK282.out 3; have hfz54_4 := blk_frozen BK282.out 4))
                                go_roundg kj19
                                case measure => have := HJ4.out; have := HK2.out; have := HJ19.out; omega
                                case rel => exact ⟨((wrap64 (x9_2 + (Int.tmod (wrap64 ((Int.tmod (wrap64 (Int.tdiv (rd y263 x49_2) 4)) 7) + 7)) 7)))), (x10_2), (x11_2), (x12_2), (wrap64 (x49_2 + 1)), (x262000_2), (x262001_2), (x262002_2), (x262003_2), (x262004_2), (by first | rfl | (simp; done) | (simp [*]; done)), (by first | rfl | (simp; done) | (simp [*]; done)), (by first | rfl | (simp; done) | (simp [*]; done)), (by first | rfl | (simp; done) | (simp [*]; done)), (by first | rfl | (simp; done) | (simp [*]; done)), H', ⟨by have := HJ4.out; have := HK2.out; have := HJ19.out; omega⟩, ⟨by (with_reducible repeat (first | refine blk_drewN ?_ _ | refine blk_drew ?_ | refine blk_alloc ?_ _)); refine blk_far ?_ NB261_282.out _; (with_reducible repeat (first | refine blk_drewN ?_ _ | refine blk_drew ?_ | refine blk_alloc ?_ _)); refine blk_far ?_ NB261_282.out _; (with_reducible repeat (first | refine blk_drewN ?_ _ | refine blk_drew ?_ | refine blk_alloc ?_ _)); refine blk_far ?_ NB261_282.out _; (with_reducible repeat (first | refine blk_drewN ?_ _ | refine blk_drew ?_ | refine blk_alloc ?_ _)); refine blk_far ?_ NB261_282.out _; (with_reducible repeat (first | refine blk_drewN ?_ _ | refine blk_drew ?_ | refine blk_alloc ?_ _)); refine blk_far ?_ NB261_282.out _; (with_reducible repeat (first | refine blk_drewN ?_ _ | refine blk_drew ?_ | refine blk_alloc ?_ _)); exact BK261.out⟩, ⟨by repeat (first | (with_reducible first | exact HB.out | apply below_alloc | apply pw_below_drewN | apply below_drew1 | refine below_set ?_ GE261.out | refine below_set ?_ GE282.out) | exact HB.out)⟩⟩
                              · rw [if_neg c49] at H
                                have c49b0 : (t281 == 6) = false := beq_eq_false_iff_ne.mpr c49
                                have c49b1 : (t281 != 6) = true := bne_iff_ne.mpr c49
                                obtain rfl := Option.some.inj H
                                have hcz55_0 : wc.cell? ⟨gb261, 0, none⟩ = some (.int .i64 x262000_2) := (blk_cell BK261.out 0).trans rfl
                                have hcz55_1 : wc.cell? ⟨gb261, 1, none⟩ = some (.int .i64 x262001_2) := (blk_cell BK261.out 1).trans rfl
                                have hcz55_2 : wc.cell? ⟨gb261, 2, none⟩ = some (.int .i64 x262002_2) := (blk_cell BK261.out 2).trans rfl
                                have hcz55_3 : wc.cell? ⟨gb261, 3, none⟩ = some (.int .i64 x262003_2) := (blk_cell BK261.out 3).trans rfl
                                have hcz55_4 : wc.cell? ⟨gb261, 4, none⟩ = some (.int .i64 x262004_2) := (blk_cell BK261.out 4).trans rfl
                                have hfz55_0 := blk_frozen BK261.out 0
                                have hfz55_1 := blk_frozen BK261.out 1
                                have hfz55_2 := blk_frozen BK261.out 2
                                have hfz55_3 := blk_frozen BK261.out 3
                                have hfz55_4 := blk_frozen BK261.out 4
                                go_wp2_with (first | ((with_reducible refine gate_callee (f := 52) rfl ?_); refine goesL_ (some 73) rfl rfl Try.func52 (by kernel_rfl) rfl #[.agg #[.int .i64 x262000_2, .int .i64 x262001_2, .int .i64 x262002_2, .int .i64 x262003_2, .int .i64 x262004_2], .int .i64 (wrap64 (x9_2 + (Int.tmod (wrap64 ((Int.tmod (wrap64 (Int.tdiv (rd y263 x49_2) 4)) 7) + 7)) 7))), .bool ((Int.tmod (wrap64 ((Int.tmod (rd y263 x49_2) 4) + 4)) 4) == 2)] rfl (by (try simp only [List.map_toArray, List.map_cons, List.map_nil]); first | done | rfl | (simp only [List.length_drop, List.length_take]; rfl) | (simp only [*]; rfl)) ?_; (with_reducible refine (breaker_Told.calls kj19 x262000_2 x262001_2 x262002_2 x262003_2 x262004_2 (wrap64 (x9_2 + (Int.tmod (wrap64 ((Int.tmod (wrap64 (Int.tdiv (rd y263 x49_2) 4)) 7) + 7)) 7))) ((Int.tmod (wrap64 ((Int.tmod (rd y263 x49_2) 4) + 4)) 4) == 2) t276 t277 t278 t279 t280 t281 _ A47.out).mono ?_); rintro e w56 ⟨rfl, hb⟩; refine ⟨_, rfl, ?_⟩; have n0_ := Aside0.mk (blk_below (g := gb261) (o := .cells #[.int .i64 x262000_2, .int .i64 x262001_2, .int .i64 x262002_2, .int .i64 x262003_2, .int .i64 x262004_2] 69 (0, 0)) (by (with_reducible repeat (first | refine blk_drewN ?_ _ | refine blk_drew ?_ | refine blk_alloc ?_ _)); exact BK261.out) hb); have n1_ := Aside0.mk (below_step (by repeat (first | (with_reducible first | exact HB.out | apply below_alloc | apply pw_below_drewN | apply below_drew1 | refine below_set ?_ GE261.out) | exact HB.out)) hb); clear BK261; clear HB; have BK261 := n0_; have HB := n1_; clear n0_ n1_; (try clear hb); (try clear hb2); (try clear hk); (try clear hi)) | ((with_reducible refine gate_dst (N := 19) rfl ?_); refine box_event ?hg (N := 19) ?hd (cs := #[.int .i64 0, .int .i64 0, .int .i64 0, .int .i64 0, .int .i64 0]) (t := 69) ?hr ?_; (case hd => rfl); (case hg => rfl); (case hr => first | (go_simp; done) | (go_simp; rfl)); intro gb282 hg w57 hbox hb; have n0_ := Aside0.mk (blk_below (g := gb261) (o := .cells #[.int .i64 x262000_2, .int .i64 x262001_2, .int .i64 x262002_2, .int .i64 x262003_2, .int .i64 x262004_2] 69 (0, 0)) (by (with_reducible repeat (first | refine blk_drewN ?_ _ | refine blk_drew ?_ | refine blk_alloc ?_ _)); exact BK261.out) hb); have n1_ := Aside0.mk (below_step (by repeat (first | (with_reducible first | exact HB.out | apply below_alloc | apply pw_below_drewN | apply below_drew1 | refine below_set ?_ GE261.out) | exact HB.out)) hb); have n2_ := Aside0.mk (hbox); have n3_ := Aside0.mk ((by rw [hg]; exact (below_size (by repeat (first | (with_reducible first | exact HB.out | apply below_alloc | apply pw_below_drewN | apply below_drew1 | refine below_set ?_ GE261.out) | exact HB.out))) : w.heap.size ≤ gb282)); have n4_ := Aside0.mk ((by rw [hg]; exact (below_size (by repeat (first | (with_reducible first | exact HB.out | apply below_alloc | apply pw_below_drewN | apply below_drew1 | refine below_set ?_ GE261.out) | exact HB.out))) : w.heap.size ≤ gb282)); have n5_ := Aside0.mk ((by rw [hg]; exact Nat.ne_of_lt (blk_lt (g := gb261) (o := .cells #[.int .i64 x262000_2, .int .i64 x262001_2, .int .i64 x262002_2, .int .i64 x262003_2, .int .i64 x262004_2] 69 (0, 0)) (by (with_reducible repeat (first | refine blk_drewN ?_ _ | refine blk_drew ?_ | refine blk_alloc ?_ _)); exact BK261.out)) : gb261 ≠ gb282)); have n6_ := Aside0.mk ((by rw [hg]; exact Nat.ne_of_gt (blk_lt (g := gb261) (o := .cells #[.int .i64 x262000_2, .int .i64 x262001_2, .int .i64 x262002_2, .int .i64 x262003_2, .int .i64 x262004_2] 69 (0, 0)) (by (with_reducible repeat (first | refine blk_drewN ?_ _ | refine blk_drew ?_ | refine blk_alloc ?_ _)); exact BK261.out)) : gb282 ≠ gb261)); clear BK261; clear HB; have BK261 := n0_; have HB := n1_; have BK282 := n2_; have GW282 := n3_; have GE282 := n4_; have NB261_282 := n5_; have NB282_261 := n6_; clear n0_ n1_ n2_ n3_ n4_ n5_ n6_; clear hb hbox hg; have hnb58 := NB282_261.out; have hnc58 := NB261_282.out; have hcz59_0 : w57.cell? ⟨gb282, 0, none⟩ = some (.int .i64 0) := (blk_cell BK282.out 0).trans rfl; have hcz59_1 : w57.cell? ⟨gb282, 1, none⟩ = some (.int .i64 0) := (blk_cell BK282.out 1).trans rfl; have hcz59_2 : w57.cell? ⟨gb282, 2, none⟩ = some (.int .i64 0) := (blk_cell BK282.out 2).trans rfl; have hcz59_3 : w57.cell? ⟨gb282, 3, none⟩ = some (.int .i64 0) := (blk_cell BK282.out 3).trans rfl; have hcz59_4 : w57.cell? ⟨gb282, 4, none⟩ = some (.int .i64 0) := (blk_cell BK282.out 4).trans rfl; have hfz59_0 := blk_frozen BK282.out 0; have hfz59_1 := blk_frozen BK282.out 1; have hfz59_2 := blk_frozen BK282.out 2; have hfz59_3 := blk_frozen BK282.out 3; have hfz59_4 := blk_frozen BK282.out 4))
                                go_ret
                                exact ⟨by first | rfl | (simp [errW_none, errW_some] <;> rfl) | (simp only [← hji13]; first | rfl | (simp [errW_none, errW_some] <;> rfl)) | (simp [*, errW_none, errW_some] <;> rfl), by repeat (first | (with_reducible first | exact HB.out | apply below_alloc | apply pw_below_drewN | apply below_drew1 | refine below_set ?_ GE261.out | refine below_set ?_ GE282.out) | exact HB.out)⟩
                            · rw [if_neg c48] at H
                              have c48b0 : decide (0 ≤ x11_2) = false := decide_eq_false c48
                              clear c48
                              by_cases c60 : t281 = 0
                              · rw [if_pos c60] at H
                                have c60b0 : (t281 == 0) = true := beq_iff_eq.mpr c60
                                have c60b1 : (t281 != 0) = false := bne_eq_false_iff_eq.mpr c60
                                clear c60
                                by_cases c61 : (Int.tmod (wrap64 ((Int.tmod (rd y263 x49_2) 4) + 4)) 4) = 2
                                · rw [if_pos c61] at H
                                  have c61b0 : ((Int.tmod (wrap64 ((Int.tmod (rd y263 x49_2) 4) + 4)) 4) == 2) = true := beq_iff_eq.mpr c61
                                  have c61b1 : ((Int.tmod (wrap64 ((Int.tmod (rd y263 x49_2) 4) + 4)) 4) != 2) = false := bne_eq_false_iff_eq.mpr c61
                                  clear c61
                                  have H' := Aside0.mk H
                                  clear H
                                  have hcz62_0 : wc.cell? ⟨gb261, 0, none⟩ = some (.int .i64 x262000_2) := (blk_cell BK261.out 0).trans rfl
                                  have hcz62_1 : wc.cell? ⟨gb261, 1, none⟩ = some (.int .i64 x262001_2) := (blk_cell BK261.out 1).trans rfl
                                  have hcz62_2 : wc.cell? ⟨gb261, 2, none⟩ = some (.int .i64 x262002_2) := (blk_cell BK261.out 2).trans rfl
                                  have hcz62_3 : wc.cell? ⟨gb261, 3, none⟩ = some (.int .i64 x262003_2) := (blk_cell BK261.out 3).trans rfl
                                  have hcz62_4 : wc.cell? ⟨gb261, 4, none⟩ = some (.int .i64 x262004_2) := (blk_cell BK261.out 4).trans rfl
                                  have hfz62_0 := blk_frozen BK261.out 0
                                  have hfz62_1 := blk_frozen BK261.out 1
                                  have hfz62_2 := blk_frozen BK261.out 2
                                  have hfz62_3 := blk_frozen BK261.out 3
                                  have hfz62_4 := blk_frozen BK261.out 4
                                  go_wp2_with (first | ((with_reducible refine gate_callee (f := 52) rfl ?_); refine goesL_ (some 73) rfl rfl Try.func52 (by kernel_rfl) rfl #[.agg #[.int .i64 x262000_2, .int .i64 x262001_2, .int .i64 x262002_2, .int .i64 x262003_2, .int .i64 x262004_2], .int .i64 (wrap64 (x9_2 + (Int.tmod (wrap64 ((Int.tmod (wrap64 (Int.tdiv (rd y263 x49_2) 4)) 7) + 7)) 7))), .bool ((Int.tmod (wrap64 ((Int.tmod (rd y263 x49_2) 4) + 4)) 4) == 2)] rfl (by (try simp only [List.map_toArray, List.map_cons, List.map_nil]); first | done | rfl | (simp only [List.length_drop, List.length_take]; rfl) | (simp only [*]; rfl)) ?_; (with_reducible refine (breaker_Told.calls kj19 x262000_2 x262001_2 x262002_2 x262003_2 x262004_2 (wrap64 (x9_2 + (Int.tmod (wrap64 ((Int.tmod (wrap64 (Int.tdiv (rd y263 x49_2) 4)) 7) + 7)) 7))) ((Int.tmod (wrap64 ((Int.tmod (rd y263 x49_2) 4) + 4)) 4) == 2) t276 t277 t278 t279 t280 t281 _ A47.out).mono ?_); rintro e w63 ⟨rfl, hb⟩; refine ⟨_, rfl, ?_⟩; have n0_ := Aside0.mk (blk_below (g := gb261) (o := .cells #[.int .i64 x262000_2, .int .i64 x262001_2, .int .i64 x262002_2, .int .i64 x262003_2, .int .i64 x262004_2] 69 (0, 0)) (by (with_reducible repeat (first | refine blk_drewN ?_ _ | refine blk_drew ?_ | refine blk_alloc ?_ _)); exact BK261.out) hb); have n1_ := Aside0.mk (below_step (by repeat (first | (with_reducible first | exact HB.out | apply below_alloc | apply pw_below_drewN | apply below_drew1 | refine below_set ?_ GE261.out) | exact HB.out)) hb); clear BK261; clear HB; have BK261 := n0_; have HB := n1_; clear n0_ n1_; (try clear hb); (try clear hb2); (try clear hk); (try clear hi)) | ((with_reducible refine gate_dst (N := 19) rfl ?_); refine box_event ?hg (N := 19) ?hd (cs := #[.int .i64 0, .int .i64 0, .int .i64 0, .int .i64 0, .int .i64 0]) (t := 69) ?hr ?_; (case hd => rfl); (case hg => rfl); (case hr => first | (go_simp; done) | (go_simp; rfl)); intro gb282 hg w64 hbox hb; have n0_ := Aside0.mk (blk_below (g := gb261) (o := .cells #[.int .i64 x262000_2, .int .i64 x262001_2, .int .i64 x262002_2, .int .i64 x262003_2, .int .i64 x262004_2] 69 (0, 0)) (by (with_reducible repeat (first | refine blk_drewN ?_ _ | refine blk_drew ?_ | refine blk_alloc ?_ _)); exact BK261.out) hb); have n1_ := Aside0.mk (below_step (by repeat (first | (with_reducible first | exact HB.out | apply below_alloc | apply pw_below_drewN | apply below_drew1 | refine below_set ?_ GE261.out) | exact HB.out)) hb); have n2_ := Aside0.mk (hbox); have n3_ := Aside0.mk ((by rw [hg]; exact (below_size (by repeat (first | (with_reducible first | exact HB.out | apply below_alloc | apply pw_below_drewN | apply below_drew1 | refine below_set ?_ GE261.out) | exact HB.out))) : w.heap.size ≤ gb282)); have n4_ := Aside0.mk ((by rw [hg]; exact (below_size (by repeat (first | (with_reducible first | exact HB.out | apply below_alloc | apply pw_below_drewN | apply below_drew1 | refine below_set ?_ GE261.out) | exact HB.out))) : w.heap.size ≤ gb282)); have n5_ := Aside0.mk ((by rw [hg]; exact Nat.ne_of_lt (blk_lt (g := gb261) (o := .cells #[.int .i64 x262000_2, .int .i64 x262001_2, .int .i64 x262002_2, .int .i64 x262003_2, .int .i64 x262004_2] 69 (0, 0)) (by (with_reducible repeat (first | refine blk_drewN ?_ _ | refine blk_drew ?_ | refine blk_alloc ?_ _)); exact BK261.out)) : gb261 ≠ gb282)); have n6_ := Aside0.mk ((by rw [hg]; exact Nat.ne_of_gt (blk_lt (g := gb261) (o := .cells #[.int .i64 x262000_2, .int .i64 x262001_2, .int .i64 x262002_2, .int .i64 x262003_2, .int .i64 x262004_2] 69 (0, 0)) (by (with_reducible repeat (first | refine blk_drewN ?_ _ | refine blk_drew ?_ | refine blk_alloc ?_ _)); exact BK261.out)) : gb282 ≠ gb261)); clear BK261; clear HB; have BK261 := n0_; have HB := n1_; have BK282 := n2_; have GW282 := n3_; have GE282 := n4_; have NB261_282 := n5_; have NB282_261 := n6_; clear n0_ n1_ n2_ n3_ n4_ n5_ n6_; clear hb hbox hg; have hnb65 := NB282_261.out; have hnc65 := NB261_282.out; have hcz66_0 : w64.cell? ⟨gb282, 0, none⟩ = some (.int .i64 0) := (blk_cell BK282.out 0).trans rfl; have hcz66_1 : w64.cell? ⟨gb282, 1, none⟩ = some (.int .i64 0) := (blk_cell BK282.out 1).trans rfl; have hcz66_2 : w64.cell? ⟨gb282, 2, none⟩ = some (.int .i64 0) := (blk_cell BK282.out 2).trans rfl; have hcz66_3 : w64.cell? ⟨gb282, 3, none⟩ = some (.int .i64 0) := (blk_cell BK282.out 3).trans rfl; have hcz66_4 : w64.cell? ⟨gb282, 4, none⟩ = some (.int .i64 0) := (blk_cell BK282.out 4).trans rfl; have hfz66_0 := blk_frozen BK282.out 0; have hfz66_1 := blk_frozen BK282.out 1; have hfz66_2 := blk_frozen BK282.out 2; have hfz66_3 := blk_frozen BK282.out 3; have hfz66_4 := blk_frozen BK282.out 4; have hcz67_0 : w64.cell? ⟨gb261, 0, none⟩ = some (.int .i64 x262000_2) := (blk_cell BK261.out 0).trans rfl; have hcz67_1 : w64.cell? ⟨gb261, 1, none⟩ = some (.int .i64 x262001_2) := (blk_cell BK261.out 1).trans rfl; have hcz67_2 : w64.cell? ⟨gb261, 2, none⟩ = some (.int .i64 x262002_2) := (blk_cell BK261.out 2).trans rfl; have hcz67_3 : w64.cell? ⟨gb261, 3, none⟩ = some (.int .i64 x262003_2) := (blk_cell BK261.out 3).trans rfl; have hcz67_4 : w64.cell? ⟨gb261, 4, none⟩ = some (.int .i64 x262004_2) := (blk_cell BK261.out 4).trans rfl; have hfz67_0 := blk_frozen BK261.out 0; have hfz67_1 := blk_frozen BK261.out 1; have hfz67_2 := blk_frozen BK261.out 2; have hfz67_3 := blk_frozen BK261.out 3; have hfz67_4 := blk_frozen BK261.out 4))
                                  go_roundg kj19
                                  case measure => have := HJ4.out; have := HK2.out; have := HJ19.out; omega
                                  case rel => exact ⟨((wrap64 (x9_2 + (Int.tmod (wrap64 ((Int.tmod (wrap64 (Int.tdiv (rd y263 x49_2) 4)) 7) + 7)) 7)))), (0), (x11_2), (false), (wrap64 (x49_2 + 1)), (t276), (t277), (t278), (t279), (t280), (by first | rfl | (simp; done) | (simp [*]; done)), (by first | rfl | (simp; done) | (simp [*]; done)), (by first | rfl | (simp; done) | (simp [*]; done)), (by first | rfl | (simp; done) | (simp [*]; done)), (by first | rfl | (simp; done) | (simp [*]; done)), H', ⟨by have := HJ4.out; have := HK2.out; have := HJ19.out; omega⟩, ⟨by (with_reducible repeat (first | refine blk_drewN ?_ _ | refine blk_drew ?_ | refine blk_alloc ?_ _)); refine blk_put (cs := #[.int .i64 t276, .int .i64 t277, .int .i64 t278, .int .i64 t279, .int .i64 x262004_2]) ?_ 4 _ rfl; (with_reducible repeat (first | refine blk_drewN ?_ _ | refine blk_drew ?_ | refine blk_alloc ?_ _)); refine blk_put (cs := #[.int .i64 t276, .int .i64 t277, .int .i64 t278, .int .i64 x262003_2, .int .i64 x262004_2]) ?_ 3 _ rfl; (with_reducible repeat (first | refine blk_drewN ?_ _ | refine blk_drew ?_ | refine blk_alloc ?_ _)); refine blk_put (cs := #[.int .i64 t276, .int .i64 t277, .int .i64 x262002_2, .int .i64 x262003_2, .int .i64 x262004_2]) ?_ 2 _ rfl; (with_reducible repeat (first | refine blk_drewN ?_ _ | refine blk_drew ?_ | refine blk_alloc ?_ _)); refine blk_put (cs := #[.int .i64 t276, .int .i64 x262001_2, .int .i64 x262002_2, .int .i64 x262003_2, .int .i64 x262004_2]) ?_ 1 _ rfl; (with_reducible repeat (first | refine blk_drewN ?_ _ | refine blk_drew ?_ | refine blk_alloc ?_ _)); refine blk_put (cs := #[.int .i64 x262000_2, .int .i64 x262001_2, .int .i64 x262002_2, .int .i64 x262003_2, .int .i64 x262004_2]) ?_ 0 _ rfl; (with_reducible repeat (first | refine blk_drewN ?_ _ | refine blk_drew ?_ | refine blk_alloc ?_ _)); refine blk_far ?_ NB261_282.out _; (with_reducible repeat (first | refine blk_drewN ?_ _ | refine blk_drew ?_ | refine blk_alloc ?_ _)); refine blk_far ?_ NB261_282.out _; (with_reducible repeat (first | refine blk_drewN ?_ _ | refine blk_drew ?_ | refine blk_alloc ?_ _)); refine blk_far ?_ NB261_282.out _; (with_reducible repeat (first | refine blk_drewN ?_ _ | refine blk_drew ?_ | refine blk_alloc ?_ _)); refine blk_far ?_ NB261_282.out _; (with_reducible repeat (first | refine blk_drewN ?_ _ | refine blk_drew ?_ | refine blk_alloc ?_ _)); refine blk_far ?_ NB261_282.out _; (with_reducible repeat (first | refine blk_drewN ?_ _ | refine blk_drew ?_ | refine blk_alloc ?_ _)); exact BK261.out⟩, ⟨by repeat (first | (with_reducible first | exact HB.out | apply below_alloc | apply pw_below_drewN | apply below_drew1 | refine below_set ?_ GE261.out | refine below_set ?_ GE282.out) | exact HB.out)⟩⟩
                                · rw [if_neg c61] at H
                                  have c61b0 : ((Int.tmod (wrap64 ((Int.tmod (rd y263 x49_2) 4) + 4)) 4) == 2) = false := beq_eq_false_iff_ne.mpr c61
                                  have c61b1 : ((Int.tmod (wrap64 ((Int.tmod (rd y263 x49_2) 4) + 4)) 4) != 2) = true := bne_iff_ne.mpr c61
                                  by_cases c68 : x12_2 = true
                                  · subst c68
                                    have H1 : (foghornlaw07_BreakerWaits.l0 kj19 (wrap64 (1 + (Int.tmod (wrap64 ((Int.tmod a0 9) + 9)) 9))) (wrap64 (1 + (Int.tmod (wrap64 ((Int.tmod a1 30) + 30)) 30))) (wrap64 (x9_2 + (Int.tmod (wrap64 ((Int.tmod (wrap64 (Int.tdiv (rd y263 x49_2) 4)) 7) + 7)) 7))) 0 (wrap64 ((wrap64 (x9_2 + (Int.tmod (wrap64 ((Int.tmod (wrap64 (Int.tdiv (rd y263 x49_2) 4)) 7) + 7)) 7))) + (wrap64 (1 + (Int.tmod (wrap64 ((Int.tmod a1 30) + 30)) 30))))) false y263 (y263.length : Int) (wrap64 (x49_2 + 1)) t276 t277 t278 t279 t280) = some r := by rw [if_pos rfl] at H; exact H
                                    clear H
                                    have H := H1
                                    clear H1
                                    have H' := Aside0.mk H
                                    clear H
                                    have hcz69_0 : wc.cell? ⟨gb261, 0, none⟩ = some (.int .i64 x262000_2) := (blk_cell BK261.out 0).trans rfl
                                    have hcz69_1 : wc.cell? ⟨gb261, 1, none⟩ = some (.int .i64 x262001_2) := (blk_cell BK261.out 1).trans rfl
                                    have hcz69_2 : wc.cell? ⟨gb261, 2, none⟩ = some (.int .i64 x262002_2) := (blk_cell BK261.out 2).trans rfl
                                    have hcz69_3 : wc.cell? ⟨gb261, 3, none⟩ = some (.int .i64 x262003_2) := (blk_cell BK261.out 3).trans rfl
                                    have hcz69_4 : wc.cell? ⟨gb261, 4, none⟩ = some (.int .i64 x262004_2) := (blk_cell BK261.out 4).trans rfl
                                    have hfz69_0 := blk_frozen BK261.out 0
                                    have hfz69_1 := blk_frozen BK261.out 1
                                    have hfz69_2 := blk_frozen BK261.out 2
                                    have hfz69_3 := blk_frozen BK261.out 3
                                    have hfz69_4 := blk_frozen BK261.out 4
                                    go_wp2_with (first | ((with_reducible refine gate_callee (f := 52) rfl ?_); refine goesL_ (some 73) rfl rfl Try.func52 (by kernel_rfl) rfl #[.agg #[.int .i64 x262000_2, .int .i64 x262001_2, .int .i64 x262002_2, .int .i64 x262003_2, .int .i64 x262004_2], .int .i64 (wrap64 (x9_2 + (Int.tmod (wrap64 ((Int.tmod (wrap64 (Int.tdiv (rd y263 x49_2) 4)) 7) + 7)) 7))), .bool ((Int.tmod (wrap64 ((Int.tmod (rd y263 x49_2) 4) + 4)) 4) == 2)] rfl (by (try simp only [List.map_toArray, List.map_cons, List.map_nil]); first | done | rfl | (simp only [List.length_drop, List.length_take]; rfl) | (simp only [*]; rfl)) ?_; (with_reducible refine (breaker_Told.calls kj19 x262000_2 x262001_2 x262002_2 x262003_2 x262004_2 (wrap64 (x9_2 + (Int.tmod (wrap64 ((Int.tmod (wrap64 (Int.tdiv (rd y263 x49_2) 4)) 7) + 7)) 7))) ((Int.tmod (wrap64 ((Int.tmod (rd y263 x49_2) 4) + 4)) 4) == 2) t276 t277 t278 t279 t280 t281 _ A47.out).mono ?_); rintro e w70 ⟨rfl, hb⟩; refine ⟨_, rfl, ?_⟩; have n0_ := Aside0.mk (blk_below (g := gb261) (o := .cells #[.int .i64 x262000_2, .int .i64 x262001_2, .int .i64 x262002_2, .int .i64 x262003_2, .int .i64 x262004_2] 69 (0, 0)) (by (with_reducible repeat (first | refine blk_drewN ?_ _ | refine blk_drew ?_ | refine blk_alloc ?_ _)); exact BK261.out) hb); have n1_ := Aside0.mk (below_step (by repeat (first | (with_reducible first | exact HB.out | apply below_alloc | apply pw_below_drewN | apply below_drew1 | refine below_set ?_ GE261.out) | exact HB.out)) hb); clear BK261; clear HB; have BK261 := n0_; have HB := n1_; clear n0_ n1_; (try clear hb); (try clear hb2); (try clear hk); (try clear hi)) | ((with_reducible refine gate_dst (N := 19) rfl ?_); refine box_event ?hg (N := 19) ?hd (cs := #[.int .i64 0, .int .i64 0, .int .i64 0, .int .i64 0, .int .i64 0]) (t := 69) ?hr ?_; (case hd => rfl); (case hg => rfl); (case hr => first | (go_simp; done) | (go_simp; rfl)); intro gb282 hg w71 hbox hb; have n0_ := Aside0.mk (blk_below (g := gb261) (o := .cells #[.int .i64 x262000_2, .int .i64 x262001_2, .int .i64 x262002_2, .int .i64 x262003_2, .int .i64 x262004_2] 69 (0, 0)) (by (with_reducible repeat (first | refine blk_drewN ?_ _ | refine blk_drew ?_ | refine blk_alloc ?_ _)); exact BK261.out) hb); have n1_ := Aside0.mk (below_step (by repeat (first | (with_reducible first | exact HB.out | apply below_alloc | apply pw_below_drewN | apply below_drew1 | refine below_set ?_ GE261.out) | exact HB.out)) hb); have n2_ := Aside0.mk (hbox); have n3_ := Aside0.mk ((by rw [hg]; exact (below_size (by repeat (first | (with_reducible first | exact HB.out | apply below_alloc | apply pw_below_drewN | apply below_drew1 | refine below_set ?_ GE261.out) | exact HB.out))) : w.heap.size ≤ gb282)); have n4_ := Aside0.mk ((by rw [hg]; exact (below_size (by repeat (first | (with_reducible first | exact HB.out | apply below_alloc | apply pw_below_drewN | apply below_drew1 | refine below_set ?_ GE261.out) | exact HB.out))) : w.heap.size ≤ gb282)); have n5_ := Aside0.mk ((by rw [hg]; exact Nat.ne_of_lt (blk_lt (g := gb261) (o := .cells #[.int .i64 x262000_2, .int .i64 x262001_2, .int .i64 x262002_2, .int .i64 x262003_2, .int .i64 x262004_2] 69 (0, 0)) (by (with_reducible repeat (first | refine blk_drewN ?_ _ | refine blk_drew ?_ | refine blk_alloc ?_ _)); exact BK261.out)) : gb261 ≠ gb282)); have n6_ := Aside0.mk ((by rw [hg]; exact Nat.ne_of_gt (blk_lt (g := gb261) (o := .cells #[.int .i64 x262000_2, .int .i64 x262001_2, .int .i64 x262002_2, .int .i64 x262003_2, .int .i64 x262004_2] 69 (0, 0)) (by (with_reducible repeat (first | refine blk_drewN ?_ _ | refine blk_drew ?_ | refine blk_alloc ?_ _)); exact BK261.out)) : gb282 ≠ gb261)); clear BK261; clear HB; have BK261 := n0_; have HB := n1_; have BK282 := n2_; have GW282 := n3_; have GE282 := n4_; have NB261_282 := n5_; have NB282_261 := n6_; clear n0_ n1_ n2_ n3_ n4_ n5_ n6_; clear hb hbox hg; have hnb72 := NB282_261.out; have hnc72 := NB261_282.out; have hcz73_0 : w71.cell? ⟨gb282, 0, none⟩ = some (.int .i64 0) := (blk_cell BK282.out 0).trans rfl; have hcz73_1 : w71.cell? ⟨gb282, 1, none⟩ = some (.int .i64 0) := (blk_cell BK282.out 1).trans rfl; have hcz73_2 : w71.cell? ⟨gb282, 2, none⟩ = some (.int .i64 0) := (blk_cell BK282.out 2).trans rfl; have hcz73_3 : w71.cell? ⟨gb282, 3, none⟩ = some (.int .i64 0) := (blk_cell BK282.out 3).trans rfl; have hcz73_4 : w71.cell? ⟨gb282, 4, none⟩ = some (.int .i64 0) := (blk_cell BK282.out 4).trans rfl; have hfz73_0 := blk_frozen BK282.out 0; have hfz73_1 := blk_frozen BK282.out 1; have hfz73_2 := blk_frozen BK282.out 2; have hfz73_3 := blk_frozen BK282.out 3; have hfz73_4 := blk_frozen BK282.out 4; have hcz74_0 : w71.cell? ⟨gb261, 0, none⟩ = some (.int .i64 x262000_2) := (blk_cell BK261.out 0).trans rfl; have hcz74_1 : w71.cell? ⟨gb261, 1, none⟩ = some (.int .i64 x262001_2) := (blk_cell BK261.out 1).trans rfl; have hcz74_2 : w71.cell? ⟨gb261, 2, none⟩ = some (.int .i64 x262002_2) := (blk_cell BK261.out 2).trans rfl; have hcz74_3 : w71.cell? ⟨gb261, 3, none⟩ = some (.int .i64 x262003_2) := (blk_cell BK261.out 3).trans rfl; have hcz74_4 : w71.cell? ⟨gb261, 4, none⟩ = some (.int .i64 x262004_2) := (blk_cell BK261.out 4).trans rfl; have hfz74_0 := blk_frozen BK261.out 0; have hfz74_1 := blk_frozen BK261.out 1; have hfz74_2 := blk_frozen BK261.out 2; have hfz74_3 := blk_frozen BK261.out 3; have hfz74_4 := blk_frozen BK261.out 4))
                                    go_roundg kj19
                                    case measure => have := HJ4.out; have := HK2.out; have := HJ19.out; omega
                                    case rel => exact ⟨((wrap64 (x9_2 + (Int.tmod (wrap64 ((Int.tmod (wrap64 (Int.tdiv (rd y263 x49_2) 4)) 7) + 7)) 7)))), (0), (wrap64 ((wrap64 (x9_2 + (Int.tmod (wrap64 ((Int.tmod (wrap64 (Int.tdiv (rd y263 x49_2) 4)) 7) + 7)) 7))) + (wrap64 (1 + (Int.tmod (wrap64 ((Int.tmod a1 30) + 30)) 30))))), (false), (wrap64 (x49_2 + 1)), (t276), (t277), (t278), (t279), (t280), (by first | rfl | (simp; done) | (simp [*]; done)), (by first | rfl | (simp; done) | (simp [*]; done)), (by first | rfl | (simp; done) | (simp [*]; done)), (by first | rfl | (simp; done) | (simp [*]; done)), (by first | rfl | (simp; done) | (simp [*]; done)), H', ⟨by have := HJ4.out; have := HK2.out; have := HJ19.out; omega⟩, ⟨by (with_reducible repeat (first | refine blk_drewN ?_ _ | refine blk_drew ?_ | refine blk_alloc ?_ _)); refine blk_put (cs := #[.int .i64 t276, .int .i64 t277, .int .i64 t278, .int .i64 t279, .int .i64 x262004_2]) ?_ 4 _ rfl; (with_reducible repeat (first | refine blk_drewN ?_ _ | refine blk_drew ?_ | refine blk_alloc ?_ _)); refine blk_put (cs := #[.int .i64 t276, .int .i64 t277, .int .i64 t278, .int .i64 x262003_2, .int .i64 x262004_2]) ?_ 3 _ rfl; (with_reducible repeat (first | refine blk_drewN ?_ _ | refine blk_drew ?_ | refine blk_alloc ?_ _)); refine blk_put (cs := #[.int .i64 t276, .int .i64 t277, .int .i64 x262002_2, .int .i64 x262003_2, .int .i64 x262004_2]) ?_ 2 _ rfl; (with_reducible repeat (first | refine blk_drewN ?_ _ | refine blk_drew ?_ | refine blk_alloc ?_ _)); refine blk_put (cs := #[.int .i64 t276, .int .i64 x262001_2, .int .i64 x262002_2, .int .i64 x262003_2, .int .i64 x262004_2]) ?_ 1 _ rfl; (with_reducible repeat (first | refine blk_drewN ?_ _ | refine blk_drew ?_ | refine blk_alloc ?_ _)); refine blk_put (cs := #[.int .i64 x262000_2, .int .i64 x262001_2, .int .i64 x262002_2, .int .i64 x262003_2, .int .i64 x262004_2]) ?_ 0 _ rfl; (with_reducible repeat (first | refine blk_drewN ?_ _ | refine blk_drew ?_ | refine blk_alloc ?_ _)); refine blk_far ?_ NB261_282.out _; (with_reducible repeat (first | refine blk_drewN ?_ _ | refine blk_drew ?_ | refine blk_alloc ?_ _)); refine blk_far ?_ NB261_282.out _; (with_reducible repeat (first | refine blk_drewN ?_ _ | refine blk_drew ?_ | refine blk_alloc ?_ _)); refine blk_far ?_ NB261_282.out _; (with_reducible repeat (first | refine blk_drewN ?_ _ | refine blk_drew ?_ | refine blk_alloc ?_ _)); refine blk_far ?_ NB261_282.out _; (with_reducible repeat (first | refine blk_drewN ?_ _ | refine blk_drew ?_ | refine blk_alloc ?_ _)); refine blk_far ?_ NB261_282.out _; (with_reducible repeat (first | refine blk_drewN ?_ _ | refine blk_drew ?_ | refine blk_alloc ?_ _)); exact BK261.out⟩, ⟨by repeat (first | (with_reducible first | exact HB.out | apply below_alloc | apply pw_below_drewN | apply below_drew1 | refine below_set ?_ GE261.out | refine below_set ?_ GE282.out) | exact HB.out)⟩⟩
                                  · replace c68 := Bool.eq_false_iff.mpr c68
                                    subst c68
                                    have H1 : (if (wrap64 (x10_2 + 1)) = (wrap64 (1 + (Int.tmod (wrap64 ((Int.tmod a0 9) + 9)) 9))) then (foghornlaw07_BreakerWaits.l0 kj19 (wrap64 (1 + (Int.tmod (wrap64 ((Int.tmod a0 9) + 9)) 9))) (wrap64 (1 + (Int.tmod (wrap64 ((Int.tmod a1 30) + 30)) 30))) (wrap64 (x9_2 + (Int.tmod (wrap64 ((Int.tmod (wrap64 (Int.tdiv (rd y263 x49_2) 4)) 7) + 7)) 7))) 0 (wrap64 ((wrap64 (x9_2 + (Int.tmod (wrap64 ((Int.tmod (wrap64 (Int.tdiv (rd y263 x49_2) 4)) 7) + 7)) 7))) + (wrap64 (1 + (Int.tmod (wrap64 ((Int.tmod a1 30) + 30)) 30))))) false y263 (y263.length : Int) (wrap64 (x49_2 + 1)) t276 t277 t278 t279 t280) else (foghornlaw07_BreakerWaits.l0 kj19 (wrap64 (1 + (Int.tmod (wrap64 ((Int.tmod a0 9) + 9)) 9))) (wrap64 (1 + (Int.tmod (wrap64 ((Int.tmod a1 30) + 30)) 30))) (wrap64 (x9_2 + (Int.tmod (wrap64 ((Int.tmod (wrap64 (Int.tdiv (rd y263 x49_2) 4)) 7) + 7)) 7))) (wrap64 (x10_2 + 1)) x11_2 false y263 (y263.length : Int) (wrap64 (x49_2 + 1)) t276 t277 t278 t279 t280)) = some r := by rw [if_neg (show ¬ (false = true) by decide)] at H; exact H
                                    clear H
                                    have H := H1
                                    clear H1
                                    by_cases c75 : (wrap64 (x10_2 + 1)) = (wrap64 (1 + (Int.tmod (wrap64 ((Int.tmod a0 9) + 9)) 9)))
                                    · rw [if_pos c75] at H
                                      have c75b0 : ((wrap64 (x10_2 + 1)) == (wrap64 (1 + (Int.tmod (wrap64 ((Int.tmod a0 9) + 9)) 9)))) = true := beq_iff_eq.mpr c75
                                      have c75b1 : ((wrap64 (x10_2 + 1)) != (wrap64 (1 + (Int.tmod (wrap64 ((Int.tmod a0 9) + 9)) 9)))) = false := bne_eq_false_iff_eq.mpr c75
                                      clear c75
                                      have H' := Aside0.mk H
                                      clear H
                                      have hcz76_0 : wc.cell? ⟨gb261, 0, none⟩ = some (.int .i64 x262000_2) := (blk_cell BK261.out 0).trans rfl
                                      have hcz76_1 : wc.cell? ⟨gb261, 1, none⟩ = some (.int .i64 x262001_2) := (blk_cell BK261.out 1).trans rfl
                                      have hcz76_2 : wc.cell? ⟨gb261, 2, none⟩ = some (.int .i64 x262002_2) := (blk_cell BK261.out 2).trans rfl
                                      have hcz76_3 : wc.cell? ⟨gb261, 3, none⟩ = some (.int .i64 x262003_2) := (blk_cell BK261.out 3).trans rfl
                                      have hcz76_4 : wc.cell? ⟨gb261, 4, none⟩ = some (.int .i64 x262004_2) := (blk_cell BK261.out 4).trans rfl
                                      have hfz76_0 := blk_frozen BK261.out 0
                                      have hfz76_1 := blk_frozen BK261.out 1
                                      have hfz76_2 := blk_frozen BK261.out 2
                                      have hfz76_3 := blk_frozen BK261.out 3
                                      have hfz76_4 := blk_frozen BK261.out 4
                                      go_wp2_with (first | ((with_reducible refine gate_callee (f := 52) rfl ?_); refine goesL_ (some 73) rfl rfl Try.func52 (by kernel_rfl) rfl #[.agg #[.int .i64 x262000_2, .int .i64 x262001_2, .int .i64 x262002_2, .int .i64 x262003_2, .int .i64 x262004_2], .int .i64 (wrap64 (x9_2 + (Int.tmod (wrap64 ((Int.tmod (wrap64 (Int.tdiv (rd y263 x49_2) 4)) 7) + 7)) 7))), .bool ((Int.tmod (wrap64 ((Int.tmod (rd y263 x49_2) 4) + 4)) 4) == 2)] rfl (by (try simp only [List.map_toArray, List.map_cons, List.map_nil]); first | done | rfl | (simp only [List.length_drop, List.length_take]; rfl) | (simp only [*]; rfl)) ?_; (with_reducible refine (breaker_Told.calls kj19 x262000_2 x262001_2 x262002_2 x262003_2 x262004_2 (wrap64 (x9_2 + (Int.tmod (wrap64 ((Int.tmod (wrap64 (Int.tdiv (rd y263 x49_2) 4)) 7) + 7)) 7))) ((Int.tmod (wrap64 ((Int.tmod (rd y263 x49_2) 4) + 4)) 4) == 2) t276 t277 t278 t279 t280 t281 _ A47.out).mono ?_); rintro e w77 ⟨rfl, hb⟩; refine ⟨_, rfl, ?_⟩; have n0_ := Aside0.mk (blk_below (g := gb261) (o := .cells #[.int .i64 x262000_2, .int .i64 x262001_2, .int .i64 x262002_2, .int .i64 x262003_2, .int .i64 x262004_2] 69 (0, 0)) (by (with_reducible repeat (first | refine blk_drewN ?_ _ | refine blk_drew ?_ | refine blk_alloc ?_ _)); exact BK261.out) hb); have n1_ := Aside0.mk (below_step (by repeat (first | (with_reducible first | exact HB.out | apply below_alloc | apply pw_below_drewN | apply below_drew1 | refine below_set ?_ GE261.out) | exact HB.out)) hb); clear BK261; clear HB; have BK261 := n0_; have HB := n1_; clear n0_ n1_; (try clear hb); (try clear hb2); (try clear hk); (try clear hi)) | ((with_reducible refine gate_dst (N := 19) rfl ?_); refine box_event ?hg (N := 19) ?hd (cs := #[.int .i64 0, .int .i64 0, .int .i64 0, .int .i64 0, .int .i64 0]) (t := 69) ?hr ?_; (case hd => rfl); (case hg => rfl); (case hr => first | (go_simp; done) | (go_simp; rfl)); intro gb282 hg w78 hbox hb; have n0_ := Aside0.mk (blk_below (g := gb261) (o := .cells #[.int .i64 x262000_2, .int .i64 x262001_2, .int .i64 x262002_2, .int .i64 x262003_2, .int .i64 x262004_2] 69 (0, 0)) (by (with_reducible repeat (first | refine blk_drewN ?_ _ | refine blk_drew ?_ | refine blk_alloc ?_ _)); exact BK261.out) hb); have n1_ := Aside0.mk (below_step (by repeat (first | (with_reducible first | exact HB.out | apply below_alloc | apply pw_below_drewN | apply below_drew1 | refine below_set ?_ GE261.out) | exact HB.out)) hb); have n2_ := Aside0.mk (hbox); have n3_ := Aside0.mk ((by rw [hg]; exact (below_size (by repeat (first | (with_reducible first | exact HB.out | apply below_alloc | apply pw_below_drewN | apply below_drew1 | refine below_set ?_ GE261.out) | exact HB.out))) : w.heap.size ≤ gb282)); have n4_ := Aside0.mk ((by rw [hg]; exact (below_size (by repeat (first | (with_reducible first | exact HB.out | apply below_alloc | apply pw_below_drewN | apply below_drew1 | refine below_set ?_ GE261.out) | exact HB.out))) : w.heap.size ≤ gb282)); have n5_ := Aside0.mk ((by rw [hg]; exact Nat.ne_of_lt (blk_lt (g := gb261) (o := .cells #[.int .i64 x262000_2, .int .i64 x262001_2, .int .i64 x262002_2, .int .i64 x262003_2, .int .i64 x262004_2] 69 (0, 0)) (by (with_reducible repeat (first | refine blk_drewN ?_ _ | refine blk_drew ?_ | refine blk_alloc ?_ _)); exact BK261.out)) : gb261 ≠ gb282)); have n6_ := Aside0.mk ((by rw [hg]; exact Nat.ne_of_gt (blk_lt (g := gb261) (o := .cells #[.int .i64 x262000_2, .int .i64 x262001_2, .int .i64 x262002_2, .int .i64 x262003_2, .int .i64 x262004_2] 69 (0, 0)) (by (with_reducible repeat (first | refine blk_drewN ?_ _ | refine blk_drew ?_ | refine blk_alloc ?_ _)); exact BK261.out)) : gb282 ≠ gb261)); clear BK261; clear HB; have BK261 := n0_; have HB := n1_; have BK282 := n2_; have GW282 := n3_; have GE282 := n4_; have NB261_282 := n5_; have NB282_261 := n6_; clear n0_ n1_ n2_ n3_ n4_ n5_ n6_; clear hb hbox hg; have hnb79 := NB282_261.out; have hnc79 := NB261_282.out; have hcz80_0 : w78.cell? ⟨gb282, 0, none⟩ = some (.int .i64 0) := (blk_cell BK282.out 0).trans rfl; have hcz80_1 : w78.cell? ⟨gb282, 1, none⟩ = some (.int .i64 0) := (blk_cell BK282.out 1).trans rfl; have hcz80_2 : w78.cell? ⟨gb282, 2, none⟩ = some (.int .i64 0) := (blk_cell BK282.out 2).trans rfl; have hcz80_3 : w78.cell? ⟨gb282, 3, none⟩ = some (.int .i64 0) := (blk_cell BK282.out 3).trans rfl; have hcz80_4 : w78.cell? ⟨gb282, 4, none⟩ = some (.int .i64 0) := (blk_cell BK282.out 4).trans rfl; have hfz80_0 := blk_frozen BK282.out 0; have hfz80_1 := blk_frozen BK282.out 1; have hfz80_2 := blk_frozen BK282.out 2; have hfz80_3 := blk_frozen BK282.out 3; have hfz80_4 := blk_frozen BK282.out 4; have hcz81_0 : w78.cell? ⟨gb261, 0, none⟩ = some (.int .i64 x262000_2) := (blk_cell BK261.out 0).trans rfl; have hcz81_1 : w78.cell? ⟨gb261, 1, none⟩ = some (.int .i64 x262001_2) := (blk_cell BK261.out 1).trans rfl; have hcz81_2 : w78.cell? ⟨gb261, 2, none⟩ = some (.int .i64 x262002_2) := (blk_cell BK261.out 2).trans rfl; have hcz81_3 : w78.cell? ⟨gb261, 3, none⟩ = some (.int .i64 x262003_2) := (blk_cell BK261.out 3).trans rfl; have hcz81_4 : w78.cell? ⟨gb261, 4, none⟩ = some (.int .i64 x262004_2) := (blk_cell BK261.out 4).trans rfl; have hfz81_0 := blk_frozen BK261.out 0; have hfz81_1 := blk_frozen BK261.out 1; have hfz81_2 := blk_frozen BK261.out 2; have hfz81_3 := blk_frozen BK261.out 3; have hfz81_4 := blk_frozen BK261.out 4))
                                      go_roundg kj19
                                      case measure => have := HJ4.out; have := HK2.out; have := HJ19.out; omega
                                      case rel => exact ⟨((wrap64 (x9_2 + (Int.tmod (wrap64 ((Int.tmod (wrap64 (Int.tdiv (rd y263 x49_2) 4)) 7) + 7)) 7)))), (0), (wrap64 ((wrap64 (x9_2 + (Int.tmod (wrap64 ((Int.tmod (wrap64 (Int.tdiv (rd y263 x49_2) 4)) 7) + 7)) 7))) + (wrap64 (1 + (Int.tmod (wrap64 ((Int.tmod a1 30) + 30)) 30))))), (false), (wrap64 (x49_2 + 1)), (t276), (t277), (t278), (t279), (t280), (by first | rfl | (simp; done) | (simp [*]; done)), (by first | rfl | (simp; done) | (simp [*]; done)), (by first | rfl | (simp; done) | (simp [*]; done)), (by first | rfl | (simp; done) | (simp [*]; done)), (by first | rfl | (simp; done) | (simp [*]; done)), H', ⟨by have := HJ4.out; have := HK2.out; have := HJ19.out; omega⟩, ⟨by (with_reducible repeat (first | refine blk_drewN ?_ _ | refine blk_drew ?_ | refine blk_alloc ?_ _)); refine blk_put (cs := #[.int .i64 t276, .int .i64 t277, .int .i64 t278, .int .i64 t279, .int .i64 x262004_2]) ?_ 4 _ rfl; (with_reducible repeat (first | refine blk_drewN ?_ _ | refine blk_drew ?_ | refine blk_alloc ?_ _)); refine blk_put (cs := #[.int .i64 t276, .int .i64 t277, .int .i64 t278, .int .i64 x262003_2, .int .i64 x262004_2]) ?_ 3 _ rfl; (with_reducible repeat (first | refine blk_drewN ?_ _ | refine blk_drew ?_ | refine blk_alloc ?_ _)); refine blk_put (cs := #[.int .i64 t276, .int .i64 t277, .int .i64 x262002_2, .int .i64 x262003_2, .int .i64 x262004_2]) ?_ 2 _ rfl; (with_reducible repeat (first | refine blk_drewN ?_ _ | refine blk_drew ?_ | refine blk_alloc ?_ _)); refine blk_put (cs := #[.int .i64 t276, .int .i64 x262001_2, .int .i64 x262002_2, .int .i64 x262003_2, .int .i64 x262004_2]) ?_ 1 _ rfl; (with_reducible repeat (first | refine blk_drewN ?_ _ | refine blk_drew ?_ | refine blk_alloc ?_ _)); refine blk_put (cs := #[.int .i64 x262000_2, .int .i64 x262001_2, .int .i64 x262002_2, .int .i64 x262003_2, .int .i64 x262004_2]) ?_ 0 _ rfl; (with_reducible repeat (first | refine blk_drewN ?_ _ | refine blk_drew ?_ | refine blk_alloc ?_ _)); refine blk_far ?_ NB261_282.out _; (with_reducible repeat (first | refine blk_drewN ?_ _ | refine blk_drew ?_ | refine blk_alloc ?_ _)); refine blk_far ?_ NB261_282.out _; (with_reducible repeat (first | refine blk_drewN ?_ _ | refine blk_drew ?_ | refine blk_alloc ?_ _)); refine blk_far ?_ NB261_282.out _; (with_reducible repeat (first | refine blk_drewN ?_ _ | refine blk_drew ?_ | refine blk_alloc ?_ _)); refine blk_far ?_ NB261_282.out _; (with_reducible repeat (first | refine blk_drewN ?_ _ | refine blk_drew ?_ | refine blk_alloc ?_ _)); refine blk_far ?_ NB261_282.out _; (with_reducible repeat (first | refine blk_drewN ?_ _ | refine blk_drew ?_ | refine blk_alloc ?_ _)); exact BK261.out⟩, ⟨by repeat (first | (with_reducible first | exact HB.out | apply below_alloc | apply pw_below_drewN | apply below_drew1 | refine below_set ?_ GE261.out | refine below_set ?_ GE282.out) | exact HB.out)⟩⟩
                                    · rw [if_neg c75] at H
                                      have c75b0 : ((wrap64 (x10_2 + 1)) == (wrap64 (1 + (Int.tmod (wrap64 ((Int.tmod a0 9) + 9)) 9)))) = false := beq_eq_false_iff_ne.mpr c75
                                      have c75b1 : ((wrap64 (x10_2 + 1)) != (wrap64 (1 + (Int.tmod (wrap64 ((Int.tmod a0 9) + 9)) 9)))) = true := bne_iff_ne.mpr c75
                                      have H' := Aside0.mk H
                                      clear H
                                      have hcz82_0 : wc.cell? ⟨gb261, 0, none⟩ = some (.int .i64 x262000_2) := (blk_cell BK261.out 0).trans rfl
                                      have hcz82_1 : wc.cell? ⟨gb261, 1, none⟩ = some (.int .i64 x262001_2) := (blk_cell BK261.out 1).trans rfl
                                      have hcz82_2 : wc.cell? ⟨gb261, 2, none⟩ = some (.int .i64 x262002_2) := (blk_cell BK261.out 2).trans rfl
                                      have hcz82_3 : wc.cell? ⟨gb261, 3, none⟩ = some (.int .i64 x262003_2) := (blk_cell BK261.out 3).trans rfl
                                      have hcz82_4 : wc.cell? ⟨gb261, 4, none⟩ = some (.int .i64 x262004_2) := (blk_cell BK261.out 4).trans rfl
                                      have hfz82_0 := blk_frozen BK261.out 0
                                      have hfz82_1 := blk_frozen BK261.out 1
                                      have hfz82_2 := blk_frozen BK261.out 2
                                      have hfz82_3 := blk_frozen BK261.out 3
                                      have hfz82_4 := blk_frozen BK261.out 4
                                      go_wp2_with (first | ((with_reducible refine gate_callee (f := 52) rfl ?_); refine goesL_ (some 73) rfl rfl Try.func52 (by kernel_rfl) rfl #[.agg #[.int .i64 x262000_2, .int .i64 x262001_2, .int .i64 x262002_2, .int .i64 x262003_2, .int .i64 x262004_2], .int .i64 (wrap64 (x9_2 + (Int.tmod (wrap64 ((Int.tmod (wrap64 (Int.tdiv (rd y263 x49_2) 4)) 7) + 7)) 7))), .bool ((Int.tmod (wrap64 ((Int.tmod (rd y263 x49_2) 4) + 4)) 4) == 2)] rfl (by (try simp only [List.map_toArray, List.map_cons, List.map_nil]); first | done | rfl | (simp only [List.length_drop, List.length_take]; rfl) | (simp only [*]; rfl)) ?_; (with_reducible refine (breaker_Told.calls kj19 x262000_2 x262001_2 x262002_2 x262003_2 x262004_2 (wrap64 (x9_2 + (Int.tmod (wrap64 ((Int.tmod (wrap64 (Int.tdiv (rd y263 x49_2) 4)) 7) + 7)) 7))) ((Int.tmod (wrap64 ((Int.tmod (rd y263 x49_2) 4) + 4)) 4) == 2) t276 t277 t278 t279 t280 t281 _ A47.out).mono ?_); rintro e w83 ⟨rfl, hb⟩; refine ⟨_, rfl, ?_⟩; have n0_ := Aside0.mk (blk_below (g := gb261) (o := .cells #[.int .i64 x262000_2, .int .i64 x262001_2, .int .i64 x262002_2, .int .i64 x262003_2, .int .i64 x262004_2] 69 (0, 0)) (by (with_reducible repeat (first | refine blk_drewN ?_ _ | refine blk_drew ?_ | refine blk_alloc ?_ _)); exact BK261.out) hb); have n1_ := Aside0.mk (below_step (by repeat (first | (with_reducible first | exact HB.out | apply below_alloc | apply pw_below_drewN | apply below_drew1 | refine below_set ?_ GE261.out) | exact HB.out)) hb); clear BK261; clear HB; have BK261 := n0_; have HB := n1_; clear n0_ n1_; (try clear hb); (try clear hb2); (try clear hk); (try clear hi)) | ((with_reducible refine gate_dst (N := 19) rfl ?_); refine box_event ?hg (N := 19) ?hd (cs := #[.int .i64 0, .int .i64 0, .int .i64 0, .int .i64 0, .int .i64 0]) (t := 69) ?hr ?_; (case hd => rfl); (case hg => rfl); (case hr => first | (go_simp; done) | (go_simp; rfl)); intro gb282 hg w84 hbox hb; have n0_ := Aside0.mk (blk_below (g := gb261) (o := .cells #[.int .i64 x262000_2, .int .i64 x262001_2, .int .i64 x262002_2, .int .i64 x262003_2, .int .i64 x262004_2] 69 (0, 0)) (by (with_reducible repeat (first | refine blk_drewN ?_ _ | refine blk_drew ?_ | refine blk_alloc ?_ _)); exact BK261.out) hb); have n1_ := Aside0.mk (below_step (by repeat (first | (with_reducible first | exact HB.out | apply below_alloc | apply pw_below_drewN | apply below_drew1 | refine below_set ?_ GE261.out) | exact HB.out)) hb); have n2_ := Aside0.mk (hbox); have n3_ := Aside0.mk ((by rw [hg]; exact (below_size (by repeat (first | (with_reducible first | exact HB.out | apply below_alloc | apply pw_below_drewN | apply below_drew1 | refine below_set ?_ GE261.out) | exact HB.out))) : w.heap.size ≤ gb282)); have n4_ := Aside0.mk ((by rw [hg]; exact (below_size (by repeat (first | (with_reducible first | exact HB.out | apply below_alloc | apply pw_below_drewN | apply below_drew1 | refine below_set ?_ GE261.out) | exact HB.out))) : w.heap.size ≤ gb282)); have n5_ := Aside0.mk ((by rw [hg]; exact Nat.ne_of_lt (blk_lt (g := gb261) (o := .cells #[.int .i64 x262000_2, .int .i64 x262001_2, .int .i64 x262002_2, .int .i64 x262003_2, .int .i64 x262004_2] 69 (0, 0)) (by (with_reducible repeat (first | refine blk_drewN ?_ _ | refine blk_drew ?_ | refine blk_alloc ?_ _)); exact BK261.out)) : gb261 ≠ gb282)); have n6_ := Aside0.mk ((by rw [hg]; exact Nat.ne_of_gt (blk_lt (g := gb261) (o := .cells #[.int .i64 x262000_2, .int .i64 x262001_2, .int .i64 x262002_2, .int .i64 x262003_2, .int .i64 x262004_2] 69 (0, 0)) (by (with_reducible repeat (first | refine blk_drewN ?_ _ | refine blk_drew ?_ | refine blk_alloc ?_ _)); exact BK261.out)) : gb282 ≠ gb261)); clear BK261; clear HB; have BK261 := n0_; have HB := n1_; have BK282 := n2_; have GW282 := n3_; have GE282 := n4_; have NB261_282 := n5_; have NB282_261 := n6_; clear n0_ n1_ n2_ n3_ n4_ n5_ n6_; clear hb hbox hg; have hnb85 := NB282_261.out; have hnc85 := NB261_282.out; have hcz86_0 : w84.cell? ⟨gb282, 0, none⟩ = some (.int .i64 0) := (blk_cell BK282.out 0).trans rfl; have hcz86_1 : w84.cell? ⟨gb282, 1, none⟩ = some (.int .i64 0) := (blk_cell BK282.out 1).trans rfl; have hcz86_2 : w84.cell? ⟨gb282, 2, none⟩ = some (.int .i64 0) := (blk_cell BK282.out 2).trans rfl; have hcz86_3 : w84.cell? ⟨gb282, 3, none⟩ = some (.int .i64 0) := (blk_cell BK282.out 3).trans rfl; have hcz86_4 : w84.cell? ⟨gb282, 4, none⟩ = some (.int .i64 0) := (blk_cell BK282.out 4).trans rfl; have hfz86_0 := blk_frozen BK282.out 0; have hfz86_1 := blk_frozen BK282.out 1; have hfz86_2 := blk_frozen BK282.out 2; have hfz86_3 := blk_frozen BK282.out 3; have hfz86_4 := blk_frozen BK282.out 4; have hcz87_0 : w84.cell? ⟨gb261, 0, none⟩ = some (.int .i64 x262000_2) := (blk_cell BK261.out 0).trans rfl; have hcz87_1 : w84.cell? ⟨gb261, 1, none⟩ = some (.int .i64 x262001_2) := (blk_cell BK261.out 1).trans rfl; have hcz87_2 : w84.cell? ⟨gb261, 2, none⟩ = some (.int .i64 x262002_2) := (blk_cell BK261.out 2).trans rfl; have hcz87_3 : w84.cell? ⟨gb261, 3, none⟩ = some (.int .i64 x262003_2) := (blk_cell BK261.out 3).trans rfl; have hcz87_4 : w84.cell? ⟨gb261, 4, none⟩ = some (.int .i64 x262004_2) := (blk_cell BK261.out 4).trans rfl; have hfz87_0 := blk_frozen BK261.out 0; have hfz87_1 := blk_frozen BK261.out 1; have hfz87_2 := blk_frozen BK261.out 2; have hfz87_3 := blk_frozen BK261.out 3; have hfz87_4 := blk_frozen BK261.out 4))
                                      go_roundg kj19
                                      case measure => have := HJ4.out; have := HK2.out; have := HJ19.out; omega
                                      case rel => exact ⟨((wrap64 (x9_2 + (Int.tmod (wrap64 ((Int.tmod (wrap64 (Int.tdiv (rd y263 x49_2) 4)) 7) + 7)) 7)))), (wrap64 (x10_2 + 1)), (x11_2), (false), (wrap64 (x49_2 + 1)), (t276), (t277), (t278), (t279), (t280), (by first | rfl | (simp; done) | (simp [*]; done)), (by first | rfl | (simp; done) | (simp [*]; done)), (by first | rfl | (simp; done) | (simp [*]; done)), (by first | rfl | (simp; done) | (simp [*]; done)), (by first | rfl | (simp; done) | (simp [*]; done)), H', ⟨by have := HJ4.out; have := HK2.out; have := HJ19.out; omega⟩, ⟨by (with_reducible repeat (first | refine blk_drewN ?_ _ | refine blk_drew ?_ | refine blk_alloc ?_ _)); refine blk_put (cs := #[.int .i64 t276, .int .i64 t277, .int .i64 t278, .int .i64 t279, .int .i64 x262004_2]) ?_ 4 _ rfl; (with_reducible repeat (first | refine blk_drewN ?_ _ | refine blk_drew ?_ | refine blk_alloc ?_ _)); refine blk_put (cs := #[.int .i64 t276, .int .i64 t277, .int .i64 t278, .int .i64 x262003_2, .int .i64 x262004_2]) ?_ 3 _ rfl; (with_reducible repeat (first | refine blk_drewN ?_ _ | refine blk_drew ?_ | refine blk_alloc ?_ _)); refine blk_put (cs := #[.int .i64 t276, .int .i64 t277, .int .i64 x262002_2, .int .i64 x262003_2, .int .i64 x262004_2]) ?_ 2 _ rfl; (with_reducible repeat (first | refine blk_drewN ?_ _ | refine blk_drew ?_ | refine blk_alloc ?_ _)); refine blk_put (cs := #[.int .i64 t276, .int .i64 x262001_2, .int .i64 x262002_2, .int .i64 x262003_2, .int .i64 x262004_2]) ?_ 1 _ rfl; (with_reducible repeat (first | refine blk_drewN ?_ _ | refine blk_drew ?_ | refine blk_alloc ?_ _)); refine blk_put (cs := #[.int .i64 x262000_2, .int .i64 x262001_2, .int .i64 x262002_2, .int .i64 x262003_2, .int .i64 x262004_2]) ?_ 0 _ rfl; (with_reducible repeat (first | refine blk_drewN ?_ _ | refine blk_drew ?_ | refine blk_alloc ?_ _)); refine blk_far ?_ NB261_282.out _; (with_reducible repeat (first | refine blk_drewN ?_ _ | refine blk_drew ?_ | refine blk_alloc ?_ _)); refine blk_far ?_ NB261_282.out _; (with_reducible repeat (first | refine blk_drewN ?_ _ | refine blk_drew ?_ | refine blk_alloc ?_ _)); refine blk_far ?_ NB261_282.out _; (with_reducible repeat (first | refine blk_drewN ?_ _ | refine blk_drew ?_ | refine blk_alloc ?_ _)); refine blk_far ?_ NB261_282.out _; (with_reducible repeat (first | refine blk_drewN ?_ _ | refine blk_drew ?_ | refine blk_alloc ?_ _)); refine blk_far ?_ NB261_282.out _; (with_reducible repeat (first | refine blk_drewN ?_ _ | refine blk_drew ?_ | refine blk_alloc ?_ _)); exact BK261.out⟩, ⟨by repeat (first | (with_reducible first | exact HB.out | apply below_alloc | apply pw_below_drewN | apply below_drew1 | refine below_set ?_ GE261.out | refine below_set ?_ GE282.out) | exact HB.out)⟩⟩
                              · rw [if_neg c60] at H
                                have c60b0 : (t281 == 0) = false := beq_eq_false_iff_ne.mpr c60
                                have c60b1 : (t281 != 0) = true := bne_iff_ne.mpr c60
                                obtain rfl := Option.some.inj H
                                have hcz88_0 : wc.cell? ⟨gb261, 0, none⟩ = some (.int .i64 x262000_2) := (blk_cell BK261.out 0).trans rfl
                                have hcz88_1 : wc.cell? ⟨gb261, 1, none⟩ = some (.int .i64 x262001_2) := (blk_cell BK261.out 1).trans rfl
                                have hcz88_2 : wc.cell? ⟨gb261, 2, none⟩ = some (.int .i64 x262002_2) := (blk_cell BK261.out 2).trans rfl
                                have hcz88_3 : wc.cell? ⟨gb261, 3, none⟩ = some (.int .i64 x262003_2) := (blk_cell BK261.out 3).trans rfl
                                have hcz88_4 : wc.cell? ⟨gb261, 4, none⟩ = some (.int .i64 x262004_2) := (blk_cell BK261.out 4).trans rfl
                                have hfz88_0 := blk_frozen BK261.out 0
                                have hfz88_1 := blk_frozen BK261.out 1
                                have hfz88_2 := blk_frozen BK261.out 2
                                have hfz88_3 := blk_frozen BK261.out 3
                                have hfz88_4 := blk_frozen BK261.out 4
                                go_wp2_with (first | ((with_reducible refine gate_callee (f := 52) rfl ?_); refine goesL_ (some 73) rfl rfl Try.func52 (by kernel_rfl) rfl #[.agg #[.int .i64 x262000_2, .int .i64 x262001_2, .int .i64 x262002_2, .int .i64 x262003_2, .int .i64 x262004_2], .int .i64 (wrap64 (x9_2 + (Int.tmod (wrap64 ((Int.tmod (wrap64 (Int.tdiv (rd y263 x49_2) 4)) 7) + 7)) 7))), .bool ((Int.tmod (wrap64 ((Int.tmod (rd y263 x49_2) 4) + 4)) 4) == 2)] rfl (by (try simp only [List.map_toArray, List.map_cons, List.map_nil]); first | done | rfl | (simp only [List.length_drop, List.length_take]; rfl) | (simp only [*]; rfl)) ?_; (with_reducible refine (breaker_Told.calls kj19 x262000_2 x262001_2 x262002_2 x262003_2 x262004_2 (wrap64 (x9_2 + (Int.tmod (wrap64 ((Int.tmod (wrap64 (Int.tdiv (rd y263 x49_2) 4)) 7) + 7)) 7))) ((Int.tmod (wrap64 ((Int.tmod (rd y263 x49_2) 4) + 4)) 4) == 2) t276 t277 t278 t279 t280 t281 _ A47.out).mono ?_); rintro e w89 ⟨rfl, hb⟩; refine ⟨_, rfl, ?_⟩; have n0_ := Aside0.mk (blk_below (g := gb261) (o := .cells #[.int .i64 x262000_2, .int .i64 x262001_2, .int .i64 x262002_2, .int .i64 x262003_2, .int .i64 x262004_2] 69 (0, 0)) (by (with_reducible repeat (first | refine blk_drewN ?_ _ | refine blk_drew ?_ | refine blk_alloc ?_ _)); exact BK261.out) hb); have n1_ := Aside0.mk (below_step (by repeat (first | (with_reducible first | exact HB.out | apply below_alloc | apply pw_below_drewN | apply below_drew1 | refine below_set ?_ GE261.out) | exact HB.out)) hb); clear BK261; clear HB; have BK261 := n0_; have HB := n1_; clear n0_ n1_; (try clear hb); (try clear hb2); (try clear hk); (try clear hi)) | ((with_reducible refine gate_dst (N := 19) rfl ?_); refine box_event ?hg (N := 19) ?hd (cs := #[.int .i64 0, .int .i64 0, .int .i64 0, .int .i64 0, .int .i64 0]) (t := 69) ?hr ?_; (case hd => rfl); (case hg => rfl); (case hr => first | (go_simp; done) | (go_simp; rfl)); intro gb282 hg w90 hbox hb; have n0_ := Aside0.mk (blk_below (g := gb261) (o := .cells #[.int .i64 x262000_2, .int .i64 x262001_2, .int .i64 x262002_2, .int .i64 x262003_2, .int .i64 x262004_2] 69 (0, 0)) (by (with_reducible repeat (first | refine blk_drewN ?_ _ | refine blk_drew ?_ | refine blk_alloc ?_ _)); exact BK261.out) hb); have n1_ := Aside0.mk (below_step (by repeat (first | (with_reducible first | exact HB.out | apply below_alloc | apply pw_below_drewN | apply below_drew1 | refine below_set ?_ GE261.out) | exact HB.out)) hb); have n2_ := Aside0.mk (hbox); have n3_ := Aside0.mk ((by rw [hg]; exact (below_size (by repeat (first | (with_reducible first | exact HB.out | apply below_alloc | apply pw_below_drewN | apply below_drew1 | refine below_set ?_ GE261.out) | exact HB.out))) : w.heap.size ≤ gb282)); have n4_ := Aside0.mk ((by rw [hg]; exact (below_size (by repeat (first | (with_reducible first | exact HB.out | apply below_alloc | apply pw_below_drewN | apply below_drew1 | refine below_set ?_ GE261.out) | exact HB.out))) : w.heap.size ≤ gb282)); have n5_ := Aside0.mk ((by rw [hg]; exact Nat.ne_of_lt (blk_lt (g := gb261) (o := .cells #[.int .i64 x262000_2, .int .i64 x262001_2, .int .i64 x262002_2, .int .i64 x262003_2, .int .i64 x262004_2] 69 (0, 0)) (by (with_reducible repeat (first | refine blk_drewN ?_ _ | refine blk_drew ?_ | refine blk_alloc ?_ _)); exact BK261.out)) : gb261 ≠ gb282)); have n6_ := Aside0.mk ((by rw [hg]; exact Nat.ne_of_gt (blk_lt (g := gb261) (o := .cells #[.int .i64 x262000_2, .int .i64 x262001_2, .int .i64 x262002_2, .int .i64 x262003_2, .int .i64 x262004_2] 69 (0, 0)) (by (with_reducible repeat (first | refine blk_drewN ?_ _ | refine blk_drew ?_ | refine blk_alloc ?_ _)); exact BK261.out)) : gb282 ≠ gb261)); clear BK261; clear HB; have BK261 := n0_; have HB := n1_; have BK282 := n2_; have GW282 := n3_; have GE282 := n4_; have NB261_282 := n5_; have NB282_261 := n6_; clear n0_ n1_ n2_ n3_ n4_ n5_ n6_; clear hb hbox hg; have hnb91 := NB282_261.out; have hnc91 := NB261_282.out; have hcz92_0 : w90.cell? ⟨gb282, 0, none⟩ = some (.int .i64 0) := (blk_cell BK282.out 0).trans rfl; have hcz92_1 : w90.cell? ⟨gb282, 1, none⟩ = some (.int .i64 0) := (blk_cell BK282.out 1).trans rfl; have hcz92_2 : w90.cell? ⟨gb282, 2, none⟩ = some (.int .i64 0) := (blk_cell BK282.out 2).trans rfl; have hcz92_3 : w90.cell? ⟨gb282, 3, none⟩ = some (.int .i64 0) := (blk_cell BK282.out 3).trans rfl; have hcz92_4 : w90.cell? ⟨gb282, 4, none⟩ = some (.int .i64 0) := (blk_cell BK282.out 4).trans rfl; have hfz92_0 := blk_frozen BK282.out 0; have hfz92_1 := blk_frozen BK282.out 1; have hfz92_2 := blk_frozen BK282.out 2; have hfz92_3 := blk_frozen BK282.out 3; have hfz92_4 := blk_frozen BK282.out 4))
                                go_ret
                                exact ⟨by first | rfl | (simp [errW_none, errW_some] <;> rfl) | (simp only [← hji13]; first | rfl | (simp [errW_none, errW_some] <;> rfl)) | (simp [*, errW_none, errW_some] <;> rfl), by repeat (first | (with_reducible first | exact HB.out | apply below_alloc | apply pw_below_drewN | apply below_drew1 | refine below_set ?_ GE261.out | refine below_set ?_ GE282.out) | exact HB.out)⟩
                    · rw [if_neg c19] at H
                      exact absurd H (by simp)
                  · rw [if_neg c18] at H
                    exact absurd H (by simp)
                · rw [if_neg c17] at H
                  have c17b0 : decide (x49_2 < (y263.length : Int)) = false := decide_eq_false c17
                  clear c17
                  obtain rfl := Option.some.inj H
                  go_wp2
                  go_ret
                  exact ⟨by first | rfl | (simp [errW_none, errW_some] <;> rfl) | (simp only [← hji13]; first | rfl | (simp [errW_none, errW_some] <;> rfl)) | (simp [*, errW_none, errW_some] <;> rfl), by repeat (first | (with_reducible first | exact HB.out | apply below_alloc | apply pw_below_drewN | apply below_drew1 | refine below_set ?_ GE261.out) | exact HB.out)⟩
          · rw [if_neg c15] at H
            exact absurd H (by simp)
        · rw [if_neg c14] at H
          exact absurd H (by simp)

/-- THE ONE PURE STATEMENT of foghornlaw07_BreakerWaits: yours. -/
def foghornlaw07_BreakerWaits.Pure : Prop := ∀ (a0 : Int) (a1 : Int) (l2 : List Int), (Lit.int .i64 a0).wf = true → (Lit.int .i64 a1).wf = true → l2.length ≤ maxLen → l2.length * 8 ≤ 140737488351232 → (∀ x ∈ l2, (Lit.int .i64 x).wf = true) → ∃ k, foghornlaw07_BreakerWaits.f k a0 a1 l2 = some true
theorem foghornlaw07_BreakerWaits.walk (P : foghornlaw07_BreakerWaits.Pure) (a0 : Int) (a1 : Int) (a2 : Option Addr) (len2 cap2 : Nat) (z2 : List Int) (w : World) (w0 : (Lit.int .i64 a0).wf = true) (w1 : (Lit.int .i64 a1).wf = true) (w2 : (a2 = none ∧ len2 = 0 ∧ cap2 = 0 ∧ z2 = []) ∨ ∃ x, a2 = some x ∧ len2 ≤ cap2 ∧ cap2 ≤ maxLen ∧ z2.length = cap2 ∧ (∀ i, i < z2.length → w.cell? (x.add i) = some (.int .i64 (z2.getD i 0))) ∧ ∀ n ∈ z2, (Lit.int .i64 n).wf = true) (y2 : len2 * 8 ≤ 140737488351232) :
    Calls Try.prog 14 #[.int .i64 a0, .int .i64 a1, .slice a2 len2 cap2] w fun e w' => e = .returned (.bool true) ∧ Below w.heap.size w w' := by
  obtain ⟨l2, rfl, hr2, hm2, hw2, hc2⟩ := ReadsInt.ofRowC w2
  obtain ⟨k, h⟩ := P a0 a1 l2 w0 w1 hm2 y2 hw2
  refine (foghornlaw07_BreakerWaits.calls k a0 a1 _ _ l2 true w (Kd.C_of_reads (d := (0 : Int)) (h1 := fun _ => rfl) hr2) hc2 h).mono ?_
  rintro e w' ⟨rfl, hd⟩
  exact ⟨rfl, hd⟩

end Go.Proofs.Ytkkopknlhijgiaa.G
