-- Written by gprint.py (this session's program round the kit's print); given texts of our own stand among the printed ones.
import Derived.Test.YtkkopknlhijgiaaG0
import Derived.Test.YtkkopknlhijgiaaG2
import Derived.Test.YtkkopknlhijgiaaG3
namespace Go.Proofs.Ytkkopknlhijgiaa.G
open Go.RowKit Go.Proofs.YtkkopknlhijgiaaW.PrintWords Go.Proofs.YtkkopknlhijgiaaW.PrintLast Go.Proofs.YtkkopknlhijgiaaW.PrintMore
attribute [local go_sem] max2_int min2_int max_two min_two max_three min_three max_four min_four   -- for this text's walks alone
set_option linter.unusedVariables false
set_option linter.unusedSimpArgs false

/-! ### foghornlaw05_TickOrder: function 4 -/
def foghornlaw05_TickOrder.j0 : Nat → Int → Int → Int → Int → Int → Int → Int → Int → Int → Int → Int → Int → Bool → Option (Bool)
  | 0, _, _, _, _, _, _, _, _, _, _, _, _, _ => none
  | k + 1, x0, x1, x2, x7, x9, x13, x15, x17, x19, x23, x25, x27, x146 => if x146 = true then (some false) else ((tick_Right.f x13).bind fun t144 => (if t144 = true then ((tick_Right.f x23).bind fun t145 => (if t145 = true then (if x7 < x0 then (some false) else (if x7 < x1 then (some false) else (if x7 = x9 then (if x13 = x15 then (if x17 = x19 then (if x27 = x0 then (if x0 = 0 then (some true) else (if x1 = 0 then (some true) else (if x2 = 0 then (some true) else (some (x23 == x25))))) else (if x7 = 1099511627776 then (if x0 = 0 then (some true) else (if x1 = 0 then (some true) else (if x2 = 0 then (some true) else (some (x23 == x25))))) else (some false))) else (some false)) else (some false)) else (some false)))) else (some false))) else (some false)))
def foghornlaw05_TickOrder.f (k : Nat) (a0 : Int) (a1 : Int) (a2 : Int) : Option (Bool) := (foghornlaw05_time.f a0).bind fun t118 => ((foghornlaw05_time.f a1).bind fun t119 => ((foghornlaw05_time.f a2).bind fun t120 => ((tick_Add.f t118 t119).bind fun bt121 => ((tick_Add.f t119 t118).bind fun bt123 => ((tick_Add.f t119 t120).bind fun bt125 => ((tick_Add.f bt121.1 t120).bind fun bt127 => ((tick_Add.f t118 bt125.1).bind fun bt129 => ((tick_Times.f t118 t119).bind fun bt131 => ((tick_Times.f t119 t118).bind fun bt133 => ((tick_Times.f t119 t120).bind fun bt135 => ((tick_Times.f bt131.1 t120).bind fun bt137 => ((tick_Times.f t118 bt135.1).bind fun bt139 => ((tick_Sub.f bt121.1 t119).bind fun bt141 => (if bt121.2 = 0 then (if bt123.2 = 0 then (if bt125.2 = 0 then (if bt127.2 = 0 then (if bt129.2 = 0 then (if bt131.2 = 0 then (if bt133.2 = 0 then (if bt135.2 = 0 then (if bt137.2 = 0 then (if bt139.2 = 0 then (if bt141.2 = 0 then ((foghornlaw05_alive.f).bind fun t143 => (foghornlaw05_TickOrder.j0 k t118 t119 t120 bt121.1 bt123.1 bt127.1 bt129.1 bt131.1 bt133.1 bt137.1 bt139.1 bt141.1 (!t143))) else (foghornlaw05_TickOrder.j0 k t118 t119 t120 bt121.1 bt123.1 bt127.1 bt129.1 bt131.1 bt133.1 bt137.1 bt139.1 bt141.1 true)) else (foghornlaw05_TickOrder.j0 k t118 t119 t120 bt121.1 bt123.1 bt127.1 bt129.1 bt131.1 bt133.1 bt137.1 bt139.1 bt141.1 true)) else (foghornlaw05_TickOrder.j0 k t118 t119 t120 bt121.1 bt123.1 bt127.1 bt129.1 bt131.1 bt133.1 bt137.1 bt139.1 bt141.1 true)) else (foghornlaw05_TickOrder.j0 k t118 t119 t120 bt121.1 bt123.1 bt127.1 bt129.1 bt131.1 bt133.1 bt137.1 bt139.1 bt141.1 true)) else (foghornlaw05_TickOrder.j0 k t118 t119 t120 bt121.1 bt123.1 bt127.1 bt129.1 bt131.1 bt133.1 bt137.1 bt139.1 bt141.1 true)) else (foghornlaw05_TickOrder.j0 k t118 t119 t120 bt121.1 bt123.1 bt127.1 bt129.1 bt131.1 bt133.1 bt137.1 bt139.1 bt141.1 true)) else (foghornlaw05_TickOrder.j0 k t118 t119 t120 bt121.1 bt123.1 bt127.1 bt129.1 bt131.1 bt133.1 bt137.1 bt139.1 bt141.1 true)) else (foghornlaw05_TickOrder.j0 k t118 t119 t120 bt121.1 bt123.1 bt127.1 bt129.1 bt131.1 bt133.1 bt137.1 bt139.1 bt141.1 true)) else (foghornlaw05_TickOrder.j0 k t118 t119 t120 bt121.1 bt123.1 bt127.1 bt129.1 bt131.1 bt133.1 bt137.1 bt139.1 bt141.1 true)) else (foghornlaw05_TickOrder.j0 k t118 t119 t120 bt121.1 bt123.1 bt127.1 bt129.1 bt131.1 bt133.1 bt137.1 bt139.1 bt141.1 true)) else (foghornlaw05_TickOrder.j0 k t118 t119 t120 bt121.1 bt123.1 bt127.1 bt129.1 bt131.1 bt133.1 bt137.1 bt139.1 bt141.1 true)))))))))))))))
theorem foghornlaw05_TickOrder.mono_l : ∀ k, (∀ y0 y1 y2 y3 y4 y5 y6 y7 y8 y9 y10 y11 y12, LeO (foghornlaw05_TickOrder.j0 k y0 y1 y2 y3 y4 y5 y6 y7 y8 y9 y10 y11 y12) (foghornlaw05_TickOrder.j0 (k + 1) y0 y1 y2 y3 y4 y5 y6 y7 y8 y9 y10 y11 y12))
  | 0 => fun _ _ _ _ _ _ _ _ _ _ _ _ _ r h => by simp [foghornlaw05_TickOrder.j0] at h
  | k + 1 => by
    have ih0 := foghornlaw05_TickOrder.mono_l k
    · intro y0 y1 y2 y3 y4 y5 y6 y7 y8 y9 y10 y11 y12
      unfold foghornlaw05_TickOrder.j0
      repeat' first
      | (with_reducible exact ih0 _ _ _ _ _ _ _ _ _ _ _ _ _)
      | (with_reducible exact LeO.refl _)
      | (with_reducible exact LeO.none _)
      | (with_reducible refine LeO.ite ?_ ?_)
      | (with_reducible refine LeO.bind ?_ (fun _ => ?_))
      | exact ih0 _ _ _ _ _ _ _ _ _ _ _ _ _
      | exact LeO.none _
      | refine LeO.ite ?_ ?_
      | refine LeO.bind ?_ (fun _ => ?_)
theorem foghornlaw05_TickOrder.mono : ∀ a0 a1 a2 k, LeO (foghornlaw05_TickOrder.f k a0 a1 a2) (foghornlaw05_TickOrder.f (k + 1) a0 a1 a2) := by
  intro a0 a1 a2 k
  have ih0 := foghornlaw05_TickOrder.mono_l k
  unfold foghornlaw05_TickOrder.f
  repeat' first
      | (with_reducible exact ih0 _ _ _ _ _ _ _ _ _ _ _ _ _)
      | (with_reducible exact LeO.refl _)
      | (with_reducible exact LeO.none _)
      | (with_reducible refine LeO.ite ?_ ?_)
      | (with_reducible refine LeO.bind ?_ (fun _ => ?_))
      | exact ih0 _ _ _ _ _ _ _ _ _ _ _ _ _
      | exact LeO.none _
      | refine LeO.ite ?_ ?_
      | refine LeO.bind ?_ (fun _ => ?_)
set_option maxHeartbeats 8000000 in
set_option maxRecDepth 100000 in
theorem foghornlaw05_TickOrder.calls (k : Nat) (a0 : Int) (a1 : Int) (a2 : Int) (r : Bool) (w : World) (h : foghornlaw05_TickOrder.f k a0 a1 a2 = some r) :
    Calls Try.prog 4 #[.int .i64 a0, .int .i64 a1, .int .i64 a2] w fun e w' => e = .returned (.bool r) ∧ Below w.heap.size w w' := by
  have HB := Aside0.mk (Below.refl w.heap.size w)
  have H : ((foghornlaw05_time.f a0).bind fun t118 => ((foghornlaw05_time.f a1).bind fun t119 => ((foghornlaw05_time.f a2).bind fun t120 => ((tick_Add.f t118 t119).bind fun bt121 => ((tick_Add.f t119 t118).bind fun bt123 => ((tick_Add.f t119 t120).bind fun bt125 => ((tick_Add.f bt121.1 t120).bind fun bt127 => ((tick_Add.f t118 bt125.1).bind fun bt129 => ((tick_Times.f t118 t119).bind fun bt131 => ((tick_Times.f t119 t118).bind fun bt133 => ((tick_Times.f t119 t120).bind fun bt135 => ((tick_Times.f bt131.1 t120).bind fun bt137 => ((tick_Times.f t118 bt135.1).bind fun bt139 => ((tick_Sub.f bt121.1 t119).bind fun bt141 => (if bt121.2 = 0 then (if bt123.2 = 0 then (if bt125.2 = 0 then (if bt127.2 = 0 then (if bt129.2 = 0 then (if bt131.2 = 0 then (if bt133.2 = 0 then (if bt135.2 = 0 then (if bt137.2 = 0 then (if bt139.2 = 0 then (if bt141.2 = 0 then ((foghornlaw05_alive.f).bind fun t143 => (foghornlaw05_TickOrder.j0 k t118 t119 t120 bt121.1 bt123.1 bt127.1 bt129.1 bt131.1 bt133.1 bt137.1 bt139.1 bt141.1 (!t143))) else (foghornlaw05_TickOrder.j0 k t118 t119 t120 bt121.1 bt123.1 bt127.1 bt129.1 bt131.1 bt133.1 bt137.1 bt139.1 bt141.1 true)) else (foghornlaw05_TickOrder.j0 k t118 t119 t120 bt121.1 bt123.1 bt127.1 bt129.1 bt131.1 bt133.1 bt137.1 bt139.1 bt141.1 true)) else (foghornlaw05_TickOrder.j0 k t118 t119 t120 bt121.1 bt123.1 bt127.1 bt129.1 bt131.1 bt133.1 bt137.1 bt139.1 bt141.1 true)) else (foghornlaw05_TickOrder.j0 k t118 t119 t120 bt121.1 bt123.1 bt127.1 bt129.1 bt131.1 bt133.1 bt137.1 bt139.1 bt141.1 true)) else (foghornlaw05_TickOrder.j0 k t118 t119 t120 bt121.1 bt123.1 bt127.1 bt129.1 bt131.1 bt133.1 bt137.1 bt139.1 bt141.1 true)) else (foghornlaw05_TickOrder.j0 k t118 t119 t120 bt121.1 bt123.1 bt127.1 bt129.1 bt131.1 bt133.1 bt137.1 bt139.1 bt141.1 true)) else (foghornlaw05_TickOrder.j0 k t118 t119 t120 bt121.1 bt123.1 bt127.1 bt129.1 bt131.1 bt133.1 bt137.1 bt139.1 bt141.1 true)) else (foghornlaw05_TickOrder.j0 k t118 t119 t120 bt121.1 bt123.1 bt127.1 bt129.1 bt131.1 bt133.1 bt137.1 bt139.1 bt141.1 true)) else (foghornlaw05_TickOrder.j0 k t118 t119 t120 bt121.1 bt123.1 bt127.1 bt129.1 bt131.1 bt133.1 bt137.1 bt139.1 bt141.1 true)) else (foghornlaw05_TickOrder.j0 k t118 t119 t120 bt121.1 bt123.1 bt127.1 bt129.1 bt131.1 bt133.1 bt137.1 bt139.1 bt141.1 true)) else (foghornlaw05_TickOrder.j0 k t118 t119 t120 bt121.1 bt123.1 bt127.1 bt129.1 bt131.1 bt133.1 bt137.1 bt139.1 bt141.1 true)))))))))))))))) = some r := h
  clear h
  replace H := Option.bind_eq_some_iff.mp H
  obtain ⟨t118, A40, H⟩ := H
  replace H : ((foghornlaw05_time.f a1).bind fun t119 => ((foghornlaw05_time.f a2).bind fun t120 => ((tick_Add.f t118 t119).bind fun bt121 => ((tick_Add.f t119 t118).bind fun bt123 => ((tick_Add.f t119 t120).bind fun bt125 => ((tick_Add.f bt121.1 t120).bind fun bt127 => ((tick_Add.f t118 bt125.1).bind fun bt129 => ((tick_Times.f t118 t119).bind fun bt131 => ((tick_Times.f t119 t118).bind fun bt133 => ((tick_Times.f t119 t120).bind fun bt135 => ((tick_Times.f bt131.1 t120).bind fun bt137 => ((tick_Times.f t118 bt135.1).bind fun bt139 => ((tick_Sub.f bt121.1 t119).bind fun bt141 => (if bt121.2 = 0 then (if bt123.2 = 0 then (if bt125.2 = 0 then (if bt127.2 = 0 then (if bt129.2 = 0 then (if bt131.2 = 0 then (if bt133.2 = 0 then (if bt135.2 = 0 then (if bt137.2 = 0 then (if bt139.2 = 0 then (if bt141.2 = 0 then ((foghornlaw05_alive.f).bind fun t143 => (foghornlaw05_TickOrder.j0 k t118 t119 t120 bt121.1 bt123.1 bt127.1 bt129.1 bt131.1 bt133.1 bt137.1 bt139.1 bt141.1 (!t143))) else (foghornlaw05_TickOrder.j0 k t118 t119 t120 bt121.1 bt123.1 bt127.1 bt129.1 bt131.1 bt133.1 bt137.1 bt139.1 bt141.1 true)) else (foghornlaw05_TickOrder.j0 k t118 t119 t120 bt121.1 bt123.1 bt127.1 bt129.1 bt131.1 bt133.1 bt137.1 bt139.1 bt141.1 true)) else (foghornlaw05_TickOrder.j0 k t118 t119 t120 bt121.1 bt123.1 bt127.1 bt129.1 bt131.1 bt133.1 bt137.1 bt139.1 bt141.1 true)) else (foghornlaw05_TickOrder.j0 k t118 t119 t120 bt121.1 bt123.1 bt127.1 bt129.1 bt131.1 bt133.1 bt137.1 bt139.1 bt141.1 true)) else (foghornlaw05_TickOrder.j0 k t118 t119 t120 bt121.1 bt123.1 bt127.1 bt129.1 bt131.1 bt133.1 bt137.1 bt139.1 bt141.1 true)) else (foghornlaw05_TickOrder.j0 k t118 t119 t120 bt121.1 bt123.1 bt127.1 bt129.1 bt131.1 bt133.1 bt137.1 bt139.1 bt141.1 true)) else (foghornlaw05_TickOrder.j0 k t118 t119 t120 bt121.1 bt123.1 bt127.1 bt129.1 bt131.1 bt133.1 bt137.1 bt139.1 bt141.1 true)) else (foghornlaw05_TickOrder.j0 k t118 t119 t120 bt121.1 bt123.1 bt127.1 bt129.1 bt131.1 bt133.1 bt137.1 bt139.1 bt141.1 true)) else (foghornlaw05_TickOrder.j0 k t118 t119 t120 bt121.1 bt123.1 bt127.1 bt129.1 bt131.1 bt133.1 bt137.1 bt139.1 bt141.1 true)) else (foghornlaw05_TickOrder.j0 k t118 t119 t120 bt121.1 bt123.1 bt127.1 bt129.1 bt131.1 bt133.1 bt137.1 bt139.1 bt141.1 true)) else (foghornlaw05_TickOrder.j0 k t118 t119 t120 bt121.1 bt123.1 bt127.1 bt129.1 bt131.1 bt133.1 bt137.1 bt139.1 bt141.1 true))))))))))))))) = some r := H
  have A4 := Aside0.mk A40
  clear A40
  replace H := Option.bind_eq_some_iff.mp H
  obtain ⟨t119, A50, H⟩ := H
  replace H : ((foghornlaw05_time.f a2).bind fun t120 => ((tick_Add.f t118 t119).bind fun bt121 => ((tick_Add.f t119 t118).bind fun bt123 => ((tick_Add.f t119 t120).bind fun bt125 => ((tick_Add.f bt121.1 t120).bind fun bt127 => ((tick_Add.f t118 bt125.1).bind fun bt129 => ((tick_Times.f t118 t119).bind fun bt131 => ((tick_Times.f t119 t118).bind fun bt133 => ((tick_Times.f t119 t120).bind fun bt135 => ((tick_Times.f bt131.1 t120).bind fun bt137 => ((tick_Times.f t118 bt135.1).bind fun bt139 => ((tick_Sub.f bt121.1 t119).bind fun bt141 => (if bt121.2 = 0 then (if bt123.2 = 0 then (if bt125.2 = 0 then (if bt127.2 = 0 then (if bt129.2 = 0 then (if bt131.2 = 0 then (if bt133.2 = 0 then (if bt135.2 = 0 then (if bt137.2 = 0 then (if bt139.2 = 0 then (if bt141.2 = 0 then ((foghornlaw05_alive.f).bind fun t143 => (foghornlaw05_TickOrder.j0 k t118 t119 t120 bt121.1 bt123.1 bt127.1 bt129.1 bt131.1 bt133.1 bt137.1 bt139.1 bt141.1 (!t143))) else (foghornlaw05_TickOrder.j0 k t118 t119 t120 bt121.1 bt123.1 bt127.1 bt129.1 bt131.1 bt133.1 bt137.1 bt139.1 bt141.1 true)) else (foghornlaw05_TickOrder.j0 k t118 t119 t120 bt121.1 bt123.1 bt127.1 bt129.1 bt131.1 bt133.1 bt137.1 bt139.1 bt141.1 true)) else (foghornlaw05_TickOrder.j0 k t118 t119 t120 bt121.1 bt123.1 bt127.1 bt129.1 bt131.1 bt133.1 bt137.1 bt139.1 bt141.1 true)) else (foghornlaw05_TickOrder.j0 k t118 t119 t120 bt121.1 bt123.1 bt127.1 bt129.1 bt131.1 bt133.1 bt137.1 bt139.1 bt141.1 true)) else (foghornlaw05_TickOrder.j0 k t118 t119 t120 bt121.1 bt123.1 bt127.1 bt129.1 bt131.1 bt133.1 bt137.1 bt139.1 bt141.1 true)) else (foghornlaw05_TickOrder.j0 k t118 t119 t120 bt121.1 bt123.1 bt127.1 bt129.1 bt131.1 bt133.1 bt137.1 bt139.1 bt141.1 true)) else (foghornlaw05_TickOrder.j0 k t118 t119 t120 bt121.1 bt123.1 bt127.1 bt129.1 bt131.1 bt133.1 bt137.1 bt139.1 bt141.1 true)) else (foghornlaw05_TickOrder.j0 k t118 t119 t120 bt121.1 bt123.1 bt127.1 bt129.1 bt131.1 bt133.1 bt137.1 bt139.1 bt141.1 true)) else (foghornlaw05_TickOrder.j0 k t118 t119 t120 bt121.1 bt123.1 bt127.1 bt129.1 bt131.1 bt133.1 bt137.1 bt139.1 bt141.1 true)) else (foghornlaw05_TickOrder.j0 k t118 t119 t120 bt121.1 bt123.1 bt127.1 bt129.1 bt131.1 bt133.1 bt137.1 bt139.1 bt141.1 true)) else (foghornlaw05_TickOrder.j0 k t118 t119 t120 bt121.1 bt123.1 bt127.1 bt129.1 bt131.1 bt133.1 bt137.1 bt139.1 bt141.1 true)))))))))))))) = some r := H
  have A5 := Aside0.mk A50
  clear A50
  replace H := Option.bind_eq_some_iff.mp H
  obtain ⟨t120, A60, H⟩ := H
  replace H : ((tick_Add.f t118 t119).bind fun bt121 => ((tick_Add.f t119 t118).bind fun bt123 => ((tick_Add.f t119 t120).bind fun bt125 => ((tick_Add.f bt121.1 t120).bind fun bt127 => ((tick_Add.f t118 bt125.1).bind fun bt129 => ((tick_Times.f t118 t119).bind fun bt131 => ((tick_Times.f t119 t118).bind fun bt133 => ((tick_Times.f t119 t120).bind fun bt135 => ((tick_Times.f bt131.1 t120).bind fun bt137 => ((tick_Times.f t118 bt135.1).bind fun bt139 => ((tick_Sub.f bt121.1 t119).bind fun bt141 => (if bt121.2 = 0 then (if bt123.2 = 0 then (if bt125.2 = 0 then (if bt127.2 = 0 then (if bt129.2 = 0 then (if bt131.2 = 0 then (if bt133.2 = 0 then (if bt135.2 = 0 then (if bt137.2 = 0 then (if bt139.2 = 0 then (if bt141.2 = 0 then ((foghornlaw05_alive.f).bind fun t143 => (foghornlaw05_TickOrder.j0 k t118 t119 t120 bt121.1 bt123.1 bt127.1 bt129.1 bt131.1 bt133.1 bt137.1 bt139.1 bt141.1 (!t143))) else (foghornlaw05_TickOrder.j0 k t118 t119 t120 bt121.1 bt123.1 bt127.1 bt129.1 bt131.1 bt133.1 bt137.1 bt139.1 bt141.1 true)) else (foghornlaw05_TickOrder.j0 k t118 t119 t120 bt121.1 bt123.1 bt127.1 bt129.1 bt131.1 bt133.1 bt137.1 bt139.1 bt141.1 true)) else (foghornlaw05_TickOrder.j0 k t118 t119 t120 bt121.1 bt123.1 bt127.1 bt129.1 bt131.1 bt133.1 bt137.1 bt139.1 bt141.1 true)) else (foghornlaw05_TickOrder.j0 k t118 t119 t120 bt121.1 bt123.1 bt127.1 bt129.1 bt131.1 bt133.1 bt137.1 bt139.1 bt141.1 true)) else (foghornlaw05_TickOrder.j0 k t118 t119 t120 bt121.1 bt123.1 bt127.1 bt129.1 bt131.1 bt133.1 bt137.1 bt139.1 bt141.1 true)) else (foghornlaw05_TickOrder.j0 k t118 t119 t120 bt121.1 bt123.1 bt127.1 bt129.1 bt131.1 bt133.1 bt137.1 bt139.1 bt141.1 true)) else (foghornlaw05_TickOrder.j0 k t118 t119 t120 bt121.1 bt123.1 bt127.1 bt129.1 bt131.1 bt133.1 bt137.1 bt139.1 bt141.1 true)) else (foghornlaw05_TickOrder.j0 k t118 t119 t120 bt121.1 bt123.1 bt127.1 bt129.1 bt131.1 bt133.1 bt137.1 bt139.1 bt141.1 true)) else (foghornlaw05_TickOrder.j0 k t118 t119 t120 bt121.1 bt123.1 bt127.1 bt129.1 bt131.1 bt133.1 bt137.1 bt139.1 bt141.1 true)) else (foghornlaw05_TickOrder.j0 k t118 t119 t120 bt121.1 bt123.1 bt127.1 bt129.1 bt131.1 bt133.1 bt137.1 bt139.1 bt141.1 true)) else (foghornlaw05_TickOrder.j0 k t118 t119 t120 bt121.1 bt123.1 bt127.1 bt129.1 bt131.1 bt133.1 bt137.1 bt139.1 bt141.1 true))))))))))))) = some r := H
  have A6 := Aside0.mk A60
  clear A60
  replace H := Option.bind_eq_some_iff.mp H
  obtain ⟨⟨t121, t122⟩, A70, H⟩ := H
  replace H : ((tick_Add.f t119 t118).bind fun bt123 => ((tick_Add.f t119 t120).bind fun bt125 => ((tick_Add.f t121 t120).bind fun bt127 => ((tick_Add.f t118 bt125.1).bind fun bt129 => ((tick_Times.f t118 t119).bind fun bt131 => ((tick_Times.f t119 t118).bind fun bt133 => ((tick_Times.f t119 t120).bind fun bt135 => ((tick_Times.f bt131.1 t120).bind fun bt137 => ((tick_Times.f t118 bt135.1).bind fun bt139 => ((tick_Sub.f t121 t119).bind fun bt141 => (if t122 = 0 then (if bt123.2 = 0 then (if bt125.2 = 0 then (if bt127.2 = 0 then (if bt129.2 = 0 then (if bt131.2 = 0 then (if bt133.2 = 0 then (if bt135.2 = 0 then (if bt137.2 = 0 then (if bt139.2 = 0 then (if bt141.2 = 0 then ((foghornlaw05_alive.f).bind fun t143 => (foghornlaw05_TickOrder.j0 k t118 t119 t120 t121 bt123.1 bt127.1 bt129.1 bt131.1 bt133.1 bt137.1 bt139.1 bt141.1 (!t143))) else (foghornlaw05_TickOrder.j0 k t118 t119 t120 t121 bt123.1 bt127.1 bt129.1 bt131.1 bt133.1 bt137.1 bt139.1 bt141.1 true)) else (foghornlaw05_TickOrder.j0 k t118 t119 t120 t121 bt123.1 bt127.1 bt129.1 bt131.1 bt133.1 bt137.1 bt139.1 bt141.1 true)) else (foghornlaw05_TickOrder.j0 k t118 t119 t120 t121 bt123.1 bt127.1 bt129.1 bt131.1 bt133.1 bt137.1 bt139.1 bt141.1 true)) else (foghornlaw05_TickOrder.j0 k t118 t119 t120 t121 bt123.1 bt127.1 bt129.1 bt131.1 bt133.1 bt137.1 bt139.1 bt141.1 true)) else (foghornlaw05_TickOrder.j0 k t118 t119 t120 t121 bt123.1 bt127.1 bt129.1 bt131.1 bt133.1 bt137.1 bt139.1 bt141.1 true)) else (foghornlaw05_TickOrder.j0 k t118 t119 t120 t121 bt123.1 bt127.1 bt129.1 bt131.1 bt133.1 bt137.1 bt139.1 bt141.1 true)) else (foghornlaw05_TickOrder.j0 k t118 t119 t120 t121 bt123.1 bt127.1 bt129.1 bt131.1 bt133.1 bt137.1 bt139.1 bt141.1 true)) else (foghornlaw05_TickOrder.j0 k t118 t119 t120 t121 bt123.1 bt127.1 bt129.1 bt131.1 bt133.1 bt137.1 bt139.1 bt141.1 true)) else (foghornlaw05_TickOrder.j0 k t118 t119 t120 t121 bt123.1 bt127.1 bt129.1 bt131.1 bt133.1 bt137.1 bt139.1 bt141.1 true)) else (foghornlaw05_TickOrder.j0 k t118 t119 t120 t121 bt123.1 bt127.1 bt129.1 bt131.1 bt133.1 bt137.1 bt139.1 bt141.1 true)) else (foghornlaw05_TickOrder.j0 k t118 t119 t120 t121 bt123.1 bt127.1 bt129.1 bt131.1 bt133.1 bt137.1 bt139.1 bt141.1 true)))))))))))) = some r := H
  have A7 := Aside0.mk A70
  clear A70
  replace H := Option.bind_eq_some_iff.mp H
  obtain ⟨⟨t123, t124⟩, A80, H⟩ := H
  replace H : ((tick_Add.f t119 t120).bind fun bt125 => ((tick_Add.f t121 t120).bind fun bt127 => ((tick_Add.f t118 bt125.1).bind fun bt129 => ((tick_Times.f t118 t119).bind fun bt131 => ((tick_Times.f t119 t118).bind fun bt133 => ((tick_Times.f t119 t120).bind fun bt135 => ((tick_Times.f bt131.1 t120).bind fun bt137 => ((tick_Times.f t118 bt135.1).bind fun bt139 => ((tick_Sub.f t121 t119).bind fun bt141 => (if t122 = 0 then (if t124 = 0 then (if bt125.2 = 0 then (if bt127.2 = 0 then (if bt129.2 = 0 then (if bt131.2 = 0 then (if bt133.2 = 0 then (if bt135.2 = 0 then (if bt137.2 = 0 then (if bt139.2 = 0 then (if bt141.2 = 0 then ((foghornlaw05_alive.f).bind fun t143 => (foghornlaw05_TickOrder.j0 k t118 t119 t120 t121 t123 bt127.1 bt129.1 bt131.1 bt133.1 bt137.1 bt139.1 bt141.1 (!t143))) else (foghornlaw05_TickOrder.j0 k t118 t119 t120 t121 t123 bt127.1 bt129.1 bt131.1 bt133.1 bt137.1 bt139.1 bt141.1 true)) else (foghornlaw05_TickOrder.j0 k t118 t119 t120 t121 t123 bt127.1 bt129.1 bt131.1 bt133.1 bt137.1 bt139.1 bt141.1 true)) else (foghornlaw05_TickOrder.j0 k t118 t119 t120 t121 t123 bt127.1 bt129.1 bt131.1 bt133.1 bt137.1 bt139.1 bt141.1 true)) else (foghornlaw05_TickOrder.j0 k t118 t119 t120 t121 t123 bt127.1 bt129.1 bt131.1 bt133.1 bt137.1 bt139.1 bt141.1 true)) else (foghornlaw05_TickOrder.j0 k t118 t119 t120 t121 t123 bt127.1 bt129.1 bt131.1 bt133.1 bt137.1 bt139.1 bt141.1 true)) else (foghornlaw05_TickOrder.j0 k t118 t119 t120 t121 t123 bt127.1 bt129.1 bt131.1 bt133.1 bt137.1 bt139.1 bt141.1 true)) else (foghornlaw05_TickOrder.j0 k t118 t119 t120 t121 t123 bt127.1 bt129.1 bt131.1 bt133.1 bt137.1 bt139.1 bt141.1 true)) else (foghornlaw05_TickOrder.j0 k t118 t119 t120 t121 t123 bt127.1 bt129.1 bt131.1 bt133.1 bt137.1 bt139.1 bt141.1 true)) else (foghornlaw05_TickOrder.j0 k t118 t119 t120 t121 t123 bt127.1 bt129.1 bt131.1 bt133.1 bt137.1 bt139.1 bt141.1 true)) else (foghornlaw05_TickOrder.j0 k t118 t119 t120 t121 t123 bt127.1 bt129.1 bt131.1 bt133.1 bt137.1 bt139.1 bt141.1 true)) else (foghornlaw05_TickOrder.j0 k t118 t119 t120 t121 t123 bt127.1 bt129.1 bt131.1 bt133.1 bt137.1 bt139.1 bt141.1 true))))))))))) = some r := H
  have A8 := Aside0.mk A80
  clear A80
  replace H := Option.bind_eq_some_iff.mp H
  obtain ⟨⟨t125, t126⟩, A90, H⟩ := H
  replace H : ((tick_Add.f t121 t120).bind fun bt127 => ((tick_Add.f t118 t125).bind fun bt129 => ((tick_Times.f t118 t119).bind fun bt131 => ((tick_Times.f t119 t118).bind fun bt133 => ((tick_Times.f t119 t120).bind fun bt135 => ((tick_Times.f bt131.1 t120).bind fun bt137 => ((tick_Times.f t118 bt135.1).bind fun bt139 => ((tick_Sub.f t121 t119).bind fun bt141 => (if t122 = 0 then (if t124 = 0 then (if t126 = 0 then (if bt127.2 = 0 then (if bt129.2 = 0 then (if bt131.2 = 0 then (if bt133.2 = 0 then (if bt135.2 = 0 then (if bt137.2 = 0 then (if bt139.2 = 0 then (if bt141.2 = 0 then ((foghornlaw05_alive.f).bind fun t143 => (foghornlaw05_TickOrder.j0 k t118 t119 t120 t121 t123 bt127.1 bt129.1 bt131.1 bt133.1 bt137.1 bt139.1 bt141.1 (!t143))) else (foghornlaw05_TickOrder.j0 k t118 t119 t120 t121 t123 bt127.1 bt129.1 bt131.1 bt133.1 bt137.1 bt139.1 bt141.1 true)) else (foghornlaw05_TickOrder.j0 k t118 t119 t120 t121 t123 bt127.1 bt129.1 bt131.1 bt133.1 bt137.1 bt139.1 bt141.1 true)) else (foghornlaw05_TickOrder.j0 k t118 t119 t120 t121 t123 bt127.1 bt129.1 bt131.1 bt133.1 bt137.1 bt139.1 bt141.1 true)) else (foghornlaw05_TickOrder.j0 k t118 t119 t120 t121 t123 bt127.1 bt129.1 bt131.1 bt133.1 bt137.1 bt139.1 bt141.1 true)) else (foghornlaw05_TickOrder.j0 k t118 t119 t120 t121 t123 bt127.1 bt129.1 bt131.1 bt133.1 bt137.1 bt139.1 bt141.1 true)) else (foghornlaw05_TickOrder.j0 k t118 t119 t120 t121 t123 bt127.1 bt129.1 bt131.1 bt133.1 bt137.1 bt139.1 bt141.1 true)) else (foghornlaw05_TickOrder.j0 k t118 t119 t120 t121 t123 bt127.1 bt129.1 bt131.1 bt133.1 bt137.1 bt139.1 bt141.1 true)) else (foghornlaw05_TickOrder.j0 k t118 t119 t120 t121 t123 bt127.1 bt129.1 bt131.1 bt133.1 bt137.1 bt139.1 bt141.1 true)) else (foghornlaw05_TickOrder.j0 k t118 t119 t120 t121 t123 bt127.1 bt129.1 bt131.1 bt133.1 bt137.1 bt139.1 bt141.1 true)) else (foghornlaw05_TickOrder.j0 k t118 t119 t120 t121 t123 bt127.1 bt129.1 bt131.1 bt133.1 bt137.1 bt139.1 bt141.1 true)) else (foghornlaw05_TickOrder.j0 k t118 t119 t120 t121 t123 bt127.1 bt129.1 bt131.1 bt133.1 bt137.1 bt139.1 bt141.1 true)))))))))) = some r := H
  have A9 := Aside0.mk A90
  clear A90
  replace H := Option.bind_eq_some_iff.mp H
  obtain ⟨⟨t127, t128⟩, A100, H⟩ := H
  replace H : ((tick_Add.f t118 t125).bind fun bt129 => ((tick_Times.f t118 t119).bind fun bt131 => ((tick_Times.f t119 t118).bind fun bt133 => ((tick_Times.f t119 t120).bind fun bt135 => ((tick_Times.f bt131.1 t120).bind fun bt137 => ((tick_Times.f t118 bt135.1).bind fun bt139 => ((tick_Sub.f t121 t119).bind fun bt141 => (if t122 = 0 then (if t124 = 0 then (if t126 = 0 then (if t128 = 0 then (if bt129.2 = 0 then (if bt131.2 = 0 then (if bt133.2 = 0 then (if bt135.2 = 0 then (if bt137.2 = 0 then (if bt139.2 = 0 then (if bt141.2 = 0 then ((foghornlaw05_alive.f).bind fun t143 => (foghornlaw05_TickOrder.j0 k t118 t119 t120 t121 t123 t127 bt129.1 bt131.1 bt133.1 bt137.1 bt139.1 bt141.1 (!t143))) else (foghornlaw05_TickOrder.j0 k t118 t119 t120 t121 t123 t127 bt129.1 bt131.1 bt133.1 bt137.1 bt139.1 bt141.1 true)) else (foghornlaw05_TickOrder.j0 k t118 t119 t120 t121 t123 t127 bt129.1 bt131.1 bt133.1 bt137.1 bt139.1 bt141.1 true)) else (foghornlaw05_TickOrder.j0 k t118 t119 t120 t121 t123 t127 bt129.1 bt131.1 bt133.1 bt137.1 bt139.1 bt141.1 true)) else (foghornlaw05_TickOrder.j0 k t118 t119 t120 t121 t123 t127 bt129.1 bt131.1 bt133.1 bt137.1 bt139.1 bt141.1 true)) else (foghornlaw05_TickOrder.j0 k t118 t119 t120 t121 t123 t127 bt129.1 bt131.1 bt133.1 bt137.1 bt139.1 bt141.1 true)) else (foghornlaw05_TickOrder.j0 k t118 t119 t120 t121 t123 t127 bt129.1 bt131.1 bt133.1 bt137.1 bt139.1 bt141.1 true)) else (foghornlaw05_TickOrder.j0 k t118 t119 t120 t121 t123 t127 bt129.1 bt131.1 bt133.1 bt137.1 bt139.1 bt141.1 true)) else (foghornlaw05_TickOrder.j0 k t118 t119 t120 t121 t123 t127 bt129.1 bt131.1 bt133.1 bt137.1 bt139.1 bt141.1 true)) else (foghornlaw05_TickOrder.j0 k t118 t119 t120 t121 t123 t127 bt129.1 bt131.1 bt133.1 bt137.1 bt139.1 bt141.1 true)) else (foghornlaw05_TickOrder.j0 k t118 t119 t120 t121 t123 t127 bt129.1 bt131.1 bt133.1 bt137.1 bt139.1 bt141.1 true)) else (foghornlaw05_TickOrder.j0 k t118 t119 t120 t121 t123 t127 bt129.1 bt131.1 bt133.1 bt137.1 bt139.1 bt141.1 true))))))))) = some r := H
  have A10 := Aside0.mk A100
  clear A100
  replace H := Option.bind_eq_some_iff.mp H
  obtain ⟨⟨t129, t130⟩, A110, H⟩ := H
  replace H : ((tick_Times.f t118 t119).bind fun bt131 => ((tick_Times.f t119 t118).bind fun bt133 => ((tick_Times.f t119 t120).bind fun bt135 => ((tick_Times.f bt131.1 t120).bind fun bt137 => ((tick_Times.f t118 bt135.1).bind fun bt139 => ((tick_Sub.f t121 t119).bind fun bt141 => (if t122 = 0 then (if t124 = 0 then (if t126 = 0 then (if t128 = 0 then (if t130 = 0 then (if bt131.2 = 0 then (if bt133.2 = 0 then (if bt135.2 = 0 then (if bt137.2 = 0 then (if bt139.2 = 0 then (if bt141.2 = 0 then ((foghornlaw05_alive.f).bind fun t143 => (foghornlaw05_TickOrder.j0 k t118 t119 t120 t121 t123 t127 t129 bt131.1 bt133.1 bt137.1 bt139.1 bt141.1 (!t143))) else (foghornlaw05_TickOrder.j0 k t118 t119 t120 t121 t123 t127 t129 bt131.1 bt133.1 bt137.1 bt139.1 bt141.1 true)) else (foghornlaw05_TickOrder.j0 k t118 t119 t120 t121 t123 t127 t129 bt131.1 bt133.1 bt137.1 bt139.1 bt141.1 true)) else (foghornlaw05_TickOrder.j0 k t118 t119 t120 t121 t123 t127 t129 bt131.1 bt133.1 bt137.1 bt139.1 bt141.1 true)) else (foghornlaw05_TickOrder.j0 k t118 t119 t120 t121 t123 t127 t129 bt131.1 bt133.1 bt137.1 bt139.1 bt141.1 true)) else (foghornlaw05_TickOrder.j0 k t118 t119 t120 t121 t123 t127 t129 bt131.1 bt133.1 bt137.1 bt139.1 bt141.1 true)) else (foghornlaw05_TickOrder.j0 k t118 t119 t120 t121 t123 t127 t129 bt131.1 bt133.1 bt137.1 bt139.1 bt141.1 true)) else (foghornlaw05_TickOrder.j0 k t118 t119 t120 t121 t123 t127 t129 bt131.1 bt133.1 bt137.1 bt139.1 bt141.1 true)) else (foghornlaw05_TickOrder.j0 k t118 t119 t120 t121 t123 t127 t129 bt131.1 bt133.1 bt137.1 bt139.1 bt141.1 true)) else (foghornlaw05_TickOrder.j0 k t118 t119 t120 t121 t123 t127 t129 bt131.1 bt133.1 bt137.1 bt139.1 bt141.1 true)) else (foghornlaw05_TickOrder.j0 k t118 t119 t120 t121 t123 t127 t129 bt131.1 bt133.1 bt137.1 bt139.1 bt141.1 true)) else (foghornlaw05_TickOrder.j0 k t118 t119 t120 t121 t123 t127 t129 bt131.1 bt133.1 bt137.1 bt139.1 bt141.1 true)))))))) = some r := H
  have A11 := Aside0.mk A110
  clear A110
  replace H := Option.bind_eq_some_iff.mp H
  obtain ⟨⟨t131, t132⟩, A120, H⟩ := H
  replace H : ((tick_Times.f t119 t118).bind fun bt133 => ((tick_Times.f t119 t120).bind fun bt135 => ((tick_Times.f t131 t120).bind fun bt137 => ((tick_Times.f t118 bt135.1).bind fun bt139 => ((tick_Sub.f t121 t119).bind fun bt141 => (if t122 = 0 then (if t124 = 0 then (if t126 = 0 then (if t128 = 0 then (if t130 = 0 then (if t132 = 0 then (if bt133.2 = 0 then (if bt135.2 = 0 then (if bt137.2 = 0 then (if bt139.2 = 0 then (if bt141.2 = 0 then ((foghornlaw05_alive.f).bind fun t143 => (foghornlaw05_TickOrder.j0 k t118 t119 t120 t121 t123 t127 t129 t131 bt133.1 bt137.1 bt139.1 bt141.1 (!t143))) else (foghornlaw05_TickOrder.j0 k t118 t119 t120 t121 t123 t127 t129 t131 bt133.1 bt137.1 bt139.1 bt141.1 true)) else (foghornlaw05_TickOrder.j0 k t118 t119 t120 t121 t123 t127 t129 t131 bt133.1 bt137.1 bt139.1 bt141.1 true)) else (foghornlaw05_TickOrder.j0 k t118 t119 t120 t121 t123 t127 t129 t131 bt133.1 bt137.1 bt139.1 bt141.1 true)) else (foghornlaw05_TickOrder.j0 k t118 t119 t120 t121 t123 t127 t129 t131 bt133.1 bt137.1 bt139.1 bt141.1 true)) else (foghornlaw05_TickOrder.j0 k t118 t119 t120 t121 t123 t127 t129 t131 bt133.1 bt137.1 bt139.1 bt141.1 true)) else (foghornlaw05_TickOrder.j0 k t118 t119 t120 t121 t123 t127 t129 t131 bt133.1 bt137.1 bt139.1 bt141.1 true)) else (foghornlaw05_TickOrder.j0 k t118 t119 t120 t121 t123 t127 t129 t131 bt133.1 bt137.1 bt139.1 bt141.1 true)) else (foghornlaw05_TickOrder.j0 k t118 t119 t120 t121 t123 t127 t129 t131 bt133.1 bt137.1 bt139.1 bt141.1 true)) else (foghornlaw05_TickOrder.j0 k t118 t119 t120 t121 t123 t127 t129 t131 bt133.1 bt137.1 bt139.1 bt141.1 true)) else (foghornlaw05_TickOrder.j0 k t118 t119 t120 t121 t123 t127 t129 t131 bt133.1 bt137.1 bt139.1 bt141.1 true)) else (foghornlaw05_TickOrder.j0 k t118 t119 t120 t121 t123 t127 t129 t131 bt133.1 bt137.1 bt139.1 bt141.1 true))))))) = some r := H
  have A12 := Aside0.mk A120
  clear A120
  replace H := Option.bind_eq_some_iff.mp H
  obtain ⟨⟨t133, t134⟩, A130, H⟩ := H
  replace H : ((tick_Times.f t119 t120).bind fun bt135 => ((tick_Times.f t131 t120).bind fun bt137 => ((tick_Times.f t118 bt135.1).bind fun bt139 => ((tick_Sub.f t121 t119).bind fun bt141 => (if t122 = 0 then (if t124 = 0 then (if t126 = 0 then (if t128 = 0 then (if t130 = 0 then (if t132 = 0 then (if t134 = 0 then (if bt135.2 = 0 then (if bt137.2 = 0 then (if bt139.2 = 0 then (if bt141.2 = 0 then ((foghornlaw05_alive.f).bind fun t143 => (foghornlaw05_TickOrder.j0 k t118 t119 t120 t121 t123 t127 t129 t131 t133 bt137.1 bt139.1 bt141.1 (!t143))) else (foghornlaw05_TickOrder.j0 k t118 t119 t120 t121 t123 t127 t129 t131 t133 bt137.1 bt139.1 bt141.1 true)) else (foghornlaw05_TickOrder.j0 k t118 t119 t120 t121 t123 t127 t129 t131 t133 bt137.1 bt139.1 bt141.1 true)) else (foghornlaw05_TickOrder.j0 k t118 t119 t120 t121 t123 t127 t129 t131 t133 bt137.1 bt139.1 bt141.1 true)) else (foghornlaw05_TickOrder.j0 k t118 t119 t120 t121 t123 t127 t129 t131 t133 bt137.1 bt139.1 bt141.1 true)) else (foghornlaw05_TickOrder.j0 k t118 t119 t120 t121 t123 t127 t129 t131 t133 bt137.1 bt139.1 bt141.1 true)) else (foghornlaw05_TickOrder.j0 k t118 t119 t120 t121 t123 t127 t129 t131 t133 bt137.1 bt139.1 bt141.1 true)) else (foghornlaw05_TickOrder.j0 k t118 t119 t120 t121 t123 t127 t129 t131 t133 bt137.1 bt139.1 bt141.1 true)) else (foghornlaw05_TickOrder.j0 k t118 t119 t120 t121 t123 t127 t129 t131 t133 bt137.1 bt139.1 bt141.1 true)) else (foghornlaw05_TickOrder.j0 k t118 t119 t120 t121 t123 t127 t129 t131 t133 bt137.1 bt139.1 bt141.1 true)) else (foghornlaw05_TickOrder.j0 k t118 t119 t120 t121 t123 t127 t129 t131 t133 bt137.1 bt139.1 bt141.1 true)) else (foghornlaw05_TickOrder.j0 k t118 t119 t120 t121 t123 t127 t129 t131 t133 bt137.1 bt139.1 bt141.1 true)))))) = some r := H
  have A13 := Aside0.mk A130
  clear A130
  replace H := Option.bind_eq_some_iff.mp H
  obtain ⟨⟨t135, t136⟩, A140, H⟩ := H
  replace H : ((tick_Times.f t131 t120).bind fun bt137 => ((tick_Times.f t118 t135).bind fun bt139 => ((tick_Sub.f t121 t119).bind fun bt141 => (if t122 = 0 then (if t124 = 0 then (if t126 = 0 then (if t128 = 0 then (if t130 = 0 then (if t132 = 0 then (if t134 = 0 then (if t136 = 0 then (if bt137.2 = 0 then (if bt139.2 = 0 then (if bt141.2 = 0 then ((foghornlaw05_alive.f).bind fun t143 => (foghornlaw05_TickOrder.j0 k t118 t119 t120 t121 t123 t127 t129 t131 t133 bt137.1 bt139.1 bt141.1 (!t143))) else (foghornlaw05_TickOrder.j0 k t118 t119 t120 t121 t123 t127 t129 t131 t133 bt137.1 bt139.1 bt141.1 true)) else (foghornlaw05_TickOrder.j0 k t118 t119 t120 t121 t123 t127 t129 t131 t133 bt137.1 bt139.1 bt141.1 true)) else (foghornlaw05_TickOrder.j0 k t118 t119 t120 t121 t123 t127 t129 t131 t133 bt137.1 bt139.1 bt141.1 true)) else (foghornlaw05_TickOrder.j0 k t118 t119 t120 t121 t123 t127 t129 t131 t133 bt137.1 bt139.1 bt141.1 true)) else (foghornlaw05_TickOrder.j0 k t118 t119 t120 t121 t123 t127 t129 t131 t133 bt137.1 bt139.1 bt141.1 true)) else (foghornlaw05_TickOrder.j0 k t118 t119 t120 t121 t123 t127 t129 t131 t133 bt137.1 bt139.1 bt141.1 true)) else (foghornlaw05_TickOrder.j0 k t118 t119 t120 t121 t123 t127 t129 t131 t133 bt137.1 bt139.1 bt141.1 true)) else (foghornlaw05_TickOrder.j0 k t118 t119 t120 t121 t123 t127 t129 t131 t133 bt137.1 bt139.1 bt141.1 true)) else (foghornlaw05_TickOrder.j0 k t118 t119 t120 t121 t123 t127 t129 t131 t133 bt137.1 bt139.1 bt141.1 true)) else (foghornlaw05_TickOrder.j0 k t118 t119 t120 t121 t123 t127 t129 t131 t133 bt137.1 bt139.1 bt141.1 true)) else (foghornlaw05_TickOrder.j0 k t118 t119 t120 t121 t123 t127 t129 t131 t133 bt137.1 bt139.1 bt141.1 true))))) = some r := H
  have A14 := Aside0.mk A140
  clear A140
  replace H := Option.bind_eq_some_iff.mp H
  obtain ⟨⟨t137, t138⟩, A150, H⟩ := H
  replace H : ((tick_Times.f t118 t135).bind fun bt139 => ((tick_Sub.f t121 t119).bind fun bt141 => (if t122 = 0 then (if t124 = 0 then (if t126 = 0 then (if t128 = 0 then (if t130 = 0 then (if t132 = 0 then (if t134 = 0 then (if t136 = 0 then (if t138 = 0 then (if bt139.2 = 0 then (if bt141.2 = 0 then ((foghornlaw05_alive.f).bind fun t143 => (foghornlaw05_TickOrder.j0 k t118 t119 t120 t121 t123 t127 t129 t131 t133 t137 bt139.1 bt141.1 (!t143))) else (foghornlaw05_TickOrder.j0 k t118 t119 t120 t121 t123 t127 t129 t131 t133 t137 bt139.1 bt141.1 true)) else (foghornlaw05_TickOrder.j0 k t118 t119 t120 t121 t123 t127 t129 t131 t133 t137 bt139.1 bt141.1 true)) else (foghornlaw05_TickOrder.j0 k t118 t119 t120 t121 t123 t127 t129 t131 t133 t137 bt139.1 bt141.1 true)) else (foghornlaw05_TickOrder.j0 k t118 t119 t120 t121 t123 t127 t129 t131 t133 t137 bt139.1 bt141.1 true)) else (foghornlaw05_TickOrder.j0 k t118 t119 t120 t121 t123 t127 t129 t131 t133 t137 bt139.1 bt141.1 true)) else (foghornlaw05_TickOrder.j0 k t118 t119 t120 t121 t123 t127 t129 t131 t133 t137 bt139.1 bt141.1 true)) else (foghornlaw05_TickOrder.j0 k t118 t119 t120 t121 t123 t127 t129 t131 t133 t137 bt139.1 bt141.1 true)) else (foghornlaw05_TickOrder.j0 k t118 t119 t120 t121 t123 t127 t129 t131 t133 t137 bt139.1 bt141.1 true)) else (foghornlaw05_TickOrder.j0 k t118 t119 t120 t121 t123 t127 t129 t131 t133 t137 bt139.1 bt141.1 true)) else (foghornlaw05_TickOrder.j0 k t118 t119 t120 t121 t123 t127 t129 t131 t133 t137 bt139.1 bt141.1 true)) else (foghornlaw05_TickOrder.j0 k t118 t119 t120 t121 t123 t127 t129 t131 t133 t137 bt139.1 bt141.1 true)))) = some r := H
  have A15 := Aside0.mk A150
  clear A150
  replace H := Option.bind_eq_some_iff.mp H
  obtain ⟨⟨t139, t140⟩, A160, H⟩ := H
  replace H : ((tick_Sub.f t121 t119).bind fun bt141 => (if t122 = 0 then (if t124 = 0 then (if t126 = 0 then (if t128 = 0 then (if t130 = 0 then (if t132 = 0 then (if t134 = 0 then (if t136 = 0 then (if t138 = 0 then (if t140 = 0 then (if bt141.2 = 0 then ((foghornlaw05_alive.f).bind fun t143 => (foghornlaw05_TickOrder.j0 k t118 t119 t120 t121 t123 t127 t129 t131 t133 t137 t139 bt141.1 (!t143))) else (foghornlaw05_TickOrder.j0 k t118 t119 t120 t121 t123 t127 t129 t131 t133 t137 t139 bt141.1 true)) else (foghornlaw05_TickOrder.j0 k t118 t119 t120 t121 t123 t127 t129 t131 t133 t137 t139 bt141.1 true)) else (foghornlaw05_TickOrder.j0 k t118 t119 t120 t121 t123 t127 t129 t131 t133 t137 t139 bt141.1 true)) else (foghornlaw05_TickOrder.j0 k t118 t119 t120 t121 t123 t127 t129 t131 t133 t137 t139 bt141.1 true)) else (foghornlaw05_TickOrder.j0 k t118 t119 t120 t121 t123 t127 t129 t131 t133 t137 t139 bt141.1 true)) else (foghornlaw05_TickOrder.j0 k t118 t119 t120 t121 t123 t127 t129 t131 t133 t137 t139 bt141.1 true)) else (foghornlaw05_TickOrder.j0 k t118 t119 t120 t121 t123 t127 t129 t131 t133 t137 t139 bt141.1 true)) else (foghornlaw05_TickOrder.j0 k t118 t119 t120 t121 t123 t127 t129 t131 t133 t137 t139 bt141.1 true)) else (foghornlaw05_TickOrder.j0 k t118 t119 t120 t121 t123 t127 t129 t131 t133 t137 t139 bt141.1 true)) else (foghornlaw05_TickOrder.j0 k t118 t119 t120 t121 t123 t127 t129 t131 t133 t137 t139 bt141.1 true)) else (foghornlaw05_TickOrder.j0 k t118 t119 t120 t121 t123 t127 t129 t131 t133 t137 t139 bt141.1 true))) = some r := H
  have A16 := Aside0.mk A160
  clear A160
  replace H := Option.bind_eq_some_iff.mp H
  obtain ⟨⟨t141, t142⟩, A170, H⟩ := H
  replace H : (if t122 = 0 then (if t124 = 0 then (if t126 = 0 then (if t128 = 0 then (if t130 = 0 then (if t132 = 0 then (if t134 = 0 then (if t136 = 0 then (if t138 = 0 then (if t140 = 0 then (if t142 = 0 then ((foghornlaw05_alive.f).bind fun t143 => (foghornlaw05_TickOrder.j0 k t118 t119 t120 t121 t123 t127 t129 t131 t133 t137 t139 t141 (!t143))) else (foghornlaw05_TickOrder.j0 k t118 t119 t120 t121 t123 t127 t129 t131 t133 t137 t139 t141 true)) else (foghornlaw05_TickOrder.j0 k t118 t119 t120 t121 t123 t127 t129 t131 t133 t137 t139 t141 true)) else (foghornlaw05_TickOrder.j0 k t118 t119 t120 t121 t123 t127 t129 t131 t133 t137 t139 t141 true)) else (foghornlaw05_TickOrder.j0 k t118 t119 t120 t121 t123 t127 t129 t131 t133 t137 t139 t141 true)) else (foghornlaw05_TickOrder.j0 k t118 t119 t120 t121 t123 t127 t129 t131 t133 t137 t139 t141 true)) else (foghornlaw05_TickOrder.j0 k t118 t119 t120 t121 t123 t127 t129 t131 t133 t137 t139 t141 true)) else (foghornlaw05_TickOrder.j0 k t118 t119 t120 t121 t123 t127 t129 t131 t133 t137 t139 t141 true)) else (foghornlaw05_TickOrder.j0 k t118 t119 t120 t121 t123 t127 t129 t131 t133 t137 t139 t141 true)) else (foghornlaw05_TickOrder.j0 k t118 t119 t120 t121 t123 t127 t129 t131 t133 t137 t139 t141 true)) else (foghornlaw05_TickOrder.j0 k t118 t119 t120 t121 t123 t127 t129 t131 t133 t137 t139 t141 true)) else (foghornlaw05_TickOrder.j0 k t118 t119 t120 t121 t123 t127 t129 t131 t133 t137 t139 t141 true)) = some r := H
  have A17 := Aside0.mk A170
  clear A170
  have HC18 := Aside0.mk H
  clear H
  go_enter Try.func4, Try.ntmps4
  go_upto_region 13 with (first | ((with_reducible refine gate_callee (f := 18) rfl ?_); refine goesL_ (some 30) rfl rfl Try.func18 (by kernel_rfl) rfl #[.int .i64 a0] rfl (by (try simp only [List.map_toArray, List.map_cons, List.map_nil]); first | done | rfl | (simp only [List.length_drop, List.length_take]; rfl)) ?_; (with_reducible refine (foghornlaw05_time.calls a0 t118 _ A4.out).mono ?_); rintro e w' ⟨rfl, ⟨nd, rfl⟩⟩; refine ⟨_, rfl, ?_⟩) | ((with_reducible refine gate_callee (f := 18) rfl ?_); refine goesL_ (some 32) rfl rfl Try.func18 (by kernel_rfl) rfl #[.int .i64 a1] rfl (by (try simp only [List.map_toArray, List.map_cons, List.map_nil]); first | done | rfl | (simp only [List.length_drop, List.length_take]; rfl)) ?_; (with_reducible refine (foghornlaw05_time.calls a1 t119 _ A5.out).mono ?_); rintro e w' ⟨rfl, ⟨nd, rfl⟩⟩; refine ⟨_, rfl, ?_⟩) | ((with_reducible refine gate_callee (f := 18) rfl ?_); refine goesL_ (some 34) rfl rfl Try.func18 (by kernel_rfl) rfl #[.int .i64 a2] rfl (by (try simp only [List.map_toArray, List.map_cons, List.map_nil]); first | done | rfl | (simp only [List.length_drop, List.length_take]; rfl)) ?_; (with_reducible refine (foghornlaw05_time.calls a2 t120 _ A6.out).mono ?_); rintro e w' ⟨rfl, ⟨nd, rfl⟩⟩; refine ⟨_, rfl, ?_⟩) | ((with_reducible refine gate_callee (f := 19) rfl ?_); refine goesL_ (some 38) rfl rfl Try.func19 (by kernel_rfl) rfl #[.int .i64 t118, .int .i64 t119] rfl (by (try simp only [List.map_toArray, List.map_cons, List.map_nil]); first | done | rfl | (simp only [List.length_drop, List.length_take]; rfl)) ?_; (with_reducible refine (tick_Add.calls t118 t119 t121 t122 _ A7.out).mono ?_); rintro e w19 ⟨rfl, hb⟩; refine ⟨_, rfl, ?_⟩; have n0_ := Aside0.mk (below_step (by repeat (first | (with_reducible first | exact HB.out | apply below_alloc | apply pw_below_drewN | apply below_drew1) | exact HB.out)) hb); clear HB; have HB := n0_; clear n0_; (try clear hb); (try clear hb2); (try clear hk); (try clear hi)) | ((with_reducible refine gate_callee (f := 19) rfl ?_); refine goesL_ (some 44) rfl rfl Try.func19 (by kernel_rfl) rfl #[.int .i64 t119, .int .i64 t118] rfl (by (try simp only [List.map_toArray, List.map_cons, List.map_nil]); first | done | rfl | (simp only [List.length_drop, List.length_take]; rfl)) ?_; (with_reducible refine (tick_Add.calls t119 t118 t123 t124 _ A8.out).mono ?_); rintro e w20 ⟨rfl, hb⟩; refine ⟨_, rfl, ?_⟩; have n0_ := Aside0.mk (below_step (by repeat (first | (with_reducible first | exact HB.out | apply below_alloc | apply pw_below_drewN | apply below_drew1) | exact HB.out)) hb); clear HB; have HB := n0_; clear n0_; (try clear hb); (try clear hb2); (try clear hk); (try clear hi)) | ((with_reducible refine gate_callee (f := 19) rfl ?_); refine goesL_ (some 50) rfl rfl Try.func19 (by kernel_rfl) rfl #[.int .i64 t119, .int .i64 t120] rfl (by (try simp only [List.map_toArray, List.map_cons, List.map_nil]); first | done | rfl | (simp only [List.length_drop, List.length_take]; rfl)) ?_; (with_reducible refine (tick_Add.calls t119 t120 t125 t126 _ A9.out).mono ?_); rintro e w21 ⟨rfl, hb⟩; refine ⟨_, rfl, ?_⟩; have n0_ := Aside0.mk (below_step (by repeat (first | (with_reducible first | exact HB.out | apply below_alloc | apply pw_below_drewN | apply below_drew1) | exact HB.out)) hb); clear HB; have HB := n0_; clear n0_; (try clear hb); (try clear hb2); (try clear hk); (try clear hi)) | ((with_reducible refine gate_callee (f := 19) rfl ?_); refine goesL_ (some 56) rfl rfl Try.func19 (by kernel_rfl) rfl #[.int .i64 t121, .int .i64 t120] rfl (by (try simp only [List.map_toArray, List.map_cons, List.map_nil]); first | done | rfl | (simp only [List.length_drop, List.length_take]; rfl)) ?_; (with_reducible refine (tick_Add.calls t121 t120 t127 t128 _ A10.out).mono ?_); rintro e w22 ⟨rfl, hb⟩; refine ⟨_, rfl, ?_⟩; have n0_ := Aside0.mk (below_step (by repeat (first | (with_reducible first | exact HB.out | apply below_alloc | apply pw_below_drewN | apply below_drew1) | exact HB.out)) hb); clear HB; have HB := n0_; clear n0_; (try clear hb); (try clear hb2); (try clear hk); (try clear hi)) | ((with_reducible refine gate_callee (f := 19) rfl ?_); refine goesL_ (some 62) rfl rfl Try.func19 (by kernel_rfl) rfl #[.int .i64 t118, .int .i64 t125] rfl (by (try simp only [List.map_toArray, List.map_cons, List.map_nil]); first | done | rfl | (simp only [List.length_drop, List.length_take]; rfl)) ?_; (with_reducible refine (tick_Add.calls t118 t125 t129 t130 _ A11.out).mono ?_); rintro e w23 ⟨rfl, hb⟩; refine ⟨_, rfl, ?_⟩; have n0_ := Aside0.mk (below_step (by repeat (first | (with_reducible first | exact HB.out | apply below_alloc | apply pw_below_drewN | apply below_drew1) | exact HB.out)) hb); clear HB; have HB := n0_; clear n0_; (try clear hb); (try clear hb2); (try clear hk); (try clear hi)) | ((with_reducible refine gate_callee (f := 20) rfl ?_); refine goesL_ (some 68) rfl rfl Try.func20 (by kernel_rfl) rfl #[.int .i64 t118, .int .i64 t119] rfl (by (try simp only [List.map_toArray, List.map_cons, List.map_nil]); first | done | rfl | (simp only [List.length_drop, List.length_take]; rfl)) ?_; (with_reducible refine (tick_Times.calls t118 t119 t131 t132 _ A12.out).mono ?_); rintro e w24 ⟨rfl, hb⟩; refine ⟨_, rfl, ?_⟩; have n0_ := Aside0.mk (below_step (by repeat (first | (with_reducible first | exact HB.out | apply below_alloc | apply pw_below_drewN | apply below_drew1) | exact HB.out)) hb); clear HB; have HB := n0_; clear n0_; (try clear hb); (try clear hb2); (try clear hk); (try clear hi)) | ((with_reducible refine gate_callee (f := 20) rfl ?_); refine goesL_ (some 74) rfl rfl Try.func20 (by kernel_rfl) rfl #[.int .i64 t119, .int .i64 t118] rfl (by (try simp only [List.map_toArray, List.map_cons, List.map_nil]); first | done | rfl | (simp only [List.length_drop, List.length_take]; rfl)) ?_; (with_reducible refine (tick_Times.calls t119 t118 t133 t134 _ A13.out).mono ?_); rintro e w25 ⟨rfl, hb⟩; refine ⟨_, rfl, ?_⟩; have n0_ := Aside0.mk (below_step (by repeat (first | (with_reducible first | exact HB.out | apply below_alloc | apply pw_below_drewN | apply below_drew1) | exact HB.out)) hb); clear HB; have HB := n0_; clear n0_; (try clear hb); (try clear hb2); (try clear hk); (try clear hi)) | ((with_reducible refine gate_callee (f := 20) rfl ?_); refine goesL_ (some 80) rfl rfl Try.func20 (by kernel_rfl) rfl #[.int .i64 t119, .int .i64 t120] rfl (by (try simp only [List.map_toArray, List.map_cons, List.map_nil]); first | done | rfl | (simp only [List.length_drop, List.length_take]; rfl)) ?_; (with_reducible refine (tick_Times.calls t119 t120 t135 t136 _ A14.out).mono ?_); rintro e w26 ⟨rfl, hb⟩; refine ⟨_, rfl, ?_⟩; have n0_ := Aside0.mk (below_step (by repeat (first | (with_reducible first | exact HB.out | apply below_alloc | apply pw_below_drewN | apply below_drew1) | exact HB.out)) hb); clear HB; have HB := n0_; clear n0_; (try clear hb); (try clear hb2); (try clear hk); (try clear hi)) | ((with_reducible refine gate_callee (f := 20) rfl ?_); refine goesL_ (some 86) rfl rfl Try.func20 (by kernel_rfl) rfl #[.int .i64 t131, .int .i64 t120] rfl (by (try simp only [List.map_toArray, List.map_cons, List.map_nil]); first | done | rfl | (simp only [List.length_drop, List.length_take]; rfl)) ?_; (with_reducible refine (tick_Times.calls t131 t120 t137 t138 _ A15.out).mono ?_); rintro e w27 ⟨rfl, hb⟩; refine ⟨_, rfl, ?_⟩; have n0_ := Aside0.mk (below_step (by repeat (first | (with_reducible first | exact HB.out | apply below_alloc | apply pw_below_drewN | apply below_drew1) | exact HB.out)) hb); clear HB; have HB := n0_; clear n0_; (try clear hb); (try clear hb2); (try clear hk); (try clear hi)) | ((with_reducible refine gate_callee (f := 20) rfl ?_); refine goesL_ (some 92) rfl rfl Try.func20 (by kernel_rfl) rfl #[.int .i64 t118, .int .i64 t135] rfl (by (try simp only [List.map_toArray, List.map_cons, List.map_nil]); first | done | rfl | (simp only [List.length_drop, List.length_take]; rfl)) ?_; (with_reducible refine (tick_Times.calls t118 t135 t139 t140 _ A16.out).mono ?_); rintro e w28 ⟨rfl, hb⟩; refine ⟨_, rfl, ?_⟩; have n0_ := Aside0.mk (below_step (by repeat (first | (with_reducible first | exact HB.out | apply below_alloc | apply pw_below_drewN | apply below_drew1) | exact HB.out)) hb); clear HB; have HB := n0_; clear n0_; (try clear hb); (try clear hb2); (try clear hk); (try clear hi)) | ((with_reducible refine gate_callee (f := 21) rfl ?_); refine goesL_ (some 98) rfl rfl Try.func21 (by kernel_rfl) rfl #[.int .i64 t121, .int .i64 t119] rfl (by (try simp only [List.map_toArray, List.map_cons, List.map_nil]); first | done | rfl | (simp only [List.length_drop, List.length_take]; rfl)) ?_; (with_reducible refine (tick_Sub.calls t121 t119 t141 t142 _ A17.out).mono ?_); rintro e w29 ⟨rfl, hb⟩; refine ⟨_, rfl, ?_⟩; have n0_ := Aside0.mk (below_step (by repeat (first | (with_reducible first | exact HB.out | apply below_alloc | apply pw_below_drewN | apply below_drew1) | exact HB.out)) hb); clear HB; have HB := n0_; clear n0_; (try clear hb); (try clear hb2); (try clear hk); (try clear hi)))
  (try simp only [Act.put, List.setIfInBounds_toArray, List.set_cons_zero, List.set_cons_succ])
  go_cut [146] (fun v146 wc => ∃ (kq : Nat) (x146_17 : Bool), v146 = .bool x146_17 ∧ Aside0 (foghornlaw05_TickOrder.j0 kq t118 t119 t120 t121 t123 t127 t129 t131 t133 t137 t139 t141 x146_17 = some r) ∧ Aside0 (kq ≤ k) ∧ Aside0 (Below w.heap.size w wc))
  case first =>
    have H := HC18.out
    clear HC18
    by_cases c30 : t122 = 0
    · rw [if_pos c30] at H
      have c30b0 : (t122 == 0) = true := beq_iff_eq.mpr c30
      have c30b1 : (t122 != 0) = false := bne_eq_false_iff_eq.mpr c30
      clear c30
      (first | rw [c30b0] | (simp only [i64_w, i32_w]; rw [c30b0]) | skip)
      by_cases c31 : t124 = 0
      · rw [if_pos c31] at H
        have c31b0 : (t124 == 0) = true := beq_iff_eq.mpr c31
        have c31b1 : (t124 != 0) = false := bne_eq_false_iff_eq.mpr c31
        clear c31
        by_cases c32 : t126 = 0
        · rw [if_pos c32] at H
          have c32b0 : (t126 == 0) = true := beq_iff_eq.mpr c32
          have c32b1 : (t126 != 0) = false := bne_eq_false_iff_eq.mpr c32
          clear c32
          by_cases c33 : t128 = 0
          · rw [if_pos c33] at H
            have c33b0 : (t128 == 0) = true := beq_iff_eq.mpr c33
            have c33b1 : (t128 != 0) = false := bne_eq_false_iff_eq.mpr c33
            clear c33
            by_cases c34 : t130 = 0
            · rw [if_pos c34] at H
              have c34b0 : (t130 == 0) = true := beq_iff_eq.mpr c34
              have c34b1 : (t130 != 0) = false := bne_eq_false_iff_eq.mpr c34
              clear c34
              by_cases c35 : t132 = 0
              · rw [if_pos c35] at H
                have c35b0 : (t132 == 0) = true := beq_iff_eq.mpr c35
                have c35b1 : (t132 != 0) = false := bne_eq_false_iff_eq.mpr c35
                clear c35
                by_cases c36 : t134 = 0
                · rw [if_pos c36] at H
                  have c36b0 : (t134 == 0) = true := beq_iff_eq.mpr c36
                  have c36b1 : (t134 != 0) = false := bne_eq_false_iff_eq.mpr c36
                  clear c36
                  by_cases c37 : t136 = 0
                  · rw [if_pos c37] at H
                    have c37b0 : (t136 == 0) = true := beq_iff_eq.mpr c37
                    have c37b1 : (t136 != 0) = false := bne_eq_false_iff_eq.mpr c37
                    clear c37
                    by_cases c38 : t138 = 0
                    · rw [if_pos c38] at H
                      have c38b0 : (t138 == 0) = true := beq_iff_eq.mpr c38
                      have c38b1 : (t138 != 0) = false := bne_eq_false_iff_eq.mpr c38
                      clear c38
                      by_cases c39 : t140 = 0
                      · rw [if_pos c39] at H
                        have c39b0 : (t140 == 0) = true := beq_iff_eq.mpr c39
                        have c39b1 : (t140 != 0) = false := bne_eq_false_iff_eq.mpr c39
                        clear c39
                        by_cases c40 : t142 = 0
                        · rw [if_pos c40] at H
                          have c40b0 : (t142 == 0) = true := beq_iff_eq.mpr c40
                          have c40b1 : (t142 != 0) = false := bne_eq_false_iff_eq.mpr c40
                          clear c40
                          replace H := Option.bind_eq_some_iff.mp H
                          obtain ⟨t143, A410, H⟩ := H
                          replace H : (foghornlaw05_TickOrder.j0 k t118 t119 t120 t121 t123 t127 t129 t131 t133 t137 t139 t141 (!t143)) = some r := H
                          have A41 := Aside0.mk A410
                          clear A410
                          have H' := Aside0.mk H
                          clear H
                          go_wp2_with (first | (go_at_call 22; (with_reducible refine (foghornlaw05_alive.calls  t143 _ A41.out).mono ?_); rintro e w42 ⟨rfl, hb⟩; have n0_ := Aside0.mk (below_step (by repeat (first | (with_reducible first | exact HB.out | apply below_alloc | apply pw_below_drewN | apply below_drew1) | exact HB.out)) hb); clear HB; have HB := n0_; clear n0_; (try clear hb); (try clear hb2); (try clear hk); (try clear hi)))
                          go_meet
                          case rel => exact ⟨_, (!t143), (by first | rfl | (simp; done) | (simp [*]; done)), H', ⟨by first | omega | exact Nat.le_refl _⟩, ⟨by repeat (first | (with_reducible first | exact HB.out | apply below_alloc | apply pw_below_drewN | apply below_drew1) | exact HB.out)⟩⟩
                        · rw [if_neg c40] at H
                          have c40b0 : (t142 == 0) = false := beq_eq_false_iff_ne.mpr c40
                          have c40b1 : (t142 != 0) = true := bne_iff_ne.mpr c40
                          have H' := Aside0.mk H
                          clear H
                          go_wp2
                          go_meet
                          case rel => exact ⟨_, (true), (by first | rfl | (simp; done) | (simp [*]; done)), H', ⟨by first | omega | exact Nat.le_refl _⟩, ⟨by repeat (first | (with_reducible first | exact HB.out | apply below_alloc | apply pw_below_drewN | apply below_drew1) | exact HB.out)⟩⟩
                      · rw [if_neg c39] at H
                        have c39b0 : (t140 == 0) = false := beq_eq_false_iff_ne.mpr c39
                        have c39b1 : (t140 != 0) = true := bne_iff_ne.mpr c39
                        have H' := Aside0.mk H
                        clear H
                        go_wp2
                        go_meet
                        case rel => exact ⟨_, (true), (by first | rfl | (simp; done) | (simp [*]; done)), H', ⟨by first | omega | exact Nat.le_refl _⟩, ⟨by repeat (first | (with_reducible first | exact HB.out | apply below_alloc | apply pw_below_drewN | apply below_drew1) | exact HB.out)⟩⟩
                    · rw [if_neg c38] at H
                      have c38b0 : (t138 == 0) = false := beq_eq_false_iff_ne.mpr c38
                      have c38b1 : (t138 != 0) = true := bne_iff_ne.mpr c38
                      have H' := Aside0.mk H
                      clear H
                      go_wp2
                      go_meet
                      case rel => exact ⟨_, (true), (by first | rfl | (simp; done) | (simp [*]; done)), H', ⟨by first | omega | exact Nat.le_refl _⟩, ⟨by repeat (first | (with_reducible first | exact HB.out | apply below_alloc | apply pw_below_drewN | apply below_drew1) | exact HB.out)⟩⟩
                  · rw [if_neg c37] at H
                    have c37b0 : (t136 == 0) = false := beq_eq_false_iff_ne.mpr c37
                    have c37b1 : (t136 != 0) = true := bne_iff_ne.mpr c37
                    have H' := Aside0.mk H
                    clear H
                    go_wp2
                    go_meet
                    case rel => exact ⟨_, (true), (by first | rfl | (simp; done) | (simp [*]; done)), H', ⟨by first | omega | exact Nat.le_refl _⟩, ⟨by repeat (first | (with_reducible first | exact HB.out | apply below_alloc | apply pw_below_drewN | apply below_drew1) | exact HB.out)⟩⟩
                · rw [if_neg c36] at H
                  have c36b0 : (t134 == 0) = false := beq_eq_false_iff_ne.mpr c36
                  have c36b1 : (t134 != 0) = true := bne_iff_ne.mpr c36
                  have H' := Aside0.mk H
                  clear H
                  go_wp2
                  go_meet
                  case rel => exact ⟨_, (true), (by first | rfl | (simp; done) | (simp [*]; done)), H', ⟨by first | omega | exact Nat.le_refl _⟩, ⟨by repeat (first | (with_reducible first | exact HB.out | apply below_alloc | apply pw_below_drewN | apply below_drew1) | exact HB.out)⟩⟩
              · rw [if_neg c35] at H
                have c35b0 : (t132 == 0) = false := beq_eq_false_iff_ne.mpr c35
                have c35b1 : (t132 != 0) = true := bne_iff_ne.mpr c35
                have H' := Aside0.mk H
                clear H
                go_wp2
                go_meet
                case rel => exact ⟨_, (true), (by first | rfl | (simp; done) | (simp [*]; done)), H', ⟨by first | omega | exact Nat.le_refl _⟩, ⟨by repeat (first | (with_reducible first | exact HB.out | apply below_alloc | apply pw_below_drewN | apply below_drew1) | exact HB.out)⟩⟩
            · rw [if_neg c34] at H
              have c34b0 : (t130 == 0) = false := beq_eq_false_iff_ne.mpr c34
              have c34b1 : (t130 != 0) = true := bne_iff_ne.mpr c34
              have H' := Aside0.mk H
              clear H
              go_wp2
              go_meet
              case rel => exact ⟨_, (true), (by first | rfl | (simp; done) | (simp [*]; done)), H', ⟨by first | omega | exact Nat.le_refl _⟩, ⟨by repeat (first | (with_reducible first | exact HB.out | apply below_alloc | apply pw_below_drewN | apply below_drew1) | exact HB.out)⟩⟩
          · rw [if_neg c33] at H
            have c33b0 : (t128 == 0) = false := beq_eq_false_iff_ne.mpr c33
            have c33b1 : (t128 != 0) = true := bne_iff_ne.mpr c33
            have H' := Aside0.mk H
            clear H
            go_wp2
            go_meet
            case rel => exact ⟨_, (true), (by first | rfl | (simp; done) | (simp [*]; done)), H', ⟨by first | omega | exact Nat.le_refl _⟩, ⟨by repeat (first | (with_reducible first | exact HB.out | apply below_alloc | apply pw_below_drewN | apply below_drew1) | exact HB.out)⟩⟩
        · rw [if_neg c32] at H
          have c32b0 : (t126 == 0) = false := beq_eq_false_iff_ne.mpr c32
          have c32b1 : (t126 != 0) = true := bne_iff_ne.mpr c32
          have H' := Aside0.mk H
          clear H
          go_wp2
          go_meet
          case rel => exact ⟨_, (true), (by first | rfl | (simp; done) | (simp [*]; done)), H', ⟨by first | omega | exact Nat.le_refl _⟩, ⟨by repeat (first | (with_reducible first | exact HB.out | apply below_alloc | apply pw_below_drewN | apply below_drew1) | exact HB.out)⟩⟩
      · rw [if_neg c31] at H
        have c31b0 : (t124 == 0) = false := beq_eq_false_iff_ne.mpr c31
        have c31b1 : (t124 != 0) = true := bne_iff_ne.mpr c31
        have H' := Aside0.mk H
        clear H
        go_wp2
        go_meet
        case rel => exact ⟨_, (true), (by first | rfl | (simp; done) | (simp [*]; done)), H', ⟨by first | omega | exact Nat.le_refl _⟩, ⟨by repeat (first | (with_reducible first | exact HB.out | apply below_alloc | apply pw_below_drewN | apply below_drew1) | exact HB.out)⟩⟩
    · rw [if_neg c30] at H
      have c30b0 : (t122 == 0) = false := beq_eq_false_iff_ne.mpr c30
      have c30b1 : (t122 != 0) = true := bne_iff_ne.mpr c30
      (first | rw [c30b0] | (simp only [i64_w, i32_w]; rw [c30b0]) | skip)
      have H' := Aside0.mk H
      clear H
      go_wp2
      go_meet
      case rel => exact ⟨_, (true), (by first | rfl | (simp; done) | (simp [*]; done)), H', ⟨by first | omega | exact Nat.le_refl _⟩, ⟨by repeat (first | (with_reducible first | exact HB.out | apply below_alloc | apply pw_below_drewN | apply below_drew1) | exact HB.out)⟩⟩
  case rest =>
    clear HC18
    try clear c1
    try clear c2
    try clear p2
    try clear c3
    try clear c4
    try clear c18
    try clear c19
    try clear c20
    try clear c21
    try clear c30
    try clear c30b0
    try clear c30b1
    try clear c31
    try clear c31b0
    try clear c31b1
    try clear c32
    try clear c32b0
    try clear c32b1
    try clear c33
    try clear c33b0
    try clear c33b1
    try clear c34
    try clear c34b0
    try clear c34b1
    try clear c35
    try clear c35b0
    try clear c35b1
    try clear c36
    try clear c36b0
    try clear c36b1
    try clear c37
    try clear c37b0
    try clear c37b1
    try clear c38
    try clear c38b0
    try clear c38b1
    try clear c39
    try clear c39b0
    try clear c39b1
    try clear c40
    try clear c40b0
    try clear c40b1
    obtain ⟨kq, x146_17, rfl, HA, HJ17, HB⟩ := hcut
    cases kq with
    | zero => exact absurd HA.out (by simp [foghornlaw05_TickOrder.j0])
    | succ kj17 =>
      have H := HA.out
      clear HA
      simp only [foghornlaw05_TickOrder.j0] at H
      by_cases c43 : x146_17 = true
      · subst c43
        have H1 : (some false) = some r := by rw [if_pos rfl] at H; exact H
        clear H
        have H := H1
        clear H1
        obtain rfl := Option.some.inj H
        go_wp2
        go_ret
        exact ⟨by first | rfl | (simp [errW_none, errW_some] <;> rfl) | (simp [*, errW_none, errW_some] <;> rfl), by repeat (first | (with_reducible first | exact HB.out | apply below_alloc | apply pw_below_drewN | apply below_drew1) | exact HB.out)⟩
      · replace c43 := Bool.eq_false_iff.mpr c43
        subst c43
        have H1 : ((tick_Right.f t127).bind fun t144 => (if t144 = true then ((tick_Right.f t137).bind fun t145 => (if t145 = true then (if t121 < t118 then (some false) else (if t121 < t119 then (some false) else (if t121 = t123 then (if t127 = t129 then (if t131 = t133 then (if t141 = t118 then (if t118 = 0 then (some true) else (if t119 = 0 then (some true) else (if t120 = 0 then (some true) else (some (t137 == t139))))) else (if t121 = 1099511627776 then (if t118 = 0 then (some true) else (if t119 = 0 then (some true) else (if t120 = 0 then (some true) else (some (t137 == t139))))) else (some false))) else (some false)) else (some false)) else (some false)))) else (some false))) else (some false))) = some r := by rw [if_neg (show ¬ (false = true) by decide)] at H; exact H
        clear H
        have H := H1
        clear H1
        replace H := Option.bind_eq_some_iff.mp H
        obtain ⟨t144, A440, H⟩ := H
        replace H : (if t144 = true then ((tick_Right.f t137).bind fun t145 => (if t145 = true then (if t121 < t118 then (some false) else (if t121 < t119 then (some false) else (if t121 = t123 then (if t127 = t129 then (if t131 = t133 then (if t141 = t118 then (if t118 = 0 then (some true) else (if t119 = 0 then (some true) else (if t120 = 0 then (some true) else (some (t137 == t139))))) else (if t121 = 1099511627776 then (if t118 = 0 then (some true) else (if t119 = 0 then (some true) else (if t120 = 0 then (some true) else (some (t137 == t139))))) else (some false))) else (some false)) else (some false)) else (some false)))) else (some false))) else (some false)) = some r := H
        have A44 := Aside0.mk A440
        clear A440
        by_cases c45 : t144 = true
        · subst c45
          have H1 : ((tick_Right.f t137).bind fun t145 => (if t145 = true then (if t121 < t118 then (some false) else (if t121 < t119 then (some false) else (if t121 = t123 then (if t127 = t129 then (if t131 = t133 then (if t141 = t118 then (if t118 = 0 then (some true) else (if t119 = 0 then (some true) else (if t120 = 0 then (some true) else (some (t137 == t139))))) else (if t121 = 1099511627776 then (if t118 = 0 then (some true) else (if t119 = 0 then (some true) else (if t120 = 0 then (some true) else (some (t137 == t139))))) else (some false))) else (some false)) else (some false)) else (some false)))) else (some false))) = some r := by rw [if_pos rfl] at H; exact H
          clear H
          have H := H1
          clear H1
          replace H := Option.bind_eq_some_iff.mp H
          obtain ⟨t145, A460, H⟩ := H
          replace H : (if t145 = true then (if t121 < t118 then (some false) else (if t121 < t119 then (some false) else (if t121 = t123 then (if t127 = t129 then (if t131 = t133 then (if t141 = t118 then (if t118 = 0 then (some true) else (if t119 = 0 then (some true) else (if t120 = 0 then (some true) else (some (t137 == t139))))) else (if t121 = 1099511627776 then (if t118 = 0 then (some true) else (if t119 = 0 then (some true) else (if t120 = 0 then (some true) else (some (t137 == t139))))) else (some false))) else (some false)) else (some false)) else (some false)))) else (some false)) = some r := H
          have A46 := Aside0.mk A460
          clear A460
          by_cases c47 : t145 = true
          · subst c47
            have H1 : (if t121 < t118 then (some false) else (if t121 < t119 then (some false) else (if t121 = t123 then (if t127 = t129 then (if t131 = t133 then (if t141 = t118 then (if t118 = 0 then (some true) else (if t119 = 0 then (some true) else (if t120 = 0 then (some true) else (some (t137 == t139))))) else (if t121 = 1099511627776 then (if t118 = 0 then (some true) else (if t119 = 0 then (some true) else (if t120 = 0 then (some true) else (some (t137 == t139))))) else (some false))) else (some false)) else (some false)) else (some false)))) = some r := by rw [if_pos rfl] at H; exact H
            clear H
            have H := H1
            clear H1
            by_cases c48 : t121 < t118
            · rw [if_pos c48] at H
              have c48b0 : decide (t121 < t118) = true := decide_eq_true c48
              clear c48
              obtain rfl := Option.some.inj H
              go_wp2_with (first | ((with_reducible refine gate_callee (f := 23) rfl ?_); refine goesL_ (some 148) rfl rfl Try.func23 (by kernel_rfl) rfl #[.int .i64 t127] rfl (by (try simp only [List.map_toArray, List.map_cons, List.map_nil]); first | done | rfl | (simp only [List.length_drop, List.length_take]; rfl)) ?_; (with_reducible refine (tick_Right.calls t127 true _ A44.out).mono ?_); rintro e w' ⟨rfl, ⟨nd, rfl⟩⟩; refine ⟨_, rfl, ?_⟩) | (go_at_call 23; (with_reducible refine (tick_Right.calls t137 true _ A46.out).mono ?_); rintro e w' ⟨rfl, ⟨nd, rfl⟩⟩))
              go_ret
              exact ⟨by first | rfl | (simp [errW_none, errW_some] <;> rfl) | (simp [*, errW_none, errW_some] <;> rfl), by repeat (first | (with_reducible first | exact HB.out | apply below_alloc | apply pw_below_drewN | apply below_drew1) | exact HB.out)⟩
            · rw [if_neg c48] at H
              have c48b0 : decide (t121 < t118) = false := decide_eq_false c48
              clear c48
              by_cases c49 : t121 < t119
              · rw [if_pos c49] at H
                have c49b0 : decide (t121 < t119) = true := decide_eq_true c49
                clear c49
                obtain rfl := Option.some.inj H
                go_wp2_with (first | ((with_reducible refine gate_callee (f := 23) rfl ?_); refine goesL_ (some 148) rfl rfl Try.func23 (by kernel_rfl) rfl #[.int .i64 t127] rfl (by (try simp only [List.map_toArray, List.map_cons, List.map_nil]); first | done | rfl | (simp only [List.length_drop, List.length_take]; rfl)) ?_; (with_reducible refine (tick_Right.calls t127 true _ A44.out).mono ?_); rintro e w' ⟨rfl, ⟨nd, rfl⟩⟩; refine ⟨_, rfl, ?_⟩) | (go_at_call 23; (with_reducible refine (tick_Right.calls t137 true _ A46.out).mono ?_); rintro e w' ⟨rfl, ⟨nd, rfl⟩⟩))
                go_ret
                exact ⟨by first | rfl | (simp [errW_none, errW_some] <;> rfl) | (simp [*, errW_none, errW_some] <;> rfl), by repeat (first | (with_reducible first | exact HB.out | apply below_alloc | apply pw_below_drewN | apply below_drew1) | exact HB.out)⟩
              · rw [if_neg c49] at H
                have c49b0 : decide (t121 < t119) = false := decide_eq_false c49
                clear c49
                by_cases c50 : t121 = t123
                · rw [if_pos c50] at H
                  have c50b0 : (t121 == t123) = true := beq_iff_eq.mpr c50
                  have c50b1 : (t121 != t123) = false := bne_eq_false_iff_eq.mpr c50
                  clear c50
                  by_cases c51 : t127 = t129
                  · rw [if_pos c51] at H
                    have c51b0 : (t127 == t129) = true := beq_iff_eq.mpr c51
                    have c51b1 : (t127 != t129) = false := bne_eq_false_iff_eq.mpr c51
                    clear c51
                    by_cases c52 : t131 = t133
                    · rw [if_pos c52] at H
                      have c52b0 : (t131 == t133) = true := beq_iff_eq.mpr c52
                      have c52b1 : (t131 != t133) = false := bne_eq_false_iff_eq.mpr c52
                      clear c52
                      by_cases c53 : t141 = t118
                      · rw [if_pos c53] at H
                        have c53b0 : (t141 == t118) = true := beq_iff_eq.mpr c53
                        have c53b1 : (t141 != t118) = false := bne_eq_false_iff_eq.mpr c53
                        clear c53
                        by_cases c54 : t118 = 0
                        · rw [if_pos c54] at H
                          have c54b0 : (t118 == 0) = true := beq_iff_eq.mpr c54
                          have c54b1 : (t118 != 0) = false := bne_eq_false_iff_eq.mpr c54
                          clear c54
                          obtain rfl := Option.some.inj H
                          go_wp2_with (first | ((with_reducible refine gate_callee (f := 23) rfl ?_); refine goesL_ (some 148) rfl rfl Try.func23 (by kernel_rfl) rfl #[.int .i64 t127] rfl (by (try simp only [List.map_toArray, List.map_cons, List.map_nil]); first | done | rfl | (simp only [List.length_drop, List.length_take]; rfl)) ?_; (with_reducible refine (tick_Right.calls t127 true _ A44.out).mono ?_); rintro e w' ⟨rfl, ⟨nd, rfl⟩⟩; refine ⟨_, rfl, ?_⟩) | (go_at_call 23; (with_reducible refine (tick_Right.calls t137 true _ A46.out).mono ?_); rintro e w' ⟨rfl, ⟨nd, rfl⟩⟩))
                          go_ret
                          exact ⟨by first | rfl | (simp [errW_none, errW_some] <;> rfl) | (simp [*, errW_none, errW_some] <;> rfl), by repeat (first | (with_reducible first | exact HB.out | apply below_alloc | apply pw_below_drewN | apply below_drew1) | exact HB.out)⟩
                        · rw [if_neg c54] at H
                          have c54b0 : (t118 == 0) = false := beq_eq_false_iff_ne.mpr c54
                          have c54b1 : (t118 != 0) = true := bne_iff_ne.mpr c54
                          by_cases c55 : t119 = 0
                          · rw [if_pos c55] at H
                            have c55b0 : (t119 == 0) = true := beq_iff_eq.mpr c55
                            have c55b1 : (t119 != 0) = false := bne_eq_false_iff_eq.mpr c55
                            clear c55
                            obtain rfl := Option.some.inj H
                            go_wp2_with (first | ((with_reducible refine gate_callee (f := 23) rfl ?_); refine goesL_ (some 148) rfl rfl Try.func23 (by kernel_rfl) rfl #[.int .i64 t127] rfl (by (try simp only [List.map_toArray, List.map_cons, List.map_nil]); first | done | rfl | (simp only [List.length_drop, List.length_take]; rfl)) ?_; (with_reducible refine (tick_Right.calls t127 true _ A44.out).mono ?_); rintro e w' ⟨rfl, ⟨nd, rfl⟩⟩; refine ⟨_, rfl, ?_⟩) | (go_at_call 23; (with_reducible refine (tick_Right.calls t137 true _ A46.out).mono ?_); rintro e w' ⟨rfl, ⟨nd, rfl⟩⟩))
                            go_ret
                            exact ⟨by first | rfl | (simp [errW_none, errW_some] <;> rfl) | (simp [*, errW_none, errW_some] <;> rfl), by repeat (first | (with_reducible first | exact HB.out | apply below_alloc | apply pw_below_drewN | apply below_drew1) | exact HB.out)⟩
                          · rw [if_neg c55] at H
                            have c55b0 : (t119 == 0) = false := beq_eq_false_iff_ne.mpr c55
                            have c55b1 : (t119 != 0) = true := bne_iff_ne.mpr c55
                            by_cases c56 : t120 = 0
                            · rw [if_pos c56] at H
                              have c56b0 : (t120 == 0) = true := beq_iff_eq.mpr c56
                              have c56b1 : (t120 != 0) = false := bne_eq_false_iff_eq.mpr c56
                              clear c56
                              obtain rfl := Option.some.inj H
                              go_wp2_with (first | ((with_reducible refine gate_callee (f := 23) rfl ?_); refine goesL_ (some 148) rfl rfl Try.func23 (by kernel_rfl) rfl #[.int .i64 t127] rfl (by (try simp only [List.map_toArray, List.map_cons, List.map_nil]); first | done | rfl | (simp only [List.length_drop, List.length_take]; rfl)) ?_; (with_reducible refine (tick_Right.calls t127 true _ A44.out).mono ?_); rintro e w' ⟨rfl, ⟨nd, rfl⟩⟩; refine ⟨_, rfl, ?_⟩) | (go_at_call 23; (with_reducible refine (tick_Right.calls t137 true _ A46.out).mono ?_); rintro e w' ⟨rfl, ⟨nd, rfl⟩⟩))
                              go_ret
                              exact ⟨by first | rfl | (simp [errW_none, errW_some] <;> rfl) | (simp [*, errW_none, errW_some] <;> rfl), by repeat (first | (with_reducible first | exact HB.out | apply below_alloc | apply pw_below_drewN | apply below_drew1) | exact HB.out)⟩
                            · rw [if_neg c56] at H
                              have c56b0 : (t120 == 0) = false := beq_eq_false_iff_ne.mpr c56
                              have c56b1 : (t120 != 0) = true := bne_iff_ne.mpr c56
                              obtain rfl := Option.some.inj H
                              go_wp2_with (first | ((with_reducible refine gate_callee (f := 23) rfl ?_); refine goesL_ (some 148) rfl rfl Try.func23 (by kernel_rfl) rfl #[.int .i64 t127] rfl (by (try simp only [List.map_toArray, List.map_cons, List.map_nil]); first | done | rfl | (simp only [List.length_drop, List.length_take]; rfl)) ?_; (with_reducible refine (tick_Right.calls t127 true _ A44.out).mono ?_); rintro e w' ⟨rfl, ⟨nd, rfl⟩⟩; refine ⟨_, rfl, ?_⟩) | (go_at_call 23; (with_reducible refine (tick_Right.calls t137 true _ A46.out).mono ?_); rintro e w' ⟨rfl, ⟨nd, rfl⟩⟩))
                              go_ret
                              exact ⟨by first | rfl | (simp [errW_none, errW_some] <;> rfl) | (simp [*, errW_none, errW_some] <;> rfl), by repeat (first | (with_reducible first | exact HB.out | apply below_alloc | apply pw_below_drewN | apply below_drew1) | exact HB.out)⟩
                      · rw [if_neg c53] at H
                        have c53b0 : (t141 == t118) = false := beq_eq_false_iff_ne.mpr c53
                        have c53b1 : (t141 != t118) = true := bne_iff_ne.mpr c53
                        by_cases c57 : t121 = 1099511627776
                        · rw [if_pos c57] at H
                          have c57b0 : (t121 == 1099511627776) = true := beq_iff_eq.mpr c57
                          have c57b1 : (t121 != 1099511627776) = false := bne_eq_false_iff_eq.mpr c57
                          clear c57
                          by_cases c58 : t118 = 0
                          · rw [if_pos c58] at H
                            have c58b0 : (t118 == 0) = true := beq_iff_eq.mpr c58
                            have c58b1 : (t118 != 0) = false := bne_eq_false_iff_eq.mpr c58
                            clear c58
                            obtain rfl := Option.some.inj H
                            go_wp2_with (first | ((with_reducible refine gate_callee (f := 23) rfl ?_); refine goesL_ (some 148) rfl rfl Try.func23 (by kernel_rfl) rfl #[.int .i64 t127] rfl (by (try simp only [List.map_toArray, List.map_cons, List.map_nil]); first | done | rfl | (simp only [List.length_drop, List.length_take]; rfl)) ?_; (with_reducible refine (tick_Right.calls t127 true _ A44.out).mono ?_); rintro e w' ⟨rfl, ⟨nd, rfl⟩⟩; refine ⟨_, rfl, ?_⟩) | (go_at_call 23; (with_reducible refine (tick_Right.calls t137 true _ A46.out).mono ?_); rintro e w' ⟨rfl, ⟨nd, rfl⟩⟩))
                            go_ret
                            exact ⟨by first | rfl | (simp [errW_none, errW_some] <;> rfl) | (simp [*, errW_none, errW_some] <;> rfl), by repeat (first | (with_reducible first | exact HB.out | apply below_alloc | apply pw_below_drewN | apply below_drew1) | exact HB.out)⟩
                          · rw [if_neg c58] at H
                            have c58b0 : (t118 == 0) = false := beq_eq_false_iff_ne.mpr c58
                            have c58b1 : (t118 != 0) = true := bne_iff_ne.mpr c58
                            by_cases c59 : t119 = 0
                            · rw [if_pos c59] at H
                              have c59b0 : (t119 == 0) = true := beq_iff_eq.mpr c59
                              have c59b1 : (t119 != 0) = false := bne_eq_false_iff_eq.mpr c59
                              clear c59
                              obtain rfl := Option.some.inj H
                              go_wp2_with (first | ((with_reducible refine gate_callee (f := 23) rfl ?_); refine goesL_ (some 148) rfl rfl Try.func23 (by kernel_rfl) rfl #[.int .i64 t127] rfl (by (try simp only [List.map_toArray, List.map_cons, List.map_nil]); first | done | rfl | (simp only [List.length_drop, List.length_take]; rfl)) ?_; (with_reducible refine (tick_Right.calls t127 true _ A44.out).mono ?_); rintro e w' ⟨rfl, ⟨nd, rfl⟩⟩; refine ⟨_, rfl, ?_⟩) | (go_at_call 23; (with_reducible refine (tick_Right.calls t137 true _ A46.out).mono ?_); rintro e w' ⟨rfl, ⟨nd, rfl⟩⟩))
                              go_ret
                              exact ⟨by first | rfl | (simp [errW_none, errW_some] <;> rfl) | (simp [*, errW_none, errW_some] <;> rfl), by repeat (first | (with_reducible first | exact HB.out | apply below_alloc | apply pw_below_drewN | apply below_drew1) | exact HB.out)⟩
                            · rw [if_neg c59] at H
                              have c59b0 : (t119 == 0) = false := beq_eq_false_iff_ne.mpr c59
                              have c59b1 : (t119 != 0) = true := bne_iff_ne.mpr c59
                              by_cases c60 : t120 = 0
                              · rw [if_pos c60] at H
                                have c60b0 : (t120 == 0) = true := beq_iff_eq.mpr c60
                                have c60b1 : (t120 != 0) = false := bne_eq_false_iff_eq.mpr c60
                                clear c60
                                obtain rfl := Option.some.inj H
                                go_wp2_with (first | ((with_reducible refine gate_callee (f := 23) rfl ?_); refine goesL_ (some 148) rfl rfl Try.func23 (by kernel_rfl) rfl #[.int .i64 t127] rfl (by (try simp only [List.map_toArray, List.map_cons, List.map_nil]); first | done | rfl | (simp only [List.length_drop, List.length_take]; rfl)) ?_; (with_reducible refine (tick_Right.calls t127 true _ A44.out).mono ?_); rintro e w' ⟨rfl, ⟨nd, rfl⟩⟩; refine ⟨_, rfl, ?_⟩) | (go_at_call 23; (with_reducible refine (tick_Right.calls t137 true _ A46.out).mono ?_); rintro e w' ⟨rfl, ⟨nd, rfl⟩⟩))
                                go_ret
                                exact ⟨by first | rfl | (simp [errW_none, errW_some] <;> rfl) | (simp [*, errW_none, errW_some] <;> rfl), by repeat (first | (with_reducible first | exact HB.out | apply below_alloc | apply pw_below_drewN | apply below_drew1) | exact HB.out)⟩
                              · rw [if_neg c60] at H
                                have c60b0 : (t120 == 0) = false := beq_eq_false_iff_ne.mpr c60
                                have c60b1 : (t120 != 0) = true := bne_iff_ne.mpr c60
                                obtain rfl := Option.some.inj H
                                go_wp2_with (first | ((with_reducible refine gate_callee (f := 23) rfl ?_); refine goesL_ (some 148) rfl rfl Try.func23 (by kernel_rfl) rfl #[.int .i64 t127] rfl (by (try simp only [List.map_toArray, List.map_cons, List.map_nil]); first | done | rfl | (simp only [List.length_drop, List.length_take]; rfl)) ?_; (with_reducible refine (tick_Right.calls t127 true _ A44.out).mono ?_); rintro e w' ⟨rfl, ⟨nd, rfl⟩⟩; refine ⟨_, rfl, ?_⟩) | (go_at_call 23; (with_reducible refine (tick_Right.calls t137 true _ A46.out).mono ?_); rintro e w' ⟨rfl, ⟨nd, rfl⟩⟩))
                                go_ret
                                exact ⟨by first | rfl | (simp [errW_none, errW_some] <;> rfl) | (simp [*, errW_none, errW_some] <;> rfl), by repeat (first | (with_reducible first | exact HB.out | apply below_alloc | apply pw_below_drewN | apply below_drew1) | exact HB.out)⟩
                        · rw [if_neg c57] at H
                          have c57b0 : (t121 == 1099511627776) = false := beq_eq_false_iff_ne.mpr c57
                          have c57b1 : (t121 != 1099511627776) = true := bne_iff_ne.mpr c57
                          obtain rfl := Option.some.inj H
                          go_wp2_with (first | ((with_reducible refine gate_callee (f := 23) rfl ?_); refine goesL_ (some 148) rfl rfl Try.func23 (by kernel_rfl) rfl #[.int .i64 t127] rfl (by (try simp only [List.map_toArray, List.map_cons, List.map_nil]); first | done | rfl | (simp only [List.length_drop, List.length_take]; rfl)) ?_; (with_reducible refine (tick_Right.calls t127 true _ A44.out).mono ?_); rintro e w' ⟨rfl, ⟨nd, rfl⟩⟩; refine ⟨_, rfl, ?_⟩) | (go_at_call 23; (with_reducible refine (tick_Right.calls t137 true _ A46.out).mono ?_); rintro e w' ⟨rfl, ⟨nd, rfl⟩⟩))
                          go_ret
                          exact ⟨by first | rfl | (simp [errW_none, errW_some] <;> rfl) | (simp [*, errW_none, errW_some] <;> rfl), by repeat (first | (with_reducible first | exact HB.out | apply below_alloc | apply pw_below_drewN | apply below_drew1) | exact HB.out)⟩
                    · rw [if_neg c52] at H
                      have c52b0 : (t131 == t133) = false := beq_eq_false_iff_ne.mpr c52
                      have c52b1 : (t131 != t133) = true := bne_iff_ne.mpr c52
                      obtain rfl := Option.some.inj H
                      go_wp2_with (first | ((with_reducible refine gate_callee (f := 23) rfl ?_); refine goesL_ (some 148) rfl rfl Try.func23 (by kernel_rfl) rfl #[.int .i64 t127] rfl (by (try simp only [List.map_toArray, List.map_cons, List.map_nil]); first | done | rfl | (simp only [List.length_drop, List.length_take]; rfl)) ?_; (with_reducible refine (tick_Right.calls t127 true _ A44.out).mono ?_); rintro e w' ⟨rfl, ⟨nd, rfl⟩⟩; refine ⟨_, rfl, ?_⟩) | (go_at_call 23; (with_reducible refine (tick_Right.calls t137 true _ A46.out).mono ?_); rintro e w' ⟨rfl, ⟨nd, rfl⟩⟩))
                      go_ret
                      exact ⟨by first | rfl | (simp [errW_none, errW_some] <;> rfl) | (simp [*, errW_none, errW_some] <;> rfl), by repeat (first | (with_reducible first | exact HB.out | apply below_alloc | apply pw_below_drewN | apply below_drew1) | exact HB.out)⟩
                  · rw [if_neg c51] at H
                    have c51b0 : (t127 == t129) = false := beq_eq_false_iff_ne.mpr c51
                    have c51b1 : (t127 != t129) = true := bne_iff_ne.mpr c51
                    obtain rfl := Option.some.inj H
                    go_wp2_with (first | ((with_reducible refine gate_callee (f := 23) rfl ?_); refine goesL_ (some 148) rfl rfl Try.func23 (by kernel_rfl) rfl #[.int .i64 t127] rfl (by (try simp only [List.map_toArray, List.map_cons, List.map_nil]); first | done | rfl | (simp only [List.length_drop, List.length_take]; rfl)) ?_; (with_reducible refine (tick_Right.calls t127 true _ A44.out).mono ?_); rintro e w' ⟨rfl, ⟨nd, rfl⟩⟩; refine ⟨_, rfl, ?_⟩) | (go_at_call 23; (with_reducible refine (tick_Right.calls t137 true _ A46.out).mono ?_); rintro e w' ⟨rfl, ⟨nd, rfl⟩⟩))
                    go_ret
                    exact ⟨by first | rfl | (simp [errW_none, errW_some] <;> rfl) | (simp [*, errW_none, errW_some] <;> rfl), by repeat (first | (with_reducible first | exact HB.out | apply below_alloc | apply pw_below_drewN | apply below_drew1) | exact HB.out)⟩
                · rw [if_neg c50] at H
                  have c50b0 : (t121 == t123) = false := beq_eq_false_iff_ne.mpr c50
                  have c50b1 : (t121 != t123) = true := bne_iff_ne.mpr c50
                  obtain rfl := Option.some.inj H
                  go_wp2_with (first | ((with_reducible refine gate_callee (f := 23) rfl ?_); refine goesL_ (some 148) rfl rfl Try.func23 (by kernel_rfl) rfl #[.int .i64 t127] rfl (by (try simp only [List.map_toArray, List.map_cons, List.map_nil]); first | done | rfl | (simp only [List.length_drop, List.length_take]; rfl)) ?_; (with_reducible refine (tick_Right.calls t127 true _ A44.out).mono ?_); rintro e w' ⟨rfl, ⟨nd, rfl⟩⟩; refine ⟨_, rfl, ?_⟩) | (go_at_call 23; (with_reducible refine (tick_Right.calls t137 true _ A46.out).mono ?_); rintro e w' ⟨rfl, ⟨nd, rfl⟩⟩))
                  go_ret
                  exact ⟨by first | rfl | (simp [errW_none, errW_some] <;> rfl) | (simp [*, errW_none, errW_some] <;> rfl), by repeat (first | (with_reducible first | exact HB.out | apply below_alloc | apply pw_below_drewN | apply below_drew1) | exact HB.out)⟩
          · replace c47 := Bool.eq_false_iff.mpr c47
            subst c47
            have H1 : (some false) = some r := by rw [if_neg (show ¬ (false = true) by decide)] at H; exact H
            clear H
            have H := H1
            clear H1
            obtain rfl := Option.some.inj H
            go_wp2_with (first | ((with_reducible refine gate_callee (f := 23) rfl ?_); refine goesL_ (some 148) rfl rfl Try.func23 (by kernel_rfl) rfl #[.int .i64 t127] rfl (by (try simp only [List.map_toArray, List.map_cons, List.map_nil]); first | done | rfl | (simp only [List.length_drop, List.length_take]; rfl)) ?_; (with_reducible refine (tick_Right.calls t127 true _ A44.out).mono ?_); rintro e w' ⟨rfl, ⟨nd, rfl⟩⟩; refine ⟨_, rfl, ?_⟩) | (go_at_call 23; (with_reducible refine (tick_Right.calls t137 false _ A46.out).mono ?_); rintro e w' ⟨rfl, ⟨nd, rfl⟩⟩))
            go_ret
            exact ⟨by first | rfl | (simp [errW_none, errW_some] <;> rfl) | (simp [*, errW_none, errW_some] <;> rfl), by repeat (first | (with_reducible first | exact HB.out | apply below_alloc | apply pw_below_drewN | apply below_drew1) | exact HB.out)⟩
        · replace c45 := Bool.eq_false_iff.mpr c45
          subst c45
          have H1 : (some false) = some r := by rw [if_neg (show ¬ (false = true) by decide)] at H; exact H
          clear H
          have H := H1
          clear H1
          obtain rfl := Option.some.inj H
          go_wp2_with (first | ((with_reducible refine gate_callee (f := 23) rfl ?_); refine goesL_ (some 148) rfl rfl Try.func23 (by kernel_rfl) rfl #[.int .i64 t127] rfl (by (try simp only [List.map_toArray, List.map_cons, List.map_nil]); first | done | rfl | (simp only [List.length_drop, List.length_take]; rfl)) ?_; (with_reducible refine (tick_Right.calls t127 false _ A44.out).mono ?_); rintro e w' ⟨rfl, ⟨nd, rfl⟩⟩; refine ⟨_, rfl, ?_⟩))
          go_ret
          exact ⟨by first | rfl | (simp [errW_none, errW_some] <;> rfl) | (simp [*, errW_none, errW_some] <;> rfl), by repeat (first | (with_reducible first | exact HB.out | apply below_alloc | apply pw_below_drewN | apply below_drew1) | exact HB.out)⟩

/-- THE ONE PURE STATEMENT of foghornlaw05_TickOrder: yours. -/
def foghornlaw05_TickOrder.Pure : Prop := ∀ (a0 : Int) (a1 : Int) (a2 : Int), (Lit.int .i64 a0).wf = true → (Lit.int .i64 a1).wf = true → (Lit.int .i64 a2).wf = true → ∃ k, foghornlaw05_TickOrder.f k a0 a1 a2 = some true
theorem foghornlaw05_TickOrder.walk (P : foghornlaw05_TickOrder.Pure) (a0 : Int) (a1 : Int) (a2 : Int) (w : World) (w0 : (Lit.int .i64 a0).wf = true) (w1 : (Lit.int .i64 a1).wf = true) (w2 : (Lit.int .i64 a2).wf = true) :
    Calls Try.prog 4 #[.int .i64 a0, .int .i64 a1, .int .i64 a2] w fun e w' => e = .returned (.bool true) ∧ Below w.heap.size w w' := by
  obtain ⟨k, h⟩ := P a0 a1 a2 w0 w1 w2
  refine (foghornlaw05_TickOrder.calls k a0 a1 a2 true w h).mono ?_
  rintro e w' ⟨rfl, hd⟩
  exact ⟨rfl, hd⟩

end Go.Proofs.Ytkkopknlhijgiaa.G
