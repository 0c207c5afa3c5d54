/- What the breaker's functions come to, for any breaker whatever. -/
import Derived.Test.YtanhdljnbaojbaaG10
import Derived.Test.YtanhdljnbaojbaaG11
import Derived.Test.YtanhdljnbaojbaaG15
import Derived.Test.YtanhdljnbaojbaaG16
import Derived.Test.YtanhdljnbaojbaaG4
import Derived.Test.YtanhdljnbaojbaaG6
import Derived.Test.YtanhdljnbaojbaaG7
import Derived.Test.YtanhdljnbaojbaaTick
namespace Go.Proofs.Ytanhdljnbaojbaa.Breaker
open Go.RowKit Go.Proofs.Ytanhdljnbaojbaa.G Go.Proofs.YtanhdljnbaojbaaW.PrintWords Go.Proofs.YtanhdljnbaojbaaW.PrintLast Go.Proofs.YtanhdljnbaojbaaW.PrintMore Go.Proofs.Ytanhdljnbaojbaa.Tick
set_option linter.unusedVariables false
set_option linter.unusedSimpArgs false
/-- A breaker that may be. -/
def BrMay (F O S C U : Int) : Prop := (1 ≤ F ∧ F ≤ 100) ∧ (1 ≤ O ∧ O ≤ 1048576) ∧ ((S = 1 ∧ C = 0 ∧ 0 ≤ U ∧ U ≤ 1099511627776) ∨ (S = 2 ∧ C = 0 ∧ U = 0) ∨ (S = 0 ∧ 0 ≤ C ∧ C ≤ F - 1 ∧ U = 0))
instance (F O S C U : Int) : Decidable (BrMay F O S C U) := by unfold BrMay; infer_instance
theorem in_val (a b c : Int) : breaker_in.f a b c = some (decide (b ≤ a ∧ a ≤ c)) := by
  unfold breaker_in.f
  by_cases h : b ≤ a
  · rw [if_pos (by omega)]; simp [h]
  · rw [if_neg (by omega)]; simp [h]
theorem right_val (t : Int) : tick_Right.f t = some (decide (Tm t)) := by
  unfold tick_Right.f Tm
  by_cases h : 0 ≤ t
  · rw [if_pos (by omega)]; simp [h]
  · rw [if_neg (by omega)]; simp [h]
theorem br_right (F O S C U : Int) (k : Nat) : breaker_Right.f (k + 1) F O S C U = some (decide (BrMay F O S C U)) := by
  unfold breaker_Right.f
  rw [in_val]
  by_cases h1 : 1 ≤ F ∧ F ≤ 100
  · rw [decide_eq_true h1]
    simp only [Option.bind_some, if_true]
    rw [in_val]
    by_cases h2 : 1 ≤ O ∧ O ≤ 1048576
    · rw [decide_eq_true h2]
      simp only [Option.bind_some, Bool.not_true]
      rw [breaker_Right.j0, if_neg (by decide), w64 (n := F - 1) (by omega) (by omega)]
      by_cases s1 : S = 1
      · rw [if_pos s1]
        by_cases c : C = 0
        · rw [if_pos c, right_val]
          simp only [Option.bind_some, Option.some.injEq, decide_eq_decide]
          unfold Tm BrMay
          omega
        · rw [if_neg c, decide_eq_false (by unfold BrMay; omega)]
      · rw [if_neg s1]
        by_cases s2 : S = 2
        · rw [if_pos s2]
          by_cases c : C = 0
          · rw [if_pos c, in_val, decide_eq_true (by omega)]
            simp only [Option.bind_some, if_true]
            by_cases u : U = 0
            · rw [beq_iff_eq.mpr u, decide_eq_true (by unfold BrMay; omega)]
            · rw [beq_eq_false_iff_ne.mpr u, decide_eq_false (by unfold BrMay; omega)]
          · rw [if_neg c, decide_eq_false (by unfold BrMay; omega)]
        · rw [if_neg s2]
          by_cases s0 : S = 0
          · rw [if_pos s0, in_val]
            by_cases c : 0 ≤ C ∧ C ≤ F - 1
            · rw [decide_eq_true c]
              simp only [Option.bind_some, if_true]
              by_cases u : U = 0
              · rw [beq_iff_eq.mpr u, decide_eq_true (by unfold BrMay; omega)]
              · rw [beq_eq_false_iff_ne.mpr u, decide_eq_false (by unfold BrMay; omega)]
            · rw [decide_eq_false c]
              simp only [Option.bind_some, Bool.false_eq_true, if_false]
              rw [decide_eq_false (by unfold BrMay; omega)]
          · rw [if_neg s0, decide_eq_false (by unfold BrMay; omega)]
    · rw [decide_eq_false h2]
      simp only [Option.bind_some, Bool.not_false]
      rw [breaker_Right.j0, if_pos rfl, decide_eq_false (by unfold BrMay; omega)]
  · rw [decide_eq_false h1]
    simp only [Option.bind_some, Bool.false_eq_true, if_false]
    rw [breaker_Right.j0, if_pos rfl, decide_eq_false (by unfold BrMay; omega)]
/-- What is asked comes to. -/
def askF (F O S C U now : Int) : Int × Int × Int × Int × Int × Bool × Int :=
  if BrMay F O S C U ∧ Tm now then (if S = 1 ∧ U ≤ now then (F, O, 2, 0, 0, true, 0) else (F, O, S, C, U, decide (S = 0), 0)) else (0, 0, 0, 0, 0, false, 1)
theorem br_ask (F O S C U now : Int) (k : Nat) : breaker_Ask.f (k + 2) F O S C U now = some (askF F O S C U now) := by
  unfold breaker_Ask.f askF
  rw [br_right, right_val]
  by_cases h : BrMay F O S C U
  · by_cases t : Tm now
    · rw [decide_eq_true h, decide_eq_true t, if_pos ⟨h, t⟩]
      simp only [Option.bind_some, if_true, Bool.not_true]
      rw [breaker_Ask.j0, if_neg (by decide)]
      by_cases c : S = 1
      · subst c
        rw [if_pos rfl, breaker_Ask.j1]
        by_cases d : U ≤ now
        · rw [if_pos (decide_eq_true d), if_pos ⟨rfl, d⟩]; rfl
        · rw [if_neg (by simp; omega), if_neg (by decide), if_neg (by omega)]; rfl
      · rw [if_neg c, if_neg (by omega), breaker_Ask.j1, if_neg (by decide)]
        by_cases d : S = 0
        · rw [if_pos d, decide_eq_true d]
        · rw [if_neg d, decide_eq_false d]
    · rw [decide_eq_true h, decide_eq_false t, if_neg (by simp [t])]
      simp only [Option.bind_some, if_true, Bool.not_false]
      rw [breaker_Ask.j0, if_pos rfl]
  · rw [decide_eq_false h, if_neg (by simp [h])]
    simp only [Option.bind_some, Bool.false_eq_true, if_false]
    rw [breaker_Ask.j0, if_pos rfl]
/-- What is told comes to. -/
def toldF (F O S C U now : Int) (ok : Bool) : Int × Int × Int × Int × Int × Int :=
  if BrMay F O S C U ∧ Tm now then (if S = 1 then (0, 0, 0, 0, 0, 6) else if ok = true then (F, O, 0, 0, 0, 0) else if S = 0 ∧ C < F - 1 then (F, O, 0, C + 1, U, 0) else (F, O, 1, 0, mn (now + O) 1099511627776, 0)) else (0, 0, 0, 0, 0, 1)
theorem br_told (F O S C U now : Int) (ok : Bool) (k : Nat) : breaker_Told.f (k + 2) F O S C U now ok = some (toldF F O S C U now ok) := by
  unfold breaker_Told.f toldF
  rw [br_right, right_val]
  by_cases h : BrMay F O S C U
  · by_cases t : Tm now
    · rw [decide_eq_true h, decide_eq_true t, if_pos ⟨h, t⟩]
      simp only [Option.bind_some, if_true, Bool.not_true]
      obtain ⟨hF, hO, hS⟩ := h
      have hadd : tick_Add.f now O = some (mn (now + O) 1099511627776, 0) := add_in t ⟨by omega, by omega⟩
      rw [breaker_Told.j0, if_neg (by decide)]
      by_cases c : S = 1
      · rw [if_pos c, if_pos c]
      · rw [if_neg c, if_neg c]
        cases ok with
        | true => rfl
        | false =>
          simp only [Bool.false_eq_true, if_false]
          by_cases d : S = 0
          · subst d
            rw [if_pos rfl, breaker_Told.j1]
            by_cases e : C < F - 1
            · rw [if_pos (by rw [w64 (by omega) (by omega)]; exact decide_eq_true e), if_pos ⟨rfl, e⟩, w64 (by omega) (by omega)]
            · rw [if_neg (by rw [w64 (by omega) (by omega)]; simp; omega), if_neg (by omega)]
              simp only [breaker_fresh.f, Option.bind_some, hadd]
          · rw [if_neg d, if_neg (by omega), breaker_Told.j1, if_neg (by decide)]
            simp only [breaker_fresh.f, Option.bind_some, hadd]
    · rw [decide_eq_true h, decide_eq_false t, if_neg (by simp [t])]
      simp only [Option.bind_some, if_true, Bool.not_false]
      rw [breaker_Told.j0, if_pos rfl]
  · rw [decide_eq_false h, if_neg (by simp [h])]
    simp only [Option.bind_some, Bool.false_eq_true, if_false]
    rw [breaker_Told.j0, if_pos rfl]
end Go.Proofs.Ytanhdljnbaojbaa.Breaker
