/- What the gate's functions come to, for any gate whatever. -/
import Derived.Test.YtanhdljnbaojbaaG10
import Derived.Test.YtanhdljnbaojbaaG12
import Derived.Test.YtanhdljnbaojbaaG8
import Derived.Test.YtanhdljnbaojbaaG9
import Derived.Test.YtanhdljnbaojbaaBreaker
import Derived.Test.YtanhdljnbaojbaaBucket
namespace Go.Proofs.Ytanhdljnbaojbaa.Gate
open Go.RowKit Go.Proofs.Ytanhdljnbaojbaa.G Go.Proofs.YtanhdljnbaojbaaW.PrintWords Go.Proofs.YtanhdljnbaojbaaW.PrintLast Go.Proofs.YtanhdljnbaojbaaW.PrintMore Go.Proofs.Ytanhdljnbaojbaa.Tick Go.Proofs.Ytanhdljnbaojbaa.Breaker Go.Proofs.Ytanhdljnbaojbaa.Bucket
set_option linter.unusedVariables false
set_option linter.unusedSimpArgs false
instance (B E H T : Int) : Decidable (Bk B E H T) := by unfold Bk; infer_instance
theorem bin_val (a b c : Int) : bucket_in.f a b c = some (decide (b ≤ a ∧ a ≤ c)) := by
  unfold bucket_in.f
  by_cases h : b ≤ a
  · rw [if_pos (by omega)]; simp [h]
  · rw [if_neg (by omega)]; simp [h]
theorem bk_right (B E H T : Int) : bucket_Right.f B E H T = some (decide (Bk B E H T)) := by
  unfold bucket_Right.f
  rw [bin_val, bin_val, bin_val, right_val]
  by_cases h1 : 1 ≤ B ∧ B ≤ 100
  · by_cases h2 : 1 ≤ E ∧ E ≤ 1048576
    · by_cases h3 : 0 ≤ H ∧ H ≤ B
      · simp only [decide_eq_true h1, decide_eq_true h2, decide_eq_true h3, Option.bind_some, if_true, Option.some.injEq, decide_eq_decide]
        unfold Tm Bk
        omega
      · rw [decide_eq_false (show ¬ Bk B E H T by unfold Bk; omega)]
        simp only [decide_eq_true h1, decide_eq_true h2, decide_eq_false h3, Option.bind_some, if_true, Bool.false_eq_true, if_false]
    · rw [decide_eq_false (show ¬ Bk B E H T by unfold Bk; omega)]
      simp only [decide_eq_true h1, decide_eq_false h2, Option.bind_some, if_true, Bool.false_eq_true, if_false]
  · rw [decide_eq_false (show ¬ Bk B E H T by unfold Bk; omega)]
    simp only [decide_eq_false h1, Option.bind_some, Bool.false_eq_true, if_false]
theorem gate_right (F O S C U B E H T : Int) (k : Nat) : gate_Right.f (k + 1) F O S C U B E H T = some (decide (BrMay F O S C U ∧ Bk B E H T)) := by
  unfold gate_Right.f
  rw [br_right, bk_right]
  by_cases h : BrMay F O S C U
  · simp [h]
  · simp [h]
/-- Does the breaker let it through? -/
def thru (S U now : Int) : Bool := decide (S = 0 ∨ S = 1 ∧ U ≤ now)
theorem gate_ask_no {F O S C U B E H T now : Int} (k : Nat) (h : ¬ (BrMay F O S C U ∧ Bk B E H T)) : gate_Ask.f (k + 2) F O S C U B E H T now = some (0, 0, 0, 0, 0, 0, 0, 0, 0, false, 1) := by
  unfold gate_Ask.f
  rw [gate_right, decide_eq_false h]
  rfl
theorem gate_ask_time {F O S C U B E H T now : Int} (k : Nat) (h : BrMay F O S C U ∧ Bk B E H T) (hn : ¬ (0 ≤ now ∧ now ≤ 1099511627776)) : gate_Ask.f (k + 2) F O S C U B E H T now = some (0, 0, 0, 0, 0, 0, 0, 0, 0, false, 1) := by
  unfold gate_Ask.f
  rw [gate_right, decide_eq_true h]
  have e : bucket_Fill.f B E H T now = some (0, 0, 0, 0, 1) := by
    unfold bucket_Fill.f
    rw [if_neg (by unfold FillMay; omega)]
  simp only [Option.bind_some, if_true]
  rw [e]
  rfl
theorem gate_ask_early {F O S C U B E H T now : Int} (k : Nat) (h : BrMay F O S C U ∧ Bk B E H T) (h0 : 0 ≤ now) (hn : now < T) : gate_Ask.f (k + 2) F O S C U B E H T now = some (0, 0, 0, 0, 0, 0, 0, 0, 0, false, 6) := by
  unfold gate_Ask.f
  rw [gate_right, decide_eq_true h]
  obtain ⟨hb, h1, h2, h3, h4, h5⟩ := h
  have e : bucket_Fill.f B E H T now = some (0, 0, 0, 0, 6) := by
    unfold bucket_Fill.f
    rw [if_pos ⟨h1, h2, h3, ⟨h4, h5⟩, h0, by omega⟩, if_pos hn]
  simp only [Option.bind_some, if_true]
  rw [e]
  rfl
theorem gate_ask {F O S C U B E H T now : Int} (k : Nat) (h : BrMay F O S C U) (hb : Bk B E H T) (hn : T ≤ now) (hm : now ≤ 1099511627776) :
    gate_Ask.f (k + 2) F O S C U B E H T now = some (if fH B E H T now ≤ 0 then (F, O, S, C, U, B, E, fH B E H T now, fT B E H T now, false, 0)
      else if S = 1 ∧ U ≤ now then (F, O, 2, 0, 0, B, E, fH B E H T now - 1, fT B E H T now, true, 0)
      else if S = 0 then (F, O, S, C, U, B, E, fH B E H T now - 1, fT B E H T now, true, 0) else (F, O, S, C, U, B, E, fH B E H T now, fT B E H T now, false, 0)) := by
  have hf := fill_bk hb hn hm
  have hle := fill_le hb hn
  have hT := hb.2.2.2.1
  obtain ⟨e1, e2⟩ := fill_fill hb hn (Int.le_refl now) hm
  unfold gate_Ask.f
  rw [gate_right, decide_eq_true ⟨h, hb⟩, fill_is hb hn hm]
  simp only [Option.bind_some, if_true]
  have et : bucket_Take.f B E (fH B E H T now) (fT B E H T now) now = some (if fH B E H T now > 0 then (B, E, fH B E H T now - 1, fT B E H T now, true, 0) else (B, E, fH B E H T now, fT B E H T now, false, 0)) := by
    unfold bucket_Take.f
    rw [fill_is hf hle hm, e1, e2]
    simp only [Option.bind_some]
    by_cases c : fH B E H T now > 0
    · rw [if_pos c, if_pos c, w64 (by have := hf.2.2.1; have := hf.1; omega) (by have := hf.2.2.1; have := hf.1; omega)]
    · rw [if_neg c, if_neg c]
  rw [et]
  by_cases c : fH B E H T now > 0
  · rw [if_pos c, if_neg (by omega)]
    simp only [Option.bind_some, if_true]
    rw [br_ask]
    unfold askF
    rw [if_pos ⟨h, by unfold Tm; omega⟩]
    by_cases d : S = 1 ∧ U ≤ now
    · rw [if_pos d, if_pos d]; rfl
    · rw [if_neg d, if_neg d]
      by_cases z : S = 0
      · rw [if_pos z, decide_eq_true z]; rfl
      · rw [if_neg z, decide_eq_false z]; rfl
  · rw [if_neg c, if_pos (by omega)]
    rfl
end Go.Proofs.Ytanhdljnbaojbaa.Gate
