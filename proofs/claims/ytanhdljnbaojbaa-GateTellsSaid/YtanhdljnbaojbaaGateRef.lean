/- What the gate's reference comes to, for any gate whatever: the same as the gate itself, where that answers. -/
import Derived.Test.YtanhdljnbaojbaaG12
import Derived.Test.YtanhdljnbaojbaaG13
import Derived.Test.YtanhdljnbaojbaaG17
import Derived.Test.YtanhdljnbaojbaaG18
import Derived.Test.YtanhdljnbaojbaaG19
import Derived.Test.YtanhdljnbaojbaaG20
import Derived.Test.YtanhdljnbaojbaaG8
import Derived.Test.YtanhdljnbaojbaaGate
namespace Go.Proofs.Ytanhdljnbaojbaa.GateRef
open Go.RowKit Go.Proofs.Ytanhdljnbaojbaa.G Go.Proofs.YtanhdljnbaojbaaW.PrintWords Go.Proofs.YtanhdljnbaojbaaW.PrintLast Go.Proofs.YtanhdljnbaojbaaW.PrintMore Go.Proofs.Ytanhdljnbaojbaa.Tick Go.Proofs.Ytanhdljnbaojbaa.Breaker Go.Proofs.Ytanhdljnbaojbaa.Bucket Go.Proofs.Ytanhdljnbaojbaa.Gate
set_option linter.unusedVariables false
set_option linter.unusedSimpArgs false
theorem rr5 (t : Int) : foghornref05_Right.f t = some (decide (Tm t)) := by
  unfold foghornref05_Right.f Tm
  by_cases h : 0 ≤ t
  · rw [if_pos (by omega)]; simp [h]
  · rw [if_neg (by omega)]; simp [h]
theorem rr7 (F O S C U : Int) (k : Nat) : foghornref07_Right.f (k + 1) F O S C U = some (decide (BrMay F O S C U)) := by
  unfold foghornref07_Right.f
  by_cases h1 : F < 1
  · rw [if_pos h1, foghornref07_Right.j0, if_pos rfl, decide_eq_false (by unfold BrMay; omega)]
  · rw [if_neg h1]
    by_cases h2 : F > 100
    · rw [if_pos h2, foghornref07_Right.j0, if_pos rfl, decide_eq_false (by unfold BrMay; omega)]
    · rw [if_neg h2]
      by_cases h3 : O < 1
      · rw [if_pos h3, foghornref07_Right.j0, if_pos rfl, decide_eq_false (by unfold BrMay; omega)]
      · rw [if_neg h3]
        by_cases h4 : O > 1048576
        · rw [decide_eq_true h4, foghornref07_Right.j0, if_pos rfl, decide_eq_false (by unfold BrMay; omega)]
        · rw [decide_eq_false h4, foghornref07_Right.j0, if_neg (by decide)]
          by_cases s0 : S = 0
          · subst s0
            rw [if_pos rfl]
            by_cases c : 0 ≤ C
            · rw [if_pos (by omega)]
              by_cases c2 : C < F
              · rw [if_pos c2]
                by_cases u : U = 0
                · rw [beq_iff_eq.mpr u, decide_eq_true (by unfold BrMay; omega)]
                · rw [beq_eq_false_iff_ne.mpr u, decide_eq_false (by unfold BrMay; omega)]
              · rw [if_neg c2, decide_eq_false (by unfold BrMay; omega)]
            · rw [if_neg (by omega), decide_eq_false (by unfold BrMay; omega)]
          · rw [if_neg s0]
            by_cases s1 : S = 1
            · subst s1
              rw [if_pos rfl]
              by_cases c : C = 0
              · rw [if_pos c, rr5]
                simp only [Option.bind_some, Option.some.injEq, decide_eq_decide]
                unfold Tm BrMay
                omega
              · rw [if_neg c, decide_eq_false (by unfold BrMay; omega)]
            · rw [if_neg s1]
              by_cases s2 : S = 2
              · rw [if_pos s2]
                by_cases c : C = 0
                · rw [if_pos c]
                  by_cases u : U = 0
                  · rw [beq_iff_eq.mpr u, decide_eq_true (by unfold BrMay; omega)]
                  · rw [beq_eq_false_iff_ne.mpr u, decide_eq_false (by unfold BrMay; omega)]
                · rw [if_neg c, decide_eq_false (by unfold BrMay; omega)]
              · rw [if_neg s2, decide_eq_false (by unfold BrMay; omega)]
theorem rr8 (B E H T : Int) : foghornref08_Right.f B E H T = some (decide (Bk B E H T)) := by
  unfold foghornref08_Right.f
  rw [rr5]
  by_cases h1 : 1 ≤ B ∧ B ≤ 100
  · by_cases h2 : 1 ≤ E ∧ E ≤ 1048576
    · by_cases h3 : 0 ≤ H ∧ H ≤ B
      · rw [if_pos (by omega), if_pos (by omega), if_pos (by omega), if_pos (by omega), if_pos (by omega), if_pos (by omega)]
        simp only [Option.bind_some, Option.some.injEq, decide_eq_decide]
        unfold Tm Bk
        omega
      · rw [if_pos (by omega), if_pos (by omega), if_pos (by omega), if_pos (by omega), decide_eq_false (show ¬ Bk B E H T by unfold Bk; omega)]
        by_cases c : H ≥ 0
        · rw [if_pos c, if_neg (by omega)]
        · rw [if_neg c]
    · rw [if_pos (by omega), if_pos (by omega), decide_eq_false (show ¬ Bk B E H T by unfold Bk; omega)]
      by_cases c : E ≥ 1
      · rw [if_pos c, if_neg (by omega)]
      · rw [if_neg c]
  · rw [decide_eq_false (show ¬ Bk B E H T by unfold Bk; omega)]
    by_cases c : B ≥ 1
    · rw [if_pos c, if_neg (by omega)]
    · rw [if_neg c]
/-- A gate that may be. -/
def GMay (F O S C U B E H T : Int) : Prop := BrMay F O S C U ∧ Bk B E H T
instance (F O S C U B E H T : Int) : Decidable (GMay F O S C U B E H T) := by unfold GMay; infer_instance
theorem g_right (F O S C U B E H T : Int) (k : Nat) : gate_Right.f (k + 1) F O S C U B E H T = some (decide (GMay F O S C U B E H T)) := gate_right F O S C U B E H T k
theorem r_right (F O S C U B E H T : Int) (k : Nat) : foghornref19_Right.f (k + 1) F O S C U B E H T = some (decide (GMay F O S C U B E H T)) := by
  unfold foghornref19_Right.f
  rw [rr7, rr8]
  by_cases h : BrMay F O S C U
  · simp [h, GMay]
  · simp [h, GMay]
theorem g_new (b : ByteArray) (a1 a2 a3 a4 F O B E now : Int) (k : Nat) : gate_New.f (k + 1) b a1 a2 a3 a4 F O B E now = some (if GMay F O 0 0 0 B E 1 now then (F, O, 0, 0, 0, B, E, 1, now, 0) else (0, 0, 0, 0, 0, 0, 0, 0, 0, 1)) := by
  unfold gate_New.f breaker_New.f bucket_New.f
  rw [br_right, bk_right]
  by_cases h : BrMay F O 0 0 0
  · by_cases h2 : Bk B E 1 now
    · simp [h, h2, GMay]
    · simp [h, h2, GMay]
  · by_cases h2 : Bk B E 1 now
    · simp [h, h2, GMay]
    · simp [h, h2, GMay]
theorem r_fill {B E H T now : Int} (h : Bk B E H T) (hn : T ≤ now) (hm : now ≤ 1099511627776) : foghornref08_Fill.f B E H T now = some (B, E, fH B E H T now, fT B E H T now) := by
  have k1 := more_nonneg h hn
  have k2 := more_mul h hn
  have k3 : 0 ≤ more E T now * E := Int.mul_nonneg k1 (by have := h.2.1.1; omega)
  have k4 : more E T now ≤ now - T := Int.le_trans (Int.ediv_le_self _ (by omega)) (Int.le_refl _)
  obtain ⟨h1, h2, h3, h4, h5⟩ := h
  have e : wrap64 (Int.tdiv (wrap64 (now - T)) E) = more E T now := by
    rw [w64 (n := now - T) (by omega) (by omega), Int.tdiv_eq_ediv_of_nonneg (by omega)]
    show wrap64 (more E T now) = _
    exact w64 (by omega) (by omega)
  unfold foghornref08_Fill.f
  rw [e, if_neg (by omega), w64 (n := H + more E T now) (by omega) (by omega), w64 (n := more E T now * E) (by omega) (by omega), w64 (n := T + more E T now * E) (by omega) (by omega)]
  unfold fH fT
  split <;> rfl
/-- What is asked comes to, where it is answered. -/
def askV (F O S C U B E H T now : Int) : Int × Int × Int × Int × Int × Int × Int × Int × Int × Bool :=
  if fH B E H T now ≤ 0 then (F, O, S, C, U, B, E, fH B E H T now, fT B E H T now, false)
  else if S = 1 ∧ U ≤ now then (F, O, 2, 0, 0, B, E, fH B E H T now - 1, fT B E H T now, true)
  else if S = 0 then (F, O, S, C, U, B, E, fH B E H T now - 1, fT B E H T now, true) else (F, O, S, C, U, B, E, fH B E H T now, fT B E H T now, false)
theorem r_ask {F O S C U B E H T now : Int} (h : GMay F O S C U B E H T) (hn : T ≤ now) (hm : now ≤ 1099511627776) : foghornref19_Ask.f F O S C U B E H T now = some (askV F O S C U B E H T now) := by
  obtain ⟨hb, hk⟩ := h
  have hf := fill_bk hk hn hm
  unfold foghornref19_Ask.f askV
  rw [r_fill hk hn hm, Option.bind_some]
  by_cases c : fH B E H T now ≤ 0
  · rw [if_pos c, if_pos (show fH B E H T now = 0 by have := hf.2.2.1; omega)]
  · rw [if_neg c, if_neg (show ¬ fH B E H T now = 0 by omega)]
    unfold foghornref07_Ask.f
    by_cases s0 : S = 0
    · rw [if_pos s0, if_neg (by omega), if_pos s0]
      simp only [Option.bind_some, if_true]
      rw [w64 (by have := hf.2.2.1; omega) (by have := hf.2.2.1; have := hf.1; omega)]
    · rw [if_neg s0]
      by_cases s1 : S = 1
      · rw [if_pos s1]
        by_cases d : U ≤ now
        · rw [if_pos d, if_pos ⟨s1, d⟩]
          simp only [Option.bind_some, if_true]
          rw [w64 (by have := hf.2.2.1; omega) (by have := hf.2.2.1; have := hf.1; omega)]
        · rw [if_neg d, if_neg (by omega), if_neg s0]
          rfl
      · rw [if_neg s1, if_neg (by omega), if_neg s0]
        rfl
theorem g_ask {F O S C U B E H T now : Int} (k : Nat) (h : GMay F O S C U B E H T) (hn : T ≤ now) (hm : now ≤ 1099511627776) :
    ∃ r0 r1 r2 r3 r4 r5 r6 r7 r8 r9, askV F O S C U B E H T now = (r0, r1, r2, r3, r4, r5, r6, r7, r8, r9) ∧ gate_Ask.f (k + 2) F O S C U B E H T now = some (r0, r1, r2, r3, r4, r5, r6, r7, r8, r9, 0) := by
  rw [gate_ask k h.1 h.2 hn hm]
  unfold askV
  by_cases c : fH B E H T now ≤ 0
  · rw [if_pos c, if_pos c]; exact ⟨_, _, _, _, _, _, _, _, _, _, rfl, rfl⟩
  · rw [if_neg c, if_neg c]
    by_cases d : S = 1 ∧ U ≤ now
    · rw [if_pos d, if_pos d]; exact ⟨_, _, _, _, _, _, _, _, _, _, rfl, rfl⟩
    · rw [if_neg d, if_neg d]
      by_cases s0 : S = 0
      · rw [if_pos s0, if_pos s0]; exact ⟨_, _, _, _, _, _, _, _, _, _, rfl, rfl⟩
      · rw [if_neg s0, if_neg s0]; exact ⟨_, _, _, _, _, _, _, _, _, _, rfl, rfl⟩
/-- What is told comes to, where it is taken. -/
def tellV (F O S C U now : Int) (ok : Bool) : Int × Int × Int × Int × Int :=
  if ok = true then (F, O, 0, 0, 0) else if S = 0 ∧ C < F - 1 then (F, O, 0, C + 1, U) else (F, O, 1, 0, mn (now + O) 1099511627776)
theorem told_val {F O S C U now : Int} (ok : Bool) (h : BrMay F O S C U) (hn : Tm now) (hs : ¬ S = 1) {r0 r1 r2 r3 r4 : Int} (hv : tellV F O S C U now ok = (r0, r1, r2, r3, r4)) : toldF F O S C U now ok = (r0, r1, r2, r3, r4, 0) := by
  unfold toldF
  unfold tellV at hv
  rw [if_pos (show BrMay F O S C U ∧ Tm now from ⟨h, hn⟩), if_neg hs]
  cases ok with
  | true =>
    simp only [if_true, Prod.mk.injEq] at hv ⊢
    obtain ⟨rfl, rfl, rfl, rfl, rfl⟩ := hv
    simp
  | false =>
    simp only [Bool.false_eq_true, if_false] at hv ⊢
    by_cases d : S = 0 ∧ C < F - 1
    · rw [if_pos d] at hv ⊢
      simp only [Prod.mk.injEq] at hv ⊢
      obtain ⟨rfl, rfl, rfl, rfl, rfl⟩ := hv
      simp
    · rw [if_neg d] at hv ⊢
      simp only [Prod.mk.injEq] at hv ⊢
      obtain ⟨rfl, rfl, rfl, rfl, rfl⟩ := hv
      simp
theorem g_told {F O S C U B E H T now : Int} (ok : Bool) (k : Nat) (h : GMay F O S C U B E H T) (hn : Tm now) (hs : ¬ S = 1) {r0 r1 r2 r3 r4 : Int} (hv : tellV F O S C U now ok = (r0, r1, r2, r3, r4)) :
    gate_Told.f (k + 2) F O S C U B E H T now ok = some (r0, r1, r2, r3, r4, B, E, H, T, 0) := by
  unfold gate_Told.f
  rw [g_right, br_told, decide_eq_true h, told_val ok h.1 hn hs hv]
  rfl
theorem g_told_open {F O S C U B E H T now : Int} (ok : Bool) (k : Nat) (h : GMay F O S C U B E H T) (hn : Tm now) (hs : S = 1) : gate_Told.f (k + 2) F O S C U B E H T now ok = some (0, 0, 0, 0, 0, 0, 0, 0, 0, 6) := by
  have e : toldF F O S C U now ok = (0, 0, 0, 0, 0, 6) := by
    unfold toldF
    rw [if_pos (show BrMay F O S C U ∧ Tm now from ⟨h.1, hn⟩), if_pos hs]
  unfold gate_Told.f
  rw [g_right, br_told, decide_eq_true h, e]
  rfl
theorem g_told_no {F O S C U B E H T now : Int} (ok : Bool) (k : Nat) (h : ¬ (GMay F O S C U B E H T ∧ Tm now)) : gate_Told.f (k + 2) F O S C U B E H T now ok = some (0, 0, 0, 0, 0, 0, 0, 0, 0, 1) := by
  unfold gate_Told.f
  rw [g_right, br_told]
  by_cases g : GMay F O S C U B E H T
  · have e : toldF F O S C U now ok = (0, 0, 0, 0, 0, 1) := by
      unfold toldF
      rw [if_neg (show ¬ (BrMay F O S C U ∧ Tm now) from fun x => h ⟨g, x.2⟩)]
    rw [decide_eq_true g, e]
    rfl
  · rw [decide_eq_false g]; rfl
theorem r_told {F O S C U B E H T now : Int} (ok : Bool) (h : GMay F O S C U B E H T) (hn : Tm now) (hs : ¬ S = 1) {r0 r1 r2 r3 r4 : Int} (hv : tellV F O S C U now ok = (r0, r1, r2, r3, r4)) :
    foghornref19_Told.f F O S C U B E H T now ok = some (r0, r1, r2, r3, r4, B, E, H, T) := by
  obtain ⟨⟨hF, hO, hS⟩, hk⟩ := h
  unfold Tm at hn
  have e : foghornref07_Told.f F O S C U now ok = some (r0, r1, r2, r3, r4) := by
    rw [← hv]
    unfold foghornref07_Told.f tellV foghornref07_opened.f foghornref05_Add.f
    rw [w64 (n := now + O) (by omega) (by omega)]
    cases ok with
    | true => rfl
    | false =>
      simp only [Bool.false_eq_true, if_false, Option.bind_some]
      by_cases s2 : S = 2
      · rw [if_pos s2, if_neg (by omega)]
      · rw [if_neg s2, w64 (n := C + 1) (by omega) (by omega)]
        by_cases c : C + 1 = F
        · rw [if_pos c, if_neg (by omega)]
        · rw [if_neg c, if_pos (by omega), show S = 0 by omega]
  unfold foghornref19_Told.f
  rw [e]
  rfl
theorem g_ask_no {F O S C U B E H T now : Int} (k : Nat) (h : ¬ (GMay F O S C U B E H T ∧ Tm now)) : gate_Ask.f (k + 2) F O S C U B E H T now = some (0, 0, 0, 0, 0, 0, 0, 0, 0, false, 1) := by
  by_cases g : GMay F O S C U B E H T
  · exact gate_ask_time k g (fun t => h ⟨g, t⟩)
  · exact gate_ask_no k g
theorem g_ask_early {F O S C U B E H T now : Int} (k : Nat) (h : GMay F O S C U B E H T) (hn : Tm now) (ht : now < T) : gate_Ask.f (k + 2) F O S C U B E H T now = some (0, 0, 0, 0, 0, 0, 0, 0, 0, false, 6) :=
  gate_ask_early k h hn.1 ht
end Go.Proofs.Ytanhdljnbaojbaa.GateRef
