/- A gate that is asked and told, step by step, over plain numbers: what its breaker and its bucket are behind each step. No condition. -/
import Derived.Test.YtanhdljnbaojbaaGateRef
namespace Go.Proofs.Ytanhdljnbaojbaa.GateRound
open Go.RowKit Go.Proofs.Ytanhdljnbaojbaa.G Go.Proofs.YtanhdljnbaojbaaW.PrintWords Go.Proofs.YtanhdljnbaojbaaW.PrintLast Go.Proofs.YtanhdljnbaojbaaW.PrintMore Go.Proofs.Ytanhdljnbaojbaa.Tick Go.Proofs.Ytanhdljnbaojbaa.Breaker Go.Proofs.Ytanhdljnbaojbaa.Bucket Go.Proofs.Ytanhdljnbaojbaa.Gate Go.Proofs.Ytanhdljnbaojbaa.GateRef
set_option linter.unusedVariables false
set_option linter.unusedSimpArgs false
theorem rd_left (l : List Int) (x : Int) (i : Nat) (h : i < l.length) : rd (l ++ [x]) (i : Int) = rd l (i : Int) := by
  simp [rd, List.getD_eq_getElem?_getD, List.getElem?_append_left h]
theorem rd_last (l : List Int) (x : Int) : rd (l ++ [x]) (l.length : Int) = x := by
  simp [rd, List.getD_eq_getElem?_getD]
/-- What was taken keeps within the bounds; and so will what is taken. -/
structure Kept2 (B E H T now : Int) (tk : List Int) : Prop where
  pairs : ∀ i k : Nat, i ≤ k → k < tk.length → (k : Int) - i + 1 ≤ B + (rd tk k - rd tk i) / E
  later : ∀ i : Nat, i < tk.length → ∀ t, now ≤ t → (tk.length : Int) - i + H + (t - T) / E ≤ B + (t - rd tk i) / E
  times : ∀ i : Nat, i < tk.length → 0 ≤ rd tk i ∧ rd tk i ≤ now
theorem kept_none {B E H T now now' : Int} {tk : List Int} (h : Bk B E H T) (hT : T ≤ now) (hn : now ≤ now') (hk : Kept2 B E H T now tk) : Kept2 B E (fH B E H T now') (fT B E H T now') now' tk := by
  refine ⟨hk.pairs, fun i hi t ht => ?_, fun i hi => ?_⟩
  · have k1 := hk.later i hi t (by omega)
    have k2 := fill_cap h (show T ≤ now' by omega) ht
    omega
  · have := hk.times i hi; omega
theorem kept_take {B E H T now now' : Int} {tk : List Int} (h : Bk B E H T) (hT : T ≤ now) (h0 : 0 ≤ now) (hn : now ≤ now') (hm : now' ≤ 1099511627776) (hk : Kept2 B E H T now tk) (hp : fH B E H T now' > 0) : Kept2 B E (fH B E H T now' - 1) (fT B E H T now') now' (tk ++ [now']) := by
  have hE : 0 < E := by have := h.2.1.1; omega
  have hb := fill_bk h (show T ≤ now' by omega) hm
  have hl := fill_le h (show T ≤ now' by omega)
  have near := fill_near h (show T ≤ now' by omega)
  have old : ∀ i : Nat, i < tk.length → ∀ t, now' ≤ t → ((tk ++ [now']).length : Int) - i + (fH B E H T now' - 1) + (t - fT B E H T now') / E ≤ B + (t - rd (tk ++ [now']) i) / E := by
    intro i hi t ht
    rw [rd_left _ _ _ hi, List.length_append, List.length_singleton]
    have k1 := hk.later i hi t (by omega)
    have k2 := fill_cap h (show T ≤ now' by omega) ht
    omega
  have new : ∀ t, now' ≤ t → 1 + (fH B E H T now' - 1) + (t - fT B E H T now') / E ≤ B + (t - now') / E := by
    intro t ht
    rcases near with ⟨n1, n2⟩ | ⟨n1, n2⟩
    · rw [n1, n2]; omega
    · have k : (t - fT B E H T now') / E ≤ (t - now') / E + 1 := by
        have : (t - fT B E H T now') / E ≤ (t - now' + 1 * E) / E := Int.ediv_le_ediv hE (by omega)
        rw [Int.add_mul_ediv_right _ _ (by omega)] at this
        exact this
      omega
  refine ⟨fun i k hik hkl => ?_, fun i hi t ht => ?_, fun i hi => ?_⟩
  · rw [List.length_append, List.length_singleton] at hkl
    by_cases e : k = tk.length
    · subst e
      rw [rd_last]
      by_cases e2 : i = tk.length
      · subst e2
        rw [rd_last, Int.sub_self, Int.sub_self, Int.zero_ediv]
        have := h.1; omega
      · have k1 := old i (by omega) now' (Int.le_refl _)
        rw [rd_left _ _ _ (by omega), List.length_append, List.length_singleton] at k1
        rw [rd_left _ _ _ (by omega)]
        have k2 : 0 ≤ (now' - fT B E H T now') / E := Int.ediv_nonneg (by omega) (by omega)
        omega
    · rw [rd_left _ _ _ (by omega), rd_left _ _ _ (by omega)]
      exact hk.pairs i k hik (by omega)
  · by_cases e : i = tk.length
    · subst e
      have k1 := new t ht
      rw [rd_last, List.length_append, List.length_singleton]
      omega
    · rw [List.length_append, List.length_singleton] at hi
      exact old i (by omega) t ht
  · rw [List.length_append, List.length_singleton] at hi
    by_cases e : i = tk.length
    · subst e; rw [rd_last]; omega
    · rw [rd_left _ _ _ (by omega)]
      have := hk.times i (by omega); omega
/-- How a new gate stands behind some steps: with the law's own count of failures, and time till which it is shut. -/
structure GB (B E F O : Int) (j : Nat) (S C U H T now row till : Int) (sent : List Int) : Prop where
  gm : GMay F O S C U B E H T
  hT : T ≤ now
  h0 : 0 ≤ now
  hn : now ≤ 4 * (j : Int)
  st : (S = 0 ∧ C = row ∧ till = 0) ∨ (S = 1 ∧ row = 0 ∧ till = U ∧ 0 < U ∧ U ≤ 4 * (j : Int) + 20)
  len : sent.length ≤ j
  kept : Kept2 B E H T now sent
  up : ∀ i k : Nat, i ≤ k → k < sent.length → rd sent i ≤ rd sent k
structure GP (B E F O : Int) : Prop where
  b : 1 ≤ B ∧ B ≤ 9
  e : 1 ≤ E ∧ E ≤ 9
  f : 1 ≤ F ∧ F ≤ 5
  o : 1 ≤ O ∧ O ≤ 20
theorem gb_new {B E F O : Int} (p : GP B E F O) : GMay F O 0 0 0 B E 1 0 ∧ GB B E F O 0 0 0 0 1 0 0 0 0 [] := by
  obtain ⟨pb, pe, pf, po⟩ := p
  have g : GMay F O 0 0 0 B E 1 0 := by unfold GMay BrMay Bk; omega
  exact ⟨g, g, by omega, by omega, by omega, .inl ⟨rfl, rfl, rfl⟩, Nat.le_refl _, ⟨fun i k _ hk => by simp at hk, fun i hi => by simp at hi, fun i hi => by simp at hi⟩, fun i k _ hk => by simp at hk⟩
theorem up_snoc {now' : Int} {sent : List Int} (h : ∀ i k : Nat, i ≤ k → k < sent.length → rd sent i ≤ rd sent k) (ht : ∀ i : Nat, i < sent.length → rd sent i ≤ now') : ∀ i k : Nat, i ≤ k → k < (sent ++ [now']).length → rd (sent ++ [now']) i ≤ rd (sent ++ [now']) k := by
  intro i q hiq hq
  rw [List.length_append, List.length_singleton] at hq
  by_cases e : q = sent.length
  · subst e
    by_cases e2 : i = sent.length
    · subst e2; exact Int.le_refl _
    · rw [rd_last, rd_left _ _ _ (by omega)]
      exact ht i (by omega)
  · rw [rd_left _ _ _ (by omega), rd_left _ _ _ (by omega)]
    exact h i q hiq (by omega)
/-- One step: nothing goes through, or it does. -/
theorem gb_step {B E F O : Int} {j : Nat} {S C U H T now row till : Int} {sent : List Int} (p : GP B E F O) (h : GB B E F O j S C U H T now row till sent) (hj : j ≤ 150) (now' : Int) (hd : now ≤ now' ∧ now' ≤ now + 4) :
    (∃ h' t', askV F O S C U B E H T now' = (F, O, S, C, U, B, E, h', t', false) ∧ GMay F O S C U B E h' t' ∧ GB B E F O (j + 1) S C U h' t' now' row till sent) ∨
    (∃ S' C' U' h' t', askV F O S C U B E H T now' = (F, O, S', C', U', B, E, h', t', true) ∧ GMay F O S' C' U' B E h' t' ∧ ¬ now' < till ∧ ¬ S' = 1 ∧
      (∃ S2 C2 U2, tellV F O S' C' U' now' true = (F, O, S2, C2, U2) ∧ GMay F O S2 C2 U2 B E h' t' ∧ GB B E F O (j + 1) S2 C2 U2 h' t' now' 0 0 (sent ++ [now'])) ∧
      (∃ S2 C2 U2, tellV F O S' C' U' now' false = (F, O, S2, C2, U2) ∧ GMay F O S2 C2 U2 B E h' t' ∧
        ((till > 0 ∨ row + 1 = F) → GB B E F O (j + 1) S2 C2 U2 h' t' now' 0 (now' + O) (sent ++ [now'])) ∧
        (¬ till > 0 → ¬ row + 1 = F → GB B E F O (j + 1) S2 C2 U2 h' t' now' (row + 1) till (sent ++ [now'])))) := by
  obtain ⟨⟨gb, gk⟩, hT, h0, hn, st, hl, kp, up⟩ := h
  obtain ⟨pb, pe, pf, po⟩ := p
  have hT' : T ≤ now' := by omega
  have hm : now' ≤ 1099511627776 := by omega
  have hf := fill_bk gk hT' hm
  have hle := fill_le gk hT'
  by_cases c : fH B E H T now' ≤ 0
  · left
    refine ⟨fH B E H T now', fT B E H T now', by unfold askV; rw [if_pos c], ⟨gb, hf⟩, ⟨gb, hf⟩, hle, by omega, by omega, ?_, by omega, kept_none gk hT hd.1 kp, up⟩
    omega
  · have hp : fH B E H T now' > 0 := by omega
    have hb2 : Bk B E (fH B E H T now' - 1) (fT B E H T now') := by
      obtain ⟨b1, b2, b3, b4, b5⟩ := hf
      exact ⟨b1, b2, ⟨by omega, by omega⟩, b4, b5⟩
    have k2 := kept_take gk hT h0 hd.1 hm kp hp
    have u2 := up_snoc (now' := now') up (fun i hi => by have := kp.times i hi; omega)
    have ln : (sent ++ [now']).length ≤ j + 1 := by simp; omega
    rcases st with ⟨s0, s1, s2⟩ | ⟨s0, s1, s2, s3, s4⟩
    · right
      subst s0
      subst s1
      subst s2
      have hC : 0 ≤ C ∧ C ≤ F - 1 ∧ U = 0 := by unfold BrMay at gb; omega
      refine ⟨0, C, U, _, _, by unfold askV; rw [if_neg c, if_neg (by omega), if_pos rfl], ⟨gb, hb2⟩, by omega, by omega, ?_, ?_⟩
      · refine ⟨0, 0, 0, by unfold tellV; rw [if_pos rfl], ⟨by unfold BrMay; omega, hb2⟩, ⟨by unfold BrMay; omega, hb2⟩, hle, by omega, by omega, .inl ⟨rfl, rfl, rfl⟩, ln, k2, u2⟩
      · by_cases d : C < F - 1
        · refine ⟨0, C + 1, U, by unfold tellV; rw [if_neg (by decide), if_pos ⟨rfl, d⟩], ⟨by unfold BrMay; omega, hb2⟩, fun x => absurd x (by omega), fun _ _ => ⟨⟨by unfold BrMay; omega, hb2⟩, hle, by omega, by omega, .inl ⟨rfl, rfl, rfl⟩, ln, k2, u2⟩⟩
        · have em : mn (now' + O) 1099511627776 = now' + O := by unfold mn; split <;> omega
          refine ⟨1, 0, now' + O, by unfold tellV; rw [if_neg (by decide), if_neg (by omega), em], ⟨by unfold BrMay; omega, hb2⟩, fun _ => ⟨⟨by unfold BrMay; omega, hb2⟩, hle, by omega, by omega, .inr ⟨rfl, rfl, rfl, by omega, by omega⟩, ln, k2, u2⟩, fun _ x => absurd (show C + 1 = F by omega) x⟩
    · subst s0
      subst s1
      subst s2
      have hC : C = 0 := by unfold BrMay at gb; omega
      subst hC
      by_cases d : till ≤ now'
      · right
        have em : mn (now' + O) 1099511627776 = now' + O := by unfold mn; split <;> omega
        refine ⟨2, 0, 0, _, _, by unfold askV; rw [if_neg c, if_pos ⟨rfl, d⟩], ⟨by unfold BrMay; omega, hb2⟩, by omega, by omega, ?_, ?_⟩
        · refine ⟨0, 0, 0, by unfold tellV; rw [if_pos rfl], ⟨by unfold BrMay; omega, hb2⟩, ⟨by unfold BrMay; omega, hb2⟩, hle, by omega, by omega, .inl ⟨rfl, rfl, rfl⟩, ln, k2, u2⟩
        · refine ⟨1, 0, now' + O, by unfold tellV; rw [if_neg (by decide), if_neg (by omega), em], ⟨by unfold BrMay; omega, hb2⟩, fun _ => ⟨⟨by unfold BrMay; omega, hb2⟩, hle, by omega, by omega, .inr ⟨rfl, rfl, rfl, by omega, by omega⟩, ln, k2, u2⟩, fun x => absurd s3 x⟩
      · left
        refine ⟨fH B E H T now', fT B E H T now', by unfold askV; rw [if_neg c, if_neg (by omega), if_neg (by omega)], ⟨gb, hf⟩, ⟨gb, hf⟩, hle, by omega, by omega, .inr ⟨rfl, rfl, rfl, s3, by omega⟩, by omega, kept_none gk hT hd.1 kp, up⟩
end Go.Proofs.Ytanhdljnbaojbaa.GateRound
