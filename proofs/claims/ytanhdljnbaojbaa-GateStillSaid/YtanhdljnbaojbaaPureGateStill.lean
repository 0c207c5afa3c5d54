/- The statement GateStill over plain numbers: what is not let through leaves a gate that answers every later ask as the gate itself does. No condition. -/
import Derived.Test.YtanhdljnbaojbaaG13
import Derived.Test.YtanhdljnbaojbaaGate
namespace Go.Proofs.Ytanhdljnbaojbaa.Pure
open Go.RowKit Go.Proofs.Ytanhdljnbaojbaa.G Go.Proofs.YtanhdljnbaojbaaW.PrintWords Go.Proofs.YtanhdljnbaojbaaW.PrintLast Go.Proofs.YtanhdljnbaojbaaW.PrintMore Go.Proofs.Ytanhdljnbaojbaa.Tick Go.Proofs.Ytanhdljnbaojbaa.Breaker Go.Proofs.Ytanhdljnbaojbaa.Bucket Go.Proofs.Ytanhdljnbaojbaa.Gate
set_option linter.unusedVariables false
set_option linter.unusedSimpArgs false
theorem alive19 : foghornlaw19_alive.f 10 = some true := by decide +kernel
theorem gs_stop (k : Nat) (hk : foghornlaw19_alive.f k = some true) (x1 x2 x9 g0 g1 g2 g3 g4 g5 g6 g7 g8 a0 a1 a2 a3 a4 a5 a6 a7 a8 : Int) (h : x9 = 0 ∨ (a0 = 0 ∧ a1 = 0 ∧ a2 = 0 ∧ a3 = 0 ∧ a4 = 0 ∧ a5 = 0 ∧ a6 = 0 ∧ a7 = 0 ∧ a8 = 0)) :
    foghornlaw19_GateStill.j0 (k + 1) x1 x2 x9 true g0 g1 g2 g3 g4 g5 g6 g7 g8 a0 a1 a2 a3 a4 a5 a6 a7 a8 = some true := by
  rw [foghornlaw19_GateStill.j0, if_pos rfl, hk, Option.bind_some, if_pos rfl]
  rcases h with h | ⟨rfl, rfl, rfl, rfl, rfl, rfl, rfl, rfl, rfl⟩
  · rw [if_pos h]
  · split <;> rfl
theorem GateStill (F O S C U B E H T now more : Int) (w0 : (Lit.int .i64 F).wf = true) (w1 : (Lit.int .i64 O).wf = true) (w2 : (Lit.int .i64 S).wf = true) (w3 : (Lit.int .i64 C).wf = true) (w4 : (Lit.int .i64 U).wf = true) (w5 : (Lit.int .i64 B).wf = true) (w6 : (Lit.int .i64 E).wf = true) (w7 : (Lit.int .i64 H).wf = true) (w8 : (Lit.int .i64 T).wf = true) (wn : (Lit.int .i64 now).wf = true) (wm : (Lit.int .i64 more).wf = true) :
    ∃ k, foghornlaw19_GateStill.f k F O S C U B E H T now more = some true := by
  refine ⟨11, ?_⟩
  have al : foghornlaw19_alive.f 10 = some true := alive19
  unfold foghornlaw19_GateStill.f
  by_cases h : BrMay F O S C U ∧ Bk B E H T
  · by_cases hn : 0 ≤ now ∧ now ≤ 1099511627776
    · by_cases ht : T ≤ now
      · obtain ⟨hb, hk⟩ := h
        have V := fun t (h1 : T ≤ t) (h2 : t ≤ 1099511627776) => gate_ask (now := t) 9 hb hk h1 h2
        have hm : 0 ≤ Int.tmod (wrap64 (Int.tmod more 100 + 100)) 100 ∧ Int.tmod (wrap64 (Int.tmod more 100 + 100)) 100 < 100 := by
          have h1 := Int.tmod_lt_of_pos more (show (0 : Int) < 100 by decide)
          have h2 : -100 < Int.tmod more 100 := by
            have := Int.tmod_lt_of_pos (-more) (show (0 : Int) < 100 by decide)
            rw [Int.neg_tmod] at this
            omega
          rw [w64 (by omega) (by omega), Int.tmod_eq_emod_of_nonneg (by omega)]
          exact ⟨Int.emod_nonneg _ (by omega), Int.emod_lt_of_pos _ (by decide)⟩
        generalize Int.tmod (wrap64 (Int.tmod more 100 + 100)) 100 = m at hm ⊢
        have hf := fill_bk hk ht hn.2
        have hle := fill_le hk ht
        rw [V now ht hn.2]
        have quiet : ∀ (k : Nat), foghornlaw19_GateStill.j0 11 now m 0 (decide (now > 1099511627676)) F O S C U B E H T F O S C U B E (fH B E H T now) (fT B E H T now) = some true ∨ (0 < fH B E H T now ∧ (S = 1 ∧ U ≤ now ∨ S = 0)) := by
          intro _
          by_cases hq : 0 < fH B E H T now ∧ (S = 1 ∧ U ≤ now ∨ S = 0)
          · exact .inr hq
          · left
            by_cases hl : now > 1099511627676
            · rw [decide_eq_true hl]
              exact gs_stop 10 al _ _ _ _ _ _ _ _ _ _ _ _ _ _ _ _ _ _ _ _ _ (.inl rfl)
            · rw [decide_eq_false hl, foghornlaw19_GateStill.j0, if_neg (by decide), w64 (n := now + m) (by omega) (by omega)]
              obtain ⟨e1, e2⟩ := fill_fill hk ht (Int.le_refl now) hn.2
              obtain ⟨e3, e4⟩ := fill_fill hk ht (show now ≤ now + m by omega) (by omega)
              have A1 := gate_ask (now := now) 8 hb hf hle hn.2
              have A2 := gate_ask (now := now + m) 8 hb hf (show fT B E H T now ≤ now + m by omega) (by omega)
              have A3 := gate_ask (now := now + m) 8 hb hk (show T ≤ now + m by omega) (by omega)
              rw [e1, e2] at A1
              rw [e3, e4] at A2
              rw [show (8 : Nat) + 2 = 10 from rfl] at A1 A2 A3
              rw [A1, A2, A3, al]
              have hr : (if fH B E H T now ≤ 0 then (F, O, S, C, U, B, E, fH B E H T now, fT B E H T now, false, (0 : Int)) else if S = 1 ∧ U ≤ now then (F, O, 2, 0, 0, B, E, fH B E H T now - 1, fT B E H T now, true, 0) else if S = 0 then (F, O, S, C, U, B, E, fH B E H T now - 1, fT B E H T now, true, 0) else (F, O, S, C, U, B, E, fH B E H T now, fT B E H T now, false, 0)) = (F, O, S, C, U, B, E, fH B E H T now, fT B E H T now, false, 0) := by
                by_cases c : fH B E H T now ≤ 0
                · rw [if_pos c]
                · rw [if_neg c, if_neg (by omega), if_neg (by omega)]
              rw [hr]
              simp only [Option.bind_some, if_true, Bool.false_eq_true, if_false]
              generalize hx : (if fH B E H T (now + m) ≤ 0 then (F, O, S, C, U, B, E, fH B E H T (now + m), fT B E H T (now + m), false, (0 : Int)) else if S = 1 ∧ U ≤ now + m then (F, O, 2, 0, 0, B, E, fH B E H T (now + m) - 1, fT B E H T (now + m), true, 0) else if S = 0 then (F, O, S, C, U, B, E, fH B E H T (now + m) - 1, fT B E H T (now + m), true, 0) else (F, O, S, C, U, B, E, fH B E H T (now + m), fT B E H T (now + m), false, 0)) = x
              have hz : x.2.2.2.2.2.2.2.2.2.2 = 0 := by
                rw [← hx]; repeat' split
                all_goals rfl
              rw [if_pos hz, if_pos hz, beq_self_eq_true, if_pos rfl]
              simp
        by_cases c : fH B E H T now ≤ 0
        · rw [if_pos c]
          simp only [Option.bind_some, if_true, Bool.false_eq_true, if_false]
          rcases quiet 0 with q | q
          · exact q
          · omega
        · rw [if_neg c]
          by_cases d : S = 1 ∧ U ≤ now
          · rw [if_pos d]
            simp only [Option.bind_some, if_true]
            exact gs_stop 10 al _ _ _ _ _ _ _ _ _ _ _ _ _ _ _ _ _ _ _ _ _ (.inl rfl)
          · rw [if_neg d]
            by_cases z : S = 0
            · rw [if_pos z]
              simp only [Option.bind_some, if_true]
              exact gs_stop 10 al _ _ _ _ _ _ _ _ _ _ _ _ _ _ _ _ _ _ _ _ _ (.inl rfl)
            · rw [if_neg z]
              simp only [Option.bind_some, if_true, Bool.false_eq_true, if_false]
              rcases quiet 0 with q | q
              · exact q
              · omega
      · rw [gate_ask_early 9 h hn.1 (by omega)]
        simp only [Option.bind_some]
        rw [if_neg (by decide)]
        exact gs_stop 10 al _ _ _ _ _ _ _ _ _ _ _ _ _ _ _ _ _ _ _ _ _ (.inr ⟨rfl, rfl, rfl, rfl, rfl, rfl, rfl, rfl, rfl⟩)
    · rw [gate_ask_time 9 h hn]
      simp only [Option.bind_some]
      rw [if_neg (by decide)]
      exact gs_stop 10 al _ _ _ _ _ _ _ _ _ _ _ _ _ _ _ _ _ _ _ _ _ (.inr ⟨rfl, rfl, rfl, rfl, rfl, rfl, rfl, rfl, rfl⟩)
  · rw [gate_ask_no 9 h]
    simp only [Option.bind_some]
    rw [if_neg (by decide)]
    exact gs_stop 10 al _ _ _ _ _ _ _ _ _ _ _ _ _ _ _ _ _ _ _ _ _ (.inr ⟨rfl, rfl, rfl, rfl, rfl, rfl, rfl, rfl, rfl⟩)
end Go.Proofs.Ytanhdljnbaojbaa.Pure
