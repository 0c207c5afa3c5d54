/- The statement GateTells: for every receiver, gate and time, whether it is told how that came out or not, the gate's functions answer as the reference does. No condition. -/
import Derived.Test.YtanhdljnbaojbaaG13
import Derived.Test.YtanhdljnbaojbaaGtA
import Derived.Test.YtanhdljnbaojbaaGtB
namespace Go.Proofs.Ytanhdljnbaojbaa.Pure
open Go.RowKit Go.Proofs.Ytanhdljnbaojbaa.G Go.Proofs.YtanhdljnbaojbaaW.PrintWords Go.Proofs.YtanhdljnbaojbaaW.PrintLast Go.Proofs.YtanhdljnbaojbaaW.PrintMore Go.Proofs.Ytanhdljnbaojbaa Go.Proofs.Ytanhdljnbaojbaa.Tick Go.Proofs.Ytanhdljnbaojbaa.Breaker Go.Proofs.Ytanhdljnbaojbaa.Bucket Go.Proofs.Ytanhdljnbaojbaa.Gate Go.Proofs.Ytanhdljnbaojbaa.GateRef
set_option linter.unusedVariables false
set_option linter.unusedSimpArgs false
theorem alive19' : foghornlaw19_alive.f 12 = some true := by decide +kernel
theorem GateTells (b : ByteArray) (c1 c2 c3 c4 f1 o1 b1 e1 F O S C U B E H T now : Int) (ok : Bool) (w : World) :
    Calls Try.prog 7 #[.agg #[.string b, .int .i64 c1, .int .i64 c2, .int .i64 c3, .int .i64 c4, .int .i64 f1, .int .i64 o1, .int .i64 b1, .int .i64 e1], .agg #[.int .i64 F, .int .i64 O, .int .i64 S, .int .i64 C, .int .i64 U, .int .i64 B, .int .i64 E, .int .i64 H, .int .i64 T], .int .i64 now, .bool ok] w fun e w' => e = .returned (.bool true) ∧ Below w.heap.size w w' := by
  have L := alive19'
  have n0 := g_new b c1 c2 c3 c4 f1 o1 b1 e1 now 11
  have w0 := r_right f1 o1 0 0 0 b1 e1 1 now 11
  have g0 := r_right F O S C U B E H T 11
  have g1 := g_right F O S C U B E H T 11
  have s0 := rr5 now
  by_cases hG : GMay F O S C U B E H T
  · rw [decide_eq_true hG] at g0 g1
    by_cases hn : Tm now
    · rw [decide_eq_true hn] at s0
      by_cases ht : now < T
      · have A := g_ask_early 10 hG hn ht
        by_cases hs : S = 1
        · have Q := g_told_open ok 10 hG hn hs
          by_cases hN : GMay f1 o1 0 0 0 b1 e1 1 now
          · rw [if_pos hN] at n0; rw [decide_eq_true hN] at w0
            exact gt_early1_y n0 w0 g0 g1 L s0 A ht Q hs w
          · rw [if_neg hN] at n0; rw [decide_eq_false hN] at w0
            exact gt_early1_n n0 w0 g0 g1 L s0 A ht Q hs w
        · obtain ⟨q0, q1, q2, q3, q4, hv⟩ : ∃ q0 q1 q2 q3 q4, tellV F O S C U now ok = (q0, q1, q2, q3, q4) := ⟨_, _, _, _, _, rfl⟩
          have Q := g_told ok 10 hG hn hs hv
          have Y := r_told ok hG hn hs hv
          by_cases hN : GMay f1 o1 0 0 0 b1 e1 1 now
          · rw [if_pos hN] at n0; rw [decide_eq_true hN] at w0
            exact gt_early2_y n0 w0 g0 g1 L s0 A ht Q Y hs w
          · rw [if_neg hN] at n0; rw [decide_eq_false hN] at w0
            exact gt_early2_n n0 w0 g0 g1 L s0 A ht Q Y hs w
      · have ht' : T ≤ now := by omega
        obtain ⟨r0, r1, r2, r3, r4, r5, r6, r7, r8, r9, hr, A⟩ := g_ask 10 hG ht' hn.2
        have X := r_ask hG ht' hn.2
        rw [hr] at X
        by_cases hs : S = 1
        · have Q := g_told_open ok 10 hG hn hs
          by_cases hN : GMay f1 o1 0 0 0 b1 e1 1 now
          · rw [if_pos hN] at n0; rw [decide_eq_true hN] at w0
            exact gt_ok1_y n0 w0 g0 g1 L s0 A X ht' Q hs w
          · rw [if_neg hN] at n0; rw [decide_eq_false hN] at w0
            exact gt_ok1_n n0 w0 g0 g1 L s0 A X ht' Q hs w
        · obtain ⟨q0, q1, q2, q3, q4, hv⟩ : ∃ q0 q1 q2 q3 q4, tellV F O S C U now ok = (q0, q1, q2, q3, q4) := ⟨_, _, _, _, _, rfl⟩
          have Q := g_told ok 10 hG hn hs hv
          have Y := r_told ok hG hn hs hv
          by_cases hN : GMay f1 o1 0 0 0 b1 e1 1 now
          · rw [if_pos hN] at n0; rw [decide_eq_true hN] at w0
            exact gt_ok2_y n0 w0 g0 g1 L s0 A X ht' Q Y hs w
          · rw [if_neg hN] at n0; rw [decide_eq_false hN] at w0
            exact gt_ok2_n n0 w0 g0 g1 L s0 A X ht' Q Y hs w
    · rw [decide_eq_false hn] at s0
      have A := g_ask_no (F := F) (O := O) (S := S) (C := C) (U := U) (B := B) (E := E) (H := H) (T := T) (now := now) 10 (fun x => hn x.2)
      have Q := g_told_no (F := F) (O := O) (S := S) (C := C) (U := U) (B := B) (E := E) (H := H) (T := T) (now := now) ok 10 (fun x => hn x.2)
      by_cases hN : GMay f1 o1 0 0 0 b1 e1 1 now
      · rw [if_pos hN] at n0; rw [decide_eq_true hN] at w0
        exact gt_no2_y n0 w0 g0 g1 L s0 A Q w
      · rw [if_neg hN] at n0; rw [decide_eq_false hN] at w0
        exact gt_no2_n n0 w0 g0 g1 L s0 A Q w
  · rw [decide_eq_false hG] at g0 g1
    have A := g_ask_no (F := F) (O := O) (S := S) (C := C) (U := U) (B := B) (E := E) (H := H) (T := T) (now := now) 10 (fun x => hG x.1)
    have Q := g_told_no (F := F) (O := O) (S := S) (C := C) (U := U) (B := B) (E := E) (H := H) (T := T) (now := now) ok 10 (fun x => hG x.1)
    by_cases hN : GMay f1 o1 0 0 0 b1 e1 1 now
    · rw [if_pos hN] at n0; rw [decide_eq_true hN] at w0
      exact gt_no1_y n0 w0 g0 g1 L A Q w
    · rw [if_neg hN] at n0; rw [decide_eq_false hN] at w0
      exact gt_no1_n n0 w0 g0 g1 L A Q w
end Go.Proofs.Ytanhdljnbaojbaa.Pure
