/- The statement BackoffRises over plain numbers. No condition. -/
import Derived.Test.YtkkopknlhijgiaaG23
import Derived.Test.YtkkopknlhijgiaaG24
import Derived.Test.YtkkopknlhijgiaaG26
import Derived.Test.YtkkopknlhijgiaaG31
import Derived.Test.YtkkopknlhijgiaaBackoff
namespace Go.Proofs.Ytkkopknlhijgiaa.Pure
open Go.RowKit Go.Proofs.Ytkkopknlhijgiaa.G Go.Proofs.YtkkopknlhijgiaaW.PrintWords Go.Proofs.YtkkopknlhijgiaaW.PrintLast Go.Proofs.YtkkopknlhijgiaaW.PrintMore Go.Proofs.Ytkkopknlhijgiaa.Tick Go.Proofs.Ytkkopknlhijgiaa.Backoff
set_option linter.unusedVariables false
set_option linter.unusedSimpArgs false
theorem BackoffRises (b0 b1 b2 n d : Int) (w0 : (Lit.int .i64 b0).wf = true) (w1 : (Lit.int .i64 b1).wf = true) (w2 : (Lit.int .i64 b2).wf = true) (wn : (Lit.int .i64 n).wf = true) (wd : (Lit.int .i64 d).wf = true) : foghornlaw06_BackoffRises.f b0 b1 b2 n d = some true := by
  have hn : ∃ i : Nat, Int.tmod (wrap64 (Int.tmod n 100 + 100)) 100 = i ∧ i < 100 := by
    have h1 := Int.tmod_lt_of_pos n (show (0 : Int) < 100 by decide)
    have h2 : -100 < Int.tmod n 100 := by
      have := Int.tmod_lt_of_pos (-n) (show (0 : Int) < 100 by decide)
      rw [Int.neg_tmod] at this
      omega
    rw [w64 (by omega) (by omega), Int.tmod_eq_emod_of_nonneg (by omega)]
    have h3 := Int.emod_nonneg (Int.tmod n 100 + 100) (show (100 : Int) ≠ 0 by decide)
    have h4 := Int.emod_lt_of_pos (Int.tmod n 100 + 100) (show (0 : Int) < 100 by decide)
    exact ⟨((Int.tmod n 100 + 100) % 100).toNat, by omega, by omega⟩
  obtain ⟨i, en, hi⟩ := hn
  unfold foghornlaw06_BackoffRises.f
  rw [en, w64 (n := (i : Int) + 1) (by omega) (by omega), show (i : Int) + 1 = ((i + 1 : Nat) : Int) from rfl, alive06]
  by_cases h : BackMay b0 b1 b2
  · rw [step_value h, step_value h, wait_value h, all_value h i (by omega), all_value h (i + 1) (by omega)]
    have hd := kOf_doubles h
    have hs := st_bd hd i
    have ht := st_bd hd (i + 1)
    have hx := st_next hd i
    have hp := part_bd d b2 h.2.2.1
    have htot := tot_next hd i
    have htp := tot_pos hd i
    obtain ⟨⟨h1, h2⟩, ⟨h3, h4⟩, h5, h6⟩ := h
    simp only [Option.bind_some, if_true]
    have hT0 : 0 ≤ tot b0 b1 (kOf b0 b1) i := by
      unfold tot
      have : 0 ≤ ((i : Int) - mOf (kOf b0 b1) i) * b1 := Int.mul_nonneg (by omega) (by omega)
      omega
    generalize tot b0 b1 (kOf b0 b1) i = T at htot hT0 ⊢
    rw [htot]
    generalize stepI b0 b1 ((i + 1 : Nat) : Int) = t at ht hx ⊢
    generalize stepI b0 b1 (i : Int) = s at hs hx ⊢
    generalize Backoff.part d b2 = q at hp ⊢
    have hq := hp.1
    have hq2 := hp.2.1
    clear hp htp hd
    rw [w64 (n := 2 * s) (by omega) (by omega), w64 (n := s + b2) (by omega) (by omega)]
    have hm : mn T 1099511627776 ≤ 1099511627776 ∧ 0 ≤ mn T 1099511627776 := by unfold mn; split <;> omega
    rw [w64 (n := mn T 1099511627776 + s) (by omega) (by omega)]
    have he : mn (T + s) 1099511627776 = mn (mn T 1099511627776 + s) 1099511627776 := by unfold mn; repeat' split
                                                                                         all_goals omega
    have hts : t = if b1 < 2 * s then b1 else 2 * s := hx
    rw [if_neg (by omega), if_neg (by omega), if_neg (by split at hts <;> omega), if_neg (by split at hts <;> omega)]
    by_cases c : 2 * s ≤ b1
    · rw [if_pos c, if_pos (by rw [hts, if_neg (by omega)]), if_pos (by omega), if_pos (by omega), he]
      simp
    · rw [if_neg c, if_pos (by omega), if_pos (by omega), he]
      simp
  · have hno : ∀ j : Int, ¬ (BackMay b0 b1 b2 ∧ 0 ≤ j) := fun j hh => h hh.1
    rw [step_none (hno _), step_none (hno _), wait_none (hno _), all_none (hno _) (by omega), all_none (hno _) (by omega)]
    rfl
end Go.Proofs.Ytkkopknlhijgiaa.Pure
