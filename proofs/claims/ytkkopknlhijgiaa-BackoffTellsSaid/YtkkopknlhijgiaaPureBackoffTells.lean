/- The statement BackoffTells over plain numbers: the reference's own loops come to the same steps, waits and sums. No condition. -/
import Derived.Test.YtkkopknlhijgiaaG23
import Derived.Test.YtkkopknlhijgiaaG24
import Derived.Test.YtkkopknlhijgiaaG26
import Derived.Test.YtkkopknlhijgiaaG27
import Derived.Test.YtkkopknlhijgiaaG28
import Derived.Test.YtkkopknlhijgiaaG29
import Derived.Test.YtkkopknlhijgiaaG30
import Derived.Test.YtkkopknlhijgiaaBackoff
import Derived.OpenShut
namespace Go.Proofs.Ytkkopknlhijgiaa.Pure
open Go.RowKit Go.Proofs.Ytkkopknlhijgiaa.G Go.Proofs.YtkkopknlhijgiaaW.PrintWords Go.Proofs.YtkkopknlhijgiaaW.PrintLast Go.Proofs.YtkkopknlhijgiaaW.PrintMore Go.Proofs.Ytkkopknlhijgiaa.Tick Go.Proofs.Ytkkopknlhijgiaa.Backoff
set_option linter.unusedVariables false
set_option linter.unusedSimpArgs false
theorem bt_right (b0 b1 b2 : Int) : foghornref06_Right.f b0 b1 b2 = some (decide (BackMay b0 b1 b2)) := by
  unfold foghornref06_Right.f
  by_cases h : BackMay b0 b1 b2
  · rw [decide_eq_true h]
    obtain ⟨⟨h1, h2⟩, ⟨h3, h4⟩, h5, h6⟩ := h
    rw [if_pos (by omega), if_pos (by omega), if_pos (by omega), if_pos (by omega), if_pos (by omega), decide_eq_true h6]
  · rw [decide_eq_false h]
    unfold BackMay at h
    by_cases c1 : b0 ≥ 1
    · rw [if_pos c1]
      by_cases c2 : b0 ≤ 1048576
      · rw [if_pos c2]
        by_cases c3 : b1 ≥ b0
        · rw [if_pos c3]
          by_cases c4 : b1 ≤ 1073741824
          · rw [if_pos c4]
            by_cases c5 : b2 ≥ 0
            · rw [if_pos c5, decide_eq_false (by omega)]
            · rw [if_neg c5]
          · rw [if_neg c4]
        · rw [if_neg c3]
      · rw [if_neg c2]
    · rw [if_neg c1]
theorem bt_right2 (b0 b1 b2 : Int) : backoff_Right.f b0 b1 b2 = some (decide (BackMay b0 b1 b2)) := by
  unfold backoff_Right.f backoff_in.f
  by_cases h : BackMay b0 b1 b2
  · rw [decide_eq_true h]
    obtain ⟨⟨h1, h2⟩, ⟨h3, h4⟩, h5, h6⟩ := h
    rw [if_pos (by omega), if_pos (by omega), if_pos (by omega)]
    simp [h2, h4, h6]
  · rw [decide_eq_false h]
    unfold BackMay at h
    by_cases c1 : b0 ≥ 1
    · rw [if_pos c1]
      by_cases c2 : b0 ≤ 1048576
      · simp only [decide_eq_true c2, Option.bind_some, if_true]
        by_cases c3 : b1 ≥ b0
        · rw [if_pos c3]
          by_cases c4 : b1 ≤ 1073741824
          · simp only [decide_eq_true c4, Option.bind_some, if_true]
            by_cases c5 : b2 ≥ 0
            · rw [if_pos c5, decide_eq_false (by omega)]; try rfl
            · rw [if_neg c5]; try rfl
          · simp [c4]
        · rw [if_neg c3]; try rfl
      · simp [c2]
    · rw [if_neg c1]; try rfl
theorem bt_step {b0 b1 b2 : Int} {K : Nat} (hd : Doubles b0 b1 K) (n : Nat) (hn : (n : Int) ≤ 9223372036854775807) : ∀ (m k i : Nat), K - i ≤ m → m + 2 ≤ k → i ≤ n → foghornref06_Step.l0 k n (stepI b0 b1 i) i b0 b1 b2 = some (stepI b0 b1 n) := by
  intro m
  induction m with
  | zero =>
    intro k i hm hk hi
    obtain ⟨k, rfl⟩ : ∃ k', k = k' + 1 := ⟨k - 1, by omega⟩
    rw [foghornref06_Step.l0]
    have e := st_ge hd (show K ≤ i by omega)
    have e2 := st_ge hd (show K ≤ n by omega)
    rw [e, e2]
    by_cases c : (i : Int) < n
    · rw [if_pos c, if_neg (by omega)]
    · rw [if_neg c]
  | succ m ih =>
    intro k i hm hk hi
    obtain ⟨k, rfl⟩ : ∃ k', k = k' + 1 := ⟨k - 1, by omega⟩
    rw [foghornref06_Step.l0]
    by_cases c : (i : Int) < n
    · rw [if_pos c]
      have hs := st_bd hd i
      have h1 := hd.1
      have h2 := hd.2.1
      by_cases d : i < K
      · obtain ⟨e, hl⟩ := st_lt hd d
        rw [if_pos (by rw [e]; exact hl), w64 (n := 2 * stepI b0 b1 i) (by omega) (by omega), w64 (n := (i : Int) + 1) (by omega) (by omega), ← st_next hd i]
        exact ih k (i + 1) (by omega) (by omega) (by omega)
      · have e := st_ge hd (show K ≤ i by omega)
        rw [e, if_neg (by omega), st_ge hd (show K ≤ n by omega)]
    · rw [if_neg c, show i = n by omega]
theorem bt_Step {b0 b1 b2 : Int} {K : Nat} (hd : Doubles b0 b1 K) (n : Nat) (hn : (n : Int) ≤ 9223372036854775807) (k : Nat) (hk : 40 ≤ k) : foghornref06_Step.f k b0 b1 b2 n = some (stepI b0 b1 n) := by
  unfold foghornref06_Step.f
  have := hd.le
  have h0 : stepI b0 b1 ((0 : Nat) : Int) = b0 := by
    rcases Nat.eq_zero_or_pos K with c | c
    · have h5 := hd.2.2.2.2
      have h3 := hd.2.2.1
      rw [c] at h5
      rw [st_ge hd (by omega)]
      simp at h5
      omega
    · rw [(st_lt hd c).1]; simp
  have := bt_step (b2 := b2) hd n hn K k 0 (by omega) (by omega) (by omega)
  rw [h0] at this
  exact this
theorem bt_all {b0 b1 b2 : Int} {K : Nat} (hd : Doubles b0 b1 K) (n : Nat) (hn : (n : Int) ≤ 9223372036854775807) : ∀ (m k i : Nat), K - i ≤ m → m + 50 ≤ k → i ≤ n → i ≤ K → foghornref06_All.l0 k n (b0 * (2 ^ i - 1)) i b0 b1 b2 = some (mn (tot b0 b1 K n) 1099511627776) := by
  have h1 := hd.1
  have h2 := hd.2.1
  have h3 := hd.2.2.1
  have fin : ∀ i : Nat, i ≤ n → i ≤ K → mOf K n = i → (if b1 = 0 then none else if wrap64 ((n : Int) - i) > wrap64 (Int.tdiv (wrap64 (1099511627776 - b0 * (2 ^ i - 1))) b1) then some 1099511627776 else some (wrap64 (b0 * (2 ^ i - 1) + wrap64 (wrap64 ((n : Int) - i) * b1)))) = some (mn (tot b0 b1 K n) 1099511627776) := by
    intro i hi hiK hm
    obtain ⟨p1, p2⟩ := sum_bd hd i hiK
    unfold tot
    rw [hm]
    generalize b0 * (2 ^ i - 1) = s at p1 p2 ⊢
    have hr0 : 0 ≤ (n : Int) - i := by omega
    have hr1 : (n : Int) - i ≤ 9223372036854775807 := by omega
    generalize (n : Int) - i = r at hr0 hr1 ⊢
    rw [if_neg (by omega), w64 (n := r) (by omega) (by omega), w64 (n := 1099511627776 - s) (by omega) (by omega), Int.tdiv_eq_ediv_of_nonneg (by omega)]
    have q0 : 0 ≤ (1099511627776 - s) / b1 := Int.ediv_nonneg (by omega) (by omega)
    have q1 : (1099511627776 - s) / b1 ≤ 1099511627776 - s := Int.ediv_le_self _ (by omega)
    rw [w64 (n := (1099511627776 - s) / b1) (by omega) (by omega)]
    by_cases c : (1099511627776 - s) / b1 < r
    · rw [if_pos c]
      have := (Int.ediv_lt_iff_lt_mul (show 0 < b1 by omega)).1 c
      unfold mn
      rw [if_pos (by omega)]
    · rw [if_neg c]
      have : r * b1 ≤ 1099511627776 - s := (Int.le_ediv_iff_mul_le (show 0 < b1 by omega)).1 (by omega)
      have h0 : 0 ≤ r * b1 := Int.mul_nonneg hr0 (by omega)
      generalize r * b1 = z at this h0 ⊢
      rw [w64 (n := z) (by omega) (by omega), w64 (by omega) (by omega)]
      unfold mn
      rw [if_neg (by omega)]
  intro m
  induction m with
  | zero =>
    intro k i hm hk hi hiK
    obtain ⟨k, rfl⟩ : ∃ k', k = k' + 1 := ⟨k - 1, by omega⟩
    rw [foghornref06_All.l0]
    have hmo : mOf K n = i := by rw [mOf_nat]; split <;> omega
    by_cases c : (i : Int) < n
    · rw [if_pos c, bt_Step hd i (by omega) k (by omega), Option.bind_some, st_ge hd (show K ≤ i by omega), if_neg (by omega)]
      exact fin i hi hiK hmo
    · rw [if_neg c]
      exact fin i hi hiK hmo
  | succ m ih =>
    intro k i hm hk hi hiK
    obtain ⟨k, rfl⟩ : ∃ k', k = k' + 1 := ⟨k - 1, by omega⟩
    rw [foghornref06_All.l0]
    by_cases c : (i : Int) < n
    · rw [if_pos c, bt_Step hd i (by omega) k (by omega), Option.bind_some]
      by_cases d : i < K
      · obtain ⟨e, hl⟩ := st_lt hd d
        obtain ⟨p1, p2⟩ := sum_bd hd (i + 1) (by omega)
        have e2 : b0 * (2 ^ i - 1) + b0 * 2 ^ i = b0 * (2 ^ (i + 1) - 1) := by rw [Int.mul_sub, Int.mul_sub, Int.pow_succ, ← Int.mul_assoc]; omega
        rw [e, if_pos hl, Option.bind_some, e2, w64 (by omega) (by omega), w64 (n := (i : Int) + 1) (by omega) (by omega)]
        exact ih k (i + 1) (by omega) (by omega) (by omega) (by omega)
      · have hmo : mOf K n = i := by rw [mOf_nat]; split <;> omega
        rw [st_ge hd (show K ≤ i by omega), if_neg (by omega)]
        exact fin i hi hiK hmo
    · rw [if_neg c]
      exact fin i hi hiK (by rw [mOf_nat]; split <;> omega)
theorem bt_All {b0 b1 b2 : Int} {K : Nat} (hd : Doubles b0 b1 K) (n : Nat) (hn : (n : Int) ≤ 9223372036854775807) (k : Nat) (hk : 90 ≤ k) : foghornref06_All.f k b0 b1 b2 n = some (mn (tot b0 b1 K n) 1099511627776) := by
  unfold foghornref06_All.f
  have := hd.le
  have := bt_all (b2 := b2) hd n hn K k 0 (by omega) (by omega) (by omega) (by omega)
  simpa using this
theorem bt_Wait {b0 b1 b2 : Int} {K : Nat} (hd : Doubles b0 b1 K) (h5 : 0 ≤ b2) (h6 : b2 ≤ 1048576) (n : Nat) (hn : (n : Int) ≤ 9223372036854775807) (d : Int) (k : Nat) (hk : 40 ≤ k) : foghornref06_Wait.f k b0 b1 b2 n d = some (stepI b0 b1 n + Backoff.part d b2) := by
  have hs := st_bd hd n
  have h1 := hd.1
  have h2 := hd.2.1
  obtain ⟨q1, q2, q3, q4⟩ := part_bd d b2 h5
  unfold foghornref06_Wait.f
  rw [bt_Step hd n hn k hk, Option.bind_some, w64 (n := b2 + 1) (by omega) (by omega), if_neg (by omega), w64 (n := Int.tmod d (b2 + 1) + (b2 + 1)) (by omega) (by omega), Int.tmod_eq_emod_of_nonneg (by omega)]
  have e : (Int.tmod d (b2 + 1) + (b2 + 1)) % (b2 + 1) = Backoff.part d b2 := by
    unfold Backoff.part
    by_cases c : Int.tmod d (b2 + 1) < 0
    · rw [if_pos c, Int.emod_eq_of_lt (by omega) (by omega)]
    · rw [if_neg c, Int.add_emod_right, Int.emod_eq_of_lt (by omega) (by omega)]
  rw [e, w64 (by omega) (by omega)]
theorem BackoffTells (b0 b1 b2 n d : Int) (w0 : (Lit.int .i64 b0).wf = true) (w1 : (Lit.int .i64 b1).wf = true) (w2 : (Lit.int .i64 b2).wf = true) (wn : (Lit.int .i64 n).wf = true) (wd : (Lit.int .i64 d).wf = true) : ∃ k, foghornlaw06_BackoffTells.f k b0 b1 b2 n d = some true := by
  refine ⟨200, ?_⟩
  have hnb : n ≤ 9223372036854775807 := by
    have := Go.bounds_i64 wn
    omega
  unfold foghornlaw06_BackoffTells.f
  rw [bt_right, bt_right2, alive06]
  by_cases hm : BackMay b0 b1 b2 ∧ 0 ≤ n
  · obtain ⟨h, h0⟩ := hm
    obtain ⟨i, rfl⟩ : ∃ i : Nat, n = i := ⟨n.toNat, by omega⟩
    have hd := kOf_doubles h
    rw [step_value h, wait_value h, all_value h i hnb]
    simp only [Option.bind_some, bne_self_eq_false, Bool.false_eq_true, if_false, Bool.not_true]
    rw [foghornlaw06_BackoffTells.j0, if_neg (by decide), bt_right, decide_eq_true h]
    simp only [Option.bind_some, if_true]
    rw [foghornlaw06_BackoffTells.j1, decide_eq_false (by omega), if_neg (by decide), if_pos rfl, if_pos rfl, if_pos rfl, bt_Step hd i hnb _ (by omega), Option.bind_some, if_pos rfl,
      bt_Wait hd h.2.2.1 h.2.2.2 i hnb d _ (by omega), Option.bind_some, if_pos rfl, bt_All hd i hnb _ (by omega), Option.bind_some]
    simp
  · rw [step_none hm, wait_none hm, all_none hm hnb]
    simp only [Option.bind_some, bne_self_eq_false, Bool.false_eq_true, if_false, Bool.not_true]
    rw [foghornlaw06_BackoffTells.j0, if_neg (by decide), bt_right]
    by_cases h : BackMay b0 b1 b2
    · rw [decide_eq_true h]
      simp only [Option.bind_some, if_true]
      have hn0 : n < 0 := by
        rcases Int.lt_or_le n 0 with c | c
        · exact c
        · exact absurd ⟨h, c⟩ hm
      rw [foghornlaw06_BackoffTells.j1, decide_eq_true hn0]
      rfl
    · rw [decide_eq_false h]
      simp only [Option.bind_some, Bool.false_eq_true, if_false]
      rw [foghornlaw06_BackoffTells.j1]
      rfl
end Go.Proofs.Ytkkopknlhijgiaa.Pure
