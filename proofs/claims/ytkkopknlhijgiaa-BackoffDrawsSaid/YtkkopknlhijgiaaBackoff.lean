/- What a back's steps come to, as plain mathematics: the base doubled so often, cut at the top; and its first ones together. -/
import Derived.Test.YtkkopknlhijgiaaG23
import Derived.Test.YtkkopknlhijgiaaG24
import Derived.Test.YtkkopknlhijgiaaG25
import Derived.Test.YtkkopknlhijgiaaG26
import Derived.Test.YtkkopknlhijgiaaTick
namespace Go.Proofs.Ytkkopknlhijgiaa.Backoff
open Go.RowKit Go.Proofs.Ytkkopknlhijgiaa.G Go.Proofs.YtkkopknlhijgiaaW.PrintWords Go.Proofs.YtkkopknlhijgiaaW.PrintLast Go.Proofs.YtkkopknlhijgiaaW.PrintMore Go.Proofs.Ytkkopknlhijgiaa.Tick
set_option linter.unusedVariables false
set_option linter.unusedSimpArgs false
theorem st_lt {b0 b1 : Int} {K : Nat} (h : Doubles b0 b1 K) {i : Nat} (hi : i < K) : stepI b0 b1 i = b0 * 2 ^ i ∧ b0 * 2 ^ i < b1 := by
  have := h.2.2.2.1 i hi
  unfold stepI
  rw [Int.toNat_natCast, if_pos this]
  exact ⟨rfl, this⟩
theorem st_ge {b0 b1 : Int} {K : Nat} (h : Doubles b0 b1 K) {i : Nat} (hi : K ≤ i) : stepI b0 b1 i = b1 := by
  unfold stepI
  rw [Int.toNat_natCast, if_neg (h.no i hi)]
theorem st_bd {b0 b1 : Int} {K : Nat} (h : Doubles b0 b1 K) (i : Nat) : b0 ≤ stepI b0 b1 i ∧ stepI b0 b1 i ≤ b1 := by
  have h0 := h.1
  have h1 := h.2.2.1
  rcases Nat.lt_or_ge i K with c | c
  · obtain ⟨e, hl⟩ := st_lt h c
    rw [e]
    have hp : (1 : Int) ≤ 2 ^ i := by have := Int.pow_pos (n := 2) (m := i) (by omega); omega
    have : b0 * 1 ≤ b0 * 2 ^ i := Int.mul_le_mul_of_nonneg_left hp (by omega)
    omega
  · rw [st_ge h c]; omega
theorem st_next {b0 b1 : Int} {K : Nat} (h : Doubles b0 b1 K) (i : Nat) : stepI b0 b1 ((i + 1 : Nat) : Int) = mn (2 * stepI b0 b1 i) b1 := by
  have hb := st_bd h i
  have h0 := h.1
  rcases Nat.lt_or_ge i K with c | c
  · obtain ⟨e, hl⟩ := st_lt h c
    have e2 : b0 * 2 ^ (i + 1) = 2 * (b0 * 2 ^ i) := by rw [Int.pow_succ, ← Int.mul_assoc, Int.mul_comm]
    rcases Nat.lt_or_ge (i + 1) K with d | d
    · obtain ⟨e3, hl3⟩ := st_lt h d
      rw [e3, e2, e]; unfold mn; rw [if_neg (by omega)]
    · have := h.no (i + 1) d
      rw [st_ge h d, e]; unfold mn; split <;> omega
  · rw [st_ge h (show K ≤ i + 1 by omega), st_ge h c]; unfold mn; split <;> omega
/-- The first ones together, however far. -/
def tot (b0 b1 : Int) (K : Nat) (n : Nat) : Int := b0 * (2 ^ mOf K n - 1) + ((n : Int) - mOf K n) * b1
theorem mOf_nat (K n : Nat) : mOf K (n : Int) = if n < K then n else K := by
  unfold mOf
  by_cases c : n < K
  · rw [if_pos (by omega), if_pos c]; omega
  · rw [if_neg (by omega), if_neg c]
theorem tot_next {b0 b1 : Int} {K : Nat} (h : Doubles b0 b1 K) (n : Nat) : tot b0 b1 K (n + 1) = tot b0 b1 K n + stepI b0 b1 n := by
  unfold tot
  rw [mOf_nat, mOf_nat]
  rcases Nat.lt_or_ge n K with c | c
  · rw [if_pos c, (st_lt h c).1]
    have e2 : b0 * (2 ^ (n + 1) - 1) = b0 * (2 ^ n - 1) + b0 * 2 ^ n := by rw [Int.mul_sub, Int.mul_sub, Int.pow_succ, ← Int.mul_assoc]; omega
    have e0 : (if n + 1 < K then n + 1 else K) = n + 1 := by split <;> omega
    rw [e0, e2, Int.sub_self, Int.sub_self, Int.zero_mul]
    omega
  · rw [if_neg (by omega), if_neg (by omega), st_ge h c]
    have : (((n + 1 : Nat) : Int) - K) * b1 = ((n : Int) - K) * b1 + b1 := by
      rw [show ((n + 1 : Nat) : Int) - K = ((n : Int) - K) + 1 by omega, Int.add_mul, Int.one_mul]
    omega
theorem tot_pos {b0 b1 : Int} {K : Nat} (h : Doubles b0 b1 K) (n : Nat) : 0 ≤ b0 * (2 ^ mOf K n - 1) ∧ b0 * (2 ^ mOf K n - 1) ≤ 2147483648 ∧ (mOf K n : Int) ≤ n ∧ mOf K n ≤ K := by
  have hm : mOf K (n : Int) ≤ K ∧ (mOf K n : Int) ≤ n := by rw [mOf_nat]; split <;> omega
  have := sum_bd h (mOf K n) hm.1
  omega
theorem all_value {b0 b1 b2 : Int} (h : BackMay b0 b1 b2) (n : Nat) (hn : (n : Int) ≤ 9223372036854775807) : backoff_All.f b0 b1 b2 n = some (mn (tot b0 b1 (kOf b0 b1) n) 1099511627776, 0) := by
  have hd := kOf_doubles h
  obtain ⟨p1, p2, p3, p4⟩ := tot_pos hd n
  have h1 := hd.1
  have h2 := hd.2.1
  have h3 := hd.2.2.1
  unfold backoff_All.f
  rw [if_pos hn, if_pos ⟨h, by omega⟩]
  unfold tot
  have hl : Tm (mn ((n : Int) - mOf (kOf b0 b1) n) 1099511627776) := by unfold Tm mn; split <;> omega
  have hb : Tm b1 := ⟨by omega, by omega⟩
  rw [times_in hl hb, Option.bind_some]
  rw [add_in ⟨p1, by omega⟩ (tim_tm hl hb), tim_mn hl hb]
  generalize b0 * (2 ^ mOf (kOf b0 b1) n - 1) = s at p1 p2 ⊢
  generalize hr : (n : Int) - mOf (kOf b0 b1) n = r
  have hr0 : 0 ≤ r := by omega
  congr 2
  by_cases c : r ≤ 1099511627776
  · have e : mn r 1099511627776 = r := by unfold mn; rw [if_neg (by omega)]
    rw [e]
    have : 0 ≤ r * b1 := Int.mul_nonneg hr0 (by omega)
    generalize r * b1 = z at this ⊢
    unfold mn; repeat' split
    all_goals omega
  · have e : mn r 1099511627776 = 1099511627776 := by unfold mn; rw [if_pos (by omega)]
    rw [e]
    have k1 : r * 1 ≤ r * b1 := Int.mul_le_mul_of_nonneg_left (by omega) hr0
    generalize r * b1 = z at k1 ⊢
    unfold mn; repeat' split
    all_goals omega
theorem step_value {b0 b1 b2 : Int} (h : BackMay b0 b1 b2) (n : Nat) : backoff_Step.f b0 b1 b2 n = some (stepI b0 b1 n, 0) := by
  unfold backoff_Step.f
  rw [if_pos ⟨h, by omega⟩]
theorem step_none {b0 b1 b2 n : Int} (h : ¬ (BackMay b0 b1 b2 ∧ 0 ≤ n)) : backoff_Step.f b0 b1 b2 n = some (0, 1) := by
  unfold backoff_Step.f
  rw [if_neg h]
theorem all_none {b0 b1 b2 n : Int} (h : ¬ (BackMay b0 b1 b2 ∧ 0 ≤ n)) (hn : n ≤ 9223372036854775807) : backoff_All.f b0 b1 b2 n = some (0, 1) := by
  unfold backoff_All.f
  rw [if_pos hn, if_neg h]
/-- A part of the jitter. -/
def part (d j : Int) : Int := if Int.tmod d (j + 1) < 0 then Int.tmod d (j + 1) + (j + 1) else Int.tmod d (j + 1)
theorem part_bd (d j : Int) (hj : 0 ≤ j) : 0 ≤ part d j ∧ part d j ≤ j ∧ -(j + 1) < Int.tmod d (j + 1) ∧ Int.tmod d (j + 1) < j + 1 := by
  have h1 := Int.tmod_lt_of_pos d (show 0 < j + 1 by omega)
  have h2 : -(j + 1) < Int.tmod d (j + 1) := by
    have := Int.tmod_lt_of_pos (-d) (show 0 < j + 1 by omega)
    rw [Int.neg_tmod] at this
    omega
  unfold part
  split <;> omega
theorem wait_value {b0 b1 b2 : Int} (h : BackMay b0 b1 b2) (n : Nat) (d : Int) : backoff_Wait.f b0 b1 b2 n d = some (stepI b0 b1 n + part d b2, 0) := by
  have hd := kOf_doubles h
  have hb := st_bd hd n
  obtain ⟨q1, q2, q3, q4⟩ := part_bd d b2 h.2.2.1
  obtain ⟨⟨h1, h2⟩, ⟨h3, h4⟩, h5, h6⟩ := h
  unfold backoff_Wait.f
  rw [step_value ⟨⟨h1, h2⟩, ⟨h3, h4⟩, h5, h6⟩ n, Option.bind_some, if_pos rfl, w64 (n := b2 + 1) (by omega) (by omega), if_neg (by omega)]
  unfold part at q1 q2 ⊢
  by_cases c : Int.tmod d (b2 + 1) < 0
  · rw [if_pos c] at q1 q2 ⊢
    rw [if_pos c, w64 (n := Int.tmod d (b2 + 1) + (b2 + 1)) (by omega) (by omega), w64 (by omega) (by omega)]
  · rw [if_neg c] at q1 q2 ⊢
    rw [if_neg c, w64 (by omega) (by omega)]
theorem wait_none {b0 b1 b2 n : Int} (h : ¬ (BackMay b0 b1 b2 ∧ 0 ≤ n)) (d : Int) : backoff_Wait.f b0 b1 b2 n d = some (0, 1) := by
  unfold backoff_Wait.f
  rw [step_none h, Option.bind_some, if_neg (by decide)]
theorem alive06 : foghornlaw06_alive.f = some true := by
  have hm : BackMay 2 9 3 := ⟨⟨by decide, by decide⟩, ⟨by decide, by decide⟩, by decide, by decide⟩
  have e : stepI 2 9 ((1 : Nat) : Int) + part (-1) 3 = 7 := by decide
  unfold foghornlaw06_alive.f
  have := wait_value hm 1 (-1)
  rw [e] at this
  rw [show ((1 : Nat) : Int) = 1 from rfl] at this
  rw [this]
  rfl
end Go.Proofs.Ytkkopknlhijgiaa.Backoff
