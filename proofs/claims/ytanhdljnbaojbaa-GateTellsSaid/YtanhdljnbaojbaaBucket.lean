/- What the bucket functions come to, as plain mathematics. -/
import Derived.Test.YtanhdljnbaojbaaG10
import Derived.Test.YtanhdljnbaojbaaG13
import Derived.Test.YtanhdljnbaojbaaG8
import Derived.Test.YtanhdljnbaojbaaG9
import Derived.Test.YtanhdljnbaojbaaTick
namespace Go.Proofs.Ytanhdljnbaojbaa.Bucket
open Go.RowKit Go.Proofs.Ytanhdljnbaojbaa.G Go.Proofs.YtanhdljnbaojbaaW.PrintWords Go.Proofs.YtanhdljnbaojbaaW.PrintLast Go.Proofs.YtanhdljnbaojbaaW.PrintMore Go.Proofs.Ytanhdljnbaojbaa.Tick
set_option linter.unusedVariables false
set_option linter.unusedSimpArgs false
/-- A bucket's numbers that may be. -/
def Bk (B E H T : Int) : Prop := (1 ≤ B ∧ B ≤ 100) ∧ (1 ≤ E ∧ E ≤ 1048576) ∧ (0 ≤ H ∧ H ≤ B) ∧ 0 ≤ T ∧ T ≤ 1099511627776
/-- How many more there are by a time. -/
def more (E T now : Int) : Int := (now - T) / E
theorem more_nonneg {B E H T now : Int} (h : Bk B E H T) (hn : T ≤ now) : 0 ≤ more E T now := Int.ediv_nonneg (by omega) (by have := h.2.1.1; omega)
theorem more_mul {B E H T now : Int} (h : Bk B E H T) (hn : T ≤ now) : more E T now * E ≤ now - T := Int.ediv_mul_le _ (by have := h.2.1.1; omega)
theorem more_lt {B E H T now : Int} (h : Bk B E H T) (hn : T ≤ now) : now - T < more E T now * E + E := by
  have := Int.lt_ediv_add_one_mul_self (now - T) (show 0 < E by have := h.2.1.1; omega)
  rw [Int.add_mul, Int.one_mul] at this
  exact this
theorem fill_full {B E H T now : Int} (h : Bk B E H T) (hn : T ≤ now) (hm : now ≤ 1099511627776) (hf : B ≤ H + more E T now) : bucket_Fill.f B E H T now = some (B, E, B, now, 0) := by
  obtain ⟨h1, h2, h3, h4, h5⟩ := h
  unfold more at hf
  unfold bucket_Fill.f
  rw [if_pos ⟨h1, h2, h3, ⟨h4, h5⟩, by omega, by omega⟩, if_neg (by omega), if_pos hf]
theorem fill_some {B E H T now : Int} (h : Bk B E H T) (hn : T ≤ now) (hm : now ≤ 1099511627776) (hf : ¬ B ≤ H + more E T now) : bucket_Fill.f B E H T now = some (B, E, H + more E T now, T + more E T now * E, 0) := by
  obtain ⟨h1, h2, h3, h4, h5⟩ := h
  unfold more at hf ⊢
  unfold bucket_Fill.f
  rw [if_pos ⟨h1, h2, h3, ⟨h4, h5⟩, by omega, by omega⟩, if_neg (by omega), if_neg hf]
/-- What a fill makes: its tokens, and the time they are reckoned at. -/
def fH (B E H T now : Int) : Int := if B ≤ H + more E T now then B else H + more E T now
def fT (B E H T now : Int) : Int := if B ≤ H + more E T now then now else T + more E T now * E
theorem fill_is {B E H T now : Int} (h : Bk B E H T) (hn : T ≤ now) (hm : now ≤ 1099511627776) : bucket_Fill.f B E H T now = some (B, E, fH B E H T now, fT B E H T now, 0) := by
  unfold fH fT
  by_cases hf : B ≤ H + more E T now
  · rw [if_pos hf, if_pos hf]; exact fill_full h hn hm hf
  · rw [if_neg hf, if_neg hf]; exact fill_some h hn hm hf
theorem fill_bk {B E H T now : Int} (h : Bk B E H T) (hn : T ≤ now) (hm : now ≤ 1099511627776) : Bk B E (fH B E H T now) (fT B E H T now) := by
  have k1 := more_nonneg h hn
  have k2 := more_mul h hn
  have k3 : 0 ≤ more E T now * E := Int.mul_nonneg k1 (by have := h.2.1.1; omega)
  obtain ⟨h1, h2, h3, h4, h5⟩ := h
  unfold fH fT Bk
  split
  · exact ⟨h1, h2, ⟨by omega, by omega⟩, by omega, by omega⟩
  · exact ⟨h1, h2, ⟨by omega, by omega⟩, by omega, by omega⟩
theorem fill_le {B E H T now : Int} (h : Bk B E H T) (hn : T ≤ now) : fT B E H T now ≤ now := by
  have k2 := more_mul h hn
  unfold fT
  split <;> omega
/-- Where it isn't full the time is less than a token's away. -/
theorem fill_near {B E H T now : Int} (h : Bk B E H T) (hn : T ≤ now) : fH B E H T now = B ∧ fT B E H T now = now ∨ fH B E H T now < B ∧ now < fT B E H T now + E := by
  have k3 := more_lt h hn
  unfold fH fT
  split
  · exact .inl ⟨rfl, rfl⟩
  · exact .inr ⟨by omega, by omega⟩
/-- Filled on the way, it is as filled at once. -/
theorem fill_fill {B E H T a b : Int} (h : Bk B E H T) (ha : T ≤ a) (hab : a ≤ b) (hb : b ≤ 1099511627776) :
    fH B E (fH B E H T a) (fT B E H T a) b = fH B E H T b ∧ fT B E (fH B E H T a) (fT B E H T a) b = fT B E H T b := by
  have hE : 0 < E := by have := h.2.1.1; omega
  have m0 := more_nonneg h ha
  have mab : more E T a ≤ more E T b := Int.ediv_le_ediv hE (by omega)
  by_cases hf : B ≤ H + more E T a
  · have e1 : fH B E H T a = B := by unfold fH; rw [if_pos hf]
    have e2 : fT B E H T a = a := by unfold fT; rw [if_pos hf]
    have k : 0 ≤ more E a b := Int.ediv_nonneg (by omega) (by omega)
    rw [e1, e2]
    unfold fH fT
    rw [if_pos (by omega), if_pos (by omega), if_pos (by omega), if_pos (by omega)]
    exact ⟨rfl, rfl⟩
  · have e1 : fH B E H T a = H + more E T a := by unfold fH; rw [if_neg hf]
    have e2 : fT B E H T a = T + more E T a * E := by unfold fT; rw [if_neg hf]
    have e3 : more E (T + more E T a * E) b = more E T b - more E T a := by
      show (b - (T + more E T a * E)) / E = _
      rw [show b - (T + more E T a * E) = (b - T) + (- more E T a) * E by rw [Int.neg_mul]; omega, Int.add_mul_ediv_right _ _ (by omega)]
      unfold more; omega
    rw [e1, e2]
    unfold fH fT
    rw [e3]
    have e4 : H + more E T a + (more E T b - more E T a) = H + more E T b := by omega
    have e5 : T + more E T a * E + (more E T b - more E T a) * E = T + more E T b * E := by rw [Int.sub_mul]; omega
    rw [e4, e5]
    exact ⟨rfl, rfl⟩
/-- What may be taken by a time t from a filled bucket on is no more than from the bucket as it was. -/
theorem fill_cap {B E H T now t : Int} (h : Bk B E H T) (hn : T ≤ now) (ht : now ≤ t) : fH B E H T now + (t - fT B E H T now) / E ≤ H + (t - T) / E := by
  have hE : 0 < E := by have := h.2.1.1; omega
  unfold fH fT
  split
  · have e : (now - T) / E + (t - now) / E ≤ (t - T) / E := by
      have a1 := Int.ediv_mul_le (now - T) (show E ≠ 0 by omega)
      have a2 := Int.ediv_mul_le (t - now) (show E ≠ 0 by omega)
      rw [Int.le_ediv_iff_mul_le hE, Int.add_mul]
      omega
    rename_i hf
    unfold more at hf
    omega
  · have e : (t - (T + more E T now * E)) / E = (t - T) / E - more E T now := by
      rw [show t - (T + more E T now * E) = (t - T) + (- more E T now) * E by rw [Int.neg_mul]; omega, Int.add_mul_ediv_right _ _ (by omega)]
      omega
    rw [e]; omega
theorem take_is {B E H T now : Int} (h : Bk B E H T) (hn : T ≤ now) (hm : now ≤ 1099511627776) :
    bucket_Take.f B E H T now = some (if fH B E H T now > 0 then (B, E, fH B E H T now - 1, fT B E H T now, true, 0) else (B, E, fH B E H T now, fT B E H T now, false, 0)) := by
  have hb := fill_bk h hn hm
  unfold bucket_Take.f
  rw [fill_is h hn hm]
  simp only [Option.bind_some]
  split
  · rw [w64 (by have := hb.2.2.1; omega) (by have := hb.2.2.1; have := hb.1; omega)]
  · rfl
theorem in_is (n lo hi : Int) : bucket_in.f n lo hi = some (decide (lo ≤ n ∧ n ≤ hi)) := by
  unfold bucket_in.f
  by_cases h : lo ≤ n
  · rw [if_pos h]; simp [h]
  · rw [if_neg h]; simp [h]
theorem bright_is {B E H T : Int} (h : Bk B E H T) : bucket_Right.f B E H T = some true := by
  obtain ⟨h1, h2, h3, h4, h5⟩ := h
  unfold bucket_Right.f
  simp only [in_is, right_is, Option.bind_some, decide_eq_true h1, decide_eq_true h2, decide_eq_true h3, if_true]
  rw [decide_eq_true (show Tm T from ⟨h4, h5⟩)]
theorem new_is {B E H T : Int} (h : Bk B E H T) : bucket_New.f B E H T = some (B, E, H, T, 0) := by
  unfold bucket_New.f
  rw [bright_is h]
  simp
/-- What any three numbers make: a bucket that may be. -/
theorem tmod_range (a m : Int) (hm : 1 ≤ m) (hm' : m ≤ 1000) : 0 ≤ Int.tmod (wrap64 (Int.tmod a m + m)) m ∧ Int.tmod (wrap64 (Int.tmod a m + m)) m < m := by
  have k1 : Int.tmod a m < m := Int.tmod_lt_of_pos a (by omega)
  have k2 : -m < Int.tmod a m := by
    have := Int.tmod_lt_of_pos (-a) (show 0 < m by omega)
    rw [Int.neg_tmod] at this
    omega
  rw [w64 (by omega) (by omega), Int.tmod_eq_emod_of_nonneg (by omega)]
  exact ⟨Int.emod_nonneg _ (by omega), Int.emod_lt_of_pos _ (by omega)⟩
end Go.Proofs.Ytanhdljnbaojbaa.Bucket
