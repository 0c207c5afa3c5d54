/- The statement BucketParts over plain numbers: filled on the way it is as filled at once; at the time that is told next one can be taken, and at no time ahead of it. No condition. -/
import Derived.Test.YtkkopknlhijgiaaG21
import Derived.Test.YtkkopknlhijgiaaG22
import Derived.Test.YtkkopknlhijgiaaBucket
namespace Go.Proofs.Ytkkopknlhijgiaa.Pure
open Go.RowKit Go.Proofs.Ytkkopknlhijgiaa.G Go.Proofs.YtkkopknlhijgiaaW.PrintWords Go.Proofs.YtkkopknlhijgiaaW.PrintLast Go.Proofs.YtkkopknlhijgiaaW.PrintMore Go.Proofs.Ytkkopknlhijgiaa.Tick Go.Proofs.Ytkkopknlhijgiaa.Bucket
set_option linter.unusedVariables false
set_option linter.unusedSimpArgs false
theorem parts_loop {B E H T a t b : Int} {H2 T2 : Int} (h : Bk B E H T) (hT : T ≤ a) (ht : t ≤ 2000000) (hno : ∀ k, a ≤ k → k < t → ¬ fH B E H T k > 0)
    (h2 : Bk B E H2 T2) (hT2 : T2 ≤ b) (hb : b ≤ 1099511627776) (hlate : (decide (fH B E H2 T2 b > 0)) = decide (t ≤ b)) (d : Nat) : ∀ (k : Nat) (x : Int), a ≤ x → t - x ≤ d → d < k →
    foghornlaw08_BucketParts.l0 k b t x B E H T B E H2 T2 = some true := by
  have fin : ∀ (k : Nat) (x : Int), ¬ x < t → foghornlaw08_BucketParts.l0 (k + 1) b t x B E H T B E H2 T2 = some true := by
    intro k x hx
    simp only [foghornlaw08_BucketParts.l0]
    rw [if_neg hx, take_is h2 hT2 hb]
    by_cases hp : fH B E H2 T2 b > 0
    · rw [if_pos hp]
      rw [decide_eq_true hp] at hlate
      simp only [Option.bind_some, if_true]
      show some (true == decide (t ≤ b)) = some true
      rw [← hlate]; rfl
    · rw [if_neg hp]
      rw [decide_eq_false hp] at hlate
      simp only [Option.bind_some, if_true]
      show some (false == decide (t ≤ b)) = some true
      rw [← hlate]; rfl
  induction d with
  | zero =>
    intro k x hx hd hk
    obtain ⟨k, rfl⟩ : ∃ m, k = m + 1 := ⟨k - 1, by omega⟩
    exact fin k x (by omega)
  | succ d ih =>
    intro k x hx hd hk
    obtain ⟨k, rfl⟩ : ∃ m, k = m + 1 := ⟨k - 1, by omega⟩
    by_cases hlt : x < t
    · simp only [foghornlaw08_BucketParts.l0]
      rw [if_pos hlt, take_is h (by omega) (by omega), if_neg (hno x hx hlt)]
      simp only [Option.bind_some, if_true, Bool.false_eq_true, if_false]
      have ha0 : 0 ≤ T := h.2.2.2.1
      rw [w64 (by omega) (by omega)]
      exact ih k (x + 1) (by omega) (by omega) (by omega)
    · exact fin k x hlt
theorem next_pos {B E H T a : Int} (h : Bk B E H T) (hT : T ≤ a) (ha : a ≤ 1000) (he : fH B E H T a = H ∧ fT B E H T a = T) (hp : H > 0) : bucket_Next.f B E H T a = some (a, 0) := by
  unfold bucket_Next.f
  rw [fill_is h hT (by omega), he.1, he.2]
  have hz : (B == 0) = false := beq_eq_false_iff_ne.mpr (by have := h.1; omega)
  simp only [Option.bind_some, hz, Bool.false_and, Bool.false_eq_true, if_false]
  rw [if_pos hp]
theorem next_zero {B E T a : Int} (h : Bk B E 0 T) (hT : T ≤ a) (ha : a ≤ 1000) (he : fH B E 0 T a = 0 ∧ fT B E 0 T a = T) : bucket_Next.f B E 0 T a = some (T + E, 0) := by
  unfold bucket_Next.f
  rw [fill_is h hT (by omega), he.1, he.2]
  have hz : (B == 0) = false := beq_eq_false_iff_ne.mpr (by have := h.1; omega)
  simp only [Option.bind_some, hz, Bool.false_and, Bool.false_eq_true, if_false]
  rw [if_neg (by omega)]
  have h2 := h.2.1
  have h4 := h.2.2.2
  rw [add_in (by unfold Tm; omega) (by unfold Tm; omega)]
  simp only [Option.bind_some]
  have : mn (T + E) 1099511627776 = T + E := by unfold mn; rw [if_neg (by omega)]
  rw [this]
theorem parts_j0 {B E H : Int} (k : Nat) (hk : 2000010 ≤ k) (hB : 1 ≤ B ∧ B ≤ 20) (hE : 1 ≤ E ∧ E ≤ 20) (hH : 0 ≤ H ∧ H ≤ B) {a b : Int} (ha0 : 0 ≤ a) (ha : a ≤ b) (hb : b ≤ 199) :
    foghornlaw08_BucketParts.j0 k a b true B E H 0 = some true := by
  obtain ⟨k, rfl⟩ : ∃ m, k = m + 3 := ⟨k - 3, by omega⟩
  have hx : Bk B E H 0 := by unfold Bk; omega
  have h1 : Bk B E (fH B E H 0 a) (fT B E H 0 a) := fill_bk hx (by omega) (by omega)
  have l1 : fT B E H 0 a ≤ a := fill_le hx (by omega)
  have f11 := fill_fill (b := a) hx (by omega) (Int.le_refl a) (by omega)
  have f12 := fill_fill (b := b) hx (by omega) ha (by omega)
  have near := fill_near hx (show (0 : Int) ≤ a by omega)
  have h2 : Bk B E (fH B E H 0 b) (fT B E H 0 b) := fill_bk hx (by omega) (by omega)
  have l2 : fT B E H 0 b ≤ b := fill_le hx (by omega)
  have f22 := fill_fill (b := b) hx (by omega) (Int.le_refl b) (by omega)
  obtain ⟨H1, hH1⟩ : ∃ H1, fH B E H 0 a = H1 := ⟨_, rfl⟩
  obtain ⟨T1, hT1⟩ : ∃ T1, fT B E H 0 a = T1 := ⟨_, rfl⟩
  have e1 := fill_is hx (show (0 : Int) ≤ a by omega) (by omega)
  have e3 := fill_is hx (show (0 : Int) ≤ b by omega) (by omega)
  obtain ⟨H2, hH2⟩ : ∃ H2, fH B E H 0 b = H2 := ⟨_, rfl⟩
  obtain ⟨T2, hT2⟩ : ∃ T2, fT B E H 0 b = T2 := ⟨_, rfl⟩
  rw [hH1, hT1] at h1 f11 f12 near e1
  rw [hT1] at l1
  rw [hH2, hT2] at h2 f22 f12 e3
  rw [hT2] at l2
  have e2 := fill_is h1 (show T1 ≤ b by omega) (by omega)
  rw [f12.1, f12.2] at e2
  have hE1 : 1 ≤ E := hE.1
  have hT10 : 0 ≤ T1 := h1.2.2.2.1
  -- the time that is told next
  have main : ∀ t, bucket_Next.f B E H1 T1 a = some (t, 0) → a ≤ t → t ≤ 2000 → fH B E H1 T1 t > 0 → (∀ x, a ≤ x → x < t → ¬ fH B E H1 T1 x > 0) → (decide (fH B E H2 T2 b > 0) = decide (t ≤ b)) →
      foghornlaw08_BucketParts.j0 (k + 3) a b true B E H 0 = some true := by
    intro t hn hat ht hpos hno hlate
    simp only [foghornlaw08_BucketParts.j0]
    rw [e1]
    simp only [Option.bind_some]
    rw [e2]
    simp only [Option.bind_some]
    rw [e3]
    simp only [Option.bind_some]
    rw [hn]
    simp only [Option.bind_some, if_true, beq_self_eq_true, Bool.not_true, Bool.or_self, Bool.false_eq_true, if_false]
    rw [if_neg (by omega), alive08_is]
    simp only [Option.bind_some, Bool.not_true, foghornlaw08_BucketParts.j1, Bool.false_eq_true, if_false]
    rw [take_is h1 (by omega) (by omega), if_pos hpos]
    simp only [Option.bind_some, if_true, Bool.not_true, foghornlaw08_BucketParts.j2, Bool.false_eq_true, if_false]
    exact parts_loop h1 l1 (by omega) hno h2 l2 (by omega) hlate 2000 k a (Int.le_refl a) (by omega) (by omega)
  by_cases hp : H1 > 0
  · refine main a (next_pos h1 l1 (by omega) f11 hp) (Int.le_refl a) (by omega) (by rw [f11.1]; exact hp) (fun x h1 h2 => by omega) ?_
    rw [f22.1, decide_eq_true ha]
    have : H2 > 0 := by
      have mono : H1 ≤ H2 := by
        have k0 := more_nonneg h1 (show T1 ≤ b by omega)
        rw [← f12.1]; unfold fH
        have := h1.2.2.1
        split <;> omega
      omega
    rw [decide_eq_true this]
  · have hz : H1 = 0 := by have := h1.2.2.1; omega
    have nearE : a < T1 + E := by
      rcases near with ⟨n1, _⟩ | ⟨_, n2⟩
      · omega
      · exact n2
    have fx : ∀ x, T1 ≤ x → fH B E H1 T1 x = if B ≤ more E T1 x then B else more E T1 x := by
      intro x hx; unfold fH; rw [hz, Int.zero_add]
    refine main (T1 + E) (by rw [hz] at h1 f11 ⊢; exact next_zero h1 l1 (by omega) f11) (by omega) (by omega) ?_ ?_ ?_
    · rw [fx _ (by omega)]
      have : more E T1 (T1 + E) = 1 := by unfold more; rw [show T1 + E - T1 = E by omega]; exact Int.ediv_self (by omega)
      rw [this]; split <;> omega
    · intro x hx1 hx2
      rw [fx _ (by omega)]
      have : more E T1 x = 0 := by unfold more; exact Int.ediv_eq_zero_of_lt (by omega) (by omega)
      rw [this]; split <;> omega
    · rw [f22.1, ← f12.1, fx b (by omega)]
      by_cases hbt : T1 + E ≤ b
      · have : 1 ≤ more E T1 b := by unfold more; rw [Int.le_ediv_iff_mul_le (by omega)]; omega
        rw [decide_eq_true hbt, decide_eq_true (by split <;> omega)]
      · have : more E T1 b = 0 := by unfold more; exact Int.ediv_eq_zero_of_lt (by omega) (by omega)
        rw [decide_eq_false hbt, this, decide_eq_false (by split <;> omega)]
theorem BucketParts : foghornlaw08_BucketParts.Pure := by
  intro a0 a1 a2 a3 a4 _ _ _ _ _
  refine ⟨2000020, ?_⟩
  obtain ⟨B, E, H, hB, hE, hH, hs⟩ := some_is a0 a1 a2
  obtain ⟨p1, p2⟩ := tmod_range a3 200 (by omega) (by omega)
  obtain ⟨q1, q2⟩ := tmod_range a4 200 (by omega) (by omega)
  unfold foghornlaw08_BucketParts.f
  rw [hs]
  simp only [Option.bind_some]
  split
  · exact parts_j0 _ (by omega) hB hE hH (by omega) (by omega) (by omega)
  · exact parts_j0 _ (by omega) hB hE hH (by omega) (by omega) (by omega)
end Go.Proofs.Ytkkopknlhijgiaa.Pure
