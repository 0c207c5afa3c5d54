/- The statement BucketBounds over plain numbers and lists: whatever is asked for, at times that rise, between any two of these times as many are taken at most as the burst, and how often Every goes into the time between them. No condition. -/
import Derived.Test.YtkkopknlhijgiaaG20
import Derived.Test.YtkkopknlhijgiaaBucket
namespace Go.Proofs.Ytkkopknlhijgiaa.Pure
open Go.RowKit Go.Proofs.Ytkkopknlhijgiaa.G Go.Proofs.YtkkopknlhijgiaaW.PrintWords Go.Proofs.YtkkopknlhijgiaaW.PrintLast Go.Proofs.YtkkopknlhijgiaaW.PrintMore Go.Proofs.Ytkkopknlhijgiaa.Tick Go.Proofs.Ytkkopknlhijgiaa.Bucket
set_option linter.unusedVariables false
set_option linter.unusedSimpArgs false
theorem rd_left (l : List Int) (x : Int) (i : Nat) (h : i < l.length) : rd (l ++ [x]) (i : Int) = rd l (i : Int) := by
  simp [rd, List.getD_eq_getElem?_getD, List.getElem?_append_left h]
theorem rd_last (l : List Int) (x : Int) : rd (l ++ [x]) (l.length : Int) = x := by
  simp [rd, List.getD_eq_getElem?_getD]
/-- What was taken keeps within the bounds; and so will what is taken. -/
structure Kept2 (B E H T now : Int) (tk : List Int) : Prop where
  pairs : ∀ i k : Nat, i ≤ k → k < tk.length → (k : Int) - i + 1 ≤ B + (rd tk k - rd tk i) / E
  later : ∀ i : Nat, i < tk.length → ∀ t, now ≤ t → (tk.length : Int) - i + H + (t - T) / E ≤ B + (t - rd tk i) / E
  times : ∀ i : Nat, i < tk.length → 0 ≤ rd tk i ∧ rd tk i ≤ now
theorem kept_none {B E H T now now' : Int} {tk : List Int} (h : Bk B E H T) (hT : T ≤ now) (hn : now ≤ now') (hk : Kept2 B E H T now tk) : Kept2 B E (fH B E H T now') (fT B E H T now') now' tk := by
  refine ⟨hk.pairs, fun i hi t ht => ?_, fun i hi => ?_⟩
  · have k1 := hk.later i hi t (by omega)
    have k2 := fill_cap h (show T ≤ now' by omega) ht
    omega
  · have := hk.times i hi; omega
theorem kept_take {B E H T now now' : Int} {tk : List Int} (h : Bk B E H T) (hT : T ≤ now) (h0 : 0 ≤ now) (hn : now ≤ now') (hm : now' ≤ 1099511627776) (hk : Kept2 B E H T now tk) (hp : fH B E H T now' > 0) : Kept2 B E (fH B E H T now' - 1) (fT B E H T now') now' (tk ++ [now']) := by
  have hE : 0 < E := by have := h.2.1.1; omega
  have hb := fill_bk h (show T ≤ now' by omega) hm
  have hl := fill_le h (show T ≤ now' by omega)
  have near := fill_near h (show T ≤ now' by omega)
  have old : ∀ i : Nat, i < tk.length → ∀ t, now' ≤ t → ((tk ++ [now']).length : Int) - i + (fH B E H T now' - 1) + (t - fT B E H T now') / E ≤ B + (t - rd (tk ++ [now']) i) / E := by
    intro i hi t ht
    rw [rd_left _ _ _ hi, List.length_append, List.length_singleton]
    have k1 := hk.later i hi t (by omega)
    have k2 := fill_cap h (show T ≤ now' by omega) ht
    omega
  have new : ∀ t, now' ≤ t → 1 + (fH B E H T now' - 1) + (t - fT B E H T now') / E ≤ B + (t - now') / E := by
    intro t ht
    rcases near with ⟨n1, n2⟩ | ⟨n1, n2⟩
    · rw [n1, n2]; omega
    · have k : (t - fT B E H T now') / E ≤ (t - now') / E + 1 := by
        have : (t - fT B E H T now') / E ≤ (t - now' + 1 * E) / E := Int.ediv_le_ediv hE (by omega)
        rw [Int.add_mul_ediv_right _ _ (by omega)] at this
        exact this
      omega
  refine ⟨fun i k hik hkl => ?_, fun i hi t ht => ?_, fun i hi => ?_⟩
  · rw [List.length_append, List.length_singleton] at hkl
    by_cases e : k = tk.length
    · subst e
      rw [rd_last]
      by_cases e2 : i = tk.length
      · subst e2
        rw [rd_last, Int.sub_self, Int.sub_self, Int.zero_ediv]
        have := h.1; omega
      · have k1 := old i (by omega) now' (Int.le_refl _)
        rw [rd_left _ _ _ (by omega), List.length_append, List.length_singleton] at k1
        rw [rd_left _ _ _ (by omega)]
        have k2 : 0 ≤ (now' - fT B E H T now') / E := Int.ediv_nonneg (by omega) (by omega)
        omega
    · rw [rd_left _ _ _ (by omega), rd_left _ _ _ (by omega)]
      exact hk.pairs i k hik (by omega)
  · by_cases e : i = tk.length
    · subst e
      have k1 := new t ht
      rw [rd_last, List.length_append, List.length_singleton]
      omega
    · rw [List.length_append, List.length_singleton] at hi
      exact old i (by omega) t ht
  · rw [List.length_append, List.length_singleton] at hi
    by_cases e : i = tk.length
    · subst e; rw [rd_last]; omega
    · rw [rd_left _ _ _ (by omega)]
      have := hk.times i (by omega); omega
/-- The look at all pairs. -/
theorem pairs_true {B E : Int} (hB : 1 ≤ B ∧ B ≤ 100) (hE : 1 ≤ E ∧ E ≤ 100) (H T : Int) (tk : List Int) (hl : tk.length ≤ 200) (hp : ∀ i k : Nat, i ≤ k → k < tk.length → (k : Int) - i + 1 ≤ B + (rd tk k - rd tk i) / E) (ht : ∀ i : Nat, i < tk.length → 0 ≤ rd tk i ∧ rd tk i ≤ 1000000) (hup : ∀ i k : Nat, i ≤ k → k < tk.length → rd tk i ≤ rd tk k) (d : Nat) :
    ∀ (k i : Nat), i ≤ tk.length → tk.length - i = d → d * 300 < k → foghornlaw08_BucketBounds.l1 k tk tk (tk.length : Int) (i : Int) B E H T = some true := by
  induction d with
  | zero =>
    intro k i hi hd hk
    obtain ⟨k, rfl⟩ : ∃ m, k = m + 1 := ⟨k - 1, by omega⟩
    simp only [foghornlaw08_BucketBounds.l1]
    rw [if_neg (by omega)]
  | succ d ih =>
    intro k i hi hd hk
    obtain ⟨k, rfl⟩ : ∃ m, k = m + 1 := ⟨k - 1, by omega⟩
    simp only [foghornlaw08_BucketBounds.l1]
    rw [if_pos (by omega), if_pos (by omega), if_pos (by omega)]
    have hi1 : wrap64 ((i : Int) + 1) = (i : Int) + 1 := w64 (by omega) (by omega)
    obtain ⟨D, hD⟩ : ∃ D, d * 300 = D := ⟨_, rfl⟩
    have hk2 : D + 299 < k := by omega
    rw [hD] at ih
    clear hk hD
    have inner : ∀ (e k q : Nat), i ≤ q → q ≤ tk.length → tk.length - q = e → D + e + 1 < k → foghornlaw08_BucketBounds.l2 k tk (i : Int) (rd tk (i : Int)) (q : Int) tk (tk.length : Int) (i : Int) B E H T = some true := by
      intro e
      induction e with
      | zero =>
        intro k q hq hq2 he hk
        obtain ⟨k, rfl⟩ : ∃ m, k = m + 1 := ⟨k - 1, by omega⟩
        simp only [foghornlaw08_BucketBounds.l2]
        rw [if_neg (by omega), hi1]
        exact ih k (i + 1) (by omega) (by omega) (by omega)
      | succ e ih2 =>
        intro k q hq hq2 he hk
        obtain ⟨k, rfl⟩ : ∃ m, k = m + 1 := ⟨k - 1, by omega⟩
        simp only [foghornlaw08_BucketBounds.l2]
        have h1 := hp i q hq (by omega)
        have h2 := ht i (by omega)
        have h3 := ht q (by omega)
        have h4 := hup i q hq (by omega)
        rw [if_pos (by omega), if_pos (by omega), if_neg (by omega), w64 (n := (q : Int) - i) (by omega) (by omega), w64 (n := (q : Int) - i + 1) (by omega) (by omega), w64 (n := rd tk q - rd tk i) (by omega) (by omega)]
        rw [Int.tdiv_eq_ediv_of_nonneg (by omega)]
        have h5 : 0 ≤ (rd tk q - rd tk i) / E := Int.ediv_nonneg (by omega) (by omega)
        have h6 : (rd tk q - rd tk i) / E ≤ rd tk q - rd tk i := Int.ediv_le_self _ (by omega)
        rw [w64 (n := (rd tk q - rd tk i) / E) (by omega) (by omega), w64 (n := B + (rd tk q - rd tk i) / E) (by omega) (by omega), if_neg (by omega), w64 (n := (q : Int) + 1) (by omega) (by omega)]
        exact ih2 k (q + 1) (by omega) (by omega) (by omega) (by omega)
    exact inner (tk.length - i) k i (Nat.le_refl _) (by omega) rfl (by omega)
theorem main_loop {B E : Int} (hB : 1 ≤ B ∧ B ≤ 20) (hE : 1 ≤ E ∧ E ≤ 20) (ws : List Int) (hl : ws.length ≤ 200) (d : Nat) :
    ∀ (k j : Nat) (H T now : Int) (tk : List Int), j ≤ ws.length → ws.length - j = d → d + 60100 < k → Bk B E H T → T ≤ now → 0 ≤ now → now ≤ 9 * j → tk.length ≤ j → Kept2 B E H T now tk → (∀ i k : Nat, i ≤ k → k < tk.length → rd tk i ≤ rd tk k) →
    foghornlaw08_BucketBounds.l0 k now tk ws (ws.length : Int) (j : Int) B E H T = some true := by
  induction d with
  | zero =>
    intro k j H T now tk hj hd hk hb hT h0 hn ht hkept hup
    obtain ⟨k, rfl⟩ : ∃ m, k = m + 1 := ⟨k - 1, by omega⟩
    simp only [foghornlaw08_BucketBounds.l0]
    rw [if_neg (by omega)]
    exact pairs_true (by omega) (by omega) H T tk (by omega) hkept.pairs (fun i hi => by have := hkept.times i hi; omega) hup tk.length k 0 (Nat.zero_le _) (by omega) (by omega)
  | succ d ih =>
    intro k j H T now tk hj hd hk hb hT h0 hn ht hkept hup
    obtain ⟨k, rfl⟩ : ∃ m, k = m + 1 := ⟨k - 1, by omega⟩
    simp only [foghornlaw08_BucketBounds.l0]
    rw [if_pos (by omega), if_pos (by omega), if_pos (by omega)]
    obtain ⟨p1, p2⟩ := tmod_range (rd ws j) 9 (by omega) (by omega)
    rw [w64 (n := now + Int.tmod (wrap64 (Int.tmod (rd ws j) 9 + 9)) 9) (by omega) (by omega)]
    obtain ⟨now', hn'⟩ : ∃ n, now + Int.tmod (wrap64 (Int.tmod (rd ws j) 9 + 9)) 9 = n := ⟨_, rfl⟩
    rw [hn']
    rw [take_is hb (by omega) (by omega)]
    have hb2 := fill_bk hb (show T ≤ now' by omega) (by omega)
    have hl2 := fill_le hb (show T ≤ now' by omega)
    by_cases hp : fH B E H T now' > 0
    · rw [if_pos hp]
      simp only [Option.bind_some, if_true]
      rw [if_pos (by omega), w64 (n := (j : Int) + 1) (by omega) (by omega)]
      have hk2 := kept_take hb hT h0 (show now ≤ now' by omega) (by omega) hkept hp
      refine ih k (j + 1) _ _ now' _ (by omega) (by omega) (by omega) ?_ hl2 (by omega) (by omega) (by rw [List.length_append, List.length_singleton]; omega) hk2 ?_
      · obtain ⟨b1, b2, b3, b4, b5⟩ := hb2
        exact ⟨b1, b2, ⟨by omega, by omega⟩, b4, b5⟩
      · intro i q hiq hq
        rw [List.length_append, List.length_singleton] at hq
        by_cases e : q = tk.length
        · subst e
          by_cases e2 : i = tk.length
          · subst e2; exact Int.le_refl _
          · rw [rd_last, rd_left _ _ _ (by omega)]
            have := hkept.times i (by omega); omega
        · rw [rd_left _ _ _ (by omega), rd_left _ _ _ (by omega)]
          exact hup i q hiq (by omega)
    · rw [if_neg hp]
      simp only [Option.bind_some, if_true, Bool.false_eq_true, if_false]
      rw [w64 (n := (j : Int) + 1) (by omega) (by omega)]
      exact ih k (j + 1) _ _ now' tk (by omega) (by omega) (by omega) hb2 hl2 (by omega) (by omega) (by omega) (kept_none hb hT (by omega) hkept) hup
theorem BucketBounds : foghornlaw08_BucketBounds.Pure := by
  intro a0 a1 a2 l3 _ _ _ _ _ _
  refine ⟨70000, ?_⟩
  obtain ⟨B, E, H, hB, hE, hH, hs⟩ := some_is a0 a1 a2
  unfold foghornlaw08_BucketBounds.f
  rw [hs]
  simp only [Option.bind_some, if_true, alive08_is, Bool.not_true, foghornlaw08_BucketBounds.j0, Bool.false_eq_true, if_false]
  have hm0 : 0 ≤ mn (l3.length : Int) 200 := by unfold mn; split <;> omega
  have hm1 : mn (l3.length : Int) 200 ≤ l3.length := by unfold mn; split <;> omega
  have hm2 : mn (l3.length : Int) 200 ≤ 200 := by unfold mn; split <;> omega
  rw [if_pos hm0, if_pos hm1]
  obtain ⟨ws, hw⟩ : ∃ ws, l3.take (mn (l3.length : Int) 200).toNat = ws := ⟨_, rfl⟩
  have hlen : ws.length ≤ 200 := by rw [← hw, List.length_take]; omega
  rw [hw]
  have hb : Bk B E H 0 := by unfold Bk; omega
  exact main_loop hB hE ws hlen ws.length _ 0 H 0 0 [] (Nat.zero_le _) (by omega) (by omega) hb (Int.le_refl _) (Int.le_refl _) (by omega) (Nat.le_refl _)
    ⟨fun i k _ hk => by simp at hk, fun i hi => by simp at hi, fun i hi => by simp at hi⟩ (fun i k _ hk => by simp at hk)
end Go.Proofs.Ytkkopknlhijgiaa.Pure
