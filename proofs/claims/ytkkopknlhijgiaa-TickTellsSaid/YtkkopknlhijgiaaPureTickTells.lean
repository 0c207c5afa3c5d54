/- The statement TickTells over plain numbers and lists: which numbers are times, what any two make, and the least of any, is as the reference says, or refused. No condition. -/
import Derived.Test.YtkkopknlhijgiaaG2
import Derived.Test.YtkkopknlhijgiaaG5
import Derived.Test.YtkkopknlhijgiaaG7
import Derived.Test.YtkkopknlhijgiaaG8
import Derived.Test.YtkkopknlhijgiaaG9
import Derived.Test.YtkkopknlhijgiaaTick
namespace Go.Proofs.Ytkkopknlhijgiaa.Pure
open Go.RowKit Go.Proofs.Ytkkopknlhijgiaa.G Go.Proofs.YtkkopknlhijgiaaW.PrintWords Go.Proofs.YtkkopknlhijgiaaW.PrintLast Go.Proofs.YtkkopknlhijgiaaW.PrintMore Go.Proofs.Ytkkopknlhijgiaa.Tick
set_option linter.unusedVariables false
set_option linter.unusedSimpArgs false
theorem ref_all_l (l : List Int) (hn : l.length ≤ 1000000) (d : Nat) : ∀ (k i : Nat), i ≤ l.length → l.length - i = d → d < k →
    foghornref05_All.l0 k l (l.length : Int) (i : Int) = some ((l.drop i).all fun t => decide (Tm t)) := by
  induction d with
  | zero =>
    intro k i hi hd hk
    obtain ⟨k, rfl⟩ : ∃ m, k = m + 1 := ⟨k - 1, by omega⟩
    simp only [foghornref05_All.l0]
    rw [if_neg (by omega), List.drop_eq_nil_of_le (by omega)]
    rfl
  | succ d ih =>
    intro k i hi hd hk
    obtain ⟨k, rfl⟩ : ∃ m, k = m + 1 := ⟨k - 1, by omega⟩
    have hlt : i < l.length := by omega
    simp only [foghornref05_All.l0]
    rw [if_pos (by omega), if_pos (by omega), if_pos (by omega), ref_right_is]
    have e : rd l (i : Int) = l[i] := by simp [rd, List.getD_eq_getElem?_getD, hlt]
    rw [e, List.drop_eq_getElem_cons hlt, List.all_cons]
    simp only [Option.bind_some]
    by_cases ht : Tm l[i]
    · rw [if_pos (decide_eq_true ht), decide_eq_true ht, Bool.true_and, w64 (by omega) (by omega)]
      exact ih k (i + 1) (by omega) (by omega) (by omega)
    · rw [if_neg (by simp [ht])]; simp [ht]
theorem ref_all_is (l : List Int) (hn : l.length ≤ 1000000) (k : Nat) (hk : l.length < k) : foghornref05_All.f k l = some (l.all fun t => decide (Tm t)) := by
  have := ref_all_l l hn l.length k 0 (Nat.zero_le _) (by omega) hk
  unfold foghornref05_All.f
  rw [List.drop_zero] at this
  exact this
theorem ref_first_l (l : List Int) (hn : l.length ≤ 1000000) (d : Nat) : ∀ (k i : Nat) (m : Int), i ≤ l.length → l.length - i = d → d < k →
    foghornref05_First.l0 k m l (l.length : Int) (i : Int) = some ((l.drop i).foldl mn m) := by
  induction d with
  | zero =>
    intro k i m hi hd hk
    obtain ⟨k, rfl⟩ : ∃ m, k = m + 1 := ⟨k - 1, by omega⟩
    simp only [foghornref05_First.l0]
    rw [if_neg (by omega), List.drop_eq_nil_of_le (by omega)]
    rfl
  | succ d ih =>
    intro k i m hi hd hk
    obtain ⟨k, rfl⟩ : ∃ m, k = m + 1 := ⟨k - 1, by omega⟩
    have hlt : i < l.length := by omega
    simp only [foghornref05_First.l0]
    rw [if_pos (by omega), if_pos (by omega), if_pos (by omega), w64 (by omega) (by omega)]
    have e : rd l (i : Int) = l[i] := by simp [rd, List.getD_eq_getElem?_getD, hlt]
    rw [e, List.drop_eq_getElem_cons hlt, List.foldl_cons]
    exact ih k (i + 1) _ (by omega) (by omega) (by omega)
theorem ref_first_is (l : List Int) (hn : l.length ≤ 1000000) (h : l ≠ []) (k : Nat) (hk : l.length < k) : foghornref05_First.f k l = some (minOf l) := by
  have := ref_first_l l hn l.length k 0 (rd l 0) (Nat.zero_le _) (by omega) hk
  unfold foghornref05_First.f
  have hl := List.length_pos_iff.2 h
  rw [if_pos (by omega)]
  rw [List.drop_zero] at this
  refine this.trans ?_
  cases l with
  | nil => exact absurd rfl h
  | cons x xs => simp [minOf, rd, mn]
theorem first_bad (l : List Int) (h : ¬ ∀ t ∈ l, Tm t) : tick_First.f l = some (0, 1) := by
  unfold tick_First.f
  have : tick_all.f l = some false := by
    unfold tick_all.f
    congr 1
    rw [List.all_eq_false]
    simp only [Classical.not_forall] at h
    obtain ⟨x, hx, hn⟩ := h
    refine ⟨x, hx, ?_⟩
    rw [tm_bool]
    simp [hn]
  rw [this]
  simp
theorem first_none : tick_First.f [] = some (0, 4) := by
  unfold tick_First.f
  rw [show tick_all.f [] = some true from rfl]
  simp
/-- The last part: what two numbers make. -/
theorem last_part (k : Nat) (a b : Int) (s1 s2 d1 d2 p1 p2 : Int) (hs : tick_Add.f a b = some (s1, s2)) (hd : tick_Sub.f a b = some (d1, d2)) (hp : tick_Times.f a b = some (p1, p2)) :
    foghornlaw05_TickTells.j1 (k + 2) a b s1 s2 d1 d2 p1 p2 = some true := by
  simp only [foghornlaw05_TickTells.j1, ref_right_is, Option.bind_some, decide_eq_true_eq]
  by_cases h : Tm a ∧ Tm b
  · obtain ⟨ha, hb⟩ := h
    rw [add_in ha hb] at hs
    rw [sub_in ha hb] at hd
    rw [times_in ha hb] at hp
    simp only [Option.some.injEq, Prod.mk.injEq] at hs hd hp
    obtain ⟨rfl, rfl⟩ := hs
    obtain ⟨rfl, rfl⟩ := hd
    obtain ⟨rfl, rfl⟩ := hp
    rw [if_pos ha]
    simp only [foghornlaw05_TickTells.j2, hb, decide_true, Bool.not_true, Bool.false_eq_true, if_false, if_true]
    unfold foghornref05_Add.f foghornref05_Sub.f foghornref05_Times.f
    have ht := tim_tm ha hb
    have ha' := ha
    have hb' := hb
    unfold Tm at ha' hb'
    rw [w64 (n := a + b) (by omega) (by omega), w64 (n := a - b) (by omega) (by omega)]
    simp only [Option.bind_some, if_true]
    unfold tim at ht ⊢
    by_cases h0 : a > 0
    · rw [if_pos h0, if_neg (by omega)]
      by_cases h1 : b > 1099511627776 / a
      · rw [if_pos h1, if_pos ⟨h0, h1⟩]; simp
      · rw [if_neg h1, if_neg (by omega)]
        rw [if_neg (by omega)] at ht
        unfold Tm at ht
        rw [w64 (by omega) (by omega)]; simp
    · rw [if_neg h0, if_neg (by omega)]
      rw [if_neg (by omega)] at ht
      unfold Tm at ht
      rw [w64 (by omega) (by omega)]; simp
  · rw [add_out h] at hs
    rw [sub_out h] at hd
    rw [times_out h] at hp
    simp only [Option.some.injEq, Prod.mk.injEq] at hs hd hp
    obtain ⟨rfl, rfl⟩ := hs
    obtain ⟨rfl, rfl⟩ := hd
    obtain ⟨rfl, rfl⟩ := hp
    by_cases ha : Tm a
    · have hb : ¬ Tm b := fun hb => h ⟨ha, hb⟩
      rw [if_pos ha]
      simp [foghornlaw05_TickTells.j2, hb]
    · rw [if_neg ha]
      simp [foghornlaw05_TickTells.j2]
theorem two_some (f : Option (Int × Int)) (h : f.isSome = true) : ∃ x y, f = some (x, y) := by
  cases f with
  | none => simp at h
  | some p => exact ⟨p.1, p.2, rfl⟩
theorem TickTells : foghornlaw05_TickTells.Pure := by
  intro a b l0 _ _ hmax _ _
  have hm0 : 0 ≤ mn (l0.length : Int) 50 := by unfold mn; split <;> omega
  have hm1 : mn (l0.length : Int) 50 ≤ l0.length := by unfold mn; split <;> omega
  have hm2 : mn (l0.length : Int) 50 ≤ 50 := by unfold mn; split <;> omega
  obtain ⟨l, hl⟩ : ∃ l, l0.take (mn (l0.length : Int) 50).toNat = l := ⟨_, rfl⟩
  have hlen : l.length ≤ 50 := by rw [← hl, List.length_take]; omega
  obtain ⟨s1, s2, hs⟩ : ∃ x y, tick_Add.f a b = some (x, y) := by
    by_cases h : Tm a ∧ Tm b
    · exact ⟨_, _, add_in h.1 h.2⟩
    · exact ⟨_, _, add_out h⟩
  obtain ⟨d1, d2, hd⟩ : ∃ x y, tick_Sub.f a b = some (x, y) := by
    by_cases h : Tm a ∧ Tm b
    · exact ⟨_, _, sub_in h.1 h.2⟩
    · exact ⟨_, _, sub_out h⟩
  obtain ⟨p1, p2, hp⟩ : ∃ x y, tick_Times.f a b = some (x, y) := by
    by_cases h : Tm a ∧ Tm b
    · exact ⟨_, _, times_in h.1 h.2⟩
    · exact ⟨_, _, times_out h⟩
  refine ⟨103, ?_⟩
  have hj := last_part 100 a b s1 s2 d1 d2 p1 p2 hs hd hp
  unfold foghornlaw05_TickTells.f
  rw [if_pos hm0, if_pos hm1, hl, hs, hd, hp]
  simp only [Option.bind_some, right_is, ref_right_is, alive_is, bne_self_eq_false, Bool.false_eq_true, if_false, Bool.not_true]
  by_cases ht : ∀ t ∈ l, Tm t
  · have ea : foghornref05_All.f 102 l = some true := by
      rw [ref_all_is l (by omega) 102 (by omega)]
      congr 1
      rw [List.all_eq_true]
      intro x hx
      exact decide_eq_true (ht x hx)
    by_cases hn : l = []
    · subst hn
      rw [first_none]
      simp only [Option.bind_some, foghornlaw05_TickTells.j0, Bool.false_eq_true, if_false, ea, if_true, List.length_nil]
      simpa using hj
    · rw [first_is l hn ht]
      have hne : ¬ (l.length : Int) = 0 := by have := List.length_pos_iff.2 hn; omega
      simp only [Option.bind_some, foghornlaw05_TickTells.j0, Bool.false_eq_true, if_false, ea, if_true, if_neg hne, ref_first_is l (by omega) hn 102 (by omega)]
      exact hj
  · have ea : foghornref05_All.f 102 l = some false := by
      rw [ref_all_is l (by omega) 102 (by omega)]
      congr 1
      rw [List.all_eq_false]
      simp only [Classical.not_forall] at ht
      obtain ⟨x, hx, hn⟩ := ht
      exact ⟨x, hx, by simp [hn]⟩
    rw [first_bad l ht]
    simp only [Option.bind_some, foghornlaw05_TickTells.j0, Bool.false_eq_true, if_false, ea, if_true]
    exact hj
end Go.Proofs.Ytkkopknlhijgiaa.Pure
