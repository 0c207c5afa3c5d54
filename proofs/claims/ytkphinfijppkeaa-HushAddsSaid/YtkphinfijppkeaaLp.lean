/- Contracts of functions of the given program: what each comes to, for any arguments. No condition beyond each theorem's own premises. -/
import Derived.Test.YtkphinfijppkeaaLm
namespace Go.Proofs.Ytkphinfijppkeaa.G
open Go.RowKit Go.Proofs.YtkphinfijppkeaaW.PrintWords Go.Proofs.YtkphinfijppkeaaW.PrintLast Go.Proofs.YtkphinfijppkeaaW.PrintMore
attribute [local go_sem] max2_int min2_int max_two min_two max_three min_three max_four min_four
set_option linter.unusedVariables false
set_option linter.unusedSimpArgs false
/-! In which order hushes stand makes no difference, nor does one that is there twice. -/
theorem hushed_iff (hs : List S25) (l : List S92) (y : Int) : hushed hs l y ↔ ∃ h ∈ hs, hitB l y h = true := by
  constructor
  · intro h
    rcases tillG_mem l y hs y with h1 | ⟨x, hx, h1, _⟩
    · unfold hushed at h; omega
    · exact ⟨x, hx, h1⟩
  · rintro ⟨x, hx, h1⟩
    have h2 := tillG_hit l y x h1 hs y hx
    unfold hitB at h1
    simp only [Bool.and_eq_true, decide_eq_true_eq] at h1
    unfold hushed
    omega
theorem turned_may {q T : List S25} {L : List S92} {now : Int} (hmem : ∀ x, x ∈ T ↔ x ∈ q) (hT : T.length ≤ 8) (hm : mayB q L now = true) : mayB T L now = true := by
  unfold mayB at hm ⊢
  simp only [Bool.and_eq_true] at hm ⊢
  refine ⟨?_, hm.2⟩
  have h1 := hm.1
  unfold hushesB at h1 ⊢
  simp only [Bool.and_eq_true, decide_eq_true_eq] at h1 ⊢
  exact ⟨hT, List.all_eq_true.2 fun x hx => List.all_eq_true.1 h1.2 x ((hmem x).1 hx)⟩
theorem turned_hushed {q T : List S25} {L : List S92} (hmem : ∀ x, x ∈ T ↔ x ∈ q) (y : Int) : hushed T L y ↔ hushed q L y := by
  rw [hushed_iff, hushed_iff]
  constructor
  · rintro ⟨x, hx, h⟩; exact ⟨x, (hmem x).1 hx, h⟩
  · rintro ⟨x, hx, h⟩; exact ⟨x, (hmem x).2 hx, h⟩
theorem turned_free {q T : List S25} {L : List S92} {now : Int} (hmem : ∀ x, x ∈ T ↔ x ∈ q) (hT : T.length ≤ 8) (hm : mayB q L now = true) : freeV T L now = freeV q L now ∧ activeV T L now = activeV q L now ∧ mayE T L now = 0 := by
  have hm2 := turned_may hmem hT hm
  obtain ⟨s1, s2, s3, _⟩ := free_spec q L (q.length + 1) now (cnt_lt q now)
  refine ⟨?_, ?_, (may_yes hm2).2⟩
  · unfold freeV
    rw [if_pos hm, if_pos hm2]
    exact free_only s1 (fun h => s2 ((turned_hushed hmem _).1 h)) (fun y h1 h2 => (turned_hushed hmem _).2 (s3 y h1 h2))
  · rw [(may_yes hm).1, (may_yes hm2).1]
    exact decide_eq_decide.2 (turned_hushed hmem now)
theorem act_free {q : List S25} {L : List S92} {now : Int} (hm : mayB q L now = true) : activeV q L now = decide (freeV q L now > now) := by
  obtain ⟨s1, s2, s3, _⟩ := free_spec q L (q.length + 1) now (cnt_lt q now)
  rw [(may_yes hm).1]
  unfold freeV
  rw [if_pos hm]
  refine decide_eq_decide.2 ⟨fun h => ?_, fun h => s3 now (Int.le_refl _) h⟩
  by_cases e : freeG q L (q.length + 1) now = now
  · rw [e] at s2; exact absurd h s2
  · omega
theorem turn_mem (q : List S25) (k : Nat) (hk : k < q.length) (x : S25) : x ∈ (q.drop k ++ q.take k) ++ [q[k]] ↔ x ∈ q := by
  rw [List.mem_append, List.mem_append, List.mem_singleton]
  constructor
  · rintro ((h | h) | h)
    · exact List.mem_of_mem_drop h
    · exact List.mem_of_mem_take h
    · rw [h]; exact List.getElem_mem hk
  · intro h
    rw [← List.take_append_drop k q, List.mem_append] at h
    exact .inl h.symm
theorem turn_len (q : List S25) (k : Nat) (hk : k < q.length) : ((q.drop k ++ q.take k) ++ [q[k]]).length = q.length + 1 := by
  simp; omega
theorem turn_k (tn : Int) (n : Nat) (h0 : 0 < n) (hn : n ≤ 7) : ∃ k : Nat, k < n ∧ Int.tmod (wrap64 (wrap64 (Int.tmod tn n) + n)) n = k ∧ Int.tmod (wrap64 (Int.tmod tn n + n)) n = k := by
  have hm : -(n : Int) < Int.tmod tn n ∧ Int.tmod tn n < n := by
    have h1 := Int.emod_nonneg tn (show (n : Int) ≠ 0 by omega)
    have h2 := Int.emod_lt_of_pos tn (show (0 : Int) < n by omega)
    rw [Int.tmod_eq_emod]
    split <;> omega
  have e1 : wrap64 (Int.tmod tn n) = Int.tmod tn n := w64' (by omega) (by omega)
  have e2 : wrap64 (Int.tmod tn n + n) = Int.tmod tn n + n := w64' (by omega) (by omega)
  rw [e1, e2]
  have h0' : (0 : Int) ≤ Int.tmod tn n + n := by omega
  refine ⟨(Int.tmod (Int.tmod tn n + n) n).toNat, ?_, ?_, ?_⟩ <;> rw [Int.tmod_eq_emod_of_nonneg h0']
  · have h1 := Int.emod_nonneg (Int.tmod tn n + n) (show (n : Int) ≠ 0 by omega)
    have h2 := Int.emod_lt_of_pos (Int.tmod tn n + n) (show (0 : Int) < n by omega)
    omega
  · have h1 := Int.emod_nonneg (Int.tmod tn n + n) (show (n : Int) ≠ 0 by omega)
    omega
  · have h1 := Int.emod_nonneg (Int.tmod tn n + n) (show (n : Int) ≠ 0 by omega)
    omega
end Go.Proofs.Ytkphinfijppkeaa.G
