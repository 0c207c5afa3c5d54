/- Contracts of functions of the given program, and what they come to, for any arguments. No condition beyond each theorem's own premises. -/
import Derived.Deep.RegionHeld3
import Derived.Test.YtkphinfijppkeaaXHushTellsM7
namespace Go.Proofs.Ytkphinfijppkeaa.G
open Go.RowKit Go.Proofs.YtkphinfijppkeaaW.PrintWords Go.Proofs.YtkphinfijppkeaaW.PrintLast Go.Proofs.YtkphinfijppkeaaW.PrintMore
attribute [local go_sem] max2_int min2_int max_two min_two max_three min_three max_four min_four
structure RowsOf (w : World) (l : List S25) (rows : List (List Value)) : Prop where
  len : rows.length = l.length
  at_ : ∀ (j : Nat) (x : S25) (c : List Value), l[j]? = some x → rows[j]? = some c → k25.K w x c
theorem RowsOf.append {w : World} {l l' : List S25} {r r' : List (List Value)} (h : RowsOf w l r) (h' : RowsOf w l' r') : RowsOf w (l ++ l') (r ++ r') := by
  refine ⟨by simp [h.len, h'.len], fun j x c h1 h2 => ?_⟩
  by_cases e : j < l.length
  · rw [List.getElem?_append_left e] at h1
    rw [List.getElem?_append_left (by have := h.len; omega)] at h2
    exact h.at_ j x c h1 h2
  · rw [List.getElem?_append_right (by omega)] at h1
    rw [List.getElem?_append_right (by have := h.len; omega), h.len] at h2
    exact h'.at_ _ x c h1 h2
theorem RowsOf.take {w : World} {l : List S25} {r : List (List Value)} (h : RowsOf w l r) (n : Nat) : RowsOf w (l.take n) (r.take n) := by
  refine ⟨by simp [h.len], fun j x c h1 h2 => ?_⟩
  rw [List.getElem?_take] at h1 h2
  split at h1
  · rename_i hj
    rw [if_pos hj] at h2
    exact h.at_ j x c h1 h2
  · cases h1
theorem RowsOf.drop {w : World} {l : List S25} {r : List (List Value)} (h : RowsOf w l r) (n : Nat) : RowsOf w (l.drop n) (r.drop n) := by
  refine ⟨by simp [h.len], fun j x c h1 h2 => ?_⟩
  rw [List.getElem?_drop] at h1 h2
  exact h.at_ _ x c h1 h2
theorem RowsOf.one {w : World} {x : S25} {c : List Value} (h : k25.K w x c) : RowsOf w [x] [c] := by
  refine ⟨rfl, fun j y c' h1 h2 => ?_⟩
  cases j with
  | zero => simp at h1 h2; subst h1 h2; exact h
  | succ j => simp at h1
section
variable {P : Program} {w0 W : World} {bs : List Fr.Blk}
end
end Go.Proofs.Ytkphinfijppkeaa.G
