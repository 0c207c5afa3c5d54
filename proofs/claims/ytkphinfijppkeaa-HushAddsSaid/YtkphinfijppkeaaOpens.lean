/- What an argument of any kind reads as: whole numbers, bools, strings, slices and structs of these, each in each. No program in sight. -/
import Derived.Test.YtkphinfijppkeaaWMore
import Derived.WalkKit
import Derived.ProofKit
import Derived.OpenShut
import Derived.ShutString
import Derived.ChangeOld
import Derived.Below
import Derived.SizedLaws
import Derived.Deep.Slices
namespace Go.Proofs.Ytkphinfijppkeaa.Op
open Go.ChangeShapes Go.WideShapes Go.ChangeAt Go.RowKit Go.Deep Go.Proofs.YtkphinfijppkeaaW.PrintWords
set_option linter.unusedVariables false
/-- A type's values are read as a kind says. -/
def Opens {α : Type} (P : Program) (w : World) (t : TypeId) (d : Kd α) (wf : α → Prop) : Prop :=
  ∀ (H : Type) (enc : TypeId × Value → H) (base : Nat) (spare : Nat → Bool) (held : Bool) (fuel : Nat) (cs : List Value) (x : DataW H × List MemPlace), DataW.trod enc P w base spare held fuel t cs = some x → ∃ y, d.K w y cs ∧ wf y
section
variable {P : Program} {w : World} {t e : TypeId} {α β : Type}
theorem opens_int {k : IntKind} (ht : P.underlying t = some (.int k)) : Opens P w t (Kd.int k) (fun n => (Lit.int k n).wf = true) := by
  intro H enc base spare held fuel cs x h
  obtain ⟨n, rfl, _, hw⟩ := DataW.trod_int ht h
  exact ⟨n, rfl, hw⟩
theorem opens_bool (ht : P.underlying t = some .bool) : Opens P w t Kd.bool (fun _ => True) := by
  intro H enc base spare held fuel cs x h
  obtain ⟨n, rfl, _⟩ := DataW.trod_bool ht h
  exact ⟨n, rfl, trivial⟩
theorem opens_string (ht : P.underlying t = some .string) : Opens P w t Kd.string (fun s => s.size ≤ maxLen) := by
  intro H enc base spare held fuel cs x h
  obtain ⟨n, rfl, _, hw⟩ := DataW.trod_string ht h
  exact ⟨n, rfl, hw⟩
theorem choose_row {p : Nat → α → Prop} : ∀ (n : Nat), (∀ i, i < n → ∃ y, p i y) → ∃ ys : List α, ys.length = n ∧ ∀ i y, ys[i]? = some y → p i y
  | 0, _ => ⟨[], rfl, fun i y h => by simp at h⟩
  | n + 1, h => by
    obtain ⟨ys, hl, hy⟩ := choose_row n (fun i hi => h i (by omega))
    obtain ⟨y, hn⟩ := h n (by omega)
    refine ⟨ys ++ [y], by simp [hl], fun i z hz => ?_⟩
    by_cases hi : i < n
    · rw [List.getElem?_append_left (by omega)] at hz
      exact hy i z hz
    · have hin : i = n := by
        have := (List.getElem?_eq_some_iff.1 hz).1
        simp at this; omega
      subst hin
      rw [List.getElem?_append_right (by omega), hl] at hz
      simp at hz
      subst hz
      exact hn
theorem opens_slice {d : Kd α} {wf : α → Prop} (ht : P.underlying t = some (.slice e)) (hd : Opens P w e d wf) (hc : P.cellsOf e = d.sz) : Opens P w t (Kd.slice e d) (fun l => l.length ≤ maxLen ∧ ∀ x ∈ l, wf x) := by
  intro H enc base spare held fuel cs x h
  rcases open_slice ht h with ⟨rfl, _⟩ | ⟨a, len, cap, m, n, D, Pl, rfl, hb, hl, hm, hmm, hx, hi⟩
  · exact ⟨[], ⟨none, 0, rfl, Nat.le_refl _, rfl, by simp, fun h => absurd h (by simp)⟩, by simp [maxLen], by simp⟩
  · have hlm : len ≤ m := by rw [hmm]; split <;> omega
    obtain ⟨ys, hyl, hy⟩ := choose_row (p := fun i y => ∃ c, w.cells? base (a.add (i * P.cellsOf e)) (P.cellsOf e) = some c ∧ d.K w y c ∧ wf y) len (fun i hil => by
      obtain ⟨c, h1, h2⟩ := hi i (by omega)
      obtain ⟨y, h3, h4⟩ := hd _ _ _ _ _ _ _ _ h2
      exact ⟨y, c, h1, h3, h4⟩)
    have hmax : len ≤ maxLen := Nat.le_trans hl hm
    refine ⟨ys, ⟨some a, cap, by rw [hyl], by omega, rfl, by rw [hyl]; unfold maxLen at hmax; omega, fun _ => ⟨a, rfl, fun j p hj => ?_⟩⟩, by omega, fun z hz => ?_⟩
    · obtain ⟨c, h1, h2, _⟩ := hy j p hj
      obtain ⟨_, h4, h5⟩ := World.cells?_some h1
      refine ⟨c, d.K_len h2, h2, fun i u hu => ?_⟩
      have hic : i < P.cellsOf e := by rw [← h4]; exact (List.getElem?_eq_some_iff.1 hu).1
      have h6 := h5 i hic
      rw [Go.Deep.add_add, hc] at h6
      rw [h6, hu]
    · obtain ⟨i, hil, rfl⟩ := List.mem_iff_getElem.1 hz
      obtain ⟨c, _, _, h3⟩ := hy i _ (List.getElem?_eq_getElem hil)
      exact h3
/-- A struct's fields, from a place on. -/
def OpensAt (P : Program) (w : World) (o : Nat) (fs : List (Nat × TypeId)) (d : Kd α) (wf : α → Prop) : Prop :=
  ∀ (H : Type) (enc : TypeId × Value → H) (base : Nat) (spare : Nat → Bool) (held : Bool) (n : Nat) (cs : List Value), (∀ f ∈ fs, ∃ x, DataW.trod enc P w base spare held n f.2 ((cs.drop f.1).take (P.cellsOf f.2)) = some x) → cs.length = o + d.sz → ∃ y, d.K w y (cs.drop o) ∧ wf y
theorem opens_last {o : Nat} {d : Kd α} {wf : α → Prop} (hd : Opens P w t d wf) (hc : P.cellsOf t = d.sz) : OpensAt P w o [(o, t)] d wf := by
  intro H enc base spare held n cs hf hl
  obtain ⟨x, hx⟩ := hf (o, t) (by simp)
  obtain ⟨y, h1, h2⟩ := hd _ _ _ _ _ _ _ _ hx
  refine ⟨y, ?_, h2⟩
  simp only at h1
  rwa [List.take_of_length_le (by rw [List.length_drop, hc]; omega)] at h1
theorem opens_cons {o o1 : Nat} {fs : List (Nat × TypeId)} {a : Kd α} {b : Kd β} {wfa : α → Prop} {wfb : β → Prop} (ha : Opens P w t a wfa) (hc : P.cellsOf t = a.sz) (ho : o1 = o + a.sz) (hb : OpensAt P w o1 fs b wfb) :
    OpensAt P w o ((o, t) :: fs) (Kd.pair a b) (fun p => wfa p.1 ∧ wfb p.2) := by
  intro H enc base spare held n cs hf hl
  have hl' : cs.length = o + (a.sz + b.sz) := hl
  obtain ⟨x, hx⟩ := hf (o, t) (by simp)
  obtain ⟨y, h1, h2⟩ := ha _ _ _ _ _ _ _ _ hx
  obtain ⟨z, h3, h4⟩ := hb _ _ _ _ _ n cs (fun f hm => hf f (List.mem_cons_of_mem _ hm)) (by omega)
  simp only [hc] at h1
  subst ho
  exact ⟨(y, z), ⟨_, _, by rw [← List.drop_drop, List.take_append_drop], h1, h3⟩, h2, h4⟩
theorem opens_struct {fs : Array Field} {d : Kd α} {wf : α → Prop} {f : β → α} (g : α → β) (hg : ∀ y, f (g y) = y) (ht : P.underlying t = some (.struct fs)) (hc : P.cellsOf t = d.sz) {l : List (Nat × TypeId)} (hl : l = fs.toList.map fun x => (x.offset, x.type)) (hF : OpensAt P w 0 l d wf) :
    Opens P w t (Kd.iso d f) (fun x => wf (f x)) := by
  intro H enc base spare held fuel cs x h
  obtain ⟨xs, n, _, _, hlen, hxl, hf⟩ := DataW.trod_struct ht h
  obtain ⟨y, h1, h2⟩ := hF H enc base spare held n cs (fun p hp => by
    subst hl
    obtain ⟨fd, hm, rfl⟩ := List.mem_map.1 hp
    obtain ⟨i, hi, rfl⟩ := List.mem_iff_getElem.1 hm
    have hi' : i < fs.size := by simpa using hi
    refine ⟨_, (hf i _ (by simp [hi'])).trans (List.getElem?_eq_getElem (by omega))⟩) (by omega)
  refine ⟨g y, ?_, by show wf (f (g y)); rw [hg]; exact h2⟩
  show d.K w (f (g y)) cs
  rw [hg]
  simpa using h1
theorem Opens.imp {d : Kd α} {wf wf' : α → Prop} (h : Opens P w t d wf) (hi : ∀ x, wf x → wf' x) : Opens P w t d wf' := by
  intro H enc base spare held fuel cs x hx
  obtain ⟨y, h1, h2⟩ := h _ _ _ _ _ _ _ _ hx
  exact ⟨y, h1, hi y h2⟩
end
end Go.Proofs.Ytkphinfijppkeaa.Op
