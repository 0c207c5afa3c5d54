/- A gate by value, as it is read: two structs of whole numbers, one behind the other, in nine cells. Type numbers: 36 the gate, 32 its breaker, 34 its bucket. -/
import Derived.Test.YtanhdljnbaojbaaRows
import Derived.WalkKit
import Derived.ProofKit
import Derived.OpenShut
import Derived.ChangeOld
import Derived.Lib.SmallJoins
namespace Go.Proofs.Ytanhdljnbaojbaa.GateRow
open Go.ChangeShapes Go.WideShapes Go.ChangeAt Go.RowKit
set_option linter.unusedVariables false
theorem len4 {α : Type} {l : List α} (h : l.length = 4) : ∃ a b c d, l = [a, b, c, d] := by
  match l, h with
  | [a, b, c, d], _ => exact ⟨a, b, c, d, rfl⟩
theorem len5 {α : Type} {l : List α} (h : l.length = 5) : ∃ a b c d e, l = [a, b, c, d, e] := by
  match l, h with
  | [a, b, c, d, e], _ => exact ⟨a, b, c, d, e, rfl⟩
theorem len9 {α : Type} {l : List α} (h : l.length = 9) : ∃ a b c d e f g i j, l = [a, b, c, d, e, f, g, i, j] := by
  match l, h with
  | [a, b, c, d, e, f, g, i, j], _ => exact ⟨a, b, c, d, e, f, g, i, j, rfl⟩
section
variable {H : Type} {enc : TypeId × Value → H} {w : World} {base : Nat} {spare : Nat → Bool} {held : Bool}
theorem ints_of {m : Nat} {cs : List Value} {y : DataW H × List MemPlace} (h : DataW.trod enc Try.prog w base spare held m 3 cs = some y) : ∃ n, cs = [.int .i64 n] ∧ y = (.lit (.int .i64 n), []) ∧ (Lit.int .i64 n).wf = true := DataW.trod_int Try.underlying3 h
theorem int_mk {n : Int} (m : Nat) (hw : (Lit.int .i64 n).wf = true) : DataW.trod enc Try.prog w base spare held (m + 1) 3 [.int .i64 n] = some (.lit (.int .i64 n), []) := trod_int_mk m Try.underlying3 hw
theorem breaker_open {m : Nat} {cs : List Value} {y : DataW H × List MemPlace} (h : DataW.trod enc Try.prog w base spare held m 32 cs = some y) :
    ∃ a b c d e : Int, cs = [.int .i64 a, .int .i64 b, .int .i64 c, .int .i64 d, .int .i64 e] ∧ y = (.agg [.lit (.int .i64 a), .lit (.int .i64 b), .lit (.int .i64 c), .lit (.int .i64 d), .lit (.int .i64 e)], []) ∧
      (Lit.int .i64 a).wf = true ∧ (Lit.int .i64 b).wf = true ∧ (Lit.int .i64 c).wf = true ∧ (Lit.int .i64 d).wf = true ∧ (Lit.int .i64 e).wf = true := by
  obtain ⟨xs, n, _, rfl, hl, hlen, hf⟩ := DataW.trod_struct Try.underlying32 h
  have hc : Try.prog.cellsOf 32 = 5 := by kernel_rfl
  have h1 : Try.prog.cellsOf 3 = 1 := by kernel_rfl
  rw [hc] at hl
  obtain ⟨v0, v1, v2, v3, v4, rfl⟩ := len5 hl
  obtain ⟨x0, x1, x2, x3, x4, rfl⟩ := len5 hlen
  next =>
    have k0 := hf 0 _ rfl
    have k1 := hf 1 _ rfl
    have k2 := hf 2 _ rfl
    have k3 := hf 3 _ rfl
    have k4 := hf 4 _ rfl
    simp [h1] at k0 k1 k2 k3 k4
    obtain ⟨a, ea, rfl, wa⟩ := ints_of k0
    obtain ⟨b, eb, rfl, wb⟩ := ints_of k1
    obtain ⟨c, ec, rfl, wc⟩ := ints_of k2
    obtain ⟨d, ed, rfl, wd⟩ := ints_of k3
    obtain ⟨e, ee, rfl, we⟩ := ints_of k4
    simp at ea eb ec ed ee
    subst ea eb ec ed ee
    exact ⟨a, b, c, d, e, rfl, by simp, wa, wb, wc, wd, we⟩
theorem bucket_open {m : Nat} {cs : List Value} {y : DataW H × List MemPlace} (h : DataW.trod enc Try.prog w base spare held m 34 cs = some y) :
    ∃ a b c d : Int, cs = [.int .i64 a, .int .i64 b, .int .i64 c, .int .i64 d] ∧ y = (.agg [.lit (.int .i64 a), .lit (.int .i64 b), .lit (.int .i64 c), .lit (.int .i64 d)], []) ∧
      (Lit.int .i64 a).wf = true ∧ (Lit.int .i64 b).wf = true ∧ (Lit.int .i64 c).wf = true ∧ (Lit.int .i64 d).wf = true := by
  obtain ⟨xs, n, _, rfl, hl, hlen, hf⟩ := DataW.trod_struct Try.underlying34 h
  have hc : Try.prog.cellsOf 34 = 4 := by kernel_rfl
  have h1 : Try.prog.cellsOf 3 = 1 := by kernel_rfl
  rw [hc] at hl
  obtain ⟨v0, v1, v2, v3, rfl⟩ := len4 hl
  obtain ⟨x0, x1, x2, x3, rfl⟩ := len4 hlen
  next =>
    have k0 := hf 0 _ rfl
    have k1 := hf 1 _ rfl
    have k2 := hf 2 _ rfl
    have k3 := hf 3 _ rfl
    simp [h1] at k0 k1 k2 k3
    obtain ⟨a, ea, rfl, wa⟩ := ints_of k0
    obtain ⟨b, eb, rfl, wb⟩ := ints_of k1
    obtain ⟨c, ec, rfl, wc⟩ := ints_of k2
    obtain ⟨d, ed, rfl, wd⟩ := ints_of k3
    simp at ea eb ec ed
    subst ea eb ec ed
    exact ⟨a, b, c, d, rfl, by simp, wa, wb, wc, wd⟩
set_option maxRecDepth 100000 in
/-- A gate that came in. -/
theorem open_gate {r : Reach} {b0 : Nat} {v : Value} {d : DataW H} {p : List MemPlace} (hv : Value.okWide Try.prog w r b0 36 v) (h : DataW.Trod enc Try.prog w base spare held 36 v d p) :
    ∃ a0 a1 a2 a3 a4 a5 a6 a7 a8 : Int, v = .agg #[.int .i64 a0, .int .i64 a1, .int .i64 a2, .int .i64 a3, .int .i64 a4, .int .i64 a5, .int .i64 a6, .int .i64 a7, .int .i64 a8] ∧
      d = .agg [.agg [.lit (.int .i64 a0), .lit (.int .i64 a1), .lit (.int .i64 a2), .lit (.int .i64 a3), .lit (.int .i64 a4)], .agg [.lit (.int .i64 a5), .lit (.int .i64 a6), .lit (.int .i64 a7), .lit (.int .i64 a8)]] ∧ p = [] ∧
      ((Lit.int .i64 a0).wf = true ∧ (Lit.int .i64 a1).wf = true ∧ (Lit.int .i64 a2).wf = true ∧ (Lit.int .i64 a3).wf = true ∧ (Lit.int .i64 a4).wf = true) ∧ (Lit.int .i64 a5).wf = true ∧ (Lit.int .i64 a6).wf = true ∧ (Lit.int .i64 a7).wf = true ∧ (Lit.int .i64 a8).wf = true := by
  obtain ⟨cs, rfl, hsz⟩ := okWide_struct Try.underlying36 hv
  obtain ⟨fuel, hf⟩ := h
  have hc : Try.prog.cellsOf 36 = 9 := by kernel_rfl
  have h5 : Try.prog.cellsOf 32 = 5 := by kernel_rfl
  have h4 : Try.prog.cellsOf 34 = 4 := by kernel_rfl
  rw [hc] at hsz
  obtain ⟨y0, y1, n, hx, _, k0, k1⟩ := trod_struct2 Try.underlying36 hf
  obtain ⟨a0, a1, a2, a3, a4, e0, rfl, w0⟩ := breaker_open k0
  obtain ⟨a5, a6, a7, a8, e1, rfl, w1⟩ := bucket_open k1
  simp only [Prod.mk.injEq] at hx
  obtain ⟨rfl, rfl⟩ := hx
  refine ⟨a0, a1, a2, a3, a4, a5, a6, a7, a8, ?_, rfl, rfl, w0, w1⟩
  have hl : cs.toList.length = 9 := by simpa using hsz
  have hcs : cs = cs.toList.toArray := by simp
  generalize hL : cs.toList = L at hl e0 e1 hcs
  simp only [Value.cells, hL, h5, h4] at e0 e1
  obtain ⟨v0, v1, v2, v3, v4, v5, v6, v7, v8, rfl⟩ := len9 hl
  next =>
    simp at e0 e1
    obtain ⟨rfl, rfl, rfl, rfl, rfl⟩ := e0
    obtain ⟨rfl, rfl, rfl, rfl⟩ := e1
    rw [hcs]
set_option maxRecDepth 100000 in
/-- It reads so. -/
theorem shut_gate {a0 a1 a2 a3 a4 a5 a6 a7 a8 : Int} (w0 : (Lit.int .i64 a0).wf = true) (w1 : (Lit.int .i64 a1).wf = true) (w2 : (Lit.int .i64 a2).wf = true) (w3 : (Lit.int .i64 a3).wf = true) (w4 : (Lit.int .i64 a4).wf = true) (w5 : (Lit.int .i64 a5).wf = true) (w6 : (Lit.int .i64 a6).wf = true) (w7 : (Lit.int .i64 a7).wf = true) (w8 : (Lit.int .i64 a8).wf = true) :
    DataW.Trod enc Try.prog w base spare held 36 (.agg #[.int .i64 a0, .int .i64 a1, .int .i64 a2, .int .i64 a3, .int .i64 a4, .int .i64 a5, .int .i64 a6, .int .i64 a7, .int .i64 a8]) (.agg [.agg [.lit (.int .i64 a0), .lit (.int .i64 a1), .lit (.int .i64 a2), .lit (.int .i64 a3), .lit (.int .i64 a4)], .agg [.lit (.int .i64 a5), .lit (.int .i64 a6), .lit (.int .i64 a7), .lit (.int .i64 a8)]]) [] := by
  have hc : Try.prog.cellsOf 36 = 9 := by kernel_rfl
  have h5 : Try.prog.cellsOf 32 = 5 := by kernel_rfl
  have h4 : Try.prog.cellsOf 34 = 4 := by kernel_rfl
  have h1 : Try.prog.cellsOf 3 = 1 := by kernel_rfl
  have b0 : DataW.trod enc Try.prog w base spare held 2 32 [.int .i64 a0, .int .i64 a1, .int .i64 a2, .int .i64 a3, .int .i64 a4] = some (.agg [.lit (.int .i64 a0), .lit (.int .i64 a1), .lit (.int .i64 a2), .lit (.int .i64 a3), .lit (.int .i64 a4)], []) :=
    trod_struct_mk (xs := [(.lit (.int .i64 a0), []), (.lit (.int .i64 a1), []), (.lit (.int .i64 a2), []), (.lit (.int .i64 a3), []), (.lit (.int .i64 a4), [])]) Try.underlying32 (by rw [h5]; rfl) (by simp [h1, int_mk, w0, w1, w2, w3, w4])
  have b1 : DataW.trod enc Try.prog w base spare held 2 34 [.int .i64 a5, .int .i64 a6, .int .i64 a7, .int .i64 a8] = some (.agg [.lit (.int .i64 a5), .lit (.int .i64 a6), .lit (.int .i64 a7), .lit (.int .i64 a8)], []) :=
    trod_struct_mk (xs := [(.lit (.int .i64 a5), []), (.lit (.int .i64 a6), []), (.lit (.int .i64 a7), []), (.lit (.int .i64 a8), [])]) Try.underlying34 (by rw [h4]; rfl) (by simp [h1, int_mk, w5, w6, w7, w8])
  exact ⟨3, trod_struct2_mk (y0 := (_, [])) (y1 := (_, [])) Try.underlying36 (by rw [hc]; rfl) (by rw [h5]; exact b0) (by rw [h4]; exact b1)⟩
end
end Go.Proofs.Ytanhdljnbaojbaa.GateRow
