/- Contracts of functions of the given program, and what they come to, for any arguments. No condition beyond each theorem's own premises. -/
import Derived.Test.YtkphinfijppkeaaXHushTellsM12
namespace Go.Proofs.Ytkphinfijppkeaa.G
open Go.RowKit Go.Proofs.YtkphinfijppkeaaW.PrintWords Go.Proofs.YtkphinfijppkeaaW.PrintLast Go.Proofs.YtkphinfijppkeaaW.PrintMore
attribute [local go_sem] max2_int min2_int max_two min_two max_three min_three max_four min_four
theorem row_C {α : Type} {d : Kd α} {e n c base : Nat} {A : Option Addr} {xs : List α} {S : Nat → Prop} {w0 w : World} {bs : List Fr.Blk} {rs : List Fr.Row} (hF : Fr.Frame w0 w bs rs) (hm : Fr.rowR d e base (.slice A n c) xs S ∈ rs) : xs.length ≤ c ∧ Kd.C d w A xs.length xs := by
  have h : d.R e w base S (.slice A n c) xs := hF.rowAt hm
  obtain ⟨A', c', e1, hc, hC⟩ := Kd.R_reads h
  injection e1 with e2 e3 e4
  subst e2 e4
  exact ⟨hc, hC⟩
theorem few14_R (k : Nat) (A0 : Option Addr) (c0 : Nat) (l0 : List S25) (r : List S25) (w : World) (hr0 : Kd.C k25 w A0 l0.length l0) (hc0 : l0.length ≤ c0) (h : foghornlaw14_few.f k l0 = some r) :
    Calls Try.prog 14 #[.slice A0 l0.length c0] w fun e w' => ∃ v, e = .returned v ∧ Kd.R k25 25 w' w.heap.size (fun _ => True) v r ∧ Below w.heap.size w w' :=
  (foghornlaw14_few.calls k A0 c0 l0 r w hr0 hc0 h).mono fun e w' ⟨v, he, hS, hb⟩ => ⟨v, he, Kd.S_R hS, hb⟩
theorem cut15_R (A2 : Option Addr) (c2 : Nat) (h : S25) (w : World) (hr : Kd.C k88 w A2 h.f2.length h.f2) (hc : h.f2.length ≤ c2) :
    Calls Try.prog 15 #[.agg #[.int .i64 h.f0, .int .i64 h.f1, .slice A2 h.f2.length c2]] w fun e w' => ∃ v, e = .returned (.agg #[.int .i64 (cutH h).f0, .int .i64 (cutH h).f1, v]) ∧ Kd.R k88 88 w' w.heap.size (fun _ => True) v (cutH h).f2 ∧ Below w.heap.size w w' :=
  foghornlaw14_cut.calls 30 h.f0 h.f1 A2 c2 h.f2 h.f0 h.f1 ((h.f2.take 6).map cutM) w hr hc (cut_is 30 (by omega) h.f0 h.f1 h.f2)
end Go.Proofs.Ytkphinfijppkeaa.G
