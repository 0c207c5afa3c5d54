/- How each kind of value in this program is read. No condition. -/
import Derived.Test.YtkphinfijppkeaaG0
import Derived.Test.YtkphinfijppkeaaOpens
namespace Go.Proofs.Ytkphinfijppkeaa.Op
open Go.ChangeShapes Go.WideShapes Go.ChangeAt Go.RowKit Go.Deep Go.Proofs.YtkphinfijppkeaaW.PrintWords Go.Proofs.Ytkphinfijppkeaa.G
set_option linter.unusedVariables false
def wf88 (x : S88) : Prop := ((Lit.int .i64 x.f0).wf = true) ∧ (x.f1.size ≤ maxLen) ∧ (x.f2.size ≤ maxLen)
theorem op88 (w : World) : Opens Try.prog w 88 k88 wf88 :=
  opens_struct (fun (y0, y1, y2) => (⟨y0, y1, y2⟩ : S88)) (fun _ => rfl) Try.underlying88 (by kernel_rfl) (l := [(0, 3), (1, 9), (2, 9)]) (by rfl) (opens_cons (opens_int Try.underlying3) (by kernel_rfl) (by kernel_rfl) (opens_cons (opens_string Try.underlying9) (by kernel_rfl) (by kernel_rfl) (opens_last (opens_string Try.underlying9) (by kernel_rfl))))
def wf25 (x : S25) : Prop := ((Lit.int .i64 x.f0).wf = true) ∧ ((Lit.int .i64 x.f1).wf = true) ∧ (x.f2.length ≤ maxLen ∧ ∀ x_ ∈ x.f2, (wf88 x_))
theorem op25 (w : World) : Opens Try.prog w 25 k25 wf25 :=
  opens_struct (fun (y0, y1, y2) => (⟨y0, y1, y2⟩ : S25)) (fun _ => rfl) Try.underlying25 (by kernel_rfl) (l := [(0, 3), (1, 3), (2, 23)]) (by rfl) (opens_cons (opens_int Try.underlying3) (by kernel_rfl) (by kernel_rfl) (opens_cons (opens_int Try.underlying3) (by kernel_rfl) (by kernel_rfl) (opens_last (opens_slice Try.underlying23 (op88 w) (by kernel_rfl)) (by kernel_rfl))))
def wf58 (x : S58) : Prop := (x.f0.length ≤ maxLen ∧ ∀ x_ ∈ x.f0, ((Lit.int .i64 x_).wf = true)) ∧ (x.f1.length ≤ maxLen ∧ ∀ x_ ∈ x.f1, (wf88 x_))
theorem op58 (w : World) : Opens Try.prog w 58 k58 wf58 :=
  opens_struct (fun (y0, y1) => (⟨y0, y1⟩ : S58)) (fun _ => rfl) Try.underlying58 (by kernel_rfl) (l := [(0, 56), (1, 23)]) (by rfl) (opens_cons (opens_slice Try.underlying56 (opens_int Try.underlying3) (by kernel_rfl)) (by kernel_rfl) (by kernel_rfl) (opens_last (opens_slice Try.underlying23 (op88 w) (by kernel_rfl)) (by kernel_rfl)))
def wf74 (x : S74) : Prop := ((Lit.int .i64 x.f0).wf = true) ∧ ((Lit.int .i64 x.f1).wf = true) ∧ ((Lit.int .i64 x.f2).wf = true)
theorem op74 (w : World) : Opens Try.prog w 74 k74 wf74 :=
  opens_struct (fun (y0, y1, y2) => (⟨y0, y1, y2⟩ : S74)) (fun _ => rfl) Try.underlying74 (by kernel_rfl) (l := [(0, 3), (1, 3), (2, 3)]) (by rfl) (opens_cons (opens_int Try.underlying3) (by kernel_rfl) (by kernel_rfl) (opens_cons (opens_int Try.underlying3) (by kernel_rfl) (by kernel_rfl) (opens_last (opens_int Try.underlying3) (by kernel_rfl))))
def wf76 (x : S76) : Prop := (x.f0.size ≤ maxLen) ∧ (wf74 x.f1) ∧ ((Lit.int .i64 x.f2).wf = true) ∧ ((Lit.int .i64 x.f3).wf = true) ∧ ((Lit.int .i64 x.f4).wf = true) ∧ ((Lit.int .i64 x.f5).wf = true) ∧ ((Lit.int .i64 x.f6).wf = true)
theorem op76 (w : World) : Opens Try.prog w 76 k76 wf76 :=
  opens_struct (fun (y0, y1, y2, y3, y4, y5, y6) => (⟨y0, y1, y2, y3, y4, y5, y6⟩ : S76)) (fun _ => rfl) Try.underlying76 (by kernel_rfl) (l := [(0, 9), (1, 74), (4, 3), (5, 3), (6, 3), (7, 3), (8, 3)]) (by rfl) (opens_cons (opens_string Try.underlying9) (by kernel_rfl) (by kernel_rfl) (opens_cons (op74 w) (by kernel_rfl) (by kernel_rfl) (opens_cons (opens_int Try.underlying3) (by kernel_rfl) (by kernel_rfl) (opens_cons (opens_int Try.underlying3) (by kernel_rfl) (by kernel_rfl) (opens_cons (opens_int Try.underlying3) (by kernel_rfl) (by kernel_rfl) (opens_cons (opens_int Try.underlying3) (by kernel_rfl) (by kernel_rfl) (opens_last (opens_int Try.underlying3) (by kernel_rfl))))))))
def wf92 (x : S92) : Prop := (x.f0.size ≤ maxLen) ∧ (x.f1.size ≤ maxLen)
theorem op92 (w : World) : Opens Try.prog w 92 k92 wf92 :=
  opens_struct (fun (y0, y1) => (⟨y0, y1⟩ : S92)) (fun _ => rfl) Try.underlying92 (by kernel_rfl) (l := [(0, 9), (1, 9)]) (by rfl) (opens_cons (opens_string Try.underlying9) (by kernel_rfl) (by kernel_rfl) (opens_last (opens_string Try.underlying9) (by kernel_rfl)))
end Go.Proofs.Ytkphinfijppkeaa.Op
