/- How each kind of value in this program is read. No condition. -/
import Derived.Test.YtkkopknlhijgiaaG0
import Derived.Test.YtkkopknlhijgiaaOpens
namespace Go.Proofs.Ytkkopknlhijgiaa.Op
open Go.ChangeShapes Go.WideShapes Go.ChangeAt Go.RowKit Go.Deep Go.Proofs.YtkkopknlhijgiaaW.PrintWords Go.Proofs.Ytkkopknlhijgiaa.G
set_option linter.unusedVariables false
def wf51 (x : S51) : Prop := ((Lit.int .i64 x.f0).wf = true) ∧ ((Lit.int .i64 x.f1).wf = true) ∧ (x.f2.size ≤ maxLen) ∧ True
theorem op51 (w : World) : Opens Try.prog w 51 k51 wf51 :=
  opens_struct (fun (y0, y1, y2, y3) => (⟨y0, y1, y2, y3⟩ : S51)) (fun _ => rfl) Try.underlying51 (by kernel_rfl) (l := [(0, 3), (1, 3), (2, 9), (3, 4)]) (by rfl) (opens_cons (opens_int Try.underlying3) (by kernel_rfl) (by kernel_rfl) (opens_cons (opens_int Try.underlying3) (by kernel_rfl) (by kernel_rfl) (opens_cons (opens_string Try.underlying9) (by kernel_rfl) (by kernel_rfl) (opens_last (opens_bool Try.underlying4) (by kernel_rfl)))))
end Go.Proofs.Ytkkopknlhijgiaa.Op
