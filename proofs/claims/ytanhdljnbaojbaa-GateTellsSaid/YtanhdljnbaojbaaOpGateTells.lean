/- How each kind of value in this program is read. No condition. -/
import Derived.Test.YtanhdljnbaojbaaG0
import Derived.Test.YtanhdljnbaojbaaOpens
namespace Go.Proofs.Ytanhdljnbaojbaa.Op
open Go.ChangeShapes Go.WideShapes Go.ChangeAt Go.RowKit Go.Deep Go.Proofs.YtanhdljnbaojbaaW.PrintWords Go.Proofs.Ytanhdljnbaojbaa.G
set_option linter.unusedVariables false
structure S55 where
  f0 : Int
  f1 : Int
  f2 : Int
def k55 : Kd S55 := Kd.iso (Kd.pair (Kd.int .i64) (Kd.pair (Kd.int .i64) (Kd.int .i64))) (fun x : S55 => (x.f0, x.f1, x.f2))
theorem k55_open {w : World} {x : S55} {cs : List Value} (h : k55.K w x cs) : cs = [.int .i64 x.f0, .int .i64 x.f1, .int .i64 x.f2] := by
  obtain ⟨_, _, rfl, rfl, ⟨_, _, rfl, rfl, rfl⟩⟩ := h
  rfl
structure S57 where
  f0 : ByteArray
  f1 : S55
  f2 : Int
  f3 : Int
  f4 : Int
  f5 : Int
  f6 : Int
def k57 : Kd S57 := Kd.iso (Kd.pair Kd.string (Kd.pair k55 (Kd.pair (Kd.int .i64) (Kd.pair (Kd.int .i64) (Kd.pair (Kd.int .i64) (Kd.pair (Kd.int .i64) (Kd.int .i64))))))) (fun x : S57 => (x.f0, x.f1, x.f2, x.f3, x.f4, x.f5, x.f6))
theorem k57_open {w : World} {x : S57} {cs : List Value} (h : k57.K w x cs) : cs = [.string x.f0, .int .i64 x.f1.f0, .int .i64 x.f1.f1, .int .i64 x.f1.f2, .int .i64 x.f2, .int .i64 x.f3, .int .i64 x.f4, .int .i64 x.f5, .int .i64 x.f6] := by
  obtain ⟨_, _, rfl, rfl, ⟨_, _, rfl, ⟨_, _, rfl, rfl, ⟨_, _, rfl, rfl, rfl⟩⟩, ⟨_, _, rfl, rfl, ⟨_, _, rfl, rfl, ⟨_, _, rfl, rfl, ⟨_, _, rfl, rfl, rfl⟩⟩⟩⟩⟩⟩ := h
  rfl
def wf32 (x : S32) : Prop := ((Lit.int .i64 x.f0).wf = true) ∧ ((Lit.int .i64 x.f1).wf = true) ∧ ((Lit.int .i64 x.f2).wf = true) ∧ ((Lit.int .i64 x.f3).wf = true) ∧ ((Lit.int .i64 x.f4).wf = true)
theorem op32 (w : World) : Opens Try.prog w 32 k32 wf32 :=
  opens_struct (fun (y0, y1, y2, y3, y4) => (⟨y0, y1, y2, y3, y4⟩ : S32)) (fun _ => rfl) Try.underlying32 (by kernel_rfl) (l := [(0, 3), (1, 3), (2, 3), (3, 3), (4, 3)]) (by rfl) (opens_cons (opens_int Try.underlying3) (by kernel_rfl) (by kernel_rfl) (opens_cons (opens_int Try.underlying3) (by kernel_rfl) (by kernel_rfl) (opens_cons (opens_int Try.underlying3) (by kernel_rfl) (by kernel_rfl) (opens_cons (opens_int Try.underlying3) (by kernel_rfl) (by kernel_rfl) (opens_last (opens_int Try.underlying3) (by kernel_rfl))))))
def wf34 (x : S34) : Prop := ((Lit.int .i64 x.f0).wf = true) ∧ ((Lit.int .i64 x.f1).wf = true) ∧ ((Lit.int .i64 x.f2).wf = true) ∧ ((Lit.int .i64 x.f3).wf = true)
theorem op34 (w : World) : Opens Try.prog w 34 k34 wf34 :=
  opens_struct (fun (y0, y1, y2, y3) => (⟨y0, y1, y2, y3⟩ : S34)) (fun _ => rfl) Try.underlying34 (by kernel_rfl) (l := [(0, 3), (1, 3), (2, 3), (3, 3)]) (by rfl) (opens_cons (opens_int Try.underlying3) (by kernel_rfl) (by kernel_rfl) (opens_cons (opens_int Try.underlying3) (by kernel_rfl) (by kernel_rfl) (opens_cons (opens_int Try.underlying3) (by kernel_rfl) (by kernel_rfl) (opens_last (opens_int Try.underlying3) (by kernel_rfl)))))
def wf36 (x : S36) : Prop := (wf32 x.f0) ∧ (wf34 x.f1)
theorem op36 (w : World) : Opens Try.prog w 36 k36 wf36 :=
  opens_struct (fun (y0, y1) => (⟨y0, y1⟩ : S36)) (fun _ => rfl) Try.underlying36 (by kernel_rfl) (l := [(0, 32), (5, 34)]) (by rfl) (opens_cons (op32 w) (by kernel_rfl) (by kernel_rfl) (opens_last (op34 w) (by kernel_rfl)))
def wf41 (x : S41) : Prop := ((Lit.int .i64 x.f0).wf = true) ∧ ((Lit.int .i64 x.f1).wf = true)
theorem op41 (w : World) : Opens Try.prog w 41 k41 wf41 :=
  opens_struct (fun (y0, y1) => (⟨y0, y1⟩ : S41)) (fun _ => rfl) Try.underlying41 (by kernel_rfl) (l := [(0, 3), (1, 3)]) (by rfl) (opens_cons (opens_int Try.underlying3) (by kernel_rfl) (by kernel_rfl) (opens_last (opens_int Try.underlying3) (by kernel_rfl)))
def wf121 (x : S121) : Prop := ((Lit.int .i64 x.f0).wf = true) ∧ (x.f1.size ≤ maxLen) ∧ (x.f2.size ≤ maxLen)
theorem op121 (w : World) : Opens Try.prog w 121 k121 wf121 :=
  opens_struct (fun (y0, y1, y2) => (⟨y0, y1, y2⟩ : S121)) (fun _ => rfl) Try.underlying121 (by kernel_rfl) (l := [(0, 3), (1, 9), (2, 9)]) (by rfl) (opens_cons (opens_int Try.underlying3) (by kernel_rfl) (by kernel_rfl) (opens_cons (opens_string Try.underlying9) (by kernel_rfl) (by kernel_rfl) (opens_last (opens_string Try.underlying9) (by kernel_rfl))))
def wf72 (x : S72) : Prop := ((Lit.int .i64 x.f0).wf = true) ∧ ((Lit.int .i64 x.f1).wf = true) ∧ (x.f2.length ≤ maxLen ∧ ∀ x_ ∈ x.f2, (wf121 x_))
theorem op72 (w : World) : Opens Try.prog w 72 k72 wf72 :=
  opens_struct (fun (y0, y1, y2) => (⟨y0, y1, y2⟩ : S72)) (fun _ => rfl) Try.underlying72 (by kernel_rfl) (l := [(0, 3), (1, 3), (2, 70)]) (by rfl) (opens_cons (opens_int Try.underlying3) (by kernel_rfl) (by kernel_rfl) (opens_cons (opens_int Try.underlying3) (by kernel_rfl) (by kernel_rfl) (opens_last (opens_slice Try.underlying70 (op121 w) (by kernel_rfl)) (by kernel_rfl))))
def wf125 (x : S125) : Prop := (x.f0.size ≤ maxLen) ∧ (x.f1.size ≤ maxLen)
theorem op125 (w : World) : Opens Try.prog w 125 k125 wf125 :=
  opens_struct (fun (y0, y1) => (⟨y0, y1⟩ : S125)) (fun _ => rfl) Try.underlying125 (by kernel_rfl) (l := [(0, 9), (1, 9)]) (by rfl) (opens_cons (opens_string Try.underlying9) (by kernel_rfl) (by kernel_rfl) (opens_last (opens_string Try.underlying9) (by kernel_rfl)))
def wf55 (x : S55) : Prop := ((Lit.int .i64 x.f0).wf = true) ∧ ((Lit.int .i64 x.f1).wf = true) ∧ ((Lit.int .i64 x.f2).wf = true)
theorem op55 (w : World) : Opens Try.prog w 55 k55 wf55 :=
  opens_struct (fun (y0, y1, y2) => (⟨y0, y1, y2⟩ : S55)) (fun _ => rfl) Try.underlying55 (by kernel_rfl) (l := [(0, 3), (1, 3), (2, 3)]) (by rfl) (opens_cons (opens_int Try.underlying3) (by kernel_rfl) (by kernel_rfl) (opens_cons (opens_int Try.underlying3) (by kernel_rfl) (by kernel_rfl) (opens_last (opens_int Try.underlying3) (by kernel_rfl))))
def wf57 (x : S57) : Prop := (x.f0.size ≤ maxLen) ∧ (wf55 x.f1) ∧ ((Lit.int .i64 x.f2).wf = true) ∧ ((Lit.int .i64 x.f3).wf = true) ∧ ((Lit.int .i64 x.f4).wf = true) ∧ ((Lit.int .i64 x.f5).wf = true) ∧ ((Lit.int .i64 x.f6).wf = true)
theorem op57 (w : World) : Opens Try.prog w 57 k57 wf57 :=
  opens_struct (fun (y0, y1, y2, y3, y4, y5, y6) => (⟨y0, y1, y2, y3, y4, y5, y6⟩ : S57)) (fun _ => rfl) Try.underlying57 (by kernel_rfl) (l := [(0, 9), (1, 55), (4, 3), (5, 3), (6, 3), (7, 3), (8, 3)]) (by rfl) (opens_cons (opens_string Try.underlying9) (by kernel_rfl) (by kernel_rfl) (opens_cons (op55 w) (by kernel_rfl) (by kernel_rfl) (opens_cons (opens_int Try.underlying3) (by kernel_rfl) (by kernel_rfl) (opens_cons (opens_int Try.underlying3) (by kernel_rfl) (by kernel_rfl) (opens_cons (opens_int Try.underlying3) (by kernel_rfl) (by kernel_rfl) (opens_cons (opens_int Try.underlying3) (by kernel_rfl) (by kernel_rfl) (opens_last (opens_int Try.underlying3) (by kernel_rfl))))))))
end Go.Proofs.Ytanhdljnbaojbaa.Op
