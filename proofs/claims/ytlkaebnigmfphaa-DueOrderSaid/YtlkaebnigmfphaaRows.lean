/-
  No cell of these rows narrows 'for every input' (looked for: loops, veiled, ifaces, maps, wideKeys, modest, calm, conditions, laid).
  DERIVED. THE GIVEN ROWS OF THIS SEAT. 3 by the template 'for every input the law returns true; each argument reads behind the call as it read before'; 0 by the template 'total and deterministic' (their statements: YtlkaebnigmfphaaTotals.lean).
  GIVEN WITH THE SEED: the statements are not yours to turn. If you find one false, say at which input.
  Laid BY PROGRAM, IN A SANDBOX (cutbox-rows.mjs): the forced cells as the released guide's own fill.sh prints them over the translation 5df4f11d7958494a… (all of the seat's roots in one cut). By AI agents, Wed Nov 11 2026. No macro, syntax, notation, axiom, sorry.
-/
import Derived.Test.YtlkaebnigmfphaaChecked
import GoSem.Claim
import GoSem.ClaimJoined
import GoSem.ClaimMapViews
import Derived.JoinedTies
import Derived.KernelRfl
namespace Go.Proofs.Ytlkaebnigmfphaa
/- THE CELL 'sum', in the pinned program and in every row, IS THE sha256 OF THE DUMP (.gsa) THAT YtlkaebnigmfphaaProg.lean LOADS. Nothing in Lean hashes anything: it is a label: what it is worth is what the hold of that sum in a sandbox is worth. -/
noncomputable def Try.pinned : Pinned := { name := "ytlkaebnigmfphaa", sum := "5df4f11d7958494a6213169f1f5e61df043956e694d279bfd158d6230d1e048f", checked := Try.checked }
namespace Rows
def none {H : Type} : Left H := { results := [], args := [] }

/-- 'foghornlaw09.DueDrains': WHATEVER THE INPUT: true; the input reads as it did. -/
def dueDrainsSpec : ChangeSpec := { name := "dueDrains", fn := fun _ => fun
  | [d1, d2, d3] => { results := [.lit (.bool true)], args := [d1, d2, d3] }
  | _ => none }
def dueDrainsRow : OpenClaim := { program := "ytlkaebnigmfphaa", sum := "5df4f11d7958494a6213169f1f5e61df043956e694d279bfd158d6230d1e048f", func := "foghorn/foghornlaw09.DueDrains", spec := "dueDrains", unfollowed := true, recurses := true, apart := false }
def DueDrainsSaid : Prop := dueDrainsRow.holds Try.pinned (OpenSpec.ofChange dueDrainsSpec)

/-- ITS FALSE NEIGHBOUR: 'it returns false'. Refute it at one input. -/
def dueDrainsWrong : ChangeSpec := { name := "dueDrains", fn := fun _ => fun
  | [d1, d2, d3] => { results := [.lit (.bool false)], args := [d1, d2, d3] }
  | _ => none }
def DueDrainsWrongFalsely : Prop := dueDrainsRow.holds Try.pinned (OpenSpec.ofChange dueDrainsWrong)

/-- 'foghornlaw09.DueTells': WHATEVER THE INPUT: true; the input reads as it did. -/
def dueTellsSpec : ChangeSpec := { name := "dueTells", fn := fun _ => fun
  | [d1, d2, d3] => { results := [.lit (.bool true)], args := [d1, d2, d3] }
  | _ => none }
def dueTellsRow : OpenClaim := { program := "ytlkaebnigmfphaa", sum := "5df4f11d7958494a6213169f1f5e61df043956e694d279bfd158d6230d1e048f", func := "foghorn/foghornlaw09.DueTells", spec := "dueTells", unfollowed := true, recurses := true, apart := false }
def DueTellsSaid : Prop := dueTellsRow.holds Try.pinned (OpenSpec.ofChange dueTellsSpec)

/-- ITS FALSE NEIGHBOUR: 'it returns false'. Refute it at one input. -/
def dueTellsWrong : ChangeSpec := { name := "dueTells", fn := fun _ => fun
  | [d1, d2, d3] => { results := [.lit (.bool false)], args := [d1, d2, d3] }
  | _ => none }
def DueTellsWrongFalsely : Prop := dueTellsRow.holds Try.pinned (OpenSpec.ofChange dueTellsWrong)

/-- 'foghornlaw09.DueOrder': WHATEVER THE INPUT: true; the input reads as it did. -/
def dueOrderSpec : ChangeSpec := { name := "dueOrder", fn := fun _ => fun
  | [d1, d2] => { results := [.lit (.bool true)], args := [d1, d2] }
  | _ => none }
def dueOrderRow : OpenClaim := { program := "ytlkaebnigmfphaa", sum := "5df4f11d7958494a6213169f1f5e61df043956e694d279bfd158d6230d1e048f", func := "foghorn/foghornlaw09.DueOrder", spec := "dueOrder", unfollowed := true, recurses := true, apart := false }
def DueOrderSaid : Prop := dueOrderRow.holds Try.pinned (OpenSpec.ofChange dueOrderSpec)

/-- ITS FALSE NEIGHBOUR: 'it returns false'. Refute it at one input. -/
def dueOrderWrong : ChangeSpec := { name := "dueOrder", fn := fun _ => fun
  | [d1, d2] => { results := [.lit (.bool false)], args := [d1, d2] }
  | _ => none }
def DueOrderWrongFalsely : Prop := dueOrderRow.holds Try.pinned (OpenSpec.ofChange dueOrderWrong)

/- THE SECOND FORM. 'bulk': how many values and letters a reading holds, each counted each time it is reached (what is shared counts as often as it is met; a slice's spare places count too). A statement '..UptoSaid' is the law's where the arguments, and the package variables that the reading takes, are together of bulk at most 1048576: NARROWER than '..Said'. Prove '..Said' where nothing that the law and all that it calls make is longer than what came in: it says more and counts as full. Else prove '..UptoSaid'. A law counts once. -/
mutual
def uptoBulk {H : Type} : DataW H → Nat
  | .lit (.string bytes) => bytes.length + 1
  | .lit _ => 1
  | .nil => 1
  | .ptr d => uptoBulk d + 1
  | .slice elems spare => uptoBulkAll elems + uptoBulkAll spare + 1
  | .agg parts => uptoBulkAll parts + 1
  | .iface _ d => uptoBulk d + 1
  | .map entries => uptoBulkEntries entries + 1
  | .held _ => 1
def uptoBulkAll {H : Type} : List (DataW H) → Nat
  | [] => 0
  | d :: r => uptoBulk d + uptoBulkAll r
def uptoBulkEntries {H : Type} : List (Lit × DataW H) → Nat
  | [] => 0
  | x :: r => uptoBulkEntry x + uptoBulkEntries r
def uptoBulkEntry {H : Type} : Lit × DataW H → Nat
  | (.string bytes, d) => bytes.length + uptoBulk d + 1
  | (_, d) => uptoBulk d + 1
 end
def uptoSmall : (H : Type) → List (DataW H) → Bool := fun _ ds => decide (uptoBulkAll ds ≤ 1048576)
def OpenSpec.upto (s : _root_.Go.ChangeSpec) : _root_.Go.OpenSpec := { _root_.Go.OpenSpec.ofChange s with cond := some uptoSmall }

/-- 'foghornlaw09.DueDrains', WHERE WHAT IT READS IS OF BULK AT MOST 1048576: true; the input reads as it did. -/
def dueDrainsUptoRow : OpenClaim := { program := "ytlkaebnigmfphaa", sum := "5df4f11d7958494a6213169f1f5e61df043956e694d279bfd158d6230d1e048f", func := "foghorn/foghornlaw09.DueDrains", spec := "dueDrains", unfollowed := true, recurses := true, apart := false, narrowed := true }
def DueDrainsUptoSaid : Prop := dueDrainsUptoRow.holds Try.pinned (OpenSpec.upto dueDrainsSpec)

/-- 'foghornlaw09.DueTells', WHERE WHAT IT READS IS OF BULK AT MOST 1048576: true; the input reads as it did. -/
def dueTellsUptoRow : OpenClaim := { program := "ytlkaebnigmfphaa", sum := "5df4f11d7958494a6213169f1f5e61df043956e694d279bfd158d6230d1e048f", func := "foghorn/foghornlaw09.DueTells", spec := "dueTells", unfollowed := true, recurses := true, apart := false, narrowed := true }
def DueTellsUptoSaid : Prop := dueTellsUptoRow.holds Try.pinned (OpenSpec.upto dueTellsSpec)

/-- 'foghornlaw09.DueOrder', WHERE WHAT IT READS IS OF BULK AT MOST 1048576: true; the input reads as it did. -/
def dueOrderUptoRow : OpenClaim := { program := "ytlkaebnigmfphaa", sum := "5df4f11d7958494a6213169f1f5e61df043956e694d279bfd158d6230d1e048f", func := "foghorn/foghornlaw09.DueOrder", spec := "dueOrder", unfollowed := true, recurses := true, apart := false, narrowed := true }
def DueOrderUptoSaid : Prop := dueOrderUptoRow.holds Try.pinned (OpenSpec.upto dueOrderSpec)

end Rows
end Go.Proofs.Ytlkaebnigmfphaa
