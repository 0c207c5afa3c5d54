/-
  No cell of these rows narrows 'for every input' (looked for: loops, veiled, ifaces, maps, wideKeys, modest, calm, conditions, laid).
  DERIVED. THE GIVEN ROWS OF THIS SEAT. 10 by the template 'for every input the law returns true; each argument reads behind the call as it read before'; 0 by the template 'total and deterministic' (their statements: YtanhdljnbaojbaaTotals.lean).
  GIVEN WITH THE SEED: the statements are not yours to turn. If you find one false, say at which input.
  Laid BY PROGRAM, IN A SANDBOX (cutbox-rows.mjs): the forced cells as the released guide's own fill.sh prints them over the translation bc8a28f2657b9ccf… (all of the seat's roots in one cut). By AI agents, Wed Nov 11 2026. No macro, syntax, notation, axiom, sorry.
-/
import Derived.Test.YtanhdljnbaojbaaChecked
import GoSem.Claim
import GoSem.ClaimJoined
import GoSem.ClaimMapViews
import Derived.JoinedTies
import Derived.KernelRfl
namespace Go.Proofs.Ytanhdljnbaojbaa
/- THE CELL 'sum', in the pinned program and in every row, IS THE sha256 OF THE DUMP (.gsa) THAT YtanhdljnbaojbaaProg.lean LOADS. Nothing in Lean hashes anything: it is a label: what it is worth is what the hold of that sum in a sandbox is worth. -/
noncomputable def Try.pinned : Pinned := { name := "ytanhdljnbaojbaa", sum := "bc8a28f2657b9ccf8c0fab831bdbc4b1b03afb0c36b9d514feb43dc9bb05f741", checked := Try.checked }
namespace Rows
def none {H : Type} : Left H := { results := [], args := [] }

/-- 'foghornlaw09.DueDrains': WHATEVER THE INPUT: true; the input reads as it did. -/
def dueDrainsSpec : ChangeSpec := { name := "dueDrains", fn := fun _ => fun
  | [d1, d2, d3] => { results := [.lit (.bool true)], args := [d1, d2, d3] }
  | _ => none }
def dueDrainsRow : OpenClaim := { program := "ytanhdljnbaojbaa", sum := "bc8a28f2657b9ccf8c0fab831bdbc4b1b03afb0c36b9d514feb43dc9bb05f741", func := "foghorn/foghornlaw09.DueDrains", spec := "dueDrains", unfollowed := true, recurses := true, apart := false }
def DueDrainsSaid : Prop := dueDrainsRow.holds Try.pinned (OpenSpec.ofChange dueDrainsSpec)

/-- ITS FALSE NEIGHBOUR: 'it returns false'. Refute it at one input. -/
def dueDrainsWrong : ChangeSpec := { name := "dueDrains", fn := fun _ => fun
  | [d1, d2, d3] => { results := [.lit (.bool false)], args := [d1, d2, d3] }
  | _ => none }
def DueDrainsWrongFalsely : Prop := dueDrainsRow.holds Try.pinned (OpenSpec.ofChange dueDrainsWrong)

/-- 'foghornlaw19.GateStill': WHATEVER THE INPUT: true; the input reads as it did. -/
def gateStillSpec : ChangeSpec := { name := "gateStill", fn := fun _ => fun
  | [d1, d2, d3] => { results := [.lit (.bool true)], args := [d1, d2, d3] }
  | _ => none }
def gateStillRow : OpenClaim := { program := "ytanhdljnbaojbaa", sum := "bc8a28f2657b9ccf8c0fab831bdbc4b1b03afb0c36b9d514feb43dc9bb05f741", func := "foghorn/foghornlaw19.GateStill", spec := "gateStill", unfollowed := true, recurses := true, apart := false }
def GateStillSaid : Prop := gateStillRow.holds Try.pinned (OpenSpec.ofChange gateStillSpec)

/-- ITS FALSE NEIGHBOUR: 'it returns false'. Refute it at one input. -/
def gateStillWrong : ChangeSpec := { name := "gateStill", fn := fun _ => fun
  | [d1, d2, d3] => { results := [.lit (.bool false)], args := [d1, d2, d3] }
  | _ => none }
def GateStillWrongFalsely : Prop := gateStillRow.holds Try.pinned (OpenSpec.ofChange gateStillWrong)

/-- 'foghornlaw09.DueTells': WHATEVER THE INPUT: true; the input reads as it did. -/
def dueTellsSpec : ChangeSpec := { name := "dueTells", fn := fun _ => fun
  | [d1, d2, d3] => { results := [.lit (.bool true)], args := [d1, d2, d3] }
  | _ => none }
def dueTellsRow : OpenClaim := { program := "ytanhdljnbaojbaa", sum := "bc8a28f2657b9ccf8c0fab831bdbc4b1b03afb0c36b9d514feb43dc9bb05f741", func := "foghorn/foghornlaw09.DueTells", spec := "dueTells", unfollowed := true, recurses := true, apart := false }
def DueTellsSaid : Prop := dueTellsRow.holds Try.pinned (OpenSpec.ofChange dueTellsSpec)

/-- ITS FALSE NEIGHBOUR: 'it returns false'. Refute it at one input. -/
def dueTellsWrong : ChangeSpec := { name := "dueTells", fn := fun _ => fun
  | [d1, d2, d3] => { results := [.lit (.bool false)], args := [d1, d2, d3] }
  | _ => none }
def DueTellsWrongFalsely : Prop := dueTellsRow.holds Try.pinned (OpenSpec.ofChange dueTellsWrong)

/-- 'foghornlaw09.DueOrder': WHATEVER THE INPUT: true; the input reads as it did. -/
def dueOrderSpec : ChangeSpec := { name := "dueOrder", fn := fun _ => fun
  | [d1, d2] => { results := [.lit (.bool true)], args := [d1, d2] }
  | _ => none }
def dueOrderRow : OpenClaim := { program := "ytanhdljnbaojbaa", sum := "bc8a28f2657b9ccf8c0fab831bdbc4b1b03afb0c36b9d514feb43dc9bb05f741", func := "foghorn/foghornlaw09.DueOrder", spec := "dueOrder", unfollowed := true, recurses := true, apart := false }
def DueOrderSaid : Prop := dueOrderRow.holds Try.pinned (OpenSpec.ofChange dueOrderSpec)

/-- ITS FALSE NEIGHBOUR: 'it returns false'. Refute it at one input. -/
def dueOrderWrong : ChangeSpec := { name := "dueOrder", fn := fun _ => fun
  | [d1, d2] => { results := [.lit (.bool false)], args := [d1, d2] }
  | _ => none }
def DueOrderWrongFalsely : Prop := dueOrderRow.holds Try.pinned (OpenSpec.ofChange dueOrderWrong)

/-- 'foghornlaw19.GateTells': WHATEVER THE INPUT: true; the input reads as it did. -/
def gateTellsSpec : ChangeSpec := { name := "gateTells", fn := fun _ => fun
  | [d1, d2, d3, d4] => { results := [.lit (.bool true)], args := [d1, d2, d3, d4] }
  | _ => none }
def gateTellsRow : OpenClaim := { program := "ytanhdljnbaojbaa", sum := "bc8a28f2657b9ccf8c0fab831bdbc4b1b03afb0c36b9d514feb43dc9bb05f741", func := "foghorn/foghornlaw19.GateTells", spec := "gateTells", unfollowed := true, recurses := true, apart := false }
def GateTellsSaid : Prop := gateTellsRow.holds Try.pinned (OpenSpec.ofChange gateTellsSpec)

/-- ITS FALSE NEIGHBOUR: 'it returns false'. Refute it at one input. -/
def gateTellsWrong : ChangeSpec := { name := "gateTells", fn := fun _ => fun
  | [d1, d2, d3, d4] => { results := [.lit (.bool false)], args := [d1, d2, d3, d4] }
  | _ => none }
def GateTellsWrongFalsely : Prop := gateTellsRow.holds Try.pinned (OpenSpec.ofChange gateTellsWrong)

/-- 'foghornlaw19.GateBounds': WHATEVER THE INPUT: true; the input reads as it did. -/
def gateBoundsSpec : ChangeSpec := { name := "gateBounds", fn := fun _ => fun
  | [d1, d2, d3, d4, d5] => { results := [.lit (.bool true)], args := [d1, d2, d3, d4, d5] }
  | _ => none }
def gateBoundsRow : OpenClaim := { program := "ytanhdljnbaojbaa", sum := "bc8a28f2657b9ccf8c0fab831bdbc4b1b03afb0c36b9d514feb43dc9bb05f741", func := "foghorn/foghornlaw19.GateBounds", spec := "gateBounds", unfollowed := true, recurses := true, apart := false }
def GateBoundsSaid : Prop := gateBoundsRow.holds Try.pinned (OpenSpec.ofChange gateBoundsSpec)

/-- ITS FALSE NEIGHBOUR: 'it returns false'. Refute it at one input. -/
def gateBoundsWrong : ChangeSpec := { name := "gateBounds", fn := fun _ => fun
  | [d1, d2, d3, d4, d5] => { results := [.lit (.bool false)], args := [d1, d2, d3, d4, d5] }
  | _ => none }
def GateBoundsWrongFalsely : Prop := gateBoundsRow.holds Try.pinned (OpenSpec.ofChange gateBoundsWrong)

/-- 'foghornlaw14.HushTells': WHATEVER THE INPUT: true; the input reads as it did. -/
def hushTellsSpec : ChangeSpec := { name := "hushTells", fn := fun _ => fun
  | [d1, d2, d3, d4] => { results := [.lit (.bool true)], args := [d1, d2, d3, d4] }
  | _ => none }
def hushTellsRow : OpenClaim := { program := "ytanhdljnbaojbaa", sum := "bc8a28f2657b9ccf8c0fab831bdbc4b1b03afb0c36b9d514feb43dc9bb05f741", func := "foghorn/foghornlaw14.HushTells", spec := "hushTells", unfollowed := true, recurses := true, apart := false }
def HushTellsSaid : Prop := hushTellsRow.holds Try.pinned (OpenSpec.ofChange hushTellsSpec)

/-- ITS FALSE NEIGHBOUR: 'it returns false'. Refute it at one input. -/
def hushTellsWrong : ChangeSpec := { name := "hushTells", fn := fun _ => fun
  | [d1, d2, d3, d4] => { results := [.lit (.bool false)], args := [d1, d2, d3, d4] }
  | _ => none }
def HushTellsWrongFalsely : Prop := hushTellsRow.holds Try.pinned (OpenSpec.ofChange hushTellsWrong)

/-- 'foghornlaw14.HushFrees': WHATEVER THE INPUT: true; the input reads as it did. -/
def hushFreesSpec : ChangeSpec := { name := "hushFrees", fn := fun _ => fun
  | [d1, d2, d3, d4] => { results := [.lit (.bool true)], args := [d1, d2, d3, d4] }
  | _ => none }
def hushFreesRow : OpenClaim := { program := "ytanhdljnbaojbaa", sum := "bc8a28f2657b9ccf8c0fab831bdbc4b1b03afb0c36b9d514feb43dc9bb05f741", func := "foghorn/foghornlaw14.HushFrees", spec := "hushFrees", unfollowed := true, recurses := true, apart := false }
def HushFreesSaid : Prop := hushFreesRow.holds Try.pinned (OpenSpec.ofChange hushFreesSpec)

/-- ITS FALSE NEIGHBOUR: 'it returns false'. Refute it at one input. -/
def hushFreesWrong : ChangeSpec := { name := "hushFrees", fn := fun _ => fun
  | [d1, d2, d3, d4] => { results := [.lit (.bool false)], args := [d1, d2, d3, d4] }
  | _ => none }
def HushFreesWrongFalsely : Prop := hushFreesRow.holds Try.pinned (OpenSpec.ofChange hushFreesWrong)

/-- 'foghornlaw14.HushAdds': WHATEVER THE INPUT: true; the input reads as it did. -/
def hushAddsSpec : ChangeSpec := { name := "hushAdds", fn := fun _ => fun
  | [d1, d2, d3, d4, d5] => { results := [.lit (.bool true)], args := [d1, d2, d3, d4, d5] }
  | _ => none }
def hushAddsRow : OpenClaim := { program := "ytanhdljnbaojbaa", sum := "bc8a28f2657b9ccf8c0fab831bdbc4b1b03afb0c36b9d514feb43dc9bb05f741", func := "foghorn/foghornlaw14.HushAdds", spec := "hushAdds", unfollowed := true, recurses := true, apart := false }
def HushAddsSaid : Prop := hushAddsRow.holds Try.pinned (OpenSpec.ofChange hushAddsSpec)

/-- ITS FALSE NEIGHBOUR: 'it returns false'. Refute it at one input. -/
def hushAddsWrong : ChangeSpec := { name := "hushAdds", fn := fun _ => fun
  | [d1, d2, d3, d4, d5] => { results := [.lit (.bool false)], args := [d1, d2, d3, d4, d5] }
  | _ => none }
def HushAddsWrongFalsely : Prop := hushAddsRow.holds Try.pinned (OpenSpec.ofChange hushAddsWrong)

/-- 'foghornlaw14.HushTurns': WHATEVER THE INPUT: true; the input reads as it did. -/
def hushTurnsSpec : ChangeSpec := { name := "hushTurns", fn := fun _ => fun
  | [d1, d2, d3, d4] => { results := [.lit (.bool true)], args := [d1, d2, d3, d4] }
  | _ => none }
def hushTurnsRow : OpenClaim := { program := "ytanhdljnbaojbaa", sum := "bc8a28f2657b9ccf8c0fab831bdbc4b1b03afb0c36b9d514feb43dc9bb05f741", func := "foghorn/foghornlaw14.HushTurns", spec := "hushTurns", unfollowed := true, recurses := true, apart := false }
def HushTurnsSaid : Prop := hushTurnsRow.holds Try.pinned (OpenSpec.ofChange hushTurnsSpec)

/-- ITS FALSE NEIGHBOUR: 'it returns false'. Refute it at one input. -/
def hushTurnsWrong : ChangeSpec := { name := "hushTurns", fn := fun _ => fun
  | [d1, d2, d3, d4] => { results := [.lit (.bool false)], args := [d1, d2, d3, d4] }
  | _ => none }
def HushTurnsWrongFalsely : Prop := hushTurnsRow.holds Try.pinned (OpenSpec.ofChange hushTurnsWrong)

/- THE SECOND FORM. 'bulk': how many values and letters a reading holds, each counted each time it is reached (what is shared counts as often as it is met; a slice's spare places count too). A statement '..UptoSaid' is the law's where the arguments, and the package variables that the reading takes, are together of bulk at most 1048576: NARROWER than '..Said'. Prove '..Said' where nothing that the law and all that it calls make is longer than what came in: it says more and counts as full. Else prove '..UptoSaid'. A law counts once. -/
mutual
def uptoBulk {H : Type} : DataW H → Nat
  | .lit (.string bytes) => bytes.length + 1
  | .lit _ => 1
  | .nil => 1
  | .ptr d => uptoBulk d + 1
  | .slice elems spare => uptoBulkAll elems + uptoBulkAll spare + 1
  | .agg parts => uptoBulkAll parts + 1
  | .iface _ d => uptoBulk d + 1
  | .map entries => uptoBulkEntries entries + 1
  | .held _ => 1
def uptoBulkAll {H : Type} : List (DataW H) → Nat
  | [] => 0
  | d :: r => uptoBulk d + uptoBulkAll r
def uptoBulkEntries {H : Type} : List (Lit × DataW H) → Nat
  | [] => 0
  | x :: r => uptoBulkEntry x + uptoBulkEntries r
def uptoBulkEntry {H : Type} : Lit × DataW H → Nat
  | (.string bytes, d) => bytes.length + uptoBulk d + 1
  | (_, d) => uptoBulk d + 1
 end
def uptoSmall : (H : Type) → List (DataW H) → Bool := fun _ ds => decide (uptoBulkAll ds ≤ 1048576)
def OpenSpec.upto (s : _root_.Go.ChangeSpec) : _root_.Go.OpenSpec := { _root_.Go.OpenSpec.ofChange s with cond := some uptoSmall }

/-- 'foghornlaw09.DueDrains', WHERE WHAT IT READS IS OF BULK AT MOST 1048576: true; the input reads as it did. -/
def dueDrainsUptoRow : OpenClaim := { program := "ytanhdljnbaojbaa", sum := "bc8a28f2657b9ccf8c0fab831bdbc4b1b03afb0c36b9d514feb43dc9bb05f741", func := "foghorn/foghornlaw09.DueDrains", spec := "dueDrains", unfollowed := true, recurses := true, apart := false, narrowed := true }
def DueDrainsUptoSaid : Prop := dueDrainsUptoRow.holds Try.pinned (OpenSpec.upto dueDrainsSpec)

/-- 'foghornlaw19.GateStill', WHERE WHAT IT READS IS OF BULK AT MOST 1048576: true; the input reads as it did. -/
def gateStillUptoRow : OpenClaim := { program := "ytanhdljnbaojbaa", sum := "bc8a28f2657b9ccf8c0fab831bdbc4b1b03afb0c36b9d514feb43dc9bb05f741", func := "foghorn/foghornlaw19.GateStill", spec := "gateStill", unfollowed := true, recurses := true, apart := false, narrowed := true }
def GateStillUptoSaid : Prop := gateStillUptoRow.holds Try.pinned (OpenSpec.upto gateStillSpec)

/-- 'foghornlaw09.DueTells', WHERE WHAT IT READS IS OF BULK AT MOST 1048576: true; the input reads as it did. -/
def dueTellsUptoRow : OpenClaim := { program := "ytanhdljnbaojbaa", sum := "bc8a28f2657b9ccf8c0fab831bdbc4b1b03afb0c36b9d514feb43dc9bb05f741", func := "foghorn/foghornlaw09.DueTells", spec := "dueTells", unfollowed := true, recurses := true, apart := false, narrowed := true }
def DueTellsUptoSaid : Prop := dueTellsUptoRow.holds Try.pinned (OpenSpec.upto dueTellsSpec)

/-- 'foghornlaw09.DueOrder', WHERE WHAT IT READS IS OF BULK AT MOST 1048576: true; the input reads as it did. -/
def dueOrderUptoRow : OpenClaim := { program := "ytanhdljnbaojbaa", sum := "bc8a28f2657b9ccf8c0fab831bdbc4b1b03afb0c36b9d514feb43dc9bb05f741", func := "foghorn/foghornlaw09.DueOrder", spec := "dueOrder", unfollowed := true, recurses := true, apart := false, narrowed := true }
def DueOrderUptoSaid : Prop := dueOrderUptoRow.holds Try.pinned (OpenSpec.upto dueOrderSpec)

/-- 'foghornlaw19.GateTells', WHERE WHAT IT READS IS OF BULK AT MOST 1048576: true; the input reads as it did. -/
def gateTellsUptoRow : OpenClaim := { program := "ytanhdljnbaojbaa", sum := "bc8a28f2657b9ccf8c0fab831bdbc4b1b03afb0c36b9d514feb43dc9bb05f741", func := "foghorn/foghornlaw19.GateTells", spec := "gateTells", unfollowed := true, recurses := true, apart := false, narrowed := true }
def GateTellsUptoSaid : Prop := gateTellsUptoRow.holds Try.pinned (OpenSpec.upto gateTellsSpec)

/-- 'foghornlaw19.GateBounds', WHERE WHAT IT READS IS OF BULK AT MOST 1048576: true; the input reads as it did. -/
def gateBoundsUptoRow : OpenClaim := { program := "ytanhdljnbaojbaa", sum := "bc8a28f2657b9ccf8c0fab831bdbc4b1b03afb0c36b9d514feb43dc9bb05f741", func := "foghorn/foghornlaw19.GateBounds", spec := "gateBounds", unfollowed := true, recurses := true, apart := false, narrowed := true }
def GateBoundsUptoSaid : Prop := gateBoundsUptoRow.holds Try.pinned (OpenSpec.upto gateBoundsSpec)

/-- 'foghornlaw14.HushTells', WHERE WHAT IT READS IS OF BULK AT MOST 1048576: true; the input reads as it did. -/
def hushTellsUptoRow : OpenClaim := { program := "ytanhdljnbaojbaa", sum := "bc8a28f2657b9ccf8c0fab831bdbc4b1b03afb0c36b9d514feb43dc9bb05f741", func := "foghorn/foghornlaw14.HushTells", spec := "hushTells", unfollowed := true, recurses := true, apart := false, narrowed := true }
def HushTellsUptoSaid : Prop := hushTellsUptoRow.holds Try.pinned (OpenSpec.upto hushTellsSpec)

/-- 'foghornlaw14.HushFrees', WHERE WHAT IT READS IS OF BULK AT MOST 1048576: true; the input reads as it did. -/
def hushFreesUptoRow : OpenClaim := { program := "ytanhdljnbaojbaa", sum := "bc8a28f2657b9ccf8c0fab831bdbc4b1b03afb0c36b9d514feb43dc9bb05f741", func := "foghorn/foghornlaw14.HushFrees", spec := "hushFrees", unfollowed := true, recurses := true, apart := false, narrowed := true }
def HushFreesUptoSaid : Prop := hushFreesUptoRow.holds Try.pinned (OpenSpec.upto hushFreesSpec)

/-- 'foghornlaw14.HushAdds', WHERE WHAT IT READS IS OF BULK AT MOST 1048576: true; the input reads as it did. -/
def hushAddsUptoRow : OpenClaim := { program := "ytanhdljnbaojbaa", sum := "bc8a28f2657b9ccf8c0fab831bdbc4b1b03afb0c36b9d514feb43dc9bb05f741", func := "foghorn/foghornlaw14.HushAdds", spec := "hushAdds", unfollowed := true, recurses := true, apart := false, narrowed := true }
def HushAddsUptoSaid : Prop := hushAddsUptoRow.holds Try.pinned (OpenSpec.upto hushAddsSpec)

/-- 'foghornlaw14.HushTurns', WHERE WHAT IT READS IS OF BULK AT MOST 1048576: true; the input reads as it did. -/
def hushTurnsUptoRow : OpenClaim := { program := "ytanhdljnbaojbaa", sum := "bc8a28f2657b9ccf8c0fab831bdbc4b1b03afb0c36b9d514feb43dc9bb05f741", func := "foghorn/foghornlaw14.HushTurns", spec := "hushTurns", unfollowed := true, recurses := true, apart := false, narrowed := true }
def HushTurnsUptoSaid : Prop := hushTurnsUptoRow.holds Try.pinned (OpenSpec.upto hushTurnsSpec)

end Rows
end Go.Proofs.Ytanhdljnbaojbaa
