/-
  No cell of these rows narrows 'for every input' (looked for: loops, veiled, ifaces, maps, wideKeys, modest, calm, conditions, laid).
  DERIVED. THE GIVEN ROWS OF THIS SEAT. 12 by the template 'for every input the law returns true; each argument reads behind the call as it read before'; 0 by the template 'total and deterministic' (their statements: YtkkopknlhijgiaaTotals.lean).
  GIVEN WITH THE SEED: the statements are not yours to turn. If you find one false, say at which input.
  Laid BY PROGRAM, IN A SANDBOX (cutbox-rows.mjs): the forced cells as the released guide's own fill.sh prints them over the translation cc426ad13596e0f1… (all of the seat's roots in one cut). By AI agents, Wed Nov 11 2026. No macro, syntax, notation, axiom, sorry.
-/
import Derived.Test.YtkkopknlhijgiaaChecked
import GoSem.Claim
import GoSem.ClaimJoined
import GoSem.ClaimMapViews
import Derived.JoinedTies
import Derived.KernelRfl
namespace Go.Proofs.Ytkkopknlhijgiaa
/- THE CELL 'sum', in the pinned program and in every row, IS THE sha256 OF THE DUMP (.gsa) THAT YtkkopknlhijgiaaProg.lean LOADS. Nothing in Lean hashes anything: it is a label: what it is worth is what the hold of that sum in a sandbox is worth. -/
noncomputable def Try.pinned : Pinned := { name := "ytkkopknlhijgiaa", sum := "cc426ad13596e0f1ceb82da969031ad3cc8e03c66d39ee962aeaf9aa2ae85cc7", checked := Try.checked }
namespace Rows
def none {H : Type} : Left H := { results := [], args := [] }

/-- 'foghornlaw06.BackoffDraws': WHATEVER THE INPUT: true; the input reads as it did. -/
def backoffDrawsSpec : ChangeSpec := { name := "backoffDraws", fn := fun _ => fun
  | [d1, d2, d3] => { results := [.lit (.bool true)], args := [d1, d2, d3] }
  | _ => none }
def backoffDrawsRow : OpenClaim := { program := "ytkkopknlhijgiaa", sum := "cc426ad13596e0f1ceb82da969031ad3cc8e03c66d39ee962aeaf9aa2ae85cc7", func := "foghorn/foghornlaw06.BackoffDraws", spec := "backoffDraws", unfollowed := true, recurses := true, plainKeys := false, apart := false }
def BackoffDrawsSaid : Prop := backoffDrawsRow.holds Try.pinned (OpenSpec.ofChange backoffDrawsSpec)

/-- ITS FALSE NEIGHBOUR: 'it returns false'. Refute it at one input. -/
def backoffDrawsWrong : ChangeSpec := { name := "backoffDraws", fn := fun _ => fun
  | [d1, d2, d3] => { results := [.lit (.bool false)], args := [d1, d2, d3] }
  | _ => none }
def BackoffDrawsWrongFalsely : Prop := backoffDrawsRow.holds Try.pinned (OpenSpec.ofChange backoffDrawsWrong)

/-- 'foghornlaw05.TickOrder': WHATEVER THE INPUT: true; the input reads as it did. -/
def tickOrderSpec : ChangeSpec := { name := "tickOrder", fn := fun _ => fun
  | [d1, d2, d3] => { results := [.lit (.bool true)], args := [d1, d2, d3] }
  | _ => none }
def tickOrderRow : OpenClaim := { program := "ytkkopknlhijgiaa", sum := "cc426ad13596e0f1ceb82da969031ad3cc8e03c66d39ee962aeaf9aa2ae85cc7", func := "foghorn/foghornlaw05.TickOrder", spec := "tickOrder", unfollowed := true, recurses := true, plainKeys := false, apart := false }
def TickOrderSaid : Prop := tickOrderRow.holds Try.pinned (OpenSpec.ofChange tickOrderSpec)

/-- ITS FALSE NEIGHBOUR: 'it returns false'. Refute it at one input. -/
def tickOrderWrong : ChangeSpec := { name := "tickOrder", fn := fun _ => fun
  | [d1, d2, d3] => { results := [.lit (.bool false)], args := [d1, d2, d3] }
  | _ => none }
def TickOrderWrongFalsely : Prop := tickOrderRow.holds Try.pinned (OpenSpec.ofChange tickOrderWrong)

/-- 'foghornlaw08.BucketBounds': WHATEVER THE INPUT: true; the input reads as it did. -/
def bucketBoundsSpec : ChangeSpec := { name := "bucketBounds", fn := fun _ => fun
  | [d1, d2, d3, d4] => { results := [.lit (.bool true)], args := [d1, d2, d3, d4] }
  | _ => none }
def bucketBoundsRow : OpenClaim := { program := "ytkkopknlhijgiaa", sum := "cc426ad13596e0f1ceb82da969031ad3cc8e03c66d39ee962aeaf9aa2ae85cc7", func := "foghorn/foghornlaw08.BucketBounds", spec := "bucketBounds", unfollowed := true, recurses := true, plainKeys := false, apart := false }
def BucketBoundsSaid : Prop := bucketBoundsRow.holds Try.pinned (OpenSpec.ofChange bucketBoundsSpec)

/-- ITS FALSE NEIGHBOUR: 'it returns false'. Refute it at one input. -/
def bucketBoundsWrong : ChangeSpec := { name := "bucketBounds", fn := fun _ => fun
  | [d1, d2, d3, d4] => { results := [.lit (.bool false)], args := [d1, d2, d3, d4] }
  | _ => none }
def BucketBoundsWrongFalsely : Prop := bucketBoundsRow.holds Try.pinned (OpenSpec.ofChange bucketBoundsWrong)

/-- 'foghornlaw05.TickSpreads': WHATEVER THE INPUT: true; the input reads as it did. -/
def tickSpreadsSpec : ChangeSpec := { name := "tickSpreads", fn := fun _ => fun
  | [d1, d2, d3] => { results := [.lit (.bool true)], args := [d1, d2, d3] }
  | _ => none }
def tickSpreadsRow : OpenClaim := { program := "ytkkopknlhijgiaa", sum := "cc426ad13596e0f1ceb82da969031ad3cc8e03c66d39ee962aeaf9aa2ae85cc7", func := "foghorn/foghornlaw05.TickSpreads", spec := "tickSpreads", unfollowed := true, recurses := true, plainKeys := false, apart := false }
def TickSpreadsSaid : Prop := tickSpreadsRow.holds Try.pinned (OpenSpec.ofChange tickSpreadsSpec)

/-- ITS FALSE NEIGHBOUR: 'it returns false'. Refute it at one input. -/
def tickSpreadsWrong : ChangeSpec := { name := "tickSpreads", fn := fun _ => fun
  | [d1, d2, d3] => { results := [.lit (.bool false)], args := [d1, d2, d3] }
  | _ => none }
def TickSpreadsWrongFalsely : Prop := tickSpreadsRow.holds Try.pinned (OpenSpec.ofChange tickSpreadsWrong)

/-- 'foghornlaw05.TickTells': WHATEVER THE INPUT: true; the input reads as it did. -/
def tickTellsSpec : ChangeSpec := { name := "tickTells", fn := fun _ => fun
  | [d1, d2, d3] => { results := [.lit (.bool true)], args := [d1, d2, d3] }
  | _ => none }
def tickTellsRow : OpenClaim := { program := "ytkkopknlhijgiaa", sum := "cc426ad13596e0f1ceb82da969031ad3cc8e03c66d39ee962aeaf9aa2ae85cc7", func := "foghorn/foghornlaw05.TickTells", spec := "tickTells", unfollowed := true, recurses := true, plainKeys := false, apart := false }
def TickTellsSaid : Prop := tickTellsRow.holds Try.pinned (OpenSpec.ofChange tickTellsSpec)

/-- ITS FALSE NEIGHBOUR: 'it returns false'. Refute it at one input. -/
def tickTellsWrong : ChangeSpec := { name := "tickTells", fn := fun _ => fun
  | [d1, d2, d3] => { results := [.lit (.bool false)], args := [d1, d2, d3] }
  | _ => none }
def TickTellsWrongFalsely : Prop := tickTellsRow.holds Try.pinned (OpenSpec.ofChange tickTellsWrong)

/-- 'foghornlaw23.WatchLife': WHATEVER THE INPUT: true; the input reads as it did. -/
def watchLifeSpec : ChangeSpec := { name := "watchLife", fn := fun _ => fun
  | [d1, d2, d3, d4] => { results := [.lit (.bool true)], args := [d1, d2, d3, d4] }
  | _ => none }
def watchLifeRow : OpenClaim := { program := "ytkkopknlhijgiaa", sum := "cc426ad13596e0f1ceb82da969031ad3cc8e03c66d39ee962aeaf9aa2ae85cc7", func := "foghorn/foghornlaw23.WatchLife", spec := "watchLife", unfollowed := true, recurses := true, plainKeys := false, apart := false }
def WatchLifeSaid : Prop := watchLifeRow.holds Try.pinned (OpenSpec.ofChange watchLifeSpec)

/-- ITS FALSE NEIGHBOUR: 'it returns false'. Refute it at one input. -/
def watchLifeWrong : ChangeSpec := { name := "watchLife", fn := fun _ => fun
  | [d1, d2, d3, d4] => { results := [.lit (.bool false)], args := [d1, d2, d3, d4] }
  | _ => none }
def WatchLifeWrongFalsely : Prop := watchLifeRow.holds Try.pinned (OpenSpec.ofChange watchLifeWrong)

/-- 'foghornlaw23.WatchRate': WHATEVER THE INPUT: true; the input reads as it did. -/
def watchRateSpec : ChangeSpec := { name := "watchRate", fn := fun _ => fun
  | [d1, d2, d3, d4, d5] => { results := [.lit (.bool true)], args := [d1, d2, d3, d4, d5] }
  | _ => none }
def watchRateRow : OpenClaim := { program := "ytkkopknlhijgiaa", sum := "cc426ad13596e0f1ceb82da969031ad3cc8e03c66d39ee962aeaf9aa2ae85cc7", func := "foghorn/foghornlaw23.WatchRate", spec := "watchRate", unfollowed := true, recurses := true, plainKeys := false, apart := false }
def WatchRateSaid : Prop := watchRateRow.holds Try.pinned (OpenSpec.ofChange watchRateSpec)

/-- ITS FALSE NEIGHBOUR: 'it returns false'. Refute it at one input. -/
def watchRateWrong : ChangeSpec := { name := "watchRate", fn := fun _ => fun
  | [d1, d2, d3, d4, d5] => { results := [.lit (.bool false)], args := [d1, d2, d3, d4, d5] }
  | _ => none }
def WatchRateWrongFalsely : Prop := watchRateRow.holds Try.pinned (OpenSpec.ofChange watchRateWrong)

/-- 'foghornlaw08.BucketParts': WHATEVER THE INPUT: true; the input reads as it did. -/
def bucketPartsSpec : ChangeSpec := { name := "bucketParts", fn := fun _ => fun
  | [d1, d2, d3, d4, d5] => { results := [.lit (.bool true)], args := [d1, d2, d3, d4, d5] }
  | _ => none }
def bucketPartsRow : OpenClaim := { program := "ytkkopknlhijgiaa", sum := "cc426ad13596e0f1ceb82da969031ad3cc8e03c66d39ee962aeaf9aa2ae85cc7", func := "foghorn/foghornlaw08.BucketParts", spec := "bucketParts", unfollowed := true, recurses := true, plainKeys := false, apart := false }
def BucketPartsSaid : Prop := bucketPartsRow.holds Try.pinned (OpenSpec.ofChange bucketPartsSpec)

/-- ITS FALSE NEIGHBOUR: 'it returns false'. Refute it at one input. -/
def bucketPartsWrong : ChangeSpec := { name := "bucketParts", fn := fun _ => fun
  | [d1, d2, d3, d4, d5] => { results := [.lit (.bool false)], args := [d1, d2, d3, d4, d5] }
  | _ => none }
def BucketPartsWrongFalsely : Prop := bucketPartsRow.holds Try.pinned (OpenSpec.ofChange bucketPartsWrong)

/-- 'foghornlaw23.WatchParts': WHATEVER THE INPUT: true; the input reads as it did. -/
def watchPartsSpec : ChangeSpec := { name := "watchParts", fn := fun _ => fun
  | [d1, d2, d3, d4, d5, d6, d7] => { results := [.lit (.bool true)], args := [d1, d2, d3, d4, d5, d6, d7] }
  | _ => none }
def watchPartsRow : OpenClaim := { program := "ytkkopknlhijgiaa", sum := "cc426ad13596e0f1ceb82da969031ad3cc8e03c66d39ee962aeaf9aa2ae85cc7", func := "foghorn/foghornlaw23.WatchParts", spec := "watchParts", unfollowed := true, recurses := true, plainKeys := false, apart := false }
def WatchPartsSaid : Prop := watchPartsRow.holds Try.pinned (OpenSpec.ofChange watchPartsSpec)

/-- ITS FALSE NEIGHBOUR: 'it returns false'. Refute it at one input. -/
def watchPartsWrong : ChangeSpec := { name := "watchParts", fn := fun _ => fun
  | [d1, d2, d3, d4, d5, d6, d7] => { results := [.lit (.bool false)], args := [d1, d2, d3, d4, d5, d6, d7] }
  | _ => none }
def WatchPartsWrongFalsely : Prop := watchPartsRow.holds Try.pinned (OpenSpec.ofChange watchPartsWrong)

/-- 'foghornlaw06.BackoffTells': WHATEVER THE INPUT: true; the input reads as it did. -/
def backoffTellsSpec : ChangeSpec := { name := "backoffTells", fn := fun _ => fun
  | [d1, d2, d3] => { results := [.lit (.bool true)], args := [d1, d2, d3] }
  | _ => none }
def backoffTellsRow : OpenClaim := { program := "ytkkopknlhijgiaa", sum := "cc426ad13596e0f1ceb82da969031ad3cc8e03c66d39ee962aeaf9aa2ae85cc7", func := "foghorn/foghornlaw06.BackoffTells", spec := "backoffTells", unfollowed := true, recurses := true, plainKeys := false, apart := false }
def BackoffTellsSaid : Prop := backoffTellsRow.holds Try.pinned (OpenSpec.ofChange backoffTellsSpec)

/-- ITS FALSE NEIGHBOUR: 'it returns false'. Refute it at one input. -/
def backoffTellsWrong : ChangeSpec := { name := "backoffTells", fn := fun _ => fun
  | [d1, d2, d3] => { results := [.lit (.bool false)], args := [d1, d2, d3] }
  | _ => none }
def BackoffTellsWrongFalsely : Prop := backoffTellsRow.holds Try.pinned (OpenSpec.ofChange backoffTellsWrong)

/-- 'foghornlaw06.BackoffRises': WHATEVER THE INPUT: true; the input reads as it did. -/
def backoffRisesSpec : ChangeSpec := { name := "backoffRises", fn := fun _ => fun
  | [d1, d2, d3] => { results := [.lit (.bool true)], args := [d1, d2, d3] }
  | _ => none }
def backoffRisesRow : OpenClaim := { program := "ytkkopknlhijgiaa", sum := "cc426ad13596e0f1ceb82da969031ad3cc8e03c66d39ee962aeaf9aa2ae85cc7", func := "foghorn/foghornlaw06.BackoffRises", spec := "backoffRises", unfollowed := true, recurses := true, plainKeys := false, apart := false }
def BackoffRisesSaid : Prop := backoffRisesRow.holds Try.pinned (OpenSpec.ofChange backoffRisesSpec)

/-- ITS FALSE NEIGHBOUR: 'it returns false'. Refute it at one input. -/
def backoffRisesWrong : ChangeSpec := { name := "backoffRises", fn := fun _ => fun
  | [d1, d2, d3] => { results := [.lit (.bool false)], args := [d1, d2, d3] }
  | _ => none }
def BackoffRisesWrongFalsely : Prop := backoffRisesRow.holds Try.pinned (OpenSpec.ofChange backoffRisesWrong)

/-- 'foghornlaw07.BreakerWaits': WHATEVER THE INPUT: true; the input reads as it did. -/
def breakerWaitsSpec : ChangeSpec := { name := "breakerWaits", fn := fun _ => fun
  | [d1, d2, d3] => { results := [.lit (.bool true)], args := [d1, d2, d3] }
  | _ => none }
def breakerWaitsRow : OpenClaim := { program := "ytkkopknlhijgiaa", sum := "cc426ad13596e0f1ceb82da969031ad3cc8e03c66d39ee962aeaf9aa2ae85cc7", func := "foghorn/foghornlaw07.BreakerWaits", spec := "breakerWaits", unfollowed := true, recurses := true, plainKeys := false, apart := false }
def BreakerWaitsSaid : Prop := breakerWaitsRow.holds Try.pinned (OpenSpec.ofChange breakerWaitsSpec)

/-- ITS FALSE NEIGHBOUR: 'it returns false'. Refute it at one input. -/
def breakerWaitsWrong : ChangeSpec := { name := "breakerWaits", fn := fun _ => fun
  | [d1, d2, d3] => { results := [.lit (.bool false)], args := [d1, d2, d3] }
  | _ => none }
def BreakerWaitsWrongFalsely : Prop := breakerWaitsRow.holds Try.pinned (OpenSpec.ofChange breakerWaitsWrong)

/- THE SECOND FORM. 'bulk': how many values and letters a reading holds, each counted each time it is reached (what is shared counts as often as it is met; a slice's spare places count too). A statement '..UptoSaid' is the law's where the arguments, and the package variables that the reading takes, are together of bulk at most 1048576: NARROWER than '..Said'. Prove '..Said' where nothing that the law and all that it calls make is longer than what came in: it says more and counts as full. Else prove '..UptoSaid'. A law counts once. -/
mutual
def uptoBulk {H : Type} : DataW H → Nat
  | .lit (.string bytes) => bytes.length + 1
  | .lit _ => 1
  | .nil => 1
  | .ptr d => uptoBulk d + 1
  | .slice elems spare => uptoBulkAll elems + uptoBulkAll spare + 1
  | .agg parts => uptoBulkAll parts + 1
  | .iface _ d => uptoBulk d + 1
  | .map entries => uptoBulkEntries entries + 1
  | .held _ => 1
def uptoBulkAll {H : Type} : List (DataW H) → Nat
  | [] => 0
  | d :: r => uptoBulk d + uptoBulkAll r
def uptoBulkEntries {H : Type} : List (Lit × DataW H) → Nat
  | [] => 0
  | x :: r => uptoBulkEntry x + uptoBulkEntries r
def uptoBulkEntry {H : Type} : Lit × DataW H → Nat
  | (.string bytes, d) => bytes.length + uptoBulk d + 1
  | (_, d) => uptoBulk d + 1
 end
def uptoSmall : (H : Type) → List (DataW H) → Bool := fun _ ds => decide (uptoBulkAll ds ≤ 1048576)
def OpenSpec.upto (s : _root_.Go.ChangeSpec) : _root_.Go.OpenSpec := { _root_.Go.OpenSpec.ofChange s with cond := some uptoSmall }

/-- 'foghornlaw06.BackoffDraws', WHERE WHAT IT READS IS OF BULK AT MOST 1048576: true; the input reads as it did. -/
def backoffDrawsUptoRow : OpenClaim := { program := "ytkkopknlhijgiaa", sum := "cc426ad13596e0f1ceb82da969031ad3cc8e03c66d39ee962aeaf9aa2ae85cc7", func := "foghorn/foghornlaw06.BackoffDraws", spec := "backoffDraws", unfollowed := true, recurses := true, plainKeys := false, apart := false, narrowed := true }
def BackoffDrawsUptoSaid : Prop := backoffDrawsUptoRow.holds Try.pinned (OpenSpec.upto backoffDrawsSpec)

/-- 'foghornlaw05.TickOrder', WHERE WHAT IT READS IS OF BULK AT MOST 1048576: true; the input reads as it did. -/
def tickOrderUptoRow : OpenClaim := { program := "ytkkopknlhijgiaa", sum := "cc426ad13596e0f1ceb82da969031ad3cc8e03c66d39ee962aeaf9aa2ae85cc7", func := "foghorn/foghornlaw05.TickOrder", spec := "tickOrder", unfollowed := true, recurses := true, plainKeys := false, apart := false, narrowed := true }
def TickOrderUptoSaid : Prop := tickOrderUptoRow.holds Try.pinned (OpenSpec.upto tickOrderSpec)

/-- 'foghornlaw08.BucketBounds', WHERE WHAT IT READS IS OF BULK AT MOST 1048576: true; the input reads as it did. -/
def bucketBoundsUptoRow : OpenClaim := { program := "ytkkopknlhijgiaa", sum := "cc426ad13596e0f1ceb82da969031ad3cc8e03c66d39ee962aeaf9aa2ae85cc7", func := "foghorn/foghornlaw08.BucketBounds", spec := "bucketBounds", unfollowed := true, recurses := true, plainKeys := false, apart := false, narrowed := true }
def BucketBoundsUptoSaid : Prop := bucketBoundsUptoRow.holds Try.pinned (OpenSpec.upto bucketBoundsSpec)

/-- 'foghornlaw05.TickSpreads', WHERE WHAT IT READS IS OF BULK AT MOST 1048576: true; the input reads as it did. -/
def tickSpreadsUptoRow : OpenClaim := { program := "ytkkopknlhijgiaa", sum := "cc426ad13596e0f1ceb82da969031ad3cc8e03c66d39ee962aeaf9aa2ae85cc7", func := "foghorn/foghornlaw05.TickSpreads", spec := "tickSpreads", unfollowed := true, recurses := true, plainKeys := false, apart := false, narrowed := true }
def TickSpreadsUptoSaid : Prop := tickSpreadsUptoRow.holds Try.pinned (OpenSpec.upto tickSpreadsSpec)

/-- 'foghornlaw05.TickTells', WHERE WHAT IT READS IS OF BULK AT MOST 1048576: true; the input reads as it did. -/
def tickTellsUptoRow : OpenClaim := { program := "ytkkopknlhijgiaa", sum := "cc426ad13596e0f1ceb82da969031ad3cc8e03c66d39ee962aeaf9aa2ae85cc7", func := "foghorn/foghornlaw05.TickTells", spec := "tickTells", unfollowed := true, recurses := true, plainKeys := false, apart := false, narrowed := true }
def TickTellsUptoSaid : Prop := tickTellsUptoRow.holds Try.pinned (OpenSpec.upto tickTellsSpec)

/-- 'foghornlaw23.WatchLife', WHERE WHAT IT READS IS OF BULK AT MOST 1048576: true; the input reads as it did. -/
def watchLifeUptoRow : OpenClaim := { program := "ytkkopknlhijgiaa", sum := "cc426ad13596e0f1ceb82da969031ad3cc8e03c66d39ee962aeaf9aa2ae85cc7", func := "foghorn/foghornlaw23.WatchLife", spec := "watchLife", unfollowed := true, recurses := true, plainKeys := false, apart := false, narrowed := true }
def WatchLifeUptoSaid : Prop := watchLifeUptoRow.holds Try.pinned (OpenSpec.upto watchLifeSpec)

/-- 'foghornlaw23.WatchRate', WHERE WHAT IT READS IS OF BULK AT MOST 1048576: true; the input reads as it did. -/
def watchRateUptoRow : OpenClaim := { program := "ytkkopknlhijgiaa", sum := "cc426ad13596e0f1ceb82da969031ad3cc8e03c66d39ee962aeaf9aa2ae85cc7", func := "foghorn/foghornlaw23.WatchRate", spec := "watchRate", unfollowed := true, recurses := true, plainKeys := false, apart := false, narrowed := true }
def WatchRateUptoSaid : Prop := watchRateUptoRow.holds Try.pinned (OpenSpec.upto watchRateSpec)

/-- 'foghornlaw08.BucketParts', WHERE WHAT IT READS IS OF BULK AT MOST 1048576: true; the input reads as it did. -/
def bucketPartsUptoRow : OpenClaim := { program := "ytkkopknlhijgiaa", sum := "cc426ad13596e0f1ceb82da969031ad3cc8e03c66d39ee962aeaf9aa2ae85cc7", func := "foghorn/foghornlaw08.BucketParts", spec := "bucketParts", unfollowed := true, recurses := true, plainKeys := false, apart := false, narrowed := true }
def BucketPartsUptoSaid : Prop := bucketPartsUptoRow.holds Try.pinned (OpenSpec.upto bucketPartsSpec)

/-- 'foghornlaw23.WatchParts', WHERE WHAT IT READS IS OF BULK AT MOST 1048576: true; the input reads as it did. -/
def watchPartsUptoRow : OpenClaim := { program := "ytkkopknlhijgiaa", sum := "cc426ad13596e0f1ceb82da969031ad3cc8e03c66d39ee962aeaf9aa2ae85cc7", func := "foghorn/foghornlaw23.WatchParts", spec := "watchParts", unfollowed := true, recurses := true, plainKeys := false, apart := false, narrowed := true }
def WatchPartsUptoSaid : Prop := watchPartsUptoRow.holds Try.pinned (OpenSpec.upto watchPartsSpec)

/-- 'foghornlaw06.BackoffTells', WHERE WHAT IT READS IS OF BULK AT MOST 1048576: true; the input reads as it did. -/
def backoffTellsUptoRow : OpenClaim := { program := "ytkkopknlhijgiaa", sum := "cc426ad13596e0f1ceb82da969031ad3cc8e03c66d39ee962aeaf9aa2ae85cc7", func := "foghorn/foghornlaw06.BackoffTells", spec := "backoffTells", unfollowed := true, recurses := true, plainKeys := false, apart := false, narrowed := true }
def BackoffTellsUptoSaid : Prop := backoffTellsUptoRow.holds Try.pinned (OpenSpec.upto backoffTellsSpec)

/-- 'foghornlaw06.BackoffRises', WHERE WHAT IT READS IS OF BULK AT MOST 1048576: true; the input reads as it did. -/
def backoffRisesUptoRow : OpenClaim := { program := "ytkkopknlhijgiaa", sum := "cc426ad13596e0f1ceb82da969031ad3cc8e03c66d39ee962aeaf9aa2ae85cc7", func := "foghorn/foghornlaw06.BackoffRises", spec := "backoffRises", unfollowed := true, recurses := true, plainKeys := false, apart := false, narrowed := true }
def BackoffRisesUptoSaid : Prop := backoffRisesUptoRow.holds Try.pinned (OpenSpec.upto backoffRisesSpec)

/-- 'foghornlaw07.BreakerWaits', WHERE WHAT IT READS IS OF BULK AT MOST 1048576: true; the input reads as it did. -/
def breakerWaitsUptoRow : OpenClaim := { program := "ytkkopknlhijgiaa", sum := "cc426ad13596e0f1ceb82da969031ad3cc8e03c66d39ee962aeaf9aa2ae85cc7", func := "foghorn/foghornlaw07.BreakerWaits", spec := "breakerWaits", unfollowed := true, recurses := true, plainKeys := false, apart := false, narrowed := true }
def BreakerWaitsUptoSaid : Prop := breakerWaitsUptoRow.holds Try.pinned (OpenSpec.upto breakerWaitsSpec)

end Rows
end Go.Proofs.Ytkkopknlhijgiaa
