/-
  No cell of these rows narrows 'for every input' (looked for: loops, veiled, ifaces, maps, wideKeys, modest, calm, conditions, laid).
  DERIVED. THE GIVEN ROWS OF THIS SEAT. 4 by the template 'for every input the law returns true; each argument reads behind the call as it read before'; 0 by the template 'total and deterministic' (their statements: YtoeimnflikbdbaaTotals.lean).
  GIVEN WITH THE SEED: the statements are not yours to turn. If you find one false, say at which input.
  Laid BY PROGRAM, IN A SANDBOX (cutbox-rows.mjs): the forced cells as the released guide's own fill.sh prints them over the translation 9dbf99a5551603a8… (all of the seat's roots in one cut). By AI agents, Wed Nov 11 2026. No macro, syntax, notation, axiom, sorry.
-/
import Derived.Test.YtoeimnflikbdbaaChecked
import GoSem.Claim
import GoSem.ClaimJoined
import GoSem.ClaimMapViews
import Derived.JoinedTies
import Derived.KernelRfl
namespace Go.Proofs.Ytoeimnflikbdbaa
/- THE CELL 'sum', in the pinned program and in every row, IS THE sha256 OF THE DUMP (.gsa) THAT YtoeimnflikbdbaaProg.lean LOADS. Nothing in Lean hashes anything: it is a label: what it is worth is what the hold of that sum in a sandbox is worth. -/
noncomputable def Try.pinned : Pinned := { name := "ytoeimnflikbdbaa", sum := "9dbf99a5551603a8cdbd5e7b744a276a09265c240d1c23f4ee3adf2376214a35", checked := Try.checked }
namespace Rows
def none {H : Type} : Left H := { results := [], args := [] }

/-- 'factotumlaw33.RetryTimes': WHATEVER THE INPUT: true; the input reads as it did. -/
def retryTimesSpec : ChangeSpec := { name := "retryTimes", fn := fun _ => fun
  | [d1, d2, d3] => { results := [.lit (.bool true)], args := [d1, d2, d3] }
  | _ => none }
def retryTimesRow : OpenClaim := { program := "ytoeimnflikbdbaa", sum := "9dbf99a5551603a8cdbd5e7b744a276a09265c240d1c23f4ee3adf2376214a35", func := "factotum/factotumlaw33.RetryTimes", spec := "retryTimes", apart := false }
def RetryTimesSaid : Prop := retryTimesRow.holds Try.pinned (OpenSpec.ofChange retryTimesSpec)

/-- ITS FALSE NEIGHBOUR: 'it returns false'. Refute it at one input. -/
def retryTimesWrong : ChangeSpec := { name := "retryTimes", fn := fun _ => fun
  | [d1, d2, d3] => { results := [.lit (.bool false)], args := [d1, d2, d3] }
  | _ => none }
def RetryTimesWrongFalsely : Prop := retryTimesRow.holds Try.pinned (OpenSpec.ofChange retryTimesWrong)

/-- 'factotumlaw33.RetryShift': WHATEVER THE INPUT: true; the input reads as it did. -/
def retryShiftSpec : ChangeSpec := { name := "retryShift", fn := fun _ => fun
  | [d1, d2, d3] => { results := [.lit (.bool true)], args := [d1, d2, d3] }
  | _ => none }
def retryShiftRow : OpenClaim := { program := "ytoeimnflikbdbaa", sum := "9dbf99a5551603a8cdbd5e7b744a276a09265c240d1c23f4ee3adf2376214a35", func := "factotum/factotumlaw33.RetryShift", spec := "retryShift", apart := false }
def RetryShiftSaid : Prop := retryShiftRow.holds Try.pinned (OpenSpec.ofChange retryShiftSpec)

/-- ITS FALSE NEIGHBOUR: 'it returns false'. Refute it at one input. -/
def retryShiftWrong : ChangeSpec := { name := "retryShift", fn := fun _ => fun
  | [d1, d2, d3] => { results := [.lit (.bool false)], args := [d1, d2, d3] }
  | _ => none }
def RetryShiftWrongFalsely : Prop := retryShiftRow.holds Try.pinned (OpenSpec.ofChange retryShiftWrong)

/-- 'factotumlaw33.RetryWaits': WHATEVER THE INPUT: true; the input reads as it did. -/
def retryWaitsSpec : ChangeSpec := { name := "retryWaits", fn := fun _ => fun
  | [d1, d2, d3] => { results := [.lit (.bool true)], args := [d1, d2, d3] }
  | _ => none }
def retryWaitsRow : OpenClaim := { program := "ytoeimnflikbdbaa", sum := "9dbf99a5551603a8cdbd5e7b744a276a09265c240d1c23f4ee3adf2376214a35", func := "factotum/factotumlaw33.RetryWaits", spec := "retryWaits", apart := false }
def RetryWaitsSaid : Prop := retryWaitsRow.holds Try.pinned (OpenSpec.ofChange retryWaitsSpec)

/-- ITS FALSE NEIGHBOUR: 'it returns false'. Refute it at one input. -/
def retryWaitsWrong : ChangeSpec := { name := "retryWaits", fn := fun _ => fun
  | [d1, d2, d3] => { results := [.lit (.bool false)], args := [d1, d2, d3] }
  | _ => none }
def RetryWaitsWrongFalsely : Prop := retryWaitsRow.holds Try.pinned (OpenSpec.ofChange retryWaitsWrong)

/-- 'factotumlaw33.RetryRises': WHATEVER THE INPUT: true; the input reads as it did. -/
def retryRisesSpec : ChangeSpec := { name := "retryRises", fn := fun _ => fun
  | [d1, d2] => { results := [.lit (.bool true)], args := [d1, d2] }
  | _ => none }
def retryRisesRow : OpenClaim := { program := "ytoeimnflikbdbaa", sum := "9dbf99a5551603a8cdbd5e7b744a276a09265c240d1c23f4ee3adf2376214a35", func := "factotum/factotumlaw33.RetryRises", spec := "retryRises", apart := false }
def RetryRisesSaid : Prop := retryRisesRow.holds Try.pinned (OpenSpec.ofChange retryRisesSpec)

/-- ITS FALSE NEIGHBOUR: 'it returns false'. Refute it at one input. -/
def retryRisesWrong : ChangeSpec := { name := "retryRises", fn := fun _ => fun
  | [d1, d2] => { results := [.lit (.bool false)], args := [d1, d2] }
  | _ => none }
def RetryRisesWrongFalsely : Prop := retryRisesRow.holds Try.pinned (OpenSpec.ofChange retryRisesWrong)

/- THE SECOND FORM. 'bulk': how many values and letters a reading holds, each counted each time it is reached (what is shared counts as often as it is met; a slice's spare places count too). A statement '..UptoSaid' is the law's where the arguments, and the package variables that the reading takes, are together of bulk at most 1048576: NARROWER than '..Said'. Prove '..Said' where nothing that the law and all that it calls make is longer than what came in: it says more and counts as full. Else prove '..UptoSaid'. A law counts once. -/
mutual
def uptoBulk {H : Type} : DataW H → Nat
  | .lit (.string bytes) => bytes.length + 1
  | .lit _ => 1
  | .nil => 1
  | .ptr d => uptoBulk d + 1
  | .slice elems spare => uptoBulkAll elems + uptoBulkAll spare + 1
  | .agg parts => uptoBulkAll parts + 1
  | .iface _ d => uptoBulk d + 1
  | .map entries => uptoBulkEntries entries + 1
  | .held _ => 1
def uptoBulkAll {H : Type} : List (DataW H) → Nat
  | [] => 0
  | d :: r => uptoBulk d + uptoBulkAll r
def uptoBulkEntries {H : Type} : List (Lit × DataW H) → Nat
  | [] => 0
  | x :: r => uptoBulkEntry x + uptoBulkEntries r
def uptoBulkEntry {H : Type} : Lit × DataW H → Nat
  | (.string bytes, d) => bytes.length + uptoBulk d + 1
  | (_, d) => uptoBulk d + 1
 end
def uptoSmall : (H : Type) → List (DataW H) → Bool := fun _ ds => decide (uptoBulkAll ds ≤ 1048576)
def OpenSpec.upto (s : _root_.Go.ChangeSpec) : _root_.Go.OpenSpec := { _root_.Go.OpenSpec.ofChange s with cond := some uptoSmall }

/-- 'factotumlaw33.RetryTimes', WHERE WHAT IT READS IS OF BULK AT MOST 1048576: true; the input reads as it did. -/
def retryTimesUptoRow : OpenClaim := { program := "ytoeimnflikbdbaa", sum := "9dbf99a5551603a8cdbd5e7b744a276a09265c240d1c23f4ee3adf2376214a35", func := "factotum/factotumlaw33.RetryTimes", spec := "retryTimes", apart := false, narrowed := true }
def RetryTimesUptoSaid : Prop := retryTimesUptoRow.holds Try.pinned (OpenSpec.upto retryTimesSpec)

/-- 'factotumlaw33.RetryShift', WHERE WHAT IT READS IS OF BULK AT MOST 1048576: true; the input reads as it did. -/
def retryShiftUptoRow : OpenClaim := { program := "ytoeimnflikbdbaa", sum := "9dbf99a5551603a8cdbd5e7b744a276a09265c240d1c23f4ee3adf2376214a35", func := "factotum/factotumlaw33.RetryShift", spec := "retryShift", apart := false, narrowed := true }
def RetryShiftUptoSaid : Prop := retryShiftUptoRow.holds Try.pinned (OpenSpec.upto retryShiftSpec)

/-- 'factotumlaw33.RetryWaits', WHERE WHAT IT READS IS OF BULK AT MOST 1048576: true; the input reads as it did. -/
def retryWaitsUptoRow : OpenClaim := { program := "ytoeimnflikbdbaa", sum := "9dbf99a5551603a8cdbd5e7b744a276a09265c240d1c23f4ee3adf2376214a35", func := "factotum/factotumlaw33.RetryWaits", spec := "retryWaits", apart := false, narrowed := true }
def RetryWaitsUptoSaid : Prop := retryWaitsUptoRow.holds Try.pinned (OpenSpec.upto retryWaitsSpec)

/-- 'factotumlaw33.RetryRises', WHERE WHAT IT READS IS OF BULK AT MOST 1048576: true; the input reads as it did. -/
def retryRisesUptoRow : OpenClaim := { program := "ytoeimnflikbdbaa", sum := "9dbf99a5551603a8cdbd5e7b744a276a09265c240d1c23f4ee3adf2376214a35", func := "factotum/factotumlaw33.RetryRises", spec := "retryRises", apart := false, narrowed := true }
def RetryRisesUptoSaid : Prop := retryRisesUptoRow.holds Try.pinned (OpenSpec.upto retryRisesSpec)

end Rows
end Go.Proofs.Ytoeimnflikbdbaa
