/-
  No cell of these rows narrows 'for every input' (looked for: loops, veiled, ifaces, maps, wideKeys, modest, calm, conditions, laid).
  DERIVED. THE GIVEN ROWS OF THIS SEAT. 4 by the template 'for every input the law returns true; each argument reads behind the call as it read before'; 0 by the template 'total and deterministic' (their statements: YtnckcgpmidgggaaTotals.lean).
  GIVEN WITH THE SEED: the statements are not yours to turn. If you find one false, say at which input.
  Laid BY PROGRAM, IN A SANDBOX (cutbox-rows.mjs): the forced cells as the released guide's own fill.sh prints them over the translation a1e9b72d778b4400… (all of the seat's roots in one cut). By AI agents, Wed Nov 11 2026. No macro, syntax, notation, axiom, sorry.
-/
import Derived.Test.YtnckcgpmidgggaaChecked
import GoSem.Claim
import GoSem.ClaimJoined
import GoSem.ClaimMapViews
import Derived.JoinedTies
import Derived.KernelRfl
namespace Go.Proofs.Ytnckcgpmidgggaa
/- THE CELL 'sum', in the pinned program and in every row, IS THE sha256 OF THE DUMP (.gsa) THAT YtnckcgpmidgggaaProg.lean LOADS. Nothing in Lean hashes anything: it is a label: what it is worth is what the hold of that sum in a sandbox is worth. -/
noncomputable def Try.pinned : Pinned := { name := "ytnckcgpmidgggaa", sum := "a1e9b72d778b44001801339eaa1bfd63e0d49f0ecb0b863d068d0d668ff929ae", checked := Try.checked }
namespace Rows
def none {H : Type} : Left H := { results := [], args := [] }

/-- 'factotumlaw34.ClockTimes': WHATEVER THE INPUT: true; the input reads as it did. -/
def clockTimesSpec : ChangeSpec := { name := "clockTimes", fn := fun _ => fun
  | [d1, d2, d3] => { results := [.lit (.bool true)], args := [d1, d2, d3] }
  | _ => none }
def clockTimesRow : OpenClaim := { program := "ytnckcgpmidgggaa", sum := "a1e9b72d778b44001801339eaa1bfd63e0d49f0ecb0b863d068d0d668ff929ae", func := "factotum/factotumlaw34.ClockTimes", spec := "clockTimes", apart := false }
def ClockTimesSaid : Prop := clockTimesRow.holds Try.pinned (OpenSpec.ofChange clockTimesSpec)

/-- ITS FALSE NEIGHBOUR: 'it returns false'. Refute it at one input. -/
def clockTimesWrong : ChangeSpec := { name := "clockTimes", fn := fun _ => fun
  | [d1, d2, d3] => { results := [.lit (.bool false)], args := [d1, d2, d3] }
  | _ => none }
def ClockTimesWrongFalsely : Prop := clockTimesRow.holds Try.pinned (OpenSpec.ofChange clockTimesWrong)

/-- 'factotumlaw34.ClockMeet': WHATEVER THE INPUT: true; the input reads as it did. -/
def clockMeetSpec : ChangeSpec := { name := "clockMeet", fn := fun _ => fun
  | [d1, d2, d3] => { results := [.lit (.bool true)], args := [d1, d2, d3] }
  | _ => none }
def clockMeetRow : OpenClaim := { program := "ytnckcgpmidgggaa", sum := "a1e9b72d778b44001801339eaa1bfd63e0d49f0ecb0b863d068d0d668ff929ae", func := "factotum/factotumlaw34.ClockMeet", spec := "clockMeet", apart := false }
def ClockMeetSaid : Prop := clockMeetRow.holds Try.pinned (OpenSpec.ofChange clockMeetSpec)

/-- ITS FALSE NEIGHBOUR: 'it returns false'. Refute it at one input. -/
def clockMeetWrong : ChangeSpec := { name := "clockMeet", fn := fun _ => fun
  | [d1, d2, d3] => { results := [.lit (.bool false)], args := [d1, d2, d3] }
  | _ => none }
def ClockMeetWrongFalsely : Prop := clockMeetRow.holds Try.pinned (OpenSpec.ofChange clockMeetWrong)

/-- 'factotumlaw34.ClockCounts': WHATEVER THE INPUT: true; the input reads as it did. -/
def clockCountsSpec : ChangeSpec := { name := "clockCounts", fn := fun _ => fun
  | [d1, d2] => { results := [.lit (.bool true)], args := [d1, d2] }
  | _ => none }
def clockCountsRow : OpenClaim := { program := "ytnckcgpmidgggaa", sum := "a1e9b72d778b44001801339eaa1bfd63e0d49f0ecb0b863d068d0d668ff929ae", func := "factotum/factotumlaw34.ClockCounts", spec := "clockCounts", apart := false }
def ClockCountsSaid : Prop := clockCountsRow.holds Try.pinned (OpenSpec.ofChange clockCountsSpec)

/-- ITS FALSE NEIGHBOUR: 'it returns false'. Refute it at one input. -/
def clockCountsWrong : ChangeSpec := { name := "clockCounts", fn := fun _ => fun
  | [d1, d2] => { results := [.lit (.bool false)], args := [d1, d2] }
  | _ => none }
def ClockCountsWrongFalsely : Prop := clockCountsRow.holds Try.pinned (OpenSpec.ofChange clockCountsWrong)

/-- 'factotumlaw34.ClockMerge': WHATEVER THE INPUT: true; the input reads as it did. -/
def clockMergeSpec : ChangeSpec := { name := "clockMerge", fn := fun _ => fun
  | [d1, d2, d3] => { results := [.lit (.bool true)], args := [d1, d2, d3] }
  | _ => none }
def clockMergeRow : OpenClaim := { program := "ytnckcgpmidgggaa", sum := "a1e9b72d778b44001801339eaa1bfd63e0d49f0ecb0b863d068d0d668ff929ae", func := "factotum/factotumlaw34.ClockMerge", spec := "clockMerge", unfollowed := true, recurses := true, apart := false }
def ClockMergeSaid : Prop := clockMergeRow.holds Try.pinned (OpenSpec.ofChange clockMergeSpec)

/-- ITS FALSE NEIGHBOUR: 'it returns false'. Refute it at one input. -/
def clockMergeWrong : ChangeSpec := { name := "clockMerge", fn := fun _ => fun
  | [d1, d2, d3] => { results := [.lit (.bool false)], args := [d1, d2, d3] }
  | _ => none }
def ClockMergeWrongFalsely : Prop := clockMergeRow.holds Try.pinned (OpenSpec.ofChange clockMergeWrong)

/- THE SECOND FORM. 'bulk': how many values and letters a reading holds, each counted each time it is reached (what is shared counts as often as it is met; a slice's spare places count too). A statement '..UptoSaid' is the law's where the arguments, and the package variables that the reading takes, are together of bulk at most 1048576: NARROWER than '..Said'. Prove '..Said' where nothing that the law and all that it calls make is longer than what came in: it says more and counts as full. Else prove '..UptoSaid'. A law counts once. -/
mutual
def uptoBulk {H : Type} : DataW H → Nat
  | .lit (.string bytes) => bytes.length + 1
  | .lit _ => 1
  | .nil => 1
  | .ptr d => uptoBulk d + 1
  | .slice elems spare => uptoBulkAll elems + uptoBulkAll spare + 1
  | .agg parts => uptoBulkAll parts + 1
  | .iface _ d => uptoBulk d + 1
  | .map entries => uptoBulkEntries entries + 1
  | .held _ => 1
def uptoBulkAll {H : Type} : List (DataW H) → Nat
  | [] => 0
  | d :: r => uptoBulk d + uptoBulkAll r
def uptoBulkEntries {H : Type} : List (Lit × DataW H) → Nat
  | [] => 0
  | x :: r => uptoBulkEntry x + uptoBulkEntries r
def uptoBulkEntry {H : Type} : Lit × DataW H → Nat
  | (.string bytes, d) => bytes.length + uptoBulk d + 1
  | (_, d) => uptoBulk d + 1
 end
def uptoSmall : (H : Type) → List (DataW H) → Bool := fun _ ds => decide (uptoBulkAll ds ≤ 1048576)
def OpenSpec.upto (s : _root_.Go.ChangeSpec) : _root_.Go.OpenSpec := { _root_.Go.OpenSpec.ofChange s with cond := some uptoSmall }

/-- 'factotumlaw34.ClockTimes', WHERE WHAT IT READS IS OF BULK AT MOST 1048576: true; the input reads as it did. -/
def clockTimesUptoRow : OpenClaim := { program := "ytnckcgpmidgggaa", sum := "a1e9b72d778b44001801339eaa1bfd63e0d49f0ecb0b863d068d0d668ff929ae", func := "factotum/factotumlaw34.ClockTimes", spec := "clockTimes", apart := false, narrowed := true }
def ClockTimesUptoSaid : Prop := clockTimesUptoRow.holds Try.pinned (OpenSpec.upto clockTimesSpec)

/-- 'factotumlaw34.ClockMeet', WHERE WHAT IT READS IS OF BULK AT MOST 1048576: true; the input reads as it did. -/
def clockMeetUptoRow : OpenClaim := { program := "ytnckcgpmidgggaa", sum := "a1e9b72d778b44001801339eaa1bfd63e0d49f0ecb0b863d068d0d668ff929ae", func := "factotum/factotumlaw34.ClockMeet", spec := "clockMeet", apart := false, narrowed := true }
def ClockMeetUptoSaid : Prop := clockMeetUptoRow.holds Try.pinned (OpenSpec.upto clockMeetSpec)

/-- 'factotumlaw34.ClockCounts', WHERE WHAT IT READS IS OF BULK AT MOST 1048576: true; the input reads as it did. -/
def clockCountsUptoRow : OpenClaim := { program := "ytnckcgpmidgggaa", sum := "a1e9b72d778b44001801339eaa1bfd63e0d49f0ecb0b863d068d0d668ff929ae", func := "factotum/factotumlaw34.ClockCounts", spec := "clockCounts", apart := false, narrowed := true }
def ClockCountsUptoSaid : Prop := clockCountsUptoRow.holds Try.pinned (OpenSpec.upto clockCountsSpec)

/-- 'factotumlaw34.ClockMerge', WHERE WHAT IT READS IS OF BULK AT MOST 1048576: true; the input reads as it did. -/
def clockMergeUptoRow : OpenClaim := { program := "ytnckcgpmidgggaa", sum := "a1e9b72d778b44001801339eaa1bfd63e0d49f0ecb0b863d068d0d668ff929ae", func := "factotum/factotumlaw34.ClockMerge", spec := "clockMerge", unfollowed := true, recurses := true, apart := false, narrowed := true }
def ClockMergeUptoSaid : Prop := clockMergeUptoRow.holds Try.pinned (OpenSpec.upto clockMergeSpec)

end Rows
end Go.Proofs.Ytnckcgpmidgggaa
