/-
  No cell of these rows narrows 'for every input' (looked for: loops, veiled, ifaces, maps, wideKeys, modest, calm, conditions, laid).
  DERIVED. THE GIVEN ROWS OF THIS SEAT. 4 by the template 'for every input the law returns true; each argument reads behind the call as it read before'; 0 by the template 'total and deterministic' (their statements: YtiajdaagamhbnaaTotals.lean).
  GIVEN WITH THE SEED: the statements are not yours to turn. If you find one false, say at which input.
  Laid BY PROGRAM, IN A SANDBOX (cutbox-rows.mjs): the forced cells as the released guide's own fill.sh prints them over the translation 102e96966b71c1e7… (all of the seat's roots in one cut). By AI agents, Wed Nov 11 2026. No macro, syntax, notation, axiom, sorry.
-/
import Derived.Test.YtiajdaagamhbnaaChecked
import GoSem.Claim
import GoSem.ClaimJoined
import GoSem.ClaimMapViews
import Derived.JoinedTies
import Derived.KernelRfl
namespace Go.Proofs.Ytiajdaagamhbnaa
/- THE CELL 'sum', in the pinned program and in every row, IS THE sha256 OF THE DUMP (.gsa) THAT YtiajdaagamhbnaaProg.lean LOADS. Nothing in Lean hashes anything: it is a label: what it is worth is what the hold of that sum in a sandbox is worth. -/
noncomputable def Try.pinned : Pinned := { name := "ytiajdaagamhbnaa", sum := "102e96966b71c1e78f35b172076bd6aed8d87771dec936d1dafcc61b206e8078", checked := Try.checked }
namespace Rows
def none {H : Type} : Left H := { results := [], args := [] }

/-- 'factotumlaw26.ReportParts': WHATEVER THE INPUT: true; the input reads as it did. -/
def reportPartsSpec : ChangeSpec := { name := "reportParts", fn := fun _ => fun
  | [d1, d2] => { results := [.lit (.bool true)], args := [d1, d2] }
  | _ => none }
def reportPartsRow : OpenClaim := { program := "ytiajdaagamhbnaa", sum := "102e96966b71c1e78f35b172076bd6aed8d87771dec936d1dafcc61b206e8078", func := "factotum/factotumlaw26.ReportParts", spec := "reportParts", unfollowed := true, recurses := true, apart := false }
def ReportPartsSaid : Prop := reportPartsRow.holds Try.pinned (OpenSpec.ofChange reportPartsSpec)

/-- ITS FALSE NEIGHBOUR: 'it returns false'. Refute it at one input. -/
def reportPartsWrong : ChangeSpec := { name := "reportParts", fn := fun _ => fun
  | [d1, d2] => { results := [.lit (.bool false)], args := [d1, d2] }
  | _ => none }
def ReportPartsWrongFalsely : Prop := reportPartsRow.holds Try.pinned (OpenSpec.ofChange reportPartsWrong)

/-- 'factotumlaw26.ReportCounts': WHATEVER THE INPUT: true; the input reads as it did. -/
def reportCountsSpec : ChangeSpec := { name := "reportCounts", fn := fun _ => fun
  | [d] => { results := [.lit (.bool true)], args := [d] }
  | _ => none }
def reportCountsRow : OpenClaim := { program := "ytiajdaagamhbnaa", sum := "102e96966b71c1e78f35b172076bd6aed8d87771dec936d1dafcc61b206e8078", func := "factotum/factotumlaw26.ReportCounts", spec := "reportCounts", unfollowed := true, recurses := true, apart := false }
def ReportCountsSaid : Prop := reportCountsRow.holds Try.pinned (OpenSpec.ofChange reportCountsSpec)

/-- ITS FALSE NEIGHBOUR: 'it returns false'. Refute it at one input. -/
def reportCountsWrong : ChangeSpec := { name := "reportCounts", fn := fun _ => fun
  | [d] => { results := [.lit (.bool false)], args := [d] }
  | _ => none }
def ReportCountsWrongFalsely : Prop := reportCountsRow.holds Try.pinned (OpenSpec.ofChange reportCountsWrong)

/-- 'factotumlaw26.ReportLists': WHATEVER THE INPUT: true; the input reads as it did. -/
def reportListsSpec : ChangeSpec := { name := "reportLists", fn := fun _ => fun
  | [d1, d2, d3] => { results := [.lit (.bool true)], args := [d1, d2, d3] }
  | _ => none }
def reportListsRow : OpenClaim := { program := "ytiajdaagamhbnaa", sum := "102e96966b71c1e78f35b172076bd6aed8d87771dec936d1dafcc61b206e8078", func := "factotum/factotumlaw26.ReportLists", spec := "reportLists", unfollowed := true, recurses := true, apart := false }
def ReportListsSaid : Prop := reportListsRow.holds Try.pinned (OpenSpec.ofChange reportListsSpec)

/-- ITS FALSE NEIGHBOUR: 'it returns false'. Refute it at one input. -/
def reportListsWrong : ChangeSpec := { name := "reportLists", fn := fun _ => fun
  | [d1, d2, d3] => { results := [.lit (.bool false)], args := [d1, d2, d3] }
  | _ => none }
def ReportListsWrongFalsely : Prop := reportListsRow.holds Try.pinned (OpenSpec.ofChange reportListsWrong)

/-- 'factotumlaw26.ReportLongest': WHATEVER THE INPUT: true; the input reads as it did. -/
def reportLongestSpec : ChangeSpec := { name := "reportLongest", fn := fun _ => fun
  | [d1, d2, d3] => { results := [.lit (.bool true)], args := [d1, d2, d3] }
  | _ => none }
def reportLongestRow : OpenClaim := { program := "ytiajdaagamhbnaa", sum := "102e96966b71c1e78f35b172076bd6aed8d87771dec936d1dafcc61b206e8078", func := "factotum/factotumlaw26.ReportLongest", spec := "reportLongest", unfollowed := true, recurses := true, apart := false }
def ReportLongestSaid : Prop := reportLongestRow.holds Try.pinned (OpenSpec.ofChange reportLongestSpec)

/-- ITS FALSE NEIGHBOUR: 'it returns false'. Refute it at one input. -/
def reportLongestWrong : ChangeSpec := { name := "reportLongest", fn := fun _ => fun
  | [d1, d2, d3] => { results := [.lit (.bool false)], args := [d1, d2, d3] }
  | _ => none }
def ReportLongestWrongFalsely : Prop := reportLongestRow.holds Try.pinned (OpenSpec.ofChange reportLongestWrong)

/- THE SECOND FORM. 'bulk': how many values and letters a reading holds, each counted each time it is reached (what is shared counts as often as it is met; a slice's spare places count too). A statement '..UptoSaid' is the law's where the arguments, and the package variables that the reading takes, are together of bulk at most 1048576: NARROWER than '..Said'. Prove '..Said' where nothing that the law and all that it calls make is longer than what came in: it says more and counts as full. Else prove '..UptoSaid'. A law counts once. -/
mutual
def uptoBulk {H : Type} : DataW H → Nat
  | .lit (.string bytes) => bytes.length + 1
  | .lit _ => 1
  | .nil => 1
  | .ptr d => uptoBulk d + 1
  | .slice elems spare => uptoBulkAll elems + uptoBulkAll spare + 1
  | .agg parts => uptoBulkAll parts + 1
  | .iface _ d => uptoBulk d + 1
  | .map entries => uptoBulkEntries entries + 1
  | .held _ => 1
def uptoBulkAll {H : Type} : List (DataW H) → Nat
  | [] => 0
  | d :: r => uptoBulk d + uptoBulkAll r
def uptoBulkEntries {H : Type} : List (Lit × DataW H) → Nat
  | [] => 0
  | x :: r => uptoBulkEntry x + uptoBulkEntries r
def uptoBulkEntry {H : Type} : Lit × DataW H → Nat
  | (.string bytes, d) => bytes.length + uptoBulk d + 1
  | (_, d) => uptoBulk d + 1
 end
def uptoSmall : (H : Type) → List (DataW H) → Bool := fun _ ds => decide (uptoBulkAll ds ≤ 1048576)
def OpenSpec.upto (s : _root_.Go.ChangeSpec) : _root_.Go.OpenSpec := { _root_.Go.OpenSpec.ofChange s with cond := some uptoSmall }

/-- 'factotumlaw26.ReportParts', WHERE WHAT IT READS IS OF BULK AT MOST 1048576: true; the input reads as it did. -/
def reportPartsUptoRow : OpenClaim := { program := "ytiajdaagamhbnaa", sum := "102e96966b71c1e78f35b172076bd6aed8d87771dec936d1dafcc61b206e8078", func := "factotum/factotumlaw26.ReportParts", spec := "reportParts", unfollowed := true, recurses := true, apart := false, narrowed := true }
def ReportPartsUptoSaid : Prop := reportPartsUptoRow.holds Try.pinned (OpenSpec.upto reportPartsSpec)

/-- 'factotumlaw26.ReportCounts', WHERE WHAT IT READS IS OF BULK AT MOST 1048576: true; the input reads as it did. -/
def reportCountsUptoRow : OpenClaim := { program := "ytiajdaagamhbnaa", sum := "102e96966b71c1e78f35b172076bd6aed8d87771dec936d1dafcc61b206e8078", func := "factotum/factotumlaw26.ReportCounts", spec := "reportCounts", unfollowed := true, recurses := true, apart := false, narrowed := true }
def ReportCountsUptoSaid : Prop := reportCountsUptoRow.holds Try.pinned (OpenSpec.upto reportCountsSpec)

/-- 'factotumlaw26.ReportLists', WHERE WHAT IT READS IS OF BULK AT MOST 1048576: true; the input reads as it did. -/
def reportListsUptoRow : OpenClaim := { program := "ytiajdaagamhbnaa", sum := "102e96966b71c1e78f35b172076bd6aed8d87771dec936d1dafcc61b206e8078", func := "factotum/factotumlaw26.ReportLists", spec := "reportLists", unfollowed := true, recurses := true, apart := false, narrowed := true }
def ReportListsUptoSaid : Prop := reportListsUptoRow.holds Try.pinned (OpenSpec.upto reportListsSpec)

/-- 'factotumlaw26.ReportLongest', WHERE WHAT IT READS IS OF BULK AT MOST 1048576: true; the input reads as it did. -/
def reportLongestUptoRow : OpenClaim := { program := "ytiajdaagamhbnaa", sum := "102e96966b71c1e78f35b172076bd6aed8d87771dec936d1dafcc61b206e8078", func := "factotum/factotumlaw26.ReportLongest", spec := "reportLongest", unfollowed := true, recurses := true, apart := false, narrowed := true }
def ReportLongestUptoSaid : Prop := reportLongestUptoRow.holds Try.pinned (OpenSpec.upto reportLongestSpec)

end Rows
end Go.Proofs.Ytiajdaagamhbnaa
