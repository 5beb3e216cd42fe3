/-
  No cell of these rows narrows 'for every input' (looked for: loops, veiled, ifaces, maps, wideKeys, modest, calm, conditions, laid).
  DERIVED. THE GIVEN ROWS OF THIS SEAT. 5 by the template 'for every input the law returns true; each argument reads behind the call as it read before'; 0 by the template 'total and deterministic' (their statements: YtlmiimojgledpaaTotals.lean).
  GIVEN WITH THE SEED: the statements are not yours to turn. If you find one false, say at which input.
  Laid BY PROGRAM, IN A SANDBOX (cutbox-rows.mjs): the forced cells as the released guide's own fill.sh prints them over the translation 5507ed9d0063235b… (all of the seat's roots in one cut). By AI agents, Wed Nov 11 2026. No macro, syntax, notation, axiom, sorry.
-/
import Derived.Test.YtlmiimojgledpaaChecked
import GoSem.Claim
import GoSem.ClaimJoined
import GoSem.ClaimMapViews
import Derived.JoinedTies
import Derived.KernelRfl
namespace Go.Proofs.Ytlmiimojgledpaa
/- THE CELL 'sum', in the pinned program and in every row, IS THE sha256 OF THE DUMP (.gsa) THAT YtlmiimojgledpaaProg.lean LOADS. Nothing in Lean hashes anything: it is a label: what it is worth is what the hold of that sum in a sandbox is worth. -/
noncomputable def Try.pinned : Pinned := { name := "ytlmiimojgledpaa", sum := "5507ed9d0063235b45060026ee4adfd330b2ce1a1fee98f0897161169ceae91e", checked := Try.checked }
namespace Rows
def none {H : Type} : Left H := { results := [], args := [] }

/-- 'factotumlaw31.RelateJoin': WHATEVER THE INPUT: true; the input reads as it did. -/
def relateJoinSpec : ChangeSpec := { name := "relateJoin", fn := fun _ => fun
  | [d1, d2, d3] => { results := [.lit (.bool true)], args := [d1, d2, d3] }
  | _ => none }
def relateJoinRow : OpenClaim := { program := "ytlmiimojgledpaa", sum := "5507ed9d0063235b45060026ee4adfd330b2ce1a1fee98f0897161169ceae91e", func := "factotum/factotumlaw31.RelateJoin", spec := "relateJoin", unfollowed := true, recurses := true, plainKeys := false, apart := false }
def RelateJoinSaid : Prop := relateJoinRow.holds Try.pinned (OpenSpec.ofChange relateJoinSpec)

/-- ITS FALSE NEIGHBOUR: 'it returns false'. Refute it at one input. -/
def relateJoinWrong : ChangeSpec := { name := "relateJoin", fn := fun _ => fun
  | [d1, d2, d3] => { results := [.lit (.bool false)], args := [d1, d2, d3] }
  | _ => none }
def RelateJoinWrongFalsely : Prop := relateJoinRow.holds Try.pinned (OpenSpec.ofChange relateJoinWrong)

/-- 'factotumlaw31.RelateTwo': WHATEVER THE INPUT: true; the input reads as it did. -/
def relateTwoSpec : ChangeSpec := { name := "relateTwo", fn := fun _ => fun
  | [d1, d2, d3] => { results := [.lit (.bool true)], args := [d1, d2, d3] }
  | _ => none }
def relateTwoRow : OpenClaim := { program := "ytlmiimojgledpaa", sum := "5507ed9d0063235b45060026ee4adfd330b2ce1a1fee98f0897161169ceae91e", func := "factotum/factotumlaw31.RelateTwo", spec := "relateTwo", unfollowed := true, recurses := true, plainKeys := false, apart := false }
def RelateTwoSaid : Prop := relateTwoRow.holds Try.pinned (OpenSpec.ofChange relateTwoSpec)

/-- ITS FALSE NEIGHBOUR: 'it returns false'. Refute it at one input. -/
def relateTwoWrong : ChangeSpec := { name := "relateTwo", fn := fun _ => fun
  | [d1, d2, d3] => { results := [.lit (.bool false)], args := [d1, d2, d3] }
  | _ => none }
def RelateTwoWrongFalsely : Prop := relateTwoRow.holds Try.pinned (OpenSpec.ofChange relateTwoWrong)

/-- 'factotumlaw31.RelateParts': WHATEVER THE INPUT: true; the input reads as it did. -/
def relatePartsSpec : ChangeSpec := { name := "relateParts", fn := fun _ => fun
  | [d1, d2, d3] => { results := [.lit (.bool true)], args := [d1, d2, d3] }
  | _ => none }
def relatePartsRow : OpenClaim := { program := "ytlmiimojgledpaa", sum := "5507ed9d0063235b45060026ee4adfd330b2ce1a1fee98f0897161169ceae91e", func := "factotum/factotumlaw31.RelateParts", spec := "relateParts", unfollowed := true, recurses := true, plainKeys := false, apart := false }
def RelatePartsSaid : Prop := relatePartsRow.holds Try.pinned (OpenSpec.ofChange relatePartsSpec)

/-- ITS FALSE NEIGHBOUR: 'it returns false'. Refute it at one input. -/
def relatePartsWrong : ChangeSpec := { name := "relateParts", fn := fun _ => fun
  | [d1, d2, d3] => { results := [.lit (.bool false)], args := [d1, d2, d3] }
  | _ => none }
def RelatePartsWrongFalsely : Prop := relatePartsRow.holds Try.pinned (OpenSpec.ofChange relatePartsWrong)

/-- 'factotumlaw31.RelateSort': WHATEVER THE INPUT: true; the input reads as it did. -/
def relateSortSpec : ChangeSpec := { name := "relateSort", fn := fun _ => fun
  | [d1, d2] => { results := [.lit (.bool true)], args := [d1, d2] }
  | _ => none }
def relateSortRow : OpenClaim := { program := "ytlmiimojgledpaa", sum := "5507ed9d0063235b45060026ee4adfd330b2ce1a1fee98f0897161169ceae91e", func := "factotum/factotumlaw31.RelateSort", spec := "relateSort", unfollowed := true, recurses := true, plainKeys := false, apart := false }
def RelateSortSaid : Prop := relateSortRow.holds Try.pinned (OpenSpec.ofChange relateSortSpec)

/-- ITS FALSE NEIGHBOUR: 'it returns false'. Refute it at one input. -/
def relateSortWrong : ChangeSpec := { name := "relateSort", fn := fun _ => fun
  | [d1, d2] => { results := [.lit (.bool false)], args := [d1, d2] }
  | _ => none }
def RelateSortWrongFalsely : Prop := relateSortRow.holds Try.pinned (OpenSpec.ofChange relateSortWrong)

/-- 'factotumlaw31.RelateOne': WHATEVER THE INPUT: true; the input reads as it did. -/
def relateOneSpec : ChangeSpec := { name := "relateOne", fn := fun _ => fun
  | [d1, d2, d3] => { results := [.lit (.bool true)], args := [d1, d2, d3] }
  | _ => none }
def relateOneRow : OpenClaim := { program := "ytlmiimojgledpaa", sum := "5507ed9d0063235b45060026ee4adfd330b2ce1a1fee98f0897161169ceae91e", func := "factotum/factotumlaw31.RelateOne", spec := "relateOne", unfollowed := true, recurses := true, plainKeys := false, apart := false }
def RelateOneSaid : Prop := relateOneRow.holds Try.pinned (OpenSpec.ofChange relateOneSpec)

/-- ITS FALSE NEIGHBOUR: 'it returns false'. Refute it at one input. -/
def relateOneWrong : ChangeSpec := { name := "relateOne", fn := fun _ => fun
  | [d1, d2, d3] => { results := [.lit (.bool false)], args := [d1, d2, d3] }
  | _ => none }
def RelateOneWrongFalsely : Prop := relateOneRow.holds Try.pinned (OpenSpec.ofChange relateOneWrong)

/- THE SECOND FORM. 'bulk': how many values and letters a reading holds, each counted each time it is reached (what is shared counts as often as it is met; a slice's spare places count too). A statement '..UptoSaid' is the law's where the arguments, and the package variables that the reading takes, are together of bulk at most 1048576: NARROWER than '..Said'. Prove '..Said' where nothing that the law and all that it calls make is longer than what came in: it says more and counts as full. Else prove '..UptoSaid'. A law counts once. -/
mutual
def uptoBulk {H : Type} : DataW H → Nat
  | .lit (.string bytes) => bytes.length + 1
  | .lit _ => 1
  | .nil => 1
  | .ptr d => uptoBulk d + 1
  | .slice elems spare => uptoBulkAll elems + uptoBulkAll spare + 1
  | .agg parts => uptoBulkAll parts + 1
  | .iface _ d => uptoBulk d + 1
  | .map entries => uptoBulkEntries entries + 1
  | .held _ => 1
def uptoBulkAll {H : Type} : List (DataW H) → Nat
  | [] => 0
  | d :: r => uptoBulk d + uptoBulkAll r
def uptoBulkEntries {H : Type} : List (Lit × DataW H) → Nat
  | [] => 0
  | x :: r => uptoBulkEntry x + uptoBulkEntries r
def uptoBulkEntry {H : Type} : Lit × DataW H → Nat
  | (.string bytes, d) => bytes.length + uptoBulk d + 1
  | (_, d) => uptoBulk d + 1
 end
def uptoSmall : (H : Type) → List (DataW H) → Bool := fun _ ds => decide (uptoBulkAll ds ≤ 1048576)
def OpenSpec.upto (s : _root_.Go.ChangeSpec) : _root_.Go.OpenSpec := { _root_.Go.OpenSpec.ofChange s with cond := some uptoSmall }

/-- 'factotumlaw31.RelateJoin', WHERE WHAT IT READS IS OF BULK AT MOST 1048576: true; the input reads as it did. -/
def relateJoinUptoRow : OpenClaim := { program := "ytlmiimojgledpaa", sum := "5507ed9d0063235b45060026ee4adfd330b2ce1a1fee98f0897161169ceae91e", func := "factotum/factotumlaw31.RelateJoin", spec := "relateJoin", unfollowed := true, recurses := true, plainKeys := false, apart := false, narrowed := true }
def RelateJoinUptoSaid : Prop := relateJoinUptoRow.holds Try.pinned (OpenSpec.upto relateJoinSpec)

/-- 'factotumlaw31.RelateTwo', WHERE WHAT IT READS IS OF BULK AT MOST 1048576: true; the input reads as it did. -/
def relateTwoUptoRow : OpenClaim := { program := "ytlmiimojgledpaa", sum := "5507ed9d0063235b45060026ee4adfd330b2ce1a1fee98f0897161169ceae91e", func := "factotum/factotumlaw31.RelateTwo", spec := "relateTwo", unfollowed := true, recurses := true, plainKeys := false, apart := false, narrowed := true }
def RelateTwoUptoSaid : Prop := relateTwoUptoRow.holds Try.pinned (OpenSpec.upto relateTwoSpec)

/-- 'factotumlaw31.RelateParts', WHERE WHAT IT READS IS OF BULK AT MOST 1048576: true; the input reads as it did. -/
def relatePartsUptoRow : OpenClaim := { program := "ytlmiimojgledpaa", sum := "5507ed9d0063235b45060026ee4adfd330b2ce1a1fee98f0897161169ceae91e", func := "factotum/factotumlaw31.RelateParts", spec := "relateParts", unfollowed := true, recurses := true, plainKeys := false, apart := false, narrowed := true }
def RelatePartsUptoSaid : Prop := relatePartsUptoRow.holds Try.pinned (OpenSpec.upto relatePartsSpec)

/-- 'factotumlaw31.RelateSort', WHERE WHAT IT READS IS OF BULK AT MOST 1048576: true; the input reads as it did. -/
def relateSortUptoRow : OpenClaim := { program := "ytlmiimojgledpaa", sum := "5507ed9d0063235b45060026ee4adfd330b2ce1a1fee98f0897161169ceae91e", func := "factotum/factotumlaw31.RelateSort", spec := "relateSort", unfollowed := true, recurses := true, plainKeys := false, apart := false, narrowed := true }
def RelateSortUptoSaid : Prop := relateSortUptoRow.holds Try.pinned (OpenSpec.upto relateSortSpec)

/-- 'factotumlaw31.RelateOne', WHERE WHAT IT READS IS OF BULK AT MOST 1048576: true; the input reads as it did. -/
def relateOneUptoRow : OpenClaim := { program := "ytlmiimojgledpaa", sum := "5507ed9d0063235b45060026ee4adfd330b2ce1a1fee98f0897161169ceae91e", func := "factotum/factotumlaw31.RelateOne", spec := "relateOne", unfollowed := true, recurses := true, plainKeys := false, apart := false, narrowed := true }
def RelateOneUptoSaid : Prop := relateOneUptoRow.holds Try.pinned (OpenSpec.upto relateOneSpec)

end Rows
end Go.Proofs.Ytlmiimojgledpaa
