/-
  No cell of these rows narrows 'for every input' (looked for: loops, veiled, ifaces, maps, wideKeys, modest, calm, conditions, laid).
  DERIVED. THE GIVEN ROWS OF THIS SEAT. 6 by the template 'for every input the law returns true; each argument reads behind the call as it read before'; 0 by the template 'total and deterministic' (their statements: YtjaiodbonffciaaTotals.lean).
  GIVEN WITH THE SEED: the statements are not yours to turn. If you find one false, say at which input.
  Laid BY PROGRAM, IN A SANDBOX (cutbox-rows.mjs): the forced cells as the released guide's own fill.sh prints them over the translation 39ddad2b91fdcfdb… (all of the seat's roots in one cut). By AI agents, Wed Nov 11 2026. No macro, syntax, notation, axiom, sorry.
-/
import Derived.Test.YtjaiodbonffciaaChecked
import GoSem.Claim
import GoSem.ClaimJoined
import GoSem.ClaimMapViews
import Derived.JoinedTies
import Derived.KernelRfl
namespace Go.Proofs.Ytjaiodbonffciaa
/- THE CELL 'sum', in the pinned program and in every row, IS THE sha256 OF THE DUMP (.gsa) THAT YtjaiodbonffciaaProg.lean LOADS. Nothing in Lean hashes anything: it is a label: what it is worth is what the hold of that sum in a sandbox is worth. -/
noncomputable def Try.pinned : Pinned := { name := "ytjaiodbonffciaa", sum := "39ddad2b91fdcfdbf41756de07bb928daf2edc09ca94a8a000cd0d0b5da098f9", checked := Try.checked }
namespace Rows
def none {H : Type} : Left H := { results := [], args := [] }

/-- 'factotumlaw04.DeviceSizes': WHATEVER THE INPUT: true; the input reads as it did. -/
def deviceSizesSpec : ChangeSpec := { name := "deviceSizes", fn := fun _ => fun
  | [d1, d2] => { results := [.lit (.bool true)], args := [d1, d2] }
  | _ => none }
def deviceSizesRow : OpenClaim := { program := "ytjaiodbonffciaa", sum := "39ddad2b91fdcfdbf41756de07bb928daf2edc09ca94a8a000cd0d0b5da098f9", func := "factotum/factotumlaw04.DeviceSizes", spec := "deviceSizes", unfollowed := true, recurses := true, apart := false }
def DeviceSizesSaid : Prop := deviceSizesRow.holds Try.pinned (OpenSpec.ofChange deviceSizesSpec)

/-- ITS FALSE NEIGHBOUR: 'it returns false'. Refute it at one input. -/
def deviceSizesWrong : ChangeSpec := { name := "deviceSizes", fn := fun _ => fun
  | [d1, d2] => { results := [.lit (.bool false)], args := [d1, d2] }
  | _ => none }
def DeviceSizesWrongFalsely : Prop := deviceSizesRow.holds Try.pinned (OpenSpec.ofChange deviceSizesWrong)

/-- 'factotumlaw04.DevicePlays': WHATEVER THE INPUT: true; the input reads as it did. -/
def devicePlaysSpec : ChangeSpec := { name := "devicePlays", fn := fun _ => fun
  | [d1, d2] => { results := [.lit (.bool true)], args := [d1, d2] }
  | _ => none }
def devicePlaysRow : OpenClaim := { program := "ytjaiodbonffciaa", sum := "39ddad2b91fdcfdbf41756de07bb928daf2edc09ca94a8a000cd0d0b5da098f9", func := "factotum/factotumlaw04.DevicePlays", spec := "devicePlays", unfollowed := true, recurses := true, apart := false }
def DevicePlaysSaid : Prop := devicePlaysRow.holds Try.pinned (OpenSpec.ofChange devicePlaysSpec)

/-- ITS FALSE NEIGHBOUR: 'it returns false'. Refute it at one input. -/
def devicePlaysWrong : ChangeSpec := { name := "devicePlays", fn := fun _ => fun
  | [d1, d2] => { results := [.lit (.bool false)], args := [d1, d2] }
  | _ => none }
def DevicePlaysWrongFalsely : Prop := devicePlaysRow.holds Try.pinned (OpenSpec.ofChange devicePlaysWrong)

/-- 'factotumlaw04.DeviceSure': WHATEVER THE INPUT: true; the input reads as it did. -/
def deviceSureSpec : ChangeSpec := { name := "deviceSure", fn := fun _ => fun
  | [d1, d2, d3] => { results := [.lit (.bool true)], args := [d1, d2, d3] }
  | _ => none }
def deviceSureRow : OpenClaim := { program := "ytjaiodbonffciaa", sum := "39ddad2b91fdcfdbf41756de07bb928daf2edc09ca94a8a000cd0d0b5da098f9", func := "factotum/factotumlaw04.DeviceSure", spec := "deviceSure", unfollowed := true, recurses := true, apart := false }
def DeviceSureSaid : Prop := deviceSureRow.holds Try.pinned (OpenSpec.ofChange deviceSureSpec)

/-- ITS FALSE NEIGHBOUR: 'it returns false'. Refute it at one input. -/
def deviceSureWrong : ChangeSpec := { name := "deviceSure", fn := fun _ => fun
  | [d1, d2, d3] => { results := [.lit (.bool false)], args := [d1, d2, d3] }
  | _ => none }
def DeviceSureWrongFalsely : Prop := deviceSureRow.holds Try.pinned (OpenSpec.ofChange deviceSureWrong)

/-- 'factotumlaw04.DeviceTorn': WHATEVER THE INPUT: true; the input reads as it did. -/
def deviceTornSpec : ChangeSpec := { name := "deviceTorn", fn := fun _ => fun
  | [d1, d2] => { results := [.lit (.bool true)], args := [d1, d2] }
  | _ => none }
def deviceTornRow : OpenClaim := { program := "ytjaiodbonffciaa", sum := "39ddad2b91fdcfdbf41756de07bb928daf2edc09ca94a8a000cd0d0b5da098f9", func := "factotum/factotumlaw04.DeviceTorn", spec := "deviceTorn", unfollowed := true, recurses := true, apart := false }
def DeviceTornSaid : Prop := deviceTornRow.holds Try.pinned (OpenSpec.ofChange deviceTornSpec)

/-- ITS FALSE NEIGHBOUR: 'it returns false'. Refute it at one input. -/
def deviceTornWrong : ChangeSpec := { name := "deviceTorn", fn := fun _ => fun
  | [d1, d2] => { results := [.lit (.bool false)], args := [d1, d2] }
  | _ => none }
def DeviceTornWrongFalsely : Prop := deviceTornRow.holds Try.pinned (OpenSpec.ofChange deviceTornWrong)

/-- 'factotumlaw04.DeviceStops': WHATEVER THE INPUT: true; the input reads as it did. -/
def deviceStopsSpec : ChangeSpec := { name := "deviceStops", fn := fun _ => fun
  | [d1, d2] => { results := [.lit (.bool true)], args := [d1, d2] }
  | _ => none }
def deviceStopsRow : OpenClaim := { program := "ytjaiodbonffciaa", sum := "39ddad2b91fdcfdbf41756de07bb928daf2edc09ca94a8a000cd0d0b5da098f9", func := "factotum/factotumlaw04.DeviceStops", spec := "deviceStops", unfollowed := true, recurses := true, apart := false }
def DeviceStopsSaid : Prop := deviceStopsRow.holds Try.pinned (OpenSpec.ofChange deviceStopsSpec)

/-- ITS FALSE NEIGHBOUR: 'it returns false'. Refute it at one input. -/
def deviceStopsWrong : ChangeSpec := { name := "deviceStops", fn := fun _ => fun
  | [d1, d2] => { results := [.lit (.bool false)], args := [d1, d2] }
  | _ => none }
def DeviceStopsWrongFalsely : Prop := deviceStopsRow.holds Try.pinned (OpenSpec.ofChange deviceStopsWrong)

/-- 'factotumlaw04.DeviceNil': WHATEVER THE INPUT: true; the input reads as it did. -/
def deviceNilSpec : ChangeSpec := { name := "deviceNil", fn := fun _ => fun
  | [d] => { results := [.lit (.bool true)], args := [d] }
  | _ => none }
def deviceNilRow : OpenClaim := { program := "ytjaiodbonffciaa", sum := "39ddad2b91fdcfdbf41756de07bb928daf2edc09ca94a8a000cd0d0b5da098f9", func := "factotum/factotumlaw04.DeviceNil", spec := "deviceNil", unfollowed := true, recurses := true, apart := false }
def DeviceNilSaid : Prop := deviceNilRow.holds Try.pinned (OpenSpec.ofChange deviceNilSpec)

/-- ITS FALSE NEIGHBOUR: 'it returns false'. Refute it at one input. -/
def deviceNilWrong : ChangeSpec := { name := "deviceNil", fn := fun _ => fun
  | [d] => { results := [.lit (.bool false)], args := [d] }
  | _ => none }
def DeviceNilWrongFalsely : Prop := deviceNilRow.holds Try.pinned (OpenSpec.ofChange deviceNilWrong)

/- THE SECOND FORM. 'bulk': how many values and letters a reading holds, each counted each time it is reached (what is shared counts as often as it is met; a slice's spare places count too). A statement '..UptoSaid' is the law's where the arguments, and the package variables that the reading takes, are together of bulk at most 1048576: NARROWER than '..Said'. Prove '..Said' where nothing that the law and all that it calls make is longer than what came in: it says more and counts as full. Else prove '..UptoSaid'. A law counts once. -/
mutual
def uptoBulk {H : Type} : DataW H → Nat
  | .lit (.string bytes) => bytes.length + 1
  | .lit _ => 1
  | .nil => 1
  | .ptr d => uptoBulk d + 1
  | .slice elems spare => uptoBulkAll elems + uptoBulkAll spare + 1
  | .agg parts => uptoBulkAll parts + 1
  | .iface _ d => uptoBulk d + 1
  | .map entries => uptoBulkEntries entries + 1
  | .held _ => 1
def uptoBulkAll {H : Type} : List (DataW H) → Nat
  | [] => 0
  | d :: r => uptoBulk d + uptoBulkAll r
def uptoBulkEntries {H : Type} : List (Lit × DataW H) → Nat
  | [] => 0
  | x :: r => uptoBulkEntry x + uptoBulkEntries r
def uptoBulkEntry {H : Type} : Lit × DataW H → Nat
  | (.string bytes, d) => bytes.length + uptoBulk d + 1
  | (_, d) => uptoBulk d + 1
 end
def uptoSmall : (H : Type) → List (DataW H) → Bool := fun _ ds => decide (uptoBulkAll ds ≤ 1048576)
def OpenSpec.upto (s : _root_.Go.ChangeSpec) : _root_.Go.OpenSpec := { _root_.Go.OpenSpec.ofChange s with cond := some uptoSmall }

/-- 'factotumlaw04.DeviceSizes', WHERE WHAT IT READS IS OF BULK AT MOST 1048576: true; the input reads as it did. -/
def deviceSizesUptoRow : OpenClaim := { program := "ytjaiodbonffciaa", sum := "39ddad2b91fdcfdbf41756de07bb928daf2edc09ca94a8a000cd0d0b5da098f9", func := "factotum/factotumlaw04.DeviceSizes", spec := "deviceSizes", unfollowed := true, recurses := true, apart := false, narrowed := true }
def DeviceSizesUptoSaid : Prop := deviceSizesUptoRow.holds Try.pinned (OpenSpec.upto deviceSizesSpec)

/-- 'factotumlaw04.DevicePlays', WHERE WHAT IT READS IS OF BULK AT MOST 1048576: true; the input reads as it did. -/
def devicePlaysUptoRow : OpenClaim := { program := "ytjaiodbonffciaa", sum := "39ddad2b91fdcfdbf41756de07bb928daf2edc09ca94a8a000cd0d0b5da098f9", func := "factotum/factotumlaw04.DevicePlays", spec := "devicePlays", unfollowed := true, recurses := true, apart := false, narrowed := true }
def DevicePlaysUptoSaid : Prop := devicePlaysUptoRow.holds Try.pinned (OpenSpec.upto devicePlaysSpec)

/-- 'factotumlaw04.DeviceSure', WHERE WHAT IT READS IS OF BULK AT MOST 1048576: true; the input reads as it did. -/
def deviceSureUptoRow : OpenClaim := { program := "ytjaiodbonffciaa", sum := "39ddad2b91fdcfdbf41756de07bb928daf2edc09ca94a8a000cd0d0b5da098f9", func := "factotum/factotumlaw04.DeviceSure", spec := "deviceSure", unfollowed := true, recurses := true, apart := false, narrowed := true }
def DeviceSureUptoSaid : Prop := deviceSureUptoRow.holds Try.pinned (OpenSpec.upto deviceSureSpec)

/-- 'factotumlaw04.DeviceTorn', WHERE WHAT IT READS IS OF BULK AT MOST 1048576: true; the input reads as it did. -/
def deviceTornUptoRow : OpenClaim := { program := "ytjaiodbonffciaa", sum := "39ddad2b91fdcfdbf41756de07bb928daf2edc09ca94a8a000cd0d0b5da098f9", func := "factotum/factotumlaw04.DeviceTorn", spec := "deviceTorn", unfollowed := true, recurses := true, apart := false, narrowed := true }
def DeviceTornUptoSaid : Prop := deviceTornUptoRow.holds Try.pinned (OpenSpec.upto deviceTornSpec)

/-- 'factotumlaw04.DeviceStops', WHERE WHAT IT READS IS OF BULK AT MOST 1048576: true; the input reads as it did. -/
def deviceStopsUptoRow : OpenClaim := { program := "ytjaiodbonffciaa", sum := "39ddad2b91fdcfdbf41756de07bb928daf2edc09ca94a8a000cd0d0b5da098f9", func := "factotum/factotumlaw04.DeviceStops", spec := "deviceStops", unfollowed := true, recurses := true, apart := false, narrowed := true }
def DeviceStopsUptoSaid : Prop := deviceStopsUptoRow.holds Try.pinned (OpenSpec.upto deviceStopsSpec)

/-- 'factotumlaw04.DeviceNil', WHERE WHAT IT READS IS OF BULK AT MOST 1048576: true; the input reads as it did. -/
def deviceNilUptoRow : OpenClaim := { program := "ytjaiodbonffciaa", sum := "39ddad2b91fdcfdbf41756de07bb928daf2edc09ca94a8a000cd0d0b5da098f9", func := "factotum/factotumlaw04.DeviceNil", spec := "deviceNil", unfollowed := true, recurses := true, apart := false, narrowed := true }
def DeviceNilUptoSaid : Prop := deviceNilUptoRow.holds Try.pinned (OpenSpec.upto deviceNilSpec)

end Rows
end Go.Proofs.Ytjaiodbonffciaa
