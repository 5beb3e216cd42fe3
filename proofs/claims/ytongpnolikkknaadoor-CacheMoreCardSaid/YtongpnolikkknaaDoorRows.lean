/-
  NARROWER THAN 'FOR EVERY INPUT', by the rows' own cells (each row's printed sentence says how): UndoDirectory: laid · UndoBack: laid · UndoMark: laid · UndoApart: laid · UndoCut: laid · CacheSize: laid · CacheMore: laid · PagerOpens: laid · PagerNil: laid.
  DERIVED. THE GIVEN ROWS OF THIS SEAT. 9 by the template 'for every input the law returns true; each argument reads behind the call as it read before'; 0 by the template 'total and deterministic' (their statements: YtongpnolikkknaaDoorTotals.lean).
  GIVEN WITH THE SEED: the statements are not yours to turn. If you find one false, say at which input.
  Laid BY PROGRAM, IN A SANDBOX (cutbox-rows.mjs): the forced cells as the released guide's own fill.sh prints them over the translation 2593ee8b34924ef3… (all of the seat's roots in one cut). By AI agents, Wed Nov 11 2026. No macro, syntax, notation, axiom, sorry.
-/
import Derived.Test.YtongpnolikkknaaDoorChecked
import GoSem.PinnedTables
import GoSem.Claim
import GoSem.ClaimJoined
import GoSem.ClaimMapViews
import Derived.JoinedTies
import Derived.KernelRfl
namespace Go.Proofs.YtongpnolikkknaaDoor
/- THE CELL 'sum', in the pinned program and in every row, IS THE sha256 OF THE DUMP (.gsa) THAT YtongpnolikkknaaDoorProg.lean LOADS. Nothing in Lean hashes anything: it is a label: what it is worth is what the hold of that sum in a sandbox is worth. -/
noncomputable def Tryd.pinned : Pinned := { name := "ytongpnolikkknaadoor", sum := "2593ee8b34924ef378b98162b416983eb7e4470c52aece5440634b882d548a10", checked := Tryd.checked }
namespace Rows
def none {H : Type} : Left H := { results := [], args := [] }

/- WHAT THE LISTED PACKAGE-LEVEL VARIABLES READ AS WHEN THE CALL BEGINS. Each datum BY PROGRAM (the guide's laid-datum.mjs) off the statement by which the dump's own 'gosem.cut.vars' lays the variable. In a bare row this is a premise. The card (YtongpnolikkknaaDoorCards.lean) ties it to the program's text. -/
def laid_unicode_utf8_acceptRanges {H : Type} : DataW H := .agg [.agg [.lit (.int .u8 128), .lit (.int .u8 191)], .agg [.lit (.int .u8 160), .lit (.int .u8 191)], .agg [.lit (.int .u8 128), .lit (.int .u8 159)], .agg [.lit (.int .u8 144), .lit (.int .u8 191)], .agg [.lit (.int .u8 128), .lit (.int .u8 143)], .agg [.lit (.int .u8 0), .lit (.int .u8 0)], .agg [.lit (.int .u8 0), .lit (.int .u8 0)], .agg [.lit (.int .u8 0), .lit (.int .u8 0)], .agg [.lit (.int .u8 0), .lit (.int .u8 0)], .agg [.lit (.int .u8 0), .lit (.int .u8 0)], .agg [.lit (.int .u8 0), .lit (.int .u8 0)], .agg [.lit (.int .u8 0), .lit (.int .u8 0)], .agg [.lit (.int .u8 0), .lit (.int .u8 0)], .agg [.lit (.int .u8 0), .lit (.int .u8 0)], .agg [.lit (.int .u8 0), .lit (.int .u8 0)], .agg [.lit (.int .u8 0), .lit (.int .u8 0)]]
/-- One of Go's own tables, pinned by name: the form's constant. -/
def laid_unicode_utf8_first : DataW Unit := Go.Pinned.utf8First

/-- 'factotumlaw05.UndoDirectory': WHATEVER THE INPUT: true; the input reads as it did. -/
def undoDirectorySpec : ChangeSpec := { name := "undoDirectory", fn := fun _ => fun
  | [d1, d2] => { results := [.lit (.bool true)], args := [d1, d2] }
  | _ => none }
def undoDirectoryRow : OpenClaim := { program := "ytongpnolikkknaadoor", sum := "2593ee8b34924ef378b98162b416983eb7e4470c52aece5440634b882d548a10", func := "factotum/factotumlaw05.UndoDirectory", spec := "undoDirectory", inPlace := ["internal/abi.NoEscape", "internal/bytealg.MakeNoZero", "internal/bytealg.IndexByteString", "internal/bytealg.IndexString"], named := ["unicode/utf8.first", "unicode/utf8.acceptRanges", "internal/bytealg.MaxLen"], apart := false, laid := [("unicode/utf8.acceptRanges", laid_unicode_utf8_acceptRanges), ("unicode/utf8.first", laid_unicode_utf8_first)] }
def UndoDirectorySaid : Prop := undoDirectoryRow.holds Tryd.pinned (OpenSpec.ofChange undoDirectorySpec)

/-- ITS FALSE NEIGHBOUR: 'it returns false'. Refute it at one input. -/
def undoDirectoryWrong : ChangeSpec := { name := "undoDirectory", fn := fun _ => fun
  | [d1, d2] => { results := [.lit (.bool false)], args := [d1, d2] }
  | _ => none }
def UndoDirectoryWrongFalsely : Prop := undoDirectoryRow.holds Tryd.pinned (OpenSpec.ofChange undoDirectoryWrong)

/-- 'factotumlaw05.UndoBack': WHATEVER THE INPUT: true; the input reads as it did. -/
def undoBackSpec : ChangeSpec := { name := "undoBack", fn := fun _ => fun
  | [d1, d2] => { results := [.lit (.bool true)], args := [d1, d2] }
  | _ => none }
def undoBackRow : OpenClaim := { program := "ytongpnolikkknaadoor", sum := "2593ee8b34924ef378b98162b416983eb7e4470c52aece5440634b882d548a10", func := "factotum/factotumlaw05.UndoBack", spec := "undoBack", inPlace := ["internal/abi.NoEscape", "internal/bytealg.MakeNoZero", "internal/bytealg.IndexByteString", "internal/bytealg.IndexString"], named := ["unicode/utf8.first", "unicode/utf8.acceptRanges", "internal/bytealg.MaxLen"], apart := false, laid := [("unicode/utf8.acceptRanges", laid_unicode_utf8_acceptRanges), ("unicode/utf8.first", laid_unicode_utf8_first)] }
def UndoBackSaid : Prop := undoBackRow.holds Tryd.pinned (OpenSpec.ofChange undoBackSpec)

/-- ITS FALSE NEIGHBOUR: 'it returns false'. Refute it at one input. -/
def undoBackWrong : ChangeSpec := { name := "undoBack", fn := fun _ => fun
  | [d1, d2] => { results := [.lit (.bool false)], args := [d1, d2] }
  | _ => none }
def UndoBackWrongFalsely : Prop := undoBackRow.holds Tryd.pinned (OpenSpec.ofChange undoBackWrong)

/-- 'factotumlaw05.UndoMark': WHATEVER THE INPUT: true; the input reads as it did. -/
def undoMarkSpec : ChangeSpec := { name := "undoMark", fn := fun _ => fun
  | [d1, d2, d3] => { results := [.lit (.bool true)], args := [d1, d2, d3] }
  | _ => none }
def undoMarkRow : OpenClaim := { program := "ytongpnolikkknaadoor", sum := "2593ee8b34924ef378b98162b416983eb7e4470c52aece5440634b882d548a10", func := "factotum/factotumlaw05.UndoMark", spec := "undoMark", inPlace := ["internal/abi.NoEscape", "internal/bytealg.MakeNoZero", "internal/bytealg.IndexByteString", "internal/bytealg.IndexString"], named := ["unicode/utf8.first", "unicode/utf8.acceptRanges", "internal/bytealg.MaxLen"], apart := false, laid := [("unicode/utf8.acceptRanges", laid_unicode_utf8_acceptRanges), ("unicode/utf8.first", laid_unicode_utf8_first)] }
def UndoMarkSaid : Prop := undoMarkRow.holds Tryd.pinned (OpenSpec.ofChange undoMarkSpec)

/-- ITS FALSE NEIGHBOUR: 'it returns false'. Refute it at one input. -/
def undoMarkWrong : ChangeSpec := { name := "undoMark", fn := fun _ => fun
  | [d1, d2, d3] => { results := [.lit (.bool false)], args := [d1, d2, d3] }
  | _ => none }
def UndoMarkWrongFalsely : Prop := undoMarkRow.holds Tryd.pinned (OpenSpec.ofChange undoMarkWrong)

/-- 'factotumlaw05.UndoApart': WHATEVER THE INPUT: true; the input reads as it did. -/
def undoApartSpec : ChangeSpec := { name := "undoApart", fn := fun _ => fun
  | [d1, d2, d3] => { results := [.lit (.bool true)], args := [d1, d2, d3] }
  | _ => none }
def undoApartRow : OpenClaim := { program := "ytongpnolikkknaadoor", sum := "2593ee8b34924ef378b98162b416983eb7e4470c52aece5440634b882d548a10", func := "factotum/factotumlaw05.UndoApart", spec := "undoApart", inPlace := ["internal/abi.NoEscape", "internal/bytealg.MakeNoZero", "internal/bytealg.IndexByteString", "internal/bytealg.IndexString"], named := ["unicode/utf8.first", "unicode/utf8.acceptRanges", "internal/bytealg.MaxLen"], apart := false, laid := [("unicode/utf8.acceptRanges", laid_unicode_utf8_acceptRanges), ("unicode/utf8.first", laid_unicode_utf8_first)] }
def UndoApartSaid : Prop := undoApartRow.holds Tryd.pinned (OpenSpec.ofChange undoApartSpec)

/-- ITS FALSE NEIGHBOUR: 'it returns false'. Refute it at one input. -/
def undoApartWrong : ChangeSpec := { name := "undoApart", fn := fun _ => fun
  | [d1, d2, d3] => { results := [.lit (.bool false)], args := [d1, d2, d3] }
  | _ => none }
def UndoApartWrongFalsely : Prop := undoApartRow.holds Tryd.pinned (OpenSpec.ofChange undoApartWrong)

/-- 'factotumlaw05.UndoCut': WHATEVER THE INPUT: true; the input reads as it did. -/
def undoCutSpec : ChangeSpec := { name := "undoCut", fn := fun _ => fun
  | [d1, d2] => { results := [.lit (.bool true)], args := [d1, d2] }
  | _ => none }
def undoCutRow : OpenClaim := { program := "ytongpnolikkknaadoor", sum := "2593ee8b34924ef378b98162b416983eb7e4470c52aece5440634b882d548a10", func := "factotum/factotumlaw05.UndoCut", spec := "undoCut", inPlace := ["internal/abi.NoEscape", "internal/bytealg.MakeNoZero", "internal/bytealg.IndexByteString", "internal/bytealg.IndexString"], unfollowed := true, recurses := true, named := ["unicode/utf8.first", "unicode/utf8.acceptRanges", "internal/bytealg.MaxLen"], apart := false, laid := [("unicode/utf8.acceptRanges", laid_unicode_utf8_acceptRanges), ("unicode/utf8.first", laid_unicode_utf8_first)] }
def UndoCutSaid : Prop := undoCutRow.holds Tryd.pinned (OpenSpec.ofChange undoCutSpec)

/-- ITS FALSE NEIGHBOUR: 'it returns false'. Refute it at one input. -/
def undoCutWrong : ChangeSpec := { name := "undoCut", fn := fun _ => fun
  | [d1, d2] => { results := [.lit (.bool false)], args := [d1, d2] }
  | _ => none }
def UndoCutWrongFalsely : Prop := undoCutRow.holds Tryd.pinned (OpenSpec.ofChange undoCutWrong)

/-- 'factotumlaw07.CacheSize': WHATEVER THE INPUT: true; the input reads as it did. -/
def cacheSizeSpec : ChangeSpec := { name := "cacheSize", fn := fun _ => fun
  | [d1, d2, d3] => { results := [.lit (.bool true)], args := [d1, d2, d3] }
  | _ => none }
def cacheSizeRow : OpenClaim := { program := "ytongpnolikkknaadoor", sum := "2593ee8b34924ef378b98162b416983eb7e4470c52aece5440634b882d548a10", func := "factotum/factotumlaw07.CacheSize", spec := "cacheSize", inPlace := ["internal/abi.NoEscape", "internal/bytealg.MakeNoZero", "internal/bytealg.IndexByteString", "internal/bytealg.IndexString"], unfollowed := true, recurses := true, named := ["unicode/utf8.first", "unicode/utf8.acceptRanges", "internal/bytealg.MaxLen"], apart := false, laid := [("unicode/utf8.acceptRanges", laid_unicode_utf8_acceptRanges), ("unicode/utf8.first", laid_unicode_utf8_first)] }
def CacheSizeSaid : Prop := cacheSizeRow.holds Tryd.pinned (OpenSpec.ofChange cacheSizeSpec)

/-- ITS FALSE NEIGHBOUR: 'it returns false'. Refute it at one input. -/
def cacheSizeWrong : ChangeSpec := { name := "cacheSize", fn := fun _ => fun
  | [d1, d2, d3] => { results := [.lit (.bool false)], args := [d1, d2, d3] }
  | _ => none }
def CacheSizeWrongFalsely : Prop := cacheSizeRow.holds Tryd.pinned (OpenSpec.ofChange cacheSizeWrong)

/-- 'factotumlaw07.CacheMore': WHATEVER THE INPUT: true; the input reads as it did. -/
def cacheMoreSpec : ChangeSpec := { name := "cacheMore", fn := fun _ => fun
  | [d1, d2, d3] => { results := [.lit (.bool true)], args := [d1, d2, d3] }
  | _ => none }
def cacheMoreRow : OpenClaim := { program := "ytongpnolikkknaadoor", sum := "2593ee8b34924ef378b98162b416983eb7e4470c52aece5440634b882d548a10", func := "factotum/factotumlaw07.CacheMore", spec := "cacheMore", inPlace := ["internal/abi.NoEscape", "internal/bytealg.MakeNoZero", "internal/bytealg.IndexByteString", "internal/bytealg.IndexString"], unfollowed := true, recurses := true, named := ["unicode/utf8.first", "unicode/utf8.acceptRanges", "internal/bytealg.MaxLen"], apart := false, laid := [("unicode/utf8.acceptRanges", laid_unicode_utf8_acceptRanges), ("unicode/utf8.first", laid_unicode_utf8_first)] }
def CacheMoreSaid : Prop := cacheMoreRow.holds Tryd.pinned (OpenSpec.ofChange cacheMoreSpec)

/-- ITS FALSE NEIGHBOUR: 'it returns false'. Refute it at one input. -/
def cacheMoreWrong : ChangeSpec := { name := "cacheMore", fn := fun _ => fun
  | [d1, d2, d3] => { results := [.lit (.bool false)], args := [d1, d2, d3] }
  | _ => none }
def CacheMoreWrongFalsely : Prop := cacheMoreRow.holds Tryd.pinned (OpenSpec.ofChange cacheMoreWrong)

/-- 'factotumlaw06.PagerOpens': WHATEVER THE INPUT: true; the input reads as it did. -/
def pagerOpensSpec : ChangeSpec := { name := "pagerOpens", fn := fun _ => fun
  | [d1, d2, d3] => { results := [.lit (.bool true)], args := [d1, d2, d3] }
  | _ => none }
def pagerOpensRow : OpenClaim := { program := "ytongpnolikkknaadoor", sum := "2593ee8b34924ef378b98162b416983eb7e4470c52aece5440634b882d548a10", func := "factotum/factotumlaw06.PagerOpens", spec := "pagerOpens", inPlace := ["internal/abi.NoEscape", "internal/bytealg.MakeNoZero", "internal/bytealg.IndexByteString", "internal/bytealg.IndexString"], unfollowed := true, recurses := true, named := ["unicode/utf8.first", "unicode/utf8.acceptRanges", "internal/bytealg.MaxLen"], apart := false, laid := [("unicode/utf8.acceptRanges", laid_unicode_utf8_acceptRanges), ("unicode/utf8.first", laid_unicode_utf8_first)] }
def PagerOpensSaid : Prop := pagerOpensRow.holds Tryd.pinned (OpenSpec.ofChange pagerOpensSpec)

/-- ITS FALSE NEIGHBOUR: 'it returns false'. Refute it at one input. -/
def pagerOpensWrong : ChangeSpec := { name := "pagerOpens", fn := fun _ => fun
  | [d1, d2, d3] => { results := [.lit (.bool false)], args := [d1, d2, d3] }
  | _ => none }
def PagerOpensWrongFalsely : Prop := pagerOpensRow.holds Tryd.pinned (OpenSpec.ofChange pagerOpensWrong)

/-- 'factotumlaw06.PagerNil': WHATEVER THE INPUT: true; the input reads as it did. -/
def pagerNilSpec : ChangeSpec := { name := "pagerNil", fn := fun _ => fun
  | [d1, d2] => { results := [.lit (.bool true)], args := [d1, d2] }
  | _ => none }
def pagerNilRow : OpenClaim := { program := "ytongpnolikkknaadoor", sum := "2593ee8b34924ef378b98162b416983eb7e4470c52aece5440634b882d548a10", func := "factotum/factotumlaw06.PagerNil", spec := "pagerNil", inPlace := ["internal/abi.NoEscape", "internal/bytealg.MakeNoZero", "internal/bytealg.IndexByteString", "internal/bytealg.IndexString"], unfollowed := true, recurses := true, named := ["unicode/utf8.first", "unicode/utf8.acceptRanges", "internal/bytealg.MaxLen"], apart := false, laid := [("unicode/utf8.acceptRanges", laid_unicode_utf8_acceptRanges), ("unicode/utf8.first", laid_unicode_utf8_first)] }
def PagerNilSaid : Prop := pagerNilRow.holds Tryd.pinned (OpenSpec.ofChange pagerNilSpec)

/-- ITS FALSE NEIGHBOUR: 'it returns false'. Refute it at one input. -/
def pagerNilWrong : ChangeSpec := { name := "pagerNil", fn := fun _ => fun
  | [d1, d2] => { results := [.lit (.bool false)], args := [d1, d2] }
  | _ => none }
def PagerNilWrongFalsely : Prop := pagerNilRow.holds Tryd.pinned (OpenSpec.ofChange pagerNilWrong)

/- THE SECOND FORM. 'bulk': how many values and letters a reading holds, each counted each time it is reached (what is shared counts as often as it is met; a slice's spare places count too). A statement '..UptoSaid' is the law's where the arguments, and the package variables that the reading takes, are together of bulk at most 1048576: NARROWER than '..Said'. Prove '..Said' where nothing that the law and all that it calls make is longer than what came in: it says more and counts as full. Else prove '..UptoSaid'. A law counts once. -/
mutual
def uptoBulk {H : Type} : DataW H → Nat
  | .lit (.string bytes) => bytes.length + 1
  | .lit _ => 1
  | .nil => 1
  | .ptr d => uptoBulk d + 1
  | .slice elems spare => uptoBulkAll elems + uptoBulkAll spare + 1
  | .agg parts => uptoBulkAll parts + 1
  | .iface _ d => uptoBulk d + 1
  | .map entries => uptoBulkEntries entries + 1
  | .held _ => 1
def uptoBulkAll {H : Type} : List (DataW H) → Nat
  | [] => 0
  | d :: r => uptoBulk d + uptoBulkAll r
def uptoBulkEntries {H : Type} : List (Lit × DataW H) → Nat
  | [] => 0
  | x :: r => uptoBulkEntry x + uptoBulkEntries r
def uptoBulkEntry {H : Type} : Lit × DataW H → Nat
  | (.string bytes, d) => bytes.length + uptoBulk d + 1
  | (_, d) => uptoBulk d + 1
 end
def uptoSmall : (H : Type) → List (DataW H) → Bool := fun _ ds => decide (uptoBulkAll ds ≤ 1048576)
def OpenSpec.upto (s : _root_.Go.ChangeSpec) : _root_.Go.OpenSpec := { _root_.Go.OpenSpec.ofChange s with cond := some uptoSmall }

/-- 'factotumlaw05.UndoDirectory', WHERE WHAT IT READS IS OF BULK AT MOST 1048576: true; the input reads as it did. -/
def undoDirectoryUptoRow : OpenClaim := { program := "ytongpnolikkknaadoor", sum := "2593ee8b34924ef378b98162b416983eb7e4470c52aece5440634b882d548a10", func := "factotum/factotumlaw05.UndoDirectory", spec := "undoDirectory", inPlace := ["internal/abi.NoEscape", "internal/bytealg.MakeNoZero", "internal/bytealg.IndexByteString", "internal/bytealg.IndexString"], named := ["unicode/utf8.first", "unicode/utf8.acceptRanges", "internal/bytealg.MaxLen"], apart := false, laid := [("unicode/utf8.acceptRanges", laid_unicode_utf8_acceptRanges), ("unicode/utf8.first", laid_unicode_utf8_first)], narrowed := true }
def UndoDirectoryUptoSaid : Prop := undoDirectoryUptoRow.holds Tryd.pinned (OpenSpec.upto undoDirectorySpec)

/-- 'factotumlaw05.UndoBack', WHERE WHAT IT READS IS OF BULK AT MOST 1048576: true; the input reads as it did. -/
def undoBackUptoRow : OpenClaim := { program := "ytongpnolikkknaadoor", sum := "2593ee8b34924ef378b98162b416983eb7e4470c52aece5440634b882d548a10", func := "factotum/factotumlaw05.UndoBack", spec := "undoBack", inPlace := ["internal/abi.NoEscape", "internal/bytealg.MakeNoZero", "internal/bytealg.IndexByteString", "internal/bytealg.IndexString"], named := ["unicode/utf8.first", "unicode/utf8.acceptRanges", "internal/bytealg.MaxLen"], apart := false, laid := [("unicode/utf8.acceptRanges", laid_unicode_utf8_acceptRanges), ("unicode/utf8.first", laid_unicode_utf8_first)], narrowed := true }
def UndoBackUptoSaid : Prop := undoBackUptoRow.holds Tryd.pinned (OpenSpec.upto undoBackSpec)

/-- 'factotumlaw05.UndoMark', WHERE WHAT IT READS IS OF BULK AT MOST 1048576: true; the input reads as it did. -/
def undoMarkUptoRow : OpenClaim := { program := "ytongpnolikkknaadoor", sum := "2593ee8b34924ef378b98162b416983eb7e4470c52aece5440634b882d548a10", func := "factotum/factotumlaw05.UndoMark", spec := "undoMark", inPlace := ["internal/abi.NoEscape", "internal/bytealg.MakeNoZero", "internal/bytealg.IndexByteString", "internal/bytealg.IndexString"], named := ["unicode/utf8.first", "unicode/utf8.acceptRanges", "internal/bytealg.MaxLen"], apart := false, laid := [("unicode/utf8.acceptRanges", laid_unicode_utf8_acceptRanges), ("unicode/utf8.first", laid_unicode_utf8_first)], narrowed := true }
def UndoMarkUptoSaid : Prop := undoMarkUptoRow.holds Tryd.pinned (OpenSpec.upto undoMarkSpec)

/-- 'factotumlaw05.UndoApart', WHERE WHAT IT READS IS OF BULK AT MOST 1048576: true; the input reads as it did. -/
def undoApartUptoRow : OpenClaim := { program := "ytongpnolikkknaadoor", sum := "2593ee8b34924ef378b98162b416983eb7e4470c52aece5440634b882d548a10", func := "factotum/factotumlaw05.UndoApart", spec := "undoApart", inPlace := ["internal/abi.NoEscape", "internal/bytealg.MakeNoZero", "internal/bytealg.IndexByteString", "internal/bytealg.IndexString"], named := ["unicode/utf8.first", "unicode/utf8.acceptRanges", "internal/bytealg.MaxLen"], apart := false, laid := [("unicode/utf8.acceptRanges", laid_unicode_utf8_acceptRanges), ("unicode/utf8.first", laid_unicode_utf8_first)], narrowed := true }
def UndoApartUptoSaid : Prop := undoApartUptoRow.holds Tryd.pinned (OpenSpec.upto undoApartSpec)

/-- 'factotumlaw05.UndoCut', WHERE WHAT IT READS IS OF BULK AT MOST 1048576: true; the input reads as it did. -/
def undoCutUptoRow : OpenClaim := { program := "ytongpnolikkknaadoor", sum := "2593ee8b34924ef378b98162b416983eb7e4470c52aece5440634b882d548a10", func := "factotum/factotumlaw05.UndoCut", spec := "undoCut", inPlace := ["internal/abi.NoEscape", "internal/bytealg.MakeNoZero", "internal/bytealg.IndexByteString", "internal/bytealg.IndexString"], unfollowed := true, recurses := true, named := ["unicode/utf8.first", "unicode/utf8.acceptRanges", "internal/bytealg.MaxLen"], apart := false, laid := [("unicode/utf8.acceptRanges", laid_unicode_utf8_acceptRanges), ("unicode/utf8.first", laid_unicode_utf8_first)], narrowed := true }
def UndoCutUptoSaid : Prop := undoCutUptoRow.holds Tryd.pinned (OpenSpec.upto undoCutSpec)

/-- 'factotumlaw07.CacheSize', WHERE WHAT IT READS IS OF BULK AT MOST 1048576: true; the input reads as it did. -/
def cacheSizeUptoRow : OpenClaim := { program := "ytongpnolikkknaadoor", sum := "2593ee8b34924ef378b98162b416983eb7e4470c52aece5440634b882d548a10", func := "factotum/factotumlaw07.CacheSize", spec := "cacheSize", inPlace := ["internal/abi.NoEscape", "internal/bytealg.MakeNoZero", "internal/bytealg.IndexByteString", "internal/bytealg.IndexString"], unfollowed := true, recurses := true, named := ["unicode/utf8.first", "unicode/utf8.acceptRanges", "internal/bytealg.MaxLen"], apart := false, laid := [("unicode/utf8.acceptRanges", laid_unicode_utf8_acceptRanges), ("unicode/utf8.first", laid_unicode_utf8_first)], narrowed := true }
def CacheSizeUptoSaid : Prop := cacheSizeUptoRow.holds Tryd.pinned (OpenSpec.upto cacheSizeSpec)

/-- 'factotumlaw07.CacheMore', WHERE WHAT IT READS IS OF BULK AT MOST 1048576: true; the input reads as it did. -/
def cacheMoreUptoRow : OpenClaim := { program := "ytongpnolikkknaadoor", sum := "2593ee8b34924ef378b98162b416983eb7e4470c52aece5440634b882d548a10", func := "factotum/factotumlaw07.CacheMore", spec := "cacheMore", inPlace := ["internal/abi.NoEscape", "internal/bytealg.MakeNoZero", "internal/bytealg.IndexByteString", "internal/bytealg.IndexString"], unfollowed := true, recurses := true, named := ["unicode/utf8.first", "unicode/utf8.acceptRanges", "internal/bytealg.MaxLen"], apart := false, laid := [("unicode/utf8.acceptRanges", laid_unicode_utf8_acceptRanges), ("unicode/utf8.first", laid_unicode_utf8_first)], narrowed := true }
def CacheMoreUptoSaid : Prop := cacheMoreUptoRow.holds Tryd.pinned (OpenSpec.upto cacheMoreSpec)

/-- 'factotumlaw06.PagerOpens', WHERE WHAT IT READS IS OF BULK AT MOST 1048576: true; the input reads as it did. -/
def pagerOpensUptoRow : OpenClaim := { program := "ytongpnolikkknaadoor", sum := "2593ee8b34924ef378b98162b416983eb7e4470c52aece5440634b882d548a10", func := "factotum/factotumlaw06.PagerOpens", spec := "pagerOpens", inPlace := ["internal/abi.NoEscape", "internal/bytealg.MakeNoZero", "internal/bytealg.IndexByteString", "internal/bytealg.IndexString"], unfollowed := true, recurses := true, named := ["unicode/utf8.first", "unicode/utf8.acceptRanges", "internal/bytealg.MaxLen"], apart := false, laid := [("unicode/utf8.acceptRanges", laid_unicode_utf8_acceptRanges), ("unicode/utf8.first", laid_unicode_utf8_first)], narrowed := true }
def PagerOpensUptoSaid : Prop := pagerOpensUptoRow.holds Tryd.pinned (OpenSpec.upto pagerOpensSpec)

/-- 'factotumlaw06.PagerNil', WHERE WHAT IT READS IS OF BULK AT MOST 1048576: true; the input reads as it did. -/
def pagerNilUptoRow : OpenClaim := { program := "ytongpnolikkknaadoor", sum := "2593ee8b34924ef378b98162b416983eb7e4470c52aece5440634b882d548a10", func := "factotum/factotumlaw06.PagerNil", spec := "pagerNil", inPlace := ["internal/abi.NoEscape", "internal/bytealg.MakeNoZero", "internal/bytealg.IndexByteString", "internal/bytealg.IndexString"], unfollowed := true, recurses := true, named := ["unicode/utf8.first", "unicode/utf8.acceptRanges", "internal/bytealg.MaxLen"], apart := false, laid := [("unicode/utf8.acceptRanges", laid_unicode_utf8_acceptRanges), ("unicode/utf8.first", laid_unicode_utf8_first)], narrowed := true }
def PagerNilUptoSaid : Prop := pagerNilUptoRow.holds Tryd.pinned (OpenSpec.upto pagerNilSpec)

end Rows
end Go.Proofs.YtongpnolikkknaaDoor
