/-
  DERIVED. GIVEN WITH THE SEED: THE CARDS: each row of YtongpnolikkknaaDoorRows.lean that lists a variable, with what it lists TIED to the program's text (the seventh form; the later family's looks); each row that meets fmt, with fmt's text TOLD by the authors' own Lean function (tested against real Go, not proved from fmt's source: count such statements apart). THE CARD IS WHAT COUNTS. Prove the row's statement (the work); the ties are given (YtongpnolikkknaaDoorTie.lean); close each card by the builder's one call (the guide's Derived/Test/ToyasCard.lean, 'card_holds'). Laid BY PROGRAM, IN A SANDBOX (cutbox-door.mjs). By AI agents, Wed Nov 11 2026. No macro, syntax, notation, axiom, sorry.
-/
import Derived.Test.YtongpnolikkknaaDoorRows
import GoSem.ClaimSeven
namespace Go.Proofs.YtongpnolikkknaaDoor
namespace Rows

/-- THE TIED CARD OF 'factotumlaw05.UndoDirectory'. -/
def undoDirectoryCard : Claim7 := { stood := { row := undoDirectoryRow, standIns := [], harness := (true, "bc55f99ffd29ce25746517aeaf4097b95a18bd35ae4f5bd74038ac73a1b5cb36"), looks := false }, kinds := [], alts := [], laidByText := true, laidKinds := [.data, .pinned], laidTests := true, laidLooks := .later }
def UndoDirectoryCardSaid : Prop := Claim7.holds Tryd.pinned (.plain (OpenSpec.ofChange undoDirectorySpec)) undoDirectoryCard

/-- THE TIED CARD OF 'factotumlaw05.UndoBack'. -/
def undoBackCard : Claim7 := { stood := { row := undoBackRow, standIns := [], harness := (true, "bc55f99ffd29ce25746517aeaf4097b95a18bd35ae4f5bd74038ac73a1b5cb36"), looks := false }, kinds := [], alts := [], laidByText := true, laidKinds := [.data, .pinned], laidTests := true, laidLooks := .later }
def UndoBackCardSaid : Prop := Claim7.holds Tryd.pinned (.plain (OpenSpec.ofChange undoBackSpec)) undoBackCard

/-- THE TIED CARD OF 'factotumlaw05.UndoMark'. -/
def undoMarkCard : Claim7 := { stood := { row := undoMarkRow, standIns := [], harness := (true, "bc55f99ffd29ce25746517aeaf4097b95a18bd35ae4f5bd74038ac73a1b5cb36"), looks := false }, kinds := [], alts := [], laidByText := true, laidKinds := [.data, .pinned], laidTests := true, laidLooks := .later }
def UndoMarkCardSaid : Prop := Claim7.holds Tryd.pinned (.plain (OpenSpec.ofChange undoMarkSpec)) undoMarkCard

/-- THE TIED CARD OF 'factotumlaw05.UndoApart'. -/
def undoApartCard : Claim7 := { stood := { row := undoApartRow, standIns := [], harness := (true, "bc55f99ffd29ce25746517aeaf4097b95a18bd35ae4f5bd74038ac73a1b5cb36"), looks := false }, kinds := [], alts := [], laidByText := true, laidKinds := [.data, .pinned], laidTests := true, laidLooks := .later }
def UndoApartCardSaid : Prop := Claim7.holds Tryd.pinned (.plain (OpenSpec.ofChange undoApartSpec)) undoApartCard

/-- THE TIED CARD OF 'factotumlaw05.UndoCut'. -/
def undoCutCard : Claim7 := { stood := { row := undoCutRow, standIns := [], harness := (true, "bc55f99ffd29ce25746517aeaf4097b95a18bd35ae4f5bd74038ac73a1b5cb36"), looks := false }, kinds := [], alts := [], laidByText := true, laidKinds := [.data, .pinned], laidTests := true, laidLooks := .later }
def UndoCutCardSaid : Prop := Claim7.holds Tryd.pinned (.plain (OpenSpec.ofChange undoCutSpec)) undoCutCard

/-- THE TIED CARD OF 'factotumlaw07.CacheSize'. -/
def cacheSizeCard : Claim7 := { stood := { row := cacheSizeRow, standIns := [], harness := (true, "bc55f99ffd29ce25746517aeaf4097b95a18bd35ae4f5bd74038ac73a1b5cb36"), looks := false }, kinds := [], alts := [], laidByText := true, laidKinds := [.data, .pinned], laidTests := true, laidLooks := .later }
def CacheSizeCardSaid : Prop := Claim7.holds Tryd.pinned (.plain (OpenSpec.ofChange cacheSizeSpec)) cacheSizeCard

/-- THE TIED CARD OF 'factotumlaw07.CacheMore'. -/
def cacheMoreCard : Claim7 := { stood := { row := cacheMoreRow, standIns := [], harness := (true, "bc55f99ffd29ce25746517aeaf4097b95a18bd35ae4f5bd74038ac73a1b5cb36"), looks := false }, kinds := [], alts := [], laidByText := true, laidKinds := [.data, .pinned], laidTests := true, laidLooks := .later }
def CacheMoreCardSaid : Prop := Claim7.holds Tryd.pinned (.plain (OpenSpec.ofChange cacheMoreSpec)) cacheMoreCard

/-- THE TIED CARD OF 'factotumlaw06.PagerOpens'. -/
def pagerOpensCard : Claim7 := { stood := { row := pagerOpensRow, standIns := [], harness := (true, "bc55f99ffd29ce25746517aeaf4097b95a18bd35ae4f5bd74038ac73a1b5cb36"), looks := false }, kinds := [], alts := [], laidByText := true, laidKinds := [.data, .pinned], laidTests := true, laidLooks := .later }
def PagerOpensCardSaid : Prop := Claim7.holds Tryd.pinned (.plain (OpenSpec.ofChange pagerOpensSpec)) pagerOpensCard

/-- THE TIED CARD OF 'factotumlaw06.PagerNil'. -/
def pagerNilCard : Claim7 := { stood := { row := pagerNilRow, standIns := [], harness := (true, "bc55f99ffd29ce25746517aeaf4097b95a18bd35ae4f5bd74038ac73a1b5cb36"), looks := false }, kinds := [], alts := [], laidByText := true, laidKinds := [.data, .pinned], laidTests := true, laidLooks := .later }
def PagerNilCardSaid : Prop := Claim7.holds Tryd.pinned (.plain (OpenSpec.ofChange pagerNilSpec)) pagerNilCard

/-- THE SECOND FORM's CARD OF 'factotumlaw05.UndoDirectory'. -/
def undoDirectoryUptoCard : Claim7 := { stood := { row := undoDirectoryUptoRow, standIns := [], harness := (true, "bc55f99ffd29ce25746517aeaf4097b95a18bd35ae4f5bd74038ac73a1b5cb36"), looks := false }, kinds := [], alts := [], laidByText := true, laidKinds := [.data, .pinned], laidTests := true, laidLooks := .later }
def UndoDirectoryUptoCardSaid : Prop := Claim7.holds Tryd.pinned (.plain (OpenSpec.upto undoDirectorySpec)) undoDirectoryUptoCard

/-- THE SECOND FORM's CARD OF 'factotumlaw05.UndoBack'. -/
def undoBackUptoCard : Claim7 := { stood := { row := undoBackUptoRow, standIns := [], harness := (true, "bc55f99ffd29ce25746517aeaf4097b95a18bd35ae4f5bd74038ac73a1b5cb36"), looks := false }, kinds := [], alts := [], laidByText := true, laidKinds := [.data, .pinned], laidTests := true, laidLooks := .later }
def UndoBackUptoCardSaid : Prop := Claim7.holds Tryd.pinned (.plain (OpenSpec.upto undoBackSpec)) undoBackUptoCard

/-- THE SECOND FORM's CARD OF 'factotumlaw05.UndoMark'. -/
def undoMarkUptoCard : Claim7 := { stood := { row := undoMarkUptoRow, standIns := [], harness := (true, "bc55f99ffd29ce25746517aeaf4097b95a18bd35ae4f5bd74038ac73a1b5cb36"), looks := false }, kinds := [], alts := [], laidByText := true, laidKinds := [.data, .pinned], laidTests := true, laidLooks := .later }
def UndoMarkUptoCardSaid : Prop := Claim7.holds Tryd.pinned (.plain (OpenSpec.upto undoMarkSpec)) undoMarkUptoCard

/-- THE SECOND FORM's CARD OF 'factotumlaw05.UndoApart'. -/
def undoApartUptoCard : Claim7 := { stood := { row := undoApartUptoRow, standIns := [], harness := (true, "bc55f99ffd29ce25746517aeaf4097b95a18bd35ae4f5bd74038ac73a1b5cb36"), looks := false }, kinds := [], alts := [], laidByText := true, laidKinds := [.data, .pinned], laidTests := true, laidLooks := .later }
def UndoApartUptoCardSaid : Prop := Claim7.holds Tryd.pinned (.plain (OpenSpec.upto undoApartSpec)) undoApartUptoCard

/-- THE SECOND FORM's CARD OF 'factotumlaw05.UndoCut'. -/
def undoCutUptoCard : Claim7 := { stood := { row := undoCutUptoRow, standIns := [], harness := (true, "bc55f99ffd29ce25746517aeaf4097b95a18bd35ae4f5bd74038ac73a1b5cb36"), looks := false }, kinds := [], alts := [], laidByText := true, laidKinds := [.data, .pinned], laidTests := true, laidLooks := .later }
def UndoCutUptoCardSaid : Prop := Claim7.holds Tryd.pinned (.plain (OpenSpec.upto undoCutSpec)) undoCutUptoCard

/-- THE SECOND FORM's CARD OF 'factotumlaw07.CacheSize'. -/
def cacheSizeUptoCard : Claim7 := { stood := { row := cacheSizeUptoRow, standIns := [], harness := (true, "bc55f99ffd29ce25746517aeaf4097b95a18bd35ae4f5bd74038ac73a1b5cb36"), looks := false }, kinds := [], alts := [], laidByText := true, laidKinds := [.data, .pinned], laidTests := true, laidLooks := .later }
def CacheSizeUptoCardSaid : Prop := Claim7.holds Tryd.pinned (.plain (OpenSpec.upto cacheSizeSpec)) cacheSizeUptoCard

/-- THE SECOND FORM's CARD OF 'factotumlaw07.CacheMore'. -/
def cacheMoreUptoCard : Claim7 := { stood := { row := cacheMoreUptoRow, standIns := [], harness := (true, "bc55f99ffd29ce25746517aeaf4097b95a18bd35ae4f5bd74038ac73a1b5cb36"), looks := false }, kinds := [], alts := [], laidByText := true, laidKinds := [.data, .pinned], laidTests := true, laidLooks := .later }
def CacheMoreUptoCardSaid : Prop := Claim7.holds Tryd.pinned (.plain (OpenSpec.upto cacheMoreSpec)) cacheMoreUptoCard

/-- THE SECOND FORM's CARD OF 'factotumlaw06.PagerOpens'. -/
def pagerOpensUptoCard : Claim7 := { stood := { row := pagerOpensUptoRow, standIns := [], harness := (true, "bc55f99ffd29ce25746517aeaf4097b95a18bd35ae4f5bd74038ac73a1b5cb36"), looks := false }, kinds := [], alts := [], laidByText := true, laidKinds := [.data, .pinned], laidTests := true, laidLooks := .later }
def PagerOpensUptoCardSaid : Prop := Claim7.holds Tryd.pinned (.plain (OpenSpec.upto pagerOpensSpec)) pagerOpensUptoCard

/-- THE SECOND FORM's CARD OF 'factotumlaw06.PagerNil'. -/
def pagerNilUptoCard : Claim7 := { stood := { row := pagerNilUptoRow, standIns := [], harness := (true, "bc55f99ffd29ce25746517aeaf4097b95a18bd35ae4f5bd74038ac73a1b5cb36"), looks := false }, kinds := [], alts := [], laidByText := true, laidKinds := [.data, .pinned], laidTests := true, laidLooks := .later }
def PagerNilUptoCardSaid : Prop := Claim7.holds Tryd.pinned (.plain (OpenSpec.upto pagerNilSpec)) pagerNilUptoCard
end Rows
end Go.Proofs.YtongpnolikkknaaDoor
