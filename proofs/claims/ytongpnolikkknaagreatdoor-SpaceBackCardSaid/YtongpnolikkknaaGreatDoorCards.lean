/-
  DERIVED. GIVEN WITH THE SEED: THE CARDS: each row of YtongpnolikkknaaGreatDoorRows.lean that lists a variable, with what it lists TIED to the program's text (the seventh form; the later family's looks); each row that meets fmt, with fmt's text TOLD by the authors' own Lean function (tested against real Go, not proved from fmt's source: count such statements apart). THE CARD IS WHAT COUNTS. Prove the row's statement (the work); the ties are given (YtongpnolikkknaaGreatDoorTie.lean); close each card by the builder's one call (the guide's Derived/Test/ToyasCard.lean, 'card_holds'). Laid BY PROGRAM, IN A SANDBOX (cutbox-door.mjs). By AI agents, Wed Nov 11 2026. No macro, syntax, notation, axiom, sorry.
-/
import Derived.Test.YtongpnolikkknaaGreatDoorRows
import GoSem.ClaimSeven
namespace Go.Proofs.YtongpnolikkknaaGreatDoor
namespace Rows

/-- THE TIED CARD OF 'factotumlaw08.SpaceTakes'. -/
def spaceTakesCard : Claim7 := { stood := { row := spaceTakesRow, standIns := [], harness := (true, "8809c9a78e0d8e24728d7762600e22be6b9ec708090d1991c28b562902b4a54b"), looks := true }, kinds := [], alts := [], laidByText := true, laidKinds := [.data, .pinned], laidTests := true, laidLooks := .later }
def SpaceTakesCardSaid : Prop := Claim7.holds Tryz.pinned (.plain (OpenSpec.ofChange spaceTakesSpec)) spaceTakesCard

/-- THE TIED CARD OF 'factotumlaw07.CacheReads'. -/
def cacheReadsCard : Claim7 := { stood := { row := cacheReadsRow, standIns := [], harness := (true, "8809c9a78e0d8e24728d7762600e22be6b9ec708090d1991c28b562902b4a54b"), looks := true }, kinds := [], alts := [], laidByText := true, laidKinds := [.data, .pinned], laidTests := true, laidLooks := .later }
def CacheReadsCardSaid : Prop := Claim7.holds Tryz.pinned (.plain (OpenSpec.ofChange cacheReadsSpec)) cacheReadsCard

/-- THE TIED CARD OF 'factotumlaw07.CacheKeeps'. -/
def cacheKeepsCard : Claim7 := { stood := { row := cacheKeepsRow, standIns := [], harness := (true, "8809c9a78e0d8e24728d7762600e22be6b9ec708090d1991c28b562902b4a54b"), looks := true }, kinds := [], alts := [], laidByText := true, laidKinds := [.data, .pinned], laidTests := true, laidLooks := .later }
def CacheKeepsCardSaid : Prop := Claim7.holds Tryz.pinned (.plain (OpenSpec.ofChange cacheKeepsSpec)) cacheKeepsCard

/-- THE TIED CARD OF 'factotumlaw07.CacheNil'. -/
def cacheNilCard : Claim7 := { stood := { row := cacheNilRow, standIns := [], harness := (true, "8809c9a78e0d8e24728d7762600e22be6b9ec708090d1991c28b562902b4a54b"), looks := true }, kinds := [], alts := [], laidByText := true, laidKinds := [.data, .pinned], laidTests := true, laidLooks := .later }
def CacheNilCardSaid : Prop := Claim7.holds Tryz.pinned (.plain (OpenSpec.ofChange cacheNilSpec)) cacheNilCard

/-- THE TIED CARD OF 'factotumlaw06.PagerCommits'. -/
def pagerCommitsCard : Claim7 := { stood := { row := pagerCommitsRow, standIns := [], harness := (true, "8809c9a78e0d8e24728d7762600e22be6b9ec708090d1991c28b562902b4a54b"), looks := true }, kinds := [], alts := [], laidByText := true, laidKinds := [.data, .pinned], laidTests := true, laidLooks := .later }
def PagerCommitsCardSaid : Prop := Claim7.holds Tryz.pinned (.plain (OpenSpec.ofChange pagerCommitsSpec)) pagerCommitsCard

/-- THE TIED CARD OF 'factotumlaw06.PagerLost'. -/
def pagerLostCard : Claim7 := { stood := { row := pagerLostRow, standIns := [], harness := (true, "8809c9a78e0d8e24728d7762600e22be6b9ec708090d1991c28b562902b4a54b"), looks := true }, kinds := [], alts := [], laidByText := true, laidKinds := [.data, .pinned], laidTests := true, laidLooks := .later }
def PagerLostCardSaid : Prop := Claim7.holds Tryz.pinned (.plain (OpenSpec.ofChange pagerLostSpec)) pagerLostCard

/-- THE TIED CARD OF 'factotumlaw06.PagerCrash'. -/
def pagerCrashCard : Claim7 := { stood := { row := pagerCrashRow, standIns := [], harness := (true, "8809c9a78e0d8e24728d7762600e22be6b9ec708090d1991c28b562902b4a54b"), looks := true }, kinds := [], alts := [], laidByText := true, laidKinds := [.data, .pinned], laidTests := true, laidLooks := .later }
def PagerCrashCardSaid : Prop := Claim7.holds Tryz.pinned (.plain (OpenSpec.ofChange pagerCrashSpec)) pagerCrashCard

/-- THE TIED CARD OF 'factotumlaw08.SpaceTwo'. -/
def spaceTwoCard : Claim7 := { stood := { row := spaceTwoRow, standIns := [], harness := (true, "8809c9a78e0d8e24728d7762600e22be6b9ec708090d1991c28b562902b4a54b"), looks := true }, kinds := [], alts := [], laidByText := true, laidKinds := [.data, .pinned], laidTests := true, laidLooks := .later }
def SpaceTwoCardSaid : Prop := Claim7.holds Tryz.pinned (.plain (OpenSpec.ofChange spaceTwoSpec)) spaceTwoCard

/-- THE TIED CARD OF 'factotumlaw08.SpacePlays'. -/
def spacePlaysCard : Claim7 := { stood := { row := spacePlaysRow, standIns := [], harness := (true, "8809c9a78e0d8e24728d7762600e22be6b9ec708090d1991c28b562902b4a54b"), looks := true }, kinds := [], alts := [], laidByText := true, laidKinds := [.data, .pinned], laidTests := true, laidLooks := .later }
def SpacePlaysCardSaid : Prop := Claim7.holds Tryz.pinned (.plain (OpenSpec.ofChange spacePlaysSpec)) spacePlaysCard

/-- THE TIED CARD OF 'factotumlaw08.SpaceBack'. -/
def spaceBackCard : Claim7 := { stood := { row := spaceBackRow, standIns := [], harness := (true, "8809c9a78e0d8e24728d7762600e22be6b9ec708090d1991c28b562902b4a54b"), looks := true }, kinds := [], alts := [], laidByText := true, laidKinds := [.data, .pinned], laidTests := true, laidLooks := .later }
def SpaceBackCardSaid : Prop := Claim7.holds Tryz.pinned (.plain (OpenSpec.ofChange spaceBackSpec)) spaceBackCard

/-- THE TIED CARD OF 'factotumlaw08.SpaceNil'. -/
def spaceNilCard : Claim7 := { stood := { row := spaceNilRow, standIns := [], harness := (true, "8809c9a78e0d8e24728d7762600e22be6b9ec708090d1991c28b562902b4a54b"), looks := true }, kinds := [], alts := [], laidByText := true, laidKinds := [.data, .pinned], laidTests := true, laidLooks := .later }
def SpaceNilCardSaid : Prop := Claim7.holds Tryz.pinned (.plain (OpenSpec.ofChange spaceNilSpec)) spaceNilCard

/-- THE SECOND FORM's CARD OF 'factotumlaw08.SpaceTakes'. -/
def spaceTakesUptoCard : Claim7 := { stood := { row := spaceTakesUptoRow, standIns := [], harness := (true, "8809c9a78e0d8e24728d7762600e22be6b9ec708090d1991c28b562902b4a54b"), looks := true }, kinds := [], alts := [], laidByText := true, laidKinds := [.data, .pinned], laidTests := true, laidLooks := .later }
def SpaceTakesUptoCardSaid : Prop := Claim7.holds Tryz.pinned (.plain (OpenSpec.upto spaceTakesSpec)) spaceTakesUptoCard

/-- THE SECOND FORM's CARD OF 'factotumlaw07.CacheReads'. -/
def cacheReadsUptoCard : Claim7 := { stood := { row := cacheReadsUptoRow, standIns := [], harness := (true, "8809c9a78e0d8e24728d7762600e22be6b9ec708090d1991c28b562902b4a54b"), looks := true }, kinds := [], alts := [], laidByText := true, laidKinds := [.data, .pinned], laidTests := true, laidLooks := .later }
def CacheReadsUptoCardSaid : Prop := Claim7.holds Tryz.pinned (.plain (OpenSpec.upto cacheReadsSpec)) cacheReadsUptoCard

/-- THE SECOND FORM's CARD OF 'factotumlaw07.CacheKeeps'. -/
def cacheKeepsUptoCard : Claim7 := { stood := { row := cacheKeepsUptoRow, standIns := [], harness := (true, "8809c9a78e0d8e24728d7762600e22be6b9ec708090d1991c28b562902b4a54b"), looks := true }, kinds := [], alts := [], laidByText := true, laidKinds := [.data, .pinned], laidTests := true, laidLooks := .later }
def CacheKeepsUptoCardSaid : Prop := Claim7.holds Tryz.pinned (.plain (OpenSpec.upto cacheKeepsSpec)) cacheKeepsUptoCard

/-- THE SECOND FORM's CARD OF 'factotumlaw07.CacheNil'. -/
def cacheNilUptoCard : Claim7 := { stood := { row := cacheNilUptoRow, standIns := [], harness := (true, "8809c9a78e0d8e24728d7762600e22be6b9ec708090d1991c28b562902b4a54b"), looks := true }, kinds := [], alts := [], laidByText := true, laidKinds := [.data, .pinned], laidTests := true, laidLooks := .later }
def CacheNilUptoCardSaid : Prop := Claim7.holds Tryz.pinned (.plain (OpenSpec.upto cacheNilSpec)) cacheNilUptoCard

/-- THE SECOND FORM's CARD OF 'factotumlaw06.PagerCommits'. -/
def pagerCommitsUptoCard : Claim7 := { stood := { row := pagerCommitsUptoRow, standIns := [], harness := (true, "8809c9a78e0d8e24728d7762600e22be6b9ec708090d1991c28b562902b4a54b"), looks := true }, kinds := [], alts := [], laidByText := true, laidKinds := [.data, .pinned], laidTests := true, laidLooks := .later }
def PagerCommitsUptoCardSaid : Prop := Claim7.holds Tryz.pinned (.plain (OpenSpec.upto pagerCommitsSpec)) pagerCommitsUptoCard

/-- THE SECOND FORM's CARD OF 'factotumlaw06.PagerLost'. -/
def pagerLostUptoCard : Claim7 := { stood := { row := pagerLostUptoRow, standIns := [], harness := (true, "8809c9a78e0d8e24728d7762600e22be6b9ec708090d1991c28b562902b4a54b"), looks := true }, kinds := [], alts := [], laidByText := true, laidKinds := [.data, .pinned], laidTests := true, laidLooks := .later }
def PagerLostUptoCardSaid : Prop := Claim7.holds Tryz.pinned (.plain (OpenSpec.upto pagerLostSpec)) pagerLostUptoCard

/-- THE SECOND FORM's CARD OF 'factotumlaw06.PagerCrash'. -/
def pagerCrashUptoCard : Claim7 := { stood := { row := pagerCrashUptoRow, standIns := [], harness := (true, "8809c9a78e0d8e24728d7762600e22be6b9ec708090d1991c28b562902b4a54b"), looks := true }, kinds := [], alts := [], laidByText := true, laidKinds := [.data, .pinned], laidTests := true, laidLooks := .later }
def PagerCrashUptoCardSaid : Prop := Claim7.holds Tryz.pinned (.plain (OpenSpec.upto pagerCrashSpec)) pagerCrashUptoCard

/-- THE SECOND FORM's CARD OF 'factotumlaw08.SpaceTwo'. -/
def spaceTwoUptoCard : Claim7 := { stood := { row := spaceTwoUptoRow, standIns := [], harness := (true, "8809c9a78e0d8e24728d7762600e22be6b9ec708090d1991c28b562902b4a54b"), looks := true }, kinds := [], alts := [], laidByText := true, laidKinds := [.data, .pinned], laidTests := true, laidLooks := .later }
def SpaceTwoUptoCardSaid : Prop := Claim7.holds Tryz.pinned (.plain (OpenSpec.upto spaceTwoSpec)) spaceTwoUptoCard

/-- THE SECOND FORM's CARD OF 'factotumlaw08.SpacePlays'. -/
def spacePlaysUptoCard : Claim7 := { stood := { row := spacePlaysUptoRow, standIns := [], harness := (true, "8809c9a78e0d8e24728d7762600e22be6b9ec708090d1991c28b562902b4a54b"), looks := true }, kinds := [], alts := [], laidByText := true, laidKinds := [.data, .pinned], laidTests := true, laidLooks := .later }
def SpacePlaysUptoCardSaid : Prop := Claim7.holds Tryz.pinned (.plain (OpenSpec.upto spacePlaysSpec)) spacePlaysUptoCard

/-- THE SECOND FORM's CARD OF 'factotumlaw08.SpaceBack'. -/
def spaceBackUptoCard : Claim7 := { stood := { row := spaceBackUptoRow, standIns := [], harness := (true, "8809c9a78e0d8e24728d7762600e22be6b9ec708090d1991c28b562902b4a54b"), looks := true }, kinds := [], alts := [], laidByText := true, laidKinds := [.data, .pinned], laidTests := true, laidLooks := .later }
def SpaceBackUptoCardSaid : Prop := Claim7.holds Tryz.pinned (.plain (OpenSpec.upto spaceBackSpec)) spaceBackUptoCard

/-- THE SECOND FORM's CARD OF 'factotumlaw08.SpaceNil'. -/
def spaceNilUptoCard : Claim7 := { stood := { row := spaceNilUptoRow, standIns := [], harness := (true, "8809c9a78e0d8e24728d7762600e22be6b9ec708090d1991c28b562902b4a54b"), looks := true }, kinds := [], alts := [], laidByText := true, laidKinds := [.data, .pinned], laidTests := true, laidLooks := .later }
def SpaceNilUptoCardSaid : Prop := Claim7.holds Tryz.pinned (.plain (OpenSpec.upto spaceNilSpec)) spaceNilUptoCard
end Rows
end Go.Proofs.YtongpnolikkknaaGreatDoor
