/-
  DERIVED. GIVEN WITH THE SEED: THE CARDS: each row of YtmejkfclabmijaaGreatDoorRows.lean that lists a variable, with what it lists TIED to the program's text (the seventh form; the later family's looks); each row that meets fmt, with fmt's text TOLD by the authors' own Lean function (tested against real Go, not proved from fmt's source: count such statements apart). THE CARD IS WHAT COUNTS. Prove the row's statement (the work); the ties are given (YtmejkfclabmijaaGreatDoorTie.lean); close each card by the builder's one call (the guide's Derived/Test/ToyasCard.lean, 'card_holds'). Laid BY PROGRAM, IN A SANDBOX (cutbox-door.mjs). By AI agents, Wed Nov 11 2026. No macro, syntax, notation, axiom, sorry.
-/
import Derived.Test.YtmejkfclabmijaaGreatDoorRows
import GoSem.ClaimSeven
namespace Go.Proofs.YtmejkfclabmijaaGreatDoor
namespace Rows

/-- THE TIED CARD OF 'loupelaw06.PathTexts'. -/
def pathTextsCard : Claim7 := { stood := { row := pathTextsRow, standIns := [], harness := (true, "facfe3194bd696c627511d0b112ec8c0d3ea13ce2e861290851af6ee4eec2044"), looks := true }, kinds := [], alts := [], laidByText := true, laidKinds := [.data, .data, .data, .data, .sentinel, .sentinel, .pinned], laidTests := true, laidLooks := .later }
def PathTextsCardSaid : Prop := Claim7.holds Tryz.pinned (.plain (OpenSpec.ofChange pathTextsSpec)) pathTextsCard

/-- THE TIED CARD OF 'loupelaw06.PathGets'. -/
def pathGetsCard : Claim7 := { stood := { row := pathGetsRow, standIns := [], harness := (true, "facfe3194bd696c627511d0b112ec8c0d3ea13ce2e861290851af6ee4eec2044"), looks := true }, kinds := [], alts := [], laidByText := true, laidKinds := [.data, .data, .data, .data, .sentinel, .sentinel, .pinned], laidTests := true, laidLooks := .later }
def PathGetsCardSaid : Prop := Claim7.holds Tryz.pinned (.plain (OpenSpec.ofChange pathGetsSpec)) pathGetsCard

/-- THE TIED CARD OF 'loupelaw06.PathBack'. -/
def pathBackCard : Claim7 := { stood := { row := pathBackRow, standIns := [], harness := (true, "facfe3194bd696c627511d0b112ec8c0d3ea13ce2e861290851af6ee4eec2044"), looks := true }, kinds := [], alts := [], laidByText := true, laidKinds := [.data, .data, .data, .data, .sentinel, .sentinel, .pinned], laidTests := true, laidLooks := .later }
def PathBackCardSaid : Prop := Claim7.holds Tryz.pinned (.plain (OpenSpec.ofChange pathBackSpec)) pathBackCard

/-- THE TIED CARD OF 'loupelaw06.PathSets'. -/
def pathSetsCard : Claim7 := { stood := { row := pathSetsRow, standIns := [], harness := (true, "facfe3194bd696c627511d0b112ec8c0d3ea13ce2e861290851af6ee4eec2044"), looks := true }, kinds := [], alts := [], laidByText := true, laidKinds := [.data, .data, .data, .data, .sentinel, .sentinel, .pinned], laidTests := true, laidLooks := .later }
def PathSetsCardSaid : Prop := Claim7.holds Tryz.pinned (.plain (OpenSpec.ofChange pathSetsSpec)) pathSetsCard

/-- THE TIED CARD OF 'loupelaw06.PathApart'. -/
def pathApartCard : Claim7 := { stood := { row := pathApartRow, standIns := [], harness := (true, "facfe3194bd696c627511d0b112ec8c0d3ea13ce2e861290851af6ee4eec2044"), looks := true }, kinds := [], alts := [], laidByText := true, laidKinds := [.data, .data, .data, .data, .sentinel, .sentinel, .pinned], laidTests := true, laidLooks := .later }
def PathApartCardSaid : Prop := Claim7.holds Tryz.pinned (.plain (OpenSpec.ofChange pathApartSpec)) pathApartCard

/-- THE TIED CARD OF 'loupelaw06.PathSteps'. -/
def pathStepsCard : Claim7 := { stood := { row := pathStepsRow, standIns := [], harness := (true, "facfe3194bd696c627511d0b112ec8c0d3ea13ce2e861290851af6ee4eec2044"), looks := true }, kinds := [], alts := [], laidByText := true, laidKinds := [.data, .data, .data, .data, .sentinel, .sentinel, .pinned], laidTests := true, laidLooks := .later }
def PathStepsCardSaid : Prop := Claim7.holds Tryz.pinned (.plain (OpenSpec.ofChange pathStepsSpec)) pathStepsCard

/-- THE TIED CARD OF 'loupelaw14.MembTells'. -/
def membTellsCard : Claim7 := { stood := { row := membTellsRow, standIns := [], harness := (true, "facfe3194bd696c627511d0b112ec8c0d3ea13ce2e861290851af6ee4eec2044"), looks := true }, kinds := [], alts := [], laidByText := true, laidKinds := [.data, .data, .data, .data, .sentinel, .sentinel, .pinned], laidTests := true, laidLooks := .later }
def MembTellsCardSaid : Prop := Claim7.holds Tryz.pinned (.plain (OpenSpec.ofChange membTellsSpec)) membTellsCard

/-- THE TIED CARD OF 'loupelaw14.MembKeys'. -/
def membKeysCard : Claim7 := { stood := { row := membKeysRow, standIns := [], harness := (true, "facfe3194bd696c627511d0b112ec8c0d3ea13ce2e861290851af6ee4eec2044"), looks := true }, kinds := [], alts := [], laidByText := true, laidKinds := [.data, .data, .data, .data, .sentinel, .sentinel, .pinned], laidTests := true, laidLooks := .later }
def MembKeysCardSaid : Prop := Claim7.holds Tryz.pinned (.plain (OpenSpec.ofChange membKeysSpec)) membKeysCard

/-- THE TIED CARD OF 'loupelaw14.MembSorted'. -/
def membSortedCard : Claim7 := { stood := { row := membSortedRow, standIns := [], harness := (true, "facfe3194bd696c627511d0b112ec8c0d3ea13ce2e861290851af6ee4eec2044"), looks := true }, kinds := [], alts := [], laidByText := true, laidKinds := [.data, .data, .data, .data, .sentinel, .sentinel, .pinned], laidTests := true, laidLooks := .later }
def MembSortedCardSaid : Prop := Claim7.holds Tryz.pinned (.plain (OpenSpec.ofChange membSortedSpec)) membSortedCard

/-- THE TIED CARD OF 'loupelaw14.MembEntries'. -/
def membEntriesCard : Claim7 := { stood := { row := membEntriesRow, standIns := [], harness := (true, "facfe3194bd696c627511d0b112ec8c0d3ea13ce2e861290851af6ee4eec2044"), looks := true }, kinds := [], alts := [], laidByText := true, laidKinds := [.data, .data, .data, .data, .sentinel, .sentinel, .pinned], laidTests := true, laidLooks := .later }
def MembEntriesCardSaid : Prop := Claim7.holds Tryz.pinned (.plain (OpenSpec.ofChange membEntriesSpec)) membEntriesCard

/-- THE TIED CARD OF 'loupelaw14.MembParts'. -/
def membPartsCard : Claim7 := { stood := { row := membPartsRow, standIns := [], harness := (true, "facfe3194bd696c627511d0b112ec8c0d3ea13ce2e861290851af6ee4eec2044"), looks := true }, kinds := [], alts := [], laidByText := true, laidKinds := [.data, .data, .data, .data, .sentinel, .sentinel, .pinned], laidTests := true, laidLooks := .later }
def MembPartsCardSaid : Prop := Claim7.holds Tryz.pinned (.plain (OpenSpec.ofChange membPartsSpec)) membPartsCard

/-- THE SECOND FORM's CARD OF 'loupelaw06.PathTexts'. -/
def pathTextsUptoCard : Claim7 := { stood := { row := pathTextsUptoRow, standIns := [], harness := (true, "facfe3194bd696c627511d0b112ec8c0d3ea13ce2e861290851af6ee4eec2044"), looks := true }, kinds := [], alts := [], laidByText := true, laidKinds := [.data, .data, .data, .data, .sentinel, .sentinel, .pinned], laidTests := true, laidLooks := .later }
def PathTextsUptoCardSaid : Prop := Claim7.holds Tryz.pinned (.plain (OpenSpec.upto pathTextsSpec)) pathTextsUptoCard

/-- THE SECOND FORM's CARD OF 'loupelaw06.PathGets'. -/
def pathGetsUptoCard : Claim7 := { stood := { row := pathGetsUptoRow, standIns := [], harness := (true, "facfe3194bd696c627511d0b112ec8c0d3ea13ce2e861290851af6ee4eec2044"), looks := true }, kinds := [], alts := [], laidByText := true, laidKinds := [.data, .data, .data, .data, .sentinel, .sentinel, .pinned], laidTests := true, laidLooks := .later }
def PathGetsUptoCardSaid : Prop := Claim7.holds Tryz.pinned (.plain (OpenSpec.upto pathGetsSpec)) pathGetsUptoCard

/-- THE SECOND FORM's CARD OF 'loupelaw06.PathBack'. -/
def pathBackUptoCard : Claim7 := { stood := { row := pathBackUptoRow, standIns := [], harness := (true, "facfe3194bd696c627511d0b112ec8c0d3ea13ce2e861290851af6ee4eec2044"), looks := true }, kinds := [], alts := [], laidByText := true, laidKinds := [.data, .data, .data, .data, .sentinel, .sentinel, .pinned], laidTests := true, laidLooks := .later }
def PathBackUptoCardSaid : Prop := Claim7.holds Tryz.pinned (.plain (OpenSpec.upto pathBackSpec)) pathBackUptoCard

/-- THE SECOND FORM's CARD OF 'loupelaw06.PathSets'. -/
def pathSetsUptoCard : Claim7 := { stood := { row := pathSetsUptoRow, standIns := [], harness := (true, "facfe3194bd696c627511d0b112ec8c0d3ea13ce2e861290851af6ee4eec2044"), looks := true }, kinds := [], alts := [], laidByText := true, laidKinds := [.data, .data, .data, .data, .sentinel, .sentinel, .pinned], laidTests := true, laidLooks := .later }
def PathSetsUptoCardSaid : Prop := Claim7.holds Tryz.pinned (.plain (OpenSpec.upto pathSetsSpec)) pathSetsUptoCard

/-- THE SECOND FORM's CARD OF 'loupelaw06.PathApart'. -/
def pathApartUptoCard : Claim7 := { stood := { row := pathApartUptoRow, standIns := [], harness := (true, "facfe3194bd696c627511d0b112ec8c0d3ea13ce2e861290851af6ee4eec2044"), looks := true }, kinds := [], alts := [], laidByText := true, laidKinds := [.data, .data, .data, .data, .sentinel, .sentinel, .pinned], laidTests := true, laidLooks := .later }
def PathApartUptoCardSaid : Prop := Claim7.holds Tryz.pinned (.plain (OpenSpec.upto pathApartSpec)) pathApartUptoCard

/-- THE SECOND FORM's CARD OF 'loupelaw06.PathSteps'. -/
def pathStepsUptoCard : Claim7 := { stood := { row := pathStepsUptoRow, standIns := [], harness := (true, "facfe3194bd696c627511d0b112ec8c0d3ea13ce2e861290851af6ee4eec2044"), looks := true }, kinds := [], alts := [], laidByText := true, laidKinds := [.data, .data, .data, .data, .sentinel, .sentinel, .pinned], laidTests := true, laidLooks := .later }
def PathStepsUptoCardSaid : Prop := Claim7.holds Tryz.pinned (.plain (OpenSpec.upto pathStepsSpec)) pathStepsUptoCard

/-- THE SECOND FORM's CARD OF 'loupelaw14.MembTells'. -/
def membTellsUptoCard : Claim7 := { stood := { row := membTellsUptoRow, standIns := [], harness := (true, "facfe3194bd696c627511d0b112ec8c0d3ea13ce2e861290851af6ee4eec2044"), looks := true }, kinds := [], alts := [], laidByText := true, laidKinds := [.data, .data, .data, .data, .sentinel, .sentinel, .pinned], laidTests := true, laidLooks := .later }
def MembTellsUptoCardSaid : Prop := Claim7.holds Tryz.pinned (.plain (OpenSpec.upto membTellsSpec)) membTellsUptoCard

/-- THE SECOND FORM's CARD OF 'loupelaw14.MembKeys'. -/
def membKeysUptoCard : Claim7 := { stood := { row := membKeysUptoRow, standIns := [], harness := (true, "facfe3194bd696c627511d0b112ec8c0d3ea13ce2e861290851af6ee4eec2044"), looks := true }, kinds := [], alts := [], laidByText := true, laidKinds := [.data, .data, .data, .data, .sentinel, .sentinel, .pinned], laidTests := true, laidLooks := .later }
def MembKeysUptoCardSaid : Prop := Claim7.holds Tryz.pinned (.plain (OpenSpec.upto membKeysSpec)) membKeysUptoCard

/-- THE SECOND FORM's CARD OF 'loupelaw14.MembSorted'. -/
def membSortedUptoCard : Claim7 := { stood := { row := membSortedUptoRow, standIns := [], harness := (true, "facfe3194bd696c627511d0b112ec8c0d3ea13ce2e861290851af6ee4eec2044"), looks := true }, kinds := [], alts := [], laidByText := true, laidKinds := [.data, .data, .data, .data, .sentinel, .sentinel, .pinned], laidTests := true, laidLooks := .later }
def MembSortedUptoCardSaid : Prop := Claim7.holds Tryz.pinned (.plain (OpenSpec.upto membSortedSpec)) membSortedUptoCard

/-- THE SECOND FORM's CARD OF 'loupelaw14.MembEntries'. -/
def membEntriesUptoCard : Claim7 := { stood := { row := membEntriesUptoRow, standIns := [], harness := (true, "facfe3194bd696c627511d0b112ec8c0d3ea13ce2e861290851af6ee4eec2044"), looks := true }, kinds := [], alts := [], laidByText := true, laidKinds := [.data, .data, .data, .data, .sentinel, .sentinel, .pinned], laidTests := true, laidLooks := .later }
def MembEntriesUptoCardSaid : Prop := Claim7.holds Tryz.pinned (.plain (OpenSpec.upto membEntriesSpec)) membEntriesUptoCard

/-- THE SECOND FORM's CARD OF 'loupelaw14.MembParts'. -/
def membPartsUptoCard : Claim7 := { stood := { row := membPartsUptoRow, standIns := [], harness := (true, "facfe3194bd696c627511d0b112ec8c0d3ea13ce2e861290851af6ee4eec2044"), looks := true }, kinds := [], alts := [], laidByText := true, laidKinds := [.data, .data, .data, .data, .sentinel, .sentinel, .pinned], laidTests := true, laidLooks := .later }
def MembPartsUptoCardSaid : Prop := Claim7.holds Tryz.pinned (.plain (OpenSpec.upto membPartsSpec)) membPartsUptoCard
end Rows
end Go.Proofs.YtmejkfclabmijaaGreatDoor
