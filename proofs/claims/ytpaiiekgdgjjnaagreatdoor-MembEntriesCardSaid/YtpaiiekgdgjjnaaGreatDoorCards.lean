/-
  DERIVED. GIVEN WITH THE SEED: THE CARDS: each row of YtpaiiekgdgjjnaaGreatDoorRows.lean that lists a variable, with what it lists TIED to the program's text (the seventh form; the later family's looks); each row that meets fmt, with fmt's text TOLD by the authors' own Lean function (tested against real Go, not proved from fmt's source: count such statements apart). THE CARD IS WHAT COUNTS. Prove the row's statement (the work); the ties are given (YtpaiiekgdgjjnaaGreatDoorTie.lean); close each card by the builder's one call (the guide's Derived/Test/ToyasCard.lean, 'card_holds'). Laid BY PROGRAM, IN A SANDBOX (cutbox-door.mjs). By AI agents, Wed Nov 11 2026. No macro, syntax, notation, axiom, sorry.
-/
import Derived.Test.YtpaiiekgdgjjnaaGreatDoorRows
import GoSem.ClaimSeven
namespace Go.Proofs.YtpaiiekgdgjjnaaGreatDoor
namespace Rows

/-- THE TIED CARD OF 'loupelaw14.MembTells'. -/
def membTellsCard : Claim7 := { stood := { row := membTellsRow, standIns := [], harness := (true, "f8ad2541d6be9129353853cfa25034c0f6f8c54aac923a629df73a684379e7fa"), looks := true }, kinds := [], alts := [], laidByText := true, laidKinds := [.data, .data, .data, .data, .sentinel, .sentinel, .pinned], laidTests := true, laidLooks := .later }
def MembTellsCardSaid : Prop := Claim7.holds Tryz.pinned (.plain (OpenSpec.ofChange membTellsSpec)) membTellsCard

/-- THE TIED CARD OF 'loupelaw14.MembKeys'. -/
def membKeysCard : Claim7 := { stood := { row := membKeysRow, standIns := [], harness := (true, "f8ad2541d6be9129353853cfa25034c0f6f8c54aac923a629df73a684379e7fa"), looks := true }, kinds := [], alts := [], laidByText := true, laidKinds := [.data, .data, .data, .data, .sentinel, .sentinel, .pinned], laidTests := true, laidLooks := .later }
def MembKeysCardSaid : Prop := Claim7.holds Tryz.pinned (.plain (OpenSpec.ofChange membKeysSpec)) membKeysCard

/-- THE TIED CARD OF 'loupelaw14.MembSorted'. -/
def membSortedCard : Claim7 := { stood := { row := membSortedRow, standIns := [], harness := (true, "f8ad2541d6be9129353853cfa25034c0f6f8c54aac923a629df73a684379e7fa"), looks := true }, kinds := [], alts := [], laidByText := true, laidKinds := [.data, .data, .data, .data, .sentinel, .sentinel, .pinned], laidTests := true, laidLooks := .later }
def MembSortedCardSaid : Prop := Claim7.holds Tryz.pinned (.plain (OpenSpec.ofChange membSortedSpec)) membSortedCard

/-- THE TIED CARD OF 'loupelaw14.MembEntries'. -/
def membEntriesCard : Claim7 := { stood := { row := membEntriesRow, standIns := [], harness := (true, "f8ad2541d6be9129353853cfa25034c0f6f8c54aac923a629df73a684379e7fa"), looks := true }, kinds := [], alts := [], laidByText := true, laidKinds := [.data, .data, .data, .data, .sentinel, .sentinel, .pinned], laidTests := true, laidLooks := .later }
def MembEntriesCardSaid : Prop := Claim7.holds Tryz.pinned (.plain (OpenSpec.ofChange membEntriesSpec)) membEntriesCard

/-- THE TIED CARD OF 'loupelaw14.MembParts'. -/
def membPartsCard : Claim7 := { stood := { row := membPartsRow, standIns := [], harness := (true, "f8ad2541d6be9129353853cfa25034c0f6f8c54aac923a629df73a684379e7fa"), looks := true }, kinds := [], alts := [], laidByText := true, laidKinds := [.data, .data, .data, .data, .sentinel, .sentinel, .pinned], laidTests := true, laidLooks := .later }
def MembPartsCardSaid : Prop := Claim7.holds Tryz.pinned (.plain (OpenSpec.ofChange membPartsSpec)) membPartsCard

/-- THE TIED CARD OF 'loupelaw10.EvalTells'. -/
def evalTellsCard : Claim7 := { stood := { row := evalTellsRow, standIns := [], harness := (true, "f8ad2541d6be9129353853cfa25034c0f6f8c54aac923a629df73a684379e7fa"), looks := true }, kinds := [], alts := [], laidByText := true, laidKinds := [.data, .data, .data, .data, .sentinel, .sentinel, .pinned], laidTests := true, laidLooks := .later }
def EvalTellsCardSaid : Prop := Claim7.holds Tryz.pinned (.plain (OpenSpec.ofChange evalTellsSpec)) evalTellsCard

/-- THE TIED CARD OF 'loupelaw10.EvalHolds'. -/
def evalHoldsCard : Claim7 := { stood := { row := evalHoldsRow, standIns := [], harness := (true, "f8ad2541d6be9129353853cfa25034c0f6f8c54aac923a629df73a684379e7fa"), looks := true }, kinds := [], alts := [], laidByText := true, laidKinds := [.data, .data, .data, .data, .sentinel, .sentinel, .pinned], laidTests := true, laidLooks := .later }
def EvalHoldsCardSaid : Prop := Claim7.holds Tryz.pinned (.plain (OpenSpec.ofChange evalHoldsSpec)) evalHoldsCard

/-- THE TIED CARD OF 'loupelaw10.EvalRight'. -/
def evalRightCard : Claim7 := { stood := { row := evalRightRow, standIns := [], harness := (true, "f8ad2541d6be9129353853cfa25034c0f6f8c54aac923a629df73a684379e7fa"), looks := true }, kinds := [], alts := [], laidByText := true, laidKinds := [.data, .data, .data, .data, .sentinel, .sentinel, .pinned], laidTests := true, laidLooks := .later }
def EvalRightCardSaid : Prop := Claim7.holds Tryz.pinned (.plain (OpenSpec.ofChange evalRightSpec)) evalRightCard

/-- THE TIED CARD OF 'loupelaw10.EvalPipe'. -/
def evalPipeCard : Claim7 := { stood := { row := evalPipeRow, standIns := [], harness := (true, "f8ad2541d6be9129353853cfa25034c0f6f8c54aac923a629df73a684379e7fa"), looks := true }, kinds := [], alts := [], laidByText := true, laidKinds := [.data, .data, .data, .data, .sentinel, .sentinel, .pinned], laidTests := true, laidLooks := .later }
def EvalPipeCardSaid : Prop := Claim7.holds Tryz.pinned (.plain (OpenSpec.ofChange evalPipeSpec)) evalPipeCard

/-- THE TIED CARD OF 'loupelaw10.EvalTwice'. -/
def evalTwiceCard : Claim7 := { stood := { row := evalTwiceRow, standIns := [], harness := (true, "f8ad2541d6be9129353853cfa25034c0f6f8c54aac923a629df73a684379e7fa"), looks := true }, kinds := [], alts := [], laidByText := true, laidKinds := [.data, .data, .data, .data, .sentinel, .sentinel, .pinned], laidTests := true, laidLooks := .later }
def EvalTwiceCardSaid : Prop := Claim7.holds Tryz.pinned (.plain (OpenSpec.ofChange evalTwiceSpec)) evalTwiceCard

/-- THE TIED CARD OF 'loupelaw10.EvalGroups'. -/
def evalGroupsCard : Claim7 := { stood := { row := evalGroupsRow, standIns := [], harness := (true, "f8ad2541d6be9129353853cfa25034c0f6f8c54aac923a629df73a684379e7fa"), looks := true }, kinds := [], alts := [], laidByText := true, laidKinds := [.data, .data, .data, .data, .sentinel, .sentinel, .pinned], laidTests := true, laidLooks := .later }
def EvalGroupsCardSaid : Prop := Claim7.holds Tryz.pinned (.plain (OpenSpec.ofChange evalGroupsSpec)) evalGroupsCard

/-- THE TIED CARD OF 'loupelaw10.EvalDels'. -/
def evalDelsCard : Claim7 := { stood := { row := evalDelsRow, standIns := [], harness := (true, "f8ad2541d6be9129353853cfa25034c0f6f8c54aac923a629df73a684379e7fa"), looks := true }, kinds := [], alts := [], laidByText := true, laidKinds := [.data, .data, .data, .data, .sentinel, .sentinel, .pinned], laidTests := true, laidLooks := .later }
def EvalDelsCardSaid : Prop := Claim7.holds Tryz.pinned (.plain (OpenSpec.ofChange evalDelsSpec)) evalDelsCard

/-- THE SECOND FORM's CARD OF 'loupelaw14.MembTells'. -/
def membTellsUptoCard : Claim7 := { stood := { row := membTellsUptoRow, standIns := [], harness := (true, "f8ad2541d6be9129353853cfa25034c0f6f8c54aac923a629df73a684379e7fa"), looks := true }, kinds := [], alts := [], laidByText := true, laidKinds := [.data, .data, .data, .data, .sentinel, .sentinel, .pinned], laidTests := true, laidLooks := .later }
def MembTellsUptoCardSaid : Prop := Claim7.holds Tryz.pinned (.plain (OpenSpec.upto membTellsSpec)) membTellsUptoCard

/-- THE SECOND FORM's CARD OF 'loupelaw14.MembKeys'. -/
def membKeysUptoCard : Claim7 := { stood := { row := membKeysUptoRow, standIns := [], harness := (true, "f8ad2541d6be9129353853cfa25034c0f6f8c54aac923a629df73a684379e7fa"), looks := true }, kinds := [], alts := [], laidByText := true, laidKinds := [.data, .data, .data, .data, .sentinel, .sentinel, .pinned], laidTests := true, laidLooks := .later }
def MembKeysUptoCardSaid : Prop := Claim7.holds Tryz.pinned (.plain (OpenSpec.upto membKeysSpec)) membKeysUptoCard

/-- THE SECOND FORM's CARD OF 'loupelaw14.MembSorted'. -/
def membSortedUptoCard : Claim7 := { stood := { row := membSortedUptoRow, standIns := [], harness := (true, "f8ad2541d6be9129353853cfa25034c0f6f8c54aac923a629df73a684379e7fa"), looks := true }, kinds := [], alts := [], laidByText := true, laidKinds := [.data, .data, .data, .data, .sentinel, .sentinel, .pinned], laidTests := true, laidLooks := .later }
def MembSortedUptoCardSaid : Prop := Claim7.holds Tryz.pinned (.plain (OpenSpec.upto membSortedSpec)) membSortedUptoCard

/-- THE SECOND FORM's CARD OF 'loupelaw14.MembEntries'. -/
def membEntriesUptoCard : Claim7 := { stood := { row := membEntriesUptoRow, standIns := [], harness := (true, "f8ad2541d6be9129353853cfa25034c0f6f8c54aac923a629df73a684379e7fa"), looks := true }, kinds := [], alts := [], laidByText := true, laidKinds := [.data, .data, .data, .data, .sentinel, .sentinel, .pinned], laidTests := true, laidLooks := .later }
def MembEntriesUptoCardSaid : Prop := Claim7.holds Tryz.pinned (.plain (OpenSpec.upto membEntriesSpec)) membEntriesUptoCard

/-- THE SECOND FORM's CARD OF 'loupelaw14.MembParts'. -/
def membPartsUptoCard : Claim7 := { stood := { row := membPartsUptoRow, standIns := [], harness := (true, "f8ad2541d6be9129353853cfa25034c0f6f8c54aac923a629df73a684379e7fa"), looks := true }, kinds := [], alts := [], laidByText := true, laidKinds := [.data, .data, .data, .data, .sentinel, .sentinel, .pinned], laidTests := true, laidLooks := .later }
def MembPartsUptoCardSaid : Prop := Claim7.holds Tryz.pinned (.plain (OpenSpec.upto membPartsSpec)) membPartsUptoCard

/-- THE SECOND FORM's CARD OF 'loupelaw10.EvalTells'. -/
def evalTellsUptoCard : Claim7 := { stood := { row := evalTellsUptoRow, standIns := [], harness := (true, "f8ad2541d6be9129353853cfa25034c0f6f8c54aac923a629df73a684379e7fa"), looks := true }, kinds := [], alts := [], laidByText := true, laidKinds := [.data, .data, .data, .data, .sentinel, .sentinel, .pinned], laidTests := true, laidLooks := .later }
def EvalTellsUptoCardSaid : Prop := Claim7.holds Tryz.pinned (.plain (OpenSpec.upto evalTellsSpec)) evalTellsUptoCard

/-- THE SECOND FORM's CARD OF 'loupelaw10.EvalHolds'. -/
def evalHoldsUptoCard : Claim7 := { stood := { row := evalHoldsUptoRow, standIns := [], harness := (true, "f8ad2541d6be9129353853cfa25034c0f6f8c54aac923a629df73a684379e7fa"), looks := true }, kinds := [], alts := [], laidByText := true, laidKinds := [.data, .data, .data, .data, .sentinel, .sentinel, .pinned], laidTests := true, laidLooks := .later }
def EvalHoldsUptoCardSaid : Prop := Claim7.holds Tryz.pinned (.plain (OpenSpec.upto evalHoldsSpec)) evalHoldsUptoCard

/-- THE SECOND FORM's CARD OF 'loupelaw10.EvalRight'. -/
def evalRightUptoCard : Claim7 := { stood := { row := evalRightUptoRow, standIns := [], harness := (true, "f8ad2541d6be9129353853cfa25034c0f6f8c54aac923a629df73a684379e7fa"), looks := true }, kinds := [], alts := [], laidByText := true, laidKinds := [.data, .data, .data, .data, .sentinel, .sentinel, .pinned], laidTests := true, laidLooks := .later }
def EvalRightUptoCardSaid : Prop := Claim7.holds Tryz.pinned (.plain (OpenSpec.upto evalRightSpec)) evalRightUptoCard

/-- THE SECOND FORM's CARD OF 'loupelaw10.EvalPipe'. -/
def evalPipeUptoCard : Claim7 := { stood := { row := evalPipeUptoRow, standIns := [], harness := (true, "f8ad2541d6be9129353853cfa25034c0f6f8c54aac923a629df73a684379e7fa"), looks := true }, kinds := [], alts := [], laidByText := true, laidKinds := [.data, .data, .data, .data, .sentinel, .sentinel, .pinned], laidTests := true, laidLooks := .later }
def EvalPipeUptoCardSaid : Prop := Claim7.holds Tryz.pinned (.plain (OpenSpec.upto evalPipeSpec)) evalPipeUptoCard

/-- THE SECOND FORM's CARD OF 'loupelaw10.EvalTwice'. -/
def evalTwiceUptoCard : Claim7 := { stood := { row := evalTwiceUptoRow, standIns := [], harness := (true, "f8ad2541d6be9129353853cfa25034c0f6f8c54aac923a629df73a684379e7fa"), looks := true }, kinds := [], alts := [], laidByText := true, laidKinds := [.data, .data, .data, .data, .sentinel, .sentinel, .pinned], laidTests := true, laidLooks := .later }
def EvalTwiceUptoCardSaid : Prop := Claim7.holds Tryz.pinned (.plain (OpenSpec.upto evalTwiceSpec)) evalTwiceUptoCard

/-- THE SECOND FORM's CARD OF 'loupelaw10.EvalGroups'. -/
def evalGroupsUptoCard : Claim7 := { stood := { row := evalGroupsUptoRow, standIns := [], harness := (true, "f8ad2541d6be9129353853cfa25034c0f6f8c54aac923a629df73a684379e7fa"), looks := true }, kinds := [], alts := [], laidByText := true, laidKinds := [.data, .data, .data, .data, .sentinel, .sentinel, .pinned], laidTests := true, laidLooks := .later }
def EvalGroupsUptoCardSaid : Prop := Claim7.holds Tryz.pinned (.plain (OpenSpec.upto evalGroupsSpec)) evalGroupsUptoCard

/-- THE SECOND FORM's CARD OF 'loupelaw10.EvalDels'. -/
def evalDelsUptoCard : Claim7 := { stood := { row := evalDelsUptoRow, standIns := [], harness := (true, "f8ad2541d6be9129353853cfa25034c0f6f8c54aac923a629df73a684379e7fa"), looks := true }, kinds := [], alts := [], laidByText := true, laidKinds := [.data, .data, .data, .data, .sentinel, .sentinel, .pinned], laidTests := true, laidLooks := .later }
def EvalDelsUptoCardSaid : Prop := Claim7.holds Tryz.pinned (.plain (OpenSpec.upto evalDelsSpec)) evalDelsUptoCard
end Rows
end Go.Proofs.YtpaiiekgdgjjnaaGreatDoor
