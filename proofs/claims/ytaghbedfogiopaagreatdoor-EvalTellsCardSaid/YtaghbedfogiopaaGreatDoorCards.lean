/-
  DERIVED. GIVEN WITH THE SEED: THE CARDS: each row of YtaghbedfogiopaaGreatDoorRows.lean that lists a variable, with what it lists TIED to the program's text (the seventh form; the later family's looks); each row that meets fmt, with fmt's text TOLD by the authors' own Lean function (tested against real Go, not proved from fmt's source: count such statements apart). THE CARD IS WHAT COUNTS. Prove the row's statement (the work); the ties are given (YtaghbedfogiopaaGreatDoorTie.lean); close each card by the builder's one call (the guide's Derived/Test/ToyasCard.lean, 'card_holds'). Laid BY PROGRAM, IN A SANDBOX (cutbox-door.mjs). By AI agents, Wed Nov 11 2026. No macro, syntax, notation, axiom, sorry.
-/
import Derived.Test.YtaghbedfogiopaaGreatDoorRows
import GoSem.ClaimSeven
namespace Go.Proofs.YtaghbedfogiopaaGreatDoor
namespace Rows

/-- THE TIED CARD OF 'loupelaw10.EvalTells'. -/
def evalTellsCard : Claim7 := { stood := { row := evalTellsRow, standIns := [], harness := (true, "89c1c3de70b40e976ff1bcc32783c11df7c9940c6e90f427d768bff7e0bedebb"), looks := true }, kinds := [], alts := [], laidByText := true, laidKinds := [.data, .data, .data, .data, .sentinel, .sentinel, .pinned], laidTests := true, laidLooks := .later }
def EvalTellsCardSaid : Prop := Claim7.holds Tryz.pinned (.plain (OpenSpec.ofChange evalTellsSpec)) evalTellsCard

/-- THE TIED CARD OF 'loupelaw10.EvalHolds'. -/
def evalHoldsCard : Claim7 := { stood := { row := evalHoldsRow, standIns := [], harness := (true, "89c1c3de70b40e976ff1bcc32783c11df7c9940c6e90f427d768bff7e0bedebb"), looks := true }, kinds := [], alts := [], laidByText := true, laidKinds := [.data, .data, .data, .data, .sentinel, .sentinel, .pinned], laidTests := true, laidLooks := .later }
def EvalHoldsCardSaid : Prop := Claim7.holds Tryz.pinned (.plain (OpenSpec.ofChange evalHoldsSpec)) evalHoldsCard

/-- THE TIED CARD OF 'loupelaw10.EvalRight'. -/
def evalRightCard : Claim7 := { stood := { row := evalRightRow, standIns := [], harness := (true, "89c1c3de70b40e976ff1bcc32783c11df7c9940c6e90f427d768bff7e0bedebb"), looks := true }, kinds := [], alts := [], laidByText := true, laidKinds := [.data, .data, .data, .data, .sentinel, .sentinel, .pinned], laidTests := true, laidLooks := .later }
def EvalRightCardSaid : Prop := Claim7.holds Tryz.pinned (.plain (OpenSpec.ofChange evalRightSpec)) evalRightCard

/-- THE TIED CARD OF 'loupelaw10.EvalPipe'. -/
def evalPipeCard : Claim7 := { stood := { row := evalPipeRow, standIns := [], harness := (true, "89c1c3de70b40e976ff1bcc32783c11df7c9940c6e90f427d768bff7e0bedebb"), looks := true }, kinds := [], alts := [], laidByText := true, laidKinds := [.data, .data, .data, .data, .sentinel, .sentinel, .pinned], laidTests := true, laidLooks := .later }
def EvalPipeCardSaid : Prop := Claim7.holds Tryz.pinned (.plain (OpenSpec.ofChange evalPipeSpec)) evalPipeCard

/-- THE TIED CARD OF 'loupelaw10.EvalTwice'. -/
def evalTwiceCard : Claim7 := { stood := { row := evalTwiceRow, standIns := [], harness := (true, "89c1c3de70b40e976ff1bcc32783c11df7c9940c6e90f427d768bff7e0bedebb"), looks := true }, kinds := [], alts := [], laidByText := true, laidKinds := [.data, .data, .data, .data, .sentinel, .sentinel, .pinned], laidTests := true, laidLooks := .later }
def EvalTwiceCardSaid : Prop := Claim7.holds Tryz.pinned (.plain (OpenSpec.ofChange evalTwiceSpec)) evalTwiceCard

/-- THE TIED CARD OF 'loupelaw10.EvalGroups'. -/
def evalGroupsCard : Claim7 := { stood := { row := evalGroupsRow, standIns := [], harness := (true, "89c1c3de70b40e976ff1bcc32783c11df7c9940c6e90f427d768bff7e0bedebb"), looks := true }, kinds := [], alts := [], laidByText := true, laidKinds := [.data, .data, .data, .data, .sentinel, .sentinel, .pinned], laidTests := true, laidLooks := .later }
def EvalGroupsCardSaid : Prop := Claim7.holds Tryz.pinned (.plain (OpenSpec.ofChange evalGroupsSpec)) evalGroupsCard

/-- THE TIED CARD OF 'loupelaw10.EvalDels'. -/
def evalDelsCard : Claim7 := { stood := { row := evalDelsRow, standIns := [], harness := (true, "89c1c3de70b40e976ff1bcc32783c11df7c9940c6e90f427d768bff7e0bedebb"), looks := true }, kinds := [], alts := [], laidByText := true, laidKinds := [.data, .data, .data, .data, .sentinel, .sentinel, .pinned], laidTests := true, laidLooks := .later }
def EvalDelsCardSaid : Prop := Claim7.holds Tryz.pinned (.plain (OpenSpec.ofChange evalDelsSpec)) evalDelsCard

/-- THE SECOND FORM's CARD OF 'loupelaw10.EvalTells'. -/
def evalTellsUptoCard : Claim7 := { stood := { row := evalTellsUptoRow, standIns := [], harness := (true, "89c1c3de70b40e976ff1bcc32783c11df7c9940c6e90f427d768bff7e0bedebb"), looks := true }, kinds := [], alts := [], laidByText := true, laidKinds := [.data, .data, .data, .data, .sentinel, .sentinel, .pinned], laidTests := true, laidLooks := .later }
def EvalTellsUptoCardSaid : Prop := Claim7.holds Tryz.pinned (.plain (OpenSpec.upto evalTellsSpec)) evalTellsUptoCard

/-- THE SECOND FORM's CARD OF 'loupelaw10.EvalHolds'. -/
def evalHoldsUptoCard : Claim7 := { stood := { row := evalHoldsUptoRow, standIns := [], harness := (true, "89c1c3de70b40e976ff1bcc32783c11df7c9940c6e90f427d768bff7e0bedebb"), looks := true }, kinds := [], alts := [], laidByText := true, laidKinds := [.data, .data, .data, .data, .sentinel, .sentinel, .pinned], laidTests := true, laidLooks := .later }
def EvalHoldsUptoCardSaid : Prop := Claim7.holds Tryz.pinned (.plain (OpenSpec.upto evalHoldsSpec)) evalHoldsUptoCard

/-- THE SECOND FORM's CARD OF 'loupelaw10.EvalRight'. -/
def evalRightUptoCard : Claim7 := { stood := { row := evalRightUptoRow, standIns := [], harness := (true, "89c1c3de70b40e976ff1bcc32783c11df7c9940c6e90f427d768bff7e0bedebb"), looks := true }, kinds := [], alts := [], laidByText := true, laidKinds := [.data, .data, .data, .data, .sentinel, .sentinel, .pinned], laidTests := true, laidLooks := .later }
def EvalRightUptoCardSaid : Prop := Claim7.holds Tryz.pinned (.plain (OpenSpec.upto evalRightSpec)) evalRightUptoCard

/-- THE SECOND FORM's CARD OF 'loupelaw10.EvalPipe'. -/
def evalPipeUptoCard : Claim7 := { stood := { row := evalPipeUptoRow, standIns := [], harness := (true, "89c1c3de70b40e976ff1bcc32783c11df7c9940c6e90f427d768bff7e0bedebb"), looks := true }, kinds := [], alts := [], laidByText := true, laidKinds := [.data, .data, .data, .data, .sentinel, .sentinel, .pinned], laidTests := true, laidLooks := .later }
def EvalPipeUptoCardSaid : Prop := Claim7.holds Tryz.pinned (.plain (OpenSpec.upto evalPipeSpec)) evalPipeUptoCard

/-- THE SECOND FORM's CARD OF 'loupelaw10.EvalTwice'. -/
def evalTwiceUptoCard : Claim7 := { stood := { row := evalTwiceUptoRow, standIns := [], harness := (true, "89c1c3de70b40e976ff1bcc32783c11df7c9940c6e90f427d768bff7e0bedebb"), looks := true }, kinds := [], alts := [], laidByText := true, laidKinds := [.data, .data, .data, .data, .sentinel, .sentinel, .pinned], laidTests := true, laidLooks := .later }
def EvalTwiceUptoCardSaid : Prop := Claim7.holds Tryz.pinned (.plain (OpenSpec.upto evalTwiceSpec)) evalTwiceUptoCard

/-- THE SECOND FORM's CARD OF 'loupelaw10.EvalGroups'. -/
def evalGroupsUptoCard : Claim7 := { stood := { row := evalGroupsUptoRow, standIns := [], harness := (true, "89c1c3de70b40e976ff1bcc32783c11df7c9940c6e90f427d768bff7e0bedebb"), looks := true }, kinds := [], alts := [], laidByText := true, laidKinds := [.data, .data, .data, .data, .sentinel, .sentinel, .pinned], laidTests := true, laidLooks := .later }
def EvalGroupsUptoCardSaid : Prop := Claim7.holds Tryz.pinned (.plain (OpenSpec.upto evalGroupsSpec)) evalGroupsUptoCard

/-- THE SECOND FORM's CARD OF 'loupelaw10.EvalDels'. -/
def evalDelsUptoCard : Claim7 := { stood := { row := evalDelsUptoRow, standIns := [], harness := (true, "89c1c3de70b40e976ff1bcc32783c11df7c9940c6e90f427d768bff7e0bedebb"), looks := true }, kinds := [], alts := [], laidByText := true, laidKinds := [.data, .data, .data, .data, .sentinel, .sentinel, .pinned], laidTests := true, laidLooks := .later }
def EvalDelsUptoCardSaid : Prop := Claim7.holds Tryz.pinned (.plain (OpenSpec.upto evalDelsSpec)) evalDelsUptoCard
end Rows
end Go.Proofs.YtaghbedfogiopaaGreatDoor
