/-
  DERIVED. GIVEN WITH THE SEED: THE CARDS: each row of YtgfggbndbceppaaGreatDoorRows.lean that lists a variable, with what it lists TIED to the program's text (the seventh form; the later family's looks); each row that meets fmt, with fmt's text TOLD by the authors' own Lean function (tested against real Go, not proved from fmt's source: count such statements apart). THE CARD IS WHAT COUNTS. Prove the row's statement (the work); the ties are given (YtgfggbndbceppaaGreatDoorTie.lean); close each card by the builder's one call (the guide's Derived/Test/ToyasCard.lean, 'card_holds'). Laid BY PROGRAM, IN A SANDBOX (cutbox-door.mjs). By AI agents, Wed Nov 11 2026. No macro, syntax, notation, axiom, sorry.
-/
import Derived.Test.YtgfggbndbceppaaGreatDoorRows
import GoSem.ClaimSeven
namespace Go.Proofs.YtgfggbndbceppaaGreatDoor
namespace Rows

/-- THE TIED CARD OF 'loupelaw07.TermTells'. -/
def termTellsCard : Claim7 := { stood := { row := termTellsRow, standIns := [], harness := (true, "585bb75ac52140e442e8f815220e4f77e3eff3b2f755ffb92e2c471c54e0b870"), looks := true }, kinds := [], alts := [], laidByText := true, laidKinds := [.data, .data, .data, .data, .sentinel, .sentinel, .pinned], laidTests := true, laidLooks := .later }
def TermTellsCardSaid : Prop := Claim7.holds Tryz.pinned (.plain (OpenSpec.ofChange termTellsSpec)) termTellsCard

/-- THE TIED CARD OF 'loupelaw07.TermPipes'. -/
def termPipesCard : Claim7 := { stood := { row := termPipesRow, standIns := [], harness := (true, "585bb75ac52140e442e8f815220e4f77e3eff3b2f755ffb92e2c471c54e0b870"), looks := true }, kinds := [], alts := [], laidByText := true, laidKinds := [.data, .data, .data, .data, .sentinel, .sentinel, .pinned], laidTests := true, laidLooks := .later }
def TermPipesCardSaid : Prop := Claim7.holds Tryz.pinned (.plain (OpenSpec.ofChange termPipesSpec)) termPipesCard

/-- THE TIED CARD OF 'loupelaw07.TermPipe'. -/
def termPipeCard : Claim7 := { stood := { row := termPipeRow, standIns := [], harness := (true, "585bb75ac52140e442e8f815220e4f77e3eff3b2f755ffb92e2c471c54e0b870"), looks := true }, kinds := [], alts := [], laidByText := true, laidKinds := [.data, .data, .data, .data, .sentinel, .sentinel, .pinned], laidTests := true, laidLooks := .later }
def TermPipeCardSaid : Prop := Claim7.holds Tryz.pinned (.plain (OpenSpec.ofChange termPipeSpec)) termPipeCard

/-- THE TIED CARD OF 'loupelaw07.TermParts'. -/
def termPartsCard : Claim7 := { stood := { row := termPartsRow, standIns := [], harness := (true, "585bb75ac52140e442e8f815220e4f77e3eff3b2f755ffb92e2c471c54e0b870"), looks := true }, kinds := [], alts := [], laidByText := true, laidKinds := [.data, .data, .data, .data, .sentinel, .sentinel, .pinned], laidTests := true, laidLooks := .later }
def TermPartsCardSaid : Prop := Claim7.holds Tryz.pinned (.plain (OpenSpec.ofChange termPartsSpec)) termPartsCard

/-- THE TIED CARD OF 'loupelaw07.TermSpoilt'. -/
def termSpoiltCard : Claim7 := { stood := { row := termSpoiltRow, standIns := [], harness := (true, "585bb75ac52140e442e8f815220e4f77e3eff3b2f755ffb92e2c471c54e0b870"), looks := true }, kinds := [], alts := [], laidByText := true, laidKinds := [.data, .data, .data, .data, .sentinel, .sentinel, .pinned], laidTests := true, laidLooks := .later }
def TermSpoiltCardSaid : Prop := Claim7.holds Tryz.pinned (.plain (OpenSpec.ofChange termSpoiltSpec)) termSpoiltCard

/-- THE TIED CARD OF 'loupelaw12.TyTells'. -/
def tyTellsCard : Claim7 := { stood := { row := tyTellsRow, standIns := [], harness := (true, "585bb75ac52140e442e8f815220e4f77e3eff3b2f755ffb92e2c471c54e0b870"), looks := true }, kinds := [], alts := [], laidByText := true, laidKinds := [.data, .data, .data, .data, .sentinel, .sentinel, .pinned], laidTests := true, laidLooks := .later }
def TyTellsCardSaid : Prop := Claim7.holds Tryz.pinned (.plain (OpenSpec.ofChange tyTellsSpec)) tyTellsCard

/-- THE TIED CARD OF 'loupelaw12.TyMade'. -/
def tyMadeCard : Claim7 := { stood := { row := tyMadeRow, standIns := [], harness := (true, "585bb75ac52140e442e8f815220e4f77e3eff3b2f755ffb92e2c471c54e0b870"), looks := true }, kinds := [], alts := [], laidByText := true, laidKinds := [.data, .data, .data, .data, .sentinel, .sentinel, .pinned], laidTests := true, laidLooks := .later }
def TyMadeCardSaid : Prop := Claim7.holds Tryz.pinned (.plain (OpenSpec.ofChange tyMadeSpec)) tyMadeCard

/-- THE TIED CARD OF 'loupelaw12.TyParts'. -/
def tyPartsCard : Claim7 := { stood := { row := tyPartsRow, standIns := [], harness := (true, "585bb75ac52140e442e8f815220e4f77e3eff3b2f755ffb92e2c471c54e0b870"), looks := true }, kinds := [], alts := [], laidByText := true, laidKinds := [.data, .data, .data, .data, .sentinel, .sentinel, .pinned], laidTests := true, laidLooks := .later }
def TyPartsCardSaid : Prop := Claim7.holds Tryz.pinned (.plain (OpenSpec.ofChange tyPartsSpec)) tyPartsCard

/-- THE TIED CARD OF 'loupelaw12.TyLeads'. -/
def tyLeadsCard : Claim7 := { stood := { row := tyLeadsRow, standIns := [], harness := (true, "585bb75ac52140e442e8f815220e4f77e3eff3b2f755ffb92e2c471c54e0b870"), looks := true }, kinds := [], alts := [], laidByText := true, laidKinds := [.data, .data, .data, .data, .sentinel, .sentinel, .pinned], laidTests := true, laidLooks := .later }
def TyLeadsCardSaid : Prop := Claim7.holds Tryz.pinned (.plain (OpenSpec.ofChange tyLeadsSpec)) tyLeadsCard

/-- THE TIED CARD OF 'loupelaw12.TyTexts'. -/
def tyTextsCard : Claim7 := { stood := { row := tyTextsRow, standIns := [], harness := (true, "585bb75ac52140e442e8f815220e4f77e3eff3b2f755ffb92e2c471c54e0b870"), looks := true }, kinds := [], alts := [], laidByText := true, laidKinds := [.data, .data, .data, .data, .sentinel, .sentinel, .pinned], laidTests := true, laidLooks := .later }
def TyTextsCardSaid : Prop := Claim7.holds Tryz.pinned (.plain (OpenSpec.ofChange tyTextsSpec)) tyTextsCard

/-- THE SECOND FORM's CARD OF 'loupelaw07.TermTells'. -/
def termTellsUptoCard : Claim7 := { stood := { row := termTellsUptoRow, standIns := [], harness := (true, "585bb75ac52140e442e8f815220e4f77e3eff3b2f755ffb92e2c471c54e0b870"), looks := true }, kinds := [], alts := [], laidByText := true, laidKinds := [.data, .data, .data, .data, .sentinel, .sentinel, .pinned], laidTests := true, laidLooks := .later }
def TermTellsUptoCardSaid : Prop := Claim7.holds Tryz.pinned (.plain (OpenSpec.upto termTellsSpec)) termTellsUptoCard

/-- THE SECOND FORM's CARD OF 'loupelaw07.TermPipes'. -/
def termPipesUptoCard : Claim7 := { stood := { row := termPipesUptoRow, standIns := [], harness := (true, "585bb75ac52140e442e8f815220e4f77e3eff3b2f755ffb92e2c471c54e0b870"), looks := true }, kinds := [], alts := [], laidByText := true, laidKinds := [.data, .data, .data, .data, .sentinel, .sentinel, .pinned], laidTests := true, laidLooks := .later }
def TermPipesUptoCardSaid : Prop := Claim7.holds Tryz.pinned (.plain (OpenSpec.upto termPipesSpec)) termPipesUptoCard

/-- THE SECOND FORM's CARD OF 'loupelaw07.TermPipe'. -/
def termPipeUptoCard : Claim7 := { stood := { row := termPipeUptoRow, standIns := [], harness := (true, "585bb75ac52140e442e8f815220e4f77e3eff3b2f755ffb92e2c471c54e0b870"), looks := true }, kinds := [], alts := [], laidByText := true, laidKinds := [.data, .data, .data, .data, .sentinel, .sentinel, .pinned], laidTests := true, laidLooks := .later }
def TermPipeUptoCardSaid : Prop := Claim7.holds Tryz.pinned (.plain (OpenSpec.upto termPipeSpec)) termPipeUptoCard

/-- THE SECOND FORM's CARD OF 'loupelaw07.TermParts'. -/
def termPartsUptoCard : Claim7 := { stood := { row := termPartsUptoRow, standIns := [], harness := (true, "585bb75ac52140e442e8f815220e4f77e3eff3b2f755ffb92e2c471c54e0b870"), looks := true }, kinds := [], alts := [], laidByText := true, laidKinds := [.data, .data, .data, .data, .sentinel, .sentinel, .pinned], laidTests := true, laidLooks := .later }
def TermPartsUptoCardSaid : Prop := Claim7.holds Tryz.pinned (.plain (OpenSpec.upto termPartsSpec)) termPartsUptoCard

/-- THE SECOND FORM's CARD OF 'loupelaw07.TermSpoilt'. -/
def termSpoiltUptoCard : Claim7 := { stood := { row := termSpoiltUptoRow, standIns := [], harness := (true, "585bb75ac52140e442e8f815220e4f77e3eff3b2f755ffb92e2c471c54e0b870"), looks := true }, kinds := [], alts := [], laidByText := true, laidKinds := [.data, .data, .data, .data, .sentinel, .sentinel, .pinned], laidTests := true, laidLooks := .later }
def TermSpoiltUptoCardSaid : Prop := Claim7.holds Tryz.pinned (.plain (OpenSpec.upto termSpoiltSpec)) termSpoiltUptoCard

/-- THE SECOND FORM's CARD OF 'loupelaw12.TyTells'. -/
def tyTellsUptoCard : Claim7 := { stood := { row := tyTellsUptoRow, standIns := [], harness := (true, "585bb75ac52140e442e8f815220e4f77e3eff3b2f755ffb92e2c471c54e0b870"), looks := true }, kinds := [], alts := [], laidByText := true, laidKinds := [.data, .data, .data, .data, .sentinel, .sentinel, .pinned], laidTests := true, laidLooks := .later }
def TyTellsUptoCardSaid : Prop := Claim7.holds Tryz.pinned (.plain (OpenSpec.upto tyTellsSpec)) tyTellsUptoCard

/-- THE SECOND FORM's CARD OF 'loupelaw12.TyMade'. -/
def tyMadeUptoCard : Claim7 := { stood := { row := tyMadeUptoRow, standIns := [], harness := (true, "585bb75ac52140e442e8f815220e4f77e3eff3b2f755ffb92e2c471c54e0b870"), looks := true }, kinds := [], alts := [], laidByText := true, laidKinds := [.data, .data, .data, .data, .sentinel, .sentinel, .pinned], laidTests := true, laidLooks := .later }
def TyMadeUptoCardSaid : Prop := Claim7.holds Tryz.pinned (.plain (OpenSpec.upto tyMadeSpec)) tyMadeUptoCard

/-- THE SECOND FORM's CARD OF 'loupelaw12.TyParts'. -/
def tyPartsUptoCard : Claim7 := { stood := { row := tyPartsUptoRow, standIns := [], harness := (true, "585bb75ac52140e442e8f815220e4f77e3eff3b2f755ffb92e2c471c54e0b870"), looks := true }, kinds := [], alts := [], laidByText := true, laidKinds := [.data, .data, .data, .data, .sentinel, .sentinel, .pinned], laidTests := true, laidLooks := .later }
def TyPartsUptoCardSaid : Prop := Claim7.holds Tryz.pinned (.plain (OpenSpec.upto tyPartsSpec)) tyPartsUptoCard

/-- THE SECOND FORM's CARD OF 'loupelaw12.TyLeads'. -/
def tyLeadsUptoCard : Claim7 := { stood := { row := tyLeadsUptoRow, standIns := [], harness := (true, "585bb75ac52140e442e8f815220e4f77e3eff3b2f755ffb92e2c471c54e0b870"), looks := true }, kinds := [], alts := [], laidByText := true, laidKinds := [.data, .data, .data, .data, .sentinel, .sentinel, .pinned], laidTests := true, laidLooks := .later }
def TyLeadsUptoCardSaid : Prop := Claim7.holds Tryz.pinned (.plain (OpenSpec.upto tyLeadsSpec)) tyLeadsUptoCard

/-- THE SECOND FORM's CARD OF 'loupelaw12.TyTexts'. -/
def tyTextsUptoCard : Claim7 := { stood := { row := tyTextsUptoRow, standIns := [], harness := (true, "585bb75ac52140e442e8f815220e4f77e3eff3b2f755ffb92e2c471c54e0b870"), looks := true }, kinds := [], alts := [], laidByText := true, laidKinds := [.data, .data, .data, .data, .sentinel, .sentinel, .pinned], laidTests := true, laidLooks := .later }
def TyTextsUptoCardSaid : Prop := Claim7.holds Tryz.pinned (.plain (OpenSpec.upto tyTextsSpec)) tyTextsUptoCard
end Rows
end Go.Proofs.YtgfggbndbceppaaGreatDoor
