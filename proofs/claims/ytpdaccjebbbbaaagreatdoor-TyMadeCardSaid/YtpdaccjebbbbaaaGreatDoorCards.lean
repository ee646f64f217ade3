/-
  DERIVED. GIVEN WITH THE SEED: THE CARDS: each row of YtpdaccjebbbbaaaGreatDoorRows.lean that lists a variable, with what it lists TIED to the program's text (the seventh form; the later family's looks); each row that meets fmt, with fmt's text TOLD by the authors' own Lean function (tested against real Go, not proved from fmt's source: count such statements apart). THE CARD IS WHAT COUNTS. Prove the row's statement (the work); the ties are given (YtpdaccjebbbbaaaGreatDoorTie.lean); close each card by the builder's one call (the guide's Derived/Test/ToyasCard.lean, 'card_holds'). Laid BY PROGRAM, IN A SANDBOX (cutbox-door.mjs). By AI agents, Wed Nov 11 2026. No macro, syntax, notation, axiom, sorry.
-/
import Derived.Test.YtpdaccjebbbbaaaGreatDoorRows
import GoSem.ClaimSeven
namespace Go.Proofs.YtpdaccjebbbbaaaGreatDoor
namespace Rows

/-- THE TIED CARD OF 'loupelaw12.TyMade'. -/
def tyMadeCard : Claim7 := { stood := { row := tyMadeRow, standIns := [], harness := (true, "4589e4e09c8f587dc2db52741f508117f7fe5f065607b432ebf34c2cac8223dd"), looks := true }, kinds := [], alts := [], laidByText := true, laidKinds := [.data, .data, .data, .data, .sentinel, .sentinel, .pinned], laidTests := true, laidLooks := .later }
def TyMadeCardSaid : Prop := Claim7.holds Tryz.pinned (.plain (OpenSpec.ofChange tyMadeSpec)) tyMadeCard

/-- THE SECOND FORM's CARD OF 'loupelaw12.TyMade'. -/
def tyMadeUptoCard : Claim7 := { stood := { row := tyMadeUptoRow, standIns := [], harness := (true, "4589e4e09c8f587dc2db52741f508117f7fe5f065607b432ebf34c2cac8223dd"), looks := true }, kinds := [], alts := [], laidByText := true, laidKinds := [.data, .data, .data, .data, .sentinel, .sentinel, .pinned], laidTests := true, laidLooks := .later }
def TyMadeUptoCardSaid : Prop := Claim7.holds Tryz.pinned (.plain (OpenSpec.upto tyMadeSpec)) tyMadeUptoCard
end Rows
end Go.Proofs.YtpdaccjebbbbaaaGreatDoor
