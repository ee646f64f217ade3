/-
  DERIVED. GIVEN WITH THE SEED: THE CARDS: each row of YtpdaccjebbbbaaaDoorRows.lean that lists a variable, with what it lists TIED to the program's text (the seventh form; the later family's looks); each row that meets fmt, with fmt's text TOLD by the authors' own Lean function (tested against real Go, not proved from fmt's source: count such statements apart). THE CARD IS WHAT COUNTS. Prove the row's statement (the work); the ties are given (YtpdaccjebbbbaaaDoorTie.lean); close each card by the builder's one call (the guide's Derived/Test/ToyasCard.lean, 'card_holds'). Laid BY PROGRAM, IN A SANDBOX (cutbox-door.mjs). By AI agents, Wed Nov 11 2026. No macro, syntax, notation, axiom, sorry.
-/
import Derived.Test.YtpdaccjebbbbaaaDoorRows
import GoSem.ClaimSeven
namespace Go.Proofs.YtpdaccjebbbbaaaDoor
namespace Rows

/-- THE TIED CARD OF 'loupelaw18.AlignTells'. -/
def alignTellsCard : Claim7 := { stood := { row := alignTellsRow, standIns := [], harness := (true, "a5245182f64a961e6686125c150b167cdda24d62a3322ce0641278abd620d289"), looks := false }, kinds := [], alts := [], laidByText := true, laidKinds := [.data, .data, .data], laidTests := true, laidLooks := .later }
def AlignTellsCardSaid : Prop := Claim7.holds Tryd.pinned (.plain (OpenSpec.ofChange alignTellsSpec)) alignTellsCard

/-- THE TIED CARD OF 'loupelaw18.AlignOnce'. -/
def alignOnceCard : Claim7 := { stood := { row := alignOnceRow, standIns := [], harness := (true, "a5245182f64a961e6686125c150b167cdda24d62a3322ce0641278abd620d289"), looks := false }, kinds := [], alts := [], laidByText := true, laidKinds := [.data, .data, .data], laidTests := true, laidLooks := .later }
def AlignOnceCardSaid : Prop := Claim7.holds Tryd.pinned (.plain (OpenSpec.ofChange alignOnceSpec)) alignOnceCard

/-- THE TIED CARD OF 'loupelaw18.AlignSame'. -/
def alignSameCard : Claim7 := { stood := { row := alignSameRow, standIns := [], harness := (true, "a5245182f64a961e6686125c150b167cdda24d62a3322ce0641278abd620d289"), looks := false }, kinds := [], alts := [], laidByText := true, laidKinds := [.data, .data, .data], laidTests := true, laidLooks := .later }
def AlignSameCardSaid : Prop := Claim7.holds Tryd.pinned (.plain (OpenSpec.ofChange alignSameSpec)) alignSameCard

/-- THE TIED CARD OF 'loupelaw18.AlignLongest'. -/
def alignLongestCard : Claim7 := { stood := { row := alignLongestRow, standIns := [], harness := (true, "a5245182f64a961e6686125c150b167cdda24d62a3322ce0641278abd620d289"), looks := false }, kinds := [], alts := [], laidByText := true, laidKinds := [.data, .data, .data], laidTests := true, laidLooks := .later }
def AlignLongestCardSaid : Prop := Claim7.holds Tryd.pinned (.plain (OpenSpec.ofChange alignLongestSpec)) alignLongestCard

/-- THE TIED CARD OF 'loupelaw18.AlignTurned'. -/
def alignTurnedCard : Claim7 := { stood := { row := alignTurnedRow, standIns := [], harness := (true, "a5245182f64a961e6686125c150b167cdda24d62a3322ce0641278abd620d289"), looks := false }, kinds := [], alts := [], laidByText := true, laidKinds := [.data, .data, .data], laidTests := true, laidLooks := .later }
def AlignTurnedCardSaid : Prop := Claim7.holds Tryd.pinned (.plain (OpenSpec.ofChange alignTurnedSpec)) alignTurnedCard

/-- THE TIED CARD OF 'loupelaw18.AlignPairs'. -/
def alignPairsCard : Claim7 := { stood := { row := alignPairsRow, standIns := [], harness := (true, "a5245182f64a961e6686125c150b167cdda24d62a3322ce0641278abd620d289"), looks := false }, kinds := [], alts := [], laidByText := true, laidKinds := [.data, .data, .data], laidTests := true, laidLooks := .later }
def AlignPairsCardSaid : Prop := Claim7.holds Tryd.pinned (.plain (OpenSpec.ofChange alignPairsSpec)) alignPairsCard

/-- THE SECOND FORM's CARD OF 'loupelaw18.AlignTells'. -/
def alignTellsUptoCard : Claim7 := { stood := { row := alignTellsUptoRow, standIns := [], harness := (true, "a5245182f64a961e6686125c150b167cdda24d62a3322ce0641278abd620d289"), looks := false }, kinds := [], alts := [], laidByText := true, laidKinds := [.data, .data, .data], laidTests := true, laidLooks := .later }
def AlignTellsUptoCardSaid : Prop := Claim7.holds Tryd.pinned (.plain (OpenSpec.upto alignTellsSpec)) alignTellsUptoCard

/-- THE SECOND FORM's CARD OF 'loupelaw18.AlignOnce'. -/
def alignOnceUptoCard : Claim7 := { stood := { row := alignOnceUptoRow, standIns := [], harness := (true, "a5245182f64a961e6686125c150b167cdda24d62a3322ce0641278abd620d289"), looks := false }, kinds := [], alts := [], laidByText := true, laidKinds := [.data, .data, .data], laidTests := true, laidLooks := .later }
def AlignOnceUptoCardSaid : Prop := Claim7.holds Tryd.pinned (.plain (OpenSpec.upto alignOnceSpec)) alignOnceUptoCard

/-- THE SECOND FORM's CARD OF 'loupelaw18.AlignSame'. -/
def alignSameUptoCard : Claim7 := { stood := { row := alignSameUptoRow, standIns := [], harness := (true, "a5245182f64a961e6686125c150b167cdda24d62a3322ce0641278abd620d289"), looks := false }, kinds := [], alts := [], laidByText := true, laidKinds := [.data, .data, .data], laidTests := true, laidLooks := .later }
def AlignSameUptoCardSaid : Prop := Claim7.holds Tryd.pinned (.plain (OpenSpec.upto alignSameSpec)) alignSameUptoCard

/-- THE SECOND FORM's CARD OF 'loupelaw18.AlignLongest'. -/
def alignLongestUptoCard : Claim7 := { stood := { row := alignLongestUptoRow, standIns := [], harness := (true, "a5245182f64a961e6686125c150b167cdda24d62a3322ce0641278abd620d289"), looks := false }, kinds := [], alts := [], laidByText := true, laidKinds := [.data, .data, .data], laidTests := true, laidLooks := .later }
def AlignLongestUptoCardSaid : Prop := Claim7.holds Tryd.pinned (.plain (OpenSpec.upto alignLongestSpec)) alignLongestUptoCard

/-- THE SECOND FORM's CARD OF 'loupelaw18.AlignTurned'. -/
def alignTurnedUptoCard : Claim7 := { stood := { row := alignTurnedUptoRow, standIns := [], harness := (true, "a5245182f64a961e6686125c150b167cdda24d62a3322ce0641278abd620d289"), looks := false }, kinds := [], alts := [], laidByText := true, laidKinds := [.data, .data, .data], laidTests := true, laidLooks := .later }
def AlignTurnedUptoCardSaid : Prop := Claim7.holds Tryd.pinned (.plain (OpenSpec.upto alignTurnedSpec)) alignTurnedUptoCard

/-- THE SECOND FORM's CARD OF 'loupelaw18.AlignPairs'. -/
def alignPairsUptoCard : Claim7 := { stood := { row := alignPairsUptoRow, standIns := [], harness := (true, "a5245182f64a961e6686125c150b167cdda24d62a3322ce0641278abd620d289"), looks := false }, kinds := [], alts := [], laidByText := true, laidKinds := [.data, .data, .data], laidTests := true, laidLooks := .later }
def AlignPairsUptoCardSaid : Prop := Claim7.holds Tryd.pinned (.plain (OpenSpec.upto alignPairsSpec)) alignPairsUptoCard
end Rows
end Go.Proofs.YtpdaccjebbbbaaaDoor
