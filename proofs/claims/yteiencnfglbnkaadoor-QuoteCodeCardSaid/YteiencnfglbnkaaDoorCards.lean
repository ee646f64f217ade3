/-
  DERIVED. GIVEN WITH THE SEED: THE CARDS: each row of YteiencnfglbnkaaDoorRows.lean that lists a variable, with what it lists TIED to the program's text (the seventh form; the later family's looks); each row that meets fmt, with fmt's text TOLD by the authors' own Lean function (tested against real Go, not proved from fmt's source: count such statements apart). THE CARD IS WHAT COUNTS. Prove the row's statement (the work); the ties are given (YteiencnfglbnkaaDoorTie.lean); close each card by the builder's one call (the guide's Derived/Test/ToyasCard.lean, 'card_holds'). Laid BY PROGRAM, IN A SANDBOX (cutbox-door.mjs). By AI agents, Wed Nov 11 2026. No macro, syntax, notation, axiom, sorry.
-/
import Derived.Test.YteiencnfglbnkaaDoorRows
import GoSem.ClaimSeven
namespace Go.Proofs.YteiencnfglbnkaaDoor
namespace Rows

/-- THE TIED CARD OF 'loupelaw18.AlignTells'. -/
def alignTellsCard : Claim7 := { stood := { row := alignTellsRow, standIns := [], harness := (true, "992726da2329e0b9bffb6394d08e7d24f981180d1bc1480ca7fb9e5f1d3ff29e"), looks := true }, kinds := [], alts := [], laidByText := true, laidKinds := [.data, .data, .data], laidTests := true, laidLooks := .later }
def AlignTellsCardSaid : Prop := Claim7.holds Tryd.pinned (.plain (OpenSpec.ofChange alignTellsSpec)) alignTellsCard

/-- THE TIED CARD OF 'loupelaw18.AlignOnce'. -/
def alignOnceCard : Claim7 := { stood := { row := alignOnceRow, standIns := [], harness := (true, "992726da2329e0b9bffb6394d08e7d24f981180d1bc1480ca7fb9e5f1d3ff29e"), looks := true }, kinds := [], alts := [], laidByText := true, laidKinds := [.data, .data, .data], laidTests := true, laidLooks := .later }
def AlignOnceCardSaid : Prop := Claim7.holds Tryd.pinned (.plain (OpenSpec.ofChange alignOnceSpec)) alignOnceCard

/-- THE TIED CARD OF 'loupelaw18.AlignSame'. -/
def alignSameCard : Claim7 := { stood := { row := alignSameRow, standIns := [], harness := (true, "992726da2329e0b9bffb6394d08e7d24f981180d1bc1480ca7fb9e5f1d3ff29e"), looks := true }, kinds := [], alts := [], laidByText := true, laidKinds := [.data, .data, .data], laidTests := true, laidLooks := .later }
def AlignSameCardSaid : Prop := Claim7.holds Tryd.pinned (.plain (OpenSpec.ofChange alignSameSpec)) alignSameCard

/-- THE TIED CARD OF 'loupelaw18.AlignLongest'. -/
def alignLongestCard : Claim7 := { stood := { row := alignLongestRow, standIns := [], harness := (true, "992726da2329e0b9bffb6394d08e7d24f981180d1bc1480ca7fb9e5f1d3ff29e"), looks := true }, kinds := [], alts := [], laidByText := true, laidKinds := [.data, .data, .data], laidTests := true, laidLooks := .later }
def AlignLongestCardSaid : Prop := Claim7.holds Tryd.pinned (.plain (OpenSpec.ofChange alignLongestSpec)) alignLongestCard

/-- THE TIED CARD OF 'loupelaw18.AlignTurned'. -/
def alignTurnedCard : Claim7 := { stood := { row := alignTurnedRow, standIns := [], harness := (true, "992726da2329e0b9bffb6394d08e7d24f981180d1bc1480ca7fb9e5f1d3ff29e"), looks := true }, kinds := [], alts := [], laidByText := true, laidKinds := [.data, .data, .data], laidTests := true, laidLooks := .later }
def AlignTurnedCardSaid : Prop := Claim7.holds Tryd.pinned (.plain (OpenSpec.ofChange alignTurnedSpec)) alignTurnedCard

/-- THE TIED CARD OF 'loupelaw18.AlignPairs'. -/
def alignPairsCard : Claim7 := { stood := { row := alignPairsRow, standIns := [], harness := (true, "992726da2329e0b9bffb6394d08e7d24f981180d1bc1480ca7fb9e5f1d3ff29e"), looks := true }, kinds := [], alts := [], laidByText := true, laidKinds := [.data, .data, .data], laidTests := true, laidLooks := .later }
def AlignPairsCardSaid : Prop := Claim7.holds Tryd.pinned (.plain (OpenSpec.ofChange alignPairsSpec)) alignPairsCard

/-- THE TIED CARD OF 'loupelaw03.QuoteTells'. -/
def quoteTellsCard : Claim7 := { stood := { row := quoteTellsRow, standIns := [], harness := (true, "992726da2329e0b9bffb6394d08e7d24f981180d1bc1480ca7fb9e5f1d3ff29e"), looks := true }, kinds := [], alts := [], laidByText := true, laidKinds := [.data, .data, .data, .data, .sentinel, .sentinel, .pinned], laidTests := true, laidLooks := .later }
def QuoteTellsCardSaid : Prop := Claim7.holds Tryd.pinned (.plain (OpenSpec.ofChange quoteTellsSpec)) quoteTellsCard

/-- THE TIED CARD OF 'loupelaw03.QuoteBack'. -/
def quoteBackCard : Claim7 := { stood := { row := quoteBackRow, standIns := [], harness := (true, "992726da2329e0b9bffb6394d08e7d24f981180d1bc1480ca7fb9e5f1d3ff29e"), looks := true }, kinds := [], alts := [], laidByText := true, laidKinds := [.data, .data, .data, .data, .sentinel, .sentinel, .pinned], laidTests := true, laidLooks := .later }
def QuoteBackCardSaid : Prop := Claim7.holds Tryd.pinned (.plain (OpenSpec.ofChange quoteBackSpec)) quoteBackCard

/-- THE TIED CARD OF 'loupelaw03.QuoteUtf'. -/
def quoteUtfCard : Claim7 := { stood := { row := quoteUtfRow, standIns := [], harness := (true, "992726da2329e0b9bffb6394d08e7d24f981180d1bc1480ca7fb9e5f1d3ff29e"), looks := true }, kinds := [], alts := [], laidByText := true, laidKinds := [.data, .data, .data, .data, .sentinel, .sentinel, .pinned], laidTests := true, laidLooks := .later }
def QuoteUtfCardSaid : Prop := Claim7.holds Tryd.pinned (.plain (OpenSpec.ofChange quoteUtfSpec)) quoteUtfCard

/-- THE TIED CARD OF 'loupelaw03.QuoteJoined'. -/
def quoteJoinedCard : Claim7 := { stood := { row := quoteJoinedRow, standIns := [], harness := (true, "992726da2329e0b9bffb6394d08e7d24f981180d1bc1480ca7fb9e5f1d3ff29e"), looks := true }, kinds := [], alts := [], laidByText := true, laidKinds := [.data, .data, .data, .data, .sentinel, .sentinel, .pinned], laidTests := true, laidLooks := .later }
def QuoteJoinedCardSaid : Prop := Claim7.holds Tryd.pinned (.plain (OpenSpec.ofChange quoteJoinedSpec)) quoteJoinedCard

/-- THE TIED CARD OF 'loupelaw03.QuoteCode'. -/
def quoteCodeCard : Claim7 := { stood := { row := quoteCodeRow, standIns := [], harness := (true, "992726da2329e0b9bffb6394d08e7d24f981180d1bc1480ca7fb9e5f1d3ff29e"), looks := true }, kinds := [], alts := [], laidByText := true, laidKinds := [.data, .data, .data, .data, .sentinel, .sentinel, .pinned], laidTests := true, laidLooks := .later }
def QuoteCodeCardSaid : Prop := Claim7.holds Tryd.pinned (.plain (OpenSpec.ofChange quoteCodeSpec)) quoteCodeCard

/-- THE SECOND FORM's CARD OF 'loupelaw18.AlignTells'. -/
def alignTellsUptoCard : Claim7 := { stood := { row := alignTellsUptoRow, standIns := [], harness := (true, "992726da2329e0b9bffb6394d08e7d24f981180d1bc1480ca7fb9e5f1d3ff29e"), looks := true }, kinds := [], alts := [], laidByText := true, laidKinds := [.data, .data, .data], laidTests := true, laidLooks := .later }
def AlignTellsUptoCardSaid : Prop := Claim7.holds Tryd.pinned (.plain (OpenSpec.upto alignTellsSpec)) alignTellsUptoCard

/-- THE SECOND FORM's CARD OF 'loupelaw18.AlignOnce'. -/
def alignOnceUptoCard : Claim7 := { stood := { row := alignOnceUptoRow, standIns := [], harness := (true, "992726da2329e0b9bffb6394d08e7d24f981180d1bc1480ca7fb9e5f1d3ff29e"), looks := true }, kinds := [], alts := [], laidByText := true, laidKinds := [.data, .data, .data], laidTests := true, laidLooks := .later }
def AlignOnceUptoCardSaid : Prop := Claim7.holds Tryd.pinned (.plain (OpenSpec.upto alignOnceSpec)) alignOnceUptoCard

/-- THE SECOND FORM's CARD OF 'loupelaw18.AlignSame'. -/
def alignSameUptoCard : Claim7 := { stood := { row := alignSameUptoRow, standIns := [], harness := (true, "992726da2329e0b9bffb6394d08e7d24f981180d1bc1480ca7fb9e5f1d3ff29e"), looks := true }, kinds := [], alts := [], laidByText := true, laidKinds := [.data, .data, .data], laidTests := true, laidLooks := .later }
def AlignSameUptoCardSaid : Prop := Claim7.holds Tryd.pinned (.plain (OpenSpec.upto alignSameSpec)) alignSameUptoCard

/-- THE SECOND FORM's CARD OF 'loupelaw18.AlignLongest'. -/
def alignLongestUptoCard : Claim7 := { stood := { row := alignLongestUptoRow, standIns := [], harness := (true, "992726da2329e0b9bffb6394d08e7d24f981180d1bc1480ca7fb9e5f1d3ff29e"), looks := true }, kinds := [], alts := [], laidByText := true, laidKinds := [.data, .data, .data], laidTests := true, laidLooks := .later }
def AlignLongestUptoCardSaid : Prop := Claim7.holds Tryd.pinned (.plain (OpenSpec.upto alignLongestSpec)) alignLongestUptoCard

/-- THE SECOND FORM's CARD OF 'loupelaw18.AlignTurned'. -/
def alignTurnedUptoCard : Claim7 := { stood := { row := alignTurnedUptoRow, standIns := [], harness := (true, "992726da2329e0b9bffb6394d08e7d24f981180d1bc1480ca7fb9e5f1d3ff29e"), looks := true }, kinds := [], alts := [], laidByText := true, laidKinds := [.data, .data, .data], laidTests := true, laidLooks := .later }
def AlignTurnedUptoCardSaid : Prop := Claim7.holds Tryd.pinned (.plain (OpenSpec.upto alignTurnedSpec)) alignTurnedUptoCard

/-- THE SECOND FORM's CARD OF 'loupelaw18.AlignPairs'. -/
def alignPairsUptoCard : Claim7 := { stood := { row := alignPairsUptoRow, standIns := [], harness := (true, "992726da2329e0b9bffb6394d08e7d24f981180d1bc1480ca7fb9e5f1d3ff29e"), looks := true }, kinds := [], alts := [], laidByText := true, laidKinds := [.data, .data, .data], laidTests := true, laidLooks := .later }
def AlignPairsUptoCardSaid : Prop := Claim7.holds Tryd.pinned (.plain (OpenSpec.upto alignPairsSpec)) alignPairsUptoCard

/-- THE SECOND FORM's CARD OF 'loupelaw03.QuoteTells'. -/
def quoteTellsUptoCard : Claim7 := { stood := { row := quoteTellsUptoRow, standIns := [], harness := (true, "992726da2329e0b9bffb6394d08e7d24f981180d1bc1480ca7fb9e5f1d3ff29e"), looks := true }, kinds := [], alts := [], laidByText := true, laidKinds := [.data, .data, .data, .data, .sentinel, .sentinel, .pinned], laidTests := true, laidLooks := .later }
def QuoteTellsUptoCardSaid : Prop := Claim7.holds Tryd.pinned (.plain (OpenSpec.upto quoteTellsSpec)) quoteTellsUptoCard

/-- THE SECOND FORM's CARD OF 'loupelaw03.QuoteBack'. -/
def quoteBackUptoCard : Claim7 := { stood := { row := quoteBackUptoRow, standIns := [], harness := (true, "992726da2329e0b9bffb6394d08e7d24f981180d1bc1480ca7fb9e5f1d3ff29e"), looks := true }, kinds := [], alts := [], laidByText := true, laidKinds := [.data, .data, .data, .data, .sentinel, .sentinel, .pinned], laidTests := true, laidLooks := .later }
def QuoteBackUptoCardSaid : Prop := Claim7.holds Tryd.pinned (.plain (OpenSpec.upto quoteBackSpec)) quoteBackUptoCard

/-- THE SECOND FORM's CARD OF 'loupelaw03.QuoteUtf'. -/
def quoteUtfUptoCard : Claim7 := { stood := { row := quoteUtfUptoRow, standIns := [], harness := (true, "992726da2329e0b9bffb6394d08e7d24f981180d1bc1480ca7fb9e5f1d3ff29e"), looks := true }, kinds := [], alts := [], laidByText := true, laidKinds := [.data, .data, .data, .data, .sentinel, .sentinel, .pinned], laidTests := true, laidLooks := .later }
def QuoteUtfUptoCardSaid : Prop := Claim7.holds Tryd.pinned (.plain (OpenSpec.upto quoteUtfSpec)) quoteUtfUptoCard

/-- THE SECOND FORM's CARD OF 'loupelaw03.QuoteJoined'. -/
def quoteJoinedUptoCard : Claim7 := { stood := { row := quoteJoinedUptoRow, standIns := [], harness := (true, "992726da2329e0b9bffb6394d08e7d24f981180d1bc1480ca7fb9e5f1d3ff29e"), looks := true }, kinds := [], alts := [], laidByText := true, laidKinds := [.data, .data, .data, .data, .sentinel, .sentinel, .pinned], laidTests := true, laidLooks := .later }
def QuoteJoinedUptoCardSaid : Prop := Claim7.holds Tryd.pinned (.plain (OpenSpec.upto quoteJoinedSpec)) quoteJoinedUptoCard

/-- THE SECOND FORM's CARD OF 'loupelaw03.QuoteCode'. -/
def quoteCodeUptoCard : Claim7 := { stood := { row := quoteCodeUptoRow, standIns := [], harness := (true, "992726da2329e0b9bffb6394d08e7d24f981180d1bc1480ca7fb9e5f1d3ff29e"), looks := true }, kinds := [], alts := [], laidByText := true, laidKinds := [.data, .data, .data, .data, .sentinel, .sentinel, .pinned], laidTests := true, laidLooks := .later }
def QuoteCodeUptoCardSaid : Prop := Claim7.holds Tryd.pinned (.plain (OpenSpec.upto quoteCodeSpec)) quoteCodeUptoCard
end Rows
end Go.Proofs.YteiencnfglbnkaaDoor
