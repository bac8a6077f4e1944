/-
  DERIVED. GIVEN WITH THE SEED: THE CARDS: each row of YtcggbplapaeedaaDoorRows.lean that lists a variable, with what it lists TIED to the program's text (the seventh form; the later family's looks); each row that meets fmt, with fmt's text TOLD by the authors' own Lean function (tested against real Go, not proved from fmt's source: count such statements apart). THE CARD IS WHAT COUNTS. Prove the row's statement (the work); the ties are given (YtcggbplapaeedaaDoorTie.lean); close each card by the builder's one call (the guide's Derived/Test/ToyasCard.lean, 'card_holds'). Laid BY PROGRAM, IN A SANDBOX (cutbox-door.mjs). By AI agents, Wed Nov 11 2026. No macro, syntax, notation, axiom, sorry.
-/
import Derived.Test.YtcggbplapaeedaaDoorRows
import GoSem.ClaimSeven
namespace Go.Proofs.YtcggbplapaeedaaDoor
namespace Rows

/-- THE TIED CARD OF 'tronagelaw06.ReaderInside'. -/
def readerInsideCard : Claim7 := { stood := { row := readerInsideRow, standIns := [], harness := (true, "25aee13cbf4d26b0dec865d28682c7bc1273e106ef19f4f61418e6b24d4d11cb"), looks := false }, kinds := [], alts := [], laidByText := true, laidKinds := [.widerDeep, .data], laidTests := true, laidLooks := .later }
def ReaderInsideCardSaid : Prop := Claim7.holds Tryd.pinned (.plain (OpenSpec.ofChange readerInsideSpec)) readerInsideCard

/-- THE TIED CARD OF 'tronagelaw06.ReaderRules'. -/
def readerRulesCard : Claim7 := { stood := { row := readerRulesRow, standIns := [], harness := (true, "25aee13cbf4d26b0dec865d28682c7bc1273e106ef19f4f61418e6b24d4d11cb"), looks := false }, kinds := [], alts := [], laidByText := true, laidKinds := [.widerDeep, .data], laidTests := true, laidLooks := .later }
def ReaderRulesCardSaid : Prop := Claim7.holds Tryd.pinned (.plain (OpenSpec.ofChange readerRulesSpec)) readerRulesCard

/-- THE TIED CARD OF 'tronagelaw06.ReaderTokens'. -/
def readerTokensCard : Claim7 := { stood := { row := readerTokensRow, standIns := [], harness := (true, "25aee13cbf4d26b0dec865d28682c7bc1273e106ef19f4f61418e6b24d4d11cb"), looks := false }, kinds := [], alts := [], laidByText := true, laidKinds := [.widerDeep, .data], laidTests := true, laidLooks := .later }
def ReaderTokensCardSaid : Prop := Claim7.holds Tryd.pinned (.plain (OpenSpec.ofChange readerTokensSpec)) readerTokensCard

/-- THE TIED CARD OF 'tronagelaw06.ReaderJoins'. -/
def readerJoinsCard : Claim7 := { stood := { row := readerJoinsRow, standIns := [], harness := (true, "25aee13cbf4d26b0dec865d28682c7bc1273e106ef19f4f61418e6b24d4d11cb"), looks := false }, kinds := [], alts := [], laidByText := true, laidKinds := [.widerDeep, .data], laidTests := true, laidLooks := .later }
def ReaderJoinsCardSaid : Prop := Claim7.holds Tryd.pinned (.plain (OpenSpec.ofChange readerJoinsSpec)) readerJoinsCard

/-- THE TIED CARD OF 'tronagelaw07.PrinterPrints'. -/
def printerPrintsCard : Claim7 := { stood := { row := printerPrintsRow, standIns := [], harness := (true, "25aee13cbf4d26b0dec865d28682c7bc1273e106ef19f4f61418e6b24d4d11cb"), looks := false }, kinds := [], alts := [], laidByText := true, laidKinds := [.widerDeep, .data], laidTests := true, laidLooks := .later }
def PrinterPrintsCardSaid : Prop := Claim7.holds Tryd.pinned (.plain (OpenSpec.ofChange printerPrintsSpec)) printerPrintsCard

/-- THE TIED CARD OF 'tronagelaw07.PrinterUnlike'. -/
def printerUnlikeCard : Claim7 := { stood := { row := printerUnlikeRow, standIns := [], harness := (true, "25aee13cbf4d26b0dec865d28682c7bc1273e106ef19f4f61418e6b24d4d11cb"), looks := false }, kinds := [], alts := [], laidByText := true, laidKinds := [.widerDeep, .data], laidTests := true, laidLooks := .later }
def PrinterUnlikeCardSaid : Prop := Claim7.holds Tryd.pinned (.plain (OpenSpec.ofChange printerUnlikeSpec)) printerUnlikeCard

/-- THE TIED CARD OF 'tronagelaw07.PrinterPatterns'. -/
def printerPatternsCard : Claim7 := { stood := { row := printerPatternsRow, standIns := [], harness := (true, "25aee13cbf4d26b0dec865d28682c7bc1273e106ef19f4f61418e6b24d4d11cb"), looks := false }, kinds := [], alts := [], laidByText := true, laidKinds := [.widerDeep, .data], laidTests := true, laidLooks := .later }
def PrinterPatternsCardSaid : Prop := Claim7.holds Tryd.pinned (.plain (OpenSpec.ofChange printerPatternsSpec)) printerPatternsCard

/-- THE TIED CARD OF 'tronagelaw07.PrinterBack'. -/
def printerBackCard : Claim7 := { stood := { row := printerBackRow, standIns := [], harness := (true, "25aee13cbf4d26b0dec865d28682c7bc1273e106ef19f4f61418e6b24d4d11cb"), looks := false }, kinds := [], alts := [], laidByText := true, laidKinds := [.widerDeep, .data], laidTests := true, laidLooks := .later }
def PrinterBackCardSaid : Prop := Claim7.holds Tryd.pinned (.plain (OpenSpec.ofChange printerBackSpec)) printerBackCard

/-- THE TIED CARD OF 'tronagelaw07.PrinterReads'. -/
def printerReadsCard : Claim7 := { stood := { row := printerReadsRow, standIns := [], harness := (true, "25aee13cbf4d26b0dec865d28682c7bc1273e106ef19f4f61418e6b24d4d11cb"), looks := false }, kinds := [], alts := [], laidByText := true, laidKinds := [.widerDeep, .data], laidTests := true, laidLooks := .later }
def PrinterReadsCardSaid : Prop := Claim7.holds Tryd.pinned (.plain (OpenSpec.ofChange printerReadsSpec)) printerReadsCard

/-- THE SECOND FORM's CARD OF 'tronagelaw06.ReaderInside'. -/
def readerInsideUptoCard : Claim7 := { stood := { row := readerInsideUptoRow, standIns := [], harness := (true, "25aee13cbf4d26b0dec865d28682c7bc1273e106ef19f4f61418e6b24d4d11cb"), looks := false }, kinds := [], alts := [], laidByText := true, laidKinds := [.widerDeep, .data], laidTests := true, laidLooks := .later }
def ReaderInsideUptoCardSaid : Prop := Claim7.holds Tryd.pinned (.plain (OpenSpec.upto readerInsideSpec)) readerInsideUptoCard

/-- THE SECOND FORM's CARD OF 'tronagelaw06.ReaderRules'. -/
def readerRulesUptoCard : Claim7 := { stood := { row := readerRulesUptoRow, standIns := [], harness := (true, "25aee13cbf4d26b0dec865d28682c7bc1273e106ef19f4f61418e6b24d4d11cb"), looks := false }, kinds := [], alts := [], laidByText := true, laidKinds := [.widerDeep, .data], laidTests := true, laidLooks := .later }
def ReaderRulesUptoCardSaid : Prop := Claim7.holds Tryd.pinned (.plain (OpenSpec.upto readerRulesSpec)) readerRulesUptoCard

/-- THE SECOND FORM's CARD OF 'tronagelaw06.ReaderTokens'. -/
def readerTokensUptoCard : Claim7 := { stood := { row := readerTokensUptoRow, standIns := [], harness := (true, "25aee13cbf4d26b0dec865d28682c7bc1273e106ef19f4f61418e6b24d4d11cb"), looks := false }, kinds := [], alts := [], laidByText := true, laidKinds := [.widerDeep, .data], laidTests := true, laidLooks := .later }
def ReaderTokensUptoCardSaid : Prop := Claim7.holds Tryd.pinned (.plain (OpenSpec.upto readerTokensSpec)) readerTokensUptoCard

/-- THE SECOND FORM's CARD OF 'tronagelaw06.ReaderJoins'. -/
def readerJoinsUptoCard : Claim7 := { stood := { row := readerJoinsUptoRow, standIns := [], harness := (true, "25aee13cbf4d26b0dec865d28682c7bc1273e106ef19f4f61418e6b24d4d11cb"), looks := false }, kinds := [], alts := [], laidByText := true, laidKinds := [.widerDeep, .data], laidTests := true, laidLooks := .later }
def ReaderJoinsUptoCardSaid : Prop := Claim7.holds Tryd.pinned (.plain (OpenSpec.upto readerJoinsSpec)) readerJoinsUptoCard

/-- THE SECOND FORM's CARD OF 'tronagelaw07.PrinterPrints'. -/
def printerPrintsUptoCard : Claim7 := { stood := { row := printerPrintsUptoRow, standIns := [], harness := (true, "25aee13cbf4d26b0dec865d28682c7bc1273e106ef19f4f61418e6b24d4d11cb"), looks := false }, kinds := [], alts := [], laidByText := true, laidKinds := [.widerDeep, .data], laidTests := true, laidLooks := .later }
def PrinterPrintsUptoCardSaid : Prop := Claim7.holds Tryd.pinned (.plain (OpenSpec.upto printerPrintsSpec)) printerPrintsUptoCard

/-- THE SECOND FORM's CARD OF 'tronagelaw07.PrinterUnlike'. -/
def printerUnlikeUptoCard : Claim7 := { stood := { row := printerUnlikeUptoRow, standIns := [], harness := (true, "25aee13cbf4d26b0dec865d28682c7bc1273e106ef19f4f61418e6b24d4d11cb"), looks := false }, kinds := [], alts := [], laidByText := true, laidKinds := [.widerDeep, .data], laidTests := true, laidLooks := .later }
def PrinterUnlikeUptoCardSaid : Prop := Claim7.holds Tryd.pinned (.plain (OpenSpec.upto printerUnlikeSpec)) printerUnlikeUptoCard

/-- THE SECOND FORM's CARD OF 'tronagelaw07.PrinterPatterns'. -/
def printerPatternsUptoCard : Claim7 := { stood := { row := printerPatternsUptoRow, standIns := [], harness := (true, "25aee13cbf4d26b0dec865d28682c7bc1273e106ef19f4f61418e6b24d4d11cb"), looks := false }, kinds := [], alts := [], laidByText := true, laidKinds := [.widerDeep, .data], laidTests := true, laidLooks := .later }
def PrinterPatternsUptoCardSaid : Prop := Claim7.holds Tryd.pinned (.plain (OpenSpec.upto printerPatternsSpec)) printerPatternsUptoCard

/-- THE SECOND FORM's CARD OF 'tronagelaw07.PrinterBack'. -/
def printerBackUptoCard : Claim7 := { stood := { row := printerBackUptoRow, standIns := [], harness := (true, "25aee13cbf4d26b0dec865d28682c7bc1273e106ef19f4f61418e6b24d4d11cb"), looks := false }, kinds := [], alts := [], laidByText := true, laidKinds := [.widerDeep, .data], laidTests := true, laidLooks := .later }
def PrinterBackUptoCardSaid : Prop := Claim7.holds Tryd.pinned (.plain (OpenSpec.upto printerBackSpec)) printerBackUptoCard

/-- THE SECOND FORM's CARD OF 'tronagelaw07.PrinterReads'. -/
def printerReadsUptoCard : Claim7 := { stood := { row := printerReadsUptoRow, standIns := [], harness := (true, "25aee13cbf4d26b0dec865d28682c7bc1273e106ef19f4f61418e6b24d4d11cb"), looks := false }, kinds := [], alts := [], laidByText := true, laidKinds := [.widerDeep, .data], laidTests := true, laidLooks := .later }
def PrinterReadsUptoCardSaid : Prop := Claim7.holds Tryd.pinned (.plain (OpenSpec.upto printerReadsSpec)) printerReadsUptoCard
end Rows
end Go.Proofs.YtcggbplapaeedaaDoor
