/-
  DERIVED. GIVEN WITH THE SEED: THE CARDS: each row of YtpbabncglokikaaDoorRows.lean that lists a variable, with what it lists TIED to the program's text (the seventh form; the later family's looks); each row that meets fmt, with fmt's text TOLD by the authors' own Lean function (tested against real Go, not proved from fmt's source: count such statements apart). THE CARD IS WHAT COUNTS. Prove the row's statement (the work); the ties are given (YtpbabncglokikaaDoorTie.lean); close each card by the builder's one call (the guide's Derived/Test/ToyasCard.lean, 'card_holds'). Laid BY PROGRAM, IN A SANDBOX (cutbox-door.mjs). By AI agents, Wed Nov 11 2026. No macro, syntax, notation, axiom, sorry.
-/
import Derived.Test.YtpbabncglokikaaDoorRows
import GoSem.ClaimSeven
namespace Go.Proofs.YtpbabncglokikaaDoor
namespace Rows

/-- THE TIED CARD OF 'tronagelaw05.LexerLexes'. -/
def lexerLexesCard : Claim7 := { stood := { row := lexerLexesRow, standIns := [], harness := (true, "d107c18695b5f64801ae50cc72e91e77a6dbb6f18b3f51b6d76375f2cf35bbec"), looks := false }, kinds := [], alts := [], laidByText := true, laidKinds := [.widerDeep, .data], laidTests := true, laidLooks := .later }
def LexerLexesCardSaid : Prop := Claim7.holds Tryd.pinned (.plain (OpenSpec.ofChange lexerLexesSpec)) lexerLexesCard

/-- THE TIED CARD OF 'tronagelaw05.LexerInside'. -/
def lexerInsideCard : Claim7 := { stood := { row := lexerInsideRow, standIns := [], harness := (true, "d107c18695b5f64801ae50cc72e91e77a6dbb6f18b3f51b6d76375f2cf35bbec"), looks := false }, kinds := [], alts := [], laidByText := true, laidKinds := [.widerDeep, .data], laidTests := true, laidLooks := .later }
def LexerInsideCardSaid : Prop := Claim7.holds Tryd.pinned (.plain (OpenSpec.ofChange lexerInsideSpec)) lexerInsideCard

/-- THE TIED CARD OF 'tronagelaw05.LexerSpaces'. -/
def lexerSpacesCard : Claim7 := { stood := { row := lexerSpacesRow, standIns := [], harness := (true, "d107c18695b5f64801ae50cc72e91e77a6dbb6f18b3f51b6d76375f2cf35bbec"), looks := false }, kinds := [], alts := [], laidByText := true, laidKinds := [.widerDeep, .data], laidTests := true, laidLooks := .later }
def LexerSpacesCardSaid : Prop := Claim7.holds Tryd.pinned (.plain (OpenSpec.ofChange lexerSpacesSpec)) lexerSpacesCard

/-- THE TIED CARD OF 'tronagelaw05.LexerQuotes'. -/
def lexerQuotesCard : Claim7 := { stood := { row := lexerQuotesRow, standIns := [], harness := (true, "d107c18695b5f64801ae50cc72e91e77a6dbb6f18b3f51b6d76375f2cf35bbec"), looks := false }, kinds := [], alts := [], laidByText := true, laidKinds := [.widerDeep, .data], laidTests := true, laidLooks := .later }
def LexerQuotesCardSaid : Prop := Claim7.holds Tryd.pinned (.plain (OpenSpec.ofChange lexerQuotesSpec)) lexerQuotesCard

/-- THE TIED CARD OF 'tronagelaw05.LexerActions'. -/
def lexerActionsCard : Claim7 := { stood := { row := lexerActionsRow, standIns := [], harness := (true, "d107c18695b5f64801ae50cc72e91e77a6dbb6f18b3f51b6d76375f2cf35bbec"), looks := false }, kinds := [], alts := [], laidByText := true, laidKinds := [.widerDeep, .data], laidTests := true, laidLooks := .later }
def LexerActionsCardSaid : Prop := Claim7.holds Tryd.pinned (.plain (OpenSpec.ofChange lexerActionsSpec)) lexerActionsCard

/-- THE TIED CARD OF 'tronagelaw05.LexerClasses'. -/
def lexerClassesCard : Claim7 := { stood := { row := lexerClassesRow, standIns := [], harness := (true, "d107c18695b5f64801ae50cc72e91e77a6dbb6f18b3f51b6d76375f2cf35bbec"), looks := false }, kinds := [], alts := [], laidByText := true, laidKinds := [.widerDeep, .data], laidTests := true, laidLooks := .later }
def LexerClassesCardSaid : Prop := Claim7.holds Tryd.pinned (.plain (OpenSpec.ofChange lexerClassesSpec)) lexerClassesCard

/-- THE TIED CARD OF 'tronagelaw05.LexerPlaces'. -/
def lexerPlacesCard : Claim7 := { stood := { row := lexerPlacesRow, standIns := [], harness := (true, "d107c18695b5f64801ae50cc72e91e77a6dbb6f18b3f51b6d76375f2cf35bbec"), looks := false }, kinds := [], alts := [], laidByText := true, laidKinds := [.widerDeep, .data], laidTests := true, laidLooks := .later }
def LexerPlacesCardSaid : Prop := Claim7.holds Tryd.pinned (.plain (OpenSpec.ofChange lexerPlacesSpec)) lexerPlacesCard

/-- THE SECOND FORM's CARD OF 'tronagelaw05.LexerLexes'. -/
def lexerLexesUptoCard : Claim7 := { stood := { row := lexerLexesUptoRow, standIns := [], harness := (true, "d107c18695b5f64801ae50cc72e91e77a6dbb6f18b3f51b6d76375f2cf35bbec"), looks := false }, kinds := [], alts := [], laidByText := true, laidKinds := [.widerDeep, .data], laidTests := true, laidLooks := .later }
def LexerLexesUptoCardSaid : Prop := Claim7.holds Tryd.pinned (.plain (OpenSpec.upto lexerLexesSpec)) lexerLexesUptoCard

/-- THE SECOND FORM's CARD OF 'tronagelaw05.LexerInside'. -/
def lexerInsideUptoCard : Claim7 := { stood := { row := lexerInsideUptoRow, standIns := [], harness := (true, "d107c18695b5f64801ae50cc72e91e77a6dbb6f18b3f51b6d76375f2cf35bbec"), looks := false }, kinds := [], alts := [], laidByText := true, laidKinds := [.widerDeep, .data], laidTests := true, laidLooks := .later }
def LexerInsideUptoCardSaid : Prop := Claim7.holds Tryd.pinned (.plain (OpenSpec.upto lexerInsideSpec)) lexerInsideUptoCard

/-- THE SECOND FORM's CARD OF 'tronagelaw05.LexerSpaces'. -/
def lexerSpacesUptoCard : Claim7 := { stood := { row := lexerSpacesUptoRow, standIns := [], harness := (true, "d107c18695b5f64801ae50cc72e91e77a6dbb6f18b3f51b6d76375f2cf35bbec"), looks := false }, kinds := [], alts := [], laidByText := true, laidKinds := [.widerDeep, .data], laidTests := true, laidLooks := .later }
def LexerSpacesUptoCardSaid : Prop := Claim7.holds Tryd.pinned (.plain (OpenSpec.upto lexerSpacesSpec)) lexerSpacesUptoCard

/-- THE SECOND FORM's CARD OF 'tronagelaw05.LexerQuotes'. -/
def lexerQuotesUptoCard : Claim7 := { stood := { row := lexerQuotesUptoRow, standIns := [], harness := (true, "d107c18695b5f64801ae50cc72e91e77a6dbb6f18b3f51b6d76375f2cf35bbec"), looks := false }, kinds := [], alts := [], laidByText := true, laidKinds := [.widerDeep, .data], laidTests := true, laidLooks := .later }
def LexerQuotesUptoCardSaid : Prop := Claim7.holds Tryd.pinned (.plain (OpenSpec.upto lexerQuotesSpec)) lexerQuotesUptoCard

/-- THE SECOND FORM's CARD OF 'tronagelaw05.LexerActions'. -/
def lexerActionsUptoCard : Claim7 := { stood := { row := lexerActionsUptoRow, standIns := [], harness := (true, "d107c18695b5f64801ae50cc72e91e77a6dbb6f18b3f51b6d76375f2cf35bbec"), looks := false }, kinds := [], alts := [], laidByText := true, laidKinds := [.widerDeep, .data], laidTests := true, laidLooks := .later }
def LexerActionsUptoCardSaid : Prop := Claim7.holds Tryd.pinned (.plain (OpenSpec.upto lexerActionsSpec)) lexerActionsUptoCard

/-- THE SECOND FORM's CARD OF 'tronagelaw05.LexerClasses'. -/
def lexerClassesUptoCard : Claim7 := { stood := { row := lexerClassesUptoRow, standIns := [], harness := (true, "d107c18695b5f64801ae50cc72e91e77a6dbb6f18b3f51b6d76375f2cf35bbec"), looks := false }, kinds := [], alts := [], laidByText := true, laidKinds := [.widerDeep, .data], laidTests := true, laidLooks := .later }
def LexerClassesUptoCardSaid : Prop := Claim7.holds Tryd.pinned (.plain (OpenSpec.upto lexerClassesSpec)) lexerClassesUptoCard

/-- THE SECOND FORM's CARD OF 'tronagelaw05.LexerPlaces'. -/
def lexerPlacesUptoCard : Claim7 := { stood := { row := lexerPlacesUptoRow, standIns := [], harness := (true, "d107c18695b5f64801ae50cc72e91e77a6dbb6f18b3f51b6d76375f2cf35bbec"), looks := false }, kinds := [], alts := [], laidByText := true, laidKinds := [.widerDeep, .data], laidTests := true, laidLooks := .later }
def LexerPlacesUptoCardSaid : Prop := Claim7.holds Tryd.pinned (.plain (OpenSpec.upto lexerPlacesSpec)) lexerPlacesUptoCard
end Rows
end Go.Proofs.YtpbabncglokikaaDoor
