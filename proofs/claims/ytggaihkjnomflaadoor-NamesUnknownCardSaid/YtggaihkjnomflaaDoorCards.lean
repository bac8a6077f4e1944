/-
  DERIVED. GIVEN WITH THE SEED: THE CARDS: each row of YtggaihkjnomflaaDoorRows.lean that lists a variable, with what it lists TIED to the program's text (the seventh form; the later family's looks); each row that meets fmt, with fmt's text TOLD by the authors' own Lean function (tested against real Go, not proved from fmt's source: count such statements apart). THE CARD IS WHAT COUNTS. Prove the row's statement (the work); the ties are given (YtggaihkjnomflaaDoorTie.lean); close each card by the builder's one call (the guide's Derived/Test/ToyasCard.lean, 'card_holds'). Laid BY PROGRAM, IN A SANDBOX (cutbox-door.mjs). By AI agents, Wed Nov 11 2026. No macro, syntax, notation, axiom, sorry.
-/
import Derived.Test.YtggaihkjnomflaaDoorRows
import GoSem.ClaimSeven
namespace Go.Proofs.YtggaihkjnomflaaDoor
namespace Rows

/-- THE TIED CARD OF 'tronagelaw08.NamesBack'. -/
def namesBackCard : Claim7 := { stood := { row := namesBackRow, standIns := [], harness := (true, "c911ca29711ce8947f3c98f71e456557eb33500f2eefffa754ffdd048eb152de"), looks := false }, kinds := [], alts := [], laidByText := true, laidKinds := [.widerDeep, .data], laidTests := true, laidLooks := .later }
def NamesBackCardSaid : Prop := Claim7.holds Tryd.pinned (.plain (OpenSpec.ofChange namesBackSpec)) namesBackCard

/-- THE TIED CARD OF 'tronagelaw08.NamesRules'. -/
def namesRulesCard : Claim7 := { stood := { row := namesRulesRow, standIns := [], harness := (true, "c911ca29711ce8947f3c98f71e456557eb33500f2eefffa754ffdd048eb152de"), looks := false }, kinds := [], alts := [], laidByText := true, laidKinds := [.widerDeep, .data], laidTests := true, laidLooks := .later }
def NamesRulesCardSaid : Prop := Claim7.holds Tryd.pinned (.plain (OpenSpec.ofChange namesRulesSpec)) namesRulesCard

/-- THE TIED CARD OF 'tronagelaw08.NamesLevels'. -/
def namesLevelsCard : Claim7 := { stood := { row := namesLevelsRow, standIns := [], harness := (true, "c911ca29711ce8947f3c98f71e456557eb33500f2eefffa754ffdd048eb152de"), looks := false }, kinds := [], alts := [], laidByText := true, laidKinds := [.widerDeep, .data], laidTests := true, laidLooks := .later }
def NamesLevelsCardSaid : Prop := Claim7.holds Tryd.pinned (.plain (OpenSpec.ofChange namesLevelsSpec)) namesLevelsCard

/-- THE TIED CARD OF 'tronagelaw08.NamesUnknown'. -/
def namesUnknownCard : Claim7 := { stood := { row := namesUnknownRow, standIns := [], harness := (true, "c911ca29711ce8947f3c98f71e456557eb33500f2eefffa754ffdd048eb152de"), looks := false }, kinds := [], alts := [], laidByText := true, laidKinds := [.widerDeep, .data], laidTests := true, laidLooks := .later }
def NamesUnknownCardSaid : Prop := Claim7.holds Tryd.pinned (.plain (OpenSpec.ofChange namesUnknownSpec)) namesUnknownCard

/-- THE SECOND FORM's CARD OF 'tronagelaw08.NamesBack'. -/
def namesBackUptoCard : Claim7 := { stood := { row := namesBackUptoRow, standIns := [], harness := (true, "c911ca29711ce8947f3c98f71e456557eb33500f2eefffa754ffdd048eb152de"), looks := false }, kinds := [], alts := [], laidByText := true, laidKinds := [.widerDeep, .data], laidTests := true, laidLooks := .later }
def NamesBackUptoCardSaid : Prop := Claim7.holds Tryd.pinned (.plain (OpenSpec.upto namesBackSpec)) namesBackUptoCard

/-- THE SECOND FORM's CARD OF 'tronagelaw08.NamesRules'. -/
def namesRulesUptoCard : Claim7 := { stood := { row := namesRulesUptoRow, standIns := [], harness := (true, "c911ca29711ce8947f3c98f71e456557eb33500f2eefffa754ffdd048eb152de"), looks := false }, kinds := [], alts := [], laidByText := true, laidKinds := [.widerDeep, .data], laidTests := true, laidLooks := .later }
def NamesRulesUptoCardSaid : Prop := Claim7.holds Tryd.pinned (.plain (OpenSpec.upto namesRulesSpec)) namesRulesUptoCard

/-- THE SECOND FORM's CARD OF 'tronagelaw08.NamesLevels'. -/
def namesLevelsUptoCard : Claim7 := { stood := { row := namesLevelsUptoRow, standIns := [], harness := (true, "c911ca29711ce8947f3c98f71e456557eb33500f2eefffa754ffdd048eb152de"), looks := false }, kinds := [], alts := [], laidByText := true, laidKinds := [.widerDeep, .data], laidTests := true, laidLooks := .later }
def NamesLevelsUptoCardSaid : Prop := Claim7.holds Tryd.pinned (.plain (OpenSpec.upto namesLevelsSpec)) namesLevelsUptoCard

/-- THE SECOND FORM's CARD OF 'tronagelaw08.NamesUnknown'. -/
def namesUnknownUptoCard : Claim7 := { stood := { row := namesUnknownUptoRow, standIns := [], harness := (true, "c911ca29711ce8947f3c98f71e456557eb33500f2eefffa754ffdd048eb152de"), looks := false }, kinds := [], alts := [], laidByText := true, laidKinds := [.widerDeep, .data], laidTests := true, laidLooks := .later }
def NamesUnknownUptoCardSaid : Prop := Claim7.holds Tryd.pinned (.plain (OpenSpec.upto namesUnknownSpec)) namesUnknownUptoCard
end Rows
end Go.Proofs.YtggaihkjnomflaaDoor
