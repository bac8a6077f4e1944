/-
  DERIVED. GIVEN WITH THE SEED: THE CARDS: each row of YtlndoebddndlmaaDoorRows.lean that lists a variable, with what it lists TIED to the program's text (the seventh form; the later family's looks); each row that meets fmt, with fmt's text TOLD by the authors' own Lean function (tested against real Go, not proved from fmt's source: count such statements apart). THE CARD IS WHAT COUNTS. Prove the row's statement (the work); the ties are given (YtlndoebddndlmaaDoorTie.lean); close each card by the builder's one call (the guide's Derived/Test/ToyasCard.lean, 'card_holds'). Laid BY PROGRAM, IN A SANDBOX (cutbox-door.mjs). By AI agents, Wed Nov 11 2026. No macro, syntax, notation, axiom, sorry.
-/
import Derived.Test.YtlndoebddndlmaaDoorRows
import GoSem.ClaimSeven
namespace Go.Proofs.YtlndoebddndlmaaDoor
namespace Rows

/-- THE TIED CARD OF 'tronagelaw21.CodeCompiles'. -/
def codeCompilesCard : Claim7 := { stood := { row := codeCompilesRow, standIns := [], harness := (true, "d2fd10d88e02cacaf935a278ef16f626895351540577dd8f7a92b58813ff20bd"), looks := false }, kinds := [], alts := [], laidByText := true, laidKinds := [.data], laidTests := true, laidLooks := .later }
def CodeCompilesCardSaid : Prop := Claim7.holds Tryd.pinned (.plain (OpenSpec.ofChange codeCompilesSpec)) codeCompilesCard

/-- THE TIED CARD OF 'tronagelaw21.CodePrefix'. -/
def codePrefixCard : Claim7 := { stood := { row := codePrefixRow, standIns := [], harness := (true, "d2fd10d88e02cacaf935a278ef16f626895351540577dd8f7a92b58813ff20bd"), looks := false }, kinds := [], alts := [], laidByText := true, laidKinds := [.data], laidTests := true, laidLooks := .later }
def CodePrefixCardSaid : Prop := Claim7.holds Tryd.pinned (.plain (OpenSpec.ofChange codePrefixSpec)) codePrefixCard

/-- THE TIED CARD OF 'tronagelaw21.CodeBack'. -/
def codeBackCard : Claim7 := { stood := { row := codeBackRow, standIns := [], harness := (true, "d2fd10d88e02cacaf935a278ef16f626895351540577dd8f7a92b58813ff20bd"), looks := false }, kinds := [], alts := [], laidByText := true, laidKinds := [.data], laidTests := true, laidLooks := .later }
def CodeBackCardSaid : Prop := Claim7.holds Tryd.pinned (.plain (OpenSpec.ofChange codeBackSpec)) codeBackCard

/-- THE TIED CARD OF 'tronagelaw21.CodeOnly'. -/
def codeOnlyCard : Claim7 := { stood := { row := codeOnlyRow, standIns := [], harness := (true, "d2fd10d88e02cacaf935a278ef16f626895351540577dd8f7a92b58813ff20bd"), looks := false }, kinds := [], alts := [], laidByText := true, laidKinds := [.data], laidTests := true, laidLooks := .later }
def CodeOnlyCardSaid : Prop := Claim7.holds Tryd.pinned (.plain (OpenSpec.ofChange codeOnlySpec)) codeOnlyCard

/-- THE TIED CARD OF 'tronagelaw21.CodeChecks'. -/
def codeChecksCard : Claim7 := { stood := { row := codeChecksRow, standIns := [], harness := (true, "d2fd10d88e02cacaf935a278ef16f626895351540577dd8f7a92b58813ff20bd"), looks := false }, kinds := [], alts := [], laidByText := true, laidKinds := [.data], laidTests := true, laidLooks := .later }
def CodeChecksCardSaid : Prop := Claim7.holds Tryd.pinned (.plain (OpenSpec.ofChange codeChecksSpec)) codeChecksCard

/-- THE TIED CARD OF 'tronagelaw21.CodeBytes'. -/
def codeBytesCard : Claim7 := { stood := { row := codeBytesRow, standIns := [], harness := (true, "d2fd10d88e02cacaf935a278ef16f626895351540577dd8f7a92b58813ff20bd"), looks := false }, kinds := [], alts := [], laidByText := true, laidKinds := [.data], laidTests := true, laidLooks := .later }
def CodeBytesCardSaid : Prop := Claim7.holds Tryd.pinned (.plain (OpenSpec.ofChange codeBytesSpec)) codeBytesCard

/-- THE SECOND FORM's CARD OF 'tronagelaw21.CodeCompiles'. -/
def codeCompilesUptoCard : Claim7 := { stood := { row := codeCompilesUptoRow, standIns := [], harness := (true, "d2fd10d88e02cacaf935a278ef16f626895351540577dd8f7a92b58813ff20bd"), looks := false }, kinds := [], alts := [], laidByText := true, laidKinds := [.data], laidTests := true, laidLooks := .later }
def CodeCompilesUptoCardSaid : Prop := Claim7.holds Tryd.pinned (.plain (OpenSpec.upto codeCompilesSpec)) codeCompilesUptoCard

/-- THE SECOND FORM's CARD OF 'tronagelaw21.CodePrefix'. -/
def codePrefixUptoCard : Claim7 := { stood := { row := codePrefixUptoRow, standIns := [], harness := (true, "d2fd10d88e02cacaf935a278ef16f626895351540577dd8f7a92b58813ff20bd"), looks := false }, kinds := [], alts := [], laidByText := true, laidKinds := [.data], laidTests := true, laidLooks := .later }
def CodePrefixUptoCardSaid : Prop := Claim7.holds Tryd.pinned (.plain (OpenSpec.upto codePrefixSpec)) codePrefixUptoCard

/-- THE SECOND FORM's CARD OF 'tronagelaw21.CodeBack'. -/
def codeBackUptoCard : Claim7 := { stood := { row := codeBackUptoRow, standIns := [], harness := (true, "d2fd10d88e02cacaf935a278ef16f626895351540577dd8f7a92b58813ff20bd"), looks := false }, kinds := [], alts := [], laidByText := true, laidKinds := [.data], laidTests := true, laidLooks := .later }
def CodeBackUptoCardSaid : Prop := Claim7.holds Tryd.pinned (.plain (OpenSpec.upto codeBackSpec)) codeBackUptoCard

/-- THE SECOND FORM's CARD OF 'tronagelaw21.CodeOnly'. -/
def codeOnlyUptoCard : Claim7 := { stood := { row := codeOnlyUptoRow, standIns := [], harness := (true, "d2fd10d88e02cacaf935a278ef16f626895351540577dd8f7a92b58813ff20bd"), looks := false }, kinds := [], alts := [], laidByText := true, laidKinds := [.data], laidTests := true, laidLooks := .later }
def CodeOnlyUptoCardSaid : Prop := Claim7.holds Tryd.pinned (.plain (OpenSpec.upto codeOnlySpec)) codeOnlyUptoCard

/-- THE SECOND FORM's CARD OF 'tronagelaw21.CodeChecks'. -/
def codeChecksUptoCard : Claim7 := { stood := { row := codeChecksUptoRow, standIns := [], harness := (true, "d2fd10d88e02cacaf935a278ef16f626895351540577dd8f7a92b58813ff20bd"), looks := false }, kinds := [], alts := [], laidByText := true, laidKinds := [.data], laidTests := true, laidLooks := .later }
def CodeChecksUptoCardSaid : Prop := Claim7.holds Tryd.pinned (.plain (OpenSpec.upto codeChecksSpec)) codeChecksUptoCard

/-- THE SECOND FORM's CARD OF 'tronagelaw21.CodeBytes'. -/
def codeBytesUptoCard : Claim7 := { stood := { row := codeBytesUptoRow, standIns := [], harness := (true, "d2fd10d88e02cacaf935a278ef16f626895351540577dd8f7a92b58813ff20bd"), looks := false }, kinds := [], alts := [], laidByText := true, laidKinds := [.data], laidTests := true, laidLooks := .later }
def CodeBytesUptoCardSaid : Prop := Claim7.holds Tryd.pinned (.plain (OpenSpec.upto codeBytesSpec)) codeBytesUptoCard
end Rows
end Go.Proofs.YtlndoebddndlmaaDoor
