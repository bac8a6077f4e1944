/-
  DERIVED. GIVEN WITH THE SEED: THE CARDS: each row of YtfnnapgpcndcjaaDoorRows.lean that lists a variable, with what it lists TIED to the program's text (the seventh form; the later family's looks); each row that meets fmt, with fmt's text TOLD by the authors' own Lean function (tested against real Go, not proved from fmt's source: count such statements apart). THE CARD IS WHAT COUNTS. Prove the row's statement (the work); the ties are given (YtfnnapgpcndcjaaDoorTie.lean); close each card by the builder's one call (the guide's Derived/Test/ToyasCard.lean, 'card_holds'). Laid BY PROGRAM, IN A SANDBOX (cutbox-door.mjs). By AI agents, Wed Nov 11 2026. No macro, syntax, notation, axiom, sorry.
-/
import Derived.Test.YtfnnapgpcndcjaaDoorRows
import GoSem.ClaimSeven
namespace Go.Proofs.YtfnnapgpcndcjaaDoor
namespace Rows

/-- THE TIED CARD OF 'tronagelaw22.EvalLeaves'. -/
def evalLeavesCard : Claim7 := { stood := { row := evalLeavesRow, standIns := [], harness := (true, "51adac0c7cf940f56a95a7fcca172134ffc30d4bdec24610f13c5f292f129fc6"), looks := false }, kinds := [], alts := [], laidByText := true, laidKinds := [.data, .data, .pinned], laidTests := true, laidLooks := .later }
def EvalLeavesCardSaid : Prop := Claim7.holds Tryd.pinned (.plain (OpenSpec.ofChange evalLeavesSpec)) evalLeavesCard

/-- THE TIED CARD OF 'tronagelaw22.EvalMeans'. -/
def evalMeansCard : Claim7 := { stood := { row := evalMeansRow, standIns := [], harness := (true, "51adac0c7cf940f56a95a7fcca172134ffc30d4bdec24610f13c5f292f129fc6"), looks := false }, kinds := [], alts := [], laidByText := true, laidKinds := [.data, .data, .pinned], laidTests := true, laidLooks := .later }
def EvalMeansCardSaid : Prop := Claim7.holds Tryd.pinned (.plain (OpenSpec.ofChange evalMeansSpec)) evalMeansCard

/-- THE TIED CARD OF 'tronagelaw22.EvalOps'. -/
def evalOpsCard : Claim7 := { stood := { row := evalOpsRow, standIns := [], harness := (true, "51adac0c7cf940f56a95a7fcca172134ffc30d4bdec24610f13c5f292f129fc6"), looks := false }, kinds := [], alts := [], laidByText := true, laidKinds := [.data, .data, .pinned], laidTests := true, laidLooks := .later }
def EvalOpsCardSaid : Prop := Claim7.holds Tryd.pinned (.plain (OpenSpec.ofChange evalOpsSpec)) evalOpsCard

/-- THE TIED CARD OF 'tronagelaw22.EvalErrors'. -/
def evalErrorsCard : Claim7 := { stood := { row := evalErrorsRow, standIns := [], harness := (true, "51adac0c7cf940f56a95a7fcca172134ffc30d4bdec24610f13c5f292f129fc6"), looks := false }, kinds := [], alts := [], laidByText := true, laidKinds := [.data, .data, .pinned], laidTests := true, laidLooks := .later }
def EvalErrorsCardSaid : Prop := Claim7.holds Tryd.pinned (.plain (OpenSpec.ofChange evalErrorsSpec)) evalErrorsCard

/-- THE SECOND FORM's CARD OF 'tronagelaw22.EvalLeaves'. -/
def evalLeavesUptoCard : Claim7 := { stood := { row := evalLeavesUptoRow, standIns := [], harness := (true, "51adac0c7cf940f56a95a7fcca172134ffc30d4bdec24610f13c5f292f129fc6"), looks := false }, kinds := [], alts := [], laidByText := true, laidKinds := [.data, .data, .pinned], laidTests := true, laidLooks := .later }
def EvalLeavesUptoCardSaid : Prop := Claim7.holds Tryd.pinned (.plain (OpenSpec.upto evalLeavesSpec)) evalLeavesUptoCard

/-- THE SECOND FORM's CARD OF 'tronagelaw22.EvalMeans'. -/
def evalMeansUptoCard : Claim7 := { stood := { row := evalMeansUptoRow, standIns := [], harness := (true, "51adac0c7cf940f56a95a7fcca172134ffc30d4bdec24610f13c5f292f129fc6"), looks := false }, kinds := [], alts := [], laidByText := true, laidKinds := [.data, .data, .pinned], laidTests := true, laidLooks := .later }
def EvalMeansUptoCardSaid : Prop := Claim7.holds Tryd.pinned (.plain (OpenSpec.upto evalMeansSpec)) evalMeansUptoCard

/-- THE SECOND FORM's CARD OF 'tronagelaw22.EvalOps'. -/
def evalOpsUptoCard : Claim7 := { stood := { row := evalOpsUptoRow, standIns := [], harness := (true, "51adac0c7cf940f56a95a7fcca172134ffc30d4bdec24610f13c5f292f129fc6"), looks := false }, kinds := [], alts := [], laidByText := true, laidKinds := [.data, .data, .pinned], laidTests := true, laidLooks := .later }
def EvalOpsUptoCardSaid : Prop := Claim7.holds Tryd.pinned (.plain (OpenSpec.upto evalOpsSpec)) evalOpsUptoCard

/-- THE SECOND FORM's CARD OF 'tronagelaw22.EvalErrors'. -/
def evalErrorsUptoCard : Claim7 := { stood := { row := evalErrorsUptoRow, standIns := [], harness := (true, "51adac0c7cf940f56a95a7fcca172134ffc30d4bdec24610f13c5f292f129fc6"), looks := false }, kinds := [], alts := [], laidByText := true, laidKinds := [.data, .data, .pinned], laidTests := true, laidLooks := .later }
def EvalErrorsUptoCardSaid : Prop := Claim7.holds Tryd.pinned (.plain (OpenSpec.upto evalErrorsSpec)) evalErrorsUptoCard
end Rows
end Go.Proofs.YtfnnapgpcndcjaaDoor
