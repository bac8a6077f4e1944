/-
  DERIVED. GIVEN WITH THE SEED: THE CARDS: each row of YtfnnapgpcndcjaaGreatDoorRows.lean that lists a variable, with what it lists TIED to the program's text (the seventh form; the later family's looks); each row that meets fmt, with fmt's text TOLD by the authors' own Lean function (tested against real Go, not proved from fmt's source: count such statements apart). THE CARD IS WHAT COUNTS. Prove the row's statement (the work); the ties are given (YtfnnapgpcndcjaaGreatDoorTie.lean); close each card by the builder's one call (the guide's Derived/Test/ToyasCard.lean, 'card_holds'). Laid BY PROGRAM, IN A SANDBOX (cutbox-door.mjs). By AI agents, Wed Nov 11 2026. No macro, syntax, notation, axiom, sorry.
-/
import Derived.Test.YtfnnapgpcndcjaaGreatDoorRows
import GoSem.ClaimSeven
namespace Go.Proofs.YtfnnapgpcndcjaaGreatDoor
namespace Rows

/-- THE TIED CARD OF 'tronagelaw22.EvalLocal'. -/
def evalLocalCard : Claim7 := { stood := { row := evalLocalRow, standIns := [], harness := (true, "f9c92ded952ccc3378f51cd42b9e8300cc8ebed7b6d313f98e91861e02a96b06"), looks := false }, kinds := [], alts := [], laidByText := true, laidKinds := [.data, .data, .pinned], laidTests := true, laidLooks := .later }
def EvalLocalCardSaid : Prop := Claim7.holds Tryz.pinned (.plain (OpenSpec.ofChange evalLocalSpec)) evalLocalCard

/-- THE TIED CARD OF 'tronagelaw22.EvalTrees'. -/
def evalTreesCard : Claim7 := { stood := { row := evalTreesRow, standIns := [], harness := (true, "f9c92ded952ccc3378f51cd42b9e8300cc8ebed7b6d313f98e91861e02a96b06"), looks := false }, kinds := [], alts := [], laidByText := true, laidKinds := [.data, .data, .pinned], laidTests := true, laidLooks := .later }
def EvalTreesCardSaid : Prop := Claim7.holds Tryz.pinned (.plain (OpenSpec.ofChange evalTreesSpec)) evalTreesCard

/-- THE TIED CARD OF 'tronagelaw22.EvalSteps'. -/
def evalStepsCard : Claim7 := { stood := { row := evalStepsRow, standIns := [], harness := (true, "f9c92ded952ccc3378f51cd42b9e8300cc8ebed7b6d313f98e91861e02a96b06"), looks := false }, kinds := [], alts := [], laidByText := true, laidKinds := [.data, .data, .pinned], laidTests := true, laidLooks := .later }
def EvalStepsCardSaid : Prop := Claim7.holds Tryz.pinned (.plain (OpenSpec.ofChange evalStepsSpec)) evalStepsCard

/-- THE SECOND FORM's CARD OF 'tronagelaw22.EvalLocal'. -/
def evalLocalUptoCard : Claim7 := { stood := { row := evalLocalUptoRow, standIns := [], harness := (true, "f9c92ded952ccc3378f51cd42b9e8300cc8ebed7b6d313f98e91861e02a96b06"), looks := false }, kinds := [], alts := [], laidByText := true, laidKinds := [.data, .data, .pinned], laidTests := true, laidLooks := .later }
def EvalLocalUptoCardSaid : Prop := Claim7.holds Tryz.pinned (.plain (OpenSpec.upto evalLocalSpec)) evalLocalUptoCard

/-- THE SECOND FORM's CARD OF 'tronagelaw22.EvalTrees'. -/
def evalTreesUptoCard : Claim7 := { stood := { row := evalTreesUptoRow, standIns := [], harness := (true, "f9c92ded952ccc3378f51cd42b9e8300cc8ebed7b6d313f98e91861e02a96b06"), looks := false }, kinds := [], alts := [], laidByText := true, laidKinds := [.data, .data, .pinned], laidTests := true, laidLooks := .later }
def EvalTreesUptoCardSaid : Prop := Claim7.holds Tryz.pinned (.plain (OpenSpec.upto evalTreesSpec)) evalTreesUptoCard

/-- THE SECOND FORM's CARD OF 'tronagelaw22.EvalSteps'. -/
def evalStepsUptoCard : Claim7 := { stood := { row := evalStepsUptoRow, standIns := [], harness := (true, "f9c92ded952ccc3378f51cd42b9e8300cc8ebed7b6d313f98e91861e02a96b06"), looks := false }, kinds := [], alts := [], laidByText := true, laidKinds := [.data, .data, .pinned], laidTests := true, laidLooks := .later }
def EvalStepsUptoCardSaid : Prop := Claim7.holds Tryz.pinned (.plain (OpenSpec.upto evalStepsSpec)) evalStepsUptoCard
end Rows
end Go.Proofs.YtfnnapgpcndcjaaGreatDoor
