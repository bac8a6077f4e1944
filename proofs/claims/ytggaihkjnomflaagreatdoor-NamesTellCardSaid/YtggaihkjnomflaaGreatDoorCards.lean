/-
  DERIVED. GIVEN WITH THE SEED: THE CARDS: each row of YtggaihkjnomflaaGreatDoorRows.lean that lists a variable, with what it lists TIED to the program's text (the seventh form; the later family's looks); each row that meets fmt, with fmt's text TOLD by the authors' own Lean function (tested against real Go, not proved from fmt's source: count such statements apart). THE CARD IS WHAT COUNTS. Prove the row's statement (the work); the ties are given (YtggaihkjnomflaaGreatDoorTie.lean); close each card by the builder's one call (the guide's Derived/Test/ToyasCard.lean, 'card_holds'). Laid BY PROGRAM, IN A SANDBOX (cutbox-door.mjs). By AI agents, Wed Nov 11 2026. No macro, syntax, notation, axiom, sorry.
-/
import Derived.Test.YtggaihkjnomflaaGreatDoorRows
import GoSem.ClaimSeven
namespace Go.Proofs.YtggaihkjnomflaaGreatDoor
namespace Rows

/-- THE TIED CARD OF 'tronagelaw08.NamesPlans'. -/
def namesPlansCard : Claim7 := { stood := { row := namesPlansRow, standIns := [], harness := (true, "d1afbb2a000c68ea04ea409f775ca9ccb99d227b5aacfd81729ae76b7ba152fc"), looks := false }, kinds := [], alts := [], laidByText := true, laidKinds := [.widerDeep, .data], laidTests := true, laidLooks := .later }
def NamesPlansCardSaid : Prop := Claim7.holds Tryz.pinned (.plain (OpenSpec.ofChange namesPlansSpec)) namesPlansCard

/-- THE TIED CARD OF 'tronagelaw08.NamesTell'. -/
def namesTellCard : Claim7 := { stood := { row := namesTellRow, standIns := [], harness := (true, "d1afbb2a000c68ea04ea409f775ca9ccb99d227b5aacfd81729ae76b7ba152fc"), looks := false }, kinds := [], alts := [], laidByText := true, laidKinds := [.widerDeep, .data], laidTests := true, laidLooks := .later }
def NamesTellCardSaid : Prop := Claim7.holds Tryz.pinned (.plain (OpenSpec.ofChange namesTellSpec)) namesTellCard

/-- THE SECOND FORM's CARD OF 'tronagelaw08.NamesPlans'. -/
def namesPlansUptoCard : Claim7 := { stood := { row := namesPlansUptoRow, standIns := [], harness := (true, "d1afbb2a000c68ea04ea409f775ca9ccb99d227b5aacfd81729ae76b7ba152fc"), looks := false }, kinds := [], alts := [], laidByText := true, laidKinds := [.widerDeep, .data], laidTests := true, laidLooks := .later }
def NamesPlansUptoCardSaid : Prop := Claim7.holds Tryz.pinned (.plain (OpenSpec.upto namesPlansSpec)) namesPlansUptoCard

/-- THE SECOND FORM's CARD OF 'tronagelaw08.NamesTell'. -/
def namesTellUptoCard : Claim7 := { stood := { row := namesTellUptoRow, standIns := [], harness := (true, "d1afbb2a000c68ea04ea409f775ca9ccb99d227b5aacfd81729ae76b7ba152fc"), looks := false }, kinds := [], alts := [], laidByText := true, laidKinds := [.widerDeep, .data], laidTests := true, laidLooks := .later }
def NamesTellUptoCardSaid : Prop := Claim7.holds Tryz.pinned (.plain (OpenSpec.upto namesTellSpec)) namesTellUptoCard
end Rows
end Go.Proofs.YtggaihkjnomflaaGreatDoor
