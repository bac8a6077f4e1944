/-
  No cell of these rows narrows 'for every input' (looked for: loops, veiled, ifaces, maps, wideKeys, modest, calm, conditions, laid).
  DERIVED. THE GIVEN ROWS OF THIS SEAT. 12 by the template 'for every input the law returns true; each argument reads behind the call as it read before'; 0 by the template 'total and deterministic' (their statements: YtgbjjceicpmopaaTotals.lean).
  GIVEN WITH THE SEED: the statements are not yours to turn. If you find one false, say at which input.
  Laid BY PROGRAM, IN A SANDBOX (cutbox-rows.mjs): the forced cells as the released guide's own fill.sh prints them over the translation aee700ea7dcccbff… (all of the seat's roots in one cut). By AI agents, Wed Nov 11 2026. No macro, syntax, notation, axiom, sorry.
-/
import Derived.Test.YtgbjjceicpmopaaChecked
import GoSem.Claim
import GoSem.ClaimJoined
import GoSem.ClaimMapViews
import Derived.JoinedTies
import Derived.KernelRfl
namespace Go.Proofs.Ytgbjjceicpmopaa
/- THE CELL 'sum', in the pinned program and in every row, IS THE sha256 OF THE DUMP (.gsa) THAT YtgbjjceicpmopaaProg.lean LOADS. Nothing in Lean hashes anything: it is a label: what it is worth is what the hold of that sum in a sandbox is worth. -/
noncomputable def Try.pinned : Pinned := { name := "ytgbjjceicpmopaa", sum := "aee700ea7dcccbff8b2a73cc2ac9f160fb66217c30e8f9fbfdb7c6ca972337dd", checked := Try.checked }
namespace Rows
def none {H : Type} : Left H := { results := [], args := [] }

/-- 'tronagelaw01.MeterPlays': WHATEVER THE INPUT: true; the input reads as it did. -/
def meterPlaysSpec : ChangeSpec := { name := "meterPlays", fn := fun _ => fun
  | [d1, d2] => { results := [.lit (.bool true)], args := [d1, d2] }
  | _ => none }
def meterPlaysRow : OpenClaim := { program := "ytgbjjceicpmopaa", sum := "aee700ea7dcccbff8b2a73cc2ac9f160fb66217c30e8f9fbfdb7c6ca972337dd", func := "tronage/tronagelaw01.MeterPlays", spec := "meterPlays", apart := false }
def MeterPlaysSaid : Prop := meterPlaysRow.holds Try.pinned (OpenSpec.ofChange meterPlaysSpec)

/-- ITS FALSE NEIGHBOUR: 'it returns false'. Refute it at one input. -/
def meterPlaysWrong : ChangeSpec := { name := "meterPlays", fn := fun _ => fun
  | [d1, d2] => { results := [.lit (.bool false)], args := [d1, d2] }
  | _ => none }
def MeterPlaysWrongFalsely : Prop := meterPlaysRow.holds Try.pinned (OpenSpec.ofChange meterPlaysWrong)

/-- 'tronagelaw01.MeterReckons': WHATEVER THE INPUT: true; the input reads as it did. -/
def meterReckonsSpec : ChangeSpec := { name := "meterReckons", fn := fun _ => fun
  | [d1, d2] => { results := [.lit (.bool true)], args := [d1, d2] }
  | _ => none }
def meterReckonsRow : OpenClaim := { program := "ytgbjjceicpmopaa", sum := "aee700ea7dcccbff8b2a73cc2ac9f160fb66217c30e8f9fbfdb7c6ca972337dd", func := "tronage/tronagelaw01.MeterReckons", spec := "meterReckons", apart := false }
def MeterReckonsSaid : Prop := meterReckonsRow.holds Try.pinned (OpenSpec.ofChange meterReckonsSpec)

/-- ITS FALSE NEIGHBOUR: 'it returns false'. Refute it at one input. -/
def meterReckonsWrong : ChangeSpec := { name := "meterReckons", fn := fun _ => fun
  | [d1, d2] => { results := [.lit (.bool false)], args := [d1, d2] }
  | _ => none }
def MeterReckonsWrongFalsely : Prop := meterReckonsRow.holds Try.pinned (OpenSpec.ofChange meterReckonsWrong)

/-- 'tronagelaw01.MeterBounds': WHATEVER THE INPUT: true; the input reads as it did. -/
def meterBoundsSpec : ChangeSpec := { name := "meterBounds", fn := fun _ => fun
  | [d1, d2] => { results := [.lit (.bool true)], args := [d1, d2] }
  | _ => none }
def meterBoundsRow : OpenClaim := { program := "ytgbjjceicpmopaa", sum := "aee700ea7dcccbff8b2a73cc2ac9f160fb66217c30e8f9fbfdb7c6ca972337dd", func := "tronage/tronagelaw01.MeterBounds", spec := "meterBounds", apart := false }
def MeterBoundsSaid : Prop := meterBoundsRow.holds Try.pinned (OpenSpec.ofChange meterBoundsSpec)

/-- ITS FALSE NEIGHBOUR: 'it returns false'. Refute it at one input. -/
def meterBoundsWrong : ChangeSpec := { name := "meterBounds", fn := fun _ => fun
  | [d1, d2] => { results := [.lit (.bool false)], args := [d1, d2] }
  | _ => none }
def MeterBoundsWrongFalsely : Prop := meterBoundsRow.holds Try.pinned (OpenSpec.ofChange meterBoundsWrong)

/-- 'tronagelaw01.MeterOrder': WHATEVER THE INPUT: true; the input reads as it did. -/
def meterOrderSpec : ChangeSpec := { name := "meterOrder", fn := fun _ => fun
  | [d1, d2, d3] => { results := [.lit (.bool true)], args := [d1, d2, d3] }
  | _ => none }
def meterOrderRow : OpenClaim := { program := "ytgbjjceicpmopaa", sum := "aee700ea7dcccbff8b2a73cc2ac9f160fb66217c30e8f9fbfdb7c6ca972337dd", func := "tronage/tronagelaw01.MeterOrder", spec := "meterOrder", apart := false }
def MeterOrderSaid : Prop := meterOrderRow.holds Try.pinned (OpenSpec.ofChange meterOrderSpec)

/-- ITS FALSE NEIGHBOUR: 'it returns false'. Refute it at one input. -/
def meterOrderWrong : ChangeSpec := { name := "meterOrder", fn := fun _ => fun
  | [d1, d2, d3] => { results := [.lit (.bool false)], args := [d1, d2, d3] }
  | _ => none }
def MeterOrderWrongFalsely : Prop := meterOrderRow.holds Try.pinned (OpenSpec.ofChange meterOrderWrong)

/-- 'tronagelaw01.MeterBack': WHATEVER THE INPUT: true; the input reads as it did. -/
def meterBackSpec : ChangeSpec := { name := "meterBack", fn := fun _ => fun
  | [d1, d2, d3] => { results := [.lit (.bool true)], args := [d1, d2, d3] }
  | _ => none }
def meterBackRow : OpenClaim := { program := "ytgbjjceicpmopaa", sum := "aee700ea7dcccbff8b2a73cc2ac9f160fb66217c30e8f9fbfdb7c6ca972337dd", func := "tronage/tronagelaw01.MeterBack", spec := "meterBack", apart := false }
def MeterBackSaid : Prop := meterBackRow.holds Try.pinned (OpenSpec.ofChange meterBackSpec)

/-- ITS FALSE NEIGHBOUR: 'it returns false'. Refute it at one input. -/
def meterBackWrong : ChangeSpec := { name := "meterBack", fn := fun _ => fun
  | [d1, d2, d3] => { results := [.lit (.bool false)], args := [d1, d2, d3] }
  | _ => none }
def MeterBackWrongFalsely : Prop := meterBackRow.holds Try.pinned (OpenSpec.ofChange meterBackWrong)

/-- 'tronagelaw01.MeterSplit': WHATEVER THE INPUT: true; the input reads as it did. -/
def meterSplitSpec : ChangeSpec := { name := "meterSplit", fn := fun _ => fun
  | [d1, d2] => { results := [.lit (.bool true)], args := [d1, d2] }
  | _ => none }
def meterSplitRow : OpenClaim := { program := "ytgbjjceicpmopaa", sum := "aee700ea7dcccbff8b2a73cc2ac9f160fb66217c30e8f9fbfdb7c6ca972337dd", func := "tronage/tronagelaw01.MeterSplit", spec := "meterSplit", apart := false }
def MeterSplitSaid : Prop := meterSplitRow.holds Try.pinned (OpenSpec.ofChange meterSplitSpec)

/-- ITS FALSE NEIGHBOUR: 'it returns false'. Refute it at one input. -/
def meterSplitWrong : ChangeSpec := { name := "meterSplit", fn := fun _ => fun
  | [d1, d2] => { results := [.lit (.bool false)], args := [d1, d2] }
  | _ => none }
def MeterSplitWrongFalsely : Prop := meterSplitRow.holds Try.pinned (OpenSpec.ofChange meterSplitWrong)

/-- 'tronagelaw02.ArenaHolds': WHATEVER THE INPUT: true; the input reads as it did. -/
def arenaHoldsSpec : ChangeSpec := { name := "arenaHolds", fn := fun _ => fun
  | [d1, d2] => { results := [.lit (.bool true)], args := [d1, d2] }
  | _ => none }
def arenaHoldsRow : OpenClaim := { program := "ytgbjjceicpmopaa", sum := "aee700ea7dcccbff8b2a73cc2ac9f160fb66217c30e8f9fbfdb7c6ca972337dd", func := "tronage/tronagelaw02.ArenaHolds", spec := "arenaHolds", apart := false }
def ArenaHoldsSaid : Prop := arenaHoldsRow.holds Try.pinned (OpenSpec.ofChange arenaHoldsSpec)

/-- ITS FALSE NEIGHBOUR: 'it returns false'. Refute it at one input. -/
def arenaHoldsWrong : ChangeSpec := { name := "arenaHolds", fn := fun _ => fun
  | [d1, d2] => { results := [.lit (.bool false)], args := [d1, d2] }
  | _ => none }
def ArenaHoldsWrongFalsely : Prop := arenaHoldsRow.holds Try.pinned (OpenSpec.ofChange arenaHoldsWrong)

/-- 'tronagelaw02.ArenaAgain': WHATEVER THE INPUT: true; the input reads as it did. -/
def arenaAgainSpec : ChangeSpec := { name := "arenaAgain", fn := fun _ => fun
  | [d1, d2, d3] => { results := [.lit (.bool true)], args := [d1, d2, d3] }
  | _ => none }
def arenaAgainRow : OpenClaim := { program := "ytgbjjceicpmopaa", sum := "aee700ea7dcccbff8b2a73cc2ac9f160fb66217c30e8f9fbfdb7c6ca972337dd", func := "tronage/tronagelaw02.ArenaAgain", spec := "arenaAgain", apart := false }
def ArenaAgainSaid : Prop := arenaAgainRow.holds Try.pinned (OpenSpec.ofChange arenaAgainSpec)

/-- ITS FALSE NEIGHBOUR: 'it returns false'. Refute it at one input. -/
def arenaAgainWrong : ChangeSpec := { name := "arenaAgain", fn := fun _ => fun
  | [d1, d2, d3] => { results := [.lit (.bool false)], args := [d1, d2, d3] }
  | _ => none }
def ArenaAgainWrongFalsely : Prop := arenaAgainRow.holds Try.pinned (OpenSpec.ofChange arenaAgainWrong)

/-- 'tronagelaw02.ArenaSets': WHATEVER THE INPUT: true; the input reads as it did. -/
def arenaSetsSpec : ChangeSpec := { name := "arenaSets", fn := fun _ => fun
  | [d1, d2, d3] => { results := [.lit (.bool true)], args := [d1, d2, d3] }
  | _ => none }
def arenaSetsRow : OpenClaim := { program := "ytgbjjceicpmopaa", sum := "aee700ea7dcccbff8b2a73cc2ac9f160fb66217c30e8f9fbfdb7c6ca972337dd", func := "tronage/tronagelaw02.ArenaSets", spec := "arenaSets", apart := false }
def ArenaSetsSaid : Prop := arenaSetsRow.holds Try.pinned (OpenSpec.ofChange arenaSetsSpec)

/-- ITS FALSE NEIGHBOUR: 'it returns false'. Refute it at one input. -/
def arenaSetsWrong : ChangeSpec := { name := "arenaSets", fn := fun _ => fun
  | [d1, d2, d3] => { results := [.lit (.bool false)], args := [d1, d2, d3] }
  | _ => none }
def ArenaSetsWrongFalsely : Prop := arenaSetsRow.holds Try.pinned (OpenSpec.ofChange arenaSetsWrong)

/-- 'tronagelaw02.ArenaPlays': WHATEVER THE INPUT: true; the input reads as it did. -/
def arenaPlaysSpec : ChangeSpec := { name := "arenaPlays", fn := fun _ => fun
  | [d1, d2] => { results := [.lit (.bool true)], args := [d1, d2] }
  | _ => none }
def arenaPlaysRow : OpenClaim := { program := "ytgbjjceicpmopaa", sum := "aee700ea7dcccbff8b2a73cc2ac9f160fb66217c30e8f9fbfdb7c6ca972337dd", func := "tronage/tronagelaw02.ArenaPlays", spec := "arenaPlays", apart := false }
def ArenaPlaysSaid : Prop := arenaPlaysRow.holds Try.pinned (OpenSpec.ofChange arenaPlaysSpec)

/-- ITS FALSE NEIGHBOUR: 'it returns false'. Refute it at one input. -/
def arenaPlaysWrong : ChangeSpec := { name := "arenaPlays", fn := fun _ => fun
  | [d1, d2] => { results := [.lit (.bool false)], args := [d1, d2] }
  | _ => none }
def ArenaPlaysWrongFalsely : Prop := arenaPlaysRow.holds Try.pinned (OpenSpec.ofChange arenaPlaysWrong)

/-- 'tronagelaw02.ArenaRefused': WHATEVER THE INPUT: true; the input reads as it did. -/
def arenaRefusedSpec : ChangeSpec := { name := "arenaRefused", fn := fun _ => fun
  | [d1, d2] => { results := [.lit (.bool true)], args := [d1, d2] }
  | _ => none }
def arenaRefusedRow : OpenClaim := { program := "ytgbjjceicpmopaa", sum := "aee700ea7dcccbff8b2a73cc2ac9f160fb66217c30e8f9fbfdb7c6ca972337dd", func := "tronage/tronagelaw02.ArenaRefused", spec := "arenaRefused", apart := false }
def ArenaRefusedSaid : Prop := arenaRefusedRow.holds Try.pinned (OpenSpec.ofChange arenaRefusedSpec)

/-- ITS FALSE NEIGHBOUR: 'it returns false'. Refute it at one input. -/
def arenaRefusedWrong : ChangeSpec := { name := "arenaRefused", fn := fun _ => fun
  | [d1, d2] => { results := [.lit (.bool false)], args := [d1, d2] }
  | _ => none }
def ArenaRefusedWrongFalsely : Prop := arenaRefusedRow.holds Try.pinned (OpenSpec.ofChange arenaRefusedWrong)

/-- 'tronagelaw02.ArenaCells': WHATEVER THE INPUT: true; the input reads as it did. -/
def arenaCellsSpec : ChangeSpec := { name := "arenaCells", fn := fun _ => fun
  | [d1, d2, d3] => { results := [.lit (.bool true)], args := [d1, d2, d3] }
  | _ => none }
def arenaCellsRow : OpenClaim := { program := "ytgbjjceicpmopaa", sum := "aee700ea7dcccbff8b2a73cc2ac9f160fb66217c30e8f9fbfdb7c6ca972337dd", func := "tronage/tronagelaw02.ArenaCells", spec := "arenaCells", apart := false }
def ArenaCellsSaid : Prop := arenaCellsRow.holds Try.pinned (OpenSpec.ofChange arenaCellsSpec)

/-- ITS FALSE NEIGHBOUR: 'it returns false'. Refute it at one input. -/
def arenaCellsWrong : ChangeSpec := { name := "arenaCells", fn := fun _ => fun
  | [d1, d2, d3] => { results := [.lit (.bool false)], args := [d1, d2, d3] }
  | _ => none }
def ArenaCellsWrongFalsely : Prop := arenaCellsRow.holds Try.pinned (OpenSpec.ofChange arenaCellsWrong)

/- THE SECOND FORM. 'bulk': how many values and letters a reading holds, each counted each time it is reached (what is shared counts as often as it is met; a slice's spare places count too). A statement '..UptoSaid' is the law's where the arguments, and the package variables that the reading takes, are together of bulk at most 1048576: NARROWER than '..Said'. Prove '..Said' where nothing that the law and all that it calls make is longer than what came in: it says more and counts as full. Else prove '..UptoSaid'. A law counts once. -/
mutual
def uptoBulk {H : Type} : DataW H → Nat
  | .lit (.string bytes) => bytes.length + 1
  | .lit _ => 1
  | .nil => 1
  | .ptr d => uptoBulk d + 1
  | .slice elems spare => uptoBulkAll elems + uptoBulkAll spare + 1
  | .agg parts => uptoBulkAll parts + 1
  | .iface _ d => uptoBulk d + 1
  | .map entries => uptoBulkEntries entries + 1
  | .held _ => 1
def uptoBulkAll {H : Type} : List (DataW H) → Nat
  | [] => 0
  | d :: r => uptoBulk d + uptoBulkAll r
def uptoBulkEntries {H : Type} : List (Lit × DataW H) → Nat
  | [] => 0
  | x :: r => uptoBulkEntry x + uptoBulkEntries r
def uptoBulkEntry {H : Type} : Lit × DataW H → Nat
  | (.string bytes, d) => bytes.length + uptoBulk d + 1
  | (_, d) => uptoBulk d + 1
 end
def uptoSmall : (H : Type) → List (DataW H) → Bool := fun _ ds => decide (uptoBulkAll ds ≤ 1048576)
def OpenSpec.upto (s : _root_.Go.ChangeSpec) : _root_.Go.OpenSpec := { _root_.Go.OpenSpec.ofChange s with cond := some uptoSmall }

/-- 'tronagelaw01.MeterPlays', WHERE WHAT IT READS IS OF BULK AT MOST 1048576: true; the input reads as it did. -/
def meterPlaysUptoRow : OpenClaim := { program := "ytgbjjceicpmopaa", sum := "aee700ea7dcccbff8b2a73cc2ac9f160fb66217c30e8f9fbfdb7c6ca972337dd", func := "tronage/tronagelaw01.MeterPlays", spec := "meterPlays", apart := false, narrowed := true }
def MeterPlaysUptoSaid : Prop := meterPlaysUptoRow.holds Try.pinned (OpenSpec.upto meterPlaysSpec)

/-- 'tronagelaw01.MeterReckons', WHERE WHAT IT READS IS OF BULK AT MOST 1048576: true; the input reads as it did. -/
def meterReckonsUptoRow : OpenClaim := { program := "ytgbjjceicpmopaa", sum := "aee700ea7dcccbff8b2a73cc2ac9f160fb66217c30e8f9fbfdb7c6ca972337dd", func := "tronage/tronagelaw01.MeterReckons", spec := "meterReckons", apart := false, narrowed := true }
def MeterReckonsUptoSaid : Prop := meterReckonsUptoRow.holds Try.pinned (OpenSpec.upto meterReckonsSpec)

/-- 'tronagelaw01.MeterBounds', WHERE WHAT IT READS IS OF BULK AT MOST 1048576: true; the input reads as it did. -/
def meterBoundsUptoRow : OpenClaim := { program := "ytgbjjceicpmopaa", sum := "aee700ea7dcccbff8b2a73cc2ac9f160fb66217c30e8f9fbfdb7c6ca972337dd", func := "tronage/tronagelaw01.MeterBounds", spec := "meterBounds", apart := false, narrowed := true }
def MeterBoundsUptoSaid : Prop := meterBoundsUptoRow.holds Try.pinned (OpenSpec.upto meterBoundsSpec)

/-- 'tronagelaw01.MeterOrder', WHERE WHAT IT READS IS OF BULK AT MOST 1048576: true; the input reads as it did. -/
def meterOrderUptoRow : OpenClaim := { program := "ytgbjjceicpmopaa", sum := "aee700ea7dcccbff8b2a73cc2ac9f160fb66217c30e8f9fbfdb7c6ca972337dd", func := "tronage/tronagelaw01.MeterOrder", spec := "meterOrder", apart := false, narrowed := true }
def MeterOrderUptoSaid : Prop := meterOrderUptoRow.holds Try.pinned (OpenSpec.upto meterOrderSpec)

/-- 'tronagelaw01.MeterBack', WHERE WHAT IT READS IS OF BULK AT MOST 1048576: true; the input reads as it did. -/
def meterBackUptoRow : OpenClaim := { program := "ytgbjjceicpmopaa", sum := "aee700ea7dcccbff8b2a73cc2ac9f160fb66217c30e8f9fbfdb7c6ca972337dd", func := "tronage/tronagelaw01.MeterBack", spec := "meterBack", apart := false, narrowed := true }
def MeterBackUptoSaid : Prop := meterBackUptoRow.holds Try.pinned (OpenSpec.upto meterBackSpec)

/-- 'tronagelaw01.MeterSplit', WHERE WHAT IT READS IS OF BULK AT MOST 1048576: true; the input reads as it did. -/
def meterSplitUptoRow : OpenClaim := { program := "ytgbjjceicpmopaa", sum := "aee700ea7dcccbff8b2a73cc2ac9f160fb66217c30e8f9fbfdb7c6ca972337dd", func := "tronage/tronagelaw01.MeterSplit", spec := "meterSplit", apart := false, narrowed := true }
def MeterSplitUptoSaid : Prop := meterSplitUptoRow.holds Try.pinned (OpenSpec.upto meterSplitSpec)

/-- 'tronagelaw02.ArenaHolds', WHERE WHAT IT READS IS OF BULK AT MOST 1048576: true; the input reads as it did. -/
def arenaHoldsUptoRow : OpenClaim := { program := "ytgbjjceicpmopaa", sum := "aee700ea7dcccbff8b2a73cc2ac9f160fb66217c30e8f9fbfdb7c6ca972337dd", func := "tronage/tronagelaw02.ArenaHolds", spec := "arenaHolds", apart := false, narrowed := true }
def ArenaHoldsUptoSaid : Prop := arenaHoldsUptoRow.holds Try.pinned (OpenSpec.upto arenaHoldsSpec)

/-- 'tronagelaw02.ArenaAgain', WHERE WHAT IT READS IS OF BULK AT MOST 1048576: true; the input reads as it did. -/
def arenaAgainUptoRow : OpenClaim := { program := "ytgbjjceicpmopaa", sum := "aee700ea7dcccbff8b2a73cc2ac9f160fb66217c30e8f9fbfdb7c6ca972337dd", func := "tronage/tronagelaw02.ArenaAgain", spec := "arenaAgain", apart := false, narrowed := true }
def ArenaAgainUptoSaid : Prop := arenaAgainUptoRow.holds Try.pinned (OpenSpec.upto arenaAgainSpec)

/-- 'tronagelaw02.ArenaSets', WHERE WHAT IT READS IS OF BULK AT MOST 1048576: true; the input reads as it did. -/
def arenaSetsUptoRow : OpenClaim := { program := "ytgbjjceicpmopaa", sum := "aee700ea7dcccbff8b2a73cc2ac9f160fb66217c30e8f9fbfdb7c6ca972337dd", func := "tronage/tronagelaw02.ArenaSets", spec := "arenaSets", apart := false, narrowed := true }
def ArenaSetsUptoSaid : Prop := arenaSetsUptoRow.holds Try.pinned (OpenSpec.upto arenaSetsSpec)

/-- 'tronagelaw02.ArenaPlays', WHERE WHAT IT READS IS OF BULK AT MOST 1048576: true; the input reads as it did. -/
def arenaPlaysUptoRow : OpenClaim := { program := "ytgbjjceicpmopaa", sum := "aee700ea7dcccbff8b2a73cc2ac9f160fb66217c30e8f9fbfdb7c6ca972337dd", func := "tronage/tronagelaw02.ArenaPlays", spec := "arenaPlays", apart := false, narrowed := true }
def ArenaPlaysUptoSaid : Prop := arenaPlaysUptoRow.holds Try.pinned (OpenSpec.upto arenaPlaysSpec)

/-- 'tronagelaw02.ArenaRefused', WHERE WHAT IT READS IS OF BULK AT MOST 1048576: true; the input reads as it did. -/
def arenaRefusedUptoRow : OpenClaim := { program := "ytgbjjceicpmopaa", sum := "aee700ea7dcccbff8b2a73cc2ac9f160fb66217c30e8f9fbfdb7c6ca972337dd", func := "tronage/tronagelaw02.ArenaRefused", spec := "arenaRefused", apart := false, narrowed := true }
def ArenaRefusedUptoSaid : Prop := arenaRefusedUptoRow.holds Try.pinned (OpenSpec.upto arenaRefusedSpec)

/-- 'tronagelaw02.ArenaCells', WHERE WHAT IT READS IS OF BULK AT MOST 1048576: true; the input reads as it did. -/
def arenaCellsUptoRow : OpenClaim := { program := "ytgbjjceicpmopaa", sum := "aee700ea7dcccbff8b2a73cc2ac9f160fb66217c30e8f9fbfdb7c6ca972337dd", func := "tronage/tronagelaw02.ArenaCells", spec := "arenaCells", apart := false, narrowed := true }
def ArenaCellsUptoSaid : Prop := arenaCellsUptoRow.holds Try.pinned (OpenSpec.upto arenaCellsSpec)

end Rows
end Go.Proofs.Ytgbjjceicpmopaa
