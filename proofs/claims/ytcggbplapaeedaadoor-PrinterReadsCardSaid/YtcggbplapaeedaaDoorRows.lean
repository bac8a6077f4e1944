/-
  NARROWER THAN 'FOR EVERY INPUT', by the rows' own cells (each row's printed sentence says how): ReaderInside: laid · ReaderRules: laid · ReaderTokens: laid · ReaderJoins: laid · PrinterPrints: laid · PrinterUnlike: laid · PrinterPatterns: laid · PrinterBack: laid · PrinterReads: laid.
  DERIVED. THE GIVEN ROWS OF THIS SEAT. 9 by the template 'for every input the law returns true; each argument reads behind the call as it read before'; 0 by the template 'total and deterministic' (their statements: YtcggbplapaeedaaDoorTotals.lean).
  GIVEN WITH THE SEED: the statements are not yours to turn. If you find one false, say at which input.
  Laid BY PROGRAM, IN A SANDBOX (cutbox-rows.mjs): the forced cells as the released guide's own fill.sh prints them over the translation daab225bf0204a5b… (all of the seat's roots in one cut). By AI agents, Wed Nov 11 2026. No macro, syntax, notation, axiom, sorry.
-/
import Derived.Test.YtcggbplapaeedaaDoorChecked
import GoSem.Claim
import GoSem.ClaimJoined
import GoSem.ClaimMapViews
import Derived.JoinedTies
import Derived.KernelRfl
namespace Go.Proofs.YtcggbplapaeedaaDoor
/- THE CELL 'sum', in the pinned program and in every row, IS THE sha256 OF THE DUMP (.gsa) THAT YtcggbplapaeedaaDoorProg.lean LOADS. Nothing in Lean hashes anything: it is a label: what it is worth is what the hold of that sum in a sandbox is worth. -/
noncomputable def Tryd.pinned : Pinned := { name := "ytcggbplapaeedaadoor", sum := "daab225bf0204a5b96592fb509bc8faf1efc89bf82fa244075d8897fe0eca578", checked := Tryd.checked }
namespace Rows
def none {H : Type} : Left H := { results := [], args := [] }

/- WHAT THE LISTED PACKAGE-LEVEL VARIABLES READ AS WHEN THE CALL BEGINS. Each datum BY PROGRAM (the guide's laid-datum.mjs) off the statement by which the dump's own 'gosem.cut.vars' lays the variable. In a bare row this is a premise. The card (YtcggbplapaeedaaDoorCards.lean) ties it to the program's text. -/
def laid_tronage_lexer_words {H : Type} : DataW H := .agg [.lit (.string [116, 111, 107, 101, 110]), .lit (.string [115, 107, 105, 112]), .lit (.string [108, 101, 102, 116]), .lit (.string [114, 105, 103, 104, 116]), .lit (.string [110, 111, 110, 97, 115, 115, 111, 99]), .lit (.string [115, 116, 97, 114, 116]), .lit (.string [112, 114, 101, 99]), .lit (.string [37])]
def laid_tronage_lexer_escapes {H : Type} : DataW H := .agg [.agg [.lit (.int .u8 92), .lit (.int .u8 92)], .agg [.lit (.int .u8 34), .lit (.int .u8 34)], .agg [.lit (.int .u8 93), .lit (.int .u8 93)], .agg [.lit (.int .u8 45), .lit (.int .u8 45)], .agg [.lit (.int .u8 110), .lit (.int .u8 10)], .agg [.lit (.int .u8 116), .lit (.int .u8 9)]]

/-- 'tronagelaw06.ReaderInside': WHATEVER THE INPUT: true; the input reads as it did. -/
def readerInsideSpec : ChangeSpec := { name := "readerInside", fn := fun _ => fun
  | [d] => { results := [.lit (.bool true)], args := [d] }
  | _ => none }
def readerInsideRow : OpenClaim := { program := "ytcggbplapaeedaadoor", sum := "daab225bf0204a5b96592fb509bc8faf1efc89bf82fa244075d8897fe0eca578", func := "tronage/tronagelaw06.ReaderInside", spec := "readerInside", inPlace := ["internal/bytealg.IndexByteString", "internal/bytealg.CountString", "internal/bytealg.IndexString"], unfollowed := true, recurses := true, named := ["tronage/lexer.words", "tronage/lexer.escapes", "internal/bytealg.MaxLen"], apart := false, laid := [("tronage/lexer.words", laid_tronage_lexer_words), ("tronage/lexer.escapes", laid_tronage_lexer_escapes)] }
def ReaderInsideSaid : Prop := readerInsideRow.holds Tryd.pinned (OpenSpec.ofChange readerInsideSpec)

/-- ITS FALSE NEIGHBOUR: 'it returns false'. Refute it at one input. -/
def readerInsideWrong : ChangeSpec := { name := "readerInside", fn := fun _ => fun
  | [d] => { results := [.lit (.bool false)], args := [d] }
  | _ => none }
def ReaderInsideWrongFalsely : Prop := readerInsideRow.holds Tryd.pinned (OpenSpec.ofChange readerInsideWrong)

/-- 'tronagelaw06.ReaderRules': WHATEVER THE INPUT: true; the input reads as it did. -/
def readerRulesSpec : ChangeSpec := { name := "readerRules", fn := fun _ => fun
  | [d1, d2, d3] => { results := [.lit (.bool true)], args := [d1, d2, d3] }
  | _ => none }
def readerRulesRow : OpenClaim := { program := "ytcggbplapaeedaadoor", sum := "daab225bf0204a5b96592fb509bc8faf1efc89bf82fa244075d8897fe0eca578", func := "tronage/tronagelaw06.ReaderRules", spec := "readerRules", inPlace := ["internal/bytealg.IndexByteString", "internal/bytealg.CountString", "internal/bytealg.IndexString"], unfollowed := true, recurses := true, named := ["tronage/lexer.words", "tronage/lexer.escapes", "internal/bytealg.MaxLen"], apart := false, laid := [("tronage/lexer.words", laid_tronage_lexer_words), ("tronage/lexer.escapes", laid_tronage_lexer_escapes)] }
def ReaderRulesSaid : Prop := readerRulesRow.holds Tryd.pinned (OpenSpec.ofChange readerRulesSpec)

/-- ITS FALSE NEIGHBOUR: 'it returns false'. Refute it at one input. -/
def readerRulesWrong : ChangeSpec := { name := "readerRules", fn := fun _ => fun
  | [d1, d2, d3] => { results := [.lit (.bool false)], args := [d1, d2, d3] }
  | _ => none }
def ReaderRulesWrongFalsely : Prop := readerRulesRow.holds Tryd.pinned (OpenSpec.ofChange readerRulesWrong)

/-- 'tronagelaw06.ReaderTokens': WHATEVER THE INPUT: true; the input reads as it did. -/
def readerTokensSpec : ChangeSpec := { name := "readerTokens", fn := fun _ => fun
  | [d] => { results := [.lit (.bool true)], args := [d] }
  | _ => none }
def readerTokensRow : OpenClaim := { program := "ytcggbplapaeedaadoor", sum := "daab225bf0204a5b96592fb509bc8faf1efc89bf82fa244075d8897fe0eca578", func := "tronage/tronagelaw06.ReaderTokens", spec := "readerTokens", inPlace := ["internal/bytealg.IndexByteString", "internal/bytealg.CountString", "internal/bytealg.IndexString"], unfollowed := true, recurses := true, named := ["tronage/lexer.words", "tronage/lexer.escapes", "internal/bytealg.MaxLen"], apart := false, laid := [("tronage/lexer.words", laid_tronage_lexer_words), ("tronage/lexer.escapes", laid_tronage_lexer_escapes)] }
def ReaderTokensSaid : Prop := readerTokensRow.holds Tryd.pinned (OpenSpec.ofChange readerTokensSpec)

/-- ITS FALSE NEIGHBOUR: 'it returns false'. Refute it at one input. -/
def readerTokensWrong : ChangeSpec := { name := "readerTokens", fn := fun _ => fun
  | [d] => { results := [.lit (.bool false)], args := [d] }
  | _ => none }
def ReaderTokensWrongFalsely : Prop := readerTokensRow.holds Tryd.pinned (OpenSpec.ofChange readerTokensWrong)

/-- 'tronagelaw06.ReaderJoins': WHATEVER THE INPUT: true; the input reads as it did. -/
def readerJoinsSpec : ChangeSpec := { name := "readerJoins", fn := fun _ => fun
  | [d1, d2] => { results := [.lit (.bool true)], args := [d1, d2] }
  | _ => none }
def readerJoinsRow : OpenClaim := { program := "ytcggbplapaeedaadoor", sum := "daab225bf0204a5b96592fb509bc8faf1efc89bf82fa244075d8897fe0eca578", func := "tronage/tronagelaw06.ReaderJoins", spec := "readerJoins", inPlace := ["internal/bytealg.IndexByteString", "internal/bytealg.CountString", "internal/bytealg.IndexString"], unfollowed := true, recurses := true, named := ["tronage/lexer.words", "tronage/lexer.escapes", "internal/bytealg.MaxLen"], apart := false, laid := [("tronage/lexer.words", laid_tronage_lexer_words), ("tronage/lexer.escapes", laid_tronage_lexer_escapes)] }
def ReaderJoinsSaid : Prop := readerJoinsRow.holds Tryd.pinned (OpenSpec.ofChange readerJoinsSpec)

/-- ITS FALSE NEIGHBOUR: 'it returns false'. Refute it at one input. -/
def readerJoinsWrong : ChangeSpec := { name := "readerJoins", fn := fun _ => fun
  | [d1, d2] => { results := [.lit (.bool false)], args := [d1, d2] }
  | _ => none }
def ReaderJoinsWrongFalsely : Prop := readerJoinsRow.holds Tryd.pinned (OpenSpec.ofChange readerJoinsWrong)

/-- 'tronagelaw07.PrinterPrints': WHATEVER THE INPUT: true; the input reads as it did. -/
def printerPrintsSpec : ChangeSpec := { name := "printerPrints", fn := fun _ => fun
  | [d] => { results := [.lit (.bool true)], args := [d] }
  | _ => none }
def printerPrintsRow : OpenClaim := { program := "ytcggbplapaeedaadoor", sum := "daab225bf0204a5b96592fb509bc8faf1efc89bf82fa244075d8897fe0eca578", func := "tronage/tronagelaw07.PrinterPrints", spec := "printerPrints", inPlace := ["internal/bytealg.IndexByteString", "internal/bytealg.CountString", "internal/bytealg.IndexString", "internal/abi.NoEscape", "internal/bytealg.MakeNoZero"], unfollowed := true, recurses := true, named := ["tronage/lexer.words", "tronage/lexer.escapes", "internal/bytealg.MaxLen"], apart := false, laid := [("tronage/lexer.words", laid_tronage_lexer_words), ("tronage/lexer.escapes", laid_tronage_lexer_escapes)] }
def PrinterPrintsSaid : Prop := printerPrintsRow.holds Tryd.pinned (OpenSpec.ofChange printerPrintsSpec)

/-- ITS FALSE NEIGHBOUR: 'it returns false'. Refute it at one input. -/
def printerPrintsWrong : ChangeSpec := { name := "printerPrints", fn := fun _ => fun
  | [d] => { results := [.lit (.bool false)], args := [d] }
  | _ => none }
def PrinterPrintsWrongFalsely : Prop := printerPrintsRow.holds Tryd.pinned (OpenSpec.ofChange printerPrintsWrong)

/-- 'tronagelaw07.PrinterUnlike': WHATEVER THE INPUT: true; the input reads as it did. -/
def printerUnlikeSpec : ChangeSpec := { name := "printerUnlike", fn := fun _ => fun
  | [d1, d2] => { results := [.lit (.bool true)], args := [d1, d2] }
  | _ => none }
def printerUnlikeRow : OpenClaim := { program := "ytcggbplapaeedaadoor", sum := "daab225bf0204a5b96592fb509bc8faf1efc89bf82fa244075d8897fe0eca578", func := "tronage/tronagelaw07.PrinterUnlike", spec := "printerUnlike", inPlace := ["internal/bytealg.IndexByteString", "internal/bytealg.CountString", "internal/bytealg.IndexString", "internal/abi.NoEscape", "internal/bytealg.MakeNoZero"], unfollowed := true, recurses := true, named := ["tronage/lexer.words", "tronage/lexer.escapes", "internal/bytealg.MaxLen"], apart := false, laid := [("tronage/lexer.words", laid_tronage_lexer_words), ("tronage/lexer.escapes", laid_tronage_lexer_escapes)] }
def PrinterUnlikeSaid : Prop := printerUnlikeRow.holds Tryd.pinned (OpenSpec.ofChange printerUnlikeSpec)

/-- ITS FALSE NEIGHBOUR: 'it returns false'. Refute it at one input. -/
def printerUnlikeWrong : ChangeSpec := { name := "printerUnlike", fn := fun _ => fun
  | [d1, d2] => { results := [.lit (.bool false)], args := [d1, d2] }
  | _ => none }
def PrinterUnlikeWrongFalsely : Prop := printerUnlikeRow.holds Tryd.pinned (OpenSpec.ofChange printerUnlikeWrong)

/-- 'tronagelaw07.PrinterPatterns': WHATEVER THE INPUT: true; the input reads as it did. -/
def printerPatternsSpec : ChangeSpec := { name := "printerPatterns", fn := fun _ => fun
  | [d1, d2, d3] => { results := [.lit (.bool true)], args := [d1, d2, d3] }
  | _ => none }
def printerPatternsRow : OpenClaim := { program := "ytcggbplapaeedaadoor", sum := "daab225bf0204a5b96592fb509bc8faf1efc89bf82fa244075d8897fe0eca578", func := "tronage/tronagelaw07.PrinterPatterns", spec := "printerPatterns", inPlace := ["internal/bytealg.IndexByteString", "internal/bytealg.CountString", "internal/bytealg.IndexString", "internal/abi.NoEscape", "internal/bytealg.MakeNoZero"], unfollowed := true, recurses := true, named := ["tronage/lexer.words", "tronage/lexer.escapes", "internal/bytealg.MaxLen"], apart := false, laid := [("tronage/lexer.words", laid_tronage_lexer_words), ("tronage/lexer.escapes", laid_tronage_lexer_escapes)] }
def PrinterPatternsSaid : Prop := printerPatternsRow.holds Tryd.pinned (OpenSpec.ofChange printerPatternsSpec)

/-- ITS FALSE NEIGHBOUR: 'it returns false'. Refute it at one input. -/
def printerPatternsWrong : ChangeSpec := { name := "printerPatterns", fn := fun _ => fun
  | [d1, d2, d3] => { results := [.lit (.bool false)], args := [d1, d2, d3] }
  | _ => none }
def PrinterPatternsWrongFalsely : Prop := printerPatternsRow.holds Tryd.pinned (OpenSpec.ofChange printerPatternsWrong)

/-- 'tronagelaw07.PrinterBack': WHATEVER THE INPUT: true; the input reads as it did. -/
def printerBackSpec : ChangeSpec := { name := "printerBack", fn := fun _ => fun
  | [d] => { results := [.lit (.bool true)], args := [d] }
  | _ => none }
def printerBackRow : OpenClaim := { program := "ytcggbplapaeedaadoor", sum := "daab225bf0204a5b96592fb509bc8faf1efc89bf82fa244075d8897fe0eca578", func := "tronage/tronagelaw07.PrinterBack", spec := "printerBack", inPlace := ["internal/bytealg.IndexByteString", "internal/bytealg.CountString", "internal/bytealg.IndexString", "internal/abi.NoEscape", "internal/bytealg.MakeNoZero"], unfollowed := true, recurses := true, named := ["tronage/lexer.words", "tronage/lexer.escapes", "internal/bytealg.MaxLen"], apart := false, laid := [("tronage/lexer.words", laid_tronage_lexer_words), ("tronage/lexer.escapes", laid_tronage_lexer_escapes)] }
def PrinterBackSaid : Prop := printerBackRow.holds Tryd.pinned (OpenSpec.ofChange printerBackSpec)

/-- ITS FALSE NEIGHBOUR: 'it returns false'. Refute it at one input. -/
def printerBackWrong : ChangeSpec := { name := "printerBack", fn := fun _ => fun
  | [d] => { results := [.lit (.bool false)], args := [d] }
  | _ => none }
def PrinterBackWrongFalsely : Prop := printerBackRow.holds Tryd.pinned (OpenSpec.ofChange printerBackWrong)

/-- 'tronagelaw07.PrinterReads': WHATEVER THE INPUT: true; the input reads as it did. -/
def printerReadsSpec : ChangeSpec := { name := "printerReads", fn := fun _ => fun
  | [d] => { results := [.lit (.bool true)], args := [d] }
  | _ => none }
def printerReadsRow : OpenClaim := { program := "ytcggbplapaeedaadoor", sum := "daab225bf0204a5b96592fb509bc8faf1efc89bf82fa244075d8897fe0eca578", func := "tronage/tronagelaw07.PrinterReads", spec := "printerReads", inPlace := ["internal/bytealg.IndexByteString", "internal/bytealg.CountString", "internal/bytealg.IndexString", "internal/abi.NoEscape", "internal/bytealg.MakeNoZero"], unfollowed := true, recurses := true, named := ["tronage/lexer.words", "tronage/lexer.escapes", "internal/bytealg.MaxLen"], apart := false, laid := [("tronage/lexer.words", laid_tronage_lexer_words), ("tronage/lexer.escapes", laid_tronage_lexer_escapes)] }
def PrinterReadsSaid : Prop := printerReadsRow.holds Tryd.pinned (OpenSpec.ofChange printerReadsSpec)

/-- ITS FALSE NEIGHBOUR: 'it returns false'. Refute it at one input. -/
def printerReadsWrong : ChangeSpec := { name := "printerReads", fn := fun _ => fun
  | [d] => { results := [.lit (.bool false)], args := [d] }
  | _ => none }
def PrinterReadsWrongFalsely : Prop := printerReadsRow.holds Tryd.pinned (OpenSpec.ofChange printerReadsWrong)

/- THE SECOND FORM. 'bulk': how many values and letters a reading holds, each counted each time it is reached (what is shared counts as often as it is met; a slice's spare places count too). A statement '..UptoSaid' is the law's where the arguments, and the package variables that the reading takes, are together of bulk at most 1048576: NARROWER than '..Said'. Prove '..Said' where nothing that the law and all that it calls make is longer than what came in: it says more and counts as full. Else prove '..UptoSaid'. A law counts once. -/
mutual
def uptoBulk {H : Type} : DataW H → Nat
  | .lit (.string bytes) => bytes.length + 1
  | .lit _ => 1
  | .nil => 1
  | .ptr d => uptoBulk d + 1
  | .slice elems spare => uptoBulkAll elems + uptoBulkAll spare + 1
  | .agg parts => uptoBulkAll parts + 1
  | .iface _ d => uptoBulk d + 1
  | .map entries => uptoBulkEntries entries + 1
  | .held _ => 1
def uptoBulkAll {H : Type} : List (DataW H) → Nat
  | [] => 0
  | d :: r => uptoBulk d + uptoBulkAll r
def uptoBulkEntries {H : Type} : List (Lit × DataW H) → Nat
  | [] => 0
  | x :: r => uptoBulkEntry x + uptoBulkEntries r
def uptoBulkEntry {H : Type} : Lit × DataW H → Nat
  | (.string bytes, d) => bytes.length + uptoBulk d + 1
  | (_, d) => uptoBulk d + 1
 end
def uptoSmall : (H : Type) → List (DataW H) → Bool := fun _ ds => decide (uptoBulkAll ds ≤ 1048576)
def OpenSpec.upto (s : _root_.Go.ChangeSpec) : _root_.Go.OpenSpec := { _root_.Go.OpenSpec.ofChange s with cond := some uptoSmall }

/-- 'tronagelaw06.ReaderInside', WHERE WHAT IT READS IS OF BULK AT MOST 1048576: true; the input reads as it did. -/
def readerInsideUptoRow : OpenClaim := { program := "ytcggbplapaeedaadoor", sum := "daab225bf0204a5b96592fb509bc8faf1efc89bf82fa244075d8897fe0eca578", func := "tronage/tronagelaw06.ReaderInside", spec := "readerInside", inPlace := ["internal/bytealg.IndexByteString", "internal/bytealg.CountString", "internal/bytealg.IndexString"], unfollowed := true, recurses := true, named := ["tronage/lexer.words", "tronage/lexer.escapes", "internal/bytealg.MaxLen"], apart := false, laid := [("tronage/lexer.words", laid_tronage_lexer_words), ("tronage/lexer.escapes", laid_tronage_lexer_escapes)], narrowed := true }
def ReaderInsideUptoSaid : Prop := readerInsideUptoRow.holds Tryd.pinned (OpenSpec.upto readerInsideSpec)

/-- 'tronagelaw06.ReaderRules', WHERE WHAT IT READS IS OF BULK AT MOST 1048576: true; the input reads as it did. -/
def readerRulesUptoRow : OpenClaim := { program := "ytcggbplapaeedaadoor", sum := "daab225bf0204a5b96592fb509bc8faf1efc89bf82fa244075d8897fe0eca578", func := "tronage/tronagelaw06.ReaderRules", spec := "readerRules", inPlace := ["internal/bytealg.IndexByteString", "internal/bytealg.CountString", "internal/bytealg.IndexString"], unfollowed := true, recurses := true, named := ["tronage/lexer.words", "tronage/lexer.escapes", "internal/bytealg.MaxLen"], apart := false, laid := [("tronage/lexer.words", laid_tronage_lexer_words), ("tronage/lexer.escapes", laid_tronage_lexer_escapes)], narrowed := true }
def ReaderRulesUptoSaid : Prop := readerRulesUptoRow.holds Tryd.pinned (OpenSpec.upto readerRulesSpec)

/-- 'tronagelaw06.ReaderTokens', WHERE WHAT IT READS IS OF BULK AT MOST 1048576: true; the input reads as it did. -/
def readerTokensUptoRow : OpenClaim := { program := "ytcggbplapaeedaadoor", sum := "daab225bf0204a5b96592fb509bc8faf1efc89bf82fa244075d8897fe0eca578", func := "tronage/tronagelaw06.ReaderTokens", spec := "readerTokens", inPlace := ["internal/bytealg.IndexByteString", "internal/bytealg.CountString", "internal/bytealg.IndexString"], unfollowed := true, recurses := true, named := ["tronage/lexer.words", "tronage/lexer.escapes", "internal/bytealg.MaxLen"], apart := false, laid := [("tronage/lexer.words", laid_tronage_lexer_words), ("tronage/lexer.escapes", laid_tronage_lexer_escapes)], narrowed := true }
def ReaderTokensUptoSaid : Prop := readerTokensUptoRow.holds Tryd.pinned (OpenSpec.upto readerTokensSpec)

/-- 'tronagelaw06.ReaderJoins', WHERE WHAT IT READS IS OF BULK AT MOST 1048576: true; the input reads as it did. -/
def readerJoinsUptoRow : OpenClaim := { program := "ytcggbplapaeedaadoor", sum := "daab225bf0204a5b96592fb509bc8faf1efc89bf82fa244075d8897fe0eca578", func := "tronage/tronagelaw06.ReaderJoins", spec := "readerJoins", inPlace := ["internal/bytealg.IndexByteString", "internal/bytealg.CountString", "internal/bytealg.IndexString"], unfollowed := true, recurses := true, named := ["tronage/lexer.words", "tronage/lexer.escapes", "internal/bytealg.MaxLen"], apart := false, laid := [("tronage/lexer.words", laid_tronage_lexer_words), ("tronage/lexer.escapes", laid_tronage_lexer_escapes)], narrowed := true }
def ReaderJoinsUptoSaid : Prop := readerJoinsUptoRow.holds Tryd.pinned (OpenSpec.upto readerJoinsSpec)

/-- 'tronagelaw07.PrinterPrints', WHERE WHAT IT READS IS OF BULK AT MOST 1048576: true; the input reads as it did. -/
def printerPrintsUptoRow : OpenClaim := { program := "ytcggbplapaeedaadoor", sum := "daab225bf0204a5b96592fb509bc8faf1efc89bf82fa244075d8897fe0eca578", func := "tronage/tronagelaw07.PrinterPrints", spec := "printerPrints", inPlace := ["internal/bytealg.IndexByteString", "internal/bytealg.CountString", "internal/bytealg.IndexString", "internal/abi.NoEscape", "internal/bytealg.MakeNoZero"], unfollowed := true, recurses := true, named := ["tronage/lexer.words", "tronage/lexer.escapes", "internal/bytealg.MaxLen"], apart := false, laid := [("tronage/lexer.words", laid_tronage_lexer_words), ("tronage/lexer.escapes", laid_tronage_lexer_escapes)], narrowed := true }
def PrinterPrintsUptoSaid : Prop := printerPrintsUptoRow.holds Tryd.pinned (OpenSpec.upto printerPrintsSpec)

/-- 'tronagelaw07.PrinterUnlike', WHERE WHAT IT READS IS OF BULK AT MOST 1048576: true; the input reads as it did. -/
def printerUnlikeUptoRow : OpenClaim := { program := "ytcggbplapaeedaadoor", sum := "daab225bf0204a5b96592fb509bc8faf1efc89bf82fa244075d8897fe0eca578", func := "tronage/tronagelaw07.PrinterUnlike", spec := "printerUnlike", inPlace := ["internal/bytealg.IndexByteString", "internal/bytealg.CountString", "internal/bytealg.IndexString", "internal/abi.NoEscape", "internal/bytealg.MakeNoZero"], unfollowed := true, recurses := true, named := ["tronage/lexer.words", "tronage/lexer.escapes", "internal/bytealg.MaxLen"], apart := false, laid := [("tronage/lexer.words", laid_tronage_lexer_words), ("tronage/lexer.escapes", laid_tronage_lexer_escapes)], narrowed := true }
def PrinterUnlikeUptoSaid : Prop := printerUnlikeUptoRow.holds Tryd.pinned (OpenSpec.upto printerUnlikeSpec)

/-- 'tronagelaw07.PrinterPatterns', WHERE WHAT IT READS IS OF BULK AT MOST 1048576: true; the input reads as it did. -/
def printerPatternsUptoRow : OpenClaim := { program := "ytcggbplapaeedaadoor", sum := "daab225bf0204a5b96592fb509bc8faf1efc89bf82fa244075d8897fe0eca578", func := "tronage/tronagelaw07.PrinterPatterns", spec := "printerPatterns", inPlace := ["internal/bytealg.IndexByteString", "internal/bytealg.CountString", "internal/bytealg.IndexString", "internal/abi.NoEscape", "internal/bytealg.MakeNoZero"], unfollowed := true, recurses := true, named := ["tronage/lexer.words", "tronage/lexer.escapes", "internal/bytealg.MaxLen"], apart := false, laid := [("tronage/lexer.words", laid_tronage_lexer_words), ("tronage/lexer.escapes", laid_tronage_lexer_escapes)], narrowed := true }
def PrinterPatternsUptoSaid : Prop := printerPatternsUptoRow.holds Tryd.pinned (OpenSpec.upto printerPatternsSpec)

/-- 'tronagelaw07.PrinterBack', WHERE WHAT IT READS IS OF BULK AT MOST 1048576: true; the input reads as it did. -/
def printerBackUptoRow : OpenClaim := { program := "ytcggbplapaeedaadoor", sum := "daab225bf0204a5b96592fb509bc8faf1efc89bf82fa244075d8897fe0eca578", func := "tronage/tronagelaw07.PrinterBack", spec := "printerBack", inPlace := ["internal/bytealg.IndexByteString", "internal/bytealg.CountString", "internal/bytealg.IndexString", "internal/abi.NoEscape", "internal/bytealg.MakeNoZero"], unfollowed := true, recurses := true, named := ["tronage/lexer.words", "tronage/lexer.escapes", "internal/bytealg.MaxLen"], apart := false, laid := [("tronage/lexer.words", laid_tronage_lexer_words), ("tronage/lexer.escapes", laid_tronage_lexer_escapes)], narrowed := true }
def PrinterBackUptoSaid : Prop := printerBackUptoRow.holds Tryd.pinned (OpenSpec.upto printerBackSpec)

/-- 'tronagelaw07.PrinterReads', WHERE WHAT IT READS IS OF BULK AT MOST 1048576: true; the input reads as it did. -/
def printerReadsUptoRow : OpenClaim := { program := "ytcggbplapaeedaadoor", sum := "daab225bf0204a5b96592fb509bc8faf1efc89bf82fa244075d8897fe0eca578", func := "tronage/tronagelaw07.PrinterReads", spec := "printerReads", inPlace := ["internal/bytealg.IndexByteString", "internal/bytealg.CountString", "internal/bytealg.IndexString", "internal/abi.NoEscape", "internal/bytealg.MakeNoZero"], unfollowed := true, recurses := true, named := ["tronage/lexer.words", "tronage/lexer.escapes", "internal/bytealg.MaxLen"], apart := false, laid := [("tronage/lexer.words", laid_tronage_lexer_words), ("tronage/lexer.escapes", laid_tronage_lexer_escapes)], narrowed := true }
def PrinterReadsUptoSaid : Prop := printerReadsUptoRow.holds Tryd.pinned (OpenSpec.upto printerReadsSpec)

end Rows
end Go.Proofs.YtcggbplapaeedaaDoor
