/-
  NARROWER THAN 'FOR EVERY INPUT', by the rows' own cells (each row's printed sentence says how): LexerLexes: laid · LexerInside: laid · LexerSpaces: laid · LexerQuotes: laid · LexerActions: laid · LexerClasses: laid · LexerPlaces: laid.
  DERIVED. THE GIVEN ROWS OF THIS SEAT. 7 by the template 'for every input the law returns true; each argument reads behind the call as it read before'; 0 by the template 'total and deterministic' (their statements: YtpbabncglokikaaDoorTotals.lean).
  GIVEN WITH THE SEED: the statements are not yours to turn. If you find one false, say at which input.
  Laid BY PROGRAM, IN A SANDBOX (cutbox-rows.mjs): the forced cells as the released guide's own fill.sh prints them over the translation ea0a020fb10c103b… (all of the seat's roots in one cut). By AI agents, Wed Nov 11 2026. No macro, syntax, notation, axiom, sorry.
-/
import Derived.Test.YtpbabncglokikaaDoorChecked
import GoSem.Claim
import GoSem.ClaimJoined
import GoSem.ClaimMapViews
import Derived.JoinedTies
import Derived.KernelRfl
namespace Go.Proofs.YtpbabncglokikaaDoor
/- THE CELL 'sum', in the pinned program and in every row, IS THE sha256 OF THE DUMP (.gsa) THAT YtpbabncglokikaaDoorProg.lean LOADS. Nothing in Lean hashes anything: it is a label: what it is worth is what the hold of that sum in a sandbox is worth. -/
noncomputable def Tryd.pinned : Pinned := { name := "ytpbabncglokikaadoor", sum := "ea0a020fb10c103b9043ac9c81be13569d04f452f4d51f3d38a5897e0349f7aa", checked := Tryd.checked }
namespace Rows
def none {H : Type} : Left H := { results := [], args := [] }

/- WHAT THE LISTED PACKAGE-LEVEL VARIABLES READ AS WHEN THE CALL BEGINS. Each datum BY PROGRAM (the guide's laid-datum.mjs) off the statement by which the dump's own 'gosem.cut.vars' lays the variable. In a bare row this is a premise. The card (YtpbabncglokikaaDoorCards.lean) ties it to the program's text. -/
def laid_tronage_lexer_words {H : Type} : DataW H := .agg [.lit (.string [116, 111, 107, 101, 110]), .lit (.string [115, 107, 105, 112]), .lit (.string [108, 101, 102, 116]), .lit (.string [114, 105, 103, 104, 116]), .lit (.string [110, 111, 110, 97, 115, 115, 111, 99]), .lit (.string [115, 116, 97, 114, 116]), .lit (.string [112, 114, 101, 99]), .lit (.string [37])]
def laid_tronage_lexer_escapes {H : Type} : DataW H := .agg [.agg [.lit (.int .u8 92), .lit (.int .u8 92)], .agg [.lit (.int .u8 34), .lit (.int .u8 34)], .agg [.lit (.int .u8 93), .lit (.int .u8 93)], .agg [.lit (.int .u8 45), .lit (.int .u8 45)], .agg [.lit (.int .u8 110), .lit (.int .u8 10)], .agg [.lit (.int .u8 116), .lit (.int .u8 9)]]

/-- 'tronagelaw05.LexerLexes': WHATEVER THE INPUT: true; the input reads as it did. -/
def lexerLexesSpec : ChangeSpec := { name := "lexerLexes", fn := fun _ => fun
  | [d] => { results := [.lit (.bool true)], args := [d] }
  | _ => none }
def lexerLexesRow : OpenClaim := { program := "ytpbabncglokikaadoor", sum := "ea0a020fb10c103b9043ac9c81be13569d04f452f4d51f3d38a5897e0349f7aa", func := "tronage/tronagelaw05.LexerLexes", spec := "lexerLexes", inPlace := ["internal/bytealg.IndexByteString", "internal/bytealg.CountString", "internal/bytealg.IndexString"], unfollowed := true, recurses := true, named := ["tronage/lexer.words", "tronage/lexer.escapes", "internal/bytealg.MaxLen"], apart := false, laid := [("tronage/lexer.words", laid_tronage_lexer_words), ("tronage/lexer.escapes", laid_tronage_lexer_escapes)] }
def LexerLexesSaid : Prop := lexerLexesRow.holds Tryd.pinned (OpenSpec.ofChange lexerLexesSpec)

/-- ITS FALSE NEIGHBOUR: 'it returns false'. Refute it at one input. -/
def lexerLexesWrong : ChangeSpec := { name := "lexerLexes", fn := fun _ => fun
  | [d] => { results := [.lit (.bool false)], args := [d] }
  | _ => none }
def LexerLexesWrongFalsely : Prop := lexerLexesRow.holds Tryd.pinned (OpenSpec.ofChange lexerLexesWrong)

/-- 'tronagelaw05.LexerInside': WHATEVER THE INPUT: true; the input reads as it did. -/
def lexerInsideSpec : ChangeSpec := { name := "lexerInside", fn := fun _ => fun
  | [d] => { results := [.lit (.bool true)], args := [d] }
  | _ => none }
def lexerInsideRow : OpenClaim := { program := "ytpbabncglokikaadoor", sum := "ea0a020fb10c103b9043ac9c81be13569d04f452f4d51f3d38a5897e0349f7aa", func := "tronage/tronagelaw05.LexerInside", spec := "lexerInside", inPlace := ["internal/bytealg.IndexByteString", "internal/bytealg.CountString", "internal/bytealg.IndexString"], unfollowed := true, recurses := true, named := ["tronage/lexer.words", "tronage/lexer.escapes", "internal/bytealg.MaxLen"], apart := false, laid := [("tronage/lexer.words", laid_tronage_lexer_words), ("tronage/lexer.escapes", laid_tronage_lexer_escapes)] }
def LexerInsideSaid : Prop := lexerInsideRow.holds Tryd.pinned (OpenSpec.ofChange lexerInsideSpec)

/-- ITS FALSE NEIGHBOUR: 'it returns false'. Refute it at one input. -/
def lexerInsideWrong : ChangeSpec := { name := "lexerInside", fn := fun _ => fun
  | [d] => { results := [.lit (.bool false)], args := [d] }
  | _ => none }
def LexerInsideWrongFalsely : Prop := lexerInsideRow.holds Tryd.pinned (OpenSpec.ofChange lexerInsideWrong)

/-- 'tronagelaw05.LexerSpaces': WHATEVER THE INPUT: true; the input reads as it did. -/
def lexerSpacesSpec : ChangeSpec := { name := "lexerSpaces", fn := fun _ => fun
  | [d1, d2, d3] => { results := [.lit (.bool true)], args := [d1, d2, d3] }
  | _ => none }
def lexerSpacesRow : OpenClaim := { program := "ytpbabncglokikaadoor", sum := "ea0a020fb10c103b9043ac9c81be13569d04f452f4d51f3d38a5897e0349f7aa", func := "tronage/tronagelaw05.LexerSpaces", spec := "lexerSpaces", inPlace := ["internal/bytealg.IndexByteString", "internal/bytealg.CountString", "internal/bytealg.IndexString"], unfollowed := true, recurses := true, named := ["tronage/lexer.words", "tronage/lexer.escapes", "internal/bytealg.MaxLen"], apart := false, laid := [("tronage/lexer.words", laid_tronage_lexer_words), ("tronage/lexer.escapes", laid_tronage_lexer_escapes)] }
def LexerSpacesSaid : Prop := lexerSpacesRow.holds Tryd.pinned (OpenSpec.ofChange lexerSpacesSpec)

/-- ITS FALSE NEIGHBOUR: 'it returns false'. Refute it at one input. -/
def lexerSpacesWrong : ChangeSpec := { name := "lexerSpaces", fn := fun _ => fun
  | [d1, d2, d3] => { results := [.lit (.bool false)], args := [d1, d2, d3] }
  | _ => none }
def LexerSpacesWrongFalsely : Prop := lexerSpacesRow.holds Tryd.pinned (OpenSpec.ofChange lexerSpacesWrong)

/-- 'tronagelaw05.LexerQuotes': WHATEVER THE INPUT: true; the input reads as it did. -/
def lexerQuotesSpec : ChangeSpec := { name := "lexerQuotes", fn := fun _ => fun
  | [d1, d2] => { results := [.lit (.bool true)], args := [d1, d2] }
  | _ => none }
def lexerQuotesRow : OpenClaim := { program := "ytpbabncglokikaadoor", sum := "ea0a020fb10c103b9043ac9c81be13569d04f452f4d51f3d38a5897e0349f7aa", func := "tronage/tronagelaw05.LexerQuotes", spec := "lexerQuotes", inPlace := ["internal/bytealg.IndexByteString", "internal/bytealg.CountString", "internal/bytealg.IndexString"], unfollowed := true, recurses := true, named := ["tronage/lexer.words", "tronage/lexer.escapes", "internal/bytealg.MaxLen"], apart := false, laid := [("tronage/lexer.words", laid_tronage_lexer_words), ("tronage/lexer.escapes", laid_tronage_lexer_escapes)] }
def LexerQuotesSaid : Prop := lexerQuotesRow.holds Tryd.pinned (OpenSpec.ofChange lexerQuotesSpec)

/-- ITS FALSE NEIGHBOUR: 'it returns false'. Refute it at one input. -/
def lexerQuotesWrong : ChangeSpec := { name := "lexerQuotes", fn := fun _ => fun
  | [d1, d2] => { results := [.lit (.bool false)], args := [d1, d2] }
  | _ => none }
def LexerQuotesWrongFalsely : Prop := lexerQuotesRow.holds Tryd.pinned (OpenSpec.ofChange lexerQuotesWrong)

/-- 'tronagelaw05.LexerActions': WHATEVER THE INPUT: true; the input reads as it did. -/
def lexerActionsSpec : ChangeSpec := { name := "lexerActions", fn := fun _ => fun
  | [d1, d2] => { results := [.lit (.bool true)], args := [d1, d2] }
  | _ => none }
def lexerActionsRow : OpenClaim := { program := "ytpbabncglokikaadoor", sum := "ea0a020fb10c103b9043ac9c81be13569d04f452f4d51f3d38a5897e0349f7aa", func := "tronage/tronagelaw05.LexerActions", spec := "lexerActions", inPlace := ["internal/bytealg.IndexByteString", "internal/bytealg.CountString", "internal/bytealg.IndexString"], unfollowed := true, recurses := true, named := ["tronage/lexer.words", "tronage/lexer.escapes", "internal/bytealg.MaxLen"], apart := false, laid := [("tronage/lexer.words", laid_tronage_lexer_words), ("tronage/lexer.escapes", laid_tronage_lexer_escapes)] }
def LexerActionsSaid : Prop := lexerActionsRow.holds Tryd.pinned (OpenSpec.ofChange lexerActionsSpec)

/-- ITS FALSE NEIGHBOUR: 'it returns false'. Refute it at one input. -/
def lexerActionsWrong : ChangeSpec := { name := "lexerActions", fn := fun _ => fun
  | [d1, d2] => { results := [.lit (.bool false)], args := [d1, d2] }
  | _ => none }
def LexerActionsWrongFalsely : Prop := lexerActionsRow.holds Tryd.pinned (OpenSpec.ofChange lexerActionsWrong)

/-- 'tronagelaw05.LexerClasses': WHATEVER THE INPUT: true; the input reads as it did. -/
def lexerClassesSpec : ChangeSpec := { name := "lexerClasses", fn := fun _ => fun
  | [d1, d2, d3] => { results := [.lit (.bool true)], args := [d1, d2, d3] }
  | _ => none }
def lexerClassesRow : OpenClaim := { program := "ytpbabncglokikaadoor", sum := "ea0a020fb10c103b9043ac9c81be13569d04f452f4d51f3d38a5897e0349f7aa", func := "tronage/tronagelaw05.LexerClasses", spec := "lexerClasses", inPlace := ["internal/bytealg.IndexByteString", "internal/bytealg.CountString", "internal/bytealg.IndexString"], unfollowed := true, recurses := true, named := ["tronage/lexer.words", "tronage/lexer.escapes", "internal/bytealg.MaxLen"], apart := false, laid := [("tronage/lexer.words", laid_tronage_lexer_words), ("tronage/lexer.escapes", laid_tronage_lexer_escapes)] }
def LexerClassesSaid : Prop := lexerClassesRow.holds Tryd.pinned (OpenSpec.ofChange lexerClassesSpec)

/-- ITS FALSE NEIGHBOUR: 'it returns false'. Refute it at one input. -/
def lexerClassesWrong : ChangeSpec := { name := "lexerClasses", fn := fun _ => fun
  | [d1, d2, d3] => { results := [.lit (.bool false)], args := [d1, d2, d3] }
  | _ => none }
def LexerClassesWrongFalsely : Prop := lexerClassesRow.holds Tryd.pinned (OpenSpec.ofChange lexerClassesWrong)

/-- 'tronagelaw05.LexerPlaces': WHATEVER THE INPUT: true; the input reads as it did. -/
def lexerPlacesSpec : ChangeSpec := { name := "lexerPlaces", fn := fun _ => fun
  | [d1, d2] => { results := [.lit (.bool true)], args := [d1, d2] }
  | _ => none }
def lexerPlacesRow : OpenClaim := { program := "ytpbabncglokikaadoor", sum := "ea0a020fb10c103b9043ac9c81be13569d04f452f4d51f3d38a5897e0349f7aa", func := "tronage/tronagelaw05.LexerPlaces", spec := "lexerPlaces", inPlace := ["internal/bytealg.IndexByteString", "internal/bytealg.CountString", "internal/bytealg.IndexString"], unfollowed := true, recurses := true, named := ["tronage/lexer.words", "tronage/lexer.escapes", "internal/bytealg.MaxLen"], apart := false, laid := [("tronage/lexer.words", laid_tronage_lexer_words), ("tronage/lexer.escapes", laid_tronage_lexer_escapes)] }
def LexerPlacesSaid : Prop := lexerPlacesRow.holds Tryd.pinned (OpenSpec.ofChange lexerPlacesSpec)

/-- ITS FALSE NEIGHBOUR: 'it returns false'. Refute it at one input. -/
def lexerPlacesWrong : ChangeSpec := { name := "lexerPlaces", fn := fun _ => fun
  | [d1, d2] => { results := [.lit (.bool false)], args := [d1, d2] }
  | _ => none }
def LexerPlacesWrongFalsely : Prop := lexerPlacesRow.holds Tryd.pinned (OpenSpec.ofChange lexerPlacesWrong)

/- THE SECOND FORM. 'bulk': how many values and letters a reading holds, each counted each time it is reached (what is shared counts as often as it is met; a slice's spare places count too). A statement '..UptoSaid' is the law's where the arguments, and the package variables that the reading takes, are together of bulk at most 1048576: NARROWER than '..Said'. Prove '..Said' where nothing that the law and all that it calls make is longer than what came in: it says more and counts as full. Else prove '..UptoSaid'. A law counts once. -/
mutual
def uptoBulk {H : Type} : DataW H → Nat
  | .lit (.string bytes) => bytes.length + 1
  | .lit _ => 1
  | .nil => 1
  | .ptr d => uptoBulk d + 1
  | .slice elems spare => uptoBulkAll elems + uptoBulkAll spare + 1
  | .agg parts => uptoBulkAll parts + 1
  | .iface _ d => uptoBulk d + 1
  | .map entries => uptoBulkEntries entries + 1
  | .held _ => 1
def uptoBulkAll {H : Type} : List (DataW H) → Nat
  | [] => 0
  | d :: r => uptoBulk d + uptoBulkAll r
def uptoBulkEntries {H : Type} : List (Lit × DataW H) → Nat
  | [] => 0
  | x :: r => uptoBulkEntry x + uptoBulkEntries r
def uptoBulkEntry {H : Type} : Lit × DataW H → Nat
  | (.string bytes, d) => bytes.length + uptoBulk d + 1
  | (_, d) => uptoBulk d + 1
 end
def uptoSmall : (H : Type) → List (DataW H) → Bool := fun _ ds => decide (uptoBulkAll ds ≤ 1048576)
def OpenSpec.upto (s : _root_.Go.ChangeSpec) : _root_.Go.OpenSpec := { _root_.Go.OpenSpec.ofChange s with cond := some uptoSmall }

/-- 'tronagelaw05.LexerLexes', WHERE WHAT IT READS IS OF BULK AT MOST 1048576: true; the input reads as it did. -/
def lexerLexesUptoRow : OpenClaim := { program := "ytpbabncglokikaadoor", sum := "ea0a020fb10c103b9043ac9c81be13569d04f452f4d51f3d38a5897e0349f7aa", func := "tronage/tronagelaw05.LexerLexes", spec := "lexerLexes", inPlace := ["internal/bytealg.IndexByteString", "internal/bytealg.CountString", "internal/bytealg.IndexString"], unfollowed := true, recurses := true, named := ["tronage/lexer.words", "tronage/lexer.escapes", "internal/bytealg.MaxLen"], apart := false, laid := [("tronage/lexer.words", laid_tronage_lexer_words), ("tronage/lexer.escapes", laid_tronage_lexer_escapes)], narrowed := true }
def LexerLexesUptoSaid : Prop := lexerLexesUptoRow.holds Tryd.pinned (OpenSpec.upto lexerLexesSpec)

/-- 'tronagelaw05.LexerInside', WHERE WHAT IT READS IS OF BULK AT MOST 1048576: true; the input reads as it did. -/
def lexerInsideUptoRow : OpenClaim := { program := "ytpbabncglokikaadoor", sum := "ea0a020fb10c103b9043ac9c81be13569d04f452f4d51f3d38a5897e0349f7aa", func := "tronage/tronagelaw05.LexerInside", spec := "lexerInside", inPlace := ["internal/bytealg.IndexByteString", "internal/bytealg.CountString", "internal/bytealg.IndexString"], unfollowed := true, recurses := true, named := ["tronage/lexer.words", "tronage/lexer.escapes", "internal/bytealg.MaxLen"], apart := false, laid := [("tronage/lexer.words", laid_tronage_lexer_words), ("tronage/lexer.escapes", laid_tronage_lexer_escapes)], narrowed := true }
def LexerInsideUptoSaid : Prop := lexerInsideUptoRow.holds Tryd.pinned (OpenSpec.upto lexerInsideSpec)

/-- 'tronagelaw05.LexerSpaces', WHERE WHAT IT READS IS OF BULK AT MOST 1048576: true; the input reads as it did. -/
def lexerSpacesUptoRow : OpenClaim := { program := "ytpbabncglokikaadoor", sum := "ea0a020fb10c103b9043ac9c81be13569d04f452f4d51f3d38a5897e0349f7aa", func := "tronage/tronagelaw05.LexerSpaces", spec := "lexerSpaces", inPlace := ["internal/bytealg.IndexByteString", "internal/bytealg.CountString", "internal/bytealg.IndexString"], unfollowed := true, recurses := true, named := ["tronage/lexer.words", "tronage/lexer.escapes", "internal/bytealg.MaxLen"], apart := false, laid := [("tronage/lexer.words", laid_tronage_lexer_words), ("tronage/lexer.escapes", laid_tronage_lexer_escapes)], narrowed := true }
def LexerSpacesUptoSaid : Prop := lexerSpacesUptoRow.holds Tryd.pinned (OpenSpec.upto lexerSpacesSpec)

/-- 'tronagelaw05.LexerQuotes', WHERE WHAT IT READS IS OF BULK AT MOST 1048576: true; the input reads as it did. -/
def lexerQuotesUptoRow : OpenClaim := { program := "ytpbabncglokikaadoor", sum := "ea0a020fb10c103b9043ac9c81be13569d04f452f4d51f3d38a5897e0349f7aa", func := "tronage/tronagelaw05.LexerQuotes", spec := "lexerQuotes", inPlace := ["internal/bytealg.IndexByteString", "internal/bytealg.CountString", "internal/bytealg.IndexString"], unfollowed := true, recurses := true, named := ["tronage/lexer.words", "tronage/lexer.escapes", "internal/bytealg.MaxLen"], apart := false, laid := [("tronage/lexer.words", laid_tronage_lexer_words), ("tronage/lexer.escapes", laid_tronage_lexer_escapes)], narrowed := true }
def LexerQuotesUptoSaid : Prop := lexerQuotesUptoRow.holds Tryd.pinned (OpenSpec.upto lexerQuotesSpec)

/-- 'tronagelaw05.LexerActions', WHERE WHAT IT READS IS OF BULK AT MOST 1048576: true; the input reads as it did. -/
def lexerActionsUptoRow : OpenClaim := { program := "ytpbabncglokikaadoor", sum := "ea0a020fb10c103b9043ac9c81be13569d04f452f4d51f3d38a5897e0349f7aa", func := "tronage/tronagelaw05.LexerActions", spec := "lexerActions", inPlace := ["internal/bytealg.IndexByteString", "internal/bytealg.CountString", "internal/bytealg.IndexString"], unfollowed := true, recurses := true, named := ["tronage/lexer.words", "tronage/lexer.escapes", "internal/bytealg.MaxLen"], apart := false, laid := [("tronage/lexer.words", laid_tronage_lexer_words), ("tronage/lexer.escapes", laid_tronage_lexer_escapes)], narrowed := true }
def LexerActionsUptoSaid : Prop := lexerActionsUptoRow.holds Tryd.pinned (OpenSpec.upto lexerActionsSpec)

/-- 'tronagelaw05.LexerClasses', WHERE WHAT IT READS IS OF BULK AT MOST 1048576: true; the input reads as it did. -/
def lexerClassesUptoRow : OpenClaim := { program := "ytpbabncglokikaadoor", sum := "ea0a020fb10c103b9043ac9c81be13569d04f452f4d51f3d38a5897e0349f7aa", func := "tronage/tronagelaw05.LexerClasses", spec := "lexerClasses", inPlace := ["internal/bytealg.IndexByteString", "internal/bytealg.CountString", "internal/bytealg.IndexString"], unfollowed := true, recurses := true, named := ["tronage/lexer.words", "tronage/lexer.escapes", "internal/bytealg.MaxLen"], apart := false, laid := [("tronage/lexer.words", laid_tronage_lexer_words), ("tronage/lexer.escapes", laid_tronage_lexer_escapes)], narrowed := true }
def LexerClassesUptoSaid : Prop := lexerClassesUptoRow.holds Tryd.pinned (OpenSpec.upto lexerClassesSpec)

/-- 'tronagelaw05.LexerPlaces', WHERE WHAT IT READS IS OF BULK AT MOST 1048576: true; the input reads as it did. -/
def lexerPlacesUptoRow : OpenClaim := { program := "ytpbabncglokikaadoor", sum := "ea0a020fb10c103b9043ac9c81be13569d04f452f4d51f3d38a5897e0349f7aa", func := "tronage/tronagelaw05.LexerPlaces", spec := "lexerPlaces", inPlace := ["internal/bytealg.IndexByteString", "internal/bytealg.CountString", "internal/bytealg.IndexString"], unfollowed := true, recurses := true, named := ["tronage/lexer.words", "tronage/lexer.escapes", "internal/bytealg.MaxLen"], apart := false, laid := [("tronage/lexer.words", laid_tronage_lexer_words), ("tronage/lexer.escapes", laid_tronage_lexer_escapes)], narrowed := true }
def LexerPlacesUptoSaid : Prop := lexerPlacesUptoRow.holds Tryd.pinned (OpenSpec.upto lexerPlacesSpec)

end Rows
end Go.Proofs.YtpbabncglokikaaDoor
