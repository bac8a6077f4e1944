/-
  NARROWER THAN 'FOR EVERY INPUT', by the rows' own cells (each row's printed sentence says how): NamesBack: laid · NamesRules: laid · NamesLevels: laid · NamesUnknown: laid.
  DERIVED. THE GIVEN ROWS OF THIS SEAT. 4 by the template 'for every input the law returns true; each argument reads behind the call as it read before'; 0 by the template 'total and deterministic' (their statements: YtggaihkjnomflaaDoorTotals.lean).
  GIVEN WITH THE SEED: the statements are not yours to turn. If you find one false, say at which input.
  Laid BY PROGRAM, IN A SANDBOX (cutbox-rows.mjs): the forced cells as the released guide's own fill.sh prints them over the translation 9215b2132a9734bf… (all of the seat's roots in one cut). By AI agents, Wed Nov 11 2026. No macro, syntax, notation, axiom, sorry.
-/
import Derived.Test.YtggaihkjnomflaaDoorChecked
import GoSem.Claim
import GoSem.ClaimJoined
import GoSem.ClaimMapViews
import Derived.JoinedTies
import Derived.KernelRfl
namespace Go.Proofs.YtggaihkjnomflaaDoor
/- THE CELL 'sum', in the pinned program and in every row, IS THE sha256 OF THE DUMP (.gsa) THAT YtggaihkjnomflaaDoorProg.lean LOADS. Nothing in Lean hashes anything: it is a label: what it is worth is what the hold of that sum in a sandbox is worth. -/
noncomputable def Tryd.pinned : Pinned := { name := "ytggaihkjnomflaadoor", sum := "9215b2132a9734bf4d47907e204aef1d63296ec5a563d57659cf93e578a85f4c", checked := Tryd.checked }
namespace Rows
def none {H : Type} : Left H := { results := [], args := [] }

/- WHAT THE LISTED PACKAGE-LEVEL VARIABLES READ AS WHEN THE CALL BEGINS. Each datum BY PROGRAM (the guide's laid-datum.mjs) off the statement by which the dump's own 'gosem.cut.vars' lays the variable. In a bare row this is a premise. The card (YtggaihkjnomflaaDoorCards.lean) ties it to the program's text. -/
def laid_tronage_lexer_words {H : Type} : DataW H := .agg [.lit (.string [116, 111, 107, 101, 110]), .lit (.string [115, 107, 105, 112]), .lit (.string [108, 101, 102, 116]), .lit (.string [114, 105, 103, 104, 116]), .lit (.string [110, 111, 110, 97, 115, 115, 111, 99]), .lit (.string [115, 116, 97, 114, 116]), .lit (.string [112, 114, 101, 99]), .lit (.string [37])]
def laid_tronage_lexer_escapes {H : Type} : DataW H := .agg [.agg [.lit (.int .u8 92), .lit (.int .u8 92)], .agg [.lit (.int .u8 34), .lit (.int .u8 34)], .agg [.lit (.int .u8 93), .lit (.int .u8 93)], .agg [.lit (.int .u8 45), .lit (.int .u8 45)], .agg [.lit (.int .u8 110), .lit (.int .u8 10)], .agg [.lit (.int .u8 116), .lit (.int .u8 9)]]

/-- 'tronagelaw08.NamesBack': WHATEVER THE INPUT: true; the input reads as it did. -/
def namesBackSpec : ChangeSpec := { name := "namesBack", fn := fun _ => fun
  | [d] => { results := [.lit (.bool true)], args := [d] }
  | _ => none }
def namesBackRow : OpenClaim := { program := "ytggaihkjnomflaadoor", sum := "9215b2132a9734bf4d47907e204aef1d63296ec5a563d57659cf93e578a85f4c", func := "tronage/tronagelaw08.NamesBack", spec := "namesBack", inPlace := ["internal/bytealg.IndexByteString", "internal/bytealg.CountString", "internal/bytealg.IndexString", "internal/abi.NoEscape", "internal/bytealg.MakeNoZero"], unfollowed := true, recurses := true, named := ["tronage/lexer.words", "tronage/lexer.escapes", "internal/bytealg.MaxLen"], apart := false, laid := [("tronage/lexer.words", laid_tronage_lexer_words), ("tronage/lexer.escapes", laid_tronage_lexer_escapes)] }
def NamesBackSaid : Prop := namesBackRow.holds Tryd.pinned (OpenSpec.ofChange namesBackSpec)

/-- ITS FALSE NEIGHBOUR: 'it returns false'. Refute it at one input. -/
def namesBackWrong : ChangeSpec := { name := "namesBack", fn := fun _ => fun
  | [d] => { results := [.lit (.bool false)], args := [d] }
  | _ => none }
def NamesBackWrongFalsely : Prop := namesBackRow.holds Tryd.pinned (OpenSpec.ofChange namesBackWrong)

/-- 'tronagelaw08.NamesRules': WHATEVER THE INPUT: true; the input reads as it did. -/
def namesRulesSpec : ChangeSpec := { name := "namesRules", fn := fun _ => fun
  | [d] => { results := [.lit (.bool true)], args := [d] }
  | _ => none }
def namesRulesRow : OpenClaim := { program := "ytggaihkjnomflaadoor", sum := "9215b2132a9734bf4d47907e204aef1d63296ec5a563d57659cf93e578a85f4c", func := "tronage/tronagelaw08.NamesRules", spec := "namesRules", inPlace := ["internal/bytealg.IndexByteString", "internal/bytealg.CountString", "internal/bytealg.IndexString", "internal/abi.NoEscape", "internal/bytealg.MakeNoZero"], unfollowed := true, recurses := true, named := ["tronage/lexer.words", "tronage/lexer.escapes", "internal/bytealg.MaxLen"], apart := false, laid := [("tronage/lexer.words", laid_tronage_lexer_words), ("tronage/lexer.escapes", laid_tronage_lexer_escapes)] }
def NamesRulesSaid : Prop := namesRulesRow.holds Tryd.pinned (OpenSpec.ofChange namesRulesSpec)

/-- ITS FALSE NEIGHBOUR: 'it returns false'. Refute it at one input. -/
def namesRulesWrong : ChangeSpec := { name := "namesRules", fn := fun _ => fun
  | [d] => { results := [.lit (.bool false)], args := [d] }
  | _ => none }
def NamesRulesWrongFalsely : Prop := namesRulesRow.holds Tryd.pinned (OpenSpec.ofChange namesRulesWrong)

/-- 'tronagelaw08.NamesLevels': WHATEVER THE INPUT: true; the input reads as it did. -/
def namesLevelsSpec : ChangeSpec := { name := "namesLevels", fn := fun _ => fun
  | [d] => { results := [.lit (.bool true)], args := [d] }
  | _ => none }
def namesLevelsRow : OpenClaim := { program := "ytggaihkjnomflaadoor", sum := "9215b2132a9734bf4d47907e204aef1d63296ec5a563d57659cf93e578a85f4c", func := "tronage/tronagelaw08.NamesLevels", spec := "namesLevels", inPlace := ["internal/bytealg.IndexByteString", "internal/bytealg.CountString", "internal/bytealg.IndexString", "internal/abi.NoEscape", "internal/bytealg.MakeNoZero"], unfollowed := true, recurses := true, named := ["tronage/lexer.words", "tronage/lexer.escapes", "internal/bytealg.MaxLen"], apart := false, laid := [("tronage/lexer.words", laid_tronage_lexer_words), ("tronage/lexer.escapes", laid_tronage_lexer_escapes)] }
def NamesLevelsSaid : Prop := namesLevelsRow.holds Tryd.pinned (OpenSpec.ofChange namesLevelsSpec)

/-- ITS FALSE NEIGHBOUR: 'it returns false'. Refute it at one input. -/
def namesLevelsWrong : ChangeSpec := { name := "namesLevels", fn := fun _ => fun
  | [d] => { results := [.lit (.bool false)], args := [d] }
  | _ => none }
def NamesLevelsWrongFalsely : Prop := namesLevelsRow.holds Tryd.pinned (OpenSpec.ofChange namesLevelsWrong)

/-- 'tronagelaw08.NamesUnknown': WHATEVER THE INPUT: true; the input reads as it did. -/
def namesUnknownSpec : ChangeSpec := { name := "namesUnknown", fn := fun _ => fun
  | [d1, d2, d3] => { results := [.lit (.bool true)], args := [d1, d2, d3] }
  | _ => none }
def namesUnknownRow : OpenClaim := { program := "ytggaihkjnomflaadoor", sum := "9215b2132a9734bf4d47907e204aef1d63296ec5a563d57659cf93e578a85f4c", func := "tronage/tronagelaw08.NamesUnknown", spec := "namesUnknown", inPlace := ["internal/bytealg.IndexByteString", "internal/bytealg.CountString", "internal/bytealg.IndexString", "internal/abi.NoEscape", "internal/bytealg.MakeNoZero"], unfollowed := true, recurses := true, named := ["tronage/lexer.words", "tronage/lexer.escapes", "internal/bytealg.MaxLen"], apart := false, laid := [("tronage/lexer.words", laid_tronage_lexer_words), ("tronage/lexer.escapes", laid_tronage_lexer_escapes)] }
def NamesUnknownSaid : Prop := namesUnknownRow.holds Tryd.pinned (OpenSpec.ofChange namesUnknownSpec)

/-- ITS FALSE NEIGHBOUR: 'it returns false'. Refute it at one input. -/
def namesUnknownWrong : ChangeSpec := { name := "namesUnknown", fn := fun _ => fun
  | [d1, d2, d3] => { results := [.lit (.bool false)], args := [d1, d2, d3] }
  | _ => none }
def NamesUnknownWrongFalsely : Prop := namesUnknownRow.holds Tryd.pinned (OpenSpec.ofChange namesUnknownWrong)

/- THE SECOND FORM. 'bulk': how many values and letters a reading holds, each counted each time it is reached (what is shared counts as often as it is met; a slice's spare places count too). A statement '..UptoSaid' is the law's where the arguments, and the package variables that the reading takes, are together of bulk at most 1048576: NARROWER than '..Said'. Prove '..Said' where nothing that the law and all that it calls make is longer than what came in: it says more and counts as full. Else prove '..UptoSaid'. A law counts once. -/
mutual
def uptoBulk {H : Type} : DataW H → Nat
  | .lit (.string bytes) => bytes.length + 1
  | .lit _ => 1
  | .nil => 1
  | .ptr d => uptoBulk d + 1
  | .slice elems spare => uptoBulkAll elems + uptoBulkAll spare + 1
  | .agg parts => uptoBulkAll parts + 1
  | .iface _ d => uptoBulk d + 1
  | .map entries => uptoBulkEntries entries + 1
  | .held _ => 1
def uptoBulkAll {H : Type} : List (DataW H) → Nat
  | [] => 0
  | d :: r => uptoBulk d + uptoBulkAll r
def uptoBulkEntries {H : Type} : List (Lit × DataW H) → Nat
  | [] => 0
  | x :: r => uptoBulkEntry x + uptoBulkEntries r
def uptoBulkEntry {H : Type} : Lit × DataW H → Nat
  | (.string bytes, d) => bytes.length + uptoBulk d + 1
  | (_, d) => uptoBulk d + 1
 end
def uptoSmall : (H : Type) → List (DataW H) → Bool := fun _ ds => decide (uptoBulkAll ds ≤ 1048576)
def OpenSpec.upto (s : _root_.Go.ChangeSpec) : _root_.Go.OpenSpec := { _root_.Go.OpenSpec.ofChange s with cond := some uptoSmall }

/-- 'tronagelaw08.NamesBack', WHERE WHAT IT READS IS OF BULK AT MOST 1048576: true; the input reads as it did. -/
def namesBackUptoRow : OpenClaim := { program := "ytggaihkjnomflaadoor", sum := "9215b2132a9734bf4d47907e204aef1d63296ec5a563d57659cf93e578a85f4c", func := "tronage/tronagelaw08.NamesBack", spec := "namesBack", inPlace := ["internal/bytealg.IndexByteString", "internal/bytealg.CountString", "internal/bytealg.IndexString", "internal/abi.NoEscape", "internal/bytealg.MakeNoZero"], unfollowed := true, recurses := true, named := ["tronage/lexer.words", "tronage/lexer.escapes", "internal/bytealg.MaxLen"], apart := false, laid := [("tronage/lexer.words", laid_tronage_lexer_words), ("tronage/lexer.escapes", laid_tronage_lexer_escapes)], narrowed := true }
def NamesBackUptoSaid : Prop := namesBackUptoRow.holds Tryd.pinned (OpenSpec.upto namesBackSpec)

/-- 'tronagelaw08.NamesRules', WHERE WHAT IT READS IS OF BULK AT MOST 1048576: true; the input reads as it did. -/
def namesRulesUptoRow : OpenClaim := { program := "ytggaihkjnomflaadoor", sum := "9215b2132a9734bf4d47907e204aef1d63296ec5a563d57659cf93e578a85f4c", func := "tronage/tronagelaw08.NamesRules", spec := "namesRules", inPlace := ["internal/bytealg.IndexByteString", "internal/bytealg.CountString", "internal/bytealg.IndexString", "internal/abi.NoEscape", "internal/bytealg.MakeNoZero"], unfollowed := true, recurses := true, named := ["tronage/lexer.words", "tronage/lexer.escapes", "internal/bytealg.MaxLen"], apart := false, laid := [("tronage/lexer.words", laid_tronage_lexer_words), ("tronage/lexer.escapes", laid_tronage_lexer_escapes)], narrowed := true }
def NamesRulesUptoSaid : Prop := namesRulesUptoRow.holds Tryd.pinned (OpenSpec.upto namesRulesSpec)

/-- 'tronagelaw08.NamesLevels', WHERE WHAT IT READS IS OF BULK AT MOST 1048576: true; the input reads as it did. -/
def namesLevelsUptoRow : OpenClaim := { program := "ytggaihkjnomflaadoor", sum := "9215b2132a9734bf4d47907e204aef1d63296ec5a563d57659cf93e578a85f4c", func := "tronage/tronagelaw08.NamesLevels", spec := "namesLevels", inPlace := ["internal/bytealg.IndexByteString", "internal/bytealg.CountString", "internal/bytealg.IndexString", "internal/abi.NoEscape", "internal/bytealg.MakeNoZero"], unfollowed := true, recurses := true, named := ["tronage/lexer.words", "tronage/lexer.escapes", "internal/bytealg.MaxLen"], apart := false, laid := [("tronage/lexer.words", laid_tronage_lexer_words), ("tronage/lexer.escapes", laid_tronage_lexer_escapes)], narrowed := true }
def NamesLevelsUptoSaid : Prop := namesLevelsUptoRow.holds Tryd.pinned (OpenSpec.upto namesLevelsSpec)

/-- 'tronagelaw08.NamesUnknown', WHERE WHAT IT READS IS OF BULK AT MOST 1048576: true; the input reads as it did. -/
def namesUnknownUptoRow : OpenClaim := { program := "ytggaihkjnomflaadoor", sum := "9215b2132a9734bf4d47907e204aef1d63296ec5a563d57659cf93e578a85f4c", func := "tronage/tronagelaw08.NamesUnknown", spec := "namesUnknown", inPlace := ["internal/bytealg.IndexByteString", "internal/bytealg.CountString", "internal/bytealg.IndexString", "internal/abi.NoEscape", "internal/bytealg.MakeNoZero"], unfollowed := true, recurses := true, named := ["tronage/lexer.words", "tronage/lexer.escapes", "internal/bytealg.MaxLen"], apart := false, laid := [("tronage/lexer.words", laid_tronage_lexer_words), ("tronage/lexer.escapes", laid_tronage_lexer_escapes)], narrowed := true }
def NamesUnknownUptoSaid : Prop := namesUnknownUptoRow.holds Tryd.pinned (OpenSpec.upto namesUnknownSpec)

end Rows
end Go.Proofs.YtggaihkjnomflaaDoor
