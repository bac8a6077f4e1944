/-
  NARROWER THAN 'FOR EVERY INPUT', by the rows' own cells (each row's printed sentence says how): CodeCompiles: loops, laid · CodePrefix: laid · CodeBack: loops, laid · CodeOnly: laid · CodeChecks: laid · CodeBytes: laid.
  DERIVED. THE GIVEN ROWS OF THIS SEAT. 6 by the template 'for every input the law returns true; each argument reads behind the call as it read before'; 0 by the template 'total and deterministic' (their statements: YtlndoebddndlmaaDoorTotals.lean).
  GIVEN WITH THE SEED: the statements are not yours to turn. If you find one false, say at which input.
  Laid BY PROGRAM, IN A SANDBOX (cutbox-rows.mjs): the forced cells as the released guide's own fill.sh prints them over the translation e60444d2341b893d… (all of the seat's roots in one cut). By AI agents, Wed Nov 11 2026. No macro, syntax, notation, axiom, sorry.
-/
import Derived.Test.YtlndoebddndlmaaDoorChecked
import GoSem.Claim
import GoSem.ClaimJoined
import GoSem.ClaimMapViews
import Derived.JoinedTies
import Derived.KernelRfl
namespace Go.Proofs.YtlndoebddndlmaaDoor
/- THE CELL 'sum', in the pinned program and in every row, IS THE sha256 OF THE DUMP (.gsa) THAT YtlndoebddndlmaaDoorProg.lean LOADS. Nothing in Lean hashes anything: it is a label: what it is worth is what the hold of that sum in a sandbox is worth. -/
noncomputable def Tryd.pinned : Pinned := { name := "ytlndoebddndlmaadoor", sum := "e60444d2341b893d6f023cd8d8c9ec66f53b78056e0087dff25caacd25da8a2a", checked := Tryd.checked }
namespace Rows
def none {H : Type} : Left H := { results := [], args := [] }

/- WHAT THE LISTED PACKAGE-LEVEL VARIABLES READ AS WHEN THE CALL BEGINS. Each datum BY PROGRAM (the guide's laid-datum.mjs) off the statement by which the dump's own 'gosem.cut.vars' lays the variable. In a bare row this is a premise. The card (YtlndoebddndlmaaDoorCards.lean) ties it to the program's text. -/
def laid_tronage_code_takes {H : Type} : DataW H := .agg [.lit (.int .i64 0), .lit (.int .i64 0), .lit (.int .i64 0), .lit (.int .i64 0), .lit (.int .i64 1), .lit (.int .i64 2), .lit (.int .i64 2), .lit (.int .i64 2), .lit (.int .i64 2), .lit (.int .i64 2)]

/-- 'tronagelaw21.CodeCompiles': WHATEVER THE INPUT: true; the input reads as it did. -/
def codeCompilesSpec : ChangeSpec := { name := "codeCompiles", fn := fun _ => fun
  | [d] => { results := [.lit (.bool true)], args := [d] }
  | _ => none }
def codeCompilesRow : OpenClaim := { program := "ytlndoebddndlmaadoor", sum := "e60444d2341b893d6f023cd8d8c9ec66f53b78056e0087dff25caacd25da8a2a", func := "tronage/tronagelaw21.CodeCompiles", spec := "codeCompiles", unfollowed := true, recurses := true, named := ["tronage/code.takes"], loops := true, apart := false, laid := [("tronage/code.takes", laid_tronage_code_takes)] }
def CodeCompilesSaid : Prop := codeCompilesRow.holds Tryd.pinned (OpenSpec.ofChange codeCompilesSpec)

/-- ITS FALSE NEIGHBOUR: 'it returns false'. Refute it at one input. -/
def codeCompilesWrong : ChangeSpec := { name := "codeCompiles", fn := fun _ => fun
  | [d] => { results := [.lit (.bool false)], args := [d] }
  | _ => none }
def CodeCompilesWrongFalsely : Prop := codeCompilesRow.holds Tryd.pinned (OpenSpec.ofChange codeCompilesWrong)

/-- 'tronagelaw21.CodePrefix': WHATEVER THE INPUT: true; the input reads as it did. -/
def codePrefixSpec : ChangeSpec := { name := "codePrefix", fn := fun _ => fun
  | [d1, d2, d3] => { results := [.lit (.bool true)], args := [d1, d2, d3] }
  | _ => none }
def codePrefixRow : OpenClaim := { program := "ytlndoebddndlmaadoor", sum := "e60444d2341b893d6f023cd8d8c9ec66f53b78056e0087dff25caacd25da8a2a", func := "tronage/tronagelaw21.CodePrefix", spec := "codePrefix", unfollowed := true, recurses := true, named := ["tronage/code.takes"], apart := false, laid := [("tronage/code.takes", laid_tronage_code_takes)] }
def CodePrefixSaid : Prop := codePrefixRow.holds Tryd.pinned (OpenSpec.ofChange codePrefixSpec)

/-- ITS FALSE NEIGHBOUR: 'it returns false'. Refute it at one input. -/
def codePrefixWrong : ChangeSpec := { name := "codePrefix", fn := fun _ => fun
  | [d1, d2, d3] => { results := [.lit (.bool false)], args := [d1, d2, d3] }
  | _ => none }
def CodePrefixWrongFalsely : Prop := codePrefixRow.holds Tryd.pinned (OpenSpec.ofChange codePrefixWrong)

/-- 'tronagelaw21.CodeBack': WHATEVER THE INPUT: true; the input reads as it did. -/
def codeBackSpec : ChangeSpec := { name := "codeBack", fn := fun _ => fun
  | [d1, d2] => { results := [.lit (.bool true)], args := [d1, d2] }
  | _ => none }
def codeBackRow : OpenClaim := { program := "ytlndoebddndlmaadoor", sum := "e60444d2341b893d6f023cd8d8c9ec66f53b78056e0087dff25caacd25da8a2a", func := "tronage/tronagelaw21.CodeBack", spec := "codeBack", unfollowed := true, recurses := true, named := ["tronage/code.takes"], loops := true, apart := false, laid := [("tronage/code.takes", laid_tronage_code_takes)] }
def CodeBackSaid : Prop := codeBackRow.holds Tryd.pinned (OpenSpec.ofChange codeBackSpec)

/-- ITS FALSE NEIGHBOUR: 'it returns false'. Refute it at one input. -/
def codeBackWrong : ChangeSpec := { name := "codeBack", fn := fun _ => fun
  | [d1, d2] => { results := [.lit (.bool false)], args := [d1, d2] }
  | _ => none }
def CodeBackWrongFalsely : Prop := codeBackRow.holds Tryd.pinned (OpenSpec.ofChange codeBackWrong)

/-- 'tronagelaw21.CodeOnly': WHATEVER THE INPUT: true; the input reads as it did. -/
def codeOnlySpec : ChangeSpec := { name := "codeOnly", fn := fun _ => fun
  | [d1, d2] => { results := [.lit (.bool true)], args := [d1, d2] }
  | _ => none }
def codeOnlyRow : OpenClaim := { program := "ytlndoebddndlmaadoor", sum := "e60444d2341b893d6f023cd8d8c9ec66f53b78056e0087dff25caacd25da8a2a", func := "tronage/tronagelaw21.CodeOnly", spec := "codeOnly", unfollowed := true, recurses := true, named := ["tronage/code.takes"], apart := false, laid := [("tronage/code.takes", laid_tronage_code_takes)] }
def CodeOnlySaid : Prop := codeOnlyRow.holds Tryd.pinned (OpenSpec.ofChange codeOnlySpec)

/-- ITS FALSE NEIGHBOUR: 'it returns false'. Refute it at one input. -/
def codeOnlyWrong : ChangeSpec := { name := "codeOnly", fn := fun _ => fun
  | [d1, d2] => { results := [.lit (.bool false)], args := [d1, d2] }
  | _ => none }
def CodeOnlyWrongFalsely : Prop := codeOnlyRow.holds Tryd.pinned (OpenSpec.ofChange codeOnlyWrong)

/-- 'tronagelaw21.CodeChecks': WHATEVER THE INPUT: true; the input reads as it did. -/
def codeChecksSpec : ChangeSpec := { name := "codeChecks", fn := fun _ => fun
  | [d1, d2, d3] => { results := [.lit (.bool true)], args := [d1, d2, d3] }
  | _ => none }
def codeChecksRow : OpenClaim := { program := "ytlndoebddndlmaadoor", sum := "e60444d2341b893d6f023cd8d8c9ec66f53b78056e0087dff25caacd25da8a2a", func := "tronage/tronagelaw21.CodeChecks", spec := "codeChecks", unfollowed := true, recurses := true, named := ["tronage/code.takes"], apart := false, laid := [("tronage/code.takes", laid_tronage_code_takes)] }
def CodeChecksSaid : Prop := codeChecksRow.holds Tryd.pinned (OpenSpec.ofChange codeChecksSpec)

/-- ITS FALSE NEIGHBOUR: 'it returns false'. Refute it at one input. -/
def codeChecksWrong : ChangeSpec := { name := "codeChecks", fn := fun _ => fun
  | [d1, d2, d3] => { results := [.lit (.bool false)], args := [d1, d2, d3] }
  | _ => none }
def CodeChecksWrongFalsely : Prop := codeChecksRow.holds Tryd.pinned (OpenSpec.ofChange codeChecksWrong)

/-- 'tronagelaw21.CodeBytes': WHATEVER THE INPUT: true; the input reads as it did. -/
def codeBytesSpec : ChangeSpec := { name := "codeBytes", fn := fun _ => fun
  | [d1, d2] => { results := [.lit (.bool true)], args := [d1, d2] }
  | _ => none }
def codeBytesRow : OpenClaim := { program := "ytlndoebddndlmaadoor", sum := "e60444d2341b893d6f023cd8d8c9ec66f53b78056e0087dff25caacd25da8a2a", func := "tronage/tronagelaw21.CodeBytes", spec := "codeBytes", unfollowed := true, recurses := true, named := ["tronage/code.takes"], apart := false, laid := [("tronage/code.takes", laid_tronage_code_takes)] }
def CodeBytesSaid : Prop := codeBytesRow.holds Tryd.pinned (OpenSpec.ofChange codeBytesSpec)

/-- ITS FALSE NEIGHBOUR: 'it returns false'. Refute it at one input. -/
def codeBytesWrong : ChangeSpec := { name := "codeBytes", fn := fun _ => fun
  | [d1, d2] => { results := [.lit (.bool false)], args := [d1, d2] }
  | _ => none }
def CodeBytesWrongFalsely : Prop := codeBytesRow.holds Tryd.pinned (OpenSpec.ofChange codeBytesWrong)

/- THE SECOND FORM. 'bulk': how many values and letters a reading holds, each counted each time it is reached (what is shared counts as often as it is met; a slice's spare places count too). A statement '..UptoSaid' is the law's where the arguments, and the package variables that the reading takes, are together of bulk at most 1048576: NARROWER than '..Said'. Prove '..Said' where nothing that the law and all that it calls make is longer than what came in: it says more and counts as full. Else prove '..UptoSaid'. A law counts once. -/
mutual
def uptoBulk {H : Type} : DataW H → Nat
  | .lit (.string bytes) => bytes.length + 1
  | .lit _ => 1
  | .nil => 1
  | .ptr d => uptoBulk d + 1
  | .slice elems spare => uptoBulkAll elems + uptoBulkAll spare + 1
  | .agg parts => uptoBulkAll parts + 1
  | .iface _ d => uptoBulk d + 1
  | .map entries => uptoBulkEntries entries + 1
  | .held _ => 1
def uptoBulkAll {H : Type} : List (DataW H) → Nat
  | [] => 0
  | d :: r => uptoBulk d + uptoBulkAll r
def uptoBulkEntries {H : Type} : List (Lit × DataW H) → Nat
  | [] => 0
  | x :: r => uptoBulkEntry x + uptoBulkEntries r
def uptoBulkEntry {H : Type} : Lit × DataW H → Nat
  | (.string bytes, d) => bytes.length + uptoBulk d + 1
  | (_, d) => uptoBulk d + 1
 end
def uptoSmall : (H : Type) → List (DataW H) → Bool := fun _ ds => decide (uptoBulkAll ds ≤ 1048576)
def OpenSpec.upto (s : _root_.Go.ChangeSpec) : _root_.Go.OpenSpec := { _root_.Go.OpenSpec.ofChange s with cond := some uptoSmall }

/-- 'tronagelaw21.CodeCompiles', WHERE WHAT IT READS IS OF BULK AT MOST 1048576: true; the input reads as it did. -/
def codeCompilesUptoRow : OpenClaim := { program := "ytlndoebddndlmaadoor", sum := "e60444d2341b893d6f023cd8d8c9ec66f53b78056e0087dff25caacd25da8a2a", func := "tronage/tronagelaw21.CodeCompiles", spec := "codeCompiles", unfollowed := true, recurses := true, named := ["tronage/code.takes"], loops := true, apart := false, laid := [("tronage/code.takes", laid_tronage_code_takes)], narrowed := true }
def CodeCompilesUptoSaid : Prop := codeCompilesUptoRow.holds Tryd.pinned (OpenSpec.upto codeCompilesSpec)

/-- 'tronagelaw21.CodePrefix', WHERE WHAT IT READS IS OF BULK AT MOST 1048576: true; the input reads as it did. -/
def codePrefixUptoRow : OpenClaim := { program := "ytlndoebddndlmaadoor", sum := "e60444d2341b893d6f023cd8d8c9ec66f53b78056e0087dff25caacd25da8a2a", func := "tronage/tronagelaw21.CodePrefix", spec := "codePrefix", unfollowed := true, recurses := true, named := ["tronage/code.takes"], apart := false, laid := [("tronage/code.takes", laid_tronage_code_takes)], narrowed := true }
def CodePrefixUptoSaid : Prop := codePrefixUptoRow.holds Tryd.pinned (OpenSpec.upto codePrefixSpec)

/-- 'tronagelaw21.CodeBack', WHERE WHAT IT READS IS OF BULK AT MOST 1048576: true; the input reads as it did. -/
def codeBackUptoRow : OpenClaim := { program := "ytlndoebddndlmaadoor", sum := "e60444d2341b893d6f023cd8d8c9ec66f53b78056e0087dff25caacd25da8a2a", func := "tronage/tronagelaw21.CodeBack", spec := "codeBack", unfollowed := true, recurses := true, named := ["tronage/code.takes"], loops := true, apart := false, laid := [("tronage/code.takes", laid_tronage_code_takes)], narrowed := true }
def CodeBackUptoSaid : Prop := codeBackUptoRow.holds Tryd.pinned (OpenSpec.upto codeBackSpec)

/-- 'tronagelaw21.CodeOnly', WHERE WHAT IT READS IS OF BULK AT MOST 1048576: true; the input reads as it did. -/
def codeOnlyUptoRow : OpenClaim := { program := "ytlndoebddndlmaadoor", sum := "e60444d2341b893d6f023cd8d8c9ec66f53b78056e0087dff25caacd25da8a2a", func := "tronage/tronagelaw21.CodeOnly", spec := "codeOnly", unfollowed := true, recurses := true, named := ["tronage/code.takes"], apart := false, laid := [("tronage/code.takes", laid_tronage_code_takes)], narrowed := true }
def CodeOnlyUptoSaid : Prop := codeOnlyUptoRow.holds Tryd.pinned (OpenSpec.upto codeOnlySpec)

/-- 'tronagelaw21.CodeChecks', WHERE WHAT IT READS IS OF BULK AT MOST 1048576: true; the input reads as it did. -/
def codeChecksUptoRow : OpenClaim := { program := "ytlndoebddndlmaadoor", sum := "e60444d2341b893d6f023cd8d8c9ec66f53b78056e0087dff25caacd25da8a2a", func := "tronage/tronagelaw21.CodeChecks", spec := "codeChecks", unfollowed := true, recurses := true, named := ["tronage/code.takes"], apart := false, laid := [("tronage/code.takes", laid_tronage_code_takes)], narrowed := true }
def CodeChecksUptoSaid : Prop := codeChecksUptoRow.holds Tryd.pinned (OpenSpec.upto codeChecksSpec)

/-- 'tronagelaw21.CodeBytes', WHERE WHAT IT READS IS OF BULK AT MOST 1048576: true; the input reads as it did. -/
def codeBytesUptoRow : OpenClaim := { program := "ytlndoebddndlmaadoor", sum := "e60444d2341b893d6f023cd8d8c9ec66f53b78056e0087dff25caacd25da8a2a", func := "tronage/tronagelaw21.CodeBytes", spec := "codeBytes", unfollowed := true, recurses := true, named := ["tronage/code.takes"], apart := false, laid := [("tronage/code.takes", laid_tronage_code_takes)], narrowed := true }
def CodeBytesUptoSaid : Prop := codeBytesUptoRow.holds Tryd.pinned (OpenSpec.upto codeBytesSpec)

end Rows
end Go.Proofs.YtlndoebddndlmaaDoor
