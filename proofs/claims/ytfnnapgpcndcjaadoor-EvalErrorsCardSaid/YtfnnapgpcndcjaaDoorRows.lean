/-
  NARROWER THAN 'FOR EVERY INPUT', by the rows' own cells (each row's printed sentence says how): EvalLeaves: laid · EvalMeans: loops, laid · EvalOps: laid · EvalErrors: laid.
  DERIVED. THE GIVEN ROWS OF THIS SEAT. 4 by the template 'for every input the law returns true; each argument reads behind the call as it read before'; 0 by the template 'total and deterministic' (their statements: YtfnnapgpcndcjaaDoorTotals.lean).
  GIVEN WITH THE SEED: the statements are not yours to turn. If you find one false, say at which input.
  Laid BY PROGRAM, IN A SANDBOX (cutbox-rows.mjs): the forced cells as the released guide's own fill.sh prints them over the translation f96b6feb82126d96… (all of the seat's roots in one cut). By AI agents, Wed Nov 11 2026. No macro, syntax, notation, axiom, sorry.
-/
import Derived.Test.YtfnnapgpcndcjaaDoorChecked
import GoSem.PinnedTables
import GoSem.Claim
import GoSem.ClaimJoined
import GoSem.ClaimMapViews
import Derived.JoinedTies
import Derived.KernelRfl
namespace Go.Proofs.YtfnnapgpcndcjaaDoor
/- THE CELL 'sum', in the pinned program and in every row, IS THE sha256 OF THE DUMP (.gsa) THAT YtfnnapgpcndcjaaDoorProg.lean LOADS. Nothing in Lean hashes anything: it is a label: what it is worth is what the hold of that sum in a sandbox is worth. -/
noncomputable def Tryd.pinned : Pinned := { name := "ytfnnapgpcndcjaadoor", sum := "f96b6feb82126d964168d4a681a8de6df2089cdbb8876ce2c35cf705eb27c8ad", checked := Tryd.checked }
namespace Rows
def none {H : Type} : Left H := { results := [], args := [] }

/- WHAT THE LISTED PACKAGE-LEVEL VARIABLES READ AS WHEN THE CALL BEGINS. Each datum BY PROGRAM (the guide's laid-datum.mjs) off the statement by which the dump's own 'gosem.cut.vars' lays the variable. In a bare row this is a premise. The card (YtfnnapgpcndcjaaDoorCards.lean) ties it to the program's text. -/
def laid_unicode_utf8_acceptRanges {H : Type} : DataW H := .agg [.agg [.lit (.int .u8 128), .lit (.int .u8 191)], .agg [.lit (.int .u8 160), .lit (.int .u8 191)], .agg [.lit (.int .u8 128), .lit (.int .u8 159)], .agg [.lit (.int .u8 144), .lit (.int .u8 191)], .agg [.lit (.int .u8 128), .lit (.int .u8 143)], .agg [.lit (.int .u8 0), .lit (.int .u8 0)], .agg [.lit (.int .u8 0), .lit (.int .u8 0)], .agg [.lit (.int .u8 0), .lit (.int .u8 0)], .agg [.lit (.int .u8 0), .lit (.int .u8 0)], .agg [.lit (.int .u8 0), .lit (.int .u8 0)], .agg [.lit (.int .u8 0), .lit (.int .u8 0)], .agg [.lit (.int .u8 0), .lit (.int .u8 0)], .agg [.lit (.int .u8 0), .lit (.int .u8 0)], .agg [.lit (.int .u8 0), .lit (.int .u8 0)], .agg [.lit (.int .u8 0), .lit (.int .u8 0)], .agg [.lit (.int .u8 0), .lit (.int .u8 0)]]
def laid_tronage_code_takes {H : Type} : DataW H := .agg [.lit (.int .i64 0), .lit (.int .i64 0), .lit (.int .i64 0), .lit (.int .i64 0), .lit (.int .i64 1), .lit (.int .i64 2), .lit (.int .i64 2), .lit (.int .i64 2), .lit (.int .i64 2), .lit (.int .i64 2)]
/-- One of Go's own tables, pinned by name: the form's constant. -/
def laid_unicode_utf8_first : DataW Unit := Go.Pinned.utf8First

/-- 'tronagelaw22.EvalLeaves': WHATEVER THE INPUT: true; the input reads as it did. -/
def evalLeavesSpec : ChangeSpec := { name := "evalLeaves", fn := fun _ => fun
  | [d] => { results := [.lit (.bool true)], args := [d] }
  | _ => none }
def evalLeavesRow : OpenClaim := { program := "ytfnnapgpcndcjaadoor", sum := "f96b6feb82126d964168d4a681a8de6df2089cdbb8876ce2c35cf705eb27c8ad", func := "tronage/tronagelaw22.EvalLeaves", spec := "evalLeaves", inPlace := ["internal/bytealg.IndexByteString", "internal/bytealg.IndexString"], unfollowed := true, recurses := true, named := ["tronage/code.takes", "unicode/utf8.first", "unicode/utf8.acceptRanges", "internal/bytealg.MaxLen"], apart := false, laid := [("unicode/utf8.acceptRanges", laid_unicode_utf8_acceptRanges), ("tronage/code.takes", laid_tronage_code_takes), ("unicode/utf8.first", laid_unicode_utf8_first)] }
def EvalLeavesSaid : Prop := evalLeavesRow.holds Tryd.pinned (OpenSpec.ofChange evalLeavesSpec)

/-- ITS FALSE NEIGHBOUR: 'it returns false'. Refute it at one input. -/
def evalLeavesWrong : ChangeSpec := { name := "evalLeaves", fn := fun _ => fun
  | [d] => { results := [.lit (.bool false)], args := [d] }
  | _ => none }
def EvalLeavesWrongFalsely : Prop := evalLeavesRow.holds Tryd.pinned (OpenSpec.ofChange evalLeavesWrong)

/-- 'tronagelaw22.EvalMeans': WHATEVER THE INPUT: true; the input reads as it did. -/
def evalMeansSpec : ChangeSpec := { name := "evalMeans", fn := fun _ => fun
  | [d1, d2, d3] => { results := [.lit (.bool true)], args := [d1, d2, d3] }
  | _ => none }
def evalMeansRow : OpenClaim := { program := "ytfnnapgpcndcjaadoor", sum := "f96b6feb82126d964168d4a681a8de6df2089cdbb8876ce2c35cf705eb27c8ad", func := "tronage/tronagelaw22.EvalMeans", spec := "evalMeans", inPlace := ["internal/bytealg.IndexByteString", "internal/bytealg.IndexString"], unfollowed := true, recurses := true, named := ["tronage/code.takes", "unicode/utf8.first", "unicode/utf8.acceptRanges", "internal/bytealg.MaxLen"], loops := true, apart := false, laid := [("unicode/utf8.acceptRanges", laid_unicode_utf8_acceptRanges), ("tronage/code.takes", laid_tronage_code_takes), ("unicode/utf8.first", laid_unicode_utf8_first)] }
def EvalMeansSaid : Prop := evalMeansRow.holds Tryd.pinned (OpenSpec.ofChange evalMeansSpec)

/-- ITS FALSE NEIGHBOUR: 'it returns false'. Refute it at one input. -/
def evalMeansWrong : ChangeSpec := { name := "evalMeans", fn := fun _ => fun
  | [d1, d2, d3] => { results := [.lit (.bool false)], args := [d1, d2, d3] }
  | _ => none }
def EvalMeansWrongFalsely : Prop := evalMeansRow.holds Tryd.pinned (OpenSpec.ofChange evalMeansWrong)

/-- 'tronagelaw22.EvalOps': WHATEVER THE INPUT: true; the input reads as it did. -/
def evalOpsSpec : ChangeSpec := { name := "evalOps", fn := fun _ => fun
  | [d1, d2, d3] => { results := [.lit (.bool true)], args := [d1, d2, d3] }
  | _ => none }
def evalOpsRow : OpenClaim := { program := "ytfnnapgpcndcjaadoor", sum := "f96b6feb82126d964168d4a681a8de6df2089cdbb8876ce2c35cf705eb27c8ad", func := "tronage/tronagelaw22.EvalOps", spec := "evalOps", inPlace := ["internal/bytealg.IndexByteString", "internal/bytealg.IndexString"], unfollowed := true, recurses := true, named := ["tronage/code.takes", "unicode/utf8.first", "unicode/utf8.acceptRanges", "internal/bytealg.MaxLen"], apart := false, laid := [("unicode/utf8.acceptRanges", laid_unicode_utf8_acceptRanges), ("tronage/code.takes", laid_tronage_code_takes), ("unicode/utf8.first", laid_unicode_utf8_first)] }
def EvalOpsSaid : Prop := evalOpsRow.holds Tryd.pinned (OpenSpec.ofChange evalOpsSpec)

/-- ITS FALSE NEIGHBOUR: 'it returns false'. Refute it at one input. -/
def evalOpsWrong : ChangeSpec := { name := "evalOps", fn := fun _ => fun
  | [d1, d2, d3] => { results := [.lit (.bool false)], args := [d1, d2, d3] }
  | _ => none }
def EvalOpsWrongFalsely : Prop := evalOpsRow.holds Tryd.pinned (OpenSpec.ofChange evalOpsWrong)

/-- 'tronagelaw22.EvalErrors': WHATEVER THE INPUT: true; the input reads as it did. -/
def evalErrorsSpec : ChangeSpec := { name := "evalErrors", fn := fun _ => fun
  | [d1, d2, d3] => { results := [.lit (.bool true)], args := [d1, d2, d3] }
  | _ => none }
def evalErrorsRow : OpenClaim := { program := "ytfnnapgpcndcjaadoor", sum := "f96b6feb82126d964168d4a681a8de6df2089cdbb8876ce2c35cf705eb27c8ad", func := "tronage/tronagelaw22.EvalErrors", spec := "evalErrors", inPlace := ["internal/bytealg.IndexByteString", "internal/bytealg.IndexString"], unfollowed := true, recurses := true, named := ["tronage/code.takes", "unicode/utf8.first", "unicode/utf8.acceptRanges", "internal/bytealg.MaxLen"], apart := false, laid := [("unicode/utf8.acceptRanges", laid_unicode_utf8_acceptRanges), ("tronage/code.takes", laid_tronage_code_takes), ("unicode/utf8.first", laid_unicode_utf8_first)] }
def EvalErrorsSaid : Prop := evalErrorsRow.holds Tryd.pinned (OpenSpec.ofChange evalErrorsSpec)

/-- ITS FALSE NEIGHBOUR: 'it returns false'. Refute it at one input. -/
def evalErrorsWrong : ChangeSpec := { name := "evalErrors", fn := fun _ => fun
  | [d1, d2, d3] => { results := [.lit (.bool false)], args := [d1, d2, d3] }
  | _ => none }
def EvalErrorsWrongFalsely : Prop := evalErrorsRow.holds Tryd.pinned (OpenSpec.ofChange evalErrorsWrong)

/- THE SECOND FORM. 'bulk': how many values and letters a reading holds, each counted each time it is reached (what is shared counts as often as it is met; a slice's spare places count too). A statement '..UptoSaid' is the law's where the arguments, and the package variables that the reading takes, are together of bulk at most 1048576: NARROWER than '..Said'. Prove '..Said' where nothing that the law and all that it calls make is longer than what came in: it says more and counts as full. Else prove '..UptoSaid'. A law counts once. -/
mutual
def uptoBulk {H : Type} : DataW H → Nat
  | .lit (.string bytes) => bytes.length + 1
  | .lit _ => 1
  | .nil => 1
  | .ptr d => uptoBulk d + 1
  | .slice elems spare => uptoBulkAll elems + uptoBulkAll spare + 1
  | .agg parts => uptoBulkAll parts + 1
  | .iface _ d => uptoBulk d + 1
  | .map entries => uptoBulkEntries entries + 1
  | .held _ => 1
def uptoBulkAll {H : Type} : List (DataW H) → Nat
  | [] => 0
  | d :: r => uptoBulk d + uptoBulkAll r
def uptoBulkEntries {H : Type} : List (Lit × DataW H) → Nat
  | [] => 0
  | x :: r => uptoBulkEntry x + uptoBulkEntries r
def uptoBulkEntry {H : Type} : Lit × DataW H → Nat
  | (.string bytes, d) => bytes.length + uptoBulk d + 1
  | (_, d) => uptoBulk d + 1
 end
def uptoSmall : (H : Type) → List (DataW H) → Bool := fun _ ds => decide (uptoBulkAll ds ≤ 1048576)
def OpenSpec.upto (s : _root_.Go.ChangeSpec) : _root_.Go.OpenSpec := { _root_.Go.OpenSpec.ofChange s with cond := some uptoSmall }

/-- 'tronagelaw22.EvalLeaves', WHERE WHAT IT READS IS OF BULK AT MOST 1048576: true; the input reads as it did. -/
def evalLeavesUptoRow : OpenClaim := { program := "ytfnnapgpcndcjaadoor", sum := "f96b6feb82126d964168d4a681a8de6df2089cdbb8876ce2c35cf705eb27c8ad", func := "tronage/tronagelaw22.EvalLeaves", spec := "evalLeaves", inPlace := ["internal/bytealg.IndexByteString", "internal/bytealg.IndexString"], unfollowed := true, recurses := true, named := ["tronage/code.takes", "unicode/utf8.first", "unicode/utf8.acceptRanges", "internal/bytealg.MaxLen"], apart := false, laid := [("unicode/utf8.acceptRanges", laid_unicode_utf8_acceptRanges), ("tronage/code.takes", laid_tronage_code_takes), ("unicode/utf8.first", laid_unicode_utf8_first)], narrowed := true }
def EvalLeavesUptoSaid : Prop := evalLeavesUptoRow.holds Tryd.pinned (OpenSpec.upto evalLeavesSpec)

/-- 'tronagelaw22.EvalMeans', WHERE WHAT IT READS IS OF BULK AT MOST 1048576: true; the input reads as it did. -/
def evalMeansUptoRow : OpenClaim := { program := "ytfnnapgpcndcjaadoor", sum := "f96b6feb82126d964168d4a681a8de6df2089cdbb8876ce2c35cf705eb27c8ad", func := "tronage/tronagelaw22.EvalMeans", spec := "evalMeans", inPlace := ["internal/bytealg.IndexByteString", "internal/bytealg.IndexString"], unfollowed := true, recurses := true, named := ["tronage/code.takes", "unicode/utf8.first", "unicode/utf8.acceptRanges", "internal/bytealg.MaxLen"], loops := true, apart := false, laid := [("unicode/utf8.acceptRanges", laid_unicode_utf8_acceptRanges), ("tronage/code.takes", laid_tronage_code_takes), ("unicode/utf8.first", laid_unicode_utf8_first)], narrowed := true }
def EvalMeansUptoSaid : Prop := evalMeansUptoRow.holds Tryd.pinned (OpenSpec.upto evalMeansSpec)

/-- 'tronagelaw22.EvalOps', WHERE WHAT IT READS IS OF BULK AT MOST 1048576: true; the input reads as it did. -/
def evalOpsUptoRow : OpenClaim := { program := "ytfnnapgpcndcjaadoor", sum := "f96b6feb82126d964168d4a681a8de6df2089cdbb8876ce2c35cf705eb27c8ad", func := "tronage/tronagelaw22.EvalOps", spec := "evalOps", inPlace := ["internal/bytealg.IndexByteString", "internal/bytealg.IndexString"], unfollowed := true, recurses := true, named := ["tronage/code.takes", "unicode/utf8.first", "unicode/utf8.acceptRanges", "internal/bytealg.MaxLen"], apart := false, laid := [("unicode/utf8.acceptRanges", laid_unicode_utf8_acceptRanges), ("tronage/code.takes", laid_tronage_code_takes), ("unicode/utf8.first", laid_unicode_utf8_first)], narrowed := true }
def EvalOpsUptoSaid : Prop := evalOpsUptoRow.holds Tryd.pinned (OpenSpec.upto evalOpsSpec)

/-- 'tronagelaw22.EvalErrors', WHERE WHAT IT READS IS OF BULK AT MOST 1048576: true; the input reads as it did. -/
def evalErrorsUptoRow : OpenClaim := { program := "ytfnnapgpcndcjaadoor", sum := "f96b6feb82126d964168d4a681a8de6df2089cdbb8876ce2c35cf705eb27c8ad", func := "tronage/tronagelaw22.EvalErrors", spec := "evalErrors", inPlace := ["internal/bytealg.IndexByteString", "internal/bytealg.IndexString"], unfollowed := true, recurses := true, named := ["tronage/code.takes", "unicode/utf8.first", "unicode/utf8.acceptRanges", "internal/bytealg.MaxLen"], apart := false, laid := [("unicode/utf8.acceptRanges", laid_unicode_utf8_acceptRanges), ("tronage/code.takes", laid_tronage_code_takes), ("unicode/utf8.first", laid_unicode_utf8_first)], narrowed := true }
def EvalErrorsUptoSaid : Prop := evalErrorsUptoRow.holds Tryd.pinned (OpenSpec.upto evalErrorsSpec)

end Rows
end Go.Proofs.YtfnnapgpcndcjaaDoor
