/-
  NARROWER THAN 'FOR EVERY INPUT', by the rows' own cells (each row's printed sentence says how): EvalLocal: loops, laid · EvalTrees: loops, laid · EvalSteps: loops, laid.
  DERIVED. THE GIVEN ROWS OF THIS SEAT. 3 by the template 'for every input the law returns true; each argument reads behind the call as it read before'; 0 by the template 'total and deterministic' (their statements: YtfnnapgpcndcjaaGreatDoorTotals.lean).
  GIVEN WITH THE SEED: the statements are not yours to turn. If you find one false, say at which input.
  Laid BY PROGRAM, IN A SANDBOX (cutbox-rows.mjs): the forced cells as the released guide's own fill.sh prints them over the translation 9f6596b15e8d1a5b… (all of the seat's roots in one cut). By AI agents, Wed Nov 11 2026. No macro, syntax, notation, axiom, sorry.
-/
import Derived.Test.YtfnnapgpcndcjaaGreatDoorChecked
import GoSem.PinnedTables
import GoSem.Claim
import GoSem.ClaimJoined
import GoSem.ClaimMapViews
import Derived.JoinedTies
import Derived.KernelRfl
namespace Go.Proofs.YtfnnapgpcndcjaaGreatDoor
/- THE CELL 'sum', in the pinned program and in every row, IS THE sha256 OF THE DUMP (.gsa) THAT YtfnnapgpcndcjaaGreatDoorProg.lean LOADS. Nothing in Lean hashes anything: it is a label: what it is worth is what the hold of that sum in a sandbox is worth. -/
noncomputable def Tryz.pinned : Pinned := { name := "ytfnnapgpcndcjaagreatdoor", sum := "9f6596b15e8d1a5b5420fcb39b488dfba79df6a103612d33e88acdbebf77e8c3", checked := Tryz.checked }
namespace Rows
def none {H : Type} : Left H := { results := [], args := [] }

/- WHAT THE LISTED PACKAGE-LEVEL VARIABLES READ AS WHEN THE CALL BEGINS. Each datum BY PROGRAM (the guide's laid-datum.mjs) off the statement by which the dump's own 'gosem.cut.vars' lays the variable. In a bare row this is a premise. The card (YtfnnapgpcndcjaaGreatDoorCards.lean) ties it to the program's text. -/
def laid_unicode_utf8_acceptRanges {H : Type} : DataW H := .agg [.agg [.lit (.int .u8 128), .lit (.int .u8 191)], .agg [.lit (.int .u8 160), .lit (.int .u8 191)], .agg [.lit (.int .u8 128), .lit (.int .u8 159)], .agg [.lit (.int .u8 144), .lit (.int .u8 191)], .agg [.lit (.int .u8 128), .lit (.int .u8 143)], .agg [.lit (.int .u8 0), .lit (.int .u8 0)], .agg [.lit (.int .u8 0), .lit (.int .u8 0)], .agg [.lit (.int .u8 0), .lit (.int .u8 0)], .agg [.lit (.int .u8 0), .lit (.int .u8 0)], .agg [.lit (.int .u8 0), .lit (.int .u8 0)], .agg [.lit (.int .u8 0), .lit (.int .u8 0)], .agg [.lit (.int .u8 0), .lit (.int .u8 0)], .agg [.lit (.int .u8 0), .lit (.int .u8 0)], .agg [.lit (.int .u8 0), .lit (.int .u8 0)], .agg [.lit (.int .u8 0), .lit (.int .u8 0)], .agg [.lit (.int .u8 0), .lit (.int .u8 0)]]
def laid_tronage_code_takes {H : Type} : DataW H := .agg [.lit (.int .i64 0), .lit (.int .i64 0), .lit (.int .i64 0), .lit (.int .i64 0), .lit (.int .i64 1), .lit (.int .i64 2), .lit (.int .i64 2), .lit (.int .i64 2), .lit (.int .i64 2), .lit (.int .i64 2)]
/-- One of Go's own tables, pinned by name: the form's constant. -/
def laid_unicode_utf8_first : DataW Unit := Go.Pinned.utf8First

/-- 'tronagelaw22.EvalLocal': WHATEVER THE INPUT: true; the input reads as it did. -/
def evalLocalSpec : ChangeSpec := { name := "evalLocal", fn := fun _ => fun
  | [d1, d2, d3, d4, d5, d6, d7] => { results := [.lit (.bool true)], args := [d1, d2, d3, d4, d5, d6, d7] }
  | _ => none }
def evalLocalRow : OpenClaim := { program := "ytfnnapgpcndcjaagreatdoor", sum := "9f6596b15e8d1a5b5420fcb39b488dfba79df6a103612d33e88acdbebf77e8c3", func := "tronage/tronagelaw22.EvalLocal", spec := "evalLocal", inPlace := ["internal/bytealg.IndexByteString", "internal/bytealg.IndexString"], unfollowed := true, recurses := true, named := ["tronage/code.takes", "unicode/utf8.first", "unicode/utf8.acceptRanges", "internal/bytealg.MaxLen"], loops := true, apart := false, laid := [("unicode/utf8.acceptRanges", laid_unicode_utf8_acceptRanges), ("tronage/code.takes", laid_tronage_code_takes), ("unicode/utf8.first", laid_unicode_utf8_first)] }
def EvalLocalSaid : Prop := evalLocalRow.holds Tryz.pinned (OpenSpec.ofChange evalLocalSpec)

/-- ITS FALSE NEIGHBOUR: 'it returns false'. Refute it at one input. -/
def evalLocalWrong : ChangeSpec := { name := "evalLocal", fn := fun _ => fun
  | [d1, d2, d3, d4, d5, d6, d7] => { results := [.lit (.bool false)], args := [d1, d2, d3, d4, d5, d6, d7] }
  | _ => none }
def EvalLocalWrongFalsely : Prop := evalLocalRow.holds Tryz.pinned (OpenSpec.ofChange evalLocalWrong)

/-- 'tronagelaw22.EvalTrees': WHATEVER THE INPUT: true; the input reads as it did. -/
def evalTreesSpec : ChangeSpec := { name := "evalTrees", fn := fun _ => fun
  | [d1, d2, d3, d4, d5, d6, d7] => { results := [.lit (.bool true)], args := [d1, d2, d3, d4, d5, d6, d7] }
  | _ => none }
def evalTreesRow : OpenClaim := { program := "ytfnnapgpcndcjaagreatdoor", sum := "9f6596b15e8d1a5b5420fcb39b488dfba79df6a103612d33e88acdbebf77e8c3", func := "tronage/tronagelaw22.EvalTrees", spec := "evalTrees", inPlace := ["internal/bytealg.IndexByteString", "internal/bytealg.IndexString"], unfollowed := true, recurses := true, named := ["tronage/code.takes", "unicode/utf8.first", "unicode/utf8.acceptRanges", "internal/bytealg.MaxLen"], loops := true, apart := false, laid := [("unicode/utf8.acceptRanges", laid_unicode_utf8_acceptRanges), ("tronage/code.takes", laid_tronage_code_takes), ("unicode/utf8.first", laid_unicode_utf8_first)] }
def EvalTreesSaid : Prop := evalTreesRow.holds Tryz.pinned (OpenSpec.ofChange evalTreesSpec)

/-- ITS FALSE NEIGHBOUR: 'it returns false'. Refute it at one input. -/
def evalTreesWrong : ChangeSpec := { name := "evalTrees", fn := fun _ => fun
  | [d1, d2, d3, d4, d5, d6, d7] => { results := [.lit (.bool false)], args := [d1, d2, d3, d4, d5, d6, d7] }
  | _ => none }
def EvalTreesWrongFalsely : Prop := evalTreesRow.holds Tryz.pinned (OpenSpec.ofChange evalTreesWrong)

/-- 'tronagelaw22.EvalSteps': WHATEVER THE INPUT: true; the input reads as it did. -/
def evalStepsSpec : ChangeSpec := { name := "evalSteps", fn := fun _ => fun
  | [d1, d2, d3, d4, d5, d6] => { results := [.lit (.bool true)], args := [d1, d2, d3, d4, d5, d6] }
  | _ => none }
def evalStepsRow : OpenClaim := { program := "ytfnnapgpcndcjaagreatdoor", sum := "9f6596b15e8d1a5b5420fcb39b488dfba79df6a103612d33e88acdbebf77e8c3", func := "tronage/tronagelaw22.EvalSteps", spec := "evalSteps", inPlace := ["internal/bytealg.IndexByteString", "internal/bytealg.IndexString"], unfollowed := true, recurses := true, named := ["tronage/code.takes", "unicode/utf8.first", "unicode/utf8.acceptRanges", "internal/bytealg.MaxLen"], loops := true, apart := false, laid := [("unicode/utf8.acceptRanges", laid_unicode_utf8_acceptRanges), ("tronage/code.takes", laid_tronage_code_takes), ("unicode/utf8.first", laid_unicode_utf8_first)] }
def EvalStepsSaid : Prop := evalStepsRow.holds Tryz.pinned (OpenSpec.ofChange evalStepsSpec)

/-- ITS FALSE NEIGHBOUR: 'it returns false'. Refute it at one input. -/
def evalStepsWrong : ChangeSpec := { name := "evalSteps", fn := fun _ => fun
  | [d1, d2, d3, d4, d5, d6] => { results := [.lit (.bool false)], args := [d1, d2, d3, d4, d5, d6] }
  | _ => none }
def EvalStepsWrongFalsely : Prop := evalStepsRow.holds Tryz.pinned (OpenSpec.ofChange evalStepsWrong)

/- THE SECOND FORM. 'bulk': how many values and letters a reading holds, each counted each time it is reached (what is shared counts as often as it is met; a slice's spare places count too). A statement '..UptoSaid' is the law's where the arguments, and the package variables that the reading takes, are together of bulk at most 1048576: NARROWER than '..Said'. Prove '..Said' where nothing that the law and all that it calls make is longer than what came in: it says more and counts as full. Else prove '..UptoSaid'. A law counts once. -/
mutual
def uptoBulk {H : Type} : DataW H → Nat
  | .lit (.string bytes) => bytes.length + 1
  | .lit _ => 1
  | .nil => 1
  | .ptr d => uptoBulk d + 1
  | .slice elems spare => uptoBulkAll elems + uptoBulkAll spare + 1
  | .agg parts => uptoBulkAll parts + 1
  | .iface _ d => uptoBulk d + 1
  | .map entries => uptoBulkEntries entries + 1
  | .held _ => 1
def uptoBulkAll {H : Type} : List (DataW H) → Nat
  | [] => 0
  | d :: r => uptoBulk d + uptoBulkAll r
def uptoBulkEntries {H : Type} : List (Lit × DataW H) → Nat
  | [] => 0
  | x :: r => uptoBulkEntry x + uptoBulkEntries r
def uptoBulkEntry {H : Type} : Lit × DataW H → Nat
  | (.string bytes, d) => bytes.length + uptoBulk d + 1
  | (_, d) => uptoBulk d + 1
 end
def uptoSmall : (H : Type) → List (DataW H) → Bool := fun _ ds => decide (uptoBulkAll ds ≤ 1048576)
def OpenSpec.upto (s : _root_.Go.ChangeSpec) : _root_.Go.OpenSpec := { _root_.Go.OpenSpec.ofChange s with cond := some uptoSmall }

/-- 'tronagelaw22.EvalLocal', WHERE WHAT IT READS IS OF BULK AT MOST 1048576: true; the input reads as it did. -/
def evalLocalUptoRow : OpenClaim := { program := "ytfnnapgpcndcjaagreatdoor", sum := "9f6596b15e8d1a5b5420fcb39b488dfba79df6a103612d33e88acdbebf77e8c3", func := "tronage/tronagelaw22.EvalLocal", spec := "evalLocal", inPlace := ["internal/bytealg.IndexByteString", "internal/bytealg.IndexString"], unfollowed := true, recurses := true, named := ["tronage/code.takes", "unicode/utf8.first", "unicode/utf8.acceptRanges", "internal/bytealg.MaxLen"], loops := true, apart := false, laid := [("unicode/utf8.acceptRanges", laid_unicode_utf8_acceptRanges), ("tronage/code.takes", laid_tronage_code_takes), ("unicode/utf8.first", laid_unicode_utf8_first)], narrowed := true }
def EvalLocalUptoSaid : Prop := evalLocalUptoRow.holds Tryz.pinned (OpenSpec.upto evalLocalSpec)

/-- 'tronagelaw22.EvalTrees', WHERE WHAT IT READS IS OF BULK AT MOST 1048576: true; the input reads as it did. -/
def evalTreesUptoRow : OpenClaim := { program := "ytfnnapgpcndcjaagreatdoor", sum := "9f6596b15e8d1a5b5420fcb39b488dfba79df6a103612d33e88acdbebf77e8c3", func := "tronage/tronagelaw22.EvalTrees", spec := "evalTrees", inPlace := ["internal/bytealg.IndexByteString", "internal/bytealg.IndexString"], unfollowed := true, recurses := true, named := ["tronage/code.takes", "unicode/utf8.first", "unicode/utf8.acceptRanges", "internal/bytealg.MaxLen"], loops := true, apart := false, laid := [("unicode/utf8.acceptRanges", laid_unicode_utf8_acceptRanges), ("tronage/code.takes", laid_tronage_code_takes), ("unicode/utf8.first", laid_unicode_utf8_first)], narrowed := true }
def EvalTreesUptoSaid : Prop := evalTreesUptoRow.holds Tryz.pinned (OpenSpec.upto evalTreesSpec)

/-- 'tronagelaw22.EvalSteps', WHERE WHAT IT READS IS OF BULK AT MOST 1048576: true; the input reads as it did. -/
def evalStepsUptoRow : OpenClaim := { program := "ytfnnapgpcndcjaagreatdoor", sum := "9f6596b15e8d1a5b5420fcb39b488dfba79df6a103612d33e88acdbebf77e8c3", func := "tronage/tronagelaw22.EvalSteps", spec := "evalSteps", inPlace := ["internal/bytealg.IndexByteString", "internal/bytealg.IndexString"], unfollowed := true, recurses := true, named := ["tronage/code.takes", "unicode/utf8.first", "unicode/utf8.acceptRanges", "internal/bytealg.MaxLen"], loops := true, apart := false, laid := [("unicode/utf8.acceptRanges", laid_unicode_utf8_acceptRanges), ("tronage/code.takes", laid_tronage_code_takes), ("unicode/utf8.first", laid_unicode_utf8_first)], narrowed := true }
def EvalStepsUptoSaid : Prop := evalStepsUptoRow.holds Tryz.pinned (OpenSpec.upto evalStepsSpec)

end Rows
end Go.Proofs.YtfnnapgpcndcjaaGreatDoor
