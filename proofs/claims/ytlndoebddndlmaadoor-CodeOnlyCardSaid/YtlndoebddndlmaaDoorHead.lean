/-
  A part of the proof of a law: see the text that states it.
-/
import Derived.Test.YtlndoebddndlmaaDoorAm3
import Derived.Test.YtlndoebddndlmaaDoorOrc
import Derived.KernelRfl
set_option linter.all false
namespace Go.Am.R
open Go
noncomputable abbrev PP := Go.Proofs.Tryd.prog
/-- From some depth on a call comes to this. -/
def E (f : FuncId) (args : List AV) (h : Heap) (a : AV) (h' : Heap) : Prop := Ev PP orc f args h a h'
noncomputable def sgTab : Nat → List Alt
  | 3 => [((.tv [] .bool (zero .bool)), [])]
  | 4 => [((.tv [] .bool (zero .bool)), [])]
  | 5 => [((.tv [] .bool (zero .bool)), [])]
  | 6 => [((.tv [] .bool (zero .bool)), [])]
  | 7 => [((.tv [] .bool (zero .bool)), [])]
  | 8 => [((.tv [] .bool (zero .bool)), [])]
  | 9 => [((.tv [] .bool (zero .bool)), [])]
  | 10 => [((.tv [] (.int .i64) (zero (.int .i64))), [])]
  | 11 => [((.tv [] .bool (zero .bool)), [])]
  | 12 => [((.tv [[]] (.slice (.pair (.int .i64) (.pair (.int .i64) .unit))) (zero (.slice (.pair (.int .i64) (.pair (.int .i64) .unit))))), [])]
  | 13 => [((.tv [[]] (.slice (.pair (.int .i64) (.pair (.int .i64) .unit))) (zero (.slice (.pair (.int .i64) (.pair (.int .i64) .unit))))), [])]
  | 14 => [((AV.tup [(.tv [] (.int .i64) (zero (.int .i64))), (.tv [] (.int .i64) (zero (.int .i64)))]), [])]
  | 15 => [((.tv [] .bool (zero .bool)), [])]
  | 16 => [((AV.tup [(.tv [] .expr (zero .expr)), (.tv [] .bool (zero .bool))]), [])]
  | 17 => [((.tv [] (.int .i64) (zero (.int .i64))), [])]
  | 18 => [((.tv [] .bool (zero .bool)), [])]
  | 19 => [((.tv [] (.int .i64) (zero (.int .i64))), [])]
  | 20 => [((.tv [] (.int .i64) (zero (.int .i64))), [])]
  | 21 => [((AV.tup [(.tv [] (.int .i64) (zero (.int .i64))), (.tv [] (.int .i64) (zero (.int .i64)))]), [])]
  | 22 => [((AV.tup [(.tv [] (.slice (.pair (.int .i64) (.pair (.int .i64) .unit))) (zero (.slice (.pair (.int .i64) (.pair (.int .i64) .unit))))), (.tv [] (.int .i64) (zero (.int .i64)))]), [])]
  | 23 => [((AV.tup [(.tv [] (.slice (.pair (.int .i64) (.pair (.int .i64) .unit))) (zero (.slice (.pair (.int .i64) (.pair (.int .i64) .unit))))), (.tv [] (.int .i64) (zero (.int .i64)))]), [])]
  | 24 => [((.tv [] (.int .i64) (zero (.int .i64))), [])]
  | 25 => [((.tv [[]] (.slice (.int .u8)) (zero (.slice (.int .u8)))), [])]
  | 26 => [((.tv [[]] (.slice (.int .u8)) (zero (.slice (.int .u8)))), [])]
  | 27 => [((AV.tup [(.tv [] .expr (zero .expr)), (.tv [] (.int .i64) (zero (.int .i64))), (.tv [] (.int .i64) (zero (.int .i64)))]), [])]
  | 28 => [((.tv [] .bool (zero .bool)), [])]
  | 29 => [((.tv [] .bool (zero .bool)), [])]
  | 30 => [((.tv [] .bool (zero .bool)), [])]
  | 31 => [((.tv [] .bool (zero .bool)), [])]
  | 32 => [((.tv [[]] (.slice .expr) (zero (.slice .expr))), [((0, 0), (Ob.mk (Dat.mk (.arr true 0 .expr) []) []))])]
  | 33 => [((.tv [] (.int .i64) (zero (.int .i64))), [])]
  | 34 => [((.tv [] .bool (zero .bool)), [])]
  | 35 => [((.tv [] (.int .u64) (zero (.int .u64))), [])]
  | 36 => [((.tv [] (.sref (.int .u8)) (some ((1, 0), 0, 0, 0))), [((1, 0), (Ob.mk (Dat.mk (.arr true 0 (.int .u8)) []) []))])]
  | 37 => [((.tv [] (.int .i64) (zero (.int .i64))), [((0, 0), (Ob.mk (Dat.mk (.pair .str (.pair (.int .i64) (.pair (.int .i64) (.pair (.int .i64) (.pair (.int .i64) .unit))))) (zero (.pair .str (.pair (.int .i64) (.pair (.int .i64) (.pair (.int .i64) (.pair (.int .i64) .unit))))))) []))])]
  | 38 => [((.tv [] .expr (zero .expr)), [((0, 0), (Ob.mk (Dat.mk (.pair .str (.pair (.int .i64) (.pair (.int .i64) (.pair (.int .i64) (.pair (.int .i64) .unit))))) (zero (.pair .str (.pair (.int .i64) (.pair (.int .i64) (.pair (.int .i64) (.pair (.int .i64) .unit))))))) []))])]
  | 39 => [((AV.tup []), [((0, 0), (Ob.mk (Dat.mk (.pair .str (.pair (.int .i64) (.pair (.int .i64) (.pair (.int .i64) (.pair (.int .i64) .unit))))) (zero (.pair .str (.pair (.int .i64) (.pair (.int .i64) (.pair (.int .i64) (.pair (.int .i64) .unit))))))) []))])]
  | 40 => [((.tv [] .bool (zero .bool)), [])]
  | 41 => [((.tv [] .expr (zero .expr)), [((0, 0), (Ob.mk (Dat.mk (.pair .str (.pair (.int .i64) (.pair (.int .i64) (.pair (.int .i64) (.pair (.int .i64) .unit))))) (zero (.pair .str (.pair (.int .i64) (.pair (.int .i64) (.pair (.int .i64) (.pair (.int .i64) .unit))))))) []))])]
  | 42 => [((.tv [] (.int .i64) (zero (.int .i64))), [])]
  | 43 => [((.tv [] .bool (zero .bool)), [])]
  | 44 => [((.tv [] .bool (zero .bool)), [])]
  | 45 => [((.tv [] .expr (zero .expr)), [((0, 0), (Ob.mk (Dat.mk (.pair .str (.pair (.int .i64) (.pair (.int .i64) (.pair (.int .i64) (.pair (.int .i64) .unit))))) (zero (.pair .str (.pair (.int .i64) (.pair (.int .i64) (.pair (.int .i64) (.pair (.int .i64) .unit))))))) []))])]
  | 46 => [((.tv [] (.int .i64) (zero (.int .i64))), [])]
  | 47 => [((.tv [] (.int .i64) (zero (.int .i64))), [((0, 0), (Ob.mk (Dat.mk (.pair .str (.pair (.int .i64) (.pair (.int .i64) (.pair (.int .i64) (.pair (.int .i64) .unit))))) (zero (.pair .str (.pair (.int .i64) (.pair (.int .i64) (.pair (.int .i64) (.pair (.int .i64) .unit))))))) []))])]
  | _ => []
noncomputable def fzTab : Nat → List Key
  | 3 => [(2, 0)]
  | 5 => [(3, 0), (13, 0)]
  | 6 => [(9, 0)]
  | 9 => [(2, 0)]
  | 10 => [(4, 0)]
  | 12 => [(2, 0)]
  | 13 => [(2, 0)]
  | 15 => [(2, 0)]
  | 17 => [(2, 0)]
  | 18 => [(3, 0), (4, 0)]
  | 19 => [(2, 0)]
  | 27 => [(3, 0), (7, 0), (14, 0)]
  | 28 => [(2, 0)]
  | 29 => [(3, 0)]
  | 30 => [(2, 0)]
  | 38 => [(3, 0)]
  | 40 => [(2, 0)]
  | 41 => [(3, 0)]
  | 44 => [(2, 0)]
  | 45 => [(3, 0), (6, 0), (7, 0)]
  | _ => []
noncomputable def sg : Sig := ⟨sgTab, fzTab⟩
theorem ev_of {f : FuncId} {args : List AV} {h : Heap} {a : AV} {h' : Heap} (e : EvF PP orc f args h fun a' h'' => a' = a ∧ h'' = h') : E f args h a h' := by
  obtain ⟨a', h'', e, rfl, rfl⟩ := e
  exact e
end Go.Am.R
