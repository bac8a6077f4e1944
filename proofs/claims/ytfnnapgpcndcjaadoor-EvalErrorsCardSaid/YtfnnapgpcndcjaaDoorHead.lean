/-
  A part of the proof of a law: see the text that states it.
-/
import Derived.Test.YtfnnapgpcndcjaaDoorAm3
import Derived.Test.YtfnnapgpcndcjaaDoorOrc
import Derived.KernelRfl
set_option linter.all false
namespace Go.Am.V
open Go
noncomputable abbrev PP := Go.Proofs.Tryd.prog
/-- From some depth on a call comes to this. -/
def E (f : FuncId) (args : List AV) (h : Heap) (a : AV) (h' : Heap) : Prop := Ev PP orc f args h a h'
noncomputable def sgTab : Nat → List Alt
  | 3 => [((.tv [] .bool (zero .bool)), [])]
  | 4 => [((.tv [] .bool (zero .bool)), [])]
  | 5 => [((.tv [] .bool (zero .bool)), [])]
  | 6 => [((.tv [] .bool (zero .bool)), [])]
  | 7 => [((.tv [] .bool (zero .bool)), [])]
  | 8 => [((.tv [] (.pair (.int .i64) (.pair (.int .i64) .unit)) (zero (.pair (.int .i64) (.pair (.int .i64) .unit)))), [])]
  | 9 => [((.tv [] (.pair (.int .i64) (.pair (.int .i64) .unit)) (zero (.pair (.int .i64) (.pair (.int .i64) .unit)))), [])]
  | 10 => [((.tv [] (.int .i64) (zero (.int .i64))), [])]
  | 11 => [((.tv [] (.pair (.int .i64) (.pair (.int .i64) .unit)) (zero (.pair (.int .i64) (.pair (.int .i64) .unit)))), [])]
  | 12 => [((.tv [[]] (.slice (.pair (.int .i64) (.pair (.int .i64) .unit))) (zero (.slice (.pair (.int .i64) (.pair (.int .i64) .unit))))), [])]
  | 13 => [((.tv [] (.pair (.int .i64) (.pair (.int .i64) .unit)) (zero (.pair (.int .i64) (.pair (.int .i64) .unit)))), [])]
  | 14 => [((AV.tup [(.tv [] (.int .i64) (zero (.int .i64))), (.tv [] (.int .i64) (zero (.int .i64)))]), [])]
  | 15 => [((AV.tup [(.tv [] .expr (zero .expr)), (.tv [] (.int .i64) (zero (.int .i64))), (.tv [] (.int .i64) (zero (.int .i64)))]), [])]
  | 16 => [((.tv [] (.pair (.int .i64) (.pair (.int .i64) .unit)) (zero (.pair (.int .i64) (.pair (.int .i64) .unit)))), [])]
  | 17 => [((.tv [] .str (zero .str)), [])]
  | 18 => [((.tv [] (.pair (.int .i64) (.pair (.int .i64) .unit)) (zero (.pair (.int .i64) (.pair (.int .i64) .unit)))), [])]
  | 19 => [((AV.tup [(.tv [] (.int .i64) (zero (.int .i64))), (.tv [] (.int .i64) (zero (.int .i64)))]), [])]
  | 20 => [((.tv [] (.pair (.int .i64) (.pair (.int .i64) .unit)) (zero (.pair (.int .i64) (.pair (.int .i64) .unit)))), [])]
  | 21 => [((.tv [] (.mref (.int .i64) .fnc) (some (1, 0))), [((1, 0), (Ob.mk (Dat.mk (.mp (.int .i64) .fnc) [((5 : Int), (some 38 : Option Nat)), (6, some 39), (7, some 40), (8, some 41), (9, some 42)]) []))])]
  | 22 => [((AV.tup [(.tv [] (.pair (.int .i64) (.pair (.int .i64) .unit)) (zero (.pair (.int .i64) (.pair (.int .i64) .unit)))), (.tv [] .bool (zero .bool))]), [((0, 0), (Ob.mk (Dat.mk (.arr 1 0 (.pair (.int .i64) (.pair (.int .i64) .unit))) []) []))])]
  | 23 => [((.tv [] .bool (zero .bool)), [])]
  | 24 => [((.tv [] (.pair (.int .i64) (.pair (.int .i64) .unit)) (zero (.pair (.int .i64) (.pair (.int .i64) .unit)))), [])]
  | 25 => [((.tv [] (.pair (.int .i64) (.pair (.int .i64) .unit)) (zero (.pair (.int .i64) (.pair (.int .i64) .unit)))), [])]
  | 26 => [((.tv [] (.int .i64) (zero (.int .i64))), [])]
  | 30 => [((.tv [] .str (zero .str)), [])]
  | 31 => [((.tv [] .str (zero .str)), [])]
  | 32 => [((AV.tup [(.tv [] (.arr 0 256 .bool) (zero (.arr 0 256 .bool))), (.tv [] .bool (zero .bool))]), [])]
  | 33 => [((.tv [] .str (zero .str)), [((0, 0), (Ob.mk (Dat.mk (.arr 0 256 .bool) (zero (.arr 0 256 .bool))) []))])]
  | 34 => [((.tv [] .str (zero .str)), [((0, 0), (Ob.mk (Dat.mk (.arr 0 256 .bool) (zero (.arr 0 256 .bool))) []))])]
  | 37 => [((.tv [] .bool (zero .bool)), [])]
  | 38 => [((.tv [] (.pair (.int .i64) (.pair (.int .i64) .unit)) (zero (.pair (.int .i64) (.pair (.int .i64) .unit)))), [])]
  | 39 => [((.tv [] (.pair (.int .i64) (.pair (.int .i64) .unit)) (zero (.pair (.int .i64) (.pair (.int .i64) .unit)))), [])]
  | 40 => [((.tv [] (.pair (.int .i64) (.pair (.int .i64) .unit)) (zero (.pair (.int .i64) (.pair (.int .i64) .unit)))), [])]
  | 41 => [((.tv [] (.pair (.int .i64) (.pair (.int .i64) .unit)) (zero (.pair (.int .i64) (.pair (.int .i64) .unit)))), [])]
  | 42 => [((.tv [] (.pair (.int .i64) (.pair (.int .i64) .unit)) (zero (.pair (.int .i64) (.pair (.int .i64) .unit)))), [])]
  | 43 => [((.tv [] .bool (zero .bool)), [])]
  | 44 => [((.tv [] (.pair (.int .i64) (.pair (.int .i64) .unit)) (zero (.pair (.int .i64) (.pair (.int .i64) .unit)))), [])]
  | 45 => [((.tv [] (.pair (.int .i64) (.pair (.int .i64) .unit)) (zero (.pair (.int .i64) (.pair (.int .i64) .unit)))), [])]
  | 47 => [((.tv [] .bool (zero .bool)), [((0, 0), (Ob.mk (Dat.mk (.arr 0 256 .bool) (zero (.arr 0 256 .bool))) []))])]
  | 51 => [((.tv [] .bool (zero .bool)), [])]
  | 52 => [((.tv [] .bool (zero .bool)), [])]
  | _ => []
noncomputable def fzTab : Nat → List Key
  | 4 => [(4, 0)]
  | 5 => [(9, 0)]
  | 6 => [(4, 0), (5, 0), (10, 0), (11, 0)]
  | 7 => [(2, 0), (5, 0), (9, 0), (10, 0), (11, 0)]
  | 8 => [(3, 0)]
  | 10 => [(4, 0)]
  | 11 => [(7, 0), (41, 0)]
  | 12 => [(2, 0)]
  | 13 => [(4, 0), (7, 0)]
  | 15 => [(3, 0), (7, 0), (14, 0)]
  | 16 => [(3, 0)]
  | 17 => [(6, 0)]
  | 18 => [(3, 0)]
  | 20 => [(3, 0)]
  | 23 => [(2, 0)]
  | 24 => [(3, 0)]
  | 25 => [(4, 0), (7, 0), (8, 0), (9, 0), (10, 0)]
  | 28 => [(3, 0)]
  | 37 => [(3, 0)]
  | 38 => [(5, 0)]
  | 39 => [(5, 0)]
  | 40 => [(5, 0)]
  | 41 => [(5, 0)]
  | 42 => [(5, 0)]
  | 43 => [(2, 0)]
  | 44 => [(3, 0)]
  | 45 => [(5, 0), (6, 0), (7, 0)]
  | 46 => [(3, 0)]
  | 53 => [(3, 0), (6, 0), (7, 0)]
  | _ => []
noncomputable def sg : Sig := ⟨sgTab, fzTab⟩
theorem ev_of {f : FuncId} {args : List AV} {h : Heap} {a : AV} {h' : Heap} (e : EvF PP orc f args h fun a' h'' => a' = a ∧ h'' = h') : E f args h a h' := by
  obtain ⟨a', h'', e, rfl, rfl⟩ := e
  exact e
end Go.Am.V
