/-
  A part of the proof of a law: see the text that states it.
-/
import Derived.Test.YtpbabncglokikaaDoorAm3
import Derived.Test.YtpbabncglokikaaDoorOrc
import Derived.KernelRfl
set_option linter.all false
namespace Go.Am.L
open Go
noncomputable abbrev PP := Go.Proofs.Tryd.prog
/-- From some depth on a call comes to this. -/
def E (f : FuncId) (args : List AV) (h : Heap) (a : AV) (h' : Heap) : Prop := Ev PP orc f args h a h'
noncomputable def sgTab : Nat → List Alt
  | 3 => [((.tv [] .bool (zero .bool)), [])]
  | 4 => [((.tv [] .bool (zero .bool)), [])]
  | 5 => [((.tv [] .bool (zero .bool)), [])]
  | 6 => [((.tv [] .bool (zero .bool)), [])]
  | 7 => [((.tv [] .bool (zero .bool)), [])]
  | 8 => [((.tv [] .bool (zero .bool)), [])]
  | 9 => [((.tv [] .bool (zero .bool)), [])]
  | 10 => [((.tv [] .bool (zero .bool)), [])]
  | 11 => [((AV.tup [(.tv [] (.slice (.pair (.int .i64) (.pair .str (.pair (.pair (.int .i64) (.pair (.int .i64) .unit)) .unit)))) (zero (.slice (.pair (.int .i64) (.pair .str (.pair (.pair (.int .i64) (.pair (.int .i64) .unit)) .unit)))))), (.tv [] (.pair (.int .i64) (.pair (.pair (.int .i64) (.pair (.int .i64) .unit)) .unit)) (zero (.pair (.int .i64) (.pair (.pair (.int .i64) (.pair (.int .i64) .unit)) .unit))))]), [])]
  | 12 => [((AV.tup [(.tv [] (.slice (.pair (.int .i64) (.pair .str (.pair (.pair (.int .i64) (.pair (.int .i64) .unit)) .unit)))) (zero (.slice (.pair (.int .i64) (.pair .str (.pair (.pair (.int .i64) (.pair (.int .i64) .unit)) .unit)))))), (.tv [] (.pair (.int .i64) (.pair (.pair (.int .i64) (.pair (.int .i64) .unit)) .unit)) (zero (.pair (.int .i64) (.pair (.pair (.int .i64) (.pair (.int .i64) .unit)) .unit))))]), [])]
  | 13 => [((.tv [] .bool (zero .bool)), [])]
  | 14 => [((.tv [] .bool (zero .bool)), [])]
  | 15 => [((.tv [] .str (zero .str)), [])]
  | 16 => [((.tv [] (.pair (.int .i64) (.pair (.int .i64) .unit)) (zero (.pair (.int .i64) (.pair (.int .i64) .unit)))), [])]
  | 17 => [((.tv [] .bool (zero .bool)), [])]
  | 18 => [((.tv [] (.pair (.int .i64) (.pair (.int .i64) .unit)) (zero (.pair (.int .i64) (.pair (.int .i64) .unit)))), [])]
  | 19 => [((.tv [] .bool (zero .bool)), [])]
  | 20 => [((.tv [] .bool (zero .bool)), [])]
  | 21 => [((.tv [[]] (.slice .str) (zero (.slice .str))), [])]
  | 22 => [((.tv [[]] (.slice .str) (zero (.slice .str))), [])]
  | 23 => [((AV.tup [(.tv [] (.int .i64) (zero (.int .i64))), (.tv [] .str (zero .str)), (.tv [] (.int .i64) (zero (.int .i64))), (.tv [] .bool (zero .bool)), (.op (1, 0) [])]), [((1, 0), (Ob.mk (Dat.mk (.pair (.int .i64) (.pair (.int .i64) .unit)) (zero (.pair (.int .i64) (.pair (.int .i64) .unit)))) []))]), ((AV.tup [(.tv [] (.int .i64) (zero (.int .i64))), (.tv [] .str (zero .str)), (.tv [] (.int .i64) (zero (.int .i64))), (.tv [] .bool (zero .bool)), (.tv [] .ref (Option.none ))]), [])]
  | 24 => [((.tv [] (.pair (.int .i64) (.pair .str (.pair (.int .i64) (.pair (.int .i64) (.pair (.int .i64) .unit))))) (zero (.pair (.int .i64) (.pair .str (.pair (.int .i64) (.pair (.int .i64) (.pair (.int .i64) .unit))))))), [])]
  | 25 => [((.tv [] (.int .i64) (zero (.int .i64))), [])]
  | 26 => [((.tv [] (.int .i64) (zero (.int .i64))), [])]
  | 27 => [((.tv [] .bool (zero .bool)), [])]
  | 28 => [((.tv [] (.int .i64) (zero (.int .i64))), [])]
  | 29 => [((.tv [] .bool (zero .bool)), [])]
  | 30 => [((.tv [] .bool (zero .bool)), [])]
  | 31 => [((.tv [] .bool (zero .bool)), [])]
  | 32 => [((.tv [[]] (.slice .str) (zero (.slice .str))), [])]
  | 33 => [((.tv [] (.int .i64) (zero (.int .i64))), [])]
  | 34 => [((AV.tup [(.tv [] .str (zero .str)), (.tv [] (.int .i64) (zero (.int .i64))), (.op (1, 0) [])]), [((1, 0), (Ob.mk (Dat.mk (.pair (.int .i64) (.pair (.int .i64) .unit)) (zero (.pair (.int .i64) (.pair (.int .i64) .unit)))) []))]), ((AV.tup [(.tv [] .str (zero .str)), (.tv [] (.int .i64) (zero (.int .i64))), (.tv [] .ref (Option.none ))]), [])]
  | 35 => [((AV.tup [(.tv [] .str (zero .str)), (.tv [] (.int .i64) (zero (.int .i64))), (.op (1, 0) [])]), [((1, 0), (Ob.mk (Dat.mk (.pair (.int .i64) (.pair (.int .i64) .unit)) (zero (.pair (.int .i64) (.pair (.int .i64) .unit)))) []))]), ((AV.tup [(.tv [] .str (zero .str)), (.tv [] (.int .i64) (zero (.int .i64))), (.tv [] .ref (Option.none ))]), [])]
  | 36 => [((AV.tup [(.tv [] .str (zero .str)), (.tv [] (.int .i64) (zero (.int .i64))), (.op (1, 0) [])]), [((1, 0), (Ob.mk (Dat.mk (.pair (.int .i64) (.pair (.int .i64) .unit)) (zero (.pair (.int .i64) (.pair (.int .i64) .unit)))) []))]), ((AV.tup [(.tv [] .str (zero .str)), (.tv [] (.int .i64) (zero (.int .i64))), (.tv [] .ref (Option.none ))]), [])]
  | 37 => [((AV.tup [(.tv [] .str (zero .str)), (.tv [] (.int .i64) (zero (.int .i64))), (.op (1, 0) [])]), [((1, 0), (Ob.mk (Dat.mk (.pair (.int .i64) (.pair (.int .i64) .unit)) (zero (.pair (.int .i64) (.pair (.int .i64) .unit)))) []))]), ((AV.tup [(.tv [] .str (zero .str)), (.tv [] (.int .i64) (zero (.int .i64))), (.tv [] .ref (Option.none ))]), [])]
  | 38 => [((.tv [] (.int .i64) (zero (.int .i64))), [])]
  | 39 => [((.tv [] (.pair (.int .i64) (.pair .str (.pair (.int .i64) (.pair (.int .i64) (.pair (.int .i64) .unit))))) (zero (.pair (.int .i64) (.pair .str (.pair (.int .i64) (.pair (.int .i64) (.pair (.int .i64) .unit))))))), [])]
  | 40 => [((.tv [] (.pair (.int .i64) (.pair .str (.pair (.int .i64) (.pair (.int .i64) (.pair (.int .i64) .unit))))) (zero (.pair (.int .i64) (.pair .str (.pair (.int .i64) (.pair (.int .i64) (.pair (.int .i64) .unit))))))), [])]
  | 41 => [((.tv [] (.pair (.int .i64) (.pair .str (.pair (.int .i64) (.pair (.int .i64) (.pair (.int .i64) .unit))))) (zero (.pair (.int .i64) (.pair .str (.pair (.int .i64) (.pair (.int .i64) (.pair (.int .i64) .unit))))))), [])]
  | 42 => [((.tv [] (.pair (.int .i64) (.pair .str (.pair (.int .i64) (.pair (.int .i64) (.pair (.int .i64) .unit))))) (zero (.pair (.int .i64) (.pair .str (.pair (.int .i64) (.pair (.int .i64) (.pair (.int .i64) .unit))))))), [])]
  | 43 => [((.tv [] (.pair (.int .i64) (.pair .str (.pair (.int .i64) (.pair (.int .i64) (.pair (.int .i64) .unit))))) (zero (.pair (.int .i64) (.pair .str (.pair (.int .i64) (.pair (.int .i64) (.pair (.int .i64) .unit))))))), [])]
  | 46 => [((.tv [] (.int .i64) (zero (.int .i64))), [])]
  | 47 => [((.tv [] (.int .i64) (zero (.int .i64))), [])]
  | 48 => [((.tv [] (.int .i64) (zero (.int .i64))), [])]
  | 49 => [((.tv [] .bool (zero .bool)), [])]
  | 50 => [((.tv [] .bool (zero .bool)), [])]
  | 51 => [((AV.tup [(.tv [] (.int .u8) (zero (.int .u8))), (.op (1, 0) [])]), [((1, 0), (Ob.mk (Dat.mk (.pair (.int .i64) (.pair (.int .i64) .unit)) (zero (.pair (.int .i64) (.pair (.int .i64) .unit)))) []))]), ((AV.tup [(.tv [] (.int .u8) (zero (.int .u8))), (.tv [] .ref (Option.none ))]), [])]
  | 52 => [((.tv [] .str (zero .str)), [])]
  | 53 => [((AV.tup [(.tv [] (.int .u8) (zero (.int .u8))), (.tv [] (.int .i64) (zero (.int .i64))), (.op (1, 0) [])]), [((1, 0), (Ob.mk (Dat.mk (.pair (.int .i64) (.pair (.int .i64) .unit)) (zero (.pair (.int .i64) (.pair (.int .i64) .unit)))) []))]), ((AV.tup [(.tv [] (.int .u8) (zero (.int .u8))), (.tv [] (.int .i64) (zero (.int .i64))), (.tv [] .ref (Option.none ))]), [])]
  | 54 => [((AV.tup [(.tv [] (.int .u8) (zero (.int .u8))), (.tv [] .bool (zero .bool))]), [])]
  | 55 => [((.tv [] (.int .i64) (zero (.int .i64))), [])]
  | 57 => [((.tv [] (.int .i64) (zero (.int .i64))), [])]
  | 59 => [((.tv [] (.int .i64) (zero (.int .i64))), [])]
  | 60 => [((.tv [] (.int .i64) (zero (.int .i64))), [])]
  | 61 => [((AV.tup [(.tv [] (.int .u32) (zero (.int .u32))), (.tv [] (.int .u32) (zero (.int .u32)))]), [])]
  | _ => []
noncomputable def fzTab : Nat → List Key
  | 3 => [(6, 0), (8, 0)]
  | 4 => [(6, 0)]
  | 5 => [(13, 0), (15, 0)]
  | 6 => [(8, 0), (9, 0)]
  | 7 => [(10, 0)]
  | 8 => [(18, 0)]
  | 9 => [(7, 0)]
  | 10 => [(3, 0), (5, 0), (7, 0)]
  | 14 => [(4, 0)]
  | 16 => [(5, 0)]
  | 18 => [(5, 0)]
  | 23 => [(59, 0), (134, 0)]
  | 24 => [(5, 0)]
  | 34 => [(40, 0)]
  | 35 => [(74, 0)]
  | 36 => [(22, 0)]
  | 37 => [(52, 0)]
  | 39 => [(5, 0)]
  | 51 => [(41, 0)]
  | 52 => [(2, 0)]
  | _ => []
noncomputable def sg : Sig := ⟨sgTab, fzTab⟩
theorem ev_of {f : FuncId} {args : List AV} {h : Heap} {a : AV} {h' : Heap} (e : EvF PP orc f args h fun a' h'' => a' = a ∧ h'' = h') : E f args h a h' := by
  obtain ⟨a', h'', e, rfl, rfl⟩ := e
  exact e
end Go.Am.L
