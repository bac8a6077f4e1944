/-
  A part of the proof of a law: see the text that states it.
-/
import Derived.Test.YtcggbplapaeedaaDoorT
set_option linter.all false
namespace Go.Am.R
open Go Go.Am.Pr Go.Am.R.L
set_option maxRecDepth 100000
theorem sep_32 (x : List Int) : Sep (32 :: x) := fun c r e => by cases e; decide
end Go.Am.R
