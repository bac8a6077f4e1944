/-
  A part of the proof of a law: see the text that states it.
-/
import Derived.Test.YtcggbplapaeedaaDoorLM
set_option linter.all false
namespace Go.Am.R.L
open Go Go.Am.Pr
set_option maxRecDepth 100000
end Go.Am.R.L
