/-
  A part of the proof of a law: see the text that states it.
-/
import Derived.Test.YtggaihkjnomflaaGreatDoorH
set_option linter.all false
namespace Go.Am.N
open Go Go.Am.Pr Go.Am.N.L
set_option maxRecDepth 100000
end Go.Am.N
