/-
  A part of the proof of a law: see the text that states it.
-/
import Derived.Test.YtggaihkjnomflaaGreatDoorHead
set_option linter.all false
namespace Go.Am.N
open Go
set_option maxRecDepth 100000
set_option maxHeartbeats 4000000
end Go.Am.N
