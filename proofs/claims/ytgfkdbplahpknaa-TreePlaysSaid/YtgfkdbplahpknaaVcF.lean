/-
  A part of the proof of a law: see the text that states it.
-/
import Derived.Test.YtgfkdbplahpknaaHead
set_option linter.all false
namespace Go.Am.T
open Go
set_option maxRecDepth 100000
set_option maxHeartbeats 4000000
theorem vc26 (x0 : Int) (Q : AV → Heap → Prop) (h :
((((decide (x0 < 0)) = true) →
 (Q (.tv [] (.int .i64) (0 : Int)) [])) ∧
 (((decide (x0 < 0)) = false) →
 ((((decide (1099511627776 < x0)) = true) →
 (Q (.tv [] (.int .i64) (1099511627776 : Int)) [])) ∧
 (((decide (1099511627776 < x0)) = false) →
 (Q (.tv [] (.int .i64) x0) [])))))) : EvF PP orc 26 [.tv [] (.int .i64) x0] [] Q := vcF_ok (sg := sg) (Eq.mp (by kernel_rfl) h)
end Go.Am.T
