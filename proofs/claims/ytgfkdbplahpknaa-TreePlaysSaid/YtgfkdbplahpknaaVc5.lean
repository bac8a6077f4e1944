/-
  A part of the proof of a law: see the text that states it.
-/
import Derived.Test.YtgfkdbplahpknaaHead
set_option linter.all false
namespace Go.Am.T
open Go
set_option maxRecDepth 100000
set_option maxHeartbeats 4000000
theorem vc23 (x0_0 : Int) (x0_1 : Int) (x0_2 : List (Int)) (x0_3 : List (List (Int))) (x0_4 : List (Int)) (x0_5 : List (Int)) (x0_6 : List (Int)) (Q : AV → Heap → Prop) (h :
(∃ y0 : qT8,
 (∃ y1 : (List qT5),
 (∃ y2 y3 : Nat,
 (∃ y4 : qT2,
 (∃ y5 : qT6,
 (∃ y6 : Nat,
 (∃ y7 : qT3,
 (Need (E 50 [(.tv [] qt9 (x0_0, (x0_1, (x0_2, (x0_3, (x0_4, (x0_5, (x0_6, ()))))))))] [] (.tv [] qt5 (y0, (y1, ((some ((1, 0), (y2, (0, y3)))), (y4, (y5, ())))))) [((1, 0), ⟨⟨(.arr (Nat.succ y6) y7.length qt10), y7⟩, []⟩)]) ∧
 (∃ y8 y9 : qT7,
 (∃ y10 : qT4,
 (∃ y11 y12 : qT2,
 (∃ y13 : qT7,
 (∃ y14 : Int,
 (∃ y15 : qT2,
 (∃ y16 : Nat,
 (∃ y17 : qT3,
 (Need (E 49 [(.tv [] qt5 (y0, (y1, ((some ((0, 0), (y2, (0, y3)))), (y4, (y5, ()))))))] (hq3 y6 y7) (.tup [(.tv [] qt3 (y8, (y9, (y10, (y11, (y12, (y13, ()))))))), (.tv [] (.int .i64) y14), (.tv [] .str y15)]) (hq3 y16 y17)) ∧
 (Q (.tv [] qt3 (y8, (y9, (y10, (y11, (y12, (y13, ()))))))) []))))))))))))))))))) : EvF PP orc 23 [.tv [] qt9 (x0_0, (x0_1, (x0_2, (x0_3, (x0_4, (x0_5, (x0_6, ())))))))] [] Q := vcF_ok (sg := sg) (Eq.mp (by kernel_rfl) h)
end Go.Am.T
