/-
  A part of the proof of a law: see the text that states it.
-/
import Derived.Test.YtpbabncglokikaaDoorHead
set_option linter.all false
namespace Go.Am.L
open Go
set_option maxRecDepth 100000
set_option maxHeartbeats 4000000
/-- tronage/tronagelaw05.LexerLexes -/
theorem vc3 (x0 : List Int) (Q : AV → Heap → Prop) (h :
(∃ y0 : Bool,
 (Need (E 10 [] [] (.tv [] .bool y0) []) ∧
 ((((decide ((600 : Int) < ((List.length x0) : Int))) = true) →
  ((((decide (((List.length x0) : Int) ≤ (4000 : Int))) = true) →
   (Q (.tv [] .bool y0) [])) ∧
  (((decide (((List.length x0) : Int) ≤ (4000 : Int))) = false) →
  (∃ y4 : (List (Prod Int (Prod (List Int) (Prod (Prod Int (Prod Int PUnit)) PUnit)))),
  (∃ y5 : Int,
  (∃ y6 : Int,
  (∃ y7 : Int,
  (Need (E 11 [(.tv [] .str x0)] [] (.tup [(.tv [] (.slice (.pair (.int .i64) (.pair .str (.pair (.pair (.int .i64) (.pair (.int .i64) .unit)) .unit)))) y4), (.tv [] (.pair (.int .i64) (.pair (.pair (.int .i64) (.pair (.int .i64) .unit)) .unit)) (y5, ((y6, (y7, ())), ())))]) []) ∧
  (∃ y8 : (List (Prod Int (Prod (List Int) (Prod (Prod Int (Prod Int PUnit)) PUnit)))),
  (∃ y9 : Int,
  (∃ y10 : Int,
  (∃ y11 : Int,
  (Need (E 12 [(.tv [] .str x0)] [] (.tup [(.tv [] (.slice (.pair (.int .i64) (.pair .str (.pair (.pair (.int .i64) (.pair (.int .i64) .unit)) .unit)))) y8), (.tv [] (.pair (.int .i64) (.pair (.pair (.int .i64) (.pair (.int .i64) .unit)) .unit)) (y9, ((y10, (y11, ())), ())))]) []) ∧
  (((y0 = true) →
   (((((decide (y5 = y9)) && (((decide (y6 = y10)) && ((decide (y7 = y11)) && true)) && true)) = true) →
    (∃ y14 : Bool,
    (Need (E 13 [(.tv [] (.slice (.pair (.int .i64) (.pair .str (.pair (.pair (.int .i64) (.pair (.int .i64) .unit)) .unit)))) y4), (.tv [] (.slice (.pair (.int .i64) (.pair .str (.pair (.pair (.int .i64) (.pair (.int .i64) .unit)) .unit)))) y8)] [] (.tv [] .bool y14) []) ∧
    (Q (.tv [] .bool y14) [])))) ∧
   ((((decide (y5 = y9)) && (((decide (y6 = y10)) && ((decide (y7 = y11)) && true)) && true)) = false) →
   (Q (.tv [] .bool false) [])))) ∧
  ((y0 = false) →
  (Q (.tv [] .bool false) [])))))))))))))))) ∧
 (((decide ((600 : Int) < ((List.length x0) : Int))) = false) →
 (∃ y18 : (List (Prod Int (Prod (List Int) (Prod (Prod Int (Prod Int PUnit)) PUnit)))),
 (∃ y19 : Int,
 (∃ y20 : Int,
 (∃ y21 : Int,
 (Need (E 11 [(.tv [] .str x0)] [] (.tup [(.tv [] (.slice (.pair (.int .i64) (.pair .str (.pair (.pair (.int .i64) (.pair (.int .i64) .unit)) .unit)))) y18), (.tv [] (.pair (.int .i64) (.pair (.pair (.int .i64) (.pair (.int .i64) .unit)) .unit)) (y19, ((y20, (y21, ())), ())))]) []) ∧
 (∃ y22 : (List (Prod Int (Prod (List Int) (Prod (Prod Int (Prod Int PUnit)) PUnit)))),
 (∃ y23 : Int,
 (∃ y24 : Int,
 (∃ y25 : Int,
 (Need (E 12 [(.tv [] .str x0)] [] (.tup [(.tv [] (.slice (.pair (.int .i64) (.pair .str (.pair (.pair (.int .i64) (.pair (.int .i64) .unit)) .unit)))) y22), (.tv [] (.pair (.int .i64) (.pair (.pair (.int .i64) (.pair (.int .i64) .unit)) .unit)) (y23, ((y24, (y25, ())), ())))]) []) ∧
 (((y0 = true) →
  (((((decide (y19 = y23)) && (((decide (y20 = y24)) && ((decide (y21 = y25)) && true)) && true)) = true) →
   (∃ y28 : Bool,
   (Need (E 13 [(.tv [] (.slice (.pair (.int .i64) (.pair .str (.pair (.pair (.int .i64) (.pair (.int .i64) .unit)) .unit)))) y18), (.tv [] (.slice (.pair (.int .i64) (.pair .str (.pair (.pair (.int .i64) (.pair (.int .i64) .unit)) .unit)))) y22)] [] (.tv [] .bool y28) []) ∧
   (Q (.tv [] .bool y28) [])))) ∧
  ((((decide (y19 = y23)) && (((decide (y20 = y24)) && ((decide (y21 = y25)) && true)) && true)) = false) →
  (Q (.tv [] .bool false) [])))) ∧
 ((y0 = false) →
 (Q (.tv [] .bool false) [])))))))))))))))))) : EvF PP orc 3 [.tv [] .str x0] [] Q := vcF_ok (sg := sg) (Eq.mp (by kernel_rfl) h)
end Go.Am.L
