/-
  A part of the proof of a law: see the text that states it.
-/
import Derived.Test.YtcggbplapaeedaaDoorHead
set_option linter.all false
namespace Go.Am.R
open Go
set_option maxRecDepth 100000
set_option maxHeartbeats 4000000
theorem vc6 (x0 : List Int) (x1 : List Int) (Q : AV → Heap → Prop) (h :
(∃ y0 : Bool,
 (Need (E 12 [] [] (.tv [] .bool y0) []) ∧
 ((((decide ((300 : Int) < (x0.length : Int))) = true) →
 (Q (.tv [] .bool y0) [])) ∧
 (((decide ((300 : Int) < (x0.length : Int))) = false) →
 ((((decide ((300 : Int) < (x1.length : Int))) = true) →
 (Q (.tv [] .bool y0) [])) ∧
 (((decide ((300 : Int) < (x1.length : Int))) = false) →
 (Need ((2 + x0.length) ≤ bigN) ∧
 (∃ y5 : qT5,
 (∃ y6 : qT7,
 (∃ y7 : qT3,
 (∃ y8 : qT6,
 (∃ y9 : qT1,
 (∃ y10 y11 y12 : Int,
 (Need (E 13 [(.tv [] .str ([(37 : Int), (37 : Int)] ++ x0))] [] (.tup [(.tv [] qt0 (y5, (y6, (y7, (y8, (y9, ())))))), (.tv [] qt2 (y10, ((y11, (y12, ())), ())))]) []) ∧
 (Need ((2 + x1.length) ≤ bigN) ∧
 (∃ y13 : qT5,
 (∃ y14 : qT7,
 (∃ y15 : qT3,
 (∃ y16 : qT6,
 (∃ y17 : qT1,
 (∃ y18 y19 y20 : Int,
 (Need (E 13 [(.tv [] .str ([(37 : Int), (37 : Int)] ++ x1))] [] (.tup [(.tv [] qt0 (y13, (y14, (y15, (y16, (y17, ())))))), (.tv [] qt2 (y18, ((y19, (y20, ())), ())))]) []) ∧
 ((((decide (y10 ≠ (0 : Int))) = true) →
 (Q (.tv [] .bool y0) [])) ∧
 (((decide (y10 ≠ (0 : Int))) = false) →
 ((((decide (y18 ≠ (0 : Int))) = true) →
 (Q (.tv [] .bool y0) [])) ∧
 (((decide (y18 ≠ (0 : Int))) = false) →
 (Need ((2 + x0.length) ≤ bigN) ∧
 (Need (((List.length ([(37 : Int), (37 : Int)] ++ x0)) + 1) ≤ bigN) ∧
 (Need (((List.length (([(37 : Int), (37 : Int)] ++ x0) ++ [(10 : Int)])) + x1.length) ≤ bigN) ∧
 (∃ y25 : qT5,
 (∃ y26 : qT7,
 (∃ y27 : qT3,
 (∃ y28 : qT6,
 (∃ y29 : qT1,
 (∃ y30 y31 y32 : Int,
 (Need (E 13 [(.tv [] .str ((([(37 : Int), (37 : Int)] ++ x0) ++ [(10 : Int)]) ++ x1))] [] (.tup [(.tv [] qt0 (y25, (y26, (y27, (y28, (y29, ())))))), (.tv [] qt2 (y30, ((y31, (y32, ())), ())))]) []) ∧
 (Need ((-9223372036854775808 ≤ ((y9.length : Int) + (y17.length : Int))) ∧ (((y9.length : Int) + (y17.length : Int)) ≤ 9223372036854775807)) ∧
 ((((decide ((40 : Int) < ((y9.length : Int) + (y17.length : Int)))) = true) →
 (((y0 = true) →
 ((((decide (y30 = (3 : Int))) = true) →
 (∃ y36 : Bool,
 (Need (E 15 [(.tv [] qt0 (y25, (y26, (y27, (y28, (y29, ()))))))] [] (.tv [] .bool y36) []) ∧
 (Q (.tv [] .bool y36) [])))) ∧
 (((decide (y30 = (3 : Int))) = false) →
 (Q (.tv [] .bool false) [])))) ∧
 ((y0 = false) →
 (Q (.tv [] .bool false) [])))) ∧
 (((decide ((40 : Int) < ((y9.length : Int) + (y17.length : Int)))) = false) →
 (((y0 = true) →
 ((((decide (y30 = (0 : Int))) = true) →
 (Need ((0 + y9.length) ≤ bigN) ∧
 (Need (((List.length ([] ++ y9)) + y17.length) ≤ bigN) ∧
 (∃ y42 : Bool,
 (Need (E 17 [(.tv [] qt0 (y25, (y26, (y27, (y28, (y29, ())))))), (.tv [] qt0 ([], ([], ([], (y8, ((([] ++ y9) ++ y17), ()))))))] [] (.tv [] .bool y42) []) ∧
 (Q (.tv [] .bool y42) [])))))) ∧
 (((decide (y30 = (0 : Int))) = false) →
 (Q (.tv [] .bool false) [])))) ∧
 ((y0 = false) →
 (Q (.tv [] .bool false) []))))))))))))))))))))))))))))))))))))))))))) : EvF PP orc 6 [.tv [] .str x0, .tv [] .str x1] [] Q := vc_of (by kernel_rfl) h
end Go.Am.R
