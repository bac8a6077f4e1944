/-
  A part of the proof of a law: see the text that states it.
-/
import Derived.Test.YtcggbplapaeedaaDoorHead
set_option linter.all false
namespace Go.Am.R
open Go
set_option maxRecDepth 100000
set_option maxHeartbeats 4000000
theorem vc12  (Q : AV → Heap → Prop) (h :
(∃ y0 : qT5,
 (∃ y1 : qT7,
 (∃ y2 : qT4,
 (∃ y3 : qT3,
 (∃ y4 : qT1,
 (∃ y5 y6 y7 : Int,
 (Need (E 13 [(.tv [] .str (List.map (fun v8 => (((BitVec.toNat (UInt8.toBitVec v8)) : Nat) : Int)) [(37 : UInt8), (116 : UInt8), (111 : UInt8), (107 : UInt8), (101 : UInt8), (110 : UInt8), (32 : UInt8), (78 : UInt8), (32 : UInt8), (91 : UInt8), (48 : UInt8), (45 : UInt8), (57 : UInt8), (93 : UInt8), (43 : UInt8), (32 : UInt8), (37 : UInt8), (37 : UInt8), (32 : UInt8), (69 : UInt8), (32 : UInt8), (58 : UInt8), (32 : UInt8), (69 : UInt8), (32 : UInt8), (78 : UInt8), (32 : UInt8), (123 : UInt8), (49 : UInt8), (125 : UInt8), (32 : UInt8), (124 : UInt8), (32 : UInt8), (59 : UInt8)]))] [] (.tup [(.tv [] qt0 (y0, (y1, (y2, (y3, (y4, ())))))), (.tv [] qt2 (y5, ((y6, (y7, ())), ())))]) []) ∧
 (∃ y9 : qT5,
 (∃ y10 : qT7,
 (∃ y11 : qT4,
 (∃ y12 : qT3,
 (∃ y13 : qT1,
 (∃ y14 y15 y16 : Int,
 (Need (E 13 [(.tv [] .str (List.map (fun v17 => (((BitVec.toNat (UInt8.toBitVec v17)) : Nat) : Int)) [(37 : UInt8), (37 : UInt8), (32 : UInt8), (69 : UInt8), (32 : UInt8), (58 : UInt8), (32 : UInt8), (59 : UInt8), (32 : UInt8), (70 : UInt8)]))] [] (.tup [(.tv [] qt0 (y9, (y10, (y11, (y12, (y13, ())))))), (.tv [] qt2 (y14, ((y15, (y16, ())), ())))]) []) ∧
 (∃ y18 : qT5,
 (∃ y19 : qT7,
 (∃ y20 : qT4,
 (∃ y21 : qT3,
 (∃ y22 : qT1,
 (∃ y23 y24 y25 : Int,
 (Need (E 13 [(.tv [] .str (List.map (fun v26 => (((BitVec.toNat (UInt8.toBitVec v26)) : Nat) : Int)) [(37 : UInt8), (108 : UInt8), (101 : UInt8), (102 : UInt8), (116 : UInt8), (32 : UInt8), (65 : UInt8), (32 : UInt8), (65 : UInt8), (32 : UInt8), (37 : UInt8), (37 : UInt8)]))] [] (.tup [(.tv [] qt0 (y18, (y19, (y20, (y21, (y22, ())))))), (.tv [] qt2 (y23, ((y24, (y25, ())), ())))]) []) ∧
 ((((decide ((y4.length : Int) ≠ (2 : Int))) = true) →
 (Q (.tv [] .bool false) [])) ∧
 (((decide ((y4.length : Int) ≠ (2 : Int))) = false) →
 ((((decide ((y0.length : Int) ≠ (1 : Int))) = true) →
 (Q (.tv [] .bool false) [])) ∧
 (((decide ((y0.length : Int) ≠ (1 : Int))) = false) →
 ((((decide (y5 = (0 : Int))) = true) →
 ((((decide (y3 = [(69 : Int)])) = true) →
 (Need (((0 : Int) ≤ (0 : Int)) ∧ ((0 : Int) < (y4.length : Int))) ∧
 ((((decide ((List.getD y4 0 ([], ([], ([], ([], ()))))).2.2.2.1 = [(49 : Int)])) = true) →
 (Need (((0 : Int) ≤ (1 : Int)) ∧ ((1 : Int) < (y4.length : Int))) ∧
 ((((decide (((List.length (List.getD y4 1 ([], ([], ([], ([], ()))))).2.1) : Int) = (0 : Int))) = true) →
 (Need (((0 : Int) ≤ (0 : Int)) ∧ ((0 : Int) < (y0.length : Int))) ∧
 ((((List.getD y0 0 (([] : List Int), (([], ([], (false, ()))), ()))).2.1.2.2.1 = true) →
 (((((decide (y14 = (14 : Int))) && (((decide (y15 = (1 : Int))) && ((decide (y16 = (11 : Int))) && true)) && true)) = true) →
 (Q (.tv [] .bool ((decide (y23 = (15 : Int))) && (((decide (y24 = (1 : Int))) && ((decide (y25 = (9 : Int))) && true)) && true))) [])) ∧
 ((((decide (y14 = (14 : Int))) && (((decide (y15 = (1 : Int))) && ((decide (y16 = (11 : Int))) && true)) && true)) = false) →
 (Q (.tv [] .bool false) [])))) ∧
 (((List.getD y0 0 (([] : List Int), (([], ([], (false, ()))), ()))).2.1.2.2.1 = false) →
 (Q (.tv [] .bool false) []))))) ∧
 (((decide (((List.length (List.getD y4 1 ([], ([], ([], ([], ()))))).2.1) : Int) = (0 : Int))) = false) →
 (Q (.tv [] .bool false) []))))) ∧
 (((decide ((List.getD y4 0 ([], ([], ([], ([], ()))))).2.2.2.1 = [(49 : Int)])) = false) →
 (Q (.tv [] .bool false) []))))) ∧
 (((decide (y3 = [(69 : Int)])) = false) →
 (Q (.tv [] .bool false) [])))) ∧
 (((decide (y5 = (0 : Int))) = false) →
 (Q (.tv [] .bool false) []))))))))))))))))))))))))))))) : EvF PP orc 12 [] [] Q := vc_of (by kernel_rfl) h
end Go.Am.R
