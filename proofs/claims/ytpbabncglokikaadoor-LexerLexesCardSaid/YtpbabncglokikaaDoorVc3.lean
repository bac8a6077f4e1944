/-
  A part of the proof of a law: see the text that states it.
-/
import Derived.Test.YtpbabncglokikaaDoorHead
set_option linter.all false
namespace Go.Am.L
open Go
set_option maxRecDepth 100000
set_option maxHeartbeats 4000000
/-- tronage/tronagelaw05.awake -/
theorem vc10  (Q : AV → Heap → Prop) (h :
(∃ y0 : (List (Prod Int (Prod (List Int) (Prod (Prod Int (Prod Int PUnit)) PUnit)))),
 (∃ y1 : Int,
 (∃ y2 : Int,
 (∃ y3 : Int,
 (Need (E 11 [(.tv [] .str (List.map (fun v4 => (((BitVec.toNat (UInt8.toBitVec v4)) : Nat) : Int)) [(97 : UInt8), (32 : UInt8), (123 : UInt8), (49 : UInt8), (123 : UInt8), (50 : UInt8), (125 : UInt8), (125 : UInt8)]))] [] (.tup [(.tv [] (.slice (.pair (.int .i64) (.pair .str (.pair (.pair (.int .i64) (.pair (.int .i64) .unit)) .unit)))) y0), (.tv [] (.pair (.int .i64) (.pair (.pair (.int .i64) (.pair (.int .i64) .unit)) .unit)) (y1, ((y2, (y3, ())), ())))]) []) ∧
 (∃ y5 : (List (Prod Int (Prod (List Int) (Prod (Prod Int (Prod Int PUnit)) PUnit)))),
 (∃ y6 : Int,
 (∃ y7 : Int,
 (∃ y8 : Int,
 (Need (E 11 [(.tv [] .str (List.map (fun v9 => (((BitVec.toNat (UInt8.toBitVec v9)) : Nat) : Int)) [(37 : UInt8), (116 : UInt8), (111 : UInt8), (107 : UInt8), (101 : UInt8), (110 : UInt8), (32 : UInt8), (78 : UInt8), (32 : UInt8), (91 : UInt8), (48 : UInt8), (45 : UInt8), (57 : UInt8), (93 : UInt8), (43 : UInt8)]))] [] (.tup [(.tv [] (.slice (.pair (.int .i64) (.pair .str (.pair (.pair (.int .i64) (.pair (.int .i64) .unit)) .unit)))) y5), (.tv [] (.pair (.int .i64) (.pair (.pair (.int .i64) (.pair (.int .i64) .unit)) .unit)) (y6, ((y7, (y8, ())), ())))]) []) ∧
 (∃ y10 : (List (Prod Int (Prod (List Int) (Prod (Prod Int (Prod Int PUnit)) PUnit)))),
 (∃ y11 : Int,
 (∃ y12 : Int,
 (∃ y13 : Int,
 (Need (E 11 [(.tv [] .str (List.map (fun v14 => (((BitVec.toNat (UInt8.toBitVec v14)) : Nat) : Int)) [(91 : UInt8), (98 : UInt8), (45 : UInt8), (97 : UInt8), (93 : UInt8)]))] [] (.tup [(.tv [] (.slice (.pair (.int .i64) (.pair .str (.pair (.pair (.int .i64) (.pair (.int .i64) .unit)) .unit)))) y10), (.tv [] (.pair (.int .i64) (.pair (.pair (.int .i64) (.pair (.int .i64) .unit)) .unit)) (y11, ((y12, (y13, ())), ())))]) []) ∧
 ((((decide (((List.length y0) : Int) ≠ (3 : Int))) = true) →
  (Q (.tv [] .bool false) [])) ∧
 (((decide (((List.length y0) : Int) ≠ (3 : Int))) = false) →
 ((((decide (((List.length y5) : Int) ≠ (5 : Int))) = true) →
  (Q (.tv [] .bool false) [])) ∧
 (((decide (((List.length y5) : Int) ≠ (5 : Int))) = false) →
 ((((decide (y1 = (0 : Int))) = true) →
  (Need (((0 : Int) ≤ (1 : Int)) ∧ ((1 : Int) < ((List.length y0) : Int))) ∧
  ((((decide ((List.getD y0 1 ((0 : Int), (([] : List Int), (((0 : Int), ((0 : Int), ())), ())))).2.1 = [(49 : Int), (123 : Int), (50 : Int), (125 : Int)])) = true) →
   ((((decide (y6 = (0 : Int))) = true) →
    (Need (((0 : Int) ≤ (2 : Int)) ∧ ((2 : Int) < ((List.length y5) : Int))) ∧
    ((((decide ((List.getD y5 2 ((0 : Int), (([] : List Int), (((0 : Int), ((0 : Int), ())), ())))).2.1 = [(48 : Int), (49 : Int), (50 : Int), (51 : Int), (52 : Int), (53 : Int), (54 : Int), (55 : Int), (56 : Int), (57 : Int)])) = true) →
     (Need (((0 : Int) ≤ (3 : Int)) ∧ ((3 : Int) < ((List.length y5) : Int))) ∧
     ((((decide ((List.getD y5 3 ((0 : Int), (([] : List Int), (((0 : Int), ((0 : Int), ())), ())))).1 = (5 : Int))) = true) →
      (Q (.tv [] .bool ((decide (y11 = (10 : Int))) && (((decide (y12 = (1 : Int))) && ((decide (y13 = (3 : Int))) && true)) && true))) [])) ∧
     (((decide ((List.getD y5 3 ((0 : Int), (([] : List Int), (((0 : Int), ((0 : Int), ())), ())))).1 = (5 : Int))) = false) →
     (Q (.tv [] .bool false) []))))) ∧
    (((decide ((List.getD y5 2 ((0 : Int), (([] : List Int), (((0 : Int), ((0 : Int), ())), ())))).2.1 = [(48 : Int), (49 : Int), (50 : Int), (51 : Int), (52 : Int), (53 : Int), (54 : Int), (55 : Int), (56 : Int), (57 : Int)])) = false) →
    (Q (.tv [] .bool false) []))))) ∧
   (((decide (y6 = (0 : Int))) = false) →
   (Q (.tv [] .bool false) [])))) ∧
  (((decide ((List.getD y0 1 ((0 : Int), (([] : List Int), (((0 : Int), ((0 : Int), ())), ())))).2.1 = [(49 : Int), (123 : Int), (50 : Int), (125 : Int)])) = false) →
  (Q (.tv [] .bool false) []))))) ∧
 (((decide (y1 = (0 : Int))) = false) →
 (Q (.tv [] .bool false) []))))))))))))))))))))))) : EvF PP orc 10 [] [] Q := vcF_ok (sg := sg) (Eq.mp (by kernel_rfl) h)
end Go.Am.L
