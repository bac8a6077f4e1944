/-
  A part of the proof of a law: see the text that states it.
-/
import Derived.Test.YtlndoebddndlmaaDoorHead
set_option linter.all false
namespace Go.Am.R
open Go
set_option maxRecDepth 100000
set_option maxHeartbeats 4000000
/-- tronage/code.Check -/
theorem vc14 (x0 : List ((Int × (Int × Unit)))) (x1 : Int) (Q : AV → Heap → Prop) (h :
(∃ y0 : (Int → (Int → Prop)),
 (∃ y1 : (Int → (Int → Nat)),
 ((y0 (0 : Int) (0 : Int)) ∧
 (∀ z2 : Int,
 (∀ z3 : Int,
 ((y0 z2 z3) →
 ((((decide (z3 < ((List.length x0) : Int))) = true) →
  (Need (((0 : Int) ≤ z3) ∧ (z3 < ((List.length x0) : Int))) ∧
  (∃ y6 : Bool,
  (Need (E 29 [(.tv [] (.pair (.int .i64) (.pair (.int .i64) .unit)) (List.getD x0 (Int.toNat z3) ((0 : Int), ((0 : Int), ())))), (.tv [] (.int .i64) x1)] [] (.tv [] .bool y6) []) ∧
  ((((!y6) = true) →
   (Q (.tup [(.tv [] (.int .i64) z3), (.tv [] (.int .i64) (31 : Int))]) [])) ∧
  (((!y6) = false) →
  (Need (((0 : Int) ≤ (List.getD x0 (Int.toNat z3) ((0 : Int), ((0 : Int), ()))).1) ∧ ((List.getD x0 (Int.toNat z3) ((0 : Int), ((0 : Int), ()))).1 < (10 : Int))) ∧
  (Need ((Int.toNat (List.getD x0 (Int.toNat z3) ((0 : Int), ((0 : Int), ()))).1) < 10) ∧
  ((((decide (z2 < (List.getD R.takesL (Int.toNat (List.getD x0 (Int.toNat z3) ((0 : Int), ((0 : Int), ()))).1) (0 : Int)))) = true) →
   (Q (.tup [(.tv [] (.int .i64) z3), (.tv [] (.int .i64) (31 : Int))]) [])) ∧
  (((decide (z2 < (List.getD R.takesL (Int.toNat (List.getD x0 (Int.toNat z3) ((0 : Int), ((0 : Int), ()))).1) (0 : Int)))) = false) →
  (Need (((0 : Int) ≤ (List.getD x0 (Int.toNat z3) ((0 : Int), ((0 : Int), ()))).1) ∧ ((List.getD x0 (Int.toNat z3) ((0 : Int), ((0 : Int), ()))).1 < (10 : Int))) ∧
  (Need ((Int.toNat (List.getD x0 (Int.toNat z3) ((0 : Int), ((0 : Int), ()))).1) < 10) ∧
  (Need (((-9223372036854775808 : Int) ≤ ((1 : Int) - (List.getD R.takesL (Int.toNat (List.getD x0 (Int.toNat z3) ((0 : Int), ((0 : Int), ()))).1) (0 : Int)))) ∧ (((1 : Int) - (List.getD R.takesL (Int.toNat (List.getD x0 (Int.toNat z3) ((0 : Int), ((0 : Int), ()))).1) (0 : Int))) ≤ (9223372036854775807 : Int))) ∧
  (Need (((-9223372036854775808 : Int) ≤ (z2 + ((1 : Int) - (List.getD R.takesL (Int.toNat (List.getD x0 (Int.toNat z3) ((0 : Int), ((0 : Int), ()))).1) (0 : Int))))) ∧ ((z2 + ((1 : Int) - (List.getD R.takesL (Int.toNat (List.getD x0 (Int.toNat z3) ((0 : Int), ((0 : Int), ()))).1) (0 : Int)))) ≤ (9223372036854775807 : Int))) ∧
  (Need (((-9223372036854775808 : Int) ≤ (z3 + (1 : Int))) ∧ ((z3 + (1 : Int)) ≤ (9223372036854775807 : Int))) ∧
  ((y0 (z2 + ((1 : Int) - (List.getD R.takesL (Int.toNat (List.getD x0 (Int.toNat z3) ((0 : Int), ((0 : Int), ()))).1) (0 : Int)))) (z3 + (1 : Int))) ∧
  Need ((y1 (z2 + ((1 : Int) - (List.getD R.takesL (Int.toNat (List.getD x0 (Int.toNat z3) ((0 : Int), ((0 : Int), ()))).1) (0 : Int)))) (z3 + (1 : Int))) < (y1 z2 z3)))))))))))))))))) ∧
 (((decide (z3 < ((List.length x0) : Int))) = false) →
 ((((decide ((0 : Int) < ((List.length x0) : Int))) = true) →
  ((((decide (z2 ≠ (1 : Int))) = true) →
   (Q (.tup [(.tv [] (.int .i64) ((List.length x0) : Int)), (.tv [] (.int .i64) (31 : Int))]) [])) ∧
  (((decide (z2 ≠ (1 : Int))) = false) →
  (Q (.tup [(.tv [] (.int .i64) (0 : Int)), (.tv [] (.int .i64) (0 : Int))]) [])))) ∧
 (((decide ((0 : Int) < ((List.length x0) : Int))) = false) →
 (Q (.tup [(.tv [] (.int .i64) (0 : Int)), (.tv [] (.int .i64) (0 : Int))]) [])))))))))))) : EvF PP orc 14 [.tv [] (.slice (.pair (.int .i64) (.pair (.int .i64) .unit))) x0, .tv [] (.int .i64) x1] [] Q := vcF_ok (sg := sg) (Eq.mp (by kernel_rfl) h)
/-- tronage/tronagelaw21.CodeCompiles -/
theorem vc3 (x0 : XT) (Q : AV → Heap → Prop) (h :
(∃ y0 : Bool,
 (Need (E 9 [] [] (.tv [] .bool y0) []) ∧
 (∃ y1 : Int,
 (Need (E 10 [(.tv [] .expr x0), (.tv [] (.int .i64) (60 : Int)), (.tv [] (.int .i64) (30 : Int))] [] (.tv [] (.int .i64) y1) []) ∧
 ((((decide (y1 < (0 : Int))) = true) →
  (Q (.tv [] .bool y0) [])) ∧
 (((decide (y1 < (0 : Int))) = false) →
 (((y0 = true) →
  (∃ y5 : (List (Prod Int (Prod Int PUnit))),
  (Need (E 12 [(.tv [] .expr x0)] [] (.tv [[]] (.slice (.pair (.int .i64) (.pair (.int .i64) .unit))) y5) []) ∧
  (∃ y6 : (List (Prod Int (Prod Int PUnit))),
  (Need (E 13 [(.tv [] .expr x0)] [] (.tv [[]] (.slice (.pair (.int .i64) (.pair (.int .i64) .unit))) y6) []) ∧
  (∃ y7 : Bool,
  (Need (E 11 [(.tv [] (.slice (.pair (.int .i64) (.pair (.int .i64) .unit))) y5), (.tv [] (.slice (.pair (.int .i64) (.pair (.int .i64) .unit))) y6)] [] (.tv [] .bool y7) []) ∧
  (Q (.tv [] .bool y7) [])))))))) ∧
 ((y0 = false) →
 (Q (.tv [] .bool false) [])))))))))) : EvF PP orc 3 [.tv [] .expr x0] [] Q := vcF_ok (sg := sg) (Eq.mp (by kernel_rfl) h)
/-- tronage/tronagelaw21.CodePrefix -/
theorem vc4 (x0 : List ((Int × (Int × Unit)))) (x1 : Int) (x2 : List ((Int × (Int × Unit)))) (Q : AV → Heap → Prop) (h :
(∃ y0 : Bool,
 (Need (E 9 [] [] (.tv [] .bool y0) []) ∧
 ((((decide ((60 : Int) < ((List.length x0) : Int))) = true) →
  (Q (.tv [] .bool y0) [])) ∧
 (((decide ((60 : Int) < ((List.length x0) : Int))) = false) →
 ((((decide ((20 : Int) < ((List.length x2) : Int))) = true) →
  (Q (.tv [] .bool y0) [])) ∧
 (((decide ((20 : Int) < ((List.length x2) : Int))) = false) →
 (∃ y5 : Int,
 (∃ y6 : Int,
 (Need (E 14 [(.tv [] (.slice (.pair (.int .i64) (.pair (.int .i64) .unit))) x0), (.tv [] (.int .i64) x1)] [] (.tup [(.tv [] (.int .i64) y5), (.tv [] (.int .i64) y6)]) []) ∧
 ((((decide (y6 = (0 : Int))) = true) →
  (((y0 = true) →
   ((((decide ((0 : Int) ≤ y5)) = true) →
    (Q (.tv [] .bool (decide (y5 ≤ ((List.length x0) : Int)))) [])) ∧
   (((decide ((0 : Int) ≤ y5)) = false) →
   (Q (.tv [] .bool false) [])))) ∧
  ((y0 = false) →
  (Q (.tv [] .bool false) [])))) ∧
 (((decide (y6 = (0 : Int))) = false) →
 ((((decide (((List.length x0) : Int) ≤ y5)) = true) →
  (((y0 = true) →
   ((((decide ((0 : Int) ≤ y5)) = true) →
    (Q (.tv [] .bool (decide (y5 ≤ ((List.length x0) : Int)))) [])) ∧
   (((decide ((0 : Int) ≤ y5)) = false) →
   (Q (.tv [] .bool false) [])))) ∧
  ((y0 = false) →
  (Q (.tv [] .bool false) [])))) ∧
 (((decide (((List.length x0) : Int) ≤ y5)) = false) →
 (Need (((-9223372036854775808 : Int) ≤ (y5 + (1 : Int))) ∧ ((y5 + (1 : Int)) ≤ (9223372036854775807 : Int))) ∧
 (Need (((0 : Int) ≤ (0 : Int)) ∧ (((0 : Int) ≤ (y5 + (1 : Int))) ∧ ((y5 + (1 : Int)) ≤ ((List.length x0) : Int)))) ∧
 (Need ((0 + (List.length (cut x0 0 (Int.toNat (y5 + (1 : Int)))))) ≤ bigN) ∧
 (Need (((List.length ([] ++ (cut x0 0 (Int.toNat (y5 + (1 : Int)))))) + (List.length x2)) ≤ bigN) ∧
 (∃ y19 : Int,
 (∃ y20 : Int,
 (Need (E 14 [(.tv [] (.slice (.pair (.int .i64) (.pair (.int .i64) .unit))) (([] ++ (cut x0 0 (Int.toNat (y5 + (1 : Int))))) ++ x2)), (.tv [] (.int .i64) x1)] [] (.tup [(.tv [] (.int .i64) y19), (.tv [] (.int .i64) y20)]) []) ∧
 (Need (((0 : Int) ≤ (0 : Int)) ∧ (((0 : Int) ≤ y5) ∧ (y5 ≤ ((List.length x0) : Int)))) ∧
 (∃ y21 : Int,
 (∃ y22 : Int,
 (Need (E 14 [(.tv [] (.slice (.pair (.int .i64) (.pair (.int .i64) .unit))) (cut x0 0 (Int.toNat y5))), (.tv [] (.int .i64) x1)] [] (.tup [(.tv [] (.int .i64) y21), (.tv [] (.int .i64) y22)]) []) ∧
 (((y0 = true) →
  ((((decide ((0 : Int) ≤ y5)) = true) →
   ((((decide (y19 = y5)) = true) →
    ((((decide (y20 = (31 : Int))) = true) →
     ((((decide (y22 = (0 : Int))) = true) →
      (Q (.tv [] .bool true) [])) ∧
     (((decide (y22 = (0 : Int))) = false) →
     (Q (.tv [] .bool (decide (y21 = y5))) [])))) ∧
    (((decide (y20 = (31 : Int))) = false) →
    (Q (.tv [] .bool false) [])))) ∧
   (((decide (y19 = y5)) = false) →
   (Q (.tv [] .bool false) [])))) ∧
  (((decide ((0 : Int) ≤ y5)) = false) →
  (Q (.tv [] .bool false) [])))) ∧
 ((y0 = false) →
 (Q (.tv [] .bool false) [])))))))))))))))))))))))))))) : EvF PP orc 4 [.tv [] (.slice (.pair (.int .i64) (.pair (.int .i64) .unit))) x0, .tv [] (.int .i64) x1, .tv [] (.slice (.pair (.int .i64) (.pair (.int .i64) .unit))) x2] [] Q := vcF_ok (sg := sg) (Eq.mp (by kernel_rfl) h)
end Go.Am.R
