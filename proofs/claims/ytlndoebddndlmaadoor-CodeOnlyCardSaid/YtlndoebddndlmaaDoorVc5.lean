/-
  A part of the proof of a law: see the text that states it.
-/
import Derived.Test.YtlndoebddndlmaaDoorHead
set_option linter.all false
namespace Go.Am.R
open Go
set_option maxRecDepth 100000
set_option maxHeartbeats 4000000
/-- tronage/code.Depth -/
theorem vc20 (x0 : List ((Int × (Int × Unit)))) (Q : AV → Heap → Prop) (h :
(∃ y0 : (Int → (Int → (Int → Prop))),
 (∃ y1 : (Int → (Int → (Int → Nat))),
 ((y0 (0 : Int) (0 : Int) (0 : Int)) ∧
 (∀ z2 : Int,
 (∀ z3 : Int,
 (∀ z4 : Int,
 ((y0 z2 z3 z4) →
 ((((decide (z4 < ((List.length x0) : Int))) = true) →
  (Need (((0 : Int) ≤ z4) ∧ (z4 < ((List.length x0) : Int))) ∧
  (∃ y7 : Bool,
  (Need (E 31 [(.tv [] (.int .i64) (List.getD x0 (Int.toNat z4) ((0 : Int), ((0 : Int), ()))).1)] [] (.tv [] .bool y7) []) ∧
  ((((!y7) = true) →
   (Q (.tv [] (.int .i64) z3) [])) ∧
  (((!y7) = false) →
  (Need (((0 : Int) ≤ (List.getD x0 (Int.toNat z4) ((0 : Int), ((0 : Int), ()))).1) ∧ ((List.getD x0 (Int.toNat z4) ((0 : Int), ((0 : Int), ()))).1 < (10 : Int))) ∧
  (Need ((Int.toNat (List.getD x0 (Int.toNat z4) ((0 : Int), ((0 : Int), ()))).1) < 10) ∧
  ((((decide (z2 < (List.getD R.takesL (Int.toNat (List.getD x0 (Int.toNat z4) ((0 : Int), ((0 : Int), ()))).1) (0 : Int)))) = true) →
   (Q (.tv [] (.int .i64) z3) [])) ∧
  (((decide (z2 < (List.getD R.takesL (Int.toNat (List.getD x0 (Int.toNat z4) ((0 : Int), ((0 : Int), ()))).1) (0 : Int)))) = false) →
  (Need (((0 : Int) ≤ (List.getD x0 (Int.toNat z4) ((0 : Int), ((0 : Int), ()))).1) ∧ ((List.getD x0 (Int.toNat z4) ((0 : Int), ((0 : Int), ()))).1 < (10 : Int))) ∧
  (Need ((Int.toNat (List.getD x0 (Int.toNat z4) ((0 : Int), ((0 : Int), ()))).1) < 10) ∧
  (Need (((-9223372036854775808 : Int) ≤ ((1 : Int) - (List.getD R.takesL (Int.toNat (List.getD x0 (Int.toNat z4) ((0 : Int), ((0 : Int), ()))).1) (0 : Int)))) ∧ (((1 : Int) - (List.getD R.takesL (Int.toNat (List.getD x0 (Int.toNat z4) ((0 : Int), ((0 : Int), ()))).1) (0 : Int))) ≤ (9223372036854775807 : Int))) ∧
  (Need (((-9223372036854775808 : Int) ≤ (z2 + ((1 : Int) - (List.getD R.takesL (Int.toNat (List.getD x0 (Int.toNat z4) ((0 : Int), ((0 : Int), ()))).1) (0 : Int))))) ∧ ((z2 + ((1 : Int) - (List.getD R.takesL (Int.toNat (List.getD x0 (Int.toNat z4) ((0 : Int), ((0 : Int), ()))).1) (0 : Int)))) ≤ (9223372036854775807 : Int))) ∧
  (Need (((-9223372036854775808 : Int) ≤ (z4 + (1 : Int))) ∧ ((z4 + (1 : Int)) ≤ (9223372036854775807 : Int))) ∧
  ((y0 (z2 + ((1 : Int) - (List.getD R.takesL (Int.toNat (List.getD x0 (Int.toNat z4) ((0 : Int), ((0 : Int), ()))).1) (0 : Int)))) (max z3 (z2 + ((1 : Int) - (List.getD R.takesL (Int.toNat (List.getD x0 (Int.toNat z4) ((0 : Int), ((0 : Int), ()))).1) (0 : Int))))) (z4 + (1 : Int))) ∧
  Need ((y1 (z2 + ((1 : Int) - (List.getD R.takesL (Int.toNat (List.getD x0 (Int.toNat z4) ((0 : Int), ((0 : Int), ()))).1) (0 : Int)))) (max z3 (z2 + ((1 : Int) - (List.getD R.takesL (Int.toNat (List.getD x0 (Int.toNat z4) ((0 : Int), ((0 : Int), ()))).1) (0 : Int))))) (z4 + (1 : Int))) < (y1 z2 z3 z4)))))))))))))))))) ∧
 (((decide (z4 < ((List.length x0) : Int))) = false) →
 (Q (.tv [] (.int .i64) z3) []))))))))))) : EvF PP orc 20 [.tv [] (.slice (.pair (.int .i64) (.pair (.int .i64) .unit))) x0] [] Q := vcF_ok (sg := sg) (Eq.mp (by kernel_rfl) h)
/-- tronage/tronageref21.Check -/
theorem vc21 (x0 : List ((Int × (Int × Unit)))) (x1 : Int) (Q : AV → Heap → Prop) (h :
(∃ y0 : (Int → (Int → Prop)),
 (∃ y1 : (Int → (Int → Nat)),
 ((y0 (0 : Int) (0 : Int)) ∧
 (∀ z2 : Int,
 (∀ z3 : Int,
 ((y0 z2 z3) →
 ((((decide (z3 < ((List.length x0) : Int))) = true) →
  (Need (((0 : Int) ≤ z3) ∧ (z3 < ((List.length x0) : Int))) ∧
  (∃ y6 : Int,
  (Need (E 33 [(.tv [] (.int .i64) (List.getD x0 (Int.toNat z3) ((0 : Int), ((0 : Int), ()))).1)] [] (.tv [] (.int .i64) y6) []) ∧
  (Need (((0 : Int) ≤ z3) ∧ (z3 < ((List.length x0) : Int))) ∧
  ((((decide (y6 < (0 : Int))) = true) →
   (Q (.tup [(.tv [] (.int .i64) z3), (.tv [] (.int .i64) (31 : Int))]) [])) ∧
  (((decide (y6 < (0 : Int))) = false) →
  ((((decide ((List.getD x0 (Int.toNat z3) ((0 : Int), ((0 : Int), ()))).2.1 < (0 : Int))) = true) →
   (Q (.tup [(.tv [] (.int .i64) z3), (.tv [] (.int .i64) (31 : Int))]) [])) ∧
  (((decide ((List.getD x0 (Int.toNat z3) ((0 : Int), ((0 : Int), ()))).2.1 < (0 : Int))) = false) →
  ((((decide ((999999999999999999 : Int) < (List.getD x0 (Int.toNat z3) ((0 : Int), ((0 : Int), ()))).2.1)) = true) →
   (Q (.tup [(.tv [] (.int .i64) z3), (.tv [] (.int .i64) (31 : Int))]) [])) ∧
  (((decide ((999999999999999999 : Int) < (List.getD x0 (Int.toNat z3) ((0 : Int), ((0 : Int), ()))).2.1)) = false) →
  (Need (((0 : Int) ≤ z3) ∧ (z3 < ((List.length x0) : Int))) ∧
  ((((decide ((3 : Int) < (List.getD x0 (Int.toNat z3) ((0 : Int), ((0 : Int), ()))).1)) = true) →
   ((((decide ((List.getD x0 (Int.toNat z3) ((0 : Int), ((0 : Int), ()))).2.1 ≠ (0 : Int))) = true) →
    (Q (.tup [(.tv [] (.int .i64) z3), (.tv [] (.int .i64) (31 : Int))]) [])) ∧
   (((decide ((List.getD x0 (Int.toNat z3) ((0 : Int), ((0 : Int), ()))).2.1 ≠ (0 : Int))) = false) →
   (Need (((0 : Int) ≤ z3) ∧ (z3 < ((List.length x0) : Int))) ∧
   ((((decide ((List.getD x0 (Int.toNat z3) ((0 : Int), ((0 : Int), ()))).1 = (2 : Int))) = true) →
    ((((decide ((List.getD x0 (Int.toNat z3) ((0 : Int), ((0 : Int), ()))).2.1 = (0 : Int))) = true) →
     (Q (.tup [(.tv [] (.int .i64) z3), (.tv [] (.int .i64) (31 : Int))]) [])) ∧
    (((decide ((List.getD x0 (Int.toNat z3) ((0 : Int), ((0 : Int), ()))).2.1 = (0 : Int))) = false) →
    ((((decide (x1 < (List.getD x0 (Int.toNat z3) ((0 : Int), ((0 : Int), ()))).2.1)) = true) →
     (Q (.tup [(.tv [] (.int .i64) z3), (.tv [] (.int .i64) (31 : Int))]) [])) ∧
    (((decide (x1 < (List.getD x0 (Int.toNat z3) ((0 : Int), ((0 : Int), ()))).2.1)) = false) →
    ((((decide (z2 < y6)) = true) →
     (Q (.tup [(.tv [] (.int .i64) z3), (.tv [] (.int .i64) (31 : Int))]) [])) ∧
    (((decide (z2 < y6)) = false) →
    (Need (((-9223372036854775808 : Int) ≤ (z2 - y6)) ∧ ((z2 - y6) ≤ (9223372036854775807 : Int))) ∧
    (Need (((-9223372036854775808 : Int) ≤ ((z2 - y6) + (1 : Int))) ∧ (((z2 - y6) + (1 : Int)) ≤ (9223372036854775807 : Int))) ∧
    (Need (((-9223372036854775808 : Int) ≤ (z3 + (1 : Int))) ∧ ((z3 + (1 : Int)) ≤ (9223372036854775807 : Int))) ∧
    ((y0 ((z2 - y6) + (1 : Int)) (z3 + (1 : Int))) ∧
    Need ((y1 ((z2 - y6) + (1 : Int)) (z3 + (1 : Int))) < (y1 z2 z3))))))))))))) ∧
   (((decide ((List.getD x0 (Int.toNat z3) ((0 : Int), ((0 : Int), ()))).1 = (2 : Int))) = false) →
   (Need (((0 : Int) ≤ z3) ∧ (z3 < ((List.length x0) : Int))) ∧
   ((((decide ((List.getD x0 (Int.toNat z3) ((0 : Int), ((0 : Int), ()))).1 = (3 : Int))) = true) →
    ((((decide ((List.getD x0 (Int.toNat z3) ((0 : Int), ((0 : Int), ()))).2.1 = (0 : Int))) = true) →
     (Q (.tup [(.tv [] (.int .i64) z3), (.tv [] (.int .i64) (31 : Int))]) [])) ∧
    (((decide ((List.getD x0 (Int.toNat z3) ((0 : Int), ((0 : Int), ()))).2.1 = (0 : Int))) = false) →
    ((((decide (x1 < (List.getD x0 (Int.toNat z3) ((0 : Int), ((0 : Int), ()))).2.1)) = true) →
     (Q (.tup [(.tv [] (.int .i64) z3), (.tv [] (.int .i64) (31 : Int))]) [])) ∧
    (((decide (x1 < (List.getD x0 (Int.toNat z3) ((0 : Int), ((0 : Int), ()))).2.1)) = false) →
    ((((decide (z2 < y6)) = true) →
     (Q (.tup [(.tv [] (.int .i64) z3), (.tv [] (.int .i64) (31 : Int))]) [])) ∧
    (((decide (z2 < y6)) = false) →
    (Need (((-9223372036854775808 : Int) ≤ (z2 - y6)) ∧ ((z2 - y6) ≤ (9223372036854775807 : Int))) ∧
    (Need (((-9223372036854775808 : Int) ≤ ((z2 - y6) + (1 : Int))) ∧ (((z2 - y6) + (1 : Int)) ≤ (9223372036854775807 : Int))) ∧
    (Need (((-9223372036854775808 : Int) ≤ (z3 + (1 : Int))) ∧ ((z3 + (1 : Int)) ≤ (9223372036854775807 : Int))) ∧
    ((y0 ((z2 - y6) + (1 : Int)) (z3 + (1 : Int))) ∧
    Need ((y1 ((z2 - y6) + (1 : Int)) (z3 + (1 : Int))) < (y1 z2 z3))))))))))))) ∧
   (((decide ((List.getD x0 (Int.toNat z3) ((0 : Int), ((0 : Int), ()))).1 = (3 : Int))) = false) →
   ((((decide (z2 < y6)) = true) →
    (Q (.tup [(.tv [] (.int .i64) z3), (.tv [] (.int .i64) (31 : Int))]) [])) ∧
   (((decide (z2 < y6)) = false) →
   (Need (((-9223372036854775808 : Int) ≤ (z2 - y6)) ∧ ((z2 - y6) ≤ (9223372036854775807 : Int))) ∧
   (Need (((-9223372036854775808 : Int) ≤ ((z2 - y6) + (1 : Int))) ∧ (((z2 - y6) + (1 : Int)) ≤ (9223372036854775807 : Int))) ∧
   (Need (((-9223372036854775808 : Int) ≤ (z3 + (1 : Int))) ∧ ((z3 + (1 : Int)) ≤ (9223372036854775807 : Int))) ∧
   ((y0 ((z2 - y6) + (1 : Int)) (z3 + (1 : Int))) ∧
   Need ((y1 ((z2 - y6) + (1 : Int)) (z3 + (1 : Int))) < (y1 z2 z3))))))))))))))))) ∧
  (((decide ((3 : Int) < (List.getD x0 (Int.toNat z3) ((0 : Int), ((0 : Int), ()))).1)) = false) →
  (Need (((0 : Int) ≤ z3) ∧ (z3 < ((List.length x0) : Int))) ∧
  ((((decide ((List.getD x0 (Int.toNat z3) ((0 : Int), ((0 : Int), ()))).1 = (2 : Int))) = true) →
   ((((decide ((List.getD x0 (Int.toNat z3) ((0 : Int), ((0 : Int), ()))).2.1 = (0 : Int))) = true) →
    (Q (.tup [(.tv [] (.int .i64) z3), (.tv [] (.int .i64) (31 : Int))]) [])) ∧
   (((decide ((List.getD x0 (Int.toNat z3) ((0 : Int), ((0 : Int), ()))).2.1 = (0 : Int))) = false) →
   ((((decide (x1 < (List.getD x0 (Int.toNat z3) ((0 : Int), ((0 : Int), ()))).2.1)) = true) →
    (Q (.tup [(.tv [] (.int .i64) z3), (.tv [] (.int .i64) (31 : Int))]) [])) ∧
   (((decide (x1 < (List.getD x0 (Int.toNat z3) ((0 : Int), ((0 : Int), ()))).2.1)) = false) →
   ((((decide (z2 < y6)) = true) →
    (Q (.tup [(.tv [] (.int .i64) z3), (.tv [] (.int .i64) (31 : Int))]) [])) ∧
   (((decide (z2 < y6)) = false) →
   (Need (((-9223372036854775808 : Int) ≤ (z2 - y6)) ∧ ((z2 - y6) ≤ (9223372036854775807 : Int))) ∧
   (Need (((-9223372036854775808 : Int) ≤ ((z2 - y6) + (1 : Int))) ∧ (((z2 - y6) + (1 : Int)) ≤ (9223372036854775807 : Int))) ∧
   (Need (((-9223372036854775808 : Int) ≤ (z3 + (1 : Int))) ∧ ((z3 + (1 : Int)) ≤ (9223372036854775807 : Int))) ∧
   ((y0 ((z2 - y6) + (1 : Int)) (z3 + (1 : Int))) ∧
   Need ((y1 ((z2 - y6) + (1 : Int)) (z3 + (1 : Int))) < (y1 z2 z3))))))))))))) ∧
  (((decide ((List.getD x0 (Int.toNat z3) ((0 : Int), ((0 : Int), ()))).1 = (2 : Int))) = false) →
  (Need (((0 : Int) ≤ z3) ∧ (z3 < ((List.length x0) : Int))) ∧
  ((((decide ((List.getD x0 (Int.toNat z3) ((0 : Int), ((0 : Int), ()))).1 = (3 : Int))) = true) →
   ((((decide ((List.getD x0 (Int.toNat z3) ((0 : Int), ((0 : Int), ()))).2.1 = (0 : Int))) = true) →
    (Q (.tup [(.tv [] (.int .i64) z3), (.tv [] (.int .i64) (31 : Int))]) [])) ∧
   (((decide ((List.getD x0 (Int.toNat z3) ((0 : Int), ((0 : Int), ()))).2.1 = (0 : Int))) = false) →
   ((((decide (x1 < (List.getD x0 (Int.toNat z3) ((0 : Int), ((0 : Int), ()))).2.1)) = true) →
    (Q (.tup [(.tv [] (.int .i64) z3), (.tv [] (.int .i64) (31 : Int))]) [])) ∧
   (((decide (x1 < (List.getD x0 (Int.toNat z3) ((0 : Int), ((0 : Int), ()))).2.1)) = false) →
   ((((decide (z2 < y6)) = true) →
    (Q (.tup [(.tv [] (.int .i64) z3), (.tv [] (.int .i64) (31 : Int))]) [])) ∧
   (((decide (z2 < y6)) = false) →
   (Need (((-9223372036854775808 : Int) ≤ (z2 - y6)) ∧ ((z2 - y6) ≤ (9223372036854775807 : Int))) ∧
   (Need (((-9223372036854775808 : Int) ≤ ((z2 - y6) + (1 : Int))) ∧ (((z2 - y6) + (1 : Int)) ≤ (9223372036854775807 : Int))) ∧
   (Need (((-9223372036854775808 : Int) ≤ (z3 + (1 : Int))) ∧ ((z3 + (1 : Int)) ≤ (9223372036854775807 : Int))) ∧
   ((y0 ((z2 - y6) + (1 : Int)) (z3 + (1 : Int))) ∧
   Need ((y1 ((z2 - y6) + (1 : Int)) (z3 + (1 : Int))) < (y1 z2 z3))))))))))))) ∧
  (((decide ((List.getD x0 (Int.toNat z3) ((0 : Int), ((0 : Int), ()))).1 = (3 : Int))) = false) →
  ((((decide (z2 < y6)) = true) →
   (Q (.tup [(.tv [] (.int .i64) z3), (.tv [] (.int .i64) (31 : Int))]) [])) ∧
  (((decide (z2 < y6)) = false) →
  (Need (((-9223372036854775808 : Int) ≤ (z2 - y6)) ∧ ((z2 - y6) ≤ (9223372036854775807 : Int))) ∧
  (Need (((-9223372036854775808 : Int) ≤ ((z2 - y6) + (1 : Int))) ∧ (((z2 - y6) + (1 : Int)) ≤ (9223372036854775807 : Int))) ∧
  (Need (((-9223372036854775808 : Int) ≤ (z3 + (1 : Int))) ∧ ((z3 + (1 : Int)) ≤ (9223372036854775807 : Int))) ∧
  ((y0 ((z2 - y6) + (1 : Int)) (z3 + (1 : Int))) ∧
  Need ((y1 ((z2 - y6) + (1 : Int)) (z3 + (1 : Int))) < (y1 z2 z3)))))))))))))))))))))))))))) ∧
 (((decide (z3 < ((List.length x0) : Int))) = false) →
 ((((decide ((0 : Int) < ((List.length x0) : Int))) = true) →
  ((((decide (z2 ≠ (1 : Int))) = true) →
   (Q (.tup [(.tv [] (.int .i64) ((List.length x0) : Int)), (.tv [] (.int .i64) (31 : Int))]) [])) ∧
  (((decide (z2 ≠ (1 : Int))) = false) →
  (Q (.tup [(.tv [] (.int .i64) (0 : Int)), (.tv [] (.int .i64) (0 : Int))]) [])))) ∧
 (((decide ((0 : Int) < ((List.length x0) : Int))) = false) →
 (Q (.tup [(.tv [] (.int .i64) (0 : Int)), (.tv [] (.int .i64) (0 : Int))]) [])))))))))))) : EvF PP orc 21 [.tv [] (.slice (.pair (.int .i64) (.pair (.int .i64) .unit))) x0, .tv [] (.int .i64) x1] [] Q := vcF_ok (sg := sg) (Eq.mp (by kernel_rfl) h)
/-- tronage/tronageref21.Depth -/
theorem vc24 (x0 : List ((Int × (Int × Unit)))) (Q : AV → Heap → Prop) (h :
(∃ y0 : (Int → (Int → (Int → Prop))),
 (∃ y1 : (Int → (Int → (Int → Nat))),
 ((y0 (0 : Int) (0 : Int) (0 : Int)) ∧
 (∀ z2 : Int,
 (∀ z3 : Int,
 (∀ z4 : Int,
 ((y0 z2 z3 z4) →
 ((((decide (z4 < ((List.length x0) : Int))) = true) →
  (Need (((0 : Int) ≤ z4) ∧ (z4 < ((List.length x0) : Int))) ∧
  (∃ y7 : Int,
  (Need (E 33 [(.tv [] (.int .i64) (List.getD x0 (Int.toNat z4) ((0 : Int), ((0 : Int), ()))).1)] [] (.tv [] (.int .i64) y7) []) ∧
  ((((decide (y7 < (0 : Int))) = true) →
   (Q (.tv [] (.int .i64) z3) [])) ∧
  (((decide (y7 < (0 : Int))) = false) →
  ((((decide (z2 < y7)) = true) →
   (Q (.tv [] (.int .i64) z3) [])) ∧
  (((decide (z2 < y7)) = false) →
  (Need (((-9223372036854775808 : Int) ≤ (z2 - y7)) ∧ ((z2 - y7) ≤ (9223372036854775807 : Int))) ∧
  (Need (((-9223372036854775808 : Int) ≤ ((z2 - y7) + (1 : Int))) ∧ (((z2 - y7) + (1 : Int)) ≤ (9223372036854775807 : Int))) ∧
  (Need (((-9223372036854775808 : Int) ≤ (z4 + (1 : Int))) ∧ ((z4 + (1 : Int)) ≤ (9223372036854775807 : Int))) ∧
  ((y0 ((z2 - y7) + (1 : Int)) (max z3 ((z2 - y7) + (1 : Int))) (z4 + (1 : Int))) ∧
  Need ((y1 ((z2 - y7) + (1 : Int)) (max z3 ((z2 - y7) + (1 : Int))) (z4 + (1 : Int))) < (y1 z2 z3 z4)))))))))))))) ∧
 (((decide (z4 < ((List.length x0) : Int))) = false) →
 (Q (.tv [] (.int .i64) z3) []))))))))))) : EvF PP orc 24 [.tv [] (.slice (.pair (.int .i64) (.pair (.int .i64) .unit))) x0] [] Q := vcF_ok (sg := sg) (Eq.mp (by kernel_rfl) h)
/-- tronage/tronagelaw21.CodeChecks -/
theorem vc7 (x0 : List ((Int × (Int × Unit)))) (x1 : Int) (x2 : List (Int)) (Q : AV → Heap → Prop) (h :
(∃ y0 : Bool,
 (Need (E 9 [] [] (.tv [] .bool y0) []) ∧
 ((((decide ((60 : Int) < ((List.length x0) : Int))) = true) →
  (Q (.tv [] .bool y0) [])) ∧
 (((decide ((60 : Int) < ((List.length x0) : Int))) = false) →
 ((((decide ((200 : Int) < ((List.length x2) : Int))) = true) →
  (Q (.tv [] .bool y0) [])) ∧
 (((decide ((200 : Int) < ((List.length x2) : Int))) = false) →
 (∃ y5 : Int,
 (∃ y6 : Int,
 (Need (E 14 [(.tv [] (.slice (.pair (.int .i64) (.pair (.int .i64) .unit))) x0), (.tv [] (.int .i64) x1)] [] (.tup [(.tv [] (.int .i64) y5), (.tv [] (.int .i64) y6)]) []) ∧
 (∃ y7 : Int,
 (∃ y8 : Int,
 (Need (E 21 [(.tv [] (.slice (.pair (.int .i64) (.pair (.int .i64) .unit))) x0), (.tv [] (.int .i64) x1)] [] (.tup [(.tv [] (.int .i64) y7), (.tv [] (.int .i64) y8)]) []) ∧
 (∃ y9 : (List (Prod Int (Prod Int PUnit))),
 (∃ y10 : Int,
 (Need (E 22 [(.tv [] (.slice (.int .u8)) x2)] [] (.tup [(.tv [] (.slice (.pair (.int .i64) (.pair (.int .i64) .unit))) y9), (.tv [] (.int .i64) y10)]) []) ∧
 (∃ y11 : (List (Prod Int (Prod Int PUnit))),
 (∃ y12 : Int,
 (Need (E 23 [(.tv [] (.slice (.int .u8)) x2)] [] (.tup [(.tv [] (.slice (.pair (.int .i64) (.pair (.int .i64) .unit))) y11), (.tv [] (.int .i64) y12)]) []) ∧
 (((y0 = true) →
  ((((decide (y5 = y7)) = true) →
   ((((decide (y6 = y8)) = true) →
    (∃ y16 : Int,
    (Need (E 20 [(.tv [] (.slice (.pair (.int .i64) (.pair (.int .i64) .unit))) x0)] [] (.tv [] (.int .i64) y16) []) ∧
    (∃ y17 : Int,
    (Need (E 24 [(.tv [] (.slice (.pair (.int .i64) (.pair (.int .i64) .unit))) x0)] [] (.tv [] (.int .i64) y17) []) ∧
    ((((decide (y16 = y17)) = true) →
     (∃ y19 : (List Int),
     (Need (E 25 [(.tv [] (.slice (.pair (.int .i64) (.pair (.int .i64) .unit))) x0)] [] (.tv [[]] (.slice (.int .u8)) y19) []) ∧
     (∃ y20 : (List Int),
     (Need (E 26 [(.tv [] (.slice (.pair (.int .i64) (.pair (.int .i64) .unit))) x0)] [] (.tv [[]] (.slice (.int .u8)) y20) []) ∧
     ((((decide (y19 = y20)) = true) →
      (∃ y22 : Bool,
      (Need (E 11 [(.tv [] (.slice (.pair (.int .i64) (.pair (.int .i64) .unit))) y9), (.tv [] (.slice (.pair (.int .i64) (.pair (.int .i64) .unit))) y11)] [] (.tv [] .bool y22) []) ∧
      (((y22 = true) →
       (Q (.tv [] .bool (decide (y10 = y12))) [])) ∧
      ((y22 = false) →
      (Q (.tv [] .bool false) [])))))) ∧
     (((decide (y19 = y20)) = false) →
     (Q (.tv [] .bool false) [])))))))) ∧
    (((decide (y16 = y17)) = false) →
    (Q (.tv [] .bool false) [])))))))) ∧
   (((decide (y6 = y8)) = false) →
   (Q (.tv [] .bool false) [])))) ∧
  (((decide (y5 = y7)) = false) →
  (Q (.tv [] .bool false) [])))) ∧
 ((y0 = false) →
 (Q (.tv [] .bool false) [])))))))))))))))))))))) : EvF PP orc 7 [.tv [] (.slice (.pair (.int .i64) (.pair (.int .i64) .unit))) x0, .tv [] (.int .i64) x1, .tv [] (.slice (.int .u8)) x2] [] Q := vcF_ok (sg := sg) (Eq.mp (by kernel_rfl) h)
/-- tronage/tronagelaw21.CodeBytes -/
theorem vc8 (x0 : List ((Int × (Int × Unit)))) (x1 : List (Int)) (Q : AV → Heap → Prop) (h :
(∃ y0 : Bool,
 (Need (E 9 [] [] (.tv [] .bool y0) []) ∧
 ((((decide ((60 : Int) < ((List.length x0) : Int))) = true) →
  (Q (.tv [] .bool y0) [])) ∧
 (((decide ((60 : Int) < ((List.length x0) : Int))) = false) →
 ((((decide ((200 : Int) < ((List.length x1) : Int))) = true) →
  (Q (.tv [] .bool y0) [])) ∧
 (((decide ((200 : Int) < ((List.length x1) : Int))) = false) →
 (∃ y5 : (Bool → (Int → Prop)),
 (∃ y6 : (Bool → (Int → Nat)),
 ((y5 true (0 : Int)) ∧
 (∀ z7 : Bool,
 (∀ z8 : Int,
 ((y5 z7 z8) →
 ((((decide (z8 < ((List.length x0) : Int))) = true) →
  (((z7 = true) →
   (Need (((0 : Int) ≤ z8) ∧ (z8 < ((List.length x0) : Int))) ∧
   ((((decide ((1 : Int) ≤ (List.getD x0 (Int.toNat z8) ((0 : Int), ((0 : Int), ()))).1)) = true) →
    (Need (((0 : Int) ≤ z8) ∧ (z8 < ((List.length x0) : Int))) ∧
    ((((decide ((List.getD x0 (Int.toNat z8) ((0 : Int), ((0 : Int), ()))).1 ≤ (9 : Int))) = true) →
     (Need (((0 : Int) ≤ z8) ∧ (z8 < ((List.length x0) : Int))) ∧
     ((((decide ((List.getD x0 (Int.toNat z8) ((0 : Int), ((0 : Int), ()))).1 ≤ (3 : Int))) = true) →
      (Need (((-9223372036854775808 : Int) ≤ (z8 + (1 : Int))) ∧ ((z8 + (1 : Int)) ≤ (9223372036854775807 : Int))) ∧
      ((y5 true (z8 + (1 : Int))) ∧
      Need ((y6 true (z8 + (1 : Int))) < (y6 z7 z8))))) ∧
     (((decide ((List.getD x0 (Int.toNat z8) ((0 : Int), ((0 : Int), ()))).1 ≤ (3 : Int))) = false) →
     (Need (((0 : Int) ≤ z8) ∧ (z8 < ((List.length x0) : Int))) ∧
     (Need (((-9223372036854775808 : Int) ≤ (z8 + (1 : Int))) ∧ ((z8 + (1 : Int)) ≤ (9223372036854775807 : Int))) ∧
     ((y5 (decide ((List.getD x0 (Int.toNat z8) ((0 : Int), ((0 : Int), ()))).2.1 = (0 : Int))) (z8 + (1 : Int))) ∧
     Need ((y6 (decide ((List.getD x0 (Int.toNat z8) ((0 : Int), ((0 : Int), ()))).2.1 = (0 : Int))) (z8 + (1 : Int))) < (y6 z7 z8))))))))) ∧
    (((decide ((List.getD x0 (Int.toNat z8) ((0 : Int), ((0 : Int), ()))).1 ≤ (9 : Int))) = false) →
    (Need (((-9223372036854775808 : Int) ≤ (z8 + (1 : Int))) ∧ ((z8 + (1 : Int)) ≤ (9223372036854775807 : Int))) ∧
    ((y5 false (z8 + (1 : Int))) ∧
    Need ((y6 false (z8 + (1 : Int))) < (y6 z7 z8)))))))) ∧
   (((decide ((1 : Int) ≤ (List.getD x0 (Int.toNat z8) ((0 : Int), ((0 : Int), ()))).1)) = false) →
   (Need (((-9223372036854775808 : Int) ≤ (z8 + (1 : Int))) ∧ ((z8 + (1 : Int)) ≤ (9223372036854775807 : Int))) ∧
   ((y5 false (z8 + (1 : Int))) ∧
   Need ((y6 false (z8 + (1 : Int))) < (y6 z7 z8)))))))) ∧
  ((z7 = false) →
  (Need (((-9223372036854775808 : Int) ≤ (z8 + (1 : Int))) ∧ ((z8 + (1 : Int)) ≤ (9223372036854775807 : Int))) ∧
  ((y5 false (z8 + (1 : Int))) ∧
  Need ((y6 false (z8 + (1 : Int))) < (y6 z7 z8))))))) ∧
 (((decide (z8 < ((List.length x0) : Int))) = false) →
 (∃ y20 : (List Int),
 (Need (E 25 [(.tv [] (.slice (.pair (.int .i64) (.pair (.int .i64) .unit))) x0)] [] (.tv [[]] (.slice (.int .u8)) y20) []) ∧
 (∃ y21 : (List (Prod Int (Prod Int PUnit))),
 (∃ y22 : Int,
 (Need (E 22 [(.tv [] (.slice (.int .u8)) y20)] [] (.tup [(.tv [] (.slice (.pair (.int .i64) (.pair (.int .i64) .unit))) y21), (.tv [] (.int .i64) y22)]) []) ∧
 (((z7 = true) →
  ((((decide (y22 ≠ (0 : Int))) = true) →
   (Q (.tv [] .bool false) [])) ∧
  (((decide (y22 ≠ (0 : Int))) = false) →
  (∃ y26 : Bool,
  (Need (E 11 [(.tv [] (.slice (.pair (.int .i64) (.pair (.int .i64) .unit))) x0), (.tv [] (.slice (.pair (.int .i64) (.pair (.int .i64) .unit))) y21)] [] (.tv [] .bool y26) []) ∧
  ((((!y26) = true) →
   (Q (.tv [] .bool false) [])) ∧
  (((!y26) = false) →
  (∃ y29 : (List (Prod Int (Prod Int PUnit))),
  (∃ y30 : Int,
  (Need (E 22 [(.tv [] (.slice (.int .u8)) x1)] [] (.tup [(.tv [] (.slice (.pair (.int .i64) (.pair (.int .i64) .unit))) y29), (.tv [] (.int .i64) y30)]) []) ∧
  ((((decide (y30 ≠ (0 : Int))) = true) →
   (((y0 = true) →
    ((((decide (((List.length y29) : Int) = (0 : Int))) = true) →
     (Q (.tv [] .bool (decide (y30 = (31 : Int)))) [])) ∧
    (((decide (((List.length y29) : Int) = (0 : Int))) = false) →
    (Q (.tv [] .bool false) [])))) ∧
   ((y0 = false) →
   (Q (.tv [] .bool false) [])))) ∧
  (((decide (y30 ≠ (0 : Int))) = false) →
  (((y0 = true) →
   (∃ y38 : (List Int),
   (Need (E 25 [(.tv [] (.slice (.pair (.int .i64) (.pair (.int .i64) .unit))) y29)] [] (.tv [[]] (.slice (.int .u8)) y38) []) ∧
   (Q (.tv [] .bool (decide (y38 = x1))) [])))) ∧
  ((y0 = false) →
  (Q (.tv [] .bool false) []))))))))))))))) ∧
 ((z7 = false) →
 (∃ y41 : (List (Prod Int (Prod Int PUnit))),
 (∃ y42 : Int,
 (Need (E 22 [(.tv [] (.slice (.int .u8)) x1)] [] (.tup [(.tv [] (.slice (.pair (.int .i64) (.pair (.int .i64) .unit))) y41), (.tv [] (.int .i64) y42)]) []) ∧
 ((((decide (y42 ≠ (0 : Int))) = true) →
  (((y0 = true) →
   ((((decide (((List.length y41) : Int) = (0 : Int))) = true) →
    (Q (.tv [] .bool (decide (y42 = (31 : Int)))) [])) ∧
   (((decide (((List.length y41) : Int) = (0 : Int))) = false) →
   (Q (.tv [] .bool false) [])))) ∧
  ((y0 = false) →
  (Q (.tv [] .bool false) [])))) ∧
 (((decide (y42 ≠ (0 : Int))) = false) →
 (((y0 = true) →
  (∃ y50 : (List Int),
  (Need (E 25 [(.tv [] (.slice (.pair (.int .i64) (.pair (.int .i64) .unit))) y41)] [] (.tv [[]] (.slice (.int .u8)) y50) []) ∧
  (Q (.tv [] .bool (decide (y50 = x1))) [])))) ∧
 ((y0 = false) →
 (Q (.tv [] .bool false) [])))))))))))))))))))))))))))))) : EvF PP orc 8 [.tv [] (.slice (.pair (.int .i64) (.pair (.int .i64) .unit))) x0, .tv [] (.slice (.int .u8)) x1] [] Q := vcF_ok (sg := sg) (Eq.mp (by kernel_rfl) h)
end Go.Am.R
