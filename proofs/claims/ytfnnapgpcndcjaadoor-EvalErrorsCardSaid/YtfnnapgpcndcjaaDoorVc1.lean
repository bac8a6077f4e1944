/-
  A part of the proof of a law: see the text that states it.
-/
import Derived.Test.YtfnnapgpcndcjaaDoorHead
set_option linter.all false
namespace Go.Am.V
open Go
set_option maxRecDepth 100000
set_option maxHeartbeats 4000000
/-- tronage/tronageref20.Few -/
theorem vc10 (x0 : XT) (x1 : Int) (x2 : Int) (Q : AV → Heap → Prop) (h :
((((decide (x1 ≤ (0 : Int))) = true) →
  (Q (.tv [] (.int .i64) (-(1 : Int))) [])) ∧
 (((decide (x1 ≤ (0 : Int))) = false) →
 ((((decide (x2 ≤ (0 : Int))) = true) →
  (Q (.tv [] (.int .i64) (-(1 : Int))) [])) ∧
 (((decide (x2 ≤ (0 : Int))) = false) →
 (Need (((-9223372036854775808 : Int) ≤ (x1 - (1 : Int))) ∧ ((x1 - (1 : Int)) ≤ (9223372036854775807 : Int))) ∧
 (∃ y4 : (Int → (Int → Prop)),
 (∃ y5 : (Int → (Int → Nat)),
 ((y4 (x1 - (1 : Int)) (0 : Int)) ∧
 (∀ z6 : Int,
 (∀ z7 : Int,
 ((y4 z6 z7) →
 ((((decide (z7 < ((List.length (XT.kids x0)) : Int))) = true) →
  (Need (((0 : Int) ≤ z7) ∧ (z7 < ((List.length (XT.kids x0)) : Int))) ∧
  (Need (((-9223372036854775808 : Int) ≤ (x2 - (1 : Int))) ∧ ((x2 - (1 : Int)) ≤ (9223372036854775807 : Int))) ∧
  (∃ y10 : Int,
  (Need (E 10 [(.tv [] .expr (List.getD (XT.kids x0) (Int.toNat z7) (XT.mk (0 : Int) (0 : Int) []))), (.tv [] (.int .i64) z6), (.tv [] (.int .i64) (x2 - (1 : Int)))] [] (.tv [] (.int .i64) y10) []) ∧
  ((((decide (y10 < (0 : Int))) = true) →
   (Q (.tv [] (.int .i64) (-(1 : Int))) [])) ∧
  (((decide (y10 < (0 : Int))) = false) →
  (Need (((-9223372036854775808 : Int) ≤ (z7 + (1 : Int))) ∧ ((z7 + (1 : Int)) ≤ (9223372036854775807 : Int))) ∧
  (Need (x0 = x0) ∧
  ((y4 y10 (z7 + (1 : Int))) ∧
  Need ((y5 y10 (z7 + (1 : Int))) < (y5 z6 z7)))))))))))) ∧
 (((decide (z7 < ((List.length (XT.kids x0)) : Int))) = false) →
 (Q (.tv [] (.int .i64) z6) []))))))))))))))) : EvF PP orc 10 [.tv [] .expr x0, .tv [] (.int .i64) x1, .tv [] (.int .i64) x2] [] Q := vcF_ok (sg := sg) (Eq.mp (by kernel_rfl) h)
/-- tronage/tronageref21.Compile -/
theorem vc12 (x0 : XT) (Q : AV → Heap → Prop) (h :
(∃ y0 : Bool,
 (Need (E 23 [(.tv [] .expr x0)] [] (.tv [] .bool y0) []) ∧
 ((((decide ((XT.kind x0) = (0 : Int))) = true) →
  (Q (.tv [[]] (.slice (.pair (.int .i64) (.pair (.int .i64) .unit))) []) [])) ∧
 (((decide ((XT.kind x0) = (0 : Int))) = false) →
 ((((!y0) = true) →
  (Q (.tv [[]] (.slice (.pair (.int .i64) (.pair (.int .i64) .unit))) []) [])) ∧
 (((!y0) = false) →
 (∃ y5 : ((List (Prod Int (Prod Int PUnit))) → (Int → Prop)),
 (∃ y6 : ((List (Prod Int (Prod Int PUnit))) → (Int → Nat)),
 ((y5 [] (0 : Int)) ∧
 (∀ z7 : (List (Prod Int (Prod Int PUnit))),
 (∀ z8 : Int,
 ((y5 z7 z8) →
 ((((decide (z8 < ((List.length (XT.kids x0)) : Int))) = true) →
  (Need (((0 : Int) ≤ z8) ∧ (z8 < ((List.length (XT.kids x0)) : Int))) ∧
  (∃ y11 : (List (Prod Int (Prod Int PUnit))),
  (Need (E 12 [(.tv [] .expr (List.getD (XT.kids x0) (Int.toNat z8) (XT.mk (0 : Int) (0 : Int) [])))] [] (.tv [[]] (.slice (.pair (.int .i64) (.pair (.int .i64) .unit))) y11) []) ∧
  (Need (((List.length z7) + (List.length y11)) ≤ bigN) ∧
  (Need (((-9223372036854775808 : Int) ≤ (z8 + (1 : Int))) ∧ ((z8 + (1 : Int)) ≤ (9223372036854775807 : Int))) ∧
  (Need (x0 = x0) ∧
  ((y5 (z7 ++ y11) (z8 + (1 : Int))) ∧
  Need ((y6 (z7 ++ y11) (z8 + (1 : Int))) < (y6 z7 z8)))))))))) ∧
 (((decide (z8 < ((List.length (XT.kids x0)) : Int))) = false) →
 (Need (((List.length z7) + (List.length [((XT.kind x0), ((XT.num x0), ()))])) ≤ bigN) ∧
 (Q (.tv [[]] (.slice (.pair (.int .i64) (.pair (.int .i64) .unit))) (z7 ++ [((XT.kind x0), ((XT.num x0), ()))])) []))))))))))))))))) : EvF PP orc 12 [.tv [] .expr x0] [] Q := vcF_ok (sg := sg) (Eq.mp (by kernel_rfl) h)
/-- tronage/tronageref21.Check -/
theorem vc14 (x0 : List ((Int × (Int × Unit)))) (x1 : Int) (Q : AV → Heap → Prop) (h :
(∃ y0 : (Int → (Int → Prop)),
 (∃ y1 : (Int → (Int → Nat)),
 ((y0 (0 : Int) (0 : Int)) ∧
 (∀ z2 : Int,
 (∀ z3 : Int,
 ((y0 z2 z3) →
 ((((decide (z3 < ((List.length x0) : Int))) = true) →
  (Need (((0 : Int) ≤ z3) ∧ (z3 < ((List.length x0) : Int))) ∧
  (∃ y6 : Int,
  (Need (E 26 [(.tv [] (.int .i64) (List.getD x0 (Int.toNat z3) ((0 : Int), ((0 : Int), ()))).1)] [] (.tv [] (.int .i64) y6) []) ∧
  (Need (((0 : Int) ≤ z3) ∧ (z3 < ((List.length x0) : Int))) ∧
  ((((decide (y6 < (0 : Int))) = true) →
   (Q (.tup [(.tv [] (.int .i64) z3), (.tv [] (.int .i64) (31 : Int))]) [])) ∧
  (((decide (y6 < (0 : Int))) = false) →
  ((((decide ((List.getD x0 (Int.toNat z3) ((0 : Int), ((0 : Int), ()))).2.1 < (0 : Int))) = true) →
   (Q (.tup [(.tv [] (.int .i64) z3), (.tv [] (.int .i64) (31 : Int))]) [])) ∧
  (((decide ((List.getD x0 (Int.toNat z3) ((0 : Int), ((0 : Int), ()))).2.1 < (0 : Int))) = false) →
  ((((decide ((999999999999999999 : Int) < (List.getD x0 (Int.toNat z3) ((0 : Int), ((0 : Int), ()))).2.1)) = true) →
   (Q (.tup [(.tv [] (.int .i64) z3), (.tv [] (.int .i64) (31 : Int))]) [])) ∧
  (((decide ((999999999999999999 : Int) < (List.getD x0 (Int.toNat z3) ((0 : Int), ((0 : Int), ()))).2.1)) = false) →
  (Need (((0 : Int) ≤ z3) ∧ (z3 < ((List.length x0) : Int))) ∧
  ((((decide ((3 : Int) < (List.getD x0 (Int.toNat z3) ((0 : Int), ((0 : Int), ()))).1)) = true) →
   ((((decide ((List.getD x0 (Int.toNat z3) ((0 : Int), ((0 : Int), ()))).2.1 ≠ (0 : Int))) = true) →
    (Q (.tup [(.tv [] (.int .i64) z3), (.tv [] (.int .i64) (31 : Int))]) [])) ∧
   (((decide ((List.getD x0 (Int.toNat z3) ((0 : Int), ((0 : Int), ()))).2.1 ≠ (0 : Int))) = false) →
   (Need (((0 : Int) ≤ z3) ∧ (z3 < ((List.length x0) : Int))) ∧
   ((((decide ((List.getD x0 (Int.toNat z3) ((0 : Int), ((0 : Int), ()))).1 = (2 : Int))) = true) →
    ((((decide ((List.getD x0 (Int.toNat z3) ((0 : Int), ((0 : Int), ()))).2.1 = (0 : Int))) = true) →
     (Q (.tup [(.tv [] (.int .i64) z3), (.tv [] (.int .i64) (31 : Int))]) [])) ∧
    (((decide ((List.getD x0 (Int.toNat z3) ((0 : Int), ((0 : Int), ()))).2.1 = (0 : Int))) = false) →
    ((((decide (x1 < (List.getD x0 (Int.toNat z3) ((0 : Int), ((0 : Int), ()))).2.1)) = true) →
     (Q (.tup [(.tv [] (.int .i64) z3), (.tv [] (.int .i64) (31 : Int))]) [])) ∧
    (((decide (x1 < (List.getD x0 (Int.toNat z3) ((0 : Int), ((0 : Int), ()))).2.1)) = false) →
    ((((decide (z2 < y6)) = true) →
     (Q (.tup [(.tv [] (.int .i64) z3), (.tv [] (.int .i64) (31 : Int))]) [])) ∧
    (((decide (z2 < y6)) = false) →
    (Need (((-9223372036854775808 : Int) ≤ (z2 - y6)) ∧ ((z2 - y6) ≤ (9223372036854775807 : Int))) ∧
    (Need (((-9223372036854775808 : Int) ≤ ((z2 - y6) + (1 : Int))) ∧ (((z2 - y6) + (1 : Int)) ≤ (9223372036854775807 : Int))) ∧
    (Need (((-9223372036854775808 : Int) ≤ (z3 + (1 : Int))) ∧ ((z3 + (1 : Int)) ≤ (9223372036854775807 : Int))) ∧
    ((y0 ((z2 - y6) + (1 : Int)) (z3 + (1 : Int))) ∧
    Need ((y1 ((z2 - y6) + (1 : Int)) (z3 + (1 : Int))) < (y1 z2 z3))))))))))))) ∧
   (((decide ((List.getD x0 (Int.toNat z3) ((0 : Int), ((0 : Int), ()))).1 = (2 : Int))) = false) →
   (Need (((0 : Int) ≤ z3) ∧ (z3 < ((List.length x0) : Int))) ∧
   ((((decide ((List.getD x0 (Int.toNat z3) ((0 : Int), ((0 : Int), ()))).1 = (3 : Int))) = true) →
    ((((decide ((List.getD x0 (Int.toNat z3) ((0 : Int), ((0 : Int), ()))).2.1 = (0 : Int))) = true) →
     (Q (.tup [(.tv [] (.int .i64) z3), (.tv [] (.int .i64) (31 : Int))]) [])) ∧
    (((decide ((List.getD x0 (Int.toNat z3) ((0 : Int), ((0 : Int), ()))).2.1 = (0 : Int))) = false) →
    ((((decide (x1 < (List.getD x0 (Int.toNat z3) ((0 : Int), ((0 : Int), ()))).2.1)) = true) →
     (Q (.tup [(.tv [] (.int .i64) z3), (.tv [] (.int .i64) (31 : Int))]) [])) ∧
    (((decide (x1 < (List.getD x0 (Int.toNat z3) ((0 : Int), ((0 : Int), ()))).2.1)) = false) →
    ((((decide (z2 < y6)) = true) →
     (Q (.tup [(.tv [] (.int .i64) z3), (.tv [] (.int .i64) (31 : Int))]) [])) ∧
    (((decide (z2 < y6)) = false) →
    (Need (((-9223372036854775808 : Int) ≤ (z2 - y6)) ∧ ((z2 - y6) ≤ (9223372036854775807 : Int))) ∧
    (Need (((-9223372036854775808 : Int) ≤ ((z2 - y6) + (1 : Int))) ∧ (((z2 - y6) + (1 : Int)) ≤ (9223372036854775807 : Int))) ∧
    (Need (((-9223372036854775808 : Int) ≤ (z3 + (1 : Int))) ∧ ((z3 + (1 : Int)) ≤ (9223372036854775807 : Int))) ∧
    ((y0 ((z2 - y6) + (1 : Int)) (z3 + (1 : Int))) ∧
    Need ((y1 ((z2 - y6) + (1 : Int)) (z3 + (1 : Int))) < (y1 z2 z3))))))))))))) ∧
   (((decide ((List.getD x0 (Int.toNat z3) ((0 : Int), ((0 : Int), ()))).1 = (3 : Int))) = false) →
   ((((decide (z2 < y6)) = true) →
    (Q (.tup [(.tv [] (.int .i64) z3), (.tv [] (.int .i64) (31 : Int))]) [])) ∧
   (((decide (z2 < y6)) = false) →
   (Need (((-9223372036854775808 : Int) ≤ (z2 - y6)) ∧ ((z2 - y6) ≤ (9223372036854775807 : Int))) ∧
   (Need (((-9223372036854775808 : Int) ≤ ((z2 - y6) + (1 : Int))) ∧ (((z2 - y6) + (1 : Int)) ≤ (9223372036854775807 : Int))) ∧
   (Need (((-9223372036854775808 : Int) ≤ (z3 + (1 : Int))) ∧ ((z3 + (1 : Int)) ≤ (9223372036854775807 : Int))) ∧
   ((y0 ((z2 - y6) + (1 : Int)) (z3 + (1 : Int))) ∧
   Need ((y1 ((z2 - y6) + (1 : Int)) (z3 + (1 : Int))) < (y1 z2 z3))))))))))))))))) ∧
  (((decide ((3 : Int) < (List.getD x0 (Int.toNat z3) ((0 : Int), ((0 : Int), ()))).1)) = false) →
  (Need (((0 : Int) ≤ z3) ∧ (z3 < ((List.length x0) : Int))) ∧
  ((((decide ((List.getD x0 (Int.toNat z3) ((0 : Int), ((0 : Int), ()))).1 = (2 : Int))) = true) →
   ((((decide ((List.getD x0 (Int.toNat z3) ((0 : Int), ((0 : Int), ()))).2.1 = (0 : Int))) = true) →
    (Q (.tup [(.tv [] (.int .i64) z3), (.tv [] (.int .i64) (31 : Int))]) [])) ∧
   (((decide ((List.getD x0 (Int.toNat z3) ((0 : Int), ((0 : Int), ()))).2.1 = (0 : Int))) = false) →
   ((((decide (x1 < (List.getD x0 (Int.toNat z3) ((0 : Int), ((0 : Int), ()))).2.1)) = true) →
    (Q (.tup [(.tv [] (.int .i64) z3), (.tv [] (.int .i64) (31 : Int))]) [])) ∧
   (((decide (x1 < (List.getD x0 (Int.toNat z3) ((0 : Int), ((0 : Int), ()))).2.1)) = false) →
   ((((decide (z2 < y6)) = true) →
    (Q (.tup [(.tv [] (.int .i64) z3), (.tv [] (.int .i64) (31 : Int))]) [])) ∧
   (((decide (z2 < y6)) = false) →
   (Need (((-9223372036854775808 : Int) ≤ (z2 - y6)) ∧ ((z2 - y6) ≤ (9223372036854775807 : Int))) ∧
   (Need (((-9223372036854775808 : Int) ≤ ((z2 - y6) + (1 : Int))) ∧ (((z2 - y6) + (1 : Int)) ≤ (9223372036854775807 : Int))) ∧
   (Need (((-9223372036854775808 : Int) ≤ (z3 + (1 : Int))) ∧ ((z3 + (1 : Int)) ≤ (9223372036854775807 : Int))) ∧
   ((y0 ((z2 - y6) + (1 : Int)) (z3 + (1 : Int))) ∧
   Need ((y1 ((z2 - y6) + (1 : Int)) (z3 + (1 : Int))) < (y1 z2 z3))))))))))))) ∧
  (((decide ((List.getD x0 (Int.toNat z3) ((0 : Int), ((0 : Int), ()))).1 = (2 : Int))) = false) →
  (Need (((0 : Int) ≤ z3) ∧ (z3 < ((List.length x0) : Int))) ∧
  ((((decide ((List.getD x0 (Int.toNat z3) ((0 : Int), ((0 : Int), ()))).1 = (3 : Int))) = true) →
   ((((decide ((List.getD x0 (Int.toNat z3) ((0 : Int), ((0 : Int), ()))).2.1 = (0 : Int))) = true) →
    (Q (.tup [(.tv [] (.int .i64) z3), (.tv [] (.int .i64) (31 : Int))]) [])) ∧
   (((decide ((List.getD x0 (Int.toNat z3) ((0 : Int), ((0 : Int), ()))).2.1 = (0 : Int))) = false) →
   ((((decide (x1 < (List.getD x0 (Int.toNat z3) ((0 : Int), ((0 : Int), ()))).2.1)) = true) →
    (Q (.tup [(.tv [] (.int .i64) z3), (.tv [] (.int .i64) (31 : Int))]) [])) ∧
   (((decide (x1 < (List.getD x0 (Int.toNat z3) ((0 : Int), ((0 : Int), ()))).2.1)) = false) →
   ((((decide (z2 < y6)) = true) →
    (Q (.tup [(.tv [] (.int .i64) z3), (.tv [] (.int .i64) (31 : Int))]) [])) ∧
   (((decide (z2 < y6)) = false) →
   (Need (((-9223372036854775808 : Int) ≤ (z2 - y6)) ∧ ((z2 - y6) ≤ (9223372036854775807 : Int))) ∧
   (Need (((-9223372036854775808 : Int) ≤ ((z2 - y6) + (1 : Int))) ∧ (((z2 - y6) + (1 : Int)) ≤ (9223372036854775807 : Int))) ∧
   (Need (((-9223372036854775808 : Int) ≤ (z3 + (1 : Int))) ∧ ((z3 + (1 : Int)) ≤ (9223372036854775807 : Int))) ∧
   ((y0 ((z2 - y6) + (1 : Int)) (z3 + (1 : Int))) ∧
   Need ((y1 ((z2 - y6) + (1 : Int)) (z3 + (1 : Int))) < (y1 z2 z3))))))))))))) ∧
  (((decide ((List.getD x0 (Int.toNat z3) ((0 : Int), ((0 : Int), ()))).1 = (3 : Int))) = false) →
  ((((decide (z2 < y6)) = true) →
   (Q (.tup [(.tv [] (.int .i64) z3), (.tv [] (.int .i64) (31 : Int))]) [])) ∧
  (((decide (z2 < y6)) = false) →
  (Need (((-9223372036854775808 : Int) ≤ (z2 - y6)) ∧ ((z2 - y6) ≤ (9223372036854775807 : Int))) ∧
  (Need (((-9223372036854775808 : Int) ≤ ((z2 - y6) + (1 : Int))) ∧ (((z2 - y6) + (1 : Int)) ≤ (9223372036854775807 : Int))) ∧
  (Need (((-9223372036854775808 : Int) ≤ (z3 + (1 : Int))) ∧ ((z3 + (1 : Int)) ≤ (9223372036854775807 : Int))) ∧
  ((y0 ((z2 - y6) + (1 : Int)) (z3 + (1 : Int))) ∧
  Need ((y1 ((z2 - y6) + (1 : Int)) (z3 + (1 : Int))) < (y1 z2 z3)))))))))))))))))))))))))))) ∧
 (((decide (z3 < ((List.length x0) : Int))) = false) →
 ((((decide ((0 : Int) < ((List.length x0) : Int))) = true) →
  ((((decide (z2 ≠ (1 : Int))) = true) →
   (Q (.tup [(.tv [] (.int .i64) ((List.length x0) : Int)), (.tv [] (.int .i64) (31 : Int))]) [])) ∧
  (((decide (z2 ≠ (1 : Int))) = false) →
  (Q (.tup [(.tv [] (.int .i64) (0 : Int)), (.tv [] (.int .i64) (0 : Int))]) [])))) ∧
 (((decide ((0 : Int) < ((List.length x0) : Int))) = false) →
 (Q (.tup [(.tv [] (.int .i64) (0 : Int)), (.tv [] (.int .i64) (0 : Int))]) [])))))))))))) : EvF PP orc 14 [.tv [] (.slice (.pair (.int .i64) (.pair (.int .i64) .unit))) x0, .tv [] (.int .i64) x1] [] Q := vcF_ok (sg := sg) (Eq.mp (by kernel_rfl) h)
/-- tronage/code.Check -/
theorem vc19 (x0 : List ((Int × (Int × Unit)))) (x1 : Int) (Q : AV → Heap → Prop) (h :
(∃ y0 : (Int → (Int → Prop)),
 (∃ y1 : (Int → (Int → Nat)),
 ((y0 (0 : Int) (0 : Int)) ∧
 (∀ z2 : Int,
 (∀ z3 : Int,
 ((y0 z2 z3) →
 ((((decide (z3 < ((List.length x0) : Int))) = true) →
  (Need (((0 : Int) ≤ z3) ∧ (z3 < ((List.length x0) : Int))) ∧
  (∃ y6 : Bool,
  (Need (E 37 [(.tv [] (.pair (.int .i64) (.pair (.int .i64) .unit)) (List.getD x0 (Int.toNat z3) ((0 : Int), ((0 : Int), ())))), (.tv [] (.int .i64) x1)] [] (.tv [] .bool y6) []) ∧
  ((((!y6) = true) →
   (Q (.tup [(.tv [] (.int .i64) z3), (.tv [] (.int .i64) (31 : Int))]) [])) ∧
  (((!y6) = false) →
  (Need (((0 : Int) ≤ (List.getD x0 (Int.toNat z3) ((0 : Int), ((0 : Int), ()))).1) ∧ ((List.getD x0 (Int.toNat z3) ((0 : Int), ((0 : Int), ()))).1 < (10 : Int))) ∧
  (Need ((Int.toNat (List.getD x0 (Int.toNat z3) ((0 : Int), ((0 : Int), ()))).1) < 10) ∧
  ((((decide (z2 < (List.getD V.takesL (Int.toNat (List.getD x0 (Int.toNat z3) ((0 : Int), ((0 : Int), ()))).1) (0 : Int)))) = true) →
   (Q (.tup [(.tv [] (.int .i64) z3), (.tv [] (.int .i64) (31 : Int))]) [])) ∧
  (((decide (z2 < (List.getD V.takesL (Int.toNat (List.getD x0 (Int.toNat z3) ((0 : Int), ((0 : Int), ()))).1) (0 : Int)))) = false) →
  (Need (((0 : Int) ≤ (List.getD x0 (Int.toNat z3) ((0 : Int), ((0 : Int), ()))).1) ∧ ((List.getD x0 (Int.toNat z3) ((0 : Int), ((0 : Int), ()))).1 < (10 : Int))) ∧
  (Need ((Int.toNat (List.getD x0 (Int.toNat z3) ((0 : Int), ((0 : Int), ()))).1) < 10) ∧
  (Need (((-9223372036854775808 : Int) ≤ ((1 : Int) - (List.getD V.takesL (Int.toNat (List.getD x0 (Int.toNat z3) ((0 : Int), ((0 : Int), ()))).1) (0 : Int)))) ∧ (((1 : Int) - (List.getD V.takesL (Int.toNat (List.getD x0 (Int.toNat z3) ((0 : Int), ((0 : Int), ()))).1) (0 : Int))) ≤ (9223372036854775807 : Int))) ∧
  (Need (((-9223372036854775808 : Int) ≤ (z2 + ((1 : Int) - (List.getD V.takesL (Int.toNat (List.getD x0 (Int.toNat z3) ((0 : Int), ((0 : Int), ()))).1) (0 : Int))))) ∧ ((z2 + ((1 : Int) - (List.getD V.takesL (Int.toNat (List.getD x0 (Int.toNat z3) ((0 : Int), ((0 : Int), ()))).1) (0 : Int)))) ≤ (9223372036854775807 : Int))) ∧
  (Need (((-9223372036854775808 : Int) ≤ (z3 + (1 : Int))) ∧ ((z3 + (1 : Int)) ≤ (9223372036854775807 : Int))) ∧
  ((y0 (z2 + ((1 : Int) - (List.getD V.takesL (Int.toNat (List.getD x0 (Int.toNat z3) ((0 : Int), ((0 : Int), ()))).1) (0 : Int)))) (z3 + (1 : Int))) ∧
  Need ((y1 (z2 + ((1 : Int) - (List.getD V.takesL (Int.toNat (List.getD x0 (Int.toNat z3) ((0 : Int), ((0 : Int), ()))).1) (0 : Int)))) (z3 + (1 : Int))) < (y1 z2 z3)))))))))))))))))) ∧
 (((decide (z3 < ((List.length x0) : Int))) = false) →
 ((((decide ((0 : Int) < ((List.length x0) : Int))) = true) →
  ((((decide (z2 ≠ (1 : Int))) = true) →
   (Q (.tup [(.tv [] (.int .i64) ((List.length x0) : Int)), (.tv [] (.int .i64) (31 : Int))]) [])) ∧
  (((decide (z2 ≠ (1 : Int))) = false) →
  (Q (.tup [(.tv [] (.int .i64) (0 : Int)), (.tv [] (.int .i64) (0 : Int))]) [])))) ∧
 (((decide ((0 : Int) < ((List.length x0) : Int))) = false) →
 (Q (.tup [(.tv [] (.int .i64) (0 : Int)), (.tv [] (.int .i64) (0 : Int))]) [])))))))))))) : EvF PP orc 19 [.tv [] (.slice (.pair (.int .i64) (.pair (.int .i64) .unit))) x0, .tv [] (.int .i64) x1] [] Q := vcF_ok (sg := sg) (Eq.mp (by kernel_rfl) h)
/-- tronage/tronageref20.Right -/
theorem vc23 (x0 : XT) (Q : AV → Heap → Prop) (h :
((((decide ((XT.kind x0) = (0 : Int))) = true) →
  ((((decide ((XT.num x0) = (0 : Int))) = true) →
   ((((decide (((List.length (XT.kids x0)) : Int) = (0 : Int))) = true) →
    (Q (.tv [] .bool true) [])) ∧
   (((decide (((List.length (XT.kids x0)) : Int) = (0 : Int))) = false) →
   (∃ y4 : Bool,
   (Need (E 43 [(.tv [] .expr x0)] [] (.tv [] .bool y4) []) ∧
   (Q (.tv [] .bool y4) [])))))) ∧
  (((decide ((XT.num x0) = (0 : Int))) = false) →
  (∃ y6 : Bool,
  (Need (E 43 [(.tv [] .expr x0)] [] (.tv [] .bool y6) []) ∧
  (Q (.tv [] .bool y6) [])))))) ∧
 (((decide ((XT.kind x0) = (0 : Int))) = false) →
 (∃ y8 : Bool,
 (Need (E 43 [(.tv [] .expr x0)] [] (.tv [] .bool y8) []) ∧
 (Q (.tv [] .bool y8) [])))))) : EvF PP orc 23 [.tv [] .expr x0] [] Q := vcF_ok (sg := sg) (Eq.mp (by kernel_rfl) h)
/-- tronage/tronageref21.Takes -/
theorem vc26 (x0 : Int) (Q : AV → Heap → Prop) (h :
((((decide (x0 = (1 : Int))) = true) →
  (Q (.tv [] (.int .i64) (0 : Int)) [])) ∧
 (((decide (x0 = (1 : Int))) = false) →
 ((((decide (x0 = (2 : Int))) = true) →
  (Q (.tv [] (.int .i64) (0 : Int)) [])) ∧
 (((decide (x0 = (2 : Int))) = false) →
 ((((decide (x0 = (3 : Int))) = true) →
  (Q (.tv [] (.int .i64) (0 : Int)) [])) ∧
 (((decide (x0 = (3 : Int))) = false) →
 ((((decide (x0 = (4 : Int))) = true) →
  (Q (.tv [] (.int .i64) (1 : Int)) [])) ∧
 (((decide (x0 = (4 : Int))) = false) →
 ((((decide (x0 = (5 : Int))) = true) →
  (Q (.tv [] (.int .i64) (2 : Int)) [])) ∧
 (((decide (x0 = (5 : Int))) = false) →
 ((((decide (x0 = (6 : Int))) = true) →
  (Q (.tv [] (.int .i64) (2 : Int)) [])) ∧
 (((decide (x0 = (6 : Int))) = false) →
 ((((decide (x0 = (7 : Int))) = true) →
  (Q (.tv [] (.int .i64) (2 : Int)) [])) ∧
 (((decide (x0 = (7 : Int))) = false) →
 ((((decide (x0 = (8 : Int))) = true) →
  (Q (.tv [] (.int .i64) (2 : Int)) [])) ∧
 (((decide (x0 = (8 : Int))) = false) →
 ((((decide (x0 = (9 : Int))) = true) →
  (Q (.tv [] (.int .i64) (2 : Int)) [])) ∧
 (((decide (x0 = (9 : Int))) = false) →
 (Q (.tv [] (.int .i64) (-(1 : Int))) [])))))))))))))))))))) : EvF PP orc 26 [.tv [] (.int .i64) x0] [] Q := vcF_ok (sg := sg) (Eq.mp (by kernel_rfl) h)
/-- tronage/code.fits -/
theorem vc37 (x0_0 : Int) (x0_1 : Int) (x1 : Int) (Q : AV → Heap → Prop) (h :
(∃ y0 : Bool,
 (Need (E 51 [(.tv [] (.int .i64) x0_0)] [] (.tv [] .bool y0) []) ∧
 ((((!y0) = true) →
  (Q (.tv [] .bool false) [])) ∧
 (((!y0) = false) →
 ((((decide (x0_1 < (0 : Int))) = true) →
  (Q (.tv [] .bool false) [])) ∧
 (((decide (x0_1 < (0 : Int))) = false) →
 ((((decide ((999999999999999999 : Int) < x0_1)) = true) →
  (Q (.tv [] .bool false) [])) ∧
 (((decide ((999999999999999999 : Int) < x0_1)) = false) →
 (∃ y7 : Bool,
 (Need (E 52 [(.tv [] (.int .i64) x0_0)] [] (.tv [] .bool y7) []) ∧
 ((((!y7) = true) →
  ((((decide (x0_1 ≠ (0 : Int))) = true) →
   (Q (.tv [] .bool false) [])) ∧
  (((decide (x0_1 ≠ (0 : Int))) = false) →
  ((((decide (x0_0 = (2 : Int))) = true) →
   ((((decide ((0 : Int) < x0_1)) = true) →
    (Q (.tv [] .bool (decide (x0_1 ≤ x1))) [])) ∧
   (((decide ((0 : Int) < x0_1)) = false) →
   (Q (.tv [] .bool false) [])))) ∧
  (((decide (x0_0 = (2 : Int))) = false) →
  ((((decide (x0_0 = (3 : Int))) = true) →
   ((((decide ((0 : Int) < x0_1)) = true) →
    (Q (.tv [] .bool (decide (x0_1 ≤ x1))) [])) ∧
   (((decide ((0 : Int) < x0_1)) = false) →
   (Q (.tv [] .bool false) [])))) ∧
  (((decide (x0_0 = (3 : Int))) = false) →
  (Q (.tv [] .bool true) [])))))))) ∧
 (((!y7) = false) →
 ((((decide (x0_0 = (2 : Int))) = true) →
  ((((decide ((0 : Int) < x0_1)) = true) →
   (Q (.tv [] .bool (decide (x0_1 ≤ x1))) [])) ∧
  (((decide ((0 : Int) < x0_1)) = false) →
  (Q (.tv [] .bool false) [])))) ∧
 (((decide (x0_0 = (2 : Int))) = false) →
 ((((decide (x0_0 = (3 : Int))) = true) →
  ((((decide ((0 : Int) < x0_1)) = true) →
   (Q (.tv [] .bool (decide (x0_1 ≤ x1))) [])) ∧
  (((decide ((0 : Int) < x0_1)) = false) →
  (Q (.tv [] .bool false) [])))) ∧
 (((decide (x0_0 = (3 : Int))) = false) →
 (Q (.tv [] .bool true) [])))))))))))))))))) : EvF PP orc 37 [.tv [] (.pair (.int .i64) (.pair (.int .i64) .unit)) (x0_0, (x0_1, ())), .tv [] (.int .i64) x1] [] Q := vcF_ok (sg := sg) (Eq.mp (by kernel_rfl) h)
/-- tronage/tronageref20.sure -/
theorem vc43 (x0 : XT) (Q : AV → Heap → Prop) (h :
((((decide ((XT.kind x0) < (1 : Int))) = true) →
  (Q (.tv [] .bool false) [])) ∧
 (((decide ((XT.kind x0) < (1 : Int))) = false) →
 ((((decide ((9 : Int) < (XT.kind x0))) = true) →
  (Q (.tv [] .bool false) [])) ∧
 (((decide ((9 : Int) < (XT.kind x0))) = false) →
 ((((decide ((XT.num x0) < (0 : Int))) = true) →
  (Q (.tv [] .bool false) [])) ∧
 (((decide ((XT.num x0) < (0 : Int))) = false) →
 ((((decide ((999999999999999999 : Int) < (XT.num x0))) = true) →
  (Q (.tv [] .bool false) [])) ∧
 (((decide ((999999999999999999 : Int) < (XT.num x0))) = false) →
 ((((decide ((XT.kind x0) = (4 : Int))) = true) →
  ((((decide ((4 : Int) < (XT.kind x0))) = true) →
   ((((decide (((List.length (XT.kids x0)) : Int) ≠ (2 : Int))) = true) →
    (Q (.tv [] .bool false) [])) ∧
   (((decide (((List.length (XT.kids x0)) : Int) ≠ (2 : Int))) = false) →
   ((((decide ((0 : Int) < (2 : Int))) = true) →
    ((((decide ((XT.num x0) ≠ (0 : Int))) = true) →
     (Q (.tv [] .bool false) [])) ∧
    (((decide ((XT.num x0) ≠ (0 : Int))) = false) →
    (∃ y15 : (Int → Prop),
    (∃ y16 : (Int → Nat),
    ((y15 (0 : Int)) ∧
    (∀ z17 : Int,
    ((y15 z17) →
    ((((decide (z17 < (2 : Int))) = true) →
     (Need (((0 : Int) ≤ z17) ∧ (z17 < ((List.length (XT.kids x0)) : Int))) ∧
     (∃ y20 : Bool,
     (Need (E 43 [(.tv [] .expr (List.getD (XT.kids x0) (Int.toNat z17) (XT.mk (0 : Int) (0 : Int) [])))] [] (.tv [] .bool y20) []) ∧
     ((((!y20) = true) →
      (Q (.tv [] .bool false) [])) ∧
     (((!y20) = false) →
     (Need (((-9223372036854775808 : Int) ≤ (z17 + (1 : Int))) ∧ ((z17 + (1 : Int)) ≤ (9223372036854775807 : Int))) ∧
     (Need (x0 = x0) ∧
     ((y15 (z17 + (1 : Int))) ∧
     Need ((y16 (z17 + (1 : Int))) < (y16 z17))))))))))) ∧
    (((decide (z17 < (2 : Int))) = false) →
    (Q (.tv [] .bool true) []))))))))))) ∧
   (((decide ((0 : Int) < (2 : Int))) = false) →
   (∃ y25 : (Int → Prop),
   (∃ y26 : (Int → Nat),
   ((y25 (0 : Int)) ∧
   (∀ z27 : Int,
   ((y25 z27) →
   ((((decide (z27 < (2 : Int))) = true) →
    (Need (((0 : Int) ≤ z27) ∧ (z27 < ((List.length (XT.kids x0)) : Int))) ∧
    (∃ y30 : Bool,
    (Need (E 43 [(.tv [] .expr (List.getD (XT.kids x0) (Int.toNat z27) (XT.mk (0 : Int) (0 : Int) [])))] [] (.tv [] .bool y30) []) ∧
    ((((!y30) = true) →
     (Q (.tv [] .bool false) [])) ∧
    (((!y30) = false) →
    (Need (((-9223372036854775808 : Int) ≤ (z27 + (1 : Int))) ∧ ((z27 + (1 : Int)) ≤ (9223372036854775807 : Int))) ∧
    (Need (x0 = x0) ∧
    ((y25 (z27 + (1 : Int))) ∧
    Need ((y26 (z27 + (1 : Int))) < (y26 z27))))))))))) ∧
   (((decide (z27 < (2 : Int))) = false) →
   (Q (.tv [] .bool true) []))))))))))))) ∧
  (((decide ((4 : Int) < (XT.kind x0))) = false) →
  ((((decide (((List.length (XT.kids x0)) : Int) ≠ (1 : Int))) = true) →
   (Q (.tv [] .bool false) [])) ∧
  (((decide (((List.length (XT.kids x0)) : Int) ≠ (1 : Int))) = false) →
  ((((decide ((0 : Int) < (1 : Int))) = true) →
   ((((decide ((XT.num x0) ≠ (0 : Int))) = true) →
    (Q (.tv [] .bool false) [])) ∧
   (((decide ((XT.num x0) ≠ (0 : Int))) = false) →
   (∃ y40 : (Int → Prop),
   (∃ y41 : (Int → Nat),
   ((y40 (0 : Int)) ∧
   (∀ z42 : Int,
   ((y40 z42) →
   ((((decide (z42 < (1 : Int))) = true) →
    (Need (((0 : Int) ≤ z42) ∧ (z42 < ((List.length (XT.kids x0)) : Int))) ∧
    (∃ y45 : Bool,
    (Need (E 43 [(.tv [] .expr (List.getD (XT.kids x0) (Int.toNat z42) (XT.mk (0 : Int) (0 : Int) [])))] [] (.tv [] .bool y45) []) ∧
    ((((!y45) = true) →
     (Q (.tv [] .bool false) [])) ∧
    (((!y45) = false) →
    (Need (((-9223372036854775808 : Int) ≤ (z42 + (1 : Int))) ∧ ((z42 + (1 : Int)) ≤ (9223372036854775807 : Int))) ∧
    (Need (x0 = x0) ∧
    ((y40 (z42 + (1 : Int))) ∧
    Need ((y41 (z42 + (1 : Int))) < (y41 z42))))))))))) ∧
   (((decide (z42 < (1 : Int))) = false) →
   (Q (.tv [] .bool true) []))))))))))) ∧
  (((decide ((0 : Int) < (1 : Int))) = false) →
  (∃ y50 : (Int → Prop),
  (∃ y51 : (Int → Nat),
  ((y50 (0 : Int)) ∧
  (∀ z52 : Int,
  ((y50 z52) →
  ((((decide (z52 < (1 : Int))) = true) →
   (Need (((0 : Int) ≤ z52) ∧ (z52 < ((List.length (XT.kids x0)) : Int))) ∧
   (∃ y55 : Bool,
   (Need (E 43 [(.tv [] .expr (List.getD (XT.kids x0) (Int.toNat z52) (XT.mk (0 : Int) (0 : Int) [])))] [] (.tv [] .bool y55) []) ∧
   ((((!y55) = true) →
    (Q (.tv [] .bool false) [])) ∧
   (((!y55) = false) →
   (Need (((-9223372036854775808 : Int) ≤ (z52 + (1 : Int))) ∧ ((z52 + (1 : Int)) ≤ (9223372036854775807 : Int))) ∧
   (Need (x0 = x0) ∧
   ((y50 (z52 + (1 : Int))) ∧
   Need ((y51 (z52 + (1 : Int))) < (y51 z52))))))))))) ∧
  (((decide (z52 < (1 : Int))) = false) →
  (Q (.tv [] .bool true) []))))))))))))))) ∧
 (((decide ((XT.kind x0) = (4 : Int))) = false) →
 ((((decide ((4 : Int) < (XT.kind x0))) = true) →
  ((((decide (((List.length (XT.kids x0)) : Int) ≠ (2 : Int))) = true) →
   (Q (.tv [] .bool false) [])) ∧
  (((decide (((List.length (XT.kids x0)) : Int) ≠ (2 : Int))) = false) →
  ((((decide ((0 : Int) < (2 : Int))) = true) →
   ((((decide ((XT.num x0) ≠ (0 : Int))) = true) →
    (Q (.tv [] .bool false) [])) ∧
   (((decide ((XT.num x0) ≠ (0 : Int))) = false) →
   (∃ y66 : (Int → Prop),
   (∃ y67 : (Int → Nat),
   ((y66 (0 : Int)) ∧
   (∀ z68 : Int,
   ((y66 z68) →
   ((((decide (z68 < (2 : Int))) = true) →
    (Need (((0 : Int) ≤ z68) ∧ (z68 < ((List.length (XT.kids x0)) : Int))) ∧
    (∃ y71 : Bool,
    (Need (E 43 [(.tv [] .expr (List.getD (XT.kids x0) (Int.toNat z68) (XT.mk (0 : Int) (0 : Int) [])))] [] (.tv [] .bool y71) []) ∧
    ((((!y71) = true) →
     (Q (.tv [] .bool false) [])) ∧
    (((!y71) = false) →
    (Need (((-9223372036854775808 : Int) ≤ (z68 + (1 : Int))) ∧ ((z68 + (1 : Int)) ≤ (9223372036854775807 : Int))) ∧
    (Need (x0 = x0) ∧
    ((y66 (z68 + (1 : Int))) ∧
    Need ((y67 (z68 + (1 : Int))) < (y67 z68))))))))))) ∧
   (((decide (z68 < (2 : Int))) = false) →
   (Q (.tv [] .bool true) []))))))))))) ∧
  (((decide ((0 : Int) < (2 : Int))) = false) →
  (∃ y76 : (Int → Prop),
  (∃ y77 : (Int → Nat),
  ((y76 (0 : Int)) ∧
  (∀ z78 : Int,
  ((y76 z78) →
  ((((decide (z78 < (2 : Int))) = true) →
   (Need (((0 : Int) ≤ z78) ∧ (z78 < ((List.length (XT.kids x0)) : Int))) ∧
   (∃ y81 : Bool,
   (Need (E 43 [(.tv [] .expr (List.getD (XT.kids x0) (Int.toNat z78) (XT.mk (0 : Int) (0 : Int) [])))] [] (.tv [] .bool y81) []) ∧
   ((((!y81) = true) →
    (Q (.tv [] .bool false) [])) ∧
   (((!y81) = false) →
   (Need (((-9223372036854775808 : Int) ≤ (z78 + (1 : Int))) ∧ ((z78 + (1 : Int)) ≤ (9223372036854775807 : Int))) ∧
   (Need (x0 = x0) ∧
   ((y76 (z78 + (1 : Int))) ∧
   Need ((y77 (z78 + (1 : Int))) < (y77 z78))))))))))) ∧
  (((decide (z78 < (2 : Int))) = false) →
  (Q (.tv [] .bool true) []))))))))))))) ∧
 (((decide ((4 : Int) < (XT.kind x0))) = false) →
 ((((decide (((List.length (XT.kids x0)) : Int) ≠ (0 : Int))) = true) →
  (Q (.tv [] .bool false) [])) ∧
 (((decide (((List.length (XT.kids x0)) : Int) ≠ (0 : Int))) = false) →
 ((((decide ((0 : Int) < (0 : Int))) = true) →
  ((((decide ((XT.num x0) ≠ (0 : Int))) = true) →
   (Q (.tv [] .bool false) [])) ∧
  (((decide ((XT.num x0) ≠ (0 : Int))) = false) →
  (∃ y91 : (Int → Prop),
  (∃ y92 : (Int → Nat),
  ((y91 (0 : Int)) ∧
  (∀ z93 : Int,
  ((y91 z93) →
  ((((decide (z93 < (0 : Int))) = true) →
   (Need (((0 : Int) ≤ z93) ∧ (z93 < ((List.length (XT.kids x0)) : Int))) ∧
   (∃ y96 : Bool,
   (Need (E 43 [(.tv [] .expr (List.getD (XT.kids x0) (Int.toNat z93) (XT.mk (0 : Int) (0 : Int) [])))] [] (.tv [] .bool y96) []) ∧
   ((((!y96) = true) →
    (Q (.tv [] .bool false) [])) ∧
   (((!y96) = false) →
   (Need (((-9223372036854775808 : Int) ≤ (z93 + (1 : Int))) ∧ ((z93 + (1 : Int)) ≤ (9223372036854775807 : Int))) ∧
   (Need (x0 = x0) ∧
   ((y91 (z93 + (1 : Int))) ∧
   Need ((y92 (z93 + (1 : Int))) < (y92 z93))))))))))) ∧
  (((decide (z93 < (0 : Int))) = false) →
  (Q (.tv [] .bool true) []))))))))))) ∧
 (((decide ((0 : Int) < (0 : Int))) = false) →
 (∃ y101 : (Int → Prop),
 (∃ y102 : (Int → Nat),
 ((y101 (0 : Int)) ∧
 (∀ z103 : Int,
 ((y101 z103) →
 ((((decide (z103 < (0 : Int))) = true) →
  (Need (((0 : Int) ≤ z103) ∧ (z103 < ((List.length (XT.kids x0)) : Int))) ∧
  (∃ y106 : Bool,
  (Need (E 43 [(.tv [] .expr (List.getD (XT.kids x0) (Int.toNat z103) (XT.mk (0 : Int) (0 : Int) [])))] [] (.tv [] .bool y106) []) ∧
  ((((!y106) = true) →
   (Q (.tv [] .bool false) [])) ∧
  (((!y106) = false) →
  (Need (((-9223372036854775808 : Int) ≤ (z103 + (1 : Int))) ∧ ((z103 + (1 : Int)) ≤ (9223372036854775807 : Int))) ∧
  (Need (x0 = x0) ∧
  ((y101 (z103 + (1 : Int))) ∧
  Need ((y102 (z103 + (1 : Int))) < (y102 z103))))))))))) ∧
 (((decide (z103 < (0 : Int))) = false) →
 (Q (.tv [] .bool true) []))))))))))))))))))))))))) : EvF PP orc 43 [.tv [] .expr x0] [] Q := vcF_ok (sg := sg) (Eq.mp (by kernel_rfl) h)
/-- tronage/code.is -/
theorem vc51 (x0 : Int) (Q : AV → Heap → Prop) (h :
((((decide ((1 : Int) ≤ x0)) = true) →
  (Q (.tv [] .bool (decide (x0 ≤ (9 : Int)))) [])) ∧
 (((decide ((1 : Int) ≤ x0)) = false) →
 (Q (.tv [] .bool false) [])))) : EvF PP orc 51 [.tv [] (.int .i64) x0] [] Q := vcF_ok (sg := sg) (Eq.mp (by kernel_rfl) h)
/-- tronage/code.has -/
theorem vc52 (x0 : Int) (Q : AV → Heap → Prop) (h :
((((decide ((1 : Int) ≤ x0)) = true) →
  (Q (.tv [] .bool (decide (x0 ≤ (3 : Int)))) [])) ∧
 (((decide ((1 : Int) ≤ x0)) = false) →
 (Q (.tv [] .bool false) [])))) : EvF PP orc 52 [.tv [] (.int .i64) x0] [] Q := vcF_ok (sg := sg) (Eq.mp (by kernel_rfl) h)
end Go.Am.V
