/-
  A part of the proof of a law: see the text that states it.
-/
import Derived.Test.YtpbabncglokikaaDoorHead
set_option linter.all false
namespace Go.Am.L
open Go
set_option maxRecDepth 100000
set_option maxHeartbeats 4000000
/-- tronage/tronagelaw05.LexerInside -/
theorem vc4 (x0 : List Int) (Q : AV → Heap → Prop) (h :
(∃ y0 : Bool,
 (Need (E 10 [] [] (.tv [] .bool y0) []) ∧
 ((((decide ((300 : Int) < ((List.length x0) : Int))) = true) →
  (Q (.tv [] .bool y0) [])) ∧
 (((decide ((300 : Int) < ((List.length x0) : Int))) = false) →
 (∃ y3 : (List (Prod Int (Prod (List Int) (Prod (Prod Int (Prod Int PUnit)) PUnit)))),
 (∃ y4 : Int,
 (∃ y5 : Int,
 (∃ y6 : Int,
 (Need (E 11 [(.tv [] .str x0)] [] (.tup [(.tv [] (.slice (.pair (.int .i64) (.pair .str (.pair (.pair (.int .i64) (.pair (.int .i64) .unit)) .unit)))) y3), (.tv [] (.pair (.int .i64) (.pair (.pair (.int .i64) (.pair (.int .i64) .unit)) .unit)) (y4, ((y5, (y6, ())), ())))]) []) ∧
 ((((decide (y4 ≠ (0 : Int))) = true) →
  (((y0 = true) →
   ((((decide (((List.length y3) : Int) = (0 : Int))) = true) →
    (∃ y10 : Bool,
    (Need (E 14 [(.tv [] .str x0), (.tv [] (.pair (.int .i64) (.pair (.int .i64) .unit)) (y5, (y6, ())))] [] (.tv [] .bool y10) []) ∧
    (Q (.tv [] .bool y10) [])))) ∧
   (((decide (((List.length y3) : Int) = (0 : Int))) = false) →
   (Q (.tv [] .bool false) [])))) ∧
  ((y0 = false) →
  (Q (.tv [] .bool false) [])))) ∧
 (((decide (y4 ≠ (0 : Int))) = false) →
 ((((decide (((List.length y3) : Int) = (0 : Int))) = true) →
  (Q (.tv [] .bool false) [])) ∧
 (((decide (((List.length y3) : Int) = (0 : Int))) = false) →
 (Need (((-9223372036854775808 : Int) ≤ (((List.length y3) : Int) - (1 : Int))) ∧ ((((List.length y3) : Int) - (1 : Int)) ≤ (9223372036854775807 : Int))) ∧
 (Need (((0 : Int) ≤ (((List.length y3) : Int) - (1 : Int))) ∧ ((((List.length y3) : Int) - (1 : Int)) < ((List.length y3) : Int))) ∧
 ((((decide ((List.getD y3 (Int.toNat (((List.length y3) : Int) - (1 : Int))) ((0 : Int), (([] : List Int), (((0 : Int), ((0 : Int), ())), ())))).1 ≠ (0 : Int))) = true) →
  (Q (.tv [] .bool false) [])) ∧
 (((decide ((List.getD y3 (Int.toNat (((List.length y3) : Int) - (1 : Int))) ((0 : Int), (([] : List Int), (((0 : Int), ((0 : Int), ())), ())))).1 ≠ (0 : Int))) = false) →
 (Need (((-9223372036854775808 : Int) ≤ (((List.length y3) : Int) - (1 : Int))) ∧ ((((List.length y3) : Int) - (1 : Int)) ≤ (9223372036854775807 : Int))) ∧
 (Need (((0 : Int) ≤ (((List.length y3) : Int) - (1 : Int))) ∧ ((((List.length y3) : Int) - (1 : Int)) < ((List.length y3) : Int))) ∧
 ((((!(decide ((List.getD y3 (Int.toNat (((List.length y3) : Int) - (1 : Int))) ((0 : Int), (([] : List Int), (((0 : Int), ((0 : Int), ())), ())))).2.1 = []))) = true) →
  (Q (.tv [] .bool false) [])) ∧
 (((!(decide ((List.getD y3 (Int.toNat (((List.length y3) : Int) - (1 : Int))) ((0 : Int), (([] : List Int), (((0 : Int), ((0 : Int), ())), ())))).2.1 = []))) = false) →
 (∃ y20 : (Int → Prop),
 (∃ y21 : (Int → Nat),
 ((y20 (0 : Int)) ∧
 (∀ z22 : Int,
 ((y20 z22) →
 ((((decide (z22 < ((List.length y3) : Int))) = true) →
  (Need (((0 : Int) ≤ z22) ∧ (z22 < ((List.length y3) : Int))) ∧
  (∃ y25 : Bool,
  (Need (E 14 [(.tv [] .str x0), (.tv [] (.pair (.int .i64) (.pair (.int .i64) .unit)) (List.getD y3 (Int.toNat z22) ((0 : Int), (([] : List Int), (((0 : Int), ((0 : Int), ())), ())))).2.2.1)] [] (.tv [] .bool y25) []) ∧
  ((((!y25) = true) →
   (Q (.tv [] .bool false) [])) ∧
  (((!y25) = false) →
  (Need (((-9223372036854775808 : Int) ≤ (z22 + (1 : Int))) ∧ ((z22 + (1 : Int)) ≤ (9223372036854775807 : Int))) ∧
  ((((decide ((z22 + (1 : Int)) < ((List.length y3) : Int))) = true) →
   (Need (((0 : Int) ≤ z22) ∧ (z22 < ((List.length y3) : Int))) ∧
   ((((decide ((List.getD y3 (Int.toNat z22) ((0 : Int), (([] : List Int), (((0 : Int), ((0 : Int), ())), ())))).1 < (1 : Int))) = true) →
    (Q (.tv [] .bool false) [])) ∧
   (((decide ((List.getD y3 (Int.toNat z22) ((0 : Int), (([] : List Int), (((0 : Int), ((0 : Int), ())), ())))).1 < (1 : Int))) = false) →
   (Need (((0 : Int) ≤ z22) ∧ (z22 < ((List.length y3) : Int))) ∧
   ((((decide ((9 : Int) < (List.getD y3 (Int.toNat z22) ((0 : Int), (([] : List Int), (((0 : Int), ((0 : Int), ())), ())))).1)) = true) →
    (Q (.tv [] .bool false) [])) ∧
   (((decide ((9 : Int) < (List.getD y3 (Int.toNat z22) ((0 : Int), (([] : List Int), (((0 : Int), ((0 : Int), ())), ())))).1)) = false) →
   (Need (((0 : Int) ≤ z22) ∧ (z22 < ((List.length y3) : Int))) ∧
   (Need (((-9223372036854775808 : Int) ≤ (z22 + (1 : Int))) ∧ ((z22 + (1 : Int)) ≤ (9223372036854775807 : Int))) ∧
   (Need (((0 : Int) ≤ (z22 + (1 : Int))) ∧ ((z22 + (1 : Int)) < ((List.length y3) : Int))) ∧
   ((((decide ((List.getD y3 (Int.toNat (z22 + (1 : Int))) ((0 : Int), (([] : List Int), (((0 : Int), ((0 : Int), ())), ())))).2.2.1.1 < (List.getD y3 (Int.toNat z22) ((0 : Int), (([] : List Int), (((0 : Int), ((0 : Int), ())), ())))).2.2.1.1)) = true) →
    (Q (.tv [] .bool false) [])) ∧
   (((decide ((List.getD y3 (Int.toNat (z22 + (1 : Int))) ((0 : Int), (([] : List Int), (((0 : Int), ((0 : Int), ())), ())))).2.2.1.1 < (List.getD y3 (Int.toNat z22) ((0 : Int), (([] : List Int), (((0 : Int), ((0 : Int), ())), ())))).2.2.1.1)) = false) →
   (Need (((0 : Int) ≤ z22) ∧ (z22 < ((List.length y3) : Int))) ∧
   (Need (((-9223372036854775808 : Int) ≤ (z22 + (1 : Int))) ∧ ((z22 + (1 : Int)) ≤ (9223372036854775807 : Int))) ∧
   (Need (((0 : Int) ≤ (z22 + (1 : Int))) ∧ ((z22 + (1 : Int)) < ((List.length y3) : Int))) ∧
   ((((decide ((List.getD y3 (Int.toNat z22) ((0 : Int), (([] : List Int), (((0 : Int), ((0 : Int), ())), ())))).2.2.1.1 = (List.getD y3 (Int.toNat (z22 + (1 : Int))) ((0 : Int), (([] : List Int), (((0 : Int), ((0 : Int), ())), ())))).2.2.1.1)) = true) →
    (Need (((0 : Int) ≤ z22) ∧ (z22 < ((List.length y3) : Int))) ∧
    (Need (((-9223372036854775808 : Int) ≤ (z22 + (1 : Int))) ∧ ((z22 + (1 : Int)) ≤ (9223372036854775807 : Int))) ∧
    (Need (((0 : Int) ≤ (z22 + (1 : Int))) ∧ ((z22 + (1 : Int)) < ((List.length y3) : Int))) ∧
    ((((decide ((List.getD y3 (Int.toNat (z22 + (1 : Int))) ((0 : Int), (([] : List Int), (((0 : Int), ((0 : Int), ())), ())))).2.2.1.2.1 ≤ (List.getD y3 (Int.toNat z22) ((0 : Int), (([] : List Int), (((0 : Int), ((0 : Int), ())), ())))).2.2.1.2.1)) = true) →
     (Q (.tv [] .bool false) [])) ∧
    (((decide ((List.getD y3 (Int.toNat (z22 + (1 : Int))) ((0 : Int), (([] : List Int), (((0 : Int), ((0 : Int), ())), ())))).2.2.1.2.1 ≤ (List.getD y3 (Int.toNat z22) ((0 : Int), (([] : List Int), (((0 : Int), ((0 : Int), ())), ())))).2.2.1.2.1)) = false) →
    (Need (((-9223372036854775808 : Int) ≤ (z22 + (1 : Int))) ∧ ((z22 + (1 : Int)) ≤ (9223372036854775807 : Int))) ∧
    (Need ((y4, ((y5, (y6, ())), ())) = (y4, ((y5, (y6, ())), ()))) ∧
    ((y20 (z22 + (1 : Int))) ∧
    Need ((y21 (z22 + (1 : Int))) < (y21 z22))))))))))) ∧
   (((decide ((List.getD y3 (Int.toNat z22) ((0 : Int), (([] : List Int), (((0 : Int), ((0 : Int), ())), ())))).2.2.1.1 = (List.getD y3 (Int.toNat (z22 + (1 : Int))) ((0 : Int), (([] : List Int), (((0 : Int), ((0 : Int), ())), ())))).2.2.1.1)) = false) →
   (Need (((-9223372036854775808 : Int) ≤ (z22 + (1 : Int))) ∧ ((z22 + (1 : Int)) ≤ (9223372036854775807 : Int))) ∧
   (Need ((y4, ((y5, (y6, ())), ())) = (y4, ((y5, (y6, ())), ()))) ∧
   ((y20 (z22 + (1 : Int))) ∧
   Need ((y21 (z22 + (1 : Int))) < (y21 z22)))))))))))))))))))))) ∧
  (((decide ((z22 + (1 : Int)) < ((List.length y3) : Int))) = false) →
  (Need (((-9223372036854775808 : Int) ≤ (z22 + (1 : Int))) ∧ ((z22 + (1 : Int)) ≤ (9223372036854775807 : Int))) ∧
  (Need ((y4, ((y5, (y6, ())), ())) = (y4, ((y5, (y6, ())), ()))) ∧
  ((y20 (z22 + (1 : Int))) ∧
  Need ((y21 (z22 + (1 : Int))) < (y21 z22)))))))))))))) ∧
 (((decide (z22 < ((List.length y3) : Int))) = false) →
 (((y0 = true) →
  (Q (.tv [] .bool ((decide (y4 = (0 : Int))) && (((decide (y5 = (0 : Int))) && ((decide (y6 = (0 : Int))) && true)) && true))) [])) ∧
 ((y0 = false) →
 (Q (.tv [] .bool false) [])))))))))))))))))))))))))))))))) : EvF PP orc 4 [.tv [] .str x0] [] Q := vcF_ok (sg := sg) (Eq.mp (by kernel_rfl) h)
/-- tronage/tronagelaw05.inside -/
theorem vc14 (x0 : List Int) (x1_0 : Int) (x1_1 : Int) (Q : AV → Heap → Prop) (h :
(∃ y0 : (Int → Prop),
 (∃ y1 : (Int → Nat),
 ((y0 (0 : Int)) ∧
 (∀ z2 : Int,
 ((y0 z2) →
 ((((decide (z2 ≤ ((List.length x0) : Int))) = true) →
  (∃ y5 : Int,
  (∃ y6 : Int,
  (Need (E 18 [(.tv [] .str x0), (.tv [] (.int .i64) z2)] [] (.tv [] (.pair (.int .i64) (.pair (.int .i64) .unit)) (y5, (y6, ()))) []) ∧
  (((((decide (y5 = x1_0)) && ((decide (y6 = x1_1)) && true)) = true) →
   (Q (.tv [] .bool true) [])) ∧
  ((((decide (y5 = x1_0)) && ((decide (y6 = x1_1)) && true)) = false) →
  (Need (((-9223372036854775808 : Int) ≤ (z2 + (1 : Int))) ∧ ((z2 + (1 : Int)) ≤ (9223372036854775807 : Int))) ∧
  (Need ((x1_0, (x1_1, ())) = (x1_0, (x1_1, ()))) ∧
  ((y0 (z2 + (1 : Int))) ∧
  Need ((y1 (z2 + (1 : Int))) < (y1 z2))))))))))) ∧
 (((decide (z2 ≤ ((List.length x0) : Int))) = false) →
 (Q (.tv [] .bool false) []))))))))) : EvF PP orc 14 [.tv [] .str x0, .tv [] (.pair (.int .i64) (.pair (.int .i64) .unit)) (x1_0, (x1_1, ()))] [] Q := vcF_ok (sg := sg) (Eq.mp (by kernel_rfl) h)
/-- tronage/tronageref05.At -/
theorem vc18 (x0 : List Int) (x1 : Int) (Q : AV → Heap → Prop) (h :
(∃ y0 : (Int → (Int → (Int → Prop))),
 (∃ y1 : (Int → (Int → (Int → Nat))),
 ((y0 (0 : Int) (1 : Int) (1 : Int)) ∧
 (∀ z2 : Int,
 (∀ z3 : Int,
 (∀ z4 : Int,
 ((y0 z2 z3 z4) →
 ((((decide (z2 < (max (0 : Int) (min x1 ((List.length x0) : Int))))) = true) →
  (Need (((-9223372036854775808 : Int) ≤ (z4 + (1 : Int))) ∧ ((z4 + (1 : Int)) ≤ (9223372036854775807 : Int))) ∧
  (Need (((0 : Int) ≤ z2) ∧ (z2 < ((List.length x0) : Int))) ∧
  ((((decide ((List.getD x0 (Int.toNat z2) (0 : Int)) = (10 : Int))) = true) →
   (Need (((-9223372036854775808 : Int) ≤ (z3 + (1 : Int))) ∧ ((z3 + (1 : Int)) ≤ (9223372036854775807 : Int))) ∧
   (Need (((-9223372036854775808 : Int) ≤ (z2 + (1 : Int))) ∧ ((z2 + (1 : Int)) ≤ (9223372036854775807 : Int))) ∧
   (Need (((0 : Int), ((0 : Int), ())) = ((0 : Int), ((0 : Int), ()))) ∧
   ((y0 (z2 + (1 : Int)) (z3 + (1 : Int)) (1 : Int)) ∧
   Need ((y1 (z2 + (1 : Int)) (z3 + (1 : Int)) (1 : Int)) < (y1 z2 z3 z4))))))) ∧
  (((decide ((List.getD x0 (Int.toNat z2) (0 : Int)) = (10 : Int))) = false) →
  (Need (((-9223372036854775808 : Int) ≤ (z2 + (1 : Int))) ∧ ((z2 + (1 : Int)) ≤ (9223372036854775807 : Int))) ∧
  (Need (((0 : Int), ((0 : Int), ())) = ((0 : Int), ((0 : Int), ()))) ∧
  ((y0 (z2 + (1 : Int)) z3 (z4 + (1 : Int))) ∧
  Need ((y1 (z2 + (1 : Int)) z3 (z4 + (1 : Int))) < (y1 z2 z3 z4)))))))))) ∧
 (((decide (z2 < (max (0 : Int) (min x1 ((List.length x0) : Int))))) = false) →
 (Q (.tv [] (.pair (.int .i64) (.pair (.int .i64) .unit)) (z3, (z4, ()))) []))))))))))) : EvF PP orc 18 [.tv [] .str x0, .tv [] (.int .i64) x1] [] Q := vcF_ok (sg := sg) (Eq.mp (by kernel_rfl) h)
end Go.Am.L
