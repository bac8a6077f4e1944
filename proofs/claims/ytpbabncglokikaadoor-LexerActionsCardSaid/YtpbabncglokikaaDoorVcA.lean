/-
  A part of the proof of a law: see the text that states it.
-/
import Derived.Test.YtpbabncglokikaaDoorHead
set_option linter.all false
namespace Go.Am.L
open Go
set_option maxRecDepth 100000
set_option maxHeartbeats 4000000
/-- tronage/tronagelaw05.LexerActions -/
theorem vc7 (x0 : List Int) (x1 : Int) (Q : AV → Heap → Prop) (h :
(∃ y0 : Bool,
 (Need (E 10 [] [] (.tv [] .bool y0) []) ∧
 ((((decide ((210 : Int) < ((List.length x0) : Int))) = true) →
  (Q (.tv [] .bool y0) [])) ∧
 (((decide ((210 : Int) < ((List.length x0) : Int))) = false) →
 ((((decide (x1 < (1 : Int))) = true) →
  (Q (.tv [] .bool y0) [])) ∧
 (((decide (x1 < (1 : Int))) = false) →
 ((((decide ((6 : Int) < x1)) = true) →
  (Q (.tv [] .bool y0) [])) ∧
 (((decide ((6 : Int) < x1)) = false) →
 (∃ y7 : (Int → Prop),
 (∃ y8 : (Int → Nat),
 ((y7 (0 : Int)) ∧
 (∀ z9 : Int,
 ((y7 z9) →
 ((((decide (z9 < ((List.length x0) : Int))) = true) →
  (Need (((0 : Int) ≤ z9) ∧ (z9 < ((List.length x0) : Int))) ∧
  ((((decide ((List.getD x0 (Int.toNat z9) (0 : Int)) = (123 : Int))) = true) →
   (Q (.tv [] .bool y0) [])) ∧
  (((decide ((List.getD x0 (Int.toNat z9) (0 : Int)) = (123 : Int))) = false) →
  (Need (((0 : Int) ≤ z9) ∧ (z9 < ((List.length x0) : Int))) ∧
  ((((decide ((List.getD x0 (Int.toNat z9) (0 : Int)) = (125 : Int))) = true) →
   (Q (.tv [] .bool y0) [])) ∧
  (((decide ((List.getD x0 (Int.toNat z9) (0 : Int)) = (125 : Int))) = false) →
  (Need (((-9223372036854775808 : Int) ≤ (z9 + (1 : Int))) ∧ ((z9 + (1 : Int)) ≤ (9223372036854775807 : Int))) ∧
  ((y7 (z9 + (1 : Int))) ∧
  Need ((y8 (z9 + (1 : Int))) < (y8 z9))))))))))) ∧
 (((decide (z9 < ((List.length x0) : Int))) = false) →
 (Need (((0 : Int) ≤ (0 : Int)) ∧ (((0 : Int) ≤ x1) ∧ (x1 ≤ (6 : Int)))) ∧
 (Need (((List.length (cut [(123 : Int), (123 : Int), (123 : Int), (123 : Int), (123 : Int), (123 : Int)] 0 (Int.toNat x1))) + (List.length x0)) ≤ bigN) ∧
 (Need (((0 : Int) ≤ (0 : Int)) ∧ (((0 : Int) ≤ x1) ∧ (x1 ≤ (6 : Int)))) ∧
 (Need (((List.length ((cut [(123 : Int), (123 : Int), (123 : Int), (123 : Int), (123 : Int), (123 : Int)] 0 (Int.toNat x1)) ++ x0)) + (List.length (cut [(125 : Int), (125 : Int), (125 : Int), (125 : Int), (125 : Int), (125 : Int)] 0 (Int.toNat x1)))) ≤ bigN) ∧
 (∃ y17 : (List (Prod Int (Prod (List Int) (Prod (Prod Int (Prod Int PUnit)) PUnit)))),
 (∃ y18 : Int,
 (∃ y19 : Int,
 (∃ y20 : Int,
 (Need (E 11 [(.tv [] .str (((cut [(123 : Int), (123 : Int), (123 : Int), (123 : Int), (123 : Int), (123 : Int)] 0 (Int.toNat x1)) ++ x0) ++ (cut [(125 : Int), (125 : Int), (125 : Int), (125 : Int), (125 : Int), (125 : Int)] 0 (Int.toNat x1))))] [] (.tup [(.tv [] (.slice (.pair (.int .i64) (.pair .str (.pair (.pair (.int .i64) (.pair (.int .i64) .unit)) .unit)))) y17), (.tv [] (.pair (.int .i64) (.pair (.pair (.int .i64) (.pair (.int .i64) .unit)) .unit)) (y18, ((y19, (y20, ())), ())))]) []) ∧
 ((((decide ((4 : Int) < x1)) = true) →
  (((y0 = true) →
   ((((decide (((List.length y17) : Int) = (0 : Int))) = true) →
    (Q (.tv [] .bool ((decide (y18 = (13 : Int))) && (((decide (y19 = (1 : Int))) && ((decide (y20 = (5 : Int))) && true)) && true))) [])) ∧
   (((decide (((List.length y17) : Int) = (0 : Int))) = false) →
   (Q (.tv [] .bool false) [])))) ∧
  ((y0 = false) →
  (Q (.tv [] .bool false) [])))) ∧
 (((decide ((4 : Int) < x1)) = false) →
 (Need (((-9223372036854775808 : Int) ≤ (((List.length (((cut [(123 : Int), (123 : Int), (123 : Int), (123 : Int), (123 : Int), (123 : Int)] 0 (Int.toNat x1)) ++ x0) ++ (cut [(125 : Int), (125 : Int), (125 : Int), (125 : Int), (125 : Int), (125 : Int)] 0 (Int.toNat x1)))) : Int) - (2 : Int))) ∧ ((((List.length (((cut [(123 : Int), (123 : Int), (123 : Int), (123 : Int), (123 : Int), (123 : Int)] 0 (Int.toNat x1)) ++ x0) ++ (cut [(125 : Int), (125 : Int), (125 : Int), (125 : Int), (125 : Int), (125 : Int)] 0 (Int.toNat x1)))) : Int) - (2 : Int)) ≤ (9223372036854775807 : Int))) ∧
 ((((decide ((200 : Int) < (((List.length (((cut [(123 : Int), (123 : Int), (123 : Int), (123 : Int), (123 : Int), (123 : Int)] 0 (Int.toNat x1)) ++ x0) ++ (cut [(125 : Int), (125 : Int), (125 : Int), (125 : Int), (125 : Int), (125 : Int)] 0 (Int.toNat x1)))) : Int) - (2 : Int)))) = true) →
  (((y0 = true) →
   ((((decide (((List.length y17) : Int) = (0 : Int))) = true) →
    (Q (.tv [] .bool ((decide (y18 = (12 : Int))) && (((decide (y19 = (1 : Int))) && ((decide (y20 = (1 : Int))) && true)) && true))) [])) ∧
   (((decide (((List.length y17) : Int) = (0 : Int))) = false) →
   (Q (.tv [] .bool false) [])))) ∧
  ((y0 = false) →
  (Q (.tv [] .bool false) [])))) ∧
 (((decide ((200 : Int) < (((List.length (((cut [(123 : Int), (123 : Int), (123 : Int), (123 : Int), (123 : Int), (123 : Int)] 0 (Int.toNat x1)) ++ x0) ++ (cut [(125 : Int), (125 : Int), (125 : Int), (125 : Int), (125 : Int), (125 : Int)] 0 (Int.toNat x1)))) : Int) - (2 : Int)))) = false) →
 (((y0 = true) →
  ((((decide (y18 = (0 : Int))) = true) →
   ((((decide (((List.length y17) : Int) = (2 : Int))) = true) →
    (Need (((0 : Int) ≤ (0 : Int)) ∧ ((0 : Int) < ((List.length y17) : Int))) ∧
    ((((decide ((List.getD y17 0 ((0 : Int), (([] : List Int), (((0 : Int), ((0 : Int), ())), ())))).1 = (9 : Int))) = true) →
     (Need (((0 : Int) ≤ (0 : Int)) ∧ ((0 : Int) < ((List.length y17) : Int))) ∧
     (Need (((-9223372036854775808 : Int) ≤ (((List.length (((cut [(123 : Int), (123 : Int), (123 : Int), (123 : Int), (123 : Int), (123 : Int)] 0 (Int.toNat x1)) ++ x0) ++ (cut [(125 : Int), (125 : Int), (125 : Int), (125 : Int), (125 : Int), (125 : Int)] 0 (Int.toNat x1)))) : Int) - (1 : Int))) ∧ ((((List.length (((cut [(123 : Int), (123 : Int), (123 : Int), (123 : Int), (123 : Int), (123 : Int)] 0 (Int.toNat x1)) ++ x0) ++ (cut [(125 : Int), (125 : Int), (125 : Int), (125 : Int), (125 : Int), (125 : Int)] 0 (Int.toNat x1)))) : Int) - (1 : Int)) ≤ (9223372036854775807 : Int))) ∧
     (Need (((0 : Int) ≤ (1 : Int)) ∧ (((1 : Int) ≤ (((List.length (((cut [(123 : Int), (123 : Int), (123 : Int), (123 : Int), (123 : Int), (123 : Int)] 0 (Int.toNat x1)) ++ x0) ++ (cut [(125 : Int), (125 : Int), (125 : Int), (125 : Int), (125 : Int), (125 : Int)] 0 (Int.toNat x1)))) : Int) - (1 : Int))) ∧ ((((List.length (((cut [(123 : Int), (123 : Int), (123 : Int), (123 : Int), (123 : Int), (123 : Int)] 0 (Int.toNat x1)) ++ x0) ++ (cut [(125 : Int), (125 : Int), (125 : Int), (125 : Int), (125 : Int), (125 : Int)] 0 (Int.toNat x1)))) : Int) - (1 : Int)) ≤ ((List.length (((cut [(123 : Int), (123 : Int), (123 : Int), (123 : Int), (123 : Int), (123 : Int)] 0 (Int.toNat x1)) ++ x0) ++ (cut [(125 : Int), (125 : Int), (125 : Int), (125 : Int), (125 : Int), (125 : Int)] 0 (Int.toNat x1)))) : Int)))) ∧
     (Q (.tv [] .bool (decide ((List.getD y17 0 ((0 : Int), (([] : List Int), (((0 : Int), ((0 : Int), ())), ())))).2.1 = (cut (((cut [(123 : Int), (123 : Int), (123 : Int), (123 : Int), (123 : Int), (123 : Int)] 0 (Int.toNat x1)) ++ x0) ++ (cut [(125 : Int), (125 : Int), (125 : Int), (125 : Int), (125 : Int), (125 : Int)] 0 (Int.toNat x1))) 1 (Int.toNat (((List.length (((cut [(123 : Int), (123 : Int), (123 : Int), (123 : Int), (123 : Int), (123 : Int)] 0 (Int.toNat x1)) ++ x0) ++ (cut [(125 : Int), (125 : Int), (125 : Int), (125 : Int), (125 : Int), (125 : Int)] 0 (Int.toNat x1)))) : Int) - (1 : Int))))))) []))))) ∧
    (((decide ((List.getD y17 0 ((0 : Int), (([] : List Int), (((0 : Int), ((0 : Int), ())), ())))).1 = (9 : Int))) = false) →
    (Q (.tv [] .bool false) []))))) ∧
   (((decide (((List.length y17) : Int) = (2 : Int))) = false) →
   (Q (.tv [] .bool false) [])))) ∧
  (((decide (y18 = (0 : Int))) = false) →
  (Q (.tv [] .bool false) [])))) ∧
 ((y0 = false) →
 (Q (.tv [] .bool false) []))))))))))))))))))))))))))))))))) : EvF PP orc 7 [.tv [] .str x0, .tv [] (.int .i64) x1] [] Q := vcF_ok (sg := sg) (Eq.mp (by kernel_rfl) h)
end Go.Am.L
