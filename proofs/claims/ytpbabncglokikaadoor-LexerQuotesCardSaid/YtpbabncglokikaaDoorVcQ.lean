/-
  A part of the proof of a law: see the text that states it.
-/
import Derived.Test.YtpbabncglokikaaDoorHead
set_option linter.all false
namespace Go.Am.L
open Go
set_option maxRecDepth 100000
set_option maxHeartbeats 4000000
/-- tronage/tronagelaw05.LexerQuotes -/
theorem vc6 (x0 : List Int) (x1 : Int) (Q : AV → Heap → Prop) (h :
(∃ y0 : Bool,
 (Need (E 10 [] [] (.tv [] .bool y0) []) ∧
 ((((decide ((40 : Int) < ((List.length x0) : Int))) = true) →
  (Q (.tv [] .bool y0) [])) ∧
 (((decide ((40 : Int) < ((List.length x0) : Int))) = false) →
 ((((decide (x1 < (0 : Int))) = true) →
  (Q (.tv [] .bool y0) [])) ∧
 (((decide (x1 < (0 : Int))) = false) →
 ((((decide ((9 : Int) < x1)) = true) →
  (Q (.tv [] .bool y0) [])) ∧
 (((decide ((9 : Int) < x1)) = false) →
 (Need (((0 : Int) ≤ (0 : Int)) ∧ (((0 : Int) ≤ x1) ∧ (x1 ≤ (9 : Int)))) ∧
 (∃ y7 : (List Int),
 (Need (E 15 [(.tv [] .str x0)] [] (.tv [] .str y7) []) ∧
 (Need (((List.length (cut [(32 : Int), (32 : Int), (32 : Int), (32 : Int), (32 : Int), (32 : Int), (32 : Int), (32 : Int), (32 : Int)] 0 (Int.toNat x1))) + (List.length y7)) ≤ bigN) ∧
 (∃ y8 : (List (Prod Int (Prod (List Int) (Prod (Prod Int (Prod Int PUnit)) PUnit)))),
 (∃ y9 : Int,
 (∃ y10 : Int,
 (∃ y11 : Int,
 (Need (E 11 [(.tv [] .str ((cut [(32 : Int), (32 : Int), (32 : Int), (32 : Int), (32 : Int), (32 : Int), (32 : Int), (32 : Int), (32 : Int)] 0 (Int.toNat x1)) ++ y7))] [] (.tup [(.tv [] (.slice (.pair (.int .i64) (.pair .str (.pair (.pair (.int .i64) (.pair (.int .i64) .unit)) .unit)))) y8), (.tv [] (.pair (.int .i64) (.pair (.pair (.int .i64) (.pair (.int .i64) .unit)) .unit)) (y9, ((y10, (y11, ())), ())))]) []) ∧
 (Need (((-9223372036854775808 : Int) ≤ (x1 + (1 : Int))) ∧ ((x1 + (1 : Int)) ≤ (9223372036854775807 : Int))) ∧
 ((((decide (x0 = [])) = true) →
  (((y0 = true) →
   ((((decide (((List.length y8) : Int) = (0 : Int))) = true) →
    (Q (.tv [] .bool ((decide (y9 = (10 : Int))) && (((decide (y10 = (1 : Int))) && ((decide (y11 = (x1 + (1 : Int)))) && true)) && true))) [])) ∧
   (((decide (((List.length y8) : Int) = (0 : Int))) = false) →
   (Q (.tv [] .bool false) [])))) ∧
  ((y0 = false) →
  (Q (.tv [] .bool false) [])))) ∧
 (((decide (x0 = [])) = false) →
 ((((decide ((32 : Int) < ((List.length x0) : Int))) = true) →
  (((y0 = true) →
   ((((decide (((List.length y8) : Int) = (0 : Int))) = true) →
    (Q (.tv [] .bool ((decide (y9 = (12 : Int))) && (((decide (y10 = (1 : Int))) && ((decide (y11 = (x1 + (1 : Int)))) && true)) && true))) [])) ∧
   (((decide (((List.length y8) : Int) = (0 : Int))) = false) →
   (Q (.tv [] .bool false) [])))) ∧
  ((y0 = false) →
  (Q (.tv [] .bool false) [])))) ∧
 (((decide ((32 : Int) < ((List.length x0) : Int))) = false) →
 (((y0 = true) →
  ((((decide (y9 = (0 : Int))) = true) →
   ((((decide (((List.length y8) : Int) = (2 : Int))) = true) →
    (Need (((0 : Int) ≤ (0 : Int)) ∧ ((0 : Int) < ((List.length y8) : Int))) ∧
    (Q (.tv [] .bool ((decide ((List.getD y8 0 ((0 : Int), (([] : List Int), (((0 : Int), ((0 : Int), ())), ())))).1 = (3 : Int))) && ((decide ((List.getD y8 0 ((0 : Int), (([] : List Int), (((0 : Int), ((0 : Int), ())), ())))).2.1 = x0)) && (((decide ((List.getD y8 0 ((0 : Int), (([] : List Int), (((0 : Int), ((0 : Int), ())), ())))).2.2.1.1 = (1 : Int))) && ((decide ((List.getD y8 0 ((0 : Int), (([] : List Int), (((0 : Int), ((0 : Int), ())), ())))).2.2.1.2.1 = (x1 + (1 : Int)))) && true)) && true)))) []))) ∧
   (((decide (((List.length y8) : Int) = (2 : Int))) = false) →
   (Q (.tv [] .bool false) [])))) ∧
  (((decide (y9 = (0 : Int))) = false) →
  (Q (.tv [] .bool false) [])))) ∧
 ((y0 = false) →
 (Q (.tv [] .bool false) [])))))))))))))))))))))))))) : EvF PP orc 6 [.tv [] .str x0, .tv [] (.int .i64) x1] [] Q := vcF_ok (sg := sg) (Eq.mp (by kernel_rfl) h)
/-- tronage/tronagelaw05.quoted -/
theorem vc15 (x0 : List Int) (Q : AV → Heap → Prop) (h :
(∃ y0 : ((List Int) → (Int → Prop)),
 (∃ y1 : ((List Int) → (Int → Nat)),
 ((y0 (List.map (fun v2 => ((BitVec.toNat (UInt8.toBitVec v2)) : Int)) []) (0 : Int)) ∧
 (∀ z3 : (List Int),
 (∀ z4 : Int,
 ((y0 z3 z4) →
 ((((decide (z4 < ((List.length x0) : Int))) = true) →
  (Need (((0 : Int) ≤ z4) ∧ (z4 < ((List.length x0) : Int))) ∧
  ((((decide ((List.getD x0 (Int.toNat z4) (0 : Int)) = (10 : Int))) = true) →
   (Need (((List.length z3) + 2) ≤ bigN) ∧
   (Need (((-9223372036854775808 : Int) ≤ (z4 + (1 : Int))) ∧ ((z4 + (1 : Int)) ≤ (9223372036854775807 : Int))) ∧
   ((y0 (z3 ++ [(92 : Int), (110 : Int)]) (z4 + (1 : Int))) ∧
   Need ((y1 (z3 ++ [(92 : Int), (110 : Int)]) (z4 + (1 : Int))) < (y1 z3 z4)))))) ∧
  (((decide ((List.getD x0 (Int.toNat z4) (0 : Int)) = (10 : Int))) = false) →
  ((((decide ((List.getD x0 (Int.toNat z4) (0 : Int)) = (34 : Int))) = true) →
   (Need (((List.length z3) + 1) ≤ bigN) ∧
   (Need (((-9223372036854775808 : Int) ≤ (z4 + (1 : Int))) ∧ ((z4 + (1 : Int)) ≤ (9223372036854775807 : Int))) ∧
   (Need (((0 : Int) ≤ z4) ∧ ((z4 ≤ (z4 + (1 : Int))) ∧ ((z4 + (1 : Int)) ≤ ((List.length x0) : Int)))) ∧
   (Need (((List.length (z3 ++ [(92 : Int)])) + (List.length (cut x0 (Int.toNat z4) (Int.toNat (z4 + (1 : Int)))))) ≤ bigN) ∧
   (Need (((-9223372036854775808 : Int) ≤ (z4 + (1 : Int))) ∧ ((z4 + (1 : Int)) ≤ (9223372036854775807 : Int))) ∧
   ((y0 ((z3 ++ [(92 : Int)]) ++ (cut x0 (Int.toNat z4) (Int.toNat (z4 + (1 : Int))))) (z4 + (1 : Int))) ∧
   Need ((y1 ((z3 ++ [(92 : Int)]) ++ (cut x0 (Int.toNat z4) (Int.toNat (z4 + (1 : Int))))) (z4 + (1 : Int))) < (y1 z3 z4))))))))) ∧
  (((decide ((List.getD x0 (Int.toNat z4) (0 : Int)) = (34 : Int))) = false) →
  ((((decide ((List.getD x0 (Int.toNat z4) (0 : Int)) = (92 : Int))) = true) →
   (Need (((List.length z3) + 1) ≤ bigN) ∧
   (Need (((-9223372036854775808 : Int) ≤ (z4 + (1 : Int))) ∧ ((z4 + (1 : Int)) ≤ (9223372036854775807 : Int))) ∧
   (Need (((0 : Int) ≤ z4) ∧ ((z4 ≤ (z4 + (1 : Int))) ∧ ((z4 + (1 : Int)) ≤ ((List.length x0) : Int)))) ∧
   (Need (((List.length (z3 ++ [(92 : Int)])) + (List.length (cut x0 (Int.toNat z4) (Int.toNat (z4 + (1 : Int)))))) ≤ bigN) ∧
   (Need (((-9223372036854775808 : Int) ≤ (z4 + (1 : Int))) ∧ ((z4 + (1 : Int)) ≤ (9223372036854775807 : Int))) ∧
   ((y0 ((z3 ++ [(92 : Int)]) ++ (cut x0 (Int.toNat z4) (Int.toNat (z4 + (1 : Int))))) (z4 + (1 : Int))) ∧
   Need ((y1 ((z3 ++ [(92 : Int)]) ++ (cut x0 (Int.toNat z4) (Int.toNat (z4 + (1 : Int))))) (z4 + (1 : Int))) < (y1 z3 z4))))))))) ∧
  (((decide ((List.getD x0 (Int.toNat z4) (0 : Int)) = (92 : Int))) = false) →
  (Need (((-9223372036854775808 : Int) ≤ (z4 + (1 : Int))) ∧ ((z4 + (1 : Int)) ≤ (9223372036854775807 : Int))) ∧
  (Need (((0 : Int) ≤ z4) ∧ ((z4 ≤ (z4 + (1 : Int))) ∧ ((z4 + (1 : Int)) ≤ ((List.length x0) : Int)))) ∧
  (Need (((List.length z3) + (List.length (cut x0 (Int.toNat z4) (Int.toNat (z4 + (1 : Int)))))) ≤ bigN) ∧
  (Need (((-9223372036854775808 : Int) ≤ (z4 + (1 : Int))) ∧ ((z4 + (1 : Int)) ≤ (9223372036854775807 : Int))) ∧
  ((y0 (z3 ++ (cut x0 (Int.toNat z4) (Int.toNat (z4 + (1 : Int))))) (z4 + (1 : Int))) ∧
  Need ((y1 (z3 ++ (cut x0 (Int.toNat z4) (Int.toNat (z4 + (1 : Int))))) (z4 + (1 : Int))) < (y1 z3 z4))))))))))))))) ∧
 (((decide (z4 < ((List.length x0) : Int))) = false) →
 (Need ((1 + (List.length z3)) ≤ bigN) ∧
 (Need (((List.length ([(34 : Int)] ++ z3)) + 1) ≤ bigN) ∧
 (Q (.tv [] .str (([(34 : Int)] ++ z3) ++ [(34 : Int)])) [])))))))))))) : EvF PP orc 15 [.tv [] .str x0] [] Q := vcF_ok (sg := sg) (Eq.mp (by kernel_rfl) h)
end Go.Am.L
